import Derived.Test.YthlkpgdfifnagaaGreatEs
set_option maxRecDepth 100000
set_option maxHeartbeats 1000000
namespace Go.Proofs.YthlkpgdfifnagaaGreat
open Go Go.RowKit Tryz
noncomputable section
instance(x0:Int)(x1:Int):Oo prog 42 2 [(0,iq x0),(1,iq x1)] 3 [iq x0,iq x1]:=⟨fun w=>kr⟩
def Pb(p1:List Ad):Int->Option (Sum Int Unit):=fun s5=>
 if s5<(p1.length:Int) then none
 else (some (.inr ()))
def Nb(p1:List Ad):Int->Option (Sum Int Unit):=fun s0=>
 if s0<(p1.length:Int) then none
 else (some (.inr ()))
def Ht(p0:List Ae)(p1:List Ad):Option Int :=
 jn (fun (s2:Unit)=>
 jn (fun (s8:Unit)=>
 some 0)
 (fun j8=>bnd (lfix (Nb p1) 0) fun t0=>
 j8 t0))
 (fun j2=>bnd (lfix (Pb p1) 0) fun t5=>
 j2 t5)
def Tn(p0:List Ae)(p1:List Ad):Option Int :=
 bnd (Ko p0) fun r1=>
 if r1=0 then (bnd (Ht p0 p1) fun r7=>
 some r7)
 else (some r1)
def Vc(p1:List Ad)(p0:List Ae)(p2:Int)(p3:Int):Unit->Option (Sum Unit Unit):=fun s0=>
 if 0<(p1.length:Int) then (bnd (idx p1 0) fun x0=>
 bnd (idx p0 p2) fun x1=>
 bnd (idx p0 p3) fun x2=>
 bnd (idx p0 x0.a0) fun x3=>
 bnd (idx p0 x0.a1) fun x4=>
 bnd (At x1) fun r0=>
 bnd (At x2) fun r1=>
 bnd (At x3) fun r2=>
 bnd (At x4) fun r3=>
 none)
 else (some (.inr ()))
def Nh(p0:List Ae)(p1:List Ad)(p2:Int)(p3:Int):Option Bool :=
 jn (fun (s2:Unit)=>
 some true)
 (fun j2=>bnd (lfix (Vc p1 p0 p2 p3) ()) fun t0=>
 j2 t0)
def Lx(s0:LI)(x0:Int):(Bool×Int)->Option (Sum (Bool×Int) Bool):=fun s1=>
 if s1.2<(s0.length:Int) then (jn (fun (s2:Bool)=>
 some (.inl (s2,w64 (s1.2+1))))
 (fun j0=>bnd (idx s0 s1.2) fun x1=>
 if s1.1=true then (j0 true)
 else (j0 (decide (x1=x0)))))
 else (some (.inr s1.1))
def Ly(p3:LI)(p0:List Ae)(p1:Int)(s0:LI):(Int×Int)->Option (Sum (Int×Int) Int):=fun s1=>
 if s1.2<(p3.length:Int) then (jn (fun (s2:Int)=>
 some (.inl (s2,w64 (s1.2+1))))
 (fun j0=>bnd (idx p3 s1.2) fun x0=>
 jn (fun (s3:Bool)=>
 jn (fun (s4:Bool)=>
 if s4=true then (j0 x0)
 else (j0 s1.1))
 (fun j1=>if s3=true then (j1 false)
 else (if s1.1<0 then (j1 true)
 else (bnd (idx p0 p1) fun x1=>
 bnd (idx p0 x0) fun x2=>
 bnd (idx p0 s1.1) fun x3=>
 bnd (At x1) fun r0=>
 bnd (At x2) fun r1=>
 bnd (At x3) fun r2=>
 bnd (Du r0 r1 r2) fun r3=>
 j1 (decide (0<r3))))))
 (fun j2=>bnd (lfix (Lx s0 x0) (false,0)) fun t0=>
 j2 t0)))
 else (some (.inr s1.1))
def Qq(p3:LI)(p0:List Ae)(p1:Int):LI->Option (Sum LI LI):=fun s0=>
 if (s0.length:Int)<(w64 ((p3.length:Int)+2)) then (jn (fun (s1:Int)=>
 gd ((s0.length+1)*8<=140737488355328)<|
 some (.inl (s0++[s1])))
 (fun j0=>bnd (lfix (Ly p3 p0 p1 s0) (-1,0)) fun t0=>
 j0 t0))
 else (some (.inr s0))
def Rh(p0:List Ae)(p1:Int)(p2:Int)(p3:LI):Option LI:=
 jn (fun (s3:LI)=>
 some s3)
 (fun j3=>bnd (lfix (Qq p3 p0 p1) ([p1,p2])) fun t0=>
 j3 t0)
def Kb(s0:LI)(p0:List Ae):(Int×Int)->Option (Sum (Int×Int) Int):=fun s1=>
 if s1.2<(s0.length:Int) then (jn (fun (s2:Int)=>
 some (.inl (s2,w64 (s1.2+1))))
 (fun j0=>bnd (idx s0 s1.2) fun x0=>
 bnd (idx p0 x0) fun x1=>
 bnd (idx s0 s1.1) fun x2=>
 bnd (idx p0 x2) fun x3=>
 bnd (At x1) fun r0=>
 bnd (At x3) fun r1=>
 bnd (Jq r0 r1) fun r2=>
 if r2=true then (j0 s1.2)
 else (j0 s1.1)))
 else (some (.inr s1.1))
def Ja(s0:LI)(s1:Int):(LI×Int)->Option (Sum (LI×Int) LI):=fun s2=>
 if s2.2<(s0.length:Int) then (jn (fun (s3:LI)=>
 some (.inl (s3,w64 (s2.2+1))))
 (fun j0=>if s2.2=s1 then (j0 s2.1)
 else (bnd (idx s0 s2.2) fun x0=>
 gd ((s2.1.length+1)*8<=140737488355328)<|
 j0 (s2.1++[x0]))))
 else (some (.inr s2.1))
def Ef(p2:Int)(p1:Int)(p0:List Ae):LI->Option (Sum LI (Sum LI Int)):=fun s0=>
 if 3<(s0.length:Int) then (jn (fun (s1:Int)=>
 gd ((s0.length:Int)≠0)<|
 bnd (idx s0 (Int.tmod (w64 ((w64 (s1+(s0.length:Int)))-1)) (s0.length:Int))) fun x0=>
 gd ((s0.length:Int)≠0)<|
 bnd (idx s0 (Int.tmod (w64 (s1+1)) (s0.length:Int))) fun x1=>
 jn (fun (s2:Bool)=>
 if s2=true then (some (.inr (.inr x0)))
 else (jn (fun (s3:Bool)=>
 if s3=true then (some (.inr (.inr x1)))
 else (jn (fun (s4:LI)=>
 some (.inl s4))
 (fun j0=>bnd (lfix (Ja s0 s1) (([]:LI),0)) fun t0=>
 j0 t0)))
 (fun j1=>bnd (idx s0 s1) fun x2=>
 if x2=p2 then (j1 (decide (x0=p1)))
 else (j1 false))))
 (fun j2=>bnd (idx s0 s1) fun x3=>
 if x3=p1 then (j2 (decide (x1=p2)))
 else (j2 false)))
 (fun j3=>bnd (lfix (Kb s0 p0) (0,0)) fun t1=>
 j3 t1))
 else (some (.inr (.inl s0)))
def Cp(s2:LI)(p1:Int)(p2:Int):Int->Option (Sum Int (Sum Unit Int)):=fun s0=>
 if s0<(s2.length:Int) then (bnd (idx s2 s0) fun x0=>
 jn (fun (s1:Bool)=>
 if s1=true then (some (.inr (.inr x0)))
 else (some (.inl (w64 (s0+1)))))
 (fun j0=>if x0=p1 then (j0 false)
 else (j0 (!(decide (x0=p2))))))
 else (some (.inr (.inl ())))
def Pw(p0:List Ae)(p1:Int)(p2:Int)(p3:LI):Option Int :=
 jn (fun (s2:LI)=>
 jn (fun (s0:Unit)=>
 some (-1))
 (fun j0=>bnd (lfix (Cp s2 p1 p2) 0) fun t0=>
 (match t0 with
 |(.inl z0)=>j0 z0
 |(.inr z0)=>some z0
 )))
 (fun j2=>bnd (lfix (Ef p2 p1 p0) p3) fun t1=>
 (match t1 with
 |(.inl z1)=>j2 z1
 |(.inr z1)=>some z1
 ))
def Lz(p0:List Ae)(p2:Int)(p3:Int)(p1:List Ad):(LI×Int)->Option (Sum (LI×Int) LI):=fun s0=>
 if s0.2<(p0.length:Int) then (jn (fun (s1:LI)=>
 some (.inl (s1,w64 (s0.2+1))))
 (fun j0=>jn (fun (s2:Bool)=>
 if s2=true then (j0 s0.1)
 else (if (s0.1.length:Int)=0 then (j0 ([s0.2]))
 else (bnd (idx p0 p2) fun x0=>
 bnd (idx p0 p3) fun x1=>
 bnd (idx s0.1 0) fun x2=>
 bnd (idx p0 x2) fun x3=>
 bnd (idx p0 s0.2) fun x4=>
 bnd (At x0) fun r0=>
 bnd (At x1) fun r1=>
 bnd (At x3) fun r2=>
 bnd (At x4) fun r3=>
 bnd (Ot r0 r1 r2 r3) fun r4=>
 if r4=1 then (j0 ([s0.2]))
 else (if r4=0 then (gd ((s0.1.length+1)*8<=140737488355328)<|
 j0 (s0.1++[s0.2]))
 else (j0 s0.1)))))
 (fun j1=>bnd (idx p0 p2) fun x5=>
 bnd (idx p0 p3) fun x6=>
 bnd (idx p0 s0.2) fun x7=>
 bnd (At x5) fun r5=>
 bnd (At x6) fun r6=>
 bnd (At x7) fun r7=>
 bnd (Du r5 r6 r7) fun r8=>
 if r8<=0 then (j1 true)
 else (bnd (Nh p0 p1 p2 s0.2) fun r9=>
 if r9=true then (bnd (Nh p0 p1 p3 s0.2) fun r10=>
 j1 (!(r10)))
 else (j1 true)))))
 else (some (.inr s0.1))
def Ri(p0:List Ae)(p1:List Ad)(p2:Int)(p3:Int):Option Int :=
 jn (fun (s3:LI)=>
 if (s3.length:Int)=0 then (some (-1))
 else (bnd (Rh p0 p2 p3 s3) fun r0=>
 bnd (Pw p0 p2 p3 r0) fun r1=>
 some r1))
 (fun j3=>bnd (lfix (Lz p0 p2 p3 p1) (([]:LI),0)) fun t0=>
 j3 t0)
instance(p0:List Ae)(p1:List Ad):Con (Ht p0 p1) prog 194 (fun K vs=>∃U0 E0 U1 E1,vs=[.slice U0 p0.length E0,.slice U1 p1.length E1]/\Has K U0 p0.length E0 4 Am p0/\Has K U1 p1.length E1 2 Ar p1/\True) (fun _ r v Ln=>v=iq r/\Ln=[]/\True):=⟨by
 rintro K _ r ⟨U0,E0,U1,E1,rfl,ha0,ha1,-⟩ hx w hK;replace ha0:=ha0.lo hK;replace ha1:=ha1.lo hK;unfold Ht at hx;refine CtS ntmps194 results194 ?_;refine pq ?_;intros;rename_i hx
 refine pA ?_;intros;rename_i hx
 apply Jr (γ:=Unit) hx [0,1] (fun s2 y2 f=>f) [999] (fun s2 y2 l=>l);exact kk
 .intro s2 y2 hx;apply Jr (γ:=Unit) hx [] (fun s8 y8 f=>f) [999] (fun s8 y8 l=>l);exact kk
  .exact aI
  .refine pI ?_;intros;rename_i hx
   apply Lr (γ:=Unit) hx [0,1,106] (fun s0 y0 f=>(107,iq s0)::f) [999] (fun s0 y0 l=>l) ();exact kk;exact sk;intro s0 y0 x0 hx _;unfold Nb at hx;exact au
 .refine pI ?_;intros;rename_i hx
  apply Lr (γ:=Unit) hx [0,1,13] (fun s5 y5 f=>(14,iq s5)::f) [999] (fun s5 y5 l=>l) ();exact kk;exact sk;intro s5 y5 x5 hx _;unfold Pb at hx;exact au⟩
instance(p0:List Ae)(p1:List Ad):Con (Tn p0 p1) prog 136 (fun K vs=>∃U0 E0 U1 E1,vs=[.slice U0 p0.length E0,.slice U1 p1.length E1]/\Has K U0 p0.length E0 4 Am p0/\Has K U1 p1.length E1 2 Ar p1/\True) (fun _ r v Ln=>v=iq r/\Ln=[]/\True):=⟨by
 rintro K _ r ⟨U0,E0,U1,E1,rfl,ha0,ha1,-⟩ hx w hK;replace ha0:=ha0.lo hK;replace ha1:=ha1.lo hK;unfold Tn at hx;refine CtS ntmps136 results136 ?_;exact au⟩
instance(p0:List Ae)(p1:List Ad)(p2:Int)(p3:Int):Con (Nh p0 p1 p2 p3) prog 245 (fun K vs=>∃U0 E0 U1 E1,vs=[.slice U0 p0.length E0,.slice U1 p1.length E1,iq p2,iq p3]/\Has K U0 p0.length E0 4 Am p0/\Has K U1 p1.length E1 2 Ar p1/\True) (fun _ r v Ln=>v=.bool r/\Ln=[]/\True):=⟨by
 rintro K _ r ⟨U0,E0,U1,E1,rfl,ha0,ha1,-⟩ hx w hK;replace ha0:=ha0.lo hK;replace ha1:=ha1.lo hK;unfold Nh at hx;have:=dl 4 [0,0,0,1,2,0,0,0,1,2,0,0,1,0,1,2,0,0,1,0,1,2,2] [0,1,2,3,5,6,7,8,10,11,12,13,14,16,17,18,19,20,4,9,15,21,22];refine CtS ntmps245 results245 ?_;refine pq ?_;intros;rename_i hx
 refine pA ?_;intros;rename_i hx
 apply Jr (γ:=Unit) hx [] (fun s2 y2 f=>f) [999] (fun s2 y2 l=>l);exact kk
 .exact aI
 .refine pI ?_;intros;rename_i hx
  apply Lr (γ:=Unit) hx [0,2,3,11,12,13] (fun s0 y0 f=>f) [999] (fun s0 y0 l=>l) ();exact kk;exact sk;intro s0 y0 x0 hx _;unfold Vc at hx;exact au⟩
instance(p0:List Ae)(p1:Int)(p2:Int)(p3:LI):Con (Rh p0 p1 p2 p3) prog 248 (fun K vs=>∃U0 E0 U1 E1,vs=[.slice U0 p0.length E0,iq p1,iq p2,.slice U1 p3.length E1]/\Has K U0 p0.length E0 4 Am p0/\Has K U1 p3.length E1 1 Ak p3/\True) (fun _ r v Ln=>∃A0 c0,v=.slice A0 r.length c0/\Ln=[.r A0 r.length c0 3 1 (r.flatMap Ak)]/\True):=⟨by
 rintro K _ r ⟨U0,E0,U1,E1,rfl,ha0,ha1,-⟩ hx w hK;replace ha0:=ha0.lo hK;replace ha1:=ha1.lo hK;unfold Rh at hx;have:=dl 13 [0,0,0,0,0,0,0,0,0,1,2,0,0,0,1,2,0,0,0,1,2,2,0,0,0] [0,1,2,3,4,5,6,7,8,9,11,12,13,14,16,17,18,19,10,15,20,21,22,23,24];refine CtS ntmps248 results248 ?_;refine pq ?_;intros;rename_i hx
 refine pA ?_;intros;rename_i hx
 refine pA ?_;intros;rename_i hx
 apply Jr (γ:=OA×Nat) hx [] (fun s3 y3 f=>(9,.slice y3.1 s3.length y3.2)::f) [999] (fun s3 y3 l=>.r y3.1 s3.length y3.2 3 1 (s3.flatMap Ak)::l);exact kk
 .exact aI
 .refine pI ?_;intros;rename_i hx
  (with_reducible apply Af3 18 (sz:=1));exact rfl;exact aT;exact iI;exact dL;exact (fun _=>rfl);exact rfl;exact rfl;exact sA
  refine pq ?_;intros;rename_i hx
  apply Lr (γ:=OA×Nat) hx [0,1,3] (fun s0 y0 f=>(9,.slice y0.1 s0.length y0.2)::f) [999] (fun s0 y0 l=>.r y0.1 s0.length y0.2 3 1 (s0.flatMap Ak)::l) (_,_);exact kk;exact sk;intro s0 y0 x0 hx _;unfold Qq at hx;refine pq ?_;intros;rename_i hx
  refine Cq1 (s:=24) hx rfl ?_ ?_
  .refine pI ?_;intros;rename_i hx
   refine pA ?_;intros;rename_i hx
   apply Jr (γ:=Unit) hx [0,1,3,9] (fun s1 y1 f=>(10,iq s1)::f) [0,999] (fun s1 y1 l=>l);exact kk
   .exact aI
   .refine pI ?_;intros;rename_i hx
    apply Lr (γ:=Unit) hx [0,1,3,9,25,26] (fun s2 y2 f=>(10,iq s2.1)::(27,iq s2.2)::f) [0,999] (fun s2 y2 l=>l) ();exact kk;exact sk;intro s2 y2 x1 hx _;unfold Ly at hx;refine pq ?_;intros;rename_i hx
    refine Cq1 (s:=28) hx rfl ?_ ?_
    .refine pI ?_;intros;rename_i hx
     apply Jr (γ:=Unit) hx [0,1,3,9,25,26,27] (fun s4 y4 f=>(10,iq s4)::f) [0,999] (fun s4 y4 l=>l);exact kk
     .exact aI
     .refine pI ?_;intros;rename_i hx
      refine pA ?_;intros;rename_i hx
      apply Jr (γ:=Unit) hx [0,1,3,9,10,12,25,26,27] (fun s5 y5 f=>(13,.bool s5)::f) [0,999] (fun s5 y5 l=>l);exact kk
      .intro s5 y5 hx;apply Jr (γ:=Unit) hx [0,1,3,9,10,12,25,26,27] (fun s6 y6 f=>(68,.bool s6)::f) [0,999] (fun s6 y6 l=>l);exact kk
       .exact aI
       .exact aI
      .refine pI ?_;intros;rename_i hx
       apply Lr (γ:=Unit) hx [0,1,3,9,10,12,25,26,27,31,32] (fun s7 y7 f=>(13,.bool s7.1)::(33,iq s7.2)::f) [0,999] (fun s7 y7 l=>l) ();exact kk;exact sk;intro s7 y7 x2 hx _;unfold Lx at hx;exact au
    .exact aI
  .exact aI⟩
instance(p0:List Ae)(p1:Int)(p2:Int)(p3:LI):Con (Pw p0 p1 p2 p3) prog 247 (fun K vs=>∃U0 E0 U1 E1,vs=[.slice U0 p0.length E0,iq p1,iq p2,.slice U1 p3.length E1]/\Has K U0 p0.length E0 4 Am p0/\Has K U1 p3.length E1 1 Ak p3/\True) (fun _ r v Ln=>v=iq r/\Ln=[]/\True):=⟨by
 rintro K _ r ⟨U0,E0,U1,E1,rfl,ha0,ha1,-⟩ hx w hK;replace ha0:=ha0.lo hK;replace ha1:=ha1.lo hK;unfold Pw at hx;have:=dl 6 [0,0,0,0,1,0,1,2,0,0,0,0,1,0,1,2,2] [0,1,2,3,4,5,6,8,9,10,11,12,13,14,7,15,16];have:=dl 9 [0,0,0,0,0,0,0,0,0,0,1,0,0,0,0,0,0,0,1,2,2] [0,1,2,3,4,5,6,7,8,9,10,11,12,13,14,15,16,17,18,19,20];refine CtS ntmps247 results247 ?_;refine pq ?_;intros;rename_i hx
 refine pA ?_;intros;rename_i hx
 apply JrG (γ:=OA×Nat×Ent) hx [1,2] (fun s2 y2 f=>(3,.slice y2.1 s2.length y2.2.1)::f) [999] (fun s2 y2 l=>y2.2.2::l) (fun s2 y2=>Has ([.old w,y2.2.2]) y2.1 s2.length y2.2.1 1 Ak s2/\y2.2.2.low=0/\True);exact kk
 .intro s2 y2 hx hG;obtain⟨_,_,-⟩:=hG;refine pq ?_;intros;rename_i hx
  apply Jr (γ:=Unit) hx [] (fun s0 y0 f=>f) [999] (fun s0 y0 l=>l);exact kk
  .exact aI
  .refine pI ?_;intros;rename_i hx
   apply Lr (γ:=Unit) hx [1,2,104,105] (fun s1 y1 f=>(106,iq s1)::f) [0,999] (fun s1 y1 l=>l) ();exact kk;exact sk;intro s1 y1 x0 hx _;unfold Cp at hx;exact au
 .refine pI ?_;intros;rename_i hx
  refine Ba 0 1 ?_;apply LrG (γ:=OA×Nat×Ent) hx [0,1,2] (fun s3 y3 f=>(3,.slice y3.1 s3.length y3.2.1)::f) [999] (fun s3 y3 l=>y3.2.2::l) (fun s3 y3=>Has ([.old w,y3.2.2]) y3.1 s3.length y3.2.1 1 Ak s3/\y3.2.2.low=0/\True) (_,_,_);exact kk;exact sF2;exact gG2;exact pK2;intro s3 y3 x1 hx _ hG;obtain⟨_,_,-⟩:=hG;unfold Ef at hx;refine pq ?_;intros;rename_i hx
  refine Cq1 (s:=19) hx rfl ?_ ?_
  .refine pI ?_;intros;rename_i hx
   refine pA ?_;intros;rename_i hx
   apply Jr (γ:=Unit) hx [0,1,2,3] (fun s4 y4 f=>(9,iq s4)::f) [0,999] (fun s4 y4 l=>l);exact kk
   .intro s4 y4 hx;refine pq ?_;intros;rename_i hx
    refine pA ?_;intros;rename_i hx
    apply Jr (γ:=Unit) hx [0,1,2,3,9,11,12] (fun s5 y5 f=>(73,.bool s5)::f) [0,999] (fun s5 y5 l=>l);exact kk
    .intro s5 y5 hx;refine Cq3 (s:=73) hx rfl ?_ ?_
     .exact aI
     .refine pI ?_;intros;rename_i hx
      refine pA ?_;intros;rename_i hx
      apply Jr (γ:=Unit) hx [0,1,2,3,9,12] (fun s6 y6 f=>(85,.bool s6)::f) [0,999] (fun s6 y6 l=>l);exact kk
      .intro s6 y6 hx;refine Cq3 (s:=85) hx rfl ?_ ?_
       .exact aI
       .refine pI ?_;intros;rename_i hx
        refine pA ?_;intros;rename_i hx
        apply Jr (γ:=OA×Nat) hx [0,1,2] (fun s7 y7 f=>(13,.slice y7.1 s7.length y7.2)::f) [999] (fun s7 y7 l=>.r y7.1 s7.length y7.2 3 1 (s7.flatMap Ak)::l);exact kk
        .exact aI
        .refine pI ?_;intros;rename_i hx
         refine Ba 3 1 ?_;apply Lr (γ:=OA×Nat) hx [0,1,2,3,9,88] (fun s8 y8 f=>(13,.slice y8.1 s8.1.length y8.2)::(89,iq s8.2)::f) [1,999] (fun s8 y8 l=>.r y8.1 s8.1.length y8.2 3 1 (s8.1.flatMap Ak)::l) (_,_);exact kk;exact sk;intro s8 y8 x2 hx _;unfold Ja at hx;exact au
      .exact aI
    .exact aI
   .refine pI ?_;intros;rename_i hx
    apply Lr (γ:=Unit) hx [0,1,2,3,21] (fun s9 y9 f=>(9,iq s9.1)::(22,iq s9.2)::f) [0,999] (fun s9 y9 l=>l) ();exact kk;exact sk;intro s9 y9 x3 hx _;unfold Kb at hx;exact au
  .exact aI⟩
instance(p0:List Ae)(p1:List Ad)(p2:Int)(p3:Int):Con (Ri p0 p1 p2 p3) prog 199 (fun K vs=>∃U0 E0 U1 E1,vs=[.slice U0 p0.length E0,.slice U1 p1.length E1,iq p2,iq p3]/\Has K U0 p0.length E0 4 Am p0/\Has K U1 p1.length E1 2 Ar p1/\True) (fun _ r v Ln=>v=iq r/\Ln=[]/\True):=⟨by
 rintro K _ r ⟨U0,E0,U1,E1,rfl,ha0,ha1,-⟩ hx w hK;replace ha0:=ha0.lo hK;replace ha1:=ha1.lo hK;unfold Ri at hx;have:=dl 5 [0,0,0,1,2,0,0,0,1,2,0,0,0,1,2,2,0,0,0,0,0,0,2,0,0,0,0,0,0,0,2,0,0] [0,1,2,3,5,6,7,8,10,11,12,13,4,9,14,15,16,17,18,19,20,21,22,23,24,25,26,27,28,29,30,31,32];have:=dl 8 [0,0,0,1,2,0,0,0,1,2,0,0,0,1,0,1,2,0,0,0,1,2,2] [0,1,2,3,5,6,7,8,10,11,12,13,14,15,17,18,19,20,4,9,16,21,22];refine CtS ntmps199 results199 ?_;refine pq ?_;intros;rename_i hx
 refine pA ?_;intros;rename_i hx
 refine pA ?_;intros;rename_i hx
 apply Jr (γ:=OA×Nat) hx [0,2,3] (fun s3 y3 f=>(9,.slice y3.1 s3.length y3.2)::f) [999] (fun s3 y3 l=>.r y3.1 s3.length y3.2 3 1 (s3.flatMap Ak)::l);exact kk
 .exact aI
 .refine pI ?_;intros;rename_i hx
  refine Ba 3 1 ?_;apply Lr (γ:=OA×Nat) hx [0,1,2,3,12] (fun s0 y0 f=>(9,.slice y0.1 s0.1.length y0.2)::(13,iq s0.2)::f) [999] (fun s0 y0 l=>.r y0.1 s0.1.length y0.2 3 1 (s0.1.flatMap Ak)::l) (_,_);exact kk;exact sk;intro s0 y0 x0 hx _;unfold Lz at hx;refine pq ?_;intros;rename_i hx
  refine Cq1 (s:=14) hx rfl ?_ ?_
  .refine pI ?_;intros;rename_i hx
   apply Jr (γ:=OA×Nat) hx [0,1,2,3,12,13] (fun s1 y1 f=>(9,.slice y1.1 s1.length y1.2)::f) [999] (fun s1 y1 l=>.r y1.1 s1.length y1.2 3 1 (s1.flatMap Ak)::l);exact kk
   .exact aI
   .refine pI ?_;intros;rename_i hx
    refine pA ?_;intros;rename_i hx
    refine pA ?_;intros;rename_i hx
    apply Jr (γ:=Unit) hx [0,1,2,3,9,10,12,13] (fun s2 y2 f=>(48,.bool s2)::f) [0,999] (fun s2 y2 l=>l);exact kk
    .intro s2 y2 hx;refine Cq3 (s:=48) hx rfl ?_ ?_
     .exact aI
     .refine pI ?_;intros;rename_i hx
      refine Cq1 (s:=51) hx rfl ?_ ?_
      .refine pI ?_;intros;rename_i hx
       (with_reducible apply Af3 9 (sz:=1));exact rfl;exact aT;exact iI;exact dL;exact (fun _=>rfl);exact rfl;exact rfl;exact sA
       exact au
      .refine pI ?_;intros;rename_i hx
       refine Cq1 (s:=77) hx rfl ?_ ?_
       .refine pI ?_;intros;rename_i hx
        (with_reducible apply Af3 9 (sz:=1));exact rfl;exact aT;exact iI;exact dL;exact (fun _=>rfl);exact rfl;exact rfl;exact sA
        exact au
       .exact aI
    .exact aI
  .exact aI⟩
instance:Ur prog 101 [iq 0,iq 0,iq 0]:=⟨⟨_,zeroValue101,rfl⟩⟩
instance(x0:Int)(x1:Int)(x2:Int)(x3:Int):Oo prog 22 1 [(0,.agg #[iq x0,iq x1,iq x2,iq x3])] 108 [iq x0,iq x1,iq x2,iq x3]:=⟨fun w=>kr⟩
def Ib(p0:Ah)(p1:Ah):Int->Option (Sum Int (Sum Unit Bool)):=fun s0=>
 if s0<3 then (bnd (idx [p0.a0,p0.a1,p0.a2] s0) fun x0=>
 bnd (idx [p1.a0,p1.a1,p1.a2] s0) fun x1=>
 if x0=x1 then (some (.inl (w64 (s0+1))))
 else (bnd (idx [p0.a0,p0.a1,p0.a2] s0) fun x2=>
 bnd (idx [p1.a0,p1.a1,p1.a2] s0) fun x3=>
 some (.inr (.inr (decide (x2<x3))))))
 else (some (.inr (.inl ())))
def Rj(p0:Ah)(p1:Ah):Option Bool :=
 jn (fun (s2:Unit)=>
 some false)
 (fun j2=>bnd (lfix (Ib p0 p1) 0) fun t0=>
 (match t0 with
 |(.inl z0)=>j2 z0
 |(.inr z0)=>some z0
 ))
def Jb  : (List Ah×Int)->Option (Sum (List Ah×Int) (List Ah)):=fun s0=>
 jn (fun (s1:Bool)=>
 if s1=true then (bnd (idx s0.1 (w64 (s0.2-1))) fun x0=>
 bnd (idx s0.1 s0.2) fun x1=>
 bnd (idx s0.1 s0.2) fun x2=>
 bnd (idx (setI s0.1 s0.2 x0) (w64 (s0.2-1))) fun x3=>
 some (.inl (setI (setI s0.1 s0.2 x0) (w64 (s0.2-1)) x1,w64 (s0.2-1))))
 else (some (.inr s0.1)))
 (fun j0=>if 0<s0.2 then (bnd (idx s0.1 s0.2) fun x4=>
 bnd (idx s0.1 (w64 (s0.2-1))) fun x5=>
 bnd (Rj x4 x5) fun r0=>
 j0 r0)
 else (j0 false))
def Jc(p0:List Ah):(List Ah×Int)->Option (Sum (List Ah×Int) (List Ah)):=fun s0=>
 if s0.2<(p0.length:Int) then (jn (fun (s1:List Ah)=>
 some (.inl (s1,w64 (s0.2+1))))
 (fun j0=>bnd (lfix Jb (s0.1,s0.2)) fun t0=>
 j0 t0))
 else (some (.inr s0.1))
def Oa(p0:List Ah):Option (List Ah):=
 jn (fun (s2:List Ah)=>
 some s2)
 (fun j2=>bnd (lfix (Jc p0) (p0,0)) fun t0=>
 j2 t0)
def Fu  : (Int×Int×Int)->Option (Sum (Int×Int×Int) (Int×Int×Int)):=fun s0=>
 jn (fun (s6:Bool)=>
 if s6=true then (some (.inl (s0.2.1,s0.2.2,s0.1)))
 else (some (.inr (s0.1,s0.2.1,s0.2.2))))
 (fun j6=>if s0.2.1<s0.1 then (j6 true)
 else (j6 (decide (s0.2.2<s0.1))))
def Ob(p0:Ah):Option Ah :=
 jn (fun (s2:Int×Int×Int)=>
 some (⟨s2.1,s2.2.1,s2.2.2⟩:Ah))
 (fun j2=>bnd (lfix Fu (p0.a0,p0.a1,p0.a2)) fun t0=>
 j2 t0)
def Rk(p0:Ad)(p1:Ad):Option Bool :=
 jn (fun (s2:Bool)=>
 some s2)
 (fun j2=>if p0.a0<p1.a0 then (j2 true)
 else (if p0.a0=p1.a0 then (j2 (decide (p0.a1<p1.a1)))
 else (j2 false)))
def Hu(p0:List Ad):(List Ad×Int)->Option (Sum (List Ad×Int) (List Ad)):=fun s0=>
 if s0.2<(p0.length:Int) then (bnd (idx p0 s0.2) fun x0=>
 bnd (idx p0 s0.2) fun x1=>
 bnd (idx p0 s0.2) fun x2=>
 bnd (idx p0 s0.2) fun x3=>
 gd ((s0.1.length+1)*16<=140737488355328)<|
 some (.inl (s0.1++[(⟨min x0.a0 x1.a1,max x2.a0 x3.a1⟩:Ad)],w64 (s0.2+1))))
 else (some (.inr s0.1))
def Gp  : (List Ad×Int)->Option (Sum (List Ad×Int) (List Ad)):=fun s0=>
 jn (fun (s1:Bool)=>
 if s1=true then (bnd (idx s0.1 (w64 (s0.2-1))) fun x0=>
 bnd (idx s0.1 s0.2) fun x1=>
 bnd (idx s0.1 s0.2) fun x2=>
 bnd (idx (setI s0.1 s0.2 x0) (w64 (s0.2-1))) fun x3=>
 some (.inl (setI (setI s0.1 s0.2 x0) (w64 (s0.2-1)) x1,w64 (s0.2-1))))
 else (some (.inr s0.1)))
 (fun j0=>if 0<s0.2 then (bnd (idx s0.1 s0.2) fun x4=>
 bnd (idx s0.1 (w64 (s0.2-1))) fun x5=>
 bnd (Rk x4 x5) fun r0=>
 j0 r0)
 else (j0 false))
def Er(s3:List Ad):(List Ad×Int)->Option (Sum (List Ad×Int) (List Ad)):=fun s0=>
 if s0.2<(s3.length:Int) then (jn (fun (s1:List Ad)=>
 some (.inl (s1,w64 (s0.2+1))))
 (fun j0=>bnd (lfix Gp (s0.1,s0.2)) fun t0=>
 j0 t0))
 else (some (.inr s0.1))
def Dm(p0:List Ad):Option (List Ad):=
 jn (fun (s3:List Ad)=>
 jn (fun (s0:List Ad)=>
 some s0)
 (fun j0=>bnd (lfix (Er s3) (s3,0)) fun t0=>
 j0 t0))
 (fun j3=>bnd (lfix (Hu p0) (([]:List Ad),0)) fun t1=>
 j3 t1)
def Cj(r0:Ah)(s0:List Ad×(List (Ad×Bool))×List Ah):(List Ad×(List (Ad×Bool))×Int)->Option (Sum (List Ad×(List (Ad×Bool))×Int) (List Ad×(List (Ad×Bool))×List Ah)):=fun s1=>
 if s1.2.2<3 then (bnd (idx [r0.a0,r0.a1,r0.a2] s1.2.2) fun x0=>
 bnd (idx [r0.a0,r0.a1,r0.a2] (Int.tmod (w64 (s1.2.2+1)) 3)) fun x1=>
 gd ((-9223372036854775808<=x0/\x0<=9223372036854775807)/\(-9223372036854775808<=x1/\x1<=9223372036854775807))<|
 gd (s1.2.1.length<9223372036854775807)<|
 gd ((s1.1.length+1)*16<=140737488355328)<|
 some (.inl (s1.1++[(⟨x1,x0⟩:Ad)],mput s1.2.1 ((⟨x0,x1⟩:Ad)) true,w64 (s1.2.2+1))))
 else (some (.inr (s1.1,s1.2.1,s0.2.2++[r0])))
def Fv(p0:List Ae)(p1:List Ad):(List Ad×(List (Ad×Bool))×List Ah)->Option (Sum (List Ad×(List (Ad×Bool))×List Ah) (List Ah)):=fun s0=>
 if 0<(s0.1.length:Int) then (bnd (idx s0.1 (w64 ((s0.1.length:Int)-1))) fun x0=>
 gd (0<=(w64 ((s0.1.length:Int)-1))/\(w64 ((s0.1.length:Int)-1))<=(s0.1.length:Int))<|
 gd ((-9223372036854775808<=x0.a0/\x0.a0<=9223372036854775807)/\(-9223372036854775808<=x0.a1/\x0.a1<=9223372036854775807))<|
 bnd (some ((mget s0.2.1 x0).getD false)) fun x1=>
 if x1=true then (some (.inl (List.take (Int.toNat (w64 ((s0.1.length:Int)-1))) s0.1,s0.2.1,s0.2.2)))
 else (bnd (Ri p0 p1 x0.a0 x0.a1) fun r0=>
 if r0<0 then (gd ((-9223372036854775808<=x0.a0/\x0.a0<=9223372036854775807)/\(-9223372036854775808<=x0.a1/\x0.a1<=9223372036854775807))<|
 gd (s0.2.1.length<9223372036854775807)<|
 some (.inl (List.take (Int.toNat (w64 ((s0.1.length:Int)-1))) s0.1,mput s0.2.1 x0 true,s0.2.2)))
 else (bnd (Ob (⟨x0.a0,x0.a1,r0⟩:Ah)) fun r1=>
 gd ((s0.2.2.length+1)*24<=140737488355328)<|
 bnd (lfix (Cj r1 s0) (List.take (Int.toNat (w64 ((s0.1.length:Int)-1))) s0.1,s0.2.1,0)) fun t0=>
 some (.inl t0))))
 else (some (.inr s0.2.2))
def Jd(p0:List Ae)(p1:List Ad):Option (List Ah):=
 jn (fun (s3:Bool)=>
 if s3=true then (some ([]:List Ah))
 else (bnd (Qk p0) fun r0=>
 bnd (Rv p0 r0 false) fun r1=>
 jn (fun (s9:List Ah)=>
 bnd (Oa s9) fun r2=>
 some r2)
 (fun j9=>bnd (lfix (Fv p0 p1) ([(⟨r0,r1⟩:Ad)],([]:List (Ad×Bool)),([]:List Ah))) fun t0=>
 j9 t0)))
 (fun j3=>if (p0.length:Int)<3 then (j3 true)
 else (bnd (Rw p0) fun r4=>
 j3 r4))
def Kc(p0:List Ae):(List Ae×Int)->Option (Sum (List Ae×Int) (List Ae)):=fun s0=>
 if s0.2<(p0.length:Int) then (bnd (idx p0 s0.2) fun x0=>
 gd ((s0.1.length+1)*32<=140737488355328)<|
 some (.inl (s0.1++[x0],w64 (s0.2+1))))
 else (some (.inr s0.1))
def Ld(p0:List Ae)(p1:List Ad):Option (Al×Int):=
 bnd (Tn p0 p1) fun r2=>
 if r2=0 then (jn (fun (s7:List Ae)=>
 bnd (Dm p1) fun r0=>
 bnd (Jd p0 r0) fun r1=>
 some ((⟨s7,r1,r0⟩:Al),0))
 (fun j7=>bnd (lfix (Kc p0) (([]:List Ae),0)) fun t0=>
 j7 t0))
 else (some ((⟨([]:List Ae),([]:List Ah),([]:List Ad)⟩:Al),r2))
instance(p0:Ah)(p1:Ah):Con (Rj p0 p1) prog 249 (fun _ vs=>vs=[.agg #[iq p0.a0,iq p0.a1,iq p0.a2],.agg #[iq p1.a0,iq p1.a1,iq p1.a2]]) (fun _ r v Ln=>v=.bool r/\Ln=[]/\True):=⟨by
 rintro _ _ r rfl hx w hK;unfold Rj at hx;have:=dl 4 [0,0,1,0,0,1,0] [0,1,2,3,4,5,6];have:=dl 5 [0,0,1,0,0,1,0,2] [0,1,2,3,4,5,6,7];refine CtS ntmps249 results249 ?_;refine pq ?_;intros;rename_i hx
 refine pA ?_;intros;rename_i hx
 apply Jr (γ:=Unit) hx [] (fun s2 y2 f=>f) [999] (fun s2 y2 l=>l);exact kk
 .exact aI
 .refine pI ?_;intros;rename_i hx
  apply Lr (γ:=Unit) hx [2,3] (fun s0 y0 f=>(6,iq s0)::f) [0,1,999] (fun s0 y0 l=>l) ();exact kk;exact sk;intro s0 y0 x0 hx _;unfold Ib at hx;exact au⟩
instance(p0:List Ah):ConK (Oa p0) prog 201 (fun ug0 ug1 ug2 B0_0 d0_0 ua0 uc0 vs Lp=>vs=[.slice B0_0 p0.length d0_0]/\Lp=[.r B0_0 p0.length d0_0 101 3 (p0.flatMap Az)]/\ug0=0/\ug1=0/\ug2=0/\ua0=none/\uc0=0/\True) (fun B0_0 d0_0 ua0 uc0 K K2=>True) (fun ug0 ug1 ug2 B0_0 d0_0 ua0 uc0 K r v Ln=>∃A0 c0,v=.slice A0 r.length c0/\Ln=[.r A0 r.length c0 101 3 (r.flatMap Az)]/\True):=⟨by
 rintro _ _ _ B0_0 d0_0 _ _ K K2 _ _ r ⟨rfl,rfl,rfl,rfl,rfl,rfl,rfl,-⟩ ⟨-⟩ hx;unfold Oa at hx;have:=dl 5 [0,0,0,0,0,0,1,0,0,0,0,1,2,0] [0,1,2,3,4,5,6,7,8,9,10,11,12,13];have:=dl 7 [0,0,0,0,0,0,0,0,0,1,0,0,0,1,0,3,0,3] [0,1,2,3,4,5,6,7,8,9,10,11,12,13,14,15,16,17];refine CtSK ntmps201 results201 ?_;intro Lf hKf;have hKg:=hKf.r;replace hKf:=hKf.l;refine Aah ?_;refine pq ?_;intros;rename_i hx
 refine pA ?_;intros;rename_i hx
 apply Jr (γ:=OA×Nat) hx [] (fun s2 y2 f=>(0,.slice y2.1 s2.length y2.2)::f) [1001] (fun s2 y2 l=>.r y2.1 s2.length y2.2 101 3 (s2.flatMap Az)::l);exact kk
 .exact aI
 .refine pI ?_;intros;rename_i hx
  apply Lr (γ:=OA×Nat) hx [6] (fun s0 y0 f=>(0,.slice y0.1 s0.1.length y0.2)::(7,iq s0.2)::f) [1001] (fun s0 y0 l=>.r y0.1 s0.1.length y0.2 101 3 (s0.1.flatMap Az)::l) (_,_);exact kk;exact sk;intro s0 y0 x0 hx _;unfold Jc at hx;refine pq ?_;intros;rename_i hx
  refine Cq1 (s:=8) hx rfl ?_ ?_
  .refine pI ?_;intros;rename_i hx
   apply Jr (γ:=OA×Nat) hx [6,7] (fun s1 y1 f=>(0,.slice y1.1 s1.length y1.2)::f) [1001] (fun s1 y1 l=>.r y1.1 s1.length y1.2 101 3 (s1.flatMap Az)::l);exact kk
   .exact aI
   .refine pI ?_;intros;rename_i hx
    apply Lr (γ:=OA×Nat) hx [6,7] (fun s3 y3 f=>(0,.slice y3.1 s3.1.length y3.2)::(4,iq s3.2)::f) [1001] (fun s3 y3 l=>.r y3.1 s3.1.length y3.2 101 3 (s3.1.flatMap Az)::l) (_,_);exact kk;exact sk;intro s3 y3 x1 hx _;unfold Jb at hx;refine pq ?_;intros;rename_i hx
    refine pA ?_;intros;rename_i hx
    apply Jr (γ:=Unit) hx [0,4,6,7] (fun s4 y4 f=>(24,.bool s4)::f) [0,1001] (fun s4 y4 l=>l);exact kk
    .exact aI
    .exact aI
  .exact aI⟩
instance(p0:Ah):Con (Ob p0) prog 200 (fun _ vs=>vs=[.agg #[iq p0.a0,iq p0.a1,iq p0.a2]]) (fun _ r v Ln=>v=.agg #[iq r.a0,iq r.a1,iq r.a2]/\Ln=[]/\True):=⟨by
 rintro _ _ r rfl hx w hK;unfold Ob at hx;refine CtS ntmps200 results200 ?_;refine pq ?_;intros;rename_i hx
 refine pA ?_;intros;rename_i hx
 apply Jr (γ:=Nat) hx [2] (fun s2 y2 f=>(1,.pointer (some ⟨y2,0,none⟩))::f) [0,999] (fun s2 y2 l=>.m y2 101 [iq s2.1,iq s2.2.1,iq s2.2.2]::l);exact kk
 .exact aI
 .refine pI ?_;intros;rename_i hx
  apply Lr (γ:=Nat) hx [2] (fun s0 y0 f=>(1,.pointer (some ⟨y0,0,none⟩))::f) [0,999] (fun s0 y0 l=>.m y0 101 [iq s0.1,iq s0.2.1,iq s0.2.2]::l) _;exact kk;exact sk;intro s0 y0 x0 hx _;unfold Fu at hx;exact au⟩
instance(p0:Ad)(p1:Ad):Con (Rk p0 p1) prog 195 (fun _ vs=>vs=[.agg #[iq p0.a0,iq p0.a1],.agg #[iq p1.a0,iq p1.a1]]) (fun _ r v Ln=>v=.bool r/\Ln=[]/\True):=⟨by
 rintro _ _ r rfl hx w hK;unfold Rk at hx;refine CtS ntmps195 results195 ?_;exact au⟩
instance(p0:List Ad):Con (Dm p0) prog 137 (fun K vs=>∃U0 E0,vs=[.slice U0 p0.length E0]/\Has K U0 p0.length E0 2 Ar p0/\True) (fun _ r v Ln=>∃A0 c0,v=.slice A0 r.length c0/\Ln=[.r A0 r.length c0 103 2 (r.flatMap Ar)]/\True):=⟨by
 rintro K _ r ⟨U0,E0,rfl,ha0,-⟩ hx w hK;replace ha0:=ha0.lo hK;unfold Dm at hx;have:=dl 5 [0,0,0,0,0,1,0,0,0,0,1,0,0,0,0,0,1,0,0,0,0,1,0,0,2,3,2] [0,1,2,3,4,5,6,7,8,9,10,11,12,13,14,15,16,17,18,19,20,21,22,23,24,25,26];have:=dl 11 [0,0,0,0,0,0,1,0,0,0,0,1,2,0] [0,1,2,3,4,5,6,7,8,9,10,11,12,13];have:=dl 13 [0,0,0,0,0,0,0,0,0,1,0,0,0,1,0,3,0,3] [0,1,2,3,4,5,6,7,8,9,10,11,12,13,14,15,16,17];refine CtS ntmps137 results137 ?_;refine pq ?_;intros;rename_i hx
 refine pA ?_;intros;rename_i hx
 refine pA ?_;intros;rename_i hx
 apply Jr (γ:=OA×Nat) hx [] (fun s3 y3 f=>(3,.slice y3.1 s3.length y3.2)::f) [999] (fun s3 y3 l=>.r y3.1 s3.length y3.2 103 2 (s3.flatMap Ar)::l);exact kk
 .intro s3 y3 hx;apply Jr (γ:=OA×Nat) hx [] (fun s0 y0 f=>(3,.slice y0.1 s0.length y0.2)::f) [999] (fun s0 y0 l=>.r y0.1 s0.length y0.2 103 2 (s0.flatMap Ar)::l);exact kk
  .exact aI
  .refine pI ?_;intros;rename_i hx
   apply Lr (γ:=OA×Nat) hx [40] (fun s1 y1 f=>(3,.slice y1.1 s1.1.length y1.2)::(41,iq s1.2)::f) [999] (fun s1 y1 l=>.r y1.1 s1.1.length y1.2 103 2 (s1.1.flatMap Ar)::l) (_,_);exact kk;exact sk;intro s1 y1 x0 hx _;unfold Er at hx;refine pq ?_;intros;rename_i hx
   refine Cq1 (s:=42) hx rfl ?_ ?_
   .refine pI ?_;intros;rename_i hx
    apply Jr (γ:=OA×Nat) hx [40,41] (fun s2 y2 f=>(3,.slice y2.1 s2.length y2.2)::f) [999] (fun s2 y2 l=>.r y2.1 s2.length y2.2 103 2 (s2.flatMap Ar)::l);exact kk
    .exact aI
    .refine pI ?_;intros;rename_i hx
     apply Lr (γ:=OA×Nat) hx [40,41] (fun s4 y4 f=>(3,.slice y4.1 s4.1.length y4.2)::(6,iq s4.2)::f) [999] (fun s4 y4 l=>.r y4.1 s4.1.length y4.2 103 2 (s4.1.flatMap Ar)::l) (_,_);exact kk;exact sk;intro s4 y4 x1 hx _;unfold Gp at hx;refine pq ?_;intros;rename_i hx
     refine pA ?_;intros;rename_i hx
     apply Jr (γ:=Unit) hx [3,6,40,41] (fun s5 y5 f=>(58,.bool s5)::f) [0,999] (fun s5 y5 l=>l);exact kk
     .exact aI
     .exact aI
   .exact aI
 .refine pI ?_;intros;rename_i hx
  refine Ba 103 2 ?_;apply Lr (γ:=OA×Nat) hx [0,8] (fun s6 y6 f=>(3,.slice y6.1 s6.1.length y6.2)::(9,iq s6.2)::f) [999] (fun s6 y6 l=>.r y6.1 s6.1.length y6.2 103 2 (s6.1.flatMap Ar)::l) (_,_);exact kk;exact sk;intro s6 y6 x2 hx _;unfold Hu at hx;exact au⟩
instance(p0:List Ae)(p1:List Ad):Con (Jd p0 p1) prog 138 (fun K vs=>∃U0 E0 U1 E1,vs=[.slice U0 p0.length E0,.slice U1 p1.length E1]/\Has K U0 p0.length E0 4 Am p0/\Has K U1 p1.length E1 2 Ar p1/\True) (fun _ r v Ln=>∃A0 c0,v=.slice A0 r.length c0/\Ln=[.r A0 r.length c0 101 3 (r.flatMap Az)]/\True):=⟨by
 rintro K _ r ⟨U0,E0,U1,E1,rfl,ha0,ha1,-⟩ hx w hK;replace ha0:=ha0.lo hK;replace ha1:=ha1.lo hK;unfold Jd at hx;have:=dl 19 [0,0,1,0,0,0,0,1,2,2] [0,1,2,3,4,5,6,7,8,9];refine CtS ntmps138 results138 ?_;refine pq ?_;intros;rename_i hx
 refine pA ?_;intros;rename_i hx
 refine pA ?_;intros;rename_i hx
 apply Jr (γ:=Unit) hx [0,1] (fun s3 y3 f=>(21,.bool s3)::f) [999] (fun s3 y3 l=>l);exact kk
 .intro s3 y3 hx;refine Cq3 (s:=21) hx rfl ?_ ?_
  .exact aI
  .refine pI ?_;intros;rename_i hx
   refine pA ?_;intros;rename_i hx
   refine pA ?_;intros;rename_i hx
   apply Jr (γ:=OA×Nat) hx [] (fun s9 y9 f=>(8,.slice y9.1 s9.length y9.2)::f) [999] (fun s9 y9 l=>.r y9.1 s9.length y9.2 101 3 (s9.flatMap Az)::l);exact kk
   .exact aI
   .refine pI ?_;intros;rename_i hx
    (with_reducible apply Af3 29 (sz:=2));exact rfl;exact aT;exact iI;exact dL;exact (fun _=>rfl);exact rfl;exact rfl;exact sA
    refine pq ?_;intros;rename_i hx
    refine Ba 101 3 ?_;apply Lr (γ:=OA×Nat×OA×Nat×Nat) hx [0,1] (fun s0 y0 f=>(6,.slice y0.1 s0.1.length y0.2.1)::(7,.map (some y0.2.2.2.2))::(8,.slice y0.2.2.1 s0.2.2.length y0.2.2.2.1)::f) [999] (fun s0 y0 l=>.r y0.2.2.1 s0.2.2.length y0.2.2.2.1 101 3 (s0.2.2.flatMap Az)::Bg prog 103 Au Ca y0.2.2.2.2 s0.2.1 :: .r y0.1 s0.1.length y0.2.1 103 2 (s0.1.flatMap Ar)::l) (_,_,_,_,_);exact kk;exact sk;intro s0 y0 x0 hx _;unfold Fv at hx;refine pq ?_;intros;rename_i hx
    refine Cq1e (s:=33) hx rfl cQ ?_ ?_
    .refine pI ?_;intros;rename_i hx
     refine Cq3 (s:=47) hx rfl ?_ ?_
     .refine pI ?_;intros;rename_i hx
      (with_reducible apply Zm 6);exact rfl;exact aT;exact aS;exact rfl;exact (fun _=>rfl);exact sA
      exact au
     .refine pI ?_;intros;rename_i hx
      refine Cq1e (s:=56) hx rfl cQ ?_ ?_
      .refine pI ?_;intros;rename_i hx
       (with_reducible apply Zm 6);exact rfl;exact aT;exact aS;exact rfl;exact (fun _=>rfl);exact sA
       exact au
      .refine pI ?_;intros;rename_i hx
       (with_reducible apply Zm 6);exact rfl;exact aT;exact aS;exact rfl;exact (fun _=>rfl);exact sA
       refine pq ?_;intros;rename_i hx
       apply Lr (γ:=OA×Nat×Nat) hx [0,1,8,11] (fun s1 y1 f=>(6,.slice y1.1 s1.1.length y1.2.1)::(7,.map (some y1.2.2))::(70,iq s1.2.2)::f) [0,2,999] (fun s1 y1 l=>.r y1.1 s1.1.length y1.2.1 103 2 (s1.1.flatMap Ar)::Bg prog 103 Au Ca y1.2.2 s1.2.1::l) (_,_,_);exact kk;exact sk;intro s1 y1 x1 hx _;unfold Cj at hx;exact au
    .exact aI
 .exact aI⟩
instance(p0:List Ae)(p1:List Ad):Con (Ld p0 p1) prog 82 (fun K vs=>∃U0 E0 U1 E1,vs=[.slice U0 p0.length E0,.slice U1 p1.length E1]/\Has K U0 p0.length E0 4 Am p0/\Has K U1 p1.length E1 2 Ar p1/\True) (fun _ r v Ln=>∃A0 c0 A2 c2 A4 c4,v=.tuple #[.agg #[.slice A0 r.1.V.length c0,.slice A2 r.1.T.length c2,.slice A4 r.1.Lines.length c4],iq r.2]/\Ln=[.r A0 r.1.V.length c0 108 4 (r.1.V.flatMap Am),.r A2 r.1.T.length c2 101 3 (r.1.T.flatMap Az),.r A4 r.1.Lines.length c4 103 2 (r.1.Lines.flatMap Ar)]/\True):=⟨by
 rintro K _ r ⟨U0,E0,U1,E1,rfl,ha0,ha1,-⟩ hx w hK;replace ha0:=ha0.lo hK;replace ha1:=ha1.lo hK;unfold Ld at hx;refine CtS ntmps82 results82 ?_;refine pq ?_;intros;rename_i hx
 refine Cq2 (s:=14) hx rfl ?_ ?_
 .exact aI
 .refine pI ?_;intros;rename_i hx
  refine pA ?_;intros;rename_i hx
  apply Jr (γ:=OA×Nat) hx [0,1,4] (fun s7 y7 f=>(7,.slice y7.1 s7.length y7.2)::f) [0,999] (fun s7 y7 l=>.r y7.1 s7.length y7.2 108 4 (s7.flatMap Am)::l);exact kk
  .exact aI
  .refine pI ?_;intros;rename_i hx
   refine Ba 108 4 ?_;apply Lr (γ:=OA×Nat) hx [0,1,4,18] (fun s0 y0 f=>(7,.slice y0.1 s0.1.length y0.2)::(19,iq s0.2)::f) [1,999] (fun s0 y0 l=>.r y0.1 s0.1.length y0.2 108 4 (s0.1.flatMap Am)::l) (_,_);exact kk;exact sk;intro s0 y0 x0 hx _;unfold Kc at hx;exact au⟩
instance(x0:Int)(x1:Int)(x2:Int)(x3:Int):Ji prog 108 [(0,iq x0),(1,iq x1),(2,.agg #[iq x2,iq x3])] [iq x0,iq x1,iq x2,iq x3]:=⟨fun w=>kr⟩
instance:UndI prog 186 (.map 3 30):=⟨underlying186⟩
instance:MkI prog 41 30 9 72 Ag ((⟨0,0,0,(⟨0,0⟩:Av),0,0,0,0⟩:Aa)):=⟨t30,.agg #[iq 0,iq 0,iq 0,iq 0,iq 0,iq 0,iq 0,iq 0,iq 0],underlying41,kr,kr,rfl,kr,kr⟩
instance:SrtI prog 60 153 Ag 9 (fun l=>(ptIn l)) Hn (fun x=>.agg #[iq x.Id,iq x.X,iq x.Y,iq x.Z.Lo,iq x.Z.Hi,iq x.Wide,iq x.Num,iq x.Of,iq x.Class]):=⟨⟨_,func60,rfl,rfl⟩,fun l hb hp A m c t w hok hcm=>Ae3 l hb hp w hok hcm ⟨_,func153,rfl,rfl⟩,fun _ W x y px py=>⟨[.agg #[iq x.Id,iq x.X,iq x.Y,iq x.Z.Lo,iq x.Z.Hi,iq x.Wide,iq x.Num,iq x.Of,iq x.Class],.agg #[iq y.Id,iq y.X,iq y.Y,iq y.Z.Lo,iq y.Z.Hi,iq y.Wide,iq y.Num,iq y.Of,iq y.Class]],rfl,Af4 x y (Asg px py) W⟩⟩
def Rl(p0:List Aa):((List (Int×Aa))×Int)->Option (Sum ((List (Int×Aa))×Int) (List (Int×Aa))):=fun s0=>
 if s0.2<(p0.length:Int) then (bnd (idx p0 s0.2) fun x0=>
 gd ((-9223372036854775808<=x0.Id/\x0.Id<=9223372036854775807))<|
 gd (s0.1.length<9223372036854775807)<|
 some (.inl (mput s0.1 x0.Id x0,w64 (s0.2+1))))
 else (some (.inr s0.1))
def Ni(p1:LI):((List (Int×Aa))×List Aa×Int)->Option (Sum ((List (Int×Aa))×List Aa×Int) (Sum (List Aa) (List Aa×Bool))):=fun s0=>
 if s0.2.2<(p1.length:Int) then (bnd (idx p1 s0.2.2) fun x0=>
 gd ((-9223372036854775808<=x0/\x0<=9223372036854775807))<|
 bnd (some ((mget s0.1 x0).getD ((⟨0,0,0,(⟨0,0⟩:Av),0,0,0,0⟩:Aa)))) fun x1=>
 if ((mget s0.1 x0).isSome)=true then (gd ((-9223372036854775808<=x0/\x0<=9223372036854775807))<|
 gd ((s0.2.1.length+1)*72<=140737488355328)<|
 some (.inl (mdel s0.1 x0,s0.2.1++[x1],w64 (s0.2.2+1))))
 else (some (.inr (.inr (([]:List Aa),false)))))
 else (some (.inr (.inl s0.2.1)))
def Vu(p0:List Aa)(p1:LI):Option (List Aa×Bool):=
 jn (fun (s3:List (Int×Aa))=>
 gd ((0:Int)<=(p1.length:Int)/\72*Int.toNat (p1.length:Int)<=140737488355328)<|
 jn (fun (s0:List Aa)=>
 gd (s0.length<=1000000000/\(∀x∈s0,(ptIn s0) x))<|
 some (Bf Hn s0,true))
 (fun j0=>bnd (lfix (Ni p1) (s3,([]:List Aa),0)) fun t0=>
 (match t0 with
 |(.inl z0)=>j0 z0
 |(.inr z0)=>some z0
 )))
 (fun j3=>bnd (lfix (Rl p0) (([]:List (Int×Aa)),0)) fun t1=>
 j3 t1)
instance:MkI prog 22 108 4 32 Am ((⟨0,0,(⟨0,0⟩:Av)⟩:Ae)):=⟨t108,.agg #[iq 0,iq 0,iq 0,iq 0],underlying22,kr,kr,rfl,kr,kr⟩
def Ss(p0:List Aa):(List Ae×Int)->Option (Sum (List Ae×Int) (List Ae)):=fun s0=>
 if s0.2<(p0.length:Int) then (bnd (idx p0 s0.2) fun x0=>
 gd ((s0.1.length+1)*32<=140737488355328)<|
 some (.inl (s0.1++[(⟨x0.X,x0.Y,x0.Z⟩:Ae)],w64 (s0.2+1))))
 else (some (.inr s0.1))
def Oc(p0:List Aa):Option (Al×Int):=
 gd ((0:Int)<=(p0.length:Int)/\32*Int.toNat (p0.length:Int)<=140737488355328)<|
 jn (fun (s3:List Ae)=>
 bnd (Td s3 ([]:List Ad)) fun r0=>
 if r0.2=0 then (some (r0.1,0))
 else (some ((⟨([]:List Ae),([]:List Ah),([]:List Ad)⟩:Al),11)))
 (fun j3=>bnd (lfix (Ss p0) (([]:List Ae),0)) fun t0=>
 j3 t0)
def Bo(p0:List Aa)(p1:LI):Option (Al×Int):=
 bnd (Vu p0 p1) fun r2=>
 if r2.2=true then (bnd (Oc r2.1) fun r0=>
 some (r0.1,r0.2))
 else (some ((⟨([]:List Ae),([]:List Ah),([]:List Ad)⟩:Al),2))
instance(p0:List Aa)(p1:LI):Con (Vu p0 p1) prog 102 (fun K vs=>∃U0 E0 U1 E1,vs=[.slice U0 p0.length E0,.slice U1 p1.length E1]/\Has K U0 p0.length E0 9 Ag p0/\Has K U1 p1.length E1 1 Ak p1/\True) (fun _ r v Ln=>∃A0 c0,v=.tuple #[.slice A0 r.1.length c0,.bool r.2]/\Ln=[.r A0 r.1.length c0 30 9 (r.1.flatMap Ag)]/\True):=⟨by
 rintro K _ r ⟨U0,E0,U1,E1,rfl,ha0,ha1,-⟩ hx w hK;replace ha0:=ha0.lo hK;replace ha1:=ha1.lo hK;unfold Vu at hx;refine CtS ntmps102 results102 ?_;refine pq ?_;intros;rename_i hx
 refine pA ?_;intros;rename_i hx
 refine pA ?_;intros;rename_i hx
 apply Jr (γ:=Nat) hx [1] (fun s3 y3 f=>(6,.map (some y3))::f) [999] (fun s3 y3 l=>Bg prog 3 Cy By y3 s3::l);exact kk
 .intro s3 y3 hx;refine pq ?_;intros;rename_i hx
  apply Jr (γ:=OA×Nat) hx [] (fun s0 y0 f=>(9,.slice y0.1 s0.length y0.2)::f) [999] (fun s0 y0 l=>.r y0.1 s0.length y0.2 30 9 (s0.flatMap Ag)::l);exact kk
  .exact aI
  .refine pI ?_;intros;rename_i hx
   apply Lr (γ:=OA×Nat×Nat) hx [31,32] (fun s1 y1 f=>(6,.map (some y1.2.2))::(9,.slice y1.1 s1.2.1.length y1.2.1)::(33,iq s1.2.2)::f) [999] (fun s1 y1 l=>.r y1.1 s1.2.1.length y1.2.1 30 9 (s1.2.1.flatMap Ag)::Bg prog 3 Cy By y1.2.2 s1.1::l) (_,_,_);exact kk;exact sk;intro s1 y1 x0 hx _;unfold Ni at hx;exact au
 .refine pI ?_;intros;rename_i hx
  apply Lr (γ:=Nat) hx [1,17,18] (fun s2 y2 f=>(6,.map (some y2))::(19,iq s2.2)::f) [999] (fun s2 y2 l=>Bg prog 3 Cy By y2 s2.1::l) _;exact kk;exact sk;intro s2 y2 x1 hx _;unfold Rl at hx;exact au⟩
instance(p0:List Aa):Con (Oc p0) prog 103 (fun K vs=>∃U0 E0,vs=[.slice U0 p0.length E0]/\Has K U0 p0.length E0 9 Ag p0/\True) (fun _ r v Ln=>∃A0 c0 A2 c2 A4 c4,v=.tuple #[.agg #[.slice A0 r.1.V.length c0,.slice A2 r.1.T.length c2,.slice A4 r.1.Lines.length c4],iq r.2]/\Ln=[.r A0 r.1.V.length c0 108 4 (r.1.V.flatMap Am),.r A2 r.1.T.length c2 101 3 (r.1.T.flatMap Az),.r A4 r.1.Lines.length c4 103 2 (r.1.Lines.flatMap Ar)]/\True):=⟨by
 rintro K _ r ⟨U0,E0,rfl,ha0,-⟩ hx w hK;replace ha0:=ha0.lo hK;unfold Oc at hx;refine CtS ntmps103 results103 ?_;refine pq ?_;intros;rename_i hx
 apply Jr (γ:=OA×Nat) hx [2] (fun s3 y3 f=>(4,.slice y3.1 s3.length y3.2)::f) [1,999] (fun s3 y3 l=>.r y3.1 s3.length y3.2 108 4 (s3.flatMap Am)::l);exact kk
 .exact aI
 .refine pI ?_;intros;rename_i hx
  apply Lr (γ:=OA×Nat) hx [2,12,13] (fun s29 y29 f=>(4,.slice y29.1 s29.1.length y29.2)::(14,iq s29.2)::f) [1,999] (fun s29 y29 l=>.r y29.1 s29.1.length y29.2 108 4 (s29.1.flatMap Am)::l) (_,_);exact kk;exact sk;intro s29 y29 x29 hx _;unfold Ss at hx;exact au⟩
instance(p0:List Aa)(p1:LI):Con (Bo p0 p1) prog 51 (fun K vs=>∃U0 E0 U1 E1,vs=[.slice U0 p0.length E0,.slice U1 p1.length E1]/\Has K U0 p0.length E0 9 Ag p0/\Has K U1 p1.length E1 1 Ak p1/\True) (fun _ r v Ln=>∃A0 c0 A2 c2 A4 c4,v=.tuple #[.agg #[.slice A0 r.1.V.length c0,.slice A2 r.1.T.length c2,.slice A4 r.1.Lines.length c4],iq r.2]/\Ln=[.r A0 r.1.V.length c0 108 4 (r.1.V.flatMap Am),.r A2 r.1.T.length c2 101 3 (r.1.T.flatMap Az),.r A4 r.1.Lines.length c4 103 2 (r.1.Lines.flatMap Ar)]/\True):=⟨by
 rintro K _ r ⟨U0,E0,U1,E1,rfl,ha0,ha1,-⟩ hx w hK;replace ha0:=ha0.lo hK;replace ha1:=ha1.lo hK;unfold Bo at hx;refine CtS ntmps51 results51 ?_;exact au⟩
end
end Go.Proofs.YthlkpgdfifnagaaGreat
