import Derived.Test.YthlkpgdfifnagaaGreatEs
set_option maxRecDepth 100000
set_option maxHeartbeats 1000000
namespace Go.Proofs.YthlkpgdfifnagaaGreat
open Go Go.RowKit Tryz List
noncomputable section
instance(x0:Int)(x1:Int):Ns prog 42 2 [(0,.int .i64 x0),(1,.int .i64 x1)] 3 [.int .i64 x0,.int .i64 x1]:=⟨fun w=>kr⟩
def Oe(p1:List Ac):Int->Option (Sum Int Unit):=fun s5=>
 if s5<(p1.length:Int) then none
 else (some (.inr ()))
def Mi(p1:List Ac):Int->Option (Sum Int Unit):=fun s0=>
 if s0<(p1.length:Int) then none
 else (some (.inr ()))
def Hm(p0:List Ae)(p1:List Ac):Option Int :=
 jn (fun (s2:Unit)=>
 jn (fun (s8:Unit)=>
 some 0)
 (fun j8=>bnd (lfix (Mi p1) 0) fun t0=>
 j8 t0))
 (fun j2=>bnd (lfix (Oe p1) 0) fun t5=>
 j2 t5)
def Sm(p0:List Ae)(p1:List Ac):Option Int :=
 bnd (Jz p0) fun r1=>
 if r1=0 then (bnd (Hm p0 p1) fun r7=>
 some r7)
 else (some r1)
def Tx(p1:List Ac)(p0:List Ae)(p2:Int)(p3:Int):Unit->Option (Sum Unit Unit):=fun s0=>
 if 0<(p1.length:Int) then (bnd (idx p1 0) fun x0=>
 bnd (idx p0 p2) fun x1=>
 bnd (idx p0 p3) fun x2=>
 bnd (idx p0 x0.a0) fun x3=>
 bnd (idx p0 x0.a1) fun x4=>
 bnd (As x1) fun r0=>
 bnd (As x2) fun r1=>
 bnd (As x3) fun r2=>
 bnd (As x4) fun r3=>
 none)
 else (some (.inr ()))
def My(p0:List Ae)(p1:List Ac)(p2:Int)(p3:Int):Option Bool :=
 jn (fun (s2:Unit)=>
 some true)
 (fun j2=>bnd (lfix (Tx p1 p0 p2 p3) ()) fun t0=>
 j2 t0)
def Ly(s0:LI)(x0:Int):(Bool×Int)->Option (Sum (Bool×Int) Bool):=fun s1=>
 if s1.2<(s0.length:Int) then (jn (fun (s2:Bool)=>
 some (.inl (s2,w64 (s1.2+1))))
 (fun j0=>bnd (idx s0 s1.2) fun x1=>
 if s1.1=true then (j0 true)
 else (j0 (decide (x1=x0)))))
 else (some (.inr s1.1))
def Lz(p3:LI)(p0:List Ae)(p1:Int)(s0:LI):(Int×Int)->Option (Sum (Int×Int) Int):=fun s1=>
 if s1.2<(p3.length:Int) then (jn (fun (s2:Int)=>
 some (.inl (s2,w64 (s1.2+1))))
 (fun j0=>bnd (idx p3 s1.2) fun x0=>
 jn (fun (s3:Bool)=>
 jn (fun (s4:Bool)=>
 if s4=true then (j0 x0)
 else (j0 s1.1))
 (fun j1=>if s3=true then (j1 false)
 else (if s1.1<0 then (j1 true)
 else (bnd (idx p0 p1) fun x1=>
 bnd (idx p0 x0) fun x2=>
 bnd (idx p0 s1.1) fun x3=>
 bnd (As x1) fun r0=>
 bnd (As x2) fun r1=>
 bnd (As x3) fun r2=>
 bnd (Ds r0 r1 r2) fun r3=>
 j1 (decide (0<r3))))))
 (fun j2=>bnd (lfix (Ly s0 x0) (false,0)) fun t0=>
 j2 t0)))
 else (some (.inr s1.1))
def Pz(p3:LI)(p0:List Ae)(p1:Int):LI->Option (Sum LI LI):=fun s0=>
 if (s0.length:Int)<(w64 ((p3.length:Int)+2)) then (jn (fun (s1:Int)=>
 gd ((s0.length+1)*8<=140737488355328)<|
 some (.inl (s0++[s1])))
 (fun j0=>bnd (lfix (Lz p3 p0 p1 s0) (-1,0)) fun t0=>
 j0 t0))
 else (some (.inr s0))
def Ql(p0:List Ae)(p1:Int)(p2:Int)(p3:LI):Option LI:=
 jn (fun (s3:LI)=>
 some s3)
 (fun j3=>bnd (lfix (Pz p3 p0 p1) ([p1,p2])) fun t0=>
 j3 t0)
def Jy(s0:LI)(p0:List Ae):(Int×Int)->Option (Sum (Int×Int) Int):=fun s1=>
 if s1.2<(s0.length:Int) then (jn (fun (s2:Int)=>
 some (.inl (s2,w64 (s1.2+1))))
 (fun j0=>bnd (idx s0 s1.2) fun x0=>
 bnd (idx p0 x0) fun x1=>
 bnd (idx s0 s1.1) fun x2=>
 bnd (idx p0 x2) fun x3=>
 bnd (As x1) fun r0=>
 bnd (As x3) fun r1=>
 bnd (Jd r0 r1) fun r2=>
 if r2=true then (j0 s1.2)
 else (j0 s1.1)))
 else (some (.inr s1.1))
def Ix(s0:LI)(s1:Int):(LI×Int)->Option (Sum (LI×Int) LI):=fun s2=>
 if s2.2<(s0.length:Int) then (jn (fun (s3:LI)=>
 some (.inl (s3,w64 (s2.2+1))))
 (fun j0=>if s2.2=s1 then (j0 s2.1)
 else (bnd (idx s0 s2.2) fun x0=>
 gd ((s2.1.length+1)*8<=140737488355328)<|
 j0 (s2.1++[x0]))))
 else (some (.inr s2.1))
def Eh(p2:Int)(p1:Int)(p0:List Ae):LI->Option (Sum LI (Sum LI Int)):=fun s0=>
 if 3<(s0.length:Int) then (jn (fun (s1:Int)=>
 gd ((s0.length:Int)≠0)<|
 bnd (idx s0 (Int.tmod (w64 ((w64 (s1+(s0.length:Int)))-1)) (s0.length:Int))) fun x0=>
 gd ((s0.length:Int)≠0)<|
 bnd (idx s0 (Int.tmod (w64 (s1+1)) (s0.length:Int))) fun x1=>
 jn (fun (s2:Bool)=>
 if s2=true then (some (.inr (.inr x0)))
 else (jn (fun (s3:Bool)=>
 if s3=true then (some (.inr (.inr x1)))
 else (jn (fun (s4:LI)=>
 some (.inl s4))
 (fun j0=>bnd (lfix (Ix s0 s1) (([]:LI),0)) fun t0=>
 j0 t0)))
 (fun j1=>bnd (idx s0 s1) fun x2=>
 if x2=p2 then (j1 (decide (x0=p1)))
 else (j1 false))))
 (fun j2=>bnd (idx s0 s1) fun x3=>
 if x3=p1 then (j2 (decide (x1=p2)))
 else (j2 false)))
 (fun j3=>bnd (lfix (Jy s0 p0) (0,0)) fun t1=>
 j3 t1))
 else (some (.inr (.inl s0)))
def Cm(s2:LI)(p1:Int)(p2:Int):Int->Option (Sum Int (Sum Unit Int)):=fun s0=>
 if s0<(s2.length:Int) then (bnd (idx s2 s0) fun x0=>
 jn (fun (s1:Bool)=>
 if s1=true then (some (.inr (.inr x0)))
 else (some (.inl (w64 (s0+1)))))
 (fun j0=>if x0=p1 then (j0 false)
 else (j0 (!(decide (x0=p2))))))
 else (some (.inr (.inl ())))
def Pn(p0:List Ae)(p1:Int)(p2:Int)(p3:LI):Option Int :=
 jn (fun (s2:LI)=>
 jn (fun (s0:Unit)=>
 some (-1))
 (fun j0=>bnd (lfix (Cm s2 p1 p2) 0) fun t0=>
 (match t0 with
 |(.inl z0)=>j0 z0
 |(.inr z0)=>some z0
 )))
 (fun j2=>bnd (lfix (Eh p2 p1 p0) p3) fun t1=>
 (match t1 with
 |(.inl z1)=>j2 z1
 |(.inr z1)=>some z1
 ))
def Mb(p0:List Ae)(p2:Int)(p3:Int)(p1:List Ac):(LI×Int)->Option (Sum (LI×Int) LI):=fun s0=>
 if s0.2<(p0.length:Int) then (jn (fun (s1:LI)=>
 some (.inl (s1,w64 (s0.2+1))))
 (fun j0=>jn (fun (s2:Bool)=>
 if s2=true then (j0 s0.1)
 else (if (s0.1.length:Int)=0 then (j0 ([s0.2]))
 else (bnd (idx p0 p2) fun x0=>
 bnd (idx p0 p3) fun x1=>
 bnd (idx s0.1 0) fun x2=>
 bnd (idx p0 x2) fun x3=>
 bnd (idx p0 s0.2) fun x4=>
 bnd (As x0) fun r0=>
 bnd (As x1) fun r1=>
 bnd (As x3) fun r2=>
 bnd (As x4) fun r3=>
 bnd (Nr r0 r1 r2 r3) fun r4=>
 if r4=1 then (j0 ([s0.2]))
 else (if r4=0 then (gd ((s0.1.length+1)*8<=140737488355328)<|
 j0 (s0.1++[s0.2]))
 else (j0 s0.1)))))
 (fun j1=>bnd (idx p0 p2) fun x5=>
 bnd (idx p0 p3) fun x6=>
 bnd (idx p0 s0.2) fun x7=>
 bnd (As x5) fun r5=>
 bnd (As x6) fun r6=>
 bnd (As x7) fun r7=>
 bnd (Ds r5 r6 r7) fun r8=>
 if r8<=0 then (j1 true)
 else (bnd (My p0 p1 p2 s0.2) fun r9=>
 if r9=true then (bnd (My p0 p1 p3 s0.2) fun r10=>
 j1 (!(r10)))
 else (j1 true)))))
 else (some (.inr s0.1))
def Qm(p0:List Ae)(p1:List Ac)(p2:Int)(p3:Int):Option Int :=
 jn (fun (s3:LI)=>
 if (s3.length:Int)=0 then (some (-1))
 else (bnd (Ql p0 p2 p3 s3) fun r0=>
 bnd (Pn p0 p2 p3 r0) fun r1=>
 some r1))
 (fun j3=>bnd (lfix (Mb p0 p2 p3 p1) (([]:LI),0)) fun t0=>
 j3 t0)
instance(p0:List Ae)(p1:List Ac):Con (Hm p0 p1) prog 194 (fun K vs=>∃U0 E0 U1 E1,vs=[.slice U0 p0.length E0,.slice U1 p1.length E1]/\Has K U0 p0.length E0 4 Al p0/\Has K U1 p1.length E1 2 Ar p1/\True) (fun _ r=>fun v Ln=>v=.int .i64 r/\Ln=[]/\True):=⟨by
 rintro K _ r ⟨U0,E0,U1,E1,rfl,ha0,ha1,-⟩ hx w hK;replace ha0:=ha0.lo hK;replace ha1:=ha1.lo hK;unfold Hm at hx;refine CtS ntmps194 results194 ?_;refine pq ?_;intros;rename_i hx
 refine pA ?_;intros;rename_i hx
 apply Jr (γ:=Unit) hx [0,1] (fun s2 y2 f=>f) [999] (fun s2 y2 l=>l);exact kk
 .intro s2 y2 hx;apply Jr (γ:=Unit) hx [] (fun s8 y8 f=>f) [999] (fun s8 y8 l=>l);exact kk
  .exact aI
  .refine pI ?_;intros;rename_i hx
   apply Lr (γ:=Unit) hx [0,1,106] (fun s0 y0 f=>(107,.int .i64 s0)::f) [999] (fun s0 y0 l=>l) ();exact kk;exact sk;intro s0 y0 x0 hx _;unfold Mi at hx;exact au
 .refine pI ?_;intros;rename_i hx
  apply Lr (γ:=Unit) hx [0,1,13] (fun s5 y5 f=>(14,.int .i64 s5)::f) [999] (fun s5 y5 l=>l) ();exact kk;exact sk;intro s5 y5 x5 hx _;unfold Oe at hx;exact au⟩
instance(p0:List Ae)(p1:List Ac):Con (Sm p0 p1) prog 136 (fun K vs=>∃U0 E0 U1 E1,vs=[.slice U0 p0.length E0,.slice U1 p1.length E1]/\Has K U0 p0.length E0 4 Al p0/\Has K U1 p1.length E1 2 Ar p1/\True) (fun _ r=>fun v Ln=>v=.int .i64 r/\Ln=[]/\True):=⟨by
 rintro K _ r ⟨U0,E0,U1,E1,rfl,ha0,ha1,-⟩ hx w hK;replace ha0:=ha0.lo hK;replace ha1:=ha1.lo hK;unfold Sm at hx;refine CtS ntmps136 results136 ?_;exact au⟩
instance(p0:List Ae)(p1:List Ac)(p2:Int)(p3:Int):Con (My p0 p1 p2 p3) prog 245 (fun K vs=>∃U0 E0 U1 E1,vs=[.slice U0 p0.length E0,.slice U1 p1.length E1,.int .i64 p2,.int .i64 p3]/\Has K U0 p0.length E0 4 Al p0/\Has K U1 p1.length E1 2 Ar p1/\True) (fun _ r=>fun v Ln=>v=.bool r/\Ln=[]/\True):=⟨by
 rintro K _ r ⟨U0,E0,U1,E1,rfl,ha0,ha1,-⟩ hx w hK;replace ha0:=ha0.lo hK;replace ha1:=ha1.lo hK;unfold My at hx;have:=dl 4 [0,0,0,1,2,0,0,0,1,2,0,0,1,0,1,2,0,0,1,0,1,2,2] [0,1,2,3,5,6,7,8,10,11,12,13,14,16,17,18,19,20,4,9,15,21,22];refine CtS ntmps245 results245 ?_;refine pq ?_;intros;rename_i hx
 refine pA ?_;intros;rename_i hx
 apply Jr (γ:=Unit) hx [] (fun s2 y2 f=>f) [999] (fun s2 y2 l=>l);exact kk
 .exact aI
 .refine pI ?_;intros;rename_i hx
  apply Lr (γ:=Unit) hx [0,2,3,11,12,13] (fun s0 y0 f=>f) [999] (fun s0 y0 l=>l) ();exact kk;exact sk;intro s0 y0 x0 hx _;unfold Tx at hx;exact au⟩
instance(p0:List Ae)(p1:Int)(p2:Int)(p3:LI):Con (Ql p0 p1 p2 p3) prog 248 (fun K vs=>∃U0 E0 U1 E1,vs=[.slice U0 p0.length E0,.int .i64 p1,.int .i64 p2,.slice U1 p3.length E1]/\Has K U0 p0.length E0 4 Al p0/\Has K U1 p3.length E1 1 Aj p3/\True) (fun _ r=>fun v Ln=>∃A0 c0,v=.slice A0 r.length c0/\Ln=[.r A0 r.length c0 3 1 (r.flatMap Aj)]/\True):=⟨by
 rintro K _ r ⟨U0,E0,U1,E1,rfl,ha0,ha1,-⟩ hx w hK;replace ha0:=ha0.lo hK;replace ha1:=ha1.lo hK;unfold Ql at hx;have:=dl 13 [0,0,0,0,0,0,0,0,0,1,2,0,0,0,1,2,0,0,0,1,2,2,0,0,0] [0,1,2,3,4,5,6,7,8,9,11,12,13,14,16,17,18,19,10,15,20,21,22,23,24];refine CtS ntmps248 results248 ?_;refine pq ?_;intros;rename_i hx
 refine pA ?_;intros;rename_i hx
 refine pA ?_;intros;rename_i hx
 apply Jr (γ:=OA×Nat) hx [] (fun s3 y3 f=>(9,.slice y3.1 s3.length y3.2)::f) [999] (fun s3 y3 l=>.r y3.1 s3.length y3.2 3 1 (s3.flatMap Aj)::l);exact kk
 .exact aI
 .refine pI ?_;intros;rename_i hx
  (with_reducible apply Ae2 18 (sz:=1));exact rfl;exact aT;exact inferInstance;exact dL;exact (fun _=>rfl);exact rfl;exact rfl;exact sA
  refine pq ?_;intros;rename_i hx
  apply Lr (γ:=OA×Nat) hx [0,1,3] (fun s0 y0 f=>(9,.slice y0.1 s0.length y0.2)::f) [999] (fun s0 y0 l=>.r y0.1 s0.length y0.2 3 1 (s0.flatMap Aj)::l) (_,_);exact kk;exact sk;intro s0 y0 x0 hx _;unfold Pz at hx;refine pq ?_;intros;rename_i hx
  refine Cq1 (s:=24) hx rfl ?_ ?_
  .refine pI ?_;intros;rename_i hx
   refine pA ?_;intros;rename_i hx
   apply Jr (γ:=Unit) hx [0,1,3,9] (fun s1 y1 f=>(10,.int .i64 s1)::f) [0,999] (fun s1 y1 l=>l);exact kk
   .exact aI
   .refine pI ?_;intros;rename_i hx
    apply Lr (γ:=Unit) hx [0,1,3,9,25,26] (fun s2 y2 f=>(10,.int .i64 s2.1)::(27,.int .i64 s2.2)::f) [0,999] (fun s2 y2 l=>l) ();exact kk;exact sk;intro s2 y2 x1 hx _;unfold Lz at hx;refine pq ?_;intros;rename_i hx
    refine Cq1 (s:=28) hx rfl ?_ ?_
    .refine pI ?_;intros;rename_i hx
     apply Jr (γ:=Unit) hx [0,1,3,9,25,26,27] (fun s4 y4 f=>(10,.int .i64 s4)::f) [0,999] (fun s4 y4 l=>l);exact kk
     .exact aI
     .refine pI ?_;intros;rename_i hx
      refine pA ?_;intros;rename_i hx
      apply Jr (γ:=Unit) hx [0,1,3,9,10,12,25,26,27] (fun s5 y5 f=>(13,.bool s5)::f) [0,999] (fun s5 y5 l=>l);exact kk
      .intro s5 y5 hx;apply Jr (γ:=Unit) hx [0,1,3,9,10,12,25,26,27] (fun s6 y6 f=>(68,.bool s6)::f) [0,999] (fun s6 y6 l=>l);exact kk
       .exact aI
       .exact aI
      .refine pI ?_;intros;rename_i hx
       apply Lr (γ:=Unit) hx [0,1,3,9,10,12,25,26,27,31,32] (fun s7 y7 f=>(13,.bool s7.1)::(33,.int .i64 s7.2)::f) [0,999] (fun s7 y7 l=>l) ();exact kk;exact sk;intro s7 y7 x2 hx _;unfold Ly at hx;exact au
    .exact aI
  .exact aI⟩
instance(p0:List Ae)(p1:Int)(p2:Int)(p3:LI):Con (Pn p0 p1 p2 p3) prog 247 (fun K vs=>∃U0 E0 U1 E1,vs=[.slice U0 p0.length E0,.int .i64 p1,.int .i64 p2,.slice U1 p3.length E1]/\Has K U0 p0.length E0 4 Al p0/\Has K U1 p3.length E1 1 Aj p3/\True) (fun _ r=>fun v Ln=>v=.int .i64 r/\Ln=[]/\True):=⟨by
 rintro K _ r ⟨U0,E0,U1,E1,rfl,ha0,ha1,-⟩ hx w hK;replace ha0:=ha0.lo hK;replace ha1:=ha1.lo hK;unfold Pn at hx;have:=dl 6 [0,0,0,0,1,0,1,2,0,0,0,0,1,0,1,2,2] [0,1,2,3,4,5,6,8,9,10,11,12,13,14,7,15,16];have:=dl 9 [0,0,0,0,0,0,0,0,0,0,1,0,0,0,0,0,0,0,1,2,2] [0,1,2,3,4,5,6,7,8,9,10,11,12,13,14,15,16,17,18,19,20];refine CtS ntmps247 results247 ?_;refine pq ?_;intros;rename_i hx
 refine pA ?_;intros;rename_i hx
 apply JrG (γ:=OA×Nat×Ent) hx [1,2] (fun s2 y2 f=>(3,.slice y2.1 s2.length y2.2.1)::f) [999] (fun s2 y2 l=>y2.2.2::l) (fun s2 y2=>Has ([.old w,y2.2.2]) y2.1 s2.length y2.2.1 1 Aj s2/\y2.2.2.low=0/\True);exact kk
 .intro s2 y2 hx hG;obtain⟨_,_,-⟩:=hG;refine pq ?_;intros;rename_i hx
  apply Jr (γ:=Unit) hx [] (fun s0 y0 f=>f) [999] (fun s0 y0 l=>l);exact kk
  .exact aI
  .refine pI ?_;intros;rename_i hx
   apply Lr (γ:=Unit) hx [1,2,104,105] (fun s1 y1 f=>(106,.int .i64 s1)::f) [0,999] (fun s1 y1 l=>l) ();exact kk;exact sk;intro s1 y1 x0 hx _;unfold Cm at hx;exact au
 .refine pI ?_;intros;rename_i hx
  refine Bb 0 1 ?_;apply LrG (γ:=OA×Nat×Ent) hx [0,1,2] (fun s3 y3 f=>(3,.slice y3.1 s3.length y3.2.1)::f) [999] (fun s3 y3 l=>y3.2.2::l) (fun s3 y3=>Has ([.old w,y3.2.2]) y3.1 s3.length y3.2.1 1 Aj s3/\y3.2.2.low=0/\True) (_,_,_);exact kk;exact sF2;exact gG2;exact pK2;intro s3 y3 x1 hx _ hG;obtain⟨_,_,-⟩:=hG;unfold Eh at hx;refine pq ?_;intros;rename_i hx
  refine Cq1 (s:=19) hx rfl ?_ ?_
  .refine pI ?_;intros;rename_i hx
   refine pA ?_;intros;rename_i hx
   apply Jr (γ:=Unit) hx [0,1,2,3] (fun s4 y4 f=>(9,.int .i64 s4)::f) [0,999] (fun s4 y4 l=>l);exact kk
   .intro s4 y4 hx;refine pq ?_;intros;rename_i hx
    refine pA ?_;intros;rename_i hx
    apply Jr (γ:=Unit) hx [0,1,2,3,9,11,12] (fun s5 y5 f=>(73,.bool s5)::f) [0,999] (fun s5 y5 l=>l);exact kk
    .intro s5 y5 hx;refine Cq3 (s:=73) hx rfl ?_ ?_
     .exact aI
     .refine pI ?_;intros;rename_i hx
      refine pA ?_;intros;rename_i hx
      apply Jr (γ:=Unit) hx [0,1,2,3,9,12] (fun s6 y6 f=>(85,.bool s6)::f) [0,999] (fun s6 y6 l=>l);exact kk
      .intro s6 y6 hx;refine Cq3 (s:=85) hx rfl ?_ ?_
       .exact aI
       .refine pI ?_;intros;rename_i hx
        refine pA ?_;intros;rename_i hx
        apply Jr (γ:=OA×Nat) hx [0,1,2] (fun s7 y7 f=>(13,.slice y7.1 s7.length y7.2)::f) [999] (fun s7 y7 l=>.r y7.1 s7.length y7.2 3 1 (s7.flatMap Aj)::l);exact kk
        .exact aI
        .refine pI ?_;intros;rename_i hx
         refine Bb 3 1 ?_;apply Lr (γ:=OA×Nat) hx [0,1,2,3,9,88] (fun s8 y8 f=>(13,.slice y8.1 s8.1.length y8.2)::(89,.int .i64 s8.2)::f) [1,999] (fun s8 y8 l=>.r y8.1 s8.1.length y8.2 3 1 (s8.1.flatMap Aj)::l) (_,_);exact kk;exact sk;intro s8 y8 x2 hx _;unfold Ix at hx;exact au
      .exact aI
    .exact aI
   .refine pI ?_;intros;rename_i hx
    apply Lr (γ:=Unit) hx [0,1,2,3,21] (fun s9 y9 f=>(9,.int .i64 s9.1)::(22,.int .i64 s9.2)::f) [0,999] (fun s9 y9 l=>l) ();exact kk;exact sk;intro s9 y9 x3 hx _;unfold Jy at hx;exact au
  .exact aI⟩
instance(p0:List Ae)(p1:List Ac)(p2:Int)(p3:Int):Con (Qm p0 p1 p2 p3) prog 199 (fun K vs=>∃U0 E0 U1 E1,vs=[.slice U0 p0.length E0,.slice U1 p1.length E1,.int .i64 p2,.int .i64 p3]/\Has K U0 p0.length E0 4 Al p0/\Has K U1 p1.length E1 2 Ar p1/\True) (fun _ r=>fun v Ln=>v=.int .i64 r/\Ln=[]/\True):=⟨by
 rintro K _ r ⟨U0,E0,U1,E1,rfl,ha0,ha1,-⟩ hx w hK;replace ha0:=ha0.lo hK;replace ha1:=ha1.lo hK;unfold Qm at hx;have:=dl 5 [0,0,0,1,2,0,0,0,1,2,0,0,0,1,2,2,0,0,0,0,0,0,2,0,0,0,0,0,0,0,2,0,0] [0,1,2,3,5,6,7,8,10,11,12,13,4,9,14,15,16,17,18,19,20,21,22,23,24,25,26,27,28,29,30,31,32];have:=dl 8 [0,0,0,1,2,0,0,0,1,2,0,0,0,1,0,1,2,0,0,0,1,2,2] [0,1,2,3,5,6,7,8,10,11,12,13,14,15,17,18,19,20,4,9,16,21,22];refine CtS ntmps199 results199 ?_;refine pq ?_;intros;rename_i hx
 refine pA ?_;intros;rename_i hx
 refine pA ?_;intros;rename_i hx
 apply Jr (γ:=OA×Nat) hx [0,2,3] (fun s3 y3 f=>(9,.slice y3.1 s3.length y3.2)::f) [999] (fun s3 y3 l=>.r y3.1 s3.length y3.2 3 1 (s3.flatMap Aj)::l);exact kk
 .exact aI
 .refine pI ?_;intros;rename_i hx
  refine Bb 3 1 ?_;apply Lr (γ:=OA×Nat) hx [0,1,2,3,12] (fun s0 y0 f=>(9,.slice y0.1 s0.1.length y0.2)::(13,.int .i64 s0.2)::f) [999] (fun s0 y0 l=>.r y0.1 s0.1.length y0.2 3 1 (s0.1.flatMap Aj)::l) (_,_);exact kk;exact sk;intro s0 y0 x0 hx _;unfold Mb at hx;refine pq ?_;intros;rename_i hx
  refine Cq1 (s:=14) hx rfl ?_ ?_
  .refine pI ?_;intros;rename_i hx
   apply Jr (γ:=OA×Nat) hx [0,1,2,3,12,13] (fun s1 y1 f=>(9,.slice y1.1 s1.length y1.2)::f) [999] (fun s1 y1 l=>.r y1.1 s1.length y1.2 3 1 (s1.flatMap Aj)::l);exact kk
   .exact aI
   .refine pI ?_;intros;rename_i hx
    refine pA ?_;intros;rename_i hx
    refine pA ?_;intros;rename_i hx
    apply Jr (γ:=Unit) hx [0,1,2,3,9,10,12,13] (fun s2 y2 f=>(48,.bool s2)::f) [0,999] (fun s2 y2 l=>l);exact kk
    .intro s2 y2 hx;refine Cq3 (s:=48) hx rfl ?_ ?_
     .exact aI
     .refine pI ?_;intros;rename_i hx
      refine Cq1 (s:=51) hx rfl ?_ ?_
      .refine pI ?_;intros;rename_i hx
       (with_reducible apply Ae2 9 (sz:=1));exact rfl;exact aT;exact inferInstance;exact dL;exact (fun _=>rfl);exact rfl;exact rfl;exact sA
       exact au
      .refine pI ?_;intros;rename_i hx
       refine Cq1 (s:=77) hx rfl ?_ ?_
       .refine pI ?_;intros;rename_i hx
        (with_reducible apply Ae2 9 (sz:=1));exact rfl;exact aT;exact inferInstance;exact dL;exact (fun _=>rfl);exact rfl;exact rfl;exact sA
        exact au
       .exact aI
    .exact aI
  .exact aI⟩
variable {v:List Ae}{a b:Int}
theorem Aod(v:List Ae)(i k:Int):My v [] i k=some true:=by
 unfold My;rw[jn_d,Ay];unfold Tx;rw[if_neg s_];rfl
theorem Aut(hv:Ie v)(hn:v.length<=1024)(ha:inN v.length a)(hb:inN v.length b):∃s,lfix (Mb v a b []) (([]:LI),0)=some s/\Best v a b v.length s:=by
 refine Aw (B:=Mb v a b []) (fun s=>v.length-s.2.toNat) (fun s=>0<=s.2/\s.2<=(v.length:Int)/\Best v a b s.2 s.1/\(s.1.length:Int)<=s.2) (fun t=>Best v a b v.length t) (fun s hs=>?_) _ ⟨s_,s_,Best.nil,s_⟩;obtain⟨l,k⟩:=s;obtain⟨h1,h2,h3,h4⟩:=hs;dsimp only at h1 h2 h3 h4;unfold Mb;dsimp only
 by_cases hk:k<(v.length:Int)
 ·left;have hkn:inN v.length k:=⟨h1,hk⟩;obtain⟨xa,fa,pa⟩:=Ry (v:=v) ha;obtain⟨xb,fb,pb⟩:=Ry (v:=v) hb;obtain⟨xk,fk,pk⟩:=Ry (v:=v) hkn;have w1:w64 (k+1)=k+1:=Aq oo oo;have sg:Int.sign (crs (plV v a) (plV v b) (plV v k))<=0↔crs (plV v a) (plV v b) (plV v k)<=0:=by
   have:=@Int.sign_eq_one_iff_pos (crs (plV v a) (plV v b) (plV v k));have:=Int.sign_trichotomy (crs (plV v a) (plV v b) (plV v k));omega
  have go:∀l',Best v a b (k+1) l'->(l'.length:Int)<=k+1->∃s',(some (.inl (l',w64 (k+1))):Option (Sum (LI×Int) LI))=some (.inl s')/\(0<=s'.2/\s'.2<=(v.length:Int)/\Best v a b s'.2 s'.1/\(s'.1.length:Int)<=s'.2)/\v.length-s'.2.toNat<v.length-k.toNat:=fun l' g g'=>
   ⟨_,rfl,⟨by dsimp only;omega,by dsimp only;omega,by dsimp only;rw[w1];exact g,by dsimp only;omega⟩,by dsimp only;omega⟩
  rw[if_pos hk,jn_d,jn_d,fa,Ad,fb,Ad,fk,Ad];unfold As;rw[Ad,Ad,Ad,pa,pb,pk,Aab (hv.ok _ ha) (hv.ok _ hb) (hv.ok _ hkn),Ad]
  by_cases c1:crs (plV v a) (plV v b) (plV v k)<=0
  .rw[if_pos (sg.2 c1)];dsimp only;rw[if_pos rfl];exact go l (h3.skip c1) oo
  .have hp:0<crs (plV v a) (plV v b) (plV v k):=oo;rw[if_neg (fun g=>c1 (sg.1 g)),Aod,Ad,if_pos rfl,Aod,Ad];dsimp only;rw[if_neg s_]
   by_cases c2:l=[]
   .subst c2;rw[if_pos s_];exact go [k] (h3.first hkn hp) (by simp;omega)
   .obtain⟨c,r,rfl⟩:=exists_cons_of_ne_nil c2;have hc:c∈c::r:=s_;have hcn:=(h3.mem c hc).1;obtain⟨xc,fc,pc⟩:=Ry (v:=v) hcn;have i0:idx (c::r) 0=some c:=Am (l:=c::r) (j:=0) s_;rw[if_neg (by simp;omega)];simp only[i0,fc,Ad,pc,pa,pb,pk];rw[Aqh (hv.ok _ ha) (hv.ok _ hb) (hv.ok _ hcn) (hv.ok _ hkn),Ad];rcases Int.lt_trichotomy (inC (plV v a) (plV v b) (plV v c) (plV v k)) 0 with g|g|g
    .rw[Int.sign_eq_neg_one_of_neg g,if_neg oo,if_neg oo];exact go _ (h3.worse hc g) oo
    .rw[g,Int.sign_zero,if_neg oo,if_pos rfl,gd_t oo];exact go _ (h3.tie hkn hp hc g) (by rw[length_append,length_singleton];omega)
    .rw[Int.sign_eq_one_of_pos g,if_pos rfl];exact go [k] (h3.better hkn hp hc g) (by simp;omega)
 .right;rw[if_neg hk];have:k=v.length:=oo;subst this;exact⟨_,rfl,h3⟩
theorem Ba0{l:LI}(hl:l.length<=5000)(c:Int):lfix (Ly l c) (false,0)=some (decide (c∈l)):=by
 have:=Aw (B:=Ly l c) (fun s=>l.length-s.2.toNat) (fun s=>∃k:Nat,k<=l.length/\s=(decide (c∈l.take k),(k:Int))) (fun t=>t=decide (c∈l)) (fun s hs=>by
  obtain⟨k,hk,rfl⟩:=hs;unfold Ly;dsimp only
  by_cases hk2:k<l.length
  ·left;rw[if_pos oo,jn_d,Am hk2,Ad,show w64 ((k:Int)+1)=((k+1:Nat):Int) from by rw[Aq oo oo];omega];refine⟨_,?_,⟨k+1,hk2,rfl⟩,by dsimp only;omega⟩;have e:(c∈l.take (k+1))↔(c∈l.take k\/l[k]=c):=by
    rw[take_succ_eq_append_getElem hk2,mem_append,mem_singleton];exact or_congr_right ⟨fun h=>h.symm,fun h=>h.symm⟩
   by_cases h1:c∈l.take k
   .simp[h1,e]
   .simp[h1,e]
  .right;rw[if_neg oo];have:k=l.length:=oo;subst this;exact⟨_,rfl,by rw[take_length]⟩) (false,0) ⟨0,oo,s_⟩
 obtain⟨t,ht,rfl⟩:=this;exact ht
theorem Ba1(hv:Ie v)(hn:v.length<=1024)(ha:inN v.length a){l out:List Int}(hl:Circ v a b l)(hll:l.length<=1024)(ho:out.length<=5000)(hex:∃ y∈l,y ∉ out):
  ∃x,lfix (Lz l v a out) (-1,0)=some x/\x∈l/\x∉out/\∀y∈l,y∉out->y≠x->0<crs (plV v a) (plV v x) (plV v y):=by
 refine Aw (B:=Lz l v a out) (fun s=>l.length-s.2.toNat)
  (fun s=>∃k:Nat,k<=l.length/\s.2=(k:Int)/\((s.1 = -1/\∀y∈l.take k,y∈out)\/(s.1∈l/\s.1∉out/\∀y∈l.take k,y∉out->y≠s.1->0<crs (plV v a) (plV v s.1) (plV v y)))) _ (fun s hs=>?_) _ ⟨0,oo,rfl,.inl ⟨rfl,fun y hy=>by simp at hy⟩⟩
 obtain⟨x,i⟩:=s;obtain⟨k,hk,rfl,h3⟩:=hs;dsimp only at h3;unfold Lz;dsimp only
 by_cases hk2:k<l.length
 .left;have w1:w64 ((k:Int)+1)=((k+1:Nat):Int):=by rw[Aq oo oo];omega
  have hmem:l[k]∈l:=getElem_mem hk2;have ts:l.take (k+1)=l.take k++[l[k]]:=take_succ_eq_append_getElem hk2;have sub:∀y,y∈l.take k->y∈l:=fun y=>mem_of_mem_take
  rw[if_pos oo,jn_d,Am hk2,Ad,jn_d,Ba0 ho,Ad];dsimp only;rw[jn_d,w1]
  by_cases c1:l[k]∈out
  .rw[if_pos (by simpa using c1)];dsimp only;rw[if_neg s_];refine⟨_,rfl,⟨k+1,hk2,rfl,?_⟩,by dsimp only;omega⟩;dsimp only;rcases h3 with⟨g1,g2⟩|⟨g1,g2,g3⟩
   .refine .inl ⟨g1,fun y hy=>?_⟩;rw[ts,mem_append,mem_singleton] at hy;rcases hy with hy|rfl
    .exact g2 y hy
    .exact c1
   .refine .inr ⟨g1,g2,fun y hy hno=>?_⟩;rw[ts,mem_append,mem_singleton] at hy;rcases hy with hy|rfl
    .exact g3 y hy hno
    .exact absurd c1 hno
  .rw[if_neg (by simpa using c1)]
   by_cases c2:x<0
   .rw[if_pos c2];dsimp only;rw[if_pos rfl];refine⟨_,rfl,⟨k+1,hk2,rfl,.inr ⟨hmem,c1,fun y hy hno hne=>?_⟩⟩,by dsimp only;omega⟩;dsimp only at hne⊢;rw[ts,mem_append,mem_singleton] at hy;rcases hy with hy|rfl
    .rcases h3 with⟨_,g⟩|⟨g,_⟩
     .exact absurd (g y hy) hno
     .have:=(hl.mem x g).1.1;omega
    .exact absurd rfl hne
   ·obtain⟨g1,g2,g3⟩:x∈l/\x ∉ out/\∀ y∈l.take k,y ∉ out->y≠x->0<crs (plV v a) (plV v x) (plV v y):=by
     rcases h3 with g|g
     .omega
     .exact g
    obtain⟨xa,fa,pa⟩:=Ry (v:=v) ha;obtain⟨xk,fk,pk⟩:=Ry (v:=v) (hl.mem _ hmem).1;obtain⟨xx,fx,px⟩:=Ry (v:=v) (hl.mem _ g1).1;rw[if_neg c2,fa,Ad,fk,Ad,fx,Ad];unfold As;rw[Ad,Ad,Ad,pa,pk,px,Aab (hv.ok _ ha) (hv.ok _ (hl.mem _ hmem).1) (hv.ok _ (hl.mem _ g1).1),Ad];have sg:0<Int.sign (crs (plV v a) (plV v l[k]) (plV v x))↔0<crs (plV v a) (plV v l[k]) (plV v x):=Int.sign_pos_iff
    by_cases c3:0<crs (plV v a) (plV v l[k]) (plV v x)
    .dsimp only;rw[if_pos (by simpa using sg.2 c3)];refine⟨_,rfl,⟨k+1,hk2,rfl,.inr ⟨hmem,c1,fun y hy hno hne=>?_⟩⟩,by dsimp only;omega⟩;dsimp only at hne⊢;rw[ts,mem_append,mem_singleton] at hy;rcases hy with hy|rfl
     .by_cases e:y=x
      .rw[e];exact c3
      .exact hl.trans hmem g1 (sub y hy) c3 (g3 y hy hno e)
     .exact absurd rfl hne
    .dsimp only;rw[if_neg (by simpa using fun g=>c3 (sg.1 g))];refine⟨_,rfl,⟨k+1,hk2,rfl,.inr ⟨g1,g2,fun y hy hno hne=>?_⟩⟩,by dsimp only;omega⟩;dsimp only at hne⊢;rw[ts,mem_append,mem_singleton] at hy;rcases hy with hy|rfl
     .exact g3 y hy hno hne
     .have:=hl.ne0 hv hmem g1 hne;rw[Ae4];omega
 .right;rw[if_neg oo];have:k=l.length:=oo;subst this;rw[take_length] at h3;rcases h3 with⟨_,g⟩|g
  .obtain⟨y,hy,hno⟩:=hex;exact absurd (g y hy) hno
  .exact⟨_,rfl,g⟩
theorem ring_eq(hv:Ie v)(hn:v.length<=1024)(ha:inN v.length a){l:List Int}(hl:Circ v a b l)(hll:l.length<=1024):
  ∃m,Ql v a b l=some (a::b::m)/\Ring v a b m/\(∀x,x∈m↔x∈l):=by
 have hal:a∉l:=fun h=>by have:=(hl.mem a h).2;rw[Gt] at this;omega
 have hbl:b∉l:=fun h=>by have:=(hl.mem b h).2;rw[Cd] at this;omega
 unfold Ql;rw[jn_d];have:=Aw (B:=Pz l v a) (fun s=>l.length+2-s.length)
  (fun s=>∃m:LI,s=a::b::m/\m.Nodup/\(∀x∈m,x∈l)/\(m.Pairwise fun x y=>0<crs (plV v a) (plV v x) (plV v y))/\∀x∈m,∀y∈l,y∉m->0<crs (plV v a) (plV v x) (plV v y))
  (fun t=>∃m:LI,t=a::b::m/\m.Nodup/\(∀x,x∈m↔x∈l)/\(m.Pairwise fun x y=>0<crs (plV v a) (plV v x) (plV v y))) (fun s hs=>by
  obtain⟨m,rfl,h1,h2,h3,h4⟩:=hs;have hle:=Bm h1 h2;unfold Pz;rw[Aq (x:=(l.length:Int)+2) oo oo]
  by_cases c:m.length<l.length
  ·left;rw[if_pos (by simp only[length_cons];omega),jn_d];have hex:∃ y∈l,y ∉ a::b::m:=by
    refine Classical.byContradiction fun hno=>?_
    have:∀y∈l,y∈m:=fun y hy=>by
     refine Classical.byContradiction fun g=>hno ⟨y,hy,fun e=>?_⟩
     rcases mem_cons.1 e with rfl|e
     .exact hal hy
     .rcases mem_cons.1 e with rfl|e
      .exact hbl hy
      .exact g e
    have:=Bm hl.nd this;omega
   obtain⟨x,e1,e2,e3,e4⟩:=Ba1 hv hn ha hl hll (out:=a::b::m) (by simp only[length_cons];omega) hex;rw[e1,Ad];dsimp only;rw[gd_t (by simp only[length_cons];omega)];have hxm:x∉m:=fun g=>e3 (by simp[g])
   refine⟨_,rfl,⟨m++[x],rfl,?_,fun y hy=>?_,?_,fun y hy z hz hzn=>?_⟩,by simp only[cons_append,length_cons,length_append,length_nil];omega⟩
   .rw[nodup_append];refine⟨h1,s_,fun y hy z hz e=>?_⟩;rw[mem_singleton] at hz;subst hz;subst e;exact hxm hy
   .rcases mem_append.1 hy with hy|hy
    .exact h2 y hy
    .rw[mem_singleton] at hy;subst hy;exact e2
   .rw[pairwise_append];refine⟨h3,s_,fun y hy z hz=>?_⟩;rw[mem_singleton] at hz;subst hz;exact h4 y hy z e2 hxm
   .have hzm:z∉m:=fun g=>hzn (by simp[g])
    have hzx:z≠x:=fun g=>hzn (by simp[g])
    rcases mem_append.1 hy with hy|hy
    .exact h4 y hy z hz hzm
    .rw[mem_singleton] at hy;subst hy;refine e4 z hz (fun g=>?_) hzx;rcases mem_cons.1 g with rfl|g
     .exact hal hz
     .rcases mem_cons.1 g with rfl|g
      .exact hbl hz
      .exact hzm g
  .right;rw[if_neg (by simp only[length_cons];omega)];refine⟨_,rfl,m,rfl,h1,fun x=>⟨h2 x,fun hx=>?_⟩,h3⟩;refine Classical.byContradiction fun g=>?_
   have:(x::m).Nodup:=nodup_cons.2 ⟨g,h1⟩;have:=Bm this (fun y hy=>by rcases mem_cons.1 hy with rfl|hy;exact hx;exact h2 y hy);rw[length_cons] at this;omega) [a,b] ⟨[],rfl,nodup_nil,fun x hx=>(by cases hx),List.Pairwise.nil,fun x hx=>(by cases hx)⟩
 obtain⟨t,ht,m,rfl,h1,h2,h3⟩:=this;rw[ht,Ad];exact⟨m,rfl,⟨hl.sub (fun x hx=>(h2 x).1 hx) h1,h3⟩,h2⟩
theorem Bdu(hv:Ie v){r:List Int}(hr:r.length<=5000)(hne:r≠[])(hin:∀ x∈r,inN v.length x):
  ∃(m:Nat) (hm:m<r.length),lfix (Jy r v) (0,0)=some (m:Int)/\∀y∈r,¬befP (plV v y) (plV v r[m]):=by
 have:=Aw (B:=Jy r v) (fun s=>r.length-s.2.toNat)
  (fun s=>∃(m k:Nat) (hm:m<r.length),k<=r.length/\s=((m:Int),(k:Int))/\∀y∈r.take k,¬befP (plV v y) (plV v r[m])) (fun t=>∃(m:Nat) (hm:m<r.length),t=(m:Int)/\∀y∈r,¬befP (plV v y) (plV v r[m])) (fun s hs=>by
  obtain⟨m,k,hm,hk,rfl,h⟩:=hs;unfold Jy;dsimp only
  by_cases hk2:k<r.length
  .left;have ts:r.take (k+1)=r.take k++[r[k]]:=take_succ_eq_append_getElem hk2;obtain⟨xk,fk,pk⟩:=Ry (v:=v) (hin _ (getElem_mem hk2));obtain⟨xm,fm,pm⟩:=Ry (v:=v) (hin _ (getElem_mem hm));rw[if_pos oo,jn_d,Am hk2,Ad,fk,Ad,Am hm,Ad,fm,Ad];unfold As;rw[Ad,Ad,pk,pm,Ai7,Ad,show w64 ((k:Int)+1)=((k+1:Nat):Int) from by rw[Aq oo oo];omega]
   by_cases c:befP (plV v r[k]) (plV v r[m])
   .rw[if_pos (by simpa using c)];refine⟨_,rfl,⟨k,k+1,hk2,hk2,rfl,fun y hy=>?_⟩,by dsimp only;omega⟩;rw[ts,mem_append,mem_singleton] at hy;rcases hy with hy|rfl
    .exact fun g=>h y hy (Lj g c)
    .exact Asu _
   .rw[if_neg (by simpa using c)];refine⟨_,rfl,⟨m,k+1,hm,hk2,rfl,fun y hy=>?_⟩,by dsimp only;omega⟩;rw[ts,mem_append,mem_singleton] at hy;rcases hy with hy|rfl
    .exact h y hy
    .exact c
  .right;rw[if_neg oo];have:k=r.length:=oo;subst this;rw[take_length] at h;exact⟨_,rfl,m,hm,rfl,h⟩) (0,0) ⟨0,0,length_pos_iff.2 hne,oo,rfl,fun y hy=>by simp at hy⟩
 obtain⟨t,ht,m,hm,rfl,h⟩:=this;exact⟨m,hm,ht,h⟩
theorem Ax8{α:Type}{l:List α}(h:l.Nodup){i j:Nat}(hi:i<l.length)(hj:j<l.length)(hne:i≠j):l[i]≠l[j]:=by
 have:=pairwise_iff_getElem.1 h;rcases Nat.lt_trichotomy i j with g|g|g
 .exact this i j hi hj g
 .exact absurd g hne
 .exact fun e=>this j i hj hi g e.symm
theorem Ba2{r:LI}(hr:r.length<=5000)(hn:r.Nodup){m:Nat}(hm:m<r.length):lfix (Ix r m) (([]:LI),0)=some (r.filter fun y=>decide (y≠r[m])):=by
 have:=Aw (B:=Ix r m) (fun s=>r.length-s.2.toNat) (fun s=>∃k:Nat,k<=r.length/\s=((r.take k).filter (fun y=>decide (y≠r[m])),(k:Int))) (fun t=>t=r.filter fun y=>decide (y≠r[m])) (fun s hs=>by
  obtain⟨k,hk,rfl⟩:=hs;unfold Ix;dsimp only
  by_cases hk2:k<r.length
  .left;have ts:r.take (k+1)=r.take k++[r[k]]:=take_succ_eq_append_getElem hk2;have w1:w64 ((k:Int)+1)=((k+1:Nat):Int):=by rw[Aq oo oo];omega
   rw[if_pos oo,jn_d,w1]
   by_cases c:k=m
   .subst c;rw[if_pos rfl];refine⟨_,rfl,⟨k+1,hk2,?_⟩,by dsimp only;omega⟩;rw[ts,filter_append];simp
   ·have hne:r[k]≠r[m]:=Ax8 hn hk2 hm c;have hle:((r.take k).filter fun y=>decide (y≠r[m])).length<=r.length:=by
     have h1:=length_filter_le (fun y=>decide (y≠r[m])) (r.take k);rw[length_take] at h1;omega
    rw[if_neg oo,Am hk2,Ad,gd_t oo];refine⟨_,rfl,⟨k+1,hk2,?_⟩,by dsimp only;omega⟩;rw[ts,filter_append];simp[hne]
  .right;rw[if_neg oo];have:k=r.length:=oo;subst this;exact⟨_,rfl,by rw[take_length]⟩) (([]:LI),0) ⟨0,oo,s_⟩
 obtain⟨t,ht,rfl⟩:=this;exact ht
theorem tm(x n:Int)(hx:0<=x):Int.tmod x n=x%n:=Int.tmod_eq_emod_of_nonneg hx
theorem Aqp(hv:Ie v)(hn:v.length<=1024)(ha:inN v.length a)(hb:inN v.length b):∀ (n:Nat) (l:List Int),l.length=n->n<=1024->l≠[]->Ring v a b l ->
  ∃c,Ans v a b l c/\(lfix (Eh b a v) (a::b::l)=some (.inr c)\/lfix (Eh b a v) (a::b::l)=some (.inl [a,b,c])):=by
 intro n
 induction n with
 |zero=>intro l hl _ hne _;exact absurd (eq_nil_of_length_eq_zero hl) hne
 |succ n ih=>
  intro l hl hn1 hne hr;have hal:a∉l:=fun h=>by have:=(hr.circ.mem a h).2;rw[Gt] at this;omega
  have hbl:b∉l:=fun h=>by have:=(hr.circ.mem b h).2;rw[Cd] at this;omega
  have hab:a≠b:=fun e=>by
   obtain⟨x,hx⟩:=exists_mem_of_ne_nil l hne;have:=(hr.circ.mem x hx).2;rw[e,Aac] at this;omega
  by_cases hn0:n=0
  .subst hn0;obtain⟨c,rfl⟩:=length_eq_one_iff.1 hl;refine⟨c,⟨s_,fun d hd hne=>absurd (by simpa using hd) hne⟩,.inr ?_⟩;rw[Ay];unfold Eh;rw[if_neg s_]
  .have hlen:(a::b::l).length=n+3:=by simp[hl]
   have hnd:(a::b::l).Nodup:=by
    rw[nodup_cons,nodup_cons];refine⟨fun h=>?_,hbl,hr.circ.nd⟩;rcases mem_cons.1 h with h|h
    .exact hab h
    .exact hal h
   have hin:∀x∈a::b::l,inN v.length x:=fun x hx=>by
    rcases mem_cons.1 hx with rfl|hx
    .exact ha
    .rcases mem_cons.1 hx with rfl|hx
     .exact hb
     .exact (hr.circ.mem x hx).1
   obtain⟨m,hm,h1,h2⟩:=Bdu (r:=a::b::l) hv oo s_ hin;have far:∀y∈a::b::l,y≠(a::b::l)[m]->befP (plV v (a::b::l)[m]) (plV v y):=fun y hy hne=>by
    rcases Px (Aah hv (hin _ (getElem_mem hm)) (hin y hy) (fun e=>hne e.symm)) with g|g
    .exact g
    .exact absurd g (h2 y hy)
   have step:∀ x y z,idx (a::b::l) (Int.tmod (w64 ((w64 ((m:Int)+(((a::b::l).length:Nat):Int)))-1)) (((a::b::l).length:Nat):Int))=some x->idx (a::b::l) (Int.tmod (w64 ((m:Int)+1)) (((a::b::l).length:Nat):Int))=some y->(a::b::l)[m]=z ->
     Eh b a v (a::b::l)=if z=a/\y=b then some (.inr (.inr x)) else if z=b/\x=a then some (.inr (.inr y)) else some (.inl ((a::b::l).filter fun y=>decide (y≠z))):=fun x y z hx hy hz=>by
    unfold Eh;rw[if_pos oo,jn_d,h1,Ad];dsimp only;rw[gd_t oo,hx,Ad,gd_t oo,hy,Ad,jn_d,Am hm,Ad,hz];have c:=Ba2 (r:=a::b::l) oo hnd hm;rw[hz] at c;rw[jn_d,Ad,jn_d,c,Ad];dsimp only;have hba:b≠a:=fun e=>hab e.symm
    by_cases e1:z=a
    .have e3:z≠b:=fun e=>hab (by rw[<-e1,e])
     by_cases e2:y=b
     .simp[e1,e2]
     .simp[e1,e2,hab]
    .by_cases e3:z=b
     .by_cases e4:x=a
      .simp[e3,e4,hba]
      .simp[e3,e4,hba]
     .simp[e1,e3]
   have m1:Int.tmod (w64 ((w64 ((m:Int)+(((a::b::l).length:Nat):Int)))-1)) (((a::b::l).length:Nat):Int)=((m:Int)+(n+2))%(n+3):=by
    rw[hlen,Aq (x:=(m:Int)+((n+3:Nat):Int)) oo oo,Aq oo oo,tm _ _ oo];congr 1;omega
   have m2:Int.tmod (w64 ((m:Int)+1)) (((a::b::l).length:Nat):Int)=((m:Int)+1)%(n+3):=by
    rw[hlen,Aq oo oo,tm _ _ oo];rfl
   rw[m1,m2] at step;rw[hlen] at hm
   by_cases cm0:m=0
   ·-- a is the first
    subst cm0;obtain⟨l',c,rfl⟩:∃l' c,l=l'++[c]:=⟨l.dropLast,l.getLast hne,(dropLast_concat_getLast hne).symm⟩;have i1:idx (a::b::(l'++[c])) (((0:Nat):Int)+(n+2))=some c:=by
     have:(((0:Nat):Int)+(n+2))=((n+2:Nat):Int):=oo;rw[this,Am (by rw[hlen];omega)];have hn':l'.length=n:=by simpa using hl
     congr 1;simp only[getElem_cons_succ];rw[getElem_append_right oo];simp[hn']
    have i2:idx (a::b::(l'++[c])) (((0:Nat):Int)+1)=some b:=Am (l:=a::b::(l'++[c])) (j:=1) s_;rw[Int.emod_eq_of_lt oo oo,Int.emod_eq_of_lt oo oo] at step;have st:=step c b a i1 i2 rfl;rw[if_pos ⟨rfl,rfl⟩] at st;refine⟨c,hr.ans_a hv ha hb (far b s_ (fun e=>hab e.symm)) (fun x hx=>far x (by simp only[mem_cons];exact .inr (.inr hx)) (fun e=>?_)),.inl ?_⟩
    .have e:x=a:=e;rw[e] at hx;exact hal hx
    .rw[Ay,st]
   .by_cases cm1:m=1
    ·subst cm1;obtain⟨c,l',rfl⟩:=exists_cons_of_ne_nil hne;have i1:idx (a::b::c::l') ((((1:Nat):Int)+(n+2)) % (n+3))=some a:=by
      have:(((1:Nat):Int)+(n+2))%(n+3)=((0:Nat):Int):=by
       rw[show (((1:Nat):Int)+((n:Int)+2))=(n:Int)+3 by omega,Int.emod_self];rfl
      rw[this];exact Am (l:=a::b::c::l') (j:=0) s_
     have i2:idx (a::b::c::l') ((((1:Nat):Int)+1)%(n+3))=some c:=by
      rw[Int.emod_eq_of_lt oo oo];exact Am (l:=a::b::c::l') (j:=2) s_
     have st:=step a c b i1 i2 rfl;rw[if_neg (fun g=>hab g.1.symm),if_pos ⟨rfl,rfl⟩] at st;refine⟨c,hr.ans_b hv ha hb (far a s_ hab) (fun x hx=>far x (by simp only[mem_cons] at hx⊢;exact .inr (.inr hx)) (fun e=>?_)),.inl ?_⟩
     .have e:x=b:=e;rw[e] at hx;exact hbl hx
     .rw[Ay,st]
    ·-- one of the others
     obtain⟨k,rfl⟩:∃k,m=k+2:=⟨m-2,oo⟩;have hk:k<l.length:=oo;have hx:(a::b::l)[k+2]'(by rw[hlen];omega)=l[k]:=rfl;have hxl:l[k]∈l:=getElem_mem hk;have e1:∃x,idx (a::b::l) ((((k+2:Nat):Int)+(n+2))%(n+3))=some x:=by
      obtain⟨j,hj⟩:=Int.eq_ofNat_of_zero_le (Int.emod_nonneg (((k+2:Nat):Int)+(n+2)) (show ((n:Int)+3)≠0 by omega));have:=Int.emod_lt_of_pos (((k+2:Nat):Int)+(n+2)) (show (0:Int)<(n:Int)+3 by omega);rw[hj] at this⊢;exact⟨_,Am (by rw[hlen];omega)⟩
     have e2:∃x,idx (a::b::l) ((((k+2:Nat):Int)+1)%(n+3))=some x:=by
      obtain⟨j,hj⟩:=Int.eq_ofNat_of_zero_le (Int.emod_nonneg (((k+2:Nat):Int)+1) (show ((n:Int)+3)≠0 by omega));have:=Int.emod_lt_of_pos (((k+2:Nat):Int)+1) (show (0:Int)<(n:Int)+3 by omega);rw[hj] at this⊢;exact⟨_,Am (by rw[hlen];omega)⟩
     obtain⟨x,e1⟩:=e1;obtain⟨y,e2⟩:=e2;have st:=step x y l[k] e1 e2 hx;have na:l[k]≠a:=fun e=>hal (e▸hxl)
     have nb:l[k]≠b:=fun e=>hbl (e▸hxl)
     rw[if_neg (fun g=>na g.1),if_neg (fun g=>nb g.1),filter_cons_of_pos (by simpa using fun e=>na e.symm),filter_cons_of_pos (by simpa using fun e=>nb e.symm)] at st;have hsub:∀z,z∈(l.filter fun y=>decide (y≠l[k]))↔z∈l/\z≠l[k]:=fun z=>by rw[mem_filter];simp
     have hlen2:(l.filter fun y=>decide (y≠l[k])).length=n:=by
      have h3:=hr.circ.nd.erase_eq_filter l[k];have h4:(l.filter fun y=>decide (y≠l[k]))=l.filter (fun y=>y != l[k]):=filter_congr fun y _=>by by_cases g:y=l[k] <;> simp[g]
      rw[h4,<-h3,length_erase_of_mem hxl,hl];rfl
     obtain⟨c,g1,g2⟩:=ih _ hlen2 oo (fun e=>by rw[e] at hlen2;simp at hlen2;omega) ⟨hr.circ.sub (fun z hz=>((hsub z).1 hz).1) (hr.circ.nd.filter _),hr.ord.filter _⟩;rw[hx] at far;refine⟨c,hr.ans_cut hv ha hb hxl (far a s_ (fun e=>na e.symm)) (far b s_ (fun e=>nb e.symm)) (fun z hz hzn=>far z (by simp[hz]) hzn) hsub g1,?_⟩;rw[Ay,st];exact g2
theorem Ax9(hv:Ie v)(hn:v.length<=1024)(ha:inN v.length a)(hb:inN v.length b){l:LI}(hll:l.length<=1024)(hne:l≠[])(hr:Ring v a b l):∃c,Pn v a b (a::b::l)=some c/\Ans v a b l c:=by
 obtain⟨c,h1,h2⟩:=Aqp hv hn ha hb l.length l rfl hll hne hr;refine⟨c,?_,h1⟩;unfold Pn;rw[jn_d];rcases h2 with h2|h2
 .rw[h2,Ad]
 .rw[h2,Ad];dsimp only;have hc:=hr.circ.mem c h1.1;have nca:c≠a:=fun e=>by have:=hc.2;rw[e,Gt] at this;omega
  have ncb:c≠b:=fun e=>by have:=hc.2;rw[e,Cd] at this;omega
  have nab:b≠a:=fun e=>by have:=hc.2;rw[e,Aac] at this;omega
  have s0:Cm [a,b,c] a b 0=some (.inl 1):=by
   unfold Cm;rw[if_pos s_,show idx [a,b,c] 0=some a from rfl,Ad,jn_d,if_pos rfl];dsimp only;rw[if_neg s_,Aq oo oo];rfl
  have s1:Cm [a,b,c] a b 1=some (.inl 2):=by
   unfold Cm;rw[if_pos s_,show idx [a,b,c] 1=some b from rfl,Ad,jn_d,if_neg nab];dsimp only;rw[if_neg s_,Aq oo oo];rfl
  have s2:Cm [a,b,c] a b 2=some (.inr (.inr c)):=by
   unfold Cm;rw[if_pos s_,show idx [a,b,c] 2=some c from rfl,Ad,jn_d,if_neg nca];dsimp only;rw[if_pos (by simpa using ncb)]
  rw[jn_d,Ay,s0];dsimp only;rw[Ay,s1];dsimp only;rw[Ay,s2,Ad]
theorem Al8(hv:Ie v)(hn:v.length<=1024)(ha:inN v.length a)(hb:inN v.length b):∃c,Qm v [] a b=some c/\((c = -1/\∀d,inN v.length d->crs (plV v a) (plV v b) (plV v d)<=0)\/Top v a b c):=by
 obtain⟨s,h1,h2⟩:=Aut hv hn ha hb;unfold Qm;rw[jn_d,h1,Ad];dsimp only
 by_cases hs:s=[]
 .rw[if_pos (by simp[hs])];exact⟨-1,rfl,.inl ⟨rfl,fun d hd=>h2.none hs d hd hd.2⟩⟩
 ·have hpos:=length_pos_iff.2 hs;have hle:s.length<=1024:=by
   have:=Bm (m:=inds v.length) h2.nd (fun x hx=>Wc.2 (h2.mem x hx).1);rw[Zu] at this;omega
  rw[if_neg oo];obtain⟨m,g1,g2,g3⟩:=ring_eq hv hn ha h2.circ hle;have hm:m≠[]:=fun e=>by
   obtain⟨x,hx⟩:=exists_mem_of_ne_nil s hs;have:=(g3 x).2 hx;rw[e] at this;cases this
  have hml:m.length<=1024:=by
   have:=Bm g2.circ.nd (fun x hx=>(g3 x).1 hx);omega
  obtain⟨c,e1,e2⟩:=Ax9 hv hn ha hb hml hm g2;rw[g1,Ad,e1,Ad];exact⟨c,rfl,.inr (h2.ans hv ha hb g3 e2)⟩
end
end Go.Proofs.YthlkpgdfifnagaaGreat
