import Derived.Test.YthlkpgdfifnagaaGreatI16
set_option maxRecDepth 100000
set_option maxHeartbeats 1000000
namespace Go.Proofs.YthlkpgdfifnagaaGreat
open Go Go.RowKit Tryz List
noncomputable section
instance(x0:Int)(x1:Int):Ji prog 30 [(1,.int .i64 x0),(2,.int .i64 x1)] [.int .i64 0,.int .i64 x0,.int .i64 x1,.int .i64 0,.int .i64 0,.int .i64 0,.int .i64 0,.int .i64 0,.int .i64 0]:=⟨fun w=>kr⟩
def Ez(p0:Av)(p1:Av):Option Int :=
 bnd (Vs p0 p1) fun r3=>
 some r3.1
def Nd(p0:Al)(p1:Aa)(p2:Af):Option (Bool×Int×Int):=
 bnd (Jw p0 (⟨p1.X,p1.Y⟩:Ab)) fun r5=>
 if r5.2=0 then (bnd (Gr p0 (⟨p1.X,p1.Y⟩:Ab)) fun r0=>
 bnd (Ez p1.Z r0.1) fun r1=>
 if p2.Reach<r1 then (some (false,0,0))
 else (bnd (idx p0.T r5.1) fun x0=>
 bnd (idx p0.V x0.a0) fun x1=>
 bnd (Bw (⟨0,x1.X,x1.Y,(⟨0,0⟩:Av),0,0,0,0⟩:Aa) p1) fun r2=>
 bnd (Ez p1.Z x1.Z) fun r3=>
 bnd (Be r3) fun r4=>
 bnd (Be 1000000) fun r6=>
 bnd (Bd r6 r4) fun r7=>
 bnd (Bd r7 r4) fun r8=>
 bnd (Be (w64 (p2.Slope*p2.Slope))) fun r9=>
 bnd (Be r2) fun r86=>
 bnd (Bd r9 r86) fun r95=>
 bnd (Cu r8 r95) fun r10=>
 if 0<r10 then (some (false,0,0))
 else (bnd (idx p0.T r5.1) fun x2=>
 bnd (idx p0.V x2.a1) fun x3=>
 bnd (Bw (⟨0,x3.X,x3.Y,(⟨0,0⟩:Av),0,0,0,0⟩:Aa) p1) fun r12=>
 bnd (Ez p1.Z x3.Z) fun r13=>
 bnd (Be r13) fun r14=>
 bnd (Be 1000000) fun r16=>
 bnd (Bd r16 r14) fun r17=>
 bnd (Bd r17 r14) fun r18=>
 bnd (Be (w64 (p2.Slope*p2.Slope))) fun r19=>
 bnd (Be r12) fun r20=>
 bnd (Bd r19 r20) fun r21=>
 bnd (Cu r18 r21) fun r22=>
 if 0<r22 then (some (false,0,0))
 else (bnd (idx p0.T r5.1) fun x4=>
 bnd (idx p0.V x4.a2) fun x5=>
 bnd (Bw (⟨0,x5.X,x5.Y,(⟨0,0⟩:Av),0,0,0,0⟩:Aa) p1) fun r23=>
 bnd (Ez p1.Z x5.Z) fun r24=>
 bnd (Be r24) fun r25=>
 bnd (Be 1000000) fun r26=>
 bnd (Bd r26 r25) fun r27=>
 bnd (Bd r27 r25) fun r28=>
 bnd (Be (w64 (p2.Slope*p2.Slope))) fun r29=>
 bnd (Be r23) fun r30=>
 bnd (Bd r29 r30) fun r31=>
 bnd (Cu r28 r31) fun r32=>
 if 0<r32 then (some (false,0,0))
 else (some (true,r1,r5.1))))))
 else (some (false,0,0))
def Lw(r9:Al×Int):(LI×Int)->Option (Sum (LI×Int) LI):=fun s0=>
 if s0.2<(r9.1.T.length:Int) then (bnd (idx s0.1 s0.2) fun x0=>
 some (.inl (setI s0.1 s0.2 (-1),w64 (s0.2+1))))
 else (some (.inr s0.1))
def Jz(r0:List Aa)(p1:List Aa)(r9:Al×Int)(p2:Af):(LI×LI×Int)->Option (Sum (LI×LI×Int) LI):=fun s0=>
 if s0.2.2<(r0.length:Int) then (jn (fun (s1:LI×LI)=>
 some (.inl (s1.1,s1.2,w64 (s0.2.2+1))))
 (fun j0=>bnd (idx r0 s0.2.2) fun x0=>
 bnd (Dn p1) fun r1=>
 bnd (Fd r1 x0.Id) fun r2=>
 if r2=true then (j0 (s0.1,s0.2.1))
 else (bnd (idx r0 s0.2.2) fun x1=>
 bnd (Nd r9.1 x1 p2) fun r3=>
 if r3.1=true then (jn (fun (s2:Bool)=>
 if s2=true then (bnd (idx s0.1 r3.2.2) fun x2=>
 bnd (idx s0.2.1 r3.2.2) fun x3=>
 j0 (setI s0.1 r3.2.2 s0.2.2,setI s0.2.1 r3.2.2 r3.2.1))
 else (j0 (s0.1,s0.2.1)))
 (fun j1=>bnd (idx s0.1 r3.2.2) fun x4=>
 if x4<0 then (j1 true)
 else (bnd (idx s0.2.1 r3.2.2) fun x5=>
 if r3.2.1<x5 then (j1 true)
 else (bnd (idx s0.2.1 r3.2.2) fun x6=>
 if r3.2.1=x6 then (bnd (idx r0 s0.2.2) fun x7=>
 bnd (idx s0.1 r3.2.2) fun x8=>
 bnd (idx r0 x8) fun x9=>
 bnd (Ik x7 x9) fun r4=>
 j1 r4)
 else (j1 false)))))
 else (j0 (s0.1,s0.2.1)))))
 else (some (.inr s0.1))
def Ka(r9:Al×Int)(s0:LI)(r0:List Aa):(List Aa×Int)->Option (Sum (List Aa×Int) (List Aa)):=fun s1=>
 if s1.2<(r9.1.T.length:Int) then (jn (fun (s2:List Aa)=>
 some (.inl (s2,w64 (s1.2+1))))
 (fun j0=>bnd (idx s0 s1.2) fun x0=>
 if 0<=x0 then (bnd (idx s0 s1.2) fun x1=>
 bnd (idx r0 x1) fun x2=>
 gd ((s1.1.length+1)*72<=140737488355328)<|
 j0 (s1.1++[x2]))
 else (j0 s1.1)))
 else (some (.inr s1.1))
def Ne(p0:List Aa)(p1:List Aa)(p2:Af):Option (List Aa×Int):=
 bnd (Eo p1) fun r2=>
 bnd (Fj r2) fun r9=>
 if r9.2=0 then (bnd (Es p0 p2) fun r0=>
 gd ((0:Int)<=(r9.1.T.length:Int)/\8*Int.toNat (r9.1.T.length:Int)<=140737488355328)<|
 gd ((0:Int)<=(r9.1.T.length:Int)/\8*Int.toNat (r9.1.T.length:Int)<=140737488355328)<|
 jn (fun (s9:LI)=>
 jn (fun (s0:LI)=>
 gd (((([]:List Aa)).length+p1.length)*72<=140737488355328)<|
 jn (fun (s1:List Aa)=>
 some (s1,0))
 (fun j0=>bnd (lfix (Ka r9 s0 r0) ((([]:List Aa))++p1,0)) fun t0=>
 j0 t0))
 (fun j1=>bnd (lfix (Jz r0 p1 r9 p2) (s9,List.replicate (Int.toNat (r9.1.T.length:Int)) (0:Int),0)) fun t1=>
 j1 t1))
 (fun j9=>bnd (lfix (Lw r9) (List.replicate (Int.toNat (r9.1.T.length:Int)) (0:Int),0)) fun t2=>
 j9 t2))
 else (some (([]:List Aa),r9.2))
instance(p0:Av)(p1:Av):Con (Ez p0 p1) prog 86 (fun _ vs=>vs=[.agg #[.int .i64 p0.Lo,.int .i64 p0.Hi],.agg #[.int .i64 p1.Lo,.int .i64 p1.Hi]]) (fun _ r v Ln=>v=.int .i64 r/\Ln=[]/\True):=⟨by
 rintro _ _ r rfl hx w hK;unfold Ez at hx;refine CtS ntmps86 results86 ?_;exact au⟩
instance(p0:Al)(p1:Aa)(p2:Af):Con (Nd p0 p1 p2) prog 38 (fun K vs=>∃U0 E0 U1 E1 U2 E2,vs=[.agg #[.slice U0 p0.V.length E0,.slice U1 p0.T.length E1,.slice U2 p0.Lines.length E2],.agg #[.int .i64 p1.Id,.int .i64 p1.X,.int .i64 p1.Y,.int .i64 p1.Z.Lo,.int .i64 p1.Z.Hi,.int .i64 p1.Wide,.int .i64 p1.Num,.int .i64 p1.Of,.int .i64 p1.Class],.agg #[.int .i64 p2.Cell,.int .i64 p2.Reach,.int .i64 p2.Slope,.int .i64 p2.Link,.int .i64 p2.Flat,.int .i64 p2.Tall,.int .i64 p2.High,.int .i64 p2.Low,.int .i64 p2.Brush,.int .i64 p2.Few]]/\Has K U0 p0.V.length E0 4 Am p0.V/\Has K U1 p0.T.length E1 3 Az p0.T/\Has K U2 p0.Lines.length E2 2 Ar p0.Lines/\True) (fun _ r v Ln=>v=.tuple #[.bool r.1,.int .i64 r.2.1,.int .i64 r.2.2]/\Ln=[]/\True):=⟨by
 rintro K _ r ⟨U0,E0,U1,E1,U2,E2,rfl,ha0,ha1,ha2,-⟩ hx w hK;replace ha0:=ha0.lo hK;replace ha1:=ha1.lo hK;replace ha2:=ha2.lo hK;unfold Nd at hx;have:=dl 12 [0,1,0,1,0,0,0,0,1,0,1,2,3] [0,1,2,3,4,5,6,7,8,9,10,11,12];have:=dl 16 [2,1,2,1,2,4,3] [1,3,0,2,4,5,6] [5];have:=dl 17 [1,0,1,0,1,0,2,0,2,2,2,0] [0,1,2,3,4,5,7,6,8,9,10,11];refine CtS ntmps38 results38 ?_;refine pq ?_;intros;rename_i hx
 refine Cq2 (s:=33) hx rfl ?_ ?_
 .exact aI
 .refine pI ?_;intros;rename_i hx
  refine Cq1 (s:=47) hx rfl ?_ ?_
  .exact aI
  .refine pI ?_;intros;rename_i hx
   refine Cq1 (s:=93) hx rfl ?_ ?_
   .exact aI
   .refine pI ?_;intros;rename_i hx
    refine Cq1 (s:=93) hx rfl ?_ ?_
    .exact aI
    .refine pI ?_;intros;rename_i hx
     refine Cq1 (s:=93) hx rfl ?_ ?_
     .exact aI
     .exact aI⟩
instance(p0:List Aa)(p1:List Aa)(p2:Af):Con (Ne p0 p1 p2) prog 47 (fun K vs=>∃U0 E0 U1 E1,vs=[.slice U0 p0.length E0,.slice U1 p1.length E1,.agg #[.int .i64 p2.Cell,.int .i64 p2.Reach,.int .i64 p2.Slope,.int .i64 p2.Link,.int .i64 p2.Flat,.int .i64 p2.Tall,.int .i64 p2.High,.int .i64 p2.Low,.int .i64 p2.Brush,.int .i64 p2.Few]]/\Has K U0 p0.length E0 9 Ag p0/\Has K U1 p1.length E1 9 Ag p1/\True) (fun _ r v Ln=>∃A0 c0,v=.tuple #[.slice A0 r.1.length c0,.int .i64 r.2]/\Ln=[.r A0 r.1.length c0 30 9 (r.1.flatMap Ag)]/\True):=⟨by
 rintro K _ r ⟨U0,E0,U1,E1,rfl,ha0,ha1,-⟩ hx w hK;replace ha0:=ha0.lo hK;replace ha1:=ha1.lo hK;unfold Ne at hx;have:=dl 14 [0,2,0,0,0,0,1,2] [0,2,3,4,5,6,1,7];have:=dl 15 [1,0,0,0,1,1,2,0,0,0,0,2,2,2] [0,1,2,3,4,5,6,7,8,9,10,11,12,13];have:=dl 17 [0,0,0,1,0,0,0,0,0,0,1,0,0,0,0,0,0,0,1,0,0,0,0,0,1,0,0,0,0,1,0,1,2,0,0] [0,1,2,3,4,5,6,7,8,9,10,11,12,13,14,15,16,17,18,19,20,21,22,23,24,25,26,27,28,29,30,31,32,33,34];refine CtS ntmps47 results47 ?_;refine pq ?_;intros;rename_i hx
 refine Cq2 (s:=27) hx rfl ?_ ?_
 .exact aI
 .refine pI ?_;intros;rename_i hx
  refine pA ?_;intros;rename_i hx
  apply Jr (γ:=OA×Nat) hx [1,5,8,10,12] (fun s9 y9 f=>(11,.slice y9.1 s9.length y9.2)::f) [0,2,3,4,5,6,8,999] (fun s9 y9 l=>.r y9.1 s9.length y9.2 3 1 (s9.flatMap Ak)::l);exact kk
  .intro s9 y9 hx;apply Jr (γ:=OA×Nat) hx [1,8,10] (fun s0 y0 f=>(11,.slice y0.1 s0.length y0.2)::f) [2,3,4,5,6,999] (fun s0 y0 l=>.r y0.1 s0.length y0.2 3 1 (s0.flatMap Ak)::l);exact kk
   .intro s0 y0 hx;refine pq ?_;intros;rename_i hx
    (with_reducible apply Af3 120 (sz:=9));exact rfl;exact aT;exact iI;exact dL;exact (fun _=>rfl);exact rfl;exact rfl;exact sA
    refine pq ?_;intros;rename_i hx
    apply Jr (γ:=OA×Nat) hx [] (fun s1 y1 f=>(18,.slice y1.1 s1.length y1.2)::f) [999] (fun s1 y1 l=>.r y1.1 s1.length y1.2 30 9 (s1.flatMap Ag)::l);exact kk
    .exact aI
    .refine pI ?_;intros;rename_i hx
     apply Lr (γ:=OA×Nat) hx [8,10,11] (fun s2 y2 f=>(18,.slice y2.1 s2.1.length y2.2)::(19,.int .i64 s2.2)::f) [1,2,3,4,5,6,999] (fun s2 y2 l=>.r y2.1 s2.1.length y2.2 30 9 (s2.1.flatMap Ag)::l) (_,_);exact kk;exact sk;intro s2 y2 x0 hx _;unfold Ka at hx;exact au
   .refine pI ?_;intros;rename_i hx
    apply Lr (γ:=OA×Nat×OA×Nat) hx [1,5,8,10] (fun s3 y3 f=>(11,.slice y3.1 s3.1.length y3.2.1)::(12,.slice y3.2.2.1 s3.2.1.length y3.2.2.2)::(14,.int .i64 s3.2.2)::f) [2,3,4,5,6,7,999] (fun s3 y3 l=>.r y3.2.2.1 s3.2.1.length y3.2.2.2 3 1 (s3.2.1.flatMap Ak) :: .r y3.1 s3.1.length y3.2.1 3 1 (s3.1.flatMap Ak)::l) (_,_,_,_);exact kk;exact sk;intro s3 y3 x1 hx _;unfold Jz at hx;refine pq ?_;intros;rename_i hx
    refine Cq1 (s:=53) hx rfl ?_ ?_
    .refine pI ?_;intros;rename_i hx
     apply Jr (γ:=OA×Nat×OA×Nat) hx [1,5,8,10,14] (fun s4 y4 f=>(11,.slice y4.1 s4.1.length y4.2.1)::(12,.slice y4.2.2.1 s4.2.length y4.2.2.2)::f) [2,3,4,5,6,7,999] (fun s4 y4 l=>.r y4.2.2.1 s4.2.length y4.2.2.2 3 1 (s4.2.flatMap Ak) :: .r y4.1 s4.1.length y4.2.1 3 1 (s4.1.flatMap Ak)::l);exact kk
     .exact aI
     .refine pI ?_;intros;rename_i hx
      refine Cq3 (s:=63) hx rfl ?_ ?_
      .exact aI
      .refine pI ?_;intros;rename_i hx
       refine Cq4 (s:=76) hx rfl ?_ ?_
       .exact aI
       .refine pI ?_;intros;rename_i hx
        apply Jr (γ:=Unit) hx [1,5,8,10,11,12,14,16,17] (fun s5 y5 f=>(111,.bool s5)::f) [1,2,3,4,5,6,7,8,999] (fun s5 y5 l=>l);exact kk
        .exact aI
        .exact aI
    .exact aI
  .refine pI ?_;intros;rename_i hx
   apply Lr (γ:=OA×Nat) hx [1,5,8,10,12] (fun s6 y6 f=>(11,.slice y6.1 s6.1.length y6.2)::(13,.int .i64 s6.2)::f) [0,2,3,4,5,6,8,999] (fun s6 y6 l=>.r y6.1 s6.1.length y6.2 3 1 (s6.1.flatMap Ak)::l) (_,_);exact kk;exact sk;intro s6 y6 x2 hx _;unfold Lw at hx;exact au⟩
theorem Amr{a b:Av}(ha:-268435456<=a.Lo/\a.Lo<=a.Hi/\a.Hi<=268435456)(hb:-268435456<=b.Lo/\b.Lo<=b.Hi/\b.Hi<=268435456):Ez a b=some (gapI a b):=by
 have hv:∀{c:Av},-268435456<=c.Lo/\c.Lo<=c.Hi/\c.Hi<=268435456->Lc c=some true:=fun hc=>by
  unfold Lc;rw[jn_d,iP oo,iP oo,dT oo]
 unfold Ez Vs;rw[jn_d,hv ha,Ac,iP rfl,hv hb,Ac];dsimp only;rw[iN s_,Ac,Aq oo oo];unfold gapI;dsimp only;congr 1;omega
theorem dig8{z:Int}(h:z.natAbs<65536^8):(dig 65536 z.natAbs).length<=8:=Ee h
theorem Axt{a b:Int}(ha:a.natAbs<65536^8)(hb:b.natAbs<65536^8):Bd (Z16 a) (Z16 b)=some (Z16 (a*b)):=Ak5 (by have:=dig8 ha;have:=dig8 hb;omega)
theorem Bgq{a b:Int}(ha:a.natAbs<65536^8)(hb:b.natAbs<65536^8):Cu (Z16 a) (Z16 b)=some (Int.sign (a-b)):=by
 unfold Cu;rw[Anc,Ac,Bdw (by have:=dig8 ha;omega) (by have:=dig8 (z:=-b) (by rw[Int.natAbs_neg];exact hb);omega),Ac,Ay7,Ac,Int.sub_eq_add_neg]
section
variable {m:Al}(h:Msh m){p:Aa}(hp:X.okPt p=true){r:Af}(hr:X.okRules r=true)
include h hp hr
theorem Aci{k:Int}(hk:inN m.V.length k)(R:Option (Bool × Int × Int)):
  (bnd (idx m.V k) fun x32=>
   bnd (Bw (⟨0,x32.X,x32.Y,(⟨0,0⟩:Av),0,0,0,0⟩:Aa) p) fun r45=>
   bnd (Ez p.Z x32.Z) fun r48=>
   bnd (Be r48) fun r51=>
   jn (fun (s21:Bool×LI)=>
   bnd (Be (w64 (r.Slope*r.Slope))) fun r136=>
   bnd (Be r45) fun r141=>
   bnd (Bd r136 r141) fun r150=>
   bnd (Cu (⟨s21.1,s21.2⟩:Ai) r150) fun r159=>
   if 0<r159 then (some (false,0,0))
   else R)
   (fun j21=>bnd (Be 1000000) fun r57=>
   bnd (Bd r57 r51) fun r66=>
   bnd (Bd r66 r51) fun r75=>
   j21 (r75.Neg,r75.L)))=if Nx m.V r p k=true then R else some (false,0,0):=by
 have hrr:=X.okRules_rng hr;have hpp:=X.okPt_rng hp;unfold Nx;have hz:=Gm h.ok hk;obtain⟨n,rfl,hn⟩:=Gf hk;rw[Ai7 hn,Zb hn] at hz ⊢;obtain⟨z1,z2⟩:=hz;obtain⟨_,g2,g3⟩:=Aja (a:=p.Z) (b:=m.V[n].Z) oo z2;have ap:Bw (⟨0,m.V[n].X,m.V[n].Y,(⟨0,0⟩:Av),0,0,0,0⟩:Aa) p=some ((p.X-(pP m.V[n]).X)*(p.X-(pP m.V[n]).X)+(p.Y-(pP m.V[n]).Y)*(p.Y-(pP m.V[n]).Y)) /\
   0<=(p.X-(pP m.V[n]).X)*(p.X-(pP m.V[n]).X)+(p.Y-(pP m.V[n]).Y)*(p.Y-(pP m.V[n]).Y)/\(p.X-(pP m.V[n]).X)*(p.X-(pP m.V[n]).X)+(p.Y-(pP m.V[n]).Y)*(p.Y-(pP m.V[n]).Y)<=576460752303423488:=by
  unfold okP pP at z1;dsimp only at z1;obtain⟨a1,a2,a3,a4⟩:=X.sq_w (a:=m.V[n].X) (b:=p.X) oo oo;obtain⟨b1,b2,b3,b4⟩:=X.sq_w (a:=m.V[n].Y) (b:=p.Y) oo oo;have s1:(p.X-(pP m.V[n]).X)*(p.X-(pP m.V[n]).X)=(m.V[n].X-p.X)*(m.V[n].X-p.X):=by unfold pP;dsimp only;grind
  have s2:(p.Y-(pP m.V[n]).Y)*(p.Y-(pP m.V[n]).Y)=(m.V[n].Y-p.Y)*(m.V[n].Y-p.Y):=by unfold pP;dsimp only;grind
  rw[s1,s2];refine⟨?_,oo,oo⟩;unfold Bw;dsimp only;rw[a1,b1,a2,b2,Aq oo oo]
 obtain⟨ap1,ap2,ap3⟩:=ap;rw[Aj hn,Ac,ap1,Ac,Amr (a:=p.Z) oo z2,Ac];generalize (p.X-(pP m.V[n]).X)*(p.X-(pP m.V[n]).X)+(p.Y-(pP m.V[n]).Y)*(p.Y-(pP m.V[n]).Y)=e at *;generalize gapI p.Z m.V[n].Z=g at *;have ss:=mulB (x:=r.Slope) (y:=r.Slope) (M:=100000) (N:=100000) oo oo oo oo oo;have se:=mulB (x:=r.Slope*r.Slope) (y:=e) (M:=10000000000) (N:=576460752303423488) oo oo oo oo oo;have gg:=mulB (x:=1000000*g) (y:=g) (M:=1000000*536870912) (N:=536870912) oo oo oo oo oo;rw[Aat oo oo,Ac,jn_d,Aat oo oo,Ac,Axt (by rw[pow8];omega) (by rw[pow8];omega),Ac,Axt (by rw[pow8];omega) (by rw[pow8];omega),Ac];dsimp only;rw[Aq oo oo,Aat oo oo,Ac,Aat oo oo,Ac,Axt (by rw[pow8];omega) (by rw[pow8];omega),Ac];show bnd (Cu (Z16 (1000000*g*g)) (Z16 (r.Slope*r.Slope*e))) _=_;rw[Bgq (by rw[pow8];omega) (by rw[pow8];omega),Ac];have e1:1000000*g*g=g*g*1000000:=by grind
 rw[e1];have sp:0<Int.sign (g*g*1000000-r.Slope*r.Slope*e)↔0<g*g*1000000-r.Slope*r.Slope*e:=X.sign_pos
 by_cases c:g*g*1000000<=r.Slope*r.Slope*e
 .rw[iN (by rw[sp];omega),iP (dT c)]
 .rw[iP (by rw[sp];omega),iN (sV c)]
end
theorem Axu{m:Al}(h:Adz m){p:Aa}(hp:X.okPt p=true){r:Af}(hr:X.okRules r=true):
  Nd m p r=some (if (fitV m.V m.T r p).2.1=true then (true,(fitV m.V m.T r p).2.2,(fitV m.V m.T r p).1) else (false,0,0)):=by
 have hpp:=X.okPt_rng hp;have hq:=Yy hp;cases e:locT m.V m.T (X.plF p) with
 |none=>
  unfold Nd fitV;rw[show (⟨p.X,p.Y⟩:Ab)=X.plF p from rfl,Amw h hq,e,Ac];rfl
 |some i=>
  have e':=e;unfold locT at e';rw[List.findIdx?_eq_some_iff_getElem] at e';obtain⟨hi,hc,_⟩:=e';have ht:=gM hi;obtain⟨h0,h1,h2,_⟩:=h.msh.t _ ht;have hb:=Acl h.msh ht hc;have hB:Gr m (X.plF p)=some (bndT m.V (X.plF p) m.T[i],0):=by
   rw[Ajd h hq,e];dsimp only;rw[Aj hi]
  have hF:Jw m (X.plF p)=some ((i:Int),0):=by rw[Amw h hq,e]
  have hV:fitV m.V m.T r p=if r.Reach<gapI p.Z (bndT m.V (X.plF p) m.T[i]) then ((i:Int),false,0) else
    if Nx m.V r p m.T[i].a0=true/\Nx m.V r p m.T[i].a1=true/\Nx m.V r p m.T[i].a2=true then ((i:Int),true,gapI p.Z (bndT m.V (X.plF p) m.T[i])) else ((i:Int),false,0):=by
   unfold fitV;rw[e];dsimp only;rw[Aj hi]
  rw[hV];unfold Nd;rw[show (⟨p.X,p.Y⟩:Ab)=X.plF p from rfl,hF,Ac];dsimp only;rw[iP rfl,hB,Ac,Aj hi];dsimp only;rw[Amr (a:=p.Z) oo hb,Ac]
  by_cases c:r.Reach<gapI p.Z (bndT m.V (X.plF p) m.T[i])
  .rw[iP c,iP c];rfl
  .rw[iN c,iN c,Ac];refine (Aci h.msh hp hr h0 _).trans ?_
   by_cases g0:Nx m.V r p m.T[i].a0=true
   .rw[iP g0,Ac];refine (Aci h.msh hp hr h1 _).trans ?_
    by_cases g1:Nx m.V r p m.T[i].a1=true
    .rw[iP g1,Ac];refine (Aci h.msh hp hr h2 _).trans ?_
     by_cases g2:Nx m.V r p m.T[i].a2=true
     .rw[iP g2];simp[g0,g1,g2]
     .rw[iN g2];simp[g2]
    .rw[iN g1];simp[g1]
   .rw[iN g0];simp[g0]
section
open Go.Sort
structure PSel(l P:List Aa):Prop where
 nd:(P.map (·.Id)).Nodup
 src:∀p∈P,p∈l
 ap:Ho P
section
variable {l P:List Aa}(hl:X.Fit l)(hP:PSel l P)
include hl hP
theorem PSel.fit:X.Fit P:=by
 have:=Bn (l:=P.map (·.Id)) (m:=l.map (·.Id)) hP.nd (fun i hi=>by
  obtain⟨p,hp,rfl⟩:=mem_map.1 hi;exact mem_map_of_mem (hP.src p hp))
 rw[length_map,length_map] at this;exact⟨by have:=hl.n;omega,fun p hp=>hl.ok p (hP.src p hp),hP.nd⟩
theorem PSel.pick:Sj l (P.map (·.Id))=Bf Hn P:=by
 refine (Aon (Xi (PSel.fit hl hP)) (X.perm_of_mem (X.nodup_of_ids hP.nd) ((X.nodup_of_ids hl.id).filter _) fun p=>?_)).symm;unfold selL;rw[mem_filter,dQ];constructor
 .intro hp;exact⟨hP.src p hp,mem_map_of_mem hp⟩
 .rintro⟨h1,h2⟩;obtain⟨q,hq,e⟩:=mem_map.1 h2;rw[<-X.id_inj hl.id (hP.src q hq) h1 e];exact hq
theorem PSel.gsel:GSel l (P.map (·.Id)):=by
 refine⟨⟨hP.nd,fun i hi=>?_⟩,?_⟩
 .obtain⟨p,hp,e⟩:=mem_map.1 hi;exact⟨p,hP.src p hp,e⟩
 .rw[PSel.pick hl hP];have sym:∀{x y:Aa},¬(x.X=y.X/\x.Y=y.Y)->¬(y.X=x.X/\y.Y=x.Y):=fun h e=>h ⟨e.1.symm,e.2.symm⟩
  exact (List.Perm.pairwise_iff sym (Db Hn P)).2 hP.ap
end
theorem As1{m:Al}{p:Aa}{r:Af}(h:(fitV m.V m.T r p).2.1=true):∃t:Nat,t<m.T.length/\(fitV m.V m.T r p).1=(t:Int):=by
 unfold fitV at h⊢;cases e:locT m.V m.T (X.plF p) with
 |none=>rw[e] at h;cases h
 |some i=>
  have e':=e;unfold locT at e';rw[List.findIdx?_eq_some_iff_getElem] at e';obtain⟨hi,_,_⟩:=e';refine⟨i,hi,?_⟩;dsimp only;rw[Aj hi];dsimp only;split
  .rfl
  .split <;> rfl
structure Ab5(A:List Aa)(n k:Nat)(b:List (Int×Bb))(best least:LI):Prop where
 l1:best.length=n
 l2:least.length=n
 non:∀t (h:t<best.length),mget b (t:Int)=none->best[t] = -1
 som:∀t (h:t<best.length) (h':t<least.length) o,mget b (t:Int)=some o->∃(j:Nat) (hj:j<A.length),j<k/\best[t]=(j:Int)/\A[j]=o.p/\least[t]=o.far
theorem Ab5.mono{A:List Aa}{n k:Nat}{b:List (Int×Bb)}{best least:LI}(h:Ab5 A n k b best least):Ab5 A n (k+1) b best least :=
 ⟨h.l1,h.l2,h.non,fun t a c o e=>by obtain⟨j,hj,h1,h2⟩:=h.som t a c o e;exact⟨j,hj,oo,h2⟩⟩
theorem Ab5.put{A:List Aa}{n k:Nat}{b:List (Int × Bb)}{best least:List Int}(h:Ab5 A n k b best least)(hb:Cx b)(hk:k<A.length)(t:Nat)(far:Int):
  Ab5 A n (k+1) (mput b (t:Int) ⟨A[k],far⟩) (best.set t (k:Int)) (least.set t far):=by
 refine⟨by rw[length_set];exact h.l1,by rw[length_set];exact h.l2,fun u hu e=>?_,fun u hu hu' o e=>?_⟩
 .rw[Mq hb] at e;rw[length_set] at hu
  by_cases c:(u:Int)=(t:Int)
  .rw[iP c] at e;cases e
  .rw[iN c] at e;rw[getElem_set,iN oo];exact h.non u hu e
 .rw[Mq hb] at e;rw[length_set] at hu hu';rw[getElem_set,getElem_set]
  by_cases c:(u:Int)=(t:Int)
  .rw[iP c] at e;cases e
   exact⟨k,hk,oo,by rw[iP oo],rfl,by rw[iP oo]⟩
  .rw[iN c] at e;obtain⟨j,hj,h1,h2,h3,h4⟩:=h.som u hu hu' o e;exact⟨j,hj,oo,by rw[iN oo];exact h2,h3,by rw[iN oo];exact h4⟩
section
variable {l:List Aa}{r:Af}{C:List Aa}(hc:Ctx l r C){P:List Aa}(hP:PSel l P)
include hc hP
theorem Axv:Adz (Dv l (P.map (·.Id)))/\Fj (Bf Hn P)=some (Dv l (P.map (·.Id)),0):=by
 have hl:=X.Fit.of hc.val;have hg:=PSel.gsel hl hP;obtain⟨e,h1,h2,h3,_⟩:=Aaz hc hg;have hf:=Fit.pick (ids:=P.map (·.Id)) hl;refine⟨Ajc hf hg.apart h1 h2 h3,?_⟩;obtain⟨x,e1,e2,_⟩:=Ai6 hf;rw[PSel.pick hl hP] at e2;rw[e2];unfold Bo at e;have:=GSel.len hg;have:=hc.few;rw[Wp hl oo (fun i hi=>GSel.rng hc hg hi),Ac,iP hg.sel] at e;dsimp only at e;rw[iP rfl,e1,Ac] at e;exact e
theorem Aqu:∃ best least,lfix (Jz (X.candL l r) P (Dv l (P.map (·.Id)),0) r) (List.replicate (Dv l (P.map (·.Id))).T.length (-1:Int),List.replicate (Dv l (P.map (·.Id))).T.length (0:Int),0)=some best /\
  Ab5 (X.candL l r) (Dv l (P.map (·.Id))).T.length (X.candL l r).length (Ya (P.map (·.Id)) (gFit l r (P.map (·.Id))) (X.candL l r)) best least:=by
 have hl:=X.Fit.of hc.val;have hF:=PSel.fit hl hP;obtain⟨hcan,_⟩:=Axv hc hP;have hA:X.Fit (X.candL l r):=X.Fit.cand hc.val;have hAn:=hA.n;generalize hM:Dv l (P.map (·.Id))=M at *;have hmem:∀i:Int,i∈Cq (P.map (·.Id))↔i∈P.map (·.Id):=fun i=>(X.perm_sortI _).mem_iff
 have hsl:(Cq (P.map (·.Id))).length<=1000000:=by
  have:=hF.n;rw[(X.perm_sortI _).length_eq,length_map];omega
 have:=Ax (B:=Jz (X.candL l r) P (M,0) r) (fun s=>(X.candL l r).length-s.2.2.toNat)
  (fun s=>∃k:Nat,k<=(X.candL l r).length/\s.2.2=(k:Int)/\Ab5 (X.candL l r) M.T.length k (((X.candL l r).take k).foldl (Uq (P.map (·.Id)) (gFit l r (P.map (·.Id)))) []) s.1 s.2.1)
  (fun t=>∃least,Ab5 (X.candL l r) M.T.length (X.candL l r).length (Ya (P.map (·.Id)) (gFit l r (P.map (·.Id))) (X.candL l r)) t least) (fun s hs=>by
  obtain⟨best,least,i⟩:=s;obtain⟨k,hk,hi,ha⟩:=hs;dsimp only at hi ha;subst hi;have hb:=(Aey (g:=P.map (·.Id)) (F:=gFit l r (P.map (·.Id))) (C:=X.candL l r) k).map;unfold Jz;dsimp only
  by_cases hk2:k<(X.candL l r).length
  .left;have hx:=hA.ok _ (gM hk2);have hfits:=Axu hcan hx hc.rul;have hgf:gFit l r (P.map (·.Id)) (X.candL l r)[k]=fitV M.V M.T r (X.candL l r)[k]:=by unfold gFit;rw[hM]
   have step:((X.candL l r).take (k+1)).foldl (Uq (P.map (·.Id)) (gFit l r (P.map (·.Id)))) []=Uq (P.map (·.Id)) (gFit l r (P.map (·.Id))) (((X.candL l r).take k).foldl (Uq (P.map (·.Id)) (gFit l r (P.map (·.Id)))) []) (X.candL l r)[k]:=by
    rw[take_succ_eq_append_getElem hk2,foldl_append];rfl
   have goal:∀ s':List Int × List Int × Int,s'.2.2=((k+1:Nat):Int)->Ab5 (X.candL l r) M.T.length (k+1) (Uq (P.map (·.Id)) (gFit l r (P.map (·.Id))) (((X.candL l r).take k).foldl (Uq (P.map (·.Id)) (gFit l r (P.map (·.Id)))) []) (X.candL l r)[k]) s'.1 s'.2.1 ->
     (∃k:Nat,k<=(X.candL l r).length/\s'.2.2=(k:Int)/\Ab5 (X.candL l r) M.T.length k (((X.candL l r).take k).foldl (Uq (P.map (·.Id)) (gFit l r (P.map (·.Id)))) []) s'.1 s'.2.1)/\(X.candL l r).length-s'.2.2.toNat<(X.candL l r).length-((k:Int)).toNat:=fun s' e h=>⟨⟨k+1,hk2,e,by rw[step];exact h⟩,oo⟩
   rw[iP oo,jn_d,Aj hk2,Ac,X.rids_eq hF.n,Ac,has_eq hsl,Ac,As oo];generalize ((X.candL l r).take k).foldl (Uq (P.map (·.Id)) (gFit l r (P.map (·.Id)))) []=b at *
   by_cases c1:(X.candL l r)[k].Id∈P.map (·.Id)
   .rw[iP (dT ((hmem _).2 c1))];refine⟨_,rfl,goal _ rfl ?_⟩;unfold Uq;rw[iP (.inl c1)];exact ha.mono
   .rw[iN (by rw[dQ,hmem];exact c1),Ac,hfits,Ac]
    by_cases c2:(fitV M.V M.T r (X.candL l r)[k]).2.1=true
    .obtain⟨t,ht,et⟩:=As1 c2;have t1:t<best.length:=by rw[ha.l1];exact ht
     have t2:t<least.length:=by rw[ha.l2];exact ht
     rw[iP c2,et];dsimp only;rw[iP rfl,jn_d,Aj t1,Ac,Aj t2,Fo,Fo];have nc:¬((X.candL l r)[k].Id∈P.map (·.Id)\/(fitV M.V M.T r (X.candL l r)[k]).2.1=false):=by rw[c2];simpa using c1
     have hst:Uq (P.map (·.Id)) (gFit l r (P.map (·.Id))) b (X.candL l r)[k]=match mget b (t:Int) with
       |none=>mput b (t:Int) ⟨(X.candL l r)[k],(fitV M.V M.T r (X.candL l r)[k]).2.2⟩
       |some o=>if (fitV M.V M.T r (X.candL l r)[k]).2.2<o.far\/(fitV M.V M.T r (X.candL l r)[k]).2.2=o.far/\X.lowB (X.candL l r)[k] o.p=true then mput b (t:Int) ⟨(X.candL l r)[k],(fitV M.V M.T r (X.candL l r)[k]).2.2⟩ else b:=by
      unfold Uq;rw[hgf,iN nc,et];cases mget b (t:Int) <;> rfl
     have hput:=ha.put hb hk2 t (fitV M.V M.T r (X.candL l r)[k]).2.2;cases e:mget b (t:Int) with
     |none=>
      rw[e] at hst;dsimp only at hst;have:=ha.non t t1 e;rw[iP oo];dsimp only;rw[iP rfl,Ac,Ac];refine⟨_,rfl,goal _ rfl ?_⟩;rw[hst];exact hput
     |some o=>
      rw[e] at hst;dsimp only at hst;obtain⟨j,hj,j1,j2,j3,j4⟩:=ha.som t t1 t2 o e;rw[iN oo,Ac,j4]
      by_cases d1:(fitV M.V M.T r (X.candL l r)[k]).2.2<o.far
      .rw[iP d1];dsimp only;rw[iP rfl,Ac,Ac];refine⟨_,rfl,goal _ rfl ?_⟩;rw[hst,iP (.inl d1)];exact hput
      .rw[iN d1,Ac]
       by_cases d2:(fitV M.V M.T r (X.candL l r)[k]).2.2=o.far
       .rw[iP d2,Ac,Ac,j2,Aj hj,Ac,X.rlower_eq,Ac,j3];dsimp only
        by_cases d3:X.lowB (X.candL l r)[k] o.p=true
        .rw[iP d3,Ac,Ac];refine⟨_,rfl,goal _ rfl ?_⟩;rw[hst,iP (.inr ⟨d2,d3⟩)];exact hput
        .rw[iN d3];refine⟨_,rfl,goal _ rfl ?_⟩;rw[hst,iN (fun h=>h.elim d1 (fun h=>d3 h.2))];exact ha.mono
       .rw[iN d2];dsimp only;rw[iN s_];refine⟨_,rfl,goal _ rfl ?_⟩;rw[hst,iN (fun h=>h.elim d1 (fun h=>d2 h.1))];exact ha.mono
    .rw[iN c2];dsimp only;rw[iN s_];refine⟨_,rfl,goal _ rfl ?_⟩;unfold Uq;rw[hgf,iP (.inr (sV c2))];exact ha.mono
  .right;rw[iN oo];have:k=(X.candL l r).length:=oo;subst this;rw[take_length] at ha;exact⟨_,rfl,least,ha⟩) (List.replicate M.T.length (-1:Int),List.replicate M.T.length (0:Int),0) ⟨0,oo,rfl,⟨length_replicate,length_replicate,fun t h _=>by dsimp only;rw[getElem_replicate],fun t h h' o e=>by cases e⟩⟩
 obtain⟨best,e,least,h⟩:=this;exact⟨best,least,e,h⟩
end
theorem Aqv(n:Nat)(hn:n<=1000000000){M:Al}(hM:M.T.length=n)(e:Int):lfix (Lw (M,e)) (List.replicate n (0:Int),0)=some (List.replicate n (-1:Int)):=by
 have:=Ax (B:=Lw (M,e)) (fun s=>n-s.2.toNat) (fun s=>∃k:Nat,k<=n/\s.2=(k:Int)/\s.1.length=n/\∀j (h:j<s.1.length),j<k->s.1[j] = -1) (fun t=>t=List.replicate n (-1:Int)) (fun s hs=>by
  obtain⟨s,i⟩:=s;obtain⟨k,hk,hi,hl,ha⟩:=hs;dsimp only at hi hl ha;subst hi;unfold Lw;dsimp only;rw[hM]
  by_cases hk2:k<n
  .left;have hk3:k<s.length:=oo;rw[iP oo,Aj hk3,Ac,As oo,Fo];refine⟨_,rfl,⟨k+1,hk2,rfl,by dsimp only;rw[length_set];exact hl,fun j h hj=>?_⟩,by dsimp only;omega⟩;dsimp only at h⊢;rw[length_set] at h;rw[getElem_set]
   by_cases c:k=j
   .rw[iP c]
   .rw[iN c];exact ha j h oo
  .right;rw[iN oo];exact⟨_,rfl,ext_getElem (by rw[length_replicate];exact hl) fun j h _=>by rw[ha j h oo,getElem_replicate]⟩) (List.replicate n (0:Int),0) ⟨0,oo,rfl,length_replicate,fun j h hj=>absurd hj oo⟩
 obtain⟨t,h,rfl⟩:=this;exact h
def Vt(b:List (Int×Bb))(n:Nat):List Aa:=(List.range n).filterMap fun (t:Nat)=>(mget b (t:Int)).map fun (o:Bb)=>o.p
theorem Au0(b:List (Int×Bb))(n:Nat):(Vt b n).length<=n:=by
 unfold Vt;have:=length_filterMap_le (fun (t:Nat)=>(mget b (t:Int)).map fun (o:Bb)=>o.p) (List.range n);rw[length_range] at this;exact this
theorem Aqw{P A:List Aa}{M:Al}(e:Int){b:List (Int × Bb)}{best least:List Int}(h:Ab5 A M.T.length A.length b best least)(hn:M.T.length<=1000000000)(hP:P.length<=1000000):
  lfix (Ka (M,e) best A) (([]:List Aa)++P,0)=some (P++Vt b M.T.length):=by
 have:=Ax (B:=Ka (M,e) best A) (fun s=>M.T.length-s.2.toNat) (fun s=>∃k:Nat,k<=M.T.length/\s=(P++Vt b k,(k:Int))) (fun t=>t=P++Vt b M.T.length) (fun s hs=>by
  obtain⟨k,hk,rfl⟩:=hs;have hl:=Au0 b k;unfold Ka;dsimp only
  by_cases hk2:k<M.T.length
  .left;have t1:k<best.length:=by rw[h.l1];exact hk2
   have t2:k<least.length:=by rw[h.l2];exact hk2
   have ts:Vt b (k+1)=Vt b k++((mget b (k:Int)).map fun (o:Bb)=>o.p).toList:=by
    unfold Vt;rw[range_succ,filterMap_append];cases e0:mget b (k:Int) <;> simp[filterMap_cons,e0]
   rw[iP oo,jn_d,Aj t1,Ac,As oo];cases e:mget b (k:Int) with
   |none=>
    have:=h.non k t1 e;rw[iN oo];refine⟨_,rfl,⟨k+1,hk2,?_⟩,by dsimp only;omega⟩;rw[ts,e];simp
   |some o=>
    obtain⟨j,hj,j1,j2,j3,j4⟩:=h.som k t1 t2 o e;rw[j2,iP oo,Ac,Aj hj,Ac,gd_t (by rw[length_append];omega),j3];refine⟨_,rfl,⟨k+1,hk2,?_⟩,by dsimp only;omega⟩;rw[ts,e,append_assoc];rfl
  .right;rw[iN oo];have:k=M.T.length:=oo;subst this;exact⟨_,rfl,rfl⟩) (([]:List Aa)++P,0) ⟨0,oo,by simp[Vt]⟩
 obtain⟨t,e',rfl⟩:=this;exact e'
section
variable {l:List Aa}{r:Af}{C:List Aa}(hc:Ctx l r C){P:List Aa}(hP:PSel l P)
include hc hP
theorem Axw:∃D,Ne l P r=some (P++D,0)/\(D.map (·.Id)).Perm (adds (P.map (·.Id)) (gFit l r (P.map (·.Id))) (X.candL l r))/\∀p∈D,p∈X.candL l r:=by
 have hl:=X.Fit.of hc.val;have hF:=PSel.fit hl hP;have hFn:=hF.n;obtain⟨hcan,hmesh⟩:=Axv hc hP;obtain⟨best,least,e1,e2⟩:=Aqu hc hP;have hA:X.Fit (X.candL l r):=X.Fit.cand hc.val;have hb:=Aba (P.map (·.Id)) (gFit l r (P.map (·.Id))) (X.candL l r);obtain⟨_,_,_,hT,_⟩:=Aaz hc (PSel.gsel hl hP);have hvl:(vxL (Sj l (P.map (·.Id)))).length<=1024:=by unfold vxL;rw[length_map];exact (Fit.pick hl).n
 have hTl:=Alh hvl hT;have hkey:∀q∈Ya (P.map (·.Id)) (gFit l r (P.map (·.Id))) (X.candL l r),∃t:Nat,t<(Dv l (P.map (·.Id))).T.length/\q.1=(t:Int):=fun q hq=>by
  obtain⟨_,_,h3⟩:=hb.src q hq;have:(fitV (Dv l (P.map (·.Id))).V (Dv l (P.map (·.Id))).T r q.2.p).2.1=true:=by
   show (gFit l r (P.map (·.Id)) q.2.p).2.1=true;rw[h3]
  obtain⟨t,ht,et⟩:=As1 this;refine⟨t,ht,?_⟩;rw[<-et];show q.1=(gFit l r (P.map (·.Id)) q.2.p).1;rw[h3]
 generalize hn:(Dv l (P.map (·.Id))).T.length=n at *;have hmemD:∀p,p∈Vt (Ya (P.map (·.Id)) (gFit l r (P.map (·.Id))) (X.candL l r)) n↔p∈(Ya (P.map (·.Id)) (gFit l r (P.map (·.Id))) (X.candL l r)).map (·.2.p):=fun p=>by
  unfold Vt;rw[mem_filterMap,mem_map];constructor
  .rintro⟨t,ht,e⟩;obtain⟨o,ho,rfl⟩:=Option.map_eq_some_iff.1 e;exact⟨_,He ho,rfl⟩
  .rintro⟨q,hq,rfl⟩;obtain⟨t,ht,et⟩:=hkey q hq;refine⟨t,mem_range.2 ht,?_⟩;rw[<-et,Up hb.map hq];rfl
 have nd1:((Ya (P.map (·.Id)) (gFit l r (P.map (·.Id))) (X.candL l r)).map (·.2.p)).Nodup:=by
  unfold List.Nodup;rw[pairwise_map];refine List.Pairwise.imp_of_mem ?_ hb.map;intro q q' hq hq' hne e;have a1:=(hb.src q hq).2.2;have a2:=(hb.src q' hq').2.2;rw[e,a2] at a1;exact hne (Prod.mk.inj a1).1.symm
 have nd2:(Vt (Ya (P.map (·.Id)) (gFit l r (P.map (·.Id))) (X.candL l r)) n).Nodup:=by
  unfold Vt List.Nodup;rw[pairwise_filterMap];refine List.Pairwise.imp ?_ (nodup_range (n:=n));intro t t' hne p hp p' hp' e;obtain⟨o,ho,rfl⟩:=Option.map_eq_some_iff.1 hp;obtain⟨o',ho',rfl⟩:=Option.map_eq_some_iff.1 hp';have a1:=(hb.src _ (He ho)).2.2;have a2:=(hb.src _ (He ho')).2.2;dsimp only at a1 a2;rw[e,a2] at a1;have:=(Prod.mk.inj a1).1;omega
 refine⟨Vt (Ya (P.map (·.Id)) (gFit l r (P.map (·.Id))) (X.candL l r)) n,?_,?_,fun p hp=>?_⟩
 .unfold Ne;rw[Abn hF,Ac,hmesh,Ac];dsimp only;rw[iP rfl,X.rcand_eq hc.val hc.rul,Ac,hn,gd_t oo,gd_t oo,jn_d,show Int.toNat ((n:Nat):Int)=n from rfl,Aqv n oo hn,Ac];dsimp only;rw[jn_d,e1,Ac];dsimp only;rw[gd_t (by simp only[length_nil];omega),jn_d];have:=Aqw (P:=P) (e:=0) (M:=Dv l (P.map (·.Id))) (by rw[hn];exact e2) oo oo;rw[hn] at this;rw[this,Ac]
 .unfold adds;have:=(X.perm_of_mem nd2 nd1 hmemD).map (·.Id);rw[map_map] at this;exact this
 .obtain⟨q,hq,rfl⟩:=mem_map.1 ((hmemD p).1 hp);exact (hb.src q hq).1
end
end
namespace X
end X
section
open Go.Sort
def Axx(l:List Aa)(r:Af)(n:Nat):Prop:=l.length<=n/\X.validL l=true/\X.okRules r=true
instance(l:List Aa)(r:Af)(n:Nat):Decidable (Axx l r n):=by unfold Axx;infer_instance
theorem Au1{β γ:Type}{n:Nat}{B:Int->Option (Sum Int (Sum β γ))}{u:β}(h1:∀j:Nat,j<n->B j=some (.inl ((j+1:Nat):Int)))(h2:B n=some (.inr (.inl u))):lfix B 0=some (.inl u):=by
 have key:∀(m k:Nat),k<=n->n-k=m->lfix B k=some (.inl u):=by
  intro m
  induction m with
  |zero=>
   intro k hk hm;obtain rfl:k=n:=oo;rw[Ay,h2]
  |succ m ih=>
   intro k hk hm;rw[Ay,h1 k oo];exact ih (k+1) oo oo
 exact key n 0 (Nat.zero_le _) rfl
section
variable {l:List Aa}{r:Af}{C:List Aa}(hc:Ctx l r C){g:LI}(hg:Grnd l r C g)
include hc
include hg
end
section
variable {l:List Aa}{r:Af}{C:List Aa}(hc:Ctx l r C)
include hc
theorem Axy{p:Aa}(hp:p∈l):p.Id∈Cq ((X.sunkL l r).map (·.Id))↔X.sunkB l r p=true:=by
 rw[(X.perm_sortI _).mem_iff];constructor
 .intro h;obtain⟨q,hq,e⟩:=mem_map.1 h;unfold X.sunkL at hq;rw[mem_filter] at hq;rw[<-X.id_inj (X.Fit.of hc.val).id hq.1 hp e];exact hq.2
 .intro h;refine mem_map.2 ⟨p,?_,rfl⟩;unfold X.sunkL;rw[mem_filter];exact⟨hp,h⟩
end
def Ab6(v:List Ae)(T:List Ah)(p:Aa):Option Av:=match locT v T (X.plF p) with
 |none=>none
 |some i=>match idx T (i:Int) with
  |none=>none
  |some t=>some ⟨p.Z.Lo-(bndT v (X.plF p) t).Hi,p.Z.Hi-(bndT v (X.plF p) t).Lo⟩
section
variable {m:Al}(h:Msh m){p:Aa}(hp:X.okPt p=true)
include h hp
theorem As2:Wt m p=some (match Ab6 m.V m.T p with|some s=>(s,true)|none=>(⟨0,0⟩,false)):=by
 have hpp:=X.okPt_rng hp;have hq:=Yy hp;unfold Wt;rw[Age,Ac,Ald h hq,Ac];unfold Ab6;cases e:locT m.V m.T (X.plF p) with
 |none=>rfl
 |some i=>
  dsimp only;have e':=e;unfold locT at e';rw[List.findIdx?_eq_some_iff_getElem] at e';obtain⟨hi,hc,_⟩:=e';have hb:=Acl h (gM hi) hc;rw[iN oo,Ac,Ale h hq hi hc,Ac,Aj hi,Aq oo oo,Aq oo oo]
end
def Wj(m:Al)(g:LI)(r:Af)(p:Aa):Bool:=decide (p.Of=1/\p.Id∉g)&&match Ab6 m.V m.T p with
 |some s=>decide (r.Tall<=s.Lo/\s.Lo<=r.High)
 |none=>false
def Cc(l:List Aa)(m:Al)(g:LI)(r:Af):List Aa:=Bf Hn (X.bot X.plF ((X.dryL l r).filter (Wj m g r)))
theorem Aqx{l:List Aa}(hf:X.Fit l):∃L,L.Perm (X.bot X.plF l)/\Um Bp l=some L:=by
 obtain⟨L,h1,h2⟩:=X.lowest_eq X.plF Bp Ajy l [] hf.n hf.id (fun p hp=>⟨rfl,by have:=X.okPt_rng (hf.ok p hp);simp only[X.plF];omega⟩);refine⟨L,h1,?_⟩;have hlen:L.length<=1024:=by rw[h1.length_eq];exact Nat.le_trans (length_filter_le _ _) hf.n
 unfold Um;rw[h2,X.foldlM_stepC L [] (sV hlen)];rfl
theorem Fit.bot{l:List Aa}(h:X.Fit l):X.Fit (X.bot X.plF l):=h.filter _
section
variable {l:List Aa}{r:Af}(hl:X.validL l=true)(hr:X.okRules r=true){m:Al}(h:Msh m){g:LI}(hg:g.length<=1000000)
theorem Aax(hl:X.validL l=true):X.Fit (Cc l m g r):=(Fit.bot (((X.Fit.of hl).filter _).filter _)).perm (Db _ _).symm
theorem Ala{p:Aa}(hp:p∈Cc l m g r):p∈l/\X.sunkB l r p=false/\p.Of=1/\p.Id∉g/\∃s,Ab6 m.V m.T p=some s/\r.Tall<=s.Lo/\s.Lo<=r.High:=by
 have h1:=(X.mem_bot.1 (Gs.1 hp)).1;rw[mem_filter] at h1;obtain⟨h2,h3⟩:=h1;unfold X.dryL at h2;rw[mem_filter] at h2;unfold Wj at h3;rw[Bool.and_eq_true,dQ] at h3;refine⟨h2.1,sV h2.2,h3.1.1,h3.1.2,?_⟩;cases e:Ab6 m.V m.T p with
 |none=>rw[e] at h3;cases h3.2
 |some s=>rw[e] at h3;exact⟨s,rfl,sV h3.2⟩
theorem Ahd(hl:X.validL l=true):Ho (Cc l m g r):=by
 have hf:=(Aax (m:=m) (g:=g) (r:=r) hl).id;rw[List.Nodup,pairwise_map] at hf;unfold Ho;refine List.Pairwise.imp_of_mem ?_ hf;intro a b ha hb hne e;obtain⟨a1,a2⟩:=X.mem_bot.1 (Gs.1 ha);obtain⟨b1,b2⟩:=X.mem_bot.1 (Gs.1 hb);have e':X.plF a=X.plF b:=by unfold X.plF;rw[e.1,e.2]
 exact hne (X.lowB_total (b2 a a1 e') (a2 b b1 e'.symm))
include hl hr h hg
theorem As3:Za l m g r=some (Cc l m g r):=by
 have hF:=X.Fit.of hl;have hn:=hF.n;have hd:X.Fit (X.dryL l r):=hF.filter _;have hdn:=hd.n;obtain⟨L,h1,h2⟩:=Aqx (hd.filter (Wj m g r));have hL:X.Fit L:=(Fit.bot (hd.filter _)).perm h1.symm;have hLn:=hL.n;unfold Za;rw[X.parted_eq hl hr,Ac,jn_d,X.lfix_filter (X.dryL l r) (Wj m g r) (Uh (X.dryL l r,X.sunkL l r) m r g) (fun j hj s hs=>?_) (fun s=>?_),Ac]
 .dsimp only;rw[h2,Ac,gd_t ⟨oo,fun x hx=>⟨hx,Xi hL⟩⟩];unfold Cc;rw[Qt (totP L) (fun x hx=>⟨hx,Xi hL⟩) h1]
 .unfold Uh;dsimp only;rw[iP oo,jn_d,Aj hj,Ac,jn_d,As oo];have hp:=hd.ok _ (gM hj);have hrr:=X.okRules_rng hr;generalize (X.dryL l r)[j]=p at *
  by_cases c:p.Of=1
  .rw[iP c,Ahh hg,Ac];dsimp only
   by_cases c2:p.Id∈g
   .have hv:Wj m g r p=false:=by unfold Wj;rw[dF (fun h:p.Of=1/\p.Id∉g=>h.2 c2)];rfl
    rw[iP (dT c2),hv];rfl
   .rw[iN (sV c2),As2 h hp,Ac,jn_d];cases e:Ab6 m.V m.T p with
    |none=>
     have hv:Wj m g r p=false:=by unfold Wj;rw[e,Bool.and_false]
     rw[hv];rfl
    |some z=>
     have hv:Wj m g r p=decide (r.Tall<=z.Lo/\z.Lo<=r.High):=by unfold Wj;rw[dT (⟨c,c2⟩:p.Of=1/\p.Id∉g),Bool.true_and,e]
     dsimp only;rw[iP rfl,X.within_eq,Ac,gd_t oo,hv]
     by_cases c3:r.Tall<=z.Lo/\z.Lo<=r.High
     .rw[dT c3];rfl
     .rw[dF c3];rfl
  .have hv:Wj m g r p=false:=by unfold Wj;rw[dF (fun h:p.Of=1/\p.Id∉g=>c h.1)];rfl
   rw[iN c,hv];rfl
 .unfold Uh;dsimp only;rw[iN oo]
end
theorem Aqy{ids:LI}(h:ids.length<=1000000)(hr:∀i∈ids,-9223372036854775808<=i/\i<=9223372036854775807):∃m,Vk ids=some m/\∀x,(mget m x).getD false=decide (x∈ids):=by
 have:=Ax (B:=Yf ids) (fun s=>ids.length-s.2.toNat) (fun s=>∃k:Nat,k<=ids.length/\s.2=(k:Int)/\s.1.length<=k/\(∀p∈s.1,p.2=true)/\∀x,x∈s.1.map (·.1)↔x∈ids.take k)
  (fun m=>(∀p∈m,p.2=true)/\∀x,x∈m.map (·.1)↔x∈ids) (fun s hs=>by
  obtain⟨m,i⟩:=s;obtain⟨k,hk,hi,hlen,ht,hx⟩:=hs;dsimp only at hi hlen ht hx;subst hi;unfold Yf;dsimp only
  by_cases hk2:k<ids.length
  .left;rw[iP oo,Aj hk2,Ac,gd_t (hr _ (gM hk2)),gd_t oo,As oo];have hsub:∀p∈mdel m ids[k],p∈m:=fun p hp=>(Mo.1 hp).1
   refine⟨_,rfl,⟨k+1,hk2,rfl,?_,?_,fun x=>?_⟩,by dsimp only;omega⟩
   .show (mdel m ids[k]).length+1<=k+1;have:(mdel m ids[k]).length<=m.length:=length_filter_le _ _;omega
   .intro p hp;rcases mem_cons.1 hp with rfl|hp
    .rfl
    .exact ht p (hsub p hp)
   .dsimp only;show x∈ids[k]::(mdel m ids[k]).map (·.1)↔_;rw[mem_cons,take_succ_eq_append_getElem hk2,mem_append,mem_singleton,<-hx x];constructor
    .rintro (e|e)
     .exact .inr e
     .obtain⟨p,hp,rfl⟩:=mem_map.1 e;exact .inl (mem_map_of_mem (hsub p hp))
    .rintro (e|e)
     .by_cases c:x=ids[k]
      .exact .inl c
      .obtain⟨p,hp,rfl⟩:=mem_map.1 e;exact .inr (mem_map.2 ⟨p,Mo.2 ⟨hp,c⟩,rfl⟩)
     .exact .inl e
  .right;rw[iN oo];have:k=ids.length:=oo;subst this;rw[take_length] at hx;exact⟨_,rfl,ht,hx⟩) (([]:List (Int×Bool)),0) ⟨0,oo,rfl,s_,fun p hp=>(by cases hp),fun x=>s_⟩
 obtain⟨m,e,h1,h2⟩:=this;refine⟨m,?_,fun x=>?_⟩
 .unfold Vk;rw[jn_d,e,Ac]
 .rw[X.mget_true h1];exact decide_eq_decide.2 (h2 x)
def UF(s:LI):Prop:=∀k (hk:k<s.length),0<=s[k]/\s[k]<=(k:Int)
theorem Ams{s:LI}(hu:UF s){i:Nat}(hi:i<s.length):∃j:Nat,j<=i/\Qp s (i:Int)=some (j:Int):=by
 have:=Ax (B:=Oz s) (fun x=>x.toNat) (fun x=>∃k:Nat,x=(k:Int)/\k<=i) (fun t=>∃j:Nat,t=(j:Int)/\j<=i) (fun x hx=>by
  obtain⟨k,rfl,hk⟩:=hx;have hk2:k<s.length:=oo;have h1:=hu k hk2;unfold Oz;rw[Aj hk2,Ac,Ac]
  by_cases c:s[k]=(k:Int)
  .right;rw[iP c];exact⟨_,rfl,k,rfl,hk⟩
  .left;rw[iN c];exact⟨_,rfl,⟨s[k].toNat,oo,oo⟩,oo⟩) (i:Int) ⟨i,rfl,nL _⟩
 obtain⟨t,ht,j,rfl,hj⟩:=this;refine⟨j,hj,?_⟩;unfold Qp;rw[jn_d,ht,Ac]
theorem UF.set{s:LI}(hu:UF s){a b:Nat}(h:b<=a):UF (setI s (a:Int) (b:Int)):=by
 rw[Fo];intro k hk;rw[length_set] at hk;rw[getElem_set]
 by_cases c:a=k
 .rw[iP c];omega
 .rw[iN c];exact hu k hk
theorem Axz{n:Nat}{t:Ah}(h0:inN n t.a0)(h1:inN n t.a1)(h2:inN n t.a2){k:Nat}(hk:k<3):
  ∃a b:Nat,idx [t.a0,t.a1,t.a2] (k:Int)=some (a:Int)/\idx [t.a0,t.a1,t.a2] (Int.tmod (w64 ((k:Int)+1)) 3)=some (b:Int)/\a<n/\b<n:=by
 obtain⟨a,ea,ha⟩:=Gf h0;obtain⟨b,eb,hb⟩:=Gf h1;obtain⟨c,ec,hc⟩:=Gf h2;rw[ea,eb,ec,As oo];rcases (by omega:k=0\/k=1\/k=2) with rfl|rfl|rfl
 .exact⟨a,b,rfl,rfl,ha,hb⟩
 .exact⟨b,c,rfl,rfl,hb,hc⟩
 .exact⟨c,a,rfl,rfl,hc,ha⟩
section
variable {L:List Aa}{r:Af}(hL:X.Fit L)(hr:X.okRules r=true)
include hL hr
theorem Aqz{t:Ah}(h0:inN L.length t.a0)(h1:inN L.length t.a1)(h2:inN L.length t.a2){s:List Int}(hu:UF s)(hn:s.length=L.length):
  ∃s',lfix (Fq t L r) (s,0)=some s'/\UF s'/\s'.length=L.length:=by
 have hrr:=X.okRules_rng hr;have:=Ax (B:=Fq t L r) (fun x=>3-x.2.toNat) (fun x=>∃k:Nat,k<=3/\x.2=(k:Int)/\UF x.1/\x.1.length=L.length) (fun s'=>UF s'/\s'.length=L.length) (fun x hx=>by
  obtain⟨s,i⟩:=x;obtain⟨k,hk,hi,hu,hn⟩:=hx;dsimp only at hi hu hn;subst hi;unfold Fq;dsimp only
  by_cases hk2:k<3
  .left;obtain⟨a,b,ea,eb,ha,hb⟩:=Axz h0 h1 h2 hk2;have pa:=hL.ok _ (gM ha);have pb:=hL.ok _ (gM hb);have ra:=X.okPt_rng pa;have rb:=X.okPt_rng pb;rw[iP oo,jn_d,ea,Ac,eb,Ac,jn_d,Aj ha,Ac,Aj hb,Ac,X.near_eq pa pb oo oo,Ac,As oo]
   by_cases c:X.sq L[a] L[b]<=r.Link*r.Link
   .rw[iP (dT c),Ac,Ac,(Aja (a:=L[a].Z) (b:=L[b].Z) oo oo).1,Ac];dsimp only
    by_cases c2:r.Flat<gapI L[a].Z L[b].Z
    .rw[iP (dT c2)];exact⟨_,rfl,⟨k+1,hk2,rfl,hu,hn⟩,by dsimp only;omega⟩
    .obtain⟨x,hx,ex⟩:=Ams hu (i:=a) oo;obtain⟨y,hy,ey⟩:=Ams hu (i:=b) oo;have em:max (x:Int) (y:Int)=((max x y:Nat):Int):=oo;have en:min (x:Int) (y:Int)=((min x y:Nat):Int):=oo;have hm:max x y<s.length:=oo;rw[iN (sV c2),ex,Ac,ey,Ac,em,en,Aj hm,Ac];exact⟨_,rfl,⟨k+1,hk2,rfl,hu.set oo,by rw[Fn];exact hn⟩,by dsimp only;omega⟩
   .rw[iN (sV c)];dsimp only;rw[iP rfl];exact⟨_,rfl,⟨k+1,hk2,rfl,hu,hn⟩,by dsimp only;omega⟩
  .right;rw[iN oo];exact⟨_,rfl,hu,hn⟩) (s,0) ⟨0,oo,rfl,hu,hn⟩
 obtain⟨s',e,h⟩:=this;exact⟨s',e,h⟩
theorem Au2(ha:Ho L):∃G,Iw L r=some G/\G.length=L.length/\∀x∈G,∃k:Nat,x=(k:Int)/\k<L.length:=by
 have hn:=hL.n;obtain⟨x,e,⟨e0,_,e1,e2,e3⟩|⟨_,e0⟩⟩:=Alg hL
 .have hm:=Ajb hL e1 e3;have hvl:x.1.V.length=L.length:=by rw[e1];unfold vxL;rw[length_map]
  have i1:∃s,lfix (Hk L) (List.replicate (Int.toNat (L.length:Int)) (0:Int),0)=some s/\UF s/\s.length=L.length:=by
   have:=Ax (B:=Hk L) (fun s=>L.length-s.2.toNat) (fun s=>∃k:Nat,k<=L.length/\s.2=(k:Int)/\UF s.1/\s.1.length=L.length) (fun s=>UF s/\s.length=L.length) (fun s hs=>by
    obtain⟨s,i⟩:=s;obtain⟨k,hk,hi,hu,hs⟩:=hs;dsimp only at hi hu hs;subst hi;unfold Hk;dsimp only;rw[length_replicate]
    by_cases hk2:k<L.length
    .left;rw[iP oo,Aj (oo:k<s.length),Ac,As oo];exact⟨_,rfl,⟨k+1,hk2,rfl,hu.set (nL _),by rw[Fn];exact hs⟩,by dsimp only;omega⟩
    .right;rw[iN oo];exact⟨_,rfl,hu,hs⟩) (List.replicate (Int.toNat (L.length:Int)) (0:Int),0) ⟨0,oo,rfl,fun k hk=>by dsimp only;rw[getElem_replicate];omega,by dsimp only;rw[length_replicate];omega⟩
   exact this
  obtain⟨s1,l1,u1,n1⟩:=i1;have i2:∃s,lfix (Fs x L r) (s1,0)=some s/\UF s/\s.length=L.length:=by
   have hTl:=hm.len;have:=Ax (B:=Fs x L r) (fun s=>x.1.T.length-s.2.toNat) (fun s=>∃k:Nat,k<=x.1.T.length/\s.2=(k:Int)/\UF s.1/\s.1.length=L.length) (fun s=>UF s/\s.length=L.length) (fun s hs=>by
    obtain⟨s,i⟩:=s;obtain⟨k,hk,hi,hu,hs⟩:=hs;dsimp only at hi hu hs;subst hi;unfold Fs;dsimp only
    by_cases hk2:k<x.1.T.length
    .left;obtain⟨t0,t1,t2,_⟩:=hm.t _ (gM hk2);rw[hvl] at t0 t1 t2;obtain⟨s',g1,g2,g3⟩:=Aqz hL hr t0 t1 t2 hu hs;rw[iP oo,jn_d,Aj hk2,Ac,g1,Ac,As oo];exact⟨_,rfl,⟨k+1,hk2,rfl,g2,g3⟩,by dsimp only;omega⟩
    .right;rw[iN oo];exact⟨_,rfl,hu,hs⟩) (s1,0) ⟨0,oo,rfl,u1,n1⟩
   exact this
  obtain⟨s2,l2,u2,n2⟩:=i2;have i3:∃s,lfix (Ft s2) (s2,0)=some s/\UF s/\s.length=L.length:=by
   have:=Ax (B:=Ft s2) (fun s=>s2.length-s.2.toNat) (fun s=>∃k:Nat,k<=s2.length/\s.2=(k:Int)/\UF s.1/\s.1.length=L.length) (fun s=>UF s/\s.length=L.length) (fun s hs=>by
    obtain⟨s,i⟩:=s;obtain⟨k,hk,hi,hu,hs⟩:=hs;dsimp only at hi hu hs;subst hi;unfold Ft;dsimp only
    by_cases hk2:k<s2.length
    .left;have hk3:k<s.length:=oo;obtain⟨y,hy,ey⟩:=Ams hu hk3;rw[iP oo,ey,Ac,Aj hk3,Ac,As oo];exact⟨_,rfl,⟨k+1,hk2,rfl,hu.set hy,by rw[Fn];exact hs⟩,by dsimp only;omega⟩
    .right;rw[iN oo];exact⟨_,rfl,hu,hs⟩) (s2,0) ⟨0,oo,rfl,u2,n2⟩
   exact this
  obtain⟨s3,l3,u3,n3⟩:=i3;refine⟨s3,?_,n3,fun z hz=>?_⟩
  .unfold Iw;rw[gd_t oo,jn_d,l1,Ac];dsimp only;rw[e,Ac,iP e0,jn_d,l2,Ac];dsimp only;rw[jn_d,l3,Ac]
  .obtain⟨k,hk,rfl⟩:=getElem_of_mem hz;have:=u3 k hk;exact⟨s3[k].toNat,oo,oo⟩
 .exact absurd ha e0
end
def Ge{α:Type}(p:Nat->Bool)(l:List α):List α:=(l.zipIdx.filter fun x=>p x.2).map (·.1)
theorem Abl{α:Type}{p:Nat->Bool}{l:List α}{k:Nat}(hk:k<l.length):Ge p (l.take (k+1))=if p k=true then Ge p (l.take k)++[l[k]] else Ge p (l.take k):=by
 unfold Ge;rw[take_succ_eq_append_getElem hk,zipIdx_append,filter_append,map_append,length_take,Nat.min_eq_left oo];simp only[zipIdx_cons,zipIdx_nil,Nat.zero_add]
 by_cases c:p k=true
 .rw[iP c,filter_cons_of_pos (sV c)];rfl
 .rw[iN c,filter_cons_of_neg (sV c)];simp
theorem Ahe{α:Type}{p:Nat->Bool}{l:List α}{x:α}(h:x∈Ge p l):x∈l:=by
 unfold Ge at h;obtain⟨y,hy,rfl⟩:=mem_map.1 h;exact fst_mem_of_mem_zipIdx (mem_filter.1 hy).1
theorem Xh{α:Type}(p:Nat->Bool)(l:List α):(Ge p l).length<=l.length:=by
 unfold Ge;rw[length_map];have:=length_filter_le (fun x:α×Nat=>p x.2) l.zipIdx;rw[length_zipIdx] at this;exact this
theorem Abm{α:Type}(l:List α)(p:Nat->Bool)(B:List α×Int->Option (Sum (List α×Int) (List α)))(h1:∀(j:Nat) (hj:j<l.length) (s:List α),s.length<=j->B (s,(j:Int))=some (.inl (if p j=true then s++[l[j]] else s,((j+1:Nat):Int))))(h2:∀s,B (s,(l.length:Int))=some (.inr s)):lfix B ([],0)=some (Ge p l):=by
 have key:∀(m k:Nat),k<=l.length->l.length-k=m->lfix B (Ge p (l.take k),(k:Int))=some (Ge p l):=by
  intro m
  induction m with
  |zero=>
   intro k hk hm;obtain rfl:k=l.length:=oo;rw[Ay,h2,take_length]
  |succ m ih=>
   intro k hk hm;have hlt:k<l.length:=oo;have:=Xh p (l.take k);rw[length_take] at this;rw[Ay,h1 k hlt _ oo];dsimp only;rw[<-Abl hlt];exact ih (k+1) oo oo
 exact key l.length 0 (Nat.zero_le _) rfl
def Wk(G S:LI)(r:Af)(j:Nat):Bool:=match idx G (j:Int) with
 |some x=>(match idx S x with
  |some z=>decide (r.Few<=z)
  |none=>false)
 |none=>false
theorem Ax0{G:LI}{n:Nat}(hn:G.length<=1000000)(hg:∀x∈G,∃k:Nat,x=(k:Int)/\k<n):∃S,lfix (Dl G) (List.replicate n (0:Int),0)=some S/\S.length=n:=by
 have:=Ax (B:=Dl G) (fun s=>G.length-s.2.toNat) (fun s=>∃k:Nat,k<=G.length/\s.2=(k:Int)/\s.1.length=n) (fun s=>s.length=n) (fun s hs=>by
  obtain⟨s,i⟩:=s;obtain⟨k,hk,hi,hs⟩:=hs;dsimp only at hi hs;subst hi;unfold Dl;dsimp only
  by_cases hk2:k<G.length
  .left;obtain⟨x,hx,hx2⟩:=hg _ (gM hk2);have hx3:x<s.length:=oo;rw[iP oo,Aj hk2,Ac,hx,Aj hx3,Ac,Ac,As oo];exact⟨_,rfl,⟨k+1,hk2,rfl,by rw[Fn];exact hs⟩,by dsimp only;omega⟩
  .right;rw[iN oo];exact⟨_,rfl,hs⟩) (List.replicate n (0:Int),0) ⟨0,oo,rfl,length_replicate⟩
 exact this
theorem Ax1{l:List Aa}{r:Af}(hl:X.validL l=true)(hr:X.okRules r=true){m:Al}(h:Msh m){g:List Int}(hg:g.length<=1000000):
  ∃G S,Iw (Cc l m g r) r=some G/\lfix (Dl G) (List.replicate (Cc l m g r).length (0:Int),0)=some S/\Nz l m g r=some (Cq ((Ge (Wk G S r) (Cc l m g r)).map (·.Id))):=by
 have hF:=Aax (m:=m) (g:=g) (r:=r) hl;have hn:=hF.n;obtain⟨G,e1,e2,e3⟩:=Au2 hF hr (Ahd hl);obtain⟨S,e4,e5⟩:=Ax0 (n:=(Cc l m g r).length) oo e3;refine⟨G,S,e1,e4,?_⟩;unfold Nz;rw[As3 hl hr h hg,Ac,e1,Ac,gd_t oo,jn_d,show Int.toNat ((((Cc l m g r).length:Nat):Int))=(Cc l m g r).length from rfl,e4,Ac];dsimp only;rw[jn_d,Abm (Cc l m g r) (Wk G S r) (Hl (Cc l m g r) G S r) (fun j hj s hs=>?_) (fun s=>?_),Ac]
 .dsimp only;have hl2:=Xh (Wk G S r) (Cc l m g r);rw[X.ids_eq oo,Ac]
 ·unfold Hl;dsimp only;have hj2:j<G.length:=oo;obtain⟨x,hx,hx2⟩:=e3 _ (getElem_mem hj2);have hx3:x<S.length:=oo;rw[if_pos oo,jn_d,Aj hj,Ac,Aj hj2,Ac,hx,Aj hx3,Ac,As oo];have hv:Wk G S r j=decide (r.Few<=S[x]):=by
   unfold Wk;rw[Aj hj2];dsimp only;rw[hx,Aj hx3]
  rw[hv]
  by_cases c:r.Few<=S[x]
  .rw[iP c,gd_t oo,iP (dT c)]
  .rw[iN c,iN (sV c)]
 .unfold Hl;dsimp only;rw[iN oo]
theorem Ai0{α β:Type}(l:List α)(f:α->β)(B:List β×Int->Option (Sum (List β×Int) (List β)))(h1:∀(j:Nat) (hj:j<l.length) (s:List β),s.length=j->B (s,(j:Int))=some (.inl (s++[f l[j]],((j+1:Nat):Int))))(h2:∀s,B (s,(l.length:Int))=some (.inr s)):lfix B ([],0)=some (l.map f):=by
 have key:∀(m k:Nat),k<=l.length->l.length-k=m->lfix B ((l.take k).map f,(k:Int))=some (l.map f):=by
  intro m
  induction m with
  |zero=>
   intro k hk hm;obtain rfl:k=l.length:=oo;rw[Ay,h2,take_length]
  |succ m ih=>
   intro k hk hm;have hlt:k<l.length:=oo;rw[Ay,h1 k hlt _ (by rw[length_map,length_take];omega)];dsimp only;have:(l.take k).map f++[f l[k]]=(l.take (k+1)).map f:=by rw[take_succ_eq_append_getElem hlt,map_append];rfl
   rw[this];exact ih (k+1) oo oo
 exact key l.length 0 (Nat.zero_le _) rfl
def Aef(m:Al)(r:Af)(S G R:LI)(p:Aa):Int :=
 if p.Id∈S then 7 else if p.Id∈G then 2 else match Ab6 m.V m.T p with
 |none=>1
 |some s=>if r.High<s.Lo\/s.Hi < -r.Low then 7 else if p.Id∈R then 6 else if r.Brush<=s.Lo then 5 else 1
theorem Ax2{m:Al}(h:Msh m){r:Af}(hr:X.okRules r=true){S G R:LI}{ms mg mr:List (Int×Bool)}(hs:∀x,(mget ms x).getD false=decide (x∈S))(hg:∀x,(mget mg x).getD false=decide (x∈G))(hR:∀x,(mget mr x).getD false=decide (x∈R)){p:Aa}(hp:X.okPt p=true):Gk ⟨r,m,ms,mg,mr⟩ p=some (Aef m r S G R p):=by
 have hpp:=X.okPt_rng hp;have hrr:=X.okRules_rng hr;unfold Gk Aef;dsimp only;rw[gd_t oo,Ac,hs]
 by_cases c1:p.Id∈S
 .rw[iP (dT c1),iP c1]
 .rw[iN (sV c1),iN c1,gd_t oo,Ac,hg]
  by_cases c2:p.Id∈G
  .rw[iP (dT c2),iP c2]
  .rw[iN (sV c2),iN c2,As2 h hp,jn_d,Ac];cases e:Ab6 m.V m.T p with
   |none=>rfl
   |some s=>
    dsimp only;rw[iP rfl,jn_d,gd_t oo,Ac,hR,Aq (x:=-r.Low) oo oo]
    by_cases c3:r.High<s.Lo
    .simp[c3]
    .by_cases c4:s.Hi < -r.Low
     .simp[c3,c4]
     .by_cases c5:p.Id∈R
      .simp[c3,c4,c5]
      .by_cases c6:r.Brush<=s.Lo
       .simp[c3,c4,c5,c6]
       .simp[c3,c4,c5,c6]
def Acj(l:List Aa)(r:Af):LI:=Cq ((X.sunkL l r).map (·.Id))
section
variable {l:List Aa}{r:Af}{C:List Aa}(hc:Ctx l r C){g:LI}(hg:GOk C g)
include hc
omit hc in
theorem As4{L:List Aa}(hL:∀p∈L,X.okPt p=true){i:Int}(h:i∈Cq (L.map (·.Id))):-9223372036854775808<=i/\i<=9223372036854775807:=by
 obtain⟨p,hp,rfl⟩:=mem_map.1 ((X.perm_sortI _).mem_iff.1 h);have:=X.okPt_rng (hL p hp);omega
include hg
theorem Ack(e:Fc l r=some g):∃ G S,Iw (Cc l (Dv l g) g r) r=some G/\lfix (Dl G) (List.replicate (Cc l (Dv l g) g r).length (0:Int),0)=some S /\
  Nz l (Dv l g) g r=some (Cq ((Ge (Wk G S r) (Cc l (Dv l g) g r)).map (·.Id))) /\
  Gl l r=some (l.map (Aef (Dv l g) r (Acj l r) g (Cq ((Ge (Wk G S r) (Cc l (Dv l g) g r)).map (·.Id))))):=by
 obtain⟨hs,_,_,_,hm⟩:=Aop hc hg;have hF:=X.Fit.of hc.val;have hn:=hc.few;have hgl:=GOk.len hg;have hcl:=hc.len;have hsl:(X.sunkL l r).length<=l.length:=length_filter_le _ _;obtain⟨G,S,e1,e2,e3⟩:=Ax1 hc.val hc.rul hm (g:=g) oo;refine⟨G,S,e1,e2,e3,?_⟩;have hfl:=Xh (Wk G S r) (Cc l (Dv l g) g r);have hhn:=(Aax (m:=Dv l g) (g:=g) (r:=r) hc.val).n;generalize hR:Cq ((Ge (Wk G S r) (Cc l (Dv l g) g r)).map (·.Id))=R at *;have hRl:R.length<=1000000:=by
  rw[<-hR,(X.perm_sortI _).length_eq,length_map];omega
 obtain⟨ms,a1,a2⟩:=Aqy (ids:=Acj l r) (by unfold Acj;rw[(X.perm_sortI _).length_eq,length_map];omega) (fun i hi=>As4 (L:=X.sunkL l r) (fun p hp=>hF.ok p (mem_filter.1 hp).1) hi);obtain⟨mg,b1,b2⟩:=Aqy (ids:=g) oo (fun i hi=>GOk.rng hc hg hi);obtain⟨mr,c1,c2⟩:=Aqy (ids:=R) hRl (fun i hi=>As4 (L:=Ge (Wk G S r) (Cc l (Dv l g) g r)) (fun p hp=>hF.ok p (Ala (Ahe hp)).1) (by rw[hR];exact hi));unfold Gl;rw[X.parted_eq hc.val hc.rul,Ac,e,Ac,hs,Ac,jn_d];dsimp only;rw[iP rfl,X.ids_eq oo,Ac,show Cq ((X.sunkL l r).map (·.Id))=Acj l r from rfl,a1,Ac,b1,Ac,e3,Ac,c1,Ac,gd_t oo,jn_d];refine (congrArg (fun o=>bnd o _) (Ai0 l (Aef (Dv l g) r (Acj l r) g R) _ (fun j hj s hs=>?_) (fun s=>?_))).trans rfl
 .unfold Sf;dsimp only;rw[iP oo,Aj hj,Ac,Ax2 hm hc.rul a2 b2 c2 (hF.ok _ (gM hj)),Ac,gd_t oo,As oo]
 .unfold Sf;dsimp only;rw[iN oo]
end
section
variable {l:List Aa}{r:Af}{C:List Aa}(hc:Ctx l r C){g:LI}(hg:Grnd l r C g){R:LI}
include hc hg
end
theorem Aoj{g:LI}{F:FitF}{C:List Aa}(hC:(C.map (·.Id)).Nodup)(i:Int):i∈adds g F C↔∃p∈C,p.Id=i/\p.Id∉g/\(F p).2.1=true/\∀q∈C,q.Id∉g->(F q).2.1=true->(F q).1=(F p).1->¬btr (F q).2.2 q ⟨p,(F p).2.2⟩:=by
 have hb:=Aba g F C;constructor
 .intro h;obtain⟨o,ho,rfl⟩:=mem_map.1 h;obtain⟨h1,h2,h3⟩:=hb.src o ho;refine⟨o.2.p,h1,rfl,h2,by rw[h3],fun q hq hqg hqf he=>?_⟩;obtain⟨o',ho',hn⟩:=hb.all q hq hqg hqf;rw[he,h3] at ho';have:=Up hb.map ho;dsimp only at ho';rw[this] at ho';cases ho'
  rw[h3];exact hn
 ·rintro⟨p,hp,rfl,hpg,hpf,hmin⟩;obtain⟨o,ho,hn⟩:=hb.all p hp hpg hpf;have hom:=He ho;obtain⟨h1,h2,h3⟩:=hb.src _ hom;dsimp only at h1 h2 h3;have h4:=hmin o.p h1 h2 (by rw[h3]) (by rw[h3]);rw[h3] at h4;dsimp only at h4;have e:o.p.Id=p.Id:=by
   unfold btr at h4 hn;dsimp only at h4;have e1:o.far=(F p).2.2:=by
    by_cases c:o.far<(F p).2.2
    .exact absurd (.inl c) h4
    .by_cases c2:(F p).2.2<o.far
     .exact absurd (.inl c2) hn
     .omega
   refine X.lowB_total (Bool.eq_false_iff.2 fun c=>h4 (.inr ⟨e1,c⟩)) (Bool.eq_false_iff.2 fun c=>hn (.inr ⟨e1.symm,c⟩))
  rw[<-e];exact mem_map.2 ⟨_,hom,rfl⟩
def Xy(gr:LI->LI):Nat->LI->LI
 |0,g=>g
 |n+1,g=>if (gr g).length=g.length then g else Xy gr n (gr g)
theorem Ahf{gr gr':LI->LI}{P:LI->Prop}(h:∀g,P g->gr' g=gr g/\P (gr g)):∀(n:Nat) (g:LI),P g->Xy gr' n g=Xy gr n g
 |0,_,_=>rfl
 |n+1,g,hg=>by
  unfold Xy;rw[(h g hg).1]
  by_cases c:(gr g).length=g.length
  .rw[iP c,iP c]
  .rw[iN c,iN c];exact Ahf h n _ (h g hg).2
theorem Aaj{l:List Aa}{r:Af}{C:List Aa}(hc:Ctx l r C)(hC:Bx l r=some C):Fc l r=some (Xy (fun g=>Kj g (gFit l r g) C) C.length (X.seedL l r)):=by
 have:=Ax (B:=Jo l C r) (fun g=>C.length-g.length) (fun g=>GOk C g/\∃k,C.length<=k+g.length/\Xy (fun g=>Kj g (gFit l r g) C) k g=Xy (fun g=>Kj g (gFit l r g) C) C.length (X.seedL l r)) (fun g=>g=Xy (fun g=>Kj g (gFit l r g) C) C.length (X.seedL l r)) (fun g hs=>by
  obtain⟨h1,k,h2,h3⟩:=hs;have h4:=Aib hc h1;have l1:=GOk.len h4;have l2:=Adm (g:=g) (F:=gFit l r g) (C:=C);unfold Jo;rw[As7 hc h1,Ac,jn_d];dsimp only;rw[iP rfl]
  by_cases e:(Kj g (gFit l r g) C).length=g.length
  .right;rw[iP (dT oo)];refine⟨g,rfl,?_⟩;rw[<-h3];cases k with
   |zero=>rfl
   |succ k=>unfold Xy;rw[iP e]
  .left;rw[iN (by rw[dQ];omega)];cases k with
   |zero=>omega
   |succ k=>
    refine⟨_,rfl,⟨h4,k,oo,?_⟩,oo⟩;rw[<-h3]
    conv=>rhs;unfold Xy
    rw[iN e]) (X.seedL l r) ⟨Aic hc,C.length,oo,rfl⟩
 obtain⟨g,e,rfl⟩:=this;unfold Fc;rw[hC,Ac,As8 hc,Ac,e,Ac]
section
variable (n:Int){L:List Aa}{T:List Ah}(hT:∀t∈T,inN (vxL L).length t.a0/\inN (vxL L).length t.a1/\inN (vxL L).length t.a2/\0 < Ps (vxL L) t)
include hT
end
instance apDec(L:List Aa):Decidable (Ho L):=Classical.propDecidable _
theorem Ahg{g g':LI}{F:FitF}{C C':List Aa}(hC:(C.map (·.Id)).Nodup)(hg:g'.Perm g)(hp:C'.Perm C):Kj g' F C'=Kj g F C:=by
 have hC':(C'.map (·.Id)).Nodup:=(hp.map _).nodup_iff.2 hC;unfold Kj;refine X.sortI_perm (List.Perm.append hg ((perm_ext_iff_of_nodup (Aez hC') (Aez hC)).2 fun i=>?_));rw[Aoj hC',Aoj hC];simp only[hg.mem_iff,hp.mem_iff]
theorem Ax3{l:List Aa}{g:LI}(hl:X.Fit l)(h:Xz l g):((Sj l g).map (·.Id)).Perm g:=by
 refine (perm_ext_iff_of_nodup (Fit.pick hl).id h.1).2 fun i=>?_
 constructor
 .intro hi;obtain⟨p,hp,rfl⟩:=mem_map.1 hi;have h1:p∈selL l g:=Gs.1 hp;unfold selL at h1;rw[mem_filter,dQ] at h1;exact h1.2
 .intro hi;obtain⟨p,hp,rfl⟩:=h.2 i hi;refine mem_map_of_mem (Gs.2 ?_);unfold selL;rw[mem_filter,dQ];exact⟨hp,hi⟩
theorem Au3{l:List Aa}{g:LI}(hl:X.Fit l)(h:GSel l g):PSel l (Sj l g):=⟨(Fit.pick hl).id,fun p hp=>by
 have h1:p∈selL l g:=Gs.1 hp;unfold selL at h1;exact (mem_filter.1 h1).1,h.apart⟩
theorem Au4{l:List Aa}{g g':LI}(h:g'.Perm g):Sj l g'=Sj l g:=by
 unfold Sj selL;simp only[h.mem_iff]
section
variable {l:List Aa}{r:Af}{C:List Aa}(hc:Ctx l r C){g:LI}
include hc
theorem Ax4{g':LI}(hg:GSel l g)(hg':GSel l g')(h:g'.Perm g):gFit l r g'=gFit l r g:=by
 have hl:=X.Fit.of hc.val;have h1:=GSel.len hg;have h2:=GSel.len hg';have:=hc.few;have:Bo l g'=Bo l g:=by
  unfold Bo;rw[Wp hl oo (fun i hi=>GSel.rng hc hg hi),Wp hl oo (fun i hi=>GSel.rng hc hg' hi),iP hg.sel,iP hg'.sel,Au4 h]
 unfold gFit Dv;rw[this]
theorem Bbq{P:List Aa}(hP:PSel l P)(hg:GSel l g)(h:(P.map (·.Id)).Perm g):∃D,Ne l P r=some (P++D,0)/\Cq ((P++D).map (·.Id))=Kj g (gFit l r g) C/\(P++D).length=(Kj g (gFit l r g) C).length/\∀p∈D,p∈X.candL l r:=by
 obtain⟨D,h1,h2,h3⟩:=Axw hc hP;have hA:X.Fit (X.candL l r):=X.Fit.cand hc.val;have e:Cq ((P++D).map (·.Id))=Kj g (gFit l r g) C:=by
  rw[<-Ax4 hc hg (PSel.gsel (X.Fit.of hc.val) hP) h,<-Ahg hc.fit.id h hc.perm.symm];unfold Kj;rw[map_append];exact X.sortI_perm (h2.append_left _)
 refine⟨D,h1,e,?_,h3⟩;rw[<-e,(X.perm_sortI _).length_eq,length_map]
end
end
end
end Go.Proofs.YthlkpgdfifnagaaGreat
