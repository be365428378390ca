import Derived.Test.YthlkpgdfifnagaaGreatI21
import Derived.Test.YthlkpgdfifnagaaGreatRows
import Derived.ProofKit
import Derived.OpenShut
import Derived.ShutString
import Derived.ChangeOld
import Derived.Below
import Derived.Carry
import Derived.ChangeArms
import Derived.Deep.Slices
set_option maxRecDepth 100000
set_option maxHeartbeats 1000000
namespace Go.Proofs.YthlkpgdfifnagaaGreat
open Go.RowKit Go.Proofs.Tryz
noncomputable section
section
open Go
def Oq(p0:List Aa)(p1:Af):(List Aa)->Option (Sum (List Aa) (LI×Int)):=fun s0=>
 bnd (Ne p0 s0 p1) fun r0=>
 if (r0.1.length:Int)=(s0.length:Int) then (bnd (Dn s0) fun r1=>
 some (.inr (r1,0)))
 else (some (.inl r0.1))
def Gt(p0:List Aa)(p1:Af):Option (LI×Int):=
 bnd (Pz p0 p1) fun r2=>
 if r2.2=0 then (bnd (Nj p0 r2.1) fun r0=>
 bnd (lfix (Oq p0 p1) r0.1) fun t0=>
 some t0)
 else (some (([]:LI),r2.2))
instance(p0:List Aa)(p1:Af):Con (Gt p0 p1) prog 20 (fun K vs=>∃U0 E0,vs=[.slice U0 p0.length E0,.agg #[.int .i64 p1.Cell,.int .i64 p1.Reach,.int .i64 p1.Slope,.int .i64 p1.Link,.int .i64 p1.Flat,.int .i64 p1.Tall,.int .i64 p1.High,.int .i64 p1.Low,.int .i64 p1.Brush,.int .i64 p1.Few]]/\Has K U0 p0.length E0 9 Ag p0/\True) (fun _ r v Ln=>∃A0 c0,v=.tuple #[.slice A0 r.1.length c0,.int .i64 r.2]/\Ln=[.r A0 r.1.length c0 3 1 (r.1.flatMap Ak)]/\True):=⟨by
 rintro K _ r ⟨U0,E0,rfl,ha0,-⟩ hx w hK;replace ha0:=ha0.lo hK;unfold Gt at hx;refine CtS ntmps20 results20 ?_;refine pq ?_;intros;rename_i hx
 refine Cq2 (s:=19) hx rfl ?_ ?_
 .exact aI
 .refine pI ?_;intros;rename_i hx
  apply Lr (γ:=OA×Nat) hx [0,3] (fun s35 y35 f=>(8,.slice y35.1 s35.length y35.2)::f) [2,999] (fun s35 y35 l=>.r y35.1 s35.length y35.2 30 9 (s35.flatMap Ag)::l) (_,_);exact kk;exact sk;intro s35 y35 x35 hx _;unfold Oq at hx;exact au⟩
def Ej(p0:List Ah)(s0:List Ad×(List (Ad×Bool))×Int):(List Ad×(List (Ad×Bool))×Int)->Option (Sum (List Ad×(List (Ad×Bool))×Int) (List Ad×(List (Ad×Bool)))):=fun s1=>
 if s1.2.2<3 then (jn (fun (s2:List Ad×(List (Ad×Bool)))=>
 some (.inl (s2.1,s2.2,w64 (s1.2.2+1))))
 (fun j0=>bnd (idx p0 s0.2.2) fun x0=>
 bnd (idx [x0.a0,x0.a1,x0.a2] s1.2.2) fun x1=>
 bnd (idx p0 s0.2.2) fun x2=>
 bnd (idx [x2.a0,x2.a1,x2.a2] (Int.tmod (w64 (s1.2.2+1)) 3)) fun x3=>
 gd ((-9223372036854775808<=(min x1 x3)/\(min x1 x3)<=9223372036854775807)/\(-9223372036854775808<=(max x1 x3)/\(max x1 x3)<=9223372036854775807))<|
 bnd (some ((mget s1.2.1 ((⟨min x1 x3,max x1 x3⟩:Ad))).getD false)) fun x4=>
 if x4=true then (j0 (s1.1,s1.2.1))
 else (gd ((-9223372036854775808<=(min x1 x3)/\(min x1 x3)<=9223372036854775807)/\(-9223372036854775808<=(max x1 x3)/\(max x1 x3)<=9223372036854775807))<|
 gd (s1.2.1.length<9223372036854775807)<|
 gd ((s1.1.length+1)*16<=140737488355328)<|
 j0 (s1.1++[(⟨min x1 x3,max x1 x3⟩:Ad)],mput s1.2.1 ((⟨min x1 x3,max x1 x3⟩:Ad)) true))))
 else (some (.inr (s1.1,s1.2.1)))
def Kk(p0:List Ah):(List Ad×(List (Ad×Bool))×Int)->Option (Sum (List Ad×(List (Ad×Bool))×Int) (List Ad)):=fun s0=>
 if s0.2.2<(p0.length:Int) then (jn (fun (s1:List Ad×(List (Ad×Bool)))=>
 some (.inl (s1.1,s1.2,w64 (s0.2.2+1))))
 (fun j0=>bnd (lfix (Ej p0 s0) (s0.1,s0.2.1,0)) fun t0=>
 j0 t0))
 else (some (.inr s0.1))
def Qh(p0:List Ah):Option (List Ad):=
 jn (fun (s4:List Ad)=>
 bnd (Dm s4) fun r0=>
 some r0)
 (fun j4=>bnd (lfix (Kk p0) (([]:List Ad),([]:List (Ad×Bool)),0)) fun t0=>
 j4 t0)
def Tu(p0:Al):Option (List Ad×Int):=
 bnd (Li p0) fun r2=>
 if r2=0 then (bnd (Qh p0.T) fun r8=>
 some (r8,0))
 else (some (([]:List Ad),64))
def Nr(p0:Al)(p1:Aa):Option (Av×Bool):=
 bnd (Gr p0 (⟨p1.X,p1.Y⟩:Ab)) fun r4=>
 if r4.2=0 then (some ((⟨w64 (p1.Z.Lo-r4.1.Hi),w64 (p1.Z.Hi-r4.1.Lo)⟩:Av),true))
 else (some ((⟨0,0⟩:Av),false))
def Hf(p0:List Aa)(p2:Al)(p3:Af)(p1:LI):(List Aa×Int)->Option (Sum (List Aa×Int) (List Aa)):=fun s0=>
 if s0.2<(p0.length:Int) then (jn (fun (s1:List Aa)=>
 some (.inl (s1,w64 (s0.2+1))))
 (fun j0=>bnd (idx p0 s0.2) fun x0=>
 bnd (Nr p2 x0) fun r0=>
 jn (fun (s2:Bool)=>
 if s2=true then (bnd (idx p0 s0.2) fun x1=>
 gd ((s0.1.length+1)*72<=140737488355328)<|
 j0 (s0.1++[x1]))
 else (j0 s0.1))
 (fun j1=>if r0.2=true then (bnd (idx p0 s0.2) fun x2=>
 if x2.Of=1 then (if p3.Tall<=r0.1.Lo then (if r0.1.Lo<=p3.High then (bnd (idx p0 s0.2) fun x3=>
 bnd (Fd p1 x3.Id) fun r1=>
 if r1=true then (j1 false)
 else (bnd (idx p0 s0.2) fun x4=>
 bnd (Jv p0 x4 p3) fun r2=>
 j1 (!(r2))))
 else (j1 false))
 else (j1 false))
 else (j1 false))
 else (j1 false))))
 else (some (.inr s0.1))
def Fz(r0:List Aa):(LI×Int)->Option (Sum (LI×Int) LI):=fun s0=>
 if s0.2<(r0.length:Int) then (bnd (idx s0.1 s0.2) fun x0=>
 some (.inl (setI s0.1 s0.2 s0.2,w64 (s0.2+1))))
 else (some (.inr s0.1))
def Jj(x0:Int)(x1:Int):(LI×Int)->Option (Sum (LI×Int) LI):=fun s0=>
 if s0.2<(s0.1.length:Int) then (jn (fun (s1:LI)=>
 some (.inl (s1,w64 (s0.2+1))))
 (fun j0=>bnd (idx s0.1 s0.2) fun x2=>
 if x2=x0 then (bnd (idx s0.1 s0.2) fun x3=>
 j0 (setI s0.1 s0.2 x1))
 else (j0 s0.1)))
 else (some (.inr s0.1))
def Ga(r0:List Ad×Int)(r1:List Aa)(p3:Af):(LI×Int)->Option (Sum (LI×Int) LI):=fun s0=>
 if s0.2<(r0.1.length:Int) then (jn (fun (s1:LI)=>
 some (.inl (s1,w64 (s0.2+1))))
 (fun j0=>bnd (idx r0.1 s0.2) fun x0=>
 bnd (idx r0.1 s0.2) fun x1=>
 jn (fun (s2:Bool)=>
 if s2=true then (j0 s0.1)
 else (bnd (idx s0.1 x1.a1) fun x2=>
 bnd (idx s0.1 x0.a0) fun x3=>
 bnd (lfix (Jj x2 x3) (s0.1,0)) fun t0=>
 j0 t0))
 (fun j1=>bnd (idx r1 x0.a0) fun x4=>
 bnd (idx r1 x1.a1) fun x5=>
 bnd (Bw x4 x5) fun r2=>
 if (w64 (p3.Link*p3.Link))<r2 then (j1 true)
 else (bnd (idx r1 x0.a0) fun x6=>
 bnd (idx r1 x1.a1) fun x7=>
 bnd (Ez x6.Z x7.Z) fun r3=>
 j1 (decide (p3.Flat<r3))))))
 else (some (.inr s0.1))
def Jk(r0:List Aa)(s0:LI)(s1:List Aa×Int):(Int×Int)->Option (Sum (Int×Int) Int):=fun s2=>
 if s2.2<(r0.length:Int) then (jn (fun (s3:Int)=>
 some (.inl (s3,w64 (s2.2+1))))
 (fun j0=>bnd (idx s0 s2.2) fun x0=>
 bnd (idx s0 s1.2) fun x1=>
 if x0=x1 then (j0 (w64 (s2.1+1)))
 else (j0 s2.1)))
 else (some (.inr s2.1))
def Gb(r0:List Aa)(p3:Af)(s0:LI):(List Aa×Int)->Option (Sum (List Aa×Int) (List Aa)):=fun s1=>
 if s1.2<(r0.length:Int) then (jn (fun (s2:List Aa)=>
 some (.inl (s2,w64 (s1.2+1))))
 (fun j0=>jn (fun (s3:Int)=>
 if p3.Few<=s3 then (bnd (idx r0 s1.2) fun x0=>
 gd ((s1.1.length+1)*72<=140737488355328)<|
 j0 (s1.1++[x0]))
 else (j0 s1.1))
 (fun j1=>bnd (lfix (Jk r0 s0 s1) (0,0)) fun t0=>
 j1 t0)))
 else (some (.inr s1.1))
def Qi(p0:List Aa)(p1:LI)(p2:Al)(p3:Af):Option (List Aa):=
 jn (fun (s3:List Aa)=>
 bnd (Il s3) fun r0=>
 bnd (Eo r0) fun r1=>
 bnd (Fj r1) fun r2=>
 bnd (Tu r2.1) fun r3=>
 gd ((0:Int)<=(r1.length:Int)/\8*Int.toNat (r1.length:Int)<=140737488355328)<|
 jn (fun (s0:LI)=>
 jn (fun (s1:LI)=>
 jn (fun (s2:List Aa)=>
 some s2)
 (fun j0=>bnd (lfix (Gb r1 p3 s1) (([]:List Aa),0)) fun t0=>
 j0 t0))
 (fun j1=>bnd (lfix (Ga r3 r1 p3) (s0,0)) fun t1=>
 j1 t1))
 (fun j2=>bnd (lfix (Fz r1) (List.replicate (Int.toNat (r1.length:Int)) (0:Int),0)) fun t2=>
 j2 t2))
 (fun j3=>bnd (lfix (Hf p0 p2 p3 p1) (([]:List Aa),0)) fun t3=>
 j3 t3)
instance(p0:List Ah):Con (Qh p0) prog 157 (fun K vs=>∃U0 E0,vs=[.slice U0 p0.length E0]/\Has K U0 p0.length E0 3 Az p0/\True) (fun _ r v Ln=>∃A0 c0,v=.slice A0 r.length c0/\Ln=[.r A0 r.length c0 103 2 (r.flatMap Ar)]/\True):=⟨by
 rintro K _ r ⟨U0,E0,rfl,ha0,-⟩ hx w hK;replace ha0:=ha0.lo hK;unfold Qh at hx;have:=dl 9 [0,0,0,0,0,1,0,0,0,0,0,0,0,1,2,2] [0,1,2,3,4,5,6,7,8,9,10,11,12,13,14,15];refine CtS ntmps157 results157 ?_;refine pq ?_;intros;rename_i hx
 refine pA ?_;intros;rename_i hx
 refine pA ?_;intros;rename_i hx
 refine pA ?_;intros;rename_i hx
 apply Jr (γ:=OA×Nat) hx [] (fun s4 y4 f=>(3,.slice y4.1 s4.length y4.2)::f) [999] (fun s4 y4 l=>.r y4.1 s4.length y4.2 103 2 (s4.flatMap Ar)::l);exact kk
 .exact aI
 .refine pI ?_;intros;rename_i hx
  refine Ba 103 2 ?_;apply Lr (γ:=OA×Nat×Nat) hx [0,12] (fun s0 y0 f=>(3,.slice y0.1 s0.1.length y0.2.1)::(4,.map (some y0.2.2))::(13,.int .i64 s0.2.2)::f) [999] (fun s0 y0 l=>.r y0.1 s0.1.length y0.2.1 103 2 (s0.1.flatMap Ar)::Bg prog 103 Au Ca y0.2.2 s0.2.1::l) (_,_,_);exact kk;exact sk;intro s0 y0 x0 hx _;unfold Kk at hx;refine pq ?_;intros;rename_i hx
  refine Cq1 (s:=14) hx rfl ?_ ?_
  .refine pI ?_;intros;rename_i hx
   apply Jr (γ:=OA×Nat×Nat) hx [0,12,13] (fun s1 y1 f=>(3,.slice y1.1 s1.1.length y1.2.1)::(4,.map (some y1.2.2))::f) [999] (fun s1 y1 l=>.r y1.1 s1.1.length y1.2.1 103 2 (s1.1.flatMap Ar)::Bg prog 103 Au Ca y1.2.2 s1.2::l);exact kk
   .exact aI
   .refine pI ?_;intros;rename_i hx
    apply Lr (γ:=OA×Nat×Nat) hx [0,5,12,13] (fun s2 y2 f=>(3,.slice y2.1 s2.1.length y2.2.1)::(4,.map (some y2.2.2))::(16,.int .i64 s2.2.2)::f) [999] (fun s2 y2 l=>.r y2.1 s2.1.length y2.2.1 103 2 (s2.1.flatMap Ar)::Bg prog 103 Au Ca y2.2.2 s2.2.1::l) (_,_,_);exact kk;exact sk;intro s2 y2 x1 hx _;unfold Ej at hx;exact au
  .exact aI⟩
instance(p0:Al):Con (Tu p0) prog 108 (fun K vs=>∃U0 E0 U1 E1 U2 E2,vs=[.agg #[.slice U0 p0.V.length E0,.slice U1 p0.T.length E1,.slice U2 p0.Lines.length E2]]/\Has K U0 p0.V.length E0 4 Am p0.V/\Has K U1 p0.T.length E1 3 Az p0.T/\Has K U2 p0.Lines.length E2 2 Ar p0.Lines/\True) (fun _ r v Ln=>∃A0 c0,v=.tuple #[.slice A0 r.1.length c0,.int .i64 r.2]/\Ln=[.r A0 r.1.length c0 103 2 (r.1.flatMap Ar)]/\True):=⟨by
 rintro K _ r ⟨U0,E0,U1,E1,U2,E2,rfl,ha0,ha1,ha2,-⟩ hx w hK;replace ha0:=ha0.lo hK;replace ha1:=ha1.lo hK;replace ha2:=ha2.lo hK;unfold Tu at hx;refine CtS ntmps108 results108 ?_;exact au⟩
instance(p0:Al)(p1:Aa):Con (Nr p0 p1) prog 40 (fun K vs=>∃U0 E0 U1 E1 U2 E2,vs=[.agg #[.slice U0 p0.V.length E0,.slice U1 p0.T.length E1,.slice U2 p0.Lines.length E2],.agg #[.int .i64 p1.Id,.int .i64 p1.X,.int .i64 p1.Y,.int .i64 p1.Z.Lo,.int .i64 p1.Z.Hi,.int .i64 p1.Wide,.int .i64 p1.Num,.int .i64 p1.Of,.int .i64 p1.Class]]/\Has K U0 p0.V.length E0 4 Am p0.V/\Has K U1 p0.T.length E1 3 Az p0.T/\Has K U2 p0.Lines.length E2 2 Ar p0.Lines/\True) (fun _ r v Ln=>v=.tuple #[.agg #[.int .i64 r.1.Lo,.int .i64 r.1.Hi],.bool r.2]/\Ln=[]/\True):=⟨by
 rintro K _ r ⟨U0,E0,U1,E1,U2,E2,rfl,ha0,ha1,ha2,-⟩ hx w hK;replace ha0:=ha0.lo hK;replace ha1:=ha1.lo hK;replace ha2:=ha2.lo hK;unfold Nr at hx;refine CtS ntmps40 results40 ?_;exact au⟩
instance(p0:List Aa)(p1:LI)(p2:Al)(p3:Af):Con (Qi p0 p1 p2 p3) prog 54 (fun K vs=>∃U0 E0 U1 E1 U2 E2 U3 E3 U4 E4,vs=[.slice U0 p0.length E0,.slice U1 p1.length E1,.agg #[.slice U2 p2.V.length E2,.slice U3 p2.T.length E3,.slice U4 p2.Lines.length E4],.agg #[.int .i64 p3.Cell,.int .i64 p3.Reach,.int .i64 p3.Slope,.int .i64 p3.Link,.int .i64 p3.Flat,.int .i64 p3.Tall,.int .i64 p3.High,.int .i64 p3.Low,.int .i64 p3.Brush,.int .i64 p3.Few]]/\Has K U0 p0.length E0 9 Ag p0/\Has K U1 p1.length E1 1 Ak p1/\Has K U2 p2.V.length E2 4 Am p2.V/\Has K U3 p2.T.length E3 3 Az p2.T/\Has K U4 p2.Lines.length E4 2 Ar p2.Lines/\True) (fun _ r v Ln=>∃A0 c0,v=.slice A0 r.length c0/\Ln=[.r A0 r.length c0 30 9 (r.flatMap Ag)]/\True):=⟨by
 rintro K _ r ⟨U0,E0,U1,E1,U2,E2,U3,E3,U4,E4,rfl,ha0,ha1,ha2,ha3,ha4,-⟩ hx w hK;replace ha0:=ha0.lo hK;replace ha1:=ha1.lo hK;replace ha2:=ha2.lo hK;replace ha3:=ha3.lo hK;replace ha4:=ha4.lo hK;unfold Qi at hx;have:=dl 5 [1,0,0,0,1,2,0,0,0,4,3,2] [0,1,2,3,4,5,6,7,8,9,10,11] [9];have:=dl 6 [0,0,0,0,0,0,1,0,0,0,0,1,0,1,0,0,0,0,1,0,1,0,0,0,0,0,0,0,0,1,2,0,0,0,0,0,0,0,1,1,2,0,0] [0,1,2,3,4,5,6,7,8,9,10,11,12,13,14,15,16,17,18,19,20,21,22,23,24,25,26,27,28,29,30,31,32,33,34,35,36,37,38,39,40,41,42];have:=dl 19 [0,0,0,0,1,0,0,0,0,1,2,2] [0,1,2,3,4,5,6,7,8,9,10,11];have:=dl 20 [0,0,0,1,0,0,0,1,2,0,1,0,1,0,0,0,0,0,0,0,1,0,0,0,0,1,2,0,1,0,0] [0,1,2,3,4,5,6,7,9,10,11,12,13,8,14,15,16,17,18,19,20,21,22,23,24,25,27,28,26,29,30];have:=dl 21 [0,0,0,1,0,0,0,1,2,2] [0,1,2,3,4,5,6,7,8,9];have:=dl 35 [0,0,0,1,0,0,0,1,0] [0,1,2,3,4,5,6,7,8];refine CtS ntmps54 results54 ?_;refine pq ?_;intros;rename_i hx
 refine pA ?_;intros;rename_i hx
 refine pA ?_;intros;rename_i hx
 apply Jr (γ:=OA×Nat) hx [7] (fun s3 y3 f=>(9,.slice y3.1 s3.length y3.2)::f) [0,999] (fun s3 y3 l=>.r y3.1 s3.length y3.2 30 9 (s3.flatMap Ag)::l);exact kk
 .intro s3 y3 hx;refine pq ?_;intros;rename_i hx
  apply Jr (γ:=OA×Nat) hx [7,13,16] (fun s0 y0 f=>(18,.slice y0.1 s0.length y0.2)::f) [1,6,9,999] (fun s0 y0 l=>.r y0.1 s0.length y0.2 3 1 (s0.flatMap Ak)::l);exact kk
  .intro s0 y0 hx;apply Jr (γ:=OA×Nat) hx [7,13] (fun s1 y1 f=>(18,.slice y1.1 s1.length y1.2)::f) [2,3,999] (fun s1 y1 l=>.r y1.1 s1.length y1.2 3 1 (s1.flatMap Ak)::l);exact kk
   .intro s1 y1 hx;refine pq ?_;intros;rename_i hx
    refine pA ?_;intros;rename_i hx
    apply Jr (γ:=OA×Nat) hx [] (fun s2 y2 f=>(26,.slice y2.1 s2.length y2.2)::f) [999] (fun s2 y2 l=>.r y2.1 s2.length y2.2 30 9 (s2.flatMap Ag)::l);exact kk
    .exact aI
    .refine pI ?_;intros;rename_i hx
     refine Ba 30 9 ?_;apply Lr (γ:=OA×Nat) hx [7,13,18] (fun s4 y4 f=>(26,.slice y4.1 s4.1.length y4.2)::(27,.int .i64 s4.2)::f) [1,2,3,999] (fun s4 y4 l=>.r y4.1 s4.1.length y4.2 30 9 (s4.1.flatMap Ag)::l) (_,_);exact kk;exact sk;intro s4 y4 x0 hx _;unfold Gb at hx;refine pq ?_;intros;rename_i hx
     refine Cq1 (s:=195) hx rfl ?_ ?_
     .refine pI ?_;intros;rename_i hx
      apply Jr (γ:=OA×Nat) hx [7,13,18,27] (fun s5 y5 f=>(26,.slice y5.1 s5.length y5.2)::f) [1,2,3,999] (fun s5 y5 l=>.r y5.1 s5.length y5.2 30 9 (s5.flatMap Ag)::l);exact kk
      .exact aI
      .refine pI ?_;intros;rename_i hx
       refine pA ?_;intros;rename_i hx
       apply Jr (γ:=Unit) hx [7,13,18,26,27] (fun s6 y6 f=>(28,.int .i64 s6)::f) [0,1,2,3,999] (fun s6 y6 l=>l);exact kk
       .exact aI
       .refine pI ?_;intros;rename_i hx
        apply Lr (γ:=Unit) hx [7,13,18,26,27] (fun s7 y7 f=>(28,.int .i64 s7.1)::(29,.int .i64 s7.2)::f) [0,1,2,3,999] (fun s7 y7 l=>l) ();exact kk;exact sk;intro s7 y7 x1 hx _;unfold Jk at hx;exact au
     .exact aI
   .refine pI ?_;intros;rename_i hx
    apply Lr (γ:=OA×Nat) hx [7,13,16] (fun s8 y8 f=>(18,.slice y8.1 s8.1.length y8.2)::(20,.int .i64 s8.2)::f) [1,2,3,999] (fun s8 y8 l=>.r y8.1 s8.1.length y8.2 3 1 (s8.1.flatMap Ak)::l) (_,_);exact kk;exact sk;intro s8 y8 x2 hx _;unfold Ga at hx;refine pq ?_;intros;rename_i hx
    refine Cq1 (s:=124) hx rfl ?_ ?_
    .refine pI ?_;intros;rename_i hx
     apply Jr (γ:=OA×Nat) hx [7,13,16,20] (fun s9 y9 f=>(18,.slice y9.1 s9.length y9.2)::f) [1,2,3,999] (fun s9 y9 l=>.r y9.1 s9.length y9.2 3 1 (s9.flatMap Ak)::l);exact kk
     .exact aI
     .intro _ hx;refine Ar5 hx ?_;clear hx;intro _ hq_ hx;replace hx:=At4 hx hq_;refine pq ?_;intros;rename_i hx
      refine pA ?_;intros;rename_i hx
      refine pA ?_;intros;rename_i hx
      apply Jr (γ:=Unit) hx [7,13,16,18,20,21,22] (fun s50 y50 f=>(167,.bool s50)::f) [0,1,2,3,999] (fun s50 y50 l=>l);exact kk
      .intro s50 y50 hx;refine Cq3 (s:=167) hx rfl ?_ ?_
       .exact aI
       .refine pI ?_;intros;rename_i hx
        apply Lr (γ:=OA×Nat) hx [7,13,16,20,23,24] (fun s10 y10 f=>(18,.slice y10.1 s10.1.length y10.2)::(25,.int .i64 s10.2)::f) [1,2,3,999] (fun s10 y10 l=>.r y10.1 s10.1.length y10.2 3 1 (s10.1.flatMap Ak)::l) (_,_);exact kk;exact sk;intro s10 y10 x3 hx _;unfold Jj at hx;exact au
      .exact aI
    .exact aI
  .refine pI ?_;intros;rename_i hx
   apply Lr (γ:=OA×Nat) hx [7,13,16] (fun s11 y11 f=>(18,.slice y11.1 s11.1.length y11.2)::(19,.int .i64 s11.2)::f) [1,6,9,999] (fun s11 y11 l=>.r y11.1 s11.1.length y11.2 3 1 (s11.1.flatMap Ak)::l) (_,_);exact kk;exact sk;intro s11 y11 x4 hx _;unfold Fz at hx;exact au
 .refine pI ?_;intros;rename_i hx
  refine Ba 30 9 ?_;apply Lr (γ:=OA×Nat) hx [0,1,6,7] (fun s13 y13 f=>(9,.slice y13.1 s13.1.length y13.2)::(10,.int .i64 s13.2)::f) [1,2,999] (fun s13 y13 l=>.r y13.1 s13.1.length y13.2 30 9 (s13.1.flatMap Ag)::l) (_,_);exact kk;exact sk;intro s13 y13 x5 hx _;unfold Hf at hx;refine pq ?_;intros;rename_i hx
  refine Cq1 (s:=33) hx rfl ?_ ?_
  .refine pI ?_;intros;rename_i hx
   apply Jr (γ:=OA×Nat) hx [0,1,6,7,10] (fun s12 y12 f=>(9,.slice y12.1 s12.length y12.2)::f) [1,2,999] (fun s12 y12 l=>.r y12.1 s12.length y12.2 30 9 (s12.flatMap Ag)::l);exact kk
   .exact aI
   .refine pI ?_;intros;rename_i hx
    apply Jr (γ:=Unit) hx [0,1,6,7,9,10] (fun s14 y14 f=>(87,.bool s14)::f) [1,2,3,999] (fun s14 y14 l=>l);exact kk
    .exact aI
    .refine pI ?_;intros;rename_i hx
     refine (Cb3 (s:=46) hx rfl (fun _ hx=>?_) (fun _ hx=>?_)) ⟨_,_,rfl,rfl⟩
     .refine pq ?_;intros;rename_i hx
      refine (Cb1 (s:=54) hx rfl (fun _ hx=>?_) (fun _ hx=>?_)) ⟨_,_,rfl,rfl⟩
      .exact au
      .exact au
     .exact au
  .exact aI⟩
end
section
open Go Go.Sort
section
variable {l:List Ad}{T:List Ah}
def prL(s:Ad):Ad:=pr2 s.a0 s.a1
theorem Acy{α:Type}{l:List α}{k:Nat}(h:k<l.length):l.take (k+1)=l.take k++[l[k]]:=by
 rw[List.take_add_one,gE h];rfl
theorem Ar8{α:Type}{l:List α}{x:α}:(l++[x]).Nodup↔l.Nodup/\x∉l:=by
 rw[List.nodup_append];constructor
 .rintro⟨h1,_,h3⟩;exact⟨h1,fun h=>h3 x h x s_ rfl⟩
 .rintro⟨h1,h2⟩;exact⟨h1,s_,fun a ha b hb e=>h2 (by rw[List.mem_singleton] at hb;rw[<-hb,<-e];exact ha)⟩
theorem Bgb{s:Ad}(h:s.a0<=s.a1):prL s=s:=by
 obtain⟨x,y⟩:=s;unfold prL pr2;dsimp only at h⊢;rw[Int.min_eq_left h,Int.max_eq_right h]
theorem Bdk{L:List Ad}(h:∀s∈L,s.a0<=s.a1):L.map prL=L:=by
 induction L with
 |nil=>rfl
 |cons x r ih=>rw[List.map_cons,Bgb (h x s_),ih (fun s hs=>h s (by simp[hs]))]
theorem Bdl(x y:Ad):Rk x y=some (decide (cmp2 x y<0)):=by
 have h:=Adh x y;unfold Rk;rw[jn_d]
 by_cases c:x.a0<y.a0
 .rw[iP c,dT (h.2 (.inl c))]
 .rw[iN c]
  by_cases c2:x.a0=y.a0
  .rw[iP c2];congr 1;exact decide_eq_decide.2 (by rw[h];omega)
  .rw[iN c2,dF (fun g=>by have:=h.1 g;omega)]
theorem Akd(hl:l.length<=1000000)(hs:∀s∈l.map prL,Ua s):Dm l=some (Bf cmp2 (l.map prL)):=by
 obtain⟨t,ht,hR⟩:=Ax (B:=Hu l) (fun s=>l.length-s.2.toNat)
  (fun s=>∃k:Nat,s=((l.take k).map prL,(k:Int))/\k<=l.length)
  (fun t=>t=l.map prL) (by
   rintro s ⟨k,rfl,hk⟩;unfold Hu;dsimp only
   by_cases hlt:k<l.length
   .left;refine⟨((l.take (k+1)).map prL,((k+1:Nat):Int)),?_,⟨k+1,rfl,oo⟩,by simp;omega⟩;rw[iP oo,Aj hlt,Ac,Ac,Ac,Ac,gd_t (by simp;omega),As oo,Acy hlt,List.map_append];rfl
   .right;obtain rfl:k=l.length:=oo;exact⟨_,by rw[iN oo],s_⟩)
  ([],0) ⟨0,s_,oo⟩
 have hp:(l.map prL).length<=100000000:=by simp;omega
 have:=Aol (lt:=fun x y:Ad=>decide (cmp2 x y<0)) (B:=Gp) (B2:=Er (l.map prL)) (p:=l.map prL)
  (fun x y z h1 h2=>by
   simp only[decide_eq_false_iff_not,Adh] at *;omega)
  (fun x y h=>by
   simp only[decide_eq_false_iff_not,dQ,Adh] at *;omega)
  (fun A y x R hA=>by
   obtain⟨i0,i1⟩:=Amt A y x R;have w1:w64 (((A.length+1:Nat):Int)-1)=(A.length:Int):=by rw[Aq oo oo];omega
   unfold Gp;dsimp only;rw[jn_d,iP oo,w1,i1,Ac,i0,Ac,Bdl,Ac]
   by_cases c:decide (cmp2 x y<0)=true
   .have e1:(A++y::x::R).set (A.length+1) y=A++y::y::R:=by simp[List.set_append]
    have e2:(A++y::y::R).set A.length x=A++x::y::R:=by simp[List.set_append]
    have j0:∃z,idx (A++y::y::R) (A.length:Int)=some z:=⟨_,(Amt A y y R).1⟩;obtain⟨z,j0⟩:=j0;dsimp only;rw[iP c,iP c,Ac,Ac,Ac,Fo,e1,j0,Ac,Fo,e2]
   .dsimp only;rw[iN c,iN c])
  (fun x R=>by
   unfold Gp;dsimp only;rw[jn_d,iN oo];dsimp only;rw[iN s_])
  hp
  (fun l k hk=>by
   unfold Er;dsimp only;rw[iP oo,jn_d,show w64 ((k:Int)+1)=((k+1:Nat):Int) from by rw[Aq oo oo];omega])
  (fun l=>by
   unfold Er;dsimp only;rw[iN oo])
 obtain⟨r,h1,h2,h3⟩:=this;have e:r=Bf cmp2 (l.map prL):=Adl tot2 (fun x hx=>hs x (h2.mem_iff.1 hx)) (h3.imp fun h=>by simpa using h) (Pf tot2 hs) (h2.trans (Db _ _).symm);unfold Dm;rw[jn_d,ht,Ac,hR];dsimp only;rw[jn_d,h1,Ac,e]
abbrev Q2:=List (Ad×Bool)×List Ad
def add2(q:Q2)(s:Ad):Q2:=if (mget q.1 s).getD false=true then q else (mput q.1 s true,q.2++[s])
structure Took(q:Q2)(P:Ad->Prop):Prop where
 ok:Cx q.1
 same:∀s,(mget q.1 s).getD false=true↔s∈q.2
 nd:q.2.Nodup
 mem:∀s,s∈q.2↔P s
 len:q.1.length<=q.2.length
theorem Took.nil:Took ([],[]) (fun _=>False):=⟨List.Pairwise.nil,fun s=>by simp[mget],List.nodup_nil,fun s=>s_,nL _⟩
theorem Took.add{q:Q2}{P:Ad->Prop}(h:Took q P)(s:Ad):Took (add2 q s) (fun x=>P x\/x=s)/\(add2 q s).2.length<=q.2.length+1:=by
 unfold add2
 by_cases c:(mget q.1 s).getD false=true
 .rw[iP c];have hs:=(h.mem s).1 ((h.same s).1 c);refine⟨⟨h.ok,h.same,h.nd,fun x=>(h.mem x).trans ⟨.inl,fun g=>g.elim id fun e=>by rw[e];exact hs⟩,h.len⟩,oo⟩
 .rw[iN c];have hn:s∉q.2:=fun g=>c ((h.same s).2 g)
  refine⟨⟨h.ok.put _ _,fun x=>?_,?_,fun x=>?_,?_⟩,s_⟩
  .dsimp only;rw[Mq h.ok]
   by_cases e:x=s
   .rw[iP e,e];simp
   .rw[iN e,h.same x];simp[e]
  .dsimp only;rw[Ar8];exact⟨h.nd,hn⟩
  .dsimp only;rw[List.mem_append,List.mem_singleton,h.mem x]
  .dsimp only;have:=Aay q.1 s;rw[List.length_append,List.length_singleton];have:=h.len;omega
def cn3(t:Ah)(k:Nat):Ad:=if k=0 then pr2 t.a0 t.a1 else if k=1 then pr2 t.a1 t.a2 else pr2 t.a2 t.a0
theorem Bdm(t:Ah){k:Nat}(hk:k<3):∃x y,idx [t.a0,t.a1,t.a2] (k:Int)=some x/\idx [t.a0,t.a1,t.a2] (Int.tmod (w64 ((k:Int)+1)) 3)=some y/\pr2 x y=cn3 t k:=by
 have:k=0\/k=1\/k=2:=oo;rcases this with rfl|rfl|rfl
 .exact⟨t.a0,t.a1,rfl,by rw[Aq oo oo];rfl,rfl⟩
 .exact⟨t.a1,t.a2,rfl,by rw[Aq oo oo];rfl,rfl⟩
 .exact⟨t.a2,t.a0,rfl,by rw[Aq oo oo];rfl,rfl⟩
def mod3(t:Ah):Prop:=(0<=t.a0/\t.a0<=1000000)/\(0<=t.a1/\t.a1<=1000000)/\(0<=t.a2/\t.a2<=1000000)
theorem Al7{t:Ah}(h:mod3 t)(k:Nat):(0<=(cn3 t k).a0/\(cn3 t k).a0<=1000000)/\0<=(cn3 t k).a1/\(cn3 t k).a1<=1000000:=by
 unfold mod3 at h;unfold cn3 pr2;split
 .dsimp only;omega
 .split
  .dsimp only;omega
  .dsimp only;omega
theorem Ae2{n:Nat}{q0:List Ad×List (Ad×Bool)}{t:Ah}(hn:n<T.length)(e0:T[n]=t)(ht:mod3 t){q:Q2}(h1:q.1.length<=1000000000)(h2:q.2.length<=1000000000){k:Nat}(hk:k<3):Ej T (q0.1,q0.2,(n:Int)) (q.2,q.1,(k:Int))=some (.inl ((add2 q (cn3 t k)).2,(add2 q (cn3 t k)).1,((k+1:Nat):Int))):=by
 obtain⟨x,y,e1,e2,e3⟩:=Bdm t hk;obtain⟨⟨b1,b2⟩,b3,b4⟩:=Al7 ht k;unfold Ej;dsimp only;have e4:(⟨min x y,max x y⟩:Ad)=cn3 t k:=e3;have e5:min x y=(cn3 t k).a0:=by rw[<-e3];rfl
 have e6:max x y=(cn3 t k).a1:=by rw[<-e3];rfl
 rw[iP oo,jn_d,Aj hn,Ac,e0,e1,Ac,Ac,e2,Ac,gd_t ⟨⟨oo,oo⟩,oo,oo⟩,e4,Ac];unfold add2
 by_cases c:(mget q.1 (cn3 t k)).getD false=true
 .rw[iP c,iP c,As oo]
 .rw[iN c,iN c,gd_t ⟨⟨oo,oo⟩,oo,oo⟩,gd_t oo,gd_t oo,As oo]
def add3(q:Q2)(t:Ah):Q2:=add2 (add2 (add2 q (cn3 t 0)) (cn3 t 1)) (cn3 t 2)
theorem Took.addt{q:Q2}{P:Ad->Prop}(h:Took q P)(t:Ah):Took (add3 q t) (fun x=>P x\/∃k,k<3/\x=cn3 t k)/\(add3 q t).2.length<=q.2.length+3:=by
 obtain⟨h1,l1⟩:=h.add (cn3 t 0);obtain⟨h2,l2⟩:=h1.add (cn3 t 1);obtain⟨h3,l3⟩:=h2.add (cn3 t 2);refine⟨⟨h3.ok,h3.same,h3.nd,fun x=>(h3.mem x).trans ?_,h3.len⟩,by show (add2 (add2 (add2 q (cn3 t 0)) (cn3 t 1)) (cn3 t 2)).2.length<=_;omega⟩;constructor
 .rintro (((g|g)|g)|g)
  .exact .inl g
  .exact .inr ⟨0,oo,g⟩
  .exact .inr ⟨1,oo,g⟩
  .exact .inr ⟨2,oo,g⟩
 .rintro (g|⟨k,hk,g⟩)
  .exact .inl (.inl (.inl g))
  .have:k=0\/k=1\/k=2:=oo;rcases this with rfl|rfl|rfl
   .exact .inl (.inl (.inr g))
   .exact .inl (.inr g)
   .exact .inr g
theorem Awk{n:Nat}{q0:List Ad×List (Ad×Bool)}{t:Ah}(hn:n<T.length)(e0:T[n]=t)(ht:mod3 t){q:Q2}{P:Ad->Prop}(h:Took q P)(h2:q.2.length<=100000000):lfix (Ej T (q0.1,q0.2,(n:Int))) (q.2,q.1,0)=some ((add3 q t).2,(add3 q t).1):=by
 obtain⟨g1,l1⟩:=h.add (cn3 t 0);obtain⟨g2,l2⟩:=g1.add (cn3 t 1);obtain⟨g3,l3⟩:=g2.add (cn3 t 2);have n0:=h.len;have n1:=g1.len;have n2:=g2.len;rw[Ay,show ((0:Int))=((0:Nat):Int) from rfl,Ae2 hn e0 ht oo oo oo];simp only[Nat.reduceAdd];rw[Ay,Ae2 hn e0 ht oo oo oo];simp only[Nat.reduceAdd];rw[Ay,Ae2 hn e0 ht oo oo oo];simp only[Nat.reduceAdd];rw[Ay];have:Ej T (q0.1,q0.2,(n:Int)) ((add2 (add2 (add2 q (cn3 t 0)) (cn3 t 1)) (cn3 t 2)).2,(add2 (add2 (add2 q (cn3 t 0)) (cn3 t 1)) (cn3 t 2)).1,((3:Nat):Int))=some (.inr ((add3 q t).2,(add3 q t).1)):=by
  unfold Ej;dsimp only;rw[iN oo];rfl
 rw[this]
def Aht(T:List Ah)(s:Ad):Prop:=∃t∈T,∃k,k<3/\s=cn3 t k
theorem Aht.snoc{t:Ah}{s:Ad}:Aht (T++[t]) s↔Aht T s\/∃k,k<3/\s=cn3 t k:=by
 unfold Aht;simp only[List.mem_append,List.mem_singleton,or_and_right,exists_or,exists_eq_left]
def addT(T:List Ah):Q2:=T.foldl add3 ([],[])
theorem Al8(t:Ah):addT (T++[t])=add3 (addT T) t:=by unfold addT;rw[List.foldl_append];rfl
theorem Ar9:∀(n:Nat) (T:List Ah),T.length=n->Took (addT T) (Aht T)/\(addT T).2.length<=3*T.length
 |0,T,h=>by
  obtain rfl:=List.length_eq_zero_iff.1 h;refine⟨⟨Took.nil.ok,Took.nil.same,Took.nil.nd,fun s=>?_,nL _⟩,by simp[addT]⟩;simp[addT,Aht]
 |n+1,T,h=>by
  obtain⟨r,t,rfl⟩:∃r t,T=r++[t]:=by
   have hne:T≠[]:=fun e=>by rw[e] at h;simp at h
   exact⟨T.dropLast,T.getLast hne,(List.dropLast_concat_getLast hne).symm⟩
  obtain⟨h1,h2⟩:=Ar9 n r (sV h);obtain⟨h3,h4⟩:=h1.addt t;rw[Al8];refine⟨⟨h3.ok,h3.same,h3.nd,fun s=>(h3.mem s).trans Aht.snoc.symm,h3.len⟩,?_⟩;rw[List.length_append,List.length_singleton];omega
theorem Ake(hT:T.length<=2000000)(hm:∀t∈T,mod3 t):lfix (Kk T) ([],[],0)=some (addT T).2:=by
 obtain⟨t,t1,t2⟩:=Ax (B:=Kk T) (fun s=>T.length-s.2.2.toNat)
  (fun s=>∃k:Nat,k<=T.length/\s=((addT (T.take k)).2,(addT (T.take k)).1,(k:Int))) (fun t=>t=(addT T).2) (by
   rintro s ⟨k,hk,rfl⟩;unfold Kk;dsimp only
   by_cases hlt:k<T.length
   .left;obtain⟨h1,h2⟩:=Ar9 _ (T.take k) rfl;have hl:(T.take k).length=k:=by rw[List.length_take];omega
    rw[iP oo,jn_d,Awk (q0:=((addT (T.take k)).2,(addT (T.take k)).1)) hlt rfl (hm _ (gM hlt)) h1 oo,Ac];dsimp only;rw[As oo];exact⟨_,rfl,⟨k+1,oo,by rw[Acy hlt,Al8]⟩,by dsimp only;omega⟩
   .right;obtain rfl:k=T.length:=oo;rw[iN oo];exact⟨_,rfl,by rw[List.take_length]⟩)
  ([],[],0) ⟨0,oo,rfl⟩
 rw[t1,t2]
theorem Awl(hT:T.length<=300000)(hm:∀t∈T,mod3 t):∃S,Qh T=some S/\S.Nodup/\(∀s,s∈S↔Aht T s)/\S.length<=3*T.length/\S.Pairwise (fun x y=>¬cmp2 y x<0):=by
 obtain⟨h1,h2⟩:=Ar9 _ T rfl;have sm:∀s∈(addT T).2,Ua s:=fun s hs=>by
  obtain⟨t,ht,k,_,rfl⟩:=(h1.mem s).1 hs;obtain⟨⟨b1,b2⟩,b3,b4⟩:=Al7 (hm t ht) k;exact⟨⟨oo,oo⟩,oo,oo⟩
 have pl:(addT T).2.map prL=(addT T).2:=Bdk fun s hs=>by
  obtain⟨t,ht,k,_,rfl⟩:=(h1.mem s).1 hs;unfold cn3 pr2;split
  .dsimp only;omega
  .split
   .dsimp only;omega
   .dsimp only;omega
 refine⟨Bf cmp2 (addT T).2,?_,((Db _ _).nodup_iff).2 h1.nd,fun s=>Gs.trans (h1.mem s),by rw[(Db _ _).length_eq];exact h2,Pf tot2 sm⟩
 .unfold Qh;rw[jn_d,Ake oo hm,Ac];dsimp only;rw[Akd oo (by rw[pl];exact sm),pl,Ac]
end
section
variable {l:List Aa}{r:Af}{C:List Aa}(hc:Ctx l r C)
include hc
theorem Bdn{P:List Aa}{g:LI}(hs:∀p∈P,p∈l)(hp:(P.map (·.Id)).Perm g)(hg:GOk C g):PSel l P:=by
 have nd:(P.map (·.Id)).Nodup:=hp.nodup_iff.2 hg.nd;have hC:∀p∈P,p∈C:=fun p h=>by
  obtain⟨c,h1,h2⟩:=hg.src p.Id (hp.mem_iff.1 (List.mem_map_of_mem h));rw[X.id_inj (X.Fit.of hc.val).id (hs p h) (hc.dry h1).1 h2.symm];exact h1
 refine⟨nd,hs,?_⟩;have hf:=nd;rw[List.Nodup,List.pairwise_map] at hf;unfold Ho;refine List.Pairwise.imp_of_mem ?_ hf;intro a b ha hb hne e;exact hne (congrArg (·.Id) (hc.apart (hC a ha) (hC b hb) e.1 e.2))
theorem Asa:Gt l r=some (Xy (fun g=>Kj g (gFit l r g) C) C.length (X.seedL l r),0):=by
 have hl:=X.Fit.of hc.val;have hs:=Aic hc;have hn:=hc.len;have hsl:=GOk.len hs;unfold Gt;rw[X.rSeeds_eq,iP hc.rul,iP hc.val,Ac];dsimp only;rw[iP rfl,As5 hl oo,iP (GOk.sel hc hs),Ac];dsimp only;have:=Ax (B:=Oq l r) (fun P=>C.length-P.length) (fun P=>(∀p∈P,p∈l)/\∃g,(P.map (·.Id)).Perm g/\GOk C g/\g.Pairwise (·<=·)/\∃k,C.length<=k+g.length/\Xy (fun g=>Kj g (gFit l r g) C) k g=Xy (fun g=>Kj g (gFit l r g) C) C.length (X.seedL l r)) (fun t=>t=(Xy (fun g=>Kj g (gFit l r g) C) C.length (X.seedL l r),0)) (fun P hP=>by
  obtain⟨h1,g,h2,h3,h4,k,h5,h6⟩:=hP;have hgs:=GOk.gsel hc h3;have h7:=Bdn hc h1 h2 h3;obtain⟨D,e1,e2,e3,e4⟩:=Bbq hc h7 hgs h2;have l0:=h2.length_eq;rw[List.length_map] at l0;have h8:=Aib hc h3;have l1:=GOk.len h8;have l2:=Adm (g:=g) (F:=gFit l r g) (C:=C);have l3:=GOk.len h3;unfold Oq;rw[e1,Ac];dsimp only
  by_cases e:(Kj g (gFit l r g) C).length=g.length
  .right;rw[iP oo,X.rids_eq oo,Ac];refine⟨_,rfl,?_⟩;rw[<-h6,<-X.sort_unique h4 h2.symm];cases k with
   |zero=>rfl
   |succ k=>unfold Xy;rw[iP e]
  .left;rw[iN oo];cases k with
   |zero=>omega
   |succ k=>
    refine⟨_,rfl,⟨fun p hp=>?_,Kj g (gFit l r g) C,?_,h8,Afy,k,oo,?_⟩,oo⟩
    .rcases List.mem_append.1 hp with hp|hp
     .exact h1 p hp
     .exact (hc.dry (hc.perm.mem_iff.2 (e4 p hp))).1
    .rw[<-e2];exact (X.perm_sortI _).symm
    .rw[<-h6]
     conv=>rhs;unfold Xy
     rw[iN e]) (Sj l (X.seedL l r)) ⟨fun p hp=>(Au3 hl (GOk.gsel hc hs)).src p hp,X.seedL l r,Ax3 hl (GOk.sel hc hs),hs,X.sorted_sortI _,C.length,oo,rfl⟩
 obtain⟨t,e,rfl⟩:=this;rw[e,Ac]
end
theorem Ap1{m:Al}(h:Adz m){p:Aa}(hp:X.okPt p=true):Nr m p=some (match Ab6 m.V m.T p with|some s=>(s,true)|none=>(⟨0,0⟩,false)):=by
 have hpp:=X.okPt_rng hp;have hq:=Yy hp;have hb0:=Ajd h hq;unfold Nr Ab6;rw[show (⟨p.X,p.Y⟩:Ab)=X.plF p from rfl];cases e:locT m.V m.T (X.plF p) with
 |none=>
  rw[e] at hb0;rw[hb0];rfl
 |some i=>
  have e':=e;unfold locT at e';rw[List.findIdx?_eq_some_iff_getElem] at e';obtain⟨hi,hc,_⟩:=e';have hb:=Acl h.msh (gM hi) hc;rw[e] at hb0;dsimp only at hb0⊢;rw[Aj hi] at hb0⊢;rw[hb0,Ac];dsimp only;rw[iP rfl,Aq oo oo,Aq oo oo]
theorem Asb{l:List Aa}(hl:X.validL l=true){r:Af}(hr:X.okRules r=true){m:Al}(h:Adz m){g:List Int}(hg:g.length<=1000000):
  lfix (Hf l m r g) (([]:List Aa),0)=some ((X.dryL l r).filter (Wj m g r)):=by
 have hF:=X.Fit.of hl;have hn:=hF.n;have e:(X.dryL l r).filter (Wj m g r)=l.filter (fun p=>Wj m g r p && !X.sunkB l r p):=by
  unfold X.dryL;rw[List.filter_filter]
 rw[e];refine X.lfix_filter l (fun p=>Wj m g r p && !X.sunkB l r p) (Hf l m r g) (fun j hj s hs=>?_) (fun s=>?_)
 .have hp:=hF.ok _ (gM hj);unfold Hf;dsimp only;rw[iP oo,jn_d,Aj hj,Ac,Ap1 h hp,Ac,jn_d,As oo];simp only[Ac,has_eq hg,X.rsunk_eq hl hr hp,gd_t (oo:(s.length+1)*72<=140737488355328)];generalize l[j]=p;unfold Wj;cases Ab6 m.V m.T p with
  |none=>simp
  |some z=>
   dsimp only;rw[iP rfl]
   by_cases c1:p.Of=1
   .rw[iP c1]
    by_cases c2:r.Tall<=z.Lo
    .rw[iP c2]
     by_cases c3:z.Lo<=r.High
     .rw[iP c3]
      by_cases c4:p.Id∈g
      .simp[c4]
      .cases c5:X.sunkB l r p <;> simp[c1,c2,c3,c4]
     .rw[iN c3];simp[c3]
    .rw[iN c2];simp[c2]
   .rw[iN c1];simp[c1]
 .unfold Hf;dsimp only;rw[iN oo]
structure Nmr(s:LI)(n:Nat)(E:Nat->Nat->Prop):Prop where
 len:s.length=n
 nm:∀i j (hi:i<s.length) (hj:j<s.length),s[i]=s[j]↔Cnx E i j
theorem Ap2{L:List Aa}(hn:L.length<=1024):∃s,lfix (Fz L) (List.replicate (Int.toNat (L.length:Int)) (0:Int),0)=some s/\Nmr s L.length (fun _ _=>False):=by
 have:=Ax (B:=Fz L) (fun s=>L.length-s.2.toNat) (fun s=>∃k:Nat,k<=L.length/\s.2=(k:Int)/\s.1.length=L.length/\∀i,i<k->s.1[i]? = some (i:Int)) (fun s=>s.length=L.length/\∀i,i<L.length->s[i]? = some (i:Int)) (fun s hs=>by
  obtain⟨s,i⟩:=s;obtain⟨k,hk,hi,hs,hu⟩:=hs;dsimp only at hi hu hs;subst hi;unfold Fz;dsimp only
  by_cases hk2:k<L.length
  .left;rw[iP oo,Aj (oo:k<s.length),Ac,As oo];refine⟨_,rfl,⟨k+1,hk2,rfl,by rw[Fn];exact hs,fun i hi=>?_⟩,by dsimp only;omega⟩;dsimp only;rw[Fo]
   by_cases c:k=i
   .subst c;exact List.getElem?_set_self oo
   .rw[List.getElem?_set_ne c];exact hu i oo
  .right;obtain rfl:k=L.length:=oo;rw[iN oo];exact⟨_,rfl,hs,hu⟩) (List.replicate (Int.toNat (L.length:Int)) (0:Int),0) ⟨0,oo,rfl,by dsimp only;rw[List.length_replicate];omega,fun i hi=>absurd hi oo⟩
 obtain⟨s,e,h1,h2⟩:=this;have at_:∀i (hi:i<s.length),s[i]=(i:Int):=fun i hi=>by
  have:=h2 i oo;rw[gE hi] at this;exact oI this
 refine⟨s,e,h1,fun i j hi hj=>?_⟩;rw[at_ i hi,at_ j hj];constructor
 .intro h;obtain rfl:i=j:=oo;exact .refl _
 .intro h;clear hi hj
  induction h with
  |refl i=>rfl
  |base h=>exact h.elim
  |symm _ ih=>exact ih.symm
  |trans _ _ h g=>exact h.trans g
theorem Ap3{u w:Int}{s:LI}(hn:s.length<=1000000):∃s',lfix (Jj u w) (s,0)=some s'/\s'.length=s.length/\∀i (hi:i<s.length) (hi':i<s'.length),s'[i]=if s[i]=u then w else s[i]:=by
 have:=Ax (B:=Jj u w) (fun x=>s.length-x.2.toNat) (fun x=>∃k:Nat,k<=s.length/\x.2=(k:Int)/\x.1.length=s.length/\∀i (hi:i<s.length) (hi':i<x.1.length),x.1[i]=if i<k then (if s[i]=u then w else s[i]) else s[i])
  (fun s'=>s'.length=s.length/\∀i (hi:i<s.length) (hi':i<s'.length),s'[i]=if s[i]=u then w else s[i]) (fun x hx=>by
  obtain⟨t,i⟩:=x;obtain⟨k,hk,hi,ht,hu⟩:=hx;dsimp only at hi ht hu;subst hi;unfold Jj;dsimp only
  by_cases hk2:k<s.length
  .left;have hk3:k<t.length:=oo;have hk4:=hu k hk2 hk3;rw[iN oo] at hk4;rw[iP oo,jn_d,Aj hk3,Ac,As oo,Ac,hk4]
   by_cases c:s[k]=u
   .rw[iP c];refine⟨_,rfl,⟨k+1,hk2,rfl,by rw[Fn];exact ht,fun i hi hi'=>?_⟩,by dsimp only;omega⟩;dsimp only at hi' ⊢;simp only[Fo] at hi' ⊢;rw[List.length_set] at hi';rw[List.getElem_set]
    by_cases c2:k=i
    .subst c2;rw[iP rfl,iP oo,iP c]
    .rw[iN c2,hu i hi hi']
     by_cases c3:i<k
     .rw[iP c3,iP (oo:i<k+1)]
     .rw[iN c3,iN (oo:¬i<k+1)]
   .rw[iN c];refine⟨_,rfl,⟨k+1,hk2,rfl,ht,fun i hi hi'=>?_⟩,by dsimp only;omega⟩;dsimp only at hi' ⊢;rw[hu i hi hi']
    by_cases c2:k=i
    .subst c2;rw[iN oo,iP oo,iN c]
    .by_cases c3:i<k
     .rw[iP c3,iP (oo:i<k+1)]
     .rw[iN c3,iN (oo:¬i<k+1)]
  .right;obtain rfl:k=s.length:=oo;rw[iN oo];exact⟨_,rfl,ht,fun i hi hi'=>by rw[hu i hi hi',iP hi]⟩) (s,0) ⟨0,oo,rfl,rfl,fun i hi hi'=>by rw[iN oo]⟩
 exact this
theorem Awm(a b:Av):gapI a b=gapI b a:=by unfold gapI;omega
theorem Ap4{L:List Aa}{r:Af}{x y:Nat}(h:okE L r x y):okE L r y x:=by
 obtain⟨p,q,e1,e2,h1,h2⟩:=h;exact⟨q,p,e2,e1,by rw[X.sq_comm];exact h1,by rw[Awm];exact h2⟩
section
variable {L:List Aa}{r:Af}(hL:X.Fit L)(hr:X.okRules r=true)
include hL hr
theorem Anq{S:List Ad}(e:Int)(hS:S.length<=1000000)(hin:∀ s∈S,∃ a b:Nat,s=⟨(a:Int),(b:Int)⟩/\a<L.length/\b<L.length){s0:List Int}(h0:Nmr s0 L.length (fun _ _=>False)):
  ∃s,lfix (Ga (S,e) L r) (s0,0)=some s/\Nmr s L.length (fun x y=>(⟨(x:Int),(y:Int)⟩:Ad)∈S/\okE L r x y):=by
 have hn:=hL.n;have hrr:=X.okRules_rng hr;have:=Ax (B:=Ga (S,e) L r) (fun s=>S.length-s.2.toNat) (fun s=>∃k:Nat,k<=S.length/\s.2=(k:Int)/\Nmr s.1 L.length (fun x y=>(⟨(x:Int),(y:Int)⟩:Ad)∈S.take k/\okE L r x y)) (fun s=>Nmr s L.length (fun x y=>(⟨(x:Int),(y:Int)⟩:Ad)∈S/\okE L r x y)) (fun s hs=>by
  obtain⟨s,i⟩:=s;obtain⟨k,hk,hi,hs⟩:=hs;dsimp only at hi hs;subst hi;unfold Ga;dsimp only
  by_cases hk2:k<S.length
  ·left;obtain⟨a,b,eab,ha,hb⟩:=hin _ (List.getElem_mem hk2);have pa:=hL.ok _ (List.getElem_mem ha);have pb:=hL.ok _ (List.getElem_mem hb);have ra:=X.okPt_rng pa;have rb:=X.okPt_rng pb;have hl:=hs.len;have ha':a<s.length:=oo;have hb':b<s.length:=oo;have oe:okE L r a b↔X.sq L[a] L[b]<=r.Link*r.Link/\¬ r.Flat<gapI L[a].Z L[b].Z:=by
    unfold okE;rw[gE ha,gE hb];exact⟨fun ⟨p,q,e1,e2,h⟩=>by cases e1;cases e2;exact h,fun h=>⟨_,_,rfl,rfl,h⟩⟩
   have nx:∀x y:Nat,(⟨(x:Int),(y:Int)⟩:Ad)∈S.take (k+1)↔(⟨(x:Int),(y:Int)⟩:Ad)∈S.take k\/(x=a/\y=b):=fun x y=>by
    rw[List.take_succ_eq_append_getElem hk2,List.mem_append,List.mem_singleton,eab,Ad.mk.injEq];exact or_congr Iff.rfl (by constructor <;> intro h <;> omega)
   have hw:w64 (r.Link*r.Link)=r.Link*r.Link:=by
    have h1:0<=r.Link*r.Link:=Int.mul_nonneg oo oo;have h2:r.Link*r.Link<=1000000*1000000:=Int.mul_le_mul oo oo oo oo;exact Aq oo oo
   have no:¬okE L r a b->Nmr s L.length (fun x y=>(⟨(x:Int),(y:Int)⟩:Ad)∈S.take (k+1)/\okE L r x y):=fun h=>by
    have:(fun x y:Nat=>(⟨(x:Int),(y:Int)⟩:Ad)∈S.take (k+1)/\okE L r x y)=fun x y:Nat=>(⟨(x:Int),(y:Int)⟩:Ad)∈S.take k/\okE L r x y:=by
     funext x y;rw[nx];refine propext ⟨?_,fun g=>⟨.inl g.1,g.2⟩⟩;rintro⟨g|⟨rfl,rfl⟩,o⟩
     .exact⟨g,o⟩
     .exact absurd o h
    rw[this];exact hs
   rw[iP oo,jn_d,Aj hk2,Ac,Ac,jn_d,eab];dsimp only;rw[Aj ha,Ac,Aj hb,Ac,X.apart_eq pa pb,Ac,hw,As oo]
   by_cases c:r.Link*r.Link<X.sq L[a] L[b]
   .rw[iP c,iP rfl];exact⟨_,rfl,⟨k+1,hk2,rfl,no (by rw[oe];exact fun h=>oo)⟩,by dsimp only;omega⟩
   .rw[iN c,Ac,Ac,Amr (a:=L[a].Z) (b:=L[b].Z) oo oo,Ac]
    by_cases c2:r.Flat<gapI L[a].Z L[b].Z
    .rw[iP (dT c2)];exact⟨_,rfl,⟨k+1,hk2,rfl,no (by rw[oe];exact fun h=>h.2 c2)⟩,by dsimp only;omega⟩
    .obtain⟨s',r1,r2,r3⟩:=Ap3 (u:=s[b]) (w:=s[a]) (s:=s) oo;rw[iN (sV c2),Aj hb',Ac,Aj ha',Ac,r1,Ac];refine⟨_,rfl,⟨k+1,hk2,rfl,r2.trans hl,fun i j hi hj=>?_⟩,by dsimp only;omega⟩;dsimp only at hi hj ⊢;have gd':∀i (hi:i<s.length),(s[i]?).getD 0=s[i]:=fun i hi=>by rw[gE hi];rfl
     have gd2:∀i (hi:i<s'.length),(s'[i]?).getD 0=s'[i]:=fun i hi=>by rw[gE hi];rfl
     have key:=Als (n:=s.length) (G:=fun i=>(s[i]?).getD 0) (G':=fun i=>(s'[i]?).getD 0) (E:=fun x y=>(⟨(x:Int),(y:Int)⟩:Ad)∈S.take k/\okE L r x y) (a:=a) (b:=b) ha' hb'
      (fun i j hi hj=>by rw[gd' i hi,gd' j hj];exact hs.nm i j hi hj) (u:=s[b]) (w:=s[a]) (.inr ⟨(gd' b hb').symm,(gd' a ha').symm⟩)
      (fun i hi=>by rw[gd' i hi,gd2 i oo];exact r3 i hi oo) (i:=i) (j:=j) oo oo
     rw[gd2 i hi,gd2 j hj] at key;rw[key];have:(fun x y:Nat=>((⟨(x:Int),(y:Int)⟩:Ad)∈S.take k/\okE L r x y)\/(x=a/\y=b))=fun x y:Nat=>(⟨(x:Int),(y:Int)⟩:Ad)∈S.take (k+1)/\okE L r x y:=by
      funext x y;rw[nx];refine propext ⟨?_,?_⟩
      .rintro (⟨g,o⟩|⟨rfl,rfl⟩)
       .exact⟨.inl g,o⟩
       .exact⟨.inr ⟨rfl,rfl⟩,oe.2 ⟨oo,c2⟩⟩
      .rintro⟨g|g,o⟩
       .exact .inl ⟨g,o⟩
       .exact .inr g
     rw[this]
  .right;obtain rfl:k=S.length:=oo;rw[List.take_length] at hs;rw[iN oo];exact⟨_,rfl,hs⟩) (s0,0) ⟨0,oo,rfl,sV h0⟩
 exact this
end
theorem Ap5{L:List Aa}{G:LI}(hn:G.length=L.length)(hb:L.length<=1024){x:List Aa×Int}{i:Nat}(hx:x.2=(i:Int))(hi:i<G.length):lfix (Jk L G x) (0,0)=some ((G.count G[i]:Nat):Int):=by
 have:=Ax (B:=Jk L G x) (fun s=>L.length-s.2.toNat) (fun s=>∃k:Nat,k<=L.length/\s=((((G.take k).count G[i]:Nat):Int),(k:Int))) (fun t=>t=((G.count G[i]:Nat):Int)) (fun s hs=>by
  obtain⟨k,hk,rfl⟩:=hs;unfold Jk;dsimp only
  by_cases hk2:k<L.length
  ·left;have hk3:k<G.length:=oo;have hc:(G.take k).count G[i]<=k:=Nat.le_trans List.count_le_length (by rw[List.length_take];omega);rw[if_pos oo,jn_d,Aj hk3,Ac,hx,Aj hi,Ac,As oo,As oo];have e:(G.take (k+1)).count G[i]=(G.take k).count G[i] + if G[k]=G[i] then 1 else 0:=by
    rw[List.take_succ_eq_append_getElem hk3,List.count_append,List.count_singleton]
    by_cases c:G[k]=G[i]
    .rw[iP (sV c),iP c]
    .rw[iN (sV c),iN c]
   by_cases c:G[k]=G[i]
   .rw[iP c] at e⊢;exact⟨_,rfl,⟨k+1,hk2,by rw[e]⟩,by dsimp only;omega⟩
   .rw[iN c] at e⊢;exact⟨_,rfl,⟨k+1,hk2,by rw[e];rfl⟩,by dsimp only;omega⟩
  .right;obtain rfl:k=L.length:=oo;rw[iN oo];exact⟨_,rfl,by rw[<-hn,List.take_length]⟩) (0,0) ⟨0,oo,rfl⟩
 obtain⟨t,e,rfl⟩:=this;exact e
theorem Anr{α:Type}{p q:Nat->Bool}{l:List α}(h:∀j,j<l.length->p j=q j):Ge p l=Ge q l:=by
 have key:∀k,k<=l.length->Ge p (l.take k)=Ge q (l.take k):=by
  intro k
  induction k with
  |zero=>intro _;rfl
  |succ k ih=>
   intro hk;rw[Abl hk,Abl hk,ih oo,h k hk]
 have:=key l.length (nL _)
 rwa [List.take_length] at this
theorem Asc{l:List Aa}{r:Af}(hl:X.validL l=true)(hr:X.okRules r=true){m:Al}(h:Msh m){g:LI}(hg:g.length<=1000000){G S:LI}(e1:Iw (Cc l m g r) r=some G)(e2:G.length=(Cc l m g r).length)(e3:∀x∈G,∃k:Nat,x=(k:Int)/\k<(Cc l m g r).length)(e4:lfix (Dl G) (List.replicate (Cc l m g r).length (0:Int),0)=some S)(e5:S.length=(Cc l m g r).length):Nz l m g r=some (Cq ((Ge (Wk G S r) (Cc l m g r)).map (·.Id))):=by
 have hF:=Aax (m:=m) (g:=g) (r:=r) hl;have hn:=hF.n;unfold Nz;rw[As3 hl hr h hg,Ac,e1,Ac,gd_t oo,jn_d,show Int.toNat ((((Cc l m g r).length:Nat):Int))=(Cc l m g r).length from rfl,e4,Ac];dsimp only;rw[jn_d,Abm (Cc l m g r) (Wk G S r) (Hl (Cc l m g r) G S r) (fun j hj s hs=>?_) (fun s=>?_),Ac]
 .dsimp only;have hl2:=Xh (Wk G S r) (Cc l m g r);rw[X.ids_eq oo,Ac]
 ·unfold Hl;dsimp only;have hj2:j<G.length:=oo;obtain⟨x,hx,hx2⟩:=e3 _ (List.getElem_mem hj2);have hx3:x<S.length:=oo;rw[if_pos oo,jn_d,Aj hj,Ac,Aj hj2,Ac,hx,Aj hx3,Ac,As oo];have hv:Wk G S r j=decide (r.Few<=S[x]):=by
   unfold Wk;rw[Aj hj2];dsimp only;rw[hx,Aj hx3]
  rw[hv]
  by_cases c:r.Few<=S[x]
  .rw[iP c,gd_t oo,iP (dT c)]
  .rw[iN c,iN (sV c)]
 .unfold Hl;dsimp only;rw[iN oo]
theorem Asd{l:List Aa}{r:Af}(hl:X.validL l=true)(hr:X.okRules r=true)(hn:l.length<=300){m:Al}(h:Adz m){g:List Int}(hg:g.length<=1000000):
  ∃R:List Aa,Nz l m g r=some (Cq (R.map (·.Id)))/\Qi l g m r=some R/\R.length<=300/\∀p∈R,p∈Cc l m g r:=by
 have hF:=Aax (m:=m) (g:=g) (r:=r) hl;have ha:=Ahd (m:=m) (g:=g) (r:=r) hl;have hn0:=hF.n;have hlen:(Cc l m g r).length<=300:=by
  classical
  have h1:(Cc l m g r).length<=l.length:=Bn (X.nodup_of_ids hF.id) (fun x hx=>(Ala hx).1);omega
 obtain⟨x,b1,b2,b3⟩:=Ai6 hF;rcases b3 with⟨x0,_,x1,x2,x3⟩|⟨_,g0⟩
 .obtain⟨G,e1,f2,f3,f4⟩:=Apc hF hr b1 x0 x1 x3;obtain⟨S,e2,s2,s3⟩:=Arl (n:=(Cc l m g r).length) oo f3;have e3:=Asc hl hr h.msh hg e1 f2 f3 e2 s2;have hm:=Ajb hF x1 x3;have hcan:=Ajc hF ha x1 x2 x3;have hvl:x.1.V.length=(Cc l m g r).length:=by rw[x1];unfold vxL;rw[List.length_map]
  have hTl:x.1.T.length<=90000:=by
   have:=Ae1 (fun t ht=>(x3.mem t).1 ht) x3.nd;have h2:(vxL (Cc l m g r)).length=(Cc l m g r).length:=by unfold vxL;rw[List.length_map]
   rw[h2] at this;have h3:(Cc l m g r).length*(Cc l m g r).length<=300*300:=Nat.mul_le_mul hlen hlen;omega
  have hmod:∀t∈x.1.T,mod3 t:=fun t ht=>by
   obtain⟨t0,t1,t2,_⟩:=hm.t _ ht;unfold inN at t0 t1 t2;unfold mod3;omega
  obtain⟨S2,r1,r2,r3,r4,r5⟩:=Awl (T:=x.1.T) oo hmod;have hin:∀s∈S2,∃a b:Nat,s=⟨(a:Int),(b:Int)⟩/\a<(Cc l m g r).length/\b<(Cc l m g r).length:=fun s hs=>by
   obtain⟨t,ht,k,hk,rfl⟩:=(r3 s).1 hs;obtain⟨t0,t1,t2,_⟩:=hm.t _ ht;rw[hvl] at t0 t1 t2;unfold inN at t0 t1 t2;unfold cn3 pr2;split
   .exact⟨(min t.a0 t.a1).toNat,(max t.a0 t.a1).toNat,by rw[Int.toNat_of_nonneg oo,Int.toNat_of_nonneg oo],oo,oo⟩
   .split
    .exact⟨(min t.a1 t.a2).toNat,(max t.a1 t.a2).toNat,by rw[Int.toNat_of_nonneg oo,Int.toNat_of_nonneg oo],oo,oo⟩
    .exact⟨(min t.a2 t.a0).toNat,(max t.a2 t.a0).toNat,by rw[Int.toNat_of_nonneg oo,Int.toNat_of_nonneg oo],oo,oo⟩
  obtain⟨q0,q1,q2⟩:=Ap2 (L:=Cc l m g r) hn0;obtain⟨q3,q4,q5⟩:=Anq hF hr (S:=S2) 0 oo hin q2;have n3:=q5.len;have ec:∀i j,Cnx (EdP (Cc l m g r) r x.1.T) i j↔Cnx (fun x y=>(⟨(x:Int),(y:Int)⟩:Ad)∈S2/\okE (Cc l m g r) r x y) i j:=fun i j=>by
   have ce:∀(t:Ah) (k:Nat),cn3 t k=pr2 (edT t k).1 (edT t k).2:=fun t k=>by
    unfold cn3 edT;split
    .rfl
    .split <;> rfl
   constructor
   .refine Cnx.mono fun x y=>?_
    rintro⟨⟨t,ht,k,hk,e⟩,o⟩;have hs:=(r3 _).2 ⟨t,ht,k,hk,rfl⟩;rw[ce,e] at hs;dsimp only at hs;unfold pr2 at hs
    by_cases c:x<=y
    .rw[Int.min_eq_left oo,Int.max_eq_right oo] at hs;exact .inl ⟨hs,o⟩
    .rw[Int.min_eq_right oo,Int.max_eq_left oo] at hs;exact .inr ⟨hs,Ap4 o⟩
   .refine Cnx.mono fun x y=>?_
    rintro⟨hs,o⟩;obtain⟨t,ht,k,hk,e⟩:=(r3 _).1 hs;rw[ce] at e;unfold pr2 at e;rw[Ad.mk.injEq] at e;have hd:edT t k=((x:Int),(y:Int))\/edT t k=((y:Int),(x:Int)):=by
     rcases he:edT t k with⟨u,w⟩
     rw[he] at e;dsimp only at e;rcases Int.le_total u w with c|c
     .rw[Int.min_eq_left c,Int.max_eq_right c] at e;exact .inl (by rw[e.1,e.2])
     .rw[Int.min_eq_right c,Int.max_eq_left c] at e;exact .inr (by rw[e.1,e.2])
    rcases hd with hd|hd
    .exact .inl ⟨⟨t,ht,k,hk,hd⟩,o⟩
    .exact .inr ⟨⟨t,ht,k,hk,hd⟩,Ap4 o⟩
  have hsame:∀i j (hi:i<q3.length) (hj:j<q3.length),q3[i]=q3[j]↔G[i]=G[j]:=fun i j hi hj=>by
   rw[q5.nm i j hi hj,f4 i j oo oo,ec]
  have hfilt:Ge (fun j=>decide (r.Few<=((q3.count ((q3[j]?).getD 0):Nat):Int))) (Cc l m g r)=Ge (Wk G S r) (Cc l m g r):=Anr fun j hj=>by
   have hj2:j<q3.length:=oo;have hj3:j<G.length:=oo;obtain⟨k,hk,hk2⟩:=f3 _ (gM hj3);have hk3:k<S.length:=oo;unfold Wk;rw[Aj hj3];dsimp only;rw[hk,Aj hk3];dsimp only;rw[s3 k hk3,gE hj2,Option.getD_some,Arm (G:=q3) (G':=G) oo hsame hj2,hk]
  refine⟨Ge (Wk G S r) (Cc l m g r),e3,?_,Nat.le_trans (Xh _ _) hlen,fun p hp=>Ahe hp⟩;have hd:X.Fit (X.dryL l r):=(X.Fit.of hl).filter _;unfold Qi;rw[jn_d,Asb hl hr h hg,Ac];dsimp only;rw[X.bottoms_eq (hd.filter _),Ac,Abn (Fit.bot (hd.filter _)),Ac];change bnd (Fj (Cc l m g r)) _=_;rw[b2,Ac];unfold Tu;rw[hcan.chk,Ac,iP rfl,r1,Ac,Ac];change gd ((0:Int)<=(((Cc l m g r).length:Nat):Int)/\8*Int.toNat (((Cc l m g r).length:Nat):Int)<=140737488355328) _=_;rw[gd_t oo,jn_d];change bnd (lfix (Fz (Cc l m g r)) (List.replicate (Int.toNat (((Cc l m g r).length:Nat):Int)) (0:Int),0)) _=_;rw[q1,Ac];dsimp only;rw[jn_d];change bnd (lfix (Ga (S2,0) (Cc l m g r) r) (q0,0)) _=_;rw[q4,Ac];dsimp only;rw[jn_d];change bnd (lfix (Gb (Cc l m g r) r q3) (([]:List Aa),0)) _=_;rw[Abm (Cc l m g r) (fun j=>decide (r.Few<=((q3.count ((q3[j]?).getD 0):Nat):Int))) (Gb (Cc l m g r) r q3) (fun j hj s hs=>?_) (fun s=>?_),Ac,hfilt]
  .have hj2:j<q3.length:=oo;unfold Gb;dsimp only;rw[iP oo,jn_d,jn_d,Ap5 n3 hn0 (x:=(s,(j:Int))) rfl hj2,Ac,As oo,gE hj2,Option.getD_some];dsimp only
   by_cases c:r.Few<=((q3.count q3[j]:Nat):Int)
   .rw[iP c,iP (dT c),Aj hj,Ac,gd_t oo]
   .rw[iN c,iN (sV c)]
  .unfold Gb;dsimp only;rw[iN oo]
 .exact absurd ha g0
theorem Awn{l:List Aa}{g:LI}(hl:X.validL l=true)(hi:g.length<=300)(hr:∀i∈g,-9223372036854775808<=i/\i<=9223372036854775807):∃x:Al×Int,Bo l g=some x/\Md l g=some x/\(x.2=0->Adz x.1):=by
 have hF:=X.Fit.of hl;unfold Bo Md;rw[Wp hF hi hr,Ac,X.rvalid_eq,Ac,iP hl,As5 hF hi,Ac]
 by_cases c2:Xz l g
 .rw[iP c2];dsimp only;obtain⟨x,r1,r2,r3⟩:=Ai6 (Fit.pick (ids:=g) hF);rw[iP rfl,iP rfl,r1,Ac,r2,Ac];refine⟨_,rfl,rfl,fun h0=>?_⟩;rcases r3 with⟨_,v0,v1,v2,v3⟩|⟨rfl,_⟩
  .exact Ajc (Fit.pick hF) v0 v1 v2 v3
  .cases h0
 .rw[iN c2];dsimp only;rw[iN s_,iN s_];exact⟨_,rfl,rfl,fun h0=>by cases h0⟩
end
section
open Go
def Gu(p0:List Aa)(r0:Al×Int)(p1:Af)(r2:LI×Int)(r1:LI):(LI×Int)->Option (Sum (LI×Int) LI):=fun s0=>
 if s0.2<(p0.length:Int) then (bnd (idx p0 s0.2) fun x0=>
 bnd (Nr r0.1 x0) fun r3=>
 jn (fun (s1:Int)=>
 gd ((s0.1.length+1)*8<=140737488355328)<|
 some (.inl (s0.1++[s1],w64 (s0.2+1))))
 (fun j0=>bnd (idx p0 s0.2) fun x1=>
 bnd (Jv p0 x1 p1) fun r4=>
 if r4=true then (j0 7)
 else (bnd (idx p0 s0.2) fun x2=>
 bnd (Fd r2.1 x2.Id) fun r5=>
 if r5=true then (j0 2)
 else (if r3.2=true then (jn (fun (s2:Bool)=>
 if s2=true then (j0 7)
 else (bnd (idx p0 s0.2) fun x3=>
 bnd (Fd r1 x3.Id) fun r6=>
 if r6=true then (j0 6)
 else (if p1.Brush<=r3.1.Lo then (j0 5)
 else (j0 1))))
 (fun j1=>if p1.High<r3.1.Lo then (j1 true)
 else (j1 (decide (r3.1.Hi<(w64 (-p1.Low)))))))
 else (j0 1)))))
 else (some (.inr s0.1))
def Ek(p0:List Aa)(p1:Af):Option (LI×Int):=
 bnd (Gt p0 p1) fun r2=>
 if r2.2=0 then (bnd (Md p0 r2.1) fun r0=>
 bnd (Qi p0 r2.1 r0.1 p1) fun r1=>
 bnd (Dn r1) fun r3=>
 jn (fun (s9:LI)=>
 some (s9,0))
 (fun j9=>bnd (lfix (Gu p0 r0 p1 r2 r3) (([]:LI),0)) fun t0=>
 j9 t0))
 else (some (([]:LI),r2.2))
instance(p0:List Aa)(p1:Af):Con (Ek p0 p1) prog 24 (fun K vs=>∃U0 E0,vs=[.slice U0 p0.length E0,.agg #[.int .i64 p1.Cell,.int .i64 p1.Reach,.int .i64 p1.Slope,.int .i64 p1.Link,.int .i64 p1.Flat,.int .i64 p1.Tall,.int .i64 p1.High,.int .i64 p1.Low,.int .i64 p1.Brush,.int .i64 p1.Few]]/\Has K U0 p0.length E0 9 Ag p0/\True) (fun _ r v Ln=>∃A0 c0,v=.tuple #[.slice A0 r.1.length c0,.int .i64 r.2]/\Ln=[.r A0 r.1.length c0 3 1 (r.1.flatMap Ak)]/\True):=⟨by
 rintro K _ r ⟨U0,E0,rfl,ha0,-⟩ hx w hK;replace ha0:=ha0.lo hK;unfold Ek at hx;have:=dl 10 [1,0,0,0,1,2,0,0,0,4,3,2] [0,1,2,3,4,5,6,7,8,9,10,11] [9];have:=dl 12 [0,0,0,0,1,1,2,2] [0,1,2,3,4,5,6,7];refine CtS ntmps24 results24 ?_;refine pq ?_;intros;rename_i hx
 refine Cq2 (s:=23) hx rfl ?_ ?_
 .exact aI
 .refine pI ?_;intros;rename_i hx
  refine pA ?_;intros;rename_i hx
  apply Jr (γ:=OA×Nat) hx [] (fun s9 y9 f=>(11,.slice y9.1 s9.length y9.2)::f) [999] (fun s9 y9 l=>.r y9.1 s9.length y9.2 3 1 (s9.flatMap Ak)::l);exact kk
  .exact aI
  .refine pI ?_;intros;rename_i hx
   refine Ba 3 1 ?_;apply Lr (γ:=OA×Nat) hx [0,3,6,8,10] (fun s0 y0 f=>(11,.slice y0.1 s0.1.length y0.2)::(12,.int .i64 s0.2)::f) [1,3,4,5,6,7,8,999] (fun s0 y0 l=>.r y0.1 s0.1.length y0.2 3 1 (s0.1.flatMap Ak)::l) (_,_);exact kk;exact sk;intro s0 y0 x0 hx _;unfold Gu at hx;refine pq ?_;intros;rename_i hx
   refine Cq1 (s:=40) hx rfl ?_ ?_
   .refine pI ?_;intros;rename_i hx
    refine pA ?_;intros;rename_i hx
    apply Jr (γ:=Unit) hx [0,3,6,8,10,11,12] (fun s1 y1 f=>(15,.int .i64 s1)::f) [1,2,3,4,5,6,7,8,999] (fun s1 y1 l=>l);exact kk
    .exact aI
    .refine pI ?_;intros;rename_i hx
     refine Cq3 (s:=52) hx rfl ?_ ?_
     .exact aI
     .refine pI ?_;intros;rename_i hx
      refine Cq3 (s:=60) hx rfl ?_ ?_
      .exact aI
      .refine pI ?_;intros;rename_i hx
       refine Cq4 (s:=68) hx rfl ?_ ?_
       .exact aI
       .refine pI ?_;intros;rename_i hx
        apply Jr (γ:=Unit) hx [0,3,6,8,10,11,12,13,15] (fun s2 y2 f=>(71,.bool s2)::f) [0,1,2,3,4,5,6,7,8,999] (fun s2 y2 l=>l);exact kk
        .exact aI
        .exact aI
   .exact aI⟩
end
section
open Go Go.Sort
section
variable {l:List Aa}{r:Af}{C:List Aa}(hc:Ctx l r C)
include hc
theorem Ap6{m:Al}(h:Adz m){g T:LI}(hg:g.length<=1000000)(hT:T.length<=1000000)(e e':Int):lfix (Gu l (m,e) r (g,e') T) (([]:LI),0)=some (l.map (Aef m r (Acj l r) g T)):=by
 have hF:=X.Fit.of hc.val;have hn:=hF.n;have hrr:=X.okRules_rng hc.rul;refine Ai0 l (Aef m r (Acj l r) g T) _ (fun j hj s hs=>?_) (fun s=>?_)
 .have hp:=hF.ok _ (gM hj);have hk:=Axy hc (gM hj);unfold Gu;dsimp only;rw[iP oo,Aj hj,Ac,Ap1 h hp,Ac,jn_d,As oo,Aq (x:=-r.Low) oo oo];simp only[Ac,has_eq hg,has_eq hT,X.rsunk_eq hc.val hc.rul hp,gd_t (oo:(s.length+1)*8<=140737488355328)];unfold Aef;rw[show Acj l r=Cq ((X.sunkL l r).map (·.Id)) from rfl]
  by_cases c1:X.sunkB l r l[j]=true
  .rw[iP c1,iP (hk.2 c1)]
  .rw[iN c1,iN (fun h=>c1 (hk.1 h))]
   by_cases c2:l[j].Id∈g
   .rw[iP (dT c2),iP c2]
   .rw[iN (sV c2),iN c2];cases Ab6 m.V m.T l[j] with
    |none=>rfl
    |some z=>
     dsimp only;rw[iP rfl,jn_d]
     by_cases c3:r.High<z.Lo
     .rw[iP c3];dsimp only;rw[iP rfl,iP (.inl c3)]
     .rw[iN c3];dsimp only
      by_cases c4:z.Hi < -r.Low
      .simp[c3,c4]
      .by_cases c5:l[j].Id∈T
       .simp[c3,c4,c5]
       .by_cases c6:r.Brush<=z.Lo
        .simp[c3,c4,c5,c6]
        .simp[c3,c4,c5,c6]
 .unfold Gu;dsimp only;rw[iN oo]
theorem Ant(hC:Bx l r=some C):∃cl,Gl l r=some cl/\Ek l r=some (cl,0)/\cl.length=l.length:=by
 obtain⟨g,e,hG⟩:=Ahi hc hC;have hg:=hG.ok;have e':=Aaj hc hC;rw[e] at e';have e0:=oI e';have hgl:=GOk.len hg;have hcl:=hc.len;obtain⟨G,S,a1,a2,a3,a4⟩:=Ack hc hg e;obtain⟨hs,_,_,_,_⟩:=Aop hc hg;obtain⟨x,b1,b2,b3⟩:=Awn hc.val (g:=g) oo (fun i hi=>GOk.rng hc hg hi);rw[hs] at b1;obtain rfl:=oI b1;obtain⟨R,f1,f2,f3,f4⟩:=Asd hc.val hc.rul hc.few (b3 rfl) (g:=g) oo;rw[a3] at f1;have f5:=oI f1;refine⟨_,a4,?_,List.length_map _⟩;unfold Ek;rw[Asa hc,<-e0,Ac];dsimp only;rw[iP rfl,b2,Ac];dsimp only;rw[f2,Ac,X.rids_eq oo,Ac,jn_d,<-f5,Ap6 hc (b3 rfl) oo (by rw[(X.perm_sortI _).length_eq,List.length_map];have:=congrArg List.length f5;rw[(X.perm_sortI _).length_eq,(X.perm_sortI _).length_eq,List.length_map,List.length_map] at this;omega),Ac]
end
end
section
open Go
theorem Bhm(a0:Int)(a1:Int)(a2:Int)(a3:Int)(a4:Int)(a5:Int)(a6:Int)(a7:Int)(a8:Int)(b0:Int)(b1:Int)(b2:Int)(b3:Int)(b4:Int)(b5:Int)(b6:Int)(b7:Int)(b8:Int):∀w,(Op.equalIn 10000 30 (.agg #[.int .i64 a0,.int .i64 a1,.int .i64 a2,.int .i64 a3,.int .i64 a4,.int .i64 a5,.int .i64 a6,.int .i64 a7,.int .i64 a8]) (.agg #[.int .i64 b0,.int .i64 b1,.int .i64 b2,.int .i64 b3,.int .i64 b4,.int .i64 b5,.int .i64 b6,.int .i64 b7,.int .i64 b8])).run prog w=.ok (((a0==b0)&&((a1==b1)&&((a2==b2)&&(((a3==b3)&&((a4==b4)&&true))&&((a5==b5)&&((a6==b6)&&((a7==b7)&&((a8==b8)&&true))))))))) w :=
 EqF.struct underlying30 kr (.cons rfl (fun w=>kr) (fun w=>kr) (fun w=>run_equalIn_int w 9998 3 .i64 .i64 _ _ underlying3) (.cons rfl (fun w=>kr) (fun w=>kr) (fun w=>run_equalIn_int w 9998 3 .i64 .i64 _ _ underlying3) (.cons rfl (fun w=>kr) (fun w=>kr) (fun w=>run_equalIn_int w 9998 3 .i64 .i64 _ _ underlying3) (.cons (a:=.agg #[.int .i64 a3,.int .i64 a4]) (b:=.agg #[.int .i64 b3,.int .i64 b4]) rfl (fun w=>kr) (fun w=>kr) (EqF.struct underlying28 kr (.cons rfl (fun w=>kr) (fun w=>kr) (fun w=>run_equalIn_int w 9997 3 .i64 .i64 _ _ underlying3) (.cons rfl (fun w=>kr) (fun w=>kr) (fun w=>run_equalIn_int w 9997 3 .i64 .i64 _ _ underlying3) EqF.nil))) (.cons rfl (fun w=>kr) (fun w=>kr) (fun w=>run_equalIn_int w 9998 3 .i64 .i64 _ _ underlying3) (.cons rfl (fun w=>kr) (fun w=>kr) (fun w=>run_equalIn_int w 9998 3 .i64 .i64 _ _ underlying3) (.cons rfl (fun w=>kr) (fun w=>kr) (fun w=>run_equalIn_int w 9998 3 .i64 .i64 _ _ underlying3) (.cons rfl (fun w=>kr) (fun w=>kr) (fun w=>run_equalIn_int w 9998 3 .i64 .i64 _ _ underlying3) EqF.nil))))))))
instance(a0:Int)(a1:Int)(a2:Int)(a3:Int)(a4:Int)(a5:Int)(a6:Int)(a7:Int)(a8:Int)(b0:Int)(b1:Int)(b2:Int)(b3:Int)(b4:Int)(b5:Int)(b6:Int)(b7:Int)(b8:Int):EqSI prog 30 [.int .i64 a0,.int .i64 a1,.int .i64 a2,.int .i64 a3,.int .i64 a4,.int .i64 a5,.int .i64 a6,.int .i64 a7,.int .i64 a8] [.int .i64 b0,.int .i64 b1,.int .i64 b2,.int .i64 b3,.int .i64 b4,.int .i64 b5,.int .i64 b6,.int .i64 b7,.int .i64 b8] (((a0==b0)&&((a1==b1)&&((a2==b2)&&(((a3==b3)&&((a4==b4)&&true))&&((a5==b5)&&((a6==b6)&&((a7==b7)&&((a8==b8)&&true))))))))):=⟨Bhm _ _ _ _ _ _ _ _ _ _ _ _ _ _ _ _ _ _,kr⟩
def Km(p0:List Aa)(r0:LI×Int):(List Aa×Int)->Option (Sum (List Aa×Int) (List Aa)):=fun s0=>
 if s0.2<(p0.length:Int) then (bnd (idx p0 s0.2) fun x0=>
 bnd (idx r0.1 s0.2) fun x1=>
 gd ((s0.1.length+1)*72<=140737488355328)<|
 some (.inl (s0.1++[(⟨x0.Id,x0.X,x0.Y,x0.Z,x0.Wide,x0.Num,x0.Of,x1⟩:Aa)],w64 (s0.2+1))))
 else (some (.inr s0.1))
def It(p0:List Aa)(p1:Af)(p2:List Bc):Option (List Aa×Int):=
 bnd (Ek p0 p1) fun r2=>
 if r2.2=0 then (bnd (Mi p0 r2.1 p2) fun r0=>
 if r0.2=0 then (jn (fun (s0:List Aa)=>
 bnd (Eo s0) fun r1=>
 some (r1,0))
 (fun j0=>bnd (lfix (Km p0 r0) (([]:List Aa),0)) fun t0=>
 j0 t0))
 else (some (([]:List Aa),r0.2)))
 else (some (([]:List Aa),r2.2))
def Mr(p0:List Aa)(p1:List Aa):Int->Option (Sum Int (Sum Unit Bool)):=fun s0=>
 if s0<(p0.length:Int) then (bnd (idx p0 s0) fun x0=>
 bnd (idx p1 s0) fun x1=>
 if (((x0.Id==x1.Id)&&((x0.X==x1.X)&&((x0.Y==x1.Y)&&(((x0.Z.Lo==x1.Z.Lo)&&((x0.Z.Hi==x1.Z.Hi)&&true))&&((x0.Wide==x1.Wide)&&((x0.Num==x1.Num)&&((x0.Of==x1.Of)&&((x0.Class==x1.Class)&&true)))))))))=true then (some (.inl (w64 (s0+1))))
 else (some (.inr (.inr false))))
 else (some (.inr (.inl ())))
def Ru(p0:List Aa)(p1:List Aa):Option Bool :=
 if (p0.length:Int)=(p1.length:Int) then (jn (fun (s5:Unit)=>
 some true)
 (fun j5=>bnd (lfix (Mr p0 p1) 0) fun t0=>
 (match t0 with
 |(.inl z0)=>j5 z0
 |(.inr z0)=>some z0
 )))
 else (some false)
def Gv(p0:List Aa)(p1:Af)(p2:List Bc):Option Bool :=
 jn (fun (s3:Bool)=>
 if s3=true then (bnd Ih fun r0=>
 some r0)
 else (bnd (Nv p0 p1 p2) fun r1=>
 bnd (It p0 p1 p2) fun r3=>
 jn (fun (s7:Bool)=>
 some s7)
 (fun j7=>bnd (Ru r1.1 r3.1) fun r4=>
 if r4=true then (if r1.2=r3.2 then (bnd Ih fun r5=>
 j7 r5)
 else (j7 false))
 else (j7 false))))
 (fun j3=>bnd (Rm p0 14) fun r2=>
 if r2=true then (j3 true)
 else (bnd (Qa p2) fun r8=>
 j3 r8))
instance(p0:List Aa)(p1:Af)(p2:List Bc):Con (It p0 p1 p2) prog 27 (fun K vs=>∃U0 E0 U1 E1,vs=[.slice U0 p0.length E0,.agg #[.int .i64 p1.Cell,.int .i64 p1.Reach,.int .i64 p1.Slope,.int .i64 p1.Link,.int .i64 p1.Flat,.int .i64 p1.Tall,.int .i64 p1.High,.int .i64 p1.Low,.int .i64 p1.Brush,.int .i64 p1.Few],.slice U1 p2.length E1]/\Has K U0 p0.length E0 9 Ag p0/\HasN K U1 p2.length E1 4 Ii p2/\True) (fun _ r v Ln=>∃A0 c0,v=.tuple #[.slice A0 r.1.length c0,.int .i64 r.2]/\Ln=[.r A0 r.1.length c0 30 9 (r.1.flatMap Ag)]/\True):=⟨by
 rintro K _ r ⟨U0,E0,U1,E1,rfl,ha0,ha1,-⟩ hx w hK;replace ha0:=ha0.lo hK;unfold It at hx;refine CtS ntmps27 results27 ?_;refine pq ?_;intros;rename_i hx
 refine Cq2 (s:=20) hx rfl ?_ ?_
 .exact aI
 .refine pI ?_;intros;rename_i hx
  refine Cq2 (s:=30) hx rfl ?_ ?_
  .exact aI
  .refine pI ?_;intros;rename_i hx
   refine pA ?_;intros;rename_i hx
   apply Jr (γ:=OA×Nat) hx [] (fun s0 y0 f=>(10,.slice y0.1 s0.length y0.2)::f) [999] (fun s0 y0 l=>.r y0.1 s0.length y0.2 30 9 (s0.flatMap Ag)::l);exact kk
   .exact aI
   .refine pI ?_;intros;rename_i hx
    refine Ba 30 9 ?_;apply Lr (γ:=OA×Nat) hx [0,8] (fun s1 y1 f=>(10,.slice y1.1 s1.1.length y1.2)::(11,.int .i64 s1.2)::f) [1,999] (fun s1 y1 l=>.r y1.1 s1.1.length y1.2 30 9 (s1.1.flatMap Ag)::l) (_,_);exact kk;exact sk;intro s1 y1 x0 hx _;unfold Km at hx;exact au⟩
instance(p0:List Aa)(p1:List Aa):Con (Ru p0 p1) prog 28 (fun K vs=>∃U0 E0 U1 E1,vs=[.slice U0 p0.length E0,.slice U1 p1.length E1]/\Has K U0 p0.length E0 9 Ag p0/\Has K U1 p1.length E1 9 Ag p1/\True) (fun _ r v Ln=>v=.bool r/\Ln=[]/\True):=⟨by
 rintro K _ r ⟨U0,E0,U1,E1,rfl,ha0,ha1,-⟩ hx w hK;replace ha0:=ha0.lo hK;replace ha1:=ha1.lo hK;unfold Ru at hx;have:=dl 6 [0,0,0,1,0,0,0,1,0] [0,1,2,3,4,5,6,7,8];refine CtS ntmps28 results28 ?_;refine pq ?_;intros;rename_i hx
 refine Cq2 (s:=10) hx rfl ?_ ?_
 .exact aI
 .refine pI ?_;intros;rename_i hx
  apply Jr (γ:=Unit) hx [] (fun s5 y5 f=>f) [999] (fun s5 y5 l=>l);exact kk
  .exact aI
  .refine pI ?_;intros;rename_i hx
   apply Lr (γ:=Unit) hx [0,1] (fun s33 y33 f=>(5,.int .i64 s33)::f) [999] (fun s33 y33 l=>l) ();exact kk;exact sk;intro s33 y33 x33 hx _;unfold Mr at hx;exact au⟩
instance Aao(p0:List Aa)(p1:Af)(p2:List Bc):Con (Gv p0 p1 p2) prog 8 (fun K vs=>∃U0 E0 U1 E1,vs=[.slice U0 p0.length E0,.agg #[.int .i64 p1.Cell,.int .i64 p1.Reach,.int .i64 p1.Slope,.int .i64 p1.Link,.int .i64 p1.Flat,.int .i64 p1.Tall,.int .i64 p1.High,.int .i64 p1.Low,.int .i64 p1.Brush,.int .i64 p1.Few],.slice U1 p2.length E1]/\Has K U0 p0.length E0 9 Ag p0/\HasN K U1 p2.length E1 4 Ii p2/\True) (fun _ r v Ln=>v=.bool r/\Ln=[]/\True):=⟨by
 rintro K _ r ⟨U0,E0,U1,E1,rfl,ha0,ha1,-⟩ hx w hK;replace ha0:=ha0.lo hK;unfold Gv at hx;refine CtS ntmps8 results8 ?_;refine pq ?_;intros;rename_i hx
 refine pA ?_;intros;rename_i hx
 refine pA ?_;intros;rename_i hx
 apply Jr (γ:=Unit) hx [0,2,4] (fun s3 y3 f=>(16,.bool s3)::f) [0,999] (fun s3 y3 l=>l);exact kk
 .exact aI
 .exact aI⟩
theorem Zq(p0:List Aa)(p1:Af)(p2:List Bc){K:LE}{U0:OA}{E0:Nat}{U1:OA}{E1:Nat}(ha0:Has K U0 p0.length E0 9 Ag p0)(ha1:HasN K U1 p2.length E1 4 Ii p2){r:Bool}(hx:Gv p0 p1 p2=some r)(w:World)(hK:∀e∈K,Ent.ok w e):CtL prog 8 [.slice U0 p0.length E0,.agg #[.int .i64 p1.Cell,.int .i64 p1.Reach,.int .i64 p1.Slope,.int .i64 p1.Link,.int .i64 p1.Flat,.int .i64 p1.Tall,.int .i64 p1.High,.int .i64 p1.Low,.int .i64 p1.Brush,.int .i64 p1.Few],.slice U1 p2.length E1] w fun v Ln=>v=.bool r/\Ln=[]/\True:=(Aao p0 p1 p2).h K _ _ ⟨_,_,_,_,rfl,ha0,ha1,trivial⟩ hx w hK
end
section
open Go Go.Sort
theorem Ap7(l:List Aa)(f:Aa->Int)(es:List Bc):X.outC l (l.map f) es=l.map fun p=>es.foldl (X.editF p) (f p):=by
 unfold X.outC
 induction l with
 |nil=>rfl
 |cons x l ih=>rw[List.map_cons,List.zip_cons_cons,List.map_cons,List.map_cons,ih]
theorem Bas(l:List Aa)(f:Aa->Int):lblL l (l.map f)=l.map fun p=>setC p (f p):=by
 unfold lblL
 induction l with
 |nil=>rfl
 |cons x l ih=>rw[List.map_cons,List.zip_cons_cons,List.map_cons,List.map_cons,ih]
theorem Bdo{l:List Aa}(h:X.Fit l)(f:Aa->Int):X.Fit (l.map fun p=>setC p (f p)):=by
 refine⟨by rw[List.length_map];exact h.n,fun q hq=>?_,?_⟩
 .obtain⟨p,hp,rfl⟩:=List.mem_map.1 hq;exact h.ok p hp
 .rw[List.map_map];exact h.id
theorem Bdp{l:List Aa}(h:l.length<=1000000):Ru l l=some true:=by
 unfold Ru;have e:lfix (Mr l l) 0=some (.inl ()):=Au1 (n:=l.length) (fun j hj=>by
  unfold Mr;rw[iP oo,Aj hj,Ac,Ac,As oo];simp) (by
  unfold Mr;rw[iN oo])
 rw[iP rfl,jn_d,e,Ac]
theorem Ap8{l:List Aa}(hn:l.length<=1000000)(f:Aa->Int)(e:Int):lfix (Km l (l.map f,e)) (([]:List Aa),0)=some (l.map fun p=>setC p (f p)):=by
 refine Ai0 l (fun p=>setC p (f p)) _ (fun j hj s hs=>?_) (fun s=>?_)
 .unfold Km;dsimp only;have hj2:j<(l.map f).length:=by rw[List.length_map];exact hj
  rw[iP oo,Aj hj,Ac,Aj hj2,Ac,gd_t oo,As oo,List.getElem_map];rfl
 .unfold Km;dsimp only;rw[iN oo]
theorem Ase{l:List Aa}{r:Af}{es:List Bc}(hl:l.length<=300)(hes:es.length<=100)(hr:∀e∈es,e.Ring.length<=200):∃x:List Aa×Int,Nv l r es=some x/\It l r es=some x/\x.1.length<=1000000:=by
 by_cases c1:X.okRules r=true
 .by_cases c2:X.validL l=true
  .obtain⟨C,hC,hc⟩:=Ayh c2 c1 hl;have hF:=X.Fit.of c2;have hn:=hF.n;have hp:=Db Hn l;have hf:X.Fit (Bf Hn l):=hF.perm hp.symm;obtain⟨C',hC',hc'⟩:=Ayh (Azf hf) c1 (by rw[hp.length_eq];exact hl);obtain⟨f,f1,f2⟩:=Akv hc hc' hp hC hC';obtain⟨cl,e1,e2,e3⟩:=Ant hc hC;rw[f1] at e1;obtain rfl:=oI e1;have hx:=X.rCorrect_eq l (l.map f) hes hr;unfold It;rw[e2,Ac];dsimp only;unfold X.corrS at hx;rw[iP c2] at hx;rw[iP rfl,hx,Ac]
   by_cases c3:es.length<=64
   .have c5:(l.map f).length=l.length/\es.length<=64:=⟨e3,c3⟩;rw[iP c5,Azg c2 c1 f2 (by rw[List.length_map,hp.length_eq]) c3]
    by_cases c4:es.all X.okEdit=true
    ·rw[if_pos c4,if_pos c4];dsimp only;rw[if_pos rfl,jn_d,Ap7 l,Ap7 (Bf Hn l),Bas,Ap8 (l:=l) oo,Ac];dsimp only;rw[Abn (Bdo hF _),Ac];have e:Bf Hn (l.map fun p=>setC p (es.foldl (X.editF p) (f p)))=(Bf Hn l).map fun p=>setC p (es.foldl (X.editF p) (f p)):=by
      unfold Bf;rw[List.map_mergeSort];intro a _ b _;rfl
     rw[e];exact⟨_,rfl,rfl,by dsimp only;rw[List.length_map,hp.length_eq];omega⟩
    .rw[iN c4,iN c4];exact⟨_,rfl,rfl,s_⟩
   .have c5:¬((l.map f).length=l.length/\es.length<=64):=fun h=>c3 h.2
    rw[iN c5];refine⟨([],2),?_,rfl,s_⟩;unfold Nv;rw[X.checked_eq,iP c1,iP c2,Ac,iP rfl,X.validEdits_eq,iP oo,Ac];rfl
  .refine⟨([],70),?_,?_,s_⟩
   .unfold Nv;rw[X.checked_eq,iP c1,iN c2];rfl
   .unfold It Ek Gt;rw[X.rSeeds_eq,iP c1,iN c2];rfl
 .refine⟨([],71),?_,?_,s_⟩
  .unfold Nv;rw[X.checked_eq,iN c1];rfl
  .unfold It Ek Gt;rw[X.rSeeds_eq,iN c1];rfl
theorem Akf(l:List Aa)(r:Af)(es:List Bc):Gv l r es=some true:=by
 have fin:(bnd Ih fun r11=>some r11)=some true:=by rw[X.first_eq,Ac]
 unfold Gv;rw[jn_d,X.many_eq,Ac]
 by_cases c:(300<l.length\/(14:Int)<(l.length:Int)/\X.validL l=true)
 .rw[iP (sV c)];dsimp only;rw[iP rfl];exact fin
 .rw[iN (sV c),X.large_eq,Ac];dsimp only
  by_cases c2:es.length<=100/\∀e∈es,e.Ring.length<=200
  .rw[dT c2,Bool.not_true,iN s_];obtain⟨x,e1,e2,h1⟩:=Ase (l:=l) (r:=r) (es:=es) oo c2.1 c2.2;rw[e1,Ac,e2,Ac,jn_d,Bdp h1,Ac,iP rfl,iP rfl,X.first_eq,Ac]
  .rw[dF c2,Bool.not_false,iP rfl];exact fin
end
section
open Go.ChangeShapes Go.WideShapes Go.ChangeAt
theorem own2:ownKnob prog.godebug=none:=kr
theorem Akg:laidOutB prog=true:=kr
def rI64(z:Int):Prop:=-9223372036854775808<=z/\z<=9223372036854775807
theorem Akh{cs:LV}{o:Nat}(h:cs.length=o):cs.drop o=[]:=by rw[<-h,List.drop_length]
theorem Ep{cs X R:LV}{o k o':Nat}(h1:(cs.drop o).take k=X)(h2:cs.drop o'=R)(ho:o'=o+k):cs.drop o=X++R:=by
 subst ho;rw[<-h1,<-h2,<-List.drop_drop,List.take_append_drop]
section
variable {H:Type}{enc:TypeId×Value->H}{w:World}{base:Nat}{spare:Nat->Bool}{held:Bool}{P:Program}
theorem Bgc{t:TypeId}(ht:P.underlying t=some (.int .i64)){fuel:Nat}{cs:LV}{x:DataW H×List MemPlace}(h:DataW.trod enc P w base spare held fuel t cs=some x):∃z:Int,cs=[.int .i64 z]/\rI64 z:=by
 obtain⟨n,hc,_,hw⟩:=DataW.trod_int ht h;refine⟨n,hc,?_⟩;have h1:IntKind.i64.min = -9223372036854775808:=rfl;have h2:IntKind.i64.max=9223372036854775807:=rfl;simp only[Lit.wf,Bool.and_eq_true,dQ] at hw;unfold rI64;omega
theorem Aki{α:Type}{en:α->List Value}{okα:α->Prop}{t e:TypeId}{sz:Nat}(ht:P.underlying t=some (.slice e))(hsz:P.cellsOf e=sz)(hp:0<sz)(hel:∀ {fuel:Nat} {cs:List Value} {x:DataW H × List MemPlace},DataW.trod enc P w base spare held fuel e cs=some x->∃ v,cs=en v/\okα v){fuel:Nat}{cs:List Value}{x:DataW H × List MemPlace}(h:DataW.trod enc P w base spare held fuel t cs=some x):
  ∃(v:List α) (A:OA) (c:Nat),cs=[.slice A v.length c]/\Has [.old w] A v.length c sz en v/\∀z∈v,okα z:=by
 rcases Go.Deep.open_slice ht h with⟨rfl,_⟩|⟨a,len,cap,m,n,D,Pl,rfl,hb,hl,hm,hmm,_,hx⟩
 .exact⟨[],none,0,rfl,Has.nil,fun z hz=>by simp at hz⟩
 .have hle:len<=m:=by rw[hmm];split <;> omega
  have key:∀k,k<=len->∃v:List α,v.length=k/\(∀z∈v,okα z)/\∀i (hi:i<v.length),w.cells? base (a.add (i*sz)) sz=some (en v[i]):=by
   intro k
   induction k with
   |zero=>intro _;exact⟨[],rfl,fun z hz=>by simp at hz,fun i hi=>by simp at hi⟩
   |succ k ih=>
    intro hk;obtain⟨v,h1,h2,h3⟩:=ih oo;obtain⟨cs',h4,h5⟩:=hx k oo;obtain⟨z,rfl,hz⟩:=hel h5;rw[hsz] at h4;refine⟨v++[z],by simp[h1],fun y hy=>?_,fun i hi=>?_⟩
    .rcases List.mem_append.1 hy with hy|hy
     .exact h2 y hy
     .simp at hy;subst hy;exact hz
    .simp at hi;rcases Nat.lt_or_ge i v.length with hlt|hge
     .rw[List.getElem_append_left hlt];exact h3 i hlt
     .have:i=k:=oo;subst this;rw[List.getElem_append_right hge];simp[h1];exact h4
  obtain⟨v,h1,h2,h3⟩:=key len (nL _);subst h1;have hesz:∀z∈v,(en z).length=sz:=by
   intro z hz;obtain⟨i,hi,rfl⟩:=List.getElem_of_mem hz;exact (World.cells?_some (h3 i hi)).2.1
  have hsl:Sl w (some a) v.length cap sz en v:=by
   refine⟨rfl,hl,hm,hesz,fun hn=>?_⟩;have hsp:a.spot=none:=by
    have h4:=(World.cells?_some (h3 0 hn)).2.2 0 hp;have h5:(en v[0])[0]? = some ((en v[0])[0]'(by rw[hesz _ (gM hn)];exact hp)):=gE _;rw[h5] at h4;simp only[Nat.zero_mul,Addr.add,if_true] at h4;unfold World.cell? at h4;split at h4
    .split at h4
     .cases h4
     .rename_i hs;simpa using hs
    .cases h4
   obtain⟨b,o,sp⟩:=a;have hsp:sp=none:=hsp;subst hsp;refine⟨b,o,rfl,fun i hi j u hu=>?_⟩;have hj:j<sz:=by rw[<-hesz _ (gM hi)];exact (List.getElem?_eq_some_iff.1 hu).1
   have h4:=(World.cells?_some (h3 i hi)).2.2 j hj;rw[hu,Addr.add_lit,Addr.add_lit] at h4;exact h4
  exact⟨v,some a,cap,rfl,hsl.has,h2⟩
theorem Awo{α:Type}{R:List Ent->α->List Value->Prop}{okα:α->Prop}{t e:TypeId}{sz:Nat}(ht:P.underlying t=some (.slice e))(hsz:P.cellsOf e=sz)(hp:0<sz)(hel:∀ {fuel:Nat} {cs:List Value} {x:DataW H × List MemPlace},DataW.trod enc P w base spare held fuel e cs=some x->∃ v,R [.old w] v cs/\okα v){fuel:Nat}{cs:List Value}{x:DataW H × List MemPlace}(h:DataW.trod enc P w base spare held fuel t cs=some x):
  ∃(v:List α) (A:OA) (c:Nat),cs=[.slice A v.length c]/\HasN [.old w] A v.length c sz R v/\∀z∈v,okα z:=by
 obtain⟨v,A,c,h1,h2,h3⟩:=Aki (en:=raw) (okα:=fun ys=>∃v,R [.old w] v ys/\okα v) ht hsz hp (fun {_ cs _} h=>⟨cs,rfl,hel h⟩) h;have key:∀l:List LV,(∀z∈l,∃v,R [.old w] v z/\okα v)->∃m:List α,l.length=m.length/\(∀(i:Nat) (h:i<m.length) (h':i<l.length),R [.old w] m[i] l[i])/\∀z∈m,okα z:=by
  intro l
  induction l with
  |nil=>intro _;exact⟨[],rfl,fun i h=>absurd h s_,fun z hz=>by simp at hz⟩
  |cons y r ih=>
   intro hy;obtain⟨u,hu,ho⟩:=hy y mS;obtain⟨m,e1,e2,e3⟩:=ih (fun z hz=>hy z (mO _ hz));refine⟨u::m,by simp[e1],fun i h h'=>?_,fun z hz=>?_⟩
   .cases i with
    |zero=>exact hu
    |succ i=>exact e2 i (sV h) (sV h')
   .rcases List.mem_cons.1 hz with rfl|hz
    .exact ho
    .exact e3 z hz
 obtain⟨m,e1,e2,e3⟩:=key v h3;rw[e1] at h1 h2;exact⟨m,A,c,h1,⟨v,h2,e1,e2⟩,e3⟩
end
theorem Bhn(w:World):∀e∈[Ent.old w],Ent.ok w e:=fun e he=>by simp at he;subst he;exact⟨Below.refl _ _,nL _⟩
end
end
end Go.Proofs.YthlkpgdfifnagaaGreat
