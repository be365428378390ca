import Derived.Test.YthlkpgdfifnagaaGreatI16
import Derived.Test.YthlkpgdfifnagaaGreatRows
import Derived.ProofKit
import Derived.OpenShut
import Derived.ShutString
import Derived.ChangeOld
import Derived.Below
import Derived.Carry
import Derived.ChangeArms
import Derived.Deep.Slices
set_option maxRecDepth 100000
set_option maxHeartbeats 1000000
namespace Go.Proofs.YthlkpgdfifnagaaGreat
open Go Go.RowKit Go.Proofs.Tryz
instance(x0:Int)(x1:Int):Kb prog 30 [(1,.int .i64 x0),(2,.int .i64 x1)] [.int .i64 0,.int .i64 x0,.int .i64 x1,.int .i64 0,.int .i64 0,.int .i64 0,.int .i64 0,.int .i64 0,.int .i64 0]:=⟨fun w=>kr⟩
noncomputable def Gs(p0:Ax)(p1:Ax):Option Int :=
 bnd (Vb p0 p1) fun r3=>
 some r3.1
noncomputable def My(p0:Aq)(p1:Aa)(p2:Af):Option (Bool × Int × Int):=
 bnd (Jf p0 (⟨p1.X,p1.Y⟩:Ab)) fun r5=>
 if r5.2=0 then (bnd (Gj p0 (⟨p1.X,p1.Y⟩:Ab)) fun r0=>
 bnd (Gs p1.Z r0.1) fun r1=>
 if p2.Reach<r1 then (some (false,0,0))
 else (bnd (idx p0.T r5.1) fun x0=>
 bnd (idx p0.V x0.a0) fun x1=>
 bnd (Cj (⟨0,x1.X,x1.Y,(⟨0,0⟩:Ax),0,0,0,0⟩:Aa) p1) fun r2=>
 bnd (Gs p1.Z x1.Z) fun r3=>
 bnd (Bh r3) fun r4=>
 bnd (Bh 1000000) fun r6=>
 bnd (Bc r6 r4) fun r7=>
 bnd (Bc r7 r4) fun r8=>
 bnd (Bh (w64 (p2.Slope*p2.Slope))) fun r9=>
 bnd (Bh r2) fun r86=>
 bnd (Bc r9 r86) fun r95=>
 bnd (Dj r8 r95) fun r10=>
 if 0<r10 then (some (false,0,0))
 else (bnd (idx p0.T r5.1) fun x2=>
 bnd (idx p0.V x2.a1) fun x3=>
 bnd (Cj (⟨0,x3.X,x3.Y,(⟨0,0⟩:Ax),0,0,0,0⟩:Aa) p1) fun r12=>
 bnd (Gs p1.Z x3.Z) fun r13=>
 bnd (Bh r13) fun r14=>
 bnd (Bh 1000000) fun r16=>
 bnd (Bc r16 r14) fun r17=>
 bnd (Bc r17 r14) fun r18=>
 bnd (Bh (w64 (p2.Slope*p2.Slope))) fun r19=>
 bnd (Bh r12) fun r20=>
 bnd (Bc r19 r20) fun r21=>
 bnd (Dj r18 r21) fun r22=>
 if 0<r22 then (some (false,0,0))
 else (bnd (idx p0.T r5.1) fun x4=>
 bnd (idx p0.V x4.a2) fun x5=>
 bnd (Cj (⟨0,x5.X,x5.Y,(⟨0,0⟩:Ax),0,0,0,0⟩:Aa) p1) fun r23=>
 bnd (Gs p1.Z x5.Z) fun r24=>
 bnd (Bh r24) fun r25=>
 bnd (Bh 1000000) fun r26=>
 bnd (Bc r26 r25) fun r27=>
 bnd (Bc r27 r25) fun r28=>
 bnd (Bh (w64 (p2.Slope*p2.Slope))) fun r29=>
 bnd (Bh r23) fun r30=>
 bnd (Bc r29 r30) fun r31=>
 bnd (Dj r28 r31) fun r32=>
 if 0<r32 then (some (false,0,0))
 else (some (true,r1,r5.1))))))
 else (some (false,0,0))
noncomputable def Mf(r9:Aq × Int):(List Int × Int)->Option (Sum (List Int × Int) (List Int)):=fun s0=>
 if s0.2<(r9.1.T.length:Int) then (bnd (idx s0.1 s0.2) fun x0=>
 some (.inl (setI s0.1 s0.2 (-1),w64 (s0.2+1))))
 else (some (.inr s0.1))
noncomputable def Jz(r0:List Aa)(p1:List Aa)(r9:Aq × Int)(p2:Af):(List Int × List Int × Int)->Option (Sum (List Int × List Int × Int) (List Int)):=fun s0=>
 if s0.2.2<(r0.length:Int) then (jn (fun (s1:List Int × List Int)=>
 some (.inl (s1.1,s1.2,w64 (s0.2.2+1))))
 (fun j0=>bnd (idx r0 s0.2.2) fun x0=>
 bnd (Ft p1) fun r1=>
 bnd (Lj r1 x0.Id) fun r2=>
 if r2=true then (j0 (s0.1,s0.2.1))
 else (bnd (idx r0 s0.2.2) fun x1=>
 bnd (My r9.1 x1 p2) fun r3=>
 if r3.1=true then (jn (fun (s2:Bool)=>
 if s2=true then (bnd (idx s0.1 r3.2.2) fun x2=>
 bnd (idx s0.2.1 r3.2.2) fun x3=>
 j0 (setI s0.1 r3.2.2 s0.2.2,setI s0.2.1 r3.2.2 r3.2.1))
 else (j0 (s0.1,s0.2.1)))
 (fun j1=>bnd (idx s0.1 r3.2.2) fun x4=>
 if x4<0 then (j1 true)
 else (bnd (idx s0.2.1 r3.2.2) fun x5=>
 if r3.2.1<x5 then (j1 true)
 else (bnd (idx s0.2.1 r3.2.2) fun x6=>
 if r3.2.1=x6 then (bnd (idx r0 s0.2.2) fun x7=>
 bnd (idx s0.1 r3.2.2) fun x8=>
 bnd (idx r0 x8) fun x9=>
 bnd (Ie x7 x9) fun r4=>
 j1 r4)
 else (j1 false)))))
 else (j0 (s0.1,s0.2.1)))))
 else (some (.inr s0.1))
noncomputable def Ka(r9:Aq × Int)(s0:List Int)(r0:List Aa):(List Aa × Int)->Option (Sum (List Aa × Int) (List Aa)):=fun s1=>
 if s1.2<(r9.1.T.length:Int) then (jn (fun (s2:List Aa)=>
 some (.inl (s2,w64 (s1.2+1))))
 (fun j0=>bnd (idx s0 s1.2) fun x0=>
 if 0<=x0 then (bnd (idx s0 s1.2) fun x1=>
 bnd (idx r0 x1) fun x2=>
 gd ((s1.1.length+1)*72<=140737488355328)<|
 j0 (s1.1++[x2]))
 else (j0 s1.1)))
 else (some (.inr s1.1))
noncomputable def Mz(p0:List Aa)(p1:List Aa)(p2:Af):Option (List Aa × Int):=
 bnd (Jb p1) fun r2=>
 bnd (Mm r2) fun r9=>
 if r9.2=0 then (bnd (Fo p0 p2) fun r0=>
 gd ((0:Int)<=(r9.1.T.length:Int)/\8*Int.toNat (r9.1.T.length:Int)<=140737488355328)<|
 gd ((0:Int)<=(r9.1.T.length:Int)/\8*Int.toNat (r9.1.T.length:Int)<=140737488355328)<|
 jn (fun (s9:List Int)=>
 jn (fun (s0:List Int)=>
 gd (((([]:List Aa)).length+p1.length)*72<=140737488355328)<|
 jn (fun (s1:List Aa)=>
 some (s1,0))
 (fun j0=>bnd (lfix (Ka r9 s0 r0) ((([]:List Aa))++p1,0)) fun t0=>
 j0 t0))
 (fun j1=>bnd (lfix (Jz r0 p1 r9 p2) (s9,List.replicate (Int.toNat (r9.1.T.length:Int)) (0:Int),0)) fun t1=>
 j1 t1))
 (fun j9=>bnd (lfix (Mf r9) (List.replicate (Int.toNat (r9.1.T.length:Int)) (0:Int),0)) fun t2=>
 j9 t2))
 else (some (([]:List Aa),r9.2))
instance lidarref07_gap_c(p0:Ax)(p1:Ax):Con (Gs p0 p1) prog 86 (fun _ vs=>vs=[.agg #[.int .i64 p0.Lo,.int .i64 p0.Hi],.agg #[.int .i64 p1.Lo,.int .i64 p1.Hi]]) (fun _ r=>fun v Ln=>v = .int .i64 r/\Ln=[]/\True):=⟨by
 rintro _ _ r rfl hx w hK;unfold Gs at hx;refine CtS ntmps86 results86 ?_;exact au⟩
instance lidarref07_fits_c(p0:Aq)(p1:Aa)(p2:Af):Con (My p0 p1 p2) prog 38 (fun K vs=>∃ U0 E0 U1 E1 U2 E2,vs=[.agg #[.slice U0 p0.V.length E0,.slice U1 p0.T.length E1,.slice U2 p0.Lines.length E2],.agg #[.int .i64 p1.Id,.int .i64 p1.X,.int .i64 p1.Y,.int .i64 p1.Z.Lo,.int .i64 p1.Z.Hi,.int .i64 p1.Wide,.int .i64 p1.Num,.int .i64 p1.Of,.int .i64 p1.Class],.agg #[.int .i64 p2.Cell,.int .i64 p2.Reach,.int .i64 p2.Slope,.int .i64 p2.Link,.int .i64 p2.Flat,.int .i64 p2.Tall,.int .i64 p2.High,.int .i64 p2.Low,.int .i64 p2.Brush,.int .i64 p2.Few]]/\Has K U0 p0.V.length E0 4 Ak p0.V/\Has K U1 p0.T.length E1 3 Aw p0.T/\Has K U2 p0.Lines.length E2 2 Ar p0.Lines/\True) (fun _ r=>fun v Ln=>v = .tuple #[.bool r.1,.int .i64 r.2.1,.int .i64 r.2.2]/\Ln=[]/\True):=⟨by
 rintro K _ r ⟨U0,E0,U1,E1,U2,E2,rfl,ha0,ha1,ha2,-⟩ hx w hK;replace ha0:=Has.lo ha0 hK;replace ha1:=Has.lo ha1 hK;replace ha2:=Has.lo ha2 hK;unfold My at hx;have:=dl 12 [0,1,0,1,0,0,0,0,1,0,1,2,3] [0,1,2,3,4,5,6,7,8,9,10,11,12];have:=dl 16 [2,1,2,1,2,4,3] [1,3,0,2,4,5,6] [5];have:=dl 17 [1,0,1,0,1,0,2,0,2,2,2,0] [0,1,2,3,4,5,7,6,8,9,10,11];refine CtS ntmps38 results38 ?_;try (refine pre ?_;intros;rename_i hx)
 refine Cq2 (s:=33) hx rfl (fun _ hx=>?_) (fun _ hx=>?_)
 ·exact au
 ·try (refine pre ?_;intros;rename_i hx)
  refine Cq1 (s:=47) hx rfl (fun _ hx=>?_) (fun _ hx=>?_)
  ·exact au
  ·try (refine pre ?_;intros;rename_i hx)
   refine Cq1 (s:=93) hx rfl (fun _ hx=>?_) (fun _ hx=>?_)
   ·exact au
   ·try (refine pre ?_;intros;rename_i hx)
    refine Cq1 (s:=93) hx rfl (fun _ hx=>?_) (fun _ hx=>?_)
    ·exact au
    ·try (refine pre ?_;intros;rename_i hx)
     refine Cq1 (s:=93) hx rfl (fun _ hx=>?_) (fun _ hx=>?_)
     ·exact au
     ·exact au⟩
instance lidarref07_grow_c(p0:List Aa)(p1:List Aa)(p2:Af):Con (Mz p0 p1 p2) prog 47 (fun K vs=>∃ U0 E0 U1 E1,vs=[.slice U0 p0.length E0,.slice U1 p1.length E1,.agg #[.int .i64 p2.Cell,.int .i64 p2.Reach,.int .i64 p2.Slope,.int .i64 p2.Link,.int .i64 p2.Flat,.int .i64 p2.Tall,.int .i64 p2.High,.int .i64 p2.Low,.int .i64 p2.Brush,.int .i64 p2.Few]]/\Has K U0 p0.length E0 9 Ai p0/\Has K U1 p1.length E1 9 Ai p1/\True) (fun _ r=>fun v Ln=>∃ A0 c0,v = .tuple #[.slice A0 r.1.length c0,.int .i64 r.2]/\Ln=[.r A0 r.1.length c0 30 9 (r.1.flatMap Ai)]/\True):=⟨by
 rintro K _ r ⟨U0,E0,U1,E1,rfl,ha0,ha1,-⟩ hx w hK;replace ha0:=Has.lo ha0 hK;replace ha1:=Has.lo ha1 hK;unfold Mz at hx;have:=dl 14 [0,2,0,0,0,0,1,2] [0,2,3,4,5,6,1,7];have:=dl 15 [1,0,0,0,1,1,2,0,0,0,0,2,2,2] [0,1,2,3,4,5,6,7,8,9,10,11,12,13];have:=dl 17 [0,0,0,1,0,0,0,0,0,0,1,0,0,0,0,0,0,0,1,0,0,0,0,0,1,0,0,0,0,1,0,1,2,0,0] [0,1,2,3,4,5,6,7,8,9,10,11,12,13,14,15,16,17,18,19,20,21,22,23,24,25,26,27,28,29,30,31,32,33,34];refine CtS ntmps47 results47 ?_;try (refine pre ?_;intros;rename_i hx)
 refine Cq2 (s:=27) hx rfl (fun _ hx=>?_) (fun _ hx=>?_)
 ·exact au
 ·try (refine pre ?_;intros;rename_i hx)
  refine Bl ?_;try (refine pre ?_;intros;rename_i hx)
  apply Jr (γ:=Option Addr × Nat) hx [1,5,8,10,12] (fun s9 y9 f=>(11,.slice y9.1 s9.length y9.2)::f) [0,2,3,4,5,6,8,999] (fun s9 y9 l=>.r y9.1 s9.length y9.2 3 1 (s9.flatMap Ag)::l);exact kk
  ·intro s9 y9 hx;apply Jr (γ:=Option Addr × Nat) hx [1,8,10] (fun s0 y0 f=>(11,.slice y0.1 s0.length y0.2)::f) [2,3,4,5,6,999] (fun s0 y0 l=>.r y0.1 s0.length y0.2 3 1 (s0.flatMap Ag)::l);exact kk
   ·intro s0 y0 hx;try (refine pre ?_;intros;rename_i hx)
    (with_reducible apply Ali 120 (sz:=9));exact rfl;exact aT;exact inferInstance;exact dL;exact (fun _=>rfl);exact rfl;exact rfl;exact sA
    try (refine pre ?_;intros;rename_i hx)
    apply Jr (γ:=Option Addr × Nat) hx [] (fun s1 y1 f=>(18,.slice y1.1 s1.length y1.2)::f) [999] (fun s1 y1 l=>.r y1.1 s1.length y1.2 30 9 (s1.flatMap Ai)::l);exact kk
    ·intro s1 y1 hx;exact au
    ·intro _ hx;try (refine pre ?_;intros;rename_i hx)
     apply Lr (γ:=Option Addr × Nat) hx [8,10,11] (fun s2 y2 f=>(18,.slice y2.1 s2.1.length y2.2)::(19,.int .i64 s2.2)::f) [1,2,3,4,5,6,999] (fun s2 y2 l=>.r y2.1 s2.1.length y2.2 30 9 (s2.1.flatMap Ai)::l) (_,_);exact kk;exact sk;intro s2 y2 x0 hx _;unfold Ka at hx;exact au
   ·intro _ hx;try (refine pre ?_;intros;rename_i hx)
    apply Lr (γ:=Option Addr × Nat × Option Addr × Nat) hx [1,5,8,10] (fun s3 y3 f=>(11,.slice y3.1 s3.1.length y3.2.1)::(12,.slice y3.2.2.1 s3.2.1.length y3.2.2.2)::(14,.int .i64 s3.2.2)::f) [2,3,4,5,6,7,999] (fun s3 y3 l=>.r y3.2.2.1 s3.2.1.length y3.2.2.2 3 1 (s3.2.1.flatMap Ag) :: .r y3.1 s3.1.length y3.2.1 3 1 (s3.1.flatMap Ag)::l) (_,_,_,_);exact kk;exact sk;intro s3 y3 x1 hx _;unfold Jz at hx;try (refine pre ?_;intros;rename_i hx)
    refine Cq1 (s:=53) hx rfl (fun _ hx=>?_) (fun _ hx=>?_)
    ·try (refine pre ?_;intros;rename_i hx)
     apply Jr (γ:=Option Addr × Nat × Option Addr × Nat) hx [1,5,8,10,14] (fun s4 y4 f=>(11,.slice y4.1 s4.1.length y4.2.1)::(12,.slice y4.2.2.1 s4.2.length y4.2.2.2)::f) [2,3,4,5,6,7,999] (fun s4 y4 l=>.r y4.2.2.1 s4.2.length y4.2.2.2 3 1 (s4.2.flatMap Ag) :: .r y4.1 s4.1.length y4.2.1 3 1 (s4.1.flatMap Ag)::l);exact kk
     ·intro s4 y4 hx;exact au
     ·intro _ hx;try (refine pre ?_;intros;rename_i hx)
      refine Cq3 (s:=63) hx rfl (fun _ hx=>?_) (fun _ hx=>?_)
      ·exact au
      ·try (refine pre ?_;intros;rename_i hx)
       refine Cq4 (s:=76) hx rfl (fun _ hx=>?_) (fun _ hx=>?_)
       ·exact au
       ·try (refine pre ?_;intros;rename_i hx)
        apply Jr (γ:=Unit) hx [1,5,8,10,11,12,14,16,17] (fun s5 y5 f=>(111,.bool s5)::f) [1,2,3,4,5,6,7,8,999] (fun s5 y5 l=>l);exact kk
        ·intro s5 y5 hx;exact au
        ·intro _ hx;exact au
    ·exact au
  ·intro _ hx;try (refine pre ?_;intros;rename_i hx)
   apply Lr (γ:=Option Addr × Nat) hx [1,5,8,10,12] (fun s6 y6 f=>(11,.slice y6.1 s6.1.length y6.2)::(13,.int .i64 s6.2)::f) [0,2,3,4,5,6,8,999] (fun s6 y6 l=>.r y6.1 s6.1.length y6.2 3 1 (s6.1.flatMap Ag)::l) (_,_);exact kk;exact sk;intro s6 y6 x2 hx _;unfold Mf at hx;exact au⟩
theorem Ath{a b:Ax}(ha:-268435456<=a.Lo/\a.Lo<=a.Hi/\a.Hi<=268435456)(hb:-268435456<=b.Lo/\b.Lo<=b.Hi/\b.Hi<=268435456):Gs a b=some (gapI a b):=by
 have hv:∀ {c:Ax},-268435456<=c.Lo/\c.Lo<=c.Hi/\c.Hi<=268435456->La c=some true:=fun hc=>by
  unfold La;rw[jn_d,if_pos oo,if_pos oo,decide_eq_true oo]
 unfold Gs Vb;rw[jn_d,hv ha,Ae,if_pos rfl,hv hb,Ae];dsimp only;rw[if_neg (by simp),Ae,Av oo oo];unfold gapI;dsimp only;congr 1;omega
theorem dig8{z:Int}(h:z.natAbs<65536 ^ 8):(dig 65536 z.natAbs).length<=8:=Fd h
theorem Azd{a b:Int}(ha:a.natAbs<65536 ^ 8)(hb:b.natAbs<65536 ^ 8):Bc (Z16 a) (Z16 b)=some (Z16 (a*b)):=Ak9 (by have:=dig8 ha;have:=dig8 hb;omega)
theorem Bfm{a b:Int}(ha:a.natAbs<65536 ^ 8)(hb:b.natAbs<65536 ^ 8):Dj (Z16 a) (Z16 b)=some (Int.sign (a-b)):=by
 unfold Dj;rw[Amp,Ae,Bb3 (by have:=dig8 ha;omega) (by have:=dig8 (z:=-b) (by rw[Int.natAbs_neg];exact hb);omega),Ae,Awl,Ae,Int.sub_eq_add_neg]
section
variable {m:Aq} (h:Msh m) {p:Aa} (hp:X.okPt p=true) {r:Af} (hr:X.okRules r=true)
include h hp hr
theorem Ac0{k:Int}(hk:inN m.V.length k)(R:Option (Bool × Int × Int)):
  (bnd (idx m.V k) fun x32=>
   bnd (Cj (⟨0,x32.X,x32.Y,(⟨0,0⟩:Ax),0,0,0,0⟩:Aa) p) fun r45=>
   bnd (Gs p.Z x32.Z) fun r48=>
   bnd (Bh r48) fun r51=>
   jn (fun (s21:Bool × List Int)=>
   bnd (Bh (w64 (r.Slope*r.Slope))) fun r136=>
   bnd (Bh r45) fun r141=>
   bnd (Bc r136 r141) fun r150=>
   bnd (Dj (⟨s21.1,s21.2⟩:Ah) r150) fun r159=>
   if 0<r159 then (some (false,0,0))
   else R)
   (fun j21=>bnd (Bh 1000000) fun r57=>
   bnd (Bc r57 r51) fun r66=>
   bnd (Bc r66 r51) fun r75=>
   j21 (r75.Neg,r75.L)))=if Nl m.V r p k=true then R else some (false,0,0):=by
 have hrr:=X.okRules_rng hr;have hpp:=X.okPt_rng hp;unfold Nl;have hz:=Gr h.ok hk;obtain⟨n,rfl,hn⟩:=Mg hk;rw[Aj0 hn,Yq hn] at hz ⊢;obtain⟨z1,z2⟩:=hz;obtain⟨_,g2,g3⟩:=Aq2 (a:=p.Z) (b:=m.V[n].Z) oo z2;have ap:Cj (⟨0,m.V[n].X,m.V[n].Y,(⟨0,0⟩:Ax),0,0,0,0⟩:Aa) p=some ((p.X-(pP m.V[n]).X)*(p.X-(pP m.V[n]).X)+(p.Y-(pP m.V[n]).Y)*(p.Y-(pP m.V[n]).Y)) /\
   0<=(p.X-(pP m.V[n]).X)*(p.X-(pP m.V[n]).X)+(p.Y-(pP m.V[n]).Y)*(p.Y-(pP m.V[n]).Y)/\(p.X-(pP m.V[n]).X)*(p.X-(pP m.V[n]).X)+(p.Y-(pP m.V[n]).Y)*(p.Y-(pP m.V[n]).Y)<=576460752303423488:=by
  unfold okP pP at z1;dsimp only at z1;obtain⟨a1,a2,a3,a4⟩:=X.sq_w (a:=m.V[n].X) (b:=p.X) oo oo;obtain⟨b1,b2,b3,b4⟩:=X.sq_w (a:=m.V[n].Y) (b:=p.Y) oo oo;have s1:(p.X-(pP m.V[n]).X)*(p.X-(pP m.V[n]).X)=(m.V[n].X-p.X)*(m.V[n].X-p.X):=by unfold pP;dsimp only;grind
  have s2:(p.Y-(pP m.V[n]).Y)*(p.Y-(pP m.V[n]).Y)=(m.V[n].Y-p.Y)*(m.V[n].Y-p.Y):=by unfold pP;dsimp only;grind
  rw[s1,s2];refine⟨?_,oo,oo⟩;unfold Cj;dsimp only;rw[a1,b1,a2,b2,Av oo oo]
 obtain⟨ap1,ap2,ap3⟩:=ap;rw[At hn,Ae,ap1,Ae,Ath (a:=p.Z) oo z2,Ae];generalize (p.X-(pP m.V[n]).X)*(p.X-(pP m.V[n]).X)+(p.Y-(pP m.V[n]).Y)*(p.Y-(pP m.V[n]).Y)=e at *;generalize gapI p.Z m.V[n].Z=g at *;have ss:=mulB (x:=r.Slope) (y:=r.Slope) (M:=100000) (N:=100000) oo oo oo oo oo;have se:=mulB (x:=r.Slope*r.Slope) (y:=e) (M:=10000000000) (N:=576460752303423488) oo oo oo oo oo;have gg:=mulB (x:=1000000*g) (y:=g) (M:=1000000*536870912) (N:=536870912) oo oo oo oo oo;rw[Aac oo oo,Ae,jn_d,Aac oo oo,Ae,Azd (by rw[pow8];omega) (by rw[pow8];omega),Ae,Azd (by rw[pow8];omega) (by rw[pow8];omega),Ae];dsimp only;rw[Av oo oo,Aac oo oo,Ae,Aac oo oo,Ae,Azd (by rw[pow8];omega) (by rw[pow8];omega),Ae];show bnd (Dj (Z16 (1000000*g*g)) (Z16 (r.Slope*r.Slope*e))) _=_;rw[Bfm (by rw[pow8];omega) (by rw[pow8];omega),Ae];have e1:1000000*g*g=g*g*1000000:=by grind
 rw[e1];have sp:0<Int.sign (g*g*1000000-r.Slope*r.Slope*e)↔0<g*g*1000000-r.Slope*r.Slope*e:=X.sign_pos
 by_cases c:g*g*1000000<=r.Slope*r.Slope*e
 ·rw[if_neg (by rw[sp];omega),if_pos (decide_eq_true c)]
 ·rw[if_pos (by rw[sp];omega),if_neg (by simpa using c)]
end
theorem Aze{m:Aq}(h:Ao8 m){p:Aa}(hp:X.okPt p=true){r:Af}(hr:X.okRules r=true):
  My m p r=some (if (fitV m.V m.T r p).2.1=true then (true,(fitV m.V m.T r p).2.2,(fitV m.V m.T r p).1) else (false,0,0)):=by
 have hpp:=X.okPt_rng hp;have hq:=Aeu hp;cases e:locT m.V m.T (X.plF p) with
 | none=>
  unfold My fitV;rw[show (⟨p.X,p.Y⟩:Ab)=X.plF p from rfl,Anf h hq,e,Ae];rfl
 | some i=>
  have e':=e;unfold locT at e';rw[List.findIdx?_eq_some_iff_getElem] at e';obtain⟨hi,hc,_⟩:=e';have ht:=List.getElem_mem hi;obtain⟨h0,h1,h2,_⟩:=h.msh.t _ ht;have hb:=Aj2 h.msh ht hc;have hB:Gj m (X.plF p)=some (bndT m.V (X.plF p) m.T[i],0):=by
   rw[Aq4 h hq,e];dsimp only;rw[At hi]
  have hF:Jf m (X.plF p)=some ((i:Int),0):=by rw[Anf h hq,e]
  have hV:fitV m.V m.T r p=if r.Reach<gapI p.Z (bndT m.V (X.plF p) m.T[i]) then ((i:Int),false,0) else
    if Nl m.V r p m.T[i].a0=true/\Nl m.V r p m.T[i].a1=true/\Nl m.V r p m.T[i].a2=true then ((i:Int),true,gapI p.Z (bndT m.V (X.plF p) m.T[i])) else ((i:Int),false,0):=by
   unfold fitV;rw[e];dsimp only;rw[At hi]
  rw[hV];unfold My;rw[show (⟨p.X,p.Y⟩:Ab)=X.plF p from rfl,hF,Ae];dsimp only;rw[if_pos rfl,hB,Ae,At hi];dsimp only;rw[Ath (a:=p.Z) oo hb,Ae]
  by_cases c:r.Reach<gapI p.Z (bndT m.V (X.plF p) m.T[i])
  ·rw[if_pos c,if_pos c];rfl
  ·rw[if_neg c,if_neg c,Ae];refine (Ac0 h.msh hp hr h0 _).trans ?_
   by_cases g0:Nl m.V r p m.T[i].a0=true
   ·rw[if_pos g0,Ae];refine (Ac0 h.msh hp hr h1 _).trans ?_
    by_cases g1:Nl m.V r p m.T[i].a1=true
    ·rw[if_pos g1,Ae];refine (Ac0 h.msh hp hr h2 _).trans ?_
     by_cases g2:Nl m.V r p m.T[i].a2=true
     ·rw[if_pos g2];simp[g0,g1,g2]
     ·rw[if_neg g2];simp[g2]
    ·rw[if_neg g1];simp[g1]
   ·rw[if_neg g0];simp[g0]
end Go.Proofs.YthlkpgdfifnagaaGreat
namespace Go.Proofs.YthlkpgdfifnagaaGreat
open Go Go.RowKit Go.Sort Go.Proofs.Tryz
structure PSel(l P:List Aa):Prop where
 nd:(P.map (·.Id)).Nodup
 src:∀ p∈P,p∈l
 ap:Jh P
section
variable {l P:List Aa} (hl:X.Fit l) (hP:PSel l P)
include hl hP
theorem PSel.fit:X.Fit P:=by
 have:=Bz (l:=P.map (·.Id)) (m:=l.map (·.Id)) hP.nd (fun i hi=>by
  obtain⟨p,hp,rfl⟩:=List.mem_map.1 hi;exact List.mem_map_of_mem (hP.src p hp))
 rw[List.length_map,List.length_map] at this;exact⟨by have:=hl.n;omega,fun p hp=>hl.ok p (hP.src p hp),hP.nd⟩
theorem PSel.pick:Un l (P.map (·.Id))=Bi Vz P:=by
 refine (Aoo (Ajc (PSel.fit hl hP)) (X.perm_of_mem (X.nodup_of_ids hP.nd) ((X.nodup_of_ids hl.id).filter _) fun p=>?_)).symm;unfold selL;rw[List.mem_filter,decide_eq_true_eq];constructor
 ·intro hp;exact⟨hP.src p hp,List.mem_map_of_mem hp⟩
 ·rintro⟨h1,h2⟩;obtain⟨q,hq,e⟩:=List.mem_map.1 h2;rw[<- X.id_inj hl.id (hP.src q hq) h1 e];exact hq
theorem PSel.gsel:GSel l (P.map (·.Id)):=by
 refine⟨⟨hP.nd,fun i hi=>?_⟩,?_⟩
 ·obtain⟨p,hp,e⟩:=List.mem_map.1 hi;exact⟨p,hP.src p hp,e⟩
 ·rw[PSel.pick hl hP];have sym:∀ {x y:Aa},¬ (x.X=y.X/\x.Y=y.Y)->¬ (y.X=x.X/\y.Y=x.Y):=fun h e=>h ⟨e.1.symm,e.2.symm⟩
  exact (List.Perm.pairwise_iff sym (Kj Vz P)).2 hP.ap
end
theorem Ati{m:Aq}{p:Aa}{r:Af}(h:(fitV m.V m.T r p).2.1=true):∃ t:Nat,t<m.T.length/\(fitV m.V m.T r p).1=(t:Int):=by
 unfold fitV at h ⊢;cases e:locT m.V m.T (X.plF p) with
 | none=>rw[e] at h;cases h
 | some i=>
  have e':=e;unfold locT at e';rw[List.findIdx?_eq_some_iff_getElem] at e';obtain⟨hi,_,_⟩:=e';refine⟨i,hi,?_⟩;dsimp only;rw[At hi];dsimp only;split
  ·rfl
  ·split <;> rfl
structure Abr(A:List Aa)(n k:Nat)(b:List (Int × Ay))(best least:List Int):Prop where
 l1:best.length=n
 l2:least.length=n
 non:∀ t (h:t<best.length),mget b (t:Int)=none->best[t] = -1
 som:∀ t (h:t<best.length) (h':t<least.length) o,mget b (t:Int)=some o->∃ (j:Nat) (hj:j<A.length),j<k/\best[t]=(j:Int)/\A[j]=o.p/\least[t]=o.far
theorem Abr.mono{A:List Aa}{n k:Nat}{b:List (Int × Ay)}{best least:List Int}(h:Abr A n k b best least):Abr A n (k+1) b best least :=
 ⟨h.l1,h.l2,h.non,fun t a c o e=>by obtain⟨j,hj,h1,h2⟩:=h.som t a c o e;exact⟨j,hj,oo,h2⟩⟩
theorem Abr.put{A:List Aa}{n k:Nat}{b:List (Int × Ay)}{best least:List Int}(h:Abr A n k b best least)(hb:Do b)(hk:k<A.length)(t:Nat)(far:Int):
  Abr A n (k+1) (mput b (t:Int) ⟨A[k],far⟩) (best.set t (k:Int)) (least.set t far):=by
 refine⟨by rw[List.length_set];exact h.l1,by rw[List.length_set];exact h.l2,fun u hu e=>?_,fun u hu hu' o e=>?_⟩
 ·rw[Nc hb] at e;rw[List.length_set] at hu
  by_cases c:(u:Int)=(t:Int)
  ·rw[if_pos c] at e;cases e
  ·rw[if_neg c] at e;rw[List.getElem_set,if_neg oo];exact h.non u hu e
 ·rw[Nc hb] at e;rw[List.length_set] at hu hu';rw[List.getElem_set,List.getElem_set]
  by_cases c:(u:Int)=(t:Int)
  ·rw[if_pos c] at e;cases e
   exact⟨k,hk,oo,by rw[if_pos oo],rfl,by rw[if_pos oo]⟩
  ·rw[if_neg c] at e;obtain⟨j,hj,h1,h2,h3,h4⟩:=h.som u hu hu' o e;exact⟨j,hj,oo,by rw[if_neg oo];exact h2,h3,by rw[if_neg oo];exact h4⟩
section
variable {l:List Aa} {r:Af} {C:List Aa} (hc:Ctx l r C) {P:List Aa} (hP:PSel l P)
include hc hP
theorem Azf:Ao8 (Pk l (P.map (·.Id)))/\Mm (Bi Vz P)=some (Pk l (P.map (·.Id)),0):=by
 have hl:=X.Fit.of hc.val;have hg:=PSel.gsel hl hP;obtain⟨e,h1,h2,h3,_⟩:=Adg hc hg;have hf:=Fit.pick (ids:=P.map (·.Id)) hl;refine⟨Ayr hf hg.apart h1 h2 h3,?_⟩;obtain⟨x,e1,e2,_⟩:=Axt hf;rw[PSel.pick hl hP] at e2;rw[e2];unfold Da at e;have:=GSel.len hg;have:=hc.few;rw[Ac9 hl oo (fun i hi=>GSel.rng hc hg hi),Ae,if_pos hg.sel] at e;dsimp only at e;rw[if_pos rfl,e1,Ae] at e;exact e
theorem Arh:∃ best least,lfix (Jz (X.candL l r) P (Pk l (P.map (·.Id)),0) r) (List.replicate (Pk l (P.map (·.Id))).T.length (-1:Int),List.replicate (Pk l (P.map (·.Id))).T.length (0:Int),0)=some best /\
  Abr (X.candL l r) (Pk l (P.map (·.Id))).T.length (X.candL l r).length (Zi (P.map (·.Id)) (gFit l r (P.map (·.Id))) (X.candL l r)) best least:=by
 have hl:=X.Fit.of hc.val;have hF:=PSel.fit hl hP;obtain⟨hcan,_⟩:=Azf hc hP;have hA:X.Fit (X.candL l r):=X.Fit.cand hc.val;have hAn:=hA.n;generalize hM:Pk l (P.map (·.Id))=M at *;have hmem:∀ i:Int,i∈Ej (P.map (·.Id))↔i∈P.map (·.Id):=fun i=>(X.perm_sortI _).mem_iff
 have hsl:(Ej (P.map (·.Id))).length<=1000000:=by
  have:=hF.n;rw[(X.perm_sortI _).length_eq,List.length_map];omega
 have:=Bk (B:=Jz (X.candL l r) P (M,0) r) (fun s=>(X.candL l r).length-s.2.2.toNat)
  (fun s=>∃ k:Nat,k<=(X.candL l r).length/\s.2.2=(k:Int)/\Abr (X.candL l r) M.T.length k (((X.candL l r).take k).foldl (Tb (P.map (·.Id)) (gFit l r (P.map (·.Id)))) []) s.1 s.2.1)
  (fun t=>∃ least,Abr (X.candL l r) M.T.length (X.candL l r).length (Zi (P.map (·.Id)) (gFit l r (P.map (·.Id))) (X.candL l r)) t least) (fun s hs=>by
  obtain⟨best,least,i⟩:=s;obtain⟨k,hk,hi,ha⟩:=hs;dsimp only at hi ha;subst hi;have hb:=(Aew (g:=P.map (·.Id)) (F:=gFit l r (P.map (·.Id))) (C:=X.candL l r) k).map;unfold Jz;dsimp only
  by_cases hk2:k<(X.candL l r).length
  ·left;have hx:=hA.ok _ (List.getElem_mem hk2);have hfits:=Aze hcan hx hc.rul;have hgf:gFit l r (P.map (·.Id)) (X.candL l r)[k]=fitV M.V M.T r (X.candL l r)[k]:=by unfold gFit;rw[hM]
   have step:((X.candL l r).take (k+1)).foldl (Tb (P.map (·.Id)) (gFit l r (P.map (·.Id)))) []=Tb (P.map (·.Id)) (gFit l r (P.map (·.Id))) (((X.candL l r).take k).foldl (Tb (P.map (·.Id)) (gFit l r (P.map (·.Id)))) []) (X.candL l r)[k]:=by
    rw[List.take_succ_eq_append_getElem hk2,List.foldl_append];rfl
   have goal:∀ s':List Int × List Int × Int,s'.2.2=((k+1:Nat):Int)->Abr (X.candL l r) M.T.length (k+1) (Tb (P.map (·.Id)) (gFit l r (P.map (·.Id))) (((X.candL l r).take k).foldl (Tb (P.map (·.Id)) (gFit l r (P.map (·.Id)))) []) (X.candL l r)[k]) s'.1 s'.2.1 ->
     (∃ k:Nat,k<=(X.candL l r).length/\s'.2.2=(k:Int)/\Abr (X.candL l r) M.T.length k (((X.candL l r).take k).foldl (Tb (P.map (·.Id)) (gFit l r (P.map (·.Id)))) []) s'.1 s'.2.1)/\(X.candL l r).length-s'.2.2.toNat<(X.candL l r).length-((k:Int)).toNat:=fun s' e h=>⟨⟨k+1,hk2,e,by rw[step];exact h⟩,oo⟩
   rw[if_pos oo,jn_d,At hk2,Ae,X.rids_eq hF.n,Ae,has_eq hsl,Ae,Bg oo];generalize ((X.candL l r).take k).foldl (Tb (P.map (·.Id)) (gFit l r (P.map (·.Id)))) []=b at *
   by_cases c1:(X.candL l r)[k].Id∈P.map (·.Id)
   ·rw[if_pos (decide_eq_true ((hmem _).2 c1))];refine⟨_,rfl,goal _ rfl ?_⟩;unfold Tb;rw[if_pos (.inl c1)];exact ha.mono
   ·rw[if_neg (by rw[decide_eq_true_eq,hmem];exact c1),Ae,hfits,Ae]
    by_cases c2:(fitV M.V M.T r (X.candL l r)[k]).2.1=true
    ·obtain⟨t,ht,et⟩:=Ati c2;have t1:t<best.length:=by rw[ha.l1];exact ht
     have t2:t<least.length:=by rw[ha.l2];exact ht
     rw[if_pos c2,et];dsimp only;rw[if_pos rfl,jn_d,At t1,Ae,At t2,Yf,Yf];have nc:¬ ((X.candL l r)[k].Id∈P.map (·.Id)\/(fitV M.V M.T r (X.candL l r)[k]).2.1=false):=by rw[c2];simpa using c1
     have hst:Tb (P.map (·.Id)) (gFit l r (P.map (·.Id))) b (X.candL l r)[k]=match mget b (t:Int) with
       | none=>mput b (t:Int) ⟨(X.candL l r)[k],(fitV M.V M.T r (X.candL l r)[k]).2.2⟩
       | some o=>if (fitV M.V M.T r (X.candL l r)[k]).2.2<o.far\/(fitV M.V M.T r (X.candL l r)[k]).2.2=o.far/\X.lowB (X.candL l r)[k] o.p=true then mput b (t:Int) ⟨(X.candL l r)[k],(fitV M.V M.T r (X.candL l r)[k]).2.2⟩ else b:=by
      unfold Tb;rw[hgf,if_neg nc,et];cases mget b (t:Int) <;> rfl
     have hput:=ha.put hb hk2 t (fitV M.V M.T r (X.candL l r)[k]).2.2;cases e:mget b (t:Int) with
     | none=>
      rw[e] at hst;dsimp only at hst;have:=ha.non t t1 e;rw[if_pos oo];dsimp only;rw[if_pos rfl,Ae,Ae];refine⟨_,rfl,goal _ rfl ?_⟩;rw[hst];exact hput
     | some o=>
      rw[e] at hst;dsimp only at hst;obtain⟨j,hj,j1,j2,j3,j4⟩:=ha.som t t1 t2 o e;rw[if_neg oo,Ae,j4]
      by_cases d1:(fitV M.V M.T r (X.candL l r)[k]).2.2<o.far
      ·rw[if_pos d1];dsimp only;rw[if_pos rfl,Ae,Ae];refine⟨_,rfl,goal _ rfl ?_⟩;rw[hst,if_pos (.inl d1)];exact hput
      ·rw[if_neg d1,Ae]
       by_cases d2:(fitV M.V M.T r (X.candL l r)[k]).2.2=o.far
       ·rw[if_pos d2,Ae,Ae,j2,At hj,Ae,X.rlower_eq,Ae,j3];dsimp only
        by_cases d3:X.lowB (X.candL l r)[k] o.p=true
        ·rw[if_pos d3,Ae,Ae];refine⟨_,rfl,goal _ rfl ?_⟩;rw[hst,if_pos (.inr ⟨d2,d3⟩)];exact hput
        ·rw[if_neg d3];refine⟨_,rfl,goal _ rfl ?_⟩;rw[hst,if_neg (fun h=>h.elim d1 (fun h=>d3 h.2))];exact ha.mono
       ·rw[if_neg d2];dsimp only;rw[if_neg (by simp)];refine⟨_,rfl,goal _ rfl ?_⟩;rw[hst,if_neg (fun h=>h.elim d1 (fun h=>d2 h.1))];exact ha.mono
    ·rw[if_neg c2];dsimp only;rw[if_neg (by simp)];refine⟨_,rfl,goal _ rfl ?_⟩;unfold Tb;rw[hgf,if_pos (.inr (by simpa using c2))];exact ha.mono
  ·right;rw[if_neg oo];have:k=(X.candL l r).length:=oo;subst this;rw[List.take_length] at ha;exact⟨_,rfl,least,ha⟩) (List.replicate M.T.length (-1:Int),List.replicate M.T.length (0:Int),0) ⟨0,oo,rfl,⟨List.length_replicate,List.length_replicate,fun t h _=>by dsimp only;rw[List.getElem_replicate],fun t h h' o e=>by cases e⟩⟩
 obtain⟨best,e,least,h⟩:=this;exact⟨best,least,e,h⟩
end
theorem Ari(n:Nat)(hn:n<=1000000000){M:Aq}(hM:M.T.length=n)(e:Int):lfix (Mf (M,e)) (List.replicate n (0:Int),0)=some (List.replicate n (-1:Int)):=by
 have:=Bk (B:=Mf (M,e)) (fun s=>n-s.2.toNat) (fun s=>∃ k:Nat,k<=n/\s.2=(k:Int)/\s.1.length=n/\∀ j (h:j<s.1.length),j<k->s.1[j] = -1) (fun t=>t=List.replicate n (-1:Int)) (fun s hs=>by
  obtain⟨s,i⟩:=s;obtain⟨k,hk,hi,hl,ha⟩:=hs;dsimp only at hi hl ha;subst hi;unfold Mf;dsimp only;rw[hM]
  by_cases hk2:k<n
  ·left;have hk3:k<s.length:=oo;rw[if_pos oo,At hk3,Ae,Bg oo,Yf];refine⟨_,rfl,⟨k+1,hk2,rfl,by dsimp only;rw[List.length_set];exact hl,fun j h hj=>?_⟩,by dsimp only;omega⟩;dsimp only at h ⊢;rw[List.length_set] at h;rw[List.getElem_set]
   by_cases c:k=j
   ·rw[if_pos c]
   ·rw[if_neg c];exact ha j h oo
  ·right;rw[if_neg oo];exact⟨_,rfl,List.ext_getElem (by rw[List.length_replicate];exact hl) fun j h _=>by rw[ha j h oo,List.getElem_replicate]⟩) (List.replicate n (0:Int),0) ⟨0,oo,rfl,List.length_replicate,fun j h hj=>absurd hj oo⟩
 obtain⟨t,h,rfl⟩:=this;exact h
noncomputable def Vc(b:List (Int × Ay))(n:Nat):List Aa:=(List.range n).filterMap fun (t:Nat)=>(mget b (t:Int)).map fun (o:Ay)=>o.p
theorem Ava(b:List (Int × Ay))(n:Nat):(Vc b n).length<=n:=by
 unfold Vc;have:=List.length_filterMap_le (fun (t:Nat)=>(mget b (t:Int)).map fun (o:Ay)=>o.p) (List.range n);rw[List.length_range] at this;exact this
theorem Arj{P A:List Aa}{M:Aq}(e:Int){b:List (Int × Ay)}{best least:List Int}(h:Abr A M.T.length A.length b best least)(hn:M.T.length<=1000000000)(hP:P.length<=1000000):
  lfix (Ka (M,e) best A) (([]:List Aa)++P,0)=some (P++Vc b M.T.length):=by
 have:=Bk (B:=Ka (M,e) best A) (fun s=>M.T.length-s.2.toNat) (fun s=>∃ k:Nat,k<=M.T.length/\s=(P++Vc b k,(k:Int))) (fun t=>t=P++Vc b M.T.length) (fun s hs=>by
  obtain⟨k,hk,rfl⟩:=hs;have hl:=Ava b k;unfold Ka;dsimp only
  by_cases hk2:k<M.T.length
  ·left;have t1:k<best.length:=by rw[h.l1];exact hk2
   have t2:k<least.length:=by rw[h.l2];exact hk2
   have ts:Vc b (k+1)=Vc b k++((mget b (k:Int)).map fun (o:Ay)=>o.p).toList:=by
    unfold Vc;rw[List.range_succ,List.filterMap_append];cases e0:mget b (k:Int) <;> simp[List.filterMap_cons,e0]
   rw[if_pos oo,jn_d,At t1,Ae,Bg oo];cases e:mget b (k:Int) with
   | none=>
    have:=h.non k t1 e;rw[if_neg oo];refine⟨_,rfl,⟨k+1,hk2,?_⟩,by dsimp only;omega⟩;rw[ts,e];simp
   | some o=>
    obtain⟨j,hj,j1,j2,j3,j4⟩:=h.som k t1 t2 o e;rw[j2,if_pos oo,Ae,At hj,Ae,gd_t (by rw[List.length_append];omega),j3];refine⟨_,rfl,⟨k+1,hk2,?_⟩,by dsimp only;omega⟩;rw[ts,e,List.append_assoc];rfl
  ·right;rw[if_neg oo];have:k=M.T.length:=oo;subst this;exact⟨_,rfl,rfl⟩) (([]:List Aa)++P,0) ⟨0,oo,by simp[Vc]⟩
 obtain⟨t,e',rfl⟩:=this;exact e'
section
variable {l:List Aa} {r:Af} {C:List Aa} (hc:Ctx l r C) {P:List Aa} (hP:PSel l P)
include hc hP
theorem Azg:∃ D,Mz l P r=some (P++D,0)/\(D.map (·.Id)).Perm (adds (P.map (·.Id)) (gFit l r (P.map (·.Id))) (X.candL l r))/\∀ p∈D,p∈X.candL l r:=by
 have hl:=X.Fit.of hc.val;have hF:=PSel.fit hl hP;have hFn:=hF.n;obtain⟨hcan,hmesh⟩:=Azf hc hP;obtain⟨best,least,e1,e2⟩:=Arh hc hP;have hA:X.Fit (X.candL l r):=X.Fit.cand hc.val;have hb:=Aan (P.map (·.Id)) (gFit l r (P.map (·.Id))) (X.candL l r);obtain⟨_,_,_,hT,_⟩:=Adg hc (PSel.gsel hl hP);have hvl:(vxL (Un l (P.map (·.Id)))).length<=1024:=by unfold vxL;rw[List.length_map];exact (Fit.pick hl).n
 have hTl:=Alx hvl hT;have hkey:∀ q∈Zi (P.map (·.Id)) (gFit l r (P.map (·.Id))) (X.candL l r),∃ t:Nat,t<(Pk l (P.map (·.Id))).T.length/\q.1=(t:Int):=fun q hq=>by
  obtain⟨_,_,h3⟩:=hb.src q hq;have:(fitV (Pk l (P.map (·.Id))).V (Pk l (P.map (·.Id))).T r q.2.p).2.1=true:=by
   show (gFit l r (P.map (·.Id)) q.2.p).2.1=true;rw[h3]
  obtain⟨t,ht,et⟩:=Ati this;refine⟨t,ht,?_⟩;rw[<- et];show q.1=(gFit l r (P.map (·.Id)) q.2.p).1;rw[h3]
 generalize hn:(Pk l (P.map (·.Id))).T.length=n at *;have hmemD:∀ p,p∈Vc (Zi (P.map (·.Id)) (gFit l r (P.map (·.Id))) (X.candL l r)) n↔p∈(Zi (P.map (·.Id)) (gFit l r (P.map (·.Id))) (X.candL l r)).map (·.2.p):=fun p=>by
  unfold Vc;rw[List.mem_filterMap,List.mem_map];constructor
  ·rintro⟨t,ht,e⟩;obtain⟨o,ho,rfl⟩:=Option.map_eq_some_iff.1 e;exact⟨_,Gu ho,rfl⟩
  ·rintro⟨q,hq,rfl⟩;obtain⟨t,ht,et⟩:=hkey q hq;refine⟨t,List.mem_range.2 ht,?_⟩;rw[<- et,St hb.map hq];rfl
 have nd1:((Zi (P.map (·.Id)) (gFit l r (P.map (·.Id))) (X.candL l r)).map (·.2.p)).Nodup:=by
  unfold List.Nodup;rw[List.pairwise_map];refine List.Pairwise.imp_of_mem ?_ hb.map;intro q q' hq hq' hne e;have a1:=(hb.src q hq).2.2;have a2:=(hb.src q' hq').2.2;rw[e,a2] at a1;exact hne (Prod.mk.inj a1).1.symm
 have nd2:(Vc (Zi (P.map (·.Id)) (gFit l r (P.map (·.Id))) (X.candL l r)) n).Nodup:=by
  unfold Vc List.Nodup;rw[List.pairwise_filterMap];refine List.Pairwise.imp ?_ (List.nodup_range (n:=n));intro t t' hne p hp p' hp' e;obtain⟨o,ho,rfl⟩:=Option.map_eq_some_iff.1 hp;obtain⟨o',ho',rfl⟩:=Option.map_eq_some_iff.1 hp';have a1:=(hb.src _ (Gu ho)).2.2;have a2:=(hb.src _ (Gu ho')).2.2;dsimp only at a1 a2;rw[e,a2] at a1;have:=(Prod.mk.inj a1).1;omega
 refine⟨Vc (Zi (P.map (·.Id)) (gFit l r (P.map (·.Id))) (X.candL l r)) n,?_,?_,fun p hp=>?_⟩
 ·unfold Mz;rw[Ajd hF,Ae,hmesh,Ae];dsimp only;rw[if_pos rfl,X.rcand_eq hc.val hc.rul,Ae,hn,gd_t oo,gd_t oo,jn_d,show Int.toNat ((n:Nat):Int)=n from rfl,Ari n oo hn,Ae];dsimp only;rw[jn_d,e1,Ae];dsimp only;rw[gd_t (by simp only[List.length_nil];omega),jn_d];have:=Arj (P:=P) (e:=0) (M:=Pk l (P.map (·.Id))) (by rw[hn];exact e2) oo oo;rw[hn] at this;rw[this,Ae]
 ·unfold adds;have:=(X.perm_of_mem nd2 nd1 hmemD).map (·.Id);rw[List.map_map] at this;exact this
 ·obtain⟨q,hq,rfl⟩:=List.mem_map.1 ((hmemD p).1 hp);exact (hb.src q hq).1
end
end Go.Proofs.YthlkpgdfifnagaaGreat
namespace Go.Proofs.YthlkpgdfifnagaaGreat.X
open Go Go.RowKit Go.Proofs.Tryz
end Go.Proofs.YthlkpgdfifnagaaGreat.X
namespace Go.Proofs.YthlkpgdfifnagaaGreat
open Go Go.RowKit Go.Sort Go.Proofs.Tryz
def Azh(l:List Aa)(r:Af)(n:Nat):Prop:=l.length<=n/\X.validL l=true/\X.okRules r=true
instance(l:List Aa)(r:Af)(n:Nat):Decidable (Azh l r n):=by unfold Azh;infer_instance
theorem Avb{l:List Aa}{r:Af}(hl:X.validL l=true)(hr:X.okRules r=true){g:List Int}(h:Me l r=some g):Nt l r=some (g,0):=by
 unfold Nt;rw[X.checked_eq,if_pos hr,if_pos hl,Ae,if_pos rfl,h,Ae]
section
variable {l:List Aa} {r:Af} {C:List Aa} (hc:Ctx l r C) {g:List Int} (hg:Grnd l r C g)
include hc
include hg
end
section
variable {l:List Aa} {r:Af} {C:List Aa} (hc:Ctx l r C)
include hc
end
section
variable {m:Aq} (h:Msh m) {p:Aa} (hp:X.okPt p=true)
include h hp
end
section
variable {l:List Aa} {r:Af} (hl:X.validL l=true) (hr:X.okRules r=true) {m:Aq} (h:Msh m) {g:List Int} (hg:g.length<=1000000)
include hl hr h hg
end
section
variable {L:List Aa} {r:Af} (hL:X.Fit L) (hr:X.okRules r=true)
include hL hr
end
section
variable {l:List Aa} {r:Af} {C:List Aa} (hc:Ctx l r C) {g:List Int} (hg:GOk C g)
include hc
include hg
end
section
variable {l:List Aa} {r:Af} {C:List Aa} (hc:Ctx l r C) {g:List Int} (hg:Grnd l r C g) {R:List Int}
include hc hg
end
theorem Apr{g:List Int}{F:FitF}{C:List Aa}(hC:(C.map (·.Id)).Nodup)(i:Int):i∈adds g F C↔∃ p∈C,p.Id=i/\p.Id ∉ g/\(F p).2.1=true/\∀ q∈C,q.Id ∉ g->(F q).2.1=true->(F q).1=(F p).1->¬ btr (F q).2.2 q ⟨p,(F p).2.2⟩:=by
 have hb:=Aan g F C;constructor
 ·intro h;obtain⟨o,ho,rfl⟩:=List.mem_map.1 h;obtain⟨h1,h2,h3⟩:=hb.src o ho;refine⟨o.2.p,h1,rfl,h2,by rw[h3],fun q hq hqg hqf he=>?_⟩;obtain⟨o',ho',hn⟩:=hb.all q hq hqg hqf;rw[he,h3] at ho';have:=St hb.map ho;dsimp only at ho';rw[this] at ho';cases ho'
  rw[h3];exact hn
 ·rintro⟨p,hp,rfl,hpg,hpf,hmin⟩;obtain⟨o,ho,hn⟩:=hb.all p hp hpg hpf;have hom:=Gu ho;obtain⟨h1,h2,h3⟩:=hb.src _ hom;dsimp only at h1 h2 h3;have h4:=hmin o.p h1 h2 (by rw[h3]) (by rw[h3]);rw[h3] at h4;dsimp only at h4;have e:o.p.Id=p.Id:=by
   unfold btr at h4 hn;dsimp only at h4;have e1:o.far=(F p).2.2:=by
    by_cases c:o.far<(F p).2.2
    ·exact absurd (.inl c) h4
    ·by_cases c2:(F p).2.2<o.far
     ·exact absurd (.inl c2) hn
     ·omega
   refine X.lowB_total (Bool.eq_false_iff.2 fun c=>h4 (.inr ⟨e1,c⟩)) (Bool.eq_false_iff.2 fun c=>hn (.inr ⟨e1.symm,c⟩))
  rw[<- e];exact List.mem_map.2 ⟨_,hom,rfl⟩
def Yt(gr:List Int->List Int):Nat->List Int->List Int
 | 0,g=>g
 | n+1,g=>if (gr g).length=g.length then g else Yt gr n (gr g)
theorem Ak2{l:List Aa}{r:Af}{C:List Aa}(hc:Ctx l r C)(hC:Eo l r=some C):Me l r=some (Yt (fun g=>Nm g (gFit l r g) C) C.length (X.seedL l r)):=by
 have:=Bk (B:=Rh l C r) (fun g=>C.length-g.length) (fun g=>GOk C g/\∃ k,C.length<=k+g.length/\Yt (fun g=>Nm g (gFit l r g) C) k g=Yt (fun g=>Nm g (gFit l r g) C) C.length (X.seedL l r)) (fun g=>g=Yt (fun g=>Nm g (gFit l r g) C) C.length (X.seedL l r)) (fun g hs=>by
  obtain⟨h1,k,h2,h3⟩:=hs;have h4:=And hc h1;have l1:=GOk.len h4;have l2:=Al0 (g:=g) (F:=gFit l r g) (C:=C);unfold Rh;rw[Ba6 hc h1,Ae,jn_d];dsimp only;rw[if_pos rfl]
  by_cases e:(Nm g (gFit l r g) C).length=g.length
  ·right;rw[if_pos (decide_eq_true oo)];refine⟨g,rfl,?_⟩;rw[<- h3];cases k with
   | zero=>rfl
   | succ k=>unfold Yt;rw[if_pos e]
  ·left;rw[if_neg (by rw[decide_eq_true_eq];omega)];cases k with
   | zero=>omega
   | succ k=>
    refine⟨_,rfl,⟨h4,k,oo,?_⟩,oo⟩;rw[<- h3]
    conv=>rhs;unfold Yt
    rw[if_neg e]) (X.seedL l r) ⟨Ane hc,C.length,oo,rfl⟩
 obtain⟨g,e,rfl⟩:=this;unfold Me;rw[hC,Ae,Ba7 hc,Ae,e,Ae]
section
variable (n:Int)
end
section
variable (n:Int) {L:List Aa} {T:List Aj} (hT:∀ t∈T,inN (vxL L).length t.a0/\inN (vxL L).length t.a1/\inN (vxL L).length t.a2/\0 < Oy (vxL L) t)
include hT
end
noncomputable instance apDec(L:List Aa):Decidable (Jh L):=Classical.propDecidable _
theorem Aps{g g':List Int}{F:FitF}{C C':List Aa}(hC:(C.map (·.Id)).Nodup)(hg:g'.Perm g)(hp:C'.Perm C):Nm g' F C'=Nm g F C:=by
 have hC':(C'.map (·.Id)).Nodup:=(hp.map _).nodup_iff.2 hC;unfold Nm;refine X.sortI_perm (List.Perm.append hg ((List.perm_ext_iff_of_nodup (Aex hC') (Aex hC)).2 fun i=>?_));rw[Apr hC',Apr hC];simp only[hg.mem_iff,hp.mem_iff]
theorem Azi{l:List Aa}{g:List Int}(hl:X.Fit l)(h:Abm l g):((Un l g).map (·.Id)).Perm g:=by
 refine (List.perm_ext_iff_of_nodup (Fit.pick hl).id h.1).2 fun i=>?_
 constructor
 ·intro hi;obtain⟨p,hp,rfl⟩:=List.mem_map.1 hi;have h1:p∈selL l g:=Oa.1 hp;unfold selL at h1;rw[List.mem_filter,decide_eq_true_eq] at h1;exact h1.2
 ·intro hi;obtain⟨p,hp,rfl⟩:=h.2 i hi;refine List.mem_map_of_mem (Oa.2 ?_);unfold selL;rw[List.mem_filter,decide_eq_true_eq];exact⟨hp,hi⟩
theorem Avc{l:List Aa}{g:List Int}(hl:X.Fit l)(h:GSel l g):PSel l (Un l g):=⟨(Fit.pick hl).id,fun p hp=>by
 have h1:p∈selL l g:=Oa.1 hp;unfold selL at h1;exact (List.mem_filter.1 h1).1,h.apart⟩
theorem Avd{l:List Aa}{g g':List Int}(h:g'.Perm g):Un l g'=Un l g:=by
 unfold Un selL;simp only[h.mem_iff]
section
variable {l:List Aa} {r:Af} {C:List Aa} (hc:Ctx l r C) {g:List Int}
include hc
theorem Azj{g':List Int}(hg:GSel l g)(hg':GSel l g')(h:g'.Perm g):gFit l r g'=gFit l r g:=by
 have hl:=X.Fit.of hc.val;have h1:=GSel.len hg;have h2:=GSel.len hg';have:=hc.few;have:Da l g'=Da l g:=by
  unfold Da;rw[Ac9 hl oo (fun i hi=>GSel.rng hc hg hi),Ac9 hl oo (fun i hi=>GSel.rng hc hg' hi),if_pos hg.sel,if_pos hg'.sel,Avd h]
 unfold gFit Pk;rw[this]
theorem Bbu{P:List Aa}(hP:PSel l P)(hg:GSel l g)(h:(P.map (·.Id)).Perm g):∃ D,Mz l P r=some (P++D,0)/\Ej ((P++D).map (·.Id))=Nm g (gFit l r g) C/\(P++D).length=(Nm g (gFit l r g) C).length/\∀ p∈D,p∈X.candL l r:=by
 obtain⟨D,h1,h2,h3⟩:=Azg hc hP;have hA:X.Fit (X.candL l r):=X.Fit.cand hc.val;have e:Ej ((P++D).map (·.Id))=Nm g (gFit l r g) C:=by
  rw[<- Azj hc hg (PSel.gsel (X.Fit.of hc.val) hP) h,<- Aps hc.fit.id h hc.perm.symm];unfold Nm;rw[List.map_append];exact X.sortI_perm (h2.append_left _)
 refine⟨D,h1,e,?_,h3⟩;rw[<- e,(X.perm_sortI _).length_eq,List.length_map]
end
end Go.Proofs.YthlkpgdfifnagaaGreat
namespace Go.Proofs.YthlkpgdfifnagaaGreat
open Go Go.RowKit Go.Proofs.Tryz
noncomputable def Nv(p0:List Aa)(p1:Af):(List Aa)->Option (Sum (List Aa) (List Int × Int)):=fun s0=>
 bnd (Mz p0 s0 p1) fun r0=>
 if (r0.1.length:Int)=(s0.length:Int) then (bnd (Ft s0) fun r1=>
 some (.inr (r1,0)))
 else (some (.inl r0.1))
noncomputable def Fk(p0:List Aa)(p1:Af):Option (List Int × Int):=
 bnd (Ox p0 p1) fun r2=>
 if r2.2=0 then (bnd (Qe p0 r2.1) fun r0=>
 bnd (lfix (Nv p0 p1) r0.1) fun t0=>
 some t0)
 else (some (([]:List Int),r2.2))
noncomputable def Gf(p0:List Aa)(p1:Af):Option Bool :=
 bnd (Qf p0 16) fun r2=>
 if r2=true then (bnd Kr fun r7=>
 some r7)
 else (bnd (Nt p0 p1) fun r0=>
 bnd (Fk p0 p1) fun r1=>
 jn (fun (s7:Bool)=>
 some s7)
 (fun j7=>bnd (Ju r0.1 r1.1) fun r3=>
 if r3=true then (if r0.2=r1.2 then (bnd Kr fun r4=>
 j7 r4)
 else (j7 false))
 else (j7 false)))
instance lidarref07_Ground_c(p0:List Aa)(p1:Af):Con (Fk p0 p1) prog 20 (fun K vs=>∃ U0 E0,vs=[.slice U0 p0.length E0,.agg #[.int .i64 p1.Cell,.int .i64 p1.Reach,.int .i64 p1.Slope,.int .i64 p1.Link,.int .i64 p1.Flat,.int .i64 p1.Tall,.int .i64 p1.High,.int .i64 p1.Low,.int .i64 p1.Brush,.int .i64 p1.Few]]/\Has K U0 p0.length E0 9 Ai p0/\True) (fun _ r=>fun v Ln=>∃ A0 c0,v = .tuple #[.slice A0 r.1.length c0,.int .i64 r.2]/\Ln=[.r A0 r.1.length c0 3 1 (r.1.flatMap Ag)]/\True):=⟨by
 rintro K _ r ⟨U0,E0,rfl,ha0,-⟩ hx w hK;replace ha0:=Has.lo ha0 hK;unfold Fk at hx;refine CtS ntmps20 results20 ?_;try (refine pre ?_;intros;rename_i hx)
 refine Cq2 (s:=19) hx rfl (fun _ hx=>?_) (fun _ hx=>?_)
 ·exact au
 ·try (refine pre ?_;intros;rename_i hx)
  apply Lr (γ:=Option Addr × Nat) hx [0,3] (fun s35 y35 f=>(8,.slice y35.1 s35.length y35.2)::f) [2,999] (fun s35 y35 l=>.r y35.1 s35.length y35.2 30 9 (s35.flatMap Ai)::l) (_,_);exact kk;exact sk;intro s35 y35 x35 hx _;unfold Nv at hx;exact au⟩
instance Yw(p0:List Aa)(p1:Af):Con (Gf p0 p1) prog 5 (fun K vs=>∃ U0 E0,vs=[.slice U0 p0.length E0,.agg #[.int .i64 p1.Cell,.int .i64 p1.Reach,.int .i64 p1.Slope,.int .i64 p1.Link,.int .i64 p1.Flat,.int .i64 p1.Tall,.int .i64 p1.High,.int .i64 p1.Low,.int .i64 p1.Brush,.int .i64 p1.Few]]/\Has K U0 p0.length E0 9 Ai p0/\True) (fun _ r=>fun v Ln=>v = .bool r/\Ln=[]/\True):=⟨by
 rintro K _ r ⟨U0,E0,rfl,ha0,-⟩ hx w hK;replace ha0:=Has.lo ha0 hK;unfold Gf at hx;refine CtS ntmps5 results5 ?_;exact au⟩
theorem Yu(p0:List Aa)(p1:Af){K:List Ent}{U0:Option Addr}{E0:Nat}(ha0:Has K U0 p0.length E0 9 Ai p0){r:Bool}(hx:Gf p0 p1=some r)(w:World)(hK:∀ e∈K,Ent.ok w e):CtL prog 5 [.slice U0 p0.length E0,.agg #[.int .i64 p1.Cell,.int .i64 p1.Reach,.int .i64 p1.Slope,.int .i64 p1.Link,.int .i64 p1.Flat,.int .i64 p1.Tall,.int .i64 p1.High,.int .i64 p1.Low,.int .i64 p1.Brush,.int .i64 p1.Few]] w fun v Ln=>v = .bool r/\Ln=[]/\True:=(Yw p0 p1).h K _ _ ⟨_,_,rfl,ha0,trivial⟩ hx w hK
end Go.Proofs.YthlkpgdfifnagaaGreat
namespace Go.Proofs.YthlkpgdfifnagaaGreat
open Go Go.RowKit Go.Sort Go.Proofs.Tryz
section
variable {l:List Aa} {r:Af} {C:List Aa} (hc:Ctx l r C)
include hc
theorem Bbv{P:List Aa}{g:List Int}(hs:∀ p∈P,p∈l)(hp:(P.map (·.Id)).Perm g)(hg:GOk C g):PSel l P:=by
 have nd:(P.map (·.Id)).Nodup:=hp.nodup_iff.2 hg.nd;have hC:∀ p∈P,p∈C:=fun p h=>by
  obtain⟨c,h1,h2⟩:=hg.src p.Id (hp.mem_iff.1 (List.mem_map_of_mem h));rw[X.id_inj (X.Fit.of hc.val).id (hs p h) (hc.dry h1).1 h2.symm];exact h1
 refine⟨nd,hs,?_⟩;have hf:=nd;rw[List.Nodup,List.pairwise_map] at hf;unfold Jh;refine List.Pairwise.imp_of_mem ?_ hf;intro a b ha hb hne e;exact hne (congrArg (·.Id) (hc.apart (hC a ha) (hC b hb) e.1 e.2))
theorem Ark:Fk l r=some (Yt (fun g=>Nm g (gFit l r g) C) C.length (X.seedL l r),0):=by
 have hl:=X.Fit.of hc.val;have hs:=Ane hc;have hn:=hc.len;have hsl:=GOk.len hs;unfold Fk;rw[X.rSeeds_eq,if_pos hc.rul,if_pos hc.val,Ae];dsimp only;rw[if_pos rfl,Bav hl oo,if_pos (GOk.sel hc hs),Ae];dsimp only;have:=Bk (B:=Nv l r) (fun P=>C.length-P.length) (fun P=>(∀ p∈P,p∈l)/\∃ g,(P.map (·.Id)).Perm g/\GOk C g/\g.Pairwise (·<=·)/\∃ k,C.length<=k+g.length/\Yt (fun g=>Nm g (gFit l r g) C) k g=Yt (fun g=>Nm g (gFit l r g) C) C.length (X.seedL l r)) (fun t=>t=(Yt (fun g=>Nm g (gFit l r g) C) C.length (X.seedL l r),0)) (fun P hP=>by
  obtain⟨h1,g,h2,h3,h4,k,h5,h6⟩:=hP;have hgs:=GOk.gsel hc h3;have h7:=Bbv hc h1 h2 h3;obtain⟨D,e1,e2,e3,e4⟩:=Bbu hc h7 hgs h2;have l0:=h2.length_eq;rw[List.length_map] at l0;have h8:=And hc h3;have l1:=GOk.len h8;have l2:=Al0 (g:=g) (F:=gFit l r g) (C:=C);have l3:=GOk.len h3;unfold Nv;rw[e1,Ae];dsimp only
  by_cases e:(Nm g (gFit l r g) C).length=g.length
  ·right;rw[if_pos oo,X.rids_eq oo,Ae];refine⟨_,rfl,?_⟩;rw[<- h6,<- X.sort_unique h4 h2.symm];cases k with
   | zero=>rfl
   | succ k=>unfold Yt;rw[if_pos e]
  ·left;rw[if_neg oo];cases k with
   | zero=>omega
   | succ k=>
    refine⟨_,rfl,⟨fun p hp=>?_,Nm g (gFit l r g) C,?_,h8,Anh,k,oo,?_⟩,oo⟩
    ·rcases List.mem_append.1 hp with hp | hp
     ·exact h1 p hp
     ·exact (hc.dry (hc.perm.mem_iff.2 (e4 p hp))).1
    ·rw[<- e2];exact (X.perm_sortI _).symm
    ·rw[<- h6]
     conv=>rhs;unfold Yt
     rw[if_neg e]) (Un l (X.seedL l r)) ⟨fun p hp=>(Avc hl (GOk.gsel hc hs)).src p hp,X.seedL l r,Azi hl (GOk.sel hc hs),hs,X.sorted_sortI _,C.length,oo,rfl⟩
 obtain⟨t,e,rfl⟩:=this;rw[e,Ae]
theorem Al9:∀ (n:Nat) (g:List Int),GOk C g->GOk C (Yt (fun g=>Nm g (gFit l r g) C) n g)
 | 0,_,h=>h
 | n+1,g,h=>by
  unfold Yt;split
  ·exact h
  ·exact Al9 n _ (And hc h)
end
theorem An0{l:List Aa}{r:Af}(hl:l.length<=300):∃ x:List Int × Int,Nt l r=some x/\Fk l r=some x/\x.1.length<=300:=by
 by_cases c1:X.okRules r=true
 ·by_cases c2:X.validL l=true
  ·obtain⟨C,hC,hc⟩:=Bed c2 c1 hl;refine⟨_,Avb c2 c1 (Ak2 hc hC),Ark hc,?_⟩;have:=GOk.len (Al9 hc C.length _ (Ane hc));have:=hc.len;dsimp only;omega
  ·refine⟨([],70),?_,?_,by simp⟩
   ·unfold Nt;rw[X.checked_eq,if_pos c1,if_neg c2];rfl
   ·unfold Fk;rw[X.rSeeds_eq,if_pos c1,if_neg c2];rfl
 ·refine⟨([],71),?_,?_,by simp⟩
  ·unfold Nt;rw[X.checked_eq,if_neg c1];rfl
  ·unfold Fk;rw[X.rSeeds_eq,if_neg c1];rfl
theorem Ah6(l:List Aa)(r:Af):Gf l r=some true:=by
 unfold Gf;rw[X.many_eq,Ae]
 by_cases c:(300<l.length\/(16:Int)<(l.length:Int)/\X.validL l=true)
 ·rw[if_pos (by simpa using c),X.first_eq,Ae]
 ·rw[if_neg (by simpa using c)];obtain⟨x,e1,e2,h1⟩:=An0 (l:=l) (r:=r) oo;rw[e1,Ae,e2,Ae,jn_d,X.sameInts_self oo,Ae,if_pos rfl,if_pos rfl,X.first_eq,Ae]
end Go.Proofs.YthlkpgdfifnagaaGreat
namespace Go.Proofs.YthlkpgdfifnagaaGreat
open Go.ChangeShapes Go.WideShapes Go.ChangeAt Go.RowKit Go.Proofs.Tryz
theorem own2:ownKnob prog.godebug=none:=kr
theorem Apt:laidOutB prog=true:=kr
def rI64(z:Int):Prop:=-9223372036854775808<=z/\z<=9223372036854775807
theorem Arl{cs:List Value}{o:Nat}(h:cs.length=o):cs.drop o=[]:=by rw[<- h,List.drop_length]
theorem Je{cs X R:List Value}{o k o':Nat}(h1:(cs.drop o).take k=X)(h2:cs.drop o'=R)(ho:o'=o+k):cs.drop o=X++R:=by
 subst ho;rw[<- h1,<- h2,<- List.drop_drop,List.take_append_drop]
section
variable {H:Type} {enc:TypeId × Value->H} {w:World} {base:Nat} {spare:Nat->Bool} {held:Bool} {P:Program}
theorem Beq{t:TypeId}(ht:P.underlying t=some (.int .i64)){fuel:Nat}{cs:List Value}{x:DataW H × List MemPlace}(h:DataW.trod enc P w base spare held fuel t cs=some x):∃ z:Int,cs=[.int .i64 z]/\rI64 z:=by
 obtain⟨n,hc,_,hw⟩:=DataW.trod_int ht h;refine⟨n,hc,?_⟩;have h1:IntKind.i64.min = -9223372036854775808:=rfl;have h2:IntKind.i64.max=9223372036854775807:=rfl;simp only[Lit.wf,Bool.and_eq_true,decide_eq_true_eq] at hw;unfold rI64;omega
theorem Azk{α:Type}{en:α->List Value}{okα:α->Prop}{t e:TypeId}{sz:Nat}(ht:P.underlying t=some (.slice e))(hsz:P.cellsOf e=sz)(hp:0<sz)(hel:∀ {fuel:Nat} {cs:List Value} {x:DataW H × List MemPlace},DataW.trod enc P w base spare held fuel e cs=some x->∃ v,cs=en v/\okα v){fuel:Nat}{cs:List Value}{x:DataW H × List MemPlace}(h:DataW.trod enc P w base spare held fuel t cs=some x):
  ∃ (v:List α) (A:Option Addr) (c:Nat),cs=[.slice A v.length c]/\Has [.old w] A v.length c sz en v/\∀ z∈v,okα z:=by
 rcases Go.Deep.open_slice ht h with⟨rfl,_⟩|⟨a,len,cap,m,n,D,Pl,rfl,hb,hl,hm,hmm,_,hx⟩
 ·exact⟨[],none,0,rfl,Has.nil,fun z hz=>by simp at hz⟩
 ·have hle:len<=m:=by rw[hmm];split <;> omega
  have key:∀ k,k<=len->∃ v:List α,v.length=k/\(∀ z∈v,okα z)/\∀ i (hi:i<v.length),w.cells? base (a.add (i*sz)) sz=some (en v[i]):=by
   intro k
   induction k with
   | zero=>intro _;exact⟨[],rfl,fun z hz=>by simp at hz,fun i hi=>by simp at hi⟩
   | succ k ih=>
    intro hk;obtain⟨v,h1,h2,h3⟩:=ih oo;obtain⟨cs',h4,h5⟩:=hx k oo;obtain⟨z,rfl,hz⟩:=hel h5;rw[hsz] at h4;refine⟨v++[z],by simp[h1],fun y hy=>?_,fun i hi=>?_⟩
    ·rcases List.mem_append.1 hy with hy | hy
     ·exact h2 y hy
     ·simp at hy;subst hy;exact hz
    ·simp at hi;rcases Nat.lt_or_ge i v.length with hlt | hge
     ·rw[List.getElem_append_left hlt];exact h3 i hlt
     ·have:i=k:=oo;subst this;rw[List.getElem_append_right hge];simp[h1];exact h4
  obtain⟨v,h1,h2,h3⟩:=key len (Nat.le_refl _);subst h1;have hesz:∀ z∈v,(en z).length=sz:=by
   intro z hz;obtain⟨i,hi,rfl⟩:=List.getElem_of_mem hz;exact (World.cells?_some (h3 i hi)).2.1
  have hsl:Sl w (some a) v.length cap sz en v:=by
   refine⟨rfl,hl,hm,hesz,fun hn=>?_⟩;have hsp:a.spot=none:=by
    have h4:=(World.cells?_some (h3 0 hn)).2.2 0 hp;have h5:(en v[0])[0]? = some ((en v[0])[0]'(by rw[hesz _ (List.getElem_mem hn)];exact hp)):=List.getElem?_eq_getElem _;rw[h5] at h4;simp only[Nat.zero_mul,Addr.add,if_true] at h4;unfold World.cell? at h4;split at h4
    ·split at h4
     ·cases h4
     ·rename_i hs;simpa using hs
    ·cases h4
   obtain⟨b,o,sp⟩:=a;have hsp:sp=none:=hsp;subst hsp;refine⟨b,o,rfl,fun i hi j u hu=>?_⟩;have hj:j<sz:=by rw[<- hesz _ (List.getElem_mem hi)];exact (List.getElem?_eq_some_iff.1 hu).1
   have h4:=(World.cells?_some (h3 i hi)).2.2 j hj;rw[hu,Addr.add_lit,Addr.add_lit] at h4;exact h4
  exact⟨v,some a,cap,rfl,hsl.has,h2⟩
end
theorem Bfn(w:World):∀ e∈[Ent.old w],Ent.ok w e:=fun e he=>by simp at he;subst he;exact⟨Below.refl _ _,Nat.le_refl _⟩
end Go.Proofs.YthlkpgdfifnagaaGreat
