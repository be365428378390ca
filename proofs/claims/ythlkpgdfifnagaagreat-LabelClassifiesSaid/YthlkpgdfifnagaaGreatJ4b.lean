import Derived.Test.YthlkpgdfifnagaaGreatQ1
set_option maxRecDepth 100000
set_option maxHeartbeats 1000000
namespace Go.Proofs.YthlkpgdfifnagaaGreat
open Go Go.RowKit Tryz
noncomputable section
def Bj(p0:Int)(p1:Int)(p2:Int):Option Bool :=
 jn (fun (s2:Bool)=>
 some s2)
 (fun j2=>if p1<=p0 then (j2 (decide (p0<=p2)))
 else (j2 false))
def Ks(p0:Ab):Option Bool :=
 jn (fun (s2:Bool)=>
 some s2)
 (fun j2=>if (-268435456)<=p0.X then (if p0.X<=268435456 then (if (-268435456)<=p0.Y then (j2 (decide (p0.Y<=268435456)))
 else (j2 false))
 else (j2 false))
 else (j2 false))
def Rr(p0:Aa):Option Bool :=
 jn (fun (s2:Bool)=>
 some s2)
 (fun j2=>bnd (Bj p0.Id 0 1152921504606846976) fun r2=>
 if r2=true then (bnd (Ks (⟨p0.X,p0.Y⟩:Ab)) fun r7=>
 if r7=true then (if p0.Z.Lo<=p0.Z.Hi then (if (-268435456)<=p0.Z.Lo then (if p0.Z.Hi<=268435456 then (bnd (Bj p0.Wide 0 268435456) fun r0=>
 if r0=true then (bnd (Bj p0.Num 1 p0.Of) fun r1=>
 if r1=true then (j2 (decide (p0.Of<=15)))
 else (j2 false))
 else (j2 false))
 else (j2 false))
 else (j2 false))
 else (j2 false))
 else (j2 false))
 else (j2 false))
def Gr(s0:Int)(p0:List Aa):Int->Option (Sum Int (Sum Unit Bool)):=fun s1=>
 if s1<s0 then (bnd (idx p0 s1) fun x0=>
 bnd (idx p0 s0) fun x1=>
 if x0.Id=x1.Id then (some (.inr (.inr false)))
 else (some (.inl (w64 (s1+1)))))
 else (some (.inr (.inl ())))
def Ed(p0:List Aa):Int->Option (Sum Int (Sum Unit Bool)):=fun s0=>
 if s0<(p0.length:Int) then (jn (fun (s1:Unit)=>
 some (.inl (w64 (s0+1))))
 (fun j0=>bnd (idx p0 s0) fun x0=>
 bnd (Rr x0) fun r0=>
 if r0=true then (bnd (lfix (Gr s0 p0) 0) fun t0=>
 (match t0 with
 |(.inl z0)=>j0 z0
 |(.inr z0)=>some (.inr (.inr z0))
 ))
 else (some (.inr (.inr false)))))
 else (some (.inr (.inl ())))
def Hp(p0:List Aa):Option Bool :=
 if 1024<(p0.length:Int) then (some false)
 else (jn (fun (s5:Unit)=>
 some true)
 (fun j5=>bnd (lfix (Ed p0) 0) fun t0=>
 (match t0 with
 |(.inl z0)=>j5 z0
 |(.inr z0)=>some z0
 )))
def Bu(p0:Aa)(p1:Aa):Option Int :=
 some (w64 ((w64 ((w64 (p0.X-p1.X))*(w64 (p0.X-p1.X))))+(w64 ((w64 (p0.Y-p1.Y))*(w64 (p0.Y-p1.Y))))))
def Ni(s0:LI×Int)(p0:List Aa):Int->Option (Sum Int Int):=fun s1=>
 jn (fun (s2:Bool)=>
 if s2=true then (some (.inl (w64 (s1-1))))
 else (some (.inr s1)))
 (fun j0=>if 0<s1 then (bnd (idx s0.1 (w64 (s1-1))) fun x0=>
 bnd (idx p0 s0.2) fun x1=>
 j0 (decide (x1.Id<x0)))
 else (j0 false))
def Nj(p0:List Aa):(LI×Int)->Option (Sum (LI×Int) LI):=fun s0=>
 if s0.2<(p0.length:Int) then (jn (fun (s1:Int)=>
 gd (0<=s1/\s1<=(s0.1.length:Int))<|
 bnd (idx p0 s0.2) fun x0=>
 gd (0<=s1/\s1<=(s0.1.length:Int))<|
 gd ((([x0.Id]).length+(subl s0.1 s1 (s0.1.length:Int)).length)*8<=140737488355328)<|
 gd (((subl s0.1 0 s1).length+(([x0.Id])++(subl s0.1 s1 (s0.1.length:Int))).length)*8<=140737488355328)<|
 gd (0<(([x0.Id])++(subl s0.1 s1 (s0.1.length:Int))).length)<|
 some (.inl ((subl s0.1 0 s1)++(([x0.Id])++(subl s0.1 s1 (s0.1.length:Int))),w64 (s0.2+1))))
 (fun j0=>bnd (lfix (Ni s0 p0) (s0.1.length:Int)) fun t0=>
 j0 t0))
 else (some (.inr s0.1))
def Dl(p0:List Aa):Option LI:=
 jn (fun (s3:LI)=>
 some s3)
 (fun j3=>bnd (lfix (Nj p0) (([]:LI),0)) fun t0=>
 j3 t0)
def Rd(p0:LI)(p1:Int):Int->Option (Sum Int (Sum Unit Bool)):=fun s0=>
 if s0<(p0.length:Int) then (bnd (idx p0 s0) fun x0=>
 if x0=p1 then (some (.inr (.inr true)))
 else (some (.inl (w64 (s0+1)))))
 else (some (.inr (.inl ())))
def Es(p0:LI)(p1:Int):Option Bool :=
 jn (fun (s2:Unit)=>
 some false)
 (fun j2=>bnd (lfix (Rd p0 p1) 0) fun t0=>
 (match t0 with
 |(.inl z0)=>j2 z0
 |(.inr z0)=>some z0
 ))
def Is(p0:List Aa)(r1:LI)(s0:List Aa×Int):(List Aa×Int)->Option (Sum (List Aa×Int) (List Aa)):=fun s1=>
 if s1.2<(p0.length:Int) then (jn (fun (s2:List Aa)=>
 some (.inl (s2,w64 (s1.2+1))))
 (fun j0=>bnd (idx p0 s1.2) fun x0=>
 bnd (idx r1 s0.2) fun x1=>
 if x0.Id=x1 then (bnd (idx p0 s1.2) fun x2=>
 gd ((s1.1.length+1)*72<=140737488355328)<|
 j0 (s1.1++[x2]))
 else (j0 s1.1)))
 else (some (.inr s1.1))
def Nk(r1:LI)(p0:List Aa):(List Aa×Int)->Option (Sum (List Aa×Int) (List Aa)):=fun s0=>
 if s0.2<(r1.length:Int) then (jn (fun (s1:List Aa)=>
 some (.inl (s1,w64 (s0.2+1))))
 (fun j0=>bnd (lfix (Is p0 r1 s0) (s0.1,0)) fun t0=>
 j0 t0))
 else (some (.inr s0.1))
def Gd(p0:List Aa):Option (List Aa):=
 bnd (Dl p0) fun r1=>
 jn (fun (s4:List Aa)=>
 some s4)
 (fun j4=>bnd (lfix (Nk r1 p0) (([]:List Aa),0)) fun t0=>
 j4 t0)
def Hq(p1:LI):Int->Option (Sum Int (Sum Unit (List Aa×Bool))):=fun s0=>
 if s0<(p1.length:Int) then (gd (0<=s0/\s0<=(p1.length:Int))<|
 bnd (idx p1 s0) fun x0=>
 bnd (Es (subl p1 0 s0) x0) fun r0=>
 if r0=true then (some (.inr (.inr (([]:List Aa),false))))
 else (some (.inl (w64 (s0+1)))))
 else (some (.inr (.inl ())))
def Le(p0:List Aa)(p1:LI):(List Aa×Int)->Option (Sum (List Aa×Int) (List Aa)):=fun s0=>
 if s0.2<(p0.length:Int) then (jn (fun (s1:List Aa)=>
 some (.inl (s1,w64 (s0.2+1))))
 (fun j0=>bnd (idx p0 s0.2) fun x0=>
 bnd (Es p1 x0.Id) fun r0=>
 if r0=true then (bnd (idx p0 s0.2) fun x1=>
 gd ((s0.1.length+1)*72<=140737488355328)<|
 j0 (s0.1++[x1]))
 else (j0 s0.1)))
 else (some (.inr s0.1))
def Ms(p0:List Aa)(p1:LI):Option (List Aa×Bool):=
 jn (fun (s2:Unit)=>
 jn (fun (s0:List Aa)=>
 if (s0.length:Int)=(p1.length:Int) then (bnd (Gd s0) fun r0=>
 some (r0,true))
 else (some (([]:List Aa),false)))
 (fun j0=>bnd (lfix (Le p0 p1) (([]:List Aa),0)) fun t0=>
 j0 t0))
 (fun j2=>bnd (lfix (Hq p1) 0) fun t1=>
 (match t1 with
 |(.inl z0)=>j2 z0
 |(.inr z0)=>some z0
 ))
def Hr(s0:List Ae×Int)(p0:List Aa)(x0:Aa)(x1:Aa)(x2:Aa):Int->Option (Sum Int (Sum (List Ae) (Ak×Int))):=fun s1=>
 if s1<s0.2 then (bnd (idx p0 s1) fun x3=>
 bnd (idx p0 s0.2) fun x4=>
 bnd (Bu x3 x4) fun r0=>
 if r0=0 then (some (.inr (.inr ((⟨([]:List Ae),([]:List Ag),([]:List Ac)⟩:Ak),11))))
 else (some (.inl (w64 (s1+1)))))
 else (some (.inr (.inl (s0.1++[(⟨x0.X,x1.Y,x2.Z⟩:Ae)]))))
def Ht(p0:List Aa):(List Ae×Int)->Option (Sum (List Ae×Int) (Sum (List Ae) (Ak×Int))):=fun s0=>
 if s0.2<(p0.length:Int) then (jn (fun (s1:List Ae)=>
 some (.inl (s1,w64 (s0.2+1))))
 (fun j0=>bnd (idx p0 s0.2) fun x0=>
 bnd (idx p0 s0.2) fun x1=>
 bnd (idx p0 s0.2) fun x2=>
 gd ((s0.1.length+1)*32<=140737488355328)<|
 bnd (lfix (Hr s0 p0 x0 x1 x2) 0) fun t0=>
 (match t0 with
 |(.inl z0)=>j0 z0
 |(.inr z0)=>some (.inr (.inr z0))
 )))
 else (some (.inr (.inl s0.1)))
def Fb(p0:List Aa):Option (Ak×Int):=
 jn (fun (s3:List Ae)=>
 bnd (Kr s3 ([]:List Ac)) fun r0=>
 some (r0.1,r0.2))
 (fun j3=>bnd (lfix (Ht p0) (([]:List Ae),0)) fun t0=>
 (match t0 with
 |(.inl z0)=>j3 z0
 |(.inr z0)=>some z0
 ))
def Lg(p0:List Aa)(p1:LI):Option (Ak×Int):=
 bnd (Hp p0) fun r2=>
 if r2=true then (bnd (Ms p0 p1) fun r8=>
 if r8.2=true then (bnd (Fb r8.1) fun r0=>
 some (r0.1,r0.2))
 else (some ((⟨([]:List Ae),([]:List Ag),([]:List Ac)⟩:Ak),2)))
 else (some ((⟨([]:List Ae),([]:List Ag),([]:List Ac)⟩:Ak),70))
instance(p0:Int)(p1:Int)(p2:Int):Con (Bj p0 p1 p2) prog 80 (fun _ vs=>vs=[iq p0,iq p1,iq p2]) (fun _ r=>fun v Ln=>v=.bool r/\Ln=[]/\True):=⟨by
 rintro _ _ r rfl hx w hK;unfold Bj at hx;refine CtS ntmps80 results80 ?_;exact au⟩
instance(p0:Ab):Con (Ks p0) prog 81 (fun _ vs=>vs=[.agg #[iq p0.X,iq p0.Y]]) (fun _ r=>fun v Ln=>v=.bool r/\Ln=[]/\True):=⟨by
 rintro _ _ r rfl hx w hK;unfold Ks at hx;refine CtS ntmps81 results81 ?_;exact au⟩
instance(p0:Aa):Con (Rr p0) prog 36 (fun _ vs=>vs=[.agg #[iq p0.Id,iq p0.X,iq p0.Y,iq p0.Z.Lo,iq p0.Z.Hi,iq p0.Wide,iq p0.Num,iq p0.Of,iq p0.Class]]) (fun _ r=>fun v Ln=>v=.bool r/\Ln=[]/\True):=⟨by
 rintro _ _ r rfl hx w hK;unfold Rr at hx;refine CtS ntmps36 results36 ?_;refine pq ?_;intros;rename_i hx
 refine pA ?_;intros;rename_i hx
 apply Jr (γ:=Unit) hx [] (fun s2 y2 f=>(2,.bool s2)::f) [999] (fun s2 y2 l=>l);exact kk
 .exact aI
 .refine pI ?_;intros;rename_i hx
  refine Cq3 (s:=6) hx rfl ?_ ?_
  .refine pI ?_;intros;rename_i hx
   refine Cq3 (s:=14) hx rfl ?_ ?_
   .exact aI
   .exact aI
  .exact aI⟩
instance(p0:List Aa):Con (Hp p0) prog 41 (fun K vs=>∃U0 E0,vs=[.slice U0 p0.length E0]/\Has K U0 p0.length E0 9 Ah p0/\True) (fun _ r=>fun v Ln=>v=.bool r/\Ln=[]/\True):=⟨by
 rintro K _ r ⟨U0,E0,rfl,ha0,-⟩ hx w hK;replace ha0:=ha0.lo hK;unfold Hp at hx;have:=dl 11 [0,0,0,0,1,0,0,0,0,1,0] [0,1,2,3,4,5,6,7,8,9,10];refine CtS ntmps41 results41 ?_;refine pq ?_;intros;rename_i hx
 refine Cq1 (s:=7) hx rfl ?_ ?_
 .exact aI
 .refine pI ?_;intros;rename_i hx
  apply Jr (γ:=Unit) hx [] (fun s5 y5 f=>f) [999] (fun s5 y5 l=>l);exact kk
  .exact aI
  .refine pI ?_;intros;rename_i hx
   apply Lr (γ:=Unit) hx [0] (fun s85 y85 f=>(3,iq s85)::f) [999] (fun s85 y85 l=>l) ();exact kk;exact sk;intro s85 y85 x85 hx _;unfold Ed at hx;refine pq ?_;intros;rename_i hx
   refine Cq1 (s:=11) hx rfl ?_ ?_
   .refine pI ?_;intros;rename_i hx
    apply Jr (γ:=Unit) hx [0,3] (fun s26 y26 f=>f) [999] (fun s26 y26 l=>l);exact kk
    .exact aI
    .refine pI ?_;intros;rename_i hx
     refine Cq4 (s:=19) hx rfl ?_ ?_
     .exact aI
     .refine pI ?_;intros;rename_i hx
      apply Lr (γ:=Unit) hx [0,3] (fun s135 y135 f=>(4,iq s135)::f) [999] (fun s135 y135 l=>l) ();exact kk;exact sk;intro s135 y135 x135 hx _;unfold Gr at hx;exact au
   .exact aI⟩
instance(p0:Aa)(p1:Aa):Con (Bu p0 p1) prog 87 (fun _ vs=>vs=[.agg #[iq p0.Id,iq p0.X,iq p0.Y,iq p0.Z.Lo,iq p0.Z.Hi,iq p0.Wide,iq p0.Num,iq p0.Of,iq p0.Class],.agg #[iq p1.Id,iq p1.X,iq p1.Y,iq p1.Z.Lo,iq p1.Z.Hi,iq p1.Wide,iq p1.Num,iq p1.Of,iq p1.Class]]) (fun _ r=>fun v Ln=>v=iq r/\Ln=[]/\True):=⟨by
 rintro _ _ r rfl hx w hK;unfold Bu at hx;refine CtS ntmps87 results87 ?_;exact au⟩
theorem Aeo(p0:List Aa){K:LE}{U0:OA}{E0:Nat}(ha0:Has K U0 p0.length E0 9 Ah p0){r:LI}(hx:Dl p0=some r)(w:World)(hK:∀e∈K,Ent.ok w e):CtL prog 48 [.slice U0 p0.length E0] w fun v Ln=>∃(A0:OA) (c0:Nat),v=.slice A0 r.length c0/\Ln=[.r A0 r.length c0 3 1 (r.flatMap Aj)]/\True:=by
 have ha0':=Has.up0 ha0;refine CtL.mk 47 func48 rfl ntmps48 kr rfl ?_;show T 47 _ [(0,.slice U0 p0.length E0)] _;unfold Dl at hx;refine Y10 ?_;refine Tj (γ:=OA×Nat) hx (fun s3 y3=>[(3,.slice y3.1 s3.length y3.2)]) (fun s3 y3=>[.r y3.1 s3.length y3.2 3 1 (s3.flatMap Aj)]++[.old w]) (fun s3 y3=>True) (fun s3 y3 hx0 hG0=>?_) (fun j3 hx=>?_)
 .refine Y7 ?_;obtain rfl:=Option.some.inj hx0;exact Oz (rs:=[.tmp 2]) results48 (.tmp rfl (.nil)) (Ln:=[.r y3.1 s3.length y3.2 3 1 (s3.flatMap Aj)]) ⟨y3.1,y3.2,rfl,rfl,trivial⟩ (Bn rfl Fw) (by exact .pick 0 rfl (.refl))
 .refine Y6 ?_;obtain⟨t0,hl0,ho0⟩:=Bh hx;refine Bb 3 1 ?_;have hn0:0=(([]:LI)).length:=by simp[Fn,Alb,List.length_append] <;> omega
  refine Amz (.here) (e':=.r none ((([]:LI)).length) 0 3 1 ((([]:LI)).flatMap Aj)) (by first|(rw[<-hn0];done)|rfl) ?_;refine Lp (σ:=LI×Int) (γ:=OA×Nat) hl0 (fun s0 y0=>[(0,.slice U0 p0.length E0),(3,.slice y0.1 s0.1.length y0.2),(4,iq s0.2)]) (fun s0 y0=>[.r y0.1 s0.1.length y0.2 3 1 (s0.1.flatMap Aj)]++[.old w]) (fun s0 y0=>True) (none,0) trivial (by exact .pick 0 rfl (.refl)) ?_;intro s0 y0 hG1 x0 hx1 ht0;unfold Nj at hx1;refine Y5 ?_;refine Df (Zg rfl 30 underlying41) rfl ?_;refine Y3 ?_;refine Ti hx1 (s:=9) rfl (fun h0 hx2=>?_) (fun h0 hx3=>?_)
  .refine Y8 ?_;refine Df (Zg rfl 3 underlying42) rfl ?_;refine Y3 ?_;refine Tj (γ:=Unit) hx2 (fun s1 y1=>[(0,.slice U0 p0.length E0),(3,.slice y0.1 s0.1.length y0.2),(4,iq s0.2),(5,iq s1)]) (fun s1 y1=>[.r y0.1 s0.1.length y0.2 3 1 (s0.1.flatMap Aj)]++[.old w]) (fun s1 y1=>True) (fun s1 y1 hx4 hG2=>?_) (fun j0 hx2=>?_)
   .refine T_dr [0,0,0,0,0,0,0,0,1,2,0,0,0,3,3,2] (.q 0 (.q 1 (.q 2 (.q 3 (.q 4 (.q 5 (.q 6 (.q 7 (.q 8 (.q 10 (.q 11 (.q 12 (.e 9 (.e 13 (.e 14 (.e 15 (.done) (.stop)) (.stop)) (.stop)) (.stop)))))))))))))) mixed kr kr ?_;refine Y3 ?_;refine Ak8 (k:=0) rfl dD (fun _=>rfl) (fun hn1 hs0=>?_);obtain⟨h1,hx5⟩:=Ek hx4;have hs1:=Has.subHM hs0 h1.1 h1.2;refine P_p rfl rfl (Ax5 rfl rfl rfl Aiv h1.1 (by have:=Has.nc hs0;omega)) rfl ?_;refine Y2 ?_;obtain⟨x1,h2,hx6⟩:=Bh hx5;have hw0:=Has.low (E:=[]) ha0' hK;obtain⟨b0,o0,j1,hA0,hj0,hl1,hp0⟩:=Has.at_idx hw0 h2;refine P_p rfl rfl (Tm rfl rfl hA0 (j:=j1) hj0 hl1 As6) rfl ?_;refine P_p rfl rfl (Tk rfl Ahh rfl) rfl ?_;refine P_q rfl rfl (Vt (d:=0) rfl hp0 (sb 1) rfl one3) rfl ?_;refine Y2 ?_;refine Ak8 (k:=0) rfl dD (fun _=>rfl) (fun hn2 hs2=>?_);obtain⟨h3,hx7⟩:=Ek hx6;have hs3:=Has.subL hs2 h3.1 h3.2;refine P_p rfl rfl (Arj rfl rfl Aiv h3.1 h3.2) rfl ?_;refine P_x rfl (Ih rfl (Xb _) rfl (fun g0=>?_)) ?_;rotate_left;exact Ze;refine T_mr (enc:=Aj) (sz:=1) ([x1.Id]) (.here) rfl rfl (fun _=>rfl) (by show 1<=maxLen;decide) ?_;obtain⟨h4,hx8⟩:=Ek hx7;refine P_h rfl rfl (Xu Aj ([x1.Id]) (subl s0.1 s1 (s0.1.length:Int)) rfl rfl Aj2 (fun _=>rfl) hs3 (sb 1) (fun _=>rfl) h4 rfl (fun _ _=>.here) dD (fun A1 c1=>?_)) ?_
    rotate_left;exact Ze;refine Ak8 (k:=0) rfl dD (fun _=>rfl) (fun hn3 hs4=>?_);obtain⟨h5,hx9⟩:=Ek hx8;obtain⟨h6,hx10⟩:=Ek hx9;refine P_h rfl rfl (Aqk Aj (subl s0.1 0 s1) (([x1.Id])++(subl s0.1 s1 (s0.1.length:Int))) rfl rfl Aj2 (fun _=>rfl) (Has.up (L:=([.r y0.1 s0.1.length y0.2 3 1 (s0.1.flatMap Aj),.r A1 ((([x1.Id])++(subl s0.1 s1 (s0.1.length:Int))).length) c1 3 1 ((([x1.Id])++(subl s0.1 s1 (s0.1.length:Int))).flatMap Aj)]:LE)) hs1 (sb 0)) (Has.up (L:=([.r y0.1 s0.1.length y0.2 3 1 (s0.1.flatMap Aj),.r A1 ((([x1.Id])++(subl s0.1 s1 (s0.1.length:Int))).length) c1 3 1 ((([x1.Id])++(subl s0.1 s1 (s0.1.length:Int))).flatMap Aj)]:LE)) hs4 (sb 1)) (SubE.cons2 (i:=1) rfl (sb 0)) (List.length_pos_iff.1 h6) h5 rfl dD (fun A2 c2=>?_)) ?_;rotate_left;exact Ze;refine P_x rfl (Alp (Sn rfl) rfl ?_) ?_;rotate_left;exact Ze;refine Y8 ?_;exact Rp ((subl s0.1 0 s1)++(([x1.Id])++(subl s0.1 s1 (s0.1.length:Int))),w64 (s0.2+1)) (A2,c2) hx10 trivial (by exact .pick 0 rfl (.drop 0 rfl (.drop 0 rfl (.refl))))
   .refine Y ?_;obtain⟨t1,hl2,ho1⟩:=Bh hx2;refine Lp (σ:=Int) (γ:=Unit) hl2 (fun s2 y2=>[(0,.slice U0 p0.length E0),(3,.slice y0.1 s0.1.length y0.2),(4,iq s0.2),(5,iq s2)]) (fun s2 y2=>[.r y0.1 s0.1.length y0.2 3 1 (s0.1.flatMap Aj)]++[.old w]) (fun s2 y2=>True) () trivial (by exact .pick 0 rfl (.refl)) ?_;intro s2 y2 hG3 x2 hx11 ht1;unfold Ni at hx11;refine Y ?_;refine Tj (γ:=Unit) hx11 (fun s4 y4=>[(0,.slice U0 p0.length E0),(3,.slice y0.1 s0.1.length y0.2),(4,iq s0.2),(5,iq s2),(28,.bool s4)]) (fun s4 y4=>[.r y0.1 s0.1.length y0.2 3 1 (s0.1.flatMap Aj)]++[.old w]) (fun s4 y4=>True) (fun s4 y4 hx12 hG4=>?_) (fun j2 hx11=>?_)
    .refine Yl (s:=28) rfl (fun h7=>?_) (fun h7=>?_)
     .have hx13:=Xt h7 hx12;refine Y10 ?_;exact Rp (w64 (s2-1)) () hx13 trivial (by exact .pick 0 rfl (.refl))
     .have hx14:=Adh h7 hx12;refine Y3 ?_;obtain rfl:=Yo ht1 hx14;refine Y2 ?_;exact Mt s2 () ho1 trivial (by exact .pick 0 rfl (.refl))
    .refine T_dr [0,0,0,0,0,0,0,1,0,0,0,0,1,0,0] (.q 0 (.q 1 (.q 2 (.q 3 (.q 4 (.q 5 (.q 6 (.q 7 (.q 8 (.q 9 (.q 10 (.q 11 (.q 12 (.q 13 (.q 14 (.done)))))))))))))))) mixed kr kr ?_;refine Y3 ?_;refine Ti hx11 (s:=16) rfl (fun h8 hx15=>?_) (fun h8 hx16=>?_)
     .refine Y3 ?_;obtain⟨x3,h9,hx17⟩:=Bh hx15;refine Av3 (k:=0) rfl dD (fun _=>rfl) h9 (fun b1 j4 hA1 hj1 hl3 hm0 hp1=>?_);refine P_pG rfl rfl rfl rfl rfl (Tm rfl rfl hA1 (j:=j4) hj1 hl3 Aiv) rfl ?_;refine P_qG rfl rfl rfl rfl rfl (Qv rfl hp1 (sb 0) rfl one3) rfl ?_;refine Y2 ?_;obtain⟨x4,h10,hx18⟩:=Bh hx17;have hw1:=Has.low (E:=[]) ha0' hK;obtain⟨b2,o1,j5,hA2,hj2,hl4,hp2⟩:=Has.at_idx hw1 h10;refine P_pG rfl rfl rfl rfl rfl (Tm rfl rfl hA2 (j:=j5) hj2 hl4 As6) rfl ?_;refine P_pG rfl rfl rfl rfl rfl (Tk rfl Ahh rfl) rfl ?_;refine P_qG rfl rfl rfl rfl rfl (Vt (d:=0) rfl hp2 (sb 1) rfl one3) rfl ?_;refine Y3 ?_;exact Mt (decide (x4.Id<x3)) () hx18 trivial (by exact .pick 0 rfl (.refl))
     ·(iterate 13 refine Y ?_);exact Mt false () hx16 trivial (by exact .pick 0 rfl (.refl))
  .refine Y3 ?_;obtain rfl:=Yo ht0 hx3;refine Y2 ?_;exact Mt s0.1 (y0.1,y0.2) ho0 trivial (by exact .pick 0 rfl (.refl))
instance(p0:List Aa):Con (Dl p0) prog 48 (fun K vs=>∃U0 E0,vs=[.slice U0 p0.length E0]/\Has K U0 p0.length E0 9 Ah p0/\True) (fun _ r=>fun v Ln=>∃A0 c0,v=.slice A0 r.length c0/\Ln=[.r A0 r.length c0 3 1 (r.flatMap Aj)]/\True):=⟨by
 rintro K _ r ⟨U0,E0,rfl,ha0,-⟩ hx w hK;exact Aeo p0 ha0 hx w hK⟩
instance(p0:LI)(p1:Int):Con (Es p0 p1) prog 57 (fun K vs=>∃U0 E0,vs=[.slice U0 p0.length E0,iq p1]/\Has K U0 p0.length E0 1 Aj p0/\True) (fun _ r=>fun v Ln=>v=.bool r/\Ln=[]/\True):=⟨by
 rintro K _ r ⟨U0,E0,rfl,ha0,-⟩ hx w hK;replace ha0:=ha0.lo hK;unfold Es at hx;refine CtS ntmps57 results57 ?_;refine pq ?_;intros;rename_i hx
 refine pA ?_;intros;rename_i hx
 apply Jr (γ:=Unit) hx [] (fun s2 y2 f=>f) [999] (fun s2 y2 l=>l);exact kk
 .exact aI
 .refine pI ?_;intros;rename_i hx
  apply Lr (γ:=Unit) hx [0,1] (fun s0 y0 f=>(5,iq s0)::f) [999] (fun s0 y0 l=>l) ();exact kk;exact sk;intro s0 y0 x0 hx _;unfold Rd at hx;exact au⟩
instance(p0:List Aa):Con (Gd p0) prog 64 (fun K vs=>∃U0 E0,vs=[.slice U0 p0.length E0]/\Has K U0 p0.length E0 9 Ah p0/\True) (fun _ r=>fun v Ln=>∃A0 c0,v=.slice A0 r.length c0/\Ln=[.r A0 r.length c0 30 9 (r.flatMap Ah)]/\True):=⟨by
 rintro K _ r ⟨U0,E0,rfl,ha0,-⟩ hx w hK;replace ha0:=ha0.lo hK;unfold Gd at hx;have:=dl 9 [0,0,0,0,1,0,0,0,1,0] [0,1,2,3,4,5,6,7,8,9];refine CtS ntmps64 results64 ?_;refine pq ?_;intros;rename_i hx
 refine pA ?_;intros;rename_i hx
 apply Jr (γ:=OA×Nat) hx [] (fun s4 y4 f=>(4,.slice y4.1 s4.length y4.2)::f) [999] (fun s4 y4 l=>.r y4.1 s4.length y4.2 30 9 (s4.flatMap Ah)::l);exact kk
 .exact aI
 .refine pI ?_;intros;rename_i hx
  refine Bb 30 9 ?_;apply Lr (γ:=OA×Nat) hx [0,3] (fun s0 y0 f=>(4,.slice y0.1 s0.1.length y0.2)::(5,iq s0.2)::f) [1,999] (fun s0 y0 l=>.r y0.1 s0.1.length y0.2 30 9 (s0.1.flatMap Ah)::l) (_,_);exact kk;exact sk;intro s0 y0 x0 hx _;unfold Nk at hx;refine pq ?_;intros;rename_i hx
  refine Cq1 (s:=12) hx rfl ?_ ?_
  .refine pI ?_;intros;rename_i hx
   apply Jr (γ:=OA×Nat) hx [0,3,5] (fun s1 y1 f=>(4,.slice y1.1 s1.length y1.2)::f) [1,999] (fun s1 y1 l=>.r y1.1 s1.length y1.2 30 9 (s1.flatMap Ah)::l);exact kk
   .exact aI
   .refine pI ?_;intros;rename_i hx
    apply Lr (γ:=OA×Nat) hx [0,3,5] (fun s2 y2 f=>(4,.slice y2.1 s2.1.length y2.2)::(6,iq s2.2)::f) [1,999] (fun s2 y2 l=>.r y2.1 s2.1.length y2.2 30 9 (s2.1.flatMap Ah)::l) (_,_);exact kk;exact sk;intro s2 y2 x1 hx _;unfold Is at hx;exact au
  .exact aI⟩
instance(p0:List Aa)(p1:LI):Con (Ms p0 p1) prog 46 (fun K vs=>∃U0 E0 U1 E1,vs=[.slice U0 p0.length E0,.slice U1 p1.length E1]/\Has K U0 p0.length E0 9 Ah p0/\Has K U1 p1.length E1 1 Aj p1/\True) (fun _ r=>fun v Ln=>∃A0 c0,v=.tuple #[.slice A0 r.1.length c0,.bool r.2]/\Ln=[.r A0 r.1.length c0 30 9 (r.1.flatMap Ah)]/\True):=⟨by
 rintro K _ r ⟨U0,E0,U1,E1,rfl,ha0,ha1,-⟩ hx w hK;replace ha0:=ha0.lo hK;replace ha1:=ha1.lo hK;unfold Ms at hx;have:=dl 4 [0,0,0,0,0,0,1,2] [0,1,2,3,4,5,6,7];refine CtS ntmps46 results46 ?_;refine pq ?_;intros;rename_i hx
 refine pA ?_;intros;rename_i hx
 apply Jr (γ:=Unit) hx [0,1] (fun s2 y2 f=>f) [999] (fun s2 y2 l=>l);exact kk
 .intro s2 y2 hx;refine pq ?_;intros;rename_i hx
  refine pA ?_;intros;rename_i hx
  apply Jr (γ:=OA×Nat) hx [1] (fun s0 y0 f=>(7,.slice y0.1 s0.length y0.2)::f) [999] (fun s0 y0 l=>.r y0.1 s0.length y0.2 30 9 (s0.flatMap Ah)::l);exact kk
  .exact aI
  .refine pI ?_;intros;rename_i hx
   refine Bb 30 9 ?_;apply Lr (γ:=OA×Nat) hx [0,1] (fun s1 y1 f=>(7,.slice y1.1 s1.1.length y1.2)::(8,iq s1.2)::f) [999] (fun s1 y1 l=>.r y1.1 s1.1.length y1.2 30 9 (s1.1.flatMap Ah)::l) (_,_);exact kk;exact sk;intro s1 y1 x0 hx _;unfold Le at hx;exact au
 .refine pI ?_;intros;rename_i hx
  apply Lr (γ:=Unit) hx [0,1] (fun s3 y3 f=>(6,iq s3)::f) [999] (fun s3 y3 l=>l) ();exact kk;exact sk;intro s3 y3 x1 hx _;unfold Hq at hx;exact au⟩
instance(p0:List Aa):Con (Fb p0) prog 98 (fun K vs=>∃U0 E0,vs=[.slice U0 p0.length E0]/\Has K U0 p0.length E0 9 Ah p0/\True) (fun _ r=>fun v Ln=>∃A0 c0 A2 c2 A4 c4,v=.tuple #[.agg #[.slice A0 r.1.V.length c0,.slice A2 r.1.T.length c2,.slice A4 r.1.Lines.length c4],iq r.2]/\Ln=[.r A0 r.1.V.length c0 108 4 (r.1.V.flatMap Al),.r A2 r.1.T.length c2 101 3 (r.1.T.flatMap Az),.r A4 r.1.Lines.length c4 103 2 (r.1.Lines.flatMap Ar)]/\True):=⟨by
 rintro K _ r ⟨U0,E0,rfl,ha0,-⟩ hx w hK;replace ha0:=ha0.lo hK;unfold Fb at hx;have:=dl 5 [0,0,0,0,0,1,0,0,0,0,1,0,0,0,0,1,0,2,3,2] [0,1,2,3,4,5,6,7,8,9,10,11,12,13,14,15,16,17,18,19];have:=dl 9 [0,0,0,1,0,0,0,1,2,0] [0,1,2,3,4,5,6,7,8,9];refine CtS ntmps98 results98 ?_;refine pq ?_;intros;rename_i hx
 refine pA ?_;intros;rename_i hx
 refine pA ?_;intros;rename_i hx
 apply Jr (γ:=OA×Nat) hx [2] (fun s3 y3 f=>(4,.slice y3.1 s3.length y3.2)::f) [0,999] (fun s3 y3 l=>.r y3.1 s3.length y3.2 108 4 (s3.flatMap Al)::l);exact kk
 .exact aI
 .refine pI ?_;intros;rename_i hx
  refine Bb 108 4 ?_;apply Lr (γ:=OA×Nat) hx [0,2] (fun s0 y0 f=>(4,.slice y0.1 s0.1.length y0.2)::(5,iq s0.2)::f) [1,999] (fun s0 y0 l=>.r y0.1 s0.1.length y0.2 108 4 (s0.1.flatMap Al)::l) (_,_);exact kk;exact sk;intro s0 y0 x0 hx _;unfold Ht at hx;refine pq ?_;intros;rename_i hx
  refine Cq1 (s:=10) hx rfl ?_ ?_
  .refine pI ?_;intros;rename_i hx
   apply Jr (γ:=OA×Nat) hx [0,2,5] (fun s1 y1 f=>(4,.slice y1.1 s1.length y1.2)::f) [1,999] (fun s1 y1 l=>.r y1.1 s1.length y1.2 108 4 (s1.flatMap Al)::l);exact kk
   .exact aI
   .refine pI ?_;intros;rename_i hx
    apply Lr (γ:=Unit) hx [0,2,4,5] (fun s2 y2 f=>(6,iq s2)::f) [0,1,999] (fun s2 y2 l=>l) ();exact kk;exact sk;intro s2 y2 x1 hx _;unfold Hr at hx;exact au
  .exact aI⟩
instance(p0:List Aa)(p1:LI):Con (Lg p0 p1) prog 53 (fun K vs=>∃U0 E0 U1 E1,vs=[.slice U0 p0.length E0,.slice U1 p1.length E1]/\Has K U0 p0.length E0 9 Ah p0/\Has K U1 p1.length E1 1 Aj p1/\True) (fun _ r=>fun v Ln=>∃A0 c0 A2 c2 A4 c4,v=.tuple #[.agg #[.slice A0 r.1.V.length c0,.slice A2 r.1.T.length c2,.slice A4 r.1.Lines.length c4],iq r.2]/\Ln=[.r A0 r.1.V.length c0 108 4 (r.1.V.flatMap Al),.r A2 r.1.T.length c2 101 3 (r.1.T.flatMap Az),.r A4 r.1.Lines.length c4 103 2 (r.1.Lines.flatMap Ar)]/\True):=⟨by
 rintro K _ r ⟨U0,E0,U1,E1,rfl,ha0,ha1,-⟩ hx w hK;replace ha0:=ha0.lo hK;replace ha1:=ha1.lo hK;unfold Lg at hx;refine CtS ntmps53 results53 ?_;exact au⟩
instance(x0:Int)(x1:Int):Iy prog 28 [(0,iq x0),(1,iq x1)] [iq x0,iq x1]:=⟨fun w=>kr⟩
instance(x0:Int)(x1:Int)(x2:Int)(x3:Int)(x4:Int):Iy prog 30 [(0,iq x0),(3,.agg #[iq x1,iq x2]),(5,iq x3),(6,iq x4)] [iq x0,iq 0,iq 0,iq x1,iq x2,iq 0,iq x3,iq x4,iq 0]:=⟨fun w=>kr⟩
instance(x0:Int)(x1:Int)(x2:Int)(x3:Int)(x4:Int)(x5:Int)(x6:Int):Iy prog 30 [(0,iq x0),(1,iq x1),(2,iq x2),(3,.agg #[iq x3,iq x4]),(5,iq x5),(6,iq x6)] [iq x0,iq x1,iq x2,iq x3,iq x4,iq 0,iq x5,iq x6,iq 0]:=⟨fun w=>kr⟩
instance(x0:Int)(x1:Int)(x2:Int)(x3:Int)(x4:Int)(x5:Int):Iy prog 30 [(0,iq x0),(1,iq x1),(3,.agg #[iq x2,iq x3]),(5,iq x4),(6,iq x5)] [iq x0,iq x1,iq 0,iq x2,iq x3,iq 0,iq x4,iq x5,iq 0]:=⟨fun w=>kr⟩
instance(x0:Int)(x1:Int)(x2:Int)(x3:Int)(x4:Int)(x5:Int)(x6:Int)(x7:Int)(x8:Int)(x9:Int)(x10:Int)(x11:Int)(x12:Int)(x13:Int)(x14:Int)(x15:Int)(x16:Int)(x17:Int)(x18:Int)(x19:Int)(x20:Int)(x21:Int)(x22:Int)(x23:Int)(x24:Int)(x25:Int)(x26:Int):Ns prog 41 3 [(0,.agg #[iq x0,iq x1,iq x2,iq x3,iq x4,iq x5,iq x6,iq x7,iq x8]),(1,.agg #[iq x9,iq x10,iq x11,iq x12,iq x13,iq x14,iq x15,iq x16,iq x17]),(2,.agg #[iq x18,iq x19,iq x20,iq x21,iq x22,iq x23,iq x24,iq x25,iq x26])] 30 [iq x0,iq x1,iq x2,iq x3,iq x4,iq x5,iq x6,iq x7,iq x8,iq x9,iq x10,iq x11,iq x12,iq x13,iq x14,iq x15,iq x16,iq x17,iq x18,iq x19,iq x20,iq x21,iq x22,iq x23,iq x24,iq x25,iq x26]:=⟨fun w=>kr⟩
instance(x0:Int)(x1:Int)(x2:Int):Iy prog 32 [(0,iq x0),(3,iq x1),(9,iq x2)] [iq x0,iq 0,iq 0,iq x1,iq 0,iq 0,iq 0,iq 0,iq 0,iq x2]:=⟨fun w=>kr⟩
def Qg(p0:List Aa)(p1:Int):Option Bool :=
 jn (fun (s2:Bool)=>
 some s2)
 (fun j2=>if 300<(p0.length:Int) then (j2 true)
 else (if p1<(p0.length:Int) then (bnd (Hp p0) fun r6=>
 j2 r6)
 else (j2 false)))
def Kt  : Option Bool :=
 bnd (Ij ([(⟨0,0⟩:Ab),(⟨4,0⟩:Ab),(⟨4,4⟩:Ab),(⟨0,4⟩:Ab)]) (⟨4,2⟩:Ab)) fun r3=>
 bnd (Ij ([(⟨0,0⟩:Ab),(⟨4,0⟩:Ab),(⟨4,4⟩:Ab),(⟨0,4⟩:Ab)]) (⟨5,2⟩:Ab)) fun r7=>
 bnd (Rm ([(⟨1,0,0,(⟨3,3⟩:Av),0,1,1,0⟩:Aa),(⟨2,5,5,(⟨1,1⟩:Av),0,1,1,0⟩:Aa),(⟨3,12,0,(⟨2,2⟩:Av),0,1,1,0⟩:Aa)]) (⟨10,0,0,1,0,0,0,0,0,1⟩:Af)) fun r0=>
 jn (fun (s6:Bool)=>
 some s6)
 (fun j6=>if r3.2=0 then (if r7.2=0 then (if r3.1=true then (if r7.1=true then (j6 false)
 else (if r0.2=0 then (if (r0.1.length:Int)=2 then (bnd (idx r0.1 0) fun x0=>
 if x0=2 then (bnd (idx r0.1 1) fun x1=>
 j6 (decide (x1=3)))
 else (j6 false))
 else (j6 false))
 else (j6 false)))
 else (j6 false))
 else (j6 false))
 else (j6 false))
instance(p0:List Aa)(p1:Int):Con (Qg p0 p1) prog 15 (fun K vs=>∃U0 E0,vs=[.slice U0 p0.length E0,iq p1]/\Has K U0 p0.length E0 9 Ah p0/\True) (fun _ r=>fun v Ln=>v=.bool r/\Ln=[]/\True):=⟨by
 rintro K _ r ⟨U0,E0,rfl,ha0,-⟩ hx w hK;replace ha0:=ha0.lo hK;unfold Qg at hx;refine CtS ntmps15 results15 ?_;exact au⟩
instance  : Con Kt prog 10 (fun _ vs=>vs=[]) (fun _ r=>fun v Ln=>v=.bool r/\Ln=[]/\True):=⟨by
 rintro _ _ r rfl hx w hK;unfold Kt at hx;refine CtS ntmps10 results10 ?_;refine pq ?_;intros;rename_i hx
 apply Jr (γ:=Unit) hx [] (fun s6 y6 f=>(0,.bool s6)::f) [999] (fun s6 y6 l=>l);exact kk
 .exact aI
 .refine pI ?_;intros;rename_i hx
  refine Cq1 (s:=39) hx rfl ?_ ?_
  .refine pI ?_;intros;rename_i hx
   refine Cq1 (s:=43) hx rfl ?_ ?_
   .exact aI
   .exact aI
  .exact aI⟩
theorem Ano  : Nu prog 42 0 [] 3 []:=fun w=>kr
instance:Ns prog 42 0 [] 3 []:=⟨Ano⟩
instance:Ke prog 50 86 4:=⟨.mk underlying50 (show prog.info? 86=some t86 from by kernel_rfl) kr⟩
instance:AggI prog 86 4:=⟨.mk underlying86 rfl (show prog.info? 86=some t86 from by kernel_rfl) kr⟩
instance:Br prog 86 1 1:=⟨.mk underlying86 rfl rfl (show prog.info? 58=some t58 from by kernel_rfl) (show t58.size=1 from by kernel_rfl) rfl⟩
instance:OneI prog 58:=⟨.mk underlying58 rfl (show prog.info? 58=some t58 from by kernel_rfl) kr⟩
instance:Br prog 86 3 3:=⟨.mk underlying86 rfl rfl (show prog.info? 3=some Tryz.t3 from by kernel_rfl) (show Tryz.t3.size=1 from by kernel_rfl) rfl⟩
instance:Br prog 86 2 2:=⟨.mk underlying86 rfl rfl (show prog.info? 3=some Tryz.t3 from by kernel_rfl) (show Tryz.t3.size=1 from by kernel_rfl) rfl⟩
instance:Br prog 86 0 0:=⟨.mk underlying86 rfl rfl (show prog.info? 3=some Tryz.t3 from by kernel_rfl) (show Tryz.t3.size=1 from by kernel_rfl) rfl⟩
def Acj(p0:LI):Option LI:=gd (p0.length*8<=140737488355328) <| some p0
theorem Aln(p0:List Int){K:List Ent}{U0:Option Addr}{E0:Nat}(ha0:Has K U0 p0.length E0 1 Aj p0){r:List Int}(hx:Acj p0=some r)(w:World)(hK:∀ e∈K,Ent.ok w e):
  CtL prog 94 [.slice U0 p0.length E0] w (fun v Ln=>∃(A0:OA) (c0:Nat),v=.slice A0 r.length c0/\Ln=[.r A0 r.length c0 3 1 (r.flatMap Aj)]/\True):=by
 obtain⟨hb,hx⟩:=Ek hx;obtain rfl:=Option.some.inj hx;have ha:Has [.old w] U0 p0.length E0 1 Aj p0:=Has.low (E:=[]) (by rw[List.append_nil];exact ha0) hK;refine CtL.mk 8 func94 rfl ntmps94 kr rfl ?_;show T 8 _ [(0,.slice U0 p0.length E0)] _;refine Y9 ?_;refine Df (Afu underlying42 rfl rfl) rfl ?_;refine Y2 ?_;cases hA:U0 with
 |none=>
  subst hA;have h0:p0=[]:=by
   cases p0 with
   |nil=>rfl
   |cons x r=>obtain⟨b,o,h,_⟩:=ha.at_ s_;cases h
  subst h0;refine Y8 ?_;refine Bb 3 1 ?_;exact Oz (rs:=[.tmp 2]) results94 (.tmp rfl .nil) (Ln:=[.r none 0 0 3 1 []]) ⟨none,0,rfl,rfl,trivial⟩ (Bn rfl Fw) (.pick 0 rfl (.pick 0 rfl .refl))
 |some a=>
  subst hA;refine Y5 ?_;refine T_x (Ih rfl Ano rfl (fun g5=>?_));refine Y ?_;refine T_mr (enc:=Aj) (sz:=1) (([]:LI)) (.here) rfl rfl (fun _=>rfl) dD ?_;refine T_h (Xu Aj ([]:LI) p0 rfl rfl Aj2 (fun _=>rfl) ha (sb 1) (fun _=>rfl) (by rw[List.length_nil,Nat.zero_add];exact hb) rfl (fun _ _=>.here) dD (fun A1 c1=>?_));refine Y4 ?_;exact Oz (rs:=[.tmp 2]) results94 (.tmp rfl .nil) (Ln:=[.r A1 p0.length c1 3 1 (p0.flatMap Aj)]) ⟨A1,c1,rfl,rfl,trivial⟩ (Bn rfl Fw) (.pick 0 rfl (.pick 0 rfl .refl))
instance(p0:LI):Con (Acj p0) prog 94 (fun K vs=>∃U0 E0,vs=[.slice U0 p0.length E0]/\Has K U0 p0.length E0 1 Aj p0/\True) (fun _ r=>fun v Ln=>∃A0 c0,v=.slice A0 r.length c0/\Ln=[.r A0 r.length c0 3 1 (r.flatMap Aj)]/\True):=⟨by rintro K _ r ⟨A,c,rfl,ha,-⟩ hx w hK;exact Aln p0 ha hx w hK⟩
structure S_api_Edit where
 Id:Int
 Ring:List Ab
 From:Int
 To:Int
instance:UndI prog 50 (.slice 86):=⟨underlying50⟩
def Hh(p0:Af):Option Bool :=
 jn (fun (s2:Bool)=>
 some s2)
 (fun j2=>bnd (Bj p0.Cell 1 10000000) fun r2=>
 if r2=true then (bnd (Bj p0.Reach 0 1000000) fun r7=>
 if r7=true then (bnd (Bj p0.Slope 0 100000) fun r0=>
 if r0=true then (bnd (Bj p0.Link 1 1000000) fun r1=>
 if r1=true then (bnd (Bj p0.Flat 0 1000000) fun r3=>
 if r3=true then (bnd (Bj p0.Tall 0 1000000) fun r4=>
 if r4=true then (bnd (Bj p0.High 0 1000000) fun r5=>
 if r5=true then (bnd (Bj p0.Low 0 1000000) fun r6=>
 if r6=true then (bnd (Bj p0.Brush 0 1000000) fun r8=>
 if r8=true then (bnd (Bj p0.Few 1 1024) fun r9=>
 j2 r9)
 else (j2 false))
 else (j2 false))
 else (j2 false))
 else (j2 false))
 else (j2 false))
 else (j2 false))
 else (j2 false))
 else (j2 false))
 else (j2 false))
def Lh(p0:List Aa)(p1:Af):Option Int :=
 bnd (Hh p1) fun r2=>
 if r2=true then (bnd (Hp p0) fun r8=>
 if r8=true then (some 0)
 else (some 70))
 else (some 71)
def Li(p0:List Aa)(p1:Aa)(p2:Af):(Bool×Int)->Option (Sum (Bool×Int) (Sum Bool Bool)):=fun s0=>
 if s0.2<(p0.length:Int) then (jn (fun (s1:Bool)=>
 some (.inl (s1,w64 (s0.2+1))))
 (fun j0=>jn (fun (s2:Bool)=>
 if s2=true then (j0 s0.1)
 else (bnd (idx p0 s0.2) fun x0=>
 if (w64 (x0.Z.Lo-p1.Z.Hi))<=p2.Low then (some (.inr (.inr false)))
 else (j0 true)))
 (fun j1=>bnd (idx p0 s0.2) fun x1=>
 if x1.Id=p1.Id then (j1 true)
 else (bnd (idx p0 s0.2) fun x2=>
 bnd (Bu x2 p1) fun r0=>
 j1 (decide ((w64 (p2.Link*p2.Link))<r0))))))
 else (some (.inr (.inl s0.1)))
def Ji(p0:List Aa)(p1:Aa)(p2:Af):Option Bool :=
 jn (fun (s3:Bool)=>
 some s3)
 (fun j3=>bnd (lfix (Li p0 p1 p2) (false,0)) fun t0=>
 (match t0 with
 |(.inl z0)=>j3 z0
 |(.inr z0)=>some z0
 ))
def Hu(p0:Aa)(p1:Aa):Option Bool :=
 jn (fun (s2:Bool)=>
 some s2)
 (fun j2=>if p0.Z.Hi<p1.Z.Hi then (j2 true)
 else (if p0.Z.Hi=p1.Z.Hi then (j2 (decide (p0.Id<p1.Id)))
 else (j2 false)))
def Hj(p0:List Aa)(s0:List Aa×Int):(Bool×Int)->Option (Sum (Bool×Int) Bool):=fun s1=>
 if s1.2<(p0.length:Int) then (jn (fun (s2:Bool)=>
 some (.inl (s2,w64 (s1.2+1))))
 (fun j0=>if s1.1=true then (bnd (idx p0 s1.2) fun x0=>
 bnd (idx p0 s0.2) fun x1=>
 bnd (Bu x0 x1) fun r0=>
 if 0<r0 then (j0 true)
 else (bnd (idx p0 s1.2) fun x2=>
 bnd (idx p0 s0.2) fun x3=>
 bnd (Hu x2 x3) fun r1=>
 j0 (!(r1))))
 else (j0 false)))
 else (some (.inr s1.1))
def Hk(p0:List Aa):(List Aa×Int)->Option (Sum (List Aa×Int) (List Aa)):=fun s0=>
 if s0.2<(p0.length:Int) then (jn (fun (s1:List Aa)=>
 some (.inl (s1,w64 (s0.2+1))))
 (fun j0=>jn (fun (s2:Bool)=>
 if s2=true then (bnd (idx p0 s0.2) fun x0=>
 gd ((s0.1.length+1)*72<=140737488355328)<|
 j0 (s0.1++[x0]))
 else (j0 s0.1))
 (fun j1=>bnd (lfix (Hj p0 s0) (true,0)) fun t0=>
 j1 t0)))
 else (some (.inr s0.1))
def Hv(p0:List Aa):Option (List Aa):=
 jn (fun (s3:List Aa)=>
 some s3)
 (fun j3=>bnd (lfix (Hk p0) (([]:List Aa),0)) fun t0=>
 j3 t0)
def Jo(p0:List Aa):(List Aa×Int)->Option (Sum (List Aa×Int) (List Aa)):=fun s0=>
 if s0.2<(p0.length:Int) then (jn (fun (s1:List Aa)=>
 some (.inl (s1,w64 (s0.2+1))))
 (fun j0=>bnd (idx p0 s0.2) fun x0=>
 bnd (idx p0 s0.2) fun x1=>
 if x0.Num=x1.Of then (bnd (idx p0 s0.2) fun x2=>
 gd ((s0.1.length+1)*72<=140737488355328)<|
 j0 (s0.1++[x2]))
 else (j0 s0.1)))
 else (some (.inr s0.1))
def Ku(p0:List Aa):Option (List Aa):=
 jn (fun (s3:List Aa)=>
 some s3)
 (fun j3=>bnd (lfix (Jo p0) (([]:List Aa),0)) fun t0=>
 j3 t0)
def Et(p0:List Aa)(p1:Af):(List Aa×Int)->Option (Sum (List Aa×Int) (List Aa)):=fun s0=>
 if s0.2<(p0.length:Int) then (jn (fun (s1:List Aa)=>
 some (.inl (s1,w64 (s0.2+1))))
 (fun j0=>bnd (idx p0 s0.2) fun x0=>
 bnd (Ji p0 x0 p1) fun r0=>
 if r0=true then (j0 s0.1)
 else (bnd (idx p0 s0.2) fun x1=>
 gd ((s0.1.length+1)*72<=140737488355328)<|
 j0 (s0.1++[x1]))))
 else (some (.inr s0.1))
def En(p0:List Aa)(p1:Af):Option (List Aa):=
 jn (fun (s3:List Aa)=>
 bnd (Ku s3) fun r0=>
 bnd (Hv r0) fun r1=>
 some r1)
 (fun j3=>bnd (lfix (Et p0 p1) (([]:List Aa),0)) fun t0=>
 j3 t0)
def Ha(p0:Int)(p1:Int):Option Int :=
 if p0<0 then (gd (p1≠0)<|
 some (w64 (-(w64 (Int.tdiv (w64 ((w64 (p1-1))-p0)) p1)))))
 else (gd (p1≠0)<|
 some (w64 (Int.tdiv p0 p1)))
def It(r8:List Aa)(s0:List Aa×Int)(p1:Af):(Bool×Int)->Option (Sum (Bool×Int) Bool):=fun s1=>
 if s1.2<(r8.length:Int) then (jn (fun (s2:Bool)=>
 some (.inl (s2,w64 (s1.2+1))))
 (fun j0=>jn (fun (s3:Bool)=>
 if s1.1=true then (if s3=true then (bnd (idx r8 s1.2) fun x0=>
 bnd (idx r8 s0.2) fun x1=>
 bnd (Hu x0 x1) fun r0=>
 j0 (!(r0)))
 else (j0 true))
 else (j0 false))
 (fun j1=>bnd (idx r8 s1.2) fun x2=>
 bnd (idx r8 s0.2) fun x3=>
 bnd (Ha x2.X p1.Cell) fun r1=>
 bnd (Ha x3.X p1.Cell) fun r2=>
 if r1=r2 then (bnd (idx r8 s1.2) fun x4=>
 bnd (idx r8 s0.2) fun x5=>
 bnd (Ha x4.Y p1.Cell) fun r3=>
 bnd (Ha x5.Y p1.Cell) fun r4=>
 j1 (decide (r3=r4)))
 else (j1 false))))
 else (some (.inr s1.1))
def Jp(r8:List Aa)(p1:Af):(List Aa×Int)->Option (Sum (List Aa×Int) (List Aa)):=fun s0=>
 if s0.2<(r8.length:Int) then (jn (fun (s1:List Aa)=>
 some (.inl (s1,w64 (s0.2+1))))
 (fun j0=>jn (fun (s2:Bool)=>
 if s2=true then (bnd (idx r8 s0.2) fun x0=>
 gd ((s0.1.length+1)*72<=140737488355328)<|
 j0 (s0.1++[x0]))
 else (j0 s0.1))
 (fun j1=>bnd (lfix (It r8 s0 p1) (true,0)) fun t0=>
 j1 t0)))
 else (some (.inr s0.1))
def Pe(p0:List Aa)(p1:Af):Option (LI×Int):=
 bnd (Lh p0 p1) fun r2=>
 if r2=0 then (bnd (En p0 p1) fun r8=>
 jn (fun (s8:List Aa)=>
 bnd (Dl s8) fun r0=>
 some (r0,0))
 (fun j8=>bnd (lfix (Jp r8 p1) (([]:List Aa),0)) fun t0=>
 j8 t0))
 else (some (([]:LI),r2))
def Pw(p0:List Ab):Int->Option (Sum Int (Sum Unit Bool)):=fun s0=>
 if s0<(p0.length:Int) then (bnd (idx p0 s0) fun x0=>
 bnd (Ks x0) fun r0=>
 if r0=true then (some (.inl (w64 (s0+1))))
 else (some (.inr (.inr false))))
 else (some (.inr (.inl ())))
def Aba(p0:List Ab):Option Bool :=
 jn (fun (s2:Unit)=>
 jn (fun (s0:Bool)=>
 some s0)
 (fun j0=>if 3<=(p0.length:Int) then (j0 (decide ((p0.length:Int)<=64)))
 else (j0 false)))
 (fun j2=>bnd (lfix (Pw p0) 0) fun t0=>
 (match t0 with
 |(.inl z0)=>j2 z0
 |(.inr z0)=>some z0
 ))
def Ge(p0:LI)(p1:LI):Int->Option (Sum Int (Sum Unit Bool)):=fun s0=>
 if s0<(p0.length:Int) then (bnd (idx p0 s0) fun x0=>
 bnd (idx p1 s0) fun x1=>
 if x0=x1 then (some (.inl (w64 (s0+1))))
 else (some (.inr (.inr false))))
 else (some (.inr (.inl ())))
def Jq(p0:LI)(p1:LI):Option Bool :=
 if (p0.length:Int)=(p1.length:Int) then (jn (fun (s5:Unit)=>
 some true)
 (fun j5=>bnd (lfix (Ge p0 p1) 0) fun t0=>
 (match t0 with
 |(.inl z0)=>j5 z0
 |(.inr z0)=>some z0
 )))
 else (some false)
def Uw(p0:Aa)(p1:Aa):Option Int :=
 some (w64 (p0.Id-p1.Id))
theorem Aw0{l:List Aa}{x y:Aa}(hx:ptIn l x)(hy:ptIn l y):Uw x y=some (So x y):=by
 have h1:=hx.2.2 x hx.1;have h2:=hy.2.2 y hy.1;unfold Uw So;rw[Aq oo oo]
instance(p0:Af):Con (Hh p0) prog 35 (fun _ vs=>vs=[.agg #[iq p0.Cell,iq p0.Reach,iq p0.Slope,iq p0.Link,iq p0.Flat,iq p0.Tall,iq p0.High,iq p0.Low,iq p0.Brush,iq p0.Few]]) (fun _ r=>fun v Ln=>v=.bool r/\Ln=[]/\True):=⟨by
 rintro _ _ r rfl hx w hK;unfold Hh at hx;refine CtS ntmps35 results35 ?_;refine pq ?_;intros;rename_i hx
 refine pA ?_;intros;rename_i hx
 apply Jr (γ:=Unit) hx [] (fun s2 y2 f=>(2,.bool s2)::f) [999] (fun s2 y2 l=>l);exact kk
 .exact aI
 .refine pI ?_;intros;rename_i hx
  refine Cq3 (s:=6) hx rfl ?_ ?_
  .refine pI ?_;intros;rename_i hx
   refine Cq3 (s:=11) hx rfl ?_ ?_
   .refine pI ?_;intros;rename_i hx
    refine Cq3 (s:=16) hx rfl ?_ ?_
    .refine pI ?_;intros;rename_i hx
     refine Cq3 (s:=21) hx rfl ?_ ?_
     .exact aI
     .exact aI
    .exact aI
   .exact aI
  .exact aI⟩
instance(p0:List Aa)(p1:Af):Con (Lh p0 p1) prog 45 (fun K vs=>∃U0 E0,vs=[.slice U0 p0.length E0,.agg #[iq p1.Cell,iq p1.Reach,iq p1.Slope,iq p1.Link,iq p1.Flat,iq p1.Tall,iq p1.High,iq p1.Low,iq p1.Brush,iq p1.Few]]/\Has K U0 p0.length E0 9 Ah p0/\True) (fun _ r=>fun v Ln=>v=iq r/\Ln=[]/\True):=⟨by
 rintro K _ r ⟨U0,E0,rfl,ha0,-⟩ hx w hK;replace ha0:=ha0.lo hK;unfold Lh at hx;refine CtS ntmps45 results45 ?_;exact au⟩
instance(p0:List Aa)(p1:Aa)(p2:Af):Con (Ji p0 p1 p2) prog 56 (fun K vs=>∃U0 E0,vs=[.slice U0 p0.length E0,.agg #[iq p1.Id,iq p1.X,iq p1.Y,iq p1.Z.Lo,iq p1.Z.Hi,iq p1.Wide,iq p1.Num,iq p1.Of,iq p1.Class],.agg #[iq p2.Cell,iq p2.Reach,iq p2.Slope,iq p2.Link,iq p2.Flat,iq p2.Tall,iq p2.High,iq p2.Low,iq p2.Brush,iq p2.Few]]/\Has K U0 p0.length E0 9 Ah p0/\True) (fun _ r=>fun v Ln=>v=.bool r/\Ln=[]/\True):=⟨by
 rintro K _ r ⟨U0,E0,rfl,ha0,-⟩ hx w hK;replace ha0:=ha0.lo hK;unfold Ji at hx;have:=dl 5 [0,0,0,0,1,0,1,0,0,0,0,0,1,1,2,0,1,0,1,0,0,0] [0,1,2,3,4,5,6,7,8,9,10,11,12,13,15,16,17,18,19,14,20,21];have:=dl 6 [0,0,0,0,0,1,0,0,1,0,0,1,0] [0,1,2,3,4,5,6,7,8,9,10,11,12];refine CtS ntmps56 results56 ?_;refine pq ?_;intros;rename_i hx
 refine pA ?_;intros;rename_i hx
 refine pA ?_;intros;rename_i hx
 apply Jr (γ:=Unit) hx [] (fun s3 y3 f=>(7,.bool s3)::f) [999] (fun s3 y3 l=>l);exact kk
 .exact aI
 .refine pI ?_;intros;rename_i hx
  apply Lr (γ:=Unit) hx [0,4,5] (fun s0 y0 f=>(7,.bool s0.1)::(8,iq s0.2)::f) [0,1,999] (fun s0 y0 l=>l) ();exact kk;exact sk;intro s0 y0 x0 hx _;unfold Li at hx;refine pq ?_;intros;rename_i hx
  refine Cq1 (s:=12) hx rfl ?_ ?_
  .refine pI ?_;intros;rename_i hx
   apply Jr (γ:=Unit) hx [0,4,5,8] (fun s1 y1 f=>(7,.bool s1)::f) [0,1,999] (fun s1 y1 l=>l);exact kk
   .exact aI
   .refine pI ?_;intros;rename_i hx
    refine pA ?_;intros;rename_i hx
    apply Jr (γ:=Unit) hx [0,4,5,7,8] (fun s2 y2 f=>(36,.bool s2)::f) [0,1,999] (fun s2 y2 l=>l);exact kk
    .exact aI
    .exact aI
  .exact aI⟩
instance(p0:Aa)(p1:Aa):Con (Hu p0 p1) prog 100 (fun _ vs=>vs=[.agg #[iq p0.Id,iq p0.X,iq p0.Y,iq p0.Z.Lo,iq p0.Z.Hi,iq p0.Wide,iq p0.Num,iq p0.Of,iq p0.Class],.agg #[iq p1.Id,iq p1.X,iq p1.Y,iq p1.Z.Lo,iq p1.Z.Hi,iq p1.Wide,iq p1.Num,iq p1.Of,iq p1.Class]]) (fun _ r=>fun v Ln=>v=.bool r/\Ln=[]/\True):=⟨by
 rintro _ _ r rfl hx w hK;unfold Hu at hx;refine CtS ntmps100 results100 ?_;exact au⟩
instance(p0:List Aa):Con (Hv p0) prog 107 (fun K vs=>∃U0 E0,vs=[.slice U0 p0.length E0]/\Has K U0 p0.length E0 9 Ah p0/\True) (fun _ r=>fun v Ln=>∃A0 c0,v=.slice A0 r.length c0/\Ln=[.r A0 r.length c0 30 9 (r.flatMap Ah)]/\True):=⟨by
 rintro K _ r ⟨U0,E0,rfl,ha0,-⟩ hx w hK;replace ha0:=ha0.lo hK;unfold Hv at hx;have:=dl 9 [0,0,0,0,0,1,0,0,0,1,2,0,0,0,0,0,1,0,0,0,1,2,0,0,0,2] [0,1,2,3,4,5,6,7,8,9,10,11,12,13,14,15,16,17,18,19,20,21,22,23,24,25];refine CtS ntmps107 results107 ?_;refine pq ?_;intros;rename_i hx
 refine pA ?_;intros;rename_i hx
 refine pA ?_;intros;rename_i hx
 apply Jr (γ:=OA×Nat) hx [] (fun s3 y3 f=>(3,.slice y3.1 s3.length y3.2)::f) [999] (fun s3 y3 l=>.r y3.1 s3.length y3.2 30 9 (s3.flatMap Ah)::l);exact kk
 .exact aI
 .refine pI ?_;intros;rename_i hx
  refine Bb 30 9 ?_;apply Lr (γ:=OA×Nat) hx [0] (fun s0 y0 f=>(3,.slice y0.1 s0.1.length y0.2)::(4,iq s0.2)::f) [999] (fun s0 y0 l=>.r y0.1 s0.1.length y0.2 30 9 (s0.1.flatMap Ah)::l) (_,_);exact kk;exact sk;intro s0 y0 x0 hx _;unfold Hk at hx;refine pq ?_;intros;rename_i hx
  refine Cq1 (s:=10) hx rfl ?_ ?_
  .refine pI ?_;intros;rename_i hx
   apply Jr (γ:=OA×Nat) hx [0,4] (fun s1 y1 f=>(3,.slice y1.1 s1.length y1.2)::f) [999] (fun s1 y1 l=>.r y1.1 s1.length y1.2 30 9 (s1.flatMap Ah)::l);exact kk
   .exact aI
   .refine pI ?_;intros;rename_i hx
    refine pA ?_;intros;rename_i hx
    apply Jr (γ:=Unit) hx [0,3,4] (fun s2 y2 f=>(5,.bool s2)::f) [0,999] (fun s2 y2 l=>l);exact kk
    .exact aI
    .refine pI ?_;intros;rename_i hx
     apply Lr (γ:=Unit) hx [0,3,4] (fun s4 y4 f=>(5,.bool s4.1)::(6,iq s4.2)::f) [0,999] (fun s4 y4 l=>l) ();exact kk;exact sk;intro s4 y4 x1 hx _;unfold Hj at hx;refine pq ?_;intros;rename_i hx
     refine Cq1 (s:=16) hx rfl ?_ ?_
     .exact aI
     .exact aI
  .exact aI⟩
instance(p0:List Aa):Con (Ku p0) prog 152 (fun K vs=>∃U0 E0,vs=[.slice U0 p0.length E0]/\Has K U0 p0.length E0 9 Ah p0/\True) (fun _ r=>fun v Ln=>∃A0 c0,v=.slice A0 r.length c0/\Ln=[.r A0 r.length c0 30 9 (r.flatMap Ah)]/\True):=⟨by
 rintro K _ r ⟨U0,E0,rfl,ha0,-⟩ hx w hK;replace ha0:=ha0.lo hK;unfold Ku at hx;have:=dl 5 [0,0,0,0,1,0,0,0,0,1,0] [0,1,2,3,4,5,6,7,8,9,10];refine CtS ntmps152 results152 ?_;refine pq ?_;intros;rename_i hx
 refine pA ?_;intros;rename_i hx
 refine pA ?_;intros;rename_i hx
 apply Jr (γ:=OA×Nat) hx [] (fun s3 y3 f=>(3,.slice y3.1 s3.length y3.2)::f) [999] (fun s3 y3 l=>.r y3.1 s3.length y3.2 30 9 (s3.flatMap Ah)::l);exact kk
 .exact aI
 .refine pI ?_;intros;rename_i hx
  refine Bb 30 9 ?_;apply Lr (γ:=OA×Nat) hx [0] (fun s0 y0 f=>(3,.slice y0.1 s0.1.length y0.2)::(4,iq s0.2)::f) [999] (fun s0 y0 l=>.r y0.1 s0.1.length y0.2 30 9 (s0.1.flatMap Ah)::l) (_,_);exact kk;exact sk;intro s0 y0 x0 hx _;unfold Jo at hx;exact au⟩
instance(p0:List Aa)(p1:Af):Con (En p0 p1) prog 99 (fun K vs=>∃U0 E0,vs=[.slice U0 p0.length E0,.agg #[iq p1.Cell,iq p1.Reach,iq p1.Slope,iq p1.Link,iq p1.Flat,iq p1.Tall,iq p1.High,iq p1.Low,iq p1.Brush,iq p1.Few]]/\Has K U0 p0.length E0 9 Ah p0/\True) (fun _ r=>fun v Ln=>∃A0 c0,v=.slice A0 r.length c0/\Ln=[.r A0 r.length c0 30 9 (r.flatMap Ah)]/\True):=⟨by
 rintro K _ r ⟨U0,E0,rfl,ha0,-⟩ hx w hK;replace ha0:=ha0.lo hK;unfold En at hx;have:=dl 5 [0,0,0,0,1,1,2,0] [0,1,2,3,4,5,6,7];refine CtS ntmps99 results99 ?_;refine pq ?_;intros;rename_i hx
 refine pA ?_;intros;rename_i hx
 refine pA ?_;intros;rename_i hx
 apply Jr (γ:=OA×Nat) hx [] (fun s3 y3 f=>(5,.slice y3.1 s3.length y3.2)::f) [999] (fun s3 y3 l=>.r y3.1 s3.length y3.2 30 9 (s3.flatMap Ah)::l);exact kk
 .exact aI
 .refine pI ?_;intros;rename_i hx
  refine Bb 30 9 ?_;apply Lr (γ:=OA×Nat) hx [0,3] (fun s0 y0 f=>(5,.slice y0.1 s0.1.length y0.2)::(6,iq s0.2)::f) [1,999] (fun s0 y0 l=>.r y0.1 s0.1.length y0.2 30 9 (s0.1.flatMap Ah)::l) (_,_);exact kk;exact sk;intro s0 y0 x0 hx _;unfold Et at hx;exact au⟩
instance(p0:Int)(p1:Int):Con (Ha p0 p1) prog 101 (fun _ vs=>vs=[iq p0,iq p1]) (fun _ r=>fun v Ln=>v=iq r/\Ln=[]/\True):=⟨by
 rintro _ _ r rfl hx w hK;unfold Ha at hx;refine CtS ntmps101 results101 ?_;exact au⟩
instance(p0:List Aa)(p1:Af):Con (Pe p0 p1) prog 50 (fun K vs=>∃U0 E0,vs=[.slice U0 p0.length E0,.agg #[iq p1.Cell,iq p1.Reach,iq p1.Slope,iq p1.Link,iq p1.Flat,iq p1.Tall,iq p1.High,iq p1.Low,iq p1.Brush,iq p1.Few]]/\Has K U0 p0.length E0 9 Ah p0/\True) (fun _ r=>fun v Ln=>∃A0 c0,v=.tuple #[.slice A0 r.1.length c0,iq r.2]/\Ln=[.r A0 r.1.length c0 3 1 (r.1.flatMap Aj)]/\True):=⟨by
 rintro K _ r ⟨U0,E0,rfl,ha0,-⟩ hx w hK;replace ha0:=ha0.lo hK;unfold Pe at hx;have:=dl 13 [0,0,0,0,1,0,1,2,0,0,0,0,1,0,1,2,0,0,0,0,0,0,1,0,1,2,0,0,0,0,1,0,1,2,0,0,2] [0,1,2,3,4,5,6,8,9,10,11,12,13,14,7,15,16,17,18,19,20,21,22,23,24,26,27,28,29,30,31,32,25,33,34,35,36];have:=dl 14 [0,0,0,0,0,0,0,0,1,0,0,0,1,2,0,0,0,2] [0,1,2,3,4,5,6,7,8,9,10,11,12,13,14,15,16,17];refine CtS ntmps50 results50 ?_;refine pq ?_;intros;rename_i hx
 refine Cq2 (s:=17) hx rfl ?_ ?_
 .exact aI
 .refine pI ?_;intros;rename_i hx
  refine pA ?_;intros;rename_i hx
  apply Jr (γ:=OA×Nat) hx [] (fun s8 y8 f=>(8,.slice y8.1 s8.length y8.2)::f) [999] (fun s8 y8 l=>.r y8.1 s8.length y8.2 30 9 (s8.flatMap Ah)::l);exact kk
  .exact aI
  .refine pI ?_;intros;rename_i hx
   refine Bb 30 9 ?_;apply Lr (γ:=OA×Nat) hx [3,7] (fun s0 y0 f=>(8,.slice y0.1 s0.1.length y0.2)::(9,iq s0.2)::f) [1,2,999] (fun s0 y0 l=>.r y0.1 s0.1.length y0.2 30 9 (s0.1.flatMap Ah)::l) (_,_);exact kk;exact sk;intro s0 y0 x0 hx _;unfold Jp at hx;refine pq ?_;intros;rename_i hx
   refine Cq1 (s:=25) hx rfl ?_ ?_
   .refine pI ?_;intros;rename_i hx
    apply Jr (γ:=OA×Nat) hx [3,7,9] (fun s1 y1 f=>(8,.slice y1.1 s1.length y1.2)::f) [1,2,999] (fun s1 y1 l=>.r y1.1 s1.length y1.2 30 9 (s1.flatMap Ah)::l);exact kk
    .exact aI
    .refine pI ?_;intros;rename_i hx
     refine pA ?_;intros;rename_i hx
     apply Jr (γ:=Unit) hx [3,7,8,9] (fun s2 y2 f=>(10,.bool s2)::f) [0,1,2,999] (fun s2 y2 l=>l);exact kk
     .exact aI
     .refine pI ?_;intros;rename_i hx
      apply Lr (γ:=Unit) hx [3,7,8,9] (fun s3 y3 f=>(10,.bool s3.1)::(11,iq s3.2)::f) [0,1,2,999] (fun s3 y3 l=>l) ();exact kk;exact sk;intro s3 y3 x1 hx _;unfold It at hx;refine pq ?_;intros;rename_i hx
      refine Cq1 (s:=31) hx rfl ?_ ?_
      .refine pI ?_;intros;rename_i hx
       apply Jr (γ:=Unit) hx [3,7,8,9,11] (fun s4 y4 f=>(10,.bool s4)::f) [0,1,2,999] (fun s4 y4 l=>l);exact kk
       .exact aI
       .refine pI ?_;intros;rename_i hx
        apply Jr (γ:=Unit) hx [3,7,8,9,10,11] (fun s5 y5 f=>(12,.bool s5)::f) [0,1,2,999] (fun s5 y5 l=>l);exact kk
        .exact aI
        .exact aI
      .exact aI
   .exact aI⟩
instance(p0:LI)(p1:LI):Con (Jq p0 p1) prog 18 (fun K vs=>∃U0 E0 U1 E1,vs=[.slice U0 p0.length E0,.slice U1 p1.length E1]/\Has K U0 p0.length E0 1 Aj p0/\Has K U1 p1.length E1 1 Aj p1/\True) (fun _ r=>fun v Ln=>v=.bool r/\Ln=[]/\True):=⟨by
 rintro K _ r ⟨U0,E0,U1,E1,rfl,ha0,ha1,-⟩ hx w hK;replace ha0:=ha0.lo hK;replace ha1:=ha1.lo hK;unfold Jq at hx;have:=dl 6 [0,0,0,1,0,0,0,1,0] [0,1,2,3,4,5,6,7,8];refine CtS ntmps18 results18 ?_;refine pq ?_;intros;rename_i hx
 refine Cq2 (s:=10) hx rfl ?_ ?_
 .exact aI
 .refine pI ?_;intros;rename_i hx
  apply Jr (γ:=Unit) hx [] (fun s5 y5 f=>f) [999] (fun s5 y5 l=>l);exact kk
  .exact aI
  .refine pI ?_;intros;rename_i hx
   apply Lr (γ:=Unit) hx [0,1] (fun s33 y33 f=>(5,iq s33)::f) [999] (fun s33 y33 l=>l) ();exact kk;exact sk;intro s33 y33 x33 hx _;unfold Ge at hx;exact au⟩
instance Aij(p0:Aa)(p1:Aa):Con (Uw p0 p1) prog 154 (fun _ vs=>vs=[.agg #[iq p0.Id,iq p0.X,iq p0.Y,iq p0.Z.Lo,iq p0.Z.Hi,iq p0.Wide,iq p0.Num,iq p0.Of,iq p0.Class],.agg #[iq p1.Id,iq p1.X,iq p1.Y,iq p1.Z.Lo,iq p1.Z.Hi,iq p1.Wide,iq p1.Num,iq p1.Of,iq p1.Class]]) (fun _ r=>fun v Ln=>v=iq r/\Ln=[]/\True):=⟨by
 rintro _ _ r rfl hx w hK;unfold Uw at hx;refine CtS ntmps154 results154 ?_;exact au⟩
theorem Agu(p0:Aa)(p1:Aa){r:Int}(hx:Uw p0 p1=some r)(w:World):CtL prog 154 [.agg #[iq p0.Id,iq p0.X,iq p0.Y,iq p0.Z.Lo,iq p0.Z.Hi,iq p0.Wide,iq p0.Num,iq p0.Of,iq p0.Class],.agg #[iq p1.Id,iq p1.X,iq p1.Y,iq p1.Z.Lo,iq p1.Z.Hi,iq p1.Wide,iq p1.Num,iq p1.Of,iq p1.Class]] w fun v Ln=>v=iq r/\Ln=[]/\True:=(Aij p0 p1).h [] _ _ rfl hx w (fun _ h=>absurd h List.not_mem_nil)
end
end Go.Proofs.YthlkpgdfifnagaaGreat
