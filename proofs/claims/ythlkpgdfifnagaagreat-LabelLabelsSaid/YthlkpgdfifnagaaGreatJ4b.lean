import Derived.Test.YthlkpgdfifnagaaGreatQ1
set_option maxRecDepth 100000
set_option maxHeartbeats 1000000
namespace Go.Proofs.YthlkpgdfifnagaaGreat
open Go Go.RowKit Tryz
noncomputable section
def Bh(p0:Int)(p1:Int)(p2:Int):Option Bool :=
 jn (fun (s2:Bool)=>
 some s2)
 (fun j2=>if p1<=p0 then (j2 (decide (p0<=p2)))
 else (j2 false))
def Ic(p0:Ab):Option Bool :=
 jn (fun (s2:Bool)=>
 some s2)
 (fun j2=>if (-268435456)<=p0.X then (if p0.X<=268435456 then (if (-268435456)<=p0.Y then (j2 (decide (p0.Y<=268435456)))
 else (j2 false))
 else (j2 false))
 else (j2 false))
def St(p0:Aa):Option Bool :=
 jn (fun (s2:Bool)=>
 some s2)
 (fun j2=>bnd (Bh p0.Id 0 1152921504606846976) fun r2=>
 if r2=true then (bnd (Ic (⟨p0.X,p0.Y⟩:Ab)) fun r7=>
 if r7=true then (if p0.Z.Lo<=p0.Z.Hi then (if (-268435456)<=p0.Z.Lo then (if p0.Z.Hi<=268435456 then (bnd (Bh p0.Wide 0 268435456) fun r0=>
 if r0=true then (bnd (Bh p0.Num 1 p0.Of) fun r1=>
 if r1=true then (j2 (decide (p0.Of<=15)))
 else (j2 false))
 else (j2 false))
 else (j2 false))
 else (j2 false))
 else (j2 false))
 else (j2 false))
 else (j2 false))
def Hc(s0:Int)(p0:List Aa):Int->Option (Sum Int (Sum Unit Bool)):=fun s1=>
 if s1<s0 then (bnd (idx p0 s1) fun x0=>
 bnd (idx p0 s0) fun x1=>
 if x0.Id=x1.Id then (some (.inr (.inr false)))
 else (some (.inl (w64 (s1+1)))))
 else (some (.inr (.inl ())))
def Eg(p0:List Aa):Int->Option (Sum Int (Sum Unit Bool)):=fun s0=>
 if s0<(p0.length:Int) then (jn (fun (s1:Unit)=>
 some (.inl (w64 (s0+1))))
 (fun j0=>bnd (idx p0 s0) fun x0=>
 bnd (St x0) fun r0=>
 if r0=true then (bnd (lfix (Hc s0 p0) 0) fun t0=>
 (match t0 with
 |(.inl z0)=>j0 z0
 |(.inr z0)=>some (.inr (.inr z0))
 ))
 else (some (.inr (.inr false)))))
 else (some (.inr (.inl ())))
def Fw(p0:List Aa):Option Bool :=
 if 1024<(p0.length:Int) then (some false)
 else (jn (fun (s5:Unit)=>
 some true)
 (fun j5=>bnd (lfix (Eg p0) 0) fun t0=>
 (match t0 with
 |(.inl z0)=>j5 z0
 |(.inr z0)=>some z0
 )))
def Bw(p0:Aa)(p1:Aa):Option Int :=
 some (w64 ((w64 ((w64 (p0.X-p1.X))*(w64 (p0.X-p1.X))))+(w64 ((w64 (p0.Y-p1.Y))*(w64 (p0.Y-p1.Y))))))
def Od(s0:LI×Int)(p0:List Aa):Int->Option (Sum Int Int):=fun s1=>
 jn (fun (s2:Bool)=>
 if s2=true then (some (.inl (w64 (s1-1))))
 else (some (.inr s1)))
 (fun j0=>if 0<s1 then (bnd (idx s0.1 (w64 (s1-1))) fun x0=>
 bnd (idx p0 s0.2) fun x1=>
 j0 (decide (x1.Id<x0)))
 else (j0 false))
def Oe(p0:List Aa):(LI×Int)->Option (Sum (LI×Int) LI):=fun s0=>
 if s0.2<(p0.length:Int) then (jn (fun (s1:Int)=>
 gd (0<=s1/\s1<=(s0.1.length:Int))<|
 bnd (idx p0 s0.2) fun x0=>
 gd (0<=s1/\s1<=(s0.1.length:Int))<|
 gd ((([x0.Id]).length+(subl s0.1 s1 (s0.1.length:Int)).length)*8<=140737488355328)<|
 gd (((subl s0.1 0 s1).length+(([x0.Id])++(subl s0.1 s1 (s0.1.length:Int))).length)*8<=140737488355328)<|
 gd (0<(([x0.Id])++(subl s0.1 s1 (s0.1.length:Int))).length)<|
 some (.inl ((subl s0.1 0 s1)++(([x0.Id])++(subl s0.1 s1 (s0.1.length:Int))),w64 (s0.2+1))))
 (fun j0=>bnd (lfix (Od s0 p0) (s0.1.length:Int)) fun t0=>
 j0 t0))
 else (some (.inr s0.1))
def Dn(p0:List Aa):Option LI:=
 jn (fun (s3:LI)=>
 some s3)
 (fun j3=>bnd (lfix (Oe p0) (([]:LI),0)) fun t0=>
 j3 t0)
def Sk(p0:LI)(p1:Int):Int->Option (Sum Int (Sum Unit Bool)):=fun s0=>
 if s0<(p0.length:Int) then (bnd (idx p0 s0) fun x0=>
 if x0=p1 then (some (.inr (.inr true)))
 else (some (.inl (w64 (s0+1)))))
 else (some (.inr (.inl ())))
def Fd(p0:LI)(p1:Int):Option Bool :=
 jn (fun (s2:Unit)=>
 some false)
 (fun j2=>bnd (lfix (Sk p0 p1) 0) fun t0=>
 (match t0 with
 |(.inl z0)=>j2 z0
 |(.inr z0)=>some z0
 ))
def Je(p0:List Aa)(r1:LI)(s0:List Aa×Int):(List Aa×Int)->Option (Sum (List Aa×Int) (List Aa)):=fun s1=>
 if s1.2<(p0.length:Int) then (jn (fun (s2:List Aa)=>
 some (.inl (s2,w64 (s1.2+1))))
 (fun j0=>bnd (idx p0 s1.2) fun x0=>
 bnd (idx r1 s0.2) fun x1=>
 if x0.Id=x1 then (bnd (idx p0 s1.2) fun x2=>
 gd ((s1.1.length+1)*72<=140737488355328)<|
 j0 (s1.1++[x2]))
 else (j0 s1.1)))
 else (some (.inr s1.1))
def Og(r1:LI)(p0:List Aa):(List Aa×Int)->Option (Sum (List Aa×Int) (List Aa)):=fun s0=>
 if s0.2<(r1.length:Int) then (jn (fun (s1:List Aa)=>
 some (.inl (s1,w64 (s0.2+1))))
 (fun j0=>bnd (lfix (Je p0 r1 s0) (s0.1,0)) fun t0=>
 j0 t0))
 else (some (.inr s0.1))
def Eo(p0:List Aa):Option (List Aa):=
 bnd (Dn p0) fun r1=>
 jn (fun (s4:List Aa)=>
 some s4)
 (fun j4=>bnd (lfix (Og r1 p0) (([]:List Aa),0)) fun t0=>
 j4 t0)
def Ie(p1:LI):Int->Option (Sum Int (Sum Unit (List Aa×Bool))):=fun s0=>
 if s0<(p1.length:Int) then (gd (0<=s0/\s0<=(p1.length:Int))<|
 bnd (idx p1 s0) fun x0=>
 bnd (Fd (subl p1 0 s0) x0) fun r0=>
 if r0=true then (some (.inr (.inr (([]:List Aa),false))))
 else (some (.inl (w64 (s0+1)))))
 else (some (.inr (.inl ())))
def Mc(p0:List Aa)(p1:LI):(List Aa×Int)->Option (Sum (List Aa×Int) (List Aa)):=fun s0=>
 if s0.2<(p0.length:Int) then (jn (fun (s1:List Aa)=>
 some (.inl (s1,w64 (s0.2+1))))
 (fun j0=>bnd (idx p0 s0.2) fun x0=>
 bnd (Fd p1 x0.Id) fun r0=>
 if r0=true then (bnd (idx p0 s0.2) fun x1=>
 gd ((s0.1.length+1)*72<=140737488355328)<|
 j0 (s0.1++[x1]))
 else (j0 s0.1)))
 else (some (.inr s0.1))
def Nj(p0:List Aa)(p1:LI):Option (List Aa×Bool):=
 jn (fun (s2:Unit)=>
 jn (fun (s0:List Aa)=>
 if (s0.length:Int)=(p1.length:Int) then (bnd (Eo s0) fun r0=>
 some (r0,true))
 else (some (([]:List Aa),false)))
 (fun j0=>bnd (lfix (Mc p0 p1) (([]:List Aa),0)) fun t0=>
 j0 t0))
 (fun j2=>bnd (lfix (Ie p1) 0) fun t1=>
 (match t1 with
 |(.inl z0)=>j2 z0
 |(.inr z0)=>some z0
 ))
def If(s0:List Ae×Int)(p0:List Aa)(x0:Aa)(x1:Aa)(x2:Aa):Int->Option (Sum Int (Sum (List Ae) (Al×Int))):=fun s1=>
 if s1<s0.2 then (bnd (idx p0 s1) fun x3=>
 bnd (idx p0 s0.2) fun x4=>
 bnd (Bw x3 x4) fun r0=>
 if r0=0 then (some (.inr (.inr ((⟨([]:List Ae),([]:List Ah),([]:List Ad)⟩:Al),11))))
 else (some (.inl (w64 (s1+1)))))
 else (some (.inr (.inl (s0.1++[(⟨x0.X,x1.Y,x2.Z⟩:Ae)]))))
def Ig(p0:List Aa):(List Ae×Int)->Option (Sum (List Ae×Int) (Sum (List Ae) (Al×Int))):=fun s0=>
 if s0.2<(p0.length:Int) then (jn (fun (s1:List Ae)=>
 some (.inl (s1,w64 (s0.2+1))))
 (fun j0=>bnd (idx p0 s0.2) fun x0=>
 bnd (idx p0 s0.2) fun x1=>
 bnd (idx p0 s0.2) fun x2=>
 gd ((s0.1.length+1)*32<=140737488355328)<|
 bnd (lfix (If s0 p0 x0 x1 x2) 0) fun t0=>
 (match t0 with
 |(.inl z0)=>j0 z0
 |(.inr z0)=>some (.inr (.inr z0))
 )))
 else (some (.inr (.inl s0.1)))
def Fj(p0:List Aa):Option (Al×Int):=
 jn (fun (s3:List Ae)=>
 bnd (Ld s3 ([]:List Ad)) fun r0=>
 some (r0.1,r0.2))
 (fun j3=>bnd (lfix (Ig p0) (([]:List Ae),0)) fun t0=>
 (match t0 with
 |(.inl z0)=>j3 z0
 |(.inr z0)=>some z0
 ))
def Md(p0:List Aa)(p1:LI):Option (Al×Int):=
 bnd (Fw p0) fun r2=>
 if r2=true then (bnd (Nj p0 p1) fun r8=>
 if r8.2=true then (bnd (Fj r8.1) fun r0=>
 some (r0.1,r0.2))
 else (some ((⟨([]:List Ae),([]:List Ah),([]:List Ad)⟩:Al),2)))
 else (some ((⟨([]:List Ae),([]:List Ah),([]:List Ad)⟩:Al),70))
instance(p0:Int)(p1:Int)(p2:Int):Con (Bh p0 p1 p2) prog 80 (fun _ vs=>vs=[iq p0,iq p1,iq p2]) (fun _ r v Ln=>v=.bool r/\Ln=[]/\True):=⟨by
 rintro _ _ r rfl hx w hK;unfold Bh at hx;refine CtS ntmps80 results80 ?_;exact au⟩
instance(p0:Ab):Con (Ic p0) prog 81 (fun _ vs=>vs=[.agg #[iq p0.X,iq p0.Y]]) (fun _ r v Ln=>v=.bool r/\Ln=[]/\True):=⟨by
 rintro _ _ r rfl hx w hK;unfold Ic at hx;refine CtS ntmps81 results81 ?_;exact au⟩
instance(p0:Aa):Con (St p0) prog 36 (fun _ vs=>vs=[.agg #[iq p0.Id,iq p0.X,iq p0.Y,iq p0.Z.Lo,iq p0.Z.Hi,iq p0.Wide,iq p0.Num,iq p0.Of,iq p0.Class]]) (fun _ r v Ln=>v=.bool r/\Ln=[]/\True):=⟨by
 rintro _ _ r rfl hx w hK;unfold St at hx;refine CtS ntmps36 results36 ?_;refine pq ?_;intros;rename_i hx
 refine pA ?_;intros;rename_i hx
 apply Jr (γ:=Unit) hx [] (fun s2 y2 f=>(2,.bool s2)::f) [999] (fun s2 y2 l=>l);exact kk
 .exact aI
 .refine pI ?_;intros;rename_i hx
  refine Cq3 (s:=6) hx rfl ?_ ?_
  .refine pI ?_;intros;rename_i hx
   refine Cq3 (s:=14) hx rfl ?_ ?_
   .exact aI
   .exact aI
  .exact aI⟩
instance(p0:List Aa):Con (Fw p0) prog 41 (fun K vs=>∃U0 E0,vs=[.slice U0 p0.length E0]/\Has K U0 p0.length E0 9 Ag p0/\True) (fun _ r v Ln=>v=.bool r/\Ln=[]/\True):=⟨by
 rintro K _ r ⟨U0,E0,rfl,ha0,-⟩ hx w hK;replace ha0:=ha0.lo hK;unfold Fw at hx;have:=dl 11 [0,0,0,0,1,0,0,0,0,1,0] [0,1,2,3,4,5,6,7,8,9,10];refine CtS ntmps41 results41 ?_;refine pq ?_;intros;rename_i hx
 refine Cq1 (s:=7) hx rfl ?_ ?_
 .exact aI
 .refine pI ?_;intros;rename_i hx
  apply Jr (γ:=Unit) hx [] (fun s5 y5 f=>f) [999] (fun s5 y5 l=>l);exact kk
  .exact aI
  .refine pI ?_;intros;rename_i hx
   apply Lr (γ:=Unit) hx [0] (fun s85 y85 f=>(3,iq s85)::f) [999] (fun s85 y85 l=>l) ();exact kk;exact sk;intro s85 y85 x85 hx _;unfold Eg at hx;refine pq ?_;intros;rename_i hx
   refine Cq1 (s:=11) hx rfl ?_ ?_
   .refine pI ?_;intros;rename_i hx
    apply Jr (γ:=Unit) hx [0,3] (fun s26 y26 f=>f) [999] (fun s26 y26 l=>l);exact kk
    .exact aI
    .refine pI ?_;intros;rename_i hx
     refine Cq4 (s:=19) hx rfl ?_ ?_
     .exact aI
     .refine pI ?_;intros;rename_i hx
      apply Lr (γ:=Unit) hx [0,3] (fun s135 y135 f=>(4,iq s135)::f) [999] (fun s135 y135 l=>l) ();exact kk;exact sk;intro s135 y135 x135 hx _;unfold Hc at hx;exact au
   .exact aI⟩
instance(p0:Aa)(p1:Aa):Con (Bw p0 p1) prog 87 (fun _ vs=>vs=[.agg #[iq p0.Id,iq p0.X,iq p0.Y,iq p0.Z.Lo,iq p0.Z.Hi,iq p0.Wide,iq p0.Num,iq p0.Of,iq p0.Class],.agg #[iq p1.Id,iq p1.X,iq p1.Y,iq p1.Z.Lo,iq p1.Z.Hi,iq p1.Wide,iq p1.Num,iq p1.Of,iq p1.Class]]) (fun _ r v Ln=>v=iq r/\Ln=[]/\True):=⟨by
 rintro _ _ r rfl hx w hK;unfold Bw at hx;refine CtS ntmps87 results87 ?_;exact au⟩
theorem Afk(p0:List Aa){K:LE}{U0:OA}{E0:Nat}(ha0:Has K U0 p0.length E0 9 Ag p0){r:LI}(hx:Dn p0=some r)(w:World)(hK:∀e∈K,Ent.ok w e):CtL prog 48 [.slice U0 p0.length E0] w fun v Ln=>∃(A0:OA) (c0:Nat),v=.slice A0 r.length c0/\Ln=[.r A0 r.length c0 3 1 (r.flatMap Ak)]/\True:=by
 have ha0':=Has.up0 ha0;refine CtL.mk 47 func48 rfl ntmps48 kr rfl ?_;show T 47 _ [(0,.slice U0 p0.length E0)] _;unfold Dn at hx;refine Y10 ?_;refine Tj (γ:=OA×Nat) hx (fun s3 y3=>[(3,.slice y3.1 s3.length y3.2)]) (fun s3 y3=>[.r y3.1 s3.length y3.2 3 1 (s3.flatMap Ak)]++[.old w]) (fun s3 y3=>True) (fun s3 y3 hx0 hG0=>?_) (fun j3 hx=>?_)
 .refine Y7 ?_;obtain rfl:=oI hx0;exact Pr (rs:=[.tmp 2]) results48 (.tmp rfl (.nil)) (Ln:=[.r y3.1 s3.length y3.2 3 1 (s3.flatMap Ak)]) ⟨y3.1,y3.2,rfl,rfl,trivial⟩ (Bq rfl Gg) (by exact .pick 0 rfl (.refl))
 .refine Y6 ?_;obtain⟨t0,hl0,ho0⟩:=Bk hx;refine Ba 3 1 ?_;have hn0:0=(([]:LI)).length:=by simp[Fn,Amp,List.length_append] <;> omega
  refine An7 (.here) (e':=.r none ((([]:LI)).length) 0 3 1 ((([]:LI)).flatMap Ak)) (by first|(rw[<-hn0];done)|rfl) ?_;refine Lp (σ:=LI×Int) (γ:=OA×Nat) hl0 (fun s0 y0=>[(0,.slice U0 p0.length E0),(3,.slice y0.1 s0.1.length y0.2),(4,iq s0.2)]) (fun s0 y0=>[.r y0.1 s0.1.length y0.2 3 1 (s0.1.flatMap Ak)]++[.old w]) (fun s0 y0=>True) (none,0) trivial (by exact .pick 0 rfl (.refl)) ?_;intro s0 y0 hG1 x0 hx1 ht0;unfold Oe at hx1;refine Y5 ?_;refine Dg (Aap rfl 30 underlying41) rfl ?_;refine Y3 ?_;refine Ti hx1 (s:=9) rfl (fun h0 hx2=>?_) (fun h0 hx3=>?_)
  .refine Y8 ?_;refine Dg (Aap rfl 3 underlying42) rfl ?_;refine Y3 ?_;refine Tj (γ:=Unit) hx2 (fun s1 y1=>[(0,.slice U0 p0.length E0),(3,.slice y0.1 s0.1.length y0.2),(4,iq s0.2),(5,iq s1)]) (fun s1 y1=>[.r y0.1 s0.1.length y0.2 3 1 (s0.1.flatMap Ak)]++[.old w]) (fun s1 y1=>True) (fun s1 y1 hx4 hG2=>?_) (fun j0 hx2=>?_)
   .refine T_dr [0,0,0,0,0,0,0,0,1,2,0,0,0,3,3,2] (.q 0 (.q 1 (.q 2 (.q 3 (.q 4 (.q 5 (.q 6 (.q 7 (.q 8 (.q 10 (.q 11 (.q 12 (.e 9 (.e 13 (.e 14 (.e 15 (.done) (.stop)) (.stop)) (.stop)) (.stop)))))))))))))) mixed kr kr ?_;refine Y3 ?_;refine Amm (k:=0) rfl dD (fun _=>rfl) (fun hn1 hs0=>?_);obtain⟨h1,hx5⟩:=Em hx4;have hs1:=Has.subHM hs0 h1.1 h1.2;refine P_p rfl rfl (Azq rfl rfl rfl Aj1 h1.1 (by have:=Has.nc hs0;omega)) rfl ?_;refine Y2 ?_;obtain⟨x1,h2,hx6⟩:=Bk hx5;have hw0:=Has.low (E:=[]) ha0' hK;obtain⟨b0,o0,j1,hA0,hj0,hl1,hp0⟩:=Has.at_idx hw0 h2;refine P_p rfl rfl (Uv rfl rfl hA0 (j:=j1) hj0 hl1 Aum) rfl ?_;refine P_p rfl rfl (Ut rfl Aim rfl) rfl ?_;refine P_q rfl rfl (Xa (d:=0) rfl hp0 (sb 1) rfl one3) rfl ?_;refine Y2 ?_;refine Amm (k:=0) rfl dD (fun _=>rfl) (fun hn2 hs2=>?_);obtain⟨h3,hx7⟩:=Em hx6;have hs3:=Has.subL hs2 h3.1 h3.2;refine P_p rfl rfl (Asx rfl rfl Aj1 h3.1 h3.2) rfl ?_;refine P_x rfl (Iy rfl (Yh _) rfl (fun g0=>?_)) ?_;rotate_left;exact Aag;refine T_mr (enc:=Ak) (sz:=1) ([x1.Id]) (.here) rfl rfl (fun _=>rfl) (by show 1<=maxLen;decide) ?_;obtain⟨h4,hx8⟩:=Em hx7;refine P_h rfl rfl (Yx Ak ([x1.Id]) (subl s0.1 s1 (s0.1.length:Int)) rfl rfl Alu (fun _=>rfl) hs3 (sb 1) (fun _=>rfl) h4 rfl (fun _ _=>.here) dD (fun A1 c1=>?_)) ?_
    rotate_left;exact Aag;refine Amm (k:=0) rfl dD (fun _=>rfl) (fun hn3 hs4=>?_);obtain⟨h5,hx9⟩:=Em hx8;obtain⟨h6,hx10⟩:=Em hx9;refine P_h rfl rfl (Art Ak (subl s0.1 0 s1) (([x1.Id])++(subl s0.1 s1 (s0.1.length:Int))) rfl rfl Alu (fun _=>rfl) (Has.up (L:=([.r y0.1 s0.1.length y0.2 3 1 (s0.1.flatMap Ak),.r A1 ((([x1.Id])++(subl s0.1 s1 (s0.1.length:Int))).length) c1 3 1 ((([x1.Id])++(subl s0.1 s1 (s0.1.length:Int))).flatMap Ak)]:LE)) hs1 (sb 0)) (Has.up (L:=([.r y0.1 s0.1.length y0.2 3 1 (s0.1.flatMap Ak),.r A1 ((([x1.Id])++(subl s0.1 s1 (s0.1.length:Int))).length) c1 3 1 ((([x1.Id])++(subl s0.1 s1 (s0.1.length:Int))).flatMap Ak)]:LE)) hs4 (sb 1)) (SubE.cons2 (i:=1) rfl (sb 0)) (List.length_pos_iff.1 h6) h5 rfl dD (fun A2 c2=>?_)) ?_;rotate_left;exact Aag;refine P_x rfl (Amh (Tw rfl) rfl ?_) ?_;rotate_left;exact Aag;refine Y8 ?_;exact Rp ((subl s0.1 0 s1)++(([x1.Id])++(subl s0.1 s1 (s0.1.length:Int))),w64 (s0.2+1)) (A2,c2) hx10 trivial (by exact .pick 0 rfl (.drop 0 rfl (.drop 0 rfl (.refl))))
   .refine Y ?_;obtain⟨t1,hl2,ho1⟩:=Bk hx2;refine Lp (σ:=Int) (γ:=Unit) hl2 (fun s2 y2=>[(0,.slice U0 p0.length E0),(3,.slice y0.1 s0.1.length y0.2),(4,iq s0.2),(5,iq s2)]) (fun s2 y2=>[.r y0.1 s0.1.length y0.2 3 1 (s0.1.flatMap Ak)]++[.old w]) (fun s2 y2=>True) () trivial (by exact .pick 0 rfl (.refl)) ?_;intro s2 y2 hG3 x2 hx11 ht1;unfold Od at hx11;refine Y ?_;refine Tj (γ:=Unit) hx11 (fun s4 y4=>[(0,.slice U0 p0.length E0),(3,.slice y0.1 s0.1.length y0.2),(4,iq s0.2),(5,iq s2),(28,.bool s4)]) (fun s4 y4=>[.r y0.1 s0.1.length y0.2 3 1 (s0.1.flatMap Ak)]++[.old w]) (fun s4 y4=>True) (fun s4 y4 hx12 hG4=>?_) (fun j2 hx11=>?_)
    .refine Zt (s:=28) rfl (fun h7=>?_) (fun h7=>?_)
     .have hx13:=Yv h7 hx12;refine Y10 ?_;exact Rp (w64 (s2-1)) () hx13 trivial (by exact .pick 0 rfl (.refl))
     .have hx14:=Aeb h7 hx12;refine Y3 ?_;obtain rfl:=Zw ht1 hx14;refine Y2 ?_;exact Mt s2 () ho1 trivial (by exact .pick 0 rfl (.refl))
    .refine T_dr [0,0,0,0,0,0,0,1,0,0,0,0,1,0,0] (.q 0 (.q 1 (.q 2 (.q 3 (.q 4 (.q 5 (.q 6 (.q 7 (.q 8 (.q 9 (.q 10 (.q 11 (.q 12 (.q 13 (.q 14 (.done)))))))))))))))) mixed kr kr ?_;refine Y3 ?_;refine Ti hx11 (s:=16) rfl (fun h8 hx15=>?_) (fun h8 hx16=>?_)
     .refine Y3 ?_;obtain⟨x3,h9,hx17⟩:=Bk hx15;refine Axm (k:=0) rfl dD (fun _=>rfl) h9 (fun b1 j4 hA1 hj1 hl3 hm0 hp1=>?_);refine P_pG rfl rfl rfl rfl rfl (Uv rfl rfl hA1 (j:=j4) hj1 hl3 Aj1) rfl ?_;refine P_qG rfl rfl rfl rfl rfl (Sc rfl hp1 (sb 0) rfl one3) rfl ?_;refine Y2 ?_;obtain⟨x4,h10,hx18⟩:=Bk hx17;have hw1:=Has.low (E:=[]) ha0' hK;obtain⟨b2,o1,j5,hA2,hj2,hl4,hp2⟩:=Has.at_idx hw1 h10;refine P_pG rfl rfl rfl rfl rfl (Uv rfl rfl hA2 (j:=j5) hj2 hl4 Aum) rfl ?_;refine P_pG rfl rfl rfl rfl rfl (Ut rfl Aim rfl) rfl ?_;refine P_qG rfl rfl rfl rfl rfl (Xa (d:=0) rfl hp2 (sb 1) rfl one3) rfl ?_;refine Y3 ?_;exact Mt (decide (x4.Id<x3)) () hx18 trivial (by exact .pick 0 rfl (.refl))
     ·(iterate 13 refine Y ?_);exact Mt false () hx16 trivial (by exact .pick 0 rfl (.refl))
  .refine Y3 ?_;obtain rfl:=Zw ht0 hx3;refine Y2 ?_;exact Mt s0.1 (y0.1,y0.2) ho0 trivial (by exact .pick 0 rfl (.refl))
instance(p0:List Aa):Con (Dn p0) prog 48 (fun K vs=>∃U0 E0,vs=[.slice U0 p0.length E0]/\Has K U0 p0.length E0 9 Ag p0/\True) (fun _ r v Ln=>∃A0 c0,v=.slice A0 r.length c0/\Ln=[.r A0 r.length c0 3 1 (r.flatMap Ak)]/\True):=⟨by
 rintro K _ r ⟨U0,E0,rfl,ha0,-⟩ hx w hK;exact Afk p0 ha0 hx w hK⟩
instance(p0:LI)(p1:Int):Con (Fd p0 p1) prog 57 (fun K vs=>∃U0 E0,vs=[.slice U0 p0.length E0,iq p1]/\Has K U0 p0.length E0 1 Ak p0/\True) (fun _ r v Ln=>v=.bool r/\Ln=[]/\True):=⟨by
 rintro K _ r ⟨U0,E0,rfl,ha0,-⟩ hx w hK;replace ha0:=ha0.lo hK;unfold Fd at hx;refine CtS ntmps57 results57 ?_;refine pq ?_;intros;rename_i hx
 refine pA ?_;intros;rename_i hx
 apply Jr (γ:=Unit) hx [] (fun s2 y2 f=>f) [999] (fun s2 y2 l=>l);exact kk
 .exact aI
 .refine pI ?_;intros;rename_i hx
  apply Lr (γ:=Unit) hx [0,1] (fun s0 y0 f=>(5,iq s0)::f) [999] (fun s0 y0 l=>l) ();exact kk;exact sk;intro s0 y0 x0 hx _;unfold Sk at hx;exact au⟩
instance(p0:List Aa):Con (Eo p0) prog 64 (fun K vs=>∃U0 E0,vs=[.slice U0 p0.length E0]/\Has K U0 p0.length E0 9 Ag p0/\True) (fun _ r v Ln=>∃A0 c0,v=.slice A0 r.length c0/\Ln=[.r A0 r.length c0 30 9 (r.flatMap Ag)]/\True):=⟨by
 rintro K _ r ⟨U0,E0,rfl,ha0,-⟩ hx w hK;replace ha0:=ha0.lo hK;unfold Eo at hx;have:=dl 9 [0,0,0,0,1,0,0,0,1,0] [0,1,2,3,4,5,6,7,8,9];refine CtS ntmps64 results64 ?_;refine pq ?_;intros;rename_i hx
 refine pA ?_;intros;rename_i hx
 apply Jr (γ:=OA×Nat) hx [] (fun s4 y4 f=>(4,.slice y4.1 s4.length y4.2)::f) [999] (fun s4 y4 l=>.r y4.1 s4.length y4.2 30 9 (s4.flatMap Ag)::l);exact kk
 .exact aI
 .refine pI ?_;intros;rename_i hx
  refine Ba 30 9 ?_;apply Lr (γ:=OA×Nat) hx [0,3] (fun s0 y0 f=>(4,.slice y0.1 s0.1.length y0.2)::(5,iq s0.2)::f) [1,999] (fun s0 y0 l=>.r y0.1 s0.1.length y0.2 30 9 (s0.1.flatMap Ag)::l) (_,_);exact kk;exact sk;intro s0 y0 x0 hx _;unfold Og at hx;refine pq ?_;intros;rename_i hx
  refine Cq1 (s:=12) hx rfl ?_ ?_
  .refine pI ?_;intros;rename_i hx
   apply Jr (γ:=OA×Nat) hx [0,3,5] (fun s1 y1 f=>(4,.slice y1.1 s1.length y1.2)::f) [1,999] (fun s1 y1 l=>.r y1.1 s1.length y1.2 30 9 (s1.flatMap Ag)::l);exact kk
   .exact aI
   .refine pI ?_;intros;rename_i hx
    apply Lr (γ:=OA×Nat) hx [0,3,5] (fun s2 y2 f=>(4,.slice y2.1 s2.1.length y2.2)::(6,iq s2.2)::f) [1,999] (fun s2 y2 l=>.r y2.1 s2.1.length y2.2 30 9 (s2.1.flatMap Ag)::l) (_,_);exact kk;exact sk;intro s2 y2 x1 hx _;unfold Je at hx;exact au
  .exact aI⟩
instance(p0:List Aa)(p1:LI):Con (Nj p0 p1) prog 46 (fun K vs=>∃U0 E0 U1 E1,vs=[.slice U0 p0.length E0,.slice U1 p1.length E1]/\Has K U0 p0.length E0 9 Ag p0/\Has K U1 p1.length E1 1 Ak p1/\True) (fun _ r v Ln=>∃A0 c0,v=.tuple #[.slice A0 r.1.length c0,.bool r.2]/\Ln=[.r A0 r.1.length c0 30 9 (r.1.flatMap Ag)]/\True):=⟨by
 rintro K _ r ⟨U0,E0,U1,E1,rfl,ha0,ha1,-⟩ hx w hK;replace ha0:=ha0.lo hK;replace ha1:=ha1.lo hK;unfold Nj at hx;have:=dl 4 [0,0,0,0,0,0,1,2] [0,1,2,3,4,5,6,7];refine CtS ntmps46 results46 ?_;refine pq ?_;intros;rename_i hx
 refine pA ?_;intros;rename_i hx
 apply Jr (γ:=Unit) hx [0,1] (fun s2 y2 f=>f) [999] (fun s2 y2 l=>l);exact kk
 .intro s2 y2 hx;refine pq ?_;intros;rename_i hx
  refine pA ?_;intros;rename_i hx
  apply Jr (γ:=OA×Nat) hx [1] (fun s0 y0 f=>(7,.slice y0.1 s0.length y0.2)::f) [999] (fun s0 y0 l=>.r y0.1 s0.length y0.2 30 9 (s0.flatMap Ag)::l);exact kk
  .exact aI
  .refine pI ?_;intros;rename_i hx
   refine Ba 30 9 ?_;apply Lr (γ:=OA×Nat) hx [0,1] (fun s1 y1 f=>(7,.slice y1.1 s1.1.length y1.2)::(8,iq s1.2)::f) [999] (fun s1 y1 l=>.r y1.1 s1.1.length y1.2 30 9 (s1.1.flatMap Ag)::l) (_,_);exact kk;exact sk;intro s1 y1 x0 hx _;unfold Mc at hx;exact au
 .refine pI ?_;intros;rename_i hx
  apply Lr (γ:=Unit) hx [0,1] (fun s3 y3 f=>(6,iq s3)::f) [999] (fun s3 y3 l=>l) ();exact kk;exact sk;intro s3 y3 x1 hx _;unfold Ie at hx;exact au⟩
instance(p0:List Aa):Con (Fj p0) prog 98 (fun K vs=>∃U0 E0,vs=[.slice U0 p0.length E0]/\Has K U0 p0.length E0 9 Ag p0/\True) (fun _ r v Ln=>∃A0 c0 A2 c2 A4 c4,v=.tuple #[.agg #[.slice A0 r.1.V.length c0,.slice A2 r.1.T.length c2,.slice A4 r.1.Lines.length c4],iq r.2]/\Ln=[.r A0 r.1.V.length c0 108 4 (r.1.V.flatMap Am),.r A2 r.1.T.length c2 101 3 (r.1.T.flatMap Az),.r A4 r.1.Lines.length c4 103 2 (r.1.Lines.flatMap Ar)]/\True):=⟨by
 rintro K _ r ⟨U0,E0,rfl,ha0,-⟩ hx w hK;replace ha0:=ha0.lo hK;unfold Fj at hx;have:=dl 5 [0,0,0,0,0,1,0,0,0,0,1,0,0,0,0,1,0,2,3,2] [0,1,2,3,4,5,6,7,8,9,10,11,12,13,14,15,16,17,18,19];have:=dl 9 [0,0,0,1,0,0,0,1,2,0] [0,1,2,3,4,5,6,7,8,9];refine CtS ntmps98 results98 ?_;refine pq ?_;intros;rename_i hx
 refine pA ?_;intros;rename_i hx
 refine pA ?_;intros;rename_i hx
 apply Jr (γ:=OA×Nat) hx [2] (fun s3 y3 f=>(4,.slice y3.1 s3.length y3.2)::f) [0,999] (fun s3 y3 l=>.r y3.1 s3.length y3.2 108 4 (s3.flatMap Am)::l);exact kk
 .exact aI
 .refine pI ?_;intros;rename_i hx
  refine Ba 108 4 ?_;apply Lr (γ:=OA×Nat) hx [0,2] (fun s0 y0 f=>(4,.slice y0.1 s0.1.length y0.2)::(5,iq s0.2)::f) [1,999] (fun s0 y0 l=>.r y0.1 s0.1.length y0.2 108 4 (s0.1.flatMap Am)::l) (_,_);exact kk;exact sk;intro s0 y0 x0 hx _;unfold Ig at hx;refine pq ?_;intros;rename_i hx
  refine Cq1 (s:=10) hx rfl ?_ ?_
  .refine pI ?_;intros;rename_i hx
   apply Jr (γ:=OA×Nat) hx [0,2,5] (fun s1 y1 f=>(4,.slice y1.1 s1.length y1.2)::f) [1,999] (fun s1 y1 l=>.r y1.1 s1.length y1.2 108 4 (s1.flatMap Am)::l);exact kk
   .exact aI
   .refine pI ?_;intros;rename_i hx
    apply Lr (γ:=Unit) hx [0,2,4,5] (fun s2 y2 f=>(6,iq s2)::f) [0,1,999] (fun s2 y2 l=>l) ();exact kk;exact sk;intro s2 y2 x1 hx _;unfold If at hx;exact au
  .exact aI⟩
instance(p0:List Aa)(p1:LI):Con (Md p0 p1) prog 53 (fun K vs=>∃U0 E0 U1 E1,vs=[.slice U0 p0.length E0,.slice U1 p1.length E1]/\Has K U0 p0.length E0 9 Ag p0/\Has K U1 p1.length E1 1 Ak p1/\True) (fun _ r v Ln=>∃A0 c0 A2 c2 A4 c4,v=.tuple #[.agg #[.slice A0 r.1.V.length c0,.slice A2 r.1.T.length c2,.slice A4 r.1.Lines.length c4],iq r.2]/\Ln=[.r A0 r.1.V.length c0 108 4 (r.1.V.flatMap Am),.r A2 r.1.T.length c2 101 3 (r.1.T.flatMap Az),.r A4 r.1.Lines.length c4 103 2 (r.1.Lines.flatMap Ar)]/\True):=⟨by
 rintro K _ r ⟨U0,E0,U1,E1,rfl,ha0,ha1,-⟩ hx w hK;replace ha0:=ha0.lo hK;replace ha1:=ha1.lo hK;unfold Md at hx;refine CtS ntmps53 results53 ?_;exact au⟩
instance(x0:Int)(x1:Int):Ji prog 28 [(0,iq x0),(1,iq x1)] [iq x0,iq x1]:=⟨fun w=>kr⟩
instance(x0:Int)(x1:Int)(x2:Int)(x3:Int)(x4:Int):Ji prog 30 [(0,iq x0),(3,.agg #[iq x1,iq x2]),(5,iq x3),(6,iq x4)] [iq x0,iq 0,iq 0,iq x1,iq x2,iq 0,iq x3,iq x4,iq 0]:=⟨fun w=>kr⟩
instance(x0:Int)(x1:Int)(x2:Int)(x3:Int)(x4:Int)(x5:Int)(x6:Int):Ji prog 30 [(0,iq x0),(1,iq x1),(2,iq x2),(3,.agg #[iq x3,iq x4]),(5,iq x5),(6,iq x6)] [iq x0,iq x1,iq x2,iq x3,iq x4,iq 0,iq x5,iq x6,iq 0]:=⟨fun w=>kr⟩
instance(x0:Int)(x1:Int)(x2:Int)(x3:Int)(x4:Int)(x5:Int):Ji prog 30 [(0,iq x0),(1,iq x1),(3,.agg #[iq x2,iq x3]),(5,iq x4),(6,iq x5)] [iq x0,iq x1,iq 0,iq x2,iq x3,iq 0,iq x4,iq x5,iq 0]:=⟨fun w=>kr⟩
instance(x0:Int)(x1:Int)(x2:Int)(x3:Int)(x4:Int)(x5:Int)(x6:Int)(x7:Int)(x8:Int)(x9:Int)(x10:Int)(x11:Int)(x12:Int)(x13:Int)(x14:Int)(x15:Int)(x16:Int)(x17:Int)(x18:Int)(x19:Int)(x20:Int)(x21:Int)(x22:Int)(x23:Int)(x24:Int)(x25:Int)(x26:Int):Oo prog 41 3 [(0,.agg #[iq x0,iq x1,iq x2,iq x3,iq x4,iq x5,iq x6,iq x7,iq x8]),(1,.agg #[iq x9,iq x10,iq x11,iq x12,iq x13,iq x14,iq x15,iq x16,iq x17]),(2,.agg #[iq x18,iq x19,iq x20,iq x21,iq x22,iq x23,iq x24,iq x25,iq x26])] 30 [iq x0,iq x1,iq x2,iq x3,iq x4,iq x5,iq x6,iq x7,iq x8,iq x9,iq x10,iq x11,iq x12,iq x13,iq x14,iq x15,iq x16,iq x17,iq x18,iq x19,iq x20,iq x21,iq x22,iq x23,iq x24,iq x25,iq x26]:=⟨fun w=>kr⟩
instance(x0:Int)(x1:Int)(x2:Int):Ji prog 32 [(0,iq x0),(3,iq x1),(9,iq x2)] [iq x0,iq 0,iq 0,iq x1,iq 0,iq 0,iq 0,iq 0,iq 0,iq x2]:=⟨fun w=>kr⟩
def Rm(p0:List Aa)(p1:Int):Option Bool :=
 jn (fun (s2:Bool)=>
 some s2)
 (fun j2=>if 300<(p0.length:Int) then (j2 true)
 else (if p1<(p0.length:Int) then (bnd (Fw p0) fun r6=>
 j2 r6)
 else (j2 false)))
def Ih  : Option Bool :=
 bnd (Iz ([(⟨0,0⟩:Ab),(⟨4,0⟩:Ab),(⟨4,4⟩:Ab),(⟨0,4⟩:Ab)]) (⟨4,2⟩:Ab)) fun r3=>
 bnd (Iz ([(⟨0,0⟩:Ab),(⟨4,0⟩:Ab),(⟨4,4⟩:Ab),(⟨0,4⟩:Ab)]) (⟨5,2⟩:Ab)) fun r7=>
 bnd (Sw ([(⟨1,0,0,(⟨3,3⟩:Av),0,1,1,0⟩:Aa),(⟨2,5,5,(⟨1,1⟩:Av),0,1,1,0⟩:Aa),(⟨3,12,0,(⟨2,2⟩:Av),0,1,1,0⟩:Aa)]) (⟨10,0,0,1,0,0,0,0,0,1⟩:Af)) fun r0=>
 jn (fun (s6:Bool)=>
 some s6)
 (fun j6=>if r3.2=0 then (if r7.2=0 then (if r3.1=true then (if r7.1=true then (j6 false)
 else (if r0.2=0 then (if (r0.1.length:Int)=2 then (bnd (idx r0.1 0) fun x0=>
 if x0=2 then (bnd (idx r0.1 1) fun x1=>
 j6 (decide (x1=3)))
 else (j6 false))
 else (j6 false))
 else (j6 false)))
 else (j6 false))
 else (j6 false))
 else (j6 false))
instance(p0:List Aa)(p1:Int):Con (Rm p0 p1) prog 15 (fun K vs=>∃U0 E0,vs=[.slice U0 p0.length E0,iq p1]/\Has K U0 p0.length E0 9 Ag p0/\True) (fun _ r v Ln=>v=.bool r/\Ln=[]/\True):=⟨by
 rintro K _ r ⟨U0,E0,rfl,ha0,-⟩ hx w hK;replace ha0:=ha0.lo hK;unfold Rm at hx;refine CtS ntmps15 results15 ?_;exact au⟩
instance  : Con Ih prog 10 (fun _ vs=>vs=[]) (fun _ r v Ln=>v=.bool r/\Ln=[]/\True):=⟨by
 rintro _ _ r rfl hx w hK;unfold Ih at hx;refine CtS ntmps10 results10 ?_;refine pq ?_;intros;rename_i hx
 apply Jr (γ:=Unit) hx [] (fun s6 y6 f=>(0,.bool s6)::f) [999] (fun s6 y6 l=>l);exact kk
 .exact aI
 .refine pI ?_;intros;rename_i hx
  refine Cq1 (s:=39) hx rfl ?_ ?_
  .refine pI ?_;intros;rename_i hx
   refine Cq1 (s:=43) hx rfl ?_ ?_
   .exact aI
   .exact aI
  .exact aI⟩
theorem Ao0  : Ov prog 42 0 [] 3 []:=fun w=>kr
instance:Oo prog 42 0 [] 3 []:=⟨Ao0⟩
instance:Kt prog 50 86 4:=⟨.mk underlying50 (kr:prog.info? 86=some t86) kr⟩
instance:AggI prog 86 4:=⟨.mk underlying86 rfl (kr:prog.info? 86=some t86) kr⟩
instance:Ur prog 86 [iq 0,.slice none 0 0,iq 0,iq 0]:=⟨⟨_,zeroValue86,rfl⟩⟩
instance:Bt prog 86 1 1:=⟨.mk underlying86 rfl rfl (kr:prog.info? 58=some t58) (kr:t58.size=1) rfl⟩
instance:OneI prog 58:=⟨.mk underlying58 rfl (kr:prog.info? 58=some t58) kr⟩
instance:Bt prog 86 3 3:=⟨.mk underlying86 rfl rfl (kr:prog.info? 3=some Tryz.t3) (kr:Tryz.t3.size=1) rfl⟩
instance:Bt prog 86 2 2:=⟨.mk underlying86 rfl rfl (kr:prog.info? 3=some Tryz.t3) (kr:Tryz.t3.size=1) rfl⟩
instance:Bt prog 86 0 0:=⟨.mk underlying86 rfl rfl (kr:prog.info? 3=some Tryz.t3) (kr:Tryz.t3.size=1) rfl⟩
def Yp(p0:LI):Option LI:=gd (p0.length*8<=140737488355328) <| some p0
theorem Am1(p0:List Int){K:List Ent}{U0:Option Addr}{E0:Nat}(ha0:Has K U0 p0.length E0 1 Ak p0){r:List Int}(hx:Yp p0=some r)(w:World)(hK:∀ e∈K,Ent.ok w e):
  CtL prog 94 [.slice U0 p0.length E0] w (fun v Ln=>∃(A0:OA) (c0:Nat),v=.slice A0 r.length c0/\Ln=[.r A0 r.length c0 3 1 (r.flatMap Ak)]/\True):=by
 obtain⟨hb,hx⟩:=Em hx;obtain rfl:=oI hx;have ha:Has [.old w] U0 p0.length E0 1 Ak p0:=Has.low (E:=[]) (by rw[List.append_nil];exact ha0) hK;refine CtL.mk 8 func94 rfl ntmps94 kr rfl ?_;show T 8 _ [(0,.slice U0 p0.length E0)] _;refine Y9 ?_;refine Dg (Ags underlying42 rfl rfl) rfl ?_;refine Y2 ?_;cases hA:U0 with
 |none=>
  subst hA;have h0:p0=[]:=by
   cases p0 with
   |nil=>rfl
   |cons x r=>obtain⟨b,o,h,_⟩:=ha.at_ s_;cases h
  subst h0;refine Y8 ?_;refine Ba 3 1 ?_;exact Pr (rs:=[.tmp 2]) results94 (.tmp rfl .nil) (Ln:=[.r none 0 0 3 1 []]) ⟨none,0,rfl,rfl,trivial⟩ (Bq rfl Gg) (.pick 0 rfl (.pick 0 rfl .refl))
 |some a=>
  subst hA;refine Y5 ?_;refine T_x (Iy rfl Ao0 rfl (fun g5=>?_));refine Y ?_;refine T_mr (enc:=Ak) (sz:=1) (([]:LI)) (.here) rfl rfl (fun _=>rfl) dD ?_;refine T_h (Yx Ak ([]:LI) p0 rfl rfl Alu (fun _=>rfl) ha (sb 1) (fun _=>rfl) (by rw[List.length_nil,Nat.zero_add];exact hb) rfl (fun _ _=>.here) dD (fun A1 c1=>?_));refine Y4 ?_;exact Pr (rs:=[.tmp 2]) results94 (.tmp rfl .nil) (Ln:=[.r A1 p0.length c1 3 1 (p0.flatMap Ak)]) ⟨A1,c1,rfl,rfl,trivial⟩ (Bq rfl Gg) (.pick 0 rfl (.pick 0 rfl .refl))
instance(p0:LI):Con (Yp p0) prog 94 (fun K vs=>∃U0 E0,vs=[.slice U0 p0.length E0]/\Has K U0 p0.length E0 1 Ak p0/\True) (fun _ r v Ln=>∃A0 c0,v=.slice A0 r.length c0/\Ln=[.r A0 r.length c0 3 1 (r.flatMap Ak)]/\True):=⟨by rintro K _ r ⟨A,c,rfl,ha,-⟩ hx w hK;exact Am1 p0 ha hx w hK⟩
def Ky(p0:Int):Option Bool :=
 jn (fun (s4:Bool)=>
 if s4=true then (some true)
 else (some false))
 (fun j4=>if p0=0 then (j4 true)
 else (if p0=1 then (j4 true)
 else (if p0=2 then (j4 true)
 else (if p0=5 then (j4 true)
 else (if p0=6 then (j4 true)
 else (j4 (decide (p0=7))))))))
structure Bc where
 Id:Int
 Ring:List Ab
 From:Int
 To:Int
instance:UndI prog 50 (.slice 86):=⟨underlying50⟩
def Ii(K:LE)(x:Bc)(ys:LV):Prop:=∃(A0:OA) (c0:Nat),ys=[iq x.Id,.slice A0 x.Ring.length c0,iq x.From,iq x.To]/\Has K A0 x.Ring.length c0 2 Fh x.Ring
theorem Ahy{K L:LE}{x:Bc}{ys:LV}(hK:SubE K L)(h:Ii K x ys):Ii L x ys:=by
 obtain⟨A0,c0,h0,h1⟩:=h;exact⟨A0,c0,h0,Has.up h1 hK⟩
instance:LoN Ii:={u:=Ahy,h:=fun h hK=>(by obtain⟨A0,c0,h0,h1⟩:=h;exact⟨A0,c0,h0,Has.lo h1 hK⟩)}
def Kd(p0:List Bc):Int->Option (Sum Int (Sum Unit Int)):=fun s0=>
 if s0<(p0.length:Int) then (bnd (idx p0 s0) fun x0=>
 jn (fun (s1:Bool)=>
 if s1=true then (some (.inr (.inr 73)))
 else (some (.inl (w64 (s0+1)))))
 (fun j0=>if 0<(x0.Ring.length:Int) then (bnd (Nu x0.Ring) fun r0=>
 if r0=true then (bnd (Ky x0.To) fun r1=>
 if r1=true then (if 0<(x0.Ring.length:Int) then (if x0.From=(-1) then (j0 false)
 else (bnd (Ky x0.From) fun r2=>
 j0 (!(r2))))
 else (j0 false))
 else (j0 true))
 else (j0 true))
 else (bnd (Ky x0.To) fun r3=>
 if r3=true then (if 0<(x0.Ring.length:Int) then (if x0.From=(-1) then (j0 false)
 else (bnd (Ky x0.From) fun r4=>
 j0 (!(r4))))
 else (j0 false))
 else (j0 true))))
 else (some (.inr (.inl ())))
def Py(p0:List Bc):Option Int :=
 if 64<(p0.length:Int) then (some 2)
 else (jn (fun (s5:Unit)=>
 some 0)
 (fun j5=>bnd (lfix (Kd p0) 0) fun t0=>
 (match t0 with
 |(.inl z0)=>j5 z0
 |(.inr z0)=>some z0
 )))
def Ui(p0:Bc)(p1:Aa)(p2:Int):Option Bool :=
 if (p0.Ring.length:Int)=0 then (some (decide (p0.Id=p1.Id)))
 else (jn (fun (s5:Bool)=>
 some s5)
 (fun j5=>if p0.From=(-1) then (bnd (Bp p1) fun r8=>
 bnd (Rc p0.Ring r8) fun r0=>
 j5 r0)
 else (if p0.From=p2 then (bnd (Bp p1) fun r1=>
 bnd (Rc p0.Ring r1) fun r2=>
 j5 r2)
 else (j5 false))))
def Ij(p2:List Bc)(s0:LI×Int)(x0:Aa):(LI×Int)->Option (Sum (LI×Int) LI):=fun s1=>
 if s1.2<(p2.length:Int) then (jn (fun (s2:LI)=>
 some (.inl (s2,w64 (s1.2+1))))
 (fun j0=>bnd (idx p2 s1.2) fun x1=>
 bnd (idx s1.1 s0.2) fun x2=>
 bnd (Ui x1 x0 x2) fun r0=>
 if r0=true then (bnd (idx s1.1 s0.2) fun x3=>
 j0 (setI s1.1 s0.2 x1.To))
 else (j0 s1.1)))
 else (some (.inr s1.1))
def Me(p0:List Aa)(p2:List Bc):(LI×Int)->Option (Sum (LI×Int) LI):=fun s0=>
 if s0.2<(p0.length:Int) then (jn (fun (s1:LI)=>
 some (.inl (s1,w64 (s0.2+1))))
 (fun j0=>bnd (idx p0 s0.2) fun x0=>
 bnd (lfix (Ij p2 s0 x0) (s0.1,0)) fun t0=>
 j0 t0))
 else (some (.inr s0.1))
def Rn(p0:List Aa)(p1:LI)(p2:List Bc):Option LI:=
 bnd (Yp p1) fun r1=>
 jn (fun (s3:LI)=>
 some s3)
 (fun j3=>bnd (lfix (Me p0 p2) (r1,0)) fun t0=>
 j3 t0)
def Hv(p0:Af):Option Bool :=
 jn (fun (s2:Bool)=>
 some s2)
 (fun j2=>bnd (Bh p0.Cell 1 10000000) fun r2=>
 if r2=true then (bnd (Bh p0.Reach 0 1000000) fun r7=>
 if r7=true then (bnd (Bh p0.Slope 0 100000) fun r0=>
 if r0=true then (bnd (Bh p0.Link 1 1000000) fun r1=>
 if r1=true then (bnd (Bh p0.Flat 0 1000000) fun r3=>
 if r3=true then (bnd (Bh p0.Tall 0 1000000) fun r4=>
 if r4=true then (bnd (Bh p0.High 0 1000000) fun r5=>
 if r5=true then (bnd (Bh p0.Low 0 1000000) fun r6=>
 if r6=true then (bnd (Bh p0.Brush 0 1000000) fun r8=>
 if r8=true then (bnd (Bh p0.Few 1 1024) fun r9=>
 j2 r9)
 else (j2 false))
 else (j2 false))
 else (j2 false))
 else (j2 false))
 else (j2 false))
 else (j2 false))
 else (j2 false))
 else (j2 false))
 else (j2 false))
def Mf(p0:List Aa)(p1:Af):Option Int :=
 bnd (Hv p1) fun r2=>
 if r2=true then (bnd (Fw p0) fun r8=>
 if r8=true then (some 0)
 else (some 70))
 else (some 71)
def Mg(p0:List Aa)(p1:Aa)(p2:Af):(Bool×Int)->Option (Sum (Bool×Int) (Sum Bool Bool)):=fun s0=>
 if s0.2<(p0.length:Int) then (jn (fun (s1:Bool)=>
 some (.inl (s1,w64 (s0.2+1))))
 (fun j0=>jn (fun (s2:Bool)=>
 if s2=true then (j0 s0.1)
 else (bnd (idx p0 s0.2) fun x0=>
 if (w64 (x0.Z.Lo-p1.Z.Hi))<=p2.Low then (some (.inr (.inr false)))
 else (j0 true)))
 (fun j1=>bnd (idx p0 s0.2) fun x1=>
 if x1.Id=p1.Id then (j1 true)
 else (bnd (idx p0 s0.2) fun x2=>
 bnd (Bw x2 p1) fun r0=>
 j1 (decide ((w64 (p2.Link*p2.Link))<r0))))))
 else (some (.inr (.inl s0.1)))
def Jv(p0:List Aa)(p1:Aa)(p2:Af):Option Bool :=
 jn (fun (s3:Bool)=>
 some s3)
 (fun j3=>bnd (lfix (Mg p0 p1 p2) (false,0)) fun t0=>
 (match t0 with
 |(.inl z0)=>j3 z0
 |(.inr z0)=>some z0
 ))
def Ik(p0:Aa)(p1:Aa):Option Bool :=
 jn (fun (s2:Bool)=>
 some s2)
 (fun j2=>if p0.Z.Hi<p1.Z.Hi then (j2 true)
 else (if p0.Z.Hi=p1.Z.Hi then (j2 (decide (p0.Id<p1.Id)))
 else (j2 false)))
def Hw(p0:List Aa)(s0:List Aa×Int):(Bool×Int)->Option (Sum (Bool×Int) Bool):=fun s1=>
 if s1.2<(p0.length:Int) then (jn (fun (s2:Bool)=>
 some (.inl (s2,w64 (s1.2+1))))
 (fun j0=>if s1.1=true then (bnd (idx p0 s1.2) fun x0=>
 bnd (idx p0 s0.2) fun x1=>
 bnd (Bw x0 x1) fun r0=>
 if 0<r0 then (j0 true)
 else (bnd (idx p0 s1.2) fun x2=>
 bnd (idx p0 s0.2) fun x3=>
 bnd (Ik x2 x3) fun r1=>
 j0 (!(r1))))
 else (j0 false)))
 else (some (.inr s1.1))
def Hx(p0:List Aa):(List Aa×Int)->Option (Sum (List Aa×Int) (List Aa)):=fun s0=>
 if s0.2<(p0.length:Int) then (jn (fun (s1:List Aa)=>
 some (.inl (s1,w64 (s0.2+1))))
 (fun j0=>jn (fun (s2:Bool)=>
 if s2=true then (bnd (idx p0 s0.2) fun x0=>
 gd ((s0.1.length+1)*72<=140737488355328)<|
 j0 (s0.1++[x0]))
 else (j0 s0.1))
 (fun j1=>bnd (lfix (Hw p0 s0) (true,0)) fun t0=>
 j1 t0)))
 else (some (.inr s0.1))
def Il(p0:List Aa):Option (List Aa):=
 jn (fun (s3:List Aa)=>
 some s3)
 (fun j3=>bnd (lfix (Hx p0) (([]:List Aa),0)) fun t0=>
 j3 t0)
def Ke(p0:List Aa):(List Aa×Int)->Option (Sum (List Aa×Int) (List Aa)):=fun s0=>
 if s0.2<(p0.length:Int) then (jn (fun (s1:List Aa)=>
 some (.inl (s1,w64 (s0.2+1))))
 (fun j0=>bnd (idx p0 s0.2) fun x0=>
 bnd (idx p0 s0.2) fun x1=>
 if x0.Num=x1.Of then (bnd (idx p0 s0.2) fun x2=>
 gd ((s0.1.length+1)*72<=140737488355328)<|
 j0 (s0.1++[x2]))
 else (j0 s0.1)))
 else (some (.inr s0.1))
def Le(p0:List Aa):Option (List Aa):=
 jn (fun (s3:List Aa)=>
 some s3)
 (fun j3=>bnd (lfix (Ke p0) (([]:List Aa),0)) fun t0=>
 j3 t0)
def Fe(p0:List Aa)(p1:Af):(List Aa×Int)->Option (Sum (List Aa×Int) (List Aa)):=fun s0=>
 if s0.2<(p0.length:Int) then (jn (fun (s1:List Aa)=>
 some (.inl (s1,w64 (s0.2+1))))
 (fun j0=>bnd (idx p0 s0.2) fun x0=>
 bnd (Jv p0 x0 p1) fun r0=>
 if r0=true then (j0 s0.1)
 else (bnd (idx p0 s0.2) fun x1=>
 gd ((s0.1.length+1)*72<=140737488355328)<|
 j0 (s0.1++[x1]))))
 else (some (.inr s0.1))
def Es(p0:List Aa)(p1:Af):Option (List Aa):=
 jn (fun (s3:List Aa)=>
 bnd (Le s3) fun r0=>
 bnd (Il r0) fun r1=>
 some r1)
 (fun j3=>bnd (lfix (Fe p0 p1) (([]:List Aa),0)) fun t0=>
 j3 t0)
def Hm(p0:Int)(p1:Int):Option Int :=
 if p0<0 then (gd (p1≠0)<|
 some (w64 (-(w64 (Int.tdiv (w64 ((w64 (p1-1))-p0)) p1)))))
 else (gd (p1≠0)<|
 some (w64 (Int.tdiv p0 p1)))
def Jf(r8:List Aa)(s0:List Aa×Int)(p1:Af):(Bool×Int)->Option (Sum (Bool×Int) Bool):=fun s1=>
 if s1.2<(r8.length:Int) then (jn (fun (s2:Bool)=>
 some (.inl (s2,w64 (s1.2+1))))
 (fun j0=>jn (fun (s3:Bool)=>
 if s1.1=true then (if s3=true then (bnd (idx r8 s1.2) fun x0=>
 bnd (idx r8 s0.2) fun x1=>
 bnd (Ik x0 x1) fun r0=>
 j0 (!(r0)))
 else (j0 true))
 else (j0 false))
 (fun j1=>bnd (idx r8 s1.2) fun x2=>
 bnd (idx r8 s0.2) fun x3=>
 bnd (Hm x2.X p1.Cell) fun r1=>
 bnd (Hm x3.X p1.Cell) fun r2=>
 if r1=r2 then (bnd (idx r8 s1.2) fun x4=>
 bnd (idx r8 s0.2) fun x5=>
 bnd (Hm x4.Y p1.Cell) fun r3=>
 bnd (Hm x5.Y p1.Cell) fun r4=>
 j1 (decide (r3=r4)))
 else (j1 false))))
 else (some (.inr s1.1))
def Kf(r8:List Aa)(p1:Af):(List Aa×Int)->Option (Sum (List Aa×Int) (List Aa)):=fun s0=>
 if s0.2<(r8.length:Int) then (jn (fun (s1:List Aa)=>
 some (.inl (s1,w64 (s0.2+1))))
 (fun j0=>jn (fun (s2:Bool)=>
 if s2=true then (bnd (idx r8 s0.2) fun x0=>
 gd ((s0.1.length+1)*72<=140737488355328)<|
 j0 (s0.1++[x0]))
 else (j0 s0.1))
 (fun j1=>bnd (lfix (Jf r8 s0 p1) (true,0)) fun t0=>
 j1 t0)))
 else (some (.inr s0.1))
def Pz(p0:List Aa)(p1:Af):Option (LI×Int):=
 bnd (Mf p0 p1) fun r2=>
 if r2=0 then (bnd (Es p0 p1) fun r8=>
 jn (fun (s8:List Aa)=>
 bnd (Dn s8) fun r0=>
 some (r0,0))
 (fun j8=>bnd (lfix (Kf r8 p1) (([]:List Aa),0)) fun t0=>
 j8 t0))
 else (some (([]:LI),r2))
def Rq(p0:Ab)(p1:Ab)(p2:Ab):Option Int :=
 if (w64 ((w64 ((w64 (p1.X-p0.X))*(w64 (p2.Y-p0.Y))))-(w64 ((w64 (p1.Y-p0.Y))*(w64 (p2.X-p0.X))))))<0 then (some (-1))
 else (if 0<(w64 ((w64 ((w64 (p1.X-p0.X))*(w64 (p2.Y-p0.Y))))-(w64 ((w64 (p1.Y-p0.Y))*(w64 (p2.X-p0.X)))))) then (some 1)
 else (some 0))
def Mh(p0:List Ab):Int->Option (Sum Int (Sum Unit Bool)):=fun s0=>
 if s0<(p0.length:Int) then (bnd (idx p0 s0) fun x0=>
 bnd (Ic x0) fun r0=>
 if r0=true then (some (.inl (w64 (s0+1))))
 else (some (.inr (.inr false))))
 else (some (.inr (.inl ())))
def Nk(p0:List Ab):Option Bool :=
 jn (fun (s2:Unit)=>
 jn (fun (s0:Bool)=>
 some s0)
 (fun j0=>if 3<=(p0.length:Int) then (j0 (decide ((p0.length:Int)<=64)))
 else (j0 false)))
 (fun j2=>bnd (lfix (Mh p0) 0) fun t0=>
 (match t0 with
 |(.inl z0)=>j2 z0
 |(.inr z0)=>some z0
 ))
def Jg(p0:List Ab)(p1:Ab):(Bool×Int)->Option (Sum (Bool×Int) (Sum Bool (Bool×Int))):=fun s0=>
 if s0.2<(p0.length:Int) then (jn (fun (s1:Bool)=>
 some (.inl (s1,w64 (s0.2+1))))
 (fun j0=>jn (fun (s2:Int×Int×Int×Int)=>
 bnd (Rq (⟨s2.1,s2.2.1⟩:Ab) (⟨s2.2.2.1,s2.2.2.2⟩:Ab) p1) fun r0=>
 jn (fun (s3:Bool)=>
 if s3=true then (some (.inr (.inr (true,0))))
 else (jn (fun (s4:Bool)=>
 jn (fun (s5:Bool)=>
 jn (fun (s6:Bool)=>
 if s6=true then (j0 (!(s0.1)))
 else (j0 s0.1))
 (fun j1=>if s4=true then (if 0<r0 then (j1 true)
 else (if s5=true then (j1 (decide (r0<0)))
 else (j1 false)))
 else (if s5=true then (j1 (decide (r0<0)))
 else (j1 false))))
 (fun j2=>if p1.Y<s2.2.1 then (j2 (decide (s2.2.2.2<=p1.Y)))
 else (j2 false)))
 (fun j3=>if s2.2.1<=p1.Y then (j3 (decide (p1.Y<s2.2.2.2)))
 else (j3 false))))
 (fun j4=>if r0=0 then (bnd (Bh p1.X (min s2.1 s2.2.2.1) (max s2.1 s2.2.2.1)) fun r1=>
 if r1=true then (bnd (Bh p1.Y (min s2.2.1 s2.2.2.2) (max s2.2.1 s2.2.2.2)) fun r2=>
 j4 r2)
 else (j4 false))
 else (j4 false)))
 (fun j5=>bnd (idx p0 s0.2) fun x0=>
 gd ((p0.length:Int)≠0)<|
 bnd (idx p0 (Int.tmod (w64 (s0.2+1)) (p0.length:Int))) fun x1=>
 j5 (x0.X,x0.Y,x1.X,x1.Y))))
 else (some (.inr (.inl s0.1)))
def Oh(p0:List Ab)(p1:Ab):Option (Bool×Int):=
 bnd (Nk p0) fun r2=>
 if r2=true then (bnd (Ic p1) fun r8=>
 if r8=true then (jn (fun (s9:Bool)=>
 some (s9,0))
 (fun j9=>bnd (lfix (Jg p0 p1) (false,0)) fun t0=>
 (match t0 with
 |(.inl z0)=>j9 z0
 |(.inr z0)=>some z0
 )))
 else (some (false,11)))
 else (some (false,72))
def Lg(p0:Int):Option Bool :=
 jn (fun (s2:Bool)=>
 some s2)
 (fun j2=>if p0=0 then (j2 true)
 else (if p0=1 then (j2 true)
 else (if p0=2 then (j2 true)
 else (if p0=5 then (j2 true)
 else (if p0=6 then (j2 true)
 else (j2 (decide (p0=7))))))))
def Et(p2:List Bc):Int->Option (Sum Int (Sum Unit (LI×Int))):=fun s0=>
 if s0<(p2.length:Int) then (bnd (idx p2 s0) fun x0=>
 jn (fun (s1:Bool)=>
 if s1=true then (some (.inr (.inr (([]:LI),73))))
 else (some (.inl (w64 (s0+1)))))
 (fun j0=>bnd (Lg x0.To) fun r0=>
 if r0=true then (if 0<(x0.Ring.length:Int) then (bnd (Nk x0.Ring) fun r1=>
 if r1=true then (if x0.From=(-1) then (j0 false)
 else (bnd (Lg x0.From) fun r2=>
 j0 (!(r2))))
 else (j0 true))
 else (j0 false))
 else (j0 true)))
 else (some (.inr (.inl ())))
def Dw(p2:List Bc)(p0:List Aa)(s0:LI×Int):(Int×Int)->Option (Sum (Int×Int) Int):=fun s1=>
 if s1.2<(p2.length:Int) then (jn (fun (s2:Int)=>
 some (.inl (s2,w64 (s1.2+1))))
 (fun j0=>bnd (idx p2 s1.2) fun x0=>
 if (x0.Ring.length:Int)=0 then (jn (fun (s3:Int)=>
 j0 s3)
 (fun j1=>bnd (idx p0 s0.2) fun x1=>
 if x0.Id=x1.Id then (j1 x0.To)
 else (j1 s1.1)))
 else (bnd (idx p0 s0.2) fun x2=>
 bnd (idx p0 s0.2) fun x3=>
 bnd (Oh x0.Ring (⟨x2.X,x3.Y⟩:Ab)) fun r0=>
 jn (fun (s4:Bool)=>
 if s4=true then (j0 x0.To)
 else (j0 s1.1))
 (fun j2=>if r0.1=true then (if x0.From=(-1) then (j2 true)
 else (j2 (decide (x0.From=s1.1))))
 else (j2 false)))))
 else (some (.inr s1.1))
def Gq(p0:List Aa)(p1:LI)(p2:List Bc):(LI×Int)->Option (Sum (LI×Int) LI):=fun s0=>
 if s0.2<(p0.length:Int) then (bnd (idx p1 s0.2) fun x0=>
 jn (fun (s1:Int)=>
 gd ((s0.1.length+1)*8<=140737488355328)<|
 some (.inl (s0.1++[s1],w64 (s0.2+1))))
 (fun j0=>bnd (lfix (Dw p2 p0 s0) (x0,0)) fun t0=>
 j0 t0))
 else (some (.inr s0.1))
def Mi(p0:List Aa)(p1:LI)(p2:List Bc):Option (LI×Int):=
 bnd (Fw p0) fun r1=>
 if r1=true then (jn (fun (s5:Bool)=>
 if s5=true then (some (([]:LI),2))
 else (jn (fun (s7:Unit)=>
 jn (fun (s0:LI)=>
 some (s0,0))
 (fun j0=>bnd (lfix (Gq p0 p1 p2) (([]:LI),0)) fun t0=>
 j0 t0))
 (fun j7=>bnd (lfix (Et p2) 0) fun t1=>
 (match t1 with
 |(.inl z0)=>j7 z0
 |(.inr z0)=>some z0
 ))))
 (fun j5=>if (p1.length:Int)=(p0.length:Int) then (j5 (decide (64<(p2.length:Int))))
 else (j5 true)))
 else (some (([]:LI),70))
def Kg(p0:List Bc):Int->Option (Sum Int (Sum Unit Bool)):=fun s0=>
 if s0<(p0.length:Int) then (bnd (idx p0 s0) fun x0=>
 if 200<(x0.Ring.length:Int) then (some (.inr (.inr true)))
 else (some (.inl (w64 (s0+1)))))
 else (some (.inr (.inl ())))
def Qa(p0:List Bc):Option Bool :=
 if 100<(p0.length:Int) then (some true)
 else (jn (fun (s5:Unit)=>
 some false)
 (fun j5=>bnd (lfix (Kg p0) 0) fun t0=>
 (match t0 with
 |(.inl z0)=>j5 z0
 |(.inr z0)=>some z0
 )))
def Vw(p0:Aa)(p1:Aa):Option Int :=
 some (w64 (p0.Id-p1.Id))
theorem Ayo{l:List Aa}{x y:Aa}(hx:ptIn l x)(hy:ptIn l y):Vw x y=some (Hn x y):=by
 have h1:=hx.2.2 x hx.1;have h2:=hy.2.2 y hy.1;unfold Vw Hn;rw[Aq oo oo]
def Uj(p0:Aa)(p1:Aa):Option Int :=
 some (w64 (p0.Id-p1.Id))
theorem Avh{l:List Aa}{x y:Aa}(hx:ptIn l x)(hy:ptIn l y):Uj x y=some (Hn x y):=by
 have h1:=hx.2.2 x hx.1;have h2:=hy.2.2 y hy.1;unfold Uj Hn;rw[Aq oo oo]
instance(p0:Int):Con (Ky p0) prog 111 (fun _ vs=>vs=[iq p0]) (fun _ r v Ln=>v=.bool r/\Ln=[]/\True):=⟨by
 rintro _ _ r rfl hx w hK;unfold Ky at hx;refine CtS ntmps111 results111 ?_;refine pq ?_;intros;rename_i hx
 refine pA ?_;intros;rename_i hx
 refine pA ?_;intros;rename_i hx
 refine pA ?_;intros;rename_i hx
 apply Jr (γ:=Unit) hx [] (fun s4 y4 f=>(4,.bool s4)::f) [999] (fun s4 y4 l=>l);exact kk
 .exact aI
 .exact aI⟩
instance(p0:List Bc):Con (Py p0) prog 58 (fun K vs=>∃U0 E0,vs=[.slice U0 p0.length E0]/\HasN K U0 p0.length E0 4 Ii p0/\True) (fun _ r v Ln=>v=iq r/\Ln=[]/\True):=⟨by
 rintro K _ r ⟨U0,E0,rfl,ha0,-⟩ hx w hK;unfold Py at hx;refine CtS ntmps58 results58 ?_;refine pq ?_;intros;rename_i hx
 refine Cq1 (s:=8) hx rfl ?_ ?_
 .exact aI
 .refine pI ?_;intros;rename_i hx
  apply Jr (γ:=Unit) hx [] (fun s5 y5 f=>f) [999] (fun s5 y5 l=>l);exact kk
  .exact aI
  .refine pI ?_;intros;rename_i hx
   apply Lr (γ:=Unit) hx [9,10] (fun s0 y0 f=>(11,iq s0)::f) [999] (fun s0 y0 l=>l) ();exact kk;exact sk;intro s0 y0 x0 hx _;unfold Kd at hx;refine pq ?_;intros;rename_i hx
   refine Cq1 (s:=12) hx rfl ?_ ?_
   .refine pI ?_;intros;rename_i hx
    refine pA ?_;intros;rename_i hx
    apply Jr (γ:=Unit) hx [9,10,11] (fun s1 y1 f=>(45,.bool s1)::f) [999] (fun s1 y1 l=>l);exact kk
    .exact aI
    .refine pI ?_;intros;rename_i hx
     refine Cq1 (s:=20) hx rfl ?_ ?_
     .exact aI
     .exact aI
   .exact aI⟩
instance(p0:Bc)(p1:Aa)(p2:Int):Con (Ui p0 p1 p2) prog 114 (fun K vs=>∃U0 E0,vs=[.agg #[iq p0.Id,.slice U0 p0.Ring.length E0,iq p0.From,iq p0.To],.agg #[iq p1.Id,iq p1.X,iq p1.Y,iq p1.Z.Lo,iq p1.Z.Hi,iq p1.Wide,iq p1.Num,iq p1.Of,iq p1.Class],iq p2]/\Has K U0 p0.Ring.length E0 2 Fh p0.Ring/\True) (fun _ r v Ln=>v=.bool r/\Ln=[]/\True):=⟨by
 rintro K _ r ⟨U0,E0,rfl,ha0,-⟩ hx w hK;replace ha0:=ha0.lo hK;unfold Ui at hx;have:=dl 3 [0,1,0,0,0,1,0,0,0,0,0,1,1,2,2,0,2] [0,1,2,3,4,5,6,7,8,9,10,11,12,13,14,15,16];refine CtS ntmps114 results114 ?_;exact au⟩
instance(p0:List Aa)(p1:LI)(p2:List Bc):Con (Rn p0 p1 p2) prog 62 (fun K vs=>∃U0 E0 U1 E1 U2 E2,vs=[.slice U0 p0.length E0,.slice U1 p1.length E1,.slice U2 p2.length E2]/\Has K U0 p0.length E0 9 Ag p0/\Has K U1 p1.length E1 1 Ak p1/\HasN K U2 p2.length E2 4 Ii p2/\True) (fun _ r v Ln=>∃A0 c0,v=.slice A0 r.length c0/\Ln=[.r A0 r.length c0 3 1 (r.flatMap Ak)]/\True):=⟨by
 rintro K _ r ⟨U0,E0,U1,E1,U2,E2,rfl,ha0,ha1,ha2,-⟩ hx w hK;replace ha0:=ha0.lo hK;replace ha1:=ha1.lo hK;unfold Rn at hx;have:=dl 8 [1,1,0,0,0,1,2] [0,1,2,3,4,5,6];refine CtS ntmps62 results62 ?_;refine pq ?_;intros;rename_i hx
 apply Jr (γ:=OA×Nat) hx [] (fun s3 y3 f=>(7,.slice y3.1 s3.length y3.2)::f) [999] (fun s3 y3 l=>.r y3.1 s3.length y3.2 3 1 (s3.flatMap Ak)::l);exact kk
 .exact aI
 .refine pI ?_;intros;rename_i hx
  apply Lr (γ:=OA×Nat) hx [2,14,15] (fun s130 y130 f=>(7,.slice y130.1 s130.1.length y130.2)::(16,iq s130.2)::f) [999] (fun s130 y130 l=>.r y130.1 s130.1.length y130.2 3 1 (s130.1.flatMap Ak)::l) (_,_);exact kk;exact sk;intro s130 y130 x130 hx _;unfold Me at hx;refine pq ?_;intros;rename_i hx
  refine Cq1 (s:=17) hx rfl ?_ ?_
  .refine pI ?_;intros;rename_i hx
   apply Jr (γ:=OA×Nat) hx [2,14,15,16] (fun s22 y22 f=>(7,.slice y22.1 s22.length y22.2)::f) [999] (fun s22 y22 l=>.r y22.1 s22.length y22.2 3 1 (s22.flatMap Ak)::l);exact kk
   .exact aI
   .refine pI ?_;intros;rename_i hx
    apply Lr (γ:=OA×Nat) hx [2,8,9,14,15,16,21,22] (fun s199 y199 f=>(7,.slice y199.1 s199.1.length y199.2)::(23,iq s199.2)::f) [0,999] (fun s199 y199 l=>.r y199.1 s199.1.length y199.2 3 1 (s199.1.flatMap Ak)::l) (_,_);exact kk;exact sk;intro s199 y199 x199 hx _;unfold Ij at hx;exact au
  .exact aI⟩
instance(p0:Af):Con (Hv p0) prog 35 (fun _ vs=>vs=[.agg #[iq p0.Cell,iq p0.Reach,iq p0.Slope,iq p0.Link,iq p0.Flat,iq p0.Tall,iq p0.High,iq p0.Low,iq p0.Brush,iq p0.Few]]) (fun _ r v Ln=>v=.bool r/\Ln=[]/\True):=⟨by
 rintro _ _ r rfl hx w hK;unfold Hv at hx;refine CtS ntmps35 results35 ?_;refine pq ?_;intros;rename_i hx
 refine pA ?_;intros;rename_i hx
 apply Jr (γ:=Unit) hx [] (fun s2 y2 f=>(2,.bool s2)::f) [999] (fun s2 y2 l=>l);exact kk
 .exact aI
 .refine pI ?_;intros;rename_i hx
  refine Cq3 (s:=6) hx rfl ?_ ?_
  .refine pI ?_;intros;rename_i hx
   refine Cq3 (s:=11) hx rfl ?_ ?_
   .refine pI ?_;intros;rename_i hx
    refine Cq3 (s:=16) hx rfl ?_ ?_
    .refine pI ?_;intros;rename_i hx
     refine Cq3 (s:=21) hx rfl ?_ ?_
     .exact aI
     .exact aI
    .exact aI
   .exact aI
  .exact aI⟩
instance(p0:List Aa)(p1:Af):Con (Mf p0 p1) prog 45 (fun K vs=>∃U0 E0,vs=[.slice U0 p0.length E0,.agg #[iq p1.Cell,iq p1.Reach,iq p1.Slope,iq p1.Link,iq p1.Flat,iq p1.Tall,iq p1.High,iq p1.Low,iq p1.Brush,iq p1.Few]]/\Has K U0 p0.length E0 9 Ag p0/\True) (fun _ r v Ln=>v=iq r/\Ln=[]/\True):=⟨by
 rintro K _ r ⟨U0,E0,rfl,ha0,-⟩ hx w hK;replace ha0:=ha0.lo hK;unfold Mf at hx;refine CtS ntmps45 results45 ?_;exact au⟩
instance(p0:List Aa)(p1:Aa)(p2:Af):Con (Jv p0 p1 p2) prog 56 (fun K vs=>∃U0 E0,vs=[.slice U0 p0.length E0,.agg #[iq p1.Id,iq p1.X,iq p1.Y,iq p1.Z.Lo,iq p1.Z.Hi,iq p1.Wide,iq p1.Num,iq p1.Of,iq p1.Class],.agg #[iq p2.Cell,iq p2.Reach,iq p2.Slope,iq p2.Link,iq p2.Flat,iq p2.Tall,iq p2.High,iq p2.Low,iq p2.Brush,iq p2.Few]]/\Has K U0 p0.length E0 9 Ag p0/\True) (fun _ r v Ln=>v=.bool r/\Ln=[]/\True):=⟨by
 rintro K _ r ⟨U0,E0,rfl,ha0,-⟩ hx w hK;replace ha0:=ha0.lo hK;unfold Jv at hx;have:=dl 5 [0,0,0,0,1,0,1,0,0,0,0,0,1,1,2,0,1,0,1,0,0,0] [0,1,2,3,4,5,6,7,8,9,10,11,12,13,15,16,17,18,19,14,20,21];have:=dl 6 [0,0,0,0,0,1,0,0,1,0,0,1,0] [0,1,2,3,4,5,6,7,8,9,10,11,12];refine CtS ntmps56 results56 ?_;refine pq ?_;intros;rename_i hx
 refine pA ?_;intros;rename_i hx
 refine pA ?_;intros;rename_i hx
 apply Jr (γ:=Unit) hx [] (fun s3 y3 f=>(7,.bool s3)::f) [999] (fun s3 y3 l=>l);exact kk
 .exact aI
 .refine pI ?_;intros;rename_i hx
  apply Lr (γ:=Unit) hx [0,4,5] (fun s0 y0 f=>(7,.bool s0.1)::(8,iq s0.2)::f) [0,1,999] (fun s0 y0 l=>l) ();exact kk;exact sk;intro s0 y0 x0 hx _;unfold Mg at hx;refine pq ?_;intros;rename_i hx
  refine Cq1 (s:=12) hx rfl ?_ ?_
  .refine pI ?_;intros;rename_i hx
   apply Jr (γ:=Unit) hx [0,4,5,8] (fun s1 y1 f=>(7,.bool s1)::f) [0,1,999] (fun s1 y1 l=>l);exact kk
   .exact aI
   .refine pI ?_;intros;rename_i hx
    refine pA ?_;intros;rename_i hx
    apply Jr (γ:=Unit) hx [0,4,5,7,8] (fun s2 y2 f=>(36,.bool s2)::f) [0,1,999] (fun s2 y2 l=>l);exact kk
    .exact aI
    .exact aI
  .exact aI⟩
instance(p0:Aa)(p1:Aa):Con (Ik p0 p1) prog 100 (fun _ vs=>vs=[.agg #[iq p0.Id,iq p0.X,iq p0.Y,iq p0.Z.Lo,iq p0.Z.Hi,iq p0.Wide,iq p0.Num,iq p0.Of,iq p0.Class],.agg #[iq p1.Id,iq p1.X,iq p1.Y,iq p1.Z.Lo,iq p1.Z.Hi,iq p1.Wide,iq p1.Num,iq p1.Of,iq p1.Class]]) (fun _ r v Ln=>v=.bool r/\Ln=[]/\True):=⟨by
 rintro _ _ r rfl hx w hK;unfold Ik at hx;refine CtS ntmps100 results100 ?_;exact au⟩
instance(p0:List Aa):Con (Il p0) prog 107 (fun K vs=>∃U0 E0,vs=[.slice U0 p0.length E0]/\Has K U0 p0.length E0 9 Ag p0/\True) (fun _ r v Ln=>∃A0 c0,v=.slice A0 r.length c0/\Ln=[.r A0 r.length c0 30 9 (r.flatMap Ag)]/\True):=⟨by
 rintro K _ r ⟨U0,E0,rfl,ha0,-⟩ hx w hK;replace ha0:=ha0.lo hK;unfold Il at hx;have:=dl 9 [0,0,0,0,0,1,0,0,0,1,2,0,0,0,0,0,1,0,0,0,1,2,0,0,0,2] [0,1,2,3,4,5,6,7,8,9,10,11,12,13,14,15,16,17,18,19,20,21,22,23,24,25];refine CtS ntmps107 results107 ?_;refine pq ?_;intros;rename_i hx
 refine pA ?_;intros;rename_i hx
 refine pA ?_;intros;rename_i hx
 apply Jr (γ:=OA×Nat) hx [] (fun s3 y3 f=>(3,.slice y3.1 s3.length y3.2)::f) [999] (fun s3 y3 l=>.r y3.1 s3.length y3.2 30 9 (s3.flatMap Ag)::l);exact kk
 .exact aI
 .refine pI ?_;intros;rename_i hx
  refine Ba 30 9 ?_;apply Lr (γ:=OA×Nat) hx [0] (fun s0 y0 f=>(3,.slice y0.1 s0.1.length y0.2)::(4,iq s0.2)::f) [999] (fun s0 y0 l=>.r y0.1 s0.1.length y0.2 30 9 (s0.1.flatMap Ag)::l) (_,_);exact kk;exact sk;intro s0 y0 x0 hx _;unfold Hx at hx;refine pq ?_;intros;rename_i hx
  refine Cq1 (s:=10) hx rfl ?_ ?_
  .refine pI ?_;intros;rename_i hx
   apply Jr (γ:=OA×Nat) hx [0,4] (fun s1 y1 f=>(3,.slice y1.1 s1.length y1.2)::f) [999] (fun s1 y1 l=>.r y1.1 s1.length y1.2 30 9 (s1.flatMap Ag)::l);exact kk
   .exact aI
   .refine pI ?_;intros;rename_i hx
    refine pA ?_;intros;rename_i hx
    apply Jr (γ:=Unit) hx [0,3,4] (fun s2 y2 f=>(5,.bool s2)::f) [0,999] (fun s2 y2 l=>l);exact kk
    .exact aI
    .refine pI ?_;intros;rename_i hx
     apply Lr (γ:=Unit) hx [0,3,4] (fun s4 y4 f=>(5,.bool s4.1)::(6,iq s4.2)::f) [0,999] (fun s4 y4 l=>l) ();exact kk;exact sk;intro s4 y4 x1 hx _;unfold Hw at hx;refine pq ?_;intros;rename_i hx
     refine Cq1 (s:=16) hx rfl ?_ ?_
     .exact aI
     .exact aI
  .exact aI⟩
instance(p0:List Aa):Con (Le p0) prog 152 (fun K vs=>∃U0 E0,vs=[.slice U0 p0.length E0]/\Has K U0 p0.length E0 9 Ag p0/\True) (fun _ r v Ln=>∃A0 c0,v=.slice A0 r.length c0/\Ln=[.r A0 r.length c0 30 9 (r.flatMap Ag)]/\True):=⟨by
 rintro K _ r ⟨U0,E0,rfl,ha0,-⟩ hx w hK;replace ha0:=ha0.lo hK;unfold Le at hx;have:=dl 5 [0,0,0,0,1,0,0,0,0,1,0] [0,1,2,3,4,5,6,7,8,9,10];refine CtS ntmps152 results152 ?_;refine pq ?_;intros;rename_i hx
 refine pA ?_;intros;rename_i hx
 refine pA ?_;intros;rename_i hx
 apply Jr (γ:=OA×Nat) hx [] (fun s3 y3 f=>(3,.slice y3.1 s3.length y3.2)::f) [999] (fun s3 y3 l=>.r y3.1 s3.length y3.2 30 9 (s3.flatMap Ag)::l);exact kk
 .exact aI
 .refine pI ?_;intros;rename_i hx
  refine Ba 30 9 ?_;apply Lr (γ:=OA×Nat) hx [0] (fun s0 y0 f=>(3,.slice y0.1 s0.1.length y0.2)::(4,iq s0.2)::f) [999] (fun s0 y0 l=>.r y0.1 s0.1.length y0.2 30 9 (s0.1.flatMap Ag)::l) (_,_);exact kk;exact sk;intro s0 y0 x0 hx _;unfold Ke at hx;exact au⟩
instance(p0:List Aa)(p1:Af):Con (Es p0 p1) prog 99 (fun K vs=>∃U0 E0,vs=[.slice U0 p0.length E0,.agg #[iq p1.Cell,iq p1.Reach,iq p1.Slope,iq p1.Link,iq p1.Flat,iq p1.Tall,iq p1.High,iq p1.Low,iq p1.Brush,iq p1.Few]]/\Has K U0 p0.length E0 9 Ag p0/\True) (fun _ r v Ln=>∃A0 c0,v=.slice A0 r.length c0/\Ln=[.r A0 r.length c0 30 9 (r.flatMap Ag)]/\True):=⟨by
 rintro K _ r ⟨U0,E0,rfl,ha0,-⟩ hx w hK;replace ha0:=ha0.lo hK;unfold Es at hx;have:=dl 5 [0,0,0,0,1,1,2,0] [0,1,2,3,4,5,6,7];refine CtS ntmps99 results99 ?_;refine pq ?_;intros;rename_i hx
 refine pA ?_;intros;rename_i hx
 refine pA ?_;intros;rename_i hx
 apply Jr (γ:=OA×Nat) hx [] (fun s3 y3 f=>(5,.slice y3.1 s3.length y3.2)::f) [999] (fun s3 y3 l=>.r y3.1 s3.length y3.2 30 9 (s3.flatMap Ag)::l);exact kk
 .exact aI
 .refine pI ?_;intros;rename_i hx
  refine Ba 30 9 ?_;apply Lr (γ:=OA×Nat) hx [0,3] (fun s0 y0 f=>(5,.slice y0.1 s0.1.length y0.2)::(6,iq s0.2)::f) [1,999] (fun s0 y0 l=>.r y0.1 s0.1.length y0.2 30 9 (s0.1.flatMap Ag)::l) (_,_);exact kk;exact sk;intro s0 y0 x0 hx _;unfold Fe at hx;exact au⟩
instance(p0:Int)(p1:Int):Con (Hm p0 p1) prog 101 (fun _ vs=>vs=[iq p0,iq p1]) (fun _ r v Ln=>v=iq r/\Ln=[]/\True):=⟨by
 rintro _ _ r rfl hx w hK;unfold Hm at hx;refine CtS ntmps101 results101 ?_;exact au⟩
instance(p0:List Aa)(p1:Af):Con (Pz p0 p1) prog 50 (fun K vs=>∃U0 E0,vs=[.slice U0 p0.length E0,.agg #[iq p1.Cell,iq p1.Reach,iq p1.Slope,iq p1.Link,iq p1.Flat,iq p1.Tall,iq p1.High,iq p1.Low,iq p1.Brush,iq p1.Few]]/\Has K U0 p0.length E0 9 Ag p0/\True) (fun _ r v Ln=>∃A0 c0,v=.tuple #[.slice A0 r.1.length c0,iq r.2]/\Ln=[.r A0 r.1.length c0 3 1 (r.1.flatMap Ak)]/\True):=⟨by
 rintro K _ r ⟨U0,E0,rfl,ha0,-⟩ hx w hK;replace ha0:=ha0.lo hK;unfold Pz at hx;have:=dl 13 [0,0,0,0,1,0,1,2,0,0,0,0,1,0,1,2,0,0,0,0,0,0,1,0,1,2,0,0,0,0,1,0,1,2,0,0,2] [0,1,2,3,4,5,6,8,9,10,11,12,13,14,7,15,16,17,18,19,20,21,22,23,24,26,27,28,29,30,31,32,25,33,34,35,36];have:=dl 14 [0,0,0,0,0,0,0,0,1,0,0,0,1,2,0,0,0,2] [0,1,2,3,4,5,6,7,8,9,10,11,12,13,14,15,16,17];refine CtS ntmps50 results50 ?_;refine pq ?_;intros;rename_i hx
 refine Cq2 (s:=17) hx rfl ?_ ?_
 .exact aI
 .refine pI ?_;intros;rename_i hx
  refine pA ?_;intros;rename_i hx
  apply Jr (γ:=OA×Nat) hx [] (fun s8 y8 f=>(8,.slice y8.1 s8.length y8.2)::f) [999] (fun s8 y8 l=>.r y8.1 s8.length y8.2 30 9 (s8.flatMap Ag)::l);exact kk
  .exact aI
  .refine pI ?_;intros;rename_i hx
   refine Ba 30 9 ?_;apply Lr (γ:=OA×Nat) hx [3,7] (fun s0 y0 f=>(8,.slice y0.1 s0.1.length y0.2)::(9,iq s0.2)::f) [1,2,999] (fun s0 y0 l=>.r y0.1 s0.1.length y0.2 30 9 (s0.1.flatMap Ag)::l) (_,_);exact kk;exact sk;intro s0 y0 x0 hx _;unfold Kf at hx;refine pq ?_;intros;rename_i hx
   refine Cq1 (s:=25) hx rfl ?_ ?_
   .refine pI ?_;intros;rename_i hx
    apply Jr (γ:=OA×Nat) hx [3,7,9] (fun s1 y1 f=>(8,.slice y1.1 s1.length y1.2)::f) [1,2,999] (fun s1 y1 l=>.r y1.1 s1.length y1.2 30 9 (s1.flatMap Ag)::l);exact kk
    .exact aI
    .refine pI ?_;intros;rename_i hx
     refine pA ?_;intros;rename_i hx
     apply Jr (γ:=Unit) hx [3,7,8,9] (fun s2 y2 f=>(10,.bool s2)::f) [0,1,2,999] (fun s2 y2 l=>l);exact kk
     .exact aI
     .refine pI ?_;intros;rename_i hx
      apply Lr (γ:=Unit) hx [3,7,8,9] (fun s3 y3 f=>(10,.bool s3.1)::(11,iq s3.2)::f) [0,1,2,999] (fun s3 y3 l=>l) ();exact kk;exact sk;intro s3 y3 x1 hx _;unfold Jf at hx;refine pq ?_;intros;rename_i hx
      refine Cq1 (s:=31) hx rfl ?_ ?_
      .refine pI ?_;intros;rename_i hx
       apply Jr (γ:=Unit) hx [3,7,8,9,11] (fun s4 y4 f=>(10,.bool s4)::f) [0,1,2,999] (fun s4 y4 l=>l);exact kk
       .exact aI
       .refine pI ?_;intros;rename_i hx
        apply Jr (γ:=Unit) hx [3,7,8,9,10,11] (fun s5 y5 f=>(12,.bool s5)::f) [0,1,2,999] (fun s5 y5 l=>l);exact kk
        .exact aI
        .exact aI
      .exact aI
   .exact aI⟩
instance(p0:Ab)(p1:Ab)(p2:Ab):Con (Rq p0 p1 p2) prog 168 (fun _ vs=>vs=[.agg #[iq p0.X,iq p0.Y],.agg #[iq p1.X,iq p1.Y],.agg #[iq p2.X,iq p2.Y]]) (fun _ r v Ln=>v=iq r/\Ln=[]/\True):=⟨by
 rintro _ _ r rfl hx w hK;unfold Rq at hx;refine CtS ntmps168 results168 ?_;exact au⟩
instance(p0:List Ab):Con (Nk p0) prog 116 (fun K vs=>∃U0 E0,vs=[.slice U0 p0.length E0]/\Has K U0 p0.length E0 2 Fh p0/\True) (fun _ r v Ln=>v=.bool r/\Ln=[]/\True):=⟨by
 rintro K _ r ⟨U0,E0,rfl,ha0,-⟩ hx w hK;replace ha0:=ha0.lo hK;unfold Nk at hx;refine CtS ntmps116 results116 ?_;refine pq ?_;intros;rename_i hx
 refine pA ?_;intros;rename_i hx
 apply Jr (γ:=Unit) hx [0] (fun s2 y2 f=>f) [999] (fun s2 y2 l=>l);exact kk
 .exact aI
 .refine pI ?_;intros;rename_i hx
  apply Lr (γ:=Unit) hx [0] (fun s0 y0 f=>(3,iq s0)::f) [999] (fun s0 y0 l=>l) ();exact kk;exact sk;intro s0 y0 x0 hx _;unfold Mh at hx;exact au⟩
instance(p0:List Ab)(p1:Ab):Con (Oh p0 p1) prog 117 (fun K vs=>∃U0 E0,vs=[.slice U0 p0.length E0,.agg #[iq p1.X,iq p1.Y]]/\Has K U0 p0.length E0 2 Fh p0/\True) (fun _ r v Ln=>v=.tuple #[.bool r.1,iq r.2]/\Ln=[]/\True):=⟨by
 rintro K _ r ⟨U0,E0,rfl,ha0,-⟩ hx w hK;replace ha0:=ha0.lo hK;unfold Oh at hx;have:=dp 9 [0,0,0,1,0,0,0,0,0,0,0,2,2,2,3,3] (.q 0 (.q 1 (.q 2 (.q 3 (.q 4 (.q 5 (.q 6 (.q 7 (.q 8 (.q 9 (.q 10 (.e 11 (.e 12 (.e 13 (.e 14 (.e 15 (.done) (.stop)) (.stop)) (.stop)) (.e 13 (.e 12 (.e 14 (.e 15 (.done) (.stop)) (.stop)) (.stop)) (.stop))) (.e 12 (.e 11 (.e 13 (.e 14 (.e 15 (.done) (.stop)) (.stop)) (.stop)) (.e 13 (.e 11 (.e 14 (.e 15 (.done) (.stop)) (.stop)) (.e 14 (.e 11 (.e 15 (.done) (.stop)) (.stop)) (.stop))) (.stop))) (.e 13 (.e 11 (.e 12 (.e 14 (.e 15 (.done) (.stop)) (.stop)) (.stop)) (.e 12 (.e 11 (.e 14 (.e 15 (.done) (.stop)) (.stop)) (.e 14 (.e 11 (.e 15 (.done) (.stop)) (.stop)) (.stop))) (.stop))) (.stop)))))))))))))));refine CtS ntmps117 results117 ?_;refine pq ?_;intros;rename_i hx
 refine Cq4 (s:=15) hx rfl ?_ ?_
 .exact aI
 .refine pI ?_;intros;rename_i hx
  refine Cq4 (s:=18) hx rfl ?_ ?_
  .exact aI
  .refine pI ?_;intros;rename_i hx
   refine pA ?_;intros;rename_i hx
   apply Jr (γ:=Unit) hx [] (fun s9 y9 f=>(6,.bool s9)::f) [999] (fun s9 y9 l=>l);exact kk
   .exact aI
   .refine pI ?_;intros;rename_i hx
    apply Lr (γ:=Unit) hx [0,3] (fun s0 y0 f=>(6,.bool s0.1)::(7,iq s0.2)::f) [0,999] (fun s0 y0 l=>l) ();exact kk;exact sk;intro s0 y0 x0 hx _;unfold Jg at hx;refine pq ?_;intros;rename_i hx
    refine Cq1 (s:=22) hx rfl ?_ ?_
    .refine pI ?_;intros;rename_i hx
     apply Jr (γ:=Unit) hx [0,3,7] (fun s1 y1 f=>(6,.bool s1)::f) [0,999] (fun s1 y1 l=>l);exact kk
     .exact aI
     .refine pI ?_;intros;rename_i hx
      apply Jr (γ:=Nat×Nat) hx [0,3,6,7] (fun s2 y2 f=>(8,.pointer (some ⟨y2.1,0,none⟩))::(9,.pointer (some ⟨y2.2,0,none⟩))::f) [0,999] (fun s2 y2 l=>.m y2.2 57 [iq s2.2.2.1,iq s2.2.2.2] :: .m y2.1 57 [iq s2.1,iq s2.2.1]::l);exact kk
      .intro s2 y2 hx;refine pq ?_;intros;rename_i hx
       refine pA ?_;intros;rename_i hx
       apply Jr (γ:=Unit) hx [0,3,6,7,8,9,10] (fun s3 y3 f=>(72,.bool s3)::f) [0,1,2,999] (fun s3 y3 l=>l);exact kk
       .intro s3 y3 hx;refine Cq3 (s:=72) hx rfl ?_ ?_
        .exact aI
        .refine pI ?_;intros;rename_i hx
         apply Jr (γ:=Unit) hx [0,3,6,7,8,9,10] (fun s4 y4 f=>(11,.bool s4)::f) [0,1,2,999] (fun s4 y4 l=>l);exact kk
         .intro s4 y4 hx;apply Jr (γ:=Unit) hx [0,3,6,7,10,11] (fun s5 y5 f=>(12,.bool s5)::f) [2,999] (fun s5 y5 l=>l);exact kk
          .exact aI
          .exact aI
         .exact aI
       .exact aI
      .exact aI
    .exact aI⟩
instance(p0:Int):Con (Lg p0) prog 115 (fun _ vs=>vs=[iq p0]) (fun _ r v Ln=>v=.bool r/\Ln=[]/\True):=⟨by
 rintro _ _ r rfl hx w hK;unfold Lg at hx;refine CtS ntmps115 results115 ?_;exact au⟩
instance(p0:List Aa)(p1:LI)(p2:List Bc):Con (Mi p0 p1 p2) prog 63 (fun K vs=>∃U0 E0 U1 E1 U2 E2,vs=[.slice U0 p0.length E0,.slice U1 p1.length E1,.slice U2 p2.length E2]/\Has K U0 p0.length E0 9 Ag p0/\Has K U1 p1.length E1 1 Ak p1/\HasN K U2 p2.length E2 4 Ii p2/\True) (fun _ r v Ln=>∃A0 c0,v=.tuple #[.slice A0 r.1.length c0,iq r.2]/\Ln=[.r A0 r.1.length c0 3 1 (r.1.flatMap Ak)]/\True):=⟨by
 rintro K _ r ⟨U0,E0,U1,E1,U2,E2,rfl,ha0,ha1,ha2,-⟩ hx w hK;replace ha0:=ha0.lo hK;replace ha1:=ha1.lo hK;unfold Mi at hx;have:=dl 21 [0,1,0,0,0,0,1,0] [0,1,2,3,4,5,6,7];have:=dl 23 [0,1,0,0,0,0,1,0,0,0,0,1,0,2,0,0,0,2,2] [0,1,2,3,4,5,6,7,8,9,10,11,12,13,14,15,16,17,18];refine CtS ntmps63 results63 ?_;refine pq ?_;intros;rename_i hx
 refine Cq4 (s:=17) hx rfl ?_ ?_
 .exact aI
 .refine pI ?_;intros;rename_i hx
  apply Jr (γ:=Unit) hx [0,1,2] (fun s5 y5 f=>(21,.bool s5)::f) [999] (fun s5 y5 l=>l);exact kk
  .intro s5 y5 hx;refine Cq3 (s:=21) hx rfl ?_ ?_
   .exact aI
   .refine pI ?_;intros;rename_i hx
    apply Jr (γ:=Unit) hx [0,1,2] (fun s7 y7 f=>f) [999] (fun s7 y7 l=>l);exact kk
    .intro s7 y7 hx;refine pq ?_;intros;rename_i hx
     refine pA ?_;intros;rename_i hx
     apply Jr (γ:=OA×Nat) hx [] (fun s0 y0 f=>(10,.slice y0.1 s0.length y0.2)::f) [999] (fun s0 y0 l=>.r y0.1 s0.length y0.2 3 1 (s0.flatMap Ak)::l);exact kk
     .exact aI
     .refine pI ?_;intros;rename_i hx
      refine Ba 3 1 ?_;apply Lr (γ:=OA×Nat) hx [0,1,2] (fun s1 y1 f=>(10,.slice y1.1 s1.1.length y1.2)::(11,iq s1.2)::f) [999] (fun s1 y1 l=>.r y1.1 s1.1.length y1.2 3 1 (s1.1.flatMap Ak)::l) (_,_);exact kk;exact sk;intro s1 y1 x0 hx _;unfold Gq at hx;refine pq ?_;intros;rename_i hx
      refine Cq1 (s:=72) hx rfl ?_ ?_
      .refine pI ?_;intros;rename_i hx
       apply Jr (γ:=Unit) hx [0,1,2,10,11] (fun s2 y2 f=>(12,iq s2)::f) [0,999] (fun s2 y2 l=>l);exact kk
       .exact aI
       .refine pI ?_;intros;rename_i hx
        apply Lr (γ:=Unit) hx [0,1,2,10,11] (fun s3 y3 f=>(12,iq s3.1)::(13,iq s3.2)::f) [0,999] (fun s3 y3 l=>l) ();exact kk;exact sk;intro s3 y3 x1 hx _;unfold Dw at hx;refine pq ?_;intros;rename_i hx
        refine Cq1 (s:=82) hx rfl ?_ ?_
        .refine pI ?_;intros;rename_i hx
         apply Jr (γ:=Unit) hx [0,1,2,10,11,13] (fun s4 y4 f=>(12,iq s4)::f) [0,999] (fun s4 y4 l=>l);exact kk
         .exact aI
         .refine pI ?_;intros;rename_i hx
          refine Cq1 (s:=92) hx rfl ?_ ?_
          .exact aI
          .exact aI
        .exact aI
      .exact aI
    .refine pI ?_;intros;rename_i hx
     apply Lr (γ:=Unit) hx [0,1,2] (fun s6 y6 f=>(8,iq s6)::f) [999] (fun s6 y6 l=>l) ();exact kk;exact sk;intro s6 y6 x2 hx _;unfold Et at hx;refine pq ?_;intros;rename_i hx
     refine Cq1 (s:=35) hx rfl ?_ ?_
     .refine pI ?_;intros;rename_i hx
      apply Jr (γ:=Unit) hx [0,1,2,8] (fun s8 y8 f=>(68,.bool s8)::f) [999] (fun s8 y8 l=>l);exact kk
      .exact aI
      .exact aI
     .exact aI
  .exact aI⟩
instance(p0:List Bc):Con (Qa p0) prog 25 (fun K vs=>∃U0 E0,vs=[.slice U0 p0.length E0]/\HasN K U0 p0.length E0 4 Ii p0/\True) (fun _ r v Ln=>v=.bool r/\Ln=[]/\True):=⟨by
 rintro K _ r ⟨U0,E0,rfl,ha0,-⟩ hx w hK;unfold Qa at hx;refine CtS ntmps25 results25 ?_;refine pq ?_;intros;rename_i hx
 refine Cq1 (s:=6) hx rfl ?_ ?_
 .exact aI
 .refine pI ?_;intros;rename_i hx
  apply Jr (γ:=Unit) hx [] (fun s5 y5 f=>f) [999] (fun s5 y5 l=>l);exact kk
  .exact aI
  .refine pI ?_;intros;rename_i hx
   apply Lr (γ:=Unit) hx [0] (fun s27 y27 f=>(3,iq s27)::f) [999] (fun s27 y27 l=>l) ();exact kk;exact sk;intro s27 y27 x27 hx _;unfold Kg at hx;exact au⟩
instance Aji(p0:Aa)(p1:Aa):Con (Vw p0 p1) prog 154 (fun _ vs=>vs=[.agg #[iq p0.Id,iq p0.X,iq p0.Y,iq p0.Z.Lo,iq p0.Z.Hi,iq p0.Wide,iq p0.Num,iq p0.Of,iq p0.Class],.agg #[iq p1.Id,iq p1.X,iq p1.Y,iq p1.Z.Lo,iq p1.Z.Hi,iq p1.Wide,iq p1.Num,iq p1.Of,iq p1.Class]]) (fun _ r v Ln=>v=iq r/\Ln=[]/\True):=⟨by
 rintro _ _ r rfl hx w hK;unfold Vw at hx;refine CtS ntmps154 results154 ?_;exact au⟩
theorem Ahz(p0:Aa)(p1:Aa){r:Int}(hx:Vw p0 p1=some r)(w:World):CtL prog 154 [.agg #[iq p0.Id,iq p0.X,iq p0.Y,iq p0.Z.Lo,iq p0.Z.Hi,iq p0.Wide,iq p0.Num,iq p0.Of,iq p0.Class],.agg #[iq p1.Id,iq p1.X,iq p1.Y,iq p1.Z.Lo,iq p1.Z.Hi,iq p1.Wide,iq p1.Num,iq p1.Of,iq p1.Class]] w fun v Ln=>v=iq r/\Ln=[]/\True:=(Aji p0 p1).h [] _ _ rfl hx w (fun _ h=>absurd h List.not_mem_nil)
instance Ah0(p0:Aa)(p1:Aa):Con (Uj p0 p1) prog 61 (fun _ vs=>vs=[.agg #[iq p0.Id,iq p0.X,iq p0.Y,iq p0.Z.Lo,iq p0.Z.Hi,iq p0.Wide,iq p0.Num,iq p0.Of,iq p0.Class],.agg #[iq p1.Id,iq p1.X,iq p1.Y,iq p1.Z.Lo,iq p1.Z.Hi,iq p1.Wide,iq p1.Num,iq p1.Of,iq p1.Class]]) (fun _ r v Ln=>v=iq r/\Ln=[]/\True):=⟨by
 rintro _ _ r rfl hx w hK;unfold Uj at hx;refine CtS ntmps61 results61 ?_;exact au⟩
theorem Agi(p0:Aa)(p1:Aa){r:Int}(hx:Uj p0 p1=some r)(w:World):CtL prog 61 [.agg #[iq p0.Id,iq p0.X,iq p0.Y,iq p0.Z.Lo,iq p0.Z.Hi,iq p0.Wide,iq p0.Num,iq p0.Of,iq p0.Class],.agg #[iq p1.Id,iq p1.X,iq p1.Y,iq p1.Z.Lo,iq p1.Z.Hi,iq p1.Wide,iq p1.Num,iq p1.Of,iq p1.Class]] w fun v Ln=>v=iq r/\Ln=[]/\True:=(Ah0 p0 p1).h [] _ _ rfl hx w (fun _ h=>absurd h List.not_mem_nil)
end
end Go.Proofs.YthlkpgdfifnagaaGreat
