import Derived.Test.YtlejkgngmjchdaaGreatF2
set_option maxRecDepth 100000
set_option maxHeartbeats 1000000
namespace Go.Proofs.YtlejkgngmjchdaaGreat
open Go Go.RowKit Tryz List
noncomputable section
theorem Aqo:Rt prog 52 1 1:=.mk underlying52 rfl rfl (kr:prog.info? 50=some Tryz.t50) (kr:Tryz.t50.size=1) rfl
instance:Dz prog 52 1 1:=⟨Aqo⟩
theorem Aqp:Ud prog 50:=.mk underlying50 rfl (kr:prog.info? 50=some Tryz.t50) kr
instance:OneI prog 50:=⟨Aqp⟩
theorem Aj7:Rt prog 52 2 2:=.mk underlying52 rfl rfl (kr:prog.info? 50=some Tryz.t50) (kr:Tryz.t50.size=1) rfl
instance:Dz prog 52 2 2:=⟨Aj7⟩
instance:Dz prog 52 0 0:=⟨.mk underlying52 rfl rfl (kr:prog.info? 4=some Tryz.t4) (kr:Tryz.t4.size=1) rfl⟩
theorem Aqq:Wo prog 52 [.bool false,.slice none 0 0,.slice none 0 0]:=⟨_,zeroValue52,rfl⟩
instance:Sd prog 52 [.bool false,.slice none 0 0,.slice none 0 0]:=⟨Aqq⟩
theorem Aws  : Ac4 prog 52 [] [.bool false,.slice none 0 0,.slice none 0 0]:=fun w=>kr
instance:Jg prog 52 [] [.bool false,.slice none 0 0,.slice none 0 0]:=⟨Aws⟩
theorem Aeg:Uc prog 52 3:=.mk underlying52 rfl (kr:prog.info? 52=some t52) kr
instance:AggI prog 52 3:=⟨Aeg⟩
theorem Ags(x0:Bool)(x1:OA)(x2:Nat)(x3:Nat):Ac4 prog 52 [(0,.bool x0),(1,.slice x1 x2 x3)] [.bool x0,.slice x1 x2 x3,.slice none 0 0]:=fun w=>kr
instance:Lj prog 141 52 3:=⟨.mk underlying141 (kr:prog.info? 52=some t52) kr⟩
instance(x0:Bool)(x1:OA)(x2:Nat)(x3:Nat)(x4:OA)(x5:Nat)(x6:Nat)(x7:Bool)(x8:OA)(x9:Nat)(x10:Nat)(x11:OA)(x12:Nat)(x13:Nat):Kg prog 141 2 [(0,.agg #[.bool x0,.slice x1 x2 x3,.slice x4 x5 x6]),(1,.agg #[.bool x7,.slice x8 x9 x10,.slice x11 x12 x13])] 52 [.bool x0,.slice x1 x2 x3,.slice x4 x5 x6,.bool x7,.slice x8 x9 x10,.slice x11 x12 x13]:=⟨fun w=>kr⟩
def Nu  : (LI×LI)->Option (Sum (LI×LI) LI):=fun s0=>
 if 0<(s0.2.length:Int) then (bnd (Fq s0.1 s0.2) fun r0=>
 some (.inl (s0.2,r0.2)))
 else (some (.inr s0.1))
def Pq(p0:LI)(p1:LI):Option LI:=
 jn (fun (s2:LI)=>
 some s2)
 (fun j2=>bnd (lfix Nu (p0,p1)) fun t0=>
 j2 t0)
def He(p0:An):Option An :=
 if (p0.n.length:Int)=0 then (some (⟨false,[],[1]⟩:An))
 else (bnd (Pq p0.n p0.d) fun r9=>
 jn (fun (s7:Bool)=>
 if s7=true then (some p0)
 else (bnd (Fq p0.n r9) fun r0=>
 bnd (Fq p0.d r9) fun r1=>
 some (⟨p0.neg,r0.1,r1.1⟩:An)))
 (fun j7=>if (r9.length:Int)=1 then (bnd (idx r9 0) fun x0=>
 j7 (decide (x0=1)))
 else (j7 false)))
def Qi(p0:As):Option Bool :=
 jn (fun (s2:Bool)=>
 some s2)
 (fun j2=>bnd (Bh p0.Num) fun r2=>
 if 256<(r2.length:Int) then (j2 true)
 else (bnd (Bh p0.Den) fun r0=>
 j2 (decide (256<(r0.length:Int)))))
def Mv(p0:As):Option An :=
 bnd (Bh p0.Den) fun r3=>
 jn (fun (s3:LI)=>
 bnd (Bh p0.Num) fun r0=>
 bnd (He (⟨p0.Neg,r0,s3⟩:An)) fun r1=>
 some r1)
 (fun j3=>if (r3.length:Int)=0 then (j3 ([1]))
 else (j3 r3))
instance:MkI prog 50 245 1 4 Ak 0:=⟨t245,.int .u32 0,underlying50,kr,kr,rfl,kr,kr⟩
def Fv(p0:An):Option (As×Int):=
 bnd (He p0) fun r3=>
 jn (fun (s4:Bool)=>
 if s4=true then (some ((⟨false,([]:LI),([]:LI)⟩:As),1))
 else (jn (fun (s6:LI)=>
 jn (fun (s8:LI)=>
 some ((⟨r3.neg,cpy s6 0 r3.n,s8⟩:As),0))
 (fun j8=>jn (fun (s9:Bool)=>
 if s9=true then (gd ((0:Int)<=(r3.d.length:Int)/\4*Int.toNat (r3.d.length:Int)<=140737488355328)<|
 j8 (cpy (List.replicate (Int.toNat (r3.d.length:Int)) (0:Int)) 0 r3.d))
 else (j8 ([]:LI)))
 (fun j9=>if 1<(r3.d.length:Int) then (j9 true)
 else (bnd (idx r3.d 0) fun x0=>
 j9 (!(decide (x0=1)))))))
 (fun j6=>gd ((0:Int)<=(r3.n.length:Int)/\4*Int.toNat (r3.n.length:Int)<=140737488355328)<|
 j6 (List.replicate (Int.toNat (r3.n.length:Int)) (0:Int)))))
 (fun j4=>if 256<(r3.n.length:Int) then (j4 true)
 else (j4 (decide (256<(r3.d.length:Int)))))
def Ni(p0:An):Option An :=
 jn (fun (s2:Bool)=>
 some (⟨s2,p0.n,p0.d⟩:An))
 (fun j2=>if p0.neg=true then (j2 false)
 else (j2 (decide (0<(p0.n.length:Int)))))
def Pr(p0:An)(p1:An):Option An :=
 bnd (Ni p1) fun r4=>
 bnd (Gy p0 r4) fun r0=>
 some r0
def Rj(p0:An)(p1:An):Option An :=
 bnd (Ck p0.n p1.d) fun r4=>
 bnd (Ck p0.d p1.n) fun r0=>
 some (⟨!(p0.neg==p1.neg),r4,r0⟩:An)
def Ps(p0:An)(p1:An):Option Int :=
 bnd (Pr p0 p1) fun r3=>
 bnd (Fz r3) fun r0=>
 some r0
def Cf(s3:LI):(Int×Int)->Option (Sum (Int×Int) Int):=fun s0=>
 if 0<=s0.2 then (bnd (idx s3 s0.2) fun x0=>
 some (.inl (Fb .i64 (shl_ .i64 s0.1 32) (w64 x0),w64 (s0.2-1))))
 else (some (.inr s0.1))
def Mn(p0:An):Option (Int×Bool):=
 bnd (Fq p0.n p0.d) fun r2=>
 jn (fun (s3:LI)=>
 bnd (Ku 4611686018427387904) fun r0=>
 bnd (Jd s3 r0) fun r1=>
 if 0<r1 then (some (0,false))
 else (jn (fun (s9:Int)=>
 jn (fun (s0:Int)=>
 some (s0,true))
 (fun j0=>if p0.neg=true then (j0 (w64 (-s9)))
 else (j0 s9)))
 (fun j9=>bnd (lfix (Cf s3) (0,w64 ((s3.length:Int)-1))) fun t0=>
 j9 t0)))
 (fun j3=>jn (fun (s4:Bool)=>
 if s4=true then (bnd (Kv r2.1 ([1])) fun r3=>
 j3 r3)
 else (j3 r2.1))
 (fun j4=>if p0.neg=true then (j4 (decide (0<(r2.2.length:Int))))
 else (j4 false)))
instance:UndI prog 141 (.slice 52):=⟨underlying141⟩
def Aa1(K:LE)(x:As)(ys:LV):Prop:=∃(A0:OA) (c0:Nat) (A1:OA) (c1:Nat),ys=[.bool x.Neg,.slice A0 x.Num.length c0,.slice A1 x.Den.length c1]/\Has K A0 x.Num.length c0 1 Ak x.Num/\Has K A1 x.Den.length c1 1 Ak x.Den
theorem Agt{K L:LE}{x:As}{ys:LV}(hK:SubE K L)(h:Aa1 K x ys):Aa1 L x ys:=by
 obtain⟨A0,c0,A1,c1,h0,h1,h2⟩:=h;exact⟨A0,c0,A1,c1,h0,Has.up h1 hK,Has.up h2 hK⟩
instance:LoN Aa1:={u:=Agt,h:=fun h hK=>(by obtain⟨A0,c0,A1,c1,h0,h1,h2⟩:=h;exact⟨A0,c0,A1,c1,h0,Has.lo h1 hK,Has.lo h2 hK⟩)}
def Fi(p0:List As):Int->Option (Sum Int (Sum Unit Bool)):=fun s0=>
 if s0<(p0.length:Int) then (bnd (idx p0 s0) fun x0=>
 bnd (Qi x0) fun r0=>
 if r0=true then (some (.inr (.inr true)))
 else (some (.inl (w64 (s0+1)))))
 else (some (.inr (.inl ())))
def Hf(p0:List As):Option Bool :=
 jn (fun (s2:Unit)=>
 some false)
 (fun j2=>bnd (lfix (Fi p0) 0) fun t0=>
 (match t0 with
 |(.inl z0)=>j2 z0
 |(.inr z0)=>some z0
 ))
def Qj(p0:An):Option (Int×Bool):=
 bnd (Mn p0) fun r2=>
 jn (fun (s4:Bool)=>
 if s4=true then (some (0,false))
 else (some (r2.1,true)))
 (fun j4=>if r2.2=true then (if r2.1<(-1152921504606846976) then (j4 true)
 else (j4 (decide (1152921504606846976<r2.1))))
 else (j4 true))
def Jb(p0:Int):Option As :=
 bnd (Lg p0) fun r2=>
 bnd (Fv r2) fun r0=>
 some r0.1
def Xh(p0:As)(p1:As):Option (As×Int):=
 bnd (Hf ([p0,p1])) fun r6=>
 if r6=true then (some ((⟨false,([]:LI),([]:LI)⟩:As),1))
 else (bnd (Mv p0) fun r0=>
 bnd (Mv p1) fun r1=>
 bnd (Gy r0 r1) fun r2=>
 bnd (Fv r2) fun r3=>
 some (r3.1,r3.2))
def Xi(p0:As)(p1:As):Option (As×Int):=
 bnd (Hf ([p0,p1])) fun r6=>
 if r6=true then (some ((⟨false,([]:LI),([]:LI)⟩:As),1))
 else (bnd (Mv p0) fun r0=>
 bnd (Mv p1) fun r1=>
 bnd (Pr r0 r1) fun r2=>
 bnd (Fv r2) fun r3=>
 some (r3.1,r3.2))
def Xj(p0:As)(p1:As):Option (As×Int):=
 bnd (Hf ([p0,p1])) fun r6=>
 if r6=true then (some ((⟨false,([]:LI),([]:LI)⟩:As),1))
 else (bnd (Mv p0) fun r0=>
 bnd (Mv p1) fun r1=>
 bnd (Fy r0 r1) fun r2=>
 bnd (Fv r2) fun r3=>
 some (r3.1,r3.2))
def Xk(p0:As)(p1:As):Option (As×Int):=
 bnd (Hf ([p0,p1])) fun r6=>
 if r6=true then (some ((⟨false,([]:LI),([]:LI)⟩:As),1))
 else (bnd (Mv p1) fun r0=>
 bnd (Fz r0) fun r1=>
 if r1=0 then (some ((⟨false,([]:LI),([]:LI)⟩:As),10))
 else (bnd (Mv p0) fun r2=>
 bnd (Rj r2 r0) fun r3=>
 bnd (Fv r3) fun r4=>
 some (r4.1,r4.2)))
def Yn(p0:Int)(p1:Int):Option (Af×Int):=
 jn (fun (s3:Bool)=>
 if s3=true then (some ((⟨0,0⟩:Af),3))
 else (some ((⟨p0,p1⟩:Af),0)))
 (fun j3=>if p0<(-1152921504606846976) then (j3 true)
 else (j3 (decide (1152921504606846976<p1))))
def Sg(p0:As)(p1:As):Option (Af×Int):=
 bnd (Hf ([p0,p1])) fun r6=>
 if r6=true then (some ((⟨0,0⟩:Af),1))
 else (bnd (Mv p0) fun r0=>
 bnd (Mv p1) fun r1=>
 jn (fun (s6:Bool×LI×LI×Bool×LI×LI)=>
 bnd (Qj (⟨s6.1,s6.2.1,s6.2.2.1⟩:An)) fun r2=>
 bnd (Ni (⟨s6.2.2.2.1,s6.2.2.2.2.1,s6.2.2.2.2.2⟩:An)) fun r3=>
 bnd (Qj r3) fun r4=>
 jn (fun (s0:Bool)=>
 if s0=true then (some ((⟨0,0⟩:Af),3))
 else (bnd (Yn r2.1 (w64 (-r4.1))) fun r5=>
 some ((⟨r5.1.Lo,r5.1.Hi⟩:Af),r5.2)))
 (fun j0=>if r2.2=true then (j0 (!(r4.2)))
 else (j0 true)))
 (fun j6=>bnd (Ps r0 r1) fun r7=>
 if 0<r7 then (j6 (r1.neg,r1.n,r1.d,r0.neg,r0.n,r0.d))
 else (j6 (r0.neg,r0.n,r0.d,r1.neg,r1.n,r1.d))))
theorem Ad0(p0:LI)(p1:LI){K:LE}{E0:OA}{G0:Nat}{E1:OA}{G1:Nat}(ha0:Has K E0 p0.length G0 1 Ak p0)(ha1:Has K E1 p1.length G1 1 Ak p1){r:LI}(hx:Pq p0 p1=some r)(w:World)(hK:∀e∈K,Ent.ok w e):CtL prog 288 [.slice E0 p0.length G0,.slice E1 p1.length G1] w fun v Ln=>∃(A0:OA) (c0:Nat) (e0:Ent),v=.slice A0 r.length c0/\Ln=[e0]/\Has (K++[e0]) A0 r.length c0 1 Ak r/\True:=by
 have ha0':=Has.up0 ha0;have ha1':=Has.up0 ha1;refine CtL.mk 19 func288 rfl ntmps288 kr rfl ?_;show T 19 _ [(0,.slice E0 p0.length G0),(1,.slice E1 p1.length G1)] _;unfold Pq at hx;refine Y5 ?_;obtain⟨j2,hj2,hx⟩:=Aal hx;refine Xw (τ:=LI) (γ:=OA×Nat×Ent) (J:=j2) (out:=r) (fun s2 y2=>[(0,.slice y2.1 s2.length y2.2.1)]) (fun s2 y2=>[y2.2.2]++[.old w]) (fun s2 y2=>y2.2.2.low=0/\Has (K++[y2.2.2]) y2.1 s2.length y2.2.1 1 Ak s2/\True) ?_ ?_
 .intro s2 y2 hx0 hG0;obtain⟨lo75,hs0,-⟩:=hG0;subst hj2;refine Y7 ?_;obtain rfl:=oI hx0;exact Kf (rs:=[.tmp 4]) results288 (.tmp rfl (.nil)) (Ln:=[y2.2.2]) ⟨y2.1,y2.2.1,y2.2.2,rfl,rfl,Has.len' hs0,trivial⟩ (Cj lo75 Iz) (by exact .pick 0 rfl (.refl))
 .skip;refine Y ?_;obtain⟨t0,hl0,ho0⟩:=Aq hx;refine Bf 0 1 ?_;refine Lp (σ:=LI×LI) (γ:=OA×Nat×Ent×OA×Nat) hl0 (fun s0 y0=>[(0,.slice y0.1 s0.1.length y0.2.1),(1,.slice y0.2.2.2.1 s0.2.length y0.2.2.2.2)]) (fun s0 y0=>[y0.2.2.1]++[.old w]) (fun s0 y0=>y0.2.2.1.low=0/\Has (K++[y0.2.2.1]) y0.1 s0.1.length y0.2.1 1 Ak s0.1/\Has (K++[y0.2.2.1]) y0.2.2.2.1 s0.2.length y0.2.2.2.2 1 Ak s0.2/\True) (E0,G0,.r none 0 0 0 1 [],E1,G1) ((by exact⟨rfl,Has.len' ((Has.up (L:=(K++[.r none 0 0 0 1 []])) ha0' (SubE.app2 SubE.nil))),Has.len' ((Has.up (L:=(K++[.r none 0 0 0 1 []])) ha1' (SubE.app2 SubE.nil))),trivial⟩)) (by exact .pick 0 rfl (.refl)) ?_;intro s0 y0 hG1 x0 hx1 ht0;unfold Nu at hx1;obtain⟨lo50,hs1,hs2,-⟩:=hG1;refine Y4 ?_;refine Ay (Gf rfl 245 underlying217) rfl ?_;refine Y3 ?_;refine Ti hx1 (s:=9) rfl (fun h0 hx2=>?_) (fun h0 hx3=>?_)
  .refine Y8 ?_;obtain⟨r0,h1,hx4⟩:=Aq hx2;refine T_x (Gl rfl (fun w1 hw1=>Tn s0.1 s0.2 (Has.len' hs1) (Has.len' hs2) h1 w1 (Zf (K:=K) (K2:=[y0.2.2.1]) hK (by exact (sb 1)) (by exact (sb 0)) hw1)) rfl ?_);rintro _ _ hlo ⟨A1,c1,A2,c2,e1,e2,e3,rfl,rfl,hs3,hs4,-⟩;have lo68:=hlo e1 s_;have lo69:=hlo e2 s_;have lo70:=hlo e3 s_;refine Rv ?_;have hs5:Has (K++[y0.2.2.1,e1,e2,e3]) _ _ _ _ _ _:=Has.assoc hs3;have hs6:Has (K++[y0.2.2.1,e1,e2,e3]) _ _ _ _ _ _:=Has.assoc hs4;(iterate 14 refine Y ?_);refine Ahj (es:=[y0.2.2.1,e1,e2,e3]) (by exact .pick 3 rfl (.pick 0 rfl (.pick 0 rfl (.pick 0 rfl (.refl))))) (Cj lo50 (Cj lo68 (Cj lo69 (Cj lo70 Iz)))) ?_;exact Rp (s0.2,r0.2) (y0.2.2.2.1,y0.2.2.2.2,bun [y0.2.2.1,e1,e2,e3],A2,c2) hx4 ((by exact⟨rfl,Has.len' ((Has.up (L:=(K++[(bun [y0.2.2.1,e1,e2,e3])])) hs2 (SubE.app2 (SubE.consB (i:=0) (j:=0) rfl rfl SubE.nil)))),Has.len' ((Has.up (L:=(K++[(bun [y0.2.2.1,e1,e2,e3])])) hs6 (SubE.app2 (SubE.consB (i:=0) (j:=0) rfl rfl (SubE.consB (i:=0) (j:=1) rfl rfl (SubE.consB (i:=0) (j:=2) rfl rfl (SubE.consB (i:=0) (j:=3) rfl rfl SubE.nil))))))),trivial⟩)) (by exact .pick 0 rfl (.refl))
  .refine Y3 ?_;obtain rfl:=Mg ht0 hx3;refine Y2 ?_;exact Mt s0.1 (y0.1,y0.2.1,y0.2.2.1) ho0 ((by exact⟨lo50,Has.len' hs1,trivial⟩)) (by exact .pick 0 rfl (.refl))
instance(p0:LI)(p1:LI):ConB (Pq p0 p1) prog 288 (fun K vs=>∃E0 G0 E1 G1,vs=[.slice E0 p0.length G0,.slice E1 p1.length G1]/\Has K E0 p0.length G0 1 Ak p0/\Has K E1 p1.length G1 1 Ak p1/\True) (fun K r v Ln=>∃A0 c0 e,v=.slice A0 r.length c0/\Ln=[e]/\Has (K++[e]) A0 r.length c0 1 Ak r/\True):=⟨by
 rintro K _ r ⟨E0,G0,E1,G1,rfl,ha0,ha1,-⟩ hx w hK;exact CtL.bunB (Ad0 p0 p1 ha0 ha1 hx w hK) (by
  rintro _ _ w1 hw ⟨_,_,_,rfl,rfl,_,-⟩;exact⟨_,_,_,rfl,rfl,hZ hw,trivial⟩)⟩
instance Abb(p0:An):ConB (He p0) prog 234 (fun K vs=>∃E0 G0 E1 G1,vs=[.agg #[.bool p0.neg,.slice E0 p0.n.length G0,.slice E1 p0.d.length G1]]/\Has K E0 p0.n.length G0 1 Ak p0.n/\Has K E1 p0.d.length G1 1 Ak p0.d/\True) (fun K r v Ln=>∃A0 c0 A2 c2 e,v=.agg #[.bool r.neg,.slice A0 r.n.length c0,.slice A2 r.d.length c2]/\Ln=[e]/\Has (K++[e]) A0 r.n.length c0 1 Ak r.n/\Has (K++[e]) A2 r.d.length c2 1 Ak r.d/\True):=⟨by
 rintro K _ r ⟨E0,G0,E1,G1,rfl,ha0,ha1,-⟩ hx w hK;unfold He at hx;refine CtS ntmps234 results234 ?_;refine pq ?_;intros;rename_i hx
 refine Cq1 (s:=11) hx rfl ?_ ?_
 .exact aI
 .refine pI ?_;intros;rename_i hx
  refine pA ?_;intros;rename_i hx
  apply Jr (γ:=Unit) hx [1,2,3] (fun s7 y7 f=>(27,.bool s7)::f) [0,1,2,999] (fun s7 y7 l=>l);exact kk
  .exact aI
  .exact aI⟩
theorem Zv(p0:An){K:LE}{E0:OA}{G0:Nat}{E1:OA}{G1:Nat}(ha0:Has K E0 p0.n.length G0 1 Ak p0.n)(ha1:Has K E1 p0.d.length G1 1 Ak p0.d){r:An}(hx:He p0=some r)(w:World)(hK:∀e∈K,Ent.ok w e):CtL prog 234 [.agg #[.bool p0.neg,.slice E0 p0.n.length G0,.slice E1 p0.d.length G1]] w fun v Ln=>∃(A0:OA) (c0:Nat) (A2:OA) (c2:Nat) (e0:Ent) (e1:Ent) (e2:Ent) (e3:Ent) (e4:Ent) (e5:Ent) (e6:Ent),v=.agg #[.bool r.neg,.slice A0 r.n.length c0,.slice A2 r.d.length c2]/\Ln=[e0,e1,e2,e3,e4,e5,e6]/\Has (K++[e0,e1,e2,e3,e4,e5,e6]) A0 r.n.length c0 1 Ak r.n/\Has (K++[e0,e1,e2,e3,e4,e5,e6]) A2 r.d.length c2 1 Ak r.d/\True:=CtL.pad 6 ((Abb p0).h K _ _ ⟨E0,G0,E1,G1,rfl,ha0,ha1,trivial⟩ hx w hK) (by rintro _ _ ⟨_,_,_,_,_,rfl,rfl,h0,h1,-⟩;exact⟨_,_,_,_,_,_,_,_,_,_,_,rfl,rfl,h0.padN 6,h1.padN 6,trivial⟩)
instance(p0:As):Con (Qi p0) prog 237 (fun K vs=>∃E0 G0 E1 G1,vs=[.agg #[.bool p0.Neg,.slice E0 p0.Num.length G0,.slice E1 p0.Den.length G1]]/\Has K E0 p0.Num.length G0 1 Ak p0.Num/\Has K E1 p0.Den.length G1 1 Ak p0.Den/\True) (fun _ r v Ln=>v=.bool r/\Ln=[]/\True):=⟨by
 rintro K _ r ⟨E0,G0,E1,G1,rfl,ha0,ha1,-⟩ hx w hK;replace ha0:=ha0.lo hK;replace ha1:=ha1.lo hK;unfold Qi at hx;refine CtS ntmps237 results237 ?_;exact au⟩
instance(p0:As):ConB (Mv p0) prog 157 (fun K vs=>∃E0 G0 E1 G1,vs=[.agg #[.bool p0.Neg,.slice E0 p0.Num.length G0,.slice E1 p0.Den.length G1]]/\Has K E0 p0.Num.length G0 1 Ak p0.Num/\Has K E1 p0.Den.length G1 1 Ak p0.Den/\True) (fun K r v Ln=>∃A0 c0 A2 c2 e,v=.agg #[.bool r.neg,.slice A0 r.n.length c0,.slice A2 r.d.length c2]/\Ln=[e]/\Has (K++[e]) A0 r.n.length c0 1 Ak r.n/\Has (K++[e]) A2 r.d.length c2 1 Ak r.d/\True):=⟨by
 rintro K _ r ⟨E0,G0,E1,G1,rfl,ha0,ha1,-⟩ hx w hK;unfold Mv at hx;have:=dl 4 [0,1,0,1,2,0,0,2,3] [0,1,2,3,5,4,6,7,8];refine CtS ntmps157 results157 ?_;exact au⟩
theorem Acx(p0:An){K:LE}{E0:OA}{G0:Nat}{E1:OA}{G1:Nat}(ha0:Has K E0 p0.n.length G0 1 Ak p0.n)(ha1:Has K E1 p0.d.length G1 1 Ak p0.d){r:As×Int}(hx:Fv p0=some r)(w:World)(hK:∀e∈K,Ent.ok w e):CtL prog 150 [.agg #[.bool p0.neg,.slice E0 p0.n.length G0,.slice E1 p0.d.length G1]] w fun v Ln=>∃(A0:OA) (c0:Nat) (A2:OA) (c2:Nat),v=.tuple #[.agg #[.bool r.1.Neg,.slice A0 r.1.Num.length c0,.slice A2 r.1.Den.length c2],.int .i64 r.2]/\Ln=[.r A0 r.1.Num.length c0 245 1 (r.1.Num.flatMap Ak),.r A2 r.1.Den.length c2 245 1 (r.1.Den.flatMap Ak)]/\True:=by
 have ha0':=Has.up0 ha0;have ha1':=Has.up0 ha1;refine CtL.mk 52 func150 rfl ntmps150 kr rfl ?_;show T 52 _ [(0,.agg #[.bool p0.neg,.slice E0 p0.n.length G0,.slice E1 p0.d.length G1])] _;unfold Fv at hx;refine Y2 ?_;refine T_x (Aac rfl rfl rfl (fun g1=>?_));refine T_x (Vr Aqq rfl (fun g2=>?_));refine Y5 ?_;refine Ay (Nw rfl (i:=1) rfl rfl Aoo) rfl ?_;obtain⟨r3,h4,hx5⟩:=Aq hx;refine T_x (Gl rfl (fun w1 hw1=>Zv p0 (Has.len' ha0') (Has.len' ha1') h4 w1 (Zf (K:=K) (K2:=[]) hK (by exact (sb 2)) (by exact SubE.nil) hw1)) rfl ?_);rintro _ _ hlo ⟨A6,c7,A8,c9,e0,e1,e2,e3,e4,e5,e6,rfl,rfl,hs0,hs1,-⟩;have lo19:=hlo e0 s_;have lo20:=hlo e1 s_;have lo21:=hlo e2 s_;have lo22:=hlo e3 s_;have lo23:=hlo e4 s_;have lo24:=hlo e5 s_;have lo25:=hlo e6 s_;refine Bct ?_;have hs2:Has (K++[e0,e1,e2,e3,e4,e5,e6]) _ _ _ _ _ _:=Has.assoc hs0;have hs3:Has (K++[e0,e1,e2,e3,e4,e5,e6]) _ _ _ _ _ _:=Has.assoc hs1;refine T_h (Rm rfl rfl rfl (.there (.there (.there (.there (.there (.there (.there (.there (.here))))))))) (.put (.put (.put (.done)))) rfl (cons_ne_nil _ _) Aoo.2 ?_);refine Y3 ?_;refine Tj (γ:=Unit) hx5 (fun s4 y4=>[(1,.pointer (some ⟨g1,0,none⟩)),(2,.pointer (some ⟨g2,0,none⟩)),(16,.bool s4)]) (fun s4 y4=>[e0,e1,e2,e3,e4,e5,e6,.m g2 52 [.bool false,.slice none 0 0,.slice none 0 0],.m g1 219 [.bool r3.neg,.slice A6 r3.n.length c7,.slice A8 r3.d.length c9]]++[.old w]) (fun s4 y4=>True) (fun s4 y4 hx0 hG0=>?_) (fun j4 hx5=>?_)
 .refine Nm (s:=16) rfl (fun h0=>?_) (fun h0=>?_)
  .have hx1:=Qc h0 hx0;refine Y3 ?_;refine Ay (Aab rfl Aws) rfl ?_;refine T_h (Rm rfl rfl rfl (.there (.there (.there (.there (.there (.there (.there (.here)))))))) (.put (.put (.put (.done)))) rfl (cons_ne_nil _ _) Aeg.2 ?_);refine Y5 ?_;refine Bf 245 1 ?_;refine Bf 245 1 ?_;obtain rfl:=oI hx1;exact Kf (rs:=[.cell 2 52,.tmp 3]) results150 (.cell rfl (i:=9) rfl rfl Aeg (.tmp rfl (.nil))) (Ln:=[.r none 0 0 245 1 ((([]:LI)).flatMap Ak),.r none 0 0 245 1 ((([]:LI)).flatMap Ak)]) ⟨none,0,none,0,rfl,rfl,trivial⟩ (Cj rfl (Cj rfl Iz)) (by exact .pick 1 rfl (.pick 0 rfl (.drop 0 rfl (.drop 0 rfl (.drop 0 rfl (.drop 0 rfl (.drop 0 rfl (.drop 0 rfl (.drop 0 rfl (.drop 0 rfl (.drop 0 rfl (.refl))))))))))))
  .have hx2:=Sq h0 hx0;refine Y3 ?_;refine Tj (γ:=Nat×OA×Nat) hx2 (fun s6 y6=>[(1,.pointer (some ⟨g1,0,none⟩)),(2,.pointer (some ⟨g2,0,none⟩)),(4,.pointer (some ⟨y6.1,0,none⟩))]) (fun s6 y6=>[.m y6.1 52 [.bool r3.neg,.slice y6.2.1 s6.length y6.2.2,.slice none 0 0],.r y6.2.1 s6.length y6.2.2 245 1 (s6.flatMap Ak),e0,e1,e2,e3,e4,e5,e6,.m g2 52 [.bool false,.slice none 0 0,.slice none 0 0],.m g1 219 [.bool r3.neg,.slice A6 r3.n.length c7,.slice A8 r3.d.length c9]]++[.old w]) (fun s6 y6=>True) (fun s6 y6 hx3 hG1=>?_) (fun j6 hx2=>?_)
   .refine Y2 ?_;refine Ay (Ez rfl Aqo rfl) rfl ?_;refine Ay (Dm rfl (i:=0) rfl rfl Aqp) rfl ?_;refine Ay (Ez rfl Aad rfl) rfl ?_;refine Ay (Dm rfl (i:=10) rfl rfl Vs) rfl ?_;have hw0:=Has.low (E:=[e0,e1,e2,e3,e4,e5,e6]) hs2 hK;refine T_h (Amz Ak s6 r3.n 0 rfl rfl hw0 (SubE.cons2 (i:=11) rfl (SubE.cons2 (i:=2) rfl (SubE.cons2 (i:=3) rfl (SubE.cons2 (i:=4) rfl (SubE.cons2 (i:=5) rfl (SubE.cons2 (i:=6) rfl (SubE.cons2 (i:=7) rfl (sb 8)))))))) rfl (Nat.zero_le _) (fun _ h hc=>Ara h hc) (.there (.here)) underlying50 kr dD (fun _=>rfl) (fun _=>rfl) rfl ?_);refine Y2 ?_;refine Tj (γ:=OA×Nat) hx3 (fun s8 y8=>[(2,.pointer (some ⟨g2,0,none⟩)),(4,.pointer (some ⟨y6.1,0,none⟩))]) (fun s8 y8=>[.r y8.1 s8.length y8.2 245 1 (s8.flatMap Ak),.m y6.1 52 [.bool r3.neg,.slice y6.2.1 s6.length y6.2.2,.slice y8.1 s8.length y8.2],.r y6.2.1 s6.length y6.2.2 245 1 ((cpy s6 0 r3.n).flatMap Ak),.m g2 52 [.bool false,.slice none 0 0,.slice none 0 0]]++[.old w]) (fun s8 y8=>True) (fun s8 y8 hx4 hG2=>?_) (fun j8 hx3=>?_)
    .refine Y2 ?_;refine Ay (Nw rfl (i:=1) rfl rfl Aeg) rfl ?_;refine T_h (Rm rfl rfl rfl (.there (.there (.there (.here)))) (.put (.put (.put (.done)))) rfl (cons_ne_nil _ _) Aeg.2 ?_);refine Y4 ?_;have hn0:s6.length=(cpy s6 0 r3.n).length:=by simp[Je,Qx,length_append] <;> omega
     refine Wt (.there (.there (.here))) (e':=.r y6.2.1 ((cpy s6 0 r3.n).length) y6.2.2 245 1 ((cpy s6 0 r3.n).flatMap Ak)) (by first|(rw[<-hn0];done)|rfl) ?_;refine Wt (.there (.there (.there (.here)))) (e':=.m g2 52 [.bool r3.neg,.slice y6.2.1 ((cpy s6 0 r3.n).length) y6.2.2,.slice y8.1 s8.length y8.2]) (by first|(rw[show s6.length=(cpy s6 0 r3.n).length from (by simp[Je,Qx,length_append] <;> omega)];done)|rfl) ?_;obtain rfl:=oI hx4;exact Kf (rs:=[.cell 2 52,.tmp 3]) results150 (.cell rfl (i:=3) rfl rfl Aeg (.tmp rfl (.nil))) (Ln:=[.r y6.2.1 ((cpy s6 0 r3.n).length) y6.2.2 245 1 ((cpy s6 0 r3.n).flatMap Ak),.r y8.1 s8.length y8.2 245 1 (s8.flatMap Ak)]) ⟨y6.2.1,y6.2.2,y8.1,y8.2,rfl,rfl,trivial⟩ (Cj rfl (Cj rfl Iz)) (by exact .pick 2 rfl (.pick 0 rfl (.drop 0 rfl (.drop 0 rfl (.refl)))))
    .refine Tj (γ:=Unit) hx3 (fun s9 y9=>[(1,.pointer (some ⟨g1,0,none⟩)),(2,.pointer (some ⟨g2,0,none⟩)),(4,.pointer (some ⟨y6.1,0,none⟩)),(40,.bool s9)]) (fun s9 y9=>[.m y6.1 52 [.bool r3.neg,.slice y6.2.1 s6.length y6.2.2,.slice none 0 0],.r y6.2.1 s6.length y6.2.2 245 1 ((cpy s6 0 r3.n).flatMap Ak),e0,e1,e2,e3,e4,e5,e6,.m g2 52 [.bool false,.slice none 0 0,.slice none 0 0],.m g1 219 [.bool r3.neg,.slice A6 r3.n.length c7,.slice A8 r3.d.length c9]]++[.old w]) (fun s9 y9=>True) (fun s9 y9 hx6 hG3=>?_) (fun j9 hx3=>?_)
     .refine Nm (s:=40) rfl (fun h1=>?_) (fun h1=>?_)
      .have hx7:=Qc h1 hx6;refine Y3 ?_;refine Ay (Ez rfl Vt rfl) rfl ?_;refine Ay (Dm rfl (i:=10) rfl rfl Vs) rfl ?_;refine Ay (Gf rfl 245 underlying217) rfl ?_;obtain⟨h2,hx8⟩:=Dv hx7;refine T_x (Zj Ak 0 (z:=.int .u32 0) rfl rfl rfl h2.1 underlying50 (kr:prog.info? 245=some t245) kr rfl rfl kr (show 4*_<=_ from h2.2) dD rfl (fun A1=>?_));refine Ay (Ez rfl Aj7 rfl) rfl ?_;refine T_h (Rm rfl rfl rfl (.there (.here)) (.skip (.skip (.put (.done)))) rfl (cons_ne_nil _ _) Aqp.2 ?_);refine Y3 ?_;refine Ay (Ez rfl Aj7 rfl) rfl ?_;refine Ay (Dm rfl (i:=1) rfl rfl Aqp) rfl ?_;refine Ay (Ez rfl Vt rfl) rfl ?_;refine Ay (Dm rfl (i:=11) rfl rfl Vs) rfl ?_;have hw2:=Has.low (E:=[e0,e1,e2,e3,e4,e5,e6]) hs3 hK;refine T_h (Amz Ak (List.replicate (Int.toNat (r3.d.length:Int)) (0:Int)) r3.d 0 rfl rfl hw2 (SubE.cons2 (i:=12) rfl (SubE.cons2 (i:=3) rfl (SubE.cons2 (i:=4) rfl (SubE.cons2 (i:=5) rfl (SubE.cons2 (i:=6) rfl (SubE.cons2 (i:=7) rfl (SubE.cons2 (i:=8) rfl (sb 9)))))))) rfl (Nat.zero_le _) (fun _ h hc=>Ara h hc) (.here) underlying50 kr dD (fun _=>rfl) (fun _=>rfl) rfl ?_);refine Y ?_;have hn1:(List.replicate (Int.toNat (r3.d.length:Int)) (0:Int)).length=(cpy (List.replicate (Int.toNat (r3.d.length:Int)) (0:Int)) 0 r3.d).length:=(Qx (Nat.zero_le _)).symm;refine Wt (.here) (e':=.r A1 ((cpy (List.replicate (Int.toNat (r3.d.length:Int)) (0:Int)) 0 r3.d).length) ((List.replicate (Int.toNat (r3.d.length:Int)) (0:Int)).length) 245 1 ((cpy (List.replicate (Int.toNat (r3.d.length:Int)) (0:Int)) 0 r3.d).flatMap Ak)) (by first|(rw[<-hn1];done)|rfl) ?_;refine Wt (.there (.here)) (e':=.m y6.1 52 [.bool r3.neg,.slice y6.2.1 s6.length y6.2.2,.slice A1 ((cpy (List.replicate (Int.toNat (r3.d.length:Int)) (0:Int)) 0 r3.d).length) ((List.replicate (Int.toNat (r3.d.length:Int)) (0:Int)).length)]) (by first|(rw[show ((List.replicate (Int.toNat (r3.d.length:Int)) (0:Int)).length)=(cpy (List.replicate (Int.toNat (r3.d.length:Int)) (0:Int)) 0 r3.d).length from (Qx (Nat.zero_le _)).symm];done)|rfl) ?_;exact Mt (cpy (List.replicate (Int.toNat (r3.d.length:Int)) (0:Int)) 0 r3.d) (A1,(List.replicate (Int.toNat (r3.d.length:Int)) (0:Int)).length) hx8 trivial (by exact .pick 0 rfl (.pick 0 rfl (.pick 0 rfl (.pick 7 rfl (.drop 0 rfl (.drop 0 rfl (.drop 0 rfl (.drop 0 rfl (.drop 0 rfl (.drop 0 rfl (.drop 0 rfl (.drop 0 rfl (.refl)))))))))))))
      .have hx9:=Sq h1 hx6;refine Y2 ?_;refine Bf 245 1 ?_;have hn2:0=(([]:LI)).length:=by simp[Je,Qx,length_append] <;> omega
       refine Wt (.here) (e':=.r none ((([]:LI)).length) 0 245 1 ((([]:LI)).flatMap Ak)) (by first|(rw[<-hn2];done)|rfl) ?_;exact Mt ([]:LI) (none,0) hx9 trivial (by exact .pick 0 rfl (.pick 0 rfl (.pick 0 rfl (.pick 7 rfl (.drop 0 rfl (.drop 0 rfl (.drop 0 rfl (.drop 0 rfl (.drop 0 rfl (.drop 0 rfl (.drop 0 rfl (.drop 0 rfl (.refl)))))))))))))
     .refine Y ?_;refine Ay (Ez rfl Vt rfl) rfl ?_;refine Ay (Dm rfl (i:=10) rfl rfl Vs) rfl ?_;refine Ay (Gf rfl 245 underlying217) rfl ?_;refine Y2 ?_;refine Ti hx3 (s:=34) rfl (fun h3 hx49=>?_) (fun h3 hx50=>?_)
      .refine Y7 ?_;exact Mt true () hx49 trivial (by exact .pick 0 rfl (.pick 0 rfl (.pick 0 rfl (.pick 0 rfl (.pick 0 rfl (.pick 0 rfl (.pick 0 rfl (.pick 0 rfl (.pick 0 rfl (.pick 0 rfl (.pick 0 rfl (.refl))))))))))))
      .refine Pv rfl rfl rfl (Ez rfl Vt rfl) rfl ?_;refine Pv rfl rfl rfl (Dm rfl (i:=10) rfl rfl Vs) rfl ?_;obtain⟨x0,h5,hx53⟩:=Aq hx50;have hw3:=Has.low (E:=[e0,e1,e2,e3,e4,e5,e6]) hs3 hK;obtain⟨b0,o0,j0,hA0,hj0,hl0,hp0⟩:=Has.at_idx hw3 h5;refine Pv rfl rfl rfl (By rfl rfl hA0 (j:=j0) hj0 hl0 Gu) rfl ?_;refine Pv rfl rfl rfl (Cd rfl hp0 (SubE.cons2 (i:=11) rfl (SubE.cons2 (i:=2) rfl (SubE.cons2 (i:=3) rfl (SubE.cons2 (i:=4) rfl (SubE.cons2 (i:=5) rfl (SubE.cons2 (i:=6) rfl (SubE.cons2 (i:=7) rfl (sb 8)))))))) rfl Gg) rfl ?_;refine Y3 ?_;exact Mt (!(decide (x0=1))) () hx53 trivial (by exact .pick 0 rfl (.pick 0 rfl (.pick 0 rfl (.pick 0 rfl (.pick 0 rfl (.pick 0 rfl (.pick 0 rfl (.pick 0 rfl (.pick 0 rfl (.pick 0 rfl (.pick 0 rfl (.refl))))))))))))
   .obtain⟨h6,hx40⟩:=Dv hx2;refine T_dr [0,1,0,1,0,2,0,2,3] (.q 0 (.q 1 (.q 2 (.q 3 (.q 4 (.e 5 (.q 6 (.e 7 (.e 8 (.done) (.stop)) (.stop))) (.e 7 (.e 5 (.q 6 (.e 8 (.done) (.stop))) (.stop)) (.stop)))))))) mixed kr kr ?_;refine P_p rfl rfl (Ez rfl Ac8 rfl) rfl ?_;refine P_q rfl rfl (Dm rfl (i:=8) rfl rfl one4) rfl ?_;refine P_p rfl rfl (Ez rfl Aad rfl) rfl ?_;refine P_q rfl rfl (Dm rfl (i:=8) rfl rfl Vs) rfl ?_;refine P_p rfl rfl (Gf rfl 245 underlying217) rfl ?_;refine P_x rfl (Zj Ak 0 (z:=.int .u32 0) rfl rfl rfl h6.1 underlying50 (kr:prog.info? 245=some t245) kr rfl rfl kr (show 4*_<=_ from h6.2) dD rfl (fun A3=>?_)) ?_
    .skip;refine P_p rfl rfl (Aab rfl (Ags _ _ _ _)) rfl ?_;refine P_x rfl (Vr Aqq rfl (fun g0=>?_)) ?_;rotate_left;exact Oh;refine P_h rfl rfl (Rm rfl rfl rfl (.here) (.put (.put (.put (.done)))) rfl (cons_ne_nil _ _) Aeg.2 ?_) ?_;rotate_left;exact Oh;refine Y ?_;exact Mt (List.replicate (Int.toNat (r3.n.length:Int)) (0:Int)) (g0,A3,(List.replicate (Int.toNat (r3.n.length:Int)) (0:Int)).length) hx40 trivial (by exact .pick 0 rfl (.pick 0 rfl (.pick 0 rfl (.pick 0 rfl (.pick 0 rfl (.pick 0 rfl (.pick 0 rfl (.pick 0 rfl (.pick 0 rfl (.pick 0 rfl (.pick 0 rfl (.refl))))))))))))
    .skip;refine P_x rfl (Vr Aqq rfl (fun g3=>?_)) ?_;rotate_left;exact Oh;refine P_x rfl (Zj Ak 0 (z:=.int .u32 0) rfl rfl rfl h6.1 underlying50 (kr:prog.info? 245=some t245) kr rfl rfl kr (show 4*_<=_ from h6.2) dD rfl (fun A4=>?_)) ?_;rotate_left;exact Oh;refine P_p rfl rfl (Aab rfl (Ags _ _ _ _)) rfl ?_;refine P_h rfl rfl (Rm rfl rfl rfl (.there (.here)) (.put (.put (.put (.done)))) rfl (cons_ne_nil _ _) Aeg.2 ?_) ?_;rotate_left;exact Oh;refine Y ?_;exact Mt (List.replicate (Int.toNat (r3.n.length:Int)) (0:Int)) (g3,A4,(List.replicate (Int.toNat (r3.n.length:Int)) (0:Int)).length) hx40 trivial (by exact .pick 1 rfl (.pick 0 rfl (.pick 0 rfl (.pick 0 rfl (.pick 0 rfl (.pick 0 rfl (.pick 0 rfl (.pick 0 rfl (.pick 0 rfl (.pick 0 rfl (.pick 0 rfl (.refl))))))))))))
 .refine Y ?_;refine Ay (Ez rfl Aad rfl) rfl ?_;refine Ay (Dm rfl (i:=8) rfl rfl Vs) rfl ?_;refine Ay (Gf rfl 245 underlying217) rfl ?_;refine Y2 ?_;refine Ti hx5 (s:=11) rfl (fun h7 hx29=>?_) (fun h7 hx30=>?_)
  .refine Y6 ?_;exact Mt true () hx29 trivial (by exact .pick 0 rfl (.pick 0 rfl (.pick 0 rfl (.pick 0 rfl (.pick 0 rfl (.pick 0 rfl (.pick 0 rfl (.pick 0 rfl (.pick 0 rfl (.refl))))))))))
  .refine Pv rfl rfl rfl (Ez rfl Vt rfl) rfl ?_;refine Pv rfl rfl rfl (Dm rfl (i:=8) rfl rfl Vs) rfl ?_;refine Pv rfl rfl rfl (Gf rfl 245 underlying217) rfl ?_;refine Y3 ?_;exact Mt (decide (256<(r3.d.length:Int))) () hx30 trivial (by exact .pick 0 rfl (.pick 0 rfl (.pick 0 rfl (.pick 0 rfl (.pick 0 rfl (.pick 0 rfl (.pick 0 rfl (.pick 0 rfl (.pick 0 rfl (.refl))))))))))
instance(p0:An):Con (Fv p0) prog 150 (fun K vs=>∃E0 G0 E1 G1,vs=[.agg #[.bool p0.neg,.slice E0 p0.n.length G0,.slice E1 p0.d.length G1]]/\Has K E0 p0.n.length G0 1 Ak p0.n/\Has K E1 p0.d.length G1 1 Ak p0.d/\True) (fun _ r v Ln=>∃A0 c0 A2 c2,v=.tuple #[.agg #[.bool r.1.Neg,.slice A0 r.1.Num.length c0,.slice A2 r.1.Den.length c2],.int .i64 r.2]/\Ln=[.r A0 r.1.Num.length c0 245 1 (r.1.Num.flatMap Ak),.r A2 r.1.Den.length c2 245 1 (r.1.Den.flatMap Ak)]/\True):=⟨by
 rintro K _ r ⟨E0,G0,E1,G1,rfl,ha0,ha1,-⟩ hx w hK;exact Acx p0 ha0 ha1 hx w hK⟩
instance(p0:An):ConB (Ni p0) prog 160 (fun K vs=>∃E0 G0 E1 G1,vs=[.agg #[.bool p0.neg,.slice E0 p0.n.length G0,.slice E1 p0.d.length G1]]/\Has K E0 p0.n.length G0 1 Ak p0.n/\Has K E1 p0.d.length G1 1 Ak p0.d/\True) (fun K r v Ln=>∃A0 c0 A2 c2 e,v=.agg #[.bool r.neg,.slice A0 r.n.length c0,.slice A2 r.d.length c2]/\Ln=[e]/\Has (K++[e]) A0 r.n.length c0 1 Ak r.n/\Has (K++[e]) A2 r.d.length c2 1 Ak r.d/\True):=⟨by
 rintro K _ r ⟨E0,G0,E1,G1,rfl,ha0,ha1,-⟩ hx w hK;unfold Ni at hx;refine CtS ntmps160 results160 ?_;exact au⟩
instance(p0:An)(p1:An):ConB (Pr p0 p1) prog 239 (fun K vs=>∃E0 G0 E1 G1 E2 G2 E3 G3,vs=[.agg #[.bool p0.neg,.slice E0 p0.n.length G0,.slice E1 p0.d.length G1],.agg #[.bool p1.neg,.slice E2 p1.n.length G2,.slice E3 p1.d.length G3]]/\Has K E0 p0.n.length G0 1 Ak p0.n/\Has K E1 p0.d.length G1 1 Ak p0.d/\Has K E2 p1.n.length G2 1 Ak p1.n/\Has K E3 p1.d.length G3 1 Ak p1.d/\True) (fun K r v Ln=>∃A0 c0 A2 c2 e,v=.agg #[.bool r.neg,.slice A0 r.n.length c0,.slice A2 r.d.length c2]/\Ln=[e]/\Has (K++[e]) A0 r.n.length c0 1 Ak r.n/\Has (K++[e]) A2 r.d.length c2 1 Ak r.d/\True):=⟨by
 rintro K _ r ⟨E0,G0,E1,G1,E2,G2,E3,G3,rfl,ha0,ha1,ha2,ha3,-⟩ hx w hK;unfold Pr at hx;have:=dl 1 [1,1,2,2,3] [0,1,2,3,4];refine CtS ntmps239 results239 ?_;exact au⟩
instance(p0:An)(p1:An):ConB (Rj p0 p1) prog 290 (fun K vs=>∃E0 G0 E1 G1 E2 G2 E3 G3,vs=[.agg #[.bool p0.neg,.slice E0 p0.n.length G0,.slice E1 p0.d.length G1],.agg #[.bool p1.neg,.slice E2 p1.n.length G2,.slice E3 p1.d.length G3]]/\Has K E0 p0.n.length G0 1 Ak p0.n/\Has K E1 p0.d.length G1 1 Ak p0.d/\Has K E2 p1.n.length G2 1 Ak p1.n/\Has K E3 p1.d.length G3 1 Ak p1.d/\True) (fun K r v Ln=>∃A0 c0 A2 c2 e,v=.agg #[.bool r.neg,.slice A0 r.n.length c0,.slice A2 r.d.length c2]/\Ln=[e]/\Has (K++[e]) A0 r.n.length c0 1 Ak r.n/\Has (K++[e]) A2 r.d.length c2 1 Ak r.d/\True):=⟨by
 rintro K _ r ⟨E0,G0,E1,G1,E2,G2,E3,G3,rfl,ha0,ha1,ha2,ha3,-⟩ hx w hK;unfold Rj at hx;have:=dl 1 [0,1,0,1,0,0,1,0,1,2,0,1,0,1,2,0,3] [0,1,2,3,4,5,6,7,8,10,11,12,13,9,14,15,16];refine CtS ntmps290 results290 ?_;exact au⟩
instance(p0:An)(p1:An):Con (Ps p0 p1) prog 158 (fun K vs=>∃E0 G0 E1 G1 E2 G2 E3 G3,vs=[.agg #[.bool p0.neg,.slice E0 p0.n.length G0,.slice E1 p0.d.length G1],.agg #[.bool p1.neg,.slice E2 p1.n.length G2,.slice E3 p1.d.length G3]]/\Has K E0 p0.n.length G0 1 Ak p0.n/\Has K E1 p0.d.length G1 1 Ak p0.d/\Has K E2 p1.n.length G2 1 Ak p1.n/\Has K E3 p1.d.length G3 1 Ak p1.d/\True) (fun _ r v Ln=>v=.int .i64 r/\Ln=[]/\True):=⟨by
 rintro K _ r ⟨E0,G0,E1,G1,E2,G2,E3,G3,rfl,ha0,ha1,ha2,ha3,-⟩ hx w hK;replace ha0:=ha0.lo hK;replace ha1:=ha1.lo hK;replace ha2:=ha2.lo hK;replace ha3:=ha3.lo hK;unfold Ps at hx;refine CtS ntmps158 results158 ?_;exact au⟩
theorem Ab2(p0:An){K:LE}{E0:OA}{G0:Nat}{E1:OA}{G1:Nat}(ha0:Has K E0 p0.n.length G0 1 Ak p0.n)(ha1:Has K E1 p0.d.length G1 1 Ak p0.d){r:Int×Bool}(hx:Mn p0=some r)(w:World)(hK:∀e∈K,Ent.ok w e):CtL prog 241 [.agg #[.bool p0.neg,.slice E0 p0.n.length G0,.slice E1 p0.d.length G1]] w fun v Ln=>v=.tuple #[.int .i64 r.1,.bool r.2]/\Ln=[]/\True:=by
 have ha0':=Has.up0 ha0;have ha1':=Has.up0 ha1;refine CtL.mk 50 func241 rfl ntmps241 kr rfl ?_;show T 50 _ [(0,.agg #[.bool p0.neg,.slice E0 p0.n.length G0,.slice E1 p0.d.length G1])] _;unfold Mn at hx;refine Y2 ?_;refine T_x (Aac rfl rfl rfl (fun g1=>?_));refine Y6 ?_;refine Ay (Ez rfl Aad rfl) rfl ?_;refine Ay (Dm rfl (i:=0) rfl rfl Vs) rfl ?_;refine Ay (Ez rfl Vt rfl) rfl ?_;refine Ay (Dm rfl (i:=0) rfl rfl Vs) rfl ?_;obtain⟨r2,h3,hx4⟩:=Aq hx;refine T_x (Gl rfl (fun w1 hw1=>Tn p0.n p0.d (Has.len' ha0') (Has.len' ha1') h3 w1 (Zf (K:=K) (K2:=[]) hK (by exact (sb 1)) (by exact SubE.nil) hw1)) rfl ?_);rintro _ _ hlo ⟨A5,c6,A7,c8,e9,e0,e1,rfl,rfl,hs0,hs1,-⟩;have lo14:=hlo e9 s_;have lo15:=hlo e0 s_;have lo16:=hlo e1 s_;refine Rv ?_;have hs2:Has (K++[e9,e0,e1]) _ _ _ _ _ _:=Has.assoc hs0;have hs3:Has (K++[e9,e0,e1]) _ _ _ _ _ _:=Has.assoc hs1;refine Y7 ?_;obtain⟨j3,hj3,hx4⟩:=Aal hx4;refine Xw (τ:=LI) (γ:=OA×Nat×Ent) (J:=j3) (out:=r) (fun s3 y3=>[(1,.pointer (some ⟨g1,0,none⟩)),(4,.slice y3.1 s3.length y3.2.1)]) (fun s3 y3=>[y3.2.2,e9,e0,e1,.m g1 219 [.bool p0.neg,.slice E0 p0.n.length G0,.slice E1 p0.d.length G1]]++[.old w]) (fun s3 y3=>y3.2.2.low=0/\Has (K++[e9,e0,e1,y3.2.2]) y3.1 s3.length y3.2.1 1 Ak s3/\True) ?_ ?_
 .intro s3 y3 hx0 hG0;obtain⟨lo40,hs4,-⟩:=hG0;subst hj3;refine Y4 ?_;obtain⟨r0,h0,hx1⟩:=Aq hx0;refine T_x (Gl rfl (fun w1 hw1=>Aaf 4611686018427387904  h0 w1) rfl ?_);rintro _ _ hlo ⟨A0,c0,e2,rfl,rfl,hs5,-⟩;have lo49:=hlo e2 s_;refine Qd ?_;obtain⟨r1,h1,hx2⟩:=Aq hx1;refine Tc (fun w1 hw1=>Xq s3 r0 (Has.len' (Has.up (L:=(K++[e9,e0,e1,y3.2.2,e2])) hs4 (SubE.app2 (SubE.cons2 (i:=0) rfl (SubE.cons2 (i:=1) rfl (SubE.cons2 (i:=2) rfl (sb 3))))))) (Has.len' (Has.up (L:=(K++[e9,e0,e1,y3.2.2,e2])) hs5 (SubE.appR2 (sb 4)))) h1 w1 (Zf (K:=K) (K2:=[e9,e0,e1,y3.2.2,e2]) hK (by exact (sb 6)) (by exact (SubE.cons2 (i:=2) rfl (SubE.cons2 (i:=3) rfl (SubE.cons2 (i:=4) rfl (SubE.cons2 (i:=1) rfl (sb 0)))))) hw1)) ?_;refine Y3 ?_;refine Ti hx2 (s:=29) rfl (fun h2 hx3=>?_) (fun h2 hx5=>?_)
  .refine Y9 ?_;obtain rfl:=oI hx3;exact Kf (rs:=[.tmp 2,.tmp 3]) results241 (.tmp rfl (.tmp rfl (.nil))) (Ln:=[]) ⟨rfl,rfl,trivial⟩ Iz (by exact .drop 0 rfl (.drop 0 rfl (.drop 0 rfl (.drop 0 rfl (.drop 0 rfl (.drop 0 rfl (.refl)))))))
  .refine Y8 ?_;refine Tj (γ:=Unit) hx5 (fun s9 y9=>[(1,.pointer (some ⟨g1,0,none⟩)),(6,.int .i64 s9)]) (fun s9 y9=>[.m g1 219 [.bool p0.neg,.slice E0 p0.n.length G0,.slice E1 p0.d.length G1]]++[.old w]) (fun s9 y9=>True) (fun s9 y9 hx6 hG1=>?_) (fun j9 hx5=>?_)
   .refine Tj (γ:=Unit) hx6 (fun s0 y0=>[(6,.int .i64 s0)]) (fun s0 y0=>[]++[.old w]) (fun s0 y0=>True) (fun s0 y0 hx7 hG2=>?_) (fun j0 hx6=>?_)
    .refine Y8 ?_;obtain rfl:=oI hx7;exact Kf (rs:=[.tmp 2,.tmp 3]) results241 (.tmp rfl (.tmp rfl (.nil))) (Ln:=[]) ⟨rfl,rfl,trivial⟩ Iz (by exact .refl)
    .refine Y2 ?_;refine Ay (Ez rfl Ac8 rfl) rfl ?_;refine Ay (Dm rfl (i:=0) rfl rfl one4) rfl ?_;refine Y2 ?_;refine Nm (s:=46) rfl (fun h4=>?_) (fun h4=>?_)
     .have hx8:=Qc h4 hx6;refine Y6 ?_;exact Mt (w64 (-s9)) () hx8 trivial (by exact .drop 0 rfl (.refl))
     .have hx9:=Sq h4 hx6;refine Y2 ?_;exact Mt s9 () hx9 trivial (by exact .drop 0 rfl (.refl))
   .refine Y3 ?_;refine Ay (Gf rfl 245 underlying217) rfl ?_;refine Y5 ?_;obtain⟨t0,hl0,ho0⟩:=Aq hx5;refine Lp (σ:=Int×Int) (γ:=Unit) hl0 (fun s1 y1=>[(1,.pointer (some ⟨g1,0,none⟩)),(4,.slice y3.1 s3.length y3.2.1),(6,.int .i64 s1.1),(7,.int .i64 s1.2)]) (fun s1 y1=>[y3.2.2,e9,e0,e1,.m g1 219 [.bool p0.neg,.slice E0 p0.n.length G0,.slice E1 p0.d.length G1]]++[.old w]) (fun s1 y1=>True) () trivial (by exact .pick 1 rfl (.pick 1 rfl (.pick 1 rfl (.pick 1 rfl (.pick 1 rfl (.drop 0 rfl (.refl))))))) ?_;intro s1 y1 hG3 x0 hx71 ht0;unfold Cf at hx71;refine Y7 ?_;refine Ti hx71 (s:=34) rfl (fun h5 hx73=>?_) (fun h5 hx74=>?_)
    .refine Y7 ?_;refine Ay (Acg rfl rfl dD) rfl ?_;refine Y2 ?_;obtain⟨x1,h6,hx77⟩:=Aq hx73;have hw0:=Has.low (E:=[e9,e0,e1,y3.2.2]) hs4 hK;obtain⟨b0,o0,j1,hA0,hj0,hl1,hp0⟩:=Has.at_idx hw0 h6;refine Ay (By rfl rfl hA0 (j:=j1) hj0 hl1 Gu) rfl ?_;refine Ay (Cd rfl hp0 (SubE.cons2 (i:=5) rfl (SubE.cons2 (i:=1) rfl (SubE.cons2 (i:=2) rfl (SubE.cons2 (i:=3) rfl (sb 0))))) rfl Gg) rfl ?_;refine Ay (Ue rfl kr underlying3) rfl ?_;refine Y10 ?_;exact Rp (Fb .i64 (shl_ .i64 s1.1 32) (w64 x1),w64 (s1.2-1)) () hx77 trivial (by exact .pick 0 rfl (.pick 0 rfl (.pick 0 rfl (.pick 0 rfl (.pick 0 rfl (.refl))))))
    .refine Y3 ?_;obtain rfl:=Mg ht0 hx74;refine Y2 ?_;exact Mt s1.1 () ho0 trivial (by exact .pick 4 rfl (.drop 0 rfl (.drop 0 rfl (.drop 0 rfl (.drop 0 rfl (.refl))))))
 .skip;refine Tj (γ:=Unit) hx4 (fun s4 y4=>[(1,.pointer (some ⟨g1,0,none⟩)),(4,.slice A5 r2.1.length c6),(22,.bool s4)]) (fun s4 y4=>[e9,e0,e1,.m g1 219 [.bool p0.neg,.slice E0 p0.n.length G0,.slice E1 p0.d.length G1]]++[.old w]) (fun s4 y4=>True) (fun s4 y4 hx22 hG4=>?_) (fun j4 hx4=>?_)
  .refine Nm (s:=22) rfl (fun h7=>?_) (fun h7=>?_)
   .have hx25:=Qc h7 hx22;refine Y3 ?_;refine T_x (Gx rfl (Tx _) rfl (fun g0=>?_));have hs6:Has [.m g0 245 [.int .u32 1]] (some ⟨g0,0,none⟩) 1 1 1 Ak [1]:=Has.ofM (fun _ _=>rfl) rfl dD rfl;obtain⟨r3,h8,hx30⟩:=Aq hx25;refine T_x (Gl rfl (fun w1 hw1=>Ad5 r2.1 ([1]) (Has.len' (Has.up (L:=(K++[e9,e0,e1,.m g0 245 [.int .u32 1]])) hs2 (SubE.app2 (SubE.cons2 (i:=0) rfl (SubE.cons2 (i:=1) rfl (sb 2)))))) (Has.len' (Has.up (L:=(K++[e9,e0,e1,.m g0 245 [.int .u32 1]])) hs6 (SubE.appR2 (sb 3)))) h8 w1 (Zf (K:=K) (K2:=[e9,e0,e1,.m g0 245 [.int .u32 1]]) hK (by exact (sb 5)) (by exact (SubE.cons2 (i:=1) rfl (SubE.cons2 (i:=2) rfl (SubE.cons2 (i:=3) rfl (sb 0))))) hw1)) rfl ?_);rintro _ _ hlo ⟨A1,c1,e3,rfl,rfl,hs7,-⟩;have lo35:=hlo e3 s_;refine Qd ?_;have hs8:Has (K++[e9,e0,e1,.m g0 245 [.int .u32 1],e3]) _ _ _ _ _ _:=Has.assoc hs7;refine Y2 ?_;refine Ahj (es:=[.m g0 245 [.int .u32 1],e3]) (by exact .pick 1 rfl (.pick 0 rfl (.refl))) (Cj rfl (Cj lo35 Iz)) ?_;exact Mt r3 (A1,c1,bun [.m g0 245 [.int .u32 1],e3]) hx30 ((by exact⟨rfl,Has.len' ((Has.up (L:=(K++[e9,e0,e1,(bun [.m g0 245 [.int .u32 1],e3])])) hs8 (SubE.app2 (SubE.cons2 (i:=0) rfl (SubE.cons2 (i:=1) rfl (SubE.cons2 (i:=2) rfl (SubE.consB (i:=3) (j:=0) rfl rfl (SubE.consB (i:=3) (j:=1) rfl rfl SubE.nil)))))))),trivial⟩)) (by exact .pick 0 rfl (.pick 0 rfl (.pick 0 rfl (.pick 0 rfl (.pick 0 rfl (.refl))))))
   .have hx37:=Sq h7 hx22;refine Y2 ?_;refine Bf 0 1 ?_;exact Mt r2.1 (A5,c6,.r none 0 0 0 1 []) hx37 ((by exact⟨rfl,Has.len' ((Has.up (L:=(K++[e9,e0,e1,.r none 0 0 0 1 []])) hs2 (SubE.app2 (SubE.cons2 (i:=0) rfl (SubE.cons2 (i:=1) rfl (sb 2)))))),trivial⟩)) (by exact .pick 0 rfl (.pick 0 rfl (.pick 0 rfl (.pick 0 rfl (.pick 0 rfl (.refl))))))
  .refine Y ?_;refine Ay (Ez rfl Ac8 rfl) rfl ?_;refine Ay (Dm rfl (i:=3) rfl rfl one4) rfl ?_;refine Y ?_;refine Nm (s:=18) rfl (fun h9=>?_) (fun h9=>?_)
   .have hx20:=Qc h9 hx4;refine Y ?_;refine Pv rfl rfl rfl (Gf rfl 245 underlying217) rfl ?_;refine Y3 ?_;exact Mt (decide (0<(r2.2.length:Int))) () hx20 trivial (by exact .pick 0 rfl (.pick 0 rfl (.pick 0 rfl (.pick 0 rfl (.refl)))))
   .have hx21:=Sq h9 hx4;refine Y5 ?_;exact Mt false () hx21 trivial (by exact .pick 0 rfl (.pick 0 rfl (.pick 0 rfl (.pick 0 rfl (.refl)))))
instance(p0:An):Con (Mn p0) prog 241 (fun K vs=>∃E0 G0 E1 G1,vs=[.agg #[.bool p0.neg,.slice E0 p0.n.length G0,.slice E1 p0.d.length G1]]/\Has K E0 p0.n.length G0 1 Ak p0.n/\Has K E1 p0.d.length G1 1 Ak p0.d/\True) (fun _ r v Ln=>v=.tuple #[.int .i64 r.1,.bool r.2]/\Ln=[]/\True):=⟨by
 rintro K _ r ⟨E0,G0,E1,G1,rfl,ha0,ha1,-⟩ hx w hK;exact Ab2 p0 ha0 ha1 hx w hK⟩
instance(p0:List As):Con (Hf p0) prog 156 (fun K vs=>∃E0 G0,vs=[.slice E0 p0.length G0]/\HasN K E0 p0.length G0 3 Aa1 p0/\True) (fun _ r v Ln=>v=.bool r/\Ln=[]/\True):=⟨by
 rintro K _ r ⟨E0,G0,rfl,ha0,-⟩ hx w hK;unfold Hf at hx;refine CtS ntmps156 results156 ?_;refine pq ?_;intros;rename_i hx
 refine pA ?_;intros;rename_i hx
 apply Jr (γ:=Unit) hx [] (fun s2 y2 f=>f) [999] (fun s2 y2 l=>l);exact kk
 .exact aI
 .refine pI ?_;intros;rename_i hx
  apply Lr (γ:=Unit) hx [5,6] (fun s0 y0 f=>(7,.int .i64 s0)::f) [999] (fun s0 y0 l=>l) ();exact kk;exact sk;intro s0 y0 x0 hx _;unfold Fi at hx;exact au⟩
instance(p0:An):Con (Qj p0) prog 159 (fun K vs=>∃E0 G0 E1 G1,vs=[.agg #[.bool p0.neg,.slice E0 p0.n.length G0,.slice E1 p0.d.length G1]]/\Has K E0 p0.n.length G0 1 Ak p0.n/\Has K E1 p0.d.length G1 1 Ak p0.d/\True) (fun _ r v Ln=>v=.tuple #[.int .i64 r.1,.bool r.2]/\Ln=[]/\True):=⟨by
 rintro K _ r ⟨E0,G0,E1,G1,rfl,ha0,ha1,-⟩ hx w hK;replace ha0:=ha0.lo hK;replace ha1:=ha1.lo hK;unfold Qj at hx;refine CtS ntmps159 results159 ?_;exact au⟩
instance(p0:Int):Con (Jb p0) prog 65 (fun _ vs=>vs=[.int .i64 p0]) (fun _ r v Ln=>∃A0 c0 A2 c2,v=.agg #[.bool r.Neg,.slice A0 r.Num.length c0,.slice A2 r.Den.length c2]/\Ln=[.r A0 r.Num.length c0 245 1 (r.Num.flatMap Ak),.r A2 r.Den.length c2 245 1 (r.Den.flatMap Ak)]/\True):=⟨by
 rintro _ _ r rfl hx w hK;unfold Jb at hx;refine CtS ntmps65 results65 ?_;exact au⟩
instance(p0:As)(p1:As):Con (Xh p0 p1) prog 174 (fun K vs=>∃E0 G0 E1 G1 E2 G2 E3 G3,vs=[.agg #[.bool p0.Neg,.slice E0 p0.Num.length G0,.slice E1 p0.Den.length G1],.agg #[.bool p1.Neg,.slice E2 p1.Num.length G2,.slice E3 p1.Den.length G3]]/\Has K E0 p0.Num.length G0 1 Ak p0.Num/\Has K E1 p0.Den.length G1 1 Ak p0.Den/\Has K E2 p1.Num.length G2 1 Ak p1.Num/\Has K E3 p1.Den.length G3 1 Ak p1.Den/\True) (fun _ r v Ln=>∃A0 c0 A2 c2,v=.tuple #[.agg #[.bool r.1.Neg,.slice A0 r.1.Num.length c0,.slice A2 r.1.Den.length c2],.int .i64 r.2]/\Ln=[.r A0 r.1.Num.length c0 245 1 (r.1.Num.flatMap Ak),.r A2 r.1.Den.length c2 245 1 (r.1.Den.flatMap Ak)]/\True):=⟨by
 rintro K _ r ⟨E0,G0,E1,G1,E2,G2,E3,G3,rfl,ha0,ha1,ha2,ha3,-⟩ hx w hK;replace ha0:=ha0.lo hK;replace ha1:=ha1.lo hK;replace ha2:=ha2.lo hK;replace ha3:=ha3.lo hK;unfold Xh at hx;have:=dl 3 [1,2,1,2,2,2,0,0,3,2] [0,2,1,3,4,5,6,7,8,9];refine CtS ntmps174 results174 ?_;exact au⟩
instance(p0:As)(p1:As):Con (Xi p0 p1) prog 235 (fun K vs=>∃E0 G0 E1 G1 E2 G2 E3 G3,vs=[.agg #[.bool p0.Neg,.slice E0 p0.Num.length G0,.slice E1 p0.Den.length G1],.agg #[.bool p1.Neg,.slice E2 p1.Num.length G2,.slice E3 p1.Den.length G3]]/\Has K E0 p0.Num.length G0 1 Ak p0.Num/\Has K E1 p0.Den.length G1 1 Ak p0.Den/\Has K E2 p1.Num.length G2 1 Ak p1.Num/\Has K E3 p1.Den.length G3 1 Ak p1.Den/\True) (fun _ r v Ln=>∃A0 c0 A2 c2,v=.tuple #[.agg #[.bool r.1.Neg,.slice A0 r.1.Num.length c0,.slice A2 r.1.Den.length c2],.int .i64 r.2]/\Ln=[.r A0 r.1.Num.length c0 245 1 (r.1.Num.flatMap Ak),.r A2 r.1.Den.length c2 245 1 (r.1.Den.flatMap Ak)]/\True):=⟨by
 rintro K _ r ⟨E0,G0,E1,G1,E2,G2,E3,G3,rfl,ha0,ha1,ha2,ha3,-⟩ hx w hK;replace ha0:=ha0.lo hK;replace ha1:=ha1.lo hK;replace ha2:=ha2.lo hK;replace ha3:=ha3.lo hK;unfold Xi at hx;have:=dl 3 [1,2,1,2,2,2,0,0,3,2] [0,2,1,3,4,5,6,7,8,9];refine CtS ntmps235 results235 ?_;exact au⟩
instance(p0:As)(p1:As):Con (Xj p0 p1) prog 175 (fun K vs=>∃E0 G0 E1 G1 E2 G2 E3 G3,vs=[.agg #[.bool p0.Neg,.slice E0 p0.Num.length G0,.slice E1 p0.Den.length G1],.agg #[.bool p1.Neg,.slice E2 p1.Num.length G2,.slice E3 p1.Den.length G3]]/\Has K E0 p0.Num.length G0 1 Ak p0.Num/\Has K E1 p0.Den.length G1 1 Ak p0.Den/\Has K E2 p1.Num.length G2 1 Ak p1.Num/\Has K E3 p1.Den.length G3 1 Ak p1.Den/\True) (fun _ r v Ln=>∃A0 c0 A2 c2,v=.tuple #[.agg #[.bool r.1.Neg,.slice A0 r.1.Num.length c0,.slice A2 r.1.Den.length c2],.int .i64 r.2]/\Ln=[.r A0 r.1.Num.length c0 245 1 (r.1.Num.flatMap Ak),.r A2 r.1.Den.length c2 245 1 (r.1.Den.flatMap Ak)]/\True):=⟨by
 rintro K _ r ⟨E0,G0,E1,G1,E2,G2,E3,G3,rfl,ha0,ha1,ha2,ha3,-⟩ hx w hK;replace ha0:=ha0.lo hK;replace ha1:=ha1.lo hK;replace ha2:=ha2.lo hK;replace ha3:=ha3.lo hK;unfold Xj at hx;have:=dl 3 [1,2,1,2,2,2,0,0,3,2] [0,2,1,3,4,5,6,7,8,9];refine CtS ntmps175 results175 ?_;exact au⟩
instance(p0:As)(p1:As):Con (Xk p0 p1) prog 236 (fun K vs=>∃E0 G0 E1 G1 E2 G2 E3 G3,vs=[.agg #[.bool p0.Neg,.slice E0 p0.Num.length G0,.slice E1 p0.Den.length G1],.agg #[.bool p1.Neg,.slice E2 p1.Num.length G2,.slice E3 p1.Den.length G3]]/\Has K E0 p0.Num.length G0 1 Ak p0.Num/\Has K E1 p0.Den.length G1 1 Ak p0.Den/\Has K E2 p1.Num.length G2 1 Ak p1.Num/\Has K E3 p1.Den.length G3 1 Ak p1.Den/\True) (fun _ r v Ln=>∃A0 c0 A2 c2,v=.tuple #[.agg #[.bool r.1.Neg,.slice A0 r.1.Num.length c0,.slice A2 r.1.Den.length c2],.int .i64 r.2]/\Ln=[.r A0 r.1.Num.length c0 245 1 (r.1.Num.flatMap Ak),.r A2 r.1.Den.length c2 245 1 (r.1.Den.flatMap Ak)]/\True):=⟨by
 rintro K _ r ⟨E0,G0,E1,G1,E2,G2,E3,G3,rfl,ha0,ha1,ha2,ha3,-⟩ hx w hK;replace ha0:=ha0.lo hK;replace ha1:=ha1.lo hK;replace ha2:=ha2.lo hK;replace ha3:=ha3.lo hK;unfold Xk at hx;have:=dl 6 [1,2,1,2,2,0,0,3,2] [0,2,1,3,4,5,6,7,8];refine CtS ntmps236 results236 ?_;exact au⟩
instance(p0:Int)(p1:Int):Con (Yn p0 p1) prog 161 (fun _ vs=>vs=[.int .i64 p0,.int .i64 p1]) (fun _ r v Ln=>v=.tuple #[.agg #[.int .i64 r.1.Lo,.int .i64 r.1.Hi],.int .i64 r.2]/\Ln=[]/\True):=⟨by
 rintro _ _ r rfl hx w hK;unfold Yn at hx;refine CtS ntmps161 results161 ?_;exact au⟩
instance(p0:As)(p1:As):Con (Sg p0 p1) prog 67 (fun K vs=>∃E0 G0 E1 G1 E2 G2 E3 G3,vs=[.agg #[.bool p0.Neg,.slice E0 p0.Num.length G0,.slice E1 p0.Den.length G1],.agg #[.bool p1.Neg,.slice E2 p1.Num.length G2,.slice E3 p1.Den.length G3]]/\Has K E0 p0.Num.length G0 1 Ak p0.Num/\Has K E1 p0.Den.length G1 1 Ak p0.Den/\Has K E2 p1.Num.length G2 1 Ak p1.Num/\Has K E3 p1.Den.length G3 1 Ak p1.Den/\True) (fun _ r v Ln=>v=.tuple #[.agg #[.int .i64 r.1.Lo,.int .i64 r.1.Hi],.int .i64 r.2]/\Ln=[]/\True):=⟨by
 rintro K _ r ⟨E0,G0,E1,G1,E2,G2,E3,G3,rfl,ha0,ha1,ha2,ha3,-⟩ hx w hK;replace ha0:=ha0.lo hK;replace ha1:=ha1.lo hK;replace ha2:=ha2.lo hK;replace ha3:=ha3.lo hK;unfold Sg at hx;have:=dl 3 [1,2,1,2,4,4,3,3] [0,2,1,3,4,5,6,7] [4,5];refine CtS ntmps67 results67 ?_;refine pq ?_;intros;rename_i hx
 refine Cq3 (s:=15) hx rfl ?_ ?_
 .exact aI
 .refine pI ?_;intros;rename_i hx
  rename_i eA _ _ _ _ _ _ _ _ _ _ _ eB _ _ _ _ _;apply JrG (γ:=OA×Nat×OA×Nat×OA×Nat×OA×Nat×Nat×Nat) hx [4] (fun s6 y6 f=>(6,.pointer (some ⟨y6.2.2.2.2.2.2.2.2.2,0,none⟩))::(7,.pointer (some ⟨y6.2.2.2.2.2.2.2.2.1,0,none⟩))::f) [2,3,5,999] (fun s6 y6 l=>.m y6.2.2.2.2.2.2.2.2.1 219 [.bool s6.2.2.2.1,.slice y6.2.2.2.2.1 s6.2.2.2.2.1.length y6.2.2.2.2.2.1,.slice y6.2.2.2.2.2.2.1 s6.2.2.2.2.2.length y6.2.2.2.2.2.2.2.1] :: .m y6.2.2.2.2.2.2.2.2.2 219 [.bool s6.1,.slice y6.1 s6.2.1.length y6.2.1,.slice y6.2.2.1 s6.2.2.1.length y6.2.2.2.1]::l) (fun s6 y6=>Has ([.old w,eB,eA]) y6.1 s6.2.1.length y6.2.1 1 Ak s6.2.1/\Has ([.old w,eB,eA]) y6.2.2.1 s6.2.2.1.length y6.2.2.2.1 1 Ak s6.2.2.1/\Has ([.old w,eA,eB]) y6.2.2.2.2.1 s6.2.2.2.2.1.length y6.2.2.2.2.2.1 1 Ak s6.2.2.2.2.1/\Has ([.old w,eA,eB]) y6.2.2.2.2.2.2.1 s6.2.2.2.2.2.length y6.2.2.2.2.2.2.2.1 1 Ak s6.2.2.2.2.2/\True);exact kk
  .intro s6 y6 hx hG;obtain⟨_,_,_,_,-⟩:=hG;exact au
  .exact aI⟩
instance:Sd prog 129 [.int .i64 0,.int .i64 0,.int .i64 0,.int .i64 0,.int .i64 0,.int .i64 0,.int .i64 0,.int .i64 0,.int .i64 0,.int .i64 0,.int .i64 0,.int .i64 0]:=⟨⟨_,zeroValue129,rfl⟩⟩
instance(x0:Int)(x1:Int)(x2:Int)(x3:Int)(x4:Int)(x5:Int)(x6:Int)(x7:Int)(x8:Int)(x9:Int)(x10:Int)(x11:Int):Jg prog 129 [(0,.agg #[.int .i64 x0,.int .i64 x1,.int .i64 x2,.int .i64 x3]),(1,.agg #[.int .i64 x4,.int .i64 x5,.int .i64 x6,.int .i64 x7]),(2,.agg #[.int .i64 x8,.int .i64 x9,.int .i64 x10,.int .i64 x11])] [.int .i64 x0,.int .i64 x1,.int .i64 x2,.int .i64 x3,.int .i64 x4,.int .i64 x5,.int .i64 x6,.int .i64 x7,.int .i64 x8,.int .i64 x9,.int .i64 x10,.int .i64 x11]:=⟨fun w=>kr⟩
instance:AggI prog 129 12:=⟨.arr underlying129 (kr:prog.info? 129=some t129) kr⟩
theorem Aod:Ahl prog 129 3 4:=.mk underlying129 (kr:prog.info? 105=some t105) kr
instance:ArrI prog 129 3 4:=⟨Aod⟩
instance:Sd prog 140 []:=⟨⟨_,zeroValue140,rfl⟩⟩
instance:AggI prog 140 0:=⟨.mk underlying140 rfl (kr:prog.info? 140=some t140) kr⟩
structure Cy where
 a0:Aa
 a1:Aa
 a2:Aa
def Oq(p0:Aw)(p1:Ah):Option Cy :=
 bnd (idx p0.V p1.a0) fun x4=>
 bnd (idx p0.V p1.a1) fun x0=>
 bnd (idx p0.V p1.a2) fun x1=>
 some (⟨(⟨x4.X,x4.Y,(⟨x4.Z.Lo,x4.Z.Hi⟩:Af)⟩:Aa),(⟨x0.X,x0.Y,(⟨x0.Z.Lo,x0.Z.Hi⟩:Af)⟩:Aa),(⟨x1.X,x1.Y,(⟨x1.Z.Lo,x1.Z.Hi⟩:Af)⟩:Aa)⟩:Cy)
def Fw(p0:Cy)(p1:Ad):Int->Option (Sum Int (Sum Unit Bool)):=fun s0=>
 if s0<3 then (bnd (idx [(⟨p0.a0.X,p0.a0.Y,(⟨p0.a0.Z.Lo,p0.a0.Z.Hi⟩:Af)⟩:Aa),(⟨p0.a1.X,p0.a1.Y,(⟨p0.a1.Z.Lo,p0.a1.Z.Hi⟩:Af)⟩:Aa),(⟨p0.a2.X,p0.a2.Y,(⟨p0.a2.Z.Lo,p0.a2.Z.Hi⟩:Af)⟩:Aa)] s0) fun x0=>
 bnd (idx [(⟨p0.a0.X,p0.a0.Y,(⟨p0.a0.Z.Lo,p0.a0.Z.Hi⟩:Af)⟩:Aa),(⟨p0.a1.X,p0.a1.Y,(⟨p0.a1.Z.Lo,p0.a1.Z.Hi⟩:Af)⟩:Aa),(⟨p0.a2.X,p0.a2.Y,(⟨p0.a2.Z.Lo,p0.a2.Z.Hi⟩:Af)⟩:Aa)] (Int.tmod (w64 (s0+1)) 3)) fun x1=>
 bnd (Df (⟨x0.X,x0.Y,(⟨x0.Z.Lo,x0.Z.Hi⟩:Af)⟩:Aa)) fun r0=>
 bnd (Df (⟨x1.X,x1.Y,(⟨x1.Z.Lo,x1.Z.Hi⟩:Af)⟩:Aa)) fun r1=>
 bnd (Et r0 r1 p1) fun r2=>
 if r2<0 then (some (.inr (.inr false)))
 else (some (.inl (w64 (s0+1)))))
 else (some (.inr (.inl ())))
def Qk(p0:Cy)(p1:Ad):Option Bool :=
 jn (fun (s2:Unit)=>
 some true)
 (fun j2=>bnd (lfix (Fw p0 p1) 0) fun t0=>
 (match t0 with
 |(.inl z0)=>j2 z0
 |(.inr z0)=>some z0
 ))
def Sz(p0:Aw)(p1:Ad):Int->Option (Sum Int (Sum Unit Int)):=fun s0=>
 if s0<(p0.T.length:Int) then (bnd (idx p0.T s0) fun x0=>
 bnd (Oq p0 x0) fun r0=>
 bnd (Qk (⟨(⟨r0.a0.X,r0.a0.Y,(⟨r0.a0.Z.Lo,r0.a0.Z.Hi⟩:Af)⟩:Aa),(⟨r0.a1.X,r0.a1.Y,(⟨r0.a1.Z.Lo,r0.a1.Z.Hi⟩:Af)⟩:Aa),(⟨r0.a2.X,r0.a2.Y,(⟨r0.a2.Z.Lo,r0.a2.Z.Hi⟩:Af)⟩:Aa)⟩:Cy) p1) fun r1=>
 if r1=true then (some (.inr (.inr s0)))
 else (some (.inl (w64 (s0+1)))))
 else (some (.inr (.inl ())))
def Xl(p0:Aw)(p1:Ad):Option Int :=
 jn (fun (s2:Unit)=>
 some (-1))
 (fun j2=>bnd (lfix (Sz p0 p1) 0) fun t0=>
 (match t0 with
 |(.inl z0)=>j2 z0
 |(.inr z0)=>some z0
 ))
def La(p0:Aw)(p1:Ad):Option (Int×Int):=
 bnd (Rx p0) fun r3=>
 if r3=0 then (bnd (Sa p1 p1 p1) fun r9=>
 if r9.2=0 then (bnd (Xl p0 p1) fun r0=>
 if r0<0 then (some (0,65))
 else (some (r0,0)))
 else (some (0,r9.2)))
 else (some (0,r3))
structure Bc where
def Kr(p0:Bc)(p1:As)(p2:As):Option As :=
 bnd (Xh p1 p2) fun r5=>
 some r5.1
def Ks(p0:Bc)(p1:As)(p2:As):Option As :=
 bnd (Xi p1 p2) fun r5=>
 some r5.1
def Gv(p0:Bc)(p1:As)(p2:As):Option As :=
 bnd (Xj p1 p2) fun r5=>
 some r5.1
def Rk(p0:Bc)(p1:As)(p2:As):Option As :=
 bnd (Xk p1 p2) fun r5=>
 some r5.1
def Dj(p0:Bc)(p1:Int):Option As :=
 bnd (Jb p1) fun r3=>
 some r3
def Aa2(p0:Ad)(p1:Ad)(p2:Ad):Option Int :=
 some (w64 ((w64 ((w64 (p1.X-p0.X))*(w64 (p2.Y-p0.Y))))-(w64 ((w64 (p1.Y-p0.Y))*(w64 (p2.X-p0.X))))))
def Rz(p0:Aa)(p1:Bool):Option Int :=
 if p1=true then (some p0.Z.Hi)
 else (some p0.Z.Lo)
def Nj(p0:Cy)(p1:As)(p2:As)(p3:Bool):Option As :=
 bnd (Df (⟨p0.a0.X,p0.a0.Y,(⟨p0.a0.Z.Lo,p0.a0.Z.Hi⟩:Af)⟩:Aa)) fun r6=>
 bnd (Df (⟨p0.a1.X,p0.a1.Y,(⟨p0.a1.Z.Lo,p0.a1.Z.Hi⟩:Af)⟩:Aa)) fun r9=>
 bnd (Df (⟨p0.a2.X,p0.a2.Y,(⟨p0.a2.Z.Lo,p0.a2.Z.Hi⟩:Af)⟩:Aa)) fun r0=>
 bnd (Aa2 r6 r9 r0) fun r1=>
 bnd (Dj (⟨⟩:Bc) r1) fun r2=>
 bnd (Dj (⟨⟩:Bc) r6.X) fun r3=>
 bnd (Ks (⟨⟩:Bc) p1 r3) fun r4=>
 bnd (Dj (⟨⟩:Bc) r6.Y) fun r5=>
 bnd (Ks (⟨⟩:Bc) p2 r5) fun r7=>
 bnd (Dj (⟨⟩:Bc) (w64 (r0.Y-r6.Y))) fun r8=>
 bnd (Gv (⟨⟩:Bc) r4 r8) fun r82=>
 bnd (Dj (⟨⟩:Bc) (w64 (r0.X-r6.X))) fun r89=>
 bnd (Gv (⟨⟩:Bc) r7 r89) fun r10=>
 bnd (Ks (⟨⟩:Bc) r82 r10) fun r11=>
 bnd (Dj (⟨⟩:Bc) (w64 (r9.X-r6.X))) fun r13=>
 bnd (Gv (⟨⟩:Bc) r13 r7) fun r14=>
 bnd (Dj (⟨⟩:Bc) (w64 (r9.Y-r6.Y))) fun r15=>
 bnd (Gv (⟨⟩:Bc) r15 r4) fun r16=>
 bnd (Ks (⟨⟩:Bc) r14 r16) fun r17=>
 bnd (Rz (⟨p0.a0.X,p0.a0.Y,(⟨p0.a0.Z.Lo,p0.a0.Z.Hi⟩:Af)⟩:Aa) p3) fun r19=>
 bnd (Rz (⟨p0.a1.X,p0.a1.Y,(⟨p0.a1.Z.Lo,p0.a1.Z.Hi⟩:Af)⟩:Aa) p3) fun r20=>
 bnd (Dj (⟨⟩:Bc) (w64 (r20-r19))) fun r22=>
 bnd (Gv (⟨⟩:Bc) r11 r22) fun r23=>
 bnd (Rz (⟨p0.a2.X,p0.a2.Y,(⟨p0.a2.Z.Lo,p0.a2.Z.Hi⟩:Af)⟩:Aa) p3) fun r24=>
 bnd (Dj (⟨⟩:Bc) (w64 (r24-r19))) fun r25=>
 bnd (Gv (⟨⟩:Bc) r17 r25) fun r26=>
 bnd (Kr (⟨⟩:Bc) r23 r26) fun r27=>
 bnd (Dj (⟨⟩:Bc) r19) fun r28=>
 bnd (Rk (⟨⟩:Bc) r27 r2) fun r30=>
 bnd (Kr (⟨⟩:Bc) r28 r30) fun r31=>
 some r31
def Fj(p0:Aw)(p1:Ad):Option (As×As×Int):=
 bnd (La p0 p1) fun r5=>
 if r5.2=0 then (bnd (idx p0.T r5.1) fun x0=>
 bnd (Oq p0 x0) fun r0=>
 bnd (Jb p1.X) fun r1=>
 bnd (Jb p1.Y) fun r2=>
 bnd (Nj (⟨(⟨r0.a0.X,r0.a0.Y,(⟨r0.a0.Z.Lo,r0.a0.Z.Hi⟩:Af)⟩:Aa),(⟨r0.a1.X,r0.a1.Y,(⟨r0.a1.Z.Lo,r0.a1.Z.Hi⟩:Af)⟩:Aa),(⟨r0.a2.X,r0.a2.Y,(⟨r0.a2.Z.Lo,r0.a2.Z.Hi⟩:Af)⟩:Aa)⟩:Cy) r1 r2 false) fun r3=>
 bnd (Nj (⟨(⟨r0.a0.X,r0.a0.Y,(⟨r0.a0.Z.Lo,r0.a0.Z.Hi⟩:Af)⟩:Aa),(⟨r0.a1.X,r0.a1.Y,(⟨r0.a1.Z.Lo,r0.a1.Z.Hi⟩:Af)⟩:Aa),(⟨r0.a2.X,r0.a2.Y,(⟨r0.a2.Z.Lo,r0.a2.Z.Hi⟩:Af)⟩:Aa)⟩:Cy) r1 r2 true) fun r4=>
 some (r3,r4,0))
 else (some ((⟨false,([]:LI),([]:LI)⟩:As),(⟨false,([]:LI),([]:LI)⟩:As),r5.2))
def Hs(p0:Aw)(p1:Ad):Option (Af×Int):=
 bnd (Fj p0 p1) fun r4=>
 if r4.2.2=0 then (bnd (Sg r4.1 r4.2.1) fun r0=>
 some ((⟨r0.1.Lo,r0.1.Hi⟩:Af),r0.2))
 else (some ((⟨0,0⟩:Af),r4.2.2))
instance(p0:Aw)(p1:Ah):Con (Oq p0 p1) prog 64 (fun K vs=>∃E0 G0 E1 G1 E2 G2,vs=[.agg #[.slice E0 p0.V.length G0,.slice E1 p0.T.length G1,.slice E2 p0.Lines.length G2],.agg #[.int .i64 p1.a0,.int .i64 p1.a1,.int .i64 p1.a2]]/\Has K E0 p0.V.length G0 4 Ai p0.V/\Has K E1 p0.T.length G1 3 Bg p0.T/\Has K E2 p0.Lines.length G2 2 Ar p0.Lines/\True) (fun _ r v Ln=>v=.agg #[.int .i64 r.a0.X,.int .i64 r.a0.Y,.int .i64 r.a0.Z.Lo,.int .i64 r.a0.Z.Hi,.int .i64 r.a1.X,.int .i64 r.a1.Y,.int .i64 r.a1.Z.Lo,.int .i64 r.a1.Z.Hi,.int .i64 r.a2.X,.int .i64 r.a2.Y,.int .i64 r.a2.Z.Lo,.int .i64 r.a2.Z.Hi]/\Ln=[]/\True):=⟨by
 rintro K _ r ⟨E0,G0,E1,G1,E2,G2,rfl,ha0,ha1,ha2,-⟩ hx w hK;replace ha0:=ha0.lo hK;replace ha1:=ha1.lo hK;replace ha2:=ha2.lo hK;unfold Oq at hx;have:=dl 1 [0,1,0,1,0,1,0,1,0,1,0,1,0,1,0,1,0,1,0,3] [0,1,2,3,4,5,6,7,8,9,10,11,12,13,14,15,16,17,18,19];refine CtS ntmps64 results64 ?_;exact au⟩
theorem Agu(p0:Cy)(p1:Ad){r:Bool}(hx:Qk p0 p1=some r)(w:World):CtL prog 147 [.agg #[.int .i64 p0.a0.X,.int .i64 p0.a0.Y,.int .i64 p0.a0.Z.Lo,.int .i64 p0.a0.Z.Hi,.int .i64 p0.a1.X,.int .i64 p0.a1.Y,.int .i64 p0.a1.Z.Lo,.int .i64 p0.a1.Z.Hi,.int .i64 p0.a2.X,.int .i64 p0.a2.Y,.int .i64 p0.a2.Z.Lo,.int .i64 p0.a2.Z.Hi],.agg #[.int .i64 p1.X,.int .i64 p1.Y]] w fun v Ln=>v=.bool r/\Ln=[]/\True:=by
 refine CtL.mk 23 func147 rfl ntmps147 kr rfl ?_;show T 23 _ [(0,.agg #[.int .i64 p0.a0.X,.int .i64 p0.a0.Y,.int .i64 p0.a0.Z.Lo,.int .i64 p0.a0.Z.Hi,.int .i64 p0.a1.X,.int .i64 p0.a1.Y,.int .i64 p0.a1.Z.Lo,.int .i64 p0.a1.Z.Hi,.int .i64 p0.a2.X,.int .i64 p0.a2.Y,.int .i64 p0.a2.Z.Lo,.int .i64 p0.a2.Z.Hi]),(1,.agg #[.int .i64 p1.X,.int .i64 p1.Y])] _;unfold Qk at hx;refine Y2 ?_;refine T_x (Aac rfl rfl rfl (fun g1=>?_));refine T_x (Aac rfl rfl rfl (fun g2=>?_));refine Y3 ?_;refine Tj (γ:=Unit) hx (fun s2 y2=>[]) (fun s2 y2=>[]++[.old w]) (fun s2 y2=>True) (fun s2 y2 hx0 hG0=>?_) (fun j2 hx=>?_)
 .refine Y6 ?_;obtain rfl:=oI hx0;exact Kf (rs:=[.tmp 4]) results147 (.tmp rfl (.nil)) (Ln:=[]) ⟨rfl,rfl,trivial⟩ Iz (by exact .refl)
 .refine Y6 ?_;obtain⟨t0,hl0,ho0⟩:=Aq hx;refine Lp (σ:=Int) (γ:=Unit) hl0 (fun s0 y0=>[(2,.pointer (some ⟨g1,0,none⟩)),(3,.pointer (some ⟨g2,0,none⟩)),(6,.int .i64 s0)]) (fun s0 y0=>[.m g2 44 [.int .i64 p1.X,.int .i64 p1.Y],.m g1 129 [.int .i64 p0.a0.X,.int .i64 p0.a0.Y,.int .i64 p0.a0.Z.Lo,.int .i64 p0.a0.Z.Hi,.int .i64 p0.a1.X,.int .i64 p0.a1.Y,.int .i64 p0.a1.Z.Lo,.int .i64 p0.a1.Z.Hi,.int .i64 p0.a2.X,.int .i64 p0.a2.Y,.int .i64 p0.a2.Z.Lo,.int .i64 p0.a2.Z.Hi]]++[.old w]) (fun s0 y0=>True) () trivial (by exact .pick 0 rfl (.pick 0 rfl (.refl))) ?_;intro s0 y0 hG1 x0 hx1 ht0;unfold Fw at hx1;refine Y6 ?_;refine Ti hx1 (s:=7) rfl (fun h0 hx2=>?_) (fun h0 hx3=>?_)
  .refine Y12 ?_;refine T_dr [0,0,1,2,0,0,0,0,1,2,1,2,0] (.q 0 (.q 1 (.q 2 (.q 4 (.q 5 (.q 6 (.q 7 (.q 8 (.q 10 (.e 3 (.e 9 (.e 11 (.q 12 (.done)) (.stop)) (.stop)) (.stop))))))))))) mixed kr kr ?_;refine Y ?_;obtain⟨x1,h1,hx4⟩:=Aq hx2;refine P_p rfl rfl (So rfl rfl Aod (Aa5 h1).1 (Aa5 h1).2 rfl) rfl ?_;refine P_q rfl rfl (Ai0 Ai (o:=0) rfl (i:=1) rfl h1 rfl (fun _=>rfl) rfl Ab8) rfl ?_;refine Y2 ?_;refine P_p rfl rfl (Akg rfl rfl dD) rfl ?_;obtain⟨x2,h2,hx5⟩:=Aq hx4;refine P_p rfl rfl (So rfl rfl Aod (Aa5 h2).1 (Aa5 h2).2 rfl) rfl ?_;refine P_q rfl rfl (Ai0 Ai (o:=0) rfl (i:=1) rfl h2 rfl (fun _=>rfl) rfl Ab8) rfl ?_;refine P_q rfl rfl (Nw rfl (i:=0) rfl rfl Bao) rfl ?_;obtain⟨r0,h3,hx6⟩:=Aq hx5;refine Pc (fun w1 hw1=>Ts (⟨x1.X,x1.Y,(⟨x1.Z.Lo,x1.Z.Hi⟩:Af)⟩:Aa)  h3 w1) ?_;obtain⟨r1,h4,hx7⟩:=Aq hx6;refine Pc (fun w1 hw1=>Ts (⟨x2.X,x2.Y,(⟨x2.Z.Lo,x2.Z.Hi⟩:Af)⟩:Aa)  h4 w1) ?_;obtain⟨r2,h5,hx8⟩:=Aq hx7;refine Pc (fun w1 hw1=>Aki r0 r1 p1  h5 w1) ?_;refine Y3 ?_;refine Ti hx8 (s:=21) rfl (fun h6 hx9=>?_) (fun h6 hx46=>?_)
   .refine Y9 ?_;obtain rfl:=Mg ht0 hx9;refine Y3 ?_;obtain rfl:=oI ho0;exact Kf (rs:=[.tmp 4]) results147 (.tmp rfl (.nil)) (Ln:=[]) ⟨rfl,rfl,trivial⟩ Iz (by exact .drop 0 rfl (.drop 0 rfl (.refl)))
   .refine Y8 ?_;exact Rp (w64 (s0+1)) () hx46 trivial (by exact .pick 0 rfl (.pick 0 rfl (.refl)))
  .refine Y3 ?_;obtain rfl:=Mg ht0 hx3;refine Y2 ?_;exact Mt () () ho0 trivial (by exact .drop 0 rfl (.drop 0 rfl (.refl)))
instance(p0:Cy)(p1:Ad):Con (Qk p0 p1) prog 147 (fun _ vs=>vs=[.agg #[.int .i64 p0.a0.X,.int .i64 p0.a0.Y,.int .i64 p0.a0.Z.Lo,.int .i64 p0.a0.Z.Hi,.int .i64 p0.a1.X,.int .i64 p0.a1.Y,.int .i64 p0.a1.Z.Lo,.int .i64 p0.a1.Z.Hi,.int .i64 p0.a2.X,.int .i64 p0.a2.Y,.int .i64 p0.a2.Z.Lo,.int .i64 p0.a2.Z.Hi],.agg #[.int .i64 p1.X,.int .i64 p1.Y]]) (fun _ r v Ln=>v=.bool r/\Ln=[]/\True):=⟨by
 rintro _ _ r rfl hx w hK;exact Agu p0 p1 hx w⟩
instance(p0:Aw)(p1:Ad):Con (Xl p0 p1) prog 62 (fun K vs=>∃E0 G0 E1 G1 E2 G2,vs=[.agg #[.slice E0 p0.V.length G0,.slice E1 p0.T.length G1,.slice E2 p0.Lines.length G2],.agg #[.int .i64 p1.X,.int .i64 p1.Y]]/\Has K E0 p0.V.length G0 4 Ai p0.V/\Has K E1 p0.T.length G1 3 Bg p0.T/\Has K E2 p0.Lines.length G2 2 Ar p0.Lines/\True) (fun _ r v Ln=>v=.int .i64 r/\Ln=[]/\True):=⟨by
 rintro K _ r ⟨E0,G0,E1,G1,E2,G2,rfl,ha0,ha1,ha2,-⟩ hx w hK;replace ha0:=ha0.lo hK;replace ha1:=ha1.lo hK;replace ha2:=ha2.lo hK;unfold Xl at hx;have:=dl 4 [1,1,2,1,2] [0,1,3,2,4];refine CtS ntmps62 results62 ?_;refine pq ?_;intros;rename_i hx
 refine pA ?_;intros;rename_i hx
 apply Jr (γ:=Unit) hx [] (fun s2 y2 f=>f) [999] (fun s2 y2 l=>l);exact kk
 .exact aI
 .refine pI ?_;intros;rename_i hx
  apply Lr (γ:=Unit) hx [2,3,8,9] (fun s0 y0 f=>(10,.int .i64 s0)::f) [0,1,999] (fun s0 y0 l=>l) ();exact kk;exact sk;intro s0 y0 x0 hx _;unfold Sz at hx;exact au⟩
instance(p0:Aw)(p1:Ad):Con (La p0 p1) prog 18 (fun K vs=>∃E0 G0 E1 G1 E2 G2,vs=[.agg #[.slice E0 p0.V.length G0,.slice E1 p0.T.length G1,.slice E2 p0.Lines.length G2],.agg #[.int .i64 p1.X,.int .i64 p1.Y]]/\Has K E0 p0.V.length G0 4 Ai p0.V/\Has K E1 p0.T.length G1 3 Bg p0.T/\Has K E2 p0.Lines.length G2 2 Ar p0.Lines/\True) (fun _ r v Ln=>v=.tuple #[.int .i64 r.1,.int .i64 r.2]/\Ln=[]/\True):=⟨by
 rintro K _ r ⟨E0,G0,E1,G1,E2,G2,rfl,ha0,ha1,ha2,-⟩ hx w hK;replace ha0:=ha0.lo hK;replace ha1:=ha1.lo hK;replace ha2:=ha2.lo hK;unfold La at hx;refine CtS ntmps18 results18 ?_;exact au⟩
instance(p0:Bc)(p1:As)(p2:As):Con (Kr p0 p1 p2) prog 72 (fun K vs=>∃E0 G0 E1 G1 E2 G2 E3 G3,vs=[.agg #[],.agg #[.bool p1.Neg,.slice E0 p1.Num.length G0,.slice E1 p1.Den.length G1],.agg #[.bool p2.Neg,.slice E2 p2.Num.length G2,.slice E3 p2.Den.length G3]]/\Has K E0 p1.Num.length G0 1 Ak p1.Num/\Has K E1 p1.Den.length G1 1 Ak p1.Den/\Has K E2 p2.Num.length G2 1 Ak p2.Num/\Has K E3 p2.Den.length G3 1 Ak p2.Den/\True) (fun _ r v Ln=>∃A0 c0 A2 c2,v=.agg #[.bool r.Neg,.slice A0 r.Num.length c0,.slice A2 r.Den.length c2]/\Ln=[.r A0 r.Num.length c0 245 1 (r.Num.flatMap Ak),.r A2 r.Den.length c2 245 1 (r.Den.flatMap Ak)]/\True):=⟨by
 rintro K _ r ⟨E0,G0,E1,G1,E2,G2,E3,G3,rfl,ha0,ha1,ha2,ha3,-⟩ hx w hK;replace ha0:=ha0.lo hK;replace ha1:=ha1.lo hK;replace ha2:=ha2.lo hK;replace ha3:=ha3.lo hK;unfold Kr at hx;refine CtS ntmps72 results72 ?_;exact au⟩
instance(p0:Bc)(p1:As)(p2:As):Con (Ks p0 p1 p2) prog 153 (fun K vs=>∃E0 G0 E1 G1 E2 G2 E3 G3,vs=[.agg #[],.agg #[.bool p1.Neg,.slice E0 p1.Num.length G0,.slice E1 p1.Den.length G1],.agg #[.bool p2.Neg,.slice E2 p2.Num.length G2,.slice E3 p2.Den.length G3]]/\Has K E0 p1.Num.length G0 1 Ak p1.Num/\Has K E1 p1.Den.length G1 1 Ak p1.Den/\Has K E2 p2.Num.length G2 1 Ak p2.Num/\Has K E3 p2.Den.length G3 1 Ak p2.Den/\True) (fun _ r v Ln=>∃A0 c0 A2 c2,v=.agg #[.bool r.Neg,.slice A0 r.Num.length c0,.slice A2 r.Den.length c2]/\Ln=[.r A0 r.Num.length c0 245 1 (r.Num.flatMap Ak),.r A2 r.Den.length c2 245 1 (r.Den.flatMap Ak)]/\True):=⟨by
 rintro K _ r ⟨E0,G0,E1,G1,E2,G2,E3,G3,rfl,ha0,ha1,ha2,ha3,-⟩ hx w hK;replace ha0:=ha0.lo hK;replace ha1:=ha1.lo hK;replace ha2:=ha2.lo hK;replace ha3:=ha3.lo hK;unfold Ks at hx;refine CtS ntmps153 results153 ?_;exact au⟩
instance(p0:Bc)(p1:As)(p2:As):Con (Gv p0 p1 p2) prog 74 (fun K vs=>∃E0 G0 E1 G1 E2 G2 E3 G3,vs=[.agg #[],.agg #[.bool p1.Neg,.slice E0 p1.Num.length G0,.slice E1 p1.Den.length G1],.agg #[.bool p2.Neg,.slice E2 p2.Num.length G2,.slice E3 p2.Den.length G3]]/\Has K E0 p1.Num.length G0 1 Ak p1.Num/\Has K E1 p1.Den.length G1 1 Ak p1.Den/\Has K E2 p2.Num.length G2 1 Ak p2.Num/\Has K E3 p2.Den.length G3 1 Ak p2.Den/\True) (fun _ r v Ln=>∃A0 c0 A2 c2,v=.agg #[.bool r.Neg,.slice A0 r.Num.length c0,.slice A2 r.Den.length c2]/\Ln=[.r A0 r.Num.length c0 245 1 (r.Num.flatMap Ak),.r A2 r.Den.length c2 245 1 (r.Den.flatMap Ak)]/\True):=⟨by
 rintro K _ r ⟨E0,G0,E1,G1,E2,G2,E3,G3,rfl,ha0,ha1,ha2,ha3,-⟩ hx w hK;replace ha0:=ha0.lo hK;replace ha1:=ha1.lo hK;replace ha2:=ha2.lo hK;replace ha3:=ha3.lo hK;unfold Gv at hx;refine CtS ntmps74 results74 ?_;exact au⟩
instance(p0:Bc)(p1:As)(p2:As):Con (Rk p0 p1 p2) prog 155 (fun K vs=>∃E0 G0 E1 G1 E2 G2 E3 G3,vs=[.agg #[],.agg #[.bool p1.Neg,.slice E0 p1.Num.length G0,.slice E1 p1.Den.length G1],.agg #[.bool p2.Neg,.slice E2 p2.Num.length G2,.slice E3 p2.Den.length G3]]/\Has K E0 p1.Num.length G0 1 Ak p1.Num/\Has K E1 p1.Den.length G1 1 Ak p1.Den/\Has K E2 p2.Num.length G2 1 Ak p2.Num/\Has K E3 p2.Den.length G3 1 Ak p2.Den/\True) (fun _ r v Ln=>∃A0 c0 A2 c2,v=.agg #[.bool r.Neg,.slice A0 r.Num.length c0,.slice A2 r.Den.length c2]/\Ln=[.r A0 r.Num.length c0 245 1 (r.Num.flatMap Ak),.r A2 r.Den.length c2 245 1 (r.Den.flatMap Ak)]/\True):=⟨by
 rintro K _ r ⟨E0,G0,E1,G1,E2,G2,E3,G3,rfl,ha0,ha1,ha2,ha3,-⟩ hx w hK;replace ha0:=ha0.lo hK;replace ha1:=ha1.lo hK;replace ha2:=ha2.lo hK;replace ha3:=ha3.lo hK;unfold Rk at hx;refine CtS ntmps155 results155 ?_;exact au⟩
instance(p0:Bc)(p1:Int):Con (Dj p0 p1) prog 73 (fun _ vs=>vs=[.agg #[],.int .i64 p1]) (fun _ r v Ln=>∃A0 c0 A2 c2,v=.agg #[.bool r.Neg,.slice A0 r.Num.length c0,.slice A2 r.Den.length c2]/\Ln=[.r A0 r.Num.length c0 245 1 (r.Num.flatMap Ak),.r A2 r.Den.length c2 245 1 (r.Den.flatMap Ak)]/\True):=⟨by
 rintro _ _ r rfl hx w hK;unfold Dj at hx;refine CtS ntmps73 results73 ?_;exact au⟩
instance(p0:Ad)(p1:Ad)(p2:Ad):Con (Aa2 p0 p1 p2) prog 152 (fun _ vs=>vs=[.agg #[.int .i64 p0.X,.int .i64 p0.Y],.agg #[.int .i64 p1.X,.int .i64 p1.Y],.agg #[.int .i64 p2.X,.int .i64 p2.Y]]) (fun _ r v Ln=>v=.int .i64 r/\Ln=[]/\True):=⟨by
 rintro _ _ r rfl hx w hK;unfold Aa2 at hx;refine CtS ntmps152 results152 ?_;exact au⟩
instance(p0:Aa)(p1:Bool):Con (Rz p0 p1) prog 154 (fun _ vs=>vs=[.agg #[.int .i64 p0.X,.int .i64 p0.Y,.int .i64 p0.Z.Lo,.int .i64 p0.Z.Hi],.bool p1]) (fun _ r v Ln=>v=.int .i64 r/\Ln=[]/\True):=⟨by
 rintro _ _ r rfl hx w hK;unfold Rz at hx;refine CtS ntmps154 results154 ?_;exact au⟩
instance(p0:Cy)(p1:As)(p2:As)(p3:Bool):Con (Nj p0 p1 p2 p3) prog 66 (fun K vs=>∃E0 G0 E1 G1 E2 G2 E3 G3,vs=[.agg #[.int .i64 p0.a0.X,.int .i64 p0.a0.Y,.int .i64 p0.a0.Z.Lo,.int .i64 p0.a0.Z.Hi,.int .i64 p0.a1.X,.int .i64 p0.a1.Y,.int .i64 p0.a1.Z.Lo,.int .i64 p0.a1.Z.Hi,.int .i64 p0.a2.X,.int .i64 p0.a2.Y,.int .i64 p0.a2.Z.Lo,.int .i64 p0.a2.Z.Hi],.agg #[.bool p1.Neg,.slice E0 p1.Num.length G0,.slice E1 p1.Den.length G1],.agg #[.bool p2.Neg,.slice E2 p2.Num.length G2,.slice E3 p2.Den.length G3],.bool p3]/\Has K E0 p1.Num.length G0 1 Ak p1.Num/\Has K E1 p1.Den.length G1 1 Ak p1.Den/\Has K E2 p2.Num.length G2 1 Ak p2.Num/\Has K E3 p2.Den.length G3 1 Ak p2.Den/\True) (fun _ r v Ln=>∃A0 c0 A2 c2,v=.agg #[.bool r.Neg,.slice A0 r.Num.length c0,.slice A2 r.Den.length c2]/\Ln=[.r A0 r.Num.length c0 245 1 (r.Num.flatMap Ak),.r A2 r.Den.length c2 245 1 (r.Den.flatMap Ak)]/\True):=⟨by
 rintro K _ r ⟨E0,G0,E1,G1,E2,G2,E3,G3,rfl,ha0,ha1,ha2,ha3,-⟩ hx w hK;replace ha0:=ha0.lo hK;replace ha1:=ha1.lo hK;replace ha2:=ha2.lo hK;replace ha3:=ha3.lo hK;unfold Nj at hx;have:=dl 2 [0,1,2,0,1,2,0,1,2,4,4,4,3,3,3] [0,1,3,4,6,7,2,5,8,9,10,11,12,13,14] [9,10,11];have:=dl 3 [1,1,1,1,2,2,4,3] [0,1,2,3,4,5,6,7] [6];have:=dl 4 [1,1,1,0,1,2,2,1,1,1,0,1,2,2,4,4,3,3] [0,1,2,3,4,7,8,9,10,11,5,6,12,13,14,15,16,17] [14,15];have:=dl 5 [1,1,1,1,0,1,0,1,0,2,2,1,1,1,0,1,0,1,0,2,2,2,4,3] [0,1,2,3,4,5,6,7,8,11,12,13,14,15,16,17,18,9,10,19,20,21,22,23] [22];have:=dl 6 [1,1,1,0,1,0,1,0,2,1,2,1,1,0,1,0,1,0,2,1,2,2,4,3] [0,1,2,3,4,5,6,7,9,11,12,13,14,15,16,17,19,8,10,18,20,21,22,23] [22];have:=dl 8 [1,1,1,1,0,1,0,2,0,0,2,2,1,1,1,0,1,0,2,0,0,2,2,2,4,3] [0,1,2,3,4,5,6,8,12,13,14,15,16,17,19,7,9,10,11,18,20,21,22,23,24,25] [24];have:=dl 9 [1,1,0,2,1,1,1,2,2,3] [0,1,2,4,5,6,3,7,8,9];refine CtS ntmps66 results66 ?_;exact au⟩
instance(p0:Aw)(p1:Ad):Con (Fj p0 p1) prog 20 (fun K vs=>∃E0 G0 E1 G1 E2 G2,vs=[.agg #[.slice E0 p0.V.length G0,.slice E1 p0.T.length G1,.slice E2 p0.Lines.length G2],.agg #[.int .i64 p1.X,.int .i64 p1.Y]]/\Has K E0 p0.V.length G0 4 Ai p0.V/\Has K E1 p0.T.length G1 3 Bg p0.T/\Has K E2 p0.Lines.length G2 2 Ar p0.Lines/\True) (fun _ r v Ln=>∃A0 c0 A2 c2 A4 c4 A6 c6,v=.tuple #[.agg #[.bool r.1.Neg,.slice A0 r.1.Num.length c0,.slice A2 r.1.Den.length c2],.agg #[.bool r.2.1.Neg,.slice A4 r.2.1.Num.length c4,.slice A6 r.2.1.Den.length c6],.int .i64 r.2.2]/\Ln=[.r A0 r.1.Num.length c0 245 1 (r.1.Num.flatMap Ak),.r A2 r.1.Den.length c2 245 1 (r.1.Den.flatMap Ak),.r A4 r.2.1.Num.length c4 245 1 (r.2.1.Num.flatMap Ak),.r A6 r.2.1.Den.length c6 245 1 (r.2.1.Den.flatMap Ak)]/\True):=⟨by
 rintro K _ r ⟨E0,G0,E1,G1,E2,G2,rfl,ha0,ha1,ha2,-⟩ hx w hK;replace ha0:=ha0.lo hK;replace ha1:=ha1.lo hK;replace ha2:=ha2.lo hK;unfold Fj at hx;have:=dl 4 [1,0,1,0,0,1,2,4,3] [0,1,2,3,4,5,6,7,8] [7];have:=dl 5 [0,1,2,0,1,2,4,4,3,3] [0,1,3,4,2,5,6,7,8,9] [6,7];have:=dl 6 [1,1,1,2,1,1,1,2,3,3,2] [0,1,2,4,5,6,3,7,8,9,10];refine CtS ntmps20 results20 ?_;exact au⟩
instance(p0:Aw)(p1:Ad):Con (Hs p0 p1) prog 21 (fun K vs=>∃E0 G0 E1 G1 E2 G2,vs=[.agg #[.slice E0 p0.V.length G0,.slice E1 p0.T.length G1,.slice E2 p0.Lines.length G2],.agg #[.int .i64 p1.X,.int .i64 p1.Y]]/\Has K E0 p0.V.length G0 4 Ai p0.V/\Has K E1 p0.T.length G1 3 Bg p0.T/\Has K E2 p0.Lines.length G2 2 Ar p0.Lines/\True) (fun _ r v Ln=>v=.tuple #[.agg #[.int .i64 r.1.Lo,.int .i64 r.1.Hi],.int .i64 r.2]/\Ln=[]/\True):=⟨by
 rintro K _ r ⟨E0,G0,E1,G1,E2,G2,rfl,ha0,ha1,ha2,-⟩ hx w hK;replace ha0:=ha0.lo hK;replace ha1:=ha1.lo hK;replace ha2:=ha2.lo hK;unfold Hs at hx;refine CtS ntmps21 results21 ?_;exact au⟩
end
end Go.Proofs.YtlejkgngmjchdaaGreat
