import Derived.Test.YthlkpgdfifnagaaGreatR1
set_option maxRecDepth 100000
set_option maxHeartbeats 1000000
namespace Go.Proofs.YthlkpgdfifnagaaGreat
open Go Go.RowKit Tryz
noncomputable section
instance:Bt prog 117 0 0:=⟨.mk underlying117 rfl rfl (kr:prog.info? 4=some Tryz.t4) (kr:Tryz.t4.size=1) rfl⟩
instance:Bt prog 117 1 1:=⟨.mk underlying117 rfl rfl (kr:prog.info? 42=some t42) (kr:t42.size=1) rfl⟩
instance:Ji prog 117 [] [.bool false,.slice none 0 0]:=⟨fun w=>kr⟩
instance:Ur prog 173 [.bool false,.slice none 0 0,.slice none 0 0]:=⟨⟨_,zeroValue173,rfl⟩⟩
instance(x0:Bool)(x1:OA)(x2:Nat)(x3:Nat)(x4:OA)(x5:Nat)(x6:Nat):Ji prog 173 [(0,.agg #[.bool x0,.slice x1 x2 x3]),(1,.slice x4 x5 x6)] [.bool x0,.slice x1 x2 x3,.slice x4 x5 x6]:=⟨fun w=>kr⟩
instance:AggI prog 173 3:=⟨.mk underlying173 rfl (kr:prog.info? 173=some t173) kr⟩
instance:Bt prog 173 0 0:=⟨.mk underlying173 rfl rfl (kr:prog.info? 117=some t117) (kr:t117.size=2) rfl⟩
instance:Bt prog 173 1 2:=⟨.mk underlying173 rfl rfl (kr:prog.info? 42=some t42) (kr:t42.size=1) rfl⟩
instance(x0:Bool)(x1:OA)(x2:Nat)(x3:Nat)(x4:OA)(x5:Nat)(x6:Nat):Ano prog 173 [.bool x0,.slice x1 x2 x3,.slice x4 x5 x6] 0 (.agg #[.bool x0,.slice x1 x2 x3]):=⟨fun w=>kr⟩
instance:Kt prog 177 173 3:=⟨.mk underlying177 (kr:prog.info? 173=some t173) kr⟩
def Io(p0:Ai)(p1:Ai):Option Ai :=
 if (p0.Neg==p1.Neg)=true then (bnd (Ju p0.L p1.L) fun r6=>
 some (⟨p0.Neg,r6⟩:Ai))
 else (bnd (Fk p0.L p1.L) fun r0=>
 if r0=0 then (some (⟨false,([]:LI)⟩:Ai))
 else (if 0<r0 then (bnd (Fi p0.L p1.L) fun r1=>
 some (⟨p0.Neg,r1⟩:Ai))
 else (bnd (Fi p1.L p0.L) fun r2=>
 some (⟨p1.Neg,r2⟩:Ai))))
def Do(p0:Ai):Option Ai :=
 jn (fun (s2:Bool)=>
 some (⟨s2,p0.L⟩:Ai))
 (fun j2=>if p0.Neg=true then (j2 false)
 else (j2 (decide (0<(p0.L.length:Int)))))
def Bd(p0:Ai)(p1:Ai):Option Ai :=
 bnd (Ck p0.L p1.L) fun r4=>
 jn (fun (s3:Bool)=>
 some (⟨s3,r4⟩:Ai))
 (fun j3=>if (p0.Neg==p1.Neg)=true then (j3 false)
 else (j3 (decide (0<(r4.length:Int)))))
def Eh(p0:Ai):Option Int :=
 if (p0.L.length:Int)=0 then (some 0)
 else (if p0.Neg=true then (some (-1))
 else (some 1))
def Cu(p0:Ai)(p1:Ai):Option Int :=
 bnd (Do p1) fun r3=>
 bnd (Io p0 r3) fun r8=>
 bnd (Eh r8) fun r0=>
 some r0
def Dx(p0:Ai):(Int×Int)->Option (Sum (Int×Int) Int):=fun s0=>
 if 0<=s0.2 then (bnd (idx p0.L s0.2) fun x0=>
 some (.inl (w64 ((w64 (s0.1*65536))+x0),w64 (s0.2-1))))
 else (some (.inr s0.1))
def Kh(p0:Ai):Option (Int×Bool):=
 jn (fun (s3:Bool)=>
 if s3=true then (some (0,false))
 else (jn (fun (s6:Int)=>
 jn (fun (s0:Bool)=>
 if s0=true then (some (0,false))
 else (jn (fun (s1:Int)=>
 some (s1,true))
 (fun j0=>if p0.Neg=true then (j0 (w64 (-s6)))
 else (j0 s6))))
 (fun j1=>if s6<0 then (j1 true)
 else (j1 (decide (4611686018427387904<s6)))))
 (fun j6=>bnd (lfix (Dx p0) (0,w64 ((p0.L.length:Int)-1))) fun t0=>
 j6 t0)))
 (fun j3=>if 4<(p0.L.length:Int) then (j3 true)
 else (if (p0.L.length:Int)=4 then (bnd (idx p0.L 3) fun x7=>
 j3 (decide (16384<x7)))
 else (j3 false)))
def Ki(p0:Ai)(p1:Ai):Option Ai :=
 bnd (De p0.L p1.L) fun r4=>
 if p0.Neg=true then (jn (fun (s6:LI)=>
 some (⟨decide (0<(s6.length:Int)),s6⟩:Ai))
 (fun j6=>if 0<(r4.2.length:Int) then (bnd (Ju r4.1 ([1])) fun r0=>
 j6 r0)
 else (j6 r4.1)))
 else (some (⟨false,r4.1⟩:Ai))
def Dr(p0:Ai)(p1:Ai):Option Ao :=
 bnd (Pq p0.L p1.L) fun r4=>
 bnd (De p0.L r4) fun r0=>
 bnd (De p1.L r4) fun r1=>
 jn (fun (s5:Bool)=>
 some (⟨(⟨s5,r0.1⟩:Ai),r1.1⟩:Ao))
 (fun j5=>if p0.Neg=true then (j5 (decide (0<(r0.1.length:Int))))
 else (j5 false))
def Cf(p0:Int):Option Ao :=
 bnd (Be p0) fun r2=>
 some (⟨r2,[1]⟩:Ao)
def Cg(p0:Ao)(p1:Ao):Option Ao :=
 bnd (Bd p0.N (⟨false,p1.D⟩:Ai)) fun r4=>
 bnd (Bd p1.N (⟨false,p0.D⟩:Ai)) fun r9=>
 bnd (Io r4 r9) fun r0=>
 bnd (Ck p0.D p1.D) fun r1=>
 bnd (Dr r0 (⟨false,r1⟩:Ai)) fun r2=>
 some r2
def Ip(p0:Ao):Option Ao :=
 bnd (Do p0.N) fun r3=>
 some (⟨r3,p0.D⟩:Ao)
def Cm(p0:Ao)(p1:Ao):Option Ao :=
 bnd (Ip p1) fun r4=>
 bnd (Cg p0 r4) fun r0=>
 some r0
def Cz(p0:Ao)(p1:Ao):Option Ao :=
 bnd (Bd p0.N p1.N) fun r4=>
 bnd (Ck p0.D p1.D) fun r9=>
 bnd (Dr r4 (⟨false,r9⟩:Ai)) fun r0=>
 some r0
def Qb(p0:Ao)(p1:Ao):Option Ao :=
 bnd (Bd p0.N (⟨false,p1.D⟩:Ai)) fun r4=>
 bnd (Bd p1.N (⟨false,p0.D⟩:Ai)) fun r9=>
 jn (fun (s3:Bool×LI×LI)=>
 some (⟨(⟨s3.1,s3.2.1⟩:Ai),s3.2.2⟩:Ao))
 (fun j3=>if (r4.Neg==r9.Neg)=true then (bnd (Dr (⟨false,r4.L⟩:Ai) (⟨false,r9.L⟩:Ai)) fun r0=>
 j3 (r0.N.Neg,r0.N.L,r0.D))
 else (bnd (Dr (⟨decide (0<(r4.L.length:Int)),r4.L⟩:Ai) (⟨false,r9.L⟩:Ai)) fun r1=>
 j3 (r1.N.Neg,r1.N.L,r1.D)))
def Lh(p0:Ao)(p1:Ao):Option Int :=
 bnd (Cm p0 p1) fun r3=>
 bnd (Eh r3.N) fun r0=>
 some r0
def Iq(p0:Ao):Option Ai :=
 bnd (Ki p0.N (⟨false,p0.D⟩:Ai)) fun r3=>
 some r3
def Oi(p0:Ao):Option Ai :=
 bnd (Ip p0) fun r3=>
 bnd (Iq r3) fun r0=>
 bnd (Do r0) fun r1=>
 some r1
def Qc(p0:Ai):Option (Int×Int):=
 bnd (Kh p0) fun r2=>
 jn (fun (s4:Bool)=>
 if s4=true then (some (0,3))
 else (some (r2.1,0)))
 (fun j4=>if r2.2=true then (if r2.1<(-1152921504606846976) then (j4 true)
 else (j4 (decide (1152921504606846976<r2.1))))
 else (j4 true))
def Vy(K:LE)(x:Ao)(ys:LV):Prop:=∃(A0:OA) (c0:Nat) (A1:OA) (c1:Nat),ys=[.bool x.N.Neg,.slice A0 x.N.L.length c0,.slice A1 x.D.length c1]/\Has K A0 x.N.L.length c0 1 Ak x.N.L/\Has K A1 x.D.length c1 1 Ak x.D
theorem Adv{K L:LE}{x:Ao}{ys:LV}(hK:SubE K L)(h:Vy K x ys):Vy L x ys:=by
 obtain⟨A0,c0,A1,c1,h0,h1,h2⟩:=h;exact⟨A0,c0,A1,c1,h0,Has.up h1 hK,Has.up h2 hK⟩
instance:LoN Vy:={u:=Adv,h:=fun h hK=>(by obtain⟨A0,c0,A1,c1,h0,h1,h2⟩:=h;exact⟨A0,c0,A1,c1,h0,Has.lo h1 hK,Has.lo h2 hK⟩)}
instance:UndI prog 177 (.slice 173):=⟨underlying177⟩
def Fy(p0:List Ao):(Bool×LI×LI×Bool×LI×LI×Int)->Option (Sum (Bool×LI×LI×Bool×LI×LI×Int) (Bool×LI×LI×Bool×LI×LI)):=fun s0=>
 if s0.2.2.2.2.2.2<(p0.length:Int) then (jn (fun (s1:Bool×LI×LI×Bool×LI×LI)=>
 some (.inl (s1.1,s1.2.1,s1.2.2.1,s1.2.2.2.1,s1.2.2.2.2.1,s1.2.2.2.2.2,w64 (s0.2.2.2.2.2.2+1))))
 (fun j0=>jn (fun (s2:Bool×LI×LI)=>
 bnd (idx p0 s0.2.2.2.2.2.2) fun x0=>
 bnd (Lh x0 (⟨(⟨s0.2.2.2.1,s0.2.2.2.2.1⟩:Ai),s0.2.2.2.2.2.1⟩:Ao)) fun r0=>
 if 0<r0 then (bnd (idx p0 s0.2.2.2.2.2.2) fun x1=>
 j0 (s2.1,s2.2.1,s2.2.2,x1.N.Neg,x1.N.L,x1.D))
 else (j0 (s2.1,s2.2.1,s2.2.2,s0.2.2.2.1,s0.2.2.2.2.1,s0.2.2.2.2.2.1)))
 (fun j1=>bnd (idx p0 s0.2.2.2.2.2.2) fun x2=>
 bnd (Lh x2 (⟨(⟨s0.1,s0.2.1⟩:Ai),s0.2.2.1⟩:Ao)) fun r1=>
 if r1<0 then (bnd (idx p0 s0.2.2.2.2.2.2) fun x3=>
 j1 (x3.N.Neg,x3.N.L,x3.D))
 else (j1 (s0.1,s0.2.1,s0.2.2.1)))))
 else (some (.inr (s0.1,s0.2.1,s0.2.2.1,s0.2.2.2.1,s0.2.2.2.2.1,s0.2.2.2.2.2.1)))
def Oj(p0:List Ao):Option (Av×Int):=
 jn (fun (s2:Bool×LI×LI×Bool×LI×LI)=>
 jn (fun (s3:Bool×LI×LI×Bool×LI×LI)=>
 bnd (Iq (⟨(⟨s3.1,s3.2.1⟩:Ai),s3.2.2.1⟩:Ao)) fun r0=>
 bnd (Qc r0) fun r1=>
 bnd (Oi (⟨(⟨s3.2.2.2.1,s3.2.2.2.2.1⟩:Ai),s3.2.2.2.2.2⟩:Ao)) fun r2=>
 bnd (Qc r2) fun r3=>
 jn (fun (s0:Bool)=>
 if s0=true then (some ((⟨0,0⟩:Av),3))
 else (some ((⟨r1.1,r3.1⟩:Av),0)))
 (fun j0=>if r1.2=0 then (j0 (!(decide (r3.2=0))))
 else (j0 true)))
 (fun j3=>bnd (lfix (Fy p0) (s2.1,s2.2.1,s2.2.2.1,s2.2.2.2.1,s2.2.2.2.2.1,s2.2.2.2.2.2,1)) fun t0=>
 j3 t0))
 (fun j2=>bnd (idx p0 0) fun x2=>
 bnd (idx p0 0) fun x0=>
 j2 (x2.N.Neg,x2.N.L,x2.D,x0.N.Neg,x0.N.L,x0.D))
instance(p0:Ai)(p1:Ai):Con (Io p0 p1) prog 145 (fun K vs=>∃U0 E0 U1 E1,vs=[.agg #[.bool p0.Neg,.slice U0 p0.L.length E0],.agg #[.bool p1.Neg,.slice U1 p1.L.length E1]]/\Has K U0 p0.L.length E0 1 Ak p0.L/\Has K U1 p1.L.length E1 1 Ak p1.L/\True) (fun _ r v Ln=>∃A0 c0,v=.agg #[.bool r.Neg,.slice A0 r.L.length c0]/\Ln=[.r A0 r.L.length c0 3 1 (r.L.flatMap Ak)]/\True):=⟨by
 rintro K _ r ⟨U0,E0,U1,E1,rfl,ha0,ha1,-⟩ hx w hK;replace ha0:=ha0.lo hK;replace ha1:=ha1.lo hK;unfold Io at hx;have:=dl 2 [0,1,0,1,0,1,2,0,3] [0,1,2,3,4,5,6,7,8];have:=dl 7 [0,1,0,1,0,1,2,0,3] [0,1,2,3,4,5,6,7,8];have:=dl 8 [0,1,0,1,0,1,2,0,3] [0,1,2,3,4,5,6,7,8];refine CtS ntmps145 results145 ?_;exact au⟩
instance(p0:Ai):ConB (Do p0) prog 146 (fun K vs=>∃U0 E0,vs=[.agg #[.bool p0.Neg,.slice U0 p0.L.length E0]]/\Has K U0 p0.L.length E0 1 Ak p0.L/\True) (fun K r v Ln=>∃A0 c0 e,v=.agg #[.bool r.Neg,.slice A0 r.L.length c0]/\Ln=[e]/\Has (K++[e]) A0 r.L.length c0 1 Ak r.L/\True):=⟨by
 rintro K _ r ⟨U0,E0,rfl,ha0,-⟩ hx w hK;unfold Do at hx;refine CtS ntmps146 results146 ?_;exact au⟩
instance(p0:Ai)(p1:Ai):Con (Bd p0 p1) prog 89 (fun K vs=>∃U0 E0 U1 E1,vs=[.agg #[.bool p0.Neg,.slice U0 p0.L.length E0],.agg #[.bool p1.Neg,.slice U1 p1.L.length E1]]/\Has K U0 p0.L.length E0 1 Ak p0.L/\Has K U1 p1.L.length E1 1 Ak p1.L/\True) (fun _ r v Ln=>∃A0 c0,v=.agg #[.bool r.Neg,.slice A0 r.L.length c0]/\Ln=[.r A0 r.L.length c0 3 1 (r.L.flatMap Ak)]/\True):=⟨by
 rintro K _ r ⟨U0,E0,U1,E1,rfl,ha0,ha1,-⟩ hx w hK;replace ha0:=ha0.lo hK;replace ha1:=ha1.lo hK;unfold Bd at hx;refine CtS ntmps89 results89 ?_;exact au⟩
instance(p0:Ai):Con (Eh p0) prog 147 (fun K vs=>∃U0 E0,vs=[.agg #[.bool p0.Neg,.slice U0 p0.L.length E0]]/\Has K U0 p0.L.length E0 1 Ak p0.L/\True) (fun _ r v Ln=>v=.int .i64 r/\Ln=[]/\True):=⟨by
 rintro K _ r ⟨U0,E0,rfl,ha0,-⟩ hx w hK;replace ha0:=ha0.lo hK;unfold Eh at hx;refine CtS ntmps147 results147 ?_;exact au⟩
instance(p0:Ai)(p1:Ai):Con (Cu p0 p1) prog 90 (fun K vs=>∃U0 E0 U1 E1,vs=[.agg #[.bool p0.Neg,.slice U0 p0.L.length E0],.agg #[.bool p1.Neg,.slice U1 p1.L.length E1]]/\Has K U0 p0.L.length E0 1 Ak p0.L/\Has K U1 p1.L.length E1 1 Ak p1.L/\True) (fun _ r v Ln=>v=.int .i64 r/\Ln=[]/\True):=⟨by
 rintro K _ r ⟨U0,E0,U1,E1,rfl,ha0,ha1,-⟩ hx w hK;replace ha0:=ha0.lo hK;replace ha1:=ha1.lo hK;unfold Cu at hx;have:=dl 1 [1,1,2,2,2,2] [0,1,2,3,4,5];refine CtS ntmps90 results90 ?_;exact au⟩
instance(p0:Ai):Con (Kh p0) prog 259 (fun K vs=>∃U0 E0,vs=[.agg #[.bool p0.Neg,.slice U0 p0.L.length E0]]/\Has K U0 p0.L.length E0 1 Ak p0.L/\True) (fun _ r v Ln=>v=.tuple #[.int .i64 r.1,.bool r.2]/\Ln=[]/\True):=⟨by
 rintro K _ r ⟨U0,E0,rfl,ha0,-⟩ hx w hK;replace ha0:=ha0.lo hK;unfold Kh at hx;refine CtS ntmps259 results259 ?_;refine pq ?_;intros;rename_i hx
 refine pA ?_;intros;rename_i hx
 refine pA ?_;intros;rename_i hx
 apply Jr (γ:=Unit) hx [1] (fun s3 y3 f=>(22,.bool s3)::f) [0,999] (fun s3 y3 l=>l);exact kk
 .intro s3 y3 hx;refine Cq3 (s:=22) hx rfl ?_ ?_
  .exact aI
  .refine pI ?_;intros;rename_i hx
   refine pA ?_;intros;rename_i hx
   apply Jr (γ:=Unit) hx [1] (fun s6 y6 f=>(4,.int .i64 s6)::f) [0,999] (fun s6 y6 l=>l);exact kk
   .exact aI
   .refine pI ?_;intros;rename_i hx
    apply Lr (γ:=Unit) hx [1] (fun s0 y0 f=>(4,.int .i64 s0.1)::(5,.int .i64 s0.2)::f) [0,999] (fun s0 y0 l=>l) ();exact kk;exact sk;intro s0 y0 x0 hx _;unfold Dx at hx;exact au
 .exact aI⟩
instance(p0:Ai)(p1:Ai):Con (Ki p0 p1) prog 260 (fun K vs=>∃U0 E0 U1 E1,vs=[.agg #[.bool p0.Neg,.slice U0 p0.L.length E0],.agg #[.bool p1.Neg,.slice U1 p1.L.length E1]]/\Has K U0 p0.L.length E0 1 Ak p0.L/\Has K U1 p1.L.length E1 1 Ak p1.L/\True) (fun _ r v Ln=>∃A0 c0,v=.agg #[.bool r.Neg,.slice A0 r.L.length c0]/\Ln=[.r A0 r.L.length c0 3 1 (r.L.flatMap Ak)]/\True):=⟨by
 rintro K _ r ⟨U0,E0,U1,E1,rfl,ha0,ha1,-⟩ hx w hK;replace ha0:=ha0.lo hK;replace ha1:=ha1.lo hK;unfold Ki at hx;refine CtS ntmps260 results260 ?_;exact au⟩
instance(p0:Ai)(p1:Ai):Con (Dr p0 p1) prog 302 (fun K vs=>∃U0 E0 U1 E1,vs=[.agg #[.bool p0.Neg,.slice U0 p0.L.length E0],.agg #[.bool p1.Neg,.slice U1 p1.L.length E1]]/\Has K U0 p0.L.length E0 1 Ak p0.L/\Has K U1 p1.L.length E1 1 Ak p1.L/\True) (fun _ r v Ln=>∃A0 c0 A2 c2,v=.agg #[.bool r.N.Neg,.slice A0 r.N.L.length c0,.slice A2 r.D.length c2]/\Ln=[.r A0 r.N.L.length c0 3 1 (r.N.L.flatMap Ak),.r A2 r.D.length c2 3 1 (r.D.flatMap Ak)]/\True):=⟨by
 rintro K _ r ⟨U0,E0,U1,E1,rfl,ha0,ha1,-⟩ hx w hK;replace ha0:=ha0.lo hK;replace ha1:=ha1.lo hK;unfold Dr at hx;refine CtS ntmps302 results302 ?_;exact au⟩
instance(p0:Int):Con (Cf p0) prog 253 (fun _ vs=>vs=[.int .i64 p0]) (fun _ r v Ln=>∃A0 c0 A2 c2,v=.agg #[.bool r.N.Neg,.slice A0 r.N.L.length c0,.slice A2 r.D.length c2]/\Ln=[.r A0 r.N.L.length c0 3 1 (r.N.L.flatMap Ak),.r A2 r.D.length c2 3 1 (r.D.flatMap Ak)]/\True):=⟨by
 rintro _ _ r rfl hx w hK;unfold Cf at hx;refine CtS ntmps253 results253 ?_;refine pq ?_;intros;rename_i hx
 (with_reducible apply Af3 5 (sz:=1));exact rfl;exact aT;exact iI;exact dL;exact (fun _=>rfl);exact rfl;exact rfl;exact sA
 exact au⟩
instance(p0:Ao)(p1:Ao):Con (Cg p0 p1) prog 254 (fun K vs=>∃U0 E0 U1 E1 U2 E2 U3 E3,vs=[.agg #[.bool p0.N.Neg,.slice U0 p0.N.L.length E0,.slice U1 p0.D.length E1],.agg #[.bool p1.N.Neg,.slice U2 p1.N.L.length E2,.slice U3 p1.D.length E3]]/\Has K U0 p0.N.L.length E0 1 Ak p0.N.L/\Has K U1 p0.D.length E1 1 Ak p0.D/\Has K U2 p1.N.L.length E2 1 Ak p1.N.L/\Has K U3 p1.D.length E3 1 Ak p1.D/\True) (fun _ r v Ln=>∃A0 c0 A2 c2,v=.agg #[.bool r.N.Neg,.slice A0 r.N.L.length c0,.slice A2 r.D.length c2]/\Ln=[.r A0 r.N.L.length c0 3 1 (r.N.L.flatMap Ak),.r A2 r.D.length c2 3 1 (r.D.flatMap Ak)]/\True):=⟨by
 rintro K _ r ⟨U0,E0,U1,E1,U2,E2,U3,E3,rfl,ha0,ha1,ha2,ha3,-⟩ hx w hK;replace ha0:=ha0.lo hK;replace ha1:=ha1.lo hK;replace ha2:=ha2.lo hK;replace ha3:=ha3.lo hK;unfold Cg at hx;have:=dl 1 [0,1,0,1,0,2,0,1,0,1,0,2,2,0,1,0,1,2,0,2,3] [0,1,2,3,4,6,7,8,9,10,13,14,15,16,5,11,12,17,18,19,20];refine CtS ntmps254 results254 ?_;exact au⟩
instance(p0:Ao):ConB (Ip p0) prog 261 (fun K vs=>∃U0 E0 U1 E1,vs=[.agg #[.bool p0.N.Neg,.slice U0 p0.N.L.length E0,.slice U1 p0.D.length E1]]/\Has K U0 p0.N.L.length E0 1 Ak p0.N.L/\Has K U1 p0.D.length E1 1 Ak p0.D/\True) (fun K r v Ln=>∃A0 c0 A2 c2 e,v=.agg #[.bool r.N.Neg,.slice A0 r.N.L.length c0,.slice A2 r.D.length c2]/\Ln=[e]/\Has (K++[e]) A0 r.N.L.length c0 1 Ak r.N.L/\Has (K++[e]) A2 r.D.length c2 1 Ak r.D/\True):=⟨by
 rintro K _ r ⟨U0,E0,U1,E1,rfl,ha0,ha1,-⟩ hx w hK;unfold Ip at hx;have:=dl 1 [0,1,2,0,1,0,3] [0,1,3,4,2,5,6];refine CtS ntmps261 results261 ?_;exact au⟩
instance(p0:Ao)(p1:Ao):Con (Cm p0 p1) prog 258 (fun K vs=>∃U0 E0 U1 E1 U2 E2 U3 E3,vs=[.agg #[.bool p0.N.Neg,.slice U0 p0.N.L.length E0,.slice U1 p0.D.length E1],.agg #[.bool p1.N.Neg,.slice U2 p1.N.L.length E2,.slice U3 p1.D.length E3]]/\Has K U0 p0.N.L.length E0 1 Ak p0.N.L/\Has K U1 p0.D.length E1 1 Ak p0.D/\Has K U2 p1.N.L.length E2 1 Ak p1.N.L/\Has K U3 p1.D.length E3 1 Ak p1.D/\True) (fun _ r v Ln=>∃A0 c0 A2 c2,v=.agg #[.bool r.N.Neg,.slice A0 r.N.L.length c0,.slice A2 r.D.length c2]/\Ln=[.r A0 r.N.L.length c0 3 1 (r.N.L.flatMap Ak),.r A2 r.D.length c2 3 1 (r.D.flatMap Ak)]/\True):=⟨by
 rintro K _ r ⟨U0,E0,U1,E1,U2,E2,U3,E3,rfl,ha0,ha1,ha2,ha3,-⟩ hx w hK;replace ha0:=ha0.lo hK;replace ha1:=ha1.lo hK;replace ha2:=ha2.lo hK;replace ha3:=ha3.lo hK;unfold Cm at hx;have:=dl 1 [1,1,2,2,3] [0,1,2,3,4];refine CtS ntmps258 results258 ?_;exact au⟩
instance(p0:Ao)(p1:Ao):Con (Cz p0 p1) prog 255 (fun K vs=>∃U0 E0 U1 E1 U2 E2 U3 E3,vs=[.agg #[.bool p0.N.Neg,.slice U0 p0.N.L.length E0,.slice U1 p0.D.length E1],.agg #[.bool p1.N.Neg,.slice U2 p1.N.L.length E2,.slice U3 p1.D.length E3]]/\Has K U0 p0.N.L.length E0 1 Ak p0.N.L/\Has K U1 p0.D.length E1 1 Ak p0.D/\Has K U2 p1.N.L.length E2 1 Ak p1.N.L/\Has K U3 p1.D.length E3 1 Ak p1.D/\True) (fun _ r v Ln=>∃A0 c0 A2 c2,v=.agg #[.bool r.N.Neg,.slice A0 r.N.L.length c0,.slice A2 r.D.length c2]/\Ln=[.r A0 r.N.L.length c0 3 1 (r.N.L.flatMap Ak),.r A2 r.D.length c2 3 1 (r.D.flatMap Ak)]/\True):=⟨by
 rintro K _ r ⟨U0,E0,U1,E1,U2,E2,U3,E3,rfl,ha0,ha1,ha2,ha3,-⟩ hx w hK;replace ha0:=ha0.lo hK;replace ha1:=ha1.lo hK;replace ha2:=ha2.lo hK;replace ha3:=ha3.lo hK;unfold Cz at hx;have:=dl 1 [0,1,0,1,2,0,1,0,1,2,0,2,3] [0,1,2,3,5,6,7,8,4,9,10,11,12];refine CtS ntmps255 results255 ?_;exact au⟩
instance(p0:Ao)(p1:Ao):Con (Qb p0 p1) prog 257 (fun K vs=>∃U0 E0 U1 E1 U2 E2 U3 E3,vs=[.agg #[.bool p0.N.Neg,.slice U0 p0.N.L.length E0,.slice U1 p0.D.length E1],.agg #[.bool p1.N.Neg,.slice U2 p1.N.L.length E2,.slice U3 p1.D.length E3]]/\Has K U0 p0.N.L.length E0 1 Ak p0.N.L/\Has K U1 p0.D.length E1 1 Ak p0.D/\Has K U2 p1.N.L.length E2 1 Ak p1.N.L/\Has K U3 p1.D.length E3 1 Ak p1.D/\True) (fun _ r v Ln=>∃A0 c0 A2 c2,v=.agg #[.bool r.N.Neg,.slice A0 r.N.L.length c0,.slice A2 r.D.length c2]/\Ln=[.r A0 r.N.L.length c0 3 1 (r.N.L.flatMap Ak),.r A2 r.D.length c2 3 1 (r.D.flatMap Ak)]/\True):=⟨by
 rintro K _ r ⟨U0,E0,U1,E1,U2,E2,U3,E3,rfl,ha0,ha1,ha2,ha3,-⟩ hx w hK;replace ha0:=ha0.lo hK;replace ha1:=ha1.lo hK;replace ha2:=ha2.lo hK;replace ha3:=ha3.lo hK;unfold Qb at hx;have:=dl 1 [0,1,0,1,0,2,0,1,0,1,0,2,4,4,3,3] [0,1,2,3,4,6,7,8,9,10,5,11,12,13,14,15] [12,13];refine CtS ntmps257 results257 ?_;exact au⟩
instance(p0:Ao)(p1:Ao):Con (Lh p0 p1) prog 206 (fun K vs=>∃U0 E0 U1 E1 U2 E2 U3 E3,vs=[.agg #[.bool p0.N.Neg,.slice U0 p0.N.L.length E0,.slice U1 p0.D.length E1],.agg #[.bool p1.N.Neg,.slice U2 p1.N.L.length E2,.slice U3 p1.D.length E3]]/\Has K U0 p0.N.L.length E0 1 Ak p0.N.L/\Has K U1 p0.D.length E1 1 Ak p0.D/\Has K U2 p1.N.L.length E2 1 Ak p1.N.L/\Has K U3 p1.D.length E3 1 Ak p1.D/\True) (fun _ r v Ln=>v=.int .i64 r/\Ln=[]/\True):=⟨by
 rintro K _ r ⟨U0,E0,U1,E1,U2,E2,U3,E3,rfl,ha0,ha1,ha2,ha3,-⟩ hx w hK;replace ha0:=ha0.lo hK;replace ha1:=ha1.lo hK;replace ha2:=ha2.lo hK;replace ha3:=ha3.lo hK;unfold Lh at hx;refine CtS ntmps206 results206 ?_;exact au⟩
instance(p0:Ao):Con (Iq p0) prog 208 (fun K vs=>∃U0 E0 U1 E1,vs=[.agg #[.bool p0.N.Neg,.slice U0 p0.N.L.length E0,.slice U1 p0.D.length E1]]/\Has K U0 p0.N.L.length E0 1 Ak p0.N.L/\Has K U1 p0.D.length E1 1 Ak p0.D/\True) (fun _ r v Ln=>∃A0 c0,v=.agg #[.bool r.Neg,.slice A0 r.L.length c0]/\Ln=[.r A0 r.L.length c0 3 1 (r.L.flatMap Ak)]/\True):=⟨by
 rintro K _ r ⟨U0,E0,U1,E1,rfl,ha0,ha1,-⟩ hx w hK;replace ha0:=ha0.lo hK;replace ha1:=ha1.lo hK;unfold Iq at hx;refine CtS ntmps208 results208 ?_;exact au⟩
instance(p0:Ao):ConB (Oi p0) prog 209 (fun K vs=>∃U0 E0 U1 E1,vs=[.agg #[.bool p0.N.Neg,.slice U0 p0.N.L.length E0,.slice U1 p0.D.length E1]]/\Has K U0 p0.N.L.length E0 1 Ak p0.N.L/\Has K U1 p0.D.length E1 1 Ak p0.D/\True) (fun K r v Ln=>∃A0 c0 e,v=.agg #[.bool r.Neg,.slice A0 r.L.length c0]/\Ln=[e]/\Has (K++[e]) A0 r.L.length c0 1 Ak r.L/\True):=⟨by
 rintro K _ r ⟨U0,E0,U1,E1,rfl,ha0,ha1,-⟩ hx w hK;unfold Oi at hx;refine CtS ntmps209 results209 ?_;exact au⟩
instance(p0:Ai):Con (Qc p0) prog 207 (fun K vs=>∃U0 E0,vs=[.agg #[.bool p0.Neg,.slice U0 p0.L.length E0]]/\Has K U0 p0.L.length E0 1 Ak p0.L/\True) (fun _ r v Ln=>v=.tuple #[.int .i64 r.1,.int .i64 r.2]/\Ln=[]/\True):=⟨by
 rintro K _ r ⟨U0,E0,rfl,ha0,-⟩ hx w hK;replace ha0:=ha0.lo hK;unfold Qc at hx;refine CtS ntmps207 results207 ?_;exact au⟩
instance(p0:List Ao):Con (Oj p0) prog 142 (fun K vs=>∃U0 E0,vs=[.slice U0 p0.length E0]/\HasN K U0 p0.length E0 3 Vy p0/\True) (fun _ r v Ln=>v=.tuple #[.agg #[.int .i64 r.1.Lo,.int .i64 r.1.Hi],.int .i64 r.2]/\Ln=[]/\True):=⟨by
 rintro K _ r ⟨U0,E0,rfl,ha0,-⟩ hx w hK;unfold Oj at hx;have:=dp 1 [0,0,1,0,0,2,2,2,3,3] (.q 0 (.q 1 (.q 2 (.q 3 (.q 4 (.e 5 (.e 6 (.e 7 (.e 8 (.e 9 (.done) (.stop)) (.stop)) (.stop)) (.e 7 (.e 6 (.e 8 (.e 9 (.done) (.stop)) (.stop)) (.stop)) (.stop))) (.e 6 (.e 5 (.e 7 (.e 8 (.e 9 (.done) (.stop)) (.stop)) (.stop)) (.e 7 (.e 5 (.e 8 (.e 9 (.done) (.stop)) (.stop)) (.e 8 (.e 5 (.e 9 (.done) (.stop)) (.stop)) (.stop))) (.stop))) (.e 7 (.e 5 (.e 6 (.e 8 (.e 9 (.done) (.stop)) (.stop)) (.stop)) (.e 6 (.e 5 (.e 8 (.e 9 (.done) (.stop)) (.stop)) (.e 8 (.e 5 (.e 9 (.done) (.stop)) (.stop)) (.stop))) (.stop))) (.stop)))))))));have:=dl 5 [0,0,0,1,1,2,0] [0,1,2,3,4,5,6];have:=dl 7 [0,0,0,1,1,2,0] [0,1,2,3,4,5,6];refine CtS ntmps142 results142 ?_;refine pq ?_;intros;rename_i hx
 refine pA ?_;intros;rename_i hx
 apply JrG (γ:=Nat×OA×Nat×OA×Nat×Nat×OA×Nat×OA×Nat) hx [0,2] (fun s2 y2 f=>(4,.pointer (some ⟨y2.1,0,none⟩))::(5,.pointer (some ⟨y2.2.2.2.2.2.1,0,none⟩))::f) [0,999] (fun s2 y2 l=>.m y2.2.2.2.2.2.1 173 [.bool s2.2.2.2.1,.slice y2.2.2.2.2.2.2.1 s2.2.2.2.2.1.length y2.2.2.2.2.2.2.2.1,.slice y2.2.2.2.2.2.2.2.2.1 s2.2.2.2.2.2.length y2.2.2.2.2.2.2.2.2.2] :: .m y2.1 173 [.bool s2.1,.slice y2.2.1 s2.2.1.length y2.2.2.1,.slice y2.2.2.2.1 s2.2.2.1.length y2.2.2.2.2.1]::l) (fun s2 y2=>Has [.old w] y2.2.1 s2.2.1.length y2.2.2.1 1 Ak s2.2.1/\Has [.old w] y2.2.2.2.1 s2.2.2.1.length y2.2.2.2.2.1 1 Ak s2.2.2.1/\Has [.old w] y2.2.2.2.2.2.2.1 s2.2.2.2.2.1.length y2.2.2.2.2.2.2.2.1 1 Ak s2.2.2.2.2.1/\Has [.old w] y2.2.2.2.2.2.2.2.2.1 s2.2.2.2.2.2.length y2.2.2.2.2.2.2.2.2.2 1 Ak s2.2.2.2.2.2/\True);exact kk
 .intro s2 y2 hx hG;obtain⟨_,_,_,_,-⟩:=hG;refine pq ?_;intros;rename_i hx
  apply JrG (γ:=OA×Nat×OA×Nat×OA×Nat×OA×Nat) hx [2,4,5] (fun s3 y3 f=>f) [2,999] (fun s3 y3 l=>.m y2.2.2.2.2.2.1 173 [.bool s3.2.2.2.1,.slice y3.2.2.2.2.1 s3.2.2.2.2.1.length y3.2.2.2.2.2.1,.slice y3.2.2.2.2.2.2.1 s3.2.2.2.2.2.length y3.2.2.2.2.2.2.2] :: .m y2.1 173 [.bool s3.1,.slice y3.1 s3.2.1.length y3.2.1,.slice y3.2.2.1 s3.2.2.1.length y3.2.2.2.1]::l) (fun s3 y3=>Has [.old w] y3.1 s3.2.1.length y3.2.1 1 Ak s3.2.1/\Has [.old w] y3.2.2.1 s3.2.2.1.length y3.2.2.2.1 1 Ak s3.2.2.1/\Has [.old w] y3.2.2.2.2.1 s3.2.2.2.2.1.length y3.2.2.2.2.2.1 1 Ak s3.2.2.2.2.1/\Has [.old w] y3.2.2.2.2.2.2.1 s3.2.2.2.2.2.length y3.2.2.2.2.2.2.2 1 Ak s3.2.2.2.2.2/\True);exact kk
  .intro s3 y3 hx hG;obtain⟨_,_,_,_,-⟩:=hG;exact au
  .refine pI ?_;intros;rename_i hx
   apply LrG (γ:=OA×Nat×OA×Nat×OA×Nat×OA×Nat) hx [0,2,4,5] (fun s0 y0 f=>(6,.int .i64 s0.2.2.2.2.2.2)::f) [2,999] (fun s0 y0 l=>.m y2.2.2.2.2.2.1 173 [.bool s0.2.2.2.1,.slice y0.2.2.2.2.1 s0.2.2.2.2.1.length y0.2.2.2.2.2.1,.slice y0.2.2.2.2.2.2.1 s0.2.2.2.2.2.1.length y0.2.2.2.2.2.2.2] :: .m y2.1 173 [.bool s0.1,.slice y0.1 s0.2.1.length y0.2.1,.slice y0.2.2.1 s0.2.2.1.length y0.2.2.2.1]::l) (fun s0 y0=>Has [.old w] y0.1 s0.2.1.length y0.2.1 1 Ak s0.2.1/\Has [.old w] y0.2.2.1 s0.2.2.1.length y0.2.2.2.1 1 Ak s0.2.2.1/\Has [.old w] y0.2.2.2.2.1 s0.2.2.2.2.1.length y0.2.2.2.2.2.1 1 Ak s0.2.2.2.2.1/\Has [.old w] y0.2.2.2.2.2.2.1 s0.2.2.2.2.2.1.length y0.2.2.2.2.2.2.2 1 Ak s0.2.2.2.2.2.1/\True) (_,_,_,_,_,_,_,_);exact kk;exact sF2;exact gG;exact pK2;intro s0 y0 x0 hx _ hG;obtain⟨_,_,_,_,-⟩:=hG;unfold Fy at hx;refine pq ?_;intros;rename_i hx
   refine Cq1 (s:=20) hx rfl ?_ ?_
   .refine pI ?_;intros;rename_i hx
    apply JrG (γ:=OA×Nat×OA×Nat×OA×Nat×OA×Nat) hx [0,2,4,5,6] (fun s1 y1 f=>f) [2,999] (fun s1 y1 l=>.m y2.2.2.2.2.2.1 173 [.bool s1.2.2.2.1,.slice y1.2.2.2.2.1 s1.2.2.2.2.1.length y1.2.2.2.2.2.1,.slice y1.2.2.2.2.2.2.1 s1.2.2.2.2.2.length y1.2.2.2.2.2.2.2] :: .m y2.1 173 [.bool s1.1,.slice y1.1 s1.2.1.length y1.2.1,.slice y1.2.2.1 s1.2.2.1.length y1.2.2.2.1]::l) (fun s1 y1=>Has [.old w] y1.1 s1.2.1.length y1.2.1 1 Ak s1.2.1/\Has [.old w] y1.2.2.1 s1.2.2.1.length y1.2.2.2.1 1 Ak s1.2.2.1/\Has [.old w] y1.2.2.2.2.1 s1.2.2.2.2.1.length y1.2.2.2.2.2.1 1 Ak s1.2.2.2.2.1/\Has [.old w] y1.2.2.2.2.2.2.1 s1.2.2.2.2.2.length y1.2.2.2.2.2.2.2 1 Ak s1.2.2.2.2.2/\True);exact kk
    .intro s1 y1 hx hG;obtain⟨_,_,_,_,-⟩:=hG;exact au
    .exact aI
   .exact aI
 .exact aI⟩
instance:Ur prog 231 [.bool false,.slice none 0 0,.slice none 0 0,.bool false,.slice none 0 0,.slice none 0 0]:=⟨⟨_,zeroValue231,rfl⟩⟩
instance(x0:Bool)(x1:OA)(x2:Nat)(x3:Nat)(x4:OA)(x5:Nat)(x6:Nat)(x7:Bool)(x8:OA)(x9:Nat)(x10:Nat)(x11:OA)(x12:Nat)(x13:Nat):Ji prog 231 [(0,.agg #[.bool x0,.slice x1 x2 x3,.slice x4 x5 x6]),(1,.agg #[.bool x7,.slice x8 x9 x10,.slice x11 x12 x13])] [.bool x0,.slice x1 x2 x3,.slice x4 x5 x6,.bool x7,.slice x8 x9 x10,.slice x11 x12 x13]:=⟨fun w=>kr⟩
instance:AggI prog 231 6:=⟨.mk underlying231 rfl (kr:prog.info? 231=some t231) kr⟩
instance:Bt prog 231 0 0:=⟨.mk underlying231 rfl rfl (kr:prog.info? 173=some t173) (kr:t173.size=3) rfl⟩
instance:Bt prog 231 1 3:=⟨.mk underlying231 rfl rfl (kr:prog.info? 173=some t173) (kr:t173.size=3) rfl⟩
instance:Ur prog 261 [.bool false,.slice none 0 0,.slice none 0 0,.bool false,.slice none 0 0,.slice none 0 0,.bool false,.slice none 0 0,.slice none 0 0]:=⟨⟨_,zeroValue261,rfl⟩⟩
instance(x0:Bool)(x1:OA)(x2:Nat)(x3:Nat)(x4:OA)(x5:Nat)(x6:Nat)(x7:Bool)(x8:OA)(x9:Nat)(x10:Nat)(x11:OA)(x12:Nat)(x13:Nat)(x14:Bool)(x15:OA)(x16:Nat)(x17:Nat)(x18:OA)(x19:Nat)(x20:Nat):Ji prog 261 [(0,.agg #[.bool x0,.slice x1 x2 x3,.slice x4 x5 x6]),(1,.agg #[.bool x7,.slice x8 x9 x10,.slice x11 x12 x13]),(2,.agg #[.bool x14,.slice x15 x16 x17,.slice x18 x19 x20])] [.bool x0,.slice x1 x2 x3,.slice x4 x5 x6,.bool x7,.slice x8 x9 x10,.slice x11 x12 x13,.bool x14,.slice x15 x16 x17,.slice x18 x19 x20]:=⟨fun w=>kr⟩
instance:AggI prog 261 9:=⟨.arr underlying261 (kr:prog.info? 261=some t261) kr⟩
instance:ArrI prog 261 3 3:=⟨.mk underlying261 (kr:prog.info? 173=some t173) kr⟩
instance(x0:Bool)(x1:OA)(x2:Nat)(x3:Nat)(x4:OA)(x5:Nat)(x6:Nat)(x7:Bool)(x8:OA)(x9:Nat)(x10:Nat)(x11:OA)(x12:Nat)(x13:Nat):Oo prog 177 2 [(0,.agg #[.bool x0,.slice x1 x2 x3,.slice x4 x5 x6]),(1,.agg #[.bool x7,.slice x8 x9 x10,.slice x11 x12 x13])] 173 [.bool x0,.slice x1 x2 x3,.slice x4 x5 x6,.bool x7,.slice x8 x9 x10,.slice x11 x12 x13]:=⟨fun w=>kr⟩
def Li(p0:Al):Option Int :=
 bnd (Ld p0.V p0.Lines) fun r2=>
 jn (fun (s4:Bool)=>
 if s4=true then (some 64)
 else (some 0))
 (fun j4=>if r2.2=0 then (bnd (Kq p0 r2.1) fun r0=>
 j4 (!(r0)))
 else (j4 true))
def Da(p1:Ah)(p0:Al)(p2:Ab):Int->Option (Sum Int (Sum Unit Bool)):=fun s0=>
 if s0<3 then (bnd (idx [p1.a0,p1.a1,p1.a2] s0) fun x0=>
 bnd (idx p0.V x0) fun x1=>
 bnd (idx [p1.a0,p1.a1,p1.a2] (Int.tmod (w64 (s0+1)) 3)) fun x2=>
 bnd (idx p0.V x2) fun x3=>
 bnd (At x1) fun r0=>
 bnd (At x3) fun r1=>
 bnd (Du r0 r1 p2) fun r2=>
 if r2<0 then (some (.inr (.inr false)))
 else (some (.inl (w64 (s0+1)))))
 else (some (.inr (.inl ())))
def Ul(p0:Al)(p1:Ah)(p2:Ab):Option Bool :=
 jn (fun (s2:Unit)=>
 some true)
 (fun j2=>bnd (lfix (Da p1 p0 p2) 0) fun t0=>
 (match t0 with
 |(.inl z0)=>j2 z0
 |(.inr z0)=>some z0
 ))
def Ml(p0:Al)(p1:Ab):Int->Option (Sum Int (Sum Unit (Int×Int))):=fun s0=>
 if s0<(p0.T.length:Int) then (bnd (idx p0.T s0) fun x0=>
 bnd (Ul p0 x0 p1) fun r0=>
 if r0=true then (some (.inr (.inr (s0,0))))
 else (some (.inl (w64 (s0+1)))))
 else (some (.inr (.inl ())))
def Jw(p0:Al)(p1:Ab):Option (Int×Int):=
 bnd (Li p0) fun r3=>
 if r3=0 then (bnd (Ex p1) fun r9=>
 if r9=true then (jn (fun (s8:Unit)=>
 some (0,65))
 (fun j8=>bnd (lfix (Ml p0 p1) 0) fun t0=>
 (match t0 with
 |(.inl z0)=>j8 z0
 |(.inr z0)=>some z0
 )))
 else (some (0,11)))
 else (some (0,64))
def Ei(p0:Ae)(p1:Bool):Option Int :=
 if p1=true then (some p0.Z.Hi)
 else (some p0.Z.Lo)
def Ix(p0:Ab):Option Cb :=
 bnd (Cf p0.X) fun r3=>
 bnd (Cf p0.Y) fun r0=>
 some (⟨r3,r0⟩:Cb)
def Ir(p0:Cb)(p1:Cb)(p2:Cb):Option Ao :=
 bnd (Cm p1.X p0.X) fun r5=>
 bnd (Cm p2.Y p0.Y) fun r0=>
 bnd (Cz r5 r0) fun r1=>
 bnd (Cm p1.Y p0.Y) fun r2=>
 bnd (Cm p2.X p0.X) fun r3=>
 bnd (Cz r2 r3) fun r4=>
 bnd (Cm r1 r4) fun r6=>
 some r6
structure Ty where
 a0:Ao
 a1:Ao
 a2:Ao
def Mm(p0:Al)(p1:Ah)(p2:Cb):Option Ty :=
 bnd (idx p0.V p1.a0) fun x5=>
 bnd (idx p0.V p1.a1) fun x0=>
 bnd (idx p0.V p1.a2) fun x1=>
 bnd (At x5) fun r0=>
 bnd (Ix r0) fun r1=>
 bnd (At x0) fun r2=>
 bnd (Ix r2) fun r3=>
 bnd (At x1) fun r4=>
 bnd (Ix r4) fun r5=>
 bnd (Ir p2 r3 r5) fun r6=>
 bnd (Ir r1 p2 r5) fun r7=>
 bnd (Ir r1 r3 p2) fun r8=>
 some (⟨r6,r7,r8⟩:Ty)
def Is(p0:Al)(p1:Ah)(p2:Cb)(p3:Bool):Option Ao :=
 bnd (Mm p0 p1 p2) fun r5=>
 bnd (Cf 0) fun r0=>
 bnd (Cf 0) fun r1=>
 bnd (idx p0.V p1.a0) fun x0=>
 bnd (Ei x0 p3) fun r2=>
 bnd (Cf r2) fun r3=>
 bnd (Cz r5.a0 r3) fun r4=>
 bnd (Cg r0 r4) fun r6=>
 bnd (Cg r1 r5.a0) fun r7=>
 bnd (idx p0.V p1.a1) fun x1=>
 bnd (Ei x1 p3) fun r8=>
 bnd (Cf r8) fun r9=>
 bnd (Cz r5.a1 r9) fun r10=>
 bnd (Cg r6 r10) fun r11=>
 bnd (Cg r7 r5.a1) fun r12=>
 bnd (idx p0.V p1.a2) fun x2=>
 bnd (Ei x2 p3) fun r13=>
 bnd (Cf r13) fun r14=>
 bnd (Cz r5.a2 r14) fun r15=>
 bnd (Cg r11 r15) fun r16=>
 bnd (Cg r12 r5.a2) fun r17=>
 bnd (Qb r16 r17) fun r18=>
 some r18
def Sm(p0:Al)(p1:Ab):Option (Ao×Ao×Int):=
 bnd (Jw p0 p1) fun r5=>
 if r5.2=0 then (bnd (idx p0.T r5.1) fun x0=>
 bnd (idx p0.T r5.1) fun x1=>
 bnd (Ix p1) fun r0=>
 bnd (Is p0 x0 r0 false) fun r1=>
 bnd (Ix p1) fun r2=>
 bnd (Is p0 x1 r2 true) fun r3=>
 some (r1,r3,0))
 else (some ((⟨(⟨false,([]:LI)⟩:Ai),([]:LI)⟩:Ao),(⟨(⟨false,([]:LI)⟩:Ai),([]:LI)⟩:Ao),r5.2))
def Gr(p0:Al)(p1:Ab):Option (Av×Int):=
 bnd (Sm p0 p1) fun r4=>
 if r4.2.2=0 then (bnd (Oj ([r4.1,r4.2.1])) fun r0=>
 some (r0.1,r0.2))
 else (some ((⟨0,0⟩:Av),r4.2.2))
instance(p0:Al):Con (Li p0) prog 37 (fun K vs=>∃U0 E0 U1 E1 U2 E2,vs=[.agg #[.slice U0 p0.V.length E0,.slice U1 p0.T.length E1,.slice U2 p0.Lines.length E2]]/\Has K U0 p0.V.length E0 4 Am p0.V/\Has K U1 p0.T.length E1 3 Az p0.T/\Has K U2 p0.Lines.length E2 2 Ar p0.Lines/\True) (fun _ r v Ln=>v=.int .i64 r/\Ln=[]/\True):=⟨by
 rintro K _ r ⟨U0,E0,U1,E1,U2,E2,rfl,ha0,ha1,ha2,-⟩ hx w hK;replace ha0:=ha0.lo hK;replace ha1:=ha1.lo hK;replace ha2:=ha2.lo hK;unfold Li at hx;refine CtS ntmps37 results37 ?_;exact au⟩
instance(p0:Al)(p1:Ah)(p2:Ab):Con (Ul p0 p1 p2) prog 140 (fun K vs=>∃U0 E0 U1 E1 U2 E2,vs=[.agg #[.slice U0 p0.V.length E0,.slice U1 p0.T.length E1,.slice U2 p0.Lines.length E2],.agg #[.int .i64 p1.a0,.int .i64 p1.a1,.int .i64 p1.a2],.agg #[.int .i64 p2.X,.int .i64 p2.Y]]/\Has K U0 p0.V.length E0 4 Am p0.V/\Has K U1 p0.T.length E1 3 Az p0.T/\Has K U2 p0.Lines.length E2 2 Ar p0.Lines/\True) (fun _ r v Ln=>v=.bool r/\Ln=[]/\True):=⟨by
 rintro K _ r ⟨U0,E0,U1,E1,U2,E2,rfl,ha0,ha1,ha2,-⟩ hx w hK;replace ha0:=ha0.lo hK;replace ha1:=ha1.lo hK;replace ha2:=ha2.lo hK;unfold Ul at hx;have:=dl 4 [0,1,0,0,1,0,1,2,0,1,0,0,0,0,1,0,1,2,1,2,0] [0,1,2,3,4,5,6,8,9,10,11,12,13,14,15,16,18,7,17,19,20];refine CtS ntmps140 results140 ?_;refine pq ?_;intros;rename_i hx
 refine pA ?_;intros;rename_i hx
 apply Jr (γ:=Unit) hx [] (fun s2 y2 f=>f) [999] (fun s2 y2 l=>l);exact kk
 .exact aI
 .refine pI ?_;intros;rename_i hx
  apply Lr (γ:=Unit) hx [3,4,5] (fun s0 y0 f=>(8,.int .i64 s0)::f) [0,1,2,999] (fun s0 y0 l=>l) ();exact kk;exact sk;intro s0 y0 x0 hx _;unfold Da at hx;exact au⟩
instance(p0:Al)(p1:Ab):Con (Jw p0 p1) prog 84 (fun K vs=>∃U0 E0 U1 E1 U2 E2,vs=[.agg #[.slice U0 p0.V.length E0,.slice U1 p0.T.length E1,.slice U2 p0.Lines.length E2],.agg #[.int .i64 p1.X,.int .i64 p1.Y]]/\Has K U0 p0.V.length E0 4 Am p0.V/\Has K U1 p0.T.length E1 3 Az p0.T/\Has K U2 p0.Lines.length E2 2 Ar p0.Lines/\True) (fun _ r v Ln=>v=.tuple #[.int .i64 r.1,.int .i64 r.2]/\Ln=[]/\True):=⟨by
 rintro K _ r ⟨U0,E0,U1,E1,U2,E2,rfl,ha0,ha1,ha2,-⟩ hx w hK;replace ha0:=ha0.lo hK;replace ha1:=ha1.lo hK;replace ha2:=ha2.lo hK;unfold Jw at hx;have:=dl 8 [1,0,1,0,0,1,1,2] [0,1,2,3,4,5,6,7];refine CtS ntmps84 results84 ?_;refine pq ?_;intros;rename_i hx
 refine Cq2 (s:=9) hx rfl ?_ ?_
 .exact aI
 .refine pI ?_;intros;rename_i hx
  refine Cq4 (s:=12) hx rfl ?_ ?_
  .exact aI
  .refine pI ?_;intros;rename_i hx
   apply Jr (γ:=Unit) hx [] (fun s8 y8 f=>f) [999] (fun s8 y8 l=>l);exact kk
   .exact aI
   .refine pI ?_;intros;rename_i hx
    apply Lr (γ:=Unit) hx [2,3,15] (fun s36 y36 f=>(16,.int .i64 s36)::f) [0,1,999] (fun s36 y36 l=>l) ();exact kk;exact sk;intro s36 y36 x36 hx _;unfold Ml at hx;exact au⟩
instance(p0:Ae)(p1:Bool):Con (Ei p0 p1) prog 256 (fun _ vs=>vs=[.agg #[.int .i64 p0.X,.int .i64 p0.Y,.int .i64 p0.Z.Lo,.int .i64 p0.Z.Hi],.bool p1]) (fun _ r v Ln=>v=.int .i64 r/\Ln=[]/\True):=⟨by
 rintro _ _ r rfl hx w hK;unfold Ei at hx;refine CtS ntmps256 results256 ?_;exact au⟩
instance(p0:Ab):Con (Ix p0) prog 205 (fun _ vs=>vs=[.agg #[.int .i64 p0.X,.int .i64 p0.Y]]) (fun _ r v Ln=>∃A0 c0 A2 c2 A4 c4 A6 c6,v=.agg #[.bool r.X.N.Neg,.slice A0 r.X.N.L.length c0,.slice A2 r.X.D.length c2,.bool r.Y.N.Neg,.slice A4 r.Y.N.L.length c4,.slice A6 r.Y.D.length c6]/\Ln=[.r A0 r.X.N.L.length c0 3 1 (r.X.N.L.flatMap Ak),.r A2 r.X.D.length c2 3 1 (r.X.D.flatMap Ak),.r A4 r.Y.N.L.length c4 3 1 (r.Y.N.L.flatMap Ak),.r A6 r.Y.D.length c6 3 1 (r.Y.D.flatMap Ak)]/\True):=⟨by
 rintro _ _ r rfl hx w hK;unfold Ix at hx;have:=dl 1 [0,1,2,0,1,2,0,3] [0,1,3,4,2,5,6,7];refine CtS ntmps205 results205 ?_;exact au⟩
instance(p0:Cb)(p1:Cb)(p2:Cb):Con (Ir p0 p1 p2) prog 301 (fun K vs=>∃U0 E0 U1 E1 U2 E2 U3 E3 U4 E4 U5 E5 U6 E6 U7 E7 U8 E8 U9 E9 A0_10 c0_10 A0_11 c0_11,vs=[.agg #[.bool p0.X.N.Neg,.slice U0 p0.X.N.L.length E0,.slice U1 p0.X.D.length E1,.bool p0.Y.N.Neg,.slice U2 p0.Y.N.L.length E2,.slice U3 p0.Y.D.length E3],.agg #[.bool p1.X.N.Neg,.slice U4 p1.X.N.L.length E4,.slice U5 p1.X.D.length E5,.bool p1.Y.N.Neg,.slice U6 p1.Y.N.L.length E6,.slice U7 p1.Y.D.length E7],.agg #[.bool p2.X.N.Neg,.slice U8 p2.X.N.L.length E8,.slice U9 p2.X.D.length E9,.bool p2.Y.N.Neg,.slice A0_10 p2.Y.N.L.length c0_10,.slice A0_11 p2.Y.D.length c0_11]]/\Has K U0 p0.X.N.L.length E0 1 Ak p0.X.N.L/\Has K U1 p0.X.D.length E1 1 Ak p0.X.D/\Has K U2 p0.Y.N.L.length E2 1 Ak p0.Y.N.L/\Has K U3 p0.Y.D.length E3 1 Ak p0.Y.D/\Has K U4 p1.X.N.L.length E4 1 Ak p1.X.N.L/\Has K U5 p1.X.D.length E5 1 Ak p1.X.D/\Has K U6 p1.Y.N.L.length E6 1 Ak p1.Y.N.L/\Has K U7 p1.Y.D.length E7 1 Ak p1.Y.D/\Has K U8 p2.X.N.L.length E8 1 Ak p2.X.N.L/\Has K U9 p2.X.D.length E9 1 Ak p2.X.D/\Has K A0_10 p2.Y.N.L.length c0_10 1 Ak p2.Y.N.L/\Has K A0_11 p2.Y.D.length c0_11 1 Ak p2.Y.D/\True) (fun _ r v Ln=>∃A0 c0 A2 c2,v=.agg #[.bool r.N.Neg,.slice A0 r.N.L.length c0,.slice A2 r.D.length c2]/\Ln=[.r A0 r.N.L.length c0 3 1 (r.N.L.flatMap Ak),.r A2 r.D.length c2 3 1 (r.D.flatMap Ak)]/\True):=⟨by
 rintro K _ r ⟨U0,E0,U1,E1,U2,E2,U3,E3,U4,E4,U5,E5,U6,E6,U7,E7,U8,E8,U9,E9,A0_10,c0_10,A0_11,c0_11,rfl,ha0,ha1,ha2,ha3,ha4,ha5,ha6,ha7,ha8,ha9,ha10,ha11,-⟩ hx w hK;replace ha0:=ha0.lo hK;replace ha1:=ha1.lo hK;replace ha2:=ha2.lo hK;replace ha3:=ha3.lo hK;replace ha4:=ha4.lo hK;replace ha5:=ha5.lo hK;replace ha6:=ha6.lo hK;replace ha7:=ha7.lo hK;replace ha8:=ha8.lo hK;replace ha9:=ha9.lo hK;replace ha10:=ha10.lo hK;replace ha11:=ha11.lo hK;unfold Ir at hx;have:=dl 1 [0,1,0,1,2,0,1,0,1,2,2,0,1,0,1,2,0,1,0,1,2,2,2,3] [0,1,2,3,5,6,7,8,11,12,13,14,16,17,18,19,4,9,10,15,20,21,22,23];refine CtS ntmps301 results301 ?_;exact au⟩
instance(p0:Al)(p1:Ah)(p2:Cb):Con (Mm p0 p1 p2) prog 252 (fun K vs=>∃U0 E0 U1 E1 U2 E2 U3 E3 U4 E4 U5 E5 U6 E6,vs=[.agg #[.slice U0 p0.V.length E0,.slice U1 p0.T.length E1,.slice U2 p0.Lines.length E2],.agg #[.int .i64 p1.a0,.int .i64 p1.a1,.int .i64 p1.a2],.agg #[.bool p2.X.N.Neg,.slice U3 p2.X.N.L.length E3,.slice U4 p2.X.D.length E4,.bool p2.Y.N.Neg,.slice U5 p2.Y.N.L.length E5,.slice U6 p2.Y.D.length E6]]/\Has K U0 p0.V.length E0 4 Am p0.V/\Has K U1 p0.T.length E1 3 Az p0.T/\Has K U2 p0.Lines.length E2 2 Ar p0.Lines/\Has K U3 p2.X.N.L.length E3 1 Ak p2.X.N.L/\Has K U4 p2.X.D.length E4 1 Ak p2.X.D/\Has K U5 p2.Y.N.L.length E5 1 Ak p2.Y.N.L/\Has K U6 p2.Y.D.length E6 1 Ak p2.Y.D/\True) (fun _ r v Ln=>∃A0 c0 A2 c2 A4 c4 A6 c6 A8 c8 A10 c10,v=.agg #[.bool r.a0.N.Neg,.slice A0 r.a0.N.L.length c0,.slice A2 r.a0.D.length c2,.bool r.a1.N.Neg,.slice A4 r.a1.N.L.length c4,.slice A6 r.a1.D.length c6,.bool r.a2.N.Neg,.slice A8 r.a2.N.L.length c8,.slice A10 r.a2.D.length c10]/\Ln=[.r A0 r.a0.N.L.length c0 3 1 (r.a0.N.L.flatMap Ak),.r A2 r.a0.D.length c2 3 1 (r.a0.D.flatMap Ak),.r A4 r.a1.N.L.length c4 3 1 (r.a1.N.L.flatMap Ak),.r A6 r.a1.D.length c6 3 1 (r.a1.D.flatMap Ak),.r A8 r.a2.N.L.length c8 3 1 (r.a2.N.L.flatMap Ak),.r A10 r.a2.D.length c10 3 1 (r.a2.D.flatMap Ak)]/\True):=⟨by
 rintro K _ r ⟨U0,E0,U1,E1,U2,E2,U3,E3,U4,E4,U5,E5,U6,E6,rfl,ha0,ha1,ha2,ha3,ha4,ha5,ha6,-⟩ hx w hK;replace ha0:=ha0.lo hK;replace ha1:=ha1.lo hK;replace ha2:=ha2.lo hK;replace ha3:=ha3.lo hK;replace ha4:=ha4.lo hK;replace ha5:=ha5.lo hK;replace ha6:=ha6.lo hK;unfold Mm at hx;have:=dl 1 [0,1,0,1,0,1,2,2,0,1,0,1,0,1,2,2,0,1,0,1,0,1,2,2,4,4,4,3,3,3] [0,1,2,3,4,5,8,9,10,11,12,13,16,17,18,19,20,21,6,7,14,15,22,23,24,25,26,27,28,29] [24,25,26];have:=dl 2 [1,1,1,2,1,1,1,2,1,1,1,2,0,3] [0,1,2,4,5,6,8,9,10,3,7,11,12,13];refine CtS ntmps252 results252 ?_;exact au⟩
instance(p0:Al)(p1:Ah)(p2:Cb)(p3:Bool):Con (Is p0 p1 p2 p3) prog 204 (fun K vs=>∃U0 E0 U1 E1 U2 E2 U3 E3 U4 E4 U5 E5 U6 E6,vs=[.agg #[.slice U0 p0.V.length E0,.slice U1 p0.T.length E1,.slice U2 p0.Lines.length E2],.agg #[.int .i64 p1.a0,.int .i64 p1.a1,.int .i64 p1.a2],.agg #[.bool p2.X.N.Neg,.slice U3 p2.X.N.L.length E3,.slice U4 p2.X.D.length E4,.bool p2.Y.N.Neg,.slice U5 p2.Y.N.L.length E5,.slice U6 p2.Y.D.length E6],.bool p3]/\Has K U0 p0.V.length E0 4 Am p0.V/\Has K U1 p0.T.length E1 3 Az p0.T/\Has K U2 p0.Lines.length E2 2 Ar p0.Lines/\Has K U3 p2.X.N.L.length E3 1 Ak p2.X.N.L/\Has K U4 p2.X.D.length E4 1 Ak p2.X.D/\Has K U5 p2.Y.N.L.length E5 1 Ak p2.Y.N.L/\Has K U6 p2.Y.D.length E6 1 Ak p2.Y.D/\True) (fun _ r v Ln=>∃A0 c0 A2 c2,v=.agg #[.bool r.N.Neg,.slice A0 r.N.L.length c0,.slice A2 r.D.length c2]/\Ln=[.r A0 r.N.L.length c0 3 1 (r.N.L.flatMap Ak),.r A2 r.D.length c2 3 1 (r.D.flatMap Ak)]/\True):=⟨by
 rintro K _ r ⟨U0,E0,U1,E1,U2,E2,U3,E3,U4,E4,U5,E5,U6,E6,rfl,ha0,ha1,ha2,ha3,ha4,ha5,ha6,-⟩ hx w hK;replace ha0:=ha0.lo hK;replace ha1:=ha1.lo hK;replace ha2:=ha2.lo hK;replace ha3:=ha3.lo hK;replace ha4:=ha4.lo hK;replace ha5:=ha5.lo hK;replace ha6:=ha6.lo hK;unfold Is at hx;have:=dl 6 [1,0,0,1,0,1,0,0,1,0,1,0,2,2,2,2,3] [0,1,2,3,4,5,6,7,8,9,10,11,12,13,14,15,16];have:=dl 7 [1,0,0,1,2,3] [0,1,2,3,4,5];refine CtS ntmps204 results204 ?_;exact au⟩
instance(p0:Al)(p1:Ab):Con (Sm p0 p1) prog 141 (fun K vs=>∃U0 E0 U1 E1 U2 E2,vs=[.agg #[.slice U0 p0.V.length E0,.slice U1 p0.T.length E1,.slice U2 p0.Lines.length E2],.agg #[.int .i64 p1.X,.int .i64 p1.Y]]/\Has K U0 p0.V.length E0 4 Am p0.V/\Has K U1 p0.T.length E1 3 Az p0.T/\Has K U2 p0.Lines.length E2 2 Ar p0.Lines/\True) (fun _ r v Ln=>∃A0 c0 A2 c2 A4 c4 A6 c6,v=.tuple #[.agg #[.bool r.1.N.Neg,.slice A0 r.1.N.L.length c0,.slice A2 r.1.D.length c2],.agg #[.bool r.2.1.N.Neg,.slice A4 r.2.1.N.L.length c4,.slice A6 r.2.1.D.length c6],.int .i64 r.2.2]/\Ln=[.r A0 r.1.N.L.length c0 3 1 (r.1.N.L.flatMap Ak),.r A2 r.1.D.length c2 3 1 (r.1.D.flatMap Ak),.r A4 r.2.1.N.L.length c4 3 1 (r.2.1.N.L.flatMap Ak),.r A6 r.2.1.D.length c6 3 1 (r.2.1.D.flatMap Ak)]/\True):=⟨by
 rintro K _ r ⟨U0,E0,U1,E1,U2,E2,rfl,ha0,ha1,ha2,-⟩ hx w hK;replace ha0:=ha0.lo hK;replace ha1:=ha1.lo hK;replace ha2:=ha2.lo hK;unfold Sm at hx;have:=dl 4 [1,0,1,0,0,1,1,2,2,1,0,1,0,0,1,1,2,2,3,3,2] [0,1,2,3,4,5,6,9,10,11,12,13,14,15,7,8,16,17,18,19,20];refine CtS ntmps141 results141 ?_;refine pq ?_;intros;rename_i hx
 refine Cq2 (s:=15) hx rfl ?_ ?_
 .refine pI ?_;intros;rename_i hx
  (with_reducible apply Bhh 5 [1,1,0,3,3,2] [[],[],[],[0],[0,1,3],[0,1,2,3,4]] [1] (.q 0 (.q 1 (.q 2 (.e 3 (.e 4 (.e 5 (.done) (.stop)) (.stop)) (.stop))))));exact rfl;exact aT;exact mixed;kernel_rfl;kernel_rfl;refine P_q rfl rfl (by exact evB) rfl ?_;refine P_r rfl rfl (by exact evB) rfl ?_;refine P_p rfl rfl (by exact evB) rfl ?_;refine P_hR rfl rfl (Af2 rfl rfl rfl rfl sA sP rfl rfl ?_) ?_;rotate_left;exact Aag;refine Bev (fun w hw=>SubE.ok sU w hw) ?_;refine P_hL rfl rfl rfl (Af2 rfl rfl rfl rfl sA sP rfl rfl ?_) ?_;rotate_left;exact Aag;refine P_x rfl (Amh (Tw rfl) rfl ?_) ?_;rotate_left;exact Aag;refine Aql ?_
  exact au
 .exact aI⟩
instance(p0:Al)(p1:Ab):Con (Gr p0 p1) prog 85 (fun K vs=>∃U0 E0 U1 E1 U2 E2,vs=[.agg #[.slice U0 p0.V.length E0,.slice U1 p0.T.length E1,.slice U2 p0.Lines.length E2],.agg #[.int .i64 p1.X,.int .i64 p1.Y]]/\Has K U0 p0.V.length E0 4 Am p0.V/\Has K U1 p0.T.length E1 3 Az p0.T/\Has K U2 p0.Lines.length E2 2 Ar p0.Lines/\True) (fun _ r v Ln=>v=.tuple #[.agg #[.int .i64 r.1.Lo,.int .i64 r.1.Hi],.int .i64 r.2]/\Ln=[]/\True):=⟨by
 rintro K _ r ⟨U0,E0,U1,E1,U2,E2,rfl,ha0,ha1,ha2,-⟩ hx w hK;replace ha0:=ha0.lo hK;replace ha1:=ha1.lo hK;replace ha2:=ha2.lo hK;unfold Gr at hx;refine CtS ntmps85 results85 ?_;exact au⟩
end
end Go.Proofs.YthlkpgdfifnagaaGreat
