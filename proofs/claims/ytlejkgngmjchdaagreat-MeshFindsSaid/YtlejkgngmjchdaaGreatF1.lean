import Derived.Test.YtlejkgngmjchdaaGreatR1
set_option maxRecDepth 100000
set_option maxHeartbeats 1000000
namespace Go.Proofs.YtlejkgngmjchdaaGreat
open Go Go.RowKit Tryz
noncomputable section
instance:Dz prog 60 0 0:=⟨.mk underlying60 rfl rfl (kr:prog.info? 4=some Tryz.t4) (kr:Tryz.t4.size=1) rfl⟩
instance:Dz prog 60 1 1:=⟨.mk underlying60 rfl rfl (kr:prog.info? 58=some t58) (kr:t58.size=1) rfl⟩
instance:Jg prog 60 [] [.bool false,.slice none 0 0]:=⟨fun w=>kr⟩
instance:Sd prog 62 [.bool false,.slice none 0 0,.slice none 0 0]:=⟨⟨_,zeroValue62,rfl⟩⟩
instance(x0:Bool)(x1:OA)(x2:Nat)(x3:Nat)(x4:OA)(x5:Nat)(x6:Nat):Jg prog 62 [(0,.agg #[.bool x0,.slice x1 x2 x3]),(1,.slice x4 x5 x6)] [.bool x0,.slice x1 x2 x3,.slice x4 x5 x6]:=⟨fun w=>kr⟩
instance:AggI prog 62 3:=⟨.mk underlying62 rfl (kr:prog.info? 62=some t62) kr⟩
instance:Dz prog 62 0 0:=⟨.mk underlying62 rfl rfl (kr:prog.info? 60=some t60) (kr:t60.size=2) rfl⟩
instance:Dz prog 62 1 2:=⟨.mk underlying62 rfl rfl (kr:prog.info? 58=some t58) (kr:t58.size=1) rfl⟩
instance(x0:Bool)(x1:OA)(x2:Nat)(x3:Nat)(x4:OA)(x5:Nat)(x6:Nat):Aje prog 62 [.bool x0,.slice x1 x2 x3,.slice x4 x5 x6] 0 (.agg #[.bool x0,.slice x1 x2 x3]):=⟨fun w=>kr⟩
instance:Lj prog 137 62 3:=⟨.mk underlying137 (kr:prog.info? 62=some t62) kr⟩
def Ly(p0:Ae)(p1:Ae):Option Ae :=
 if (p0.Neg==p1.Neg)=true then (bnd (Jp p0.L p1.L) fun r6=>
 some (⟨p0.Neg,r6⟩:Ae))
 else (bnd (Gd p0.L p1.L) fun r0=>
 if r0=0 then (some (⟨false,([]:LI)⟩:Ae))
 else (if 0<r0 then (bnd (Gb p0.L p1.L) fun r1=>
 some (⟨p0.Neg,r1⟩:Ae))
 else (bnd (Gb p1.L p0.L) fun r2=>
 some (⟨p1.Neg,r2⟩:Ae))))
def Gm(p0:Ae):Option Ae :=
 jn (fun (s2:Bool)=>
 some (⟨s2,p0.L⟩:Ae))
 (fun j2=>if p0.Neg=true then (j2 false)
 else (j2 (decide (0<(p0.L.length:Int)))))
def Dp(p0:Ae)(p1:Ae):Option Ae :=
 bnd (Dh p0.L p1.L) fun r4=>
 jn (fun (s3:Bool)=>
 some (⟨s3,r4⟩:Ae))
 (fun j3=>if (p0.Neg==p1.Neg)=true then (j3 false)
 else (j3 (decide (0<(r4.length:Int)))))
def Hq(p0:Ae):Option Int :=
 if (p0.L.length:Int)=0 then (some 0)
 else (if p0.Neg=true then (some (-1))
 else (some 1))
def Es(p0:Ae):(Int×Int)->Option (Sum (Int×Int) Int):=fun s0=>
 if 0<=s0.2 then (bnd (idx p0.L s0.2) fun x0=>
 some (.inl (w64 ((w64 (s0.1*65536))+x0),w64 (s0.2-1))))
 else (some (.inr s0.1))
def Jx(p0:Ae):Option (Int×Bool):=
 jn (fun (s3:Bool)=>
 if s3=true then (some (0,false))
 else (jn (fun (s6:Int)=>
 jn (fun (s0:Bool)=>
 if s0=true then (some (0,false))
 else (jn (fun (s1:Int)=>
 some (s1,true))
 (fun j0=>if p0.Neg=true then (j0 (w64 (-s6)))
 else (j0 s6))))
 (fun j1=>if s6<0 then (j1 true)
 else (j1 (decide (4611686018427387904<s6)))))
 (fun j6=>bnd (lfix (Es p0) (0,w64 ((p0.L.length:Int)-1))) fun t0=>
 j6 t0)))
 (fun j3=>if 4<(p0.L.length:Int) then (j3 true)
 else (if (p0.L.length:Int)=4 then (bnd (idx p0.L 3) fun x7=>
 j3 (decide (16384<x7)))
 else (j3 false)))
def Jy(p0:Ae)(p1:Ae):Option Ae :=
 bnd (Ed p0.L p1.L) fun r4=>
 if p0.Neg=true then (jn (fun (s6:LI)=>
 some (⟨decide (0<(s6.length:Int)),s6⟩:Ae))
 (fun j6=>if 0<(r4.2.length:Int) then (bnd (Jp r4.1 ([1])) fun r0=>
 j6 r0)
 else (j6 r4.1)))
 else (some (⟨false,r4.1⟩:Ae))
def Cg(p0:Ae)(p1:Ae):Option Aj :=
 bnd (Ns p0.L p1.L) fun r4=>
 bnd (Ed p0.L r4) fun r0=>
 bnd (Ed p1.L r4) fun r1=>
 jn (fun (s5:Bool)=>
 some (⟨(⟨s5,r0.1⟩:Ae),r1.1⟩:Aj))
 (fun j5=>if p0.Neg=true then (j5 (decide (0<(r0.1.length:Int))))
 else (j5 false))
def Cl(p0:Int):Option Aj :=
 bnd (Kx p0) fun r2=>
 some (⟨r2,[1]⟩:Aj)
def Cw(p0:Aj)(p1:Aj):Option Aj :=
 bnd (Dp p0.N (⟨false,p1.D⟩:Ae)) fun r4=>
 bnd (Dp p1.N (⟨false,p0.D⟩:Ae)) fun r9=>
 bnd (Ly r4 r9) fun r0=>
 bnd (Dh p0.D p1.D) fun r1=>
 bnd (Cg r0 (⟨false,r1⟩:Ae)) fun r2=>
 some r2
def Ip(p0:Aj):Option Aj :=
 bnd (Gm p0.N) fun r3=>
 some (⟨r3,p0.D⟩:Aj)
def Di(p0:Aj)(p1:Aj):Option Aj :=
 bnd (Ip p1) fun r4=>
 bnd (Cw p0 r4) fun r0=>
 some r0
def Dx(p0:Aj)(p1:Aj):Option Aj :=
 bnd (Dp p0.N p1.N) fun r4=>
 bnd (Dh p0.D p1.D) fun r9=>
 bnd (Cg r4 (⟨false,r9⟩:Ae)) fun r0=>
 some r0
def Nx(p0:Aj)(p1:Aj):Option Aj :=
 bnd (Dp p0.N (⟨false,p1.D⟩:Ae)) fun r4=>
 bnd (Dp p1.N (⟨false,p0.D⟩:Ae)) fun r9=>
 jn (fun (s3:Bool×LI×LI)=>
 some (⟨(⟨s3.1,s3.2.1⟩:Ae),s3.2.2⟩:Aj))
 (fun j3=>if (r4.Neg==r9.Neg)=true then (bnd (Cg (⟨false,r4.L⟩:Ae) (⟨false,r9.L⟩:Ae)) fun r0=>
 j3 (r0.N.Neg,r0.N.L,r0.D))
 else (bnd (Cg (⟨decide (0<(r4.L.length:Int)),r4.L⟩:Ae) (⟨false,r9.L⟩:Ae)) fun r1=>
 j3 (r1.N.Neg,r1.N.L,r1.D)))
def Iq(p0:Aj)(p1:Aj):Option Int :=
 bnd (Di p0 p1) fun r3=>
 bnd (Hq r3.N) fun r0=>
 some r0
def Ir(p0:Aj):Option Ae :=
 bnd (Jy p0.N (⟨false,p0.D⟩:Ae)) fun r3=>
 some r3
def My(p0:Aj):Option Ae :=
 bnd (Ip p0) fun r3=>
 bnd (Ir r3) fun r0=>
 bnd (Gm r0) fun r1=>
 some r1
def Ny(p0:Ae):Option (Int×Int):=
 bnd (Jx p0) fun r2=>
 jn (fun (s4:Bool)=>
 if s4=true then (some (0,3))
 else (some (r2.1,0)))
 (fun j4=>if r2.2=true then (if r2.1<(-1152921504606846976) then (j4 true)
 else (j4 (decide (1152921504606846976<r2.1))))
 else (j4 true))
def Td(K:LE)(x:Aj)(ys:LV):Prop:=∃(A0:OA) (c0:Nat) (A1:OA) (c1:Nat),ys=[.bool x.N.Neg,.slice A0 x.N.L.length c0,.slice A1 x.D.length c1]/\Has K A0 x.N.L.length c0 1 Ao x.N.L/\Has K A1 x.D.length c1 1 Ao x.D
theorem Abc{K L:LE}{x:Aj}{ys:LV}(hK:SubE K L)(h:Td K x ys):Td L x ys:=by
 obtain⟨A0,c0,A1,c1,h0,h1,h2⟩:=h;exact⟨A0,c0,A1,c1,h0,Has.up h1 hK,Has.up h2 hK⟩
instance:LoN Td:={u:=Abc,h:=fun h hK=>(by obtain⟨A0,c0,A1,c1,h0,h1,h2⟩:=h;exact⟨A0,c0,A1,c1,h0,Has.lo h1 hK,Has.lo h2 hK⟩)}
instance:UndI prog 137 (.slice 62):=⟨underlying137⟩
def Gn(p0:List Aj):(Bool×LI×LI×Bool×LI×LI×Int)->Option (Sum (Bool×LI×LI×Bool×LI×LI×Int) (Bool×LI×LI×Bool×LI×LI)):=fun s0=>
 if s0.2.2.2.2.2.2<(p0.length:Int) then (jn (fun (s1:Bool×LI×LI×Bool×LI×LI)=>
 some (.inl (s1.1,s1.2.1,s1.2.2.1,s1.2.2.2.1,s1.2.2.2.2.1,s1.2.2.2.2.2,w64 (s0.2.2.2.2.2.2+1))))
 (fun j0=>jn (fun (s2:Bool×LI×LI)=>
 bnd (idx p0 s0.2.2.2.2.2.2) fun x0=>
 bnd (Iq x0 (⟨(⟨s0.2.2.2.1,s0.2.2.2.2.1⟩:Ae),s0.2.2.2.2.2.1⟩:Aj)) fun r0=>
 if 0<r0 then (bnd (idx p0 s0.2.2.2.2.2.2) fun x1=>
 j0 (s2.1,s2.2.1,s2.2.2,x1.N.Neg,x1.N.L,x1.D))
 else (j0 (s2.1,s2.2.1,s2.2.2,s0.2.2.2.1,s0.2.2.2.2.1,s0.2.2.2.2.2.1)))
 (fun j1=>bnd (idx p0 s0.2.2.2.2.2.2) fun x2=>
 bnd (Iq x2 (⟨(⟨s0.1,s0.2.1⟩:Ae),s0.2.2.1⟩:Aj)) fun r1=>
 if r1<0 then (bnd (idx p0 s0.2.2.2.2.2.2) fun x3=>
 j1 (x3.N.Neg,x3.N.L,x3.D))
 else (j1 (s0.1,s0.2.1,s0.2.2.1)))))
 else (some (.inr (s0.1,s0.2.1,s0.2.2.1,s0.2.2.2.1,s0.2.2.2.2.1,s0.2.2.2.2.2.1)))
def Mz(p0:List Aj):Option (Af×Int):=
 jn (fun (s2:Bool×LI×LI×Bool×LI×LI)=>
 jn (fun (s3:Bool×LI×LI×Bool×LI×LI)=>
 bnd (Ir (⟨(⟨s3.1,s3.2.1⟩:Ae),s3.2.2.1⟩:Aj)) fun r0=>
 bnd (Ny r0) fun r1=>
 bnd (My (⟨(⟨s3.2.2.2.1,s3.2.2.2.2.1⟩:Ae),s3.2.2.2.2.2⟩:Aj)) fun r2=>
 bnd (Ny r2) fun r3=>
 jn (fun (s0:Bool)=>
 if s0=true then (some ((⟨0,0⟩:Af),3))
 else (some ((⟨r1.1,r3.1⟩:Af),0)))
 (fun j0=>if r1.2=0 then (j0 (!(decide (r3.2=0))))
 else (j0 true)))
 (fun j3=>bnd (lfix (Gn p0) (s2.1,s2.2.1,s2.2.2.1,s2.2.2.2.1,s2.2.2.2.2.1,s2.2.2.2.2.2,1)) fun t0=>
 j3 t0))
 (fun j2=>bnd (idx p0 0) fun x2=>
 bnd (idx p0 0) fun x0=>
 j2 (x2.N.Neg,x2.N.L,x2.D,x0.N.Neg,x0.N.L,x0.D))
instance(p0:Ae)(p1:Ae):Con (Ly p0 p1) prog 89 (fun K vs=>∃E0 G0 E1 G1,vs=[.agg #[.bool p0.Neg,.slice E0 p0.L.length G0],.agg #[.bool p1.Neg,.slice E1 p1.L.length G1]]/\Has K E0 p0.L.length G0 1 Ao p0.L/\Has K E1 p1.L.length G1 1 Ao p1.L/\True) (fun _ r v Ln=>∃A0 c0,v=.agg #[.bool r.Neg,.slice A0 r.L.length c0]/\Ln=[.r A0 r.L.length c0 3 1 (r.L.flatMap Ao)]/\True):=⟨by
 rintro K _ r ⟨E0,G0,E1,G1,rfl,ha0,ha1,-⟩ hx w hK;replace ha0:=ha0.lo hK;replace ha1:=ha1.lo hK;unfold Ly at hx;have:=dl 2 [0,1,0,1,0,1,2,0,3] [0,1,2,3,4,5,6,7,8];have:=dl 7 [0,1,0,1,0,1,2,0,3] [0,1,2,3,4,5,6,7,8];have:=dl 8 [0,1,0,1,0,1,2,0,3] [0,1,2,3,4,5,6,7,8];refine CtS ntmps89 results89 ?_;exact au⟩
instance(p0:Ae):ConB (Gm p0) prog 207 (fun K vs=>∃E0 G0,vs=[.agg #[.bool p0.Neg,.slice E0 p0.L.length G0]]/\Has K E0 p0.L.length G0 1 Ao p0.L/\True) (fun K r v Ln=>∃A0 c0 e,v=.agg #[.bool r.Neg,.slice A0 r.L.length c0]/\Ln=[e]/\Has (K++[e]) A0 r.L.length c0 1 Ao r.L/\True):=⟨by
 rintro K _ r ⟨E0,G0,rfl,ha0,-⟩ hx w hK;unfold Gm at hx;refine CtS ntmps207 results207 ?_;exact au⟩
instance(p0:Ae)(p1:Ae):Con (Dp p0 p1) prog 84 (fun K vs=>∃E0 G0 E1 G1,vs=[.agg #[.bool p0.Neg,.slice E0 p0.L.length G0],.agg #[.bool p1.Neg,.slice E1 p1.L.length G1]]/\Has K E0 p0.L.length G0 1 Ao p0.L/\Has K E1 p1.L.length G1 1 Ao p1.L/\True) (fun _ r v Ln=>∃A0 c0,v=.agg #[.bool r.Neg,.slice A0 r.L.length c0]/\Ln=[.r A0 r.L.length c0 3 1 (r.L.flatMap Ao)]/\True):=⟨by
 rintro K _ r ⟨E0,G0,E1,G1,rfl,ha0,ha1,-⟩ hx w hK;replace ha0:=ha0.lo hK;replace ha1:=ha1.lo hK;unfold Dp at hx;refine CtS ntmps84 results84 ?_;exact au⟩
instance(p0:Ae):Con (Hq p0) prog 88 (fun K vs=>∃E0 G0,vs=[.agg #[.bool p0.Neg,.slice E0 p0.L.length G0]]/\Has K E0 p0.L.length G0 1 Ao p0.L/\True) (fun _ r v Ln=>v=.int .i64 r/\Ln=[]/\True):=⟨by
 rintro K _ r ⟨E0,G0,rfl,ha0,-⟩ hx w hK;replace ha0:=ha0.lo hK;unfold Hq at hx;refine CtS ntmps88 results88 ?_;exact au⟩
instance(p0:Ae):Con (Jx p0) prog 242 (fun K vs=>∃E0 G0,vs=[.agg #[.bool p0.Neg,.slice E0 p0.L.length G0]]/\Has K E0 p0.L.length G0 1 Ao p0.L/\True) (fun _ r v Ln=>v=.tuple #[.int .i64 r.1,.bool r.2]/\Ln=[]/\True):=⟨by
 rintro K _ r ⟨E0,G0,rfl,ha0,-⟩ hx w hK;replace ha0:=ha0.lo hK;unfold Jx at hx;refine CtS ntmps242 results242 ?_;refine pq ?_;intros;rename_i hx
 refine pA ?_;intros;rename_i hx
 refine pA ?_;intros;rename_i hx
 apply Jr (γ:=Unit) hx [1] (fun s3 y3 f=>(22,.bool s3)::f) [0,999] (fun s3 y3 l=>l);exact kk
 .intro s3 y3 hx;refine Cq3 (s:=22) hx rfl ?_ ?_
  .exact aI
  .refine pI ?_;intros;rename_i hx
   refine pA ?_;intros;rename_i hx
   apply Jr (γ:=Unit) hx [1] (fun s6 y6 f=>(4,.int .i64 s6)::f) [0,999] (fun s6 y6 l=>l);exact kk
   .exact aI
   .refine pI ?_;intros;rename_i hx
    apply Lr (γ:=Unit) hx [1] (fun s0 y0 f=>(4,.int .i64 s0.1)::(5,.int .i64 s0.2)::f) [0,999] (fun s0 y0 l=>l) ();exact kk;exact sk;intro s0 y0 x0 hx _;unfold Es at hx;exact au
 .exact aI⟩
instance(p0:Ae)(p1:Ae):Con (Jy p0 p1) prog 243 (fun K vs=>∃E0 G0 E1 G1,vs=[.agg #[.bool p0.Neg,.slice E0 p0.L.length G0],.agg #[.bool p1.Neg,.slice E1 p1.L.length G1]]/\Has K E0 p0.L.length G0 1 Ao p0.L/\Has K E1 p1.L.length G1 1 Ao p1.L/\True) (fun _ r v Ln=>∃A0 c0,v=.agg #[.bool r.Neg,.slice A0 r.L.length c0]/\Ln=[.r A0 r.L.length c0 3 1 (r.L.flatMap Ao)]/\True):=⟨by
 rintro K _ r ⟨E0,G0,E1,G1,rfl,ha0,ha1,-⟩ hx w hK;replace ha0:=ha0.lo hK;replace ha1:=ha1.lo hK;unfold Jy at hx;refine CtS ntmps243 results243 ?_;exact au⟩
instance(p0:Ae)(p1:Ae):Con (Cg p0 p1) prog 85 (fun K vs=>∃E0 G0 E1 G1,vs=[.agg #[.bool p0.Neg,.slice E0 p0.L.length G0],.agg #[.bool p1.Neg,.slice E1 p1.L.length G1]]/\Has K E0 p0.L.length G0 1 Ao p0.L/\Has K E1 p1.L.length G1 1 Ao p1.L/\True) (fun _ r v Ln=>∃A0 c0 A2 c2,v=.agg #[.bool r.N.Neg,.slice A0 r.N.L.length c0,.slice A2 r.D.length c2]/\Ln=[.r A0 r.N.L.length c0 3 1 (r.N.L.flatMap Ao),.r A2 r.D.length c2 3 1 (r.D.flatMap Ao)]/\True):=⟨by
 rintro K _ r ⟨E0,G0,E1,G1,rfl,ha0,ha1,-⟩ hx w hK;replace ha0:=ha0.lo hK;replace ha1:=ha1.lo hK;unfold Cg at hx;refine CtS ntmps85 results85 ?_;exact au⟩
instance(p0:Int):Con (Cl p0) prog 30 (fun _ vs=>vs=[.int .i64 p0]) (fun _ r v Ln=>∃A0 c0 A2 c2,v=.agg #[.bool r.N.Neg,.slice A0 r.N.L.length c0,.slice A2 r.D.length c2]/\Ln=[.r A0 r.N.L.length c0 3 1 (r.N.L.flatMap Ao),.r A2 r.D.length c2 3 1 (r.D.flatMap Ao)]/\True):=⟨by
 rintro _ _ r rfl hx w hK;unfold Cl at hx;refine CtS ntmps30 results30 ?_;refine pq ?_;intros;rename_i hx
 (with_reducible apply Ack 5 (sz:=1));exact rfl;exact aT;exact iI;exact dL;exact (fun _=>rfl);exact rfl;exact rfl;exact sA
 exact au⟩
instance(p0:Aj)(p1:Aj):Con (Cw p0 p1) prog 34 (fun K vs=>∃E0 G0 E1 G1 E2 G2 E3 G3,vs=[.agg #[.bool p0.N.Neg,.slice E0 p0.N.L.length G0,.slice E1 p0.D.length G1],.agg #[.bool p1.N.Neg,.slice E2 p1.N.L.length G2,.slice E3 p1.D.length G3]]/\Has K E0 p0.N.L.length G0 1 Ao p0.N.L/\Has K E1 p0.D.length G1 1 Ao p0.D/\Has K E2 p1.N.L.length G2 1 Ao p1.N.L/\Has K E3 p1.D.length G3 1 Ao p1.D/\True) (fun _ r v Ln=>∃A0 c0 A2 c2,v=.agg #[.bool r.N.Neg,.slice A0 r.N.L.length c0,.slice A2 r.D.length c2]/\Ln=[.r A0 r.N.L.length c0 3 1 (r.N.L.flatMap Ao),.r A2 r.D.length c2 3 1 (r.D.flatMap Ao)]/\True):=⟨by
 rintro K _ r ⟨E0,G0,E1,G1,E2,G2,E3,G3,rfl,ha0,ha1,ha2,ha3,-⟩ hx w hK;replace ha0:=ha0.lo hK;replace ha1:=ha1.lo hK;replace ha2:=ha2.lo hK;replace ha3:=ha3.lo hK;unfold Cw at hx;have:=dl 1 [0,1,0,1,0,2,0,1,0,1,0,2,2,0,1,0,1,2,0,2,3] [0,1,2,3,4,6,7,8,9,10,13,14,15,16,5,11,12,17,18,19,20];refine CtS ntmps34 results34 ?_;exact au⟩
instance(p0:Aj):ConB (Ip p0) prog 180 (fun K vs=>∃E0 G0 E1 G1,vs=[.agg #[.bool p0.N.Neg,.slice E0 p0.N.L.length G0,.slice E1 p0.D.length G1]]/\Has K E0 p0.N.L.length G0 1 Ao p0.N.L/\Has K E1 p0.D.length G1 1 Ao p0.D/\True) (fun K r v Ln=>∃A0 c0 A2 c2 e,v=.agg #[.bool r.N.Neg,.slice A0 r.N.L.length c0,.slice A2 r.D.length c2]/\Ln=[e]/\Has (K++[e]) A0 r.N.L.length c0 1 Ao r.N.L/\Has (K++[e]) A2 r.D.length c2 1 Ao r.D/\True):=⟨by
 rintro K _ r ⟨E0,G0,E1,G1,rfl,ha0,ha1,-⟩ hx w hK;unfold Ip at hx;have:=dl 1 [0,1,2,0,1,0,3] [0,1,3,4,2,5,6];refine CtS ntmps180 results180 ?_;exact au⟩
instance(p0:Aj)(p1:Aj):Con (Di p0 p1) prog 87 (fun K vs=>∃E0 G0 E1 G1 E2 G2 E3 G3,vs=[.agg #[.bool p0.N.Neg,.slice E0 p0.N.L.length G0,.slice E1 p0.D.length G1],.agg #[.bool p1.N.Neg,.slice E2 p1.N.L.length G2,.slice E3 p1.D.length G3]]/\Has K E0 p0.N.L.length G0 1 Ao p0.N.L/\Has K E1 p0.D.length G1 1 Ao p0.D/\Has K E2 p1.N.L.length G2 1 Ao p1.N.L/\Has K E3 p1.D.length G3 1 Ao p1.D/\True) (fun _ r v Ln=>∃A0 c0 A2 c2,v=.agg #[.bool r.N.Neg,.slice A0 r.N.L.length c0,.slice A2 r.D.length c2]/\Ln=[.r A0 r.N.L.length c0 3 1 (r.N.L.flatMap Ao),.r A2 r.D.length c2 3 1 (r.D.flatMap Ao)]/\True):=⟨by
 rintro K _ r ⟨E0,G0,E1,G1,E2,G2,E3,G3,rfl,ha0,ha1,ha2,ha3,-⟩ hx w hK;replace ha0:=ha0.lo hK;replace ha1:=ha1.lo hK;replace ha2:=ha2.lo hK;replace ha3:=ha3.lo hK;unfold Di at hx;have:=dl 1 [1,1,2,2,3] [0,1,2,3,4];refine CtS ntmps87 results87 ?_;exact au⟩
instance(p0:Aj)(p1:Aj):Con (Dx p0 p1) prog 35 (fun K vs=>∃E0 G0 E1 G1 E2 G2 E3 G3,vs=[.agg #[.bool p0.N.Neg,.slice E0 p0.N.L.length G0,.slice E1 p0.D.length G1],.agg #[.bool p1.N.Neg,.slice E2 p1.N.L.length G2,.slice E3 p1.D.length G3]]/\Has K E0 p0.N.L.length G0 1 Ao p0.N.L/\Has K E1 p0.D.length G1 1 Ao p0.D/\Has K E2 p1.N.L.length G2 1 Ao p1.N.L/\Has K E3 p1.D.length G3 1 Ao p1.D/\True) (fun _ r v Ln=>∃A0 c0 A2 c2,v=.agg #[.bool r.N.Neg,.slice A0 r.N.L.length c0,.slice A2 r.D.length c2]/\Ln=[.r A0 r.N.L.length c0 3 1 (r.N.L.flatMap Ao),.r A2 r.D.length c2 3 1 (r.D.flatMap Ao)]/\True):=⟨by
 rintro K _ r ⟨E0,G0,E1,G1,E2,G2,E3,G3,rfl,ha0,ha1,ha2,ha3,-⟩ hx w hK;replace ha0:=ha0.lo hK;replace ha1:=ha1.lo hK;replace ha2:=ha2.lo hK;replace ha3:=ha3.lo hK;unfold Dx at hx;have:=dl 1 [0,1,0,1,2,0,1,0,1,2,0,2,3] [0,1,2,3,5,6,7,8,4,9,10,11,12];refine CtS ntmps35 results35 ?_;exact au⟩
instance(p0:Aj)(p1:Aj):Con (Nx p0 p1) prog 31 (fun K vs=>∃E0 G0 E1 G1 E2 G2 E3 G3,vs=[.agg #[.bool p0.N.Neg,.slice E0 p0.N.L.length G0,.slice E1 p0.D.length G1],.agg #[.bool p1.N.Neg,.slice E2 p1.N.L.length G2,.slice E3 p1.D.length G3]]/\Has K E0 p0.N.L.length G0 1 Ao p0.N.L/\Has K E1 p0.D.length G1 1 Ao p0.D/\Has K E2 p1.N.L.length G2 1 Ao p1.N.L/\Has K E3 p1.D.length G3 1 Ao p1.D/\True) (fun _ r v Ln=>∃A0 c0 A2 c2,v=.agg #[.bool r.N.Neg,.slice A0 r.N.L.length c0,.slice A2 r.D.length c2]/\Ln=[.r A0 r.N.L.length c0 3 1 (r.N.L.flatMap Ao),.r A2 r.D.length c2 3 1 (r.D.flatMap Ao)]/\True):=⟨by
 rintro K _ r ⟨E0,G0,E1,G1,E2,G2,E3,G3,rfl,ha0,ha1,ha2,ha3,-⟩ hx w hK;replace ha0:=ha0.lo hK;replace ha1:=ha1.lo hK;replace ha2:=ha2.lo hK;replace ha3:=ha3.lo hK;unfold Nx at hx;have:=dl 1 [0,1,0,1,0,2,0,1,0,1,0,2,4,4,3,3] [0,1,2,3,4,6,7,8,9,10,5,11,12,13,14,15] [12,13];refine CtS ntmps31 results31 ?_;exact au⟩
instance(p0:Aj)(p1:Aj):Con (Iq p0 p1) prog 33 (fun K vs=>∃E0 G0 E1 G1 E2 G2 E3 G3,vs=[.agg #[.bool p0.N.Neg,.slice E0 p0.N.L.length G0,.slice E1 p0.D.length G1],.agg #[.bool p1.N.Neg,.slice E2 p1.N.L.length G2,.slice E3 p1.D.length G3]]/\Has K E0 p0.N.L.length G0 1 Ao p0.N.L/\Has K E1 p0.D.length G1 1 Ao p0.D/\Has K E2 p1.N.L.length G2 1 Ao p1.N.L/\Has K E3 p1.D.length G3 1 Ao p1.D/\True) (fun _ r v Ln=>v=.int .i64 r/\Ln=[]/\True):=⟨by
 rintro K _ r ⟨E0,G0,E1,G1,E2,G2,E3,G3,rfl,ha0,ha1,ha2,ha3,-⟩ hx w hK;replace ha0:=ha0.lo hK;replace ha1:=ha1.lo hK;replace ha2:=ha2.lo hK;replace ha3:=ha3.lo hK;unfold Iq at hx;refine CtS ntmps33 results33 ?_;exact au⟩
instance(p0:Aj):Con (Ir p0) prog 164 (fun K vs=>∃E0 G0 E1 G1,vs=[.agg #[.bool p0.N.Neg,.slice E0 p0.N.L.length G0,.slice E1 p0.D.length G1]]/\Has K E0 p0.N.L.length G0 1 Ao p0.N.L/\Has K E1 p0.D.length G1 1 Ao p0.D/\True) (fun _ r v Ln=>∃A0 c0,v=.agg #[.bool r.Neg,.slice A0 r.L.length c0]/\Ln=[.r A0 r.L.length c0 3 1 (r.L.flatMap Ao)]/\True):=⟨by
 rintro K _ r ⟨E0,G0,E1,G1,rfl,ha0,ha1,-⟩ hx w hK;replace ha0:=ha0.lo hK;replace ha1:=ha1.lo hK;unfold Ir at hx;refine CtS ntmps164 results164 ?_;exact au⟩
instance(p0:Aj):ConB (My p0) prog 165 (fun K vs=>∃E0 G0 E1 G1,vs=[.agg #[.bool p0.N.Neg,.slice E0 p0.N.L.length G0,.slice E1 p0.D.length G1]]/\Has K E0 p0.N.L.length G0 1 Ao p0.N.L/\Has K E1 p0.D.length G1 1 Ao p0.D/\True) (fun K r v Ln=>∃A0 c0 e,v=.agg #[.bool r.Neg,.slice A0 r.L.length c0]/\Ln=[e]/\Has (K++[e]) A0 r.L.length c0 1 Ao r.L/\True):=⟨by
 rintro K _ r ⟨E0,G0,E1,G1,rfl,ha0,ha1,-⟩ hx w hK;unfold My at hx;refine CtS ntmps165 results165 ?_;exact au⟩
instance(p0:Ae):Con (Ny p0) prog 163 (fun K vs=>∃E0 G0,vs=[.agg #[.bool p0.Neg,.slice E0 p0.L.length G0]]/\Has K E0 p0.L.length G0 1 Ao p0.L/\True) (fun _ r v Ln=>v=.tuple #[.int .i64 r.1,.int .i64 r.2]/\Ln=[]/\True):=⟨by
 rintro K _ r ⟨E0,G0,rfl,ha0,-⟩ hx w hK;replace ha0:=ha0.lo hK;unfold Ny at hx;refine CtS ntmps163 results163 ?_;exact au⟩
instance(p0:List Aj):Con (Mz p0) prog 70 (fun K vs=>∃E0 G0,vs=[.slice E0 p0.length G0]/\HasN K E0 p0.length G0 3 Td p0/\True) (fun _ r v Ln=>v=.tuple #[.agg #[.int .i64 r.1.Lo,.int .i64 r.1.Hi],.int .i64 r.2]/\Ln=[]/\True):=⟨by
 rintro K _ r ⟨E0,G0,rfl,ha0,-⟩ hx w hK;unfold Mz at hx;have:=dp 1 [0,0,1,0,0,2,2,2,3,3] (.q 0 (.q 1 (.q 2 (.q 3 (.q 4 (.e 5 (.e 6 (.e 7 (.e 8 (.e 9 (.done) (.stop)) (.stop)) (.stop)) (.e 7 (.e 6 (.e 8 (.e 9 (.done) (.stop)) (.stop)) (.stop)) (.stop))) (.e 6 (.e 5 (.e 7 (.e 8 (.e 9 (.done) (.stop)) (.stop)) (.stop)) (.e 7 (.e 5 (.e 8 (.e 9 (.done) (.stop)) (.stop)) (.e 8 (.e 5 (.e 9 (.done) (.stop)) (.stop)) (.stop))) (.stop))) (.e 7 (.e 5 (.e 6 (.e 8 (.e 9 (.done) (.stop)) (.stop)) (.stop)) (.e 6 (.e 5 (.e 8 (.e 9 (.done) (.stop)) (.stop)) (.e 8 (.e 5 (.e 9 (.done) (.stop)) (.stop)) (.stop))) (.stop))) (.stop)))))))));have:=dl 5 [0,0,0,1,1,2,0] [0,1,2,3,4,5,6];have:=dl 7 [0,0,0,1,1,2,0] [0,1,2,3,4,5,6];refine CtS ntmps70 results70 ?_;refine pq ?_;intros;rename_i hx
 refine pA ?_;intros;rename_i hx
 apply JrG (γ:=Nat×OA×Nat×OA×Nat×Nat×OA×Nat×OA×Nat) hx [0,2] (fun s2 y2 f=>(4,.pointer (some ⟨y2.1,0,none⟩))::(5,.pointer (some ⟨y2.2.2.2.2.2.1,0,none⟩))::f) [0,999] (fun s2 y2 l=>.m y2.2.2.2.2.2.1 62 [.bool s2.2.2.2.1,.slice y2.2.2.2.2.2.2.1 s2.2.2.2.2.1.length y2.2.2.2.2.2.2.2.1,.slice y2.2.2.2.2.2.2.2.2.1 s2.2.2.2.2.2.length y2.2.2.2.2.2.2.2.2.2] :: .m y2.1 62 [.bool s2.1,.slice y2.2.1 s2.2.1.length y2.2.2.1,.slice y2.2.2.2.1 s2.2.2.1.length y2.2.2.2.2.1]::l) (fun s2 y2=>Has [.old w] y2.2.1 s2.2.1.length y2.2.2.1 1 Ao s2.2.1/\Has [.old w] y2.2.2.2.1 s2.2.2.1.length y2.2.2.2.2.1 1 Ao s2.2.2.1/\Has [.old w] y2.2.2.2.2.2.2.1 s2.2.2.2.2.1.length y2.2.2.2.2.2.2.2.1 1 Ao s2.2.2.2.2.1/\Has [.old w] y2.2.2.2.2.2.2.2.2.1 s2.2.2.2.2.2.length y2.2.2.2.2.2.2.2.2.2 1 Ao s2.2.2.2.2.2/\True);exact kk
 .intro s2 y2 hx hG;obtain⟨_,_,_,_,-⟩:=hG;refine pq ?_;intros;rename_i hx
  apply JrG (γ:=OA×Nat×OA×Nat×OA×Nat×OA×Nat) hx [2,4,5] (fun s3 y3 f=>f) [2,999] (fun s3 y3 l=>.m y2.2.2.2.2.2.1 62 [.bool s3.2.2.2.1,.slice y3.2.2.2.2.1 s3.2.2.2.2.1.length y3.2.2.2.2.2.1,.slice y3.2.2.2.2.2.2.1 s3.2.2.2.2.2.length y3.2.2.2.2.2.2.2] :: .m y2.1 62 [.bool s3.1,.slice y3.1 s3.2.1.length y3.2.1,.slice y3.2.2.1 s3.2.2.1.length y3.2.2.2.1]::l) (fun s3 y3=>Has [.old w] y3.1 s3.2.1.length y3.2.1 1 Ao s3.2.1/\Has [.old w] y3.2.2.1 s3.2.2.1.length y3.2.2.2.1 1 Ao s3.2.2.1/\Has [.old w] y3.2.2.2.2.1 s3.2.2.2.2.1.length y3.2.2.2.2.2.1 1 Ao s3.2.2.2.2.1/\Has [.old w] y3.2.2.2.2.2.2.1 s3.2.2.2.2.2.length y3.2.2.2.2.2.2.2 1 Ao s3.2.2.2.2.2/\True);exact kk
  .intro s3 y3 hx hG;obtain⟨_,_,_,_,-⟩:=hG;exact au
  .refine pI ?_;intros;rename_i hx
   apply LrG (γ:=OA×Nat×OA×Nat×OA×Nat×OA×Nat) hx [0,2,4,5] (fun s0 y0 f=>(6,.int .i64 s0.2.2.2.2.2.2)::f) [2,999] (fun s0 y0 l=>.m y2.2.2.2.2.2.1 62 [.bool s0.2.2.2.1,.slice y0.2.2.2.2.1 s0.2.2.2.2.1.length y0.2.2.2.2.2.1,.slice y0.2.2.2.2.2.2.1 s0.2.2.2.2.2.1.length y0.2.2.2.2.2.2.2] :: .m y2.1 62 [.bool s0.1,.slice y0.1 s0.2.1.length y0.2.1,.slice y0.2.2.1 s0.2.2.1.length y0.2.2.2.1]::l) (fun s0 y0=>Has [.old w] y0.1 s0.2.1.length y0.2.1 1 Ao s0.2.1/\Has [.old w] y0.2.2.1 s0.2.2.1.length y0.2.2.2.1 1 Ao s0.2.2.1/\Has [.old w] y0.2.2.2.2.1 s0.2.2.2.2.1.length y0.2.2.2.2.2.1 1 Ao s0.2.2.2.2.1/\Has [.old w] y0.2.2.2.2.2.2.1 s0.2.2.2.2.2.1.length y0.2.2.2.2.2.2.2 1 Ao s0.2.2.2.2.2.1/\True) (_,_,_,_,_,_,_,_);exact kk;exact sF2;exact gG;exact pK2;intro s0 y0 x0 hx _ hG;obtain⟨_,_,_,_,-⟩:=hG;unfold Gn at hx;refine pq ?_;intros;rename_i hx
   refine Cq1 (s:=20) hx rfl ?_ ?_
   .refine pI ?_;intros;rename_i hx
    apply JrG (γ:=OA×Nat×OA×Nat×OA×Nat×OA×Nat) hx [0,2,4,5,6] (fun s1 y1 f=>f) [2,999] (fun s1 y1 l=>.m y2.2.2.2.2.2.1 62 [.bool s1.2.2.2.1,.slice y1.2.2.2.2.1 s1.2.2.2.2.1.length y1.2.2.2.2.2.1,.slice y1.2.2.2.2.2.2.1 s1.2.2.2.2.2.length y1.2.2.2.2.2.2.2] :: .m y2.1 62 [.bool s1.1,.slice y1.1 s1.2.1.length y1.2.1,.slice y1.2.2.1 s1.2.2.1.length y1.2.2.2.1]::l) (fun s1 y1=>Has [.old w] y1.1 s1.2.1.length y1.2.1 1 Ao s1.2.1/\Has [.old w] y1.2.2.1 s1.2.2.1.length y1.2.2.2.1 1 Ao s1.2.2.1/\Has [.old w] y1.2.2.2.2.1 s1.2.2.2.2.1.length y1.2.2.2.2.2.1 1 Ao s1.2.2.2.2.1/\Has [.old w] y1.2.2.2.2.2.2.1 s1.2.2.2.2.2.length y1.2.2.2.2.2.2.2 1 Ao s1.2.2.2.2.2/\True);exact kk
    .intro s1 y1 hx hG;obtain⟨_,_,_,_,-⟩:=hG;exact au
    .exact aI
   .exact aI
 .exact aI⟩
instance:Sd prog 85 [.bool false,.slice none 0 0,.slice none 0 0,.bool false,.slice none 0 0,.slice none 0 0]:=⟨⟨_,zeroValue85,rfl⟩⟩
instance(x0:Bool)(x1:OA)(x2:Nat)(x3:Nat)(x4:OA)(x5:Nat)(x6:Nat)(x7:Bool)(x8:OA)(x9:Nat)(x10:Nat)(x11:OA)(x12:Nat)(x13:Nat):Jg prog 85 [(0,.agg #[.bool x0,.slice x1 x2 x3,.slice x4 x5 x6]),(1,.agg #[.bool x7,.slice x8 x9 x10,.slice x11 x12 x13])] [.bool x0,.slice x1 x2 x3,.slice x4 x5 x6,.bool x7,.slice x8 x9 x10,.slice x11 x12 x13]:=⟨fun w=>kr⟩
instance:AggI prog 85 6:=⟨.mk underlying85 rfl (kr:prog.info? 85=some t85) kr⟩
instance:Dz prog 85 0 0:=⟨.mk underlying85 rfl rfl (kr:prog.info? 62=some t62) (kr:t62.size=3) rfl⟩
instance:Dz prog 85 1 3:=⟨.mk underlying85 rfl rfl (kr:prog.info? 62=some t62) (kr:t62.size=3) rfl⟩
instance:Sd prog 161 [.bool false,.slice none 0 0,.slice none 0 0,.bool false,.slice none 0 0,.slice none 0 0,.bool false,.slice none 0 0,.slice none 0 0]:=⟨⟨_,zeroValue161,rfl⟩⟩
instance(x0:Bool)(x1:OA)(x2:Nat)(x3:Nat)(x4:OA)(x5:Nat)(x6:Nat)(x7:Bool)(x8:OA)(x9:Nat)(x10:Nat)(x11:OA)(x12:Nat)(x13:Nat)(x14:Bool)(x15:OA)(x16:Nat)(x17:Nat)(x18:OA)(x19:Nat)(x20:Nat):Jg prog 161 [(0,.agg #[.bool x0,.slice x1 x2 x3,.slice x4 x5 x6]),(1,.agg #[.bool x7,.slice x8 x9 x10,.slice x11 x12 x13]),(2,.agg #[.bool x14,.slice x15 x16 x17,.slice x18 x19 x20])] [.bool x0,.slice x1 x2 x3,.slice x4 x5 x6,.bool x7,.slice x8 x9 x10,.slice x11 x12 x13,.bool x14,.slice x15 x16 x17,.slice x18 x19 x20]:=⟨fun w=>kr⟩
instance:AggI prog 161 9:=⟨.arr underlying161 (kr:prog.info? 161=some t161) kr⟩
instance:ArrI prog 161 3 3:=⟨.mk underlying161 (kr:prog.info? 62=some t62) kr⟩
instance(x0:Bool)(x1:OA)(x2:Nat)(x3:Nat)(x4:OA)(x5:Nat)(x6:Nat)(x7:Bool)(x8:OA)(x9:Nat)(x10:Nat)(x11:OA)(x12:Nat)(x13:Nat):Kg prog 137 2 [(0,.agg #[.bool x0,.slice x1 x2 x3,.slice x4 x5 x6]),(1,.agg #[.bool x7,.slice x8 x9 x10,.slice x11 x12 x13])] 62 [.bool x0,.slice x1 x2 x3,.slice x4 x5 x6,.bool x7,.slice x8 x9 x10,.slice x11 x12 x13]:=⟨fun w=>kr⟩
def Lb(p0:Aw):Option Int :=
 bnd (Bt p0.V p0.Lines) fun r2=>
 jn (fun (s4:Bool)=>
 if s4=true then (some 64)
 else (some 0))
 (fun j4=>if r2.2=0 then (bnd (Ka p0 r2.1) fun r0=>
 j4 (!(r0)))
 else (j4 true))
def Dy(p1:Ah)(p0:Aw)(p2:Ad):Int->Option (Sum Int (Sum Unit Bool)):=fun s0=>
 if s0<3 then (bnd (idx [p1.a0,p1.a1,p1.a2] s0) fun x0=>
 bnd (idx p0.V x0) fun x1=>
 bnd (idx [p1.a0,p1.a1,p1.a2] (Int.tmod (w64 (s0+1)) 3)) fun x2=>
 bnd (idx p0.V x2) fun x3=>
 bnd (Am (⟨x1.X,x1.Y,(⟨x1.Z.Lo,x1.Z.Hi⟩:Af)⟩:Aa)) fun r0=>
 bnd (Am (⟨x3.X,x3.Y,(⟨x3.Z.Lo,x3.Z.Hi⟩:Af)⟩:Aa)) fun r1=>
 bnd (Cm r0 r1 p2) fun r2=>
 if r2<0 then (some (.inr (.inr false)))
 else (some (.inl (w64 (s0+1)))))
 else (some (.inr (.inl ())))
def Rn(p0:Aw)(p1:Ah)(p2:Ad):Option Bool :=
 jn (fun (s2:Unit)=>
 some true)
 (fun j2=>bnd (lfix (Dy p1 p0 p2) 0) fun t0=>
 (match t0 with
 |(.inl z0)=>j2 z0
 |(.inr z0)=>some z0
 ))
def Lz(p0:Aw)(p1:Ad):Int->Option (Sum Int (Sum Unit (Int×Int))):=fun s0=>
 if s0<(p0.T.length:Int) then (bnd (idx p0.T s0) fun x0=>
 bnd (Rn p0 x0 p1) fun r0=>
 if r0=true then (some (.inr (.inr (s0,0))))
 else (some (.inl (w64 (s0+1)))))
 else (some (.inr (.inl ())))
def Dg(p0:Aw)(p1:Ad):Option (Int×Int):=
 bnd (Lb p0) fun r3=>
 if r3=0 then (bnd (Fn p1) fun r9=>
 if r9=true then (jn (fun (s8:Unit)=>
 some (0,65))
 (fun j8=>bnd (lfix (Lz p0 p1) 0) fun t0=>
 (match t0 with
 |(.inl z0)=>j8 z0
 |(.inr z0)=>some z0
 )))
 else (some (0,11)))
 else (some (0,64))
def Fg(p0:Aa)(p1:Bool):Option Int :=
 if p1=true then (some p0.Z.Hi)
 else (some p0.Z.Lo)
def Jc(p0:Ad):Option Co :=
 bnd (Cl p0.X) fun r3=>
 bnd (Cl p0.Y) fun r0=>
 some (⟨r3,r0⟩:Co)
def Is(p0:Co)(p1:Co)(p2:Co):Option Aj :=
 bnd (Di p1.X p0.X) fun r5=>
 bnd (Di p2.Y p0.Y) fun r0=>
 bnd (Dx r5 r0) fun r1=>
 bnd (Di p1.Y p0.Y) fun r2=>
 bnd (Di p2.X p0.X) fun r3=>
 bnd (Dx r2 r3) fun r4=>
 bnd (Di r1 r4) fun r6=>
 some r6
structure Qz where
 a0:Aj
 a1:Aj
 a2:Aj
def Mb(p0:Aw)(p1:Ah)(p2:Co):Option Qz :=
 bnd (idx p0.V p1.a0) fun x5=>
 bnd (idx p0.V p1.a1) fun x0=>
 bnd (idx p0.V p1.a2) fun x1=>
 bnd (Am (⟨x5.X,x5.Y,(⟨x5.Z.Lo,x5.Z.Hi⟩:Af)⟩:Aa)) fun r0=>
 bnd (Jc r0) fun r1=>
 bnd (Am (⟨x0.X,x0.Y,(⟨x0.Z.Lo,x0.Z.Hi⟩:Af)⟩:Aa)) fun r2=>
 bnd (Jc r2) fun r3=>
 bnd (Am (⟨x1.X,x1.Y,(⟨x1.Z.Lo,x1.Z.Hi⟩:Af)⟩:Aa)) fun r4=>
 bnd (Jc r4) fun r5=>
 bnd (Is p2 r3 r5) fun r6=>
 bnd (Is r1 p2 r5) fun r7=>
 bnd (Is r1 r3 p2) fun r8=>
 some (⟨r6,r7,r8⟩:Qz)
def It(p0:Aw)(p1:Ah)(p2:Co)(p3:Bool):Option Aj :=
 bnd (Mb p0 p1 p2) fun r5=>
 bnd (Cl 0) fun r0=>
 bnd (Cl 0) fun r1=>
 bnd (idx p0.V p1.a0) fun x0=>
 bnd (Fg (⟨x0.X,x0.Y,(⟨x0.Z.Lo,x0.Z.Hi⟩:Af)⟩:Aa) p3) fun r2=>
 bnd (Cl r2) fun r3=>
 bnd (Dx r5.a0 r3) fun r4=>
 bnd (Cw r0 r4) fun r6=>
 bnd (Cw r1 r5.a0) fun r7=>
 bnd (idx p0.V p1.a1) fun x1=>
 bnd (Fg (⟨x1.X,x1.Y,(⟨x1.Z.Lo,x1.Z.Hi⟩:Af)⟩:Aa) p3) fun r8=>
 bnd (Cl r8) fun r9=>
 bnd (Dx r5.a1 r9) fun r10=>
 bnd (Cw r6 r10) fun r11=>
 bnd (Cw r7 r5.a1) fun r12=>
 bnd (idx p0.V p1.a2) fun x2=>
 bnd (Fg (⟨x2.X,x2.Y,(⟨x2.Z.Lo,x2.Z.Hi⟩:Af)⟩:Aa) p3) fun r13=>
 bnd (Cl r13) fun r14=>
 bnd (Dx r5.a2 r14) fun r15=>
 bnd (Cw r11 r15) fun r16=>
 bnd (Cw r12 r5.a2) fun r17=>
 bnd (Nx r16 r17) fun r18=>
 some r18
def Fk(p0:Aw)(p1:Ad):Option (Aj×Aj×Int):=
 bnd (Dg p0 p1) fun r5=>
 if r5.2=0 then (bnd (idx p0.T r5.1) fun x0=>
 bnd (idx p0.T r5.1) fun x1=>
 bnd (Jc p1) fun r0=>
 bnd (It p0 x0 r0 false) fun r1=>
 bnd (Jc p1) fun r2=>
 bnd (It p0 x1 r2 true) fun r3=>
 some (r1,r3,0))
 else (some ((⟨(⟨false,([]:LI)⟩:Ae),([]:LI)⟩:Aj),(⟨(⟨false,([]:LI)⟩:Ae),([]:LI)⟩:Aj),r5.2))
def Hg(p0:Aw)(p1:Ad):Option (Af×Int):=
 bnd (Fk p0 p1) fun r4=>
 if r4.2.2=0 then (bnd (Mz ([r4.1,r4.2.1])) fun r0=>
 some ((⟨r0.1.Lo,r0.1.Hi⟩:Af),r0.2))
 else (some ((⟨0,0⟩:Af),r4.2.2))
instance(p0:Aw):Con (Lb p0) prog 53 (fun K vs=>∃E0 G0 E1 G1 E2 G2,vs=[.agg #[.slice E0 p0.V.length G0,.slice E1 p0.T.length G1,.slice E2 p0.Lines.length G2]]/\Has K E0 p0.V.length G0 4 Ai p0.V/\Has K E1 p0.T.length G1 3 Bg p0.T/\Has K E2 p0.Lines.length G2 2 Ar p0.Lines/\True) (fun _ r v Ln=>v=.int .i64 r/\Ln=[]/\True):=⟨by
 rintro K _ r ⟨E0,G0,E1,G1,E2,G2,rfl,ha0,ha1,ha2,-⟩ hx w hK;replace ha0:=ha0.lo hK;replace ha1:=ha1.lo hK;replace ha2:=ha2.lo hK;unfold Lb at hx;refine CtS ntmps53 results53 ?_;exact au⟩
instance(p0:Aw)(p1:Ah)(p2:Ad):Con (Rn p0 p1 p2) prog 63 (fun K vs=>∃E0 G0 E1 G1 E2 G2,vs=[.agg #[.slice E0 p0.V.length G0,.slice E1 p0.T.length G1,.slice E2 p0.Lines.length G2],.agg #[.int .i64 p1.a0,.int .i64 p1.a1,.int .i64 p1.a2],.agg #[.int .i64 p2.X,.int .i64 p2.Y]]/\Has K E0 p0.V.length G0 4 Ai p0.V/\Has K E1 p0.T.length G1 3 Bg p0.T/\Has K E2 p0.Lines.length G2 2 Ar p0.Lines/\True) (fun _ r v Ln=>v=.bool r/\Ln=[]/\True):=⟨by
 rintro K _ r ⟨E0,G0,E1,G1,E2,G2,rfl,ha0,ha1,ha2,-⟩ hx w hK;replace ha0:=ha0.lo hK;replace ha1:=ha1.lo hK;replace ha2:=ha2.lo hK;unfold Rn at hx;have:=dl 4 [0,1,0,0,1,0,1,2,0,1,0,0,0,0,1,0,1,2,1,2,0] [0,1,2,3,4,5,6,8,9,10,11,12,13,14,15,16,18,7,17,19,20];refine CtS ntmps63 results63 ?_;refine pq ?_;intros;rename_i hx
 refine pA ?_;intros;rename_i hx
 apply Jr (γ:=Unit) hx [] (fun s2 y2 f=>f) [999] (fun s2 y2 l=>l);exact kk
 .exact aI
 .refine pI ?_;intros;rename_i hx
  apply Lr (γ:=Unit) hx [3,4,5] (fun s0 y0 f=>(8,.int .i64 s0)::f) [0,1,2,999] (fun s0 y0 l=>l) ();exact kk;exact sk;intro s0 y0 x0 hx _;unfold Dy at hx;exact au⟩
instance(p0:Aw)(p1:Ad):Con (Dg p0 p1) prog 19 (fun K vs=>∃E0 G0 E1 G1 E2 G2,vs=[.agg #[.slice E0 p0.V.length G0,.slice E1 p0.T.length G1,.slice E2 p0.Lines.length G2],.agg #[.int .i64 p1.X,.int .i64 p1.Y]]/\Has K E0 p0.V.length G0 4 Ai p0.V/\Has K E1 p0.T.length G1 3 Bg p0.T/\Has K E2 p0.Lines.length G2 2 Ar p0.Lines/\True) (fun _ r v Ln=>v=.tuple #[.int .i64 r.1,.int .i64 r.2]/\Ln=[]/\True):=⟨by
 rintro K _ r ⟨E0,G0,E1,G1,E2,G2,rfl,ha0,ha1,ha2,-⟩ hx w hK;replace ha0:=ha0.lo hK;replace ha1:=ha1.lo hK;replace ha2:=ha2.lo hK;unfold Dg at hx;have:=dl 8 [1,0,1,0,0,1,1,2] [0,1,2,3,4,5,6,7];refine CtS ntmps19 results19 ?_;refine pq ?_;intros;rename_i hx
 refine Cq2 (s:=9) hx rfl ?_ ?_
 .exact aI
 .refine pI ?_;intros;rename_i hx
  refine Cq4 (s:=12) hx rfl ?_ ?_
  .exact aI
  .refine pI ?_;intros;rename_i hx
   apply Jr (γ:=Unit) hx [] (fun s8 y8 f=>f) [999] (fun s8 y8 l=>l);exact kk
   .exact aI
   .refine pI ?_;intros;rename_i hx
    apply Lr (γ:=Unit) hx [2,3,15] (fun s36 y36 f=>(16,.int .i64 s36)::f) [0,1,999] (fun s36 y36 l=>l) ();exact kk;exact sk;intro s36 y36 x36 hx _;unfold Lz at hx;exact au⟩
instance(p0:Aa)(p1:Bool):Con (Fg p0 p1) prog 162 (fun _ vs=>vs=[.agg #[.int .i64 p0.X,.int .i64 p0.Y,.int .i64 p0.Z.Lo,.int .i64 p0.Z.Hi],.bool p1]) (fun _ r v Ln=>v=.int .i64 r/\Ln=[]/\True):=⟨by
 rintro _ _ r rfl hx w hK;unfold Fg at hx;refine CtS ntmps162 results162 ?_;exact au⟩
instance(p0:Ad):Con (Jc p0) prog 69 (fun _ vs=>vs=[.agg #[.int .i64 p0.X,.int .i64 p0.Y]]) (fun _ r v Ln=>∃A0 c0 A2 c2 A4 c4 A6 c6,v=.agg #[.bool r.X.N.Neg,.slice A0 r.X.N.L.length c0,.slice A2 r.X.D.length c2,.bool r.Y.N.Neg,.slice A4 r.Y.N.L.length c4,.slice A6 r.Y.D.length c6]/\Ln=[.r A0 r.X.N.L.length c0 3 1 (r.X.N.L.flatMap Ao),.r A2 r.X.D.length c2 3 1 (r.X.D.flatMap Ao),.r A4 r.Y.N.L.length c4 3 1 (r.Y.N.L.flatMap Ao),.r A6 r.Y.D.length c6 3 1 (r.Y.D.flatMap Ao)]/\True):=⟨by
 rintro _ _ r rfl hx w hK;unfold Jc at hx;have:=dl 1 [0,1,2,0,1,2,0,3] [0,1,3,4,2,5,6,7];refine CtS ntmps69 results69 ?_;exact au⟩
instance(p0:Co)(p1:Co)(p2:Co):Con (Is p0 p1 p2) prog 184 (fun K vs=>∃E0 G0 E1 G1 E2 G2 E3 G3 E4 G4 E5 G5 E6 G6 E7 G7 E8 G8 E9 G9 A0_10 c0_10 A0_11 c0_11,vs=[.agg #[.bool p0.X.N.Neg,.slice E0 p0.X.N.L.length G0,.slice E1 p0.X.D.length G1,.bool p0.Y.N.Neg,.slice E2 p0.Y.N.L.length G2,.slice E3 p0.Y.D.length G3],.agg #[.bool p1.X.N.Neg,.slice E4 p1.X.N.L.length G4,.slice E5 p1.X.D.length G5,.bool p1.Y.N.Neg,.slice E6 p1.Y.N.L.length G6,.slice E7 p1.Y.D.length G7],.agg #[.bool p2.X.N.Neg,.slice E8 p2.X.N.L.length G8,.slice E9 p2.X.D.length G9,.bool p2.Y.N.Neg,.slice A0_10 p2.Y.N.L.length c0_10,.slice A0_11 p2.Y.D.length c0_11]]/\Has K E0 p0.X.N.L.length G0 1 Ao p0.X.N.L/\Has K E1 p0.X.D.length G1 1 Ao p0.X.D/\Has K E2 p0.Y.N.L.length G2 1 Ao p0.Y.N.L/\Has K E3 p0.Y.D.length G3 1 Ao p0.Y.D/\Has K E4 p1.X.N.L.length G4 1 Ao p1.X.N.L/\Has K E5 p1.X.D.length G5 1 Ao p1.X.D/\Has K E6 p1.Y.N.L.length G6 1 Ao p1.Y.N.L/\Has K E7 p1.Y.D.length G7 1 Ao p1.Y.D/\Has K E8 p2.X.N.L.length G8 1 Ao p2.X.N.L/\Has K E9 p2.X.D.length G9 1 Ao p2.X.D/\Has K A0_10 p2.Y.N.L.length c0_10 1 Ao p2.Y.N.L/\Has K A0_11 p2.Y.D.length c0_11 1 Ao p2.Y.D/\True) (fun _ r v Ln=>∃A0 c0 A2 c2,v=.agg #[.bool r.N.Neg,.slice A0 r.N.L.length c0,.slice A2 r.D.length c2]/\Ln=[.r A0 r.N.L.length c0 3 1 (r.N.L.flatMap Ao),.r A2 r.D.length c2 3 1 (r.D.flatMap Ao)]/\True):=⟨by
 rintro K _ r ⟨E0,G0,E1,G1,E2,G2,E3,G3,E4,G4,E5,G5,E6,G6,E7,G7,E8,G8,E9,G9,A0_10,c0_10,A0_11,c0_11,rfl,ha0,ha1,ha2,ha3,ha4,ha5,ha6,ha7,ha8,ha9,ha10,ha11,-⟩ hx w hK;replace ha0:=ha0.lo hK;replace ha1:=ha1.lo hK;replace ha2:=ha2.lo hK;replace ha3:=ha3.lo hK;replace ha4:=ha4.lo hK;replace ha5:=ha5.lo hK;replace ha6:=ha6.lo hK;replace ha7:=ha7.lo hK;replace ha8:=ha8.lo hK;replace ha9:=ha9.lo hK;replace ha10:=ha10.lo hK;replace ha11:=ha11.lo hK;unfold Is at hx;have:=dl 1 [0,1,0,1,2,0,1,0,1,2,2,0,1,0,1,2,0,1,0,1,2,2,2,3] [0,1,2,3,5,6,7,8,11,12,13,14,16,17,18,19,4,9,10,15,20,21,22,23];refine CtS ntmps184 results184 ?_;exact au⟩
instance(p0:Aw)(p1:Ah)(p2:Co):Con (Mb p0 p1 p2) prog 91 (fun K vs=>∃E0 G0 E1 G1 E2 G2 E3 G3 E4 G4 E5 G5 E6 G6,vs=[.agg #[.slice E0 p0.V.length G0,.slice E1 p0.T.length G1,.slice E2 p0.Lines.length G2],.agg #[.int .i64 p1.a0,.int .i64 p1.a1,.int .i64 p1.a2],.agg #[.bool p2.X.N.Neg,.slice E3 p2.X.N.L.length G3,.slice E4 p2.X.D.length G4,.bool p2.Y.N.Neg,.slice E5 p2.Y.N.L.length G5,.slice E6 p2.Y.D.length G6]]/\Has K E0 p0.V.length G0 4 Ai p0.V/\Has K E1 p0.T.length G1 3 Bg p0.T/\Has K E2 p0.Lines.length G2 2 Ar p0.Lines/\Has K E3 p2.X.N.L.length G3 1 Ao p2.X.N.L/\Has K E4 p2.X.D.length G4 1 Ao p2.X.D/\Has K E5 p2.Y.N.L.length G5 1 Ao p2.Y.N.L/\Has K E6 p2.Y.D.length G6 1 Ao p2.Y.D/\True) (fun _ r v Ln=>∃A0 c0 A2 c2 A4 c4 A6 c6 A8 c8 A10 c10,v=.agg #[.bool r.a0.N.Neg,.slice A0 r.a0.N.L.length c0,.slice A2 r.a0.D.length c2,.bool r.a1.N.Neg,.slice A4 r.a1.N.L.length c4,.slice A6 r.a1.D.length c6,.bool r.a2.N.Neg,.slice A8 r.a2.N.L.length c8,.slice A10 r.a2.D.length c10]/\Ln=[.r A0 r.a0.N.L.length c0 3 1 (r.a0.N.L.flatMap Ao),.r A2 r.a0.D.length c2 3 1 (r.a0.D.flatMap Ao),.r A4 r.a1.N.L.length c4 3 1 (r.a1.N.L.flatMap Ao),.r A6 r.a1.D.length c6 3 1 (r.a1.D.flatMap Ao),.r A8 r.a2.N.L.length c8 3 1 (r.a2.N.L.flatMap Ao),.r A10 r.a2.D.length c10 3 1 (r.a2.D.flatMap Ao)]/\True):=⟨by
 rintro K _ r ⟨E0,G0,E1,G1,E2,G2,E3,G3,E4,G4,E5,G5,E6,G6,rfl,ha0,ha1,ha2,ha3,ha4,ha5,ha6,-⟩ hx w hK;replace ha0:=ha0.lo hK;replace ha1:=ha1.lo hK;replace ha2:=ha2.lo hK;replace ha3:=ha3.lo hK;replace ha4:=ha4.lo hK;replace ha5:=ha5.lo hK;replace ha6:=ha6.lo hK;unfold Mb at hx;have:=dl 1 [0,1,0,1,0,1,2,2,0,1,0,1,0,1,2,2,0,1,0,1,0,1,2,2,4,4,4,3,3,3] [0,1,2,3,4,5,8,9,10,11,12,13,16,17,18,19,20,21,6,7,14,15,22,23,24,25,26,27,28,29] [24,25,26];have:=dl 2 [1,1,1,2,1,1,1,2,1,1,1,2,0,3] [0,1,2,4,5,6,8,9,10,3,7,11,12,13];refine CtS ntmps91 results91 ?_;exact au⟩
instance(p0:Aw)(p1:Ah)(p2:Co)(p3:Bool):Con (It p0 p1 p2 p3) prog 68 (fun K vs=>∃E0 G0 E1 G1 E2 G2 E3 G3 E4 G4 E5 G5 E6 G6,vs=[.agg #[.slice E0 p0.V.length G0,.slice E1 p0.T.length G1,.slice E2 p0.Lines.length G2],.agg #[.int .i64 p1.a0,.int .i64 p1.a1,.int .i64 p1.a2],.agg #[.bool p2.X.N.Neg,.slice E3 p2.X.N.L.length G3,.slice E4 p2.X.D.length G4,.bool p2.Y.N.Neg,.slice E5 p2.Y.N.L.length G5,.slice E6 p2.Y.D.length G6],.bool p3]/\Has K E0 p0.V.length G0 4 Ai p0.V/\Has K E1 p0.T.length G1 3 Bg p0.T/\Has K E2 p0.Lines.length G2 2 Ar p0.Lines/\Has K E3 p2.X.N.L.length G3 1 Ao p2.X.N.L/\Has K E4 p2.X.D.length G4 1 Ao p2.X.D/\Has K E5 p2.Y.N.L.length G5 1 Ao p2.Y.N.L/\Has K E6 p2.Y.D.length G6 1 Ao p2.Y.D/\True) (fun _ r v Ln=>∃A0 c0 A2 c2,v=.agg #[.bool r.N.Neg,.slice A0 r.N.L.length c0,.slice A2 r.D.length c2]/\Ln=[.r A0 r.N.L.length c0 3 1 (r.N.L.flatMap Ao),.r A2 r.D.length c2 3 1 (r.D.flatMap Ao)]/\True):=⟨by
 rintro K _ r ⟨E0,G0,E1,G1,E2,G2,E3,G3,E4,G4,E5,G5,E6,G6,rfl,ha0,ha1,ha2,ha3,ha4,ha5,ha6,-⟩ hx w hK;replace ha0:=ha0.lo hK;replace ha1:=ha1.lo hK;replace ha2:=ha2.lo hK;replace ha3:=ha3.lo hK;replace ha4:=ha4.lo hK;replace ha5:=ha5.lo hK;replace ha6:=ha6.lo hK;unfold It at hx;have:=dl 6 [1,0,0,1,0,1,0,0,1,0,1,0,2,2,2,2,3] [0,1,2,3,4,5,6,7,8,9,10,11,12,13,14,15,16];have:=dl 7 [1,0,0,1,2,3] [0,1,2,3,4,5];refine CtS ntmps68 results68 ?_;exact au⟩
instance(p0:Aw)(p1:Ad):Con (Fk p0 p1) prog 23 (fun K vs=>∃E0 G0 E1 G1 E2 G2,vs=[.agg #[.slice E0 p0.V.length G0,.slice E1 p0.T.length G1,.slice E2 p0.Lines.length G2],.agg #[.int .i64 p1.X,.int .i64 p1.Y]]/\Has K E0 p0.V.length G0 4 Ai p0.V/\Has K E1 p0.T.length G1 3 Bg p0.T/\Has K E2 p0.Lines.length G2 2 Ar p0.Lines/\True) (fun _ r v Ln=>∃A0 c0 A2 c2 A4 c4 A6 c6,v=.tuple #[.agg #[.bool r.1.N.Neg,.slice A0 r.1.N.L.length c0,.slice A2 r.1.D.length c2],.agg #[.bool r.2.1.N.Neg,.slice A4 r.2.1.N.L.length c4,.slice A6 r.2.1.D.length c6],.int .i64 r.2.2]/\Ln=[.r A0 r.1.N.L.length c0 3 1 (r.1.N.L.flatMap Ao),.r A2 r.1.D.length c2 3 1 (r.1.D.flatMap Ao),.r A4 r.2.1.N.L.length c4 3 1 (r.2.1.N.L.flatMap Ao),.r A6 r.2.1.D.length c6 3 1 (r.2.1.D.flatMap Ao)]/\True):=⟨by
 rintro K _ r ⟨E0,G0,E1,G1,E2,G2,rfl,ha0,ha1,ha2,-⟩ hx w hK;replace ha0:=ha0.lo hK;replace ha1:=ha1.lo hK;replace ha2:=ha2.lo hK;unfold Fk at hx;have:=dl 4 [1,0,1,0,0,1,1,2,2,1,0,1,0,0,1,1,2,2,3,3,2] [0,1,2,3,4,5,6,9,10,11,12,13,14,15,7,8,16,17,18,19,20];refine CtS ntmps23 results23 ?_;refine pq ?_;intros;rename_i hx
 refine Cq2 (s:=15) hx rfl ?_ ?_
 .refine pI ?_;intros;rename_i hx
  (with_reducible apply Bc6 5 [1,1,0,3,3,2] [[],[],[],[0],[0,1,3],[0,1,2,3,4]] [1] (.q 0 (.q 1 (.q 2 (.e 3 (.e 4 (.e 5 (.done) (.stop)) (.stop)) (.stop))))));exact rfl;exact aT;exact mixed;kernel_rfl;kernel_rfl;refine P_q rfl rfl (by exact evB) rfl ?_;refine P_r rfl rfl (by exact evB) rfl ?_;refine P_p rfl rfl (by exact evB) rfl ?_;refine P_hR rfl rfl (Acj rfl rfl rfl rfl sA sP rfl rfl ?_) ?_;rotate_left;exact Oh;refine Bar (fun w hw=>SubE.ok sU w hw) ?_;refine P_hL rfl rfl rfl (Acj rfl rfl rfl rfl sA sP rfl rfl ?_) ?_;rotate_left;exact Oh;refine P_x rfl (Zd (Sk rfl) rfl ?_) ?_;rotate_left;exact Oh;refine Am9 ?_
  exact au
 .exact aI⟩
instance(p0:Aw)(p1:Ad):Con (Hg p0 p1) prog 24 (fun K vs=>∃E0 G0 E1 G1 E2 G2,vs=[.agg #[.slice E0 p0.V.length G0,.slice E1 p0.T.length G1,.slice E2 p0.Lines.length G2],.agg #[.int .i64 p1.X,.int .i64 p1.Y]]/\Has K E0 p0.V.length G0 4 Ai p0.V/\Has K E1 p0.T.length G1 3 Bg p0.T/\Has K E2 p0.Lines.length G2 2 Ar p0.Lines/\True) (fun _ r v Ln=>v=.tuple #[.agg #[.int .i64 r.1.Lo,.int .i64 r.1.Hi],.int .i64 r.2]/\Ln=[]/\True):=⟨by
 rintro K _ r ⟨E0,G0,E1,G1,E2,G2,rfl,ha0,ha1,ha2,-⟩ hx w hK;replace ha0:=ha0.lo hK;replace ha1:=ha1.lo hK;replace ha2:=ha2.lo hK;unfold Hg at hx;refine CtS ntmps24 results24 ?_;exact au⟩
instance(x0:Int)(x1:Int):Jg prog 30 [(1,.int .i64 x0),(2,.int .i64 x1)] [.int .i64 0,.int .i64 x0,.int .i64 x1,.int .i64 0,.int .i64 0,.int .i64 0,.int .i64 0,.int .i64 0,.int .i64 0]:=⟨fun w=>kr⟩
instance(x0:Int)(x1:Int)(x2:Int)(x3:Int)(x4:Int)(x5:Int)(x6:Int)(x7:Int)(x8:Int)(x9:Int)(x10:Int)(x11:Int)(x12:Int)(x13:Int)(x14:Int)(x15:Int)(x16:Int)(x17:Int)(x18:Int)(x19:Int)(x20:Int)(x21:Int)(x22:Int)(x23:Int)(x24:Int)(x25:Int)(x26:Int):Kg prog 112 3 [(0,.agg #[.int .i64 x0,.int .i64 x1,.int .i64 x2,.int .i64 x3,.int .i64 x4,.int .i64 x5,.int .i64 x6,.int .i64 x7,.int .i64 x8]),(1,.agg #[.int .i64 x9,.int .i64 x10,.int .i64 x11,.int .i64 x12,.int .i64 x13,.int .i64 x14,.int .i64 x15,.int .i64 x16,.int .i64 x17]),(2,.agg #[.int .i64 x18,.int .i64 x19,.int .i64 x20,.int .i64 x21,.int .i64 x22,.int .i64 x23,.int .i64 x24,.int .i64 x25,.int .i64 x26])] 30 [.int .i64 x0,.int .i64 x1,.int .i64 x2,.int .i64 x3,.int .i64 x4,.int .i64 x5,.int .i64 x6,.int .i64 x7,.int .i64 x8,.int .i64 x9,.int .i64 x10,.int .i64 x11,.int .i64 x12,.int .i64 x13,.int .i64 x14,.int .i64 x15,.int .i64 x16,.int .i64 x17,.int .i64 x18,.int .i64 x19,.int .i64 x20,.int .i64 x21,.int .i64 x22,.int .i64 x23,.int .i64 x24,.int .i64 x25,.int .i64 x26]:=⟨fun w=>kr⟩
instance(x0:Int)(x1:Int)(x2:Int):Jg prog 32 [(0,.int .i64 x0),(3,.int .i64 x1),(9,.int .i64 x2)] [.int .i64 x0,.int .i64 0,.int .i64 0,.int .i64 x1,.int .i64 0,.int .i64 0,.int .i64 0,.int .i64 0,.int .i64 0,.int .i64 x2]:=⟨fun w=>kr⟩
theorem Bed(a0:Int)(a1:Int)(b0:Int)(b1:Int):∀w,(Op.equalIn 10000 28 (.agg #[.int .i64 a0,.int .i64 a1]) (.agg #[.int .i64 b0,.int .i64 b1])).run prog w=.ok (((a0==b0)&&((a1==b1)&&true))) w :=
 EqF.struct underlying28 kr (.cons rfl (fun w=>kr) (fun w=>kr) (fun w=>run_equalIn_int w 9998 3 .i64 .i64 _ _ underlying3) (.cons rfl (fun w=>kr) (fun w=>kr) (fun w=>run_equalIn_int w 9998 3 .i64 .i64 _ _ underlying3) EqF.nil))
instance(a0:Int)(a1:Int)(b0:Int)(b1:Int):EqSI prog 28 [.int .i64 a0,.int .i64 a1] [.int .i64 b0,.int .i64 b1] (((a0==b0)&&((a1==b1)&&true))):=⟨Bed _ _ _ _,kr⟩
end
end Go.Proofs.YtlejkgngmjchdaaGreat
