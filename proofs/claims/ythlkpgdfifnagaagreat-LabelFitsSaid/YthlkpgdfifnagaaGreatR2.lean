import Derived.Test.YthlkpgdfifnagaaGreatR1
set_option maxRecDepth 100000
set_option maxHeartbeats 1000000
namespace Go.Proofs.YthlkpgdfifnagaaGreat
open Go Go.RowKit Tryz
noncomputable section
theorem Aiq:Mo prog 117 0 0:=.mk underlying117 rfl rfl (show prog.info? 4=some Tryz.t4 from by kernel_rfl) (show Tryz.t4.size=1 from by kernel_rfl) rfl
instance:Cm prog 117 0 0:=⟨Aiq⟩
theorem Wj:Mo prog 117 1 1:=.mk underlying117 rfl rfl (show prog.info? 42=some t42 from by kernel_rfl) (show t42.size=1 from by kernel_rfl) rfl
instance:Cm prog 117 1 1:=⟨Wj⟩
instance:Le prog 117 [] [.bool false,.slice none 0 0]:=⟨fun w=>kr⟩
theorem Alx:Rj prog 173 [.bool false,.slice none 0 0,.slice none 0 0]:=⟨_,zeroValue173,rfl⟩
instance:Te prog 173 [.bool false,.slice none 0 0,.slice none 0 0]:=⟨Alx⟩
theorem Xh(x0:Bool)(x1:Option Addr)(x2:Nat)(x3:Nat)(x4:Option Addr)(x5:Nat)(x6:Nat):Wv prog 173 [(0,.agg #[.bool x0,.slice x1 x2 x3]),(1,.slice x4 x5 x6)] [.bool x0,.slice x1 x2 x3,.slice x4 x5 x6]:=fun w=>kr
instance(x0:Bool)(x1:Option Addr)(x2:Nat)(x3:Nat)(x4:Option Addr)(x5:Nat)(x6:Nat):Le prog 173 [(0,.agg #[.bool x0,.slice x1 x2 x3]),(1,.slice x4 x5 x6)] [.bool x0,.slice x1 x2 x3,.slice x4 x5 x6]:=⟨Xh _ _ _ _ _ _ _⟩
theorem Aa8:Rw prog 173 3:=.mk underlying173 rfl (show prog.info? 173=some t173 from by kernel_rfl) kr
instance:AggI prog 173 3:=⟨Aa8⟩
instance:Cm prog 173 0 0:=⟨.mk underlying173 rfl rfl (show prog.info? 117=some t117 from by kernel_rfl) (show t117.size=2 from by kernel_rfl) rfl⟩
instance:Cm prog 173 1 2:=⟨.mk underlying173 rfl rfl (show prog.info? 42=some t42 from by kernel_rfl) (show t42.size=1 from by kernel_rfl) rfl⟩
instance(x0:Bool)(x1:Option Addr)(x2:Nat)(x3:Nat)(x4:Option Addr)(x5:Nat)(x6:Nat):Ari prog 173 [.bool x0,.slice x1 x2 x3,.slice x4 x5 x6] 0 (.agg #[.bool x0,.slice x1 x2 x3]):=⟨fun w=>kr⟩
instance:Nb prog 177 173 3:=⟨.mk underlying177 (show prog.info? 173=some t173 from by kernel_rfl) kr⟩
def Ii(p0:Af)(p1:Af):Option Af :=
 if (p0.Neg == p1.Neg)=true then (bnd (Hc p0.L p1.L) fun r6=>
 some (⟨p0.Neg,r6⟩:Af))
 else (bnd (Ec p0.L p1.L) fun r0=>
 if r0=0 then (some (⟨false,([]:List Int)⟩:Af))
 else (if 0<r0 then (bnd (Eh p0.L p1.L) fun r1=>
 some (⟨p0.Neg,r1⟩:Af))
 else (bnd (Eh p1.L p0.L) fun r2=>
 some (⟨p1.Neg,r2⟩:Af))))
def Eg(p0:Af):Option Af :=
 jn (fun (s2:Bool)=>
 some (⟨s2,p0.L⟩:Af))
 (fun j2=>if p0.Neg=true then (j2 false)
 else (j2 (decide (0<(p0.L.length:Int)))))
def Ba(p0:Af)(p1:Af):Option Af :=
 bnd (Cq p0.L p1.L) fun r4=>
 jn (fun (s3:Bool)=>
 some (⟨s3,r4⟩:Af))
 (fun j3=>if (p0.Neg == p1.Neg)=true then (j3 false)
 else (j3 (decide (0<(r4.length:Int)))))
def Fb(p0:Af):Option Int :=
 if (p0.L.length:Int)=0 then (some 0)
 else (if p0.Neg=true then (some (-1))
 else (some 1))
def Dm(p0:Af)(p1:Af):Option Int :=
 bnd (Eg p1) fun r3=>
 bnd (Ii p0 r3) fun r8=>
 bnd (Fb r8) fun r0=>
 some r0
def Eq(p0:Af):(Int × Int)->Option (Sum (Int × Int) Int):=fun s0=>
 if 0<=s0.2 then (bnd (idx p0.L s0.2) fun x0=>
 some (.inl (w64 ((w64 (s0.1*65536))+x0),w64 (s0.2-1))))
 else (some (.inr s0.1))
def Jt(p0:Af):Option (Int × Bool):=
 jn (fun (s3:Bool)=>
 if s3=true then (some (0,false))
 else (jn (fun (s6:Int)=>
 jn (fun (s0:Bool)=>
 if s0=true then (some (0,false))
 else (jn (fun (s1:Int)=>
 some (s1,true))
 (fun j0=>if p0.Neg=true then (j0 (w64 (-s6)))
 else (j0 s6))))
 (fun j1=>if s6<0 then (j1 true)
 else (j1 (decide (4611686018427387904<s6)))))
 (fun j6=>bnd (lfix (Eq p0) (0,w64 ((p0.L.length:Int)-1))) fun t0=>
 j6 t0)))
 (fun j3=>if 4<(p0.L.length:Int) then (j3 true)
 else (if (p0.L.length:Int)=4 then (bnd (idx p0.L 3) fun x7=>
 j3 (decide (16384<x7)))
 else (j3 false)))
def Ha(p0:Af)(p1:Af):Option Af :=
 bnd (Fd p0.L p1.L) fun r4=>
 if p0.Neg=true then (jn (fun (s6:List Int)=>
 some (⟨decide (0<(s6.length:Int)),s6⟩:Af))
 (fun j6=>if 0<(r4.2.length:Int) then (bnd (Hc r4.1 ([1])) fun r0=>
 j6 r0)
 else (j6 r4.1)))
 else (some (⟨false,r4.1⟩:Af))
def Do(p0:Af)(p1:Af):Option Ak :=
 bnd (Qi p0.L p1.L) fun r4=>
 bnd (Fd p0.L r4) fun r0=>
 bnd (Fd p1.L r4) fun r1=>
 jn (fun (s5:Bool)=>
 some (⟨(⟨s5,r0.1⟩:Af),r1.1⟩:Ak))
 (fun j5=>if p0.Neg=true then (j5 (decide (0<(r0.1.length:Int))))
 else (j5 false))
def Cs(p0:Int):Option Ak :=
 bnd (Be p0) fun r2=>
 some (⟨r2,[1]⟩:Ak)
def Ct(p0:Ak)(p1:Ak):Option Ak :=
 bnd (Ba p0.N (⟨false,p1.D⟩:Af)) fun r4=>
 bnd (Ba p1.N (⟨false,p0.D⟩:Af)) fun r9=>
 bnd (Ii r4 r9) fun r0=>
 bnd (Cq p0.D p1.D) fun r1=>
 bnd (Do r0 (⟨false,r1⟩:Af)) fun r2=>
 some r2
def Ij(p0:Ak):Option Ak :=
 bnd (Eg p0.N) fun r3=>
 some (⟨r3,p0.D⟩:Ak)
def Dd(p0:Ak)(p1:Ak):Option Ak :=
 bnd (Ij p1) fun r4=>
 bnd (Ct p0 r4) fun r0=>
 some r0
def Ds(p0:Ak)(p1:Ak):Option Ak :=
 bnd (Ba p0.N p1.N) fun r4=>
 bnd (Cq p0.D p1.D) fun r9=>
 bnd (Do r4 (⟨false,r9⟩:Af)) fun r0=>
 some r0
def Og(p0:Ak)(p1:Ak):Option Ak :=
 bnd (Ba p0.N (⟨false,p1.D⟩:Af)) fun r4=>
 bnd (Ba p1.N (⟨false,p0.D⟩:Af)) fun r9=>
 jn (fun (s3:Bool × List Int × List Int)=>
 some (⟨(⟨s3.1,s3.2.1⟩:Af),s3.2.2⟩:Ak))
 (fun j3=>if (r4.Neg == r9.Neg)=true then (bnd (Do (⟨false,r4.L⟩:Af) (⟨false,r9.L⟩:Af)) fun r0=>
 j3 (r0.N.Neg,r0.N.L,r0.D))
 else (bnd (Do (⟨decide (0<(r4.L.length:Int)),r4.L⟩:Af) (⟨false,r9.L⟩:Af)) fun r1=>
 j3 (r1.N.Neg,r1.N.L,r1.D)))
def Kr(p0:Ak)(p1:Ak):Option Int :=
 bnd (Dd p0 p1) fun r3=>
 bnd (Fb r3.N) fun r0=>
 some r0
def Ik(p0:Ak):Option Af :=
 bnd (Ha p0.N (⟨false,p0.D⟩:Af)) fun r3=>
 some r3
def Ms(p0:Ak):Option Af :=
 bnd (Ij p0) fun r3=>
 bnd (Ik r3) fun r0=>
 bnd (Eg r0) fun r1=>
 some r1
def Oh(p0:Af):Option (Int × Int):=
 bnd (Jt p0) fun r2=>
 jn (fun (s4:Bool)=>
 if s4=true then (some (0,3))
 else (some (r2.1,0)))
 (fun j4=>if r2.2=true then (if r2.1<(-1152921504606846976) then (j4 true)
 else (j4 (decide (1152921504606846976<r2.1))))
 else (j4 true))
def Th(K:List Ent)(x:Ak)(ys:List Value):Prop:=∃ (A0:Option Addr) (c0:Nat) (A1:Option Addr) (c1:Nat),ys=[.bool x.N.Neg,.slice A0 x.N.L.length c0,.slice A1 x.D.length c1]/\Has K A0 x.N.L.length c0 1 Ah x.N.L/\Has K A1 x.D.length c1 1 Ah x.D
instance:LoN Th:=⟨by
 intro _ _ _ _ h hK;obtain⟨A0,c0,A1,c1,h0,h1,h2⟩:=h;exact⟨A0,c0,A1,c1,h0,Has.lo h1 hK,Has.lo h2 hK⟩⟩
instance:UndI prog 177 (.slice 173):=⟨underlying177⟩
def Gf(p0:List Ak):(Bool × List Int × List Int × Bool × List Int × List Int × Int)->Option (Sum (Bool × List Int × List Int × Bool × List Int × List Int × Int) (Bool × List Int × List Int × Bool × List Int × List Int)):=fun s0=>
 if s0.2.2.2.2.2.2<(p0.length:Int) then (jn (fun (s1:Bool × List Int × List Int × Bool × List Int × List Int)=>
 some (.inl (s1.1,s1.2.1,s1.2.2.1,s1.2.2.2.1,s1.2.2.2.2.1,s1.2.2.2.2.2,w64 (s0.2.2.2.2.2.2+1))))
 (fun j0=>jn (fun (s2:Bool × List Int × List Int)=>
 bnd (idx p0 s0.2.2.2.2.2.2) fun x0=>
 bnd (Kr x0 (⟨(⟨s0.2.2.2.1,s0.2.2.2.2.1⟩:Af),s0.2.2.2.2.2.1⟩:Ak)) fun r0=>
 if 0<r0 then (bnd (idx p0 s0.2.2.2.2.2.2) fun x1=>
 j0 (s2.1,s2.2.1,s2.2.2,x1.N.Neg,x1.N.L,x1.D))
 else (j0 (s2.1,s2.2.1,s2.2.2,s0.2.2.2.1,s0.2.2.2.2.1,s0.2.2.2.2.2.1)))
 (fun j1=>bnd (idx p0 s0.2.2.2.2.2.2) fun x2=>
 bnd (Kr x2 (⟨(⟨s0.1,s0.2.1⟩:Af),s0.2.2.1⟩:Ak)) fun r1=>
 if r1<0 then (bnd (idx p0 s0.2.2.2.2.2.2) fun x3=>
 j1 (x3.N.Neg,x3.N.L,x3.D))
 else (j1 (s0.1,s0.2.1,s0.2.2.1)))))
 else (some (.inr (s0.1,s0.2.1,s0.2.2.1,s0.2.2.2.1,s0.2.2.2.2.1,s0.2.2.2.2.2.1)))
def Jb(p0:List Ak):Option (Av × Int):=
 jn (fun (s2:Bool × List Int × List Int × Bool × List Int × List Int)=>
 jn (fun (s3:Bool × List Int × List Int × Bool × List Int × List Int)=>
 bnd (Ik (⟨(⟨s3.1,s3.2.1⟩:Af),s3.2.2.1⟩:Ak)) fun r0=>
 bnd (Oh r0) fun r1=>
 bnd (Ms (⟨(⟨s3.2.2.2.1,s3.2.2.2.2.1⟩:Af),s3.2.2.2.2.2⟩:Ak)) fun r2=>
 bnd (Oh r2) fun r3=>
 jn (fun (s0:Bool)=>
 if s0=true then (some ((⟨0,0⟩:Av),3))
 else (some ((⟨r1.1,r3.1⟩:Av),0)))
 (fun j0=>if r1.2=0 then (j0 (!(decide (r3.2=0))))
 else (j0 true)))
 (fun j3=>bnd (lfix (Gf p0) (s2.1,s2.2.1,s2.2.2.1,s2.2.2.2.1,s2.2.2.2.2.1,s2.2.2.2.2.2,1)) fun t0=>
 j3 t0))
 (fun j2=>bnd (idx p0 0) fun x2=>
 bnd (idx p0 0) fun x0=>
 j2 (x2.N.Neg,x2.N.L,x2.D,x0.N.Neg,x0.N.L,x0.D))
instance(p0:Af)(p1:Af):Con (Ii p0 p1) prog 145 (fun K vs=>∃ U0 E0 U1 E1,vs=[.agg #[.bool p0.Neg,.slice U0 p0.L.length E0],.agg #[.bool p1.Neg,.slice U1 p1.L.length E1]]/\Has K U0 p0.L.length E0 1 Ah p0.L/\Has K U1 p1.L.length E1 1 Ah p1.L/\True) (fun _ r=>fun v Ln=>∃ A0 c0,v = .agg #[.bool r.Neg,.slice A0 r.L.length c0]/\Ln=[.r A0 r.L.length c0 3 1 (r.L.flatMap Ah)]/\True):=⟨by
 rintro K _ r ⟨U0,E0,U1,E1,rfl,ha0,ha1,-⟩ hx w hK;replace ha0:=Has.lo ha0 hK;replace ha1:=Has.lo ha1 hK;unfold Ii at hx;have:=dl 2 [0,1,0,1,0,1,2,0,3] [0,1,2,3,4,5,6,7,8];have:=dl 7 [0,1,0,1,0,1,2,0,3] [0,1,2,3,4,5,6,7,8];have:=dl 8 [0,1,0,1,0,1,2,0,3] [0,1,2,3,4,5,6,7,8];refine CtS ntmps145 results145 ?_;exact au⟩
instance(p0:Af):ConB (Eg p0) prog 146 (fun K vs=>∃ U0 E0,vs=[.agg #[.bool p0.Neg,.slice U0 p0.L.length E0]]/\Has K U0 p0.L.length E0 1 Ah p0.L/\True) (fun K r=>fun v Ln=>∃ A0 c0 e,v = .agg #[.bool r.Neg,.slice A0 r.L.length c0]/\Ln=[e]/\Has (K++[e]) A0 r.L.length c0 1 Ah r.L/\True):=⟨by
 rintro K _ r ⟨U0,E0,rfl,ha0,-⟩ hx w hK;unfold Eg at hx;refine CtS ntmps146 results146 ?_;exact au⟩
instance(p0:Af)(p1:Af):Con (Ba p0 p1) prog 89 (fun K vs=>∃ U0 E0 U1 E1,vs=[.agg #[.bool p0.Neg,.slice U0 p0.L.length E0],.agg #[.bool p1.Neg,.slice U1 p1.L.length E1]]/\Has K U0 p0.L.length E0 1 Ah p0.L/\Has K U1 p1.L.length E1 1 Ah p1.L/\True) (fun _ r=>fun v Ln=>∃ A0 c0,v = .agg #[.bool r.Neg,.slice A0 r.L.length c0]/\Ln=[.r A0 r.L.length c0 3 1 (r.L.flatMap Ah)]/\True):=⟨by
 rintro K _ r ⟨U0,E0,U1,E1,rfl,ha0,ha1,-⟩ hx w hK;replace ha0:=Has.lo ha0 hK;replace ha1:=Has.lo ha1 hK;unfold Ba at hx;refine CtS ntmps89 results89 ?_;exact au⟩
instance(p0:Af):Con (Fb p0) prog 147 (fun K vs=>∃ U0 E0,vs=[.agg #[.bool p0.Neg,.slice U0 p0.L.length E0]]/\Has K U0 p0.L.length E0 1 Ah p0.L/\True) (fun _ r=>fun v Ln=>v = iq r/\Ln=[]/\True):=⟨by
 rintro K _ r ⟨U0,E0,rfl,ha0,-⟩ hx w hK;replace ha0:=Has.lo ha0 hK;unfold Fb at hx;refine CtS ntmps147 results147 ?_;exact au⟩
instance(p0:Af)(p1:Af):Con (Dm p0 p1) prog 90 (fun K vs=>∃ U0 E0 U1 E1,vs=[.agg #[.bool p0.Neg,.slice U0 p0.L.length E0],.agg #[.bool p1.Neg,.slice U1 p1.L.length E1]]/\Has K U0 p0.L.length E0 1 Ah p0.L/\Has K U1 p1.L.length E1 1 Ah p1.L/\True) (fun _ r=>fun v Ln=>v = iq r/\Ln=[]/\True):=⟨by
 rintro K _ r ⟨U0,E0,U1,E1,rfl,ha0,ha1,-⟩ hx w hK;replace ha0:=Has.lo ha0 hK;replace ha1:=Has.lo ha1 hK;unfold Dm at hx;have:=dl 1 [1,1,2,2,2,2] [0,1,2,3,4,5];refine CtS ntmps90 results90 ?_;exact au⟩
instance(p0:Af):Con (Jt p0) prog 259 (fun K vs=>∃ U0 E0,vs=[.agg #[.bool p0.Neg,.slice U0 p0.L.length E0]]/\Has K U0 p0.L.length E0 1 Ah p0.L/\True) (fun _ r=>fun v Ln=>v = .tuple #[iq r.1,.bool r.2]/\Ln=[]/\True):=⟨by
 rintro K _ r ⟨U0,E0,rfl,ha0,-⟩ hx w hK;replace ha0:=Has.lo ha0 hK;unfold Jt at hx;refine CtS ntmps259 results259 ?_;try (refine pre ?_;intros;rename_i hx)
 refine Bf ?_;try (refine pre ?_;intros;rename_i hx)
 refine Bf ?_;try (refine pre ?_;intros;rename_i hx)
 apply Jr (γ:=Unit) hx [1] (fun s3 y3 f=>(22,.bool s3)::f) [0,999] (fun s3 y3 l=>l);exact kk
 ·intro s3 y3 hx;refine Cq3 (s:=22) hx rfl (fun _ hx=>?_) (fun _ hx=>?_)
  ·exact au
  ·try (refine pre ?_;intros;rename_i hx)
   refine Bf ?_;try (refine pre ?_;intros;rename_i hx)
   apply Jr (γ:=Unit) hx [1] (fun s6 y6 f=>(4,iq s6)::f) [0,999] (fun s6 y6 l=>l);exact kk
   ·intro s6 y6 hx;exact au
   ·intro _ hx;try (refine pre ?_;intros;rename_i hx)
    apply Lr (γ:=Unit) hx [1] (fun s0 y0 f=>(4,iq s0.1)::(5,iq s0.2)::f) [0,999] (fun s0 y0 l=>l) ();exact kk;exact sk;intro s0 y0 x0 hx _;unfold Eq at hx;exact au
 ·intro _ hx;exact au⟩
theorem Zf(p0:Af)(p1:Af){K:List Ent}{U0:Option Addr}{E0:Nat}{U1:Option Addr}{E1:Nat}(ha0:Has K U0 p0.L.length E0 1 Ah p0.L)(ha1:Has K U1 p1.L.length E1 1 Ah p1.L){r:Af}(hx:Ha p0 p1=some r)(w:World)(hK:∀ e∈K,Ent.ok w e):CtL prog 260 [.agg #[.bool p0.Neg,.slice U0 p0.L.length E0],.agg #[.bool p1.Neg,.slice U1 p1.L.length E1]] w fun v Ln=>∃ (A0:Option Addr) (c0:Nat),v = .agg #[.bool r.Neg,.slice A0 r.L.length c0]/\Ln=[.r A0 r.L.length c0 3 1 (r.L.flatMap Ah)]/\True:=by
 have ha0':=Has.up0 ha0;have ha1':=Has.up0 ha1;refine CtL.mk 31 func260 rfl ntmps260 kr rfl ?_;show T 31 _ [(0,.agg #[.bool p0.Neg,.slice U0 p0.L.length E0]),(1,.agg #[.bool p1.Neg,.slice U1 p1.L.length E1])] _;unfold Ha at hx;refine Y2 ?_;refine T_x (Qt rfl rfl rfl (fun g1=>?_));refine T_x (Qt rfl rfl rfl (fun g2=>?_));refine T_x (Gq Aum rfl (fun g3=>?_));refine Y4 ?_;refine Ay (Ee rfl Wj rfl) rfl ?_;refine Ay (Cg rfl (i:=2) rfl rfl Aaw) rfl ?_;refine Ay (Ee rfl Wj rfl) rfl ?_;refine Ay (Cg rfl (i:=1) rfl rfl Aaw) rfl ?_;obtain⟨r4,h5,hx6⟩:=Au hx;refine T_x (Ch rfl (fun w1 hw1=>Mi p0.L p1.L (Has.len' ha0') (Has.len' ha1') h5 w1 (Xq (K:=K) (K2:=[]) hK (by exact (sb 3)) (by exact SubE.nil) hw1)) rfl ?_);rintro _ _ hlo ⟨A7,c8,A9,c1,e0,rfl,rfl,hs0,-⟩;have lo13:=hlo e0 s_;refine Xb ?_;have hs1:Has (K++[e0]) _ _ _ _ _ _:=Has.assoc hs0;refine Y10 ?_;refine Ay (Ee rfl Aiq rfl) rfl ?_;refine Ay (Cg rfl (i:=4) rfl rfl one4) rfl ?_;refine Y3 ?_;refine Xo (s:=17) rfl (fun h0=>?_) (fun h0=>?_)
 ·have hx0:=Vt h0 hx6;refine Y4 ?_;refine Ay (Qs rfl (Uf _ _ _ _)) rfl ?_;refine T_h (Ef rfl rfl rfl (.there (.there (.here))) (.put (.put (.done))) rfl (List.cons_ne_nil _ _) Agw.2 ?_);refine Y4 ?_;obtain rfl:=Option.some.inj hx0;exact Jc (rs:=[.cell 4 117]) results260 (.cell rfl (i:=2) rfl rfl Agw (.nil)) (Ln:=[.r A7 r4.1.length c8 3 1 (r4.1.flatMap Ah)]) ⟨A7,c8,rfl,rfl,trivial⟩ (Br rfl Fg) (by exact .pick 0 rfl (.drop 0 rfl (.drop 0 rfl (.drop 0 rfl (.drop 0 rfl (.refl))))))
 ·have hx1:=Rg h0 hx6;refine Y3 ?_;refine Tj (γ:=Option Addr × Nat) hx1 (fun s6 y6=>[(4,.pointer (some ⟨g3,0,none⟩)),(5,.slice y6.1 s6.length y6.2)]) (fun s6 y6=>[.r y6.1 s6.length y6.2 3 1 (s6.flatMap Ah),.m g3 117 [.bool false,.slice none 0 0]]++[.old w]) (fun s6 y6=>True) (fun s6 y6 hx2 hG0=>?_) (fun j6 hx1=>?_)
  ·refine Y3 ?_;refine Ay (If rfl 3 underlying42) rfl ?_;refine Y2 ?_;refine Ay (Qs rfl (Uf _ _ _ _)) rfl ?_;refine T_h (Ef rfl rfl rfl (.there (.here)) (.put (.put (.done))) rfl (List.cons_ne_nil _ _) Agw.2 ?_);refine Y3 ?_;obtain rfl:=Option.some.inj hx2;exact Jc (rs:=[.cell 4 117]) results260 (.cell rfl (i:=1) rfl rfl Agw (.nil)) (Ln:=[.r y6.1 s6.length y6.2 3 1 (s6.flatMap Ah)]) ⟨y6.1,y6.2,rfl,rfl,trivial⟩ (Br rfl Fg) (by exact .pick 0 rfl (.drop 0 rfl (.refl)))
  ·refine Y3 ?_;refine Ay (If rfl 3 underlying42) rfl ?_;refine Y3 ?_;refine Ti hx1 (s:=22) rfl (fun h1 hx3=>?_) (fun h1 hx4=>?_)
   ·refine Y3 ?_;refine T_x (Ck rfl (Oo _) rfl (fun g0=>?_));refine Kv (k:=1) rfl dD (fun _=>rfl) (fun hn0 hs2=>?_);have hs3:Has [.m g0 3 [iq 1]] (some ⟨g0,0,none⟩) 1 1 1 Ah [1]:=Has.ofM (fun _ _=>rfl) rfl dD rfl;obtain⟨r0,h2,hx5⟩:=Au hx3;refine T_x (Ch rfl (fun w1 hw1=>Acn r4.1 ([1]) (Has.len' (Has.up (L:=([.r A7 r4.1.length c8 3 1 (r4.1.flatMap Ah),.m g0 3 [iq 1]]:List Ent)) hs2 (sb 0))) (Has.len' (Has.up (L:=([.r A7 r4.1.length c8 3 1 (r4.1.flatMap Ah),.m g0 3 [iq 1]]:List Ent)) hs3 (sb 1))) h2 w1 (Um (K:=([.r A7 r4.1.length c8 3 1 (r4.1.flatMap Ah),.m g0 3 [iq 1]]:List Ent)) (by exact (SubE.cons2 (i:=1) rfl (sb 0))) hw1)) rfl ?_);rintro _ _ hlo ⟨A1,c2,rfl,rfl,-⟩;refine My ?_;refine Y2 ?_;exact Mt r0 (A1,c2) hx5 trivial (by exact .pick 0 rfl (.pick 3 rfl (.drop 0 rfl (.drop 0 rfl (.drop 0 rfl (.drop 0 rfl (.drop 0 rfl (.refl))))))))
   ·refine Y2 ?_;exact Mt r4.1 (A7,c8) hx4 trivial (by exact .pick 0 rfl (.pick 1 rfl (.drop 0 rfl (.drop 0 rfl (.drop 0 rfl (.refl))))))
instance(p0:Af)(p1:Af):Con (Ha p0 p1) prog 260 (fun K vs=>∃ U0 E0 U1 E1,vs=[.agg #[.bool p0.Neg,.slice U0 p0.L.length E0],.agg #[.bool p1.Neg,.slice U1 p1.L.length E1]]/\Has K U0 p0.L.length E0 1 Ah p0.L/\Has K U1 p1.L.length E1 1 Ah p1.L/\True) (fun _ r=>fun v Ln=>∃ A0 c0,v = .agg #[.bool r.Neg,.slice A0 r.L.length c0]/\Ln=[.r A0 r.L.length c0 3 1 (r.L.flatMap Ah)]/\True):=⟨by
 rintro K _ r ⟨U0,E0,U1,E1,rfl,ha0,ha1,-⟩ hx w hK;exact Zf p0 p1 ha0 ha1 hx w hK⟩
theorem Ac7(p0:Af)(p1:Af){K:List Ent}{U0:Option Addr}{E0:Nat}{U1:Option Addr}{E1:Nat}(ha0:Has K U0 p0.L.length E0 1 Ah p0.L)(ha1:Has K U1 p1.L.length E1 1 Ah p1.L){r:Ak}(hx:Do p0 p1=some r)(w:World)(hK:∀ e∈K,Ent.ok w e):CtL prog 302 [.agg #[.bool p0.Neg,.slice U0 p0.L.length E0],.agg #[.bool p1.Neg,.slice U1 p1.L.length E1]] w fun v Ln=>∃ (A0:Option Addr) (c0:Nat) (A2:Option Addr) (c2:Nat),v = .agg #[.bool r.N.Neg,.slice A0 r.N.L.length c0,.slice A2 r.D.length c2]/\Ln=[.r A0 r.N.L.length c0 3 1 (r.N.L.flatMap Ah),.r A2 r.D.length c2 3 1 (r.D.flatMap Ah)]/\True:=by
 have ha0':=Has.up0 ha0;have ha1':=Has.up0 ha1;refine CtL.mk 40 func302 rfl ntmps302 kr rfl ?_;show T 40 _ [(0,.agg #[.bool p0.Neg,.slice U0 p0.L.length E0]),(1,.agg #[.bool p1.Neg,.slice U1 p1.L.length E1])] _;unfold Do at hx;refine Y2 ?_;refine T_x (Qt rfl rfl rfl (fun g1=>?_));refine T_x (Qt rfl rfl rfl (fun g2=>?_));refine T_x (Gq Alx rfl (fun g3=>?_));refine Y4 ?_;refine Ay (Ee rfl Wj rfl) rfl ?_;refine Ay (Cg rfl (i:=2) rfl rfl Aaw) rfl ?_;refine Ay (Ee rfl Wj rfl) rfl ?_;refine Ay (Cg rfl (i:=1) rfl rfl Aaw) rfl ?_;obtain⟨r4,h5,hx6⟩:=Au hx;refine T_x (Ch rfl (fun w1 hw1=>Adh p0.L p1.L (Has.len' ha0') (Has.len' ha1') h5 w1 (Xq (K:=K) (K2:=[]) hK (by exact (sb 3)) (by exact SubE.nil) hw1)) rfl ?_);rintro _ _ hlo ⟨A7,c8,e9,rfl,rfl,hs0,-⟩;have lo11:=hlo e9 s_;refine My ?_;have hs1:Has (K++[e9]) _ _ _ _ _ _:=Has.assoc hs0;refine Y5 ?_;refine Ay (Ee rfl Wj rfl) rfl ?_;refine Ay (Cg rfl (i:=3) rfl rfl Aaw) rfl ?_;refine Y ?_;obtain⟨r0,h0,hx0⟩:=Au hx6;refine T_x (Ch rfl (fun w1 hw1=>Mi p0.L r4 (Has.len' (Has.up (L:=(K++[e9])) ha0' (SubE.app2 SubE.nil))) (Has.len' hs1) h0 w1 (Xq (K:=K) (K2:=[e9]) hK (by exact (sb 4)) (by exact (sb 0)) hw1)) rfl ?_);rintro _ _ hlo ⟨A1,c1,A3,c3,e0,rfl,rfl,hs2,-⟩;have lo22:=hlo e0 s_;refine Xb ?_;have hs3:Has (K++[e9,e0]) _ _ _ _ _ _:=Has.assoc hs2;refine Y9 ?_;refine Ay (Ee rfl Wj rfl) rfl ?_;refine Ay (Cg rfl (i:=4) rfl rfl Aaw) rfl ?_;refine Y ?_;obtain⟨r1,h1,hx1⟩:=Au hx0;refine T_x (Ch rfl (fun w1 hw1=>Mi p1.L r4 (Has.len' (Has.up (L:=(K++[e9])) ha1' (SubE.app2 SubE.nil))) (Has.len' hs1) h1 w1 (Xq (K:=K) (K2:=[e9]) hK (by exact (sb 6)) (by exact (sb 2)) hw1)) rfl ?_);rintro _ _ hlo ⟨A4,c4,A5,c5,e1,rfl,rfl,hs4,-⟩;have lo33:=hlo e1 s_;refine Xb ?_;have hs5:Has (K++[e9,e1]) _ _ _ _ _ _:=Has.assoc hs4;refine Y7 ?_;refine Tj (γ:=Unit) hx1 (fun s5 y5=>[(4,.pointer (some ⟨g3,0,none⟩))]) (fun s5 y5=>[.r A4 r1.1.length c4 3 1 (r1.1.flatMap Ah),.r A1 r0.1.length c1 3 1 (r0.1.flatMap Ah),.m g3 173 [.bool s5,.slice A1 r0.1.length c1,.slice A4 r1.1.length c4]]++[.old w]) (fun s5 y5=>True) (fun s5 y5 hx2 hG0=>?_) (fun j5 hx1=>?_)
 ·refine Y ?_;obtain rfl:=Option.some.inj hx2;exact Jc (rs:=[.cell 4 173]) results302 (.cell rfl (i:=2) rfl rfl Aa8 (.nil)) (Ln:=[.r A1 r0.1.length c1 3 1 (r0.1.flatMap Ah),.r A4 r1.1.length c4 3 1 (r1.1.flatMap Ah)]) ⟨A1,c1,A4,c4,rfl,rfl,trivial⟩ (Br rfl (Br rfl Fg)) (by exact .pick 1 rfl (.pick 0 rfl (.drop 0 rfl (.refl))))
 ·refine Y ?_;refine Ay (Ee rfl Aiq rfl) rfl ?_;refine Ay (Cg rfl (i:=7) rfl rfl one4) rfl ?_;refine Y ?_;refine Tz (s:=31) rfl (fun h2=>?_) (fun h2=>?_)
  ·have hx3:=Rg h2 hx1;refine Y ?_;refine Aa3 rfl rfl rfl (If rfl 3 underlying42) rfl ?_;refine Y3 ?_;refine Ay (Qs rfl (Uf _ _ _ _)) rfl ?_;refine Y ?_;refine Ay (Qs rfl (Xh _ _ _ _ _ _ _)) rfl ?_;refine T_h (Ef rfl rfl rfl (.there (.there (.there (.there (.there (.here)))))) (.put (.put (.put (.done)))) rfl (List.cons_ne_nil _ _) Aa8.2 ?_);refine Y ?_;exact Mt (decide (0<(r0.1.length:Int))) () hx3 trivial (by exact .pick 0 rfl (.pick 1 rfl (.pick 3 rfl (.drop 0 rfl (.drop 0 rfl (.drop 0 rfl (.drop 0 rfl (.drop 0 rfl (.refl)))))))))
  ·have hx4:=Vt h2 hx1;refine Y5 ?_;refine Ay (Qs rfl (Uf _ _ _ _)) rfl ?_;refine Y ?_;refine Ay (Qs rfl (Xh _ _ _ _ _ _ _)) rfl ?_;refine T_h (Ef rfl rfl rfl (.there (.there (.there (.there (.there (.here)))))) (.put (.put (.put (.done)))) rfl (List.cons_ne_nil _ _) Aa8.2 ?_);refine Y ?_;exact Mt false () hx4 trivial (by exact .pick 0 rfl (.pick 1 rfl (.pick 3 rfl (.drop 0 rfl (.drop 0 rfl (.drop 0 rfl (.drop 0 rfl (.drop 0 rfl (.refl)))))))))
instance(p0:Af)(p1:Af):Con (Do p0 p1) prog 302 (fun K vs=>∃ U0 E0 U1 E1,vs=[.agg #[.bool p0.Neg,.slice U0 p0.L.length E0],.agg #[.bool p1.Neg,.slice U1 p1.L.length E1]]/\Has K U0 p0.L.length E0 1 Ah p0.L/\Has K U1 p1.L.length E1 1 Ah p1.L/\True) (fun _ r=>fun v Ln=>∃ A0 c0 A2 c2,v = .agg #[.bool r.N.Neg,.slice A0 r.N.L.length c0,.slice A2 r.D.length c2]/\Ln=[.r A0 r.N.L.length c0 3 1 (r.N.L.flatMap Ah),.r A2 r.D.length c2 3 1 (r.D.flatMap Ah)]/\True):=⟨by
 rintro K _ r ⟨U0,E0,U1,E1,rfl,ha0,ha1,-⟩ hx w hK;exact Ac7 p0 p1 ha0 ha1 hx w hK⟩
instance(p0:Int):Con (Cs p0) prog 253 (fun _ vs=>vs=[iq p0]) (fun _ r=>fun v Ln=>∃ A0 c0 A2 c2,v = .agg #[.bool r.N.Neg,.slice A0 r.N.L.length c0,.slice A2 r.D.length c2]/\Ln=[.r A0 r.N.L.length c0 3 1 (r.N.L.flatMap Ah),.r A2 r.D.length c2 3 1 (r.D.flatMap Ah)]/\True):=⟨by
 rintro _ _ r rfl hx w hK;unfold Cs at hx;refine CtS ntmps253 results253 ?_;try (refine pre ?_;intros;rename_i hx)
 (with_reducible apply Anu 5 (sz:=1));exact rfl;exact aT;exact inferInstance;exact dL;exact (fun _=>rfl);exact rfl;exact rfl;exact sA
 exact au⟩
instance(p0:Ak)(p1:Ak):Con (Ct p0 p1) prog 254 (fun K vs=>∃ U0 E0 U1 E1 U2 E2 U3 E3,vs=[.agg #[.bool p0.N.Neg,.slice U0 p0.N.L.length E0,.slice U1 p0.D.length E1],.agg #[.bool p1.N.Neg,.slice U2 p1.N.L.length E2,.slice U3 p1.D.length E3]]/\Has K U0 p0.N.L.length E0 1 Ah p0.N.L/\Has K U1 p0.D.length E1 1 Ah p0.D/\Has K U2 p1.N.L.length E2 1 Ah p1.N.L/\Has K U3 p1.D.length E3 1 Ah p1.D/\True) (fun _ r=>fun v Ln=>∃ A0 c0 A2 c2,v = .agg #[.bool r.N.Neg,.slice A0 r.N.L.length c0,.slice A2 r.D.length c2]/\Ln=[.r A0 r.N.L.length c0 3 1 (r.N.L.flatMap Ah),.r A2 r.D.length c2 3 1 (r.D.flatMap Ah)]/\True):=⟨by
 rintro K _ r ⟨U0,E0,U1,E1,U2,E2,U3,E3,rfl,ha0,ha1,ha2,ha3,-⟩ hx w hK;replace ha0:=Has.lo ha0 hK;replace ha1:=Has.lo ha1 hK;replace ha2:=Has.lo ha2 hK;replace ha3:=Has.lo ha3 hK;unfold Ct at hx;have:=dl 1 [0,1,0,1,0,2,0,1,0,1,0,2,2,0,1,0,1,2,0,2,3] [0,1,2,3,4,6,7,8,9,10,13,14,15,16,5,11,12,17,18,19,20];refine CtS ntmps254 results254 ?_;exact au⟩
instance(p0:Ak):ConB (Ij p0) prog 261 (fun K vs=>∃ U0 E0 U1 E1,vs=[.agg #[.bool p0.N.Neg,.slice U0 p0.N.L.length E0,.slice U1 p0.D.length E1]]/\Has K U0 p0.N.L.length E0 1 Ah p0.N.L/\Has K U1 p0.D.length E1 1 Ah p0.D/\True) (fun K r=>fun v Ln=>∃ A0 c0 A2 c2 e,v = .agg #[.bool r.N.Neg,.slice A0 r.N.L.length c0,.slice A2 r.D.length c2]/\Ln=[e]/\Has (K++[e]) A0 r.N.L.length c0 1 Ah r.N.L/\Has (K++[e]) A2 r.D.length c2 1 Ah r.D/\True):=⟨by
 rintro K _ r ⟨U0,E0,U1,E1,rfl,ha0,ha1,-⟩ hx w hK;unfold Ij at hx;have:=dl 1 [0,1,2,0,1,0,3] [0,1,3,4,2,5,6];refine CtS ntmps261 results261 ?_;exact au⟩
instance(p0:Ak)(p1:Ak):Con (Dd p0 p1) prog 258 (fun K vs=>∃ U0 E0 U1 E1 U2 E2 U3 E3,vs=[.agg #[.bool p0.N.Neg,.slice U0 p0.N.L.length E0,.slice U1 p0.D.length E1],.agg #[.bool p1.N.Neg,.slice U2 p1.N.L.length E2,.slice U3 p1.D.length E3]]/\Has K U0 p0.N.L.length E0 1 Ah p0.N.L/\Has K U1 p0.D.length E1 1 Ah p0.D/\Has K U2 p1.N.L.length E2 1 Ah p1.N.L/\Has K U3 p1.D.length E3 1 Ah p1.D/\True) (fun _ r=>fun v Ln=>∃ A0 c0 A2 c2,v = .agg #[.bool r.N.Neg,.slice A0 r.N.L.length c0,.slice A2 r.D.length c2]/\Ln=[.r A0 r.N.L.length c0 3 1 (r.N.L.flatMap Ah),.r A2 r.D.length c2 3 1 (r.D.flatMap Ah)]/\True):=⟨by
 rintro K _ r ⟨U0,E0,U1,E1,U2,E2,U3,E3,rfl,ha0,ha1,ha2,ha3,-⟩ hx w hK;replace ha0:=Has.lo ha0 hK;replace ha1:=Has.lo ha1 hK;replace ha2:=Has.lo ha2 hK;replace ha3:=Has.lo ha3 hK;unfold Dd at hx;have:=dl 1 [1,1,2,2,3] [0,1,2,3,4];refine CtS ntmps258 results258 ?_;exact au⟩
instance(p0:Ak)(p1:Ak):Con (Ds p0 p1) prog 255 (fun K vs=>∃ U0 E0 U1 E1 U2 E2 U3 E3,vs=[.agg #[.bool p0.N.Neg,.slice U0 p0.N.L.length E0,.slice U1 p0.D.length E1],.agg #[.bool p1.N.Neg,.slice U2 p1.N.L.length E2,.slice U3 p1.D.length E3]]/\Has K U0 p0.N.L.length E0 1 Ah p0.N.L/\Has K U1 p0.D.length E1 1 Ah p0.D/\Has K U2 p1.N.L.length E2 1 Ah p1.N.L/\Has K U3 p1.D.length E3 1 Ah p1.D/\True) (fun _ r=>fun v Ln=>∃ A0 c0 A2 c2,v = .agg #[.bool r.N.Neg,.slice A0 r.N.L.length c0,.slice A2 r.D.length c2]/\Ln=[.r A0 r.N.L.length c0 3 1 (r.N.L.flatMap Ah),.r A2 r.D.length c2 3 1 (r.D.flatMap Ah)]/\True):=⟨by
 rintro K _ r ⟨U0,E0,U1,E1,U2,E2,U3,E3,rfl,ha0,ha1,ha2,ha3,-⟩ hx w hK;replace ha0:=Has.lo ha0 hK;replace ha1:=Has.lo ha1 hK;replace ha2:=Has.lo ha2 hK;replace ha3:=Has.lo ha3 hK;unfold Ds at hx;have:=dl 1 [0,1,0,1,2,0,1,0,1,2,0,2,3] [0,1,2,3,5,6,7,8,4,9,10,11,12];refine CtS ntmps255 results255 ?_;exact au⟩
instance(p0:Ak)(p1:Ak):Con (Og p0 p1) prog 257 (fun K vs=>∃ U0 E0 U1 E1 U2 E2 U3 E3,vs=[.agg #[.bool p0.N.Neg,.slice U0 p0.N.L.length E0,.slice U1 p0.D.length E1],.agg #[.bool p1.N.Neg,.slice U2 p1.N.L.length E2,.slice U3 p1.D.length E3]]/\Has K U0 p0.N.L.length E0 1 Ah p0.N.L/\Has K U1 p0.D.length E1 1 Ah p0.D/\Has K U2 p1.N.L.length E2 1 Ah p1.N.L/\Has K U3 p1.D.length E3 1 Ah p1.D/\True) (fun _ r=>fun v Ln=>∃ A0 c0 A2 c2,v = .agg #[.bool r.N.Neg,.slice A0 r.N.L.length c0,.slice A2 r.D.length c2]/\Ln=[.r A0 r.N.L.length c0 3 1 (r.N.L.flatMap Ah),.r A2 r.D.length c2 3 1 (r.D.flatMap Ah)]/\True):=⟨by
 rintro K _ r ⟨U0,E0,U1,E1,U2,E2,U3,E3,rfl,ha0,ha1,ha2,ha3,-⟩ hx w hK;replace ha0:=Has.lo ha0 hK;replace ha1:=Has.lo ha1 hK;replace ha2:=Has.lo ha2 hK;replace ha3:=Has.lo ha3 hK;unfold Og at hx;have:=dl 1 [0,1,0,1,0,2,0,1,0,1,0,2,4,4,3,3] [0,1,2,3,4,6,7,8,9,10,5,11,12,13,14,15] [12,13];refine CtS ntmps257 results257 ?_;exact au⟩
instance(p0:Ak)(p1:Ak):Con (Kr p0 p1) prog 206 (fun K vs=>∃ U0 E0 U1 E1 U2 E2 U3 E3,vs=[.agg #[.bool p0.N.Neg,.slice U0 p0.N.L.length E0,.slice U1 p0.D.length E1],.agg #[.bool p1.N.Neg,.slice U2 p1.N.L.length E2,.slice U3 p1.D.length E3]]/\Has K U0 p0.N.L.length E0 1 Ah p0.N.L/\Has K U1 p0.D.length E1 1 Ah p0.D/\Has K U2 p1.N.L.length E2 1 Ah p1.N.L/\Has K U3 p1.D.length E3 1 Ah p1.D/\True) (fun _ r=>fun v Ln=>v = iq r/\Ln=[]/\True):=⟨by
 rintro K _ r ⟨U0,E0,U1,E1,U2,E2,U3,E3,rfl,ha0,ha1,ha2,ha3,-⟩ hx w hK;replace ha0:=Has.lo ha0 hK;replace ha1:=Has.lo ha1 hK;replace ha2:=Has.lo ha2 hK;replace ha3:=Has.lo ha3 hK;unfold Kr at hx;refine CtS ntmps206 results206 ?_;exact au⟩
instance(p0:Ak):Con (Ik p0) prog 208 (fun K vs=>∃ U0 E0 U1 E1,vs=[.agg #[.bool p0.N.Neg,.slice U0 p0.N.L.length E0,.slice U1 p0.D.length E1]]/\Has K U0 p0.N.L.length E0 1 Ah p0.N.L/\Has K U1 p0.D.length E1 1 Ah p0.D/\True) (fun _ r=>fun v Ln=>∃ A0 c0,v = .agg #[.bool r.Neg,.slice A0 r.L.length c0]/\Ln=[.r A0 r.L.length c0 3 1 (r.L.flatMap Ah)]/\True):=⟨by
 rintro K _ r ⟨U0,E0,U1,E1,rfl,ha0,ha1,-⟩ hx w hK;replace ha0:=Has.lo ha0 hK;replace ha1:=Has.lo ha1 hK;unfold Ik at hx;refine CtS ntmps208 results208 ?_;exact au⟩
instance(p0:Ak):ConB (Ms p0) prog 209 (fun K vs=>∃ U0 E0 U1 E1,vs=[.agg #[.bool p0.N.Neg,.slice U0 p0.N.L.length E0,.slice U1 p0.D.length E1]]/\Has K U0 p0.N.L.length E0 1 Ah p0.N.L/\Has K U1 p0.D.length E1 1 Ah p0.D/\True) (fun K r=>fun v Ln=>∃ A0 c0 e,v = .agg #[.bool r.Neg,.slice A0 r.L.length c0]/\Ln=[e]/\Has (K++[e]) A0 r.L.length c0 1 Ah r.L/\True):=⟨by
 rintro K _ r ⟨U0,E0,U1,E1,rfl,ha0,ha1,-⟩ hx w hK;unfold Ms at hx;refine CtS ntmps209 results209 ?_;exact au⟩
instance(p0:Af):Con (Oh p0) prog 207 (fun K vs=>∃ U0 E0,vs=[.agg #[.bool p0.Neg,.slice U0 p0.L.length E0]]/\Has K U0 p0.L.length E0 1 Ah p0.L/\True) (fun _ r=>fun v Ln=>v = .tuple #[iq r.1,iq r.2]/\Ln=[]/\True):=⟨by
 rintro K _ r ⟨U0,E0,rfl,ha0,-⟩ hx w hK;replace ha0:=Has.lo ha0 hK;unfold Oh at hx;refine CtS ntmps207 results207 ?_;exact au⟩
instance Ab1(p0:List Ak):Con (Jb p0) prog 142 (fun K vs=>∃ U0 E0,vs=[.slice U0 p0.length E0]/\HasN K U0 p0.length E0 3 Th p0/\True) (fun _ r=>fun v Ln=>v = .tuple #[.agg #[iq r.1.Lo,iq r.1.Hi],iq r.2]/\Ln=[]/\True):=⟨by
 rintro K _ r ⟨U0,E0,rfl,ha0,-⟩ hx w hK;unfold Jb at hx;have:=dp 1 [0,0,1,0,0,2,2,2,3,3] (.q 0 (.q 1 (.q 2 (.q 3 (.q 4 (.e 5 (.e 6 (.e 7 (.e 8 (.e 9 (.done) (.stop)) (.stop)) (.stop)) (.e 7 (.e 6 (.e 8 (.e 9 (.done) (.stop)) (.stop)) (.stop)) (.stop))) (.e 6 (.e 5 (.e 7 (.e 8 (.e 9 (.done) (.stop)) (.stop)) (.stop)) (.e 7 (.e 5 (.e 8 (.e 9 (.done) (.stop)) (.stop)) (.e 8 (.e 5 (.e 9 (.done) (.stop)) (.stop)) (.stop))) (.stop))) (.e 7 (.e 5 (.e 6 (.e 8 (.e 9 (.done) (.stop)) (.stop)) (.stop)) (.e 6 (.e 5 (.e 8 (.e 9 (.done) (.stop)) (.stop)) (.e 8 (.e 5 (.e 9 (.done) (.stop)) (.stop)) (.stop))) (.stop))) (.stop)))))))));have:=dl 5 [0,0,0,1,1,2,0] [0,1,2,3,4,5,6];have:=dl 7 [0,0,0,1,1,2,0] [0,1,2,3,4,5,6];refine CtS ntmps142 results142 ?_;try (refine pre ?_;intros;rename_i hx)
 refine Bf ?_;try (refine pre ?_;intros;rename_i hx)
 apply JrG (γ:=Nat × Option Addr × Nat × Option Addr × Nat × Nat × Option Addr × Nat × Option Addr × Nat) hx [0,2] (fun s2 y2 f=>(4,.pointer (some ⟨y2.1,0,none⟩))::(5,.pointer (some ⟨y2.2.2.2.2.2.1,0,none⟩))::f) [0,999] (fun s2 y2 l=>.m y2.2.2.2.2.2.1 173 [.bool s2.2.2.2.1,.slice y2.2.2.2.2.2.2.1 s2.2.2.2.2.1.length y2.2.2.2.2.2.2.2.1,.slice y2.2.2.2.2.2.2.2.2.1 s2.2.2.2.2.2.length y2.2.2.2.2.2.2.2.2.2] :: .m y2.1 173 [.bool s2.1,.slice y2.2.1 s2.2.1.length y2.2.2.1,.slice y2.2.2.2.1 s2.2.2.1.length y2.2.2.2.2.1]::l) (fun s2 y2=>Has [.old w] y2.2.1 s2.2.1.length y2.2.2.1 1 Ah s2.2.1/\Has [.old w] y2.2.2.2.1 s2.2.2.1.length y2.2.2.2.2.1 1 Ah s2.2.2.1/\Has [.old w] y2.2.2.2.2.2.2.1 s2.2.2.2.2.1.length y2.2.2.2.2.2.2.2.1 1 Ah s2.2.2.2.2.1/\Has [.old w] y2.2.2.2.2.2.2.2.2.1 s2.2.2.2.2.2.length y2.2.2.2.2.2.2.2.2.2 1 Ah s2.2.2.2.2.2/\True);exact kk
 ·intro s2 y2 hx hG;obtain⟨_,_,_,_,-⟩:=hG;try (refine pre ?_;intros;rename_i hx)
  apply JrG (γ:=Option Addr × Nat × Option Addr × Nat × Option Addr × Nat × Option Addr × Nat) hx [2,4,5] (fun s3 y3 f=>f) [2,999] (fun s3 y3 l=>.m y2.2.2.2.2.2.1 173 [.bool s3.2.2.2.1,.slice y3.2.2.2.2.1 s3.2.2.2.2.1.length y3.2.2.2.2.2.1,.slice y3.2.2.2.2.2.2.1 s3.2.2.2.2.2.length y3.2.2.2.2.2.2.2] :: .m y2.1 173 [.bool s3.1,.slice y3.1 s3.2.1.length y3.2.1,.slice y3.2.2.1 s3.2.2.1.length y3.2.2.2.1]::l) (fun s3 y3=>Has [.old w] y3.1 s3.2.1.length y3.2.1 1 Ah s3.2.1/\Has [.old w] y3.2.2.1 s3.2.2.1.length y3.2.2.2.1 1 Ah s3.2.2.1/\Has [.old w] y3.2.2.2.2.1 s3.2.2.2.2.1.length y3.2.2.2.2.2.1 1 Ah s3.2.2.2.2.1/\Has [.old w] y3.2.2.2.2.2.2.1 s3.2.2.2.2.2.length y3.2.2.2.2.2.2.2 1 Ah s3.2.2.2.2.2/\True);exact kk
  ·intro s3 y3 hx hG;obtain⟨_,_,_,_,-⟩:=hG;exact au
  ·intro _ hx;try (refine pre ?_;intros;rename_i hx)
   apply LrG (γ:=Option Addr × Nat × Option Addr × Nat × Option Addr × Nat × Option Addr × Nat) hx [0,2,4,5] (fun s0 y0 f=>(6,iq s0.2.2.2.2.2.2)::f) [2,999] (fun s0 y0 l=>.m y2.2.2.2.2.2.1 173 [.bool s0.2.2.2.1,.slice y0.2.2.2.2.1 s0.2.2.2.2.1.length y0.2.2.2.2.2.1,.slice y0.2.2.2.2.2.2.1 s0.2.2.2.2.2.1.length y0.2.2.2.2.2.2.2] :: .m y2.1 173 [.bool s0.1,.slice y0.1 s0.2.1.length y0.2.1,.slice y0.2.2.1 s0.2.2.1.length y0.2.2.2.1]::l) (fun s0 y0=>Has [.old w] y0.1 s0.2.1.length y0.2.1 1 Ah s0.2.1/\Has [.old w] y0.2.2.1 s0.2.2.1.length y0.2.2.2.1 1 Ah s0.2.2.1/\Has [.old w] y0.2.2.2.2.1 s0.2.2.2.2.1.length y0.2.2.2.2.2.1 1 Ah s0.2.2.2.2.1/\Has [.old w] y0.2.2.2.2.2.2.1 s0.2.2.2.2.2.1.length y0.2.2.2.2.2.2.2 1 Ah s0.2.2.2.2.2.1/\True) (_,_,_,_,_,_,_,_);exact kk;exact sF2;exact gG;exact pK2;intro s0 y0 x0 hx _ hG;obtain⟨_,_,_,_,-⟩:=hG;unfold Gf at hx;try (refine pre ?_;intros;rename_i hx)
   refine Cq1 (s:=20) hx rfl (fun _ hx=>?_) (fun _ hx=>?_)
   ·try (refine pre ?_;intros;rename_i hx)
    apply JrG (γ:=Option Addr × Nat × Option Addr × Nat × Option Addr × Nat × Option Addr × Nat) hx [0,2,4,5,6] (fun s1 y1 f=>f) [2,999] (fun s1 y1 l=>.m y2.2.2.2.2.2.1 173 [.bool s1.2.2.2.1,.slice y1.2.2.2.2.1 s1.2.2.2.2.1.length y1.2.2.2.2.2.1,.slice y1.2.2.2.2.2.2.1 s1.2.2.2.2.2.length y1.2.2.2.2.2.2.2] :: .m y2.1 173 [.bool s1.1,.slice y1.1 s1.2.1.length y1.2.1,.slice y1.2.2.1 s1.2.2.1.length y1.2.2.2.1]::l) (fun s1 y1=>Has [.old w] y1.1 s1.2.1.length y1.2.1 1 Ah s1.2.1/\Has [.old w] y1.2.2.1 s1.2.2.1.length y1.2.2.2.1 1 Ah s1.2.2.1/\Has [.old w] y1.2.2.2.2.1 s1.2.2.2.2.1.length y1.2.2.2.2.2.1 1 Ah s1.2.2.2.2.1/\Has [.old w] y1.2.2.2.2.2.2.1 s1.2.2.2.2.2.length y1.2.2.2.2.2.2.2 1 Ah s1.2.2.2.2.2/\True);exact kk
    ·intro s1 y1 hx hG;obtain⟨_,_,_,_,-⟩:=hG;exact au
    ·intro _ hx;exact au
   ·exact au
 ·intro _ hx;exact au⟩
theorem Aa9(p0:List Ak){K:List Ent}{U0:Option Addr}{E0:Nat}(ha0:HasN K U0 p0.length E0 3 Th p0){r:Av × Int}(hx:Jb p0=some r)(w:World)(hK:∀ e∈K,Ent.ok w e):CtL prog 142 [.slice U0 p0.length E0] w fun v Ln=>v = .tuple #[.agg #[iq r.1.Lo,iq r.1.Hi],iq r.2]/\Ln=[]/\True:=(Ab1 p0).h K _ _ ⟨_,_,rfl,ha0,trivial⟩ hx w hK
end
end Go.Proofs.YthlkpgdfifnagaaGreat
