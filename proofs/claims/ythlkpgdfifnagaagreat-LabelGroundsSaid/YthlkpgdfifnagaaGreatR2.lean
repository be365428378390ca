import Derived.Test.YthlkpgdfifnagaaGreatR1
set_option maxRecDepth 100000
set_option maxHeartbeats 1000000
namespace Go.Proofs.YthlkpgdfifnagaaGreat
open Go Go.RowKit Tryz
noncomputable section
theorem Ai2:Hj prog 117 0 0:=.mk underlying117 rfl rfl (show prog.info? 4=some Tryz.t4 from by kernel_rfl) (show Tryz.t4.size=1 from by kernel_rfl) rfl
instance:Cd prog 117 0 0:=⟨Ai2⟩
theorem Xw:Hj prog 117 1 1:=.mk underlying117 rfl rfl (show prog.info? 42=some t42 from by kernel_rfl) (show t42.size=1 from by kernel_rfl) rfl
instance:Cd prog 117 1 1:=⟨Xw⟩
instance:Kb prog 117 [] [.bool false,.slice none 0 0]:=⟨fun w=>kr⟩
theorem Ul:Ol prog 173 [.bool false,.slice none 0 0,.slice none 0 0]:=⟨_,zeroValue173,rfl⟩
instance:Ub prog 173 [.bool false,.slice none 0 0,.slice none 0 0]:=⟨Ul⟩
theorem Zo(x0:Bool)(x1:Option Addr)(x2:Nat)(x3:Nat)(x4:Option Addr)(x5:Nat)(x6:Nat):Ui prog 173 [(0,.agg #[.bool x0,.slice x1 x2 x3]),(1,.slice x4 x5 x6)] [.bool x0,.slice x1 x2 x3,.slice x4 x5 x6]:=fun w=>kr
instance(x0:Bool)(x1:Option Addr)(x2:Nat)(x3:Nat)(x4:Option Addr)(x5:Nat)(x6:Nat):Kb prog 173 [(0,.agg #[.bool x0,.slice x1 x2 x3]),(1,.slice x4 x5 x6)] [.bool x0,.slice x1 x2 x3,.slice x4 x5 x6]:=⟨Zo _ _ _ _ _ _ _⟩
theorem Cy:Qx prog 173 3:=.mk underlying173 rfl (show prog.info? 173=some t173 from by kernel_rfl) kr
instance:AggI prog 173 3:=⟨Cy⟩
instance:Cd prog 173 0 0:=⟨.mk underlying173 rfl rfl (show prog.info? 117=some t117 from by kernel_rfl) (show t117.size=2 from by kernel_rfl) rfl⟩
instance:Cd prog 173 1 2:=⟨.mk underlying173 rfl rfl (show prog.info? 42=some t42 from by kernel_rfl) (show t42.size=1 from by kernel_rfl) rfl⟩
instance(x0:Bool)(x1:Option Addr)(x2:Nat)(x3:Nat)(x4:Option Addr)(x5:Nat)(x6:Nat):Asb prog 173 [.bool x0,.slice x1 x2 x3,.slice x4 x5 x6] 0 (.agg #[.bool x0,.slice x1 x2 x3]):=⟨fun w=>kr⟩
theorem Aed:Na prog 177 173 3:=.mk underlying177 (show prog.info? 173=some t173 from by kernel_rfl) kr
instance:Pp prog 177 173 3:=⟨Aed⟩
def Hv(p0:Ah)(p1:Ah):Option Ah :=
 if (p0.Neg == p1.Neg)=true then (bnd (Hg p0.L p1.L) fun r6=>
 some (⟨p0.Neg,r6⟩:Ah))
 else (bnd (Ee p0.L p1.L) fun r0=>
 if r0=0 then (some (⟨false,([]:List Int)⟩:Ah))
 else (if 0<r0 then (bnd (Ei p0.L p1.L) fun r1=>
 some (⟨p0.Neg,r1⟩:Ah))
 else (bnd (Ei p1.L p0.L) fun r2=>
 some (⟨p1.Neg,r2⟩:Ah))))
def Eb(p0:Ah):Option Ah :=
 jn (fun (s2:Bool)=>
 some (⟨s2,p0.L⟩:Ah))
 (fun j2=>if p0.Neg=true then (j2 false)
 else (j2 (decide (0<(p0.L.length:Int)))))
def Bc(p0:Ah)(p1:Ah):Option Ah :=
 bnd (Ct p0.L p1.L) fun r4=>
 jn (fun (s3:Bool)=>
 some (⟨s3,r4⟩:Ah))
 (fun j3=>if (p0.Neg == p1.Neg)=true then (j3 false)
 else (j3 (decide (0<(r4.length:Int)))))
def Fe(p0:Ah):Option Int :=
 if (p0.L.length:Int)=0 then (some 0)
 else (if p0.Neg=true then (some (-1))
 else (some 1))
def Dj(p0:Ah)(p1:Ah):Option Int :=
 bnd (Eb p1) fun r3=>
 bnd (Hv p0 r3) fun r8=>
 bnd (Fe r8) fun r0=>
 some r0
def Em(p0:Ah):(Int × Int)->Option (Sum (Int × Int) Int):=fun s0=>
 if 0<=s0.2 then (bnd (idx p0.L s0.2) fun x0=>
 some (.inl (w64 ((w64 (s0.1*65536))+x0),w64 (s0.2-1))))
 else (some (.inr s0.1))
def Jl(p0:Ah):Option (Int × Bool):=
 jn (fun (s3:Bool)=>
 if s3=true then (some (0,false))
 else (jn (fun (s6:Int)=>
 jn (fun (s0:Bool)=>
 if s0=true then (some (0,false))
 else (jn (fun (s1:Int)=>
 some (s1,true))
 (fun j0=>if p0.Neg=true then (j0 (w64 (-s6)))
 else (j0 s6))))
 (fun j1=>if s6<0 then (j1 true)
 else (j1 (decide (4611686018427387904<s6)))))
 (fun j6=>bnd (lfix (Em p0) (0,w64 ((p0.L.length:Int)-1))) fun t0=>
 j6 t0)))
 (fun j3=>if 4<(p0.L.length:Int) then (j3 true)
 else (if (p0.L.length:Int)=4 then (bnd (idx p0.L 3) fun x7=>
 j3 (decide (16384<x7)))
 else (j3 false)))
def Gv(p0:Ah)(p1:Ah):Option Ah :=
 bnd (Fj p0.L p1.L) fun r4=>
 if p0.Neg=true then (jn (fun (s6:List Int)=>
 some (⟨decide (0<(s6.length:Int)),s6⟩:Ah))
 (fun j6=>if 0<(r4.2.length:Int) then (bnd (Hg r4.1 ([1])) fun r0=>
 j6 r0)
 else (j6 r4.1)))
 else (some (⟨false,r4.1⟩:Ah))
def Dq(p0:Ah)(p1:Ah):Option Al :=
 bnd (Sc p0.L p1.L) fun r4=>
 bnd (Fj p0.L r4) fun r0=>
 bnd (Fj p1.L r4) fun r1=>
 jn (fun (s5:Bool)=>
 some (⟨(⟨s5,r0.1⟩:Ah),r1.1⟩:Al))
 (fun j5=>if p0.Neg=true then (j5 (decide (0<(r0.1.length:Int))))
 else (j5 false))
def Cq(p0:Int):Option Al :=
 bnd (Bh p0) fun r2=>
 some (⟨r2,[1]⟩:Al)
def Cr(p0:Al)(p1:Al):Option Al :=
 bnd (Bc p0.N (⟨false,p1.D⟩:Ah)) fun r4=>
 bnd (Bc p1.N (⟨false,p0.D⟩:Ah)) fun r9=>
 bnd (Hv r4 r9) fun r0=>
 bnd (Ct p0.D p1.D) fun r1=>
 bnd (Dq r0 (⟨false,r1⟩:Ah)) fun r2=>
 some r2
def Hw(p0:Al):Option Al :=
 bnd (Eb p0.N) fun r3=>
 some (⟨r3,p0.D⟩:Al)
def Db(p0:Al)(p1:Al):Option Al :=
 bnd (Hw p1) fun r4=>
 bnd (Cr p0 r4) fun r0=>
 some r0
def Ds(p0:Al)(p1:Al):Option Al :=
 bnd (Bc p0.N p1.N) fun r4=>
 bnd (Ct p0.D p1.D) fun r9=>
 bnd (Dq r4 (⟨false,r9⟩:Ah)) fun r0=>
 some r0
def Oq(p0:Al)(p1:Al):Option Al :=
 bnd (Bc p0.N (⟨false,p1.D⟩:Ah)) fun r4=>
 bnd (Bc p1.N (⟨false,p0.D⟩:Ah)) fun r9=>
 jn (fun (s3:Bool × List Int × List Int)=>
 some (⟨(⟨s3.1,s3.2.1⟩:Ah),s3.2.2⟩:Al))
 (fun j3=>if (r4.Neg == r9.Neg)=true then (bnd (Dq (⟨false,r4.L⟩:Ah) (⟨false,r9.L⟩:Ah)) fun r0=>
 j3 (r0.N.Neg,r0.N.L,r0.D))
 else (bnd (Dq (⟨decide (0<(r4.L.length:Int)),r4.L⟩:Ah) (⟨false,r9.L⟩:Ah)) fun r1=>
 j3 (r1.N.Neg,r1.N.L,r1.D)))
def Hx(p0:Al)(p1:Al):Option Int :=
 bnd (Db p0 p1) fun r3=>
 bnd (Fe r3.N) fun r0=>
 some r0
def Fz(p0:Al):Option Ah :=
 bnd (Gv p0.N (⟨false,p0.D⟩:Ah)) fun r3=>
 some r3
def Iz(p0:Al):Option Ah :=
 bnd (Hw p0) fun r3=>
 bnd (Fz r3) fun r0=>
 bnd (Eb r0) fun r1=>
 some r1
def Le(p0:Ah):Option (Int × Int):=
 bnd (Jl p0) fun r2=>
 jn (fun (s4:Bool)=>
 if s4=true then (some (0,3))
 else (some (r2.1,0)))
 (fun j4=>if r2.2=true then (if r2.1<(-1152921504606846976) then (j4 true)
 else (j4 (decide (1152921504606846976<r2.1))))
 else (j4 true))
def Ab1(K:List Ent)(x:Al)(ys:List Value):Prop:=∃ (A0:Option Addr) (c0:Nat) (A1:Option Addr) (c1:Nat),ys=[.bool x.N.Neg,.slice A0 x.N.L.length c0,.slice A1 x.D.length c1]/\Has K A0 x.N.L.length c0 1 Ag x.N.L/\Has K A1 x.D.length c1 1 Ag x.D
instance:UndI prog 177 (.slice 173):=⟨underlying177⟩
def Gb(p0:List Al):(Bool × List Int × List Int × Bool × List Int × List Int × Int)->Option (Sum (Bool × List Int × List Int × Bool × List Int × List Int × Int) (Bool × List Int × List Int × Bool × List Int × List Int)):=fun s0=>
 if s0.2.2.2.2.2.2<(p0.length:Int) then (jn (fun (s1:Bool × List Int × List Int × Bool × List Int × List Int)=>
 some (.inl (s1.1,s1.2.1,s1.2.2.1,s1.2.2.2.1,s1.2.2.2.2.1,s1.2.2.2.2.2,w64 (s0.2.2.2.2.2.2+1))))
 (fun j0=>jn (fun (s2:Bool × List Int × List Int)=>
 bnd (idx p0 s0.2.2.2.2.2.2) fun x0=>
 bnd (Hx x0 (⟨(⟨s0.2.2.2.1,s0.2.2.2.2.1⟩:Ah),s0.2.2.2.2.2.1⟩:Al)) fun r0=>
 if 0<r0 then (bnd (idx p0 s0.2.2.2.2.2.2) fun x1=>
 j0 (s2.1,s2.2.1,s2.2.2,x1.N.Neg,x1.N.L,x1.D))
 else (j0 (s2.1,s2.2.1,s2.2.2,s0.2.2.2.1,s0.2.2.2.2.1,s0.2.2.2.2.2.1)))
 (fun j1=>bnd (idx p0 s0.2.2.2.2.2.2) fun x2=>
 bnd (Hx x2 (⟨(⟨s0.1,s0.2.1⟩:Ah),s0.2.2.1⟩:Al)) fun r1=>
 if r1<0 then (bnd (idx p0 s0.2.2.2.2.2.2) fun x3=>
 j1 (x3.N.Neg,x3.N.L,x3.D))
 else (j1 (s0.1,s0.2.1,s0.2.2.1)))))
 else (some (.inr (s0.1,s0.2.1,s0.2.2.1,s0.2.2.2.1,s0.2.2.2.2.1,s0.2.2.2.2.2.1)))
def Ne(p0:List Al):Option (Ax × Int):=
 jn (fun (s2:Bool × List Int × List Int × Bool × List Int × List Int)=>
 jn (fun (s3:Bool × List Int × List Int × Bool × List Int × List Int)=>
 bnd (Fz (⟨(⟨s3.1,s3.2.1⟩:Ah),s3.2.2.1⟩:Al)) fun r0=>
 bnd (Le r0) fun r1=>
 bnd (Iz (⟨(⟨s3.2.2.2.1,s3.2.2.2.2.1⟩:Ah),s3.2.2.2.2.2⟩:Al)) fun r2=>
 bnd (Le r2) fun r3=>
 jn (fun (s0:Bool)=>
 if s0=true then (some ((⟨0,0⟩:Ax),3))
 else (some ((⟨r1.1,r3.1⟩:Ax),0)))
 (fun j0=>if r1.2=0 then (j0 (!(decide (r3.2=0))))
 else (j0 true)))
 (fun j3=>bnd (lfix (Gb p0) (s2.1,s2.2.1,s2.2.2.1,s2.2.2.2.1,s2.2.2.2.2.1,s2.2.2.2.2.2,1)) fun t0=>
 j3 t0))
 (fun j2=>bnd (idx p0 0) fun x2=>
 bnd (idx p0 0) fun x0=>
 j2 (x2.N.Neg,x2.N.L,x2.D,x0.N.Neg,x0.N.L,x0.D))
instance lidarref01_Int_Add_c(p0:Ah)(p1:Ah):Con (Hv p0 p1) prog 145 (fun K vs=>∃ U0 E0 U1 E1,vs=[.agg #[.bool p0.Neg,.slice U0 p0.L.length E0],.agg #[.bool p1.Neg,.slice U1 p1.L.length E1]]/\Has K U0 p0.L.length E0 1 Ag p0.L/\Has K U1 p1.L.length E1 1 Ag p1.L/\True) (fun _ r=>fun v Ln=>∃ A0 c0,v = .agg #[.bool r.Neg,.slice A0 r.L.length c0]/\Ln=[.r A0 r.L.length c0 3 1 (r.L.flatMap Ag)]/\True):=⟨by
 rintro K _ r ⟨U0,E0,U1,E1,rfl,ha0,ha1,-⟩ hx w hK;replace ha0:=Has.lo ha0 hK;replace ha1:=Has.lo ha1 hK;unfold Hv at hx;have:=dl 2 [0,1,0,1,0,1,2,0,3] [0,1,2,3,4,5,6,7,8];have:=dl 7 [0,1,0,1,0,1,2,0,3] [0,1,2,3,4,5,6,7,8];have:=dl 8 [0,1,0,1,0,1,2,0,3] [0,1,2,3,4,5,6,7,8];refine CtS ntmps145 results145 ?_;exact au⟩
instance lidarref01_Int_Minus_c(p0:Ah):ConB (Eb p0) prog 146 (fun K vs=>∃ U0 E0,vs=[.agg #[.bool p0.Neg,.slice U0 p0.L.length E0]]/\Has K U0 p0.L.length E0 1 Ag p0.L/\True) (fun K r=>fun v Ln=>∃ A0 c0 e,v = .agg #[.bool r.Neg,.slice A0 r.L.length c0]/\Ln=[e]/\Has (K++[e]) A0 r.L.length c0 1 Ag r.L/\True):=⟨by
 rintro K _ r ⟨U0,E0,rfl,ha0,-⟩ hx w hK;unfold Eb at hx;refine CtS ntmps146 results146 ?_;exact au⟩
instance lidarref01_Int_Mul_c(p0:Ah)(p1:Ah):Con (Bc p0 p1) prog 89 (fun K vs=>∃ U0 E0 U1 E1,vs=[.agg #[.bool p0.Neg,.slice U0 p0.L.length E0],.agg #[.bool p1.Neg,.slice U1 p1.L.length E1]]/\Has K U0 p0.L.length E0 1 Ag p0.L/\Has K U1 p1.L.length E1 1 Ag p1.L/\True) (fun _ r=>fun v Ln=>∃ A0 c0,v = .agg #[.bool r.Neg,.slice A0 r.L.length c0]/\Ln=[.r A0 r.L.length c0 3 1 (r.L.flatMap Ag)]/\True):=⟨by
 rintro K _ r ⟨U0,E0,U1,E1,rfl,ha0,ha1,-⟩ hx w hK;replace ha0:=Has.lo ha0 hK;replace ha1:=Has.lo ha1 hK;unfold Bc at hx;refine CtS ntmps89 results89 ?_;exact au⟩
instance lidarref01_Int_Sign_c(p0:Ah):Con (Fe p0) prog 147 (fun K vs=>∃ U0 E0,vs=[.agg #[.bool p0.Neg,.slice U0 p0.L.length E0]]/\Has K U0 p0.L.length E0 1 Ag p0.L/\True) (fun _ r=>fun v Ln=>v = iq r/\Ln=[]/\True):=⟨by
 rintro K _ r ⟨U0,E0,rfl,ha0,-⟩ hx w hK;replace ha0:=Has.lo ha0 hK;unfold Fe at hx;refine CtS ntmps147 results147 ?_;exact au⟩
instance lidarref01_Int_Cmp_c(p0:Ah)(p1:Ah):Con (Dj p0 p1) prog 90 (fun K vs=>∃ U0 E0 U1 E1,vs=[.agg #[.bool p0.Neg,.slice U0 p0.L.length E0],.agg #[.bool p1.Neg,.slice U1 p1.L.length E1]]/\Has K U0 p0.L.length E0 1 Ag p0.L/\Has K U1 p1.L.length E1 1 Ag p1.L/\True) (fun _ r=>fun v Ln=>v = iq r/\Ln=[]/\True):=⟨by
 rintro K _ r ⟨U0,E0,U1,E1,rfl,ha0,ha1,-⟩ hx w hK;replace ha0:=Has.lo ha0 hK;replace ha1:=Has.lo ha1 hK;unfold Dj at hx;have:=dl 1 [1,1,2,2,2,2] [0,1,2,3,4,5];refine CtS ntmps90 results90 ?_;exact au⟩
instance lidarref01_Int_Fits_c(p0:Ah):Con (Jl p0) prog 259 (fun K vs=>∃ U0 E0,vs=[.agg #[.bool p0.Neg,.slice U0 p0.L.length E0]]/\Has K U0 p0.L.length E0 1 Ag p0.L/\True) (fun _ r=>fun v Ln=>v = .tuple #[iq r.1,.bool r.2]/\Ln=[]/\True):=⟨by
 rintro K _ r ⟨U0,E0,rfl,ha0,-⟩ hx w hK;replace ha0:=Has.lo ha0 hK;unfold Jl at hx;refine CtS ntmps259 results259 ?_;try (refine pre ?_;intros;rename_i hx)
 refine Bl ?_;try (refine pre ?_;intros;rename_i hx)
 refine Bl ?_;try (refine pre ?_;intros;rename_i hx)
 apply Jr (γ:=Unit) hx [1] (fun s3 y3 f=>(22,.bool s3)::f) [0,999] (fun s3 y3 l=>l);exact kk
 ·intro s3 y3 hx;refine Cq3 (s:=22) hx rfl (fun _ hx=>?_) (fun _ hx=>?_)
  ·exact au
  ·try (refine pre ?_;intros;rename_i hx)
   refine Bl ?_;try (refine pre ?_;intros;rename_i hx)
   apply Jr (γ:=Unit) hx [1] (fun s6 y6 f=>(4,iq s6)::f) [0,999] (fun s6 y6 l=>l);exact kk
   ·intro s6 y6 hx;exact au
   ·intro _ hx;try (refine pre ?_;intros;rename_i hx)
    apply Lr (γ:=Unit) hx [1] (fun s0 y0 f=>(4,iq s0.1)::(5,iq s0.2)::f) [0,999] (fun s0 y0 l=>l) ();exact kk;exact sk;intro s0 y0 x0 hx _;unfold Em at hx;exact au
 ·intro _ hx;exact au⟩
theorem Aaz(p0:Ah)(p1:Ah){K:List Ent}{U0:Option Addr}{E0:Nat}{U1:Option Addr}{E1:Nat}(ha0:Has K U0 p0.L.length E0 1 Ag p0.L)(ha1:Has K U1 p1.L.length E1 1 Ag p1.L){r:Ah}(hx:Gv p0 p1=some r)(w:World)(hK:∀ e∈K,Ent.ok w e):CtL prog 260 [.agg #[.bool p0.Neg,.slice U0 p0.L.length E0],.agg #[.bool p1.Neg,.slice U1 p1.L.length E1]] w fun v Ln=>∃ (A0:Option Addr) (c0:Nat),v = .agg #[.bool r.Neg,.slice A0 r.L.length c0]/\Ln=[.r A0 r.L.length c0 3 1 (r.L.flatMap Ag)]/\True:=by
 have ha0':=Has.up0 ha0;have ha1':=Has.up0 ha1;refine CtL.mk 31 func260 rfl ntmps260 kr rfl ?_;show T 31 _ [(0,.agg #[.bool p0.Neg,.slice U0 p0.L.length E0]),(1,.agg #[.bool p1.Neg,.slice U1 p1.L.length E1])] _;unfold Gv at hx;refine Y2 ?_;refine T_x (Pn rfl rfl rfl (fun g1=>?_));refine T_x (Pn rfl rfl rfl (fun g2=>?_));refine T_x (Bu Ay9 rfl (fun g3=>?_));refine Y4 ?_;refine As (Be rfl Xw rfl) rfl ?_;refine As (Bf rfl (i:=2) rfl rfl Acf) rfl ?_;refine As (Be rfl Xw rfl) rfl ?_;refine As (Bf rfl (i:=1) rfl rfl Acf) rfl ?_;obtain⟨r4,h5,hx6⟩:=An hx;refine T_x (Bv rfl (fun w1 hw1=>Nu p0.L p1.L (Has.len' ha0') (Has.len' ha1') h5 w1 (Qz (K:=K) (K2:=[]) hK (by exact (sb 3)) (by exact SubE.nil) hw1)) rfl ?_);rintro _ _ hlo ⟨A7,c8,A9,c1,e0,rfl,rfl,hs0,-⟩;have lo13:=hlo e0 (by simp);refine Zs ?_;have hs1:Has (K++[e0]) _ _ _ _ _ _:=Has.assoc hs0;refine Y10 ?_;refine As (Be rfl Ai2 rfl) rfl ?_;refine As (Bf rfl (i:=4) rfl rfl one4) rfl ?_;refine Y3 ?_;refine Wa (s:=17) rfl (fun h0=>?_) (fun h0=>?_)
 ·have hx0:=Kd h0 hx6;refine Y4 ?_;refine As (Ex rfl (Wi _ _ _ _)) rfl ?_;refine T_h (Az rfl rfl rfl (.there (.there (.here))) (.put (.put (.done))) rfl (List.cons_ne_nil _ _) Akh.2 ?_);refine Y4 ?_;obtain rfl:=Option.some.inj hx0;exact Cz (rs:=[.cell 4 117]) results260 (.cell rfl (i:=2) rfl rfl Akh (.nil)) (Ln:=[.r A7 r4.1.length c8 3 1 (r4.1.flatMap Ag)]) ⟨A7,c8,rfl,rfl,trivial⟩ (Bm rfl Co) (by exact .pick 0 rfl (.drop 0 rfl (.drop 0 rfl (.drop 0 rfl (.drop 0 rfl (.refl))))))
 ·have hx1:=Gp h0 hx6;refine Y3 ?_;refine Tj (γ:=Option Addr × Nat) hx1 (fun s6 y6=>[(4,.pointer (some ⟨g3,0,none⟩)),(5,.slice y6.1 s6.length y6.2)]) (fun s6 y6=>[.r y6.1 s6.length y6.2 3 1 (s6.flatMap Ag),.m g3 117 [.bool false,.slice none 0 0]]++[.old w]) (fun s6 y6=>True) (fun s6 y6 hx2 hG0=>?_) (fun j6 hx1=>?_)
  ·refine Y3 ?_;refine As (Dn rfl 3 underlying42) rfl ?_;refine Y2 ?_;refine As (Ex rfl (Wi _ _ _ _)) rfl ?_;refine T_h (Az rfl rfl rfl (.there (.here)) (.put (.put (.done))) rfl (List.cons_ne_nil _ _) Akh.2 ?_);refine Y3 ?_;obtain rfl:=Option.some.inj hx2;exact Cz (rs:=[.cell 4 117]) results260 (.cell rfl (i:=1) rfl rfl Akh (.nil)) (Ln:=[.r y6.1 s6.length y6.2 3 1 (s6.flatMap Ag)]) ⟨y6.1,y6.2,rfl,rfl,trivial⟩ (Bm rfl Co) (by exact .pick 0 rfl (.drop 0 rfl (.refl)))
  ·refine Y3 ?_;refine As (Dn rfl 3 underlying42) rfl ?_;refine Y3 ?_;refine Ti hx1 (s:=22) rfl (fun h1 hx3=>?_) (fun h1 hx4=>?_)
   ·refine Y3 ?_;refine T_x (By rfl (Im _) rfl (fun g0=>?_));refine Es (k:=1) rfl dD (fun _=>rfl) (fun hn0 hs2=>?_);have hs3:Has [.m g0 3 [iq 1]] (some ⟨g0,0,none⟩) 1 1 1 Ag [1]:=Has.ofM (fun _ _=>rfl) rfl dD rfl;obtain⟨r0,h2,hx5⟩:=An hx3;refine T_x (Bv rfl (fun w1 hw1=>Ae7 r4.1 ([1]) (Has.len' (Has.up (L:=([.r A7 r4.1.length c8 3 1 (r4.1.flatMap Ag),.m g0 3 [iq 1]]:List Ent)) hs2 (sb 0))) (Has.len' (Has.up (L:=([.r A7 r4.1.length c8 3 1 (r4.1.flatMap Ag),.m g0 3 [iq 1]]:List Ent)) hs3 (sb 1))) h2 w1 (Wc (K:=([.r A7 r4.1.length c8 3 1 (r4.1.flatMap Ag),.m g0 3 [iq 1]]:List Ent)) (by exact (SubE.cons2 (i:=1) rfl (sb 0))) hw1)) rfl ?_);rintro _ _ hlo ⟨A1,c2,rfl,rfl,-⟩;refine Jj ?_;refine Y2 ?_;exact Mt r0 (A1,c2) hx5 trivial (by exact .pick 0 rfl (.pick 3 rfl (.drop 0 rfl (.drop 0 rfl (.drop 0 rfl (.drop 0 rfl (.drop 0 rfl (.refl))))))))
   ·refine Y2 ?_;exact Mt r4.1 (A7,c8) hx4 trivial (by exact .pick 0 rfl (.pick 1 rfl (.drop 0 rfl (.drop 0 rfl (.drop 0 rfl (.refl))))))
instance lidarref01_Int_Down_c(p0:Ah)(p1:Ah):Con (Gv p0 p1) prog 260 (fun K vs=>∃ U0 E0 U1 E1,vs=[.agg #[.bool p0.Neg,.slice U0 p0.L.length E0],.agg #[.bool p1.Neg,.slice U1 p1.L.length E1]]/\Has K U0 p0.L.length E0 1 Ag p0.L/\Has K U1 p1.L.length E1 1 Ag p1.L/\True) (fun _ r=>fun v Ln=>∃ A0 c0,v = .agg #[.bool r.Neg,.slice A0 r.L.length c0]/\Ln=[.r A0 r.L.length c0 3 1 (r.L.flatMap Ag)]/\True):=⟨by
 rintro K _ r ⟨U0,E0,U1,E1,rfl,ha0,ha1,-⟩ hx w hK;exact Aaz p0 p1 ha0 ha1 hx w hK⟩
theorem Aee(p0:Ah)(p1:Ah){K:List Ent}{U0:Option Addr}{E0:Nat}{U1:Option Addr}{E1:Nat}(ha0:Has K U0 p0.L.length E0 1 Ag p0.L)(ha1:Has K U1 p1.L.length E1 1 Ag p1.L){r:Al}(hx:Dq p0 p1=some r)(w:World)(hK:∀ e∈K,Ent.ok w e):CtL prog 302 [.agg #[.bool p0.Neg,.slice U0 p0.L.length E0],.agg #[.bool p1.Neg,.slice U1 p1.L.length E1]] w fun v Ln=>∃ (A0:Option Addr) (c0:Nat) (A2:Option Addr) (c2:Nat),v = .agg #[.bool r.N.Neg,.slice A0 r.N.L.length c0,.slice A2 r.D.length c2]/\Ln=[.r A0 r.N.L.length c0 3 1 (r.N.L.flatMap Ag),.r A2 r.D.length c2 3 1 (r.D.flatMap Ag)]/\True:=by
 have ha0':=Has.up0 ha0;have ha1':=Has.up0 ha1;refine CtL.mk 40 func302 rfl ntmps302 kr rfl ?_;show T 40 _ [(0,.agg #[.bool p0.Neg,.slice U0 p0.L.length E0]),(1,.agg #[.bool p1.Neg,.slice U1 p1.L.length E1])] _;unfold Dq at hx;refine Y2 ?_;refine T_x (Pn rfl rfl rfl (fun g1=>?_));refine T_x (Pn rfl rfl rfl (fun g2=>?_));refine T_x (Bu Ul rfl (fun g3=>?_));refine Y4 ?_;refine As (Be rfl Xw rfl) rfl ?_;refine As (Bf rfl (i:=2) rfl rfl Acf) rfl ?_;refine As (Be rfl Xw rfl) rfl ?_;refine As (Bf rfl (i:=1) rfl rfl Acf) rfl ?_;obtain⟨r4,h5,hx6⟩:=An hx;refine T_x (Bv rfl (fun w1 hw1=>Agd p0.L p1.L (Has.len' ha0') (Has.len' ha1') h5 w1 (Qz (K:=K) (K2:=[]) hK (by exact (sb 3)) (by exact SubE.nil) hw1)) rfl ?_);rintro _ _ hlo ⟨A7,c8,e9,rfl,rfl,hs0,-⟩;have lo11:=hlo e9 (by simp);refine Jj ?_;have hs1:Has (K++[e9]) _ _ _ _ _ _:=Has.assoc hs0;refine Y5 ?_;refine As (Be rfl Xw rfl) rfl ?_;refine As (Bf rfl (i:=3) rfl rfl Acf) rfl ?_;refine Y ?_;obtain⟨r0,h0,hx0⟩:=An hx6;refine T_x (Bv rfl (fun w1 hw1=>Nu p0.L r4 (Has.len' (Has.up (L:=(K++[e9])) ha0' (SubE.app2 SubE.nil))) (Has.len' hs1) h0 w1 (Qz (K:=K) (K2:=[e9]) hK (by exact (sb 4)) (by exact (sb 0)) hw1)) rfl ?_);rintro _ _ hlo ⟨A1,c1,A3,c3,e0,rfl,rfl,hs2,-⟩;have lo22:=hlo e0 (by simp);refine Zs ?_;have hs3:Has (K++[e9,e0]) _ _ _ _ _ _:=Has.assoc hs2;refine Y9 ?_;refine As (Be rfl Xw rfl) rfl ?_;refine As (Bf rfl (i:=4) rfl rfl Acf) rfl ?_;refine Y ?_;obtain⟨r1,h1,hx1⟩:=An hx0;refine T_x (Bv rfl (fun w1 hw1=>Nu p1.L r4 (Has.len' (Has.up (L:=(K++[e9])) ha1' (SubE.app2 SubE.nil))) (Has.len' hs1) h1 w1 (Qz (K:=K) (K2:=[e9]) hK (by exact (sb 6)) (by exact (sb 2)) hw1)) rfl ?_);rintro _ _ hlo ⟨A4,c4,A5,c5,e1,rfl,rfl,hs4,-⟩;have lo33:=hlo e1 (by simp);refine Zs ?_;have hs5:Has (K++[e9,e1]) _ _ _ _ _ _:=Has.assoc hs4;refine Y7 ?_;refine Tj (γ:=Unit) hx1 (fun s5 y5=>[(4,.pointer (some ⟨g3,0,none⟩))]) (fun s5 y5=>[.r A4 r1.1.length c4 3 1 (r1.1.flatMap Ag),.r A1 r0.1.length c1 3 1 (r0.1.flatMap Ag),.m g3 173 [.bool s5,.slice A1 r0.1.length c1,.slice A4 r1.1.length c4]]++[.old w]) (fun s5 y5=>True) (fun s5 y5 hx2 hG0=>?_) (fun j5 hx1=>?_)
 ·refine Y ?_;obtain rfl:=Option.some.inj hx2;exact Cz (rs:=[.cell 4 173]) results302 (.cell rfl (i:=2) rfl rfl Cy (.nil)) (Ln:=[.r A1 r0.1.length c1 3 1 (r0.1.flatMap Ag),.r A4 r1.1.length c4 3 1 (r1.1.flatMap Ag)]) ⟨A1,c1,A4,c4,rfl,rfl,trivial⟩ (Bm rfl (Bm rfl Co)) (by exact .pick 1 rfl (.pick 0 rfl (.drop 0 rfl (.refl))))
 ·refine Y ?_;refine As (Be rfl Ai2 rfl) rfl ?_;refine As (Bf rfl (i:=7) rfl rfl one4) rfl ?_;refine Y ?_;refine Io (s:=31) rfl (fun h2=>?_) (fun h2=>?_)
  ·have hx3:=Gp h2 hx1;refine Y ?_;refine Pm rfl rfl rfl (Dn rfl 3 underlying42) rfl ?_;refine Y3 ?_;refine As (Ex rfl (Wi _ _ _ _)) rfl ?_;refine Y ?_;refine As (Ex rfl (Zo _ _ _ _ _ _ _)) rfl ?_;refine T_h (Az rfl rfl rfl (.there (.there (.there (.there (.there (.here)))))) (.put (.put (.put (.done)))) rfl (List.cons_ne_nil _ _) Cy.2 ?_);refine Y ?_;exact Mt (decide (0<(r0.1.length:Int))) () hx3 trivial (by exact .pick 0 rfl (.pick 1 rfl (.pick 3 rfl (.drop 0 rfl (.drop 0 rfl (.drop 0 rfl (.drop 0 rfl (.drop 0 rfl (.refl)))))))))
  ·have hx4:=Kd h2 hx1;refine Y5 ?_;refine As (Ex rfl (Wi _ _ _ _)) rfl ?_;refine Y ?_;refine As (Ex rfl (Zo _ _ _ _ _ _ _)) rfl ?_;refine T_h (Az rfl rfl rfl (.there (.there (.there (.there (.there (.here)))))) (.put (.put (.put (.done)))) rfl (List.cons_ne_nil _ _) Cy.2 ?_);refine Y ?_;exact Mt false () hx4 trivial (by exact .pick 0 rfl (.pick 1 rfl (.pick 3 rfl (.drop 0 rfl (.drop 0 rfl (.drop 0 rfl (.drop 0 rfl (.drop 0 rfl (.refl)))))))))
instance lidarref01_Frac_c(p0:Ah)(p1:Ah):Con (Dq p0 p1) prog 302 (fun K vs=>∃ U0 E0 U1 E1,vs=[.agg #[.bool p0.Neg,.slice U0 p0.L.length E0],.agg #[.bool p1.Neg,.slice U1 p1.L.length E1]]/\Has K U0 p0.L.length E0 1 Ag p0.L/\Has K U1 p1.L.length E1 1 Ag p1.L/\True) (fun _ r=>fun v Ln=>∃ A0 c0 A2 c2,v = .agg #[.bool r.N.Neg,.slice A0 r.N.L.length c0,.slice A2 r.D.length c2]/\Ln=[.r A0 r.N.L.length c0 3 1 (r.N.L.flatMap Ag),.r A2 r.D.length c2 3 1 (r.D.flatMap Ag)]/\True):=⟨by
 rintro K _ r ⟨U0,E0,U1,E1,rfl,ha0,ha1,-⟩ hx w hK;exact Aee p0 p1 ha0 ha1 hx w hK⟩
instance lidarref01_Whole_c(p0:Int):Con (Cq p0) prog 253 (fun _ vs=>vs=[iq p0]) (fun _ r=>fun v Ln=>∃ A0 c0 A2 c2,v = .agg #[.bool r.N.Neg,.slice A0 r.N.L.length c0,.slice A2 r.D.length c2]/\Ln=[.r A0 r.N.L.length c0 3 1 (r.N.L.flatMap Ag),.r A2 r.D.length c2 3 1 (r.D.flatMap Ag)]/\True):=⟨by
 rintro _ _ r rfl hx w hK;unfold Cq at hx;refine CtS ntmps253 results253 ?_;try (refine pre ?_;intros;rename_i hx)
 (with_reducible apply Ali 5 (sz:=1));exact rfl;exact aT;exact inferInstance;exact dL;exact (fun _=>rfl);exact rfl;exact rfl;exact sA
 exact au⟩
instance lidarref01_Q_Add_c(p0:Al)(p1:Al):Con (Cr p0 p1) prog 254 (fun K vs=>∃ U0 E0 U1 E1 U2 E2 U3 E3,vs=[.agg #[.bool p0.N.Neg,.slice U0 p0.N.L.length E0,.slice U1 p0.D.length E1],.agg #[.bool p1.N.Neg,.slice U2 p1.N.L.length E2,.slice U3 p1.D.length E3]]/\Has K U0 p0.N.L.length E0 1 Ag p0.N.L/\Has K U1 p0.D.length E1 1 Ag p0.D/\Has K U2 p1.N.L.length E2 1 Ag p1.N.L/\Has K U3 p1.D.length E3 1 Ag p1.D/\True) (fun _ r=>fun v Ln=>∃ A0 c0 A2 c2,v = .agg #[.bool r.N.Neg,.slice A0 r.N.L.length c0,.slice A2 r.D.length c2]/\Ln=[.r A0 r.N.L.length c0 3 1 (r.N.L.flatMap Ag),.r A2 r.D.length c2 3 1 (r.D.flatMap Ag)]/\True):=⟨by
 rintro K _ r ⟨U0,E0,U1,E1,U2,E2,U3,E3,rfl,ha0,ha1,ha2,ha3,-⟩ hx w hK;replace ha0:=Has.lo ha0 hK;replace ha1:=Has.lo ha1 hK;replace ha2:=Has.lo ha2 hK;replace ha3:=Has.lo ha3 hK;unfold Cr at hx;have:=dl 1 [0,1,0,1,0,2,0,1,0,1,0,2,2,0,1,0,1,2,0,2,3] [0,1,2,3,4,6,7,8,9,10,13,14,15,16,5,11,12,17,18,19,20];refine CtS ntmps254 results254 ?_;exact au⟩
instance lidarref01_Q_Minus_c(p0:Al):ConB (Hw p0) prog 261 (fun K vs=>∃ U0 E0 U1 E1,vs=[.agg #[.bool p0.N.Neg,.slice U0 p0.N.L.length E0,.slice U1 p0.D.length E1]]/\Has K U0 p0.N.L.length E0 1 Ag p0.N.L/\Has K U1 p0.D.length E1 1 Ag p0.D/\True) (fun K r=>fun v Ln=>∃ A0 c0 A2 c2 e,v = .agg #[.bool r.N.Neg,.slice A0 r.N.L.length c0,.slice A2 r.D.length c2]/\Ln=[e]/\Has (K++[e]) A0 r.N.L.length c0 1 Ag r.N.L/\Has (K++[e]) A2 r.D.length c2 1 Ag r.D/\True):=⟨by
 rintro K _ r ⟨U0,E0,U1,E1,rfl,ha0,ha1,-⟩ hx w hK;unfold Hw at hx;have:=dl 1 [0,1,2,0,1,0,3] [0,1,3,4,2,5,6];refine CtS ntmps261 results261 ?_;exact au⟩
instance lidarref01_Q_Sub_c(p0:Al)(p1:Al):Con (Db p0 p1) prog 258 (fun K vs=>∃ U0 E0 U1 E1 U2 E2 U3 E3,vs=[.agg #[.bool p0.N.Neg,.slice U0 p0.N.L.length E0,.slice U1 p0.D.length E1],.agg #[.bool p1.N.Neg,.slice U2 p1.N.L.length E2,.slice U3 p1.D.length E3]]/\Has K U0 p0.N.L.length E0 1 Ag p0.N.L/\Has K U1 p0.D.length E1 1 Ag p0.D/\Has K U2 p1.N.L.length E2 1 Ag p1.N.L/\Has K U3 p1.D.length E3 1 Ag p1.D/\True) (fun _ r=>fun v Ln=>∃ A0 c0 A2 c2,v = .agg #[.bool r.N.Neg,.slice A0 r.N.L.length c0,.slice A2 r.D.length c2]/\Ln=[.r A0 r.N.L.length c0 3 1 (r.N.L.flatMap Ag),.r A2 r.D.length c2 3 1 (r.D.flatMap Ag)]/\True):=⟨by
 rintro K _ r ⟨U0,E0,U1,E1,U2,E2,U3,E3,rfl,ha0,ha1,ha2,ha3,-⟩ hx w hK;replace ha0:=Has.lo ha0 hK;replace ha1:=Has.lo ha1 hK;replace ha2:=Has.lo ha2 hK;replace ha3:=Has.lo ha3 hK;unfold Db at hx;have:=dl 1 [1,1,2,2,3] [0,1,2,3,4];refine CtS ntmps258 results258 ?_;exact au⟩
instance lidarref01_Q_Mul_c(p0:Al)(p1:Al):Con (Ds p0 p1) prog 255 (fun K vs=>∃ U0 E0 U1 E1 U2 E2 U3 E3,vs=[.agg #[.bool p0.N.Neg,.slice U0 p0.N.L.length E0,.slice U1 p0.D.length E1],.agg #[.bool p1.N.Neg,.slice U2 p1.N.L.length E2,.slice U3 p1.D.length E3]]/\Has K U0 p0.N.L.length E0 1 Ag p0.N.L/\Has K U1 p0.D.length E1 1 Ag p0.D/\Has K U2 p1.N.L.length E2 1 Ag p1.N.L/\Has K U3 p1.D.length E3 1 Ag p1.D/\True) (fun _ r=>fun v Ln=>∃ A0 c0 A2 c2,v = .agg #[.bool r.N.Neg,.slice A0 r.N.L.length c0,.slice A2 r.D.length c2]/\Ln=[.r A0 r.N.L.length c0 3 1 (r.N.L.flatMap Ag),.r A2 r.D.length c2 3 1 (r.D.flatMap Ag)]/\True):=⟨by
 rintro K _ r ⟨U0,E0,U1,E1,U2,E2,U3,E3,rfl,ha0,ha1,ha2,ha3,-⟩ hx w hK;replace ha0:=Has.lo ha0 hK;replace ha1:=Has.lo ha1 hK;replace ha2:=Has.lo ha2 hK;replace ha3:=Has.lo ha3 hK;unfold Ds at hx;have:=dl 1 [0,1,0,1,2,0,1,0,1,2,0,2,3] [0,1,2,3,5,6,7,8,4,9,10,11,12];refine CtS ntmps255 results255 ?_;exact au⟩
instance lidarref01_Q_Div_c(p0:Al)(p1:Al):Con (Oq p0 p1) prog 257 (fun K vs=>∃ U0 E0 U1 E1 U2 E2 U3 E3,vs=[.agg #[.bool p0.N.Neg,.slice U0 p0.N.L.length E0,.slice U1 p0.D.length E1],.agg #[.bool p1.N.Neg,.slice U2 p1.N.L.length E2,.slice U3 p1.D.length E3]]/\Has K U0 p0.N.L.length E0 1 Ag p0.N.L/\Has K U1 p0.D.length E1 1 Ag p0.D/\Has K U2 p1.N.L.length E2 1 Ag p1.N.L/\Has K U3 p1.D.length E3 1 Ag p1.D/\True) (fun _ r=>fun v Ln=>∃ A0 c0 A2 c2,v = .agg #[.bool r.N.Neg,.slice A0 r.N.L.length c0,.slice A2 r.D.length c2]/\Ln=[.r A0 r.N.L.length c0 3 1 (r.N.L.flatMap Ag),.r A2 r.D.length c2 3 1 (r.D.flatMap Ag)]/\True):=⟨by
 rintro K _ r ⟨U0,E0,U1,E1,U2,E2,U3,E3,rfl,ha0,ha1,ha2,ha3,-⟩ hx w hK;replace ha0:=Has.lo ha0 hK;replace ha1:=Has.lo ha1 hK;replace ha2:=Has.lo ha2 hK;replace ha3:=Has.lo ha3 hK;unfold Oq at hx;have:=dl 1 [0,1,0,1,0,2,0,1,0,1,0,2,4,4,3,3] [0,1,2,3,4,6,7,8,9,10,5,11,12,13,14,15] [12,13];refine CtS ntmps257 results257 ?_;exact au⟩
instance Aef(p0:Al)(p1:Al):Con (Hx p0 p1) prog 206 (fun K vs=>∃ U0 E0 U1 E1 U2 E2 U3 E3,vs=[.agg #[.bool p0.N.Neg,.slice U0 p0.N.L.length E0,.slice U1 p0.D.length E1],.agg #[.bool p1.N.Neg,.slice U2 p1.N.L.length E2,.slice U3 p1.D.length E3]]/\Has K U0 p0.N.L.length E0 1 Ag p0.N.L/\Has K U1 p0.D.length E1 1 Ag p0.D/\Has K U2 p1.N.L.length E2 1 Ag p1.N.L/\Has K U3 p1.D.length E3 1 Ag p1.D/\True) (fun _ r=>fun v Ln=>v = iq r/\Ln=[]/\True):=⟨by
 rintro K _ r ⟨U0,E0,U1,E1,U2,E2,U3,E3,rfl,ha0,ha1,ha2,ha3,-⟩ hx w hK;replace ha0:=Has.lo ha0 hK;replace ha1:=Has.lo ha1 hK;replace ha2:=Has.lo ha2 hK;replace ha3:=Has.lo ha3 hK;unfold Hx at hx;refine CtS ntmps206 results206 ?_;exact au⟩
theorem Wp(p0:Al)(p1:Al){K:List Ent}{U0:Option Addr}{E0:Nat}{U1:Option Addr}{E1:Nat}{U2:Option Addr}{E2:Nat}{U3:Option Addr}{E3:Nat}(ha0:Has K U0 p0.N.L.length E0 1 Ag p0.N.L)(ha1:Has K U1 p0.D.length E1 1 Ag p0.D)(ha2:Has K U2 p1.N.L.length E2 1 Ag p1.N.L)(ha3:Has K U3 p1.D.length E3 1 Ag p1.D){r:Int}(hx:Hx p0 p1=some r)(w:World)(hK:∀ e∈K,Ent.ok w e):CtL prog 206 [.agg #[.bool p0.N.Neg,.slice U0 p0.N.L.length E0,.slice U1 p0.D.length E1],.agg #[.bool p1.N.Neg,.slice U2 p1.N.L.length E2,.slice U3 p1.D.length E3]] w fun v Ln=>v = iq r/\Ln=[]/\True:=(Aef p0 p1).h K _ _ ⟨_,_,_,_,_,_,_,_,rfl,ha0,ha1,ha2,ha3,trivial⟩ hx w hK
instance Ab2(p0:Al):Con (Fz p0) prog 208 (fun K vs=>∃ U0 E0 U1 E1,vs=[.agg #[.bool p0.N.Neg,.slice U0 p0.N.L.length E0,.slice U1 p0.D.length E1]]/\Has K U0 p0.N.L.length E0 1 Ag p0.N.L/\Has K U1 p0.D.length E1 1 Ag p0.D/\True) (fun _ r=>fun v Ln=>∃ A0 c0,v = .agg #[.bool r.Neg,.slice A0 r.L.length c0]/\Ln=[.r A0 r.L.length c0 3 1 (r.L.flatMap Ag)]/\True):=⟨by
 rintro K _ r ⟨U0,E0,U1,E1,rfl,ha0,ha1,-⟩ hx w hK;replace ha0:=Has.lo ha0 hK;replace ha1:=Has.lo ha1 hK;unfold Fz at hx;refine CtS ntmps208 results208 ?_;exact au⟩
theorem Abs(p0:Al){K:List Ent}{U0:Option Addr}{E0:Nat}{U1:Option Addr}{E1:Nat}(ha0:Has K U0 p0.N.L.length E0 1 Ag p0.N.L)(ha1:Has K U1 p0.D.length E1 1 Ag p0.D){r:Ah}(hx:Fz p0=some r)(w:World)(hK:∀ e∈K,Ent.ok w e):CtL prog 208 [.agg #[.bool p0.N.Neg,.slice U0 p0.N.L.length E0,.slice U1 p0.D.length E1]] w fun v Ln=>∃ (A0:Option Addr) (c0:Nat),v = .agg #[.bool r.Neg,.slice A0 r.L.length c0]/\Ln=[.r A0 r.L.length c0 3 1 (r.L.flatMap Ag)]/\True:=(Ab2 p0).h K _ _ ⟨_,_,_,_,rfl,ha0,ha1,trivial⟩ hx w hK
instance Adp(p0:Al):ConB (Iz p0) prog 209 (fun K vs=>∃ U0 E0 U1 E1,vs=[.agg #[.bool p0.N.Neg,.slice U0 p0.N.L.length E0,.slice U1 p0.D.length E1]]/\Has K U0 p0.N.L.length E0 1 Ag p0.N.L/\Has K U1 p0.D.length E1 1 Ag p0.D/\True) (fun K r=>fun v Ln=>∃ A0 c0 e,v = .agg #[.bool r.Neg,.slice A0 r.L.length c0]/\Ln=[e]/\Has (K++[e]) A0 r.L.length c0 1 Ag r.L/\True):=⟨by
 rintro K _ r ⟨U0,E0,U1,E1,rfl,ha0,ha1,-⟩ hx w hK;unfold Iz at hx;refine CtS ntmps209 results209 ?_;exact au⟩
theorem Ab3(p0:Al){K:List Ent}{U0:Option Addr}{E0:Nat}{U1:Option Addr}{E1:Nat}(ha0:Has K U0 p0.N.L.length E0 1 Ag p0.N.L)(ha1:Has K U1 p0.D.length E1 1 Ag p0.D){r:Ah}(hx:Iz p0=some r)(w:World)(hK:∀ e∈K,Ent.ok w e):CtL prog 209 [.agg #[.bool p0.N.Neg,.slice U0 p0.N.L.length E0,.slice U1 p0.D.length E1]] w fun v Ln=>∃ (A0:Option Addr) (c0:Nat) (e0:Ent),v = .agg #[.bool r.Neg,.slice A0 r.L.length c0]/\Ln=[e0]/\Has (K++[e0]) A0 r.L.length c0 1 Ag r.L/\True:=CtL.pad 0 ((Adp p0).h K _ _ ⟨U0,E0,U1,E1,rfl,ha0,ha1,trivial⟩ hx w hK) (by rintro _ _ ⟨_,_,_,rfl,rfl,h0,-⟩;exact⟨_,_,_,rfl,rfl,h0.padN 0,trivial⟩)
instance Agl(p0:Ah):Con (Le p0) prog 207 (fun K vs=>∃ U0 E0,vs=[.agg #[.bool p0.Neg,.slice U0 p0.L.length E0]]/\Has K U0 p0.L.length E0 1 Ag p0.L/\True) (fun _ r=>fun v Ln=>v = .tuple #[iq r.1,iq r.2]/\Ln=[]/\True):=⟨by
 rintro K _ r ⟨U0,E0,rfl,ha0,-⟩ hx w hK;replace ha0:=Has.lo ha0 hK;unfold Le at hx;refine CtS ntmps207 results207 ?_;exact au⟩
theorem Zb(p0:Ah){K:List Ent}{U0:Option Addr}{E0:Nat}(ha0:Has K U0 p0.L.length E0 1 Ag p0.L){r:Int × Int}(hx:Le p0=some r)(w:World)(hK:∀ e∈K,Ent.ok w e):CtL prog 207 [.agg #[.bool p0.Neg,.slice U0 p0.L.length E0]] w fun v Ln=>v = .tuple #[iq r.1,iq r.2]/\Ln=[]/\True:=(Agl p0).h K _ _ ⟨_,_,rfl,ha0,trivial⟩ hx w hK
theorem Ab4(p0:List Al){K:List Ent}{U0:Option Addr}{E0:Nat}(ha0:HasN K U0 p0.length E0 3 Ab1 p0){r:Ax × Int}(hx:Ne p0=some r)(w:World)(hK:∀ e∈K,Ent.ok w e):CtL prog 142 [.slice U0 p0.length E0] w fun v Ln=>v = .tuple #[.agg #[iq r.1.Lo,iq r.1.Hi],iq r.2]/\Ln=[]/\True:=by
 have ha0':=HasN.up0 ha0;refine CtL.mk 67 func142 rfl ntmps142 kr rfl ?_;show T 67 _ [(0,.slice U0 p0.length E0)] _;unfold Ne at hx;refine Y2 ?_;refine T_x (Bu Asa rfl (fun g1=>?_));refine Y3 ?_;obtain⟨j2,hj2,hx⟩:=Adb hx;refine Aa8 (τ:=Bool × List Int × List Int × Bool × List Int × List Int) (γ:=Nat × Option Addr × Nat × Option Addr × Nat × Nat × Option Addr × Nat × Option Addr × Nat) (J:=j2) (out:=r) (fun s2 y2=>[(0,.slice U0 p0.length E0),(2,.pointer (some ⟨g1,0,none⟩)),(4,.pointer (some ⟨y2.1,0,none⟩)),(5,.pointer (some ⟨y2.2.2.2.2.2.1,0,none⟩))]) (fun s2 y2=>[.m y2.2.2.2.2.2.1 173 [.bool s2.2.2.2.1,.slice y2.2.2.2.2.2.2.1 s2.2.2.2.2.1.length y2.2.2.2.2.2.2.2.1,.slice y2.2.2.2.2.2.2.2.2.1 s2.2.2.2.2.2.length y2.2.2.2.2.2.2.2.2.2],.m y2.1 173 [.bool s2.1,.slice y2.2.1 s2.2.1.length y2.2.2.1,.slice y2.2.2.2.1 s2.2.2.1.length y2.2.2.2.2.1],.m g1 28 [iq 0,iq 0]]++[.old w]) (fun s2 y2=>Has (K++[]) y2.2.1 s2.2.1.length y2.2.2.1 1 Ag s2.2.1/\Has (K++[]) y2.2.2.2.1 s2.2.2.1.length y2.2.2.2.2.1 1 Ag s2.2.2.1/\Has (K++[]) y2.2.2.2.2.2.2.1 s2.2.2.2.2.1.length y2.2.2.2.2.2.2.2.1 1 Ag s2.2.2.2.2.1/\Has (K++[]) y2.2.2.2.2.2.2.2.2.1 s2.2.2.2.2.2.length y2.2.2.2.2.2.2.2.2.2 1 Ag s2.2.2.2.2.2/\True) ?_ ?_
 ·intro s2 y2 hx0 hG0;obtain⟨hs0,hs1,hs2,hs3,-⟩:=hG0;subst hj2;obtain⟨j3,hj3,hx0⟩:=Adb hx0;refine Aa8 (τ:=Bool × List Int × List Int × Bool × List Int × List Int) (γ:=Option Addr × Nat × Option Addr × Nat × Option Addr × Nat × Option Addr × Nat) (J:=j3) (out:=r) (fun s3 y3=>[(2,.pointer (some ⟨g1,0,none⟩)),(4,.pointer (some ⟨y2.1,0,none⟩)),(5,.pointer (some ⟨y2.2.2.2.2.2.1,0,none⟩))]) (fun s3 y3=>[.m y2.2.2.2.2.2.1 173 [.bool s3.2.2.2.1,.slice y3.2.2.2.2.1 s3.2.2.2.2.1.length y3.2.2.2.2.2.1,.slice y3.2.2.2.2.2.2.1 s3.2.2.2.2.2.length y3.2.2.2.2.2.2.2],.m y2.1 173 [.bool s3.1,.slice y3.1 s3.2.1.length y3.2.1,.slice y3.2.2.1 s3.2.2.1.length y3.2.2.2.1],.m g1 28 [iq 0,iq 0]]++[.old w]) (fun s3 y3=>Has (K++[]) y3.1 s3.2.1.length y3.2.1 1 Ag s3.2.1/\Has (K++[]) y3.2.2.1 s3.2.2.1.length y3.2.2.2.1 1 Ag s3.2.2.1/\Has (K++[]) y3.2.2.2.2.1 s3.2.2.2.2.1.length y3.2.2.2.2.2.1 1 Ag s3.2.2.2.2.1/\Has (K++[]) y3.2.2.2.2.2.2.1 s3.2.2.2.2.2.length y3.2.2.2.2.2.2.2 1 Ag s3.2.2.2.2.2/\True) ?_ ?_
  ·intro s3 y3 hx1 hG1;obtain⟨hs4,hs5,hs6,hs7,-⟩:=hG1;subst hj3;refine Y2 ?_;refine As (Bp rfl (i:=1) rfl rfl Cy) rfl ?_;obtain⟨r0,h0,hx2⟩:=An hx1;refine T_x (Bv rfl (fun w1 hw1=>Abs (⟨(⟨s3.1,s3.2.1⟩:Ah),s3.2.2.1⟩:Al) (Has.len' hs4) (Has.len' hs5) h0 w1 (Qz (K:=K) (K2:=[]) hK (by exact (sb 3)) (by exact SubE.nil) hw1)) rfl ?_);rintro _ _ hlo ⟨A0,c0,rfl,rfl,-⟩;refine Jj ?_;refine Es (k:=0) rfl dD (fun _=>rfl) (fun hn0 hs8=>?_);obtain⟨r1,h1,hx3⟩:=An hx2;refine Tc (fun w1 hw1=>Zb r0 (Has.len' hs8) h1 w1 (Wc (K:=([.r A0 r0.L.length c0 3 1 (r0.L.flatMap Ag)]:List Ent)) (by exact (sb 0)) hw1)) ?_;refine Y9 ?_;refine As (Bp rfl (i:=1) rfl rfl Cy) rfl ?_;obtain⟨r2,h2,hx4⟩:=An hx3;refine T_x (Bv rfl (fun w1 hw1=>Ab3 (⟨(⟨s3.2.2.2.1,s3.2.2.2.2.1⟩:Ah),s3.2.2.2.2.2⟩:Al) (Has.len' hs6) (Has.len' hs7) h2 w1 (Qz (K:=K) (K2:=[]) hK (by exact (sb 4)) (by exact SubE.nil) hw1)) rfl ?_);rintro _ _ hlo ⟨A1,c1,e0,rfl,rfl,hs9,-⟩;have lo327:=hlo e0 (by simp);refine Jj ?_;have hs10:Has (K++[e0]) _ _ _ _ _ _:=Has.assoc hs9;obtain⟨r3,h4,hx5⟩:=An hx4;refine Tc (fun w1 hw1=>Zb r2 (Has.len' hs10) h4 w1 (Qz (K:=K) (K2:=[e0]) hK (by exact (sb 5)) (by exact (sb 0)) hw1)) ?_;refine Y8 ?_;refine Tj (γ:=Unit) hx5 (fun s0 y0=>[(2,.pointer (some ⟨g1,0,none⟩)),(7,iq r1.1),(9,iq r3.1),(62,.bool s0)]) (fun s0 y0=>[.m g1 28 [iq 0,iq 0]]++[.old w]) (fun s0 y0=>True) (fun s0 y0 hx6 hG2=>?_) (fun j0 hx5=>?_)
   ·refine Io (s:=62) rfl (fun h5=>?_) (fun h5=>?_)
    ·have hx7:=Gp h5 hx6;refine Y3 ?_;refine As (Ex rfl Ay8) rfl ?_;refine T_h (Az rfl rfl rfl (.here) (.put (.put (.done))) rfl (List.cons_ne_nil _ _) Acv.2 ?_);refine Y5 ?_;obtain rfl:=Option.some.inj hx7;exact Cz (rs:=[.cell 2 28,.tmp 3]) results142 (.cell rfl (i:=0) rfl rfl Acv (.tmp rfl (.nil))) (Ln:=[]) ⟨rfl,rfl,trivial⟩ Co (by exact .drop 0 rfl (.refl))
    ·have hx8:=Kd h5 hx6;refine Y7 ?_;refine As (Ex rfl (Yh _ _)) rfl ?_;refine T_h (Az rfl rfl rfl (.here) (.put (.put (.done))) rfl (List.cons_ne_nil _ _) Acv.2 ?_);refine Y4 ?_;obtain rfl:=Option.some.inj hx8;exact Cz (rs:=[.cell 2 28,.tmp 3]) results142 (.cell rfl (i:=0) rfl rfl Acv (.tmp rfl (.nil))) (Ln:=[]) ⟨rfl,rfl,trivial⟩ Co (by exact .drop 0 rfl (.refl))
   ·refine Y4 ?_;refine Wb (s:=59) rfl (fun h6=>?_) (fun h6=>?_)
    ·have hx9:=Ye h6 hx5;refine Y4 ?_;exact Mt true () hx9 trivial (by exact .pick 4 rfl (.drop 0 rfl (.drop 0 rfl (.drop 0 rfl (.drop 0 rfl (.refl))))))
    ·have hx10:=Gp h6 hx5;refine Y4 ?_;exact Mt (!(decide (r3.2=0))) () hx10 trivial (by exact .pick 4 rfl (.drop 0 rfl (.drop 0 rfl (.drop 0 rfl (.drop 0 rfl (.refl))))))
  ·skip;refine Y6 ?_;obtain⟨t0,hl0,ho0⟩:=An hx0;refine Lp (σ:=Bool × List Int × List Int × Bool × List Int × List Int × Int) (γ:=Option Addr × Nat × Option Addr × Nat × Option Addr × Nat × Option Addr × Nat) hl0 (fun s1 y1=>[(0,.slice U0 p0.length E0),(2,.pointer (some ⟨g1,0,none⟩)),(4,.pointer (some ⟨y2.1,0,none⟩)),(5,.pointer (some ⟨y2.2.2.2.2.2.1,0,none⟩)),(6,iq s1.2.2.2.2.2.2)]) (fun s1 y1=>[.m y2.2.2.2.2.2.1 173 [.bool s1.2.2.2.1,.slice y1.2.2.2.2.1 s1.2.2.2.2.1.length y1.2.2.2.2.2.1,.slice y1.2.2.2.2.2.2.1 s1.2.2.2.2.2.1.length y1.2.2.2.2.2.2.2],.m y2.1 173 [.bool s1.1,.slice y1.1 s1.2.1.length y1.2.1,.slice y1.2.2.1 s1.2.2.1.length y1.2.2.2.1],.m g1 28 [iq 0,iq 0]]++[.old w]) (fun s1 y1=>Has (K++[]) y1.1 s1.2.1.length y1.2.1 1 Ag s1.2.1/\Has (K++[]) y1.2.2.1 s1.2.2.1.length y1.2.2.2.1 1 Ag s1.2.2.1/\Has (K++[]) y1.2.2.2.2.1 s1.2.2.2.2.1.length y1.2.2.2.2.2.1 1 Ag s1.2.2.2.2.1/\Has (K++[]) y1.2.2.2.2.2.2.1 s1.2.2.2.2.2.1.length y1.2.2.2.2.2.2.2 1 Ag s1.2.2.2.2.2.1/\True) (y2.2.1,y2.2.2.1,y2.2.2.2.1,y2.2.2.2.2.1,y2.2.2.2.2.2.2.1,y2.2.2.2.2.2.2.2.1,y2.2.2.2.2.2.2.2.2.1,y2.2.2.2.2.2.2.2.2.2) ((by exact⟨Has.len' hs0,Has.len' hs1,Has.len' hs2,Has.len' hs3,trivial⟩)) (by exact .pick 0 rfl (.pick 0 rfl (.pick 0 rfl (.refl)))) ?_
   intro s1 y1 hG3 x0 hx11 ht0;unfold Gb at hx11;obtain⟨hs11,hs12,hs13,hs14,-⟩:=hG3;refine Y5 ?_;refine As (Dn rfl 173 underlying177) rfl ?_;refine Y3 ?_;refine Ti hx11 (s:=20) rfl (fun h7 hx12=>?_) (fun h7 hx13=>?_)
   ·refine Y3 ?_;obtain⟨j1,hj0,hx12⟩:=Adb hx12;refine Aa8 (τ:=Bool × List Int × List Int × Bool × List Int × List Int) (γ:=Option Addr × Nat × Option Addr × Nat × Option Addr × Nat × Option Addr × Nat) (J:=j1) (out:=x0) (fun s4 y4=>[(0,.slice U0 p0.length E0),(2,.pointer (some ⟨g1,0,none⟩)),(4,.pointer (some ⟨y2.1,0,none⟩)),(5,.pointer (some ⟨y2.2.2.2.2.2.1,0,none⟩)),(6,iq s1.2.2.2.2.2.2)]) (fun s4 y4=>[.m y2.2.2.2.2.2.1 173 [.bool s4.2.2.2.1,.slice y4.2.2.2.2.1 s4.2.2.2.2.1.length y4.2.2.2.2.2.1,.slice y4.2.2.2.2.2.2.1 s4.2.2.2.2.2.length y4.2.2.2.2.2.2.2],.m y2.1 173 [.bool s4.1,.slice y4.1 s4.2.1.length y4.2.1,.slice y4.2.2.1 s4.2.2.1.length y4.2.2.2.1],.m g1 28 [iq 0,iq 0]]++[.old w]) (fun s4 y4=>Has (K++[]) y4.1 s4.2.1.length y4.2.1 1 Ag s4.2.1/\Has (K++[]) y4.2.2.1 s4.2.2.1.length y4.2.2.2.1 1 Ag s4.2.2.1/\Has (K++[]) y4.2.2.2.2.1 s4.2.2.2.2.1.length y4.2.2.2.2.2.1 1 Ag s4.2.2.2.2.1/\Has (K++[]) y4.2.2.2.2.2.2.1 s4.2.2.2.2.2.length y4.2.2.2.2.2.2.2 1 Ag s4.2.2.2.2.2/\True) ?_ ?_
    ·intro s4 y4 hx14 hG4;obtain⟨hs15,hs16,hs17,hs18,-⟩:=hG4;subst hj0;refine Y5 ?_;exact Rp (s4.1,s4.2.1,s4.2.2.1,s4.2.2.2.1,s4.2.2.2.2.1,s4.2.2.2.2.2,w64 (s1.2.2.2.2.2.2+1)) (y4.1,y4.2.1,y4.2.2.1,y4.2.2.2.1,y4.2.2.2.2.1,y4.2.2.2.2.2.1,y4.2.2.2.2.2.2.1,y4.2.2.2.2.2.2.2) hx14 ((by exact⟨Has.len' hs15,Has.len' hs16,Has.len' hs17,Has.len' hs18,trivial⟩)) (by exact .pick 0 rfl (.pick 0 rfl (.pick 0 rfl (.refl))))
    ·skip;refine Y ?_;obtain⟨j4,hj1,hx12⟩:=Adb hx12;refine Aa8 (τ:=Bool × List Int × List Int) (γ:=Option Addr × Nat × Option Addr × Nat) (J:=j4) (out:=x0) (fun s5 y5=>[(0,.slice U0 p0.length E0),(2,.pointer (some ⟨g1,0,none⟩)),(4,.pointer (some ⟨y2.1,0,none⟩)),(5,.pointer (some ⟨y2.2.2.2.2.2.1,0,none⟩)),(6,iq s1.2.2.2.2.2.2)]) (fun s5 y5=>[.m y2.2.2.2.2.2.1 173 [.bool s1.2.2.2.1,.slice y1.2.2.2.2.1 s1.2.2.2.2.1.length y1.2.2.2.2.2.1,.slice y1.2.2.2.2.2.2.1 s1.2.2.2.2.2.1.length y1.2.2.2.2.2.2.2],.m y2.1 173 [.bool s5.1,.slice y5.1 s5.2.1.length y5.2.1,.slice y5.2.2.1 s5.2.2.length y5.2.2.2],.m g1 28 [iq 0,iq 0]]++[.old w]) (fun s5 y5=>Has (K++[]) y5.1 s5.2.1.length y5.2.1 1 Ag s5.2.1/\Has (K++[]) y5.2.2.1 s5.2.2.length y5.2.2.2 1 Ag s5.2.2/\True) ?_ ?_
     ·intro s5 y5 hx15 hG5;obtain⟨hs19,hs20,-⟩:=hG5;subst hj1;refine Y ?_;refine T_dr [0,0,0,1,1,2,0] (.q 0 (.q 1 (.q 2 (.q 3 (.q 4 (.e 5 (.q 6 (.done)) (.stop))))))) mixed kr kr ?_;refine Y2 ?_;obtain⟨x1,h8,hx16⟩:=An hx15;obtain⟨b0,o0,j5,ys270,hA0,hj4,hl1,hp0,hr271⟩:=HasN.at_idx ha0' h8;obtain⟨A2,c2,A3,c3,rfl,hs21,hs22⟩:=hr271;have hp1:=Pt.low (E:=[]) hp0 hK;refine P_p rfl rfl (Bt rfl rfl hA0 (j:=j5) hj4 hl1 Aed) rfl ?_;refine P_q rfl rfl (Di rfl hp1 (sb 3) rfl Cy) rfl ?_;refine P_q rfl rfl (Bp rfl (i:=0) rfl rfl Cy) rfl ?_;obtain⟨r4,h9,hx17⟩:=An hx16;refine Pc (fun w1 hw1=>Wp x1 (⟨(⟨s1.2.2.2.1,s1.2.2.2.2.1⟩:Ah),s1.2.2.2.2.2.1⟩:Al) (Has.len' hs21) (Has.len' hs22) (Has.len' hs13) (Has.len' hs14) h9 w1 (Qz (K:=K) (K2:=[]) hK (by exact (sb 3)) (by exact SubE.nil) hw1)) ?_;refine Y3 ?_;refine Ti hx17 (s:=40) rfl (fun h10 hx18=>?_) (fun h10 hx19=>?_)
      ·refine Y4 ?_;obtain⟨x3,h11,hx20⟩:=An hx18;obtain⟨b1,o1,j6,ys294,hA1,hj5,hl2,hp2,hr295⟩:=HasN.at_idx ha0' h11;obtain⟨A4,c4,A5,c5,rfl,hs23,hs24⟩:=hr295;have hp3:=Pt.low (E:=[]) hp2 hK;refine As (Bt rfl rfl hA1 (j:=j6) hj5 hl2 Aed) rfl ?_;refine As (Di rfl hp3 (sb 3) rfl Cy) rfl ?_;refine T_h (Az rfl rfl rfl (.here) (.put (.put (.put (.done)))) rfl (List.cons_ne_nil _ _) Cy.2 ?_);refine Y2 ?_;exact Mt (s5.1,s5.2.1,s5.2.2,x3.N.Neg,x3.N.L,x3.D) (y5.1,y5.2.1,y5.2.2.1,y5.2.2.2,A4,c4,A5,c5) hx20 ((by exact⟨Has.len' hs19,Has.len' hs20,Has.len' hs23,Has.len' hs24,trivial⟩)) (by exact .pick 0 rfl (.pick 0 rfl (.pick 0 rfl (.refl))))
      ·refine Y3 ?_;exact Mt (s5.1,s5.2.1,s5.2.2,s1.2.2.2.1,s1.2.2.2.2.1,s1.2.2.2.2.2.1) (y5.1,y5.2.1,y5.2.2.1,y5.2.2.2,y1.2.2.2.2.1,y1.2.2.2.2.2.1,y1.2.2.2.2.2.2.1,y1.2.2.2.2.2.2.2) hx19 ((by exact⟨Has.len' hs19,Has.len' hs20,Has.len' hs13,Has.len' hs14,trivial⟩)) (by exact .pick 0 rfl (.pick 0 rfl (.pick 0 rfl (.refl))))
     ·skip;refine Y ?_;refine T_dr [0,0,0,1,1,2,0] (.q 0 (.q 1 (.q 2 (.q 3 (.q 4 (.e 5 (.q 6 (.done)) (.stop))))))) mixed kr kr ?_;refine Y2 ?_;obtain⟨x4,h12,hx21⟩:=An hx12;obtain⟨b2,o2,j7,ys222,hA2,hj6,hl3,hp4,hr223⟩:=HasN.at_idx ha0' h12;obtain⟨A6,c6,A7,c7,rfl,hs25,hs26⟩:=hr223;have hp5:=Pt.low (E:=[]) hp4 hK;refine P_p rfl rfl (Bt rfl rfl hA2 (j:=j7) hj6 hl3 Aed) rfl ?_;refine P_q rfl rfl (Di rfl hp5 (sb 3) rfl Cy) rfl ?_;refine P_q rfl rfl (Bp rfl (i:=1) rfl rfl Cy) rfl ?_;obtain⟨r5,h13,hx22⟩:=An hx21;refine Pc (fun w1 hw1=>Wp x4 (⟨(⟨s1.1,s1.2.1⟩:Ah),s1.2.2.1⟩:Al) (Has.len' hs25) (Has.len' hs26) (Has.len' hs11) (Has.len' hs12) h13 w1 (Qz (K:=K) (K2:=[]) hK (by exact (sb 3)) (by exact SubE.nil) hw1)) ?_;refine Y3 ?_;refine Ti hx22 (s:=29) rfl (fun h14 hx23=>?_) (fun h14 hx24=>?_)
      ·refine Y4 ?_;obtain⟨x5,h15,hx25⟩:=An hx23;obtain⟨b3,o3,j8,ys246,hA3,hj7,hl4,hp6,hr247⟩:=HasN.at_idx ha0' h15;obtain⟨A8,c8,A9,c9,rfl,hs27,hs28⟩:=hr247;have hp7:=Pt.low (E:=[]) hp6 hK;refine As (Bt rfl rfl hA3 (j:=j8) hj7 hl4 Aed) rfl ?_;refine As (Di rfl hp7 (sb 3) rfl Cy) rfl ?_;refine T_h (Az rfl rfl rfl (.there (.here)) (.put (.put (.put (.done)))) rfl (List.cons_ne_nil _ _) Cy.2 ?_);refine Y ?_;exact Mt (x5.N.Neg,x5.N.L,x5.D) (A8,c8,A9,c9) hx25 ((by exact⟨Has.len' hs27,Has.len' hs28,trivial⟩)) (by exact .pick 0 rfl (.pick 0 rfl (.pick 0 rfl (.refl))))
      ·refine Y2 ?_;exact Mt (s1.1,s1.2.1,s1.2.2.1) (y1.1,y1.2.1,y1.2.2.1,y1.2.2.2.1) hx24 ((by exact⟨Has.len' hs11,Has.len' hs12,trivial⟩)) (by exact .pick 0 rfl (.pick 0 rfl (.pick 0 rfl (.refl))))
   ·refine Y3 ?_;obtain rfl:=Gg ht0 hx13;refine Y2 ?_;exact Mt (s1.1,s1.2.1,s1.2.2.1,s1.2.2.2.1,s1.2.2.2.2.1,s1.2.2.2.2.2.1) (y1.1,y1.2.1,y1.2.2.1,y1.2.2.2.1,y1.2.2.2.2.1,y1.2.2.2.2.2.1,y1.2.2.2.2.2.2.1,y1.2.2.2.2.2.2.2) ho0 ((by exact⟨Has.len' hs11,Has.len' hs12,Has.len' hs13,Has.len' hs14,trivial⟩)) (by exact .pick 0 rfl (.pick 0 rfl (.pick 0 rfl (.refl))))
 ·skip;obtain⟨x2,h3,hx42⟩:=An hx;obtain⟨x6,h22,hx43⟩:=An hx42;refine T_dr [0,0,1,0,0,2,2,2,3,3] (.q 0 (.q 1 (.q 2 (.q 3 (.q 4 (.e 5 (.e 6 (.e 7 (.e 8 (.e 9 (.done) (.stop)) (.stop)) (.stop)) (.e 7 (.e 6 (.e 8 (.e 9 (.done) (.stop)) (.stop)) (.stop)) (.stop))) (.e 6 (.e 5 (.e 7 (.e 8 (.e 9 (.done) (.stop)) (.stop)) (.stop)) (.e 7 (.e 5 (.e 8 (.e 9 (.done) (.stop)) (.stop)) (.e 8 (.e 5 (.e 9 (.done) (.stop)) (.stop)) (.stop))) (.stop))) (.e 7 (.e 5 (.e 6 (.e 8 (.e 9 (.done) (.stop)) (.stop)) (.stop)) (.e 6 (.e 5 (.e 8 (.e 9 (.done) (.stop)) (.stop)) (.e 8 (.e 5 (.e 9 (.done) (.stop)) (.stop)) (.stop))) (.stop))) (.stop))))))))) mixed kr kr ?_;refine Y ?_;obtain⟨b4,o4,j9,ys57,hA4,hj8,hl5,hp8,hr58⟩:=HasN.at_idx ha0' h3;obtain⟨A51,c52,A54,c55,rfl,hs53,hs56⟩:=hr58;have hp9:=Pt.low (E:=[]) hp8 hK;refine P_p rfl rfl (Bt rfl rfl hA4 (j:=j9) hj8 hl5 Aed) rfl ?_;refine P_q rfl rfl (Di rfl hp9 (sb 1) rfl Cy) rfl ?_;refine Y ?_;obtain⟨b5,o5,j62,ys73,hA5,hj9,hl6,hp66,hr74⟩:=HasN.at_idx ha0' h22;obtain⟨A67,c68,A70,c71,rfl,hs69,hs72⟩:=hr74;have hp75:=Pt.low (E:=[]) hp66 hK;refine P_p rfl rfl (Bt rfl rfl hA5 (j:=j62) hj9 hl6 Aed) rfl ?_;refine P_x rfl (Ec (Di rfl hp75 (sb 1) rfl Cy) rfl ?_) ?_
  ·skip;refine P_x rfl (Bu Ul rfl (fun g0=>?_)) ?_
   ·skip;refine P_x rfl (Bu Ul rfl (fun g2=>?_)) ?_;rotate_left;exact Bj;refine P_h rfl rfl (Az rfl rfl rfl (.there (.here)) (.put (.put (.put (.done)))) rfl (List.cons_ne_nil _ _) Cy.2 ?_) ?_;rotate_left;exact Bj;refine P_h rfl rfl (Az rfl rfl rfl (.here) (.put (.put (.put (.done)))) rfl (List.cons_ne_nil _ _) Cy.2 ?_) ?_;rotate_left;exact Bj;refine Y ?_;exact Mt (x2.N.Neg,x2.N.L,x2.D,x6.N.Neg,x6.N.L,x6.D) (g0,A51,c52,A54,c55,g2,A67,c68,A70,c71) hx43 ((by exact⟨Has.len' hs53,Has.len' hs56,Has.len' hs69,Has.len' hs72,trivial⟩)) (by exact .pick 0 rfl (.pick 0 rfl (.pick 0 rfl (.refl))))
   ·skip;refine P_x rfl (Bu Ul rfl (fun g3=>?_)) ?_;rotate_left;exact Bj;refine P_x rfl (Bu Ul rfl (fun g4=>?_)) ?_;rotate_left;exact Bj;refine P_h rfl rfl (Az rfl rfl rfl (.here) (.put (.put (.put (.done)))) rfl (List.cons_ne_nil _ _) Cy.2 ?_) ?_;rotate_left;exact Bj;refine P_h rfl rfl (Az rfl rfl rfl (.there (.here)) (.put (.put (.put (.done)))) rfl (List.cons_ne_nil _ _) Cy.2 ?_) ?_;rotate_left;exact Bj;refine Y ?_;exact Mt (x2.N.Neg,x2.N.L,x2.D,x6.N.Neg,x6.N.L,x6.D) (g4,A51,c52,A54,c55,g3,A67,c68,A70,c71) hx43 ((by exact⟨Has.len' hs53,Has.len' hs56,Has.len' hs69,Has.len' hs72,trivial⟩)) (by exact .pick 1 rfl (.pick 0 rfl (.pick 0 rfl (.refl))))
  ·skip;refine P_x rfl (Bu Ul rfl (fun g5=>?_)) ?_
   ·skip;refine P_x rfl (Ec (Di rfl hp75 (sb 2) rfl Cy) rfl ?_) ?_
    ·skip;refine P_x rfl (Bu Ul rfl (fun g6=>?_)) ?_;rotate_left;exact Bj;refine P_h rfl rfl (Az rfl rfl rfl (.there (.here)) (.put (.put (.put (.done)))) rfl (List.cons_ne_nil _ _) Cy.2 ?_) ?_;rotate_left;exact Bj;refine P_h rfl rfl (Az rfl rfl rfl (.here) (.put (.put (.put (.done)))) rfl (List.cons_ne_nil _ _) Cy.2 ?_) ?_;rotate_left;exact Bj;refine Y ?_;exact Mt (x2.N.Neg,x2.N.L,x2.D,x6.N.Neg,x6.N.L,x6.D) (g5,A51,c52,A54,c55,g6,A67,c68,A70,c71) hx43 ((by exact⟨Has.len' hs53,Has.len' hs56,Has.len' hs69,Has.len' hs72,trivial⟩)) (by exact .pick 0 rfl (.pick 0 rfl (.pick 0 rfl (.refl))))
    ·skip;refine P_x rfl (Bu Ul rfl (fun g7=>?_)) ?_;rotate_left;exact Bj;refine P_x rfl (Ec (Di rfl hp75 (sb 3) rfl Cy) rfl ?_) ?_
     ·skip;refine P_h rfl rfl (Az rfl rfl rfl (.there (.here)) (.put (.put (.put (.done)))) rfl (List.cons_ne_nil _ _) Cy.2 ?_) ?_;rotate_left;exact Bj;refine P_h rfl rfl (Az rfl rfl rfl (.here) (.put (.put (.put (.done)))) rfl (List.cons_ne_nil _ _) Cy.2 ?_) ?_;rotate_left;exact Bj;refine Y ?_;exact Mt (x2.N.Neg,x2.N.L,x2.D,x6.N.Neg,x6.N.L,x6.D) (g5,A51,c52,A54,c55,g7,A67,c68,A70,c71) hx43 ((by exact⟨Has.len' hs53,Has.len' hs56,Has.len' hs69,Has.len' hs72,trivial⟩)) (by exact .pick 0 rfl (.pick 0 rfl (.pick 0 rfl (.refl))))
     ·skip;refine P_h rfl rfl (Az rfl rfl rfl (.there (.here)) (.put (.put (.put (.done)))) rfl (List.cons_ne_nil _ _) Cy.2 ?_) ?_;rotate_left;exact Bj;refine P_x rfl (Ec (Di rfl hp75 (sb 3) rfl Cy) rfl ?_) ?_;rotate_left;exact Bj;refine P_h rfl rfl (Az rfl rfl rfl (.here) (.put (.put (.put (.done)))) rfl (List.cons_ne_nil _ _) Cy.2 ?_) ?_;rotate_left;exact Bj;refine Y ?_;exact Mt (x2.N.Neg,x2.N.L,x2.D,x6.N.Neg,x6.N.L,x6.D) (g5,A51,c52,A54,c55,g7,A67,c68,A70,c71) hx43 ((by exact⟨Has.len' hs53,Has.len' hs56,Has.len' hs69,Has.len' hs72,trivial⟩)) (by exact .pick 0 rfl (.pick 0 rfl (.pick 0 rfl (.refl))))
   ·skip;refine P_x rfl (Bu Ul rfl (fun g8=>?_)) ?_;rotate_left;exact Bj;refine P_x rfl (Ec (Di rfl hp75 (sb 2) rfl Cy) rfl ?_) ?_
    ·skip;refine P_x rfl (Bu Ul rfl (fun g9=>?_)) ?_;rotate_left;exact Bj;refine P_h rfl rfl (Az rfl rfl rfl (.here) (.put (.put (.put (.done)))) rfl (List.cons_ne_nil _ _) Cy.2 ?_) ?_;rotate_left;exact Bj;refine P_h rfl rfl (Az rfl rfl rfl (.there (.here)) (.put (.put (.put (.done)))) rfl (List.cons_ne_nil _ _) Cy.2 ?_) ?_;rotate_left;exact Bj;refine Y ?_;exact Mt (x2.N.Neg,x2.N.L,x2.D,x6.N.Neg,x6.N.L,x6.D) (g9,A51,c52,A54,c55,g8,A67,c68,A70,c71) hx43 ((by exact⟨Has.len' hs53,Has.len' hs56,Has.len' hs69,Has.len' hs72,trivial⟩)) (by exact .pick 1 rfl (.pick 0 rfl (.pick 0 rfl (.refl))))
    ·skip;refine P_x rfl (Bu Ul rfl (fun g85=>?_)) ?_;rotate_left;exact Bj;refine P_x rfl (Ec (Di rfl hp75 (sb 3) rfl Cy) rfl ?_) ?_
     ·skip;refine P_h rfl rfl (Az rfl rfl rfl (.here) (.put (.put (.put (.done)))) rfl (List.cons_ne_nil _ _) Cy.2 ?_) ?_;rotate_left;exact Bj;refine P_h rfl rfl (Az rfl rfl rfl (.there (.here)) (.put (.put (.put (.done)))) rfl (List.cons_ne_nil _ _) Cy.2 ?_) ?_;rotate_left;exact Bj;refine Y ?_;exact Mt (x2.N.Neg,x2.N.L,x2.D,x6.N.Neg,x6.N.L,x6.D) (g85,A51,c52,A54,c55,g8,A67,c68,A70,c71) hx43 ((by exact⟨Has.len' hs53,Has.len' hs56,Has.len' hs69,Has.len' hs72,trivial⟩)) (by exact .pick 1 rfl (.pick 0 rfl (.pick 0 rfl (.refl))))
     ·skip;refine P_h rfl rfl (Az rfl rfl rfl (.here) (.put (.put (.put (.done)))) rfl (List.cons_ne_nil _ _) Cy.2 ?_) ?_;rotate_left;exact Bj;refine P_x rfl (Ec (Di rfl hp75 (sb 3) rfl Cy) rfl ?_) ?_;rotate_left;exact Bj;refine P_h rfl rfl (Az rfl rfl rfl (.there (.here)) (.put (.put (.put (.done)))) rfl (List.cons_ne_nil _ _) Cy.2 ?_) ?_;rotate_left;exact Bj;refine Y ?_;exact Mt (x2.N.Neg,x2.N.L,x2.D,x6.N.Neg,x6.N.L,x6.D) (g85,A51,c52,A54,c55,g8,A67,c68,A70,c71) hx43 ((by exact⟨Has.len' hs53,Has.len' hs56,Has.len' hs69,Has.len' hs72,trivial⟩)) (by exact .pick 1 rfl (.pick 0 rfl (.pick 0 rfl (.refl))))
end
end Go.Proofs.YthlkpgdfifnagaaGreat
