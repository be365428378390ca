import Derived.Test.YthlkpgdfifnagaaGreatD5
set_option maxRecDepth 100000
set_option maxHeartbeats 1000000
namespace Go.Proofs.YthlkpgdfifnagaaGreat
open Go Go.RowKit Tryz List
instance:Nb prog 23 101 3:=⟨.mk underlying23 (show prog.info? 101=some t101 from by kernel_rfl) kr⟩
instance:AggI prog 101 3:=⟨.arr underlying101 (show prog.info? 101=some t101 from by kernel_rfl) kr⟩
theorem Bdj(a0:Int)(a1:Int)(a2:Int)(b0:Int)(b1:Int)(b2:Int):∀ w,(Op.equalIn 10000 101 (.agg #[.int .i64 a0,.int .i64 a1,.int .i64 a2]) (.agg #[.int .i64 b0,.int .i64 b1,.int .i64 b2])).run prog w = .ok (((a0 == b0) && ((a1 == b1) && ((a2 == b2) && true)))) w :=
 EqI.array (c:=1) underlying101 (show prog.info? 3=some Tryz.t3 from by kernel_rfl) kr (.cons (fun w=>kr) (fun w=>kr) (fun w=>run_equalIn_int w 9998 3 .i64 .i64 _ _ underlying3) (.cons (fun w=>kr) (fun w=>kr) (fun w=>run_equalIn_int w 9998 3 .i64 .i64 _ _ underlying3) (.cons (fun w=>kr) (fun w=>kr) (fun w=>run_equalIn_int w 9998 3 .i64 .i64 _ _ underlying3) EqI.nil)))
instance(a0:Int)(a1:Int)(a2:Int)(b0:Int)(b1:Int)(b2:Int):EqSI prog 101 [.int .i64 a0,.int .i64 a1,.int .i64 a2] [.int .i64 b0,.int .i64 b1,.int .i64 b2] (((a0 == b0) && ((a1 == b1) && ((a2 == b2) && true)))):=⟨Bdj _ _ _ _ _ _,kr⟩
theorem Bdk(a0:Int)(a1:Int)(b0:Int)(b1:Int):∀ w,(Op.equalIn 10000 103 (.agg #[.int .i64 a0,.int .i64 a1]) (.agg #[.int .i64 b0,.int .i64 b1])).run prog w = .ok (((a0 == b0) && ((a1 == b1) && true))) w :=
 EqI.array (c:=1) underlying103 (show prog.info? 3=some Tryz.t3 from by kernel_rfl) kr (.cons (fun w=>kr) (fun w=>kr) (fun w=>run_equalIn_int w 9998 3 .i64 .i64 _ _ underlying3) (.cons (fun w=>kr) (fun w=>kr) (fun w=>run_equalIn_int w 9998 3 .i64 .i64 _ _ underlying3) EqI.nil))
instance(a0:Int)(a1:Int)(b0:Int)(b1:Int):EqSI prog 103 [.int .i64 a0,.int .i64 a1] [.int .i64 b0,.int .i64 b1] (((a0 == b0) && ((a1 == b1) && true))):=⟨Bdk _ _ _ _,kr⟩
instance:Cm prog 26 0 0:=⟨.mk underlying26 rfl rfl (show prog.info? 22=some Tryz.t22 from by kernel_rfl) (show Tryz.t22.size=1 from by kernel_rfl) rfl⟩
instance:Cm prog 26 2 2:=⟨.mk underlying26 rfl rfl (show prog.info? 24=some t24 from by kernel_rfl) (show t24.size=1 from by kernel_rfl) rfl⟩
instance:OneI prog 24:=⟨.mk underlying24 rfl (show prog.info? 24=some t24 from by kernel_rfl) kr⟩
instance:Cm prog 26 1 1:=⟨.mk underlying26 rfl rfl (show prog.info? 23=some t23 from by kernel_rfl) (show t23.size=1 from by kernel_rfl) rfl⟩
instance:OneI prog 23:=⟨.mk underlying23 rfl (show prog.info? 23=some t23 from by kernel_rfl) kr⟩
instance:Te prog 295 [.int .i64 0,.int .i64 0,.int .i64 0]:=⟨⟨_,zeroValue295,rfl⟩⟩
instance:Cm prog 295 0 0:=⟨.mk underlying295 rfl rfl (show prog.info? 3=some Tryz.t3 from by kernel_rfl) (show Tryz.t3.size=1 from by kernel_rfl) rfl⟩
instance:Cm prog 295 1 1:=⟨.mk underlying295 rfl rfl (show prog.info? 3=some Tryz.t3 from by kernel_rfl) (show Tryz.t3.size=1 from by kernel_rfl) rfl⟩
instance:Cm prog 295 2 2:=⟨.mk underlying295 rfl rfl (show prog.info? 3=some Tryz.t3 from by kernel_rfl) (show Tryz.t3.size=1 from by kernel_rfl) rfl⟩
instance(x0:Int)(x1:Int)(x2:Int):Le prog 295 [(0,.int .i64 x0),(1,.int .i64 x1),(2,.int .i64 x2)] [.int .i64 x0,.int .i64 x1,.int .i64 x2]:=⟨fun w=>kr⟩
instance:AggI prog 295 3:=⟨.mk underlying295 rfl (show prog.info? 295=some t295 from by kernel_rfl) kr⟩
instance:UndI prog 23 (.slice 101):=⟨underlying23⟩
noncomputable def Bi(p0:List Ag)(p1:List Ag):Int->Option (Sum Int (Sum Unit Bool)):=fun s0=>
 if s0<(p0.length:Int) then (bnd (idx p0 s0) fun x0=>
 bnd (idx p1 s0) fun x1=>
 if (((x0.a0 == x1.a0) && ((x0.a1 == x1.a1) && ((x0.a2 == x1.a2) && true))))=true then (some (.inl (w64 (s0+1))))
 else (some (.inr (.inr false))))
 else (some (.inr (.inl ())))
noncomputable def Bz(p0:List Ag)(p1:List Ag):Option Bool :=
 if (p0.length:Int)=(p1.length:Int) then (jn (fun (s5:Unit)=>
 some true)
 (fun j5=>bnd (lfix (Bi p0 p1) 0) fun t0=>
 (match t0 with
 | (.inl z0)=>j5 z0
 | (.inr z0)=>some z0
 )))
 else (some false)
noncomputable def Bj(p0:List Ab)(p1:List Ab):Int->Option (Sum Int (Sum Unit Bool)):=fun s0=>
 if s0<(p0.length:Int) then (bnd (idx p0 s0) fun x0=>
 bnd (idx p1 s0) fun x1=>
 if (((x0.a0 == x1.a0) && ((x0.a1 == x1.a1) && true)))=true then (some (.inl (w64 (s0+1))))
 else (some (.inr (.inr false))))
 else (some (.inr (.inl ())))
noncomputable def Ca(p0:List Ab)(p1:List Ab):Option Bool :=
 if (p0.length:Int)=(p1.length:Int) then (jn (fun (s5:Unit)=>
 some true)
 (fun j5=>bnd (lfix (Bj p0 p1) 0) fun t0=>
 (match t0 with
 | (.inl z0)=>j5 z0
 | (.inr z0)=>some z0
 )))
 else (some false)
noncomputable def Ig(p0:Ao):Option Int :=
 bnd (Ic p0.V p0.Lines) fun r2=>
 jn (fun (s4:Bool)=>
 if s4=true then (some 64)
 else (some 0))
 (fun j4=>if r2.2=0 then (bnd (Bz r2.1.T p0.T) fun r0=>
 if r0=true then (bnd (Ca r2.1.Lines p0.Lines) fun r1=>
 j4 (!(r1)))
 else (j4 true))
 else (j4 true))
noncomputable def An(p0:Ac):Option Aa :=
 some (⟨p0.X,p0.Y⟩:Aa)
noncomputable def Fi(p0:Aa):Option Bool :=
 jn (fun (s2:Bool)=>
 some s2)
 (fun j2=>if (-268435456)<=p0.X then (if p0.X<=268435456 then (if (-268435456)<=p0.Y then (j2 (decide (p0.Y<=268435456)))
 else (j2 false))
 else (j2 false))
 else (j2 false))
noncomputable def Gr(p0:Ac):Option Bool :=
 jn (fun (s2:Bool)=>
 some s2)
 (fun j2=>bnd (An p0) fun r2=>
 bnd (Fi r2) fun r5=>
 if r5=true then (if (-268435456)<=p0.Z.Lo then (if p0.Z.Lo<=p0.Z.Hi then (j2 (decide (p0.Z.Hi<=268435456)))
 else (j2 false))
 else (j2 false))
 else (j2 false))
noncomputable def Ja(p0:Aa)(p1:Aa):Option Bool :=
 jn (fun (s2:Bool)=>
 some s2)
 (fun j2=>if p0.X<p1.X then (j2 true)
 else (if p0.X=p1.X then (j2 (decide (p0.Y<p1.Y)))
 else (j2 false)))
noncomputable def Rd(p0:Aa)(p1:Aa)(p2:Aa):Option Int :=
 some (w64 ((w64 ((w64 (p1.X-p0.X))*(w64 (p2.Y-p0.Y))))-(w64 ((w64 (p1.Y-p0.Y))*(w64 (p2.X-p0.X))))))
noncomputable def Jf(p0:Int):Option Int :=
 if p0<0 then (some (-1))
 else (if 0<p0 then (some 1)
 else (some 0))
noncomputable def Cf(p0:Aa)(p1:Aa)(p2:Aa):Option Int :=
 bnd (Rd p0 p1 p2) fun r4=>
 bnd (Jf r4) fun r7=>
 some r7
structure Cy where
 high:Int
 middle:Int
 low:Int
noncomputable def Ey(p0:Cy)(p1:Int)(p2:Int):Option Cy :=
 some (⟨w64 (p0.high+(w64 ((shr_ .i64 p1 30)*(shr_ .i64 p2 30)))),w64 ((w64 (p0.middle+(w64 ((shr_ .i64 p1 30)*(Dx .i64 p2 1073741823)))))+(w64 ((Dx .i64 p1 1073741823)*(shr_ .i64 p2 30)))),w64 (p0.low+(w64 ((Dx .i64 p1 1073741823)*(Dx .i64 p2 1073741823))))⟩:Cy)
noncomputable def Iw(p0:Cy):Option Int :=
 if (w64 (p0.high+(shr_ .i64 (w64 (p0.middle+(shr_ .i64 p0.low 30))) 30)))=0 then (bnd (Jf (w64 ((Dx .i64 (w64 (p0.middle+(shr_ .i64 p0.low 30))) 1073741823)+(Dx .i64 p0.low 1073741823)))) fun r8=>
 some r8)
 else (bnd (Jf (w64 (p0.high+(shr_ .i64 (w64 (p0.middle+(shr_ .i64 p0.low 30))) 30)))) fun r4=>
 some r4)
noncomputable def Mr(p0:Aa)(p1:Aa)(p2:Aa)(p3:Aa):Option Int :=
 bnd (Ey (⟨0,0,0⟩:Cy) (w64 ((w64 ((w64 (p0.X-p3.X))*(w64 (p0.X-p3.X))))+(w64 ((w64 (p0.Y-p3.Y))*(w64 (p0.Y-p3.Y)))))) (w64 ((w64 ((w64 (p1.X-p3.X))*(w64 (p2.Y-p3.Y))))-(w64 ((w64 (p1.Y-p3.Y))*(w64 (p2.X-p3.X))))))) fun r6=>
 bnd (Ey r6 (w64 ((w64 ((w64 (p1.X-p3.X))*(w64 (p1.X-p3.X))))+(w64 ((w64 (p1.Y-p3.Y))*(w64 (p1.Y-p3.Y)))))) (w64 ((w64 ((w64 (p2.X-p3.X))*(w64 (p0.Y-p3.Y))))-(w64 ((w64 (p2.Y-p3.Y))*(w64 (p0.X-p3.X))))))) fun r9=>
 bnd (Ey r9 (w64 ((w64 ((w64 (p2.X-p3.X))*(w64 (p2.X-p3.X))))+(w64 ((w64 (p2.Y-p3.Y))*(w64 (p2.Y-p3.Y)))))) (w64 ((w64 ((w64 (p0.X-p3.X))*(w64 (p1.Y-p3.Y))))-(w64 ((w64 (p0.Y-p3.Y))*(w64 (p1.X-p3.X))))))) fun r0=>
 bnd (Iw r0) fun r1=>
 some r1
instance(p0:List Ag)(p1:List Ag):Con (Bz p0 p1) prog 72 (fun K vs=>∃ U0 E0 U1 E1,vs=[.slice U0 p0.length E0,.slice U1 p1.length E1]/\Has K U0 p0.length E0 3 Ax p0/\Has K U1 p1.length E1 3 Ax p1/\True) (fun _ r=>fun v Ln=>v = .bool r/\Ln=[]/\True):=⟨by
 rintro K _ r ⟨U0,E0,U1,E1,rfl,ha0,ha1,-⟩ hx w hK;replace ha0:=Has.lo ha0 hK;replace ha1:=Has.lo ha1 hK;unfold Bz at hx;have:=dl 6 [0,0,0,1,0,0,0,1,0] [0,1,2,3,4,5,6,7,8];refine CtS ntmps72 results72 ?_;try (refine pre ?_;intros;rename_i hx)
 refine Cq2 (s:=10) hx rfl (fun _ hx=>?_) (fun _ hx=>?_)
 ·exact au
 ·try (refine pre ?_;intros;rename_i hx)
  apply Jr (γ:=Unit) hx [] (fun s5 y5 f=>f) [999] (fun s5 y5 l=>l);exact kk
  ·intro s5 y5 hx;exact au
  ·intro _ hx;try (refine pre ?_;intros;rename_i hx)
   apply Lr (γ:=Unit) hx [0,1,12] (fun s33 y33 f=>(13,.int .i64 s33)::f) [999] (fun s33 y33 l=>l) ();exact kk;exact sk;intro s33 y33 x33 hx _;unfold Bi at hx;exact au⟩
instance(p0:List Ab)(p1:List Ab):Con (Ca p0 p1) prog 73 (fun K vs=>∃ U0 E0 U1 E1,vs=[.slice U0 p0.length E0,.slice U1 p1.length E1]/\Has K U0 p0.length E0 2 Aq p0/\Has K U1 p1.length E1 2 Aq p1/\True) (fun _ r=>fun v Ln=>v = .bool r/\Ln=[]/\True):=⟨by
 rintro K _ r ⟨U0,E0,U1,E1,rfl,ha0,ha1,-⟩ hx w hK;replace ha0:=Has.lo ha0 hK;replace ha1:=Has.lo ha1 hK;unfold Ca at hx;have:=dl 6 [0,0,0,1,0,0,0,1,0] [0,1,2,3,4,5,6,7,8];refine CtS ntmps73 results73 ?_;try (refine pre ?_;intros;rename_i hx)
 refine Cq2 (s:=10) hx rfl (fun _ hx=>?_) (fun _ hx=>?_)
 ·exact au
 ·try (refine pre ?_;intros;rename_i hx)
  apply Jr (γ:=Unit) hx [] (fun s5 y5 f=>f) [999] (fun s5 y5 l=>l);exact kk
  ·intro s5 y5 hx;exact au
  ·intro _ hx;try (refine pre ?_;intros;rename_i hx)
   apply Lr (γ:=Unit) hx [0,1,12] (fun s33 y33 f=>(13,.int .i64 s33)::f) [999] (fun s33 y33 l=>l) ();exact kk;exact sk;intro s33 y33 x33 hx _;unfold Bj at hx;exact au⟩
instance(p0:Ao):Con (Ig p0) prog 33 (fun K vs=>∃ U0 E0 U1 E1 U2 E2,vs=[.agg #[.slice U0 p0.V.length E0,.slice U1 p0.T.length E1,.slice U2 p0.Lines.length E2]]/\Has K U0 p0.V.length E0 4 Ai p0.V/\Has K U1 p0.T.length E1 3 Ax p0.T/\Has K U2 p0.Lines.length E2 2 Aq p0.Lines/\True) (fun _ r=>fun v Ln=>v = .int .i64 r/\Ln=[]/\True):=⟨by
 rintro K _ r ⟨U0,E0,U1,E1,U2,E2,rfl,ha0,ha1,ha2,-⟩ hx w hK;replace ha0:=Has.lo ha0 hK;replace ha1:=Has.lo ha1 hK;replace ha2:=Has.lo ha2 hK;unfold Ig at hx;refine CtS ntmps33 results33 ?_;try (refine pre ?_;intros;rename_i hx)
 refine Bf ?_;try (refine pre ?_;intros;rename_i hx)
 apply Jr (γ:=Unit) hx [] (fun s4 y4 f=>(30,.bool s4)::f) [999] (fun s4 y4 l=>l);exact kk
 ·intro s4 y4 hx;exact au
 ·intro _ hx;exact au⟩
instance(p0:Ac):Con (An p0) prog 203 (fun _ vs=>vs=[.agg #[.int .i64 p0.X,.int .i64 p0.Y,.int .i64 p0.Z.Lo,.int .i64 p0.Z.Hi]]) (fun _ r=>fun v Ln=>v = .agg #[.int .i64 r.X,.int .i64 r.Y]/\Ln=[]/\True):=⟨by
 rintro _ _ r rfl hx w hK;unfold An at hx;refine CtS ntmps203 results203 ?_;exact au⟩
instance(p0:Aa):Con (Fi p0) prog 139 (fun _ vs=>vs=[.agg #[.int .i64 p0.X,.int .i64 p0.Y]]) (fun _ r=>fun v Ln=>v = .bool r/\Ln=[]/\True):=⟨by
 rintro _ _ r rfl hx w hK;unfold Fi at hx;refine CtS ntmps139 results139 ?_;exact au⟩
instance(p0:Ac):Con (Gr p0) prog 241 (fun _ vs=>vs=[.agg #[.int .i64 p0.X,.int .i64 p0.Y,.int .i64 p0.Z.Lo,.int .i64 p0.Z.Hi]]) (fun _ r=>fun v Ln=>v = .bool r/\Ln=[]/\True):=⟨by
 rintro _ _ r rfl hx w hK;unfold Gr at hx;refine CtS ntmps241 results241 ?_;exact au⟩
instance(p0:Aa)(p1:Aa):Con (Ja p0 p1) prog 244 (fun _ vs=>vs=[.agg #[.int .i64 p0.X,.int .i64 p0.Y],.agg #[.int .i64 p1.X,.int .i64 p1.Y]]) (fun _ r=>fun v Ln=>v = .bool r/\Ln=[]/\True):=⟨by
 rintro _ _ r rfl hx w hK;unfold Ja at hx;refine CtS ntmps244 results244 ?_;exact au⟩
instance(p0:Aa)(p1:Aa)(p2:Aa):Con (Rd p0 p1 p2) prog 251 (fun _ vs=>vs=[.agg #[.int .i64 p0.X,.int .i64 p0.Y],.agg #[.int .i64 p1.X,.int .i64 p1.Y],.agg #[.int .i64 p2.X,.int .i64 p2.Y]]) (fun _ r=>fun v Ln=>v = .int .i64 r/\Ln=[]/\True):=⟨by
 rintro _ _ r rfl hx w hK;unfold Rd at hx;refine CtS ntmps251 results251 ?_;exact au⟩
instance(p0:Int):Con (Jf p0) prog 250 (fun _ vs=>vs=[.int .i64 p0]) (fun _ r=>fun v Ln=>v = .int .i64 r/\Ln=[]/\True):=⟨by
 rintro _ _ r rfl hx w hK;unfold Jf at hx;refine CtS ntmps250 results250 ?_;exact au⟩
instance(p0:Aa)(p1:Aa)(p2:Aa):Con (Cf p0 p1 p2) prog 202 (fun _ vs=>vs=[.agg #[.int .i64 p0.X,.int .i64 p0.Y],.agg #[.int .i64 p1.X,.int .i64 p1.Y],.agg #[.int .i64 p2.X,.int .i64 p2.Y]]) (fun _ r=>fun v Ln=>v = .int .i64 r/\Ln=[]/\True):=⟨by
 rintro _ _ r rfl hx w hK;unfold Cf at hx;refine CtS ntmps202 results202 ?_;exact au⟩
instance(p0:Cy)(p1:Int)(p2:Int):Con (Ey p0 p1 p2) prog 299 (fun _ vs=>vs=[.agg #[.int .i64 p0.high,.int .i64 p0.middle,.int .i64 p0.low],.int .i64 p1,.int .i64 p2]) (fun _ r=>fun v Ln=>v = .agg #[.int .i64 r.high,.int .i64 r.middle,.int .i64 r.low]/\Ln=[]/\True):=⟨by
 rintro _ _ r rfl hx w hK;unfold Ey at hx;refine CtS ntmps299 results299 ?_;exact au⟩
instance(p0:Cy):Con (Iw p0) prog 300 (fun _ vs=>vs=[.agg #[.int .i64 p0.high,.int .i64 p0.middle,.int .i64 p0.low]]) (fun _ r=>fun v Ln=>v = .int .i64 r/\Ln=[]/\True):=⟨by
 rintro _ _ r rfl hx w hK;unfold Iw at hx;refine CtS ntmps300 results300 ?_;exact au⟩
instance(p0:Aa)(p1:Aa)(p2:Aa)(p3:Aa):Con (Mr p0 p1 p2 p3) prog 246 (fun _ vs=>vs=[.agg #[.int .i64 p0.X,.int .i64 p0.Y],.agg #[.int .i64 p1.X,.int .i64 p1.Y],.agg #[.int .i64 p2.X,.int .i64 p2.Y],.agg #[.int .i64 p3.X,.int .i64 p3.Y]]) (fun _ r=>fun v Ln=>v = .int .i64 r/\Ln=[]/\True):=⟨by
 rintro _ _ r rfl hx w hK;unfold Mr at hx;have:=dl 1 [0,1,0,1,0,0,1,0,1,0,0,1,0,1,0,0,1,0,1,0,0,1,0,1,0,0,1,0,1,0,2,2,2,2,2,2] [0,1,2,3,4,5,6,7,8,9,10,11,12,13,14,15,16,17,18,19,20,21,22,23,24,25,26,27,28,29,30,31,32,33,34,35];refine CtS ntmps246 results246 ?_;exact au⟩
theorem Ax6(a:Int):shr_ .i64 a 30=a / 1073741824:=by
 unfold shr_;rw[show (2:Int) ^ (min (30:Int).toNat IntKind.i64.bits)=1073741824 from by decide,Int.fdiv_eq_ediv_of_nonneg _ oo]
theorem Ax7(a:Int):Dx .i64 a 1073741823=a % 1073741824:=by
 unfold Dx;have h1:(BitVec.ofInt 64 1073741823).toNat=2 ^ 30-1:=dD;have h2:(BitVec.ofInt 64 a).toNat=(a % 18446744073709551616).toNat:=by simp[BitVec.toNat_ofInt]
 have h3:(BitVec.ofInt IntKind.i64.bits a &&& BitVec.ofInt IntKind.i64.bits 1073741823).toNat=(a % 1073741824).toNat:=by
  show (BitVec.ofInt 64 a &&& BitVec.ofInt 64 1073741823).toNat=_;rw[BitVec.toNat_and,h1,Nat.and_two_pow_sub_one_eq_mod,h2];omega
 rw[h3];show IntKind.wrap .i64 _=_;rw[IntKind.wrap_i64];omega
def wval(w:Cy):Int:=w.high*1152921504606846976+w.middle*1073741824+w.low
structure Aps(w:Cy)(n z:Int):Prop where
 val:wval w=z
 high:-(n*288230376151711744)<=w.high/\w.high<=n*288230376151711744
 middle:-(n*1152921504606846976)<=w.middle/\w.middle<=n*1152921504606846976
 low:0<=w.low/\w.low<=n*1152921504606846976
theorem Aij{w:Cy}{n z a b:Int}(h:Aps w n z)(hn0:0<=n)(hn:n<=2)(ha1:-576460752303423488<=a)(ha2:a<=576460752303423488)(hb1:-576460752303423488<=b)(hb2:b<=576460752303423488):
  ∃ w',Ey w a b=some w'/\Aps w' (n+1) (z+a*b):=by
 obtain⟨h0,h1,h2,h3⟩:=h;unfold Ey;rw[Ax6,Ax6,Ax7,Ax7];have ea:a=a / 1073741824*1073741824+a % 1073741824:=oo;have eb:b=b / 1073741824*1073741824+b % 1073741824:=oo;have A1:-536870912<=a / 1073741824/\a / 1073741824<=536870912:=oo;have B1:-536870912<=b / 1073741824/\b / 1073741824<=536870912:=oo;have A0:0<=a % 1073741824/\a % 1073741824<=1073741824:=oo;have B0:0<=b % 1073741824/\b % 1073741824<=1073741824:=oo;generalize a / 1073741824=a1 at *;generalize b / 1073741824=b1 at *;generalize a % 1073741824=a0 at *;generalize b % 1073741824=b0 at *;have p1:=mulB (x:=a1) (y:=b1) (M:=536870912) (N:=536870912) oo oo oo oo oo;have p2:=mulB (x:=a1) (y:=b0) (M:=536870912) (N:=1073741824) oo oo oo oo oo;have p3:=mulB (x:=a0) (y:=b1) (M:=1073741824) (N:=536870912) oo oo oo oo oo;have p4:=mulB (x:=a0) (y:=b0) (M:=1073741824) (N:=1073741824) oo oo oo oo oo;have p5:0<=a0*b0:=Int.mul_nonneg A0.1 B0.1;have e:a*b=a1*b1*1152921504606846976+(a1*b0+a0*b1)*1073741824+a0*b0:=by
  rw[ea,eb];grind
 rw[As (x:=a1*b1) oo oo,As (x:=a1*b0) oo oo,As (x:=a0*b1) oo oo,As (x:=a0*b0) oo oo,
  As (x:=w.high+a1*b1) oo oo,As (x:=w.middle+a1*b0) oo oo,As oo oo,As oo oo]
 refine⟨_,rfl,?_,?_,?_,?_⟩
 ·unfold wval at h0 ⊢;simp only;omega
 ·simp only;omega
 ·simp only;omega
 ·simp only;omega
theorem Aik(z:Int):Jf z=some (Int.sign z):=by
 unfold Jf
 by_cases h:z<0
 ·rw[if_pos h,Int.sign_eq_neg_one_of_neg h]
 ·rw[if_neg h]
  by_cases h2:0<z
  ·rw[if_pos h2,Int.sign_eq_one_of_pos h2]
  ·rw[if_neg h2,show z=0 by omega];rfl
theorem At4{w:Cy}{z:Int}(h:Aps w 3 z):Iw w=some (Int.sign z):=by
 obtain⟨h0,h1,h2,h3⟩:=h;unfold Iw;simp only[Ax6,Ax7];have e1:w.low=w.low / 1073741824*1073741824+w.low % 1073741824:=oo;rw[As (x:=w.middle+w.low / 1073741824) oo oo];have e2:w.middle+w.low / 1073741824=(w.middle+w.low / 1073741824) / 1073741824*1073741824+(w.middle+w.low / 1073741824) % 1073741824:=oo;unfold wval at h0;have l0:0<=w.low % 1073741824/\w.low % 1073741824<1073741824:=oo;have m0:0<=(w.middle+w.low / 1073741824) % 1073741824/\(w.middle+w.low / 1073741824) % 1073741824<1073741824:=oo;have hb:-4611686018427387904<=w.high+(w.middle+w.low / 1073741824) / 1073741824/\w.high+(w.middle+w.low / 1073741824) / 1073741824<=4611686018427387904:=oo;have hz:z=(w.high+(w.middle+w.low / 1073741824) / 1073741824)*1152921504606846976+(w.middle+w.low / 1073741824) % 1073741824*1073741824+w.low % 1073741824:=oo;clear e1 e2 h0 h1 h2 h3;rw[As (x:=w.high+(w.middle+w.low / 1073741824) / 1073741824) oo oo];generalize w.high+(w.middle+w.low / 1073741824) / 1073741824=H at *;generalize (w.middle+w.low / 1073741824) % 1073741824=M at *;generalize w.low % 1073741824=L at *
 by_cases c:H=0
 ·rw[if_pos c,As oo oo,Aik,Ad];congr 1
  by_cases c2:M+L=0
  ·rw[c2,show z=0 by omega]
  ·rw[Int.sign_eq_one_of_pos oo,Int.sign_eq_one_of_pos oo]
 ·rw[if_neg c,Aik,Ad];congr 1
  by_cases c2:H<0
  ·rw[Int.sign_eq_neg_one_of_neg c2,Int.sign_eq_neg_one_of_neg oo]
  ·rw[Int.sign_eq_one_of_pos oo,Int.sign_eq_one_of_pos oo]
theorem At5{a b c:Aa}(ha:okP a)(hb:okP b)(hc:okP c):Rd a b c=some (crs a b c):=Sw ha hb hc
theorem Rx{a b c:Aa}(ha:okP a)(hb:okP b)(hc:okP c):Cf a b c=some (Int.sign (crs a b c)):=by
 unfold Cf;rw[At5 ha hb hc,Ad,Aik,Ad]
theorem Apt{a b c d:Aa}(ha:okP a)(hb:okP b)(hc:okP c)(hd:okP d):Mr a b c d=some (Int.sign (inC a b c d)):=by
 have l1:=Ac1 ha hd;have l2:=Ac1 hb hd;have l3:=Ac1 hc hd;have c1:=Gk hd hb hc;have c2:=Gk hd hc ha;have c3:=Gk hd ha hb;obtain⟨w1,e1,i1⟩:=Aij (w:=⟨0,0,0⟩) (n:=0) (z:=0) (a:=lft a d) (b:=crs d b c) ⟨rfl,s_,s_,s_⟩ oo oo oo oo oo oo;obtain⟨w2,e2,i2⟩:=Aij (a:=lft b d) (b:=crs d c a) i1 oo oo oo oo oo oo;obtain⟨w3,e3,i3⟩:=Aij (a:=lft c d) (b:=crs d a b) i2 oo oo oo oo oo oo;have x1:w64 (w64 (w64 (a.X-d.X)*w64 (a.X-d.X))+w64 (w64 (a.Y-d.Y)*w64 (a.Y-d.Y)))=lft a d:=Option.some.inj (Abl ha hd);have x2:w64 (w64 (w64 (b.X-d.X)*w64 (b.X-d.X))+w64 (w64 (b.Y-d.Y)*w64 (b.Y-d.Y)))=lft b d:=Option.some.inj (Abl hb hd);have x3:w64 (w64 (w64 (c.X-d.X)*w64 (c.X-d.X))+w64 (w64 (c.Y-d.Y)*w64 (c.Y-d.Y)))=lft c d:=Option.some.inj (Abl hc hd);have y1:w64 (w64 (w64 (b.X-d.X)*w64 (c.Y-d.Y))-w64 (w64 (b.Y-d.Y)*w64 (c.X-d.X)))=crs d b c:=Option.some.inj (Sw hd hb hc);have y2:w64 (w64 (w64 (c.X-d.X)*w64 (a.Y-d.Y))-w64 (w64 (c.Y-d.Y)*w64 (a.X-d.X)))=crs d c a:=Option.some.inj (Sw hd hc ha);have y3:w64 (w64 (w64 (a.X-d.X)*w64 (b.Y-d.Y))-w64 (w64 (a.Y-d.Y)*w64 (b.X-d.X)))=crs d a b:=Option.some.inj (Sw hd ha hb);unfold Mr;simp only[x1,x2,x3,y1,y2,y3,e1,Ad,e2,e3];rw[At4 (by simpa using i3),Ad];simp[inC]
def befP(p q:Aa):Prop:=p.X<q.X\/p.X=q.X/\p.Y<q.Y
instance(p q:Aa):Decidable (befP p q):=by unfold befP;infer_instance
def Bx(p q:Aa):Prop:=p.X=q.X/\p.Y=q.Y
instance(p q:Aa):Decidable (Bx p q):=by unfold Bx;infer_instance
theorem Ad5{p q:Aa}(h:Bx p q):p=q:=by
 obtain⟨x,y⟩:=p;obtain⟨x',y'⟩:=q;obtain⟨h1,h2⟩:=h;simp only at h1 h2;rw[h1,h2]
def Nc(a b:Aa):Aa:=if befP b a then b else a
theorem Ax8(a b:Aa):Fe a b=some (decide (befP a b)):=by
 unfold Fe jn befP;simp only
 by_cases h1:a.X<b.X
 ·simp[h1]
 ·by_cases h2:a.X=b.X
  ·simp[h2]
  ·simp[h1,h2]
theorem Ar3(a:Aa):Fi a=some (decide (okP a)):=by
 unfold Fi;rw[jn_d]
 by_cases h1:-268435456<=a.X
 ·rw[if_pos h1]
  by_cases h2:a.X<=268435456
  ·rw[if_pos h2]
   by_cases h3:-268435456<=a.Y
   ·rw[if_pos h3]
    by_cases h4:a.Y<=268435456
    ·rw[decide_eq_true h4,decide_eq_true (show okP a by unfold okP;omega)]
    ·rw[decide_eq_false h4,decide_eq_false (show ¬ okP a by unfold okP;omega)]
   ·rw[if_neg h3,decide_eq_false (show ¬ okP a by unfold okP;omega)]
  ·rw[if_neg h2,decide_eq_false (show ¬ okP a by unfold okP;omega)]
 ·rw[if_neg h1,decide_eq_false (show ¬ okP a by unfold okP;omega)]
theorem Apu(B:(Int × Int × Int)->Option (Sum (Int × Int × Int) (Int × Int)))(p q r:Aa)(hB:∀ x y i,B (x,y,i)=if i<3 then bnd (idx [p,q,r] i) fun z=>some (.inl ((Nc ⟨x,y⟩ z).X,(Nc ⟨x,y⟩ z).Y,w64 (i+1))) else some (.inr (x,y)))(x y:Int):
  lfix B (x,y,0)=some ((Nc (Nc (Nc ⟨x,y⟩ p) q) r).X,(Nc (Nc (Nc ⟨x,y⟩ p) q) r).Y):=by
 have w1:w64 (0+1)=1:=As oo oo;have w2:w64 (1+1)=2:=As oo oo;have w3:w64 (2+1)=3:=As oo oo;have i0:idx [p,q,r] 0=some p:=rfl;have i1:idx [p,q,r] 1=some q:=rfl;have i2:idx [p,q,r] 2=some r:=rfl;rw[Bg,hB,if_pos oo,i0,Ad,w1];simp only;rw[Bg,hB,if_pos oo,i1,Ad,w2];simp only;rw[Bg,hB,if_pos oo,i2,Ad,w3];simp only;rw[Bg,hB,if_neg oo]
theorem At6{a b c d:Aa}(h1:¬ Bx a c)(h2:¬ Bx a d)(h3:¬ Bx b c)(h4:¬ Bx b d):
  (Bx (Nc (Nc (Nc a b) c) d) c\/Bx (Nc (Nc (Nc a b) c) d) d)↔((befP c a/\befP c b)\/(befP d a/\befP d b)):=by
 have key:∀ p q:Aa,(befP q p/\Nc p q=q)\/(¬ befP q p/\Nc p q=p):=fun p q=>by
  unfold Nc
  by_cases h:befP q p
  ·exact .inl ⟨h,if_pos h⟩
  ·exact .inr ⟨h,if_neg h⟩
 rcases key a b with⟨k1,e1⟩|⟨k1,e1⟩ <;> rw[e1]
 ·rcases key b c with⟨k2,e2⟩|⟨k2,e2⟩ <;> rw[e2]
  ·rcases key c d with⟨k3,e3⟩|⟨k3,e3⟩ <;> rw[e3] <;> unfold Bx befP at * <;> omega
  ·rcases key b d with⟨k3,e3⟩|⟨k3,e3⟩ <;> rw[e3] <;> unfold Bx befP at * <;> omega
 ·rcases key a c with⟨k2,e2⟩|⟨k2,e2⟩ <;> rw[e2]
  ·rcases key c d with⟨k3,e3⟩|⟨k3,e3⟩ <;> rw[e3] <;> unfold Bx befP at * <;> omega
  ·rcases key a d with⟨k3,e3⟩|⟨k3,e3⟩ <;> rw[e3] <;> unfold Bx befP at * <;> omega
def legP(a b c d:Aa):Prop:=Int.sign (crs a b c)*Int.sign (inC a b c d)<0\/Int.sign (crs a b c)*Int.sign (inC a b c d)=0/\((befP c a/\befP c b)\/(befP d a/\befP d b))
instance(a b c d:Aa):Decidable (legP a b c d):=by unfold legP;infer_instance
theorem Sm(a c:Aa):crs a c c=0:=by unfold crs;grind
theorem Bv(a b:Aa):crs a b a=0:=by unfold crs;grind
theorem Bo(a b:Aa):crs a b b=0:=by unfold crs;grind
theorem Yh(a b:Aa):crs a a b=0:=by unfold crs;grind
theorem Bb(a b c:Aa):crs b a c = -crs a b c:=by unfold crs;grind
theorem Ar(a b c:Aa):crs b c a=crs a b c:=by unfold crs;grind
theorem Ax9{a b c d:Aa}(ha:okP a)(hb:okP b)(hc:okP c)(hd:okP d)(h1:¬ Bx a c)(h2:¬ Bx a d)(h3:¬ Bx b c)(h4:¬ Bx b d):To a b c d=some (decide (legP a b c d)):=by
 unfold To;rw[As3,if_pos ⟨ha,hb,hc,hd⟩,Ad];have e:(if crs a b c=0 then ((0:Int),(12:Int)) else (Int.sign (crs a b c)*Int.sign (inC a b c d),0)).1=Int.sign (crs a b c)*Int.sign (inC a b c d):=by
  split
  ·rename_i h;rw[h];simp
  ·rfl
 rw[e]
 by_cases h0:Int.sign (crs a b c)*Int.sign (inC a b c d)=0
 ·rw[if_pos h0,jn_d,Apu _ b c d (fun x y i=>?_),Ad]
  ·dsimp only;rw[jn_d];have hl:=At6 h1 h2 h3 h4
   by_cases hcc:Bx (Nc (Nc (Nc a b) c) d) c
   ·have:legP a b c d:=.inr ⟨h0,hl.1 (.inl hcc)⟩;rw[if_pos (by simpa[Bx] using hcc),decide_eq_true this]
   ·rw[if_neg (by simpa[Bx] using hcc)];congr 1;rw[Bool.eq_iff_iff];simp only[Bool.and_true,Bool.and_eq_true,beq_iff_eq,decide_eq_true_eq];unfold legP;constructor
    ·intro h;exact .inr ⟨h0,hl.1 (.inr h)⟩
    ·rintro (h | ⟨_,h⟩)
     ·omega
     ·exact (hl.2 h).resolve_left hcc
  ·unfold Wy;simp only;split
   ·refine congrArg (bnd _) (funext fun z=>?_);rw[Ax8,Ad];unfold Nc
    by_cases hb:befP z ⟨x,y⟩
    ·rw[if_pos (by simpa using hb),if_pos hb]
    ·rw[if_neg (by simpa using hb),if_neg hb]
   ·rfl
 ·rw[if_neg h0];congr 1;rw[Bool.eq_iff_iff];simp only[decide_eq_true_eq];unfold legP;constructor
  ·intro h;exact .inl h
  ·rintro (h | ⟨h,_⟩)
   ·exact h
   ·exact absurd h h0
theorem Aex{x y:Int}:Int.sign x*Int.sign y = -1↔(x<0/\0<y)\/(0<x/\y<0):=by
 rcases Int.lt_trichotomy x 0 with h | h | h <;> rcases Int.lt_trichotomy y 0 with h' | h' | h'
 all_goals first
  | (rw[Int.sign_eq_neg_one_of_neg h];try rw[Int.sign_eq_neg_one_of_neg h'])
  | (rw[Int.sign_eq_one_of_pos h];try rw[Int.sign_eq_neg_one_of_neg h'])
  | (rw[h])
 all_goals try rw[Int.sign_eq_one_of_pos h']
 all_goals try rw[h']
 all_goals simp
 all_goals omega
theorem Ww{x y:Int}:w64 (Int.sign x*Int.sign y)=Int.sign x*Int.sign y:=by
 apply As
 ·rcases Int.sign_trichotomy x with h | h | h <;> rcases Int.sign_trichotomy y with h' | h' | h' <;> simp[h,h']
 ·rcases Int.sign_trichotomy x with h | h | h <;> rcases Int.sign_trichotomy y with h' | h' | h' <;> simp[h,h']
theorem Alr{x y:Int}:0<=Int.sign x*Int.sign y↔¬ Int.sign x*Int.sign y = -1:=by
 rcases Int.sign_trichotomy x with h | h | h <;> rcases Int.sign_trichotomy y with h' | h' | h' <;> simp[h,h']
theorem Als{a b c d:Aa}(h:Int.sign (crs a b c)*Int.sign (crs a b d) = -1):¬ Bx a c/\¬ Bx a d/\¬ Bx b c/\¬ Bx b d:=by
 rw[Aex] at h;refine⟨fun e=>?_,fun e=>?_,fun e=>?_,fun e=>?_⟩ <;> (have:=Ad5 e;subst this;simp only[Sm,Bv,Bo] at h;omega)
def Dt(ha hb hc hd:Int)(a b c d:Aa):Int:=ha*crs b c d+hb*crs c a d+hc*crs a b d-hd*crs a b c
def plt(ha hb hc:Int)(a b c x:Aa):Int:=ha*crs b c x+hb*crs c a x+hc*crs a b x
def sq(p:Aa):Int:=p.X*p.X+p.Y*p.Y
theorem Bdl(a b c d:Aa):inC a b c d=Dt (sq a) (sq b) (sq c) (sq d) a b c d:=by unfold inC Dt lft sq crs;grind
theorem Alt(ha hb hc hd:Int)(a b c d:Aa):Dt ha hb hc hd a b c d=plt ha hb hc a b c d-hd*crs a b c:=rfl
theorem Qu(a b c d:Aa):crs a b c=crs b c d+crs c a d+crs a b d:=by unfold crs;grind
theorem Bdm(a b c q r u:Aa):crs b c u*crs q r a+crs c a u*crs q r b+crs a b u*crs q r c=crs a b c*crs q r u:=by unfold crs;grind
theorem Ty(ha hb hc hd:Int)(a b c d x:Aa):plt hb ha hd b a d x*crs a b c-plt ha hb hc a b c x*crs b a d=Dt ha hb hc hd a b c d*crs a b x:=by
 unfold plt Dt crs;grind
theorem Bap(ha hb hc hd:Int)(a b c d:Aa):Dt hb ha hc hd b a c d = -Dt ha hb hc hd a b c d:=by unfold Dt crs;grind
theorem Bdn(ha hb hc hd:Int)(a b c d:Aa):Dt hb hc ha hd b c a d=Dt ha hb hc hd a b c d:=by unfold Dt crs;grind
theorem An3(ha hb hc hd:Int)(a b c d:Aa):Dt ha hb hd hc a b d c = -Dt ha hb hc hd a b c d:=by unfold Dt crs;grind
theorem Ad6(ha hb hc:Int)(a b c x:Aa):plt hb hc ha b c a x=plt ha hb hc a b c x:=by unfold plt;grind
theorem Be2(ha hb hc:Int)(a b c:Aa):plt ha hb hc a b c a=ha*crs a b c:=by unfold plt crs;grind
theorem Bbj(ha hb hc:Int)(a b c:Aa):plt ha hb hc a b c b=hb*crs a b c:=by unfold plt crs;grind
theorem Bbk(ha hb hc:Int)(a b c:Aa):plt ha hb hc a b c c=hc*crs a b c:=by unfold plt crs;grind
theorem Bdo(a b c d:Aa):inC a b c d=lft a b*crs b c d+lft c b*crs a b d-lft d b*crs a b c:=by unfold inC lft crs;grind
theorem Alu{p q:Aa}(h:¬ Bx p q):0<lft p q:=by
 unfold lft;have h1:0<=(p.X-q.X)*(p.X-q.X):=by rw[<- Int.natAbs_mul_self];omega
 have h2:0<=(p.Y-q.Y)*(p.Y-q.Y):=by rw[<- Int.natAbs_mul_self];omega
 by_cases hx:p.X=q.X
 ·have hy:p.Y-q.Y≠0:=fun e=>h ⟨hx,oo⟩
  have:0<(p.Y-q.Y)*(p.Y-q.Y):=by
   rcases Int.lt_or_gt_of_ne hy with g | g
   ·exact Int.mul_pos_of_neg_of_neg g g
   ·exact Int.mul_pos g g
  omega
 ·have hx':p.X-q.X≠0:=oo;have:0<(p.X-q.X)*(p.X-q.X):=by
   rcases Int.lt_or_gt_of_ne hx' with g | g
   ·exact Int.mul_pos_of_neg_of_neg g g
   ·exact Int.mul_pos g g
  omega
theorem Zd(p q:Aa):0<=lft p q:=by
 unfold lft;have h1:0<=(p.X-q.X)*(p.X-q.X):=by rw[<- Int.natAbs_mul_self];omega
 have h2:0<=(p.Y-q.Y)*(p.Y-q.Y):=by rw[<- Int.natAbs_mul_self];omega
 omega
theorem Ail{a b c d:Aa}(h1:0<crs a b c)(h2:crs a b d<0)(h3:crs b c d<=0):inC a b c d<0:=by
 have hd:¬ Bx d b:=fun e=>by
  have:=Ad5 e;subst this;simp only[Bo] at h2;omega
 rw[Bdo];have e1:lft a b*crs b c d<=0:=Int.mul_nonpos_of_nonneg_of_nonpos (Zd a b) h3;have e2:lft c b*crs a b d<=0:=Int.mul_nonpos_of_nonneg_of_nonpos (Zd c b) oo;have e3:0<lft d b*crs a b c:=Int.mul_pos (Alu hd) h1;omega
theorem Aa6{a b c d:Aa}(h1:0<crs a b c)(h2:crs a b d<0)(h3:crs c a d<=0):inC a b c d<0:=by
 have e:inC a b c d=lft b a*crs c a d+lft c a*crs a b d-lft d a*crs a b c:=by unfold inC lft crs;grind
 have hd:¬ Bx d a:=fun e=>by
  have:=Ad5 e;subst this;simp only[Bv] at h2;omega
 rw[e];have e1:lft b a*crs c a d<=0:=Int.mul_nonpos_of_nonneg_of_nonpos (Zd b a) h3;have e2:lft c a*crs a b d<=0:=Int.mul_nonpos_of_nonneg_of_nonpos (Zd c a) oo;have e3:0<lft d a*crs a b c:=Int.mul_pos (Alu hd) h1;omega
def ph(α β:Int)(p:Aa):Int:=α*p.X+β*p.Y
theorem Be3(α β:Int)(a b c d:Aa):(ph α β b-ph α β a)*crs a c d+(ph α β c-ph α β a)*crs a d b+(ph α β d-ph α β a)*crs a b c=0:=by unfold ph crs;grind
section
variable {α β:Int}
theorem Aim{x y:Int}(hx:0<x)(h:0<x*y):0<y:=by
 rcases Int.lt_trichotomy y 0 with g | g | g
 ·have:=Int.mul_neg_of_pos_of_neg hx g;omega
 ·subst g;simp at h
 ·exact g
theorem Uc{x y:Int}(hx:0<x)(h:0<=x*y):0<=y:=by
 rcases Int.lt_or_le y 0 with g | g
 ·have:=Int.mul_neg_of_pos_of_neg hx g;omega
 ·exact g
end
section
variable (P:Int->Aa) (α β:Int)
def Sup(D:List Int)(a b:Int):Prop:=ph α β (P a)<ph α β (P b)/\∀ k∈D,0<crs (P a) (P b) (P k)\/(crs (P a) (P b) (P k)=0/\ph α β (P a)<=ph α β (P k)/\ph α β (P k)<=ph α β (P b))
def Bbl(Q:Int->Int->Prop):List Int->Prop
 | b::a::r=>Q a b/\Bbl Q (a::r)
 | _=>True
structure ChainC(f:Int)(D s:List Int):Prop where
 sub:∀ x∈s,x∈D
 edge:Bbl (Sup P α β D) s
 bot:∃ r,s=r++[f]
 low:∀ k∈D,k=f\/ph α β (P f)<ph α β (P k)
variable {P α β}
end
theorem Ze{a b c x y z:Int}(hx:0<x)(hy:0<y)(hz:0<z)(h1:a*y<b*x)(h2:b*z<c*y):a*z<c*x:=by
 have h3:=Int.mul_lt_mul_of_pos_right h1 hz;have h4:=Int.mul_lt_mul_of_pos_right h2 hx;have h5:y*(a*z)<y*(c*x):=by
  have e1:y*(a*z)=a*y*z:=by grind
  have e2:b*x*z=b*z*x:=by grind
  have e3:y*(c*x)=c*y*x:=by grind
  rw[e1,e3];rw[e2] at h3;exact Int.lt_trans h3 h4
 exact Int.lt_of_mul_lt_mul_left h5 (Int.le_of_lt hy)
theorem Yi{α:Type}{p q:α->Bool}{x:α}:∀ {l:List α},(∀ y∈l,p y=true->q y=true)->x∈l->q x=true->p x=false->l.countP p<l.countP q
 | [],_,hx,_,_=>by cases hx
 | y::r,h',hx,hq,hp=>by
  have h:=h' y mem_cons_self;have h2:∀ z∈r,p z=true->q z=true:=fun z hz=>h' z (mem_cons_of_mem _ hz)
  have hle:r.countP p<=r.countP q:=countP_mono_left h2;rw[countP_cons,countP_cons];rcases mem_cons.1 hx with rfl | hx
  ·rw[hq,hp];simp;omega
  ·have:=Yi h2 hx hq hp
   by_cases c:p y=true
   ·rw[if_pos c,if_pos (h c)];omega
   ·rw[if_neg c];split <;> omega
def c3(a b p q r:Aa):Int:=crs a b p+crs a b q+crs a b r
def p3(ha hb hc:Int)(a b c p q r:Aa):Int:=plt ha hb hc a b c p+plt ha hb hc a b c q+plt ha hb hc a b c r
theorem At7(ha hb hc hd:Int)(a b c d p q r:Aa):p3 hb ha hd b a d p q r*crs a b c-p3 ha hb hc a b c p q r*crs b a d=Dt ha hb hc hd a b c d*c3 a b p q r:=by
 have h1:=Ty ha hb hc hd a b c d p;have h2:=Ty ha hb hc hd a b c d q;have h3:=Ty ha hb hc hd a b c d r;unfold p3 c3;grind
theorem Aya(ha hb hc:Int)(a b c p q r:Aa):p3 hb hc ha b c a p q r=p3 ha hb hc a b c p q r:=by unfold p3;rw[Ad6 ha hb hc a b c p,Ad6 ha hb hc a b c q,Ad6 ha hb hc a b c r]
abbrev T3:=Int × Int × Int
variable {P:Int->Aa} {H:Int->Int}
def Yj(P:Int->Aa)(t:T3):Int:=crs (P t.1) (P t.2.1) (P t.2.2)
def hgt3(P:Int->Aa)(H:Int->Int)(t:T3)(p q r:Aa):Int:=p3 (H t.1) (H t.2.1) (H t.2.2) (P t.1) (P t.2.1) (P t.2.2) p q r
def Zm(P:Int->Aa)(H:Int->Int)(p q r:Aa)(t s:T3):Prop:=hgt3 P H t p q r*Yj P s<hgt3 P H s p q r*Yj P t
instance(p q r:Aa)(t s:T3):Decidable (Zm P H p q r t s):=by unfold Zm;infer_instance
def DH(P:Int->Aa)(H:Int->Int)(a b c d:Int):Int:=Dt (H a) (H b) (H c) (H d) (P a) (P b) (P c) (P d)
structure Alv(P:Int->Aa)(X:List T3):Prop where
 rot:∀ a b c,(a,b,c)∈X->(b,c,a)∈X
 ccw:∀ a b c,(a,b,c)∈X->0<crs (P a) (P b) (P c)
theorem walk{X:List T3}(hX:Alv P X)(p q r:Aa)(step:∀ a b c,(a,b,c)∈X->c3 (P a) (P b) p q r<0->∃ d,(b,a,d)∈X/\DH P H a b c d<0):
  ∀ t∈X,∃ s∈X,0<=c3 (P s.1) (P s.2.1) p q r/\0<=c3 (P s.2.1) (P s.2.2) p q r/\0<=c3 (P s.2.2) (P s.1) p q r/\(s=t\/Zm P H p q r t s):=by
 have key:∀ (n:Nat) (t:T3),t∈X->X.countP (fun s=>decide (Zm P H p q r t s))=n->∃ s∈X,0<=c3 (P s.1) (P s.2.1) p q r/\0<=c3 (P s.2.1) (P s.2.2) p q r/\0<=c3 (P s.2.2) (P s.1) p q r/\(s=t\/Zm P H p q r t s):=by
  intro n
  induction n using Nat.strongRecOn with
  | ind n ih=>
   intro t ht hn;have go:∀ t':T3,t'∈X->hgt3 P H t' p q r=hgt3 P H t p q r->Yj P t'=Yj P t->c3 (P t'.1) (P t'.2.1) p q r<0 ->
     ∃ s∈X,0<=c3 (P s.1) (P s.2.1) p q r/\0<=c3 (P s.2.1) (P s.2.2) p q r/\0<=c3 (P s.2.2) (P s.1) p q r/\(s=t\/Zm P H p q r t s):=by
    rintro⟨a,b,c⟩ h1 h2 h3 h4;obtain⟨d,h5,h6⟩:=step a b c h1 h4;have hb:Zm P H p q r t (b,a,d):=by
     unfold Zm;rw[<- h2,<- h3];have e:=At7 (H a) (H b) (H c) (H d) (P a) (P b) (P c) (P d) p q r;have:0<Dt (H a) (H b) (H c) (H d) (P a) (P b) (P c) (P d)*c3 (P a) (P b) p q r:=Int.mul_pos_of_neg_of_neg h6 h4;show p3 _ _ _ _ _ _ p q r*crs _ _ _<p3 _ _ _ _ _ _ p q r*crs _ _ _;simp only;omega
    have hpos:∀ u∈X,0<Yj P u:=fun u hu=>hX.ccw u.1 u.2.1 u.2.2 hu
    have hlt:X.countP (fun s=>decide (Zm P H p q r (b,a,d) s))<n:=by
     rw[<- hn];refine Yi (x:=(b,a,d)) (fun y hy hb2=>?_) h5 (by simpa using hb) (by simp[Zm]);rw[decide_eq_true_eq] at hb2 ⊢;exact Ze (hpos t ht) (hpos _ h5) (hpos y hy) hb hb2
    obtain⟨s,k1,k2,k3,k4,k5⟩:=ih _ hlt (b,a,d) h5 rfl;refine⟨s,k1,k2,k3,k4,.inr ?_⟩;rcases k5 with rfl | k5
    ·exact hb
    ·exact Ze (hpos t ht) (hpos _ h5) (hpos s k1) hb k5
   obtain⟨a,b,c⟩:=t
   by_cases g1:c3 (P a) (P b) p q r<0
   ·exact go (a,b,c) ht rfl rfl g1
   ·by_cases g2:c3 (P b) (P c) p q r<0
    ·exact go (b,c,a) (hX.rot _ _ _ ht) (Aya _ _ _ _ _ _ _ _ _) (Ar _ _ _) g2
    ·by_cases g3:c3 (P c) (P a) p q r<0
     ·exact go (c,a,b) (hX.rot _ _ _ (hX.rot _ _ _ ht)) (by unfold hgt3;rw[<- Aya]) (by unfold Yj;rw[<- Ar]) g3
     ·exact⟨(a,b,c),ht,by simp only;omega,by simp only;omega,by simp only;omega,.inl rfl⟩
 exact fun t ht=>key _ t ht rfl
end Go.Proofs.YthlkpgdfifnagaaGreat
namespace Go.Proofs.YthlkpgdfifnagaaGreat
open Go Go.RowKit Tryz List
variable {P:Int->Aa} {H:Int->Int} {V:Int->Prop}
theorem global{X:List T3}(hX:Alv P X)(emp:∀ a b c,(a,b,c)∈X->∀ d,V d->d≠a->d≠b->d≠c->crs (P a) (P b) (P d)<0\/crs (P b) (P c) (P d)<0\/crs (P c) (P a) (P d)<0)(leg:∀ a b c,(a,b,c)∈X->∀ d,V d->crs (P a) (P b) (P d)<0->∃ e,(b,a,e)∈X/\DH P H a b c e<0):
  ∀ a b c,(a,b,c)∈X->∀ d,V d->d≠a->d≠b->d≠c->DH P H a b c d<0:=by
 intro a b c ht d hd h1 h2 h3;have c3d:∀ x y,c3 x y (P d) (P d) (P d)=3*crs x y (P d):=fun x y=>by unfold c3;omega
 obtain⟨⟨x,y,z⟩,hs,g1,g2,g3,g4⟩:=walk (H:=H) hX (P d) (P d) (P d) (fun a b c h hc=>leg a b c h d hd (by rw[c3d] at hc;omega)) (a,b,c) ht;simp only[c3d] at g1 g2 g3;rcases g4 with e | hb
 ·cases e
  rcases emp a b c ht d hd h1 h2 h3 with h | h | h <;> omega
 ·have hτ:=hX.ccw _ _ _ ht;have hσ:=hX.ccw _ _ _ hs;have hp:plt (H x) (H y) (H z) (P x) (P y) (P z) (P d)=H d*crs (P x) (P y) (P z):=by
   by_cases k1:d=x
   ·subst k1;rw[Be2]
   ·by_cases k2:d=y
    ·subst k2;rw[Bbj]
    ·by_cases k3:d=z
     ·subst k3;rw[Bbk]
     ·rcases emp x y z hs d hd k1 k2 k3 with h | h | h <;> omega
  unfold Zm hgt3 Yj p3 at hb;simp only[hp] at hb;have h4:(plt (H a) (H b) (H c) (P a) (P b) (P c) (P d)*3)*crs (P x) (P y) (P z)<(H d*crs (P a) (P b) (P c)*3)*crs (P x) (P y) (P z):=by
   have e1:(plt (H a) (H b) (H c) (P a) (P b) (P c) (P d)*3)*crs (P x) (P y) (P z)=(plt (H a) (H b) (H c) (P a) (P b) (P c) (P d)+plt (H a) (H b) (H c) (P a) (P b) (P c) (P d)+plt (H a) (H b) (H c) (P a) (P b) (P c) (P d))*crs (P x) (P y) (P z):=by grind
   have e2:(H d*crs (P a) (P b) (P c)*3)*crs (P x) (P y) (P z)=(H d*crs (P x) (P y) (P z)+H d*crs (P x) (P y) (P z)+H d*crs (P x) (P y) (P z))*crs (P a) (P b) (P c):=by grind
   rw[e1,e2];exact hb
  have h5:=Int.lt_of_mul_lt_mul_right h4 (Int.le_of_lt hσ);unfold DH;rw[Alt];omega
theorem Aey{a b c:Int}(h:crs (P a) (P b) (P c)≠0):a≠b/\b≠c/\c≠a:=by
 refine⟨fun e=>?_,fun e=>?_,fun e=>?_⟩
 ·subst e;exact h (Yh _ _)
 ·subst e;exact h (Bo _ _)
 ·subst e;exact h (Bv _ _)
end Go.Proofs.YthlkpgdfifnagaaGreat
namespace Go.Proofs.YthlkpgdfifnagaaGreat
open Go Go.RowKit Tryz List
theorem Ui(s a b c d:Aa):crs s a b*crs s c d-crs s a c*crs s b d+crs s a d*crs s b c=0:=by unfold crs;grind
theorem Cj{x y:Int}(h:0<x*y)(hx:0<x):0<y:=by
 rcases Int.lt_or_le 0 y with g | g
 ·exact g
 ·have:=Int.mul_nonpos_of_nonneg_of_nonpos (Int.le_of_lt hx) g;omega
theorem Ov{x y:Int}(h:0<=x*y)(hx:0<x):0<=y:=by
 rcases Int.lt_or_le y 0 with g | g
 ·have:=Int.mul_neg_of_pos_of_neg hx g;omega
 ·exact g
theorem Bl(s a b:Aa):crs s b a = -crs s a b:=by unfold crs;grind
theorem Aa7{s a b l i:Aa}(h1:0<crs s a l)(h2:0<crs s l b)(h3:0<crs s a b)(h4:0<crs s a i)(h5:0<crs s i l):0<crs s i b:=by
 have h:=Ui s a l i b;rw[Bl s i l] at h;have e1:0<crs s a i*crs s l b:=Int.mul_pos h4 h2;have e2:0<crs s a b*crs s i l:=Int.mul_pos h3 h5;have e3:crs s a b * -crs s i l = -(crs s a b*crs s i l):=Int.mul_neg _ _;exact Cj (x:=crs s a l) oo h1
theorem Alw{s a b l j:Aa}(h1:0<crs s a l)(h2:0<crs s l b)(h3:0<crs s a b)(h4:0<crs s j b)(h5:0<crs s l j):0<crs s a j:=by
 have h:=Ui s a j l b;have e1:0<crs s a l*crs s j b:=Int.mul_pos h1 h4;have e2:0<crs s a b*crs s l j:=Int.mul_pos h3 h5;have e3:crs s a b*crs s j l = -(crs s a b*crs s l j):=by rw[Bl s l j,Int.mul_neg]
 exact Cj (x:=crs s l b) (by rw[Int.mul_comm];omega) h2
theorem Ain{s j m l w:Aa}(h0:crs s j m=0)(h1:0<crs s j l)(h2:0<crs s m l)(h3:0<crs s m w):0<crs s j w:=by
 have h:=Ui s j l m w;rw[h0,Bl s m l] at h;have e1:0<crs s j l*crs s m w:=Int.mul_pos h1 h3;have e2:crs s j w * -crs s m l = -(crs s m l*crs s j w):=by rw[Int.mul_neg,Int.mul_comm]
 exact Cj (x:=crs s m l) oo h2
theorem At8{s j m l w:Aa}(h0:crs s j m=0)(h1:0<crs s l j)(h2:0<crs s l m)(h3:0<crs s w m):0<crs s w j:=by
 have h:=Ui s l j w m;have e0:crs s j m=0:=h0;have e1:0<crs s l j*crs s w m:=Int.mul_pos h1 h3;have e2:crs s l m*crs s j w = -(crs s l m*crs s w j):=by rw[Bl s w j,Int.mul_neg]
 rw[e0,Int.mul_zero] at h;exact Cj (x:=crs s l m) oo h2
theorem Ayb{s a i b j:Aa}(h0:crs s a i=0)(h1:0<crs s a b)(h2:0<crs s i b)(h3:0<crs s i j)(h4:0<crs s a j):
  (0<=crs a b i/\0<=crs b s i)\/(0<=crs i j a/\0<=crs j s a):=by
 have hp:=Ui s a b i j;rw[h0,Bl s i b] at hp;have s1:=Qu s a b i;have s2:=Qu s i j a;have r1:crs b s i=crs s i b:=by unfold crs;grind
 have r2:crs j s a=crs s a j:=by unfold crs;grind
 have r3:crs s i a=0:=by rw[Bl,h0];rfl
 by_cases c:crs s i b<=crs s a b
 ·left;omega
 ·right;have:crs s a j<=crs s i j:=by
   rcases Int.lt_or_le (crs s i j) (crs s a j) with g | g
   ·have e1:=Int.mul_lt_mul_of_pos_left g h1;have e2:=Int.mul_lt_mul_of_pos_right (show crs s a b<crs s i b by omega) h4;have e3:crs s a j * -crs s i b = -(crs s i b*crs s a j):=by rw[Int.mul_neg,Int.mul_comm]
    have e4:crs s a b*crs s a j=crs s a b*crs s a j:=rfl;omega
   ·exact g
  omega
theorem Baq{s a i b j:Aa}(h0:crs s a i=0)(h1:0<crs s b a)(h2:0<crs s b i)(h3:0<crs s j i)(h4:0<crs s j a):
  (0<=crs b a i/\0<=crs s b i)\/(0<=crs j i a/\0<=crs s j a):=by
 have hp:=Ui s b a j i;rw[h0,Bl s j a,Int.mul_zero] at hp;have s1:=Qu s b a i;have s2:=Qu s j i a;have r1:crs a s i=0:=by rw[Bb,h0];rfl
 have r2:crs i s a=0:=by rw[Bb,Bl,h0];rfl
 by_cases c:crs s b i<=crs s b a
 ·left;omega
 ·right;have:crs s j a<=crs s j i:=by
   rcases Int.lt_or_le (crs s j i) (crs s j a) with g | g
   ·have e1:=Int.mul_lt_mul_of_pos_left g h1;have e2:=Int.mul_lt_mul_of_pos_right (show crs s b a<crs s b i by omega) h4;have e3:crs s b i * -crs s j a = -(crs s b i*crs s j a):=Int.mul_neg _ _;omega
   ·exact g
  omega
abbrev Ap:=Int->Int->Option Int
structure Tri(P:Int->Aa)(V:Int->Prop)(ap:Ap):Prop where
 rot:∀ i j k,ap i j=some k->ap j k=some i
 ccw:∀ i j k,ap i j=some k->V i/\V j/\V k/\0<crs (P i) (P j) (P k)
 emp:∀ i j k,ap i j=some k->∀ d,V d->d≠i->d≠j->d≠k->crs (P i) (P j) (P d)<0\/crs (P j) (P k) (P d)<0\/crs (P k) (P i) (P d)<0
 cone:∀ s a b m,ap s a=some b->(ap s m≠none\/ap m s≠none)->¬ (0<crs (P s) (P a) (P m)/\0<crs (P s) (P m) (P b))
variable {P:Int->Aa} {H:Int->Int} {V:Int->Prop} {ap:Ap}
theorem Tri.rot2(h:Tri P V ap){i j k}(hk:ap i j=some k):ap k i=some j:=h.rot _ _ _ (h.rot _ _ _ hk)
theorem Tri.ne(h:Tri P V ap){i j k}(hk:ap i j=some k):i≠j/\j≠k/\k≠i:=Aey (P:=P) (by have:=(h.ccw _ _ _ hk).2.2.2;omega)
theorem Tri.nbr(h:Tri P V ap){s m}(hm:ap s m≠none\/ap m s≠none):(∃ w,ap s m=some w)\/∃ w,ap s w=some m:=by
 rcases hm with hm | hm
 ·obtain⟨w,hw⟩:=Option.ne_none_iff_exists'.1 hm;exact .inl ⟨w,hw⟩
 ·obtain⟨w,hw⟩:=Option.ne_none_iff_exists'.1 hm;exact .inr ⟨w,h.rot _ _ _ hw⟩
theorem Tri.cones(h:Tri P V ap){s a b i j:Int}{l:Aa}(h1:ap s a=some b)(h2:ap s i=some j)(g1:0<crs (P s) (P a) l)(g2:0<crs (P s) l (P b))(g3:0<crs (P s) (P i) l)(g4:0<crs (P s) l (P j)):a=i:=by
 obtain⟨vs,va,vb,cab⟩:=h.ccw _ _ _ h1;obtain⟨_,vi,vj,cij⟩:=h.ccw _ _ _ h2;rcases Int.lt_trichotomy (crs (P s) (P a) (P i)) 0 with c | c | c
 ·have c':0<crs (P s) (P i) (P a):=by rw[Bl];omega
  exact absurd ⟨c',Aa7 g3 g4 cij c' g1⟩ (h.cone s i j a h2 (.inl (by rw[h1];simp)))
 ·by_cases e:a=i
  ·exact e
  ·exfalso;have n1:=h.ne h1;have n2:=h.ne h2;have k1:0<crs (P s) (P i) (P b):=Ain (l:=l) (by rw[Bl,c];rfl) g3 g1 cab;have k2:0<crs (P s) (P a) (P j):=Ain (l:=l) c g1 g3 cij;rcases Ayb c cab k1 cij k2 with⟨q1,q2⟩|⟨q1,q2⟩
   ·by_cases e2:i=b
    ·subst e2;omega
    ·rcases h.emp s a b h1 i vi oo oo e2 with g | g | g <;> omega
   ·by_cases e2:a=j
    ·subst e2;rw[Bl] at cij;omega
    ·have:crs (P s) (P i) (P a)=0:=by rw[Bl,c];rfl
     rcases h.emp s i j h2 a va oo oo e2 with g | g | g <;> omega
 ·exact absurd ⟨c,Aa7 g1 g2 cab c g3⟩ (h.cone s a b i h1 (.inl (by rw[h2];simp)))
end Go.Proofs.YthlkpgdfifnagaaGreat
