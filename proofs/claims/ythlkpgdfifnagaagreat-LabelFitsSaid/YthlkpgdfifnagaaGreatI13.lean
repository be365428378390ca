import Derived.Test.YthlkpgdfifnagaaGreatR2
set_option maxRecDepth 100000
set_option maxHeartbeats 1000000
namespace Go.Proofs.YthlkpgdfifnagaaGreat
open Go Go.RowKit Tryz List
noncomputable section
instance:Te prog 231 [.bool false,.slice none 0 0,.slice none 0 0,.bool false,.slice none 0 0,.slice none 0 0]:=⟨⟨_,zeroValue231,rfl⟩⟩
instance(x0:Bool)(x1:Option Addr)(x2:Nat)(x3:Nat)(x4:Option Addr)(x5:Nat)(x6:Nat)(x7:Bool)(x8:Option Addr)(x9:Nat)(x10:Nat)(x11:Option Addr)(x12:Nat)(x13:Nat):Le prog 231 [(0,.agg #[.bool x0,.slice x1 x2 x3,.slice x4 x5 x6]),(1,.agg #[.bool x7,.slice x8 x9 x10,.slice x11 x12 x13])] [.bool x0,.slice x1 x2 x3,.slice x4 x5 x6,.bool x7,.slice x8 x9 x10,.slice x11 x12 x13]:=⟨fun w=>kr⟩
instance:AggI prog 231 6:=⟨.mk underlying231 rfl (show prog.info? 231=some t231 from by kernel_rfl) kr⟩
instance:Cm prog 231 0 0:=⟨.mk underlying231 rfl rfl (show prog.info? 173=some t173 from by kernel_rfl) (show t173.size=3 from by kernel_rfl) rfl⟩
instance:Cm prog 231 1 3:=⟨.mk underlying231 rfl rfl (show prog.info? 173=some t173 from by kernel_rfl) (show t173.size=3 from by kernel_rfl) rfl⟩
instance:Te prog 261 [.bool false,.slice none 0 0,.slice none 0 0,.bool false,.slice none 0 0,.slice none 0 0,.bool false,.slice none 0 0,.slice none 0 0]:=⟨⟨_,zeroValue261,rfl⟩⟩
instance(x0:Bool)(x1:Option Addr)(x2:Nat)(x3:Nat)(x4:Option Addr)(x5:Nat)(x6:Nat)(x7:Bool)(x8:Option Addr)(x9:Nat)(x10:Nat)(x11:Option Addr)(x12:Nat)(x13:Nat)(x14:Bool)(x15:Option Addr)(x16:Nat)(x17:Nat)(x18:Option Addr)(x19:Nat)(x20:Nat):Le prog 261 [(0,.agg #[.bool x0,.slice x1 x2 x3,.slice x4 x5 x6]),(1,.agg #[.bool x7,.slice x8 x9 x10,.slice x11 x12 x13]),(2,.agg #[.bool x14,.slice x15 x16 x17,.slice x18 x19 x20])] [.bool x0,.slice x1 x2 x3,.slice x4 x5 x6,.bool x7,.slice x8 x9 x10,.slice x11 x12 x13,.bool x14,.slice x15 x16 x17,.slice x18 x19 x20]:=⟨fun w=>kr⟩
instance:AggI prog 261 9:=⟨.arr underlying261 (show prog.info? 261=some t261 from by kernel_rfl) kr⟩
instance:ArrI prog 261 3 3:=⟨.mk underlying261 (show prog.info? 173=some t173 from by kernel_rfl) kr⟩
theorem Abw(x0:Bool)(x1:Option Addr)(x2:Nat)(x3:Nat)(x4:Option Addr)(x5:Nat)(x6:Nat)(x7:Bool)(x8:Option Addr)(x9:Nat)(x10:Nat)(x11:Option Addr)(x12:Nat)(x13:Nat):Jw prog 177 2 [(0,.agg #[.bool x0,.slice x1 x2 x3,.slice x4 x5 x6]),(1,.agg #[.bool x7,.slice x8 x9 x10,.slice x11 x12 x13])] 173 [.bool x0,.slice x1 x2 x3,.slice x4 x5 x6,.bool x7,.slice x8 x9 x10,.slice x11 x12 x13]:=fun w=>kr
def Dq(p0:Ao):Option Int :=
 bnd (Cd p0.V p0.Lines) fun r2=>
 jn (fun (s4:Bool)=>
 if s4=true then (some 64)
 else (some 0))
 (fun j4=>if r2.2=0 then (bnd (Jq p0 r2.1) fun r0=>
 j4 (!(r0)))
 else (j4 true))
def Dr(p1:Ag)(p0:Ao)(p2:Aa):Int->Option (Sum Int (Sum Unit Bool)):=fun s0=>
 if s0<3 then (bnd (idx [p1.a0,p1.a1,p1.a2] s0) fun x0=>
 bnd (idx p0.V x0) fun x1=>
 bnd (idx [p1.a0,p1.a1,p1.a2] (Int.tmod (w64 (s0+1)) 3)) fun x2=>
 bnd (idx p0.V x2) fun x3=>
 bnd (An x1) fun r0=>
 bnd (An x3) fun r1=>
 bnd (Cf r0 r1 p2) fun r2=>
 if r2<0 then (some (.inr (.inr false)))
 else (some (.inl (w64 (s0+1)))))
 else (some (.inr (.inl ())))
def Rt(p0:Ao)(p1:Ag)(p2:Aa):Option Bool :=
 jn (fun (s2:Unit)=>
 some true)
 (fun j2=>bnd (lfix (Dr p1 p0 p2) 0) fun t0=>
 (match t0 with
 | (.inl z0)=>j2 z0
 | (.inr z0)=>some z0
 ))
def Ky(p0:Ao)(p1:Aa):Int->Option (Sum Int (Sum Unit (Int × Int))):=fun s0=>
 if s0<(p0.T.length:Int) then (bnd (idx p0.T s0) fun x0=>
 bnd (Rt p0 x0 p1) fun r0=>
 if r0=true then (some (.inr (.inr (s0,0))))
 else (some (.inl (w64 (s0+1)))))
 else (some (.inr (.inl ())))
def Je(p0:Ao)(p1:Aa):Option (Int × Int):=
 bnd (Dq p0) fun r3=>
 if r3=0 then (bnd (Fi p1) fun r9=>
 if r9=true then (jn (fun (s8:Unit)=>
 some (0,65))
 (fun j8=>bnd (lfix (Ky p0 p1) 0) fun t0=>
 (match t0 with
 | (.inl z0)=>j8 z0
 | (.inr z0)=>some z0
 )))
 else (some (0,11)))
 else (some (0,64))
def Ex(p0:Ac)(p1:Bool):Option Int :=
 if p1=true then (some p0.Z.Hi)
 else (some p0.Z.Lo)
def Ip(p0:Aa):Option Ce :=
 bnd (Cs p0.X) fun r3=>
 bnd (Cs p0.Y) fun r0=>
 some (⟨r3,r0⟩:Ce)
def Hw(p0:Ce)(p1:Ce)(p2:Ce):Option Ak :=
 bnd (Dd p1.X p0.X) fun r5=>
 bnd (Dd p2.Y p0.Y) fun r0=>
 bnd (Ds r5 r0) fun r1=>
 bnd (Dd p1.Y p0.Y) fun r2=>
 bnd (Dd p2.X p0.X) fun r3=>
 bnd (Ds r2 r3) fun r4=>
 bnd (Dd r1 r4) fun r6=>
 some r6
structure Ri where
 a0:Ak
 a1:Ak
 a2:Ak
def Kz(p0:Ao)(p1:Ag)(p2:Ce):Option Ri :=
 bnd (idx p0.V p1.a0) fun x5=>
 bnd (idx p0.V p1.a1) fun x0=>
 bnd (idx p0.V p1.a2) fun x1=>
 bnd (An x5) fun r0=>
 bnd (Ip r0) fun r1=>
 bnd (An x0) fun r2=>
 bnd (Ip r2) fun r3=>
 bnd (An x1) fun r4=>
 bnd (Ip r4) fun r5=>
 bnd (Hw p2 r3 r5) fun r6=>
 bnd (Hw r1 p2 r5) fun r7=>
 bnd (Hw r1 r3 p2) fun r8=>
 some (⟨r6,r7,r8⟩:Ri)
def Hx(p0:Ao)(p1:Ag)(p2:Ce)(p3:Bool):Option Ak :=
 bnd (Kz p0 p1 p2) fun r5=>
 bnd (Cs 0) fun r0=>
 bnd (Cs 0) fun r1=>
 bnd (idx p0.V p1.a0) fun x0=>
 bnd (Ex x0 p3) fun r2=>
 bnd (Cs r2) fun r3=>
 bnd (Ds r5.a0 r3) fun r4=>
 bnd (Ct r0 r4) fun r6=>
 bnd (Ct r1 r5.a0) fun r7=>
 bnd (idx p0.V p1.a1) fun x1=>
 bnd (Ex x1 p3) fun r8=>
 bnd (Cs r8) fun r9=>
 bnd (Ds r5.a1 r9) fun r10=>
 bnd (Ct r6 r10) fun r11=>
 bnd (Ct r7 r5.a1) fun r12=>
 bnd (idx p0.V p1.a2) fun x2=>
 bnd (Ex x2 p3) fun r13=>
 bnd (Cs r13) fun r14=>
 bnd (Ds r5.a2 r14) fun r15=>
 bnd (Ct r11 r15) fun r16=>
 bnd (Ct r12 r5.a2) fun r17=>
 bnd (Og r16 r17) fun r18=>
 some r18
def Mk(p0:Ao)(p1:Aa):Option (Ak × Ak × Int):=
 bnd (Je p0 p1) fun r5=>
 if r5.2=0 then (bnd (idx p0.T r5.1) fun x0=>
 bnd (idx p0.T r5.1) fun x1=>
 bnd (Ip p1) fun r0=>
 bnd (Hx p0 x0 r0 false) fun r1=>
 bnd (Ip p1) fun r2=>
 bnd (Hx p0 x1 r2 true) fun r3=>
 some (r1,r3,0))
 else (some ((⟨(⟨false,([]:List Int)⟩:Af),([]:List Int)⟩:Ak),(⟨(⟨false,([]:List Int)⟩:Af),([]:List Int)⟩:Ak),r5.2))
def Ff(p0:Ao)(p1:Aa):Option (Av × Int):=
 bnd (Mk p0 p1) fun r4=>
 if r4.2.2=0 then (bnd (Jb ([r4.1,r4.2.1])) fun r0=>
 some (r0.1,r0.2))
 else (some ((⟨0,0⟩:Av),r4.2.2))
instance(p0:Ao):Con (Dq p0) prog 37 (fun K vs=>∃ U0 E0 U1 E1 U2 E2,vs=[.agg #[.slice U0 p0.V.length E0,.slice U1 p0.T.length E1,.slice U2 p0.Lines.length E2]]/\Has K U0 p0.V.length E0 4 Ai p0.V/\Has K U1 p0.T.length E1 3 Ax p0.T/\Has K U2 p0.Lines.length E2 2 Aq p0.Lines/\True) (fun _ r=>fun v Ln=>v = .int .i64 r/\Ln=[]/\True):=⟨by
 rintro K _ r ⟨U0,E0,U1,E1,U2,E2,rfl,ha0,ha1,ha2,-⟩ hx w hK;replace ha0:=Has.lo ha0 hK;replace ha1:=Has.lo ha1 hK;replace ha2:=Has.lo ha2 hK;unfold Dq at hx;refine CtS ntmps37 results37 ?_;exact au⟩
instance(p0:Ao)(p1:Ag)(p2:Aa):Con (Rt p0 p1 p2) prog 140 (fun K vs=>∃ U0 E0 U1 E1 U2 E2,vs=[.agg #[.slice U0 p0.V.length E0,.slice U1 p0.T.length E1,.slice U2 p0.Lines.length E2],.agg #[.int .i64 p1.a0,.int .i64 p1.a1,.int .i64 p1.a2],.agg #[.int .i64 p2.X,.int .i64 p2.Y]]/\Has K U0 p0.V.length E0 4 Ai p0.V/\Has K U1 p0.T.length E1 3 Ax p0.T/\Has K U2 p0.Lines.length E2 2 Aq p0.Lines/\True) (fun _ r=>fun v Ln=>v = .bool r/\Ln=[]/\True):=⟨by
 rintro K _ r ⟨U0,E0,U1,E1,U2,E2,rfl,ha0,ha1,ha2,-⟩ hx w hK;replace ha0:=Has.lo ha0 hK;replace ha1:=Has.lo ha1 hK;replace ha2:=Has.lo ha2 hK;unfold Rt at hx;have:=dl 4 [0,1,0,0,1,0,1,2,0,1,0,0,0,0,1,0,1,2,1,2,0] [0,1,2,3,4,5,6,8,9,10,11,12,13,14,15,16,18,7,17,19,20];refine CtS ntmps140 results140 ?_;try (refine pre ?_;intros;rename_i hx)
 refine Bf ?_;try (refine pre ?_;intros;rename_i hx)
 apply Jr (γ:=Unit) hx [] (fun s2 y2 f=>f) [999] (fun s2 y2 l=>l);exact kk
 ·intro s2 y2 hx;exact au
 ·intro _ hx;try (refine pre ?_;intros;rename_i hx)
  apply Lr (γ:=Unit) hx [3,4,5] (fun s0 y0 f=>(8,.int .i64 s0)::f) [0,1,2,999] (fun s0 y0 l=>l) ();exact kk;exact sk;intro s0 y0 x0 hx _;unfold Dr at hx;exact au⟩
instance(p0:Ao)(p1:Aa):Con (Je p0 p1) prog 84 (fun K vs=>∃ U0 E0 U1 E1 U2 E2,vs=[.agg #[.slice U0 p0.V.length E0,.slice U1 p0.T.length E1,.slice U2 p0.Lines.length E2],.agg #[.int .i64 p1.X,.int .i64 p1.Y]]/\Has K U0 p0.V.length E0 4 Ai p0.V/\Has K U1 p0.T.length E1 3 Ax p0.T/\Has K U2 p0.Lines.length E2 2 Aq p0.Lines/\True) (fun _ r=>fun v Ln=>v = .tuple #[.int .i64 r.1,.int .i64 r.2]/\Ln=[]/\True):=⟨by
 rintro K _ r ⟨U0,E0,U1,E1,U2,E2,rfl,ha0,ha1,ha2,-⟩ hx w hK;replace ha0:=Has.lo ha0 hK;replace ha1:=Has.lo ha1 hK;replace ha2:=Has.lo ha2 hK;unfold Je at hx;have:=dl 8 [1,0,1,0,0,1,1,2] [0,1,2,3,4,5,6,7];refine CtS ntmps84 results84 ?_;try (refine pre ?_;intros;rename_i hx)
 refine Cq2 (s:=9) hx rfl (fun _ hx=>?_) (fun _ hx=>?_)
 ·exact au
 ·try (refine pre ?_;intros;rename_i hx)
  refine Cq4 (s:=12) hx rfl (fun _ hx=>?_) (fun _ hx=>?_)
  ·exact au
  ·try (refine pre ?_;intros;rename_i hx)
   apply Jr (γ:=Unit) hx [] (fun s8 y8 f=>f) [999] (fun s8 y8 l=>l);exact kk
   ·intro s8 y8 hx;exact au
   ·intro _ hx;try (refine pre ?_;intros;rename_i hx)
    apply Lr (γ:=Unit) hx [2,3,15] (fun s36 y36 f=>(16,.int .i64 s36)::f) [0,1,999] (fun s36 y36 l=>l) ();exact kk;exact sk;intro s36 y36 x36 hx _;unfold Ky at hx;exact au⟩
instance(p0:Ac)(p1:Bool):Con (Ex p0 p1) prog 256 (fun _ vs=>vs=[.agg #[.int .i64 p0.X,.int .i64 p0.Y,.int .i64 p0.Z.Lo,.int .i64 p0.Z.Hi],.bool p1]) (fun _ r=>fun v Ln=>v = .int .i64 r/\Ln=[]/\True):=⟨by
 rintro _ _ r rfl hx w hK;unfold Ex at hx;refine CtS ntmps256 results256 ?_;exact au⟩
instance(p0:Aa):Con (Ip p0) prog 205 (fun _ vs=>vs=[.agg #[.int .i64 p0.X,.int .i64 p0.Y]]) (fun _ r=>fun v Ln=>∃ A0 c0 A2 c2 A4 c4 A6 c6,v = .agg #[.bool r.X.N.Neg,.slice A0 r.X.N.L.length c0,.slice A2 r.X.D.length c2,.bool r.Y.N.Neg,.slice A4 r.Y.N.L.length c4,.slice A6 r.Y.D.length c6]/\Ln=[.r A0 r.X.N.L.length c0 3 1 (r.X.N.L.flatMap Ah),.r A2 r.X.D.length c2 3 1 (r.X.D.flatMap Ah),.r A4 r.Y.N.L.length c4 3 1 (r.Y.N.L.flatMap Ah),.r A6 r.Y.D.length c6 3 1 (r.Y.D.flatMap Ah)]/\True):=⟨by
 rintro _ _ r rfl hx w hK;unfold Ip at hx;have:=dl 1 [0,1,2,0,1,2,0,3] [0,1,3,4,2,5,6,7];refine CtS ntmps205 results205 ?_;exact au⟩
instance(p0:Ce)(p1:Ce)(p2:Ce):Con (Hw p0 p1 p2) prog 301 (fun K vs=>∃ U0 E0 U1 E1 U2 E2 U3 E3 U4 E4 U5 E5 U6 E6 U7 E7 U8 E8 U9 E9 A0_10 c0_10 A0_11 c0_11,vs=[.agg #[.bool p0.X.N.Neg,.slice U0 p0.X.N.L.length E0,.slice U1 p0.X.D.length E1,.bool p0.Y.N.Neg,.slice U2 p0.Y.N.L.length E2,.slice U3 p0.Y.D.length E3],.agg #[.bool p1.X.N.Neg,.slice U4 p1.X.N.L.length E4,.slice U5 p1.X.D.length E5,.bool p1.Y.N.Neg,.slice U6 p1.Y.N.L.length E6,.slice U7 p1.Y.D.length E7],.agg #[.bool p2.X.N.Neg,.slice U8 p2.X.N.L.length E8,.slice U9 p2.X.D.length E9,.bool p2.Y.N.Neg,.slice A0_10 p2.Y.N.L.length c0_10,.slice A0_11 p2.Y.D.length c0_11]]/\Has K U0 p0.X.N.L.length E0 1 Ah p0.X.N.L/\Has K U1 p0.X.D.length E1 1 Ah p0.X.D/\Has K U2 p0.Y.N.L.length E2 1 Ah p0.Y.N.L/\Has K U3 p0.Y.D.length E3 1 Ah p0.Y.D/\Has K U4 p1.X.N.L.length E4 1 Ah p1.X.N.L/\Has K U5 p1.X.D.length E5 1 Ah p1.X.D/\Has K U6 p1.Y.N.L.length E6 1 Ah p1.Y.N.L/\Has K U7 p1.Y.D.length E7 1 Ah p1.Y.D/\Has K U8 p2.X.N.L.length E8 1 Ah p2.X.N.L/\Has K U9 p2.X.D.length E9 1 Ah p2.X.D/\Has K A0_10 p2.Y.N.L.length c0_10 1 Ah p2.Y.N.L/\Has K A0_11 p2.Y.D.length c0_11 1 Ah p2.Y.D/\True) (fun _ r=>fun v Ln=>∃ A0 c0 A2 c2,v = .agg #[.bool r.N.Neg,.slice A0 r.N.L.length c0,.slice A2 r.D.length c2]/\Ln=[.r A0 r.N.L.length c0 3 1 (r.N.L.flatMap Ah),.r A2 r.D.length c2 3 1 (r.D.flatMap Ah)]/\True):=⟨by
 rintro K _ r ⟨U0,E0,U1,E1,U2,E2,U3,E3,U4,E4,U5,E5,U6,E6,U7,E7,U8,E8,U9,E9,A0_10,c0_10,A0_11,c0_11,rfl,ha0,ha1,ha2,ha3,ha4,ha5,ha6,ha7,ha8,ha9,ha10,ha11,-⟩ hx w hK;replace ha0:=Has.lo ha0 hK;replace ha1:=Has.lo ha1 hK;replace ha2:=Has.lo ha2 hK;replace ha3:=Has.lo ha3 hK;replace ha4:=Has.lo ha4 hK;replace ha5:=Has.lo ha5 hK;replace ha6:=Has.lo ha6 hK;replace ha7:=Has.lo ha7 hK;replace ha8:=Has.lo ha8 hK;replace ha9:=Has.lo ha9 hK;replace ha10:=Has.lo ha10 hK;replace ha11:=Has.lo ha11 hK;unfold Hw at hx;have:=dl 1 [0,1,0,1,2,0,1,0,1,2,2,0,1,0,1,2,0,1,0,1,2,2,2,3] [0,1,2,3,5,6,7,8,11,12,13,14,16,17,18,19,4,9,10,15,20,21,22,23];refine CtS ntmps301 results301 ?_;exact au⟩
instance(p0:Ao)(p1:Ag)(p2:Ce):Con (Kz p0 p1 p2) prog 252 (fun K vs=>∃ U0 E0 U1 E1 U2 E2 U3 E3 U4 E4 U5 E5 U6 E6,vs=[.agg #[.slice U0 p0.V.length E0,.slice U1 p0.T.length E1,.slice U2 p0.Lines.length E2],.agg #[.int .i64 p1.a0,.int .i64 p1.a1,.int .i64 p1.a2],.agg #[.bool p2.X.N.Neg,.slice U3 p2.X.N.L.length E3,.slice U4 p2.X.D.length E4,.bool p2.Y.N.Neg,.slice U5 p2.Y.N.L.length E5,.slice U6 p2.Y.D.length E6]]/\Has K U0 p0.V.length E0 4 Ai p0.V/\Has K U1 p0.T.length E1 3 Ax p0.T/\Has K U2 p0.Lines.length E2 2 Aq p0.Lines/\Has K U3 p2.X.N.L.length E3 1 Ah p2.X.N.L/\Has K U4 p2.X.D.length E4 1 Ah p2.X.D/\Has K U5 p2.Y.N.L.length E5 1 Ah p2.Y.N.L/\Has K U6 p2.Y.D.length E6 1 Ah p2.Y.D/\True) (fun _ r=>fun v Ln=>∃ A0 c0 A2 c2 A4 c4 A6 c6 A8 c8 A10 c10,v = .agg #[.bool r.a0.N.Neg,.slice A0 r.a0.N.L.length c0,.slice A2 r.a0.D.length c2,.bool r.a1.N.Neg,.slice A4 r.a1.N.L.length c4,.slice A6 r.a1.D.length c6,.bool r.a2.N.Neg,.slice A8 r.a2.N.L.length c8,.slice A10 r.a2.D.length c10]/\Ln=[.r A0 r.a0.N.L.length c0 3 1 (r.a0.N.L.flatMap Ah),.r A2 r.a0.D.length c2 3 1 (r.a0.D.flatMap Ah),.r A4 r.a1.N.L.length c4 3 1 (r.a1.N.L.flatMap Ah),.r A6 r.a1.D.length c6 3 1 (r.a1.D.flatMap Ah),.r A8 r.a2.N.L.length c8 3 1 (r.a2.N.L.flatMap Ah),.r A10 r.a2.D.length c10 3 1 (r.a2.D.flatMap Ah)]/\True):=⟨by
 rintro K _ r ⟨U0,E0,U1,E1,U2,E2,U3,E3,U4,E4,U5,E5,U6,E6,rfl,ha0,ha1,ha2,ha3,ha4,ha5,ha6,-⟩ hx w hK;replace ha0:=Has.lo ha0 hK;replace ha1:=Has.lo ha1 hK;replace ha2:=Has.lo ha2 hK;replace ha3:=Has.lo ha3 hK;replace ha4:=Has.lo ha4 hK;replace ha5:=Has.lo ha5 hK;replace ha6:=Has.lo ha6 hK;unfold Kz at hx;have:=dl 1 [0,1,0,1,0,1,2,2,0,1,0,1,0,1,2,2,0,1,0,1,0,1,2,2,4,4,4,3,3,3] [0,1,2,3,4,5,8,9,10,11,12,13,16,17,18,19,20,21,6,7,14,15,22,23,24,25,26,27,28,29] [24,25,26];have:=dl 2 [1,1,1,2,1,1,1,2,1,1,1,2,0,3] [0,1,2,4,5,6,8,9,10,3,7,11,12,13];refine CtS ntmps252 results252 ?_;exact au⟩
instance(p0:Ao)(p1:Ag)(p2:Ce)(p3:Bool):Con (Hx p0 p1 p2 p3) prog 204 (fun K vs=>∃ U0 E0 U1 E1 U2 E2 U3 E3 U4 E4 U5 E5 U6 E6,vs=[.agg #[.slice U0 p0.V.length E0,.slice U1 p0.T.length E1,.slice U2 p0.Lines.length E2],.agg #[.int .i64 p1.a0,.int .i64 p1.a1,.int .i64 p1.a2],.agg #[.bool p2.X.N.Neg,.slice U3 p2.X.N.L.length E3,.slice U4 p2.X.D.length E4,.bool p2.Y.N.Neg,.slice U5 p2.Y.N.L.length E5,.slice U6 p2.Y.D.length E6],.bool p3]/\Has K U0 p0.V.length E0 4 Ai p0.V/\Has K U1 p0.T.length E1 3 Ax p0.T/\Has K U2 p0.Lines.length E2 2 Aq p0.Lines/\Has K U3 p2.X.N.L.length E3 1 Ah p2.X.N.L/\Has K U4 p2.X.D.length E4 1 Ah p2.X.D/\Has K U5 p2.Y.N.L.length E5 1 Ah p2.Y.N.L/\Has K U6 p2.Y.D.length E6 1 Ah p2.Y.D/\True) (fun _ r=>fun v Ln=>∃ A0 c0 A2 c2,v = .agg #[.bool r.N.Neg,.slice A0 r.N.L.length c0,.slice A2 r.D.length c2]/\Ln=[.r A0 r.N.L.length c0 3 1 (r.N.L.flatMap Ah),.r A2 r.D.length c2 3 1 (r.D.flatMap Ah)]/\True):=⟨by
 rintro K _ r ⟨U0,E0,U1,E1,U2,E2,U3,E3,U4,E4,U5,E5,U6,E6,rfl,ha0,ha1,ha2,ha3,ha4,ha5,ha6,-⟩ hx w hK;replace ha0:=Has.lo ha0 hK;replace ha1:=Has.lo ha1 hK;replace ha2:=Has.lo ha2 hK;replace ha3:=Has.lo ha3 hK;replace ha4:=Has.lo ha4 hK;replace ha5:=Has.lo ha5 hK;replace ha6:=Has.lo ha6 hK;unfold Hx at hx;have:=dl 6 [1,0,0,1,0,1,0,0,1,0,1,0,2,2,2,2,3] [0,1,2,3,4,5,6,7,8,9,10,11,12,13,14,15,16];have:=dl 7 [1,0,0,1,2,3] [0,1,2,3,4,5];refine CtS ntmps204 results204 ?_;exact au⟩
instance Abx(p0:Ao)(p1:Aa):Con (Mk p0 p1) prog 141 (fun K vs=>∃ U0 E0 U1 E1 U2 E2,vs=[.agg #[.slice U0 p0.V.length E0,.slice U1 p0.T.length E1,.slice U2 p0.Lines.length E2],.agg #[.int .i64 p1.X,.int .i64 p1.Y]]/\Has K U0 p0.V.length E0 4 Ai p0.V/\Has K U1 p0.T.length E1 3 Ax p0.T/\Has K U2 p0.Lines.length E2 2 Aq p0.Lines/\True) (fun _ r=>fun v Ln=>∃ A0 c0 A2 c2 A4 c4 A6 c6,v = .tuple #[.agg #[.bool r.1.N.Neg,.slice A0 r.1.N.L.length c0,.slice A2 r.1.D.length c2],.agg #[.bool r.2.1.N.Neg,.slice A4 r.2.1.N.L.length c4,.slice A6 r.2.1.D.length c6],.int .i64 r.2.2]/\Ln=[.r A0 r.1.N.L.length c0 3 1 (r.1.N.L.flatMap Ah),.r A2 r.1.D.length c2 3 1 (r.1.D.flatMap Ah),.r A4 r.2.1.N.L.length c4 3 1 (r.2.1.N.L.flatMap Ah),.r A6 r.2.1.D.length c6 3 1 (r.2.1.D.flatMap Ah)]/\True):=⟨by
 rintro K _ r ⟨U0,E0,U1,E1,U2,E2,rfl,ha0,ha1,ha2,-⟩ hx w hK;replace ha0:=Has.lo ha0 hK;replace ha1:=Has.lo ha1 hK;replace ha2:=Has.lo ha2 hK;unfold Mk at hx;have:=dl 4 [1,0,1,0,0,1,1,2,2,1,0,1,0,0,1,1,2,2,3,3,2] [0,1,2,3,4,5,6,9,10,11,12,13,14,15,7,8,16,17,18,19,20];refine CtS ntmps141 results141 ?_;try (refine pre ?_;intros;rename_i hx)
 refine Cq2 (s:=15) hx rfl (fun _ hx=>?_) (fun _ hx=>?_)
 ·try (refine pre ?_;intros;rename_i hx)
  (with_reducible apply Beu 5 [1,1,0,3,3,2] [[],[],[],[0],[0,1,3],[0,1,2,3,4]] [1] (.q 0 (.q 1 (.q 2 (.e 3 (.e 4 (.e 5 (.done) (.stop)) (.stop)) (.stop))))));exact rfl;exact aT;exact mixed;kernel_rfl;kernel_rfl;refine P_q rfl rfl (by exact evB) rfl ?_;refine P_r rfl rfl (by exact evB) rfl ?_;refine P_p rfl rfl (by exact evB) rfl ?_;refine P_hR rfl rfl (Ad2 rfl rfl rfl rfl sA sP rfl rfl ?_) ?_;rotate_left;exact Tq;refine Bbx (fun w hw=>SubE.ok sU w hw) ?_;refine P_hL rfl rfl rfl (Ad2 rfl rfl rfl rfl sA sP rfl rfl ?_) ?_;rotate_left;exact Tq;refine P_x rfl (Acv (Me rfl) rfl ?_) ?_;rotate_left;exact Tq;refine Aok ?_
  exact au
 ·exact au⟩
theorem Aas(p0:Ao)(p1:Aa){K:List Ent}{U0:Option Addr}{E0:Nat}{U1:Option Addr}{E1:Nat}{U2:Option Addr}{E2:Nat}(ha0:Has K U0 p0.V.length E0 4 Ai p0.V)(ha1:Has K U1 p0.T.length E1 3 Ax p0.T)(ha2:Has K U2 p0.Lines.length E2 2 Aq p0.Lines){r:Ak × Ak × Int}(hx:Mk p0 p1=some r)(w:World)(hK:∀ e∈K,Ent.ok w e):CtL prog 141 [.agg #[.slice U0 p0.V.length E0,.slice U1 p0.T.length E1,.slice U2 p0.Lines.length E2],.agg #[.int .i64 p1.X,.int .i64 p1.Y]] w fun v Ln=>∃ (A0:Option Addr) (c0:Nat) (A2:Option Addr) (c2:Nat) (A4:Option Addr) (c4:Nat) (A6:Option Addr) (c6:Nat),v = .tuple #[.agg #[.bool r.1.N.Neg,.slice A0 r.1.N.L.length c0,.slice A2 r.1.D.length c2],.agg #[.bool r.2.1.N.Neg,.slice A4 r.2.1.N.L.length c4,.slice A6 r.2.1.D.length c6],.int .i64 r.2.2]/\Ln=[.r A0 r.1.N.L.length c0 3 1 (r.1.N.L.flatMap Ah),.r A2 r.1.D.length c2 3 1 (r.1.D.flatMap Ah),.r A4 r.2.1.N.L.length c4 3 1 (r.2.1.N.L.flatMap Ah),.r A6 r.2.1.D.length c6 3 1 (r.2.1.D.flatMap Ah)]/\True:=(Abx p0 p1).h K _ _ ⟨_,_,_,_,_,_,rfl,ha0,ha1,ha2,trivial⟩ hx w hK
theorem Aat(p0:Ao)(p1:Aa){K:List Ent}{U0:Option Addr}{E0:Nat}{U1:Option Addr}{E1:Nat}{U2:Option Addr}{E2:Nat}(ha0:Has K U0 p0.V.length E0 4 Ai p0.V)(ha1:Has K U1 p0.T.length E1 3 Ax p0.T)(ha2:Has K U2 p0.Lines.length E2 2 Aq p0.Lines){r:Av × Int}(hx:Ff p0 p1=some r)(w:World)(hK:∀ e∈K,Ent.ok w e):CtL prog 85 [.agg #[.slice U0 p0.V.length E0,.slice U1 p0.T.length E1,.slice U2 p0.Lines.length E2],.agg #[.int .i64 p1.X,.int .i64 p1.Y]] w fun v Ln=>v = .tuple #[.agg #[.int .i64 r.1.Lo,.int .i64 r.1.Hi],.int .i64 r.2]/\Ln=[]/\True:=by
 have ha0':=Has.up0 ha0;have ha1':=Has.up0 ha1;have ha2':=Has.up0 ha2;refine CtL.mk 26 func85 rfl ntmps85 kr rfl ?_;show T 26 _ [(0,.agg #[.slice U0 p0.V.length E0,.slice U1 p0.T.length E1,.slice U2 p0.Lines.length E2]),(1,.agg #[.int .i64 p1.X,.int .i64 p1.Y])] _;unfold Ff at hx;refine Y2 ?_;refine T_x (Qt rfl rfl rfl (fun g1=>?_));refine T_x (Qt rfl rfl rfl (fun g2=>?_));refine T_x (Gq Bav rfl (fun g3=>?_));refine Y5 ?_;refine Ay (Db rfl (i:=2) rfl rfl Bbe) rfl ?_;refine Ay (Db rfl (i:=1) rfl rfl Zr) rfl ?_;obtain⟨r4,h5,hx6⟩:=Au hx;refine T_x (Ch rfl (fun w1 hw1=>Aas p0 p1 (Has.len' ha0') (Has.len' ha1') (Has.len' ha2') h5 w1 (Xq (K:=K) (K2:=[]) hK (by exact (sb 3)) (by exact SubE.nil) hw1)) rfl ?_);rintro _ _ hlo ⟨A7,c8,A9,c0,A0,c1,A1,c2,rfl,rfl,-⟩;refine Aei ?_;refine Y4 ?_;refine T_x (Gq Alx rfl (fun g0=>?_));refine T_x (Gq Alx rfl (fun g4=>?_));refine T_h (Ef rfl rfl rfl (.there (.here)) (.put (.put (.put (.done)))) rfl (cons_ne_nil _ _) Aa8.2 ?_);refine T_h (Ef rfl rfl rfl (.here) (.put (.put (.put (.done)))) rfl (cons_ne_nil _ _) Aa8.2 ?_);refine Y10 ?_;refine Ag9 (s:=17) rfl (fun h0=>?_) (fun h0=>?_)
 ·have hx0:=Aag h0 hx6;refine Y3 ?_;refine Ay (Qs rfl Auk) rfl ?_;refine Y ?_;refine T_h (Ef rfl rfl rfl (.there (.there (.there (.there (.there (.there (.here))))))) (.put (.put (.done))) rfl (cons_ne_nil _ _) Ame.2 ?_);refine Y5 ?_;obtain rfl:=Option.some.inj hx0;exact Jc (rs:=[.cell 4 28,.tmp 5]) results85 (.cell rfl (i:=6) rfl rfl Ame (.tmp rfl (.nil))) (Ln:=[]) ⟨rfl,rfl,trivial⟩ Fg (by exact .drop 0 rfl (.drop 0 rfl (.drop 0 rfl (.drop 0 rfl (.drop 0 rfl (.drop 0 rfl (.drop 0 rfl (.drop 0 rfl (.drop 0 rfl (.refl))))))))))
 ·have hx1:=Rg h0 hx6;refine Y5 ?_;refine Ay (Db rfl (i:=1) rfl rfl Aa8) rfl ?_;refine Ay (Db rfl (i:=0) rfl rfl Aa8) rfl ?_;refine T_x (Ck rfl (Abw _ _ _ _ _ _ _ _ _ _ _ _ _ _) rfl (fun g5=>?_));refine Kv (k:=3) rfl dD (fun _=>rfl) (fun hn0 hs0=>?_);refine Kv (k:=4) rfl dD (fun _=>rfl) (fun hn1 hs1=>?_);refine Kv (k:=5) rfl dD (fun _=>rfl) (fun hn2 hs2=>?_);refine Kv (k:=6) rfl dD (fun _=>rfl) (fun hn3 hs3=>?_);have hs4:HasN ([.m g5 173 [.bool r4.1.N.Neg,.slice A7 r4.1.N.L.length c8,.slice A9 r4.1.D.length c0,.bool r4.2.1.N.Neg,.slice A0 r4.2.1.N.L.length c1,.slice A1 r4.2.1.D.length c2],.r A7 r4.1.N.L.length c8 3 1 (r4.1.N.L.flatMap Ah),.r A9 r4.1.D.length c0 3 1 (r4.1.D.flatMap Ah),.r A0 r4.2.1.N.L.length c1 3 1 (r4.2.1.N.L.flatMap Ah),.r A1 r4.2.1.D.length c2 3 1 (r4.2.1.D.flatMap Ah)]:List Ent) (some ⟨g5,0,none⟩) 2 2 3 Th [r4.1,r4.2.1]:=⟨[[.bool r4.1.N.Neg,.slice A7 r4.1.N.L.length c8,.slice A9 r4.1.D.length c0],[.bool r4.2.1.N.Neg,.slice A0 r4.2.1.N.L.length c1,.slice A1 r4.2.1.D.length c2]],Has.up (L:=([.m g5 173 [.bool r4.1.N.Neg,.slice A7 r4.1.N.L.length c8,.slice A9 r4.1.D.length c0,.bool r4.2.1.N.Neg,.slice A0 r4.2.1.N.L.length c1,.slice A1 r4.2.1.D.length c2],.r A7 r4.1.N.L.length c8 3 1 (r4.1.N.L.flatMap Ah),.r A9 r4.1.D.length c0 3 1 (r4.1.D.flatMap Ah),.r A0 r4.2.1.N.L.length c1 3 1 (r4.2.1.N.L.flatMap Ah),.r A1 r4.2.1.D.length c2 3 1 (r4.2.1.D.flatMap Ah)]:List Ent)) (Has.ofM (fun x hx=>by simp at hx;rcases hx with rfl | rfl <;> rfl) rfl dD rfl:Has [.m g5 173 [.bool r4.1.N.Neg,.slice A7 r4.1.N.L.length c8,.slice A9 r4.1.D.length c0,.bool r4.2.1.N.Neg,.slice A0 r4.2.1.N.L.length c1,.slice A1 r4.2.1.D.length c2]] (some ⟨g5,0,none⟩) 2 2 3 raw [[.bool r4.1.N.Neg,.slice A7 r4.1.N.L.length c8,.slice A9 r4.1.D.length c0],[.bool r4.2.1.N.Neg,.slice A0 r4.2.1.N.L.length c1,.slice A1 r4.2.1.D.length c2]]) (sb 0),rfl,fun i h h'=>match i,h,h' with | 0,_,_=>⟨A7,c8,A9,c0,rfl,Has.len' (Has.up (L:=([.m g5 173 [.bool r4.1.N.Neg,.slice A7 r4.1.N.L.length c8,.slice A9 r4.1.D.length c0,.bool r4.2.1.N.Neg,.slice A0 r4.2.1.N.L.length c1,.slice A1 r4.2.1.D.length c2],.r A7 r4.1.N.L.length c8 3 1 (r4.1.N.L.flatMap Ah),.r A9 r4.1.D.length c0 3 1 (r4.1.D.flatMap Ah),.r A0 r4.2.1.N.L.length c1 3 1 (r4.2.1.N.L.flatMap Ah),.r A1 r4.2.1.D.length c2 3 1 (r4.2.1.D.flatMap Ah)]:List Ent)) hs0 (sb 1)),Has.len' (Has.up (L:=([.m g5 173 [.bool r4.1.N.Neg,.slice A7 r4.1.N.L.length c8,.slice A9 r4.1.D.length c0,.bool r4.2.1.N.Neg,.slice A0 r4.2.1.N.L.length c1,.slice A1 r4.2.1.D.length c2],.r A7 r4.1.N.L.length c8 3 1 (r4.1.N.L.flatMap Ah),.r A9 r4.1.D.length c0 3 1 (r4.1.D.flatMap Ah),.r A0 r4.2.1.N.L.length c1 3 1 (r4.2.1.N.L.flatMap Ah),.r A1 r4.2.1.D.length c2 3 1 (r4.2.1.D.flatMap Ah)]:List Ent)) hs1 (sb 2))⟩ | 1,_,_=>⟨A0,c1,A1,c2,rfl,Has.len' (Has.up (L:=([.m g5 173 [.bool r4.1.N.Neg,.slice A7 r4.1.N.L.length c8,.slice A9 r4.1.D.length c0,.bool r4.2.1.N.Neg,.slice A0 r4.2.1.N.L.length c1,.slice A1 r4.2.1.D.length c2],.r A7 r4.1.N.L.length c8 3 1 (r4.1.N.L.flatMap Ah),.r A9 r4.1.D.length c0 3 1 (r4.1.D.flatMap Ah),.r A0 r4.2.1.N.L.length c1 3 1 (r4.2.1.N.L.flatMap Ah),.r A1 r4.2.1.D.length c2 3 1 (r4.2.1.D.flatMap Ah)]:List Ent)) hs2 (sb 3)),Has.len' (Has.up (L:=([.m g5 173 [.bool r4.1.N.Neg,.slice A7 r4.1.N.L.length c8,.slice A9 r4.1.D.length c0,.bool r4.2.1.N.Neg,.slice A0 r4.2.1.N.L.length c1,.slice A1 r4.2.1.D.length c2],.r A7 r4.1.N.L.length c8 3 1 (r4.1.N.L.flatMap Ah),.r A9 r4.1.D.length c0 3 1 (r4.1.D.flatMap Ah),.r A0 r4.2.1.N.L.length c1 3 1 (r4.2.1.N.L.flatMap Ah),.r A1 r4.2.1.D.length c2 3 1 (r4.2.1.D.flatMap Ah)]:List Ent)) hs3 (sb 4))⟩ | j+2,h,_=>absurd h s_⟩;obtain⟨r0,h1,hx2⟩:=Au hx1;refine Tc (fun w1 hw1=>Aa9 ([r4.1,r4.2.1]) (HasN.len' hs4) h1 w1 (Um (K:=([.m g5 173 [.bool r4.1.N.Neg,.slice A7 r4.1.N.L.length c8,.slice A9 r4.1.D.length c0,.bool r4.2.1.N.Neg,.slice A0 r4.2.1.N.L.length c1,.slice A1 r4.2.1.D.length c2],.r A7 r4.1.N.L.length c8 3 1 (r4.1.N.L.flatMap Ah),.r A9 r4.1.D.length c0 3 1 (r4.1.D.flatMap Ah),.r A0 r4.2.1.N.L.length c1 3 1 (r4.2.1.N.L.flatMap Ah),.r A1 r4.2.1.D.length c2 3 1 (r4.2.1.D.flatMap Ah)]:List Ent)) (by exact (SubE.cons2 (i:=0) rfl (SubE.cons2 (i:=3) rfl (SubE.cons2 (i:=4) rfl (SubE.cons2 (i:=5) rfl (sb 6)))))) hw1)) ?_;refine Y2 ?_;refine T_h (Ef rfl rfl rfl (.there (.there (.there (.there (.there (.there (.there (.here)))))))) (.put (.put (.done))) rfl (cons_ne_nil _ _) Ame.2 ?_);refine Y4 ?_;obtain rfl:=Option.some.inj hx2;exact Jc (rs:=[.cell 4 28,.tmp 5]) results85 (.cell rfl (i:=7) rfl rfl Ame (.tmp rfl (.nil))) (Ln:=[]) ⟨rfl,rfl,trivial⟩ Fg (by exact .drop 0 rfl (.drop 0 rfl (.drop 0 rfl (.drop 0 rfl (.drop 0 rfl (.drop 0 rfl (.drop 0 rfl (.drop 0 rfl (.drop 0 rfl (.drop 0 rfl (.refl)))))))))))
instance(p0:Ao)(p1:Aa):Con (Ff p0 p1) prog 85 (fun K vs=>∃ U0 E0 U1 E1 U2 E2,vs=[.agg #[.slice U0 p0.V.length E0,.slice U1 p0.T.length E1,.slice U2 p0.Lines.length E2],.agg #[.int .i64 p1.X,.int .i64 p1.Y]]/\Has K U0 p0.V.length E0 4 Ai p0.V/\Has K U1 p0.T.length E1 3 Ax p0.T/\Has K U2 p0.Lines.length E2 2 Aq p0.Lines/\True) (fun _ r=>fun v Ln=>v = .tuple #[.agg #[.int .i64 r.1.Lo,.int .i64 r.1.Hi],.int .i64 r.2]/\Ln=[]/\True):=⟨by
 rintro K _ r ⟨U0,E0,U1,E1,U2,E2,rfl,ha0,ha1,ha2,-⟩ hx w hK;exact Aat p0 p1 ha0 ha1 ha2 hx w hK⟩
theorem Aau{α:Type}{a b:List α}{e:α->α->Bool}(he:∀ x y,e x y=true↔x=y)(hlen:a.length=b.length)(ha:a.length<=100000000){B:Int->Option (Sum Int (Sum Unit Bool))}(h1:∀ (j:Nat) (h:j<a.length) (h':j<b.length),B j=if e a[j] b[j]=true then some (.inl (w64 ((j:Int)+1))) else some (.inr (.inr false)))(h2:B a.length=some (.inr (.inl ()))):
  ∃ t,lfix B 0=some t/\((a=b/\t = .inl ())\/(a≠b/\t = .inr false)):=by
 refine Bn (fun s=>a.length-s.toNat) (fun s=>∃ k:Nat,s=(k:Int)/\k<=a.length/\a.take k=b.take k) (fun (t:Sum Unit Bool)=>(a=b/\t = .inl ())\/(a≠b/\t = .inr false)) ?_ 0 ⟨0,rfl,oo,s_⟩;rintro s ⟨k,rfl,hk,ht⟩
 by_cases hlt:k<a.length
 ·have hlt':k<b.length:=oo;rw[h1 k hlt hlt']
  by_cases c:e a[k] b[k]=true
  ·left;rw[if_pos c,Bd oo];exact⟨_,rfl,⟨k+1,rfl,oo,by rw[By hlt,By hlt',ht,(he _ _).1 c]⟩,oo⟩
  ·right;rw[if_neg c];refine⟨_,rfl,.inr ⟨fun e'=>c ((he _ _).2 ?_),rfl⟩⟩;subst e';rfl
 ·obtain rfl:k=a.length:=oo;right;rw[h2];rw[take_length,hlen,take_length] at ht;exact⟨_,rfl,.inl ⟨ht,rfl⟩⟩
theorem Ajs(a b:List Ag)(ha:a.length<=100000000):∃ q,Bz a b=some q/\(q=true↔a=b):=by
 unfold Bz
 by_cases c:(a.length:Int)=(b.length:Int)
 ·obtain⟨t,t1,t2⟩:=Aau (a:=a) (b:=b) (e:=fun x y=>(((x.a0 == y.a0) && ((x.a1 == y.a1) && ((x.a2 == y.a2) && true))))) (fun x y=>by
   obtain⟨x0,x1,x2⟩:=x;obtain⟨y0,y1,y2⟩:=y;simp) oo ha (B:=Bi a b) (fun j h h'=>by
   unfold Bi;rw[if_pos oo,At h,Ad,At h',Ad]) (by
   unfold Bi;rw[if_neg oo])
  rw[if_pos c,jn_d,t1,Ad];rcases t2 with⟨h,rfl⟩|⟨h,rfl⟩
  ·exact⟨true,rfl,by simp[h]⟩
  ·exact⟨false,rfl,by simp[h]⟩
 ·rw[if_neg c];exact⟨false,rfl,by simp;intro h;exact c (by rw[h])⟩
theorem As4(a b:List Ab)(ha:a.length<=100000000):∃ q,Ca a b=some q/\(q=true↔a=b):=by
 unfold Ca
 by_cases c:(a.length:Int)=(b.length:Int)
 ·obtain⟨t,t1,t2⟩:=Aau (a:=a) (b:=b) (e:=fun x y=>(((x.a0 == y.a0) && ((x.a1 == y.a1) && true)))) (fun x y=>by
   obtain⟨x0,x1⟩:=x;obtain⟨y0,y1⟩:=y;simp) oo ha (B:=Bj a b) (fun j h h'=>by
   unfold Bj;rw[if_pos oo,At h,Ad,At h',Ad]) (by
   unfold Bj;rw[if_neg oo])
  rw[if_pos c,jn_d,t1,Ad];rcases t2 with⟨h,rfl⟩|⟨h,rfl⟩
  ·exact⟨true,rfl,by simp[h]⟩
  ·exact⟨false,rfl,by simp[h]⟩
 ·rw[if_neg c];exact⟨false,rfl,by simp;intro h;exact c (by rw[h])⟩
theorem Am8(a b:Ao)(h1:a.V.length<=100000000)(h2:a.T.length<=100000000)(h3:a.Lines.length<=100000000):∃ q,Jq a b=some q/\(q=true↔a.V=b.V/\a.T=b.T/\a.Lines=b.Lines):=by
 unfold Jq;rw[jn_d]
 by_cases c1:(a.V.length:Int)=(b.V.length:Int)
 case neg=>
  rw[if_neg c1];try dsimp only
  rw[if_pos rfl];exact⟨false,rfl,by simp;intro h;exact absurd (by rw[h]) c1⟩
 by_cases c2:(a.T.length:Int)=(b.T.length:Int)
 case neg=>
  rw[if_pos c1,if_neg c2];try dsimp only
  rw[if_pos rfl];exact⟨false,rfl,by simp;intro _ h;exact absurd (by rw[h]) c2⟩
 by_cases c3:(a.Lines.length:Int)=(b.Lines.length:Int)
 case neg=>
  rw[if_pos c1,if_pos c2,decide_eq_false c3];try dsimp only
  rw[if_pos (by rfl)];exact⟨false,rfl,by simp;intro _ _ h;exact absurd (by rw[h]) c3⟩
 rw[if_pos c1,if_pos c2,decide_eq_true c3];try dsimp only
 rw[if_neg s_];obtain⟨t,t1,t2⟩:=Aau (a:=a.V) (b:=b.V) (e:=fun x y=>(((x.X == y.X) && ((x.Y == y.Y) && (((x.Z.Lo == y.Z.Lo) && ((x.Z.Hi == y.Z.Hi) && true)) && true))))) (fun x y=>by
  obtain⟨x0,x1,x2,x3⟩:=x;obtain⟨y0,y1,y2,y3⟩:=y;simp) oo h1 (B:=Gs a b) (fun j h h'=>by
  unfold Gs;rw[if_pos oo,At h,Ad,At h',Ad]) (by
  unfold Gs;rw[if_neg oo])
 rw[jn_d,t1,Ad];rcases t2 with⟨g1,rfl⟩|⟨g1,rfl⟩
 case inr=>exact⟨false,rfl,by simp[g1]⟩
 dsimp only;obtain⟨t,t1,t2⟩:=Aau (a:=a.T) (b:=b.T) (e:=fun x y=>(((x.a0 == y.a0) && ((x.a1 == y.a1) && ((x.a2 == y.a2) && true))))) (fun x y=>by
  obtain⟨x0,x1,x2⟩:=x;obtain⟨y0,y1,y2⟩:=y;simp) oo h2 (B:=Gd a b) (fun j h h'=>by
  unfold Gd;rw[if_pos oo,At h,Ad,At h',Ad]) (by
  unfold Gd;rw[if_neg oo])
 rw[jn_d,t1,Ad];rcases t2 with⟨g2,rfl⟩|⟨g2,rfl⟩
 case inr=>exact⟨false,rfl,by simp[g2]⟩
 dsimp only;obtain⟨t,t1,t2⟩:=Aau (a:=a.Lines) (b:=b.Lines) (e:=fun x y=>(((x.a0 == y.a0) && ((x.a1 == y.a1) && true)))) (fun x y=>by
  obtain⟨x0,x1⟩:=x;obtain⟨y0,y1⟩:=y;simp) oo h3 (B:=Ge a b) (fun j h h'=>by
  unfold Ge;rw[if_pos oo,At h,Ad,At h',Ad]) (by
  unfold Ge;rw[if_neg oo])
 rw[jn_d,t1,Ad];rcases t2 with⟨g3,rfl⟩|⟨g3,rfl⟩
 case inr=>exact⟨false,rfl,by simp[g3]⟩
 exact⟨true,rfl,by simp[g1,g2,g3]⟩
theorem Ao4(p:Ao)(h1:p.V.length<=1000000)(h2:p.T.length<=1000000)(h3:p.Lines.length<=1000000):∃ c,Ig p=some c/\Dq p=some c/\(c=0\/c=64):=by
 have done:∀ r:Ao × Int,Ic p.V p.Lines=some r->Cd p.V p.Lines=some r->(r.2=0->r.1.V=p.V/\r.1.T.length<=100000000/\r.1.Lines.length<=100000000)->∃ c,Ig p=some c/\Dq p=some c/\(c=0\/c=64):=by
  intro r r1 r2 r3;unfold Ig Dq;rw[r1,r2,Ad,Ad,jn_d,jn_d]
  by_cases e:r.2=0
  ·obtain⟨g1,g2,g3⟩:=r3 e;obtain⟨q,q1,q2⟩:=Am8 p r.1 oo oo oo;obtain⟨x,x1,x2⟩:=Ajs r.1.T p.T g2;obtain⟨y,y1,y2⟩:=As4 r.1.Lines p.Lines g3;rw[if_pos e,if_pos e,q1,Ad,x1,Ad,y1];have hq:q=true↔x=true/\y=true:=by
    rw[q2,x2,y2];exact⟨fun g=>⟨g.2.1.symm,g.2.2.symm⟩,fun g=>⟨g1.symm,g.1.symm,g.2.symm⟩⟩
   cases x with
   | false=>
    have:q=false:=by
     cases q with
     | false=>rfl
     | true=>exact absurd (hq.1 rfl).1 dD
    subst this;exact⟨64,rfl,rfl,.inr rfl⟩
   | true=>
    rw[if_pos rfl,Ad];have hqy:q=true↔y=true:=⟨fun g=>(hq.1 g).2,fun g=>hq.2 ⟨rfl,g⟩⟩;have:q=y:=Bool.eq_iff_iff.2 hqy;subst this;cases q with
    | false=>exact⟨64,rfl,rfl,.inr rfl⟩
    | true=>exact⟨0,rfl,rfl,.inl rfl⟩
  ·rw[if_neg e,if_neg e];exact⟨64,rfl,rfl,.inr rfl⟩
 by_cases h:Ny p.V=0
 ·by_cases g:Oa p.V p.Lines=0
  ·obtain⟨T,e1,e2,e3,_⟩:=Ae3 h h3 g;exact done _ e1 e2 (fun _=>⟨rfl,by dsimp only;omega,by dsimp only;rw[(Du _ _).length_eq,length_map];omega⟩)
  ·exact done _ (Ah0 h h3 g) (Agu h3 h g) (fun e=>absurd e g)
 ·exact done _ (Agv h) (Aiu _ h) (fun e=>absurd e h)
theorem Ub(x:Int):wu64 x=x % 18446744073709551616:=by unfold wu64;rw[IntKind.wrap_u64]
theorem Pj{j:Nat}(h:j<=18446744073709551615):wu64 (j:Int)=(j:Int):=by rw[Ub];omega
theorem wuM(n:Nat):wu64 (n:Int)=((n % 18446744073709551616:Nat):Int):=by rw[Ub];omega
theorem shrN(n j:Nat)(h:j<=64):shr_ .u64 (n:Int) (j:Int)=((n / 2 ^ j:Nat):Int):=by
 unfold shr_;have e:min ((j:Int)).toNat IntKind.u64.bits=j:=by
  have:IntKind.u64.bits=64:=rfl;rw[this];omega
 rw[e,Int.fdiv_eq_ediv_of_nonneg _ (by exact_mod_cast Nat.zero_le (2 ^ j))];norm_cast
theorem shlN(n j:Nat)(h:j<=64):shl_ .u64 (n:Int) (j:Int)=((n*2 ^ j % 18446744073709551616:Nat):Int):=by
 unfold shl_;have e:min ((j:Int)).toNat IntKind.u64.bits=j:=by
  have:IntKind.u64.bits=64:=rfl;rw[this];omega
 have c:(n:Int)*2 ^ j=((n*2 ^ j:Nat):Int):=by norm_cast
 rw[e,IntKind.wrap_u64,c];generalize n*2 ^ j=m;omega
theorem Ac2(n:Nat):shr_ .u64 (n:Int) 32=((n / 4294967296:Nat):Int):=shrN n 32 oo
theorem andN(n:Nat):Dx .u64 (n:Int) 4294967295=((n % 4294967296:Nat):Int):=by
 unfold Dx;have e:(BitVec.ofInt IntKind.u64.bits (n:Int) &&& BitVec.ofInt IntKind.u64.bits 4294967295).toNat=n % 4294967296:=by
  show (BitVec.ofInt 64 (n:Int) &&& BitVec.ofInt 64 4294967295).toNat=_;rw[BitVec.toNat_and];have e1:(BitVec.ofInt 64 (n:Int)).toNat=n % 2 ^ 64:=by simp[BitVec.toNat_ofInt]
  have e2:(BitVec.ofInt 64 (4294967295:Int)).toNat=2 ^ 32-1:=dD;rw[e1,e2,Nat.and_two_pow_sub_one_eq_mod];omega
 rw[e,IntKind.wrap_u64];omega
theorem Ao5(a1 a0 b1 b0:Nat)(h1:a1<4294967296)(h2:a0<4294967296)(h3:b1<4294967296)(h4:b0<4294967296):
  a1*b1<=18446744065119617025/\a1*b0<=18446744065119617025/\a0*b1<=18446744065119617025/\a0*b0<=18446744065119617025:=by
 have k:∀ x y:Nat,x<4294967296->y<4294967296->x*y<=18446744065119617025:=fun x y hx hy=>
  Nat.le_trans (Nat.mul_le_mul (Nat.le_of_lt_succ hx) (Nat.le_of_lt_succ hy)) dD
 exact⟨k _ _ h1 h3,k _ _ h1 h4,k _ _ h2 h3,k _ _ h2 h4⟩
theorem Awf{a b:Nat}(ha:a<18446744073709551616)(hb:b<18446744073709551616):
  Hb (a:Int) (b:Int)=some (((a*b / 18446744073709551616:Nat):Int),((a*b % 18446744073709551616:Nat):Int)):=by
 unfold Hb;have e2:(a:Int)*(b:Int)=((a*b:Nat):Int):=by norm_cast
 simp only[Ac2,andN,e2,wuM];have hm:=Ao5 (a / 4294967296) (a % 4294967296) (b / 4294967296) (b % 4294967296) oo oo oo oo;have e:a*b=a / 4294967296*(b / 4294967296)*18446744073709551616+(a / 4294967296*(b % 4294967296)+a % 4294967296*(b / 4294967296))*4294967296+a % 4294967296*(b % 4294967296):=by
  have x1:a=a / 4294967296*4294967296+a % 4294967296:=oo;have x2:b=b / 4294967296*4294967296+b % 4294967296:=oo;generalize a / 4294967296=p at *;generalize a % 4294967296=q at *;generalize b / 4294967296=r at *;generalize b % 4294967296=s at *;subst x1;subst x2;grind
 have c1:∀ x y:Nat,(x:Int)*(y:Int)=((x*y:Nat):Int):=fun x y=>by norm_cast
 have c2:∀ x y:Nat,(x:Int)+(y:Int)=((x+y:Nat):Int):=fun x y=>by norm_cast
 simp only[c1,c2,wuM,Ac2,andN];rw[e];clear e e2 c1 c2;generalize a / 4294967296*(b / 4294967296)=p at *;generalize a / 4294967296*(b % 4294967296)=q at *;generalize a % 4294967296*(b / 4294967296)=r at *;generalize a % 4294967296*(b % 4294967296)=s at *;obtain⟨m1,m2,m3,m4⟩:=hm;congr 3;omega
theorem Awg{g q s:Nat}(hg:g<4294967296)(hs:s<4294967296)(hq:q<18446744073709551616):
  Qw (g:Int) (q:Int) (s:Int)=some (decide (g*g*1000000<=s*s*q)):=by
 have m1:g*g<18446744073709551616:=by
  have:=Nat.mul_le_mul (show g<=4294967295 by omega) (show g<=4294967295 by omega);omega
 have m2:s*s<18446744073709551616:=by
  have:=Nat.mul_le_mul (show s<=4294967295 by omega) (show s<=4294967295 by omega);omega
 have c1:∀ x y:Nat,(x:Int)*(y:Int)=((x*y:Nat):Int):=fun x y=>by norm_cast
 unfold Qw;rw[Pj oo,Pj oo,Pj oo,c1,c1,Pj oo,Pj oo];rw[show (1000000:Int)=((1000000:Nat):Int) by omega,Awf m1 (show 1000000<18446744073709551616 by omega),Ad,Awf m2 hq,Ad];clear c1;generalize g*g*1000000=a;generalize s*s*q=b;simp only[jn_d]
 by_cases h:a / 18446744073709551616<b / 18446744073709551616
 ·rw[if_pos oo];have:a<=b:=oo;simp[this]
 ·rw[if_neg oo]
  by_cases h2:a / 18446744073709551616=b / 18446744073709551616
  ·rw[if_pos oo];have:(((a % 18446744073709551616:Nat):Int)<=((b % 18446744073709551616:Nat):Int))↔a<=b:=oo;simp only[this]
  ·rw[if_neg oo];have:¬ a<=b:=oo;simp[this]
def W2(n:Nat):Gh:=⟨((n / 18446744073709551616:Nat):Int),((n % 18446744073709551616:Nat):Int)⟩
theorem Ael{n a b:Nat}(ha:a<18446744073709551616)(hb:b<18446744073709551616)(h:n+a*b<340282366920938463463374607431768211456):
  Fc (W2 n) (a:Int) (b:Int)=some (W2 (n+a*b)):=by
 unfold Fc;rw[Pj oo,Pj oo,Awf ha hb,Ad];generalize a*b=m at *;have e1:(W2 n).lo=((n % 18446744073709551616:Nat):Int):=rfl;have e2:(W2 n).hi=((n / 18446744073709551616:Nat):Int):=rfl;rw[gd_t (by rw[e1];omega),gd_t (by rw[e1,e2];dsimp only;omega),e1,e2];unfold W2;congr 2 <;> omega
theorem Ajt{σ:Type}{f:σ->Option (Sum σ Int)}(enc:Nat->Nat->σ){B v1 v0 U u1:Nat}(h1:v1<B)(h3:v0<B)(hU:U<v1*B+v0)(hu:u1<B)(h0:0<v1)(hf:∀ q r:Nat,q*v1<=U->r<B->f (enc q r)=if B<=q\/B*r+u1<q*v0 then (if B<=r+v1 then some (.inr ((q-1:Nat):Int)) else some (.inl (enc (q-1) (r+v1)))) else some (.inr (q:Int))):
  lfix f (enc (U / v1) (U % v1))=some (((U*B+u1) / (v1*B+v0):Nat):Int):=by
 have hV:0<v1*B+v0:=by
  have:=Nat.mul_pos h0 (show 0<B by omega);omega
 have hQ:(U*B+u1) / (v1*B+v0)<B:=by
  rw[Nat.div_lt_iff_lt_mul hV];have:(U+1)*B<=(v1*B+v0)*B:=Nat.mul_le_mul_right _ hU;rw[Nat.add_mul,Nat.one_mul] at this;rw[Nat.mul_comm B];omega
 generalize hq:(U*B+u1) / (v1*B+v0)=Q at hQ ⊢;have hle:∀ q,q<=Q↔q*(v1*B+v0)<=U*B+u1:=fun q=>by rw[<- hq,Nat.le_div_iff_mul_le hV]
 have key:∀ q r:Nat,q*v1+r=U->r<B->Q<=q->lfix f (enc q r)=some (Q:Int):=by
  intro q
  induction q with
  | zero=>
   intro r e hr hq0;rw[Bg,hf 0 r oo hr,if_neg oo];simp;omega
  | succ q ih=>
   intro r e hr hq1;have ex:(q+1)*(v1*B+v0)+r*B=U*B+(q+1)*v0:=by rw[<- e];grind
   have e':q*v1+(r+v1)=U:=by rw[<- e];grind
   rw[Bg,hf (q+1) r oo hr]
   by_cases hc:B<=q+1\/B*r+u1<(q+1)*v0
   ·have hq2:Q<=q:=by
     rcases hc with hc | hc
     ·omega
     ·have:¬ (q+1)<=Q:=by
       rw[hle];rw[Nat.mul_comm B r] at hc;omega
      omega
    rw[if_pos hc]
    by_cases hd:B<=r+v1
    ·rw[if_pos hd];have hqB:q<B:=by
      apply Classical.byContradiction;intro hn;have:B*v1<=q*v1:=Nat.mul_le_mul_right _ oo;rw[Nat.mul_comm B v1] at this;omega
     have:q<=Q:=by
      rw[hle];have ey:q*(v1*B+v0)+(r+v1)*B=U*B+q*v0:=by rw[<- e'];grind
      have x1:q*v0<=B*B:=Nat.mul_le_mul oo oo;have x2:B*B<=(r+v1)*B:=Nat.mul_le_mul_right _ hd;omega
     have:q=Q:=oo;subst this;simp
    ·rw[if_neg hd];exact ih (r+v1) e' oo hq2
   ·rw[if_neg hc];have:q+1<=Q:=by
     rw[hle];rw[Nat.mul_comm B r] at hc;omega
    have:q+1=Q:=oo;subst this;rfl
 have:=Nat.div_add_mod U v1;refine key _ _ (by rw[Nat.mul_comm];exact this) (Nat.lt_trans (Nat.mod_lt _ h0) h1) ?_;rw[<- hq];rw[Nat.le_div_iff_mul_le h0];have a:=Nat.div_mul_le_self (U*B+u1) (v1*B+v0);generalize (U*B+u1) / (v1*B+v0)=q at *;have b:q*v1*B<=U*B+u1:=by
  have:q*(v1*B+v0)=q*v1*B+q*v0:=by grind
  omega
 have c:q*v1*B<(U+1)*B:=by rw[Nat.add_mul,Nat.one_mul];omega
 have:=Nat.lt_of_mul_lt_mul_right c;omega
def LenP(y:Nat)(o:Option Int):Prop:=∃ t:Nat,1<=t/\t<=64/\2 ^ (t-1)<=y/\y<2 ^ t/\o=some (t:Int)
theorem Azb:∀ x:Fin 256,0<x.val->∃ t:Fin 9,Mu[x.val]? = some (t.val:Int)/\1<=t.val/\2 ^ (t.val-1)<=x.val/\x.val<2 ^ t.val:=by decide +kernel
theorem Azc{x:Nat}(h0:0<x)(h:x<256):∃ t:Nat,t<=8/\idx Mu (wu8 (x:Int))=some (t:Int)/\1<=t/\2 ^ (t-1)<=x/\x<2 ^ t:=by
 obtain⟨t,e,h1,h2,h3⟩:=Azb ⟨x,h⟩ h0;refine⟨t.val,oo,?_,h1,h2,h3⟩;have e8:wu8 (x:Int)=(x:Int):=by
  unfold wu8;rw[IntKind.wrap_u8];omega
 rw[e8];unfold idx;rw[if_pos oo];simpa using e
theorem Aq3{x n y:Nat}(hx:x=y / 2 ^ n)(h0:0<x)(h:x<256)(hn:n<=56):LenP y (bnd (idx Mu (wu8 (x:Int))) fun x16=>some (w64 ((n:Int)+(w64 x16)))):=by
 obtain⟨t,h8,e,h1,h2,h3⟩:=Azc h0 h;rw[e,Ad];have hp:0<2 ^ n:=Nat.two_pow_pos n;refine⟨n+t,oo,oo,?_,?_,?_⟩
 ·rw[hx,Nat.le_div_iff_mul_le hp,<- Nat.pow_add] at h2;rw[show n+t-1=t-1+n by omega];exact h2
 ·rw[hx,Nat.div_lt_iff_lt_mul hp,<- Nat.pow_add] at h3;rw[Nat.add_comm];exact h3
 ·rw[Qb oo,As oo oo];norm_cast
theorem Ba9{x n y:Nat}(hx:x=y / 2 ^ n)(h0:0<x)(h:x<65536)(hn:n<=48):
  LenP y (jn (fun (s8:Int × Int)=>bnd (idx Mu (wu8 s8.1)) fun x16=>some (w64 (s8.2+(w64 x16)))) (fun j8=>if 256<=(x:Int) then (j8 (shr_ .u64 (x:Int) 8,w64 ((n:Int)+8))) else (j8 ((x:Int),(n:Int))))):=by
 rw[jn_d]
 by_cases c:256<=(x:Int)
 ·rw[if_pos c];have e:w64 ((n:Int)+8)=((n+8:Nat):Int):=by rw[As oo oo];norm_cast
  rw[show shr_ .u64 (x:Int) 8=((x / 2 ^ 8:Nat):Int) from shrN x 8 oo,e];exact Aq3 (by rw[hx,Nat.div_div_eq_div_mul,<- Nat.pow_add]) oo oo oo
 ·rw[if_neg c];exact Aq3 hx h0 oo oo
theorem Awh{x n y:Nat}(hx:x=y / 2 ^ n)(h0:0<x)(h:x<4294967296)(hn:n<=32):
  LenP y (jn (fun (s5:Int × Int)=>jn (fun (s8:Int × Int)=>bnd (idx Mu (wu8 s8.1)) fun x16=>some (w64 (s8.2+(w64 x16)))) (fun j8=>if 256<=s5.1 then (j8 (shr_ .u64 s5.1 8,w64 (s5.2+8))) else (j8 (s5.1,s5.2))))
   (fun j5=>if 65536<=(x:Int) then (j5 (shr_ .u64 (x:Int) 16,w64 ((n:Int)+16))) else (j5 ((x:Int),(n:Int))))):=by
 rw[jn_d]
 by_cases c:65536<=(x:Int)
 ·rw[if_pos c];have e:w64 ((n:Int)+16)=((n+16:Nat):Int):=by rw[As oo oo];norm_cast
  rw[show shr_ .u64 (x:Int) 16=((x / 2 ^ 16:Nat):Int) from shrN x 16 oo,e];exact Ba9 (by rw[hx,Nat.div_div_eq_div_mul,<- Nat.pow_add]) oo oo oo
 ·rw[if_neg c];exact Ba9 hx h0 oo oo
theorem Beh{y:Nat}(h0:0<y)(h:y<18446744073709551616):LenP y (Lv (y:Int)):=by
 unfold Lv;rw[jn_d]
 by_cases c:4294967296<=(y:Int)
 ·rw[if_pos c];rw[show shr_ .u64 (y:Int) 32=((y / 2 ^ 32:Nat):Int) from shrN y 32 oo];exact Awh (n:=32) rfl oo oo oo
 ·rw[if_neg c];exact Awh (n:=0) s_ h0 oo oo
theorem Bco{y:Nat}(h0:0<y)(h:y<18446744073709551616):∃ s:Nat,s<=63/\Fj (y:Int)=some (s:Int)/\9223372036854775808<=y*2 ^ s/\y*2 ^ s<18446744073709551616:=by
 obtain⟨t,h1,h2,h3,h4,e⟩:=Beh h0 h;refine⟨64-t,oo,?_,?_,?_⟩
 ·unfold Fj;rw[e,Ad,As oo oo];congr 1;omega
 ·have:=Nat.mul_le_mul_right (2 ^ (64-t)) h3;rw[<- Nat.pow_add,show t-1+(64-t)=63 by omega] at this;exact this
 ·have:=Nat.mul_lt_mul_of_pos_right h4 (Nat.two_pow_pos (64-t));rw[<- Nat.pow_add,show t+(64-t)=64 by omega] at this;exact this
theorem Ao6(x y z:Int)(h0:0<=x+y-z)(h1:x+y-z<18446744073709551616):wu64 (wu64 (wu64 x+y)-wu64 z)=x+y-z:=by
 simp only[Ub];omega
theorem Awi(x z:Int)(h0:0<=x-z)(h1:x-z<18446744073709551616):wu64 (x-wu64 z)=x-z:=by
 simp only[Ub];omega
theorem Vz{x:Int}(h0:0<=x)(h1:x<18446744073709551616):wu64 x=x:=by rw[Ub];omega
theorem orN{a b s:Nat}(hb:b<2 ^ s)(h:a*2 ^ s+b<18446744073709551616):Uk .u64 ((a*2 ^ s:Nat):Int) (b:Int)=((a*2 ^ s+b:Nat):Int):=by
 unfold Uk;have e:(BitVec.ofInt IntKind.u64.bits ((a*2 ^ s:Nat):Int) ||| BitVec.ofInt IntKind.u64.bits (b:Int)).toNat=a*2 ^ s+b:=by
  show (BitVec.ofInt 64 ((a*2 ^ s:Nat):Int) ||| BitVec.ofInt 64 (b:Int)).toNat=_;rw[BitVec.toNat_or];have k:∀ n:Nat,n<18446744073709551616->(BitVec.ofInt 64 (n:Int)).toNat=n:=fun n hn=>by
   simp[BitVec.toNat_ofInt];omega
  rw[k _ oo,k _ oo,Nat.mul_comm,<- Nat.two_pow_add_eq_or_of_lt hb]
 rw[e];exact Pj oo
theorem Am9{v1 v0 U u q r:Nat}(h1:v1<4294967296)(h2:2147483648<=v1)(h3:v0<4294967296)(hu:u<4294967296)(hU:U<18446744073709551616)(hq:q*v1<=U)(hr:r<4294967296){σ:Type}(A:Int->Option (Sum σ Int))(E:Option (Sum σ Int)):
  jn (fun (s:Bool)=>if s=true then (if (4294967296:Int)<=wu64 ((r:Int)+(v1:Int)) then some (.inr (wu64 ((q:Int)-1))) else A (wu64 ((q:Int)-1))) else E)
   (fun j=>if (4294967296:Int)<=(q:Int) then j true else j (decide (wu64 (wu64 (4294967296*(r:Int))+(u:Int))<wu64 ((q:Int)*(v0:Int)))))
  = if 4294967296<=q\/4294967296*r+u<q*v0 then (if 4294967296<=r+v1 then some (.inr ((q-1:Nat):Int)) else A ((q-1:Nat):Int)) else E:=by
 have hq2:q<8589934593:=by
  apply Classical.byContradiction;intro hn;have:=Nat.mul_le_mul (show 8589934593<=q by omega) h2;omega
 have e1:wu64 ((r:Int)+(v1:Int))=((r+v1:Nat):Int):=by rw[Vz oo oo];norm_cast
 have e3:wu64 (wu64 (4294967296*(r:Int))+(u:Int))=((4294967296*r+u:Nat):Int):=by
  simp only[Ub];omega
 have c1:(q:Int)*(v0:Int)=((q*v0:Nat):Int):=by norm_cast
 have d1:((4294967296:Int)<=((r+v1:Nat):Int))↔4294967296<=r+v1:=oo;rw[jn_d,e1,e3,c1]
 by_cases hc:4294967296<=q
 ·have e2:wu64 ((q:Int)-1)=((q-1:Nat):Int):=by rw[Vz oo oo];omega
  rw[if_pos (show (4294967296:Int)<=(q:Int) by omega)];refine (if_pos (show true=true from rfl)).trans ?_;rw[if_pos (show 4294967296<=q\/4294967296*r+u<q*v0 from Or.inl hc),e2]
  by_cases hd:4294967296<=r+v1
  ·rw[if_pos hd,if_pos oo]
  ·rw[if_neg hd,if_neg oo]
 ·rw[if_neg (show ¬ (4294967296:Int)<=(q:Int) by omega)];have b1:q*v0<=4294967295*4294967295:=Nat.mul_le_mul oo oo;rw[Pj (show q*v0<=18446744073709551615 by omega)]
  by_cases hk:4294967296*r+u<q*v0
  ·have hq0:0<q:=by
    rcases Nat.eq_zero_or_pos q with h | h
    ·subst h;simp at hk
    ·exact h
   have e2:wu64 ((q:Int)-1)=((q-1:Nat):Int):=by rw[Vz oo oo];omega
   rw[decide_eq_true oo];refine (if_pos (show true=true from rfl)).trans ?_;rw[if_pos (show 4294967296<=q\/4294967296*r+u<q*v0 from Or.inr hk),e2]
   by_cases hd:4294967296<=r+v1
   ·rw[if_pos hd,if_pos oo]
   ·rw[if_neg hd,if_neg oo]
  ·rw[decide_eq_false oo];refine (if_neg (show ¬ (false=true) by decide)).trans ?_;rw[if_neg (show ¬ (4294967296<=q\/4294967296*r+u<q*v0) by omega)]
theorem Azd{y lo s v1 v0 U u1:Nat}(h1:v1<4294967296)(h2:2147483648<=v1)(h3:v0<4294967296)(hU:U<v1*4294967296+v0)(hu:u1<4294967296)(es:wu64 (s:Int)=(s:Int))(ey:shl_ .u64 (y:Int) (s:Int)=((v1*4294967296+v0:Nat):Int))(el:shr_ .u64 (shl_ .u64 (lo:Int) (s:Int)) 32=(u1:Int)):
  lfix (Nd (y:Int) (s:Int) (lo:Int)) (((U / v1:Nat):Int),((U % v1:Nat):Int))=some (((U*4294967296+u1) / (v1*4294967296+v0):Nat):Int):=by
 have e1:shr_ .u64 ((v1*4294967296+v0:Nat):Int) 32=(v1:Int):=by rw[Ac2];omega
 have e2:Dx .u64 ((v1*4294967296+v0:Nat):Int) 4294967295=(v0:Int):=by rw[andN];omega
 refine Ajt (fun q r=>((q:Int),(r:Int))) h1 h3 hU hu oo ?_;intro q r hq hr;unfold Nd;simp only[es,ey,el,e1,e2];refine (Am9 h1 h2 h3 hu (U:=U) oo hq hr (fun q'=>some (.inl (q',wu64 ((r:Int)+(v1:Int))))) _).trans ?_
 by_cases hd:4294967296<=r+v1
 ·simp only[if_pos hd]
 ·rw[Vz (x:=(r:Int)+(v1:Int)) oo oo];simp only[if_neg hd];norm_cast
theorem Aze{y lo s v1 v0 U u0:Nat}(h1:v1<4294967296)(h2:2147483648<=v1)(h3:v0<4294967296)(hU:U<v1*4294967296+v0)(hu:u0<4294967296)(es:wu64 (s:Int)=(s:Int))(ey:shl_ .u64 (y:Int) (s:Int)=((v1*4294967296+v0:Nat):Int))(el:Dx .u64 (shl_ .u64 (lo:Int) (s:Int)) 4294967295=(u0:Int)):
  lfix (Nf (y:Int) (s:Int) (lo:Int)) (((U % v1:Nat):Int),((U / v1:Nat):Int))=some (((U*4294967296+u0) / (v1*4294967296+v0):Nat):Int):=by
 have e1:shr_ .u64 ((v1*4294967296+v0:Nat):Int) 32=(v1:Int):=by rw[Ac2];omega
 have e2:Dx .u64 ((v1*4294967296+v0:Nat):Int) 4294967295=(v0:Int):=by rw[andN];omega
 refine Ajt (fun q r=>((r:Int),(q:Int))) h1 h3 hU hu oo ?_;intro q r hq hr;unfold Nf;simp only[es,ey,el,e1,e2];refine (Am9 h1 h2 h3 hu (U:=U) oo hq hr (fun q'=>some (.inl (wu64 ((r:Int)+(v1:Int)),q'))) _).trans ?_
 by_cases hd:4294967296<=r+v1
 ·simp only[if_pos hd]
 ·rw[Vz (x:=(r:Int)+(v1:Int)) oo oo];simp only[if_neg hd];norm_cast
theorem Azf{lo s:Nat}(hs:s<=63):lo*2 ^ s=lo / 2 ^ (64-s)*18446744073709551616+lo*2 ^ s % 18446744073709551616:=by
 have e:(18446744073709551616:Nat)=2 ^ (64-s)*2 ^ s:=by rw[<- Nat.pow_add,show 64-s+s=64 by omega]
 have k:lo*2 ^ s / 18446744073709551616=lo / 2 ^ (64-s):=by rw[e,Nat.mul_div_mul_right _ _ (Nat.two_pow_pos s)]
 have:=Nat.div_add_mod (lo*2 ^ s) 18446744073709551616;rw[k] at this;omega
theorem Adw{U v1:Nat}(h1:0<v1)(hU:U<18446744073709551616):wu64 (Int.tdiv (U:Int) (v1:Int))=((U / v1:Nat):Int)/\wu64 ((U:Int)-wu64 (((U / v1:Nat):Int)*(v1:Int)))=((U % v1:Nat):Int):=by
 have a:U / v1<=U:=Nat.div_le_self _ _;have b:=Nat.div_add_mod U v1;have c:((U / v1:Nat):Int)*(v1:Int)=((v1*(U / v1):Nat):Int):=by rw[Nat.mul_comm];norm_cast
 constructor
 ·rw[<- Int.ofNat_tdiv];exact Pj oo
 ·rw[c];generalize v1*(U / v1)=m at *;rw[Awi _ _ oo oo];omega
theorem Ana{U u Y:Nat}(hU:U<Y)(hu:u<4294967296)(hY:Y<18446744073709551616):
  wu64 (wu64 (wu64 ((U:Int)*4294967296)+(u:Int))-wu64 ((((U*4294967296+u) / Y:Nat):Int)*(Y:Int)))=(((U*4294967296+u) % Y:Nat):Int):=by
 have b:=Nat.div_add_mod (U*4294967296+u) Y;have d:=Nat.mod_lt (U*4294967296+u) (show 0<Y by omega);have c:(((U*4294967296+u) / Y:Nat):Int)*(Y:Int)=((Y*((U*4294967296+u) / Y):Nat):Int):=by rw[Nat.mul_comm Y];norm_cast
 rw[c];generalize Y*((U*4294967296+u) / Y)=m at *;generalize (U*4294967296+u) % Y=r at *;rw[Ao6 _ _ _ oo oo];omega
theorem Azg{U w Y r1 g1 g0 R s:Nat}(x1:Y*g1+r1=U*4294967296+w / 4294967296)(x2:Y*g0+R=r1*4294967296+w % 4294967296)(x3:R<Y)(a1:g1<4294967296)(a2:g0<4294967296):
  some (wu64 (wu64 ((g1:Int)*4294967296)+(g0:Int)),((R / 2 ^ s:Nat):Int))=some ((((U*18446744073709551616+w) / Y:Nat):Int),(((U*18446744073709551616+w) % Y / 2 ^ s:Nat):Int)):=by
 have tot:U*18446744073709551616+w=Y*(g1*4294967296+g0)+R:=by
  rw[Nat.mul_add,show Y*(g1*4294967296)=Y*g1*4294967296 by grind];omega
 rw[tot,Nat.mul_add_div oo,Nat.mul_add_mod,Nat.div_eq_of_lt x3,Nat.mod_eq_of_lt x3];have fin:wu64 (wu64 ((g1:Int)*4294967296)+(g0:Int))=((g1*4294967296+g0+0:Nat):Int):=by
  simp only[Ub];omega
 rw[fin]
theorem Bei{hi lo y:Nat}(hy:y<18446744073709551616)(h:hi<y)(hl:lo<18446744073709551616):
  Pe (hi:Int) (lo:Int) (y:Int)=some ((((hi*18446744073709551616+lo) / y:Nat):Int),(((hi*18446744073709551616+lo) % y:Nat):Int)):=by
 unfold Pe;rw[if_neg oo,if_neg oo]
 by_cases h0:hi=0
 ·subst h0;rw[if_pos oo,gd_t oo,gd_t oo,(Adw oo hl).1,<- Int.ofNat_tmod];simp
 rw[if_neg oo];obtain⟨s,hs,e,n1,n2⟩:=Bco (y:=y) oo hy;rw[e,Ad];have es:wu64 (s:Int)=(s:Int):=Pj oo;have hp:0<2 ^ s:=Nat.two_pow_pos s;have m1:hi*2 ^ s<y*2 ^ s:=Nat.mul_lt_mul_of_pos_right h hp;have m2:=Azf (lo:=lo) hs;have m3:lo / 2 ^ (64-s)<2 ^ s:=by
  rw[Nat.div_lt_iff_lt_mul (Nat.two_pow_pos _),<- Nat.pow_add,show s+(64-s)=64 by omega];exact hl
 have m4:(hi*18446744073709551616+lo)*2 ^ s=(hi*2 ^ s+lo / 2 ^ (64-s))*18446744073709551616+lo*2 ^ s % 18446744073709551616:=by
  rw[Nat.add_mul,m2];grind
 have m5:hi*2 ^ s+lo / 2 ^ (64-s)<y*2 ^ s:=by
  have:=Nat.mul_le_mul_right (2 ^ s) (show hi+1<=y from h);rw[Nat.add_mul,Nat.one_mul] at this;omega
 have ey:shl_ .u64 (y:Int) (s:Int)=((y*2 ^ s:Nat):Int):=by rw[shlN _ _ oo,Nat.mod_eq_of_lt n2]
 have eh:shl_ .u64 (hi:Int) (s:Int)=((hi*2 ^ s:Nat):Int):=by rw[shlN _ _ oo,Nat.mod_eq_of_lt oo]
 have el:=shlN lo s oo;have ec:wu64 (64-(s:Int))=((64-s:Nat):Int):=by rw[Vz oo oo];omega
 have ed:=shrN lo (64-s) oo;have ef:=orN (a:=hi) m3 oo;have q1:(hi*18446744073709551616+lo) / y=(hi*18446744073709551616+lo)*2 ^ s / (y*2 ^ s):=by rw[Nat.mul_div_mul_right _ _ hp]
 have q2:(hi*18446744073709551616+lo) % y=(hi*18446744073709551616+lo)*2 ^ s % (y*2 ^ s) / 2 ^ s:=by rw[Nat.mul_mod_mul_right,Nat.mul_div_cancel _ hp]
 rw[q1,q2,m4];simp only[es,ey,eh,ec,ed,ef,jn_d];have esr:∀ n:Nat,shr_ .u64 (n:Int) (s:Int)=((n / 2 ^ s:Nat):Int):=fun n=>shrN n s oo
 have d1:=@Azd y lo s;have d0:=@Aze y lo s;rw[ey,el] at d1 d0;rw[el];have ew:lo*2 ^ s % 18446744073709551616<18446744073709551616:=Nat.mod_lt _ oo;generalize lo*2 ^ s % 18446744073709551616=w at *;generalize hi*2 ^ s+lo / 2 ^ (64-s)=U at *;generalize y*2 ^ s=Y at *;clear m1 m2 m3 m4 ef eh ed el ey e q1 q2 ec;rw[gd_t oo,gd_t oo,gd_t oo,gd_t oo];have t1:Y=Y / 4294967296*4294967296+Y % 4294967296:=oo;have t2:w=w / 4294967296*4294967296+w % 4294967296:=oo;have d1':=d1 (v1:=Y / 4294967296) (v0:=Y % 4294967296) (U:=U) (u1:=w / 4294967296) oo oo oo oo oo es (by rw[<- t1]) (Ac2 w);rw[<- t1] at d1';rw[Ac2,Ac2,andN,gd_t oo,(Adw oo oo).1,(Adw oo oo).2,d1',Ad,gd_t oo,Ana m5 oo n2];have hM:=Nat.mod_lt (U*4294967296+w / 4294967296) (show 0<Y by omega);have d0':=d0 (v1:=Y / 4294967296) (v0:=Y % 4294967296) (U:=(U*4294967296+w / 4294967296) % Y) (u0:=w % 4294967296) oo oo oo oo oo es (by rw[<- t1]) (andN w);rw[<- t1] at d0';rw[(Adw oo oo).1,(Adw oo oo).2,d0',Ad,Ana hM oo n2,gd_t oo,esr];have x1:=Nat.div_add_mod (U*4294967296+w / 4294967296) Y;have x2:=Nat.div_add_mod ((U*4294967296+w / 4294967296) % Y*4294967296+w % 4294967296) Y;have x3:=Nat.mod_lt ((U*4294967296+w / 4294967296) % Y*4294967296+w % 4294967296) (show 0<Y by omega);have a1:(U*4294967296+w / 4294967296) / Y<4294967296:=by
  rw[Nat.div_lt_iff_lt_mul oo];omega
 have a2:((U*4294967296+w / 4294967296) % Y*4294967296+w % 4294967296) / Y<4294967296:=by
  rw[Nat.div_lt_iff_lt_mul oo];omega
 exact Azg x1 x2 x3 a1 a2
theorem Azh{m0 m1 m2 d0 d1 d2:Nat}{b:Int}{p:Ag}(hA:m0+m1+m2<=2305843009213693952)(h0:0<m0+m1+m2)(k0:d0<=2199023255552)(k1:d1<=2199023255552)(k2:d2<=2199023255552)(b1:-2199023255552<=b)(b2:b<=2199023255552)(hb:min (min p.a0 p.a1) p.a2=b)(e0:p.a0=b+d0)(e1:p.a1=b+d1)(e2:p.a2=b+d2):
  Mv ⟨(m0:Int),(m1:Int),(m2:Int)⟩ p=some (b+(((m0*d0+m1*d1+m2*d2) / (m0+m1+m2):Nat):Int),
   b+(((m0*d0+m1*d1+m2*d2) / (m0+m1+m2):Nat):Int)+if 0<(m0*d0+m1*d1+m2*d2) % (m0+m1+m2) then 1 else 0):=by
 have l0:m0*d0<=m0*2199023255552:=Nat.mul_le_mul_left _ k0;have l1:m1*d1<=m1*2199023255552:=Nat.mul_le_mul_left _ k1;have l2:m2*d2<=m2*2199023255552:=Nat.mul_le_mul_left _ k2;have w0:w64 (p.a0-b)=(d0:Int):=by rw[As oo oo];omega
 have w1:w64 (p.a1-b)=(d1:Int):=by rw[As oo oo];omega
 have w2:w64 (p.a2-b)=(d2:Int):=by rw[As oo oo];omega
 have z:(⟨0,0⟩:Gh)=W2 0:=rfl;have s1:wu64 (w64 (w64 ((m0:Int)+(m1:Int))+(m2:Int)))=((m0+m1+m2:Nat):Int):=by
  rw[As (x:=(m0:Int)+(m1:Int)) oo oo,As oo oo,Vz oo oo];norm_cast
 unfold Mv;simp only[hb,w0,w1,w2,s1];have p0:=Ael (n:=0) (a:=m0) (b:=d0) oo oo oo;have p1:=Ael (n:=0+m0*d0) (a:=m1) (b:=d1) oo oo oo;have p2:=Ael (n:=0+m0*d0+m1*d1) (a:=m2) (b:=d2) oo oo oo;rw[z,p0,Ad,p1,Ad,p2,Ad];have hn:0+m0*d0+m1*d1+m2*d2=m0*d0+m1*d1+m2*d2:=oo;rw[hn];have hm:m0*d0+m1*d1+m2*d2<=(m0+m1+m2)*2199023255552:=oo;clear p0 p1 p2 hn l0 l1 l2 z s1 w0 w1 w2;generalize m0*d0+m1*d1+m2*d2=n at *;generalize m0+m1+m2=A at *;have q:=Bei (hi:=n / 18446744073709551616) (lo:=n % 18446744073709551616) (y:=A) oo oo oo;have en:n / 18446744073709551616*18446744073709551616+n % 18446744073709551616=n:=oo;rw[en] at q;have qb:n / A<=2199023255552:=by
  rw[Nat.div_le_iff_le_mul_add_pred h0,Nat.mul_comm A];rw[Nat.mul_comm] at hm;omega
 refine (congrArg (fun o=>bnd o _) q).trans ?_;rw[Ad];dsimp only;generalize n / A=g at *;generalize n % A=r at *;have f1:w64 (b+w64 (g:Int))=b+(g:Int):=by rw[Qb oo,As oo oo]
 have f2:w64 (b+(g:Int)+1)=b+(g:Int)+1:=by rw[As oo oo]
 rw[f1,f2]
 by_cases hr:0<r
 ·rw[if_pos (show (0:Int)<(r:Int) by omega),if_pos hr]
 ·rw[if_neg (show ¬ (0:Int)<(r:Int) by omega),if_neg hr,Int.add_zero]
end
end Go.Proofs.YthlkpgdfifnagaaGreat
