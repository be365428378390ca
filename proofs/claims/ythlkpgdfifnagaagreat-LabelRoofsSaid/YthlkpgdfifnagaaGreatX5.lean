import Derived.Test.YthlkpgdfifnagaaGreatR2
set_option maxRecDepth 100000
set_option maxHeartbeats 1000000
namespace Go.Proofs.YthlkpgdfifnagaaGreat
open Go Go.RowKit Tryz
instance:Ud prog 231 [.bool false,.slice none 0 0,.slice none 0 0,.bool false,.slice none 0 0,.slice none 0 0]:=⟨⟨_,zeroValue231,rfl⟩⟩
instance(x0:Bool)(x1:Option Addr)(x2:Nat)(x3:Nat)(x4:Option Addr)(x5:Nat)(x6:Nat)(x7:Bool)(x8:Option Addr)(x9:Nat)(x10:Nat)(x11:Option Addr)(x12:Nat)(x13:Nat):Je prog 231 [(0,.agg #[.bool x0,.slice x1 x2 x3,.slice x4 x5 x6]),(1,.agg #[.bool x7,.slice x8 x9 x10,.slice x11 x12 x13])] [.bool x0,.slice x1 x2 x3,.slice x4 x5 x6,.bool x7,.slice x8 x9 x10,.slice x11 x12 x13]:=⟨fun w=>kr⟩
instance:AggI prog 231 6:=⟨.mk underlying231 rfl (show prog.info? 231=some t231 from by kernel_rfl) kr⟩
instance:Bz prog 231 0 0:=⟨.mk underlying231 rfl rfl (show prog.info? 173=some t173 from by kernel_rfl) (show t173.size=3 from by kernel_rfl) rfl⟩
instance:Bz prog 231 1 3:=⟨.mk underlying231 rfl rfl (show prog.info? 173=some t173 from by kernel_rfl) (show t173.size=3 from by kernel_rfl) rfl⟩
instance:Ud prog 261 [.bool false,.slice none 0 0,.slice none 0 0,.bool false,.slice none 0 0,.slice none 0 0,.bool false,.slice none 0 0,.slice none 0 0]:=⟨⟨_,zeroValue261,rfl⟩⟩
instance(x0:Bool)(x1:Option Addr)(x2:Nat)(x3:Nat)(x4:Option Addr)(x5:Nat)(x6:Nat)(x7:Bool)(x8:Option Addr)(x9:Nat)(x10:Nat)(x11:Option Addr)(x12:Nat)(x13:Nat)(x14:Bool)(x15:Option Addr)(x16:Nat)(x17:Nat)(x18:Option Addr)(x19:Nat)(x20:Nat):Je prog 261 [(0,.agg #[.bool x0,.slice x1 x2 x3,.slice x4 x5 x6]),(1,.agg #[.bool x7,.slice x8 x9 x10,.slice x11 x12 x13]),(2,.agg #[.bool x14,.slice x15 x16 x17,.slice x18 x19 x20])] [.bool x0,.slice x1 x2 x3,.slice x4 x5 x6,.bool x7,.slice x8 x9 x10,.slice x11 x12 x13,.bool x14,.slice x15 x16 x17,.slice x18 x19 x20]:=⟨fun w=>kr⟩
instance:AggI prog 261 9:=⟨.arr underlying261 (show prog.info? 261=some t261 from by kernel_rfl) kr⟩
instance:ArrI prog 261 3 3:=⟨.mk underlying261 (show prog.info? 173=some t173 from by kernel_rfl) kr⟩
theorem Adh(x0:Bool)(x1:Option Addr)(x2:Nat)(x3:Nat)(x4:Option Addr)(x5:Nat)(x6:Nat)(x7:Bool)(x8:Option Addr)(x9:Nat)(x10:Nat)(x11:Option Addr)(x12:Nat)(x13:Nat):Gd prog 177 2 [(0,.agg #[.bool x0,.slice x1 x2 x3,.slice x4 x5 x6]),(1,.agg #[.bool x7,.slice x8 x9 x10,.slice x11 x12 x13])] 173 [.bool x0,.slice x1 x2 x3,.slice x4 x5 x6,.bool x7,.slice x8 x9 x10,.slice x11 x12 x13]:=fun w=>kr
noncomputable def Kk(p0:Aq):Option Int :=
 bnd (Kn p0.V p0.Lines) fun r2=>
 jn (fun (s4:Bool)=>
 if s4=true then (some 64)
 else (some 0))
 (fun j4=>if r2.2=0 then (bnd (Jm p0 r2.1) fun r0=>
 j4 (!(r0)))
 else (j4 true))
noncomputable def Dm(p1:Ah)(p0:Aq)(p2:Ac):Int->Option (Sum Int (Sum Unit Bool)):=fun s0=>
 if s0<3 then (bnd (idx [p1.a0,p1.a1,p1.a2] s0) fun x0=>
 bnd (idx p0.V x0) fun x1=>
 bnd (idx [p1.a0,p1.a1,p1.a2] (Int.tmod (w64 (s0+1)) 3)) fun x2=>
 bnd (idx p0.V x2) fun x3=>
 bnd (Au x1) fun r0=>
 bnd (Au x3) fun r1=>
 bnd (Eb r0 r1 p2) fun r2=>
 if r2<0 then (some (.inr (.inr false)))
 else (some (.inl (w64 (s0+1)))))
 else (some (.inr (.inl ())))
noncomputable def Te(p0:Aq)(p1:Ah)(p2:Ac):Option Bool :=
 jn (fun (s2:Unit)=>
 some true)
 (fun j2=>bnd (lfix (Dm p1 p0 p2) 0) fun t0=>
 (match t0 with
 | (.inl z0)=>j2 z0
 | (.inr z0)=>some z0
 ))
noncomputable def Lh(p0:Aq)(p1:Ac):Int->Option (Sum Int (Sum Unit (Int × Int))):=fun s0=>
 if s0<(p0.T.length:Int) then (bnd (idx p0.T s0) fun x0=>
 bnd (Te p0 x0 p1) fun r0=>
 if r0=true then (some (.inr (.inr (s0,0))))
 else (some (.inl (w64 (s0+1)))))
 else (some (.inr (.inl ())))
noncomputable def Qe(p0:Aq)(p1:Ac):Option (Int × Int):=
 bnd (Kk p0) fun r3=>
 if r3=0 then (bnd (Fc p1) fun r9=>
 if r9=true then (jn (fun (s8:Unit)=>
 some (0,65))
 (fun j8=>bnd (lfix (Lh p0 p1) 0) fun t0=>
 (match t0 with
 | (.inl z0)=>j8 z0
 | (.inr z0)=>some z0
 )))
 else (some (0,11)))
 else (some (0,64))
noncomputable def Et(p0:Ad)(p1:Bool):Option Int :=
 if p1=true then (some p0.Z.Hi)
 else (some p0.Z.Lo)
noncomputable def Ij(p0:Ac):Option Cg :=
 bnd (Ck p0.X) fun r3=>
 bnd (Ck p0.Y) fun r0=>
 some (⟨r3,r0⟩:Cg)
noncomputable def Hv(p0:Cg)(p1:Cg)(p2:Cg):Option Al :=
 bnd (Cw p1.X p0.X) fun r5=>
 bnd (Cw p2.Y p0.Y) fun r0=>
 bnd (Dl r5 r0) fun r1=>
 bnd (Cw p1.Y p0.Y) fun r2=>
 bnd (Cw p2.X p0.X) fun r3=>
 bnd (Dl r2 r3) fun r4=>
 bnd (Cw r1 r4) fun r6=>
 some r6
structure St where
 a0:Al
 a1:Al
 a2:Al
noncomputable def Li(p0:Aq)(p1:Ah)(p2:Cg):Option St :=
 bnd (idx p0.V p1.a0) fun x5=>
 bnd (idx p0.V p1.a1) fun x0=>
 bnd (idx p0.V p1.a2) fun x1=>
 bnd (Au x5) fun r0=>
 bnd (Ij r0) fun r1=>
 bnd (Au x0) fun r2=>
 bnd (Ij r2) fun r3=>
 bnd (Au x1) fun r4=>
 bnd (Ij r4) fun r5=>
 bnd (Hv p2 r3 r5) fun r6=>
 bnd (Hv r1 p2 r5) fun r7=>
 bnd (Hv r1 r3 p2) fun r8=>
 some (⟨r6,r7,r8⟩:St)
noncomputable def Hw(p0:Aq)(p1:Ah)(p2:Cg)(p3:Bool):Option Al :=
 bnd (Li p0 p1 p2) fun r5=>
 bnd (Ck 0) fun r0=>
 bnd (Ck 0) fun r1=>
 bnd (idx p0.V p1.a0) fun x0=>
 bnd (Et x0 p3) fun r2=>
 bnd (Ck r2) fun r3=>
 bnd (Dl r5.a0 r3) fun r4=>
 bnd (Cl r0 r4) fun r6=>
 bnd (Cl r1 r5.a0) fun r7=>
 bnd (idx p0.V p1.a1) fun x1=>
 bnd (Et x1 p3) fun r8=>
 bnd (Ck r8) fun r9=>
 bnd (Dl r5.a1 r9) fun r10=>
 bnd (Cl r6 r10) fun r11=>
 bnd (Cl r7 r5.a1) fun r12=>
 bnd (idx p0.V p1.a2) fun x2=>
 bnd (Et x2 p3) fun r13=>
 bnd (Ck r13) fun r14=>
 bnd (Dl r5.a2 r14) fun r15=>
 bnd (Cl r11 r15) fun r16=>
 bnd (Cl r12 r5.a2) fun r17=>
 bnd (Oc r16 r17) fun r18=>
 some r18
noncomputable def Nb(p0:Aq)(p1:Ac):Option (Al × Al × Int):=
 bnd (Qe p0 p1) fun r5=>
 if r5.2=0 then (bnd (idx p0.T r5.1) fun x0=>
 bnd (idx p0.T r5.1) fun x1=>
 bnd (Ij p1) fun r0=>
 bnd (Hw p0 x0 r0 false) fun r1=>
 bnd (Ij p1) fun r2=>
 bnd (Hw p0 x1 r2 true) fun r3=>
 some (r1,r3,0))
 else (some ((⟨(⟨false,([]:List Int)⟩:Aj),([]:List Int)⟩:Al),(⟨(⟨false,([]:List Int)⟩:Aj),([]:List Int)⟩:Al),r5.2))
noncomputable def Ja(p0:Aq)(p1:Ac):Option (Aw × Int):=
 bnd (Nb p0 p1) fun r4=>
 if r4.2.2=0 then (bnd (Mu ([r4.1,r4.2.1])) fun r0=>
 some (r0.1,r0.2))
 else (some ((⟨0,0⟩:Aw),r4.2.2))
instance(p0:Aq):Con (Kk p0) prog 37 (fun K vs=>∃ E0 G0 E1 G1 E2 G2,vs=[.agg #[.slice E0 p0.V.length G0,.slice E1 p0.T.length G1,.slice E2 p0.Lines.length G2]]/\Has K E0 p0.V.length G0 4 Ak p0.V/\Has K E1 p0.T.length G1 3 Ax p0.T/\Has K E2 p0.Lines.length G2 2 Ar p0.Lines/\True) (fun _ r=>fun v Ln=>v = iq r/\Ln=[]/\True):=⟨by
 rintro K _ r ⟨E0,G0,E1,G1,E2,G2,rfl,ha0,ha1,ha2,-⟩ hx w hK;replace ha0:=Has.lo ha0 hK;replace ha1:=Has.lo ha1 hK;replace ha2:=Has.lo ha2 hK;unfold Kk at hx;refine CtS ntmps37 results37 ?_;exact au⟩
instance(p0:Aq)(p1:Ah)(p2:Ac):Con (Te p0 p1 p2) prog 140 (fun K vs=>∃ E0 G0 E1 G1 E2 G2,vs=[.agg #[.slice E0 p0.V.length G0,.slice E1 p0.T.length G1,.slice E2 p0.Lines.length G2],.agg #[iq p1.a0,iq p1.a1,iq p1.a2],.agg #[iq p2.X,iq p2.Y]]/\Has K E0 p0.V.length G0 4 Ak p0.V/\Has K E1 p0.T.length G1 3 Ax p0.T/\Has K E2 p0.Lines.length G2 2 Ar p0.Lines/\True) (fun _ r=>fun v Ln=>v = .bool r/\Ln=[]/\True):=⟨by
 rintro K _ r ⟨E0,G0,E1,G1,E2,G2,rfl,ha0,ha1,ha2,-⟩ hx w hK;replace ha0:=Has.lo ha0 hK;replace ha1:=Has.lo ha1 hK;replace ha2:=Has.lo ha2 hK;unfold Te at hx;have:=dl 4 [0,1,0,0,1,0,1,2,0,1,0,0,0,0,1,0,1,2,1,2,0] [0,1,2,3,4,5,6,8,9,10,11,12,13,14,15,16,18,7,17,19,20];refine CtS ntmps140 results140 ?_;try (refine pre ?_;intros;rename_i hx)
 refine Bh ?_;try (refine pre ?_;intros;rename_i hx)
 apply Jr (γ:=Unit) hx [] (fun s2 y2 f=>f) [999] (fun s2 y2 l=>l);exact kk
 ·intro s2 y2 hx;exact au
 ·intro _ hx;try (refine pre ?_;intros;rename_i hx)
  apply Lr (γ:=Unit) hx [3,4,5] (fun s0 y0 f=>(8,iq s0)::f) [0,1,2,999] (fun s0 y0 l=>l) ();exact kk;exact sk;intro s0 y0 x0 hx _;unfold Dm at hx;exact au⟩
instance(p0:Aq)(p1:Ac):Con (Qe p0 p1) prog 84 (fun K vs=>∃ E0 G0 E1 G1 E2 G2,vs=[.agg #[.slice E0 p0.V.length G0,.slice E1 p0.T.length G1,.slice E2 p0.Lines.length G2],.agg #[iq p1.X,iq p1.Y]]/\Has K E0 p0.V.length G0 4 Ak p0.V/\Has K E1 p0.T.length G1 3 Ax p0.T/\Has K E2 p0.Lines.length G2 2 Ar p0.Lines/\True) (fun _ r=>fun v Ln=>v = .tuple #[iq r.1,iq r.2]/\Ln=[]/\True):=⟨by
 rintro K _ r ⟨E0,G0,E1,G1,E2,G2,rfl,ha0,ha1,ha2,-⟩ hx w hK;replace ha0:=Has.lo ha0 hK;replace ha1:=Has.lo ha1 hK;replace ha2:=Has.lo ha2 hK;unfold Qe at hx;have:=dl 8 [1,0,1,0,0,1,1,2] [0,1,2,3,4,5,6,7];refine CtS ntmps84 results84 ?_;try (refine pre ?_;intros;rename_i hx)
 refine Cq2 (s:=9) hx rfl (fun _ hx=>?_) (fun _ hx=>?_)
 ·exact au
 ·try (refine pre ?_;intros;rename_i hx)
  refine Cq4 (s:=12) hx rfl (fun _ hx=>?_) (fun _ hx=>?_)
  ·exact au
  ·try (refine pre ?_;intros;rename_i hx)
   apply Jr (γ:=Unit) hx [] (fun s8 y8 f=>f) [999] (fun s8 y8 l=>l);exact kk
   ·intro s8 y8 hx;exact au
   ·intro _ hx;try (refine pre ?_;intros;rename_i hx)
    apply Lr (γ:=Unit) hx [2,3,15] (fun s36 y36 f=>(16,iq s36)::f) [0,1,999] (fun s36 y36 l=>l) ();exact kk;exact sk;intro s36 y36 x36 hx _;unfold Lh at hx;exact au⟩
instance(p0:Ad)(p1:Bool):Con (Et p0 p1) prog 256 (fun _ vs=>vs=[.agg #[iq p0.X,iq p0.Y,iq p0.Z.Lo,iq p0.Z.Hi],.bool p1]) (fun _ r=>fun v Ln=>v = iq r/\Ln=[]/\True):=⟨by
 rintro _ _ r rfl hx w hK;unfold Et at hx;refine CtS ntmps256 results256 ?_;exact au⟩
instance(p0:Ac):Con (Ij p0) prog 205 (fun _ vs=>vs=[.agg #[iq p0.X,iq p0.Y]]) (fun _ r=>fun v Ln=>∃ A0 c0 A2 c2 A4 c4 A6 c6,v = .agg #[.bool r.X.N.Neg,.slice A0 r.X.N.L.length c0,.slice A2 r.X.D.length c2,.bool r.Y.N.Neg,.slice A4 r.Y.N.L.length c4,.slice A6 r.Y.D.length c6]/\Ln=[.r A0 r.X.N.L.length c0 3 1 (r.X.N.L.flatMap Af),.r A2 r.X.D.length c2 3 1 (r.X.D.flatMap Af),.r A4 r.Y.N.L.length c4 3 1 (r.Y.N.L.flatMap Af),.r A6 r.Y.D.length c6 3 1 (r.Y.D.flatMap Af)]/\True):=⟨by
 rintro _ _ r rfl hx w hK;unfold Ij at hx;have:=dl 1 [0,1,2,0,1,2,0,3] [0,1,3,4,2,5,6,7];refine CtS ntmps205 results205 ?_;exact au⟩
instance(p0:Cg)(p1:Cg)(p2:Cg):Con (Hv p0 p1 p2) prog 301 (fun K vs=>∃ E0 G0 E1 G1 E2 G2 E3 G3 E4 G4 E5 G5 E6 G6 E7 G7 E8 G8 E9 G9 A0_10 c0_10 A0_11 c0_11,vs=[.agg #[.bool p0.X.N.Neg,.slice E0 p0.X.N.L.length G0,.slice E1 p0.X.D.length G1,.bool p0.Y.N.Neg,.slice E2 p0.Y.N.L.length G2,.slice E3 p0.Y.D.length G3],.agg #[.bool p1.X.N.Neg,.slice E4 p1.X.N.L.length G4,.slice E5 p1.X.D.length G5,.bool p1.Y.N.Neg,.slice E6 p1.Y.N.L.length G6,.slice E7 p1.Y.D.length G7],.agg #[.bool p2.X.N.Neg,.slice E8 p2.X.N.L.length G8,.slice E9 p2.X.D.length G9,.bool p2.Y.N.Neg,.slice A0_10 p2.Y.N.L.length c0_10,.slice A0_11 p2.Y.D.length c0_11]]/\Has K E0 p0.X.N.L.length G0 1 Af p0.X.N.L/\Has K E1 p0.X.D.length G1 1 Af p0.X.D/\Has K E2 p0.Y.N.L.length G2 1 Af p0.Y.N.L/\Has K E3 p0.Y.D.length G3 1 Af p0.Y.D/\Has K E4 p1.X.N.L.length G4 1 Af p1.X.N.L/\Has K E5 p1.X.D.length G5 1 Af p1.X.D/\Has K E6 p1.Y.N.L.length G6 1 Af p1.Y.N.L/\Has K E7 p1.Y.D.length G7 1 Af p1.Y.D/\Has K E8 p2.X.N.L.length G8 1 Af p2.X.N.L/\Has K E9 p2.X.D.length G9 1 Af p2.X.D/\Has K A0_10 p2.Y.N.L.length c0_10 1 Af p2.Y.N.L/\Has K A0_11 p2.Y.D.length c0_11 1 Af p2.Y.D/\True) (fun _ r=>fun v Ln=>∃ A0 c0 A2 c2,v = .agg #[.bool r.N.Neg,.slice A0 r.N.L.length c0,.slice A2 r.D.length c2]/\Ln=[.r A0 r.N.L.length c0 3 1 (r.N.L.flatMap Af),.r A2 r.D.length c2 3 1 (r.D.flatMap Af)]/\True):=⟨by
 rintro K _ r ⟨E0,G0,E1,G1,E2,G2,E3,G3,E4,G4,E5,G5,E6,G6,E7,G7,E8,G8,E9,G9,A0_10,c0_10,A0_11,c0_11,rfl,ha0,ha1,ha2,ha3,ha4,ha5,ha6,ha7,ha8,ha9,ha10,ha11,-⟩ hx w hK;replace ha0:=Has.lo ha0 hK;replace ha1:=Has.lo ha1 hK;replace ha2:=Has.lo ha2 hK;replace ha3:=Has.lo ha3 hK;replace ha4:=Has.lo ha4 hK;replace ha5:=Has.lo ha5 hK;replace ha6:=Has.lo ha6 hK;replace ha7:=Has.lo ha7 hK;replace ha8:=Has.lo ha8 hK;replace ha9:=Has.lo ha9 hK;replace ha10:=Has.lo ha10 hK;replace ha11:=Has.lo ha11 hK;unfold Hv at hx;have:=dl 1 [0,1,0,1,2,0,1,0,1,2,2,0,1,0,1,2,0,1,0,1,2,2,2,3] [0,1,2,3,5,6,7,8,11,12,13,14,16,17,18,19,4,9,10,15,20,21,22,23];refine CtS ntmps301 results301 ?_;exact au⟩
instance(p0:Aq)(p1:Ah)(p2:Cg):Con (Li p0 p1 p2) prog 252 (fun K vs=>∃ E0 G0 E1 G1 E2 G2 E3 G3 E4 G4 E5 G5 E6 G6,vs=[.agg #[.slice E0 p0.V.length G0,.slice E1 p0.T.length G1,.slice E2 p0.Lines.length G2],.agg #[iq p1.a0,iq p1.a1,iq p1.a2],.agg #[.bool p2.X.N.Neg,.slice E3 p2.X.N.L.length G3,.slice E4 p2.X.D.length G4,.bool p2.Y.N.Neg,.slice E5 p2.Y.N.L.length G5,.slice E6 p2.Y.D.length G6]]/\Has K E0 p0.V.length G0 4 Ak p0.V/\Has K E1 p0.T.length G1 3 Ax p0.T/\Has K E2 p0.Lines.length G2 2 Ar p0.Lines/\Has K E3 p2.X.N.L.length G3 1 Af p2.X.N.L/\Has K E4 p2.X.D.length G4 1 Af p2.X.D/\Has K E5 p2.Y.N.L.length G5 1 Af p2.Y.N.L/\Has K E6 p2.Y.D.length G6 1 Af p2.Y.D/\True) (fun _ r=>fun v Ln=>∃ A0 c0 A2 c2 A4 c4 A6 c6 A8 c8 A10 c10,v = .agg #[.bool r.a0.N.Neg,.slice A0 r.a0.N.L.length c0,.slice A2 r.a0.D.length c2,.bool r.a1.N.Neg,.slice A4 r.a1.N.L.length c4,.slice A6 r.a1.D.length c6,.bool r.a2.N.Neg,.slice A8 r.a2.N.L.length c8,.slice A10 r.a2.D.length c10]/\Ln=[.r A0 r.a0.N.L.length c0 3 1 (r.a0.N.L.flatMap Af),.r A2 r.a0.D.length c2 3 1 (r.a0.D.flatMap Af),.r A4 r.a1.N.L.length c4 3 1 (r.a1.N.L.flatMap Af),.r A6 r.a1.D.length c6 3 1 (r.a1.D.flatMap Af),.r A8 r.a2.N.L.length c8 3 1 (r.a2.N.L.flatMap Af),.r A10 r.a2.D.length c10 3 1 (r.a2.D.flatMap Af)]/\True):=⟨by
 rintro K _ r ⟨E0,G0,E1,G1,E2,G2,E3,G3,E4,G4,E5,G5,E6,G6,rfl,ha0,ha1,ha2,ha3,ha4,ha5,ha6,-⟩ hx w hK;replace ha0:=Has.lo ha0 hK;replace ha1:=Has.lo ha1 hK;replace ha2:=Has.lo ha2 hK;replace ha3:=Has.lo ha3 hK;replace ha4:=Has.lo ha4 hK;replace ha5:=Has.lo ha5 hK;replace ha6:=Has.lo ha6 hK;unfold Li at hx;have:=dl 1 [0,1,0,1,0,1,2,2,0,1,0,1,0,1,2,2,0,1,0,1,0,1,2,2,4,4,4,3,3,3] [0,1,2,3,4,5,8,9,10,11,12,13,16,17,18,19,20,21,6,7,14,15,22,23,24,25,26,27,28,29] [24,25,26];have:=dl 2 [1,1,1,2,1,1,1,2,1,1,1,2,0,3] [0,1,2,4,5,6,8,9,10,3,7,11,12,13];refine CtS ntmps252 results252 ?_;exact au⟩
instance(p0:Aq)(p1:Ah)(p2:Cg)(p3:Bool):Con (Hw p0 p1 p2 p3) prog 204 (fun K vs=>∃ E0 G0 E1 G1 E2 G2 E3 G3 E4 G4 E5 G5 E6 G6,vs=[.agg #[.slice E0 p0.V.length G0,.slice E1 p0.T.length G1,.slice E2 p0.Lines.length G2],.agg #[iq p1.a0,iq p1.a1,iq p1.a2],.agg #[.bool p2.X.N.Neg,.slice E3 p2.X.N.L.length G3,.slice E4 p2.X.D.length G4,.bool p2.Y.N.Neg,.slice E5 p2.Y.N.L.length G5,.slice E6 p2.Y.D.length G6],.bool p3]/\Has K E0 p0.V.length G0 4 Ak p0.V/\Has K E1 p0.T.length G1 3 Ax p0.T/\Has K E2 p0.Lines.length G2 2 Ar p0.Lines/\Has K E3 p2.X.N.L.length G3 1 Af p2.X.N.L/\Has K E4 p2.X.D.length G4 1 Af p2.X.D/\Has K E5 p2.Y.N.L.length G5 1 Af p2.Y.N.L/\Has K E6 p2.Y.D.length G6 1 Af p2.Y.D/\True) (fun _ r=>fun v Ln=>∃ A0 c0 A2 c2,v = .agg #[.bool r.N.Neg,.slice A0 r.N.L.length c0,.slice A2 r.D.length c2]/\Ln=[.r A0 r.N.L.length c0 3 1 (r.N.L.flatMap Af),.r A2 r.D.length c2 3 1 (r.D.flatMap Af)]/\True):=⟨by
 rintro K _ r ⟨E0,G0,E1,G1,E2,G2,E3,G3,E4,G4,E5,G5,E6,G6,rfl,ha0,ha1,ha2,ha3,ha4,ha5,ha6,-⟩ hx w hK;replace ha0:=Has.lo ha0 hK;replace ha1:=Has.lo ha1 hK;replace ha2:=Has.lo ha2 hK;replace ha3:=Has.lo ha3 hK;replace ha4:=Has.lo ha4 hK;replace ha5:=Has.lo ha5 hK;replace ha6:=Has.lo ha6 hK;unfold Hw at hx;have:=dl 6 [1,0,0,1,0,1,0,0,1,0,1,0,2,2,2,2,3] [0,1,2,3,4,5,6,7,8,9,10,11,12,13,14,15,16];have:=dl 7 [1,0,0,1,2,3] [0,1,2,3,4,5];refine CtS ntmps204 results204 ?_;exact au⟩
instance Adi(p0:Aq)(p1:Ac):Con (Nb p0 p1) prog 141 (fun K vs=>∃ E0 G0 E1 G1 E2 G2,vs=[.agg #[.slice E0 p0.V.length G0,.slice E1 p0.T.length G1,.slice E2 p0.Lines.length G2],.agg #[iq p1.X,iq p1.Y]]/\Has K E0 p0.V.length G0 4 Ak p0.V/\Has K E1 p0.T.length G1 3 Ax p0.T/\Has K E2 p0.Lines.length G2 2 Ar p0.Lines/\True) (fun _ r=>fun v Ln=>∃ A0 c0 A2 c2 A4 c4 A6 c6,v = .tuple #[.agg #[.bool r.1.N.Neg,.slice A0 r.1.N.L.length c0,.slice A2 r.1.D.length c2],.agg #[.bool r.2.1.N.Neg,.slice A4 r.2.1.N.L.length c4,.slice A6 r.2.1.D.length c6],iq r.2.2]/\Ln=[.r A0 r.1.N.L.length c0 3 1 (r.1.N.L.flatMap Af),.r A2 r.1.D.length c2 3 1 (r.1.D.flatMap Af),.r A4 r.2.1.N.L.length c4 3 1 (r.2.1.N.L.flatMap Af),.r A6 r.2.1.D.length c6 3 1 (r.2.1.D.flatMap Af)]/\True):=⟨by
 rintro K _ r ⟨E0,G0,E1,G1,E2,G2,rfl,ha0,ha1,ha2,-⟩ hx w hK;replace ha0:=Has.lo ha0 hK;replace ha1:=Has.lo ha1 hK;replace ha2:=Has.lo ha2 hK;unfold Nb at hx;have:=dl 4 [1,0,1,0,0,1,1,2,2,1,0,1,0,0,1,1,2,2,3,3,2] [0,1,2,3,4,5,6,9,10,11,12,13,14,15,7,8,16,17,18,19,20];refine CtS ntmps141 results141 ?_;try (refine pre ?_;intros;rename_i hx)
 refine Cq2 (s:=15) hx rfl (fun _ hx=>?_) (fun _ hx=>?_)
 ·try (refine pre ?_;intros;rename_i hx)
  (with_reducible apply Be7 5 [1,1,0,3,3,2] [[],[],[],[0],[0,1,3],[0,1,2,3,4]] [1] (.q 0 (.q 1 (.q 2 (.e 3 (.e 4 (.e 5 (.done) (.stop)) (.stop)) (.stop))))));exact rfl;exact aT;exact mixed;kernel_rfl;kernel_rfl;refine P_q rfl rfl (by exact evB) rfl ?_;refine P_r rfl rfl (by exact evB) rfl ?_;refine P_p rfl rfl (by exact evB) rfl ?_;refine P_hR rfl rfl (Ai9 rfl rfl rfl rfl sA sP rfl rfl ?_) ?_;rotate_left;exact Bg;refine Bcx (fun w hw=>SubE.ok sU w hw) ?_;refine P_hL rfl rfl rfl (Ai9 rfl rfl rfl rfl sA sP rfl rfl ?_) ?_;rotate_left;exact Bg;refine P_x rfl (Dx (Ee rfl) rfl ?_) ?_;rotate_left;exact Bg;refine Awl ?_
  exact au
 ·exact au⟩
theorem Acg(p0:Aq)(p1:Ac){K:List Ent}{E0:Option Addr}{G0:Nat}{E1:Option Addr}{G1:Nat}{E2:Option Addr}{G2:Nat}(ha0:Has K E0 p0.V.length G0 4 Ak p0.V)(ha1:Has K E1 p0.T.length G1 3 Ax p0.T)(ha2:Has K E2 p0.Lines.length G2 2 Ar p0.Lines){r:Al × Al × Int}(hx:Nb p0 p1=some r)(w:World)(hK:∀ e∈K,Ent.ok w e):CtL prog 141 [.agg #[.slice E0 p0.V.length G0,.slice E1 p0.T.length G1,.slice E2 p0.Lines.length G2],.agg #[iq p1.X,iq p1.Y]] w fun v Ln=>∃ (A0:Option Addr) (c0:Nat) (A2:Option Addr) (c2:Nat) (A4:Option Addr) (c4:Nat) (A6:Option Addr) (c6:Nat),v = .tuple #[.agg #[.bool r.1.N.Neg,.slice A0 r.1.N.L.length c0,.slice A2 r.1.D.length c2],.agg #[.bool r.2.1.N.Neg,.slice A4 r.2.1.N.L.length c4,.slice A6 r.2.1.D.length c6],iq r.2.2]/\Ln=[.r A0 r.1.N.L.length c0 3 1 (r.1.N.L.flatMap Af),.r A2 r.1.D.length c2 3 1 (r.1.D.flatMap Af),.r A4 r.2.1.N.L.length c4 3 1 (r.2.1.N.L.flatMap Af),.r A6 r.2.1.D.length c6 3 1 (r.2.1.D.flatMap Af)]/\True:=(Adi p0 p1).h K _ _ ⟨_,_,_,_,_,_,rfl,ha0,ha1,ha2,trivial⟩ hx w hK
theorem Ach(p0:Aq)(p1:Ac){K:List Ent}{E0:Option Addr}{G0:Nat}{E1:Option Addr}{G1:Nat}{E2:Option Addr}{G2:Nat}(ha0:Has K E0 p0.V.length G0 4 Ak p0.V)(ha1:Has K E1 p0.T.length G1 3 Ax p0.T)(ha2:Has K E2 p0.Lines.length G2 2 Ar p0.Lines){r:Aw × Int}(hx:Ja p0 p1=some r)(w:World)(hK:∀ e∈K,Ent.ok w e):CtL prog 85 [.agg #[.slice E0 p0.V.length G0,.slice E1 p0.T.length G1,.slice E2 p0.Lines.length G2],.agg #[iq p1.X,iq p1.Y]] w fun v Ln=>v = .tuple #[.agg #[iq r.1.Lo,iq r.1.Hi],iq r.2]/\Ln=[]/\True:=by
 have ha0':=Has.up0 ha0;have ha1':=Has.up0 ha1;have ha2':=Has.up0 ha2;refine CtL.mk 26 func85 rfl ntmps85 kr rfl ?_;show T 26 _ [(0,.agg #[.slice E0 p0.V.length G0,.slice E1 p0.T.length G1,.slice E2 p0.Lines.length G2]),(1,.agg #[iq p1.X,iq p1.Y])] _;unfold Ja at hx;refine Y2 ?_;refine T_x (Pf rfl rfl rfl (fun g1=>?_));refine T_x (Pf rfl rfl rfl (fun g2=>?_));refine T_x (Bt Ao2 rfl (fun g3=>?_));refine Y5 ?_;refine At (Bo rfl (i:=2) rfl rfl Atc) rfl ?_;refine At (Bo rfl (i:=1) rfl rfl Uh) rfl ?_;obtain⟨r4,h5,hx6⟩:=Ao hx;refine T_x (Br rfl (fun w1 hw1=>Acg p0 p1 (Has.len' ha0') (Has.len' ha1') (Has.len' ha2') h5 w1 (Ss (K:=K) (K2:=[]) hK (by exact (sb 3)) (by exact SubE.nil) hw1)) rfl ?_);rintro _ _ hlo ⟨A7,c8,A9,c0,A0,c1,A1,c2,rfl,rfl,-⟩;refine Aqo ?_;refine Y4 ?_;refine T_x (Bt Up rfl (fun g0=>?_));refine T_x (Bt Up rfl (fun g4=>?_));refine T_h (Ay rfl rfl rfl (.there (.here)) (.put (.put (.put (.done)))) rfl (List.cons_ne_nil _ _) Cv.2 ?_);refine T_h (Ay rfl rfl rfl (.here) (.put (.put (.put (.done)))) rfl (List.cons_ne_nil _ _) Cv.2 ?_);refine Y10 ?_;refine Xx (s:=17) rfl (fun h0=>?_) (fun h0=>?_)
 ·have hx0:=Yu h0 hx6;refine Y3 ?_;refine At (En rfl Aqw) rfl ?_;refine Y ?_;refine T_h (Ay rfl rfl rfl (.there (.there (.there (.there (.there (.there (.here))))))) (.put (.put (.done))) rfl (List.cons_ne_nil _ _) Abk.2 ?_);refine Y5 ?_;obtain rfl:=Option.some.inj hx0;exact Df (rs:=[.cell 4 28,.tmp 5]) results85 (.cell rfl (i:=6) rfl rfl Abk (.tmp rfl (.nil))) (Ln:=[]) ⟨rfl,rfl,trivial⟩ Cr (by exact .drop 0 rfl (.drop 0 rfl (.drop 0 rfl (.drop 0 rfl (.drop 0 rfl (.drop 0 rfl (.drop 0 rfl (.drop 0 rfl (.drop 0 rfl (.refl))))))))))
 ·have hx1:=Io h0 hx6;refine Y5 ?_;refine At (Bo rfl (i:=1) rfl rfl Cv) rfl ?_;refine At (Bo rfl (i:=0) rfl rfl Cv) rfl ?_;refine T_x (Bs rfl (Adh _ _ _ _ _ _ _ _ _ _ _ _ _ _) rfl (fun g5=>?_));refine Gb (k:=3) rfl dD (fun _=>rfl) (fun hn0 hs0=>?_);refine Gb (k:=4) rfl dD (fun _=>rfl) (fun hn1 hs1=>?_);refine Gb (k:=5) rfl dD (fun _=>rfl) (fun hn2 hs2=>?_);refine Gb (k:=6) rfl dD (fun _=>rfl) (fun hn3 hs3=>?_);have hs4:HasN ([.m g5 173 [.bool r4.1.N.Neg,.slice A7 r4.1.N.L.length c8,.slice A9 r4.1.D.length c0,.bool r4.2.1.N.Neg,.slice A0 r4.2.1.N.L.length c1,.slice A1 r4.2.1.D.length c2],.r A7 r4.1.N.L.length c8 3 1 (r4.1.N.L.flatMap Af),.r A9 r4.1.D.length c0 3 1 (r4.1.D.flatMap Af),.r A0 r4.2.1.N.L.length c1 3 1 (r4.2.1.N.L.flatMap Af),.r A1 r4.2.1.D.length c2 3 1 (r4.2.1.D.flatMap Af)]:List Ent) (some ⟨g5,0,none⟩) 2 2 3 Aby [r4.1,r4.2.1]:=⟨[[.bool r4.1.N.Neg,.slice A7 r4.1.N.L.length c8,.slice A9 r4.1.D.length c0],[.bool r4.2.1.N.Neg,.slice A0 r4.2.1.N.L.length c1,.slice A1 r4.2.1.D.length c2]],Has.up (L:=([.m g5 173 [.bool r4.1.N.Neg,.slice A7 r4.1.N.L.length c8,.slice A9 r4.1.D.length c0,.bool r4.2.1.N.Neg,.slice A0 r4.2.1.N.L.length c1,.slice A1 r4.2.1.D.length c2],.r A7 r4.1.N.L.length c8 3 1 (r4.1.N.L.flatMap Af),.r A9 r4.1.D.length c0 3 1 (r4.1.D.flatMap Af),.r A0 r4.2.1.N.L.length c1 3 1 (r4.2.1.N.L.flatMap Af),.r A1 r4.2.1.D.length c2 3 1 (r4.2.1.D.flatMap Af)]:List Ent)) (Has.ofM (fun x hx=>by simp at hx;rcases hx with rfl | rfl <;> rfl) rfl dD rfl:Has [.m g5 173 [.bool r4.1.N.Neg,.slice A7 r4.1.N.L.length c8,.slice A9 r4.1.D.length c0,.bool r4.2.1.N.Neg,.slice A0 r4.2.1.N.L.length c1,.slice A1 r4.2.1.D.length c2]] (some ⟨g5,0,none⟩) 2 2 3 raw [[.bool r4.1.N.Neg,.slice A7 r4.1.N.L.length c8,.slice A9 r4.1.D.length c0],[.bool r4.2.1.N.Neg,.slice A0 r4.2.1.N.L.length c1,.slice A1 r4.2.1.D.length c2]]) (sb 0),rfl,fun i h h'=>match i,h,h' with | 0,_,_=>⟨A7,c8,A9,c0,rfl,Has.len' (Has.up (L:=([.m g5 173 [.bool r4.1.N.Neg,.slice A7 r4.1.N.L.length c8,.slice A9 r4.1.D.length c0,.bool r4.2.1.N.Neg,.slice A0 r4.2.1.N.L.length c1,.slice A1 r4.2.1.D.length c2],.r A7 r4.1.N.L.length c8 3 1 (r4.1.N.L.flatMap Af),.r A9 r4.1.D.length c0 3 1 (r4.1.D.flatMap Af),.r A0 r4.2.1.N.L.length c1 3 1 (r4.2.1.N.L.flatMap Af),.r A1 r4.2.1.D.length c2 3 1 (r4.2.1.D.flatMap Af)]:List Ent)) hs0 (sb 1)),Has.len' (Has.up (L:=([.m g5 173 [.bool r4.1.N.Neg,.slice A7 r4.1.N.L.length c8,.slice A9 r4.1.D.length c0,.bool r4.2.1.N.Neg,.slice A0 r4.2.1.N.L.length c1,.slice A1 r4.2.1.D.length c2],.r A7 r4.1.N.L.length c8 3 1 (r4.1.N.L.flatMap Af),.r A9 r4.1.D.length c0 3 1 (r4.1.D.flatMap Af),.r A0 r4.2.1.N.L.length c1 3 1 (r4.2.1.N.L.flatMap Af),.r A1 r4.2.1.D.length c2 3 1 (r4.2.1.D.flatMap Af)]:List Ent)) hs1 (sb 2))⟩ | 1,_,_=>⟨A0,c1,A1,c2,rfl,Has.len' (Has.up (L:=([.m g5 173 [.bool r4.1.N.Neg,.slice A7 r4.1.N.L.length c8,.slice A9 r4.1.D.length c0,.bool r4.2.1.N.Neg,.slice A0 r4.2.1.N.L.length c1,.slice A1 r4.2.1.D.length c2],.r A7 r4.1.N.L.length c8 3 1 (r4.1.N.L.flatMap Af),.r A9 r4.1.D.length c0 3 1 (r4.1.D.flatMap Af),.r A0 r4.2.1.N.L.length c1 3 1 (r4.2.1.N.L.flatMap Af),.r A1 r4.2.1.D.length c2 3 1 (r4.2.1.D.flatMap Af)]:List Ent)) hs2 (sb 3)),Has.len' (Has.up (L:=([.m g5 173 [.bool r4.1.N.Neg,.slice A7 r4.1.N.L.length c8,.slice A9 r4.1.D.length c0,.bool r4.2.1.N.Neg,.slice A0 r4.2.1.N.L.length c1,.slice A1 r4.2.1.D.length c2],.r A7 r4.1.N.L.length c8 3 1 (r4.1.N.L.flatMap Af),.r A9 r4.1.D.length c0 3 1 (r4.1.D.flatMap Af),.r A0 r4.2.1.N.L.length c1 3 1 (r4.2.1.N.L.flatMap Af),.r A1 r4.2.1.D.length c2 3 1 (r4.2.1.D.flatMap Af)]:List Ent)) hs3 (sb 4))⟩ | j+2,h,_=>absurd h s_⟩;obtain⟨r0,h1,hx2⟩:=Ao hx1;refine Tc (fun w1 hw1=>Ab1 ([r4.1,r4.2.1]) (HasN.len' hs4) h1 w1 (Wd (K:=([.m g5 173 [.bool r4.1.N.Neg,.slice A7 r4.1.N.L.length c8,.slice A9 r4.1.D.length c0,.bool r4.2.1.N.Neg,.slice A0 r4.2.1.N.L.length c1,.slice A1 r4.2.1.D.length c2],.r A7 r4.1.N.L.length c8 3 1 (r4.1.N.L.flatMap Af),.r A9 r4.1.D.length c0 3 1 (r4.1.D.flatMap Af),.r A0 r4.2.1.N.L.length c1 3 1 (r4.2.1.N.L.flatMap Af),.r A1 r4.2.1.D.length c2 3 1 (r4.2.1.D.flatMap Af)]:List Ent)) (by exact (SubE.cons2 (i:=0) rfl (SubE.cons2 (i:=3) rfl (SubE.cons2 (i:=4) rfl (SubE.cons2 (i:=5) rfl (sb 6)))))) hw1)) ?_;refine Y2 ?_;refine T_h (Ay rfl rfl rfl (.there (.there (.there (.there (.there (.there (.there (.here)))))))) (.put (.put (.done))) rfl (List.cons_ne_nil _ _) Abk.2 ?_);refine Y4 ?_;obtain rfl:=Option.some.inj hx2;exact Df (rs:=[.cell 4 28,.tmp 5]) results85 (.cell rfl (i:=7) rfl rfl Abk (.tmp rfl (.nil))) (Ln:=[]) ⟨rfl,rfl,trivial⟩ Cr (by exact .drop 0 rfl (.drop 0 rfl (.drop 0 rfl (.drop 0 rfl (.drop 0 rfl (.drop 0 rfl (.drop 0 rfl (.drop 0 rfl (.drop 0 rfl (.drop 0 rfl (.refl)))))))))))
instance(p0:Aq)(p1:Ac):Con (Ja p0 p1) prog 85 (fun K vs=>∃ E0 G0 E1 G1 E2 G2,vs=[.agg #[.slice E0 p0.V.length G0,.slice E1 p0.T.length G1,.slice E2 p0.Lines.length G2],.agg #[iq p1.X,iq p1.Y]]/\Has K E0 p0.V.length G0 4 Ak p0.V/\Has K E1 p0.T.length G1 3 Ax p0.T/\Has K E2 p0.Lines.length G2 2 Ar p0.Lines/\True) (fun _ r=>fun v Ln=>v = .tuple #[.agg #[iq r.1.Lo,iq r.1.Hi],iq r.2]/\Ln=[]/\True):=⟨by
 rintro K _ r ⟨E0,G0,E1,G1,E2,G2,rfl,ha0,ha1,ha2,-⟩ hx w hK;exact Ach p0 p1 ha0 ha1 ha2 hx w hK⟩
theorem wuM(n:Nat):wu64 (n:Int)=((n % 18446744073709551616:Nat):Int):=by rw[Vx];omega
theorem shrN(n j:Nat)(h:j<=64):shr_ .u64 (n:Int) (j:Int)=((n / 2 ^ j:Nat):Int):=by
 unfold shr_;have e:min ((j:Int)).toNat IntKind.u64.bits=j:=by
  have:IntKind.u64.bits=64:=rfl;rw[this];omega
 rw[e,Int.fdiv_eq_ediv_of_nonneg _ (by exact_mod_cast Nat.zero_le (2 ^ j))];norm_cast
theorem shlN(n j:Nat)(h:j<=64):shl_ .u64 (n:Int) (j:Int)=((n*2 ^ j % 18446744073709551616:Nat):Int):=by
 unfold shl_;have e:min ((j:Int)).toNat IntKind.u64.bits=j:=by
  have:IntKind.u64.bits=64:=rfl;rw[this];omega
 have c:(n:Int)*2 ^ j=((n*2 ^ j:Nat):Int):=by norm_cast
 rw[e,IntKind.wrap_u64,c];generalize n*2 ^ j=m;omega
theorem Aen(n:Nat):shr_ .u64 (n:Int) 32=((n / 4294967296:Nat):Int):=shrN n 32 oo
theorem andN(n:Nat):Ds .u64 (n:Int) 4294967295=((n % 4294967296:Nat):Int):=by
 unfold Ds;have e:(BitVec.ofInt IntKind.u64.bits (n:Int) &&& BitVec.ofInt IntKind.u64.bits 4294967295).toNat=n % 4294967296:=by
  show (BitVec.ofInt 64 (n:Int) &&& BitVec.ofInt 64 4294967295).toNat=_;rw[BitVec.toNat_and];have e1:(BitVec.ofInt 64 (n:Int)).toNat=n % 2 ^ 64:=by simp[BitVec.toNat_ofInt]
  have e2:(BitVec.ofInt 64 (4294967295:Int)).toNat=2 ^ 32-1:=dD;rw[e1,e2,Nat.and_two_pow_sub_one_eq_mod];omega
 rw[e,IntKind.wrap_u64];omega
theorem Aq0(a1 a0 b1 b0:Nat)(h1:a1<4294967296)(h2:a0<4294967296)(h3:b1<4294967296)(h4:b0<4294967296):
  a1*b1<=18446744065119617025/\a1*b0<=18446744065119617025/\a0*b1<=18446744065119617025/\a0*b0<=18446744065119617025:=by
 have k:∀ x y:Nat,x<4294967296->y<4294967296->x*y<=18446744065119617025:=fun x y hx hy=>
  Nat.le_trans (Nat.mul_le_mul (Nat.le_of_lt_succ hx) (Nat.le_of_lt_succ hy)) dD
 exact⟨k _ _ h1 h3,k _ _ h1 h4,k _ _ h2 h3,k _ _ h2 h4⟩
theorem Ax3{a b:Nat}(ha:a<18446744073709551616)(hb:b<18446744073709551616):
  Gy (a:Int) (b:Int)=some (((a*b / 18446744073709551616:Nat):Int),((a*b % 18446744073709551616:Nat):Int)):=by
 unfold Gy;have e2:(a:Int)*(b:Int)=((a*b:Nat):Int):=by norm_cast
 simp only[Aen,andN,e2,wuM];have hm:=Aq0 (a / 4294967296) (a % 4294967296) (b / 4294967296) (b % 4294967296) oo oo oo oo;have e:a*b=a / 4294967296*(b / 4294967296)*18446744073709551616+(a / 4294967296*(b % 4294967296)+a % 4294967296*(b / 4294967296))*4294967296+a % 4294967296*(b % 4294967296):=by
  have x1:a=a / 4294967296*4294967296+a % 4294967296:=oo;have x2:b=b / 4294967296*4294967296+b % 4294967296:=oo;generalize a / 4294967296=p at *;generalize a % 4294967296=q at *;generalize b / 4294967296=r at *;generalize b % 4294967296=s at *;subst x1;subst x2;grind
 have c1:∀ x y:Nat,(x:Int)*(y:Int)=((x*y:Nat):Int):=fun x y=>by norm_cast
 have c2:∀ x y:Nat,(x:Int)+(y:Int)=((x+y:Nat):Int):=fun x y=>by norm_cast
 simp only[c1,c2,wuM,Aen,andN];rw[e];clear e e2 c1 c2;generalize a / 4294967296*(b / 4294967296)=p at *;generalize a / 4294967296*(b % 4294967296)=q at *;generalize a % 4294967296*(b / 4294967296)=r at *;generalize a % 4294967296*(b % 4294967296)=s at *;obtain⟨m1,m2,m3,m4⟩:=hm;congr 3;omega
theorem gentle_N{g q s:Nat}(hg:g<4294967296)(hs:s<4294967296)(hq:q<18446744073709551616):
  Afg (g:Int) (q:Int) (s:Int)=some (decide (g*g*1000000<=s*s*q)):=by
 have m1:g*g<18446744073709551616:=by
  have:=Nat.mul_le_mul (show g<=4294967295 by omega) (show g<=4294967295 by omega);omega
 have m2:s*s<18446744073709551616:=by
  have:=Nat.mul_le_mul (show s<=4294967295 by omega) (show s<=4294967295 by omega);omega
 have c1:∀ x y:Nat,(x:Int)*(y:Int)=((x*y:Nat):Int):=fun x y=>by norm_cast
 unfold Afg;rw[Qb oo,Qb oo,Qb oo,c1,c1,Qb oo,Qb oo];rw[show (1000000:Int)=((1000000:Nat):Int) by omega,Ax3 m1 (show 1000000<18446744073709551616 by omega),Ae,Ax3 m2 hq,Ae];clear c1;generalize g*g*1000000=a;generalize s*s*q=b;simp only[jn_d]
 by_cases h:a / 18446744073709551616<b / 18446744073709551616
 ·rw[if_pos oo];have:a<=b:=oo;simp[this]
 ·rw[if_neg oo]
  by_cases h2:a / 18446744073709551616=b / 18446744073709551616
  ·rw[if_pos oo];have:(((a % 18446744073709551616:Nat):Int)<=((b % 18446744073709551616:Nat):Int))↔a<=b:=oo;simp only[this]
  ·rw[if_neg oo];have:¬ a<=b:=oo;simp[this]
def W2(n:Nat):Gh:=⟨((n / 18446744073709551616:Nat):Int),((n % 18446744073709551616:Nat):Int)⟩
theorem Agp{n a b:Nat}(ha:a<18446744073709551616)(hb:b<18446744073709551616)(h:n+a*b<340282366920938463463374607431768211456):
  Ey (W2 n) (a:Int) (b:Int)=some (W2 (n+a*b)):=by
 unfold Ey;rw[Qb oo,Qb oo,Ax3 ha hb,Ae];generalize a*b=m at *;have e1:(W2 n).lo=((n % 18446744073709551616:Nat):Int):=rfl;have e2:(W2 n).hi=((n / 18446744073709551616:Nat):Int):=rfl;rw[gd_t (by rw[e1];omega),gd_t (by rw[e1,e2];dsimp only;omega),e1,e2];unfold W2;congr 2 <;> omega
theorem Alw{σ:Type}{f:σ->Option (Sum σ Int)}(enc:Nat->Nat->σ){B v1 v0 U u1:Nat}(h1:v1<B)(h3:v0<B)(hU:U<v1*B+v0)(hu:u1<B)(h0:0<v1)(hf:∀ q r:Nat,q*v1<=U->r<B->f (enc q r)=if B<=q\/B*r+u1<q*v0 then (if B<=r+v1 then some (.inr ((q-1:Nat):Int)) else some (.inl (enc (q-1) (r+v1)))) else some (.inr (q:Int))):
  lfix f (enc (U / v1) (U % v1))=some (((U*B+u1) / (v1*B+v0):Nat):Int):=by
 have hV:0<v1*B+v0:=by
  have:=Nat.mul_pos h0 (show 0<B by omega);omega
 have hQ:(U*B+u1) / (v1*B+v0)<B:=by
  rw[Nat.div_lt_iff_lt_mul hV];have:(U+1)*B<=(v1*B+v0)*B:=Nat.mul_le_mul_right _ hU;rw[Nat.add_mul,Nat.one_mul] at this;rw[Nat.mul_comm B];omega
 generalize hq:(U*B+u1) / (v1*B+v0)=Q at hQ ⊢;have hle:∀ q,q<=Q↔q*(v1*B+v0)<=U*B+u1:=fun q=>by rw[<- hq,Nat.le_div_iff_mul_le hV]
 have key:∀ q r:Nat,q*v1+r=U->r<B->Q<=q->lfix f (enc q r)=some (Q:Int):=by
  intro q
  induction q with
  | zero=>
   intro r e hr hq0;rw[Ba,hf 0 r oo hr,if_neg oo];simp;omega
  | succ q ih=>
   intro r e hr hq1;have ex:(q+1)*(v1*B+v0)+r*B=U*B+(q+1)*v0:=by rw[<- e];grind
   have e':q*v1+(r+v1)=U:=by rw[<- e];grind
   rw[Ba,hf (q+1) r oo hr]
   by_cases hc:B<=q+1\/B*r+u1<(q+1)*v0
   ·have hq2:Q<=q:=by
     rcases hc with hc | hc
     ·omega
     ·have:¬ (q+1)<=Q:=by
       rw[hle];rw[Nat.mul_comm B r] at hc;omega
      omega
    rw[if_pos hc]
    by_cases hd:B<=r+v1
    ·rw[if_pos hd];have hqB:q<B:=by
      apply Classical.byContradiction;intro hn;have:B*v1<=q*v1:=Nat.mul_le_mul_right _ oo;rw[Nat.mul_comm B v1] at this;omega
     have:q<=Q:=by
      rw[hle];have ey:q*(v1*B+v0)+(r+v1)*B=U*B+q*v0:=by rw[<- e'];grind
      have x1:q*v0<=B*B:=Nat.mul_le_mul oo oo;have x2:B*B<=(r+v1)*B:=Nat.mul_le_mul_right _ hd;omega
     have:q=Q:=oo;subst this;simp
    ·rw[if_neg hd];exact ih (r+v1) e' oo hq2
   ·rw[if_neg hc];have:q+1<=Q:=by
     rw[hle];rw[Nat.mul_comm B r] at hc;omega
    have:q+1=Q:=oo;subst this;rfl
 have:=Nat.div_add_mod U v1;refine key _ _ (by rw[Nat.mul_comm];exact this) (Nat.lt_trans (Nat.mod_lt _ h0) h1) ?_;rw[<- hq];rw[Nat.le_div_iff_mul_le h0];have a:=Nat.div_mul_le_self (U*B+u1) (v1*B+v0);generalize (U*B+u1) / (v1*B+v0)=q at *;have b:q*v1*B<=U*B+u1:=by
  have:q*(v1*B+v0)=q*v1*B+q*v0:=by grind
  omega
 have c:q*v1*B<(U+1)*B:=by rw[Nat.add_mul,Nat.one_mul];omega
 have:=Nat.lt_of_mul_lt_mul_right c;omega
def LenP(y:Nat)(o:Option Int):Prop:=∃ t:Nat,1<=t/\t<=64/\2 ^ (t-1)<=y/\y<2 ^ t/\o=some (t:Int)
theorem Bar:∀ x:Fin 256,0<x.val->∃ t:Fin 9,Np[x.val]? = some (t.val:Int)/\1<=t.val/\2 ^ (t.val-1)<=x.val/\x.val<2 ^ t.val:=by decide +kernel
theorem Bas{x:Nat}(h0:0<x)(h:x<256):∃ t:Nat,t<=8/\idx Np (wu8 (x:Int))=some (t:Int)/\1<=t/\2 ^ (t-1)<=x/\x<2 ^ t:=by
 obtain⟨t,e,h1,h2,h3⟩:=Bar ⟨x,h⟩ h0;refine⟨t.val,oo,?_,h1,h2,h3⟩;have e8:wu8 (x:Int)=(x:Int):=by
  unfold wu8;rw[IntKind.wrap_u8];omega
 rw[e8];unfold idx;rw[if_pos oo];simpa using e
theorem As2{x n y:Nat}(hx:x=y / 2 ^ n)(h0:0<x)(h:x<256)(hn:n<=56):LenP y (bnd (idx Np (wu8 (x:Int))) fun x16=>some (w64 ((n:Int)+(w64 x16)))):=by
 obtain⟨t,h8,e,h1,h2,h3⟩:=Bas h0 h;rw[e,Ae];have hp:0<2 ^ n:=Nat.two_pow_pos n;refine⟨n+t,oo,oo,?_,?_,?_⟩
 ·rw[hx,Nat.le_div_iff_mul_le hp,<- Nat.pow_add] at h2;rw[show n+t-1=t-1+n by omega];exact h2
 ·rw[hx,Nat.div_lt_iff_lt_mul hp,<- Nat.pow_add] at h3;rw[Nat.add_comm];exact h3
 ·rw[Ri oo,Av oo oo];norm_cast
theorem Bcd{x n y:Nat}(hx:x=y / 2 ^ n)(h0:0<x)(h:x<65536)(hn:n<=48):
  LenP y (jn (fun (s8:Int × Int)=>bnd (idx Np (wu8 s8.1)) fun x16=>some (w64 (s8.2+(w64 x16)))) (fun j8=>if 256<=(x:Int) then (j8 (shr_ .u64 (x:Int) 8,w64 ((n:Int)+8))) else (j8 ((x:Int),(n:Int))))):=by
 rw[jn_d]
 by_cases c:256<=(x:Int)
 ·rw[if_pos c];have e:w64 ((n:Int)+8)=((n+8:Nat):Int):=by rw[Av oo oo];norm_cast
  rw[show shr_ .u64 (x:Int) 8=((x / 2 ^ 8:Nat):Int) from shrN x 8 oo,e];exact As2 (by rw[hx,Nat.div_div_eq_div_mul,<- Nat.pow_add]) oo oo oo
 ·rw[if_neg c];exact As2 hx h0 oo oo
theorem Ax4{x n y:Nat}(hx:x=y / 2 ^ n)(h0:0<x)(h:x<4294967296)(hn:n<=32):
  LenP y (jn (fun (s5:Int × Int)=>jn (fun (s8:Int × Int)=>bnd (idx Np (wu8 s8.1)) fun x16=>some (w64 (s8.2+(w64 x16)))) (fun j8=>if 256<=s5.1 then (j8 (shr_ .u64 s5.1 8,w64 (s5.2+8))) else (j8 (s5.1,s5.2))))
   (fun j5=>if 65536<=(x:Int) then (j5 (shr_ .u64 (x:Int) 16,w64 ((n:Int)+16))) else (j5 ((x:Int),(n:Int))))):=by
 rw[jn_d]
 by_cases c:65536<=(x:Int)
 ·rw[if_pos c];have e:w64 ((n:Int)+16)=((n+16:Nat):Int):=by rw[Av oo oo];norm_cast
  rw[show shr_ .u64 (x:Int) 16=((x / 2 ^ 16:Nat):Int) from shrN x 16 oo,e];exact Bcd (by rw[hx,Nat.div_div_eq_div_mul,<- Nat.pow_add]) oo oo oo
 ·rw[if_neg c];exact Bcd hx h0 oo oo
theorem Bfa{y:Nat}(h0:0<y)(h:y<18446744073709551616):LenP y (Mf (y:Int)):=by
 unfold Mf;rw[jn_d]
 by_cases c:4294967296<=(y:Int)
 ·rw[if_pos c];rw[show shr_ .u64 (y:Int) 32=((y / 2 ^ 32:Nat):Int) from shrN y 32 oo];exact Ax4 (n:=32) rfl oo oo oo
 ·rw[if_neg c];exact Ax4 (n:=0) s_ h0 oo oo
theorem Bdz{y:Nat}(h0:0<y)(h:y<18446744073709551616):∃ s:Nat,s<=63/\Fh (y:Int)=some (s:Int)/\9223372036854775808<=y*2 ^ s/\y*2 ^ s<18446744073709551616:=by
 obtain⟨t,h1,h2,h3,h4,e⟩:=Bfa h0 h;refine⟨64-t,oo,?_,?_,?_⟩
 ·unfold Fh;rw[e,Ae,Av oo oo];congr 1;omega
 ·have:=Nat.mul_le_mul_right (2 ^ (64-t)) h3;rw[<- Nat.pow_add,show t-1+(64-t)=63 by omega] at this;exact this
 ·have:=Nat.mul_lt_mul_of_pos_right h4 (Nat.two_pow_pos (64-t));rw[<- Nat.pow_add,show t+(64-t)=64 by omega] at this;exact this
theorem Aq1(x y z:Int)(h0:0<=x+y-z)(h1:x+y-z<18446744073709551616):wu64 (wu64 (wu64 x+y)-wu64 z)=x+y-z:=by
 simp only[Vx];omega
theorem Ax5(x z:Int)(h0:0<=x-z)(h1:x-z<18446744073709551616):wu64 (x-wu64 z)=x-z:=by
 simp only[Vx];omega
theorem Yc{x:Int}(h0:0<=x)(h1:x<18446744073709551616):wu64 x=x:=by rw[Vx];omega
theorem orN{a b s:Nat}(hb:b<2 ^ s)(h:a*2 ^ s+b<18446744073709551616):Wq .u64 ((a*2 ^ s:Nat):Int) (b:Int)=((a*2 ^ s+b:Nat):Int):=by
 unfold Wq;have e:(BitVec.ofInt IntKind.u64.bits ((a*2 ^ s:Nat):Int) ||| BitVec.ofInt IntKind.u64.bits (b:Int)).toNat=a*2 ^ s+b:=by
  show (BitVec.ofInt 64 ((a*2 ^ s:Nat):Int) ||| BitVec.ofInt 64 (b:Int)).toNat=_;rw[BitVec.toNat_or];have k:∀ n:Nat,n<18446744073709551616->(BitVec.ofInt 64 (n:Int)).toNat=n:=fun n hn=>by
   simp[BitVec.toNat_ofInt];omega
  rw[k _ oo,k _ oo,Nat.mul_comm,<- Nat.two_pow_add_eq_or_of_lt hb]
 rw[e];exact Qb oo
theorem Ao5{v1 v0 U u q r:Nat}(h1:v1<4294967296)(h2:2147483648<=v1)(h3:v0<4294967296)(hu:u<4294967296)(hU:U<18446744073709551616)(hq:q*v1<=U)(hr:r<4294967296){σ:Type}(A:Int->Option (Sum σ Int))(E:Option (Sum σ Int)):
  jn (fun (s:Bool)=>if s=true then (if (4294967296:Int)<=wu64 ((r:Int)+(v1:Int)) then some (.inr (wu64 ((q:Int)-1))) else A (wu64 ((q:Int)-1))) else E)
   (fun j=>if (4294967296:Int)<=(q:Int) then j true else j (decide (wu64 (wu64 (4294967296*(r:Int))+(u:Int))<wu64 ((q:Int)*(v0:Int)))))
  = if 4294967296<=q\/4294967296*r+u<q*v0 then (if 4294967296<=r+v1 then some (.inr ((q-1:Nat):Int)) else A ((q-1:Nat):Int)) else E:=by
 have hq2:q<8589934593:=by
  apply Classical.byContradiction;intro hn;have:=Nat.mul_le_mul (show 8589934593<=q by omega) h2;omega
 have e1:wu64 ((r:Int)+(v1:Int))=((r+v1:Nat):Int):=by rw[Yc oo oo];norm_cast
 have e3:wu64 (wu64 (4294967296*(r:Int))+(u:Int))=((4294967296*r+u:Nat):Int):=by
  simp only[Vx];omega
 have c1:(q:Int)*(v0:Int)=((q*v0:Nat):Int):=by norm_cast
 have d1:((4294967296:Int)<=((r+v1:Nat):Int))↔4294967296<=r+v1:=oo;rw[jn_d,e1,e3,c1]
 by_cases hc:4294967296<=q
 ·have e2:wu64 ((q:Int)-1)=((q-1:Nat):Int):=by rw[Yc oo oo];omega
  rw[if_pos (show (4294967296:Int)<=(q:Int) by omega)];refine (if_pos (show true=true from rfl)).trans ?_;rw[if_pos (show 4294967296<=q\/4294967296*r+u<q*v0 from Or.inl hc),e2]
  by_cases hd:4294967296<=r+v1
  ·rw[if_pos hd,if_pos oo]
  ·rw[if_neg hd,if_neg oo]
 ·rw[if_neg (show ¬ (4294967296:Int)<=(q:Int) by omega)];have b1:q*v0<=4294967295*4294967295:=Nat.mul_le_mul oo oo;rw[Qb (show q*v0<=18446744073709551615 by omega)]
  by_cases hk:4294967296*r+u<q*v0
  ·have hq0:0<q:=by
    rcases Nat.eq_zero_or_pos q with h | h
    ·subst h;simp at hk
    ·exact h
   have e2:wu64 ((q:Int)-1)=((q-1:Nat):Int):=by rw[Yc oo oo];omega
   rw[decide_eq_true oo];refine (if_pos (show true=true from rfl)).trans ?_;rw[if_pos (show 4294967296<=q\/4294967296*r+u<q*v0 from Or.inr hk),e2]
   by_cases hd:4294967296<=r+v1
   ·rw[if_pos hd,if_pos oo]
   ·rw[if_neg hd,if_neg oo]
  ·rw[decide_eq_false oo];refine (if_neg (show ¬ (false=true) by decide)).trans ?_;rw[if_neg (show ¬ (4294967296<=q\/4294967296*r+u<q*v0) by omega)]
theorem Bat{y lo s v1 v0 U u1:Nat}(h1:v1<4294967296)(h2:2147483648<=v1)(h3:v0<4294967296)(hU:U<v1*4294967296+v0)(hu:u1<4294967296)(es:wu64 (s:Int)=(s:Int))(ey:shl_ .u64 (y:Int) (s:Int)=((v1*4294967296+v0:Nat):Int))(el:shr_ .u64 (shl_ .u64 (lo:Int) (s:Int)) 32=(u1:Int)):
  lfix (Nw (y:Int) (s:Int) (lo:Int)) (((U / v1:Nat):Int),((U % v1:Nat):Int))=some (((U*4294967296+u1) / (v1*4294967296+v0):Nat):Int):=by
 have e1:shr_ .u64 ((v1*4294967296+v0:Nat):Int) 32=(v1:Int):=by rw[Aen];omega
 have e2:Ds .u64 ((v1*4294967296+v0:Nat):Int) 4294967295=(v0:Int):=by rw[andN];omega
 refine Alw (fun q r=>((q:Int),(r:Int))) h1 h3 hU hu oo ?_;intro q r hq hr;unfold Nw;simp only[es,ey,el,e1,e2];refine (Ao5 h1 h2 h3 hu (U:=U) oo hq hr (fun q'=>some (.inl (q',wu64 ((r:Int)+(v1:Int))))) _).trans ?_
 by_cases hd:4294967296<=r+v1
 ·simp only[if_pos hd]
 ·rw[Yc (x:=(r:Int)+(v1:Int)) oo oo];simp only[if_neg hd];norm_cast
theorem Bau{y lo s v1 v0 U u0:Nat}(h1:v1<4294967296)(h2:2147483648<=v1)(h3:v0<4294967296)(hU:U<v1*4294967296+v0)(hu:u0<4294967296)(es:wu64 (s:Int)=(s:Int))(ey:shl_ .u64 (y:Int) (s:Int)=((v1*4294967296+v0:Nat):Int))(el:Ds .u64 (shl_ .u64 (lo:Int) (s:Int)) 4294967295=(u0:Int)):
  lfix (Nx (y:Int) (s:Int) (lo:Int)) (((U % v1:Nat):Int),((U / v1:Nat):Int))=some (((U*4294967296+u0) / (v1*4294967296+v0):Nat):Int):=by
 have e1:shr_ .u64 ((v1*4294967296+v0:Nat):Int) 32=(v1:Int):=by rw[Aen];omega
 have e2:Ds .u64 ((v1*4294967296+v0:Nat):Int) 4294967295=(v0:Int):=by rw[andN];omega
 refine Alw (fun q r=>((r:Int),(q:Int))) h1 h3 hU hu oo ?_;intro q r hq hr;unfold Nx;simp only[es,ey,el,e1,e2];refine (Ao5 h1 h2 h3 hu (U:=U) oo hq hr (fun q'=>some (.inl (wu64 ((r:Int)+(v1:Int)),q'))) _).trans ?_
 by_cases hd:4294967296<=r+v1
 ·simp only[if_pos hd]
 ·rw[Yc (x:=(r:Int)+(v1:Int)) oo oo];simp only[if_neg hd];norm_cast
theorem Bav{lo s:Nat}(hs:s<=63):lo*2 ^ s=lo / 2 ^ (64-s)*18446744073709551616+lo*2 ^ s % 18446744073709551616:=by
 have e:(18446744073709551616:Nat)=2 ^ (64-s)*2 ^ s:=by rw[<- Nat.pow_add,show 64-s+s=64 by omega]
 have k:lo*2 ^ s / 18446744073709551616=lo / 2 ^ (64-s):=by rw[e,Nat.mul_div_mul_right _ _ (Nat.two_pow_pos s)]
 have:=Nat.div_add_mod (lo*2 ^ s) 18446744073709551616;rw[k] at this;omega
theorem Afp{U v1:Nat}(h1:0<v1)(hU:U<18446744073709551616):wu64 (Int.tdiv (U:Int) (v1:Int))=((U / v1:Nat):Int)/\wu64 ((U:Int)-wu64 (((U / v1:Nat):Int)*(v1:Int)))=((U % v1:Nat):Int):=by
 have a:U / v1<=U:=Nat.div_le_self _ _;have b:=Nat.div_add_mod U v1;have c:((U / v1:Nat):Int)*(v1:Int)=((v1*(U / v1):Nat):Int):=by rw[Nat.mul_comm];norm_cast
 constructor
 ·rw[<- Int.ofNat_tdiv];exact Qb oo
 ·rw[c];generalize v1*(U / v1)=m at *;rw[Ax5 _ _ oo oo];omega
theorem Ao6{U u Y:Nat}(hU:U<Y)(hu:u<4294967296)(hY:Y<18446744073709551616):
  wu64 (wu64 (wu64 ((U:Int)*4294967296)+(u:Int))-wu64 ((((U*4294967296+u) / Y:Nat):Int)*(Y:Int)))=(((U*4294967296+u) % Y:Nat):Int):=by
 have b:=Nat.div_add_mod (U*4294967296+u) Y;have d:=Nat.mod_lt (U*4294967296+u) (show 0<Y by omega);have c:(((U*4294967296+u) / Y:Nat):Int)*(Y:Int)=((Y*((U*4294967296+u) / Y):Nat):Int):=by rw[Nat.mul_comm Y];norm_cast
 rw[c];generalize Y*((U*4294967296+u) / Y)=m at *;generalize (U*4294967296+u) % Y=r at *;rw[Aq1 _ _ _ oo oo];omega
theorem Baw{U w Y r1 g1 g0 R s:Nat}(x1:Y*g1+r1=U*4294967296+w / 4294967296)(x2:Y*g0+R=r1*4294967296+w % 4294967296)(x3:R<Y)(a1:g1<4294967296)(a2:g0<4294967296):
  some (wu64 (wu64 ((g1:Int)*4294967296)+(g0:Int)),((R / 2 ^ s:Nat):Int))=some ((((U*18446744073709551616+w) / Y:Nat):Int),(((U*18446744073709551616+w) % Y / 2 ^ s:Nat):Int)):=by
 have tot:U*18446744073709551616+w=Y*(g1*4294967296+g0)+R:=by
  rw[Nat.mul_add,show Y*(g1*4294967296)=Y*g1*4294967296 by grind];omega
 rw[tot,Nat.mul_add_div oo,Nat.mul_add_mod,Nat.div_eq_of_lt x3,Nat.mod_eq_of_lt x3];have fin:wu64 (wu64 ((g1:Int)*4294967296)+(g0:Int))=((g1*4294967296+g0+0:Nat):Int):=by
  simp only[Vx];omega
 rw[fin]
theorem Bfb{hi lo y:Nat}(hy:y<18446744073709551616)(h:hi<y)(hl:lo<18446744073709551616):
  Qa (hi:Int) (lo:Int) (y:Int)=some ((((hi*18446744073709551616+lo) / y:Nat):Int),(((hi*18446744073709551616+lo) % y:Nat):Int)):=by
 unfold Qa;rw[if_neg oo,if_neg oo]
 by_cases h0:hi=0
 ·subst h0;rw[if_pos oo,gd_t oo,gd_t oo,(Afp oo hl).1,<- Int.ofNat_tmod];simp
 rw[if_neg oo];obtain⟨s,hs,e,n1,n2⟩:=Bdz (y:=y) oo hy;rw[e,Ae];have es:wu64 (s:Int)=(s:Int):=Qb oo;have hp:0<2 ^ s:=Nat.two_pow_pos s;have m1:hi*2 ^ s<y*2 ^ s:=Nat.mul_lt_mul_of_pos_right h hp;have m2:=Bav (lo:=lo) hs;have m3:lo / 2 ^ (64-s)<2 ^ s:=by
  rw[Nat.div_lt_iff_lt_mul (Nat.two_pow_pos _),<- Nat.pow_add,show s+(64-s)=64 by omega];exact hl
 have m4:(hi*18446744073709551616+lo)*2 ^ s=(hi*2 ^ s+lo / 2 ^ (64-s))*18446744073709551616+lo*2 ^ s % 18446744073709551616:=by
  rw[Nat.add_mul,m2];grind
 have m5:hi*2 ^ s+lo / 2 ^ (64-s)<y*2 ^ s:=by
  have:=Nat.mul_le_mul_right (2 ^ s) (show hi+1<=y from h);rw[Nat.add_mul,Nat.one_mul] at this;omega
 have ey:shl_ .u64 (y:Int) (s:Int)=((y*2 ^ s:Nat):Int):=by rw[shlN _ _ oo,Nat.mod_eq_of_lt n2]
 have eh:shl_ .u64 (hi:Int) (s:Int)=((hi*2 ^ s:Nat):Int):=by rw[shlN _ _ oo,Nat.mod_eq_of_lt oo]
 have el:=shlN lo s oo;have ec:wu64 (64-(s:Int))=((64-s:Nat):Int):=by rw[Yc oo oo];omega
 have ed:=shrN lo (64-s) oo;have ef:=orN (a:=hi) m3 oo;have q1:(hi*18446744073709551616+lo) / y=(hi*18446744073709551616+lo)*2 ^ s / (y*2 ^ s):=by rw[Nat.mul_div_mul_right _ _ hp]
 have q2:(hi*18446744073709551616+lo) % y=(hi*18446744073709551616+lo)*2 ^ s % (y*2 ^ s) / 2 ^ s:=by rw[Nat.mul_mod_mul_right,Nat.mul_div_cancel _ hp]
 rw[q1,q2,m4];simp only[es,ey,eh,ec,ed,ef,jn_d];have esr:∀ n:Nat,shr_ .u64 (n:Int) (s:Int)=((n / 2 ^ s:Nat):Int):=fun n=>shrN n s oo
 have d1:=@Bat y lo s;have d0:=@Bau y lo s;rw[ey,el] at d1 d0;rw[el];have ew:lo*2 ^ s % 18446744073709551616<18446744073709551616:=Nat.mod_lt _ oo;generalize lo*2 ^ s % 18446744073709551616=w at *;generalize hi*2 ^ s+lo / 2 ^ (64-s)=U at *;generalize y*2 ^ s=Y at *;clear m1 m2 m3 m4 ef eh ed el ey e q1 q2 ec;rw[gd_t oo,gd_t oo,gd_t oo,gd_t oo];have t1:Y=Y / 4294967296*4294967296+Y % 4294967296:=oo;have t2:w=w / 4294967296*4294967296+w % 4294967296:=oo;have d1':=d1 (v1:=Y / 4294967296) (v0:=Y % 4294967296) (U:=U) (u1:=w / 4294967296) oo oo oo oo oo es (by rw[<- t1]) (Aen w);rw[<- t1] at d1';rw[Aen,Aen,andN,gd_t oo,(Afp oo oo).1,(Afp oo oo).2,d1',Ae,gd_t oo,Ao6 m5 oo n2];have hM:=Nat.mod_lt (U*4294967296+w / 4294967296) (show 0<Y by omega);have d0':=d0 (v1:=Y / 4294967296) (v0:=Y % 4294967296) (U:=(U*4294967296+w / 4294967296) % Y) (u0:=w % 4294967296) oo oo oo oo oo es (by rw[<- t1]) (andN w);rw[<- t1] at d0';rw[(Afp oo oo).1,(Afp oo oo).2,d0',Ae,Ao6 hM oo n2,gd_t oo,esr];have x1:=Nat.div_add_mod (U*4294967296+w / 4294967296) Y;have x2:=Nat.div_add_mod ((U*4294967296+w / 4294967296) % Y*4294967296+w % 4294967296) Y;have x3:=Nat.mod_lt ((U*4294967296+w / 4294967296) % Y*4294967296+w % 4294967296) (show 0<Y by omega);have a1:(U*4294967296+w / 4294967296) / Y<4294967296:=by
  rw[Nat.div_lt_iff_lt_mul oo];omega
 have a2:((U*4294967296+w / 4294967296) % Y*4294967296+w % 4294967296) / Y<4294967296:=by
  rw[Nat.div_lt_iff_lt_mul oo];omega
 exact Baw x1 x2 x3 a1 a2
theorem Bax{m0 m1 m2 d0 d1 d2:Nat}{b:Int}{p:Ah}(hA:m0+m1+m2<=2305843009213693952)(h0:0<m0+m1+m2)(k0:d0<=2199023255552)(k1:d1<=2199023255552)(k2:d2<=2199023255552)(b1:-2199023255552<=b)(b2:b<=2199023255552)(hb:min (min p.a0 p.a1) p.a2=b)(e0:p.a0=b+d0)(e1:p.a1=b+d1)(e2:p.a2=b+d2):
  Kb ⟨(m0:Int),(m1:Int),(m2:Int)⟩ p=some (b+(((m0*d0+m1*d1+m2*d2) / (m0+m1+m2):Nat):Int),
   b+(((m0*d0+m1*d1+m2*d2) / (m0+m1+m2):Nat):Int)+if 0<(m0*d0+m1*d1+m2*d2) % (m0+m1+m2) then 1 else 0):=by
 have l0:m0*d0<=m0*2199023255552:=Nat.mul_le_mul_left _ k0;have l1:m1*d1<=m1*2199023255552:=Nat.mul_le_mul_left _ k1;have l2:m2*d2<=m2*2199023255552:=Nat.mul_le_mul_left _ k2;have w0:w64 (p.a0-b)=(d0:Int):=by rw[Av oo oo];omega
 have w1:w64 (p.a1-b)=(d1:Int):=by rw[Av oo oo];omega
 have w2:w64 (p.a2-b)=(d2:Int):=by rw[Av oo oo];omega
 have z:(⟨0,0⟩:Gh)=W2 0:=rfl;have s1:wu64 (w64 (w64 ((m0:Int)+(m1:Int))+(m2:Int)))=((m0+m1+m2:Nat):Int):=by
  rw[Av (x:=(m0:Int)+(m1:Int)) oo oo,Av oo oo,Yc oo oo];norm_cast
 unfold Kb;simp only[hb,w0,w1,w2,s1];have p0:=Agp (n:=0) (a:=m0) (b:=d0) oo oo oo;have p1:=Agp (n:=0+m0*d0) (a:=m1) (b:=d1) oo oo oo;have p2:=Agp (n:=0+m0*d0+m1*d1) (a:=m2) (b:=d2) oo oo oo;rw[z,p0,Ae,p1,Ae,p2,Ae];have hn:0+m0*d0+m1*d1+m2*d2=m0*d0+m1*d1+m2*d2:=oo;rw[hn];have hm:m0*d0+m1*d1+m2*d2<=(m0+m1+m2)*2199023255552:=oo;clear p0 p1 p2 hn l0 l1 l2 z s1 w0 w1 w2;generalize m0*d0+m1*d1+m2*d2=n at *;generalize m0+m1+m2=A at *;have q:=Bfb (hi:=n / 18446744073709551616) (lo:=n % 18446744073709551616) (y:=A) oo oo oo;have en:n / 18446744073709551616*18446744073709551616+n % 18446744073709551616=n:=oo;rw[en] at q;have qb:n / A<=2199023255552:=by
  rw[Nat.div_le_iff_le_mul_add_pred h0,Nat.mul_comm A];rw[Nat.mul_comm] at hm;omega
 refine (congrArg (fun o=>bnd o _) q).trans ?_;rw[Ae];dsimp only;generalize n / A=g at *;generalize n % A=r at *;have f1:w64 (b+w64 (g:Int))=b+(g:Int):=by rw[Ri oo,Av oo oo]
 have f2:w64 (b+(g:Int)+1)=b+(g:Int)+1:=by rw[Av oo oo]
 rw[f1,f2]
 by_cases hr:0<r
 ·rw[if_pos (show (0:Int)<(r:Int) by omega),if_pos hr]
 ·rw[if_neg (show ¬ (0:Int)<(r:Int) by omega),if_neg hr,Int.add_zero]
end Go.Proofs.YthlkpgdfifnagaaGreat
namespace Go.Proofs.YthlkpgdfifnagaaGreat.X
open Go Go.RowKit Tryz
def cr(a b c:Ac):Int:=(b.X-a.X)*(c.Y-a.Y)-(b.Y-a.Y)*(c.X-a.X)
theorem Aju{p:Ac}(h:okXY p=true):-268435456<=p.X/\p.X<=268435456/\-268435456<=p.Y/\p.Y<=268435456:=by
 simpa only[okXY,decide_eq_true_eq] using h
theorem As3{a b:Int}{m:Int}(ha:-m<=a/\a<=m)(hb:-m<=b/\b<=m):-(m*m)<=a*b/\a*b<=m*m:=by
 have hm:0<=m:=oo;rcases Int.le_total 0 a with h | h <;> rcases Int.le_total 0 b with k | k
 ·have h1:=Int.mul_le_mul ha.2 hb.2 k hm;have h2:=Int.mul_nonneg h k;omega
 ·have h1:=Int.mul_le_mul (a:=a) (b:=-b) (c:=m) (d:=m) ha.2 oo oo hm;have h2:=Int.mul_nonneg (a:=a) (b:=-b) h oo;rw[Int.mul_neg] at h1 h2;omega
 ·have h1:=Int.mul_le_mul (a:=-a) (b:=b) (c:=m) (d:=m) oo hb.2 k hm;have h2:=Int.mul_nonneg (a:=-a) (b:=b) oo k;rw[Int.neg_mul] at h1 h2;omega
 ·have h1:=Int.mul_le_mul (a:=-a) (b:=-b) (c:=m) (d:=m) oo oo oo hm;have h2:=Int.mul_nonneg (a:=-a) (b:=-b) oo oo;rw[Int.neg_mul_neg] at h1 h2;omega
theorem cr_w{a b c:Ac}(ha:okXY a=true)(hb:okXY b=true)(hc:okXY c=true):
  w64 ((w64 ((w64 (b.X-a.X))*(w64 (c.Y-a.Y))))-(w64 ((w64 (b.Y-a.Y))*(w64 (c.X-a.X)))))=cr a b c:=by
 have h1:=Aju ha;have h2:=Aju hb;have h3:=Aju hc;rw[Av (x:=b.X-a.X) oo oo,Av (x:=c.Y-a.Y) oo oo,Av (x:=b.Y-a.Y) oo oo,Av (x:=c.X-a.X) oo oo];have e1:=As3 (a:=b.X-a.X) (b:=c.Y-a.Y) (m:=536870912) oo oo;have e2:=As3 (a:=b.Y-a.Y) (b:=c.X-a.X) (m:=536870912) oo oo;rw[Av (x:=(b.X-a.X)*(c.Y-a.Y)) oo oo,Av (x:=(b.Y-a.Y)*(c.X-a.X)) oo oo,Av oo oo];rfl
theorem Bay(a b c:Ac):cr b a c = -cr a b c:=by unfold cr;grind
theorem turn_eq{a b c:Ac}(ha:okXY a=true)(hb:okXY b=true)(hc:okXY c=true):Tw a b c=some (Int.sign (cr a b c)):=by
 simp only[Tw,cr_w ha hb hc];rcases Int.lt_trichotomy (cr a b c) 0 with h | h | h
 ·rw[if_neg oo,if_pos h,Int.sign_eq_neg_one_of_neg h]
 ·rw[h];rfl
 ·rw[if_pos h,Int.sign_eq_one_of_pos h]
def onB(c:Ac)(s:Ac × Ac):Bool:=decide (cr s.1 s.2 c=0/\min s.1.X s.2.X<=c.X/\c.X<=max s.1.X s.2.X/\min s.1.Y s.2.Y<=c.Y/\c.Y<=max s.1.Y s.2.Y)
def croB(c:Ac)(s:Ac × Ac):Bool:=decide ((s.1.Y<=c.Y/\c.Y<s.2.Y/\0<cr s.1 s.2 c)\/(c.Y<s.1.Y/\s.2.Y<=c.Y/\cr s.1 s.2 c<0))
theorem Ax6{x:Int}:0<Int.sign x↔0<x:=by
 rcases Int.lt_trichotomy x 0 with h | h | h
 ·rw[Int.sign_eq_neg_one_of_neg h];omega
 ·rw[h];simp
 ·rw[Int.sign_eq_one_of_pos h];omega
theorem sign_zero{x:Int}:Int.sign x=0↔x=0:=Int.sign_eq_zero_iff_zero
theorem Bfc{a b c:Ac}(ha:okXY a=true)(hb:okXY b=true)(hc:okXY c=true):Acn a b c=some (onB c (a,b)):=by
 simp only[Acn,jn_d,turn_eq ha hb hc,Ae,within_eq,sign_zero,onB,decide_eq_true_eq]
 by_cases h:cr a b c=0 <;> by_cases h2:(min a.X b.X<=c.X/\c.X<=max a.X b.X) <;> simp[h,h2]
 all_goals (try omega)
theorem Bd0{a b c:Ac}(ha:okXY a=true)(hb:okXY b=true)(hc:okXY c=true):Tf a b c=some (croB c (a,b)):=by
 simp only[Tf,turn_eq ha hb hc,turn_eq hb ha hc,Ae,croB,Ax6,Bay a b c]
 by_cases h1:c.Y<a.Y <;> by_cases h2:c.Y<b.Y <;> simp[h1,h2]
 all_goals (try omega)
 ·rw[if_neg oo];simp;omega
 ·rw[if_pos oo];simp;omega
def Wv(p:Ac):List Ac->List (Ac × Ac)
 | []=>[]
 | q::r=>(p,q)::Wv q r
def oddB{α:Type}(f:α->Bool):List α->Bool
 | []=>false
 | x::r=>f x != oddB f r
theorem Aul{α:Type}(f:α->Bool){l m:List α}(h:l.Perm m):oddB f l=oddB f m:=by
 induction h with
 | nil=>rfl
 | cons x _ ih=>simp only[oddB,ih]
 | swap x y l=>simp only[oddB];cases f x <;> cases f y <;> cases oddB f l <;> rfl
 | trans _ _ h1 h2=>rw[h1,h2]
def insB(c:Ac)(S:List (Ac × Ac)):Bool:=S.any (onB c) || oddB (croB c) S
theorem Aum{c:Ac}{S S':List (Ac × Ac)}(h:S.Perm S'):insB c S=insB c S':=by
 unfold insB;rw[Aul _ h];have:S.any (onB c)=S'.any (onB c):=by
  rw[Bool.eq_iff_iff,List.any_eq_true,List.any_eq_true];simp only[h.mem_iff]
 rw[this]
def As4:List Ac->List (Ac × Ac)
 | []=>[]
 | a::r=>Wv a (r++[a])
theorem Alx(p:Ac):∀ (l m:List Ac),Wv p (l++m)=Wv p l++Wv ((p::l).getLast (List.cons_ne_nil _ _)) m
 | [],m=>rfl
 | q::r,m=>by
  have:=Alx q r m;simp only[List.cons_append,Wv,this];rw[List.getLast_cons (List.cons_ne_nil q r)]
def inF(c:Ac)(s:Bool × Ac)(q:Ac):Sum (Bool × Ac) (Sum Bool Bool):=if onB c (s.2,q)=true then .inr (.inr true) else .inl (if croB c (s.2,q)=true then !s.1 else s.1,q)
theorem Ax7(c:Ac):∀ (l:List Ac) (s:Bool × Ac),Ug (inF c) (fun s=>(.inl s.1:Sum Bool Bool)) l s=if (Wv s.2 l).any (onB c)=true then .inr true else .inl (s.1 != oddB (croB c) (Wv s.2 l))
 | [],s=>by simp[Ug,Wv,oddB]
 | q::r,s=>by
  unfold Ug inF
  by_cases h:onB c (s.2,q)=true
  ·rw[if_pos h];simp[Wv,h]
  ·rw[if_neg h];dsimp only;have ih:=Ax7 c r (if croB c (s.2,q)=true then !s.1 else s.1,q);unfold inF at ih;rw[ih];have h':onB c (s.2,q)=false:=by simpa using h
   simp only[Wv,List.any_cons,h',Bool.false_or,oddB];cases croB c (s.2,q) <;> cases s.1 <;> cases oddB (croB c) (Wv q r) <;> rfl
theorem Aun{l:List Ac}(h1:∀ p∈l,okXY p=true)(h0:0<l.length)(h2:l.length<=1000){c:Ac}(hc:okXY c=true):Uz l c=some (insB c (As4 l)):=by
 have hlast:l.length-1<l.length:=oo;have hw:w64 ((l.length:Int)-1)=((l.length-1:Nat):Int):=by rw[Av oo oo];omega
 unfold Uz;rw[hw,As hlast,Ae,jn_d];have key:=Pj l (fun (s:Bool × Ac) (j:Int)=>(s.1,s.2.X,s.2.Y,j)) (inF c) (fun s=>(.inl s.1:Sum Bool Bool)) (Mi l c) (fun _ s=>okXY s.2=true) ?_ ?_ (false,l[l.length-1]) (h1 _ (List.getElem_mem hlast))
 ·have key':lfix (Mi l c) (false,l[l.length-1].X,l[l.length-1].Y,0)=_:=key;rw[key',Ae,Ax7];have hp:(Wv l[l.length-1] l).Perm (As4 l):=by
   cases l with
   | nil=>simp at h0
   | cons a r=>
    show (Wv _ (a::r)).Perm (Wv a (r++[a]));rw[Alx];have:(a::r)[(a::r).length-1]=(a::r).getLast (List.cons_ne_nil _ _):=by rw[List.getLast_eq_getElem]
    rw[this];exact (List.perm_append_singleton _ _).symm
  have e:=Aum (c:=c) hp;unfold insB at e ⊢;rw[<- e];cases (Wv l[l.length-1] l).any (onB c) <;> simp
 ·rintro j hj ⟨b,p⟩ hp;dsimp only at hp;have hq:=h1 _ (List.getElem_mem hj);have hb:(⟨p.X,p.Y⟩:Ac)=p:=rfl;unfold inF;simp only[Mi,if_pos (show (j:Int)<(l.length:Int) by omega),jn_d,As hj,Ae,hb,Bfc hp hq hc,Bd0 hp hq hc,Az (show j<9223372036854775807 by omega)]
  by_cases g:onB c (p,l[j])=true
  ·right;exact⟨_,by rw[if_pos g],by rw[if_pos g]⟩
  ·left;refine⟨_,by rw[if_neg g],?_,hq⟩;rw[if_neg g]
   by_cases g2:croB c (p,l[j])=true <;> simp[g2]
 ·intro s _;simp only[Mi,Int.lt_irrefl,if_false]
def Aci(l:List Ac):Bool:=decide (3<=l.length/\l.length<=64) && l.all okXY
theorem Am8(l:List Ac):Qk l=some (Aci l):=by
 simp only[Qk,within_eq,Ae,decide_eq_true_eq,jn_d,Aci]
 by_cases h:(3:Int)<=(l.length:Int)/\(l.length:Int)<=64
 ·rw[if_pos h,decide_eq_true (show 3<=l.length/\l.length<=64 by omega),Bool.true_and];rw[Yj (β:=Unit) (γ:=Bool) l okXY (Lv l) () false ?_ ?_,Ae]
  ·by_cases hk:l.all okXY=true <;> simp[hk]
  ·intro j hj;simp only[Lv,if_pos (show (j:Int)<(l.length:Int) by omega),As hj,Ae,Zf,Az (show j<9223372036854775807 by omega)]
  ·simp only[Lv,Int.lt_irrefl,if_false]
 ·rw[if_neg h,decide_eq_false (show ¬ (3<=l.length/\l.length<=64) by omega),Bool.false_and]
theorem ring_eq{l:List Ac}(hl:l.length<=1000):Abi l=some (Aci l):=by
 simp only[Abi,jn_d,Aci];rw[Yj (β:=Unit) (γ:=Bool) l okXY (Pi l) () false ?_ ?_,Ae]
 ·by_cases hk:l.all okXY=true
  ·simp only[hk,if_true,Bool.and_true]
   by_cases h3:3<=l.length
   ·rw[if_pos oo];congr 1;simp only[decide_eq_decide];omega
   ·rw[if_neg oo];congr 1;symm;rw[decide_eq_false_iff_not];omega
  ·simp[hk]
 ·intro j hj;simp only[Pi,if_pos (show (j:Int)<(l.length:Int) by omega),As hj,Ae,Als,Az (show j<9223372036854775807 by omega)]
 ·simp only[Pi,Int.lt_irrefl,if_false]
def Aie(l:List Ac)(c:Ac):Bool × Int:=if Aci l=true then (if okXY c=true then (insB c (As4 l),0) else (false,11)) else (false,72)
theorem Ao7{l:List Ac}(h:Aci l=true):3<=l.length/\l.length<=64/\∀ p∈l,okXY p=true:=by
 simp only[Aci,Bool.and_eq_true,decide_eq_true_eq,List.all_eq_true] at h;exact⟨h.1.1,h.1.2,h.2⟩
theorem Aly(l:List Ac)(c:Ac):Ik l c=some (Aie l c):=by
 simp only[Ik,Am8,Ae,Zf,Aie]
 by_cases h:Aci l=true
 ·obtain⟨h1,h2,h3⟩:=Ao7 h
  by_cases hc:okXY c=true
  ·simp only[h,hc,if_true,Aun h3 oo oo hc,Ae]
  ·simp[h,hc]
 ·simp[h]
theorem sameInts_self{l:List Int}(h:l.length<=1000000):Jl l l=some true:=by
 simp only[Jl,if_true,jn_d];rw[Yj (β:=Unit) (γ:=Bool) l (fun _=>true) (Gg l l) () false ?_ ?_,Ae]
 ·simp
 ·intro j hj;simp only[Gg,if_pos (show (j:Int)<(l.length:Int) by omega),As hj,Ae,if_true,Az (show j<9223372036854775807 by omega)]
 ·simp only[Gg,Int.lt_irrefl,if_false]
theorem many_eq(l:List Aa)(n:Int):Py l n=some (decide (300<l.length\/n<(l.length:Int)/\validL l=true)):=by
 simp only[Py,jn_d,rvalid_eq,Ae]
 by_cases h1:300<l.length
 ·rw[if_pos oo];simp[h1]
 ·rw[if_neg oo]
  by_cases h2:n<(l.length:Int)
  ·rw[if_pos h2];simp[h1,h2]
  ·rw[if_neg h2];simp[h1,h2]
def sqr:List Ac:=[⟨0,0⟩,⟨4,0⟩,⟨4,4⟩,⟨0,4⟩]
def pts3:List Aa:=[⟨1,0,0,⟨3,3⟩,0,1,1,0⟩,⟨2,5,5,⟨1,1⟩,0,1,1,0⟩,⟨3,12,0,⟨2,2⟩,0,1,1,0⟩]
def ter3:Ag:=⟨10,0,0,1,0,0,0,0,0,1⟩
theorem first_eq:Hu=some true:=by
 have e1:Aie sqr ⟨4,2⟩=(true,0):=dD;have e2:Aie sqr ⟨5,2⟩=(false,0):=dD;have e3:seedL pts3 ter3=[2,3]:=by
  have:(bot (ceF ter3.Cell) (candL pts3 ter3)).map (·.Id)=[2,3]:=dD;unfold seedL;rw[this];exact (Acf s_ (List.Perm.refl _)).symm
 have e4:okRules ter3=true:=dD;have e5:validL pts3=true:=dD;have f1:Ik sqr ⟨4,2⟩=some (true,0):=by rw[Aly,e1]
 have f2:Ik sqr ⟨5,2⟩=some (false,0):=by rw[Aly,e2]
 have f3:Pd pts3 ter3=some ([2,3],0):=by rw[Ax2,if_pos e4,if_pos e5,e3]
 unfold Hu;have g1:Ik ([(⟨0,0⟩:Ac),(⟨4,0⟩:Ac),(⟨4,4⟩:Ac),(⟨0,4⟩:Ac)]) (⟨4,2⟩:Ac)=some (true,0):=f1;have g2:Ik ([(⟨0,0⟩:Ac),(⟨4,0⟩:Ac),(⟨4,4⟩:Ac),(⟨0,4⟩:Ac)]) (⟨5,2⟩:Ac)=some (false,0):=f2;rw[g1,Ae,g2,Ae];show bnd (Pd pts3 ter3) _=_;rw[f3,Ae];rfl
end Go.Proofs.YthlkpgdfifnagaaGreat.X
