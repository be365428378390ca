/- Walks of the program, with their plain functions: MeshDelaunay. -/
import Derived.Test.YtgfiafnelibjgaaGreatE1b
namespace Go.Proofs.YtgfiafnelibjgaaGreat
open Go Go.RowKit
theorem Arx:Fw Tryz.prog 25 0 0:=.mk Tryz.underlying25 rfl rfl (show Tryz.prog.info? 22=some Tryz.t22 from by kernel_rfl) (show Tryz.t22.size=1 from by kernel_rfl) rfl
instance:Jy Tryz.prog 25 0 0:=⟨Arx⟩
theorem Ary:Fw Tryz.prog 25 1 1:=.mk Tryz.underlying25 rfl rfl (show Tryz.prog.info? 23=some Tryz.t23 from by kernel_rfl) (show Tryz.t23.size=1 from by kernel_rfl) rfl
instance:Jy Tryz.prog 25 1 1:=⟨Ary⟩
theorem Aur:Oi Tryz.prog 23:=.mk Tryz.underlying23 rfl (show Tryz.prog.info? 23=some Tryz.t23 from by kernel_rfl) (by kernel_rfl)
instance:OneI Tryz.prog 23:=⟨Aur⟩
theorem At0  : Kn Tryz.prog 43 [] [.int .i64 (0),.int .i64 (0),.int .i64 (0),.int .i64 (0)]:=fun w=>by kernel_rfl
instance:Oa Tryz.prog 43 [] [.int .i64 (0),.int .i64 (0),.int .i64 (0),.int .i64 (0)]:=⟨At0⟩
theorem Aiw (x0:Int):Kn Tryz.prog 43 [(0,.int .i64 x0)] [.int .i64 x0,.int .i64 (0),.int .i64 (0),.int .i64 (0)]:=fun w=>by kernel_rfl
instance (x0:Int):Oa Tryz.prog 43 [(0,.int .i64 x0)] [.int .i64 x0,.int .i64 (0),.int .i64 (0),.int .i64 (0)]:=⟨Aiw _⟩
theorem Aix (x0:Int):Kn Tryz.prog 43 [(1,.int .i64 x0)] [.int .i64 (0),.int .i64 x0,.int .i64 (0),.int .i64 (0)]:=fun w=>by kernel_rfl
instance (x0:Int):Oa Tryz.prog 43 [(1,.int .i64 x0)] [.int .i64 (0),.int .i64 x0,.int .i64 (0),.int .i64 (0)]:=⟨Aix _⟩
theorem Adh (x0:Int) (x1:Int):Kn Tryz.prog 43 [(0,.int .i64 x0),(1,.int .i64 x1)] [.int .i64 x0,.int .i64 x1,.int .i64 (0),.int .i64 (0)]:=fun w=>by kernel_rfl
instance (x0:Int) (x1:Int):Oa Tryz.prog 43 [(0,.int .i64 x0),(1,.int .i64 x1)] [.int .i64 x0,.int .i64 x1,.int .i64 (0),.int .i64 (0)]:=⟨Adh _ _⟩
theorem Fm (x0:Int) (x1:Int) (x2:Int) (x3:Int) (x4:Int) (x5:Int) (x6:Int) (x7:Int) (x8:Int) (x9:Int) (x10:Int) (x11:Int) (x12:Int) (x13:Int) (x14:Int) (x15:Int):Dy Tryz.prog 22 4 [(0,.agg #[.int .i64 x0,.int .i64 x1,.int .i64 x2,.int .i64 x3]),(1,.agg #[.int .i64 x4,.int .i64 x5,.int .i64 x6,.int .i64 x7]),(2,.agg #[.int .i64 x8,.int .i64 x9,.int .i64 x10,.int .i64 x11]),(3,.agg #[.int .i64 x12,.int .i64 x13,.int .i64 x14,.int .i64 x15])] 43 [.int .i64 x0,.int .i64 x1,.int .i64 x2,.int .i64 x3,.int .i64 x4,.int .i64 x5,.int .i64 x6,.int .i64 x7,.int .i64 x8,.int .i64 x9,.int .i64 x10,.int .i64 x11,.int .i64 x12,.int .i64 x13,.int .i64 x14,.int .i64 x15]:=fun w=>by kernel_rfl
instance (x0:Int) (x1:Int) (x2:Int) (x3:Int) (x4:Int) (x5:Int) (x6:Int) (x7:Int) (x8:Int) (x9:Int) (x10:Int) (x11:Int) (x12:Int) (x13:Int) (x14:Int) (x15:Int):Ms Tryz.prog 22 4 [(0,.agg #[.int .i64 x0,.int .i64 x1,.int .i64 x2,.int .i64 x3]),(1,.agg #[.int .i64 x4,.int .i64 x5,.int .i64 x6,.int .i64 x7]),(2,.agg #[.int .i64 x8,.int .i64 x9,.int .i64 x10,.int .i64 x11]),(3,.agg #[.int .i64 x12,.int .i64 x13,.int .i64 x14,.int .i64 x15])] 43 [.int .i64 x0,.int .i64 x1,.int .i64 x2,.int .i64 x3,.int .i64 x4,.int .i64 x5,.int .i64 x6,.int .i64 x7,.int .i64 x8,.int .i64 x9,.int .i64 x10,.int .i64 x11,.int .i64 x12,.int .i64 x13,.int .i64 x14,.int .i64 x15]:=⟨Fm _ _ _ _ _ _ _ _ _ _ _ _ _ _ _ _⟩
theorem Arz:Fw Tryz.prog 32 1 1:=.mk Tryz.underlying32 rfl rfl (show Tryz.prog.info? 30=some Tryz.t30 from by kernel_rfl) (show Tryz.t30.size=1 from by kernel_rfl) rfl
instance:Jy Tryz.prog 32 1 1:=⟨Arz⟩
theorem Aus:Oi Tryz.prog 30:=.mk Tryz.underlying30 rfl (show Tryz.prog.info? 30=some Tryz.t30 from by kernel_rfl) (by kernel_rfl)
instance:OneI Tryz.prog 30:=⟨Aus⟩
theorem Aut:Jq Tryz.prog 30 35 3:=.mk Tryz.underlying30 (show Tryz.prog.info? 35=some Tryz.t35 from by kernel_rfl) (by kernel_rfl)
instance:Mh Tryz.prog 30 35 3:=⟨Aut⟩
theorem Auu:Nk Tryz.prog 35 3:=.arr Tryz.underlying35 (show Tryz.prog.info? 35=some Tryz.t35 from by kernel_rfl) (by kernel_rfl)
instance:AggI Tryz.prog 35 3:=⟨Auu⟩
theorem Auv (a0:Int) (a1:Int) (a2:Int) (b0:Int) (b1:Int) (b2:Int):∀ w,(Op.equalIn 10000 35 (.agg #[.int .i64 (a0),.int .i64 (a1),.int .i64 (a2)]) (.agg #[.int .i64 (b0),.int .i64 (b1),.int .i64 (b2)])).run Tryz.prog w = .ok ((((a0) == (b0)) && (((a1) == (b1)) && (((a2) == (b2)) && true)))) w :=
 EqI.array (c:=1) Tryz.underlying35 (show Tryz.prog.info? 3=some Tryz.t3 from by kernel_rfl) (by kernel_rfl) (.cons (fun w=>by kernel_rfl) (fun w=>by kernel_rfl) (fun w=>run_equalIn_int w 9998 3 .i64 .i64 _ _ Tryz.underlying3) (.cons (fun w=>by kernel_rfl) (fun w=>by kernel_rfl) (fun w=>run_equalIn_int w 9998 3 .i64 .i64 _ _ Tryz.underlying3) (.cons (fun w=>by kernel_rfl) (fun w=>by kernel_rfl) (fun w=>run_equalIn_int w 9998 3 .i64 .i64 _ _ Tryz.underlying3) (EqI.nil))))
instance (a0:Int) (a1:Int) (a2:Int) (b0:Int) (b1:Int) (b2:Int):EqSI Tryz.prog 35 [.int .i64 (a0),.int .i64 (a1),.int .i64 (a2)] [.int .i64 (b0),.int .i64 (b1),.int .i64 (b2)] ((((a0) == (b0)) && (((a1) == (b1)) && (((a2) == (b2)) && true)))):=⟨Auv _ _ _ _ _ _,by kernel_rfl⟩
theorem Auw:Nb Tryz.prog 35 [.int .i64 (0),.int .i64 (0),.int .i64 (0)]:=⟨_,Tryz.zeroValue35,rfl⟩
instance:Wn Tryz.prog 35 [.int .i64 (0),.int .i64 (0),.int .i64 (0)]:=⟨Auw⟩
theorem Aux:Nk Tryz.prog 25 2:=.mk Tryz.underlying25 rfl (show Tryz.prog.info? 25=some Tryz.t25 from by kernel_rfl) (by kernel_rfl)
instance:AggI Tryz.prog 25 2:=⟨Aux⟩
structure Bi where
 V:List Ab
 Lines:List Aa
noncomputable def Mu (p0:Bi) (p1:Int) (p2:Int):Option Bool :=
 jn (fun (s2:Bool) =>
 some s2)
 (fun j2=>if p1 < ((((p0.V).length:Nat):Int)) then (j2 true)
 else (j2 (decide (p2 < ((((p0.Lines).length:Nat):Int))))))
instance:UndI Tryz.prog 30 (.slice 35):=⟨Tryz.underlying30⟩
noncomputable def Ik  : Option Bool :=
 bnd (Li ([(⟨0,0,(⟨0,0⟩:Al)⟩:Ab),(⟨2,0,(⟨0,0⟩:Al)⟩:Ab),(⟨0,2,(⟨0,0⟩:Al)⟩:Ab),(⟨2,2,(⟨0,0⟩:Al)⟩:Ab)]) ([]:List Aa)) fun r3 =>
 jn (fun (s3:Bool) =>
 some s3)
 (fun j3=>if r3.2=0 then (if ((((r3.1.T).length:Nat):Int))=2 then (bnd (idx r3.1.T 0) fun x0 =>
 if ((((x0.a0) == (0)) && (((x0.a1) == (1)) && (((x0.a2) == (2)) && true))))=true then (bnd (idx r3.1.T 1) fun x1 =>
 j3 (((x1.a0) == (1)) && (((x1.a1) == (3)) && (((x1.a2) == (2)) && true))))
 else (j3 false))
 else (j3 false))
 else (j3 false))
noncomputable def Db (r1:(List Int) × Int) (p0:List Ab):(Int × Int)→Option (Sum (Int × Int) Int):=fun s0 =>
 if s0.2 < ((((r1.1).length:Nat):Int)) then (bnd (idx r1.1 0) fun x0 =>
 bnd (idx p0 x0) fun x1 =>
 bnd (idx r1.1 (w64 (s0.2-1))) fun x2 =>
 bnd (idx p0 x2) fun x3 =>
 bnd (idx r1.1 s0.2) fun x4 =>
 bnd (idx p0 x4) fun x5 =>
 bnd (Aj (⟨x1.X,x1.Y,(⟨x1.Z.Lo,x1.Z.Hi⟩:Al)⟩:Ab)) fun r0 =>
 bnd (Aj (⟨x3.X,x3.Y,(⟨x3.Z.Lo,x3.Z.Hi⟩:Al)⟩:Ab)) fun r2 =>
 bnd (Aj (⟨x5.X,x5.Y,(⟨x5.Z.Lo,x5.Z.Hi⟩:Al)⟩:Ab)) fun r3 =>
 bnd (Hz r0 r2 r3) fun r4 =>
 some (.inl (w64 (s0.1+r4),w64 (s0.2+1))))
 else (some (.inr s0.1))
noncomputable def Eg (p0:List Ab):Option Int :=
 bnd (Ek p0) fun r1 =>
 jn (fun (s4:Int) =>
 some s4)
 (fun j4=>bnd (lfix (Db r1 p0) (0,2)) fun t0 =>
 j4 t0)
theorem Asp (x0:Int) (x1:Int) (x2:Int):Ah7 Tryz.prog 35 [.int .i64 x0,.int .i64 x1,.int .i64 x2]:=by
 intro j h k w
 have h':j < 3:=h
 match j,h,h' with
 | 0,_,_=>exact (show (Instr.index 35 (.agg ([.int .i64 x0,.int .i64 x1,.int .i64 x2]:List Value).toArray) (.int k ((0:Nat):Int))).run Tryz.prog w = .ok (.int .i64 x0) w by kernel_rfl)
 | 1,_,_=>exact (show (Instr.index 35 (.agg ([.int .i64 x0,.int .i64 x1,.int .i64 x2]:List Value).toArray) (.int k ((1:Nat):Int))).run Tryz.prog w = .ok (.int .i64 x1) w by kernel_rfl)
 | 2,_,_=>exact (show (Instr.index 35 (.agg ([.int .i64 x0,.int .i64 x1,.int .i64 x2]:List Value).toArray) (.int k ((2:Nat):Int))).run Tryz.prog w = .ok (.int .i64 x2) w by kernel_rfl)
instance (x0:Int) (x1:Int) (x2:Int):Asj Tryz.prog 35 [.int .i64 x0,.int .i64 x1,.int .i64 x2]:=⟨Asp _ _ _⟩
instance (x0:Int) (x1:Int) (x2:Int):Ao3 Tryz.prog 35 [.int .i64 x0,.int .i64 x1,.int .i64 x2] (Value.int .i64) [x0,x1,x2]:=⟨Asp _ _ _⟩
noncomputable def Fi (p1:Ai) (p0:List Ab):Int→Option (Sum Int (Sum Unit Bool)):=fun s0 =>
 if s0 < 3 then (bnd (idx [p1.a0,p1.a1,p1.a2] s0) fun x0 =>
 jn (fun (s1:Bool) =>
 if s1=true then (some (.inr (.inr (false))))
 else (some (.inl (w64 (s0+1)))))
 (fun j0=>if x0 < 0 then (j0 true)
 else (j0 (decide (((((p0).length:Nat):Int))≤x0)))))
 else (some (.inr (.inl ())))
noncomputable def Gm (p0:List Ab) (p1:Ai) (r0:Ac) (r1:Ac) (r2:Ac):Int→Option (Sum Int (Sum Unit Bool)):=fun s0 =>
 if s0 < ((((p0).length:Nat):Int)) then (bnd (idx p0 s0) fun x0 =>
 bnd (Aj (⟨x0.X,x0.Y,(⟨x0.Z.Lo,x0.Z.Hi⟩:Al)⟩:Ab)) fun r3 =>
 jn (fun (s1:Bool) =>
 if s1=true then (some (.inr (.inr (false))))
 else (some (.inl (w64 (s0+1)))))
 (fun j0=>if s0=p1.a0 then (j0 false)
 else (if s0=p1.a1 then (j0 false)
 else (if s0=p1.a2 then (j0 false)
 else (bnd (Bf r0 r1 r3) fun r4 =>
 if 0≤r4 then (bnd (Bf r1 r2 r3) fun r5 =>
 if 0≤r5 then (bnd (Bf r2 r0 r3) fun r6 =>
 j0 (decide (0≤r6)))
 else (j0 false))
 else (j0 false))))))
 else (some (.inr (.inl ())))
noncomputable def Ji (p0:List Ab) (p1:Ai):Option Bool :=
 jn (fun (s2:Unit) =>
 bnd (idx p0 p1.a0) fun x0 =>
 bnd (idx p0 p1.a1) fun x1 =>
 bnd (idx p0 p1.a2) fun x2 =>
 bnd (Aj (⟨x0.X,x0.Y,(⟨x0.Z.Lo,x0.Z.Hi⟩:Al)⟩:Ab)) fun r0 =>
 bnd (Aj (⟨x1.X,x1.Y,(⟨x1.Z.Lo,x1.Z.Hi⟩:Al)⟩:Ab)) fun r1 =>
 bnd (Aj (⟨x2.X,x2.Y,(⟨x2.Z.Lo,x2.Z.Hi⟩:Al)⟩:Ab)) fun r2 =>
 bnd (Bf r0 r1 r2) fun r3 =>
 if r3=1 then (jn (fun (s0:Unit) =>
 some true)
 (fun j0=>bnd (lfix (Gm p0 p1 r0 r1 r2) 0) fun t0 =>
 (match t0 with
 | (.inl z0)=>j0 z0
 | (.inr (z0))=>some z0
 )))
 else (some false))
 (fun j2=>bnd (lfix (Fi p1 p0) 0) fun t1 =>
 (match t1 with
 | (.inl z1)=>j2 z1
 | (.inr (z1))=>some z1
 ))
noncomputable def Dr (x0:Ai) (p1:Int) (p2:Int):(Int × Int × Int)→Option (Sum (Int × Int × Int) (Int × Int)):=fun s0 =>
 if s0.2.2 < 3 then (jn (fun (s1:Int × Int) =>
 some (.inl (s1.1,s1.2,w64 (s0.2.2+1))))
 (fun j0=>jn (fun (s2:Bool) =>
 if s2=true then (bnd (idx [x0.a0,x0.a1,x0.a2] (Int.tmod (w64 (s0.2.2+2)) 3)) fun x1 =>
 j0 (x1,w64 (s0.2.1+1)))
 else (j0 (s0.1,s0.2.1)))
 (fun j1=>bnd (idx [x0.a0,x0.a1,x0.a2] s0.2.2) fun x2 =>
 if x2=p1 then (bnd (idx [x0.a0,x0.a1,x0.a2] (Int.tmod (w64 (s0.2.2+1)) 3)) fun x3 =>
 j1 (decide (x3=p2)))
 else (j1 false))))
 else (some (.inr (s0.1,s0.2.1)))
noncomputable def He (p0:List Ai) (p1:Int) (p2:Int):(Int × Int × Int)→Option (Sum (Int × Int × Int) (Int × Int)):=fun s0 =>
 if s0.2.2 < ((((p0).length:Nat):Int)) then (jn (fun (s1:Int × Int) =>
 some (.inl (s1.1,s1.2,w64 (s0.2.2+1))))
 (fun j0=>bnd (idx p0 s0.2.2) fun x0 =>
 bnd (lfix (Dr x0 p1 p2) (s0.1,s0.2.1,0)) fun t0 =>
 j0 t0))
 else (some (.inr (s0.1,s0.2.1)))
noncomputable def Cw (p0:List Ai) (p1:Int) (p2:Int):Option (Int × Int) :=
 jn (fun (s3:Int × Int) =>
 some (s3.1,s3.2))
 (fun j3=>bnd (lfix (He p0 p1 p2) (-1,0,0)) fun t0 =>
 j3 t0)
noncomputable def Hf (p0:Bi) (p2:Int) (p3:Int):Int→Option (Sum Int (Sum Unit Bool)):=fun s0 =>
 if s0 < ((((p0.Lines).length:Nat):Int)) then (bnd (idx p0.Lines s0) fun x0 =>
 jn (fun (s1:Bool) =>
 if s1=true then (some (.inr (.inr (true))))
 else (some (.inl (w64 (s0+1)))))
 (fun j0=>if x0.a0=p2 then (if x0.a1=p3 then (j0 true)
 else (if x0.a0=p3 then (j0 (decide (x0.a1=p2)))
 else (j0 false)))
 else (if x0.a0=p3 then (j0 (decide (x0.a1=p2)))
 else (j0 false))))
 else (some (.inr (.inl ())))
noncomputable def Jj (p0:Bi) (p1:List Ai) (p2:Int) (p3:Int) (p4:Int):Option Bool :=
 bnd (Cw p1 p2 p3) fun r2 =>
 bnd (Cw p1 p3 p2) fun r5 =>
 jn (fun (s5:Bool) =>
 if s5=true then (some false)
 else (jn (fun (s7:Unit) =>
 if r5.2=0 then (some true)
 else (bnd (idx p0.V p2) fun x0 =>
 bnd (idx p0.V p3) fun x1 =>
 bnd (idx p0.V p4) fun x2 =>
 bnd (idx p0.V r5.1) fun x3 =>
 bnd (Aj (⟨x0.X,x0.Y,(⟨x0.Z.Lo,x0.Z.Hi⟩:Al)⟩:Ab)) fun r0 =>
 bnd (Aj (⟨x1.X,x1.Y,(⟨x1.Z.Lo,x1.Z.Hi⟩:Al)⟩:Ab)) fun r1 =>
 bnd (Aj (⟨x2.X,x2.Y,(⟨x2.Z.Lo,x2.Z.Hi⟩:Al)⟩:Ab)) fun r3 =>
 bnd (Aj (⟨x3.X,x3.Y,(⟨x3.Z.Lo,x3.Z.Hi⟩:Al)⟩:Ab)) fun r4 =>
 bnd (Ia r0 r1 r3 r4) fun r6 =>
 jn (fun (s0:Bool) =>
 some s0)
 (fun j0=>if r6.1=true then (j0 (decide (r6.2=0)))
 else (j0 false))))
 (fun j7=>bnd (lfix (Hf p0 p2 p3) 0) fun t0 =>
 (match t0 with
 | (.inl z0)=>j7 z0
 | (.inr (z0))=>some z0
 ))))
 (fun j5=>if r2.2=1 then (j5 (decide (1 < r5.2)))
 else (j5 true))
noncomputable def Ct (p0:Bi) (r0:Ac) (r1:Ac) (r2:Ac):Int→Option (Sum Int (Sum Unit Bool)):=fun s0 =>
 if s0 < ((((p0.V).length:Nat):Int)) then (jn (fun (s1:Bool) =>
 if s1=true then (some (.inr (.inr (false))))
 else (some (.inl (w64 (s0+1)))))
 (fun j0=>if ((((p0.Lines).length:Nat):Int))=0 then (bnd (idx p0.V s0) fun x0 =>
 bnd (Aj (⟨x0.X,x0.Y,(⟨x0.Z.Lo,x0.Z.Hi⟩:Al)⟩:Ab)) fun r3 =>
 bnd (Ei r0 r1 r2 r3) fun r4 =>
 j0 (decide (r4=1)))
 else (j0 false)))
 else (some (.inr (.inl ())))
noncomputable def Cu (x0:Ai) (p0:Bi) (r0:Gp × Int) (s0:Int × Int) (r1:Int):Int→Option (Sum Int (Sum Int Bool)):=fun s1 =>
 if s1 < 3 then (bnd (idx [x0.a0,x0.a1,x0.a2] s1) fun x1 =>
 bnd (idx [x0.a0,x0.a1,x0.a2] (Int.tmod (w64 (s1+1)) 3)) fun x2 =>
 bnd (idx [x0.a0,x0.a1,x0.a2] (Int.tmod (w64 (s1+2)) 3)) fun x3 =>
 bnd (Jj p0 r0.1.T x1 x2 x3) fun r2 =>
 if r2=true then (some (.inl (w64 (s1+1))))
 else (some (.inr (.inr (false)))))
 else (some (.inr (.inl (w64 (s0.1+r1)))))
noncomputable def Ce (r0:Gp × Int) (p0:Bi):(Int × Int)→Option (Sum (Int × Int) (Sum Int Bool)):=fun s0 =>
 if s0.2 < ((((r0.1.T).length:Nat):Int)) then (jn (fun (s1:Int) =>
 some (.inl (s1,w64 (s0.2+1))))
 (fun j0=>bnd (idx r0.1.T s0.2) fun x0 =>
 bnd (Ji p0.V x0) fun r1 =>
 if r1=true then (bnd (idx p0.V x0.a0) fun x1 =>
 bnd (idx p0.V x0.a1) fun x2 =>
 bnd (idx p0.V x0.a2) fun x3 =>
 bnd (Aj (⟨x1.X,x1.Y,(⟨x1.Z.Lo,x1.Z.Hi⟩:Al)⟩:Ab)) fun r2 =>
 bnd (Aj (⟨x2.X,x2.Y,(⟨x2.Z.Lo,x2.Z.Hi⟩:Al)⟩:Ab)) fun r3 =>
 bnd (Aj (⟨x3.X,x3.Y,(⟨x3.Z.Lo,x3.Z.Hi⟩:Al)⟩:Ab)) fun r4 =>
 bnd (Hz r2 r3 r4) fun r5 =>
 jn (fun (s2:Unit) =>
 bnd (lfix (Cu x0 p0 r0 s0 r5) 0) fun t0 =>
 (match t0 with
 | (.inl z0)=>j0 z0
 | (.inr (z0))=>some (.inr (.inr (z0)))
 ))
 (fun j1=>bnd (lfix (Ct p0 r2 r3 r4) 0) fun t1 =>
 (match t1 with
 | (.inl z1)=>j1 z1
 | (.inr (z1))=>some (.inr (.inr (z1)))
 )))
 else (some (.inr (.inr (false))))))
 else (some (.inr (.inl s0.1)))
noncomputable def Be (p0:Bi) (r0:Gp × Int):Int→Option (Sum Int (Sum Unit Bool)):=fun s0 =>
 if s0 < ((((p0.Lines).length:Nat):Int)) then (bnd (idx p0.Lines s0) fun x0 =>
 bnd (Cw r0.1.T x0.a0 x0.a1) fun r1 =>
 bnd (Cw r0.1.T x0.a1 x0.a0) fun r2 =>
 jn (fun (s1:Bool) =>
 if s1=true then (some (.inr (.inr (false))))
 else (some (.inl (w64 (s0+1)))))
 (fun j0=>if 0 < ((((r0.1.T).length:Nat):Int)) then (j0 (decide ((w64 (r1.2+r2.2))=0)))
 else (j0 false)))
 else (some (.inr (.inl ())))
noncomputable def Fj (p0:Bi):Option Bool :=
 jn (fun (s3:Bool) =>
 if s3=true then (bnd (Ik) fun r0 =>
 some r0)
 else (bnd (Li p0.V p0.Lines) fun r1 =>
 if r1.2=0 then (jn (fun (s0:Int) =>
 bnd (Eg p0.V) fun r3 =>
 if s0=r3 then (jn (fun (s1:Unit) =>
 bnd (Ik) fun r4 =>
 some r4)
 (fun j0=>bnd (lfix (Be p0 r1) 0) fun t0 =>
 (match t0 with
 | (.inl z0)=>j0 z0
 | (.inr (z0))=>some z0
 )))
 else (some false))
 (fun j1=>bnd (lfix (Ce r1 p0) (0,0)) fun t1 =>
 (match t1 with
 | (.inl z1)=>j1 z1
 | (.inr (z1))=>some z1
 )))
 else (some false)))
 (fun j3=>bnd (Mu p0 30 12) fun r2 =>
 if r2=true then (j3 true)
 else (bnd (Ju p0.V p0.Lines) fun r8 =>
 j3 (!(decide (r8=0)))))
set_option maxRecDepth 100000 in
instance lidarlaw06_Wide_c (p0:Bi) (p1:Int) (p2:Int):Con (Mu p0 p1 p2) Tryz.prog 9 (fun K vs=>∃ (A0_0:Option Addr) (c0_0:Nat) (A0_1:Option Addr) (c0_1:Nat),vs=[.agg #[.slice (A0_0) ((p0.V).length) (c0_0),.slice (A0_1) ((p0.Lines).length) (c0_1)],.int .i64 (p1),.int .i64 (p2)]∧Has K A0_0 (p0.V).length c0_0 4 Ah (p0.V)∧Has K A0_1 (p0.Lines).length c0_1 2 Ak (p0.Lines)∧True) (fun _ r=>fun v Ln=>v = .bool (r)∧Ln=[]∧True):=⟨by
 rintro K _ r ⟨A0_0,c0_0,A0_1,c0_1,rfl,ha0,ha1,-⟩ hx w hK;replace ha0:=Has.lo ha0 hK;replace ha1:=Has.lo ha1 hK;unfold Mu at hx;refine CtS Tryz.ntmps9 Tryz.results9 ?_;exact au⟩
set_option maxHeartbeats 1000000 in
set_option maxRecDepth 100000 in
instance lidarlaw06_awake_c  : Con (Ik) Tryz.prog 11 (fun _ vs=>vs=[]) (fun _ r=>fun v Ln=>v = .bool (r)∧Ln=[]∧True):=⟨by
 rintro _ _ r rfl hx w hK;unfold Ik at hx;refine CtS Tryz.ntmps11 Tryz.results11 ?_;exact au⟩
set_option maxHeartbeats 1000000 in
set_option maxRecDepth 100000 in
instance lidarlaw06_hullArea_c (p0:List Ab):Con (Eg p0) Tryz.prog 18 (fun K vs=>∃ (A0_0:Option Addr) (c0_0:Nat),vs=[.slice (A0_0) ((p0).length) (c0_0)]∧Has K A0_0 (p0).length c0_0 4 Ah (p0)∧True) (fun _ r=>fun v Ln=>v = .int .i64 (r)∧Ln=[]∧True):=⟨by
 rintro K _ r ⟨A0_0,c0_0,rfl,ha0,-⟩ hx w hK;replace ha0:=Has.lo ha0 hK;unfold Eg at hx;have:=dl 6 [0,0,0,0,1,0,1,2,0,0,0,0,0,1,0,1,2,0,0,0,0,1,0,1,2,2,0,2] [0,1,2,3,4,5,6,8,9,10,11,12,13,14,15,17,18,19,20,21,22,23,7,16,24,25,26,27];refine CtS Tryz.ntmps18 Tryz.results18 ?_;refine pre ?_;intros;rename_i hx
 refine Ka ?_;refine pre ?_;intros;rename_i hx
 apply Jr (γ:=Unit) hx [] (fun s4 y4 f=>(5,.int .i64 (s4))::f) [999] (fun s4 y4 l=>l);exact kk
 ·intro s4 y4 hx;exact au
 ·intro _ hx;refine pre ?_;intros;rename_i hx
  apply Lr (γ:=Unit) hx [0,3] (fun s0 y0 f=>(5,.int .i64 (s0.1))::(6,.int .i64 (s0.2))::f) [0,999] (fun s0 y0 l=>l) ();exact kk;exact sk;intro s0 y0 x0 hx _;unfold Db at hx
  exact au⟩
set_option maxHeartbeats 1000000 in
set_option maxRecDepth 100000 in
instance lidarlaw06_proper_c (p0:List Ab) (p1:Ai):Con (Ji p0 p1) Tryz.prog 13 (fun K vs=>∃ (A0_0:Option Addr) (c0_0:Nat),vs=[.slice (A0_0) ((p0).length) (c0_0),.agg #[.int .i64 (p1.a0),.int .i64 (p1.a1),.int .i64 (p1.a2)]]∧Has K A0_0 (p0).length c0_0 4 Ah (p0)∧True) (fun _ r=>fun v Ln=>v = .bool (r)∧Ln=[]∧True):=⟨by
 rintro K _ r ⟨A0_0,c0_0,rfl,ha0,-⟩ hx w hK;replace ha0:=Has.lo ha0 hK;unfold Ji at hx;have:=dl 7 [0,0,1,0,1,2,0,0,1,0,1,2,0,0,1,0,1,2,4,4,4,3,3,3] [0,1,2,3,4,6,7,8,9,10,12,13,14,15,16,5,11,17,18,19,20,21,22,23] [18,19,20];refine CtS Tryz.ntmps13 Tryz.results13 ?_;refine pre ?_;intros;rename_i hx
 refine Ka ?_;refine pre ?_;intros;rename_i hx
 apply Jr (γ:=Unit) hx [0,3] (fun s2 y2 f=>f) [0,999] (fun s2 y2 l=>l);exact kk
 ·intro s2 y2 hx;refine pre ?_;intros;rename_i hx
  refine Cq2 (s:=47) hx rfl (fun _ hx=>?_) (fun _ hx=>?_)
  ·exact au
  ·refine pre ?_;intros;rename_i hx
   apply Jr (γ:=Unit) hx [] (fun s0 y0 f=>f) [999] (fun s0 y0 l=>l);exact kk
   ·intro s0 y0 hx;exact au
   ·intro _ hx;refine pre ?_;intros;rename_i hx
    apply Lr (γ:=Unit) hx [0,3,7,8,9,49] (fun s1 y1 f=>(50,.int .i64 (s1))::f) [0,1,2,3,999] (fun s1 y1 l=>l) ();exact kk;exact sk;intro s1 y1 x0 hx _;unfold Gm at hx
    refine pre ?_;intros;rename_i hx
    refine Cq1 (s:=51) hx rfl (fun _ hx=>?_) (fun _ hx=>?_)
    ·refine pre ?_;intros;rename_i hx
     apply Jr (γ:=Unit) hx [0,3,7,8,9,49,50] (fun s3 y3 f=>(94,.bool (s3))::f) [1,2,3,4,999] (fun s3 y3 l=>l);exact kk
     ·intro s3 y3 hx;exact au
     ·intro _ hx;refine pre ?_;intros;rename_i hx
      refine Cq2 (s:=62) hx rfl (fun _ hx=>?_) (fun _ hx=>?_)
      ·exact au
      ·exact au
    ·exact au
 ·intro _ hx;refine pre ?_;intros;rename_i hx
  apply Lr (γ:=Unit) hx [0,3,12] (fun s4 y4 f=>(13,.int .i64 (s4))::f) [0,999] (fun s4 y4 l=>l) ();exact kk;exact sk;intro s4 y4 x1 hx _;unfold Fi at hx
  exact au⟩
set_option maxHeartbeats 1000000 in
set_option maxRecDepth 100000 in
instance lidarlaw06_across_c (p0:List Ai) (p1:Int) (p2:Int):Con (Cw p0 p1 p2) Tryz.prog 19 (fun K vs=>∃ (A0_0:Option Addr) (c0_0:Nat),vs=[.slice (A0_0) ((p0).length) (c0_0),.int .i64 (p1),.int .i64 (p2)]∧Has K A0_0 (p0).length c0_0 3 Cf (p0)∧True) (fun _ r=>fun v Ln=>v = .tuple #[.int .i64 (r.1),.int .i64 (r.2)]∧Ln=[]∧True):=⟨by
 rintro K _ r ⟨A0_0,c0_0,rfl,ha0,-⟩ hx w hK;replace ha0:=Has.lo ha0 hK;unfold Cw at hx;refine CtS Tryz.ntmps19 Tryz.results19 ?_;refine pre ?_;intros;rename_i hx
 refine Ka ?_;refine pre ?_;intros;rename_i hx
 refine Ka ?_;refine pre ?_;intros;rename_i hx
 apply Jr (γ:=Unit) hx [] (fun s3 y3 f=>(8,.int .i64 (s3.1))::(9,.int .i64 (s3.2))::f) [999] (fun s3 y3 l=>l);exact kk
 ·intro s3 y3 hx;exact au
 ·intro _ hx;refine pre ?_;intros;rename_i hx
  apply Lr (γ:=Unit) hx [1,2,13,14] (fun s0 y0 f=>(8,.int .i64 (s0.1))::(9,.int .i64 (s0.2.1))::(15,.int .i64 (s0.2.2))::f) [999] (fun s0 y0 l=>l) ();exact kk;exact sk;intro s0 y0 x0 hx _;unfold He at hx
  refine pre ?_;intros;rename_i hx
  refine Cq1 (s:=16) hx rfl (fun _ hx=>?_) (fun _ hx=>?_)
  ·refine pre ?_;intros;rename_i hx
   apply Jr (γ:=Unit) hx [1,2,13,14,15] (fun s1 y1 f=>(8,.int .i64 (s1.1))::(9,.int .i64 (s1.2))::f) [999] (fun s1 y1 l=>l);exact kk
   ·intro s1 y1 hx;exact au
   ·intro _ hx;refine pre ?_;intros;rename_i hx
    apply Lr (γ:=Unit) hx [1,2,11,13,14,15] (fun s2 y2 f=>(8,.int .i64 (s2.1))::(9,.int .i64 (s2.2.1))::(19,.int .i64 (s2.2.2))::f) [0,999] (fun s2 y2 l=>l) ();exact kk;exact sk;intro s2 y2 x1 hx _;unfold Dr at hx
    exact au
  ·exact au⟩
set_option maxHeartbeats 1000000 in
set_option maxRecDepth 100000 in
instance lidarlaw06_shared_c (p0:Bi) (p1:List Ai) (p2:Int) (p3:Int) (p4:Int):Con (Jj p0 p1 p2 p3 p4) Tryz.prog 17 (fun K vs=>∃ (A0_0:Option Addr) (c0_0:Nat) (A0_1:Option Addr) (c0_1:Nat) (A0_2:Option Addr) (c0_2:Nat),vs=[.agg #[.slice (A0_0) ((p0.V).length) (c0_0),.slice (A0_1) ((p0.Lines).length) (c0_1)],.slice (A0_2) ((p1).length) (c0_2),.int .i64 (p2),.int .i64 (p3),.int .i64 (p4)]∧Has K A0_0 (p0.V).length c0_0 4 Ah (p0.V)∧Has K A0_1 (p0.Lines).length c0_1 2 Ak (p0.Lines)∧Has K A0_2 (p1).length c0_2 3 Cf (p1)∧True) (fun _ r=>fun v Ln=>v = .bool (r)∧Ln=[]∧True):=⟨by
 rintro K _ r ⟨A0_0,c0_0,A0_1,c0_1,A0_2,c0_2,rfl,ha0,ha1,ha2,-⟩ hx w hK;replace ha0:=Has.lo ha0 hK;replace ha1:=Has.lo ha1 hK;replace ha2:=Has.lo ha2 hK;unfold Jj at hx;have:=dl 13 [0,1,0,0,1,2,0,1,0,0,1,2,0,1,0,0,1,2,0,1,0,0,1,2,2,0,0,0,2,2] [0,1,2,3,4,6,7,8,9,10,12,13,14,15,16,18,19,20,21,22,5,11,17,23,24,25,26,27,28,29];refine CtS Tryz.ntmps17 Tryz.results17 ?_;refine pre ?_;intros;rename_i hx
 refine Ka ?_;refine pre ?_;intros;rename_i hx
 apply Jr (γ:=Unit) hx [2,3,4,5,13,14] (fun s5 y5 f=>(38,.bool (s5))::f) [0,999] (fun s5 y5 l=>l);exact kk
 ·intro s5 y5 hx;refine Cq3 (s:=38) hx rfl (fun _ hx=>?_) (fun _ hx=>?_)
  ·exact au
  ·refine pre ?_;intros;rename_i hx
   apply Jr (γ:=Unit) hx [2,3,4,5,13,14] (fun s7 y7 f=>f) [0,999] (fun s7 y7 l=>l);exact kk
   ·intro s7 y7 hx;exact au
   ·intro _ hx;refine pre ?_;intros;rename_i hx
    apply Lr (γ:=Unit) hx [2,3,4,5,13,14,40,41] (fun s0 y0 f=>(42,.int .i64 (s0))::f) [0,999] (fun s0 y0 l=>l) ();exact kk;exact sk;intro s0 y0 x0 hx _;unfold Hf at hx
    refine pre ?_;intros;rename_i hx
    refine Cq1 (s:=43) hx rfl (fun _ hx=>?_) (fun _ hx=>?_)
    ·refine pre ?_;intros;rename_i hx
     apply Jr (γ:=Unit) hx [2,3,4,5,13,14,40,41,42] (fun s1 y1 f=>(67,.bool (s1))::f) [1,999] (fun s1 y1 l=>l);exact kk
     ·intro s1 y1 hx;exact au
     ·intro _ hx;exact au
    ·exact au
 ·intro _ hx;exact au⟩
set_option maxHeartbeats 1000000 in
set_option maxRecDepth 100000 in
instance Qu (p0:Bi):Con (Fj p0) Tryz.prog 3 (fun K vs=>∃ (A0_0:Option Addr) (c0_0:Nat) (A0_1:Option Addr) (c0_1:Nat),vs=[.agg #[.slice (A0_0) ((p0.V).length) (c0_0),.slice (A0_1) ((p0.Lines).length) (c0_1)]]∧Has K A0_0 (p0.V).length c0_0 4 Ah (p0.V)∧Has K A0_1 (p0.Lines).length c0_1 2 Ak (p0.Lines)∧True) (fun _ r=>fun v Ln=>v = .bool (r)∧Ln=[]∧True):=⟨by
 rintro K _ r ⟨A0_0,c0_0,A0_1,c0_1,rfl,ha0,ha1,-⟩ hx w hK;replace ha0:=Has.lo ha0 hK;replace ha1:=Has.lo ha1 hK;unfold Fj at hx;have:=dl 12 [0,1,0,1,0,1,2,0,1,0,1,0,1,2,0,1,0,1,0,1,2,4,4,4,3,3,3] [0,1,2,3,4,5,7,8,9,10,11,12,14,15,16,17,18,19,6,13,20,21,22,23,24,25,26] [21,22,23];have:=dl 17 [0,1,0,0,0,1,1,1,0,1,0,0,1,2,2,0,0] [0,1,2,3,4,5,6,7,8,9,10,11,12,13,14,15,16];have:=dl 23 [1,0,1,0,0,1,0,0,0,0,1,0,0,0,0,1,2,0] [0,1,2,3,4,5,6,7,8,9,10,11,12,13,14,15,16,17];refine CtS Tryz.ntmps3 Tryz.results3 ?_;refine pre ?_;intros;rename_i hx
 refine Ka ?_;refine pre ?_;intros;rename_i hx
 refine Ka ?_;refine pre ?_;intros;rename_i hx
 apply Jr (γ:=Unit) hx [1] (fun s3 y3 f=>(28,.bool (s3))::f) [0,999] (fun s3 y3 l=>l);exact kk
 ·intro s3 y3 hx;refine Cq3 (s:=28) hx rfl (fun _ hx=>?_) (fun _ hx=>?_)
  ·exact au
  ·refine pre ?_;intros;rename_i hx
   refine Cq2 (s:=39) hx rfl (fun _ hx=>?_) (fun _ hx=>?_)
   ·exact au
   ·refine pre ?_;intros;rename_i hx
    refine Ka ?_;refine pre ?_;intros;rename_i hx
    apply Jr (γ:=Unit) hx [1,3] (fun s0 y0 f=>(5,.int .i64 (s0))::f) [0,1,2,3,4,999] (fun s0 y0 l=>l);exact kk
    ·intro s0 y0 hx;refine pre ?_;intros;rename_i hx
     refine Cq2 (s:=130) hx rfl (fun _ hx=>?_) (fun _ hx=>?_)
     ·exact au
     ·refine pre ?_;intros;rename_i hx
      apply Jr (γ:=Unit) hx [] (fun s1 y1 f=>f) [999] (fun s1 y1 l=>l);exact kk
      ·intro s1 y1 hx;exact au
      ·intro _ hx;refine pre ?_;intros;rename_i hx
       apply Lr (γ:=Unit) hx [3,132,133] (fun s2 y2 f=>(134,.int .i64 (s2))::f) [0,1,2,3,999] (fun s2 y2 l=>l) ();exact kk;exact sk;intro s2 y2 x0 hx _;unfold Be at hx
       exact au
    ·intro _ hx;refine pre ?_;intros;rename_i hx
     apply Lr (γ:=Unit) hx [1,3,41,42] (fun s4 y4 f=>(5,.int .i64 (s4.1))::(43,.int .i64 (s4.2))::f) [0,1,2,3,4,999] (fun s4 y4 l=>l) ();exact kk;exact sk;intro s4 y4 x1 hx _;unfold Ce at hx
     refine pre ?_;intros;rename_i hx
     refine Cq1 (s:=44) hx rfl (fun _ hx=>?_) (fun _ hx=>?_)
     ·refine pre ?_;intros;rename_i hx
      apply Jr (γ:=Unit) hx [1,3,41,42,43] (fun s5 y5 f=>(5,.int .i64 (s5))::f) [0,1,2,3,4,999] (fun s5 y5 l=>l);exact kk
      ·intro s5 y5 hx;exact au
      ·intro _ hx;refine pre ?_;intros;rename_i hx
       refine Cq4 (s:=51) hx rfl (fun _ hx=>?_) (fun _ hx=>?_)
       ·exact au
       ·refine pre ?_;intros;rename_i hx
        apply Jr (γ:=Unit) hx [1,3,5,7,41,42,43] (fun s6 y6 f=>f) [3,4,5,6,7,8,999] (fun s6 y6 l=>l);exact kk
        ·intro s6 y6 hx;refine pre ?_;intros;rename_i hx
         apply Lr (γ:=Unit) hx [1,3,5,7,41,42,43] (fun s7 y7 f=>(103,.int .i64 (s7))::f) [0,1,2,3,4,5,999] (fun s7 y7 l=>l) ();exact kk;exact sk;intro s7 y7 x2 hx _;unfold Cu at hx
         exact au
        ·intro _ hx;refine pre ?_;intros;rename_i hx
         apply Lr (γ:=Unit) hx [1,3,5,7,8,9,10,41,42,43,81] (fun s8 y8 f=>(82,.int .i64 (s8))::f) [0,1,2,3,4,5,6,7,8,999] (fun s8 y8 l=>l) ();exact kk;exact sk;intro s8 y8 x3 hx _;unfold Ct at hx
         exact au
     ·exact au
 ·intro _ hx;exact au⟩
theorem Qo (p0:Bi) {K:List Ent} {A0_0:Option Addr} {c0_0:Nat} {A0_1:Option Addr} {c0_1:Nat} (ha0:Has K A0_0 (p0.V).length c0_0 4 Ah (p0.V)) (ha1:Has K A0_1 (p0.Lines).length c0_1 2 Ak (p0.Lines)) {r:Bool} (hx:Fj p0=some r) (w:World) (hK:∀ e∈K,Ent.ok w e):CtL Tryz.prog 3 [.agg #[.slice (A0_0) ((p0.V).length) (c0_0),.slice (A0_1) ((p0.Lines).length) (c0_1)]] w fun v Ln=>v = .bool (r)∧Ln=[]∧True:=(Qu p0).h K _ _ ⟨_,_,_,_,rfl,ha0,ha1,trivial⟩ hx w hK
end Go.Proofs.YtgfiafnelibjgaaGreat
