/- Walks of the program, with their plain functions: surfaces. -/
import Derived.Test.YtebkcipolijfmaaGreatD5
import Derived.Test.YtebkcipolijfmaaGreatFlow22
namespace Go.Proofs.YtebkcipolijfmaaGreat
open Go Go.RowKit
theorem Aux:Hg Tryz.prog 30 35 3:=.mk Tryz.underlying30 (show Tryz.prog.info? 35=some Tryz.t35 from by kernel_rfl) (by kernel_rfl)
instance:Lb Tryz.prog 30 35 3:=⟨Aux⟩
theorem Yw:Lc Tryz.prog 35 3:=.arr Tryz.underlying35 (show Tryz.prog.info? 35=some Tryz.t35 from by kernel_rfl) (by kernel_rfl)
instance:AggI Tryz.prog 35 3:=⟨Yw⟩
theorem Axe (a0:Int) (a1:Int) (a2:Int) (b0:Int) (b1:Int) (b2:Int):∀ w,(Op.equalIn 10000 35 (.agg #[.int .i64 (a0),.int .i64 (a1),.int .i64 (a2)]) (.agg #[.int .i64 (b0),.int .i64 (b1),.int .i64 (b2)])).run Tryz.prog w = .ok ((((a0) == (b0)) && (((a1) == (b1)) && (((a2) == (b2)) && true)))) w :=
 EqI.array (c:=1) Tryz.underlying35 (show Tryz.prog.info? 3=some Tryz.t3 from by kernel_rfl) (by kernel_rfl) (.cons (fun w=>by kernel_rfl) (fun w=>by kernel_rfl) (fun w=>run_equalIn_int w 9998 3 .i64 .i64 _ _ Tryz.underlying3) (.cons (fun w=>by kernel_rfl) (fun w=>by kernel_rfl) (fun w=>run_equalIn_int w 9998 3 .i64 .i64 _ _ Tryz.underlying3) (.cons (fun w=>by kernel_rfl) (fun w=>by kernel_rfl) (fun w=>run_equalIn_int w 9998 3 .i64 .i64 _ _ Tryz.underlying3) (EqI.nil))))
instance (a0:Int) (a1:Int) (a2:Int) (b0:Int) (b1:Int) (b2:Int):EqSI Tryz.prog 35 [.int .i64 (a0),.int .i64 (a1),.int .i64 (a2)] [.int .i64 (b0),.int .i64 (b1),.int .i64 (b2)] ((((a0) == (b0)) && (((a1) == (b1)) && (((a2) == (b2)) && true)))):=⟨Axe _ _ _ _ _ _,by kernel_rfl⟩
theorem Axf (a0:Int) (a1:Int) (b0:Int) (b1:Int):∀ w,(Op.equalIn 10000 48 (.agg #[.int .i64 (a0),.int .i64 (a1)]) (.agg #[.int .i64 (b0),.int .i64 (b1)])).run Tryz.prog w = .ok ((((a0) == (b0)) && (((a1) == (b1)) && true))) w :=
 EqI.array (c:=1) Tryz.underlying48 (show Tryz.prog.info? 3=some Tryz.t3 from by kernel_rfl) (by kernel_rfl) (.cons (fun w=>by kernel_rfl) (fun w=>by kernel_rfl) (fun w=>run_equalIn_int w 9998 3 .i64 .i64 _ _ Tryz.underlying3) (.cons (fun w=>by kernel_rfl) (fun w=>by kernel_rfl) (fun w=>run_equalIn_int w 9998 3 .i64 .i64 _ _ Tryz.underlying3) (EqI.nil)))
instance (a0:Int) (a1:Int) (b0:Int) (b1:Int):EqSI Tryz.prog 48 [.int .i64 (a0),.int .i64 (a1)] [.int .i64 (b0),.int .i64 (b1)] ((((a0) == (b0)) && (((a1) == (b1)) && true))):=⟨Axf _ _ _ _,by kernel_rfl⟩
theorem Tm:Ck Tryz.prog 32 0 0:=.mk Tryz.underlying32 rfl rfl (show Tryz.prog.info? 22=some Tryz.t22 from by kernel_rfl) (show Tryz.t22.size=1 from by kernel_rfl) rfl
instance:Dq Tryz.prog 32 0 0:=⟨Tm⟩
theorem Am7:Ck Tryz.prog 32 2 2:=.mk Tryz.underlying32 rfl rfl (show Tryz.prog.info? 23=some Tryz.t23 from by kernel_rfl) (show Tryz.t23.size=1 from by kernel_rfl) rfl
instance:Dq Tryz.prog 32 2 2:=⟨Am7⟩
theorem Auy:Mn Tryz.prog 23:=.mk Tryz.underlying23 rfl (show Tryz.prog.info? 23=some Tryz.t23 from by kernel_rfl) (by kernel_rfl)
instance:OneI Tryz.prog 23:=⟨Auy⟩
theorem Ahm:Ck Tryz.prog 32 1 1:=.mk Tryz.underlying32 rfl rfl (show Tryz.prog.info? 30=some Tryz.t30 from by kernel_rfl) (show Tryz.t30.size=1 from by kernel_rfl) rfl
instance:Dq Tryz.prog 32 1 1:=⟨Ahm⟩
theorem Arl:Mn Tryz.prog 30:=.mk Tryz.underlying30 rfl (show Tryz.prog.info? 30=some Tryz.t30 from by kernel_rfl) (by kernel_rfl)
instance:OneI Tryz.prog 30:=⟨Arl⟩
theorem Arm:Iw Tryz.prog 241 [.int .i64 (0),.int .i64 (0),.int .i64 (0),.int .i64 (0),.int .i64 (0),.int .i64 (0)]:=⟨_,Tryz.zeroValue241,rfl⟩
instance:Qb Tryz.prog 241 [.int .i64 (0),.int .i64 (0),.int .i64 (0),.int .i64 (0),.int .i64 (0),.int .i64 (0)]:=⟨Arm⟩
theorem Zt:Acf Tryz.prog 241 3 2:=.mk Tryz.underlying241 (show Tryz.prog.info? 38=some Tryz.t38 from by kernel_rfl) (by kernel_rfl)
instance:ArrI Tryz.prog 241 3 2:=⟨Zt⟩
theorem Arn:Lc Tryz.prog 241 6:=.arr Tryz.underlying241 (show Tryz.prog.info? 241=some Tryz.t241 from by kernel_rfl) (by kernel_rfl)
instance:AggI Tryz.prog 241 6:=⟨Arn⟩
theorem one9:Mn Tryz.prog 9:=.mk Tryz.underlying9 rfl (show Tryz.prog.info? 9=some Tryz.t9 from by kernel_rfl) (by kernel_rfl)
instance:OneI Tryz.prog 9:=⟨one9⟩
theorem Aro:Iw Tryz.prog 278 [.int .u64 (0),.int .u64 (0)]:=⟨_,Tryz.zeroValue278,rfl⟩
instance:Qb Tryz.prog 278 [.int .u64 (0),.int .u64 (0)]:=⟨Aro⟩
theorem Ajr:Ck Tryz.prog 278 1 1:=.mk Tryz.underlying278 rfl rfl (show Tryz.prog.info? 227=some Tryz.t227 from by kernel_rfl) (show Tryz.t227.size=1 from by kernel_rfl) rfl
instance:Dq Tryz.prog 278 1 1:=⟨Ajr⟩
theorem Ak5:Mn Tryz.prog 227:=.mk Tryz.underlying227 rfl (show Tryz.prog.info? 227=some Tryz.t227 from by kernel_rfl) (by kernel_rfl)
instance:OneI Tryz.prog 227:=⟨Ak5⟩
theorem Ajs:Ck Tryz.prog 278 0 0:=.mk Tryz.underlying278 rfl rfl (show Tryz.prog.info? 227=some Tryz.t227 from by kernel_rfl) (show Tryz.t227.size=1 from by kernel_rfl) rfl
instance:Dq Tryz.prog 278 0 0:=⟨Ajs⟩
theorem Vz (x0:Int) (x1:Int):Fh Tryz.prog 278 [(0,.int .u64 x0),(1,.int .u64 x1)] [.int .u64 x0,.int .u64 x1]:=fun w=>by kernel_rfl
instance (x0:Int) (x1:Int):Jh Tryz.prog 278 [(0,.int .u64 x0),(1,.int .u64 x1)] [.int .u64 x0,.int .u64 x1]:=⟨Vz _ _⟩
theorem Ak6:Lc Tryz.prog 278 2:=.mk Tryz.underlying278 rfl (show Tryz.prog.info? 278=some Tryz.t278 from by kernel_rfl) (by kernel_rfl)
instance:AggI Tryz.prog 278 2:=⟨Ak6⟩
theorem Auz:Iw Tryz.prog 41 [.int .i64 (0),.int .i64 (0)]:=⟨_,Tryz.zeroValue41,rfl⟩
instance:Qb Tryz.prog 41 [.int .i64 (0),.int .i64 (0)]:=⟨Auz⟩
theorem Ae5:Iw Tryz.prog 35 [.int .i64 (0),.int .i64 (0),.int .i64 (0)]:=⟨_,Tryz.zeroValue35,rfl⟩
instance:Qb Tryz.prog 35 [.int .i64 (0),.int .i64 (0),.int .i64 (0)]:=⟨Ae5⟩
theorem Xf (x0:Int) (x1:Int):Fh Tryz.prog 41 [(0,.int .i64 x0),(1,.int .i64 x1)] [.int .i64 x0,.int .i64 x1]:=fun w=>by kernel_rfl
instance (x0:Int) (x1:Int):Jh Tryz.prog 41 [(0,.int .i64 x0),(1,.int .i64 x1)] [.int .i64 x0,.int .i64 x1]:=⟨Xf _ _⟩
instance:UndI Tryz.prog 30 (.slice 35):=⟨Tryz.underlying30⟩
noncomputable def Cy (p0:List Aq) (p1:List Aq):Int→Option (Sum Int (Sum Unit Bool)):=fun s0 =>
 if s0 < ((((p0).length:Nat):Int)) then (bnd (idx p0 s0) fun x0 =>
 bnd (idx p1 s0) fun x1 =>
 if ((((x0.a0) == (x1.a0)) && (((x0.a1) == (x1.a1)) && (((x0.a2) == (x1.a2)) && true))))=true then (some (.inl (w64 (s0+1))))
 else (some (.inr (.inr (false)))))
 else (some (.inr (.inl ())))
noncomputable def Di (p0:List Aq) (p1:List Aq):Option Bool :=
 if ((((p0).length:Nat):Int))=((((p1).length:Nat):Int)) then (jn (fun (s5:Unit) =>
 some true)
 (fun j5=>bnd (lfix (Cy p0 p1) 0) fun t0 =>
 (match t0 with
 | (.inl z0)=>j5 z0
 | (.inr (z0))=>some z0
 )))
 else (some false)
noncomputable def Cz (p0:List Aa) (p1:List Aa):Int→Option (Sum Int (Sum Unit Bool)):=fun s0 =>
 if s0 < ((((p0).length:Nat):Int)) then (bnd (idx p0 s0) fun x0 =>
 bnd (idx p1 s0) fun x1 =>
 if ((((x0.a0) == (x1.a0)) && (((x0.a1) == (x1.a1)) && true)))=true then (some (.inl (w64 (s0+1))))
 else (some (.inr (.inr (false)))))
 else (some (.inr (.inl ())))
noncomputable def Dj (p0:List Aa) (p1:List Aa):Option Bool :=
 if ((((p0).length:Nat):Int))=((((p1).length:Nat):Int)) then (jn (fun (s5:Unit) =>
 some true)
 (fun j5=>bnd (lfix (Cz p0 p1) 0) fun t0 =>
 (match t0 with
 | (.inl z0)=>j5 z0
 | (.inr (z0))=>some z0
 )))
 else (some false)
noncomputable def Nf (p0:Bu):Option Int :=
 bnd (Kj p0.V p0.Lines) fun r2 =>
 jn (fun (s4:Bool) =>
 if s4=true then (some 64)
 else (some 0))
 (fun j4=>if r2.2=0 then (bnd (Di r2.1.T p0.T) fun r0 =>
 if r0=true then (bnd (Dj r2.1.Lines p0.Lines) fun r1 =>
 j4 (!(r1)))
 else (j4 true))
 else (j4 true))
noncomputable def Ez (p0:Ac) (p1:Ac) (p2:Ac):Option Int :=
 some (w64 ((w64 ((w64 (p1.X-p0.X))*(w64 (p2.Y-p0.Y))))-(w64 ((w64 (p1.Y-p0.Y))*(w64 (p2.X-p0.X))))))
noncomputable def Lz (p0:Ab):Option Ac :=
 some (⟨p0.X,p0.Y⟩:Ac)
structure Tx where
 a0:Ac
 a1:Ac
 a2:Ac
theorem Ajt (x0:Int) (x1:Int) (x2:Int):Aj5 Tryz.prog 35 [.int .i64 x0,.int .i64 x1,.int .i64 x2]:=by
 intro j h k w
 have h':j < 3:=h
 match j,h,h' with
 | 0,_,_=>exact (show (Instr.index 35 (.agg ([.int .i64 x0,.int .i64 x1,.int .i64 x2]:List Value).toArray) (.int k ((0:Nat):Int))).run Tryz.prog w = .ok (.int .i64 x0) w by kernel_rfl)
 | 1,_,_=>exact (show (Instr.index 35 (.agg ([.int .i64 x0,.int .i64 x1,.int .i64 x2]:List Value).toArray) (.int k ((1:Nat):Int))).run Tryz.prog w = .ok (.int .i64 x1) w by kernel_rfl)
 | 2,_,_=>exact (show (Instr.index 35 (.agg ([.int .i64 x0,.int .i64 x1,.int .i64 x2]:List Value).toArray) (.int k ((2:Nat):Int))).run Tryz.prog w = .ok (.int .i64 x2) w by kernel_rfl)
instance (x0:Int) (x1:Int) (x2:Int):Au2 Tryz.prog 35 [.int .i64 x0,.int .i64 x1,.int .i64 x2]:=⟨Ajt _ _ _⟩
instance (x0:Int) (x1:Int) (x2:Int):Ar8 Tryz.prog 35 [.int .i64 x0,.int .i64 x1,.int .i64 x2] (Value.int .i64) [x0,x1,x2]:=⟨Ajt _ _ _⟩
noncomputable def Gc (p0:Bu) (p1:Int):Option Tx :=
 bnd (idx p0.T p1) fun x4 =>
 bnd (idx p0.V x4.a0) fun x0 =>
 bnd (Lz (⟨x0.X,x0.Y,(⟨x0.Z.Lo,x0.Z.Hi⟩:Av)⟩:Ab)) fun r0 =>
 bnd (idx p0.V x4.a1) fun x1 =>
 bnd (Lz (⟨x1.X,x1.Y,(⟨x1.Z.Lo,x1.Z.Hi⟩:Av)⟩:Ab)) fun r1 =>
 bnd (idx p0.V x4.a2) fun x2 =>
 bnd (Lz (⟨x2.X,x2.Y,(⟨x2.Z.Lo,x2.Z.Hi⟩:Av)⟩:Ab)) fun r2 =>
 some (⟨r0,r1,r2⟩:Tx)
noncomputable def Kb (p0:Bu) (p1:Ac):Int→Option (Sum Int (Sum Unit Int)):=fun s0 =>
 if s0 < ((((p0.T).length:Nat):Int)) then (bnd (Gc p0 s0) fun r0 =>
 jn (fun (s1:Bool) =>
 if s1=true then (some (.inr (.inr (s0))))
 else (some (.inl (w64 (s0+1)))))
 (fun j0=>bnd (Ez (⟨r0.a0.X,r0.a0.Y⟩:Ac) (⟨r0.a1.X,r0.a1.Y⟩:Ac) p1) fun r1 =>
 if 0≤r1 then (bnd (Ez (⟨r0.a1.X,r0.a1.Y⟩:Ac) (⟨r0.a2.X,r0.a2.Y⟩:Ac) p1) fun r2 =>
 if 0≤r2 then (bnd (Ez (⟨r0.a2.X,r0.a2.Y⟩:Ac) (⟨r0.a0.X,r0.a0.Y⟩:Ac) p1) fun r3 =>
 j0 (decide (0≤r3)))
 else (j0 false))
 else (j0 false)))
 else (some (.inr (.inl ())))
noncomputable def Je (p0:Bu) (p1:Ac):Option Int :=
 jn (fun (s2:Unit) =>
 some (-1))
 (fun j2=>bnd (lfix (Kb p0 p1) 0) fun t0 =>
 (match t0 with
 | (.inl z0)=>j2 z0
 | (.inr (z0))=>some z0
 ))
noncomputable def Fa (p0:Ac) (p1:Ac):Option Int :=
 some (w64 ((w64 ((w64 (p0.X-p1.X))*(w64 (p0.X-p1.X))))+(w64 ((w64 (p0.Y-p1.Y))*(w64 (p0.Y-p1.Y))))))
noncomputable def Nn (p0:Bu) (p1:Int) (p2:Int):Option Bool :=
 bnd (Gc p0 p1) fun r2 =>
 bnd (Fa (⟨r2.a0.X,r2.a0.Y⟩:Ac) (⟨r2.a1.X,r2.a1.Y⟩:Ac)) fun r6 =>
 if (w64 (p2*p2)) < r6 then (some true)
 else (bnd (Fa (⟨r2.a1.X,r2.a1.Y⟩:Ac) (⟨r2.a2.X,r2.a2.Y⟩:Ac)) fun r0 =>
 if (w64 (p2*p2)) < r0 then (some true)
 else (bnd (Fa (⟨r2.a2.X,r2.a2.Y⟩:Ac) (⟨r2.a0.X,r2.a0.Y⟩:Ac)) fun r1 =>
 if (w64 (p2*p2)) < r1 then (some true)
 else (some false)))
noncomputable def Js (p0:Int) (p1:Int):Option (Int × Int) :=
 some (wu64 ((wu64 ((wu64 ((shr_ .u64 p0 32)*(shr_ .u64 p1 32)))+(shr_ .u64 (wu64 ((wu64 ((shr_ .u64 p0 32)*(Cw .u64 p1 4294967295)))+(shr_ .u64 (wu64 ((Cw .u64 p0 4294967295)*(Cw .u64 p1 4294967295))) 32))) 32)))+(shr_ .u64 (wu64 ((Cw .u64 (wu64 ((wu64 ((shr_ .u64 p0 32)*(Cw .u64 p1 4294967295)))+(shr_ .u64 (wu64 ((Cw .u64 p0 4294967295)*(Cw .u64 p1 4294967295))) 32))) 4294967295)+(wu64 ((Cw .u64 p0 4294967295)*(shr_ .u64 p1 32))))) 32)),wu64 (p0*p1))
instance:UndI Tryz.prog 5 (.int .u8):=⟨Tryz.underlying5⟩
def Kk:List Int:=[0,1,2,2,3,3,3,3,4,4,4,4,4,4,4,4,5,5,5,5,5,5,5,5,5,5,5,5,5,5,5,5,6,6,6,6,6,6,6,6,6,6,6,6,6,6,6,6,6,6,6,6,6,6,6,6,6,6,6,6,6,6,6,6,7,7,7,7,7,7,7,7,7,7,7,7,7,7,7,7,7,7,7,7,7,7,7,7,7,7,7,7,7,7,7,7,7,7,7,7,7,7,7,7,7,7,7,7,7,7,7,7,7,7,7,7,7,7,7,7,7,7,7,7,7,7,7,7,8,8,8,8,8,8,8,8,8,8,8,8,8,8,8,8,8,8,8,8,8,8,8,8,8,8,8,8,8,8,8,8,8,8,8,8,8,8,8,8,8,8,8,8,8,8,8,8,8,8,8,8,8,8,8,8,8,8,8,8,8,8,8,8,8,8,8,8,8,8,8,8,8,8,8,8,8,8,8,8,8,8,8,8,8,8,8,8,8,8,8,8,8,8,8,8,8,8,8,8,8,8,8,8,8,8,8,8,8,8,8,8,8,8,8,8,8,8,8,8,8,8,8,8,8,8,8,8]
noncomputable def Jt (p0:Int):Option Int :=
 jn (fun (s2:Int × Int) =>
 jn (fun (s5:Int × Int) =>
 jn (fun (s8:Int × Int) =>
 bnd (idx Kk (wu8 (s8.1))) fun x0 =>
 some (w64 (s8.2+(w64 (x0)))))
 (fun j8=>if 256≤s5.1 then (j8 (shr_ .u64 s5.1 8,w64 (s5.2+8)))
 else (j8 (s5.1,s5.2))))
 (fun j5=>if 65536≤s2.1 then (j5 (shr_ .u64 s2.1 16,w64 (s2.2+16)))
 else (j5 (s2.1,s2.2))))
 (fun j2=>if 4294967296≤p0 then (j2 (shr_ .u64 p0 32,32))
 else (j2 (p0,0)))
noncomputable def Du (p0:Int):Option Int :=
 bnd (Jt p0) fun r1 =>
 some (w64 (64-r1))
instance:UndI Tryz.prog 193 (.int .u64):=⟨Tryz.underlying193⟩
noncomputable def Kr (p2:Int) (r0:Int) (p1:Int):(Int × Int)→Option (Sum (Int × Int) Int):=fun s0 =>
 jn (fun (s1:Bool) =>
 if s1=true then (if 4294967296≤(wu64 (s0.2+(shr_ .u64 (shl_ .u64 p2 (wu64 (r0))) 32))) then (some (.inr (wu64 (s0.1-1))))
 else (some (.inl (wu64 (s0.1-1),wu64 (s0.2+(shr_ .u64 (shl_ .u64 p2 (wu64 (r0))) 32))))))
 else (some (.inr s0.1)))
 (fun j0=>if 4294967296≤s0.1 then (j0 true)
 else (j0 (decide ((wu64 ((wu64 (4294967296*s0.2))+(shr_ .u64 (shl_ .u64 p1 (wu64 (r0))) 32))) < (wu64 (s0.1*(Cw .u64 (shl_ .u64 p2 (wu64 (r0))) 4294967295)))))))
noncomputable def Ks (p2:Int) (r0:Int) (p1:Int):(Int × Int)→Option (Sum (Int × Int) Int):=fun s0 =>
 jn (fun (s1:Bool) =>
 if s1=true then (if 4294967296≤(wu64 (s0.1+(shr_ .u64 (shl_ .u64 p2 (wu64 (r0))) 32))) then (some (.inr (wu64 (s0.2-1))))
 else (some (.inl (wu64 (s0.1+(shr_ .u64 (shl_ .u64 p2 (wu64 (r0))) 32)),wu64 (s0.2-1)))))
 else (some (.inr s0.2)))
 (fun j0=>if 4294967296≤s0.2 then (j0 true)
 else (j0 (decide ((wu64 ((wu64 (4294967296*s0.1))+(Cw .u64 (shl_ .u64 p1 (wu64 (r0))) 4294967295))) < (wu64 (s0.2*(Cw .u64 (shl_ .u64 p2 (wu64 (r0))) 4294967295)))))))
noncomputable def Ju (p0:Int) (p1:Int) (p2:Int):Option (Int × Int) :=
 if p2=0 then (none)
 else (if p2≤p0 then (none)
 else (if p0=0 then (gd (p2≠0) <|
 gd (p2≠0) <|
 some (wu64 (Int.tdiv p1 p2),Int.tmod p1 p2))
 else (bnd (Du p2) fun r0 =>
 gd (0≤(wu64 (r0))) <|
 gd (0≤(wu64 (r0))) <|
 gd (0≤(wu64 (64-(wu64 (r0))))) <|
 gd (0≤(wu64 (r0))) <|
 gd ((shr_ .u64 (shl_ .u64 p2 (wu64 (r0))) 32)≠0) <|
 jn (fun (s0:Int) =>
 gd ((shr_ .u64 (shl_ .u64 p2 (wu64 (r0))) 32)≠0) <|
 jn (fun (s1:Int) =>
 gd (0≤(wu64 (r0))) <|
 some (wu64 ((wu64 (s0*4294967296))+s1),shr_ .u64 (wu64 ((wu64 ((wu64 ((wu64 ((wu64 ((wu64 ((Fj .u64 (shl_ .u64 p0 (wu64 (r0))) (shr_ .u64 p1 (wu64 (64-(wu64 (r0))))))*4294967296))+(shr_ .u64 (shl_ .u64 p1 (wu64 (r0))) 32)))-(wu64 (s0*(shl_ .u64 p2 (wu64 (r0)))))))*4294967296))+(Cw .u64 (shl_ .u64 p1 (wu64 (r0))) 4294967295)))-(wu64 (s1*(shl_ .u64 p2 (wu64 (r0))))))) (wu64 (r0))))
 (fun j0=>bnd (lfix (Ks p2 r0 p1) (wu64 ((wu64 ((wu64 ((wu64 ((Fj .u64 (shl_ .u64 p0 (wu64 (r0))) (shr_ .u64 p1 (wu64 (64-(wu64 (r0))))))*4294967296))+(shr_ .u64 (shl_ .u64 p1 (wu64 (r0))) 32)))-(wu64 (s0*(shl_ .u64 p2 (wu64 (r0)))))))-(wu64 ((wu64 (Int.tdiv (wu64 ((wu64 ((wu64 ((Fj .u64 (shl_ .u64 p0 (wu64 (r0))) (shr_ .u64 p1 (wu64 (64-(wu64 (r0))))))*4294967296))+(shr_ .u64 (shl_ .u64 p1 (wu64 (r0))) 32)))-(wu64 (s0*(shl_ .u64 p2 (wu64 (r0))))))) (shr_ .u64 (shl_ .u64 p2 (wu64 (r0))) 32)))*(shr_ .u64 (shl_ .u64 p2 (wu64 (r0))) 32)))),wu64 (Int.tdiv (wu64 ((wu64 ((wu64 ((Fj .u64 (shl_ .u64 p0 (wu64 (r0))) (shr_ .u64 p1 (wu64 (64-(wu64 (r0))))))*4294967296))+(shr_ .u64 (shl_ .u64 p1 (wu64 (r0))) 32)))-(wu64 (s0*(shl_ .u64 p2 (wu64 (r0))))))) (shr_ .u64 (shl_ .u64 p2 (wu64 (r0))) 32)))) fun t0 =>
 j0 t0))
 (fun j1=>bnd (lfix (Kr p2 r0 p1) (wu64 (Int.tdiv (Fj .u64 (shl_ .u64 p0 (wu64 (r0))) (shr_ .u64 p1 (wu64 (64-(wu64 (r0)))))) (shr_ .u64 (shl_ .u64 p2 (wu64 (r0))) 32)),wu64 ((Fj .u64 (shl_ .u64 p0 (wu64 (r0))) (shr_ .u64 p1 (wu64 (64-(wu64 (r0))))))-(wu64 ((wu64 (Int.tdiv (Fj .u64 (shl_ .u64 p0 (wu64 (r0))) (shr_ .u64 p1 (wu64 (64-(wu64 (r0)))))) (shr_ .u64 (shl_ .u64 p2 (wu64 (r0))) 32)))*(shr_ .u64 (shl_ .u64 p2 (wu64 (r0))) 32)))))) fun t1 =>
 j1 t1))))
structure Fu where
 hi:Int
 lo:Int
theorem Abz {x y c:Int} (h:(((0:Int)≤x∧(0:Int)≤y)∧(0:Int)≤c∧c≤(1:Int))) (w:World):(callFunc 291 #[.int .u64 x,.int .u64 y,.int .u64 c]).run Tryz.prog w = .ok (.value (.tuple #[.int .u64 ((x+y+c) % 18446744073709551616),.int .u64 ((x+y+c) / 18446744073709551616)])) w:=by
 rw [run_callFunc_extern Tryz.func291 (by kernel_rfl) (by kernel_rfl) (by kernel_rfl) (e:=add64Entry) (by kernel_rfl),run_add64 x y c h.1.1 h.1.2 h.2.1 h.2.2]
 rfl
instance {x y c:Int}:ExtI Tryz.prog 291 [.int .u64 x,.int .u64 y,.int .u64 c] (((0:Int)≤x∧(0:Int)≤y)∧(0:Int)≤c∧c≤(1:Int)) (.tuple [.int .u64 ((x+y+c) % 18446744073709551616),.int .u64 ((x+y+c) / 18446744073709551616)].toArray):=⟨fun h w=>Abz h w⟩
noncomputable def En (p0:Fu) (p1:Int) (p2:Int):Option Fu :=
 bnd (Js (wu64 (p1)) (wu64 (p2))) fun r3 =>
 gd ((((0:Int)≤p0.lo∧(0:Int)≤r3.2)∧(0:Int)≤0∧0≤(1:Int))) <|
 gd ((((0:Int)≤p0.hi∧(0:Int)≤r3.1)∧(0:Int)≤((p0.lo+r3.2+0) / 18446744073709551616)∧((p0.lo+r3.2+0) / 18446744073709551616)≤(1:Int))) <|
 some (⟨(p0.hi+r3.1+((p0.lo+r3.2+0) / 18446744073709551616)) % 18446744073709551616,(p0.lo+r3.2+0) % 18446744073709551616⟩:Fu)
noncomputable def Il (p0:Aq) (p1:Aq):Option (Int × Int) :=
 bnd (En (⟨0,0⟩:Fu) p0.a0 (w64 (p1.a0-(min (min p1.a0 p1.a1) p1.a2)))) fun r4 =>
 bnd (En r4 p0.a1 (w64 (p1.a1-(min (min p1.a0 p1.a1) p1.a2)))) fun r7 =>
 bnd (En r7 p0.a2 (w64 (p1.a2-(min (min p1.a0 p1.a1) p1.a2)))) fun r0 =>
 bnd (Ju r0.hi r0.lo (wu64 (w64 ((w64 (p0.a0+p0.a1))+p0.a2)))) fun r1 =>
 if 0 < r1.2 then (some (w64 ((min (min p1.a0 p1.a1) p1.a2)+(w64 (r1.1))),w64 ((w64 ((min (min p1.a0 p1.a1) p1.a2)+(w64 (r1.1))))+1)))
 else (some (w64 ((min (min p1.a0 p1.a1) p1.a2)+(w64 (r1.1))),w64 ((min (min p1.a0 p1.a1) p1.a2)+(w64 (r1.1)))))
noncomputable def Jf (p0:Bu) (p1:Int) (p2:Ac):Option Av :=
 bnd (Gc p0 p1) fun r4 =>
 jn (fun (s3:Int × Int × Int) =>
 bnd (idx p0.T p1) fun x0 =>
 jn (fun (s9:Int × Int) =>
 jn (fun (s0:Int × Int) =>
 jn (fun (s1:Int × Int) =>
 bnd (Il (⟨s3.1,s3.2.1,s3.2.2⟩:Aq) (⟨s9.1,s0.1,s1.1⟩:Aq)) fun r0 =>
 bnd (Il (⟨s3.1,s3.2.1,s3.2.2⟩:Aq) (⟨s9.2,s0.2,s1.2⟩:Aq)) fun r1 =>
 some (⟨r0.1,r1.2⟩:Av))
 (fun j0=>bnd (idx p0.V x0.a2) fun x1 =>
 bnd (idx p0.V x0.a2) fun x2 =>
 j0 (x1.Z.Lo,x2.Z.Hi)))
 (fun j1=>bnd (idx p0.V x0.a1) fun x3 =>
 bnd (idx p0.V x0.a1) fun x4 =>
 j1 (x3.Z.Lo,x4.Z.Hi)))
 (fun j9=>bnd (idx p0.V x0.a0) fun x5 =>
 bnd (idx p0.V x0.a0) fun x6 =>
 j9 (x5.Z.Lo,x6.Z.Hi)))
 (fun j3=>bnd (Ez (⟨r4.a1.X,r4.a1.Y⟩:Ac) (⟨r4.a2.X,r4.a2.Y⟩:Ac) p2) fun r8 =>
 bnd (Ez (⟨r4.a2.X,r4.a2.Y⟩:Ac) (⟨r4.a0.X,r4.a0.Y⟩:Ac) p2) fun r2 =>
 bnd (Ez (⟨r4.a0.X,r4.a0.Y⟩:Ac) (⟨r4.a1.X,r4.a1.Y⟩:Ac) p2) fun r3 =>
 j3 (r8,r2,r3))
set_option maxHeartbeats 1000000 in
set_option maxRecDepth 100000 in
instance slices_Equal____3_int__3_int__c (p0:List Aq) (p1:List Aq):Con (Di p0 p1) Tryz.prog 72 (fun K vs=>∃ (A0_0:Option Addr) (c0_0:Nat) (A0_1:Option Addr) (c0_1:Nat),vs=[.slice (A0_0) ((p0).length) (c0_0),.slice (A0_1) ((p1).length) (c0_1)]∧Has K A0_0 (p0).length c0_0 3 Bk (p0)∧Has K A0_1 (p1).length c0_1 3 Bk (p1)∧True) (fun _ r=>fun v Ln=>v = .bool (r)∧Ln=[]∧True):=⟨by
 rintro K _ r ⟨A0_0,c0_0,A0_1,c0_1,rfl,ha0,ha1,-⟩ hx w hK;replace ha0:=Has.lo ha0 hK;replace ha1:=Has.lo ha1 hK;unfold Di at hx;have:=dl 6 [0,0,0,1,0,0,0,1,0] [0,1,2,3,4,5,6,7,8];refine CtS Tryz.ntmps72 Tryz.results72 ?_;refine pre ?_;intros;rename_i hx
 refine Cq2 (s:=10) hx rfl (fun _ hx=>?_) (fun _ hx=>?_)
 ·exact au
 ·refine pre ?_;intros;rename_i hx
  apply Jr (γ:=Unit) hx [] (fun s5 y5 f=>f) [999] (fun s5 y5 l=>l);exact kk
  ·intro s5 y5 hx;exact au
  ·intro _ hx;refine pre ?_;intros;rename_i hx
   apply Lr (γ:=Unit) hx [0,1,12] (fun s33 y33 f=>(13,.int .i64 (s33))::f) [999] (fun s33 y33 l=>l) ();exact kk;exact sk;intro s33 y33 x33 hx _;unfold Cy at hx
   exact au⟩
set_option maxHeartbeats 1000000 in
set_option maxRecDepth 100000 in
instance slices_Equal____2_int__2_int__c (p0:List Aa) (p1:List Aa):Con (Dj p0 p1) Tryz.prog 73 (fun K vs=>∃ (A0_0:Option Addr) (c0_0:Nat) (A0_1:Option Addr) (c0_1:Nat),vs=[.slice (A0_0) ((p0).length) (c0_0),.slice (A0_1) ((p1).length) (c0_1)]∧Has K A0_0 (p0).length c0_0 2 Al (p0)∧Has K A0_1 (p1).length c0_1 2 Al (p1)∧True) (fun _ r=>fun v Ln=>v = .bool (r)∧Ln=[]∧True):=⟨by
 rintro K _ r ⟨A0_0,c0_0,A0_1,c0_1,rfl,ha0,ha1,-⟩ hx w hK;replace ha0:=Has.lo ha0 hK;replace ha1:=Has.lo ha1 hK;unfold Dj at hx;have:=dl 6 [0,0,0,1,0,0,0,1,0] [0,1,2,3,4,5,6,7,8];refine CtS Tryz.ntmps73 Tryz.results73 ?_;refine pre ?_;intros;rename_i hx
 refine Cq2 (s:=10) hx rfl (fun _ hx=>?_) (fun _ hx=>?_)
 ·exact au
 ·refine pre ?_;intros;rename_i hx
  apply Jr (γ:=Unit) hx [] (fun s5 y5 f=>f) [999] (fun s5 y5 l=>l);exact kk
  ·intro s5 y5 hx;exact au
  ·intro _ hx;refine pre ?_;intros;rename_i hx
   apply Lr (γ:=Unit) hx [0,1,12] (fun s33 y33 f=>(13,.int .i64 (s33))::f) [999] (fun s33 y33 l=>l) ();exact kk;exact sk;intro s33 y33 x33 hx _;unfold Cz at hx
   exact au⟩
set_option maxHeartbeats 1000000 in
set_option maxRecDepth 100000 in
instance Ahn (p0:Bu):Con (Nf p0) Tryz.prog 22 (fun K vs=>∃ (A0_0:Option Addr) (c0_0:Nat) (A0_1:Option Addr) (c0_1:Nat) (A0_2:Option Addr) (c0_2:Nat),vs=[.agg #[.slice (A0_0) ((p0.V).length) (c0_0),.slice (A0_1) ((p0.T).length) (c0_1),.slice (A0_2) ((p0.Lines).length) (c0_2)]]∧Has K A0_0 (p0.V).length c0_0 4 Ak (p0.V)∧Has K A0_1 (p0.T).length c0_1 3 Bk (p0.T)∧Has K A0_2 (p0.Lines).length c0_2 2 Al (p0.Lines)∧True) (fun _ r=>fun v Ln=>v = .int .i64 (r)∧Ln=[]∧True):=⟨by
 rintro K _ r ⟨A0_0,c0_0,A0_1,c0_1,A0_2,c0_2,rfl,ha0,ha1,ha2,-⟩ hx w hK;replace ha0:=Has.lo ha0 hK;replace ha1:=Has.lo ha1 hK;replace ha2:=Has.lo ha2 hK;unfold Nf at hx;refine CtS Tryz.ntmps22 Tryz.results22 ?_;refine pre ?_;intros;rename_i hx
 refine Im ?_;refine pre ?_;intros;rename_i hx
 apply Jr (γ:=Unit) hx [] (fun s4 y4 f=>(30,.bool (s4))::f) [999] (fun s4 y4 l=>l);exact kk
 ·intro s4 y4 hx;exact au
 ·intro _ hx;exact au⟩
theorem Aft (p0:Bu) {K:List Ent} {A0_0:Option Addr} {c0_0:Nat} {A0_1:Option Addr} {c0_1:Nat} {A0_2:Option Addr} {c0_2:Nat} (ha0:Has K A0_0 (p0.V).length c0_0 4 Ak (p0.V)) (ha1:Has K A0_1 (p0.T).length c0_1 3 Bk (p0.T)) (ha2:Has K A0_2 (p0.Lines).length c0_2 2 Al (p0.Lines)) {r:Int} (hx:Nf p0=some r) (w:World) (hK:∀ e∈K,Ent.ok w e):CtL Tryz.prog 22 [.agg #[.slice (A0_0) ((p0.V).length) (c0_0),.slice (A0_1) ((p0.T).length) (c0_1),.slice (A0_2) ((p0.Lines).length) (c0_2)]] w fun v Ln=>v = .int .i64 (r)∧Ln=[]∧True:=(Ahn p0).h K _ _ ⟨_,_,_,_,_,_,rfl,ha0,ha1,ha2,trivial⟩ hx w hK
set_option maxRecDepth 100000 in
instance Adb (p0:Ac) (p1:Ac) (p2:Ac):Con (Ez p0 p1 p2) Tryz.prog 191 (fun _ vs=>vs=[.agg #[.int .i64 (p0.X),.int .i64 (p0.Y)],.agg #[.int .i64 (p1.X),.int .i64 (p1.Y)],.agg #[.int .i64 (p2.X),.int .i64 (p2.Y)]]) (fun _ r=>fun v Ln=>v = .int .i64 (r)∧Ln=[]∧True):=⟨by
 rintro _ _ r rfl hx w hK;unfold Ez at hx;refine CtS Tryz.ntmps191 Tryz.results191 ?_;exact au⟩
theorem Eh (p0:Ac) (p1:Ac) (p2:Ac)  {r:Int} (hx:Ez p0 p1 p2=some r) (w:World):CtL Tryz.prog 191 [.agg #[.int .i64 (p0.X),.int .i64 (p0.Y)],.agg #[.int .i64 (p1.X),.int .i64 (p1.Y)],.agg #[.int .i64 (p2.X),.int .i64 (p2.Y)]] w fun v Ln=>v = .int .i64 (r)∧Ln=[]∧True:=(Adb p0 p1 p2).h [] _ _ rfl hx w (fun _ h=>absurd h List.not_mem_nil)
set_option maxRecDepth 100000 in
instance surface_Place_c (p0:Ab):Con (Lz p0) Tryz.prog 240 (fun _ vs=>vs=[.agg #[.int .i64 (p0.X),.int .i64 (p0.Y),.int .i64 (p0.Z.Lo),.int .i64 (p0.Z.Hi)]]) (fun _ r=>fun v Ln=>v = .agg #[.int .i64 (r.X),.int .i64 (r.Y)]∧Ln=[]∧True):=⟨by
 rintro _ _ r rfl hx w hK;unfold Lz at hx;refine CtS Tryz.ntmps240 Tryz.results240 ?_;exact au⟩
set_option maxHeartbeats 1000000 in
set_option maxRecDepth 100000 in
instance Aa3 (p0:Bu) (p1:Int):Con (Gc p0 p1) Tryz.prog 190 (fun K vs=>∃ (A0_0:Option Addr) (c0_0:Nat) (A0_1:Option Addr) (c0_1:Nat) (A0_2:Option Addr) (c0_2:Nat),vs=[.agg #[.slice (A0_0) ((p0.V).length) (c0_0),.slice (A0_1) ((p0.T).length) (c0_1),.slice (A0_2) ((p0.Lines).length) (c0_2)],.int .i64 (p1)]∧Has K A0_0 (p0.V).length c0_0 4 Ak (p0.V)∧Has K A0_1 (p0.T).length c0_1 3 Bk (p0.T)∧Has K A0_2 (p0.Lines).length c0_2 2 Al (p0.Lines)∧True) (fun _ r=>fun v Ln=>v = .agg #[.int .i64 (r.a0.X),.int .i64 (r.a0.Y),.int .i64 (r.a1.X),.int .i64 (r.a1.Y),.int .i64 (r.a2.X),.int .i64 (r.a2.Y)]∧Ln=[]∧True):=⟨by
 rintro K _ r ⟨A0_0,c0_0,A0_1,c0_1,A0_2,c0_2,rfl,ha0,ha1,ha2,-⟩ hx w hK;replace ha0:=Has.lo ha0 hK;replace ha1:=Has.lo ha1 hK;replace ha2:=Has.lo ha2 hK;unfold Gc at hx;refine CtS Tryz.ntmps190 Tryz.results190 ?_;exact au⟩
theorem Zu (p0:Bu) (p1:Int) {K:List Ent} {A0_0:Option Addr} {c0_0:Nat} {A0_1:Option Addr} {c0_1:Nat} {A0_2:Option Addr} {c0_2:Nat} (ha0:Has K A0_0 (p0.V).length c0_0 4 Ak (p0.V)) (ha1:Has K A0_1 (p0.T).length c0_1 3 Bk (p0.T)) (ha2:Has K A0_2 (p0.Lines).length c0_2 2 Al (p0.Lines)) {r:Tx} (hx:Gc p0 p1=some r) (w:World) (hK:∀ e∈K,Ent.ok w e):CtL Tryz.prog 190 [.agg #[.slice (A0_0) ((p0.V).length) (c0_0),.slice (A0_1) ((p0.T).length) (c0_1),.slice (A0_2) ((p0.Lines).length) (c0_2)],.int .i64 (p1)] w fun v Ln=>v = .agg #[.int .i64 (r.a0.X),.int .i64 (r.a0.Y),.int .i64 (r.a1.X),.int .i64 (r.a1.Y),.int .i64 (r.a2.X),.int .i64 (r.a2.Y)]∧Ln=[]∧True:=(Aa3 p0 p1).h K _ _ ⟨_,_,_,_,_,_,rfl,ha0,ha1,ha2,trivial⟩ hx w hK
set_option maxHeartbeats 1000000 in
set_option maxRecDepth 100000 in
instance Ab0 (p0:Bu) (p1:Ac):Con (Je p0 p1) Tryz.prog 113 (fun K vs=>∃ (A0_0:Option Addr) (c0_0:Nat) (A0_1:Option Addr) (c0_1:Nat) (A0_2:Option Addr) (c0_2:Nat),vs=[.agg #[.slice (A0_0) ((p0.V).length) (c0_0),.slice (A0_1) ((p0.T).length) (c0_1),.slice (A0_2) ((p0.Lines).length) (c0_2)],.agg #[.int .i64 (p1.X),.int .i64 (p1.Y)]]∧Has K A0_0 (p0.V).length c0_0 4 Ak (p0.V)∧Has K A0_1 (p0.T).length c0_1 3 Bk (p0.T)∧Has K A0_2 (p0.Lines).length c0_2 2 Al (p0.Lines)∧True) (fun _ r=>fun v Ln=>v = .int .i64 (r)∧Ln=[]∧True):=⟨by
 rintro K _ r ⟨A0_0,c0_0,A0_1,c0_1,A0_2,c0_2,rfl,ha0,ha1,ha2,-⟩ hx w hK;replace ha0:=Has.lo ha0 hK;replace ha1:=Has.lo ha1 hK;replace ha2:=Has.lo ha2 hK;unfold Je at hx;refine CtS Tryz.ntmps113 Tryz.results113 ?_;refine pre ?_;intros;rename_i hx
 refine Im ?_;refine pre ?_;intros;rename_i hx
 apply Jr (γ:=Unit) hx [] (fun s2 y2 f=>f) [999] (fun s2 y2 l=>l);exact kk
 ·intro s2 y2 hx;exact au
 ·intro _ hx;refine pre ?_;intros;rename_i hx
  apply Lr (γ:=Unit) hx [2,3,9] (fun s0 y0 f=>(10,.int .i64 (s0))::f) [0,1,999] (fun s0 y0 l=>l) ();exact kk;exact sk;intro s0 y0 x0 hx _;unfold Kb at hx
  refine pre ?_;intros;rename_i hx
  refine Cq1 (s:=11) hx rfl (fun _ hx=>?_) (fun _ hx=>?_)
  ·refine pre ?_;intros;rename_i hx
   apply Jr (γ:=Unit) hx [2,3,5,9,10] (fun s1 y1 f=>(40,.bool (s1))::f) [1,2,999] (fun s1 y1 l=>l);exact kk
   ·intro s1 y1 hx;exact au
   ·intro _ hx;exact au
  ·exact au⟩
theorem Aa4 (p0:Bu) (p1:Ac) {K:List Ent} {A0_0:Option Addr} {c0_0:Nat} {A0_1:Option Addr} {c0_1:Nat} {A0_2:Option Addr} {c0_2:Nat} (ha0:Has K A0_0 (p0.V).length c0_0 4 Ak (p0.V)) (ha1:Has K A0_1 (p0.T).length c0_1 3 Bk (p0.T)) (ha2:Has K A0_2 (p0.Lines).length c0_2 2 Al (p0.Lines)) {r:Int} (hx:Je p0 p1=some r) (w:World) (hK:∀ e∈K,Ent.ok w e):CtL Tryz.prog 113 [.agg #[.slice (A0_0) ((p0.V).length) (c0_0),.slice (A0_1) ((p0.T).length) (c0_1),.slice (A0_2) ((p0.Lines).length) (c0_2)],.agg #[.int .i64 (p1.X),.int .i64 (p1.Y)]] w fun v Ln=>v = .int .i64 (r)∧Ln=[]∧True:=(Ab0 p0 p1).h K _ _ ⟨_,_,_,_,_,_,rfl,ha0,ha1,ha2,trivial⟩ hx w hK
set_option maxRecDepth 100000 in
instance surface_Square_c (p0:Ac) (p1:Ac):Con (Fa p0 p1) Tryz.prog 192 (fun _ vs=>vs=[.agg #[.int .i64 (p0.X),.int .i64 (p0.Y)],.agg #[.int .i64 (p1.X),.int .i64 (p1.Y)]]) (fun _ r=>fun v Ln=>v = .int .i64 (r)∧Ln=[]∧True):=⟨by
 rintro _ _ r rfl hx w hK;unfold Fa at hx;have:=dl 1 [0,1,0,1,0,0,1,0,1,0,2,2] [0,1,2,3,4,5,6,7,8,9,10,11];refine CtS Tryz.ntmps192 Tryz.results192 ?_;exact au⟩
set_option maxHeartbeats 1000000 in
set_option maxRecDepth 100000 in
instance Ae6 (p0:Bu) (p1:Int) (p2:Int):Con (Nn p0 p1 p2) Tryz.prog 114 (fun K vs=>∃ (A0_0:Option Addr) (c0_0:Nat) (A0_1:Option Addr) (c0_1:Nat) (A0_2:Option Addr) (c0_2:Nat),vs=[.agg #[.slice (A0_0) ((p0.V).length) (c0_0),.slice (A0_1) ((p0.T).length) (c0_1),.slice (A0_2) ((p0.Lines).length) (c0_2)],.int .i64 (p1),.int .i64 (p2)]∧Has K A0_0 (p0.V).length c0_0 4 Ak (p0.V)∧Has K A0_1 (p0.T).length c0_1 3 Bk (p0.T)∧Has K A0_2 (p0.Lines).length c0_2 2 Al (p0.Lines)∧True) (fun _ r=>fun v Ln=>v = .bool (r)∧Ln=[]∧True):=⟨by
 rintro K _ r ⟨A0_0,c0_0,A0_1,c0_1,A0_2,c0_2,rfl,ha0,ha1,ha2,-⟩ hx w hK;replace ha0:=Has.lo ha0 hK;replace ha1:=Has.lo ha1 hK;replace ha2:=Has.lo ha2 hK;unfold Nn at hx;have:=dl 5 [0,0,1,0,0,0,0,1,2,0,0,0,0] [0,1,2,3,4,5,6,7,9,10,11,8,12];refine CtS Tryz.ntmps114 Tryz.results114 ?_;refine pre ?_;intros;rename_i hx
 refine Cq1 (s:=27) hx rfl (fun _ hx=>?_) (fun _ hx=>?_)
 ·exact au
 ·refine pre ?_;intros;rename_i hx
  refine Cq1 (s:=27) hx rfl (fun _ hx=>?_) (fun _ hx=>?_)
  ·exact au
  ·exact au⟩
theorem Adc (p0:Bu) (p1:Int) (p2:Int) {K:List Ent} {A0_0:Option Addr} {c0_0:Nat} {A0_1:Option Addr} {c0_1:Nat} {A0_2:Option Addr} {c0_2:Nat} (ha0:Has K A0_0 (p0.V).length c0_0 4 Ak (p0.V)) (ha1:Has K A0_1 (p0.T).length c0_1 3 Bk (p0.T)) (ha2:Has K A0_2 (p0.Lines).length c0_2 2 Al (p0.Lines)) {r:Bool} (hx:Nn p0 p1 p2=some r) (w:World) (hK:∀ e∈K,Ent.ok w e):CtL Tryz.prog 114 [.agg #[.slice (A0_0) ((p0.V).length) (c0_0),.slice (A0_1) ((p0.T).length) (c0_1),.slice (A0_2) ((p0.Lines).length) (c0_2)],.int .i64 (p1),.int .i64 (p2)] w fun v Ln=>v = .bool (r)∧Ln=[]∧True:=(Ae6 p0 p1 p2).h K _ _ ⟨_,_,_,_,_,_,rfl,ha0,ha1,ha2,trivial⟩ hx w hK
set_option maxHeartbeats 1000000 in
set_option maxRecDepth 100000 in
instance Aa5 (p0:Int) (p1:Int):Con (Js p0 p1) Tryz.prog 290 (fun _ vs=>vs=[.int .u64 (p0),.int .u64 (p1)]) (fun _ r=>fun v Ln=>v = .tuple #[.int .u64 (r.1),.int .u64 (r.2)]∧Ln=[]∧True):=⟨by
 rintro _ _ r rfl hx w hK;unfold Js at hx;refine CtS Tryz.ntmps290 Tryz.results290 ?_;exact au⟩
theorem Zv (p0:Int) (p1:Int)  {r:Int × Int} (hx:Js p0 p1=some r) (w:World):CtL Tryz.prog 290 [.int .u64 (p0),.int .u64 (p1)] w fun v Ln=>v = .tuple #[.int .u64 (r.1),.int .u64 (r.2)]∧Ln=[]∧True:=(Aa5 p0 p1).h [] _ _ rfl hx w (fun _ h=>absurd h List.not_mem_nil)
set_option maxRecDepth 100000 in
theorem Zw (p0:Int)  {r:Int} (hx:Jt p0=some r) (w:World):CtL Tryz.prog 235 [.int .u64 (p0)] w fun v Ln=>v = .int .i64 (r)∧Ln=[]∧True:=by
 refine CtL.mk 25 Tryz.func235 rfl Tryz.ntmps235 (by kernel_rfl) rfl ?_;show T 25 _ [(0,.int .u64 (p0))] _;unfold Jt at hx;refine Y5 ?_;refine Tj (γ:=Unit) hx (fun s2 y2=>[(0,.int .u64 (s2.1)),(2,.int .i64 (s2.2))]) (fun s2 y2=>[]++[.old w]) (fun s2 y2=>True) (fun s2 y2 hx4 hG5=>?_) (fun j2 hx=>?_)
 ·refine Tj (γ:=Unit) hx4 (fun s5 y5=>[(0,.int .u64 (s5.1)),(2,.int .i64 (s5.2))]) (fun s5 y5=>[]++[.old w]) (fun s5 y5=>True) (fun s5 y5 hx9 hG0=>?_) (fun j5 hx4=>?_)
  ·refine Tj (γ:=Unit) hx9 (fun s8 y8=>[(0,.int .u64 (s8.1)),(2,.int .i64 (s8.2))]) (fun s8 y8=>[]++[.old w]) (fun s8 y8=>True) (fun s8 y8 hx0 hG1=>?_) (fun j8 hx9=>?_)
   ·refine Y4 ?_;refine Ag (Acs rfl (by kernel_rfl) Tryz.underlying5) rfl ?_;obtain ⟨x0,h0,hx1⟩:=Ad hx0;refine Ag (Aiz (ys:=Kk) rfl rfl Tryz.underlying9 (by kernel_rfl) h0) rfl ?_;refine Ag (Tl rfl (by kernel_rfl) Tryz.underlying3) rfl ?_;refine Y5 ?_;obtain rfl:=Option.some.inj hx1;exact Ce (rs:=[.tmp 2]) Tryz.results235 (.tmp rfl (.nil)) (Ln:=[]) ⟨rfl,rfl,trivial⟩ (Cm) (by exact .refl)
   ·refine Y6 ?_;refine Ti hx9 (s:=14) rfl (fun h2 hx5=>?_) (fun h2 hx6=>?_)
    ·refine Y4 ?_;refine Ag (Qm rfl rfl (by decide)) rfl ?_;refine Y8 ?_;exact Mt (shr_ .u64 s5.1 8,w64 (s5.2+8)) () hx5 trivial (by exact .refl)
    ·refine Y2 ?_;exact Mt (s5.1,s5.2) () hx6 trivial (by exact .refl)
  ·refine Y6 ?_;refine Ti hx4 (s:=8) rfl (fun h6 hx7=>?_) (fun h6 hx8=>?_)
   ·refine Y4 ?_;refine Ag (Qm rfl rfl (by decide)) rfl ?_;refine Y8 ?_;exact Mt (shr_ .u64 s2.1 16,w64 (s2.2+16)) () hx7 trivial (by exact .refl)
   ·refine Y2 ?_;exact Mt (s2.1,s2.2) () hx8 trivial (by exact .refl)
 ·refine Y6 ?_;refine Ti hx (s:=4) rfl (fun h1 hx2=>?_) (fun h1 hx3=>?_)
  ·refine Y4 ?_;refine Ag (Qm rfl rfl (by decide)) rfl ?_;refine Y6 ?_;exact Mt (shr_ .u64 p0 32,32) () hx2 trivial (by exact .refl)
  ·refine Y2 ?_;exact Mt (p0,0) () hx3 trivial (by exact .refl)
set_option maxHeartbeats 1000000 in
set_option maxRecDepth 100000 in
instance math_bits_Len64_c (p0:Int):Con (Jt p0) Tryz.prog 235 (fun _ vs=>vs=[.int .u64 (p0)]) (fun _ r=>fun v Ln=>v = .int .i64 (r)∧Ln=[]∧True):=⟨by
 rintro _ _ r rfl hx w hK;exact Zw p0 hx w⟩
set_option maxRecDepth 100000 in
instance Sv (p0:Int):Con (Du p0) Tryz.prog 292 (fun _ vs=>vs=[.int .u64 (p0)]) (fun _ r=>fun v Ln=>v = .int .i64 (r)∧Ln=[]∧True):=⟨by
 rintro _ _ r rfl hx w hK;unfold Du at hx;refine CtS Tryz.ntmps292 Tryz.results292 ?_;exact au⟩
theorem Rq (p0:Int)  {r:Int} (hx:Du p0=some r) (w:World):CtL Tryz.prog 292 [.int .u64 (p0)] w fun v Ln=>v = .int .i64 (r)∧Ln=[]∧True:=(Sv p0).h [] _ _ rfl hx w (fun _ h=>absurd h List.not_mem_nil)
set_option maxRecDepth 100000 in
theorem Zx (p0:Int) (p1:Int) (p2:Int)  {r:Int × Int} (hx:Ju p0 p1 p2=some r) (w:World):CtL Tryz.prog 242 [.int .u64 (p0),.int .u64 (p1),.int .u64 (p2)] w fun v Ln=>v = .tuple #[.int .u64 (r.1),.int .u64 (r.2)]∧Ln=[]∧True:=by
 refine CtL.mk 135 Tryz.func242 rfl Tryz.ntmps242 (by kernel_rfl) rfl ?_;show T 135 _ [(0,.int .u64 (p0)),(1,.int .u64 (p1)),(2,.int .u64 (p2))] _;unfold Ju at hx;(iterate 13 refine Y ?_);refine Ti hx (s:=20) rfl (fun h1 hx2=>?_) (fun h1 hx3=>?_)
 ·refine Y2 ?_;exact Adm hx2
 ·refine Y11 ?_;refine Ti hx3 (s:=24) rfl (fun h4 hx5=>?_) (fun h4 hx6=>?_)
  ·refine Y2 ?_;exact Adm hx5
  ·refine Y10 ?_;refine Ti hx6 (s:=27) rfl (fun h7 hx8=>?_) (fun h7 hx0=>?_)
   ·refine Y2 ?_;refine T_dr [0,0,0,0,0,0,2,2] (.q 0 (.q 1 (.q 2 (.q 3 (.q 4 (.q 5 (.e 6 (.e 7 (.done) (.stop)) (.stop)))))))) mixed (by kernel_rfl) (by kernel_rfl) ?_;refine Y2 ?_;obtain ⟨h9,hx1⟩:=Bm hx8;refine P_p rfl rfl (Qt rfl rfl h9) rfl ?_;refine Y2 ?_;obtain ⟨h0,hx4⟩:=Bm hx1;refine P_p rfl rfl (Abc rfl rfl h0) rfl ?_;refine P_x rfl (Cu (Cs rfl) rfl ?_) ?_;rotate_left;exact Ao;refine P_x rfl (Cu (Cs rfl) rfl ?_) ?_;rotate_left;exact Ao;refine Y4 ?_;obtain rfl:=Option.some.inj hx4;exact Ce (rs:=[.tmp 6,.tmp 7]) Tryz.results242 (.tmp rfl (.tmp rfl (.nil))) (Ln:=[]) ⟨rfl,rfl,trivial⟩ (Cm) (by exact .refl)
   ·refine Y6 ?_;obtain ⟨r0,h2,hx7⟩:=Ad hx0;refine Tc (fun w1 hw1=>Rq p2  h2 w1) ?_;refine Ag (Eg rfl (by kernel_rfl) Tryz.underlying193) rfl ?_;refine Y7 ?_;obtain ⟨h3,hx9⟩:=Bm hx7;refine Ag (Aae rfl rfl h3) rfl ?_;refine Y6 ?_;refine Ag (Qm rfl rfl (by decide)) rfl ?_;(iterate 14 refine Y ?_);obtain ⟨h5,hx20⟩:=Bm hx9;refine Ag (Aae rfl rfl h5) rfl ?_;refine Y3 ?_;obtain ⟨h6,hx22⟩:=Bm hx20;refine Ag (Qm rfl rfl h6) rfl ?_;refine Y8 ?_;obtain ⟨h8,hx24⟩:=Bm hx22;refine Ag (Aae rfl rfl h8) rfl ?_;refine Y6 ?_;refine Ag (Qm rfl rfl (by decide)) rfl ?_;(iterate 14 refine Y ?_);obtain ⟨h25,hx26⟩:=Bm hx24;refine Ag (Qt rfl rfl h25) rfl ?_;(iterate 13 refine Y ?_);refine Tj (γ:=Unit) hx26 (fun s0 y0=>[(2,.int .u64 (shl_ .u64 p2 (wu64 (r0)))),(8,.int .u64 (wu64 (r0))),(9,.int .u64 (shr_ .u64 (shl_ .u64 p2 (wu64 (r0))) 32)),(10,.int .u64 (Cw .u64 (shl_ .u64 p2 (wu64 (r0))) 4294967295)),(11,.int .u64 (Fj .u64 (shl_ .u64 p0 (wu64 (r0))) (shr_ .u64 p1 (wu64 (64-(wu64 (r0))))))),(13,.int .u64 (shr_ .u64 (shl_ .u64 p1 (wu64 (r0))) 32)),(14,.int .u64 (Cw .u64 (shl_ .u64 p1 (wu64 (r0))) 4294967295)),(15,.int .u64 (s0))]) (fun s0 y0=>[]++[.old w]) (fun s0 y0=>True) (fun s0 y0 hx51 hG0=>?_) (fun j0 hx26=>?_)
    ·(iterate 17 refine Y ?_);obtain ⟨h53,hx54⟩:=Bm hx51;refine Ag (Qt rfl rfl h53) rfl ?_;(iterate 13 refine Y ?_);refine Tj (γ:=Unit) hx54 (fun s1 y1=>[(2,.int .u64 (shl_ .u64 p2 (wu64 (r0)))),(8,.int .u64 (wu64 (r0))),(14,.int .u64 (Cw .u64 (shl_ .u64 p1 (wu64 (r0))) 4294967295)),(15,.int .u64 (s0)),(17,.int .u64 (wu64 ((wu64 ((wu64 ((Fj .u64 (shl_ .u64 p0 (wu64 (r0))) (shr_ .u64 p1 (wu64 (64-(wu64 (r0))))))*4294967296))+(shr_ .u64 (shl_ .u64 p1 (wu64 (r0))) 32)))-(wu64 (s0*(shl_ .u64 p2 (wu64 (r0)))))))),(18,.int .u64 (s1))]) (fun s1 y1=>[]++[.old w]) (fun s1 y1=>True) (fun s1 y1 hx79 hG1=>?_) (fun j1 hx54=>?_)
     ·(iterate 15 refine Y ?_);obtain ⟨h81,hx82⟩:=Bm hx79;refine Ag (Qm rfl rfl h81) rfl ?_;refine Y5 ?_;obtain rfl:=Option.some.inj hx82;exact Ce (rs:=[.tmp 6,.tmp 7]) Tryz.results242 (.tmp rfl (.tmp rfl (.nil))) (Ln:=[]) ⟨rfl,rfl,trivial⟩ (Cm) (by exact .refl)
     ·refine Y ?_;obtain ⟨t0,hl0,ho0⟩:=Ad hx54;refine Lp (σ:=Int × Int) (γ:=Unit) hl0 (fun s2 y2=>[(2,.int .u64 (shl_ .u64 p2 (wu64 (r0)))),(8,.int .u64 (wu64 (r0))),(9,.int .u64 (shr_ .u64 (shl_ .u64 p2 (wu64 (r0))) 32)),(10,.int .u64 (Cw .u64 (shl_ .u64 p2 (wu64 (r0))) 4294967295)),(14,.int .u64 (Cw .u64 (shl_ .u64 p1 (wu64 (r0))) 4294967295)),(15,.int .u64 (s0)),(16,.int .u64 (s2.1)),(17,.int .u64 (wu64 ((wu64 ((wu64 ((Fj .u64 (shl_ .u64 p0 (wu64 (r0))) (shr_ .u64 p1 (wu64 (64-(wu64 (r0))))))*4294967296))+(shr_ .u64 (shl_ .u64 p1 (wu64 (r0))) 32)))-(wu64 (s0*(shl_ .u64 p2 (wu64 (r0)))))))),(18,.int .u64 (s2.2))]) (fun s2 y2=>[]++[.old w]) (fun s2 y2=>True) () trivial (by exact .refl) ?_;intro s2 y2 hG2 x0 hx67 ht0;unfold Ks at hx67;refine Y ?_;refine Tj (γ:=Unit) hx67 (fun s3 y3=>[(2,.int .u64 (shl_ .u64 p2 (wu64 (r0)))),(8,.int .u64 (wu64 (r0))),(9,.int .u64 (shr_ .u64 (shl_ .u64 p2 (wu64 (r0))) 32)),(10,.int .u64 (Cw .u64 (shl_ .u64 p2 (wu64 (r0))) 4294967295)),(14,.int .u64 (Cw .u64 (shl_ .u64 p1 (wu64 (r0))) 4294967295)),(15,.int .u64 (s0)),(16,.int .u64 (s2.1)),(17,.int .u64 (wu64 ((wu64 ((wu64 ((Fj .u64 (shl_ .u64 p0 (wu64 (r0))) (shr_ .u64 p1 (wu64 (64-(wu64 (r0))))))*4294967296))+(shr_ .u64 (shl_ .u64 p1 (wu64 (r0))) 32)))-(wu64 (s0*(shl_ .u64 p2 (wu64 (r0)))))))),(18,.int .u64 (s2.2)),(113,.bool (s3))]) (fun s3 y3=>[]++[.old w]) (fun s3 y3=>True) (fun s3 y3 hx71 hG3=>?_) (fun j2 hx67=>?_)
      ·refine Dd (s:=113) rfl (fun h73=>?_) (fun h73=>?_)
       ·have hx74:=Cv h73 hx71;(iterate 25 refine Y ?_);refine Ti hx74 (s:=120) rfl (fun h76 hx77=>?_) (fun h76 hx78=>?_)
        ·refine Y2 ?_;refine Ahy rfl ?_;obtain rfl:=Ct ht0 hx77;refine Y2 ?_;exact Mt (wu64 (s2.2-1)) () ho0 trivial (by exact .refl)
        ·refine Y3 ?_;exact Rp (wu64 (s2.1+(shr_ .u64 (shl_ .u64 p2 (wu64 (r0))) 32)),wu64 (s2.2-1)) () hx78 trivial (by exact .refl)
       ·have hx75:=Db h73 hx71;refine Y3 ?_;obtain rfl:=Ct ht0 hx75;refine Y2 ?_;exact Mt s2.2 () ho0 trivial (by exact .refl)
      ·refine Y4 ?_;refine Ti hx67 (s:=104) rfl (fun h68 hx69=>?_) (fun h68 hx70=>?_)
       ·refine Y10 ?_;exact Mt true () hx69 trivial (by exact .refl)
       ·refine Y10 ?_;exact Mt (decide ((wu64 ((wu64 (4294967296*s2.1))+(Cw .u64 (shl_ .u64 p1 (wu64 (r0))) 4294967295))) < (wu64 (s2.2*(Cw .u64 (shl_ .u64 p2 (wu64 (r0))) 4294967295))))) () hx70 trivial (by exact .refl)
    ·refine Y ?_;obtain ⟨t1,hl1,ho1⟩:=Ad hx26;refine Lp (σ:=Int × Int) (γ:=Unit) hl1 (fun s4 y4=>[(2,.int .u64 (shl_ .u64 p2 (wu64 (r0)))),(8,.int .u64 (wu64 (r0))),(9,.int .u64 (shr_ .u64 (shl_ .u64 p2 (wu64 (r0))) 32)),(10,.int .u64 (Cw .u64 (shl_ .u64 p2 (wu64 (r0))) 4294967295)),(11,.int .u64 (Fj .u64 (shl_ .u64 p0 (wu64 (r0))) (shr_ .u64 p1 (wu64 (64-(wu64 (r0))))))),(13,.int .u64 (shr_ .u64 (shl_ .u64 p1 (wu64 (r0))) 32)),(14,.int .u64 (Cw .u64 (shl_ .u64 p1 (wu64 (r0))) 4294967295)),(15,.int .u64 (s4.1)),(16,.int .u64 (s4.2))]) (fun s4 y4=>[]++[.old w]) (fun s4 y4=>True) () trivial (by exact .refl) ?_;intro s4 y4 hG4 x1 hx39 ht1;unfold Kr at hx39;refine Y ?_;refine Tj (γ:=Unit) hx39 (fun s5 y5=>[(2,.int .u64 (shl_ .u64 p2 (wu64 (r0)))),(8,.int .u64 (wu64 (r0))),(9,.int .u64 (shr_ .u64 (shl_ .u64 p2 (wu64 (r0))) 32)),(10,.int .u64 (Cw .u64 (shl_ .u64 p2 (wu64 (r0))) 4294967295)),(11,.int .u64 (Fj .u64 (shl_ .u64 p0 (wu64 (r0))) (shr_ .u64 p1 (wu64 (64-(wu64 (r0))))))),(13,.int .u64 (shr_ .u64 (shl_ .u64 p1 (wu64 (r0))) 32)),(14,.int .u64 (Cw .u64 (shl_ .u64 p1 (wu64 (r0))) 4294967295)),(15,.int .u64 (s4.1)),(16,.int .u64 (s4.2)),(78,.bool (s5))]) (fun s5 y5=>[]++[.old w]) (fun s5 y5=>True) (fun s5 y5 hx43 hG5=>?_) (fun j3 hx39=>?_)
     ·refine Dd (s:=78) rfl (fun h45=>?_) (fun h45=>?_)
      ·have hx46:=Cv h45 hx43;(iterate 25 refine Y ?_);refine Ti hx46 (s:=85) rfl (fun h48 hx49=>?_) (fun h48 hx50=>?_)
       ·refine Y2 ?_;refine Ahy rfl ?_;obtain rfl:=Ct ht1 hx49;refine Y2 ?_;exact Mt (wu64 (s4.1-1)) () ho1 trivial (by exact .refl)
       ·refine Y3 ?_;exact Rp (wu64 (s4.1-1),wu64 (s4.2+(shr_ .u64 (shl_ .u64 p2 (wu64 (r0))) 32))) () hx50 trivial (by exact .refl)
      ·have hx47:=Db h45 hx43;refine Y3 ?_;obtain rfl:=Ct ht1 hx47;refine Y2 ?_;exact Mt s4.1 () ho1 trivial (by exact .refl)
     ·refine Y4 ?_;refine Ti hx39 (s:=69) rfl (fun h40 hx41=>?_) (fun h40 hx42=>?_)
      ·refine Y10 ?_;exact Mt true () hx41 trivial (by exact .refl)
      ·refine Y10 ?_;exact Mt (decide ((wu64 ((wu64 (4294967296*s4.2))+(shr_ .u64 (shl_ .u64 p1 (wu64 (r0))) 32))) < (wu64 (s4.1*(Cw .u64 (shl_ .u64 p2 (wu64 (r0))) 4294967295))))) () hx42 trivial (by exact .refl)
set_option maxHeartbeats 1000000 in
set_option maxRecDepth 100000 in
instance math_bits_Div64_c (p0:Int) (p1:Int) (p2:Int):Con (Ju p0 p1 p2) Tryz.prog 242 (fun _ vs=>vs=[.int .u64 (p0),.int .u64 (p1),.int .u64 (p2)]) (fun _ r=>fun v Ln=>v = .tuple #[.int .u64 (r.1),.int .u64 (r.2)]∧Ln=[]∧True):=⟨by
 rintro _ _ r rfl hx w hK;exact Zx p0 p1 p2 hx w⟩
set_option maxRecDepth 100000 in
theorem Xg (p0:Fu) (p1:Int) (p2:Int)  {r:Fu} (hx:En p0 p1 p2=some r) (w:World):CtL Tryz.prog 241 [.agg #[.int .u64 (p0.hi),.int .u64 (p0.lo)],.int .i64 (p1),.int .i64 (p2)] w fun v Ln=>v = .agg #[.int .u64 (r.hi),.int .u64 (r.lo)]∧Ln=[]∧True:=by
 refine CtL.mk 39 Tryz.func241 rfl Tryz.ntmps241 (by kernel_rfl) rfl ?_;show T 39 _ [(0,.agg #[.int .u64 (p0.hi),.int .u64 (p0.lo)]),(1,.int .i64 (p1)),(2,.int .i64 (p2))] _;unfold En at hx;refine Y2 ?_;refine T_x (Ic rfl rfl rfl (fun g1=>?_));refine T_x (Bn Aro rfl (fun g2=>?_));refine Y5 ?_;refine Ag (Eg rfl (by kernel_rfl) Tryz.underlying227) rfl ?_;refine Y ?_;refine Ag (Eg rfl (by kernel_rfl) Tryz.underlying227) rfl ?_;obtain ⟨r3,h4,hx5⟩:=Ad hx;refine Tc (fun w1 hw1=>Zv (wu64 (p1)) (wu64 (p2))  h4 w1) ?_;refine Y9 ?_;refine Ag (Am rfl Ajr rfl) rfl ?_;refine Ag (Ai rfl (i:=1) rfl rfl Ak5) rfl ?_;refine Y ?_;obtain ⟨h6,hx7⟩:=Bm hx5;refine Ag (Akd rfl (fun w=>Abz h6 w)) rfl ?_;refine Y9 ?_;refine Ag (Am rfl Ajs rfl) rfl ?_;refine Ag (Ai rfl (i:=1) rfl rfl Ak5) rfl ?_;refine Y2 ?_;obtain ⟨h8,hx9⟩:=Bm hx7;refine Ag (Akd rfl (fun w=>Abz h8 w)) rfl ?_;refine Y11 ?_;refine Ag (Bp rfl (Vz _ _)) rfl ?_;refine T_h (Au rfl rfl rfl (.here) (.put (.put (.done))) rfl (List.cons_ne_nil _ _) Ak6.2 ?_);refine Y3 ?_;obtain rfl:=Option.some.inj hx9;exact Ce (rs:=[.cell 6 278]) Tryz.results241 (.cell rfl (i:=0) rfl rfl Ak6 (.nil)) (Ln:=[]) ⟨rfl,rfl,trivial⟩ (Cm) (by exact .drop 0 rfl (.drop 0 rfl (.refl)))
set_option maxRecDepth 100000 in
instance surface_wide_plus_c (p0:Fu) (p1:Int) (p2:Int):Con (En p0 p1 p2) Tryz.prog 241 (fun _ vs=>vs=[.agg #[.int .u64 (p0.hi),.int .u64 (p0.lo)],.int .i64 (p1),.int .i64 (p2)]) (fun _ r=>fun v Ln=>v = .agg #[.int .u64 (r.hi),.int .u64 (r.lo)]∧Ln=[]∧True):=⟨by
 rintro _ _ r rfl hx w hK;exact Xg p0 p1 p2 hx w⟩
set_option maxHeartbeats 1000000 in
set_option maxRecDepth 100000 in
instance Add (p0:Aq) (p1:Aq):Con (Il p0 p1) Tryz.prog 193 (fun _ vs=>vs=[.agg #[.int .i64 (p0.a0),.int .i64 (p0.a1),.int .i64 (p0.a2)],.agg #[.int .i64 (p1.a0),.int .i64 (p1.a1),.int .i64 (p1.a2)]]) (fun _ r=>fun v Ln=>v = .tuple #[.int .i64 (r.1),.int .i64 (r.2)]∧Ln=[]∧True):=⟨by
 rintro _ _ r rfl hx w hK;unfold Il at hx;have:=dl 6 [1,0,0,1,0,0,1,0,0,2,3] [0,1,2,3,4,5,6,7,8,9,10];refine CtS Tryz.ntmps193 Tryz.results193 ?_;refine pre ?_;intros;rename_i hx
 refine Cq1 (s:=57) hx rfl (fun _ hx=>?_) (fun _ hx=>?_)
 ·exact au
 ·exact au⟩
theorem Up (p0:Aq) (p1:Aq)  {r:Int × Int} (hx:Il p0 p1=some r) (w:World):CtL Tryz.prog 193 [.agg #[.int .i64 (p0.a0),.int .i64 (p0.a1),.int .i64 (p0.a2)],.agg #[.int .i64 (p1.a0),.int .i64 (p1.a1),.int .i64 (p1.a2)]] w fun v Ln=>v = .tuple #[.int .i64 (r.1),.int .i64 (r.2)]∧Ln=[]∧True:=(Add p0 p1).h [] _ _ rfl hx w (fun _ h=>absurd h List.not_mem_nil)
set_option maxRecDepth 100000 in
theorem Tn (p0:Bu) (p1:Int) (p2:Ac) {K:List Ent} {A0_0:Option Addr} {c0_0:Nat} {A0_1:Option Addr} {c0_1:Nat} {A0_2:Option Addr} {c0_2:Nat} (ha0:Has K A0_0 p0.V.length c0_0 4 Ak (p0.V)) (ha1:Has K A0_1 p0.T.length c0_1 3 Bk (p0.T)) (ha2:Has K A0_2 p0.Lines.length c0_2 2 Al (p0.Lines)) {r:Av} (hx:Jf p0 p1 p2=some r) (w:World) (hK:∀ e∈K,Ent.ok w e):CtL Tryz.prog 115 [.agg #[.slice (A0_0) (p0.V.length) (c0_0),.slice (A0_1) (p0.T.length) (c0_1),.slice (A0_2) (p0.Lines.length) (c0_2)],.int .i64 (p1),.agg #[.int .i64 (p2.X),.int .i64 (p2.Y)]] w fun v Ln=>v = .agg #[.int .i64 (r.Lo),.int .i64 (r.Hi)]∧Ln=[]∧True:=by
 have ha0':=Has.up0 ha0;have ha1':=Has.up0 ha1;have ha2':=Has.up0 ha2;refine CtL.mk 82 Tryz.func115 rfl Tryz.ntmps115 (by kernel_rfl) rfl ?_;show T 82 _ [(0,.agg #[.slice (A0_0) (p0.V.length) (c0_0),.slice (A0_1) (p0.T.length) (c0_1),.slice (A0_2) (p0.Lines.length) (c0_2)]),(1,.int .i64 (p1)),(2,.agg #[.int .i64 (p2.X),.int .i64 (p2.Y)])] _;unfold Jf at hx;refine Y2 ?_;refine T_x (Ic rfl rfl rfl (fun g1=>?_));refine T_x (Ic rfl rfl rfl (fun g2=>?_));refine T_x (Bn Auz rfl (fun g3=>?_));refine Y4 ?_;refine Ag (Bb rfl (i:=2) rfl rfl Qv) rfl ?_;refine Y ?_;obtain ⟨r4,h5,hx6⟩:=Ad hx;refine Tc (fun w1 hw1=>Zu p0 p1 (Has.len' ha0') (Has.len' ha1') (Has.len' ha2') h5 w1 (Hk (K:=K) (K2:=[]) hK (by exact (sb 3)) (by exact (SubE.nil)) hw1)) ?_;refine T_x (Bn Arm rfl (fun g7=>?_));refine T_h (Au rfl rfl rfl (.here) (.put (.put (.put (.put (.put (.put (.done))))))) rfl (List.cons_ne_nil _ _) Arn.2 ?_);refine Y2 ?_;refine Tj (γ:=Nat) hx6 (fun s3 y3=>[(1,.int .i64 (p1)),(3,.pointer (some ⟨g1,0,none⟩)),(6,.pointer (some ⟨g3,0,none⟩)),(8,.pointer (some ⟨y3,0,none⟩))]) (fun s3 y3=>[.m y3 35 [.int .i64 (s3.1),.int .i64 (s3.2.1),.int .i64 (s3.2.2)],.m g3 41 [.int .i64 (0),.int .i64 (0)],.m g1 32 [.slice (A0_0) (p0.V.length) (c0_0),.slice (A0_1) (p0.T.length) (c0_1),.slice (A0_2) (p0.Lines.length) (c0_2)]]++[.old w]) (fun s3 y3=>True) (fun s3 y3 hx0 hG0=>?_) (fun j3 hx6=>?_)
 ·refine Y2 ?_;refine T_x (Bn Ae5 rfl (fun g0=>?_));refine T_x (Bn Ae5 rfl (fun g4=>?_));refine Y5 ?_;refine Ag (Am rfl Ahm rfl) rfl ?_;refine Ag (Ai rfl (i:=4) rfl rfl Arl) rfl ?_;refine Y ?_;obtain ⟨x0,h0,hx1⟩:=Ad hx0;have hw0:=Has.low (E:=[]) ha1' hK;obtain ⟨b0,o0,j0,hA0,hj0,hl0,hp0⟩:=Has.at_idx hw0 h0;refine Ag (Bf rfl rfl hA0 (j:=j0) hj0 hl0 Aux) rfl ?_;refine Ag (Dy rfl hp0 (sb 5) rfl Yw) rfl ?_;refine Y4 ?_;refine Ap8 9 ?_;refine Abj ?_;refine Y9 ?_;refine Tj (γ:=Unit) hx1 (fun s9 y9=>[(3,.pointer (some ⟨g1,0,none⟩)),(6,.pointer (some ⟨g3,0,none⟩)),(8,.pointer (some ⟨y3,0,none⟩)),(9,.pointer (some ⟨g0,0,none⟩)),(10,.pointer (some ⟨g4,0,none⟩)),(43,.agg #[.int .i64 (x0.a0),.int .i64 (x0.a1),.int .i64 (x0.a2)]),(44,.int .i64 (0))]) (fun s9 y9=>[.m g4 35 [.int .i64 (s9.2),.int .i64 (0),.int .i64 (0)],.m g0 35 [.int .i64 (s9.1),.int .i64 (0),.int .i64 (0)],.m y3 35 [.int .i64 (s3.1),.int .i64 (s3.2.1),.int .i64 (s3.2.2)],.m g3 41 [.int .i64 (0),.int .i64 (0)],.m g1 32 [.slice (A0_0) (p0.V.length) (c0_0),.slice (A0_1) (p0.T.length) (c0_1),.slice (A0_2) (p0.Lines.length) (c0_2)]]++[.old w]) (fun s9 y9=>True) (fun s9 y9 hx2 hG1=>?_) (fun j9 hx1=>?_)
  ·refine Y ?_;refine Ag (Adj (c:=1) rfl rfl (by decide)) rfl ?_;refine Y2 ?_;refine Abb ?_;refine Abj ?_;refine Y9 ?_;refine Tj (γ:=Unit) hx2 (fun s0 y0=>[(3,.pointer (some ⟨g1,0,none⟩)),(6,.pointer (some ⟨g3,0,none⟩)),(8,.pointer (some ⟨y3,0,none⟩)),(9,.pointer (some ⟨g0,0,none⟩)),(10,.pointer (some ⟨g4,0,none⟩)),(43,.agg #[.int .i64 (x0.a0),.int .i64 (x0.a1),.int .i64 (x0.a2)]),(44,.int .i64 (1))]) (fun s0 y0=>[.m g4 35 [.int .i64 (s9.2),.int .i64 (s0.2),.int .i64 (0)],.m g0 35 [.int .i64 (s9.1),.int .i64 (s0.1),.int .i64 (0)],.m y3 35 [.int .i64 (s3.1),.int .i64 (s3.2.1),.int .i64 (s3.2.2)],.m g3 41 [.int .i64 (0),.int .i64 (0)],.m g1 32 [.slice (A0_0) (p0.V.length) (c0_0),.slice (A0_1) (p0.T.length) (c0_1),.slice (A0_2) (p0.Lines.length) (c0_2)]]++[.old w]) (fun s0 y0=>True) (fun s0 y0 hx3 hG2=>?_) (fun j1 hx2=>?_)
   ·refine Y ?_;refine Ag (Adj (c:=2) rfl rfl (by decide)) rfl ?_;refine Y2 ?_;refine Abb ?_;refine Abj ?_;refine Y9 ?_;refine Tj (γ:=Unit) hx3 (fun s1 y1=>[(3,.pointer (some ⟨g1,0,none⟩)),(6,.pointer (some ⟨g3,0,none⟩)),(8,.pointer (some ⟨y3,0,none⟩)),(9,.pointer (some ⟨g0,0,none⟩)),(10,.pointer (some ⟨g4,0,none⟩)),(43,.agg #[.int .i64 (x0.a0),.int .i64 (x0.a1),.int .i64 (x0.a2)]),(44,.int .i64 (2))]) (fun s1 y1=>[.m g4 35 [.int .i64 (s9.2),.int .i64 (s0.2),.int .i64 (s1.2)],.m g0 35 [.int .i64 (s9.1),.int .i64 (s0.1),.int .i64 (s1.1)],.m y3 35 [.int .i64 (s3.1),.int .i64 (s3.2.1),.int .i64 (s3.2.2)],.m g3 41 [.int .i64 (0),.int .i64 (0)],.m g1 32 [.slice (A0_0) (p0.V.length) (c0_0),.slice (A0_1) (p0.T.length) (c0_1),.slice (A0_2) (p0.Lines.length) (c0_2)]]++[.old w]) (fun s1 y1=>True) (fun s1 y1 hx4 hG3=>?_) (fun j2 hx3=>?_)
    ·refine Y ?_;refine Ag (Adj (c:=3) rfl rfl (by decide)) rfl ?_;refine Y2 ?_;refine Abb ?_;refine Abj ?_;(iterate 14 refine Y ?_);refine Ag (Bb rfl (i:=2) rfl rfl Yw) rfl ?_;refine Ag (Bb rfl (i:=1) rfl rfl Yw) rfl ?_;obtain ⟨r0,h1,hx5⟩:=Ad hx4;refine Tc (fun w1 hw1=>Up (⟨s3.1,s3.2.1,s3.2.2⟩:Aq) (⟨s9.1,s0.1,s1.1⟩:Aq)  h1 w1) ?_;refine Y9 ?_;refine Ag (Bb rfl (i:=2) rfl rfl Yw) rfl ?_;refine Ag (Bb rfl (i:=0) rfl rfl Yw) rfl ?_;obtain ⟨r1,h2,hx7⟩:=Ad hx5;refine Tc (fun w1 hw1=>Up (⟨s3.1,s3.2.1,s3.2.2⟩:Aq) (⟨s9.2,s0.2,s1.2⟩:Aq)  h2 w1) ?_;refine Y11 ?_;refine Ag (Bp rfl (Xf _ _)) rfl ?_;refine T_h (Au rfl rfl rfl (.there (.there (.there (.here)))) (.put (.put (.done))) rfl (List.cons_ne_nil _ _) Apx.2 ?_);refine Y3 ?_;obtain rfl:=Option.some.inj hx7;exact Ce (rs:=[.cell 6 41]) Tryz.results115 (.cell rfl (i:=3) rfl rfl Apx (.nil)) (Ln:=[]) ⟨rfl,rfl,trivial⟩ (Cm) (by exact .drop 0 rfl (.drop 0 rfl (.drop 0 rfl (.drop 0 rfl (.drop 0 rfl (.refl))))))
    ·refine Y4 ?_;refine Ag (Xt (kd:=.i64) rfl rfl rfl (Ajt _ _ _) (show idx [x0.a0,x0.a1,x0.a2] 2=some x0.a2 from rfl)) rfl ?_;refine Y4 ?_;obtain ⟨x1,h3,hx8⟩:=Ad hx3;obtain ⟨x2,h4,hx9⟩:=Ad hx8;refine T_dr [0,0,0,1,0,0,0,0,1,0,2,0,0,0,0,2,0,3,0,3] (.q 0 (.q 1 (.q 2 (.q 3 (.q 4 (.q 5 (.q 6 (.q 7 (.q 8 (.q 9 (.q 11 (.q 16 (.e 10 (.q 12 (.q 13 (.q 14 (.e 15 (.e 17 (.q 18 (.e 19 (.done) (.stop))) (.stop)) (.e 17 (.e 15 (.q 18 (.e 19 (.done) (.stop))) (.stop)) (.stop)))))) (.e 17 (.e 10 (.q 12 (.q 13 (.q 14 (.e 15 (.q 18 (.e 19 (.done) (.stop))) (.stop))))) (.stop)) (.stop))))))))))))))) mixed (by kernel_rfl) (by kernel_rfl) ?_;refine Y2 ?_;refine P_p rfl rfl (Am rfl Tm rfl) rfl ?_;refine P_q rfl rfl (Ai rfl (i:=4) rfl rfl Pv) rfl ?_;refine Y ?_;have hw2:=Has.low (E:=[]) ha0' hK;obtain ⟨b1,o1,j4,hA1,hj1,hl1,hp1⟩:=Has.at_idx hw2 h3;refine P_p rfl rfl (Bf rfl rfl hA1 (j:=j4) hj1 hl1 Qa) rfl ?_;refine P_p rfl rfl (Am rfl Qn rfl) rfl ?_;refine P_p rfl rfl (Am rfl Adh rfl) rfl ?_;refine P_q rfl rfl (Ec (d:=2) rfl hp1 (sb 5) rfl one3) rfl ?_;refine P_p rfl rfl (Am rfl Tm rfl) rfl ?_;refine Y ?_;refine P_p rfl rfl (Ay rfl rfl Un (by decide) (by decide) rfl) rfl ?_;refine P_x rfl (Cu (Ai rfl (i:=4) rfl rfl Pv) rfl ?_) ?_
     ·skip;have hw3:=Has.low (E:=[]) ha0' hK;obtain ⟨b2,o2,j5,hA2,hj2,hl2,hp2⟩:=Has.at_idx hw3 h4;refine P_p rfl rfl (Bf rfl rfl hA2 (j:=j5) hj2 hl2 Qa) rfl ?_;refine P_p rfl rfl (Am rfl Qn rfl) rfl ?_;refine P_p rfl rfl (Am rfl Ux rfl) rfl ?_;refine P_x rfl (Cu (Ec (d:=3) rfl hp2 (sb 5) rfl one3) rfl ?_) ?_
      ·skip;refine P_h rfl rfl (Au rfl rfl rfl (.there (.here)) (.skip (.skip (.put (.done)))) rfl (List.cons_ne_nil _ _) one3.2 ?_) ?_;rotate_left;exact Ao;refine P_p rfl rfl (Ay rfl rfl Un (by decide) (by decide) rfl) rfl ?_;refine P_h rfl rfl (Au rfl rfl rfl (.here) (.skip (.skip (.put (.done)))) rfl (List.cons_ne_nil _ _) one3.2 ?_) ?_;rotate_left;exact Ao;refine Y2 ?_;exact Mt (x1.Z.Lo,x2.Z.Hi) () hx9 trivial (by exact .pick 0 rfl (.pick 0 rfl (.pick 0 rfl (.pick 0 rfl (.pick 0 rfl (.refl))))))
      ·skip;refine P_h rfl rfl (Au rfl rfl rfl (.there (.here)) (.skip (.skip (.put (.done)))) rfl (List.cons_ne_nil _ _) one3.2 ?_) ?_;rotate_left;exact Ao;refine P_x rfl (Cu (Ec (d:=3) rfl hp2 (sb 5) rfl one3) rfl ?_) ?_;rotate_left;exact Ao;refine P_p rfl rfl (Ay rfl rfl Un (by decide) (by decide) rfl) rfl ?_;refine P_h rfl rfl (Au rfl rfl rfl (.here) (.skip (.skip (.put (.done)))) rfl (List.cons_ne_nil _ _) one3.2 ?_) ?_;rotate_left;exact Ao;refine Y2 ?_;exact Mt (x1.Z.Lo,x2.Z.Hi) () hx9 trivial (by exact .pick 0 rfl (.pick 0 rfl (.pick 0 rfl (.pick 0 rfl (.pick 0 rfl (.refl))))))
     ·skip;refine P_h rfl rfl (Au rfl rfl rfl (.there (.here)) (.skip (.skip (.put (.done)))) rfl (List.cons_ne_nil _ _) one3.2 ?_) ?_;rotate_left;exact Ao;refine P_x rfl (Cu (Ai rfl (i:=4) rfl rfl Pv) rfl ?_) ?_;rotate_left;exact Ao;have hw4:=Has.low (E:=[]) ha0' hK;obtain ⟨b3,o3,j6,hA3,hj3,hl3,hp3⟩:=Has.at_idx hw4 h4;refine P_p rfl rfl (Bf rfl rfl hA3 (j:=j6) hj3 hl3 Qa) rfl ?_;refine P_p rfl rfl (Am rfl Qn rfl) rfl ?_;refine P_p rfl rfl (Am rfl Ux rfl) rfl ?_;refine P_x rfl (Cu (Ec (d:=3) rfl hp3 (sb 5) rfl one3) rfl ?_) ?_;rotate_left;exact Ao;refine P_p rfl rfl (Ay rfl rfl Un (by decide) (by decide) rfl) rfl ?_;refine P_h rfl rfl (Au rfl rfl rfl (.here) (.skip (.skip (.put (.done)))) rfl (List.cons_ne_nil _ _) one3.2 ?_) ?_;rotate_left;exact Ao;refine Y2 ?_;exact Mt (x1.Z.Lo,x2.Z.Hi) () hx9 trivial (by exact .pick 0 rfl (.pick 0 rfl (.pick 0 rfl (.pick 0 rfl (.pick 0 rfl (.refl))))))
   ·refine Y4 ?_;refine Ag (Xt (kd:=.i64) rfl rfl rfl (Ajt _ _ _) (show idx [x0.a0,x0.a1,x0.a2] 1=some x0.a1 from rfl)) rfl ?_;refine Y4 ?_;obtain ⟨x3,h6,hx10⟩:=Ad hx2;obtain ⟨x4,h7,hx11⟩:=Ad hx10;refine T_dr [0,0,0,1,0,0,0,0,1,0,2,0,0,0,0,2,0,3,0,3] (.q 0 (.q 1 (.q 2 (.q 3 (.q 4 (.q 5 (.q 6 (.q 7 (.q 8 (.q 9 (.q 11 (.q 16 (.e 10 (.q 12 (.q 13 (.q 14 (.e 15 (.e 17 (.q 18 (.e 19 (.done) (.stop))) (.stop)) (.e 17 (.e 15 (.q 18 (.e 19 (.done) (.stop))) (.stop)) (.stop)))))) (.e 17 (.e 10 (.q 12 (.q 13 (.q 14 (.e 15 (.q 18 (.e 19 (.done) (.stop))) (.stop))))) (.stop)) (.stop))))))))))))))) mixed (by kernel_rfl) (by kernel_rfl) ?_;refine Y2 ?_;refine P_p rfl rfl (Am rfl Tm rfl) rfl ?_;refine P_q rfl rfl (Ai rfl (i:=4) rfl rfl Pv) rfl ?_;refine Y ?_;have hw5:=Has.low (E:=[]) ha0' hK;obtain ⟨b4,o4,j7,hA4,hj4,hl4,hp4⟩:=Has.at_idx hw5 h6;refine P_p rfl rfl (Bf rfl rfl hA4 (j:=j7) hj4 hl4 Qa) rfl ?_;refine P_p rfl rfl (Am rfl Qn rfl) rfl ?_;refine P_p rfl rfl (Am rfl Adh rfl) rfl ?_;refine P_q rfl rfl (Ec (d:=2) rfl hp4 (sb 5) rfl one3) rfl ?_;refine P_p rfl rfl (Am rfl Tm rfl) rfl ?_;refine Y ?_;refine P_p rfl rfl (Ay rfl rfl Un (by decide) (by decide) rfl) rfl ?_;refine P_x rfl (Cu (Ai rfl (i:=4) rfl rfl Pv) rfl ?_) ?_
    ·skip;have hw6:=Has.low (E:=[]) ha0' hK;obtain ⟨b5,o5,j8,hA5,hj5,hl5,hp5⟩:=Has.at_idx hw6 h7;refine P_p rfl rfl (Bf rfl rfl hA5 (j:=j8) hj5 hl5 Qa) rfl ?_;refine P_p rfl rfl (Am rfl Qn rfl) rfl ?_;refine P_p rfl rfl (Am rfl Ux rfl) rfl ?_;refine P_x rfl (Cu (Ec (d:=3) rfl hp5 (sb 5) rfl one3) rfl ?_) ?_
     ·skip;refine P_h rfl rfl (Au rfl rfl rfl (.there (.here)) (.skip (.put (.done))) rfl (List.cons_ne_nil _ _) one3.2 ?_) ?_;rotate_left;exact Ao;refine P_p rfl rfl (Ay rfl rfl Un (by decide) (by decide) rfl) rfl ?_;refine P_h rfl rfl (Au rfl rfl rfl (.here) (.skip (.put (.done))) rfl (List.cons_ne_nil _ _) one3.2 ?_) ?_;rotate_left;exact Ao;refine Y2 ?_;exact Mt (x3.Z.Lo,x4.Z.Hi) () hx11 trivial (by exact .pick 0 rfl (.pick 0 rfl (.pick 0 rfl (.pick 0 rfl (.pick 0 rfl (.refl))))))
     ·skip;refine P_h rfl rfl (Au rfl rfl rfl (.there (.here)) (.skip (.put (.done))) rfl (List.cons_ne_nil _ _) one3.2 ?_) ?_;rotate_left;exact Ao;refine P_x rfl (Cu (Ec (d:=3) rfl hp5 (sb 5) rfl one3) rfl ?_) ?_;rotate_left;exact Ao;refine P_p rfl rfl (Ay rfl rfl Un (by decide) (by decide) rfl) rfl ?_;refine P_h rfl rfl (Au rfl rfl rfl (.here) (.skip (.put (.done))) rfl (List.cons_ne_nil _ _) one3.2 ?_) ?_;rotate_left;exact Ao;refine Y2 ?_;exact Mt (x3.Z.Lo,x4.Z.Hi) () hx11 trivial (by exact .pick 0 rfl (.pick 0 rfl (.pick 0 rfl (.pick 0 rfl (.pick 0 rfl (.refl))))))
    ·skip;refine P_h rfl rfl (Au rfl rfl rfl (.there (.here)) (.skip (.put (.done))) rfl (List.cons_ne_nil _ _) one3.2 ?_) ?_;rotate_left;exact Ao;refine P_x rfl (Cu (Ai rfl (i:=4) rfl rfl Pv) rfl ?_) ?_;rotate_left;exact Ao;have hw7:=Has.low (E:=[]) ha0' hK;obtain ⟨b6,o6,j10,hA6,hj6,hl6,hp6⟩:=Has.at_idx hw7 h7;refine P_p rfl rfl (Bf rfl rfl hA6 (j:=j10) hj6 hl6 Qa) rfl ?_;refine P_p rfl rfl (Am rfl Qn rfl) rfl ?_;refine P_p rfl rfl (Am rfl Ux rfl) rfl ?_;refine P_x rfl (Cu (Ec (d:=3) rfl hp6 (sb 5) rfl one3) rfl ?_) ?_;rotate_left;exact Ao;refine P_p rfl rfl (Ay rfl rfl Un (by decide) (by decide) rfl) rfl ?_;refine P_h rfl rfl (Au rfl rfl rfl (.here) (.skip (.put (.done))) rfl (List.cons_ne_nil _ _) one3.2 ?_) ?_;rotate_left;exact Ao;refine Y2 ?_;exact Mt (x3.Z.Lo,x4.Z.Hi) () hx11 trivial (by exact .pick 0 rfl (.pick 0 rfl (.pick 0 rfl (.pick 0 rfl (.pick 0 rfl (.refl))))))
  ·refine Y4 ?_;refine Ag (Xt (kd:=.i64) rfl rfl rfl (Ajt _ _ _) (show idx [x0.a0,x0.a1,x0.a2] 0=some x0.a0 from rfl)) rfl ?_;refine Y4 ?_;obtain ⟨x5,h8,hx62⟩:=Ad hx1;obtain ⟨x6,h52,hx63⟩:=Ad hx62;refine T_dr [0,0,0,1,0,0,0,0,1,0,2,0,0,0,0,2,0,3,0,3] (.q 0 (.q 1 (.q 2 (.q 3 (.q 4 (.q 5 (.q 6 (.q 7 (.q 8 (.q 9 (.q 11 (.q 16 (.e 10 (.q 12 (.q 13 (.q 14 (.e 15 (.e 17 (.q 18 (.e 19 (.done) (.stop))) (.stop)) (.e 17 (.e 15 (.q 18 (.e 19 (.done) (.stop))) (.stop)) (.stop)))))) (.e 17 (.e 10 (.q 12 (.q 13 (.q 14 (.e 15 (.q 18 (.e 19 (.done) (.stop))) (.stop))))) (.stop)) (.stop))))))))))))))) mixed (by kernel_rfl) (by kernel_rfl) ?_;refine Y2 ?_;refine P_p rfl rfl (Am rfl Tm rfl) rfl ?_;refine P_q rfl rfl (Ai rfl (i:=4) rfl rfl Pv) rfl ?_;refine Y ?_;have hw8:=Has.low (E:=[]) ha0' hK;obtain ⟨b7,o7,j66,hA7,hj7,hl7,hp7⟩:=Has.at_idx hw8 h8;refine P_p rfl rfl (Bf rfl rfl hA7 (j:=j66) hj7 hl7 Qa) rfl ?_;refine P_p rfl rfl (Am rfl Qn rfl) rfl ?_;refine P_p rfl rfl (Am rfl Adh rfl) rfl ?_;refine P_q rfl rfl (Ec (d:=2) rfl hp7 (sb 5) rfl one3) rfl ?_;refine P_p rfl rfl (Am rfl Tm rfl) rfl ?_;refine Y ?_;refine P_p rfl rfl (Ay rfl rfl Un (by decide) (by decide) rfl) rfl ?_;refine P_x rfl (Cu (Ai rfl (i:=4) rfl rfl Pv) rfl ?_) ?_
   ·skip;have hw9:=Has.low (E:=[]) ha0' hK;obtain ⟨b8,o8,j74,hA8,hj8,hl8,hp8⟩:=Has.at_idx hw9 h52;refine P_p rfl rfl (Bf rfl rfl hA8 (j:=j74) hj8 hl8 Qa) rfl ?_;refine P_p rfl rfl (Am rfl Qn rfl) rfl ?_;refine P_p rfl rfl (Am rfl Ux rfl) rfl ?_;refine P_x rfl (Cu (Ec (d:=3) rfl hp8 (sb 5) rfl one3) rfl ?_) ?_
    ·skip;refine P_h rfl rfl (Au rfl rfl rfl (.there (.here)) (.put (.done)) rfl (List.cons_ne_nil _ _) one3.2 ?_) ?_;rotate_left;exact Ao;refine P_p rfl rfl (Ay rfl rfl Un (by decide) (by decide) rfl) rfl ?_;refine P_h rfl rfl (Au rfl rfl rfl (.here) (.put (.done)) rfl (List.cons_ne_nil _ _) one3.2 ?_) ?_;rotate_left;exact Ao;refine Y2 ?_;exact Mt (x5.Z.Lo,x6.Z.Hi) () hx63 trivial (by exact .pick 0 rfl (.pick 0 rfl (.pick 0 rfl (.pick 0 rfl (.pick 0 rfl (.refl))))))
    ·skip;refine P_h rfl rfl (Au rfl rfl rfl (.there (.here)) (.put (.done)) rfl (List.cons_ne_nil _ _) one3.2 ?_) ?_;rotate_left;exact Ao;refine P_x rfl (Cu (Ec (d:=3) rfl hp8 (sb 5) rfl one3) rfl ?_) ?_;rotate_left;exact Ao;refine P_p rfl rfl (Ay rfl rfl Un (by decide) (by decide) rfl) rfl ?_;refine P_h rfl rfl (Au rfl rfl rfl (.here) (.put (.done)) rfl (List.cons_ne_nil _ _) one3.2 ?_) ?_;rotate_left;exact Ao;refine Y2 ?_;exact Mt (x5.Z.Lo,x6.Z.Hi) () hx63 trivial (by exact .pick 0 rfl (.pick 0 rfl (.pick 0 rfl (.pick 0 rfl (.pick 0 rfl (.refl))))))
   ·skip;refine P_h rfl rfl (Au rfl rfl rfl (.there (.here)) (.put (.done)) rfl (List.cons_ne_nil _ _) one3.2 ?_) ?_;rotate_left;exact Ao;refine P_x rfl (Cu (Ai rfl (i:=4) rfl rfl Pv) rfl ?_) ?_;rotate_left;exact Ao;have hw87:=Has.low (E:=[]) ha0' hK;obtain ⟨b9,o9,j82,hA9,hj9,hl9,hp9⟩:=Has.at_idx hw87 h52;refine P_p rfl rfl (Bf rfl rfl hA9 (j:=j82) hj9 hl9 Qa) rfl ?_;refine P_p rfl rfl (Am rfl Qn rfl) rfl ?_;refine P_p rfl rfl (Am rfl Ux rfl) rfl ?_;refine P_x rfl (Cu (Ec (d:=3) rfl hp9 (sb 5) rfl one3) rfl ?_) ?_;rotate_left;exact Ao;refine P_p rfl rfl (Ay rfl rfl Un (by decide) (by decide) rfl) rfl ?_;refine P_h rfl rfl (Au rfl rfl rfl (.here) (.put (.done)) rfl (List.cons_ne_nil _ _) one3.2 ?_) ?_;rotate_left;exact Ao;refine Y2 ?_;exact Mt (x5.Z.Lo,x6.Z.Hi) () hx63 trivial (by exact .pick 0 rfl (.pick 0 rfl (.pick 0 rfl (.pick 0 rfl (.pick 0 rfl (.refl))))))
 ·obtain ⟨r8,h9,hx18⟩:=Ad hx6;obtain ⟨r2,h12,hx19⟩:=Ad hx18;obtain ⟨r3,h15,hx20⟩:=Ad hx19;refine T_dr [0,1,0,1,1,2,0,1,0,1,1,2,0,1,0,1,1,2,0,2,3] (.q 0 (.q 1 (.q 2 (.q 3 (.q 4 (.q 6 (.q 7 (.q 8 (.q 9 (.q 10 (.q 12 (.q 13 (.q 14 (.q 15 (.q 16 (.e 5 (.e 11 (.e 17 (.q 18 (.e 19 (.e 20 (.done) (.stop)) (.stop))) (.e 19 (.e 17 (.q 18 (.e 20 (.done) (.stop))) (.stop)) (.stop))) (.e 19 (.e 11 (.e 17 (.q 18 (.e 20 (.done) (.stop))) (.stop)) (.stop)) (.stop))) (.e 19 (.e 5 (.e 11 (.e 17 (.q 18 (.e 20 (.done) (.stop))) (.stop)) (.stop)) (.stop)) (.stop)))))))))))))))))) mixed (by kernel_rfl) (by kernel_rfl) ?_;refine P_p rfl rfl (Ay rfl rfl Zt (by decide) (by decide) rfl) rfl ?_;refine P_q rfl rfl (Bb rfl (i:=0) rfl rfl Sb) rfl ?_;refine P_p rfl rfl (Ay rfl rfl Zt (by decide) (by decide) rfl) rfl ?_;refine P_q rfl rfl (Bb rfl (i:=0) rfl rfl Sb) rfl ?_;refine P_q rfl rfl (Bb rfl (i:=2) rfl rfl Sb) rfl ?_;refine P_p rfl rfl (Ay rfl rfl Zt (by decide) (by decide) rfl) rfl ?_;refine P_q rfl rfl (Bb rfl (i:=0) rfl rfl Sb) rfl ?_;refine P_p rfl rfl (Ay rfl rfl Zt (by decide) (by decide) rfl) rfl ?_;refine P_q rfl rfl (Bb rfl (i:=0) rfl rfl Sb) rfl ?_;refine P_q rfl rfl (Bb rfl (i:=2) rfl rfl Sb) rfl ?_;refine P_p rfl rfl (Ay rfl rfl Zt (by decide) (by decide) rfl) rfl ?_;refine P_q rfl rfl (Bb rfl (i:=0) rfl rfl Sb) rfl ?_
  refine P_p rfl rfl (Ay rfl rfl Zt (by decide) (by decide) rfl) rfl ?_;refine P_q rfl rfl (Bb rfl (i:=0) rfl rfl Sb) rfl ?_;refine P_q rfl rfl (Bb rfl (i:=2) rfl rfl Sb) rfl ?_;refine P_x rfl (Be rfl (fun w1 hw1=>Eh (⟨r4.a1.X,r4.a1.Y⟩:Ac) (⟨r4.a2.X,r4.a2.Y⟩:Ac) p2  h9 w1) rfl ?_) ?_
  ·skip;rintro _ _ hlo ⟨rfl,rfl,-⟩;refine Dh ?_;refine P_x rfl (Be rfl (fun w1 hw1=>Eh (⟨r4.a2.X,r4.a2.Y⟩:Ac) (⟨r4.a0.X,r4.a0.Y⟩:Ac) p2  h12 w1) rfl ?_) ?_
   ·skip;rintro _ _ hlo ⟨rfl,rfl,-⟩;refine Dh ?_;refine P_x rfl (Be rfl (fun w1 hw1=>Eh (⟨r4.a0.X,r4.a0.Y⟩:Ac) (⟨r4.a1.X,r4.a1.Y⟩:Ac) p2  h15 w1) rfl ?_) ?_
    ·skip;rintro _ _ hlo ⟨rfl,rfl,-⟩;refine Dh ?_;refine P_p rfl rfl (Bp rfl (Gs _ _ _)) rfl ?_;refine P_x rfl (Bn Ae5 rfl (fun g5=>?_)) ?_;rotate_left;exact Ao;refine P_h rfl rfl (Au rfl rfl rfl (.here) (.put (.put (.put (.done)))) rfl (List.cons_ne_nil _ _) Yw.2 ?_) ?_;rotate_left;exact Ao;refine Y ?_;exact Mt (r8,r2,r3) g5 hx20 trivial (by exact .pick 0 rfl (.pick 1 rfl (.pick 2 rfl (.drop 0 rfl (.drop 0 rfl (.refl))))))
    ·skip;refine P_x rfl (Bn Ae5 rfl (fun g6=>?_)) ?_;rotate_left;exact Ao;refine Pc (fun w1 hw1=>Eh (⟨r4.a0.X,r4.a0.Y⟩:Ac) (⟨r4.a1.X,r4.a1.Y⟩:Ac) p2  h15 w1) ?_;refine P_p rfl rfl (Bp rfl (Gs _ _ _)) rfl ?_;refine P_h rfl rfl (Au rfl rfl rfl (.here) (.put (.put (.put (.done)))) rfl (List.cons_ne_nil _ _) Yw.2 ?_) ?_;rotate_left;exact Ao;refine Y ?_;exact Mt (r8,r2,r3) g6 hx20 trivial (by exact .pick 0 rfl (.pick 1 rfl (.pick 2 rfl (.drop 0 rfl (.drop 0 rfl (.refl))))))
   ·skip;refine P_x rfl (Bn Ae5 rfl (fun g8=>?_)) ?_;rotate_left;exact Ao;refine Pc (fun w1 hw1=>Eh (⟨r4.a2.X,r4.a2.Y⟩:Ac) (⟨r4.a0.X,r4.a0.Y⟩:Ac) p2  h12 w1) ?_;refine Pc (fun w1 hw1=>Eh (⟨r4.a0.X,r4.a0.Y⟩:Ac) (⟨r4.a1.X,r4.a1.Y⟩:Ac) p2  h15 w1) ?_;refine P_p rfl rfl (Bp rfl (Gs _ _ _)) rfl ?_;refine P_h rfl rfl (Au rfl rfl rfl (.here) (.put (.put (.put (.done)))) rfl (List.cons_ne_nil _ _) Yw.2 ?_) ?_;rotate_left;exact Ao;refine Y ?_;exact Mt (r8,r2,r3) g8 hx20 trivial (by exact .pick 0 rfl (.pick 1 rfl (.pick 2 rfl (.drop 0 rfl (.drop 0 rfl (.refl))))))
  ·skip;refine P_x rfl (Bn Ae5 rfl (fun g9=>?_)) ?_;rotate_left;exact Ao;refine Pc (fun w1 hw1=>Eh (⟨r4.a1.X,r4.a1.Y⟩:Ac) (⟨r4.a2.X,r4.a2.Y⟩:Ac) p2  h9 w1) ?_;refine Pc (fun w1 hw1=>Eh (⟨r4.a2.X,r4.a2.Y⟩:Ac) (⟨r4.a0.X,r4.a0.Y⟩:Ac) p2  h12 w1) ?_;refine Pc (fun w1 hw1=>Eh (⟨r4.a0.X,r4.a0.Y⟩:Ac) (⟨r4.a1.X,r4.a1.Y⟩:Ac) p2  h15 w1) ?_;refine P_p rfl rfl (Bp rfl (Gs _ _ _)) rfl ?_;refine P_h rfl rfl (Au rfl rfl rfl (.here) (.put (.put (.put (.done)))) rfl (List.cons_ne_nil _ _) Yw.2 ?_) ?_;rotate_left;exact Ao;refine Y ?_;exact Mt (r8,r2,r3) g9 hx20 trivial (by exact .pick 0 rfl (.pick 1 rfl (.pick 2 rfl (.drop 0 rfl (.drop 0 rfl (.refl))))))
set_option maxHeartbeats 1000000 in
set_option maxRecDepth 100000 in
instance surface_Bounds_c (p0:Bu) (p1:Int) (p2:Ac):Con (Jf p0 p1 p2) Tryz.prog 115 (fun K vs=>∃ (A0_0:Option Addr) (c0_0:Nat) (A0_1:Option Addr) (c0_1:Nat) (A0_2:Option Addr) (c0_2:Nat),vs=[.agg #[.slice (A0_0) ((p0.V).length) (c0_0),.slice (A0_1) ((p0.T).length) (c0_1),.slice (A0_2) ((p0.Lines).length) (c0_2)],.int .i64 (p1),.agg #[.int .i64 (p2.X),.int .i64 (p2.Y)]]∧Has K A0_0 (p0.V).length c0_0 4 Ak (p0.V)∧Has K A0_1 (p0.T).length c0_1 3 Bk (p0.T)∧Has K A0_2 (p0.Lines).length c0_2 2 Al (p0.Lines)∧True) (fun _ r=>fun v Ln=>v = .agg #[.int .i64 (r.Lo),.int .i64 (r.Hi)]∧Ln=[]∧True):=⟨by
 rintro K _ r ⟨A0_0,c0_0,A0_1,c0_1,A0_2,c0_2,rfl,ha0,ha1,ha2,-⟩ hx w hK;exact Tn p0 p1 p2 ha0 ha1 ha2 hx w hK⟩
end Go.Proofs.YtebkcipolijfmaaGreat
