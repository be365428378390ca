/- Walks of the program, with their plain functions: ModelLimits. -/
import Derived.Test.YtebkcipolijfmaaGreatN2
namespace Go.Proofs.YtebkcipolijfmaaGreat
open Go Go.RowKit
theorem Awv:Iw Tryz.prog 66 [.bool (false),.slice (none) (0) (0)]:=⟨_,Tryz.zeroValue66,rfl⟩
instance:Qb Tryz.prog 66 [.bool (false),.slice (none) (0) (0)]:=⟨Awv⟩
theorem Aj8 (x0:Bool) (x1:Option Addr) (x2:Nat) (x3:Nat):Fh Tryz.prog 66 [(0,.bool x0),(1,.slice x1 x2 x3)] [.bool x0,.slice x1 x2 x3]:=fun w=>by kernel_rfl
instance (x0:Bool) (x1:Option Addr) (x2:Nat) (x3:Nat):Jh Tryz.prog 66 [(0,.bool x0),(1,.slice x1 x2 x3)] [.bool x0,.slice x1 x2 x3]:=⟨Aj8 _ _ _ _⟩
theorem Aww:Lc Tryz.prog 66 2:=.mk Tryz.underlying66 rfl (show Tryz.prog.info? 66=some Tryz.t66 from by kernel_rfl) (by kernel_rfl)
instance:AggI Tryz.prog 66 2:=⟨Aww⟩
theorem Auo:Iw Tryz.prog 68 [.bool (false),.slice (none) (0) (0),.slice (none) (0) (0)]:=⟨_,Tryz.zeroValue68,rfl⟩
instance:Qb Tryz.prog 68 [.bool (false),.slice (none) (0) (0),.slice (none) (0) (0)]:=⟨Auo⟩
theorem Aaj (x0:Bool) (x1:Option Addr) (x2:Nat) (x3:Nat) (x4:Option Addr) (x5:Nat) (x6:Nat):Fh Tryz.prog 68 [(0,.agg #[.bool x0,.slice x1 x2 x3]),(1,.slice x4 x5 x6)] [.bool x0,.slice x1 x2 x3,.slice x4 x5 x6]:=fun w=>by kernel_rfl
instance (x0:Bool) (x1:Option Addr) (x2:Nat) (x3:Nat) (x4:Option Addr) (x5:Nat) (x6:Nat):Jh Tryz.prog 68 [(0,.agg #[.bool x0,.slice x1 x2 x3]),(1,.slice x4 x5 x6)] [.bool x0,.slice x1 x2 x3,.slice x4 x5 x6]:=⟨Aaj _ _ _ _ _ _ _⟩
theorem Apy:Lc Tryz.prog 68 3:=.mk Tryz.underlying68 rfl (show Tryz.prog.info? 68=some Tryz.t68 from by kernel_rfl) (by kernel_rfl)
instance:AggI Tryz.prog 68 3:=⟨Apy⟩
theorem Ag2 (x0:Int):Dm Tryz.prog 56 1 [(0,.int .u32 x0)] 102 [.int .u32 x0]:=fun w=>by kernel_rfl
instance (x0:Int):Mm Tryz.prog 56 1 [(0,.int .u32 x0)] 102 [.int .u32 x0]:=⟨Ag2 _⟩
theorem Awx:Sh Tryz.prog 56 102 1 4:=⟨Tryz.underlying56,⟨Tryz.t102,.int .u32 (0),by kernel_rfl,by kernel_rfl,by kernel_rfl,by kernel_rfl,rfl⟩,by decide⟩
instance:Yx Tryz.prog 56 102 1 4:=⟨Awx⟩
theorem As6:Ck Tryz.prog 68 0 0:=.mk Tryz.underlying68 rfl rfl (show Tryz.prog.info? 66=some Tryz.t66 from by kernel_rfl) (show Tryz.t66.size=2 from by kernel_rfl) rfl
instance:Dq Tryz.prog 68 0 0:=⟨As6⟩
theorem As7:Ck Tryz.prog 66 1 1:=.mk Tryz.underlying66 rfl rfl (show Tryz.prog.info? 64=some Tryz.t64 from by kernel_rfl) (show Tryz.t64.size=1 from by kernel_rfl) rfl
instance:Dq Tryz.prog 66 1 1:=⟨As7⟩
theorem Awy:Mn Tryz.prog 64:=.mk Tryz.underlying64 rfl (show Tryz.prog.info? 64=some Tryz.t64 from by kernel_rfl) (by kernel_rfl)
instance:OneI Tryz.prog 64:=⟨Awy⟩
theorem As8:Ck Tryz.prog 68 1 2:=.mk Tryz.underlying68 rfl rfl (show Tryz.prog.info? 64=some Tryz.t64 from by kernel_rfl) (show Tryz.t64.size=1 from by kernel_rfl) rfl
instance:Dq Tryz.prog 68 1 2:=⟨As8⟩
theorem As9:Ck Tryz.prog 66 0 0:=.mk Tryz.underlying66 rfl rfl (show Tryz.prog.info? 4=some Tryz.t4 from by kernel_rfl) (show Tryz.t4.size=1 from by kernel_rfl) rfl
instance:Dq Tryz.prog 66 0 0:=⟨As9⟩
theorem Ag3 (x0:Bool) (x1:Option Addr) (x2:Nat) (x3:Nat) (x4:Option Addr) (x5:Nat) (x6:Nat):Fh Tryz.prog 58 [(0,.bool x0),(1,.slice x1 x2 x3),(2,.slice x4 x5 x6)] [.bool x0,.slice x1 x2 x3,.slice x4 x5 x6]:=fun w=>by kernel_rfl
instance (x0:Bool) (x1:Option Addr) (x2:Nat) (x3:Nat) (x4:Option Addr) (x5:Nat) (x6:Nat):Jh Tryz.prog 58 [(0,.bool x0),(1,.slice x1 x2 x3),(2,.slice x4 x5 x6)] [.bool x0,.slice x1 x2 x3,.slice x4 x5 x6]:=⟨Ag3 _ _ _ _ _ _ _⟩
theorem Awz:Hg Tryz.prog 56 102 1:=.mk Tryz.underlying56 (show Tryz.prog.info? 102=some Tryz.t102 from by kernel_rfl) (by kernel_rfl)
instance:Lb Tryz.prog 56 102 1:=⟨Awz⟩
theorem Rd (x0:Int) (x1:Int) (x2:Int):Fh Tryz.prog 101 [(2,.int .i64 x0),(3,.int .i64 x1),(4,.int .i64 x2)] [.int .i64 (0),.int .i64 (0),.int .i64 x0,.int .i64 x1,.int .i64 x2]:=fun w=>by kernel_rfl
instance (x0:Int) (x1:Int) (x2:Int):Jh Tryz.prog 101 [(2,.int .i64 x0),(3,.int .i64 x1),(4,.int .i64 x2)] [.int .i64 (0),.int .i64 (0),.int .i64 x0,.int .i64 x1,.int .i64 x2]:=⟨Rd _ _ _⟩
theorem Ms (x0:Int) (x1:Int) (x2:Int) (x3:Int) (x4:Int) (x5:Option Addr) (x6:Nat) (x7:Nat):Fh Tryz.prog 108 [(0,.agg #[.int .i64 x0,.int .i64 x1,.int .i64 x2,.int .i64 x3,.int .i64 x4]),(1,.slice x5 x6 x7)] [.int .i64 x0,.int .i64 x1,.int .i64 x2,.int .i64 x3,.int .i64 x4,.slice x5 x6 x7]:=fun w=>by kernel_rfl
instance (x0:Int) (x1:Int) (x2:Int) (x3:Int) (x4:Int) (x5:Option Addr) (x6:Nat) (x7:Nat):Jh Tryz.prog 108 [(0,.agg #[.int .i64 x0,.int .i64 x1,.int .i64 x2,.int .i64 x3,.int .i64 x4]),(1,.slice x5 x6 x7)] [.int .i64 x0,.int .i64 x1,.int .i64 x2,.int .i64 x3,.int .i64 x4,.slice x5 x6 x7]:=⟨Ms _ _ _ _ _ _ _ _⟩
theorem Ib (x0:Bool) (x1:Int) (x2:Int) (x3:Bool) (x4:Int) (x5:Int):Dm Tryz.prog 106 2 [(0,.agg #[.bool x0,.int .i64 x1,.int .i64 x2]),(1,.agg #[.bool x3,.int .i64 x4,.int .i64 x5])] 112 [.bool x0,.int .i64 x1,.int .i64 x2,.bool x3,.int .i64 x4,.int .i64 x5]:=fun w=>by kernel_rfl
instance (x0:Bool) (x1:Int) (x2:Int) (x3:Bool) (x4:Int) (x5:Int):Mm Tryz.prog 106 2 [(0,.agg #[.bool x0,.int .i64 x1,.int .i64 x2]),(1,.agg #[.bool x3,.int .i64 x4,.int .i64 x5])] 112 [.bool x0,.int .i64 x1,.int .i64 x2,.bool x3,.int .i64 x4,.int .i64 x5]:=⟨Ib _ _ _ _ _ _⟩
theorem Aio:Ck Tryz.prog 104 0 0:=.mk Tryz.underlying104 rfl rfl (show Tryz.prog.info? 32=some Tryz.t32 from by kernel_rfl) (show Tryz.t32.size=3 from by kernel_rfl) rfl
instance:Dq Tryz.prog 104 0 0:=⟨Aio⟩
theorem Aip:Ck Tryz.prog 104 1 3:=.mk Tryz.underlying104 rfl rfl (show Tryz.prog.info? 101=some Tryz.t101 from by kernel_rfl) (show Tryz.t101.size=5 from by kernel_rfl) rfl
instance:Dq Tryz.prog 104 1 3:=⟨Aip⟩
theorem Aiq:Ck Tryz.prog 104 2 8:=.mk Tryz.underlying104 rfl rfl (show Tryz.prog.info? 102=some Tryz.t102 from by kernel_rfl) (show Tryz.t102.size=1 from by kernel_rfl) rfl
instance:Dq Tryz.prog 104 2 8:=⟨Aiq⟩
theorem Air:Ck Tryz.prog 104 3 9:=.mk Tryz.underlying104 rfl rfl (show Tryz.prog.info? 102=some Tryz.t102 from by kernel_rfl) (show Tryz.t102.size=1 from by kernel_rfl) rfl
instance:Dq Tryz.prog 104 3 9:=⟨Air⟩
theorem Aj9:Iw Tryz.prog 101 [.int .i64 (0),.int .i64 (0),.int .i64 (0),.int .i64 (0),.int .i64 (0)]:=⟨_,Tryz.zeroValue101,rfl⟩
instance:Qb Tryz.prog 101 [.int .i64 (0),.int .i64 (0),.int .i64 (0),.int .i64 (0),.int .i64 (0)]:=⟨Aj9⟩
theorem Apz (a0:Bool) (a1:Int) (a2:Int) (b0:Bool) (b1:Int) (b2:Int):∀ w,(Op.equalIn 10000 112 (.agg #[.bool (a0),.int .i64 (a1),.int .i64 (a2)]) (.agg #[.bool (b0),.int .i64 (b1),.int .i64 (b2)])).run Tryz.prog w = .ok ((((a0) == (b0)) && ((((a1) == (b1)) && (((a2) == (b2)) && true)) && true))) w :=
 EqF.struct Tryz.underlying112 (by kernel_rfl) (.cons rfl (fun w=>by kernel_rfl) (fun w=>by kernel_rfl) (fun w=>run_equalIn_bool' w 9998 4 _ _ Tryz.underlying4) (.cons (a:=.agg #[.int .i64 (a1),.int .i64 (a2)]) (b:=.agg #[.int .i64 (b1),.int .i64 (b2)]) rfl (fun w=>by kernel_rfl) (fun w=>by kernel_rfl) (EqF.struct Tryz.underlying41 (by kernel_rfl) (.cons rfl (fun w=>by kernel_rfl) (fun w=>by kernel_rfl) (fun w=>run_equalIn_int w 9997 3 .i64 .i64 _ _ Tryz.underlying3) (.cons rfl (fun w=>by kernel_rfl) (fun w=>by kernel_rfl) (fun w=>run_equalIn_int w 9997 3 .i64 .i64 _ _ Tryz.underlying3) (EqF.nil)))) (EqF.nil)))
instance (a0:Bool) (a1:Int) (a2:Int) (b0:Bool) (b1:Int) (b2:Int):EqSI Tryz.prog 112 [.bool (a0),.int .i64 (a1),.int .i64 (a2)] [.bool (b0),.int .i64 (b1),.int .i64 (b2)] ((((a0) == (b0)) && ((((a1) == (b1)) && (((a2) == (b2)) && true)) && true))):=⟨Apz _ _ _ _ _ _,by kernel_rfl⟩
noncomputable def Iq (p0:Ac):Option Bool :=
 jn (fun (s2:Bool) =>
 some s2)
 (fun j2=>if (-268435456)≤p0.X then (if p0.X≤268435456 then (if (-268435456)≤p0.Y then (j2 (decide (p0.Y≤268435456)))
 else (j2 false))
 else (j2 false))
 else (j2 false))
noncomputable def Ee (p0:Bj):Option Bool :=
 jn (fun (s3:Bool) =>
 if s3=true then (some false)
 else (bnd (Iq (⟨w64 (p0.X0+(w64 ((w64 (p0.NX-1))*p0.Step))),w64 (p0.Y0+(w64 ((w64 (p0.NY-1))*p0.Step)))⟩:Ac)) fun r0 =>
 some r0))
 (fun j3=>if p0.Step < 1 then (j3 true)
 else (if 1000000 < p0.Step then (j3 true)
 else (if p0.NX < 1 then (j3 true)
 else (if 64 < p0.NX then (j3 true)
 else (if p0.NY < 1 then (j3 true)
 else (if 64 < p0.NY then (j3 true)
 else (bnd (Iq (⟨p0.X0,p0.Y0⟩:Ac)) fun r1 =>
 j3 (!(r1)))))))))
noncomputable def Fv  : (Int × (List Int))→Option (Sum (Int × (List Int)) (List Int)):=fun s0 =>
 if 0 < s0.1 then (gd (((s0.2).length+1)*8≤140737488355328) <|
 some (.inl (wu64 (Int.tdiv s0.1 65536),s0.2++[w64 (Int.tmod s0.1 65536)])))
 else (some (.inr s0.2))
noncomputable def Kw (p0:Int):Option Nl :=
 jn (fun (s3:Int) =>
 jn (fun (s6:List Int) =>
 some (⟨decide (p0 < 0),s6⟩:Nl))
 (fun j6=>bnd (lfix (Fv) (s3,([]:List Int))) fun t0 =>
 j6 t0))
 (fun j3=>if p0 < 0 then (j3 (wu64 (-(wu64 (p0)))))
 else (j3 (wu64 (p0))))
noncomputable def Gn (p0:Int):Option Er :=
 bnd (Kw p0) fun r2 =>
 some (⟨r2,[1]⟩:Er)
noncomputable def Fw (p0:List Int):((List Int) × Int)→Option (Sum ((List Int) × Int) (List Int)):=fun s0 =>
 if s0.2 < ((((p0).length:Nat):Int)) then (bnd (idx p0 s0.2) fun x0 =>
 jn (fun (s1:Int) =>
 gd (((s0.1).length+1)*4≤140737488355328) <|
 some (.inl (s0.1++[s1],w64 (s0.2+2))))
 (fun j0=>if (w64 (s0.2+1)) < ((((p0).length:Nat):Int)) then (bnd (idx p0 (w64 (s0.2+1))) fun x1 =>
 j0 (wu32 ((wu32 (x0))+(wu32 ((wu32 (x1))*65536)))))
 else (j0 (wu32 (x0)))))
 else (some (.inr s0.1))
noncomputable def Ir (p0:List Int):Option ((List Int) × Bool) :=
 if 512 < ((((p0).length:Nat):Int)) then (some (([]:List Int),false))
 else (jn (fun (s6:List Int) =>
 some (s6,true))
 (fun j6=>bnd (lfix (Fw p0) (([]:List Int),0)) fun t0 =>
 j6 t0))
noncomputable def Mu (p0:Er):Option (Bc × Int) :=
 bnd (Ir p0.N.L) fun r3 =>
 bnd (Ir p0.D) fun r8 =>
 jn (fun (s5:Bool) =>
 if s5=true then (some ((⟨false,([]:List Int),([]:List Int)⟩:Bc),1))
 else (jn (fun (s7:List Int) =>
 some ((⟨p0.N.Neg,r3.1,s7⟩:Bc),0))
 (fun j7=>jn (fun (s8:Bool) =>
 if s8=true then (j7 ([]:List Int))
 else (j7 r8.1))
 (fun j8=>if ((((p0.D).length:Nat):Int))=1 then (bnd (idx p0.D 0) fun x0 =>
 j8 (decide (x0=1)))
 else (j8 false)))))
 (fun j5=>if r3.2=true then (j5 (!(r8.2)))
 else (j5 true))
instance:UndI Tryz.prog 56 (.slice 102):=⟨Tryz.underlying56⟩
noncomputable def Gp (p0:Bc) (r3:Bc × Int):Int→Option (Sum Int (Sum Unit Bool)):=fun s0 =>
 if s0 < ((((p0.Num).length:Nat):Int)) then (bnd (idx p0.Num s0) fun x0 =>
 bnd (idx r3.1.Num s0) fun x1 =>
 if x0=x1 then (some (.inl (w64 (s0+1))))
 else (some (.inr (.inr (false)))))
 else (some (.inr (.inl ())))
noncomputable def Kn (p0:Bc) (r3:Bc × Int):Int→Option (Sum Int (Sum Unit Bool)):=fun s0 =>
 if s0 < ((((p0.Den).length:Nat):Int)) then (bnd (idx p0.Den s0) fun x0 =>
 bnd (idx r3.1.Den s0) fun x1 =>
 if x0=x1 then (some (.inl (w64 (s0+1))))
 else (some (.inr (.inr (false)))))
 else (some (.inr (.inl ())))
noncomputable def Hp (p0:Bc) (p1:Er):Option Bool :=
 bnd (Mu p1) fun r3 =>
 jn (fun (s4:Bool) =>
 if s4=true then (some false)
 else (jn (fun (s6:Unit) =>
 jn (fun (s0:Unit) =>
 some true)
 (fun j0=>bnd (lfix (Kn p0 r3) 0) fun t0 =>
 (match t0 with
 | (.inl z0)=>j0 z0
 | (.inr (z0))=>some z0
 )))
 (fun j6=>bnd (lfix (Gp p0 r3) 0) fun t1 =>
 (match t1 with
 | (.inl z1)=>j6 z1
 | (.inr (z1))=>some z1
 ))))
 (fun j4=>if r3.2=0 then (if ((p0.Neg) == (r3.1.Neg))=true then (if ((((p0.Num).length:Nat):Int))=((((r3.1.Num).length:Nat):Int)) then (j4 (!(decide (((((p0.Den).length:Nat):Int))=((((r3.1.Den).length:Nat):Int))))))
 else (j4 true))
 else (j4 true))
 else (j4 true))
noncomputable def Iv (p0:List Az):Option Aw :=
 some (⟨(⟨0,0,10,(((p0).length:Nat):Int),1⟩:Bj),p0⟩:Aw)
noncomputable def Fe (p0:Int) (p1:Int):Option Az :=
 some (⟨false,(⟨p0,p1⟩:Av)⟩:Az)
noncomputable def Ef  : Option Bool :=
 bnd (Fe 1 3) fun r1 =>
 bnd (Fe 0 1) fun r4 =>
 bnd (Iv ([(⟨r1.Void,(⟨r1.Z.Lo,r1.Z.Hi⟩:Av)⟩:Az),(⟨r4.Void,(⟨r4.Z.Lo,r4.Z.Hi⟩:Av)⟩:Az)])) fun r9 =>
 bnd (Fe 4 5) fun r0 =>
 bnd (Fe 5 7) fun r2 =>
 bnd (Iv ([(⟨r0.Void,(⟨r0.Z.Lo,r0.Z.Hi⟩:Av)⟩:Az),(⟨r2.Void,(⟨r2.Z.Lo,r2.Z.Hi⟩:Av)⟩:Az)])) fun r3 =>
 bnd (Ij r9 r3) fun r5 =>
 bnd (Lh r9 r3 ([1])) fun r6 =>
 jn (fun (s5:Bool) =>
 some s5)
 (fun j5=>if r5.2=0 then (if ((((r5.1).length:Nat):Int))=2 then (bnd (idx r5.1 0) fun x0 =>
 if x0=1 then (bnd (idx r5.1 1) fun x1 =>
 if x1=1 then (if r6.2.2=0 then (bnd (Gn 400) fun r7 =>
 bnd (Hp r6.1 r7) fun r8 =>
 if r8=true then (bnd (Gn 700) fun r99 =>
 bnd (Hp r6.2.1 r99) fun r10 =>
 j5 r10)
 else (j5 false))
 else (j5 false))
 else (j5 false))
 else (j5 false))
 else (j5 false))
 else (j5 false))
structure Ei where
 M:Bu
 F:Bj
 Low:Int
 High:Int
noncomputable def Dz (r0:Aw × Int) (r1:Aw × Int):Int→Option (Sum Int (Sum Unit Bool)):=fun s0 =>
 if s0 < ((((r0.1.Cells).length:Nat):Int)) then (jn (fun (s1:Bool) =>
 if s1=true then (some (.inr (.inr (false))))
 else (some (.inl (w64 (s0+1)))))
 (fun j0=>bnd (idx r0.1.Cells s0) fun x0 =>
 if x0.Void=true then (j0 false)
 else (bnd (idx r0.1.Cells s0) fun x1 =>
 bnd (idx r1.1.Cells s0) fun x2 =>
 j0 (!((((x1.Void) == (x2.Void)) && ((((x1.Z.Lo) == (x2.Z.Lo)) && (((x1.Z.Hi) == (x2.Z.Hi)) && true)) && true)))))))
 else (some (.inr (.inl ())))
noncomputable def Fn (p0:Ei):Option Bool :=
 jn (fun (s2:Unit) =>
 jn (fun (s4:Bool) =>
 if s4=true then (bnd (Ef) fun r0 =>
 some r0)
 else (bnd (Id p0.M p0.F (min (Int.tmod (w64 (p0.Low)) 1073741824) (Int.tmod (w64 (p0.High)) 1073741824))) fun r1 =>
 bnd (Id p0.M p0.F (max (Int.tmod (w64 (p0.Low)) 1073741824) (Int.tmod (w64 (p0.High)) 1073741824))) fun r2 =>
 jn (fun (s0:Bool) =>
 if s0=true then (some false)
 else (if r1.2=0 then (jn (fun (s1:Bool) =>
 if s1=true then (some false)
 else (jn (fun (s3:Unit) =>
 bnd (Ef) fun r3 =>
 some r3)
 (fun j0=>bnd (lfix (Dz r1 r2) 0) fun t0 =>
 (match t0 with
 | (.inl z0)=>j0 z0
 | (.inr (z0))=>some z0
 ))))
 (fun j1=>if ((((r1.1.Cells).length:Nat):Int))=(w64 (p0.F.NX*p0.F.NY)) then (if ((((r2.1.Cells).length:Nat):Int))=((((r1.1.Cells).length:Nat):Int)) then (if ((((r1.1.Raster.X0) == (p0.F.X0)) && (((r1.1.Raster.Y0) == (p0.F.Y0)) && (((r1.1.Raster.Step) == (p0.F.Step)) && (((r1.1.Raster.NX) == (p0.F.NX)) && (((r1.1.Raster.NY) == (p0.F.NY)) && true))))))=true then (j1 (!((((r2.1.Raster.X0) == (p0.F.X0)) && (((r2.1.Raster.Y0) == (p0.F.Y0)) && (((r2.1.Raster.Step) == (p0.F.Step)) && (((r2.1.Raster.NX) == (p0.F.NX)) && (((r2.1.Raster.NY) == (p0.F.NY)) && true))))))))
 else (j1 true))
 else (j1 true))
 else (j1 true)))
 else (jn (fun (s5:Bool) =>
 some s5)
 (fun j3=>if ((((r1.1.Cells).length:Nat):Int))=0 then (if ((((r2.1.Cells).length:Nat):Int))=0 then (bnd (Ef) fun r4 =>
 j3 r4)
 else (j3 false))
 else (j3 false)))))
 (fun j5=>if r1.2=r2.2 then (if r1.2=0 then (j5 false)
 else (j5 (!(decide (r1.2=64)))))
 else (j5 true))))
 (fun j4=>if 12 < ((((p0.M.V).length:Nat):Int)) then (j4 true)
 else (if 40 < ((((p0.M.T).length:Nat):Int)) then (j4 true)
 else (if 20 < ((((p0.M.Lines).length:Nat):Int)) then (j4 true)
 else (bnd (Ee p0.F) fun r5 =>
 if r5=true then (j4 (decide (40 < (w64 (p0.F.NX*p0.F.NY)))))
 else (j4 true))))))
 (fun j2=>j2 ())
set_option maxRecDepth 100000 in
instance lidarref01_Place_c (p0:Ac):Con (Iq p0) Tryz.prog 104 (fun _ vs=>vs=[.agg #[.int .i64 (p0.X),.int .i64 (p0.Y)]]) (fun _ r=>fun v Ln=>v = .bool (r)∧Ln=[]∧True):=⟨by
 rintro _ _ r rfl hx w hK;unfold Iq at hx;refine CtS Tryz.ntmps104 Tryz.results104 ?_;exact au⟩
set_option maxHeartbeats 1000000 in
set_option maxRecDepth 100000 in
instance Ts (p0:Bj):Con (Ee p0) Tryz.prog 51 (fun _ vs=>vs=[.agg #[.int .i64 (p0.X0),.int .i64 (p0.Y0),.int .i64 (p0.Step),.int .i64 (p0.NX),.int .i64 (p0.NY)]]) (fun _ r=>fun v Ln=>v = .bool (r)∧Ln=[]∧True):=⟨by
 rintro _ _ r rfl hx w hK;unfold Ee at hx;refine CtS Tryz.ntmps51 Tryz.results51 ?_;refine pre ?_;intros;rename_i hx
 refine Im ?_;refine pre ?_;intros;rename_i hx
 refine Im ?_;refine pre ?_;intros;rename_i hx
 apply Jr (γ:=Unit) hx [1] (fun s3 y3 f=>(39,.bool (s3))::f) [0,999] (fun s3 y3 l=>l);exact kk
 ·intro s3 y3 hx;exact au
 ·intro _ hx;refine pre ?_;intros;rename_i hx
  refine Cq1 (s:=6) hx rfl (fun _ hx=>?_) (fun _ hx=>?_)
  ·exact au
  ·exact au⟩
theorem Sx (p0:Bj)  {r:Bool} (hx:Ee p0=some r) (w:World):CtL Tryz.prog 51 [.agg #[.int .i64 (p0.X0),.int .i64 (p0.Y0),.int .i64 (p0.Step),.int .i64 (p0.NX),.int .i64 (p0.NY)]] w fun v Ln=>v = .bool (r)∧Ln=[]∧True:=(Ts p0).h [] _ _ rfl hx w (fun _ h=>absurd h List.not_mem_nil)
set_option maxHeartbeats 1000000 in
set_option maxRecDepth 100000 in
instance Zg (p0:Int):Con (Kw p0) Tryz.prog 90 (fun _ vs=>vs=[.int .i64 (p0)]) (fun _ r=>fun v Ln=>∃ (A0:Option Addr) (c0:Nat),v = .agg #[.bool (r.Neg),.slice (A0) ((r.L).length) (c0)]∧Ln=[.r A0 (r.L).length c0 3 1 ((r.L).flatMap Cc)]∧True):=⟨by
 rintro _ _ r rfl hx w hK;unfold Kw at hx;refine CtS Tryz.ntmps90 Tryz.results90 ?_;refine pre ?_;intros;rename_i hx
 refine Im ?_;refine pre ?_;intros;rename_i hx
 refine Im ?_;refine pre ?_;intros;rename_i hx
 apply Jr (γ:=Unit) hx [0,2] (fun s3 y3 f=>(3,.int .u64 (s3))::f) [0,999] (fun s3 y3 l=>l);exact kk
 ·intro s3 y3 hx;refine pre ?_;intros;rename_i hx
  refine Im ?_;refine pre ?_;intros;rename_i hx
  apply Jr (γ:=(Option Addr) × Nat) hx [0,2] (fun s6 y6 f=>(4,.slice (y6.1) ((s6).length) (y6.2))::f) [0,999] (fun s6 y6 l=>.r (y6.1) ((s6).length) (y6.2) 3 1 ((s6).flatMap Cc)::l);exact kk
  ·intro s6 y6 hx;exact au
  ·intro _ hx;refine pre ?_;intros;rename_i hx
   refine Bi 3 1 ?_
   apply Lr (γ:=(Option Addr) × Nat) hx [0,2] (fun s0 y0 f=>(3,.int .u64 (s0.1))::(4,.slice (y0.1) ((s0.2).length) (y0.2))::f) [1,999] (fun s0 y0 l=>.r (y0.1) ((s0.2).length) (y0.2) 3 1 ((s0.2).flatMap Cc)::l) (_,_);exact kk;exact sk;intro s0 y0 x0 hx _;unfold Fv at hx
   exact au
 ·intro _ hx;exact au⟩
theorem Yk (p0:Int)  {r:Nl} (hx:Kw p0=some r) (w:World):CtL Tryz.prog 90 [.int .i64 (p0)] w fun v Ln=>∃ (A0:Option Addr) (c0:Nat),v = .agg #[.bool (r.Neg),.slice (A0) ((r.L).length) (c0)]∧Ln=[.r A0 (r.L).length c0 3 1 ((r.L).flatMap Cc)]∧True:=(Zg p0).h [] _ _ rfl hx w (fun _ h=>absurd h List.not_mem_nil)
set_option maxRecDepth 100000 in
theorem Ns (p0:Int)  {r:Er} (hx:Gn p0=some r) (w:World):CtL Tryz.prog 33 [.int .i64 (p0)] w fun v Ln=>∃ (A0:Option Addr) (c0:Nat) (A2:Option Addr) (c2:Nat),v = .agg #[.bool (r.N.Neg),.slice (A0) (r.N.L.length) (c0),.slice (A2) (r.D.length) (c2)]∧Ln=[.r A0 r.N.L.length c0 3 1 (r.N.L.flatMap Cc),.r A2 r.D.length c2 3 1 (r.D.flatMap Cc)]∧True:=by
 refine CtL.mk 7 Tryz.func33 rfl Tryz.ntmps33 (by kernel_rfl) rfl ?_;show T 7 _ [(0,.int .i64 (p0))] _;unfold Gn at hx;refine Y2 ?_;refine T_x (Bn Auo rfl (fun g1=>?_));refine Y5 ?_;obtain ⟨r2,h3,hx4⟩:=Ad hx;refine T_x (Be rfl (fun w1 hw1=>Yk p0  h3 w1) rfl ?_);rintro _ _ hlo ⟨A5,c6,rfl,rfl,-⟩;refine Ha ?_;refine T_x (Bz rfl (Rl _) rfl (fun g7=>?_));refine Ag (Bp rfl (Aaj _ _ _ _ _ _ _)) rfl ?_;refine T_h (Au rfl rfl rfl (.there (.there (.here))) (.put (.put (.put (.done)))) rfl (List.cons_ne_nil _ _) Apy.2 ?_);refine Y3 ?_;refine T_mr (enc:=Cc) (sz:=1) ([1]) (.here) rfl rfl (fun _=>rfl) (by show 1≤maxLen;decide) ?_
 have hn8:1=([1]).length:=by simp [Cb,Co,List.length_append] <;> omega
 refine Hd (.here) (e':=.r (some ⟨g7,0,none⟩) (([1]).length) (1) 3 1 (([1]).flatMap Cc)) (by first | (rw [← hn8];done) | rfl) ?_;refine Hd (.there (.there (.here))) (e':=.m g1 68 [.bool (r2.Neg),.slice (A5) (r2.L.length) (c6),.slice (some ⟨g7,0,none⟩) (([1]).length) (1)]) (by first | (rw [show (1)=([1]).length from (by simp [Cb,Co,List.length_append] <;> omega)];done) | rfl) ?_;obtain rfl:=Option.some.inj hx4;exact Ce (rs:=[.cell 2 68]) Tryz.results33 (.cell rfl (i:=2) rfl rfl Apy (.nil)) (Ln:=[.r (A5) (r2.L.length) (c6) 3 1 (r2.L.flatMap Cc),.r (some ⟨g7,0,none⟩) (([1]).length) (1) 3 1 (([1]).flatMap Cc)]) ⟨A5,c6,(some ⟨g7,0,none⟩),1,rfl,rfl,trivial⟩ (Bd rfl (Bd rfl (Cm))) (by exact .pick 1 rfl (.pick 0 rfl (.drop 0 rfl (.refl))))
set_option maxRecDepth 100000 in
instance lidarref01_Whole_c (p0:Int):Con (Gn p0) Tryz.prog 33 (fun _ vs=>vs=[.int .i64 (p0)]) (fun _ r=>fun v Ln=>∃ (A0:Option Addr) (c0:Nat) (A2:Option Addr) (c2:Nat),v = .agg #[.bool (r.N.Neg),.slice (A0) ((r.N.L).length) (c0),.slice (A2) ((r.D).length) (c2)]∧Ln=[.r A0 (r.N.L).length c0 3 1 ((r.N.L).flatMap Cc),.r A2 (r.D).length c2 3 1 ((r.D).flatMap Cc)]∧True):=⟨by
 rintro _ _ r rfl hx w hK;exact Ns p0 hx w⟩
set_option maxHeartbeats 1000000 in
set_option maxRecDepth 100000 in
instance lidarref01_words_c (p0:List Int):Con (Ir p0) Tryz.prog 239 (fun K vs=>∃ (A0_0:Option Addr) (c0_0:Nat),vs=[.slice (A0_0) ((p0).length) (c0_0)]∧Has K A0_0 (p0).length c0_0 1 Cc (p0)∧True) (fun _ r=>fun v Ln=>∃ (A0:Option Addr) (c0:Nat),v = .tuple #[.slice (A0) ((r.1).length) (c0),.bool (r.2)]∧Ln=[.r A0 (r.1).length c0 102 1 ((r.1).flatMap Aj)]∧True):=⟨by
 rintro K _ r ⟨A0_0,c0_0,rfl,ha0,-⟩ hx w hK;replace ha0:=Has.lo ha0 hK;unfold Ir at hx;refine CtS Tryz.ntmps239 Tryz.results239 ?_;refine pre ?_;intros;rename_i hx
 refine Cq1 (s:=9) hx rfl (fun _ hx=>?_) (fun _ hx=>?_)
 ·exact au
 ·refine pre ?_;intros;rename_i hx
  refine Im ?_;refine pre ?_;intros;rename_i hx
  apply Jr (γ:=(Option Addr) × Nat) hx [] (fun s6 y6 f=>(4,.slice (y6.1) ((s6).length) (y6.2))::f) [999] (fun s6 y6 l=>.r (y6.1) ((s6).length) (y6.2) 102 1 ((s6).flatMap Aj)::l);exact kk
  ·intro s6 y6 hx;exact au
  ·intro _ hx;refine pre ?_;intros;rename_i hx
   refine Bi 102 1 ?_
   apply Lr (γ:=(Option Addr) × Nat) hx [0] (fun s0 y0 f=>(4,.slice (y0.1) ((s0.1).length) (y0.2))::(5,.int .i64 (s0.2))::f) [999] (fun s0 y0 l=>.r (y0.1) ((s0.1).length) (y0.2) 102 1 ((s0.1).flatMap Aj)::l) (_,_);exact kk;exact sk;intro s0 y0 x0 hx _;unfold Fw at hx
   exact au⟩
set_option maxHeartbeats 1000000 in
set_option maxRecDepth 100000 in
instance lidarref01_Out_c (p0:Er):Con (Mu p0) Tryz.prog 188 (fun K vs=>∃ (A0_0:Option Addr) (c0_0:Nat) (A0_1:Option Addr) (c0_1:Nat),vs=[.agg #[.bool (p0.N.Neg),.slice (A0_0) ((p0.N.L).length) (c0_0),.slice (A0_1) ((p0.D).length) (c0_1)]]∧Has K A0_0 (p0.N.L).length c0_0 1 Cc (p0.N.L)∧Has K A0_1 (p0.D).length c0_1 1 Cc (p0.D)∧True) (fun _ r=>fun v Ln=>∃ (A0:Option Addr) (c0:Nat) (A2:Option Addr) (c2:Nat),v = .tuple #[.agg #[.bool (r.1.Neg),.slice (A0) ((r.1.Num).length) (c0),.slice (A2) ((r.1.Den).length) (c2)],.int .i64 (r.2)]∧Ln=[.r A0 (r.1.Num).length c0 102 1 ((r.1.Num).flatMap Aj),.r A2 (r.1.Den).length c2 102 1 ((r.1.Den).flatMap Aj)]∧True):=⟨by
 rintro K _ r ⟨A0_0,c0_0,A0_1,c0_1,rfl,ha0,ha1,-⟩ hx w hK;replace ha0:=Has.lo ha0 hK;replace ha1:=Has.lo ha1 hK;unfold Mu at hx;refine CtS Tryz.ntmps188 Tryz.results188 ?_;refine pre ?_;intros;rename_i hx
 refine Im ?_;refine pre ?_;intros;rename_i hx
 apply Jr (γ:=Unit) hx [1,2,4,6] (fun s5 y5 f=>(26,.bool (s5))::f) [0,1,2,3,999] (fun s5 y5 l=>l);exact kk
 ·intro s5 y5 hx;exact au
 ·intro _ hx;exact au⟩
set_option maxHeartbeats 1000000 in
set_option maxRecDepth 100000 in
instance Aak (p0:Bc) (p1:Er):Con (Hp p0 p1) Tryz.prog 109 (fun K vs=>∃ (A0_0:Option Addr) (c0_0:Nat) (A0_1:Option Addr) (c0_1:Nat) (A0_2:Option Addr) (c0_2:Nat) (A0_3:Option Addr) (c0_3:Nat),vs=[.agg #[.bool (p0.Neg),.slice (A0_0) ((p0.Num).length) (c0_0),.slice (A0_1) ((p0.Den).length) (c0_1)],.agg #[.bool (p1.N.Neg),.slice (A0_2) ((p1.N.L).length) (c0_2),.slice (A0_3) ((p1.D).length) (c0_3)]]∧Has K A0_0 (p0.Num).length c0_0 1 Aj (p0.Num)∧Has K A0_1 (p0.Den).length c0_1 1 Aj (p0.Den)∧Has K A0_2 (p1.N.L).length c0_2 1 Cc (p1.N.L)∧Has K A0_3 (p1.D).length c0_3 1 Cc (p1.D)∧True) (fun _ r=>fun v Ln=>v = .bool (r)∧Ln=[]∧True):=⟨by
 rintro K _ r ⟨A0_0,c0_0,A0_1,c0_1,A0_2,c0_2,A0_3,c0_3,rfl,ha0,ha1,ha2,ha3,-⟩ hx w hK;replace ha0:=Has.lo ha0 hK;replace ha1:=Has.lo ha1 hK;replace ha2:=Has.lo ha2 hK;replace ha3:=Has.lo ha3 hK;unfold Hp at hx;have:=dl 7 [0,1,0,0,1,0,1,0,0,1,0] [0,1,2,3,4,5,6,7,8,9,10];have:=dl 12 [0,1,0,0,1,0,1,0,0,1,0] [0,1,2,3,4,5,6,7,8,9,10];refine CtS Tryz.ntmps109 Tryz.results109 ?_;refine pre ?_;intros;rename_i hx
 refine Im ?_;refine pre ?_;intros;rename_i hx
 apply Jr (γ:=Unit) hx [2,5] (fun s4 y4 f=>(40,.bool (s4))::f) [0,1,2,4,999] (fun s4 y4 l=>l);exact kk
 ·intro s4 y4 hx;refine Cq3 (s:=40) hx rfl (fun _ hx=>?_) (fun _ hx=>?_)
  ·exact au
  ·refine pre ?_;intros;rename_i hx
   apply Jr (γ:=Unit) hx [2,5] (fun s6 y6 f=>f) [0,1,2,3,999] (fun s6 y6 l=>l);exact kk
   ·intro s6 y6 hx;apply Jr (γ:=Unit) hx [] (fun s0 y0 f=>f) [999] (fun s0 y0 l=>l);exact kk
    ·intro s0 y0 hx;exact au
    ·intro _ hx;refine pre ?_;intros;rename_i hx
     apply Lr (γ:=Unit) hx [2,5] (fun s1 y1 f=>(8,.int .i64 (s1))::f) [0,1,2,3,999] (fun s1 y1 l=>l) ();exact kk;exact sk;intro s1 y1 x0 hx _;unfold Kn at hx
     exact au
   ·intro _ hx;refine pre ?_;intros;rename_i hx
    apply Lr (γ:=Unit) hx [2,5] (fun s2 y2 f=>(7,.int .i64 (s2))::f) [0,1,2,3,999] (fun s2 y2 l=>l) ();exact kk;exact sk;intro s2 y2 x1 hx _;unfold Gp at hx
    exact au
 ·intro _ hx;exact au⟩
theorem Se (p0:Bc) (p1:Er) {K:List Ent} {A0_0:Option Addr} {c0_0:Nat} {A0_1:Option Addr} {c0_1:Nat} {A0_2:Option Addr} {c0_2:Nat} {A0_3:Option Addr} {c0_3:Nat} (ha0:Has K A0_0 (p0.Num).length c0_0 1 Aj (p0.Num)) (ha1:Has K A0_1 (p0.Den).length c0_1 1 Aj (p0.Den)) (ha2:Has K A0_2 (p1.N.L).length c0_2 1 Cc (p1.N.L)) (ha3:Has K A0_3 (p1.D).length c0_3 1 Cc (p1.D)) {r:Bool} (hx:Hp p0 p1=some r) (w:World) (hK:∀ e∈K,Ent.ok w e):CtL Tryz.prog 109 [.agg #[.bool (p0.Neg),.slice (A0_0) ((p0.Num).length) (c0_0),.slice (A0_1) ((p0.Den).length) (c0_1)],.agg #[.bool (p1.N.Neg),.slice (A0_2) ((p1.N.L).length) (c0_2),.slice (A0_3) ((p1.D).length) (c0_3)]] w fun v Ln=>v = .bool (r)∧Ln=[]∧True:=(Aak p0 p1).h K _ _ ⟨_,_,_,_,_,_,_,_,rfl,ha0,ha1,ha2,ha3,trivial⟩ hx w hK
set_option maxRecDepth 100000 in
theorem Td (p0:List Az) {K:List Ent} {A0_0:Option Addr} {c0_0:Nat} (ha0:Has K A0_0 p0.length c0_0 3 Bh (p0)) {r:Aw} (hx:Iv p0=some r) (w:World) (hK:∀ e∈K,Ent.ok w e):CtL Tryz.prog 105 [.slice (A0_0) (p0.length) (c0_0)] w fun v Ln=>v = .agg #[.int .i64 (r.Raster.X0),.int .i64 (r.Raster.Y0),.int .i64 (r.Raster.Step),.int .i64 (r.Raster.NX),.int .i64 (r.Raster.NY),.slice (A0_0) (r.Cells.length) (c0_0)]∧Ln=[]∧Has K A0_0 r.Cells.length c0_0 3 Bh (r.Cells)∧True:=by
 have ha0':=Has.up0 ha0;refine CtL.mk 8 Tryz.func105 rfl Tryz.ntmps105 (by kernel_rfl) rfl ?_;show T 8 _ [(0,.slice (A0_0) (p0.length) (c0_0))] _;unfold Iv at hx;refine Y2 ?_;refine T_x (Bn Xc rfl (fun g1=>?_));refine Y5 ?_;refine Ag (Ca rfl 112 Tryz.underlying106) rfl ?_;refine Ag (Bp rfl (Rd _ _ _)) rfl ?_;refine Y ?_;refine Ag (Bp rfl (Ms _ _ _ _ _ _ _ _)) rfl ?_;refine T_h (Au rfl rfl rfl (.here) (.put (.put (.put (.put (.put (.put (.done))))))) rfl (List.cons_ne_nil _ _) Hu.2 ?_);refine Y3 ?_;obtain rfl:=Option.some.inj hx;exact Ce (rs:=[.cell 2 108]) Tryz.results105 (.cell rfl (i:=0) rfl rfl Hu (.nil)) (Ln:=[]) ⟨rfl,rfl,Has.len' (Has.dn0 ha0'),trivial⟩ (Cm) (by exact .drop 0 rfl (.refl))
set_option maxRecDepth 100000 in
instance lidarlaw09_row_c (p0:List Az):ConB (Iv p0) Tryz.prog 105 (fun K vs=>∃ (A0_0:Option Addr) (c0_0:Nat),vs=[.slice (A0_0) ((p0).length) (c0_0)]∧Has K A0_0 (p0).length c0_0 3 Bh (p0)∧True) (fun K r=>fun v Ln=>∃ (A0:Option Addr) (c0:Nat) (e:Ent),v = .agg #[.int .i64 (r.Raster.X0),.int .i64 (r.Raster.Y0),.int .i64 (r.Raster.Step),.int .i64 (r.Raster.NX),.int .i64 (r.Raster.NY),.slice (A0) ((r.Cells).length) (c0)]∧Ln=[e]∧Has (K++[e]) A0 (r.Cells).length c0 3 Bh (r.Cells)∧True):=⟨by
 rintro K _ r ⟨A0_0,c0_0,rfl,ha0,-⟩ hx w hK;unfold Iv at hx;refine CtS Tryz.ntmps105 Tryz.results105 ?_;exact au⟩

set_option maxRecDepth 100000 in
instance Zh (p0:Int) (p1:Int):Con (Fe p0 p1) Tryz.prog 106 (fun _ vs=>vs=[.int .i64 (p0),.int .i64 (p1)]) (fun _ r=>fun v Ln=>v = .agg #[.bool (r.Void),.int .i64 (r.Z.Lo),.int .i64 (r.Z.Hi)]∧Ln=[]∧True):=⟨by
 rintro _ _ r rfl hx w hK;unfold Fe at hx;refine CtS Tryz.ntmps106 Tryz.results106 ?_;exact au⟩
theorem Ko (p0:Int) (p1:Int)  {r:Az} (hx:Fe p0 p1=some r) (w:World):CtL Tryz.prog 106 [.int .i64 (p0),.int .i64 (p1)] w fun v Ln=>v = .agg #[.bool (r.Void),.int .i64 (r.Z.Lo),.int .i64 (r.Z.Hi)]∧Ln=[]∧True:=(Zh p0 p1).h [] _ _ rfl hx w (fun _ h=>absurd h List.not_mem_nil)
set_option maxRecDepth 100000 in
theorem Kq   {r:Bool} (hx:Ef=some r) (w:World):CtL Tryz.prog 52 [] w fun v Ln=>v = .bool (r)∧Ln=[]∧True:=by
 refine CtL.mk 63 Tryz.func52 rfl Tryz.ntmps52 (by kernel_rfl) rfl ?_;unfold Ef at hx;refine Y7 ?_;obtain ⟨r1,h2,hx3⟩:=Ad hx;refine Tc (fun w1 hw1=>Ko 1 3  h2 w1) ?_;obtain ⟨r4,h5,hx6⟩:=Ad hx3;refine Tc (fun w1 hw1=>Ko 0 1  h5 w1) ?_;refine T_x (Bz rfl (Ib _ _ _ _ _ _) rfl (fun g7=>?_));have hs8:Has [.m g7 112 [.bool (r1.Void),.int .i64 (r1.Z.Lo),.int .i64 (r1.Z.Hi),.bool (r4.Void),.int .i64 (r4.Z.Lo),.int .i64 (r4.Z.Hi)]] (some ⟨g7,0,none⟩) 2 2 3 Bh [(⟨r1.Void,(⟨r1.Z.Lo,r1.Z.Hi⟩:Av)⟩:Az),(⟨r4.Void,(⟨r4.Z.Lo,r4.Z.Hi⟩:Av)⟩:Az)]:=Has.ofM (fun _ _=>rfl) rfl (by decide) rfl;obtain ⟨r9,h0,hx0⟩:=Ad hx6;refine T_x (Be rfl (fun w1 hw1=>Td ([(⟨r1.Void,(⟨r1.Z.Lo,r1.Z.Hi⟩:Av)⟩:Az),(⟨r4.Void,(⟨r4.Z.Lo,r4.Z.Hi⟩:Av)⟩:Az)]) (Has.len' hs8) h0 w1 (Ik (K:=([.m g7 112 [.bool (r1.Void),.int .i64 (r1.Z.Lo),.int .i64 (r1.Z.Hi),.bool (r4.Void),.int .i64 (r4.Z.Lo),.int .i64 (r4.Z.Hi)]]:List Ent)) (by exact (sb 0)) hw1)) rfl ?_);rintro _ _ hlo ⟨rfl,rfl,hs0,-⟩;refine Dh ?_;obtain ⟨r0,h1,hx1⟩:=Ad hx0;refine Tc (fun w1 hw1=>Ko 4 5  h1 w1) ?_;obtain ⟨r2,h3,hx2⟩:=Ad hx1;refine Tc (fun w1 hw1=>Ko 5 7  h3 w1) ?_;refine T_x (Bz rfl (Ib _ _ _ _ _ _) rfl (fun g0=>?_))
 have hs1:Has [.m g0 112 [.bool (r0.Void),.int .i64 (r0.Z.Lo),.int .i64 (r0.Z.Hi),.bool (r2.Void),.int .i64 (r2.Z.Lo),.int .i64 (r2.Z.Hi)]] (some ⟨g0,0,none⟩) 2 2 3 Bh [(⟨r0.Void,(⟨r0.Z.Lo,r0.Z.Hi⟩:Av)⟩:Az),(⟨r2.Void,(⟨r2.Z.Lo,r2.Z.Hi⟩:Av)⟩:Az)]:=Has.ofM (fun _ _=>rfl) rfl (by decide) rfl;obtain ⟨r3,h4,hx4⟩:=Ad hx2;refine T_x (Be rfl (fun w1 hw1=>Td ([(⟨r0.Void,(⟨r0.Z.Lo,r0.Z.Hi⟩:Av)⟩:Az),(⟨r2.Void,(⟨r2.Z.Lo,r2.Z.Hi⟩:Av)⟩:Az)]) (Has.len' hs1) h4 w1 (Ik (K:=([.m g0 112 [.bool (r0.Void),.int .i64 (r0.Z.Lo),.int .i64 (r0.Z.Hi),.bool (r2.Void),.int .i64 (r2.Z.Lo),.int .i64 (r2.Z.Hi)]]:List Ent)) (by exact (sb 0)) hw1)) rfl ?_);rintro _ _ hlo ⟨rfl,rfl,hs2,-⟩;refine Dh ?_;refine T_x (Bn Xc rfl (fun g1=>?_));refine T_x (Bn Xc rfl (fun g2=>?_));refine T_h (Au rfl rfl rfl (.there (.here)) (.put (.put (.put (.put (.put (.put (.done))))))) rfl (List.cons_ne_nil _ _) Hu.2 ?_);refine T_h (Au rfl rfl rfl (.here) (.put (.put (.put (.put (.put (.put (.done))))))) rfl (List.cons_ne_nil _ _) Hu.2 ?_);refine Y4 ?_;refine Ag (Bb rfl (i:=1) rfl rfl Hu) rfl ?_;refine Ag (Bb rfl (i:=0) rfl rfl Hu) rfl ?_;obtain ⟨r5,h6,hx5⟩:=Ad hx4;refine T_x (Be rfl (fun w1 hw1=>Abs r9 r3 (Has.len' (Has.up (L:=([.m g7 112 [.bool (r1.Void),.int .i64 (r1.Z.Lo),.int .i64 (r1.Z.Hi),.bool (r4.Void),.int .i64 (r4.Z.Lo),.int .i64 (r4.Z.Hi)],.m g0 112 [.bool (r0.Void),.int .i64 (r0.Z.Lo),.int .i64 (r0.Z.Hi),.bool (r2.Void),.int .i64 (r2.Z.Lo),.int .i64 (r2.Z.Hi)]]:List Ent)) hs0 (sb 0))) (Has.len' (Has.up (L:=([.m g7 112 [.bool (r1.Void),.int .i64 (r1.Z.Lo),.int .i64 (r1.Z.Hi),.bool (r4.Void),.int .i64 (r4.Z.Lo),.int .i64 (r4.Z.Hi)],.m g0 112 [.bool (r0.Void),.int .i64 (r0.Z.Lo),.int .i64 (r0.Z.Hi),.bool (r2.Void),.int .i64 (r2.Z.Lo),.int .i64 (r2.Z.Hi)]]:List Ent)) hs2 (sb 1))) h6 w1 (Ik (K:=([.m g7 112 [.bool (r1.Void),.int .i64 (r1.Z.Lo),.int .i64 (r1.Z.Hi),.bool (r4.Void),.int .i64 (r4.Z.Lo),.int .i64 (r4.Z.Hi)],.m g0 112 [.bool (r0.Void),.int .i64 (r0.Z.Lo),.int .i64 (r0.Z.Hi),.bool (r2.Void),.int .i64 (r2.Z.Lo),.int .i64 (r2.Z.Hi)]]:List Ent)) (by exact (SubE.cons2 (i:=3) rfl (sb 2))) hw1)) rfl ?_)
 rintro _ _ hlo ⟨A0,c0,rfl,rfl,-⟩;refine Ha ?_;refine Y9 ?_;refine Ag (Bb rfl (i:=2) rfl rfl Hu) rfl ?_;refine Ag (Bb rfl (i:=1) rfl rfl Hu) rfl ?_;refine T_x (Bz rfl (Rl _) rfl (fun g3=>?_));have hs3:Has [.m g3 3 [.int .i64 (1)]] (some ⟨g3,0,none⟩) 1 1 1 Cc [1]:=Has.ofM (fun _ _=>rfl) rfl (by decide) rfl;obtain ⟨r6,h7,hx7⟩:=Ad hx5;refine T_x (Be rfl (fun w1 hw1=>Vw r9 r3 ([1]) (Has.len' (Has.up (L:=([.m g7 112 [.bool (r1.Void),.int .i64 (r1.Z.Lo),.int .i64 (r1.Z.Hi),.bool (r4.Void),.int .i64 (r4.Z.Lo),.int .i64 (r4.Z.Hi)],.m g0 112 [.bool (r0.Void),.int .i64 (r0.Z.Lo),.int .i64 (r0.Z.Hi),.bool (r2.Void),.int .i64 (r2.Z.Lo),.int .i64 (r2.Z.Hi)],.m g3 3 [.int .i64 (1)]]:List Ent)) hs0 (sb 0))) (Has.len' (Has.up (L:=([.m g7 112 [.bool (r1.Void),.int .i64 (r1.Z.Lo),.int .i64 (r1.Z.Hi),.bool (r4.Void),.int .i64 (r4.Z.Lo),.int .i64 (r4.Z.Hi)],.m g0 112 [.bool (r0.Void),.int .i64 (r0.Z.Lo),.int .i64 (r0.Z.Hi),.bool (r2.Void),.int .i64 (r2.Z.Lo),.int .i64 (r2.Z.Hi)],.m g3 3 [.int .i64 (1)]]:List Ent)) hs2 (sb 1))) (Has.len' (Has.up (L:=([.m g7 112 [.bool (r1.Void),.int .i64 (r1.Z.Lo),.int .i64 (r1.Z.Hi),.bool (r4.Void),.int .i64 (r4.Z.Lo),.int .i64 (r4.Z.Hi)],.m g0 112 [.bool (r0.Void),.int .i64 (r0.Z.Lo),.int .i64 (r0.Z.Hi),.bool (r2.Void),.int .i64 (r2.Z.Lo),.int .i64 (r2.Z.Hi)],.m g3 3 [.int .i64 (1)]]:List Ent)) hs3 (sb 2))) h7 w1 (Ik (K:=([.m g7 112 [.bool (r1.Void),.int .i64 (r1.Z.Lo),.int .i64 (r1.Z.Hi),.bool (r4.Void),.int .i64 (r4.Z.Lo),.int .i64 (r4.Z.Hi)],.m g0 112 [.bool (r0.Void),.int .i64 (r0.Z.Lo),.int .i64 (r0.Z.Hi),.bool (r2.Void),.int .i64 (r2.Z.Lo),.int .i64 (r2.Z.Hi)],.m g3 3 [.int .i64 (1)]]:List Ent)) (by exact (SubE.cons2 (i:=5) rfl (SubE.cons2 (i:=4) rfl (sb 0)))) hw1)) rfl ?_)
 rintro _ _ hlo ⟨A1,c1,A2,c2,A3,c3,A4,c4,rfl,rfl,-⟩;refine Qx ?_;refine Y4 ?_;refine T_x (Bn Yp rfl (fun g4=>?_));refine T_x (Bn Yp rfl (fun g5=>?_));refine T_h (Au rfl rfl rfl (.there (.here)) (.put (.put (.put (.done)))) rfl (List.cons_ne_nil _ _) Eu.2 ?_);refine T_h (Au rfl rfl rfl (.here) (.put (.put (.put (.done)))) rfl (List.cons_ne_nil _ _) Eu.2 ?_);refine Y3 ?_;refine Tj (γ:=Unit) hx7 (fun s5 y5=>[(0,.bool (s5))]) (fun s5 y5=>[]++[.old w]) (fun s5 y5=>True) (fun s5 y5 hx8 hG0=>?_) (fun j5 hx7=>?_)
 ·refine Y ?_;obtain rfl:=Option.some.inj hx8;exact Ce (rs:=[.tmp 0]) Tryz.results52 (.tmp rfl (.nil)) (Ln:=[]) ⟨rfl,rfl,trivial⟩ (Cm) (by exact .refl)
 ·refine T_dr [0,0,0,0,0,0,0,0,0,0,1,0,0,0,0,0,1,0,0,0,0,0,0,0,1,2,2,0,0,1,2,2,0,2] (.q 0 (.q 1 (.q 2 (.q 3 (.q 4 (.q 5 (.q 6 (.q 7 (.q 8 (.q 9 (.q 10 (.q 11 (.q 12 (.q 13 (.q 14 (.q 15 (.q 16 (.q 17 (.q 18 (.q 19 (.q 20 (.q 21 (.q 22 (.q 23 (.q 24 (.e 25 (.e 26 (.q 27 (.q 28 (.q 29 (.e 30 (.e 31 (.q 32 (.e 33 (.done) (.stop))) (.stop)) (.stop))))) (.stop)) (.stop))))))))))))))))))))))))))) mixed (by kernel_rfl) (by kernel_rfl) ?_;refine Y3 ?_;refine Ti hx7 (s:=32) rfl (fun h8 hx9=>?_) (fun h8 hx10=>?_)
  ·refine Y ?_;refine P_pG rfl rfl rfl rfl rfl (Ca rfl 3 Tryz.underlying64) rfl ?_;refine Y3 ?_;refine Ti hx9 (s:=37) rfl (fun h9 hx50=>?_) (fun h9 hx12=>?_)
   ·refine Y ?_;obtain ⟨x0,h52,hx53⟩:=Ad hx50;refine Mo (k:=7) rfl (by decide) (fun _=>rfl) h52 (fun b0 j0 hA0 hj0 hl0 hm0 hp0=>?_);refine P_pG rfl rfl rfl rfl rfl (Bf rfl rfl hA0 (j:=j0) hj0 hl0 Pu) rfl ?_;refine P_qG rfl rfl rfl rfl rfl (Cd rfl hp0 (sb 7) rfl one3) rfl ?_;refine Y3 ?_;refine Ti hx53 (s:=43) rfl (fun h62 hx63=>?_) (fun h62 hx13=>?_)
    ·refine Y ?_;obtain ⟨x1,h65,hx66⟩:=Ad hx63;refine Mo (k:=7) rfl (by decide) (fun _=>rfl) h65 (fun b1 j1 hA1 hj1 hl1 hm1 hp1=>?_);refine P_pG rfl rfl rfl rfl rfl (Bf rfl rfl hA1 (j:=j1) hj1 hl1 Pu) rfl ?_;refine P_qG rfl rfl rfl rfl rfl (Cd rfl hp1 (sb 7) rfl one3) rfl ?_;refine Y3 ?_;refine Ti hx66 (s:=49) rfl (fun h75 hx76=>?_) (fun h75 hx14=>?_)
     ·refine Y4 ?_;refine Ti hx76 (s:=53) rfl (fun h77 hx78=>?_) (fun h77 hx16=>?_)
      ·refine P_qG rfl rfl rfl rfl rfl (Bb rfl (i:=1) rfl rfl Eu) rfl ?_;obtain ⟨r7,h80,hx81⟩:=Ad hx78;refine P_xG rfl rfl rfl rfl (Be rfl (fun w1 hw1=>Ns 400  h80 w1) rfl ?_) ?_;rotate_left;exact Ao;rintro _ _ hlo ⟨A5,c5,A6,c6,rfl,rfl,-⟩;refine Qc ?_;refine Nr (k:=4) rfl (by decide) (fun _=>rfl) (fun hn0 hs4=>?_);refine Nr (k:=5) rfl (by decide) (fun _=>rfl) (fun hn1 hs5=>?_);refine Nr (k:=0) rfl (by decide) (fun _=>rfl) (fun hn2 hs6=>?_);refine Nr (k:=1) rfl (by decide) (fun _=>rfl) (fun hn3 hs7=>?_);obtain ⟨r8,h95,hx96⟩:=Ad hx81;refine P_xG rfl rfl rfl rfl (Be rfl (fun w1 hw1=>Se r6.1 r7 (Has.len' (Has.up (L:=([.r (A1) (r6.1.Num.length) (c1) 102 1 (r6.1.Num.flatMap Aj),.r (A2) (r6.1.Den.length) (c2) 102 1 (r6.1.Den.flatMap Aj),.r (A5) (r7.N.L.length) (c5) 3 1 (r7.N.L.flatMap Cc),.r (A6) (r7.D.length) (c6) 3 1 (r7.D.flatMap Cc)]:List Ent)) hs4 (sb 0))) (Has.len' (Has.up (L:=([.r (A1) (r6.1.Num.length) (c1) 102 1 (r6.1.Num.flatMap Aj),.r (A2) (r6.1.Den.length) (c2) 102 1 (r6.1.Den.flatMap Aj),.r (A5) (r7.N.L.length) (c5) 3 1 (r7.N.L.flatMap Cc),.r (A6) (r7.D.length) (c6) 3 1 (r7.D.flatMap Cc)]:List Ent)) hs5 (sb 1))) (Has.len' (Has.up (L:=([.r (A1) (r6.1.Num.length) (c1) 102 1 (r6.1.Num.flatMap Aj),.r (A2) (r6.1.Den.length) (c2) 102 1 (r6.1.Den.flatMap Aj),.r (A5) (r7.N.L.length) (c5) 3 1 (r7.N.L.flatMap Cc),.r (A6) (r7.D.length) (c6) 3 1 (r7.D.flatMap Cc)]:List Ent)) hs6 (sb 2))) (Has.len' (Has.up (L:=([.r (A1) (r6.1.Num.length) (c1) 102 1 (r6.1.Num.flatMap Aj),.r (A2) (r6.1.Den.length) (c2) 102 1 (r6.1.Den.flatMap Aj),.r (A5) (r7.N.L.length) (c5) 3 1 (r7.N.L.flatMap Cc),.r (A6) (r7.D.length) (c6) 3 1 (r7.D.flatMap Cc)]:List Ent)) hs7 (sb 3))) h95 w1 (Ik (K:=([.r (A1) (r6.1.Num.length) (c1) 102 1 (r6.1.Num.flatMap Aj),.r (A2) (r6.1.Den.length) (c2) 102 1 (r6.1.Den.flatMap Aj),.r (A5) (r7.N.L.length) (c5) 3 1 (r7.N.L.flatMap Cc),.r (A6) (r7.D.length) (c6) 3 1 (r7.D.flatMap Cc)]:List Ent)) (by exact (SubE.cons2 (i:=4) rfl (SubE.cons2 (i:=5) rfl (SubE.cons2 (i:=0) rfl (sb 1))))) hw1)) rfl ?_) ?_
       rotate_left;exact Ao;rintro _ _ hlo ⟨rfl,rfl,-⟩;refine Dh ?_;refine Y2 ?_;refine Dd (s:=58) rfl (fun h97=>?_) (fun h97=>?_)
       ·have hx98:=Cv h97 hx96;refine P_qG rfl rfl rfl rfl rfl (Bb rfl (i:=2) rfl rfl Eu) rfl ?_;obtain ⟨r99,h11,hx17⟩:=Ad hx98;refine P_xG rfl rfl rfl rfl (Be rfl (fun w1 hw1=>Ns 700  h11 w1) rfl ?_) ?_;rotate_left;exact Ao;rintro _ _ hlo ⟨A7,c7,A8,c8,rfl,rfl,-⟩;refine Qc ?_;refine Nr (k:=8) rfl (by decide) (fun _=>rfl) (fun hn4 hs9=>?_);refine Nr (k:=9) rfl (by decide) (fun _=>rfl) (fun hn5 hs10=>?_);refine Nr (k:=0) rfl (by decide) (fun _=>rfl) (fun hn6 hs11=>?_);refine Nr (k:=1) rfl (by decide) (fun _=>rfl) (fun hn7 hs13=>?_);obtain ⟨r10,h12,hx19⟩:=Ad hx17;refine P_xG rfl rfl rfl rfl (Be rfl (fun w1 hw1=>Se r6.2.1 r99 (Has.len' (Has.up (L:=([.r (A3) (r6.2.1.Num.length) (c3) 102 1 (r6.2.1.Num.flatMap Aj),.r (A4) (r6.2.1.Den.length) (c4) 102 1 (r6.2.1.Den.flatMap Aj),.r (A7) (r99.N.L.length) (c7) 3 1 (r99.N.L.flatMap Cc),.r (A8) (r99.D.length) (c8) 3 1 (r99.D.flatMap Cc)]:List Ent)) hs9 (sb 0))) (Has.len' (Has.up (L:=([.r (A3) (r6.2.1.Num.length) (c3) 102 1 (r6.2.1.Num.flatMap Aj),.r (A4) (r6.2.1.Den.length) (c4) 102 1 (r6.2.1.Den.flatMap Aj),.r (A7) (r99.N.L.length) (c7) 3 1 (r99.N.L.flatMap Cc),.r (A8) (r99.D.length) (c8) 3 1 (r99.D.flatMap Cc)]:List Ent)) hs10 (sb 1))) (Has.len' (Has.up (L:=([.r (A3) (r6.2.1.Num.length) (c3) 102 1 (r6.2.1.Num.flatMap Aj),.r (A4) (r6.2.1.Den.length) (c4) 102 1 (r6.2.1.Den.flatMap Aj),.r (A7) (r99.N.L.length) (c7) 3 1 (r99.N.L.flatMap Cc),.r (A8) (r99.D.length) (c8) 3 1 (r99.D.flatMap Cc)]:List Ent)) hs11 (sb 2))) (Has.len' (Has.up (L:=([.r (A3) (r6.2.1.Num.length) (c3) 102 1 (r6.2.1.Num.flatMap Aj),.r (A4) (r6.2.1.Den.length) (c4) 102 1 (r6.2.1.Den.flatMap Aj),.r (A7) (r99.N.L.length) (c7) 3 1 (r99.N.L.flatMap Cc),.r (A8) (r99.D.length) (c8) 3 1 (r99.D.flatMap Cc)]:List Ent)) hs13 (sb 3))) h12 w1 (Ik (K:=([.r (A3) (r6.2.1.Num.length) (c3) 102 1 (r6.2.1.Num.flatMap Aj),.r (A4) (r6.2.1.Den.length) (c4) 102 1 (r6.2.1.Den.flatMap Aj),.r (A7) (r99.N.L.length) (c7) 3 1 (r99.N.L.flatMap Cc),.r (A8) (r99.D.length) (c8) 3 1 (r99.D.flatMap Cc)]:List Ent)) (by exact (SubE.cons2 (i:=8) rfl (SubE.cons2 (i:=9) rfl (SubE.cons2 (i:=0) rfl (sb 1))))) hw1)) rfl ?_) ?_
        rotate_left;exact Ao;rintro _ _ hlo ⟨rfl,rfl,-⟩;refine Dh ?_;refine Y ?_;refine P_x rfl (Cu (Cs rfl) rfl ?_) ?_;rotate_left;exact Ao;refine Y ?_;exact Mt r10 () hx19 trivial (by exact .drop 0 rfl (.drop 0 rfl (.drop 0 rfl (.drop 0 rfl (.drop 0 rfl (.drop 0 rfl (.drop 0 rfl (.drop 0 rfl (.drop 0 rfl (.drop 0 rfl (.drop 0 rfl (.drop 0 rfl (.drop 0 rfl (.drop 0 rfl (.drop 0 rfl (.drop 0 rfl (.refl)))))))))))))))))
       ·have hx20:=Db h97 hx96;refine Y ?_;refine Cl rfl rfl rfl rfl rfl rfl ?_ ?_;rotate_left;exact Ao;refine Cl rfl rfl rfl rfl rfl rfl ?_ ?_;rotate_left;exact Ao;refine Y ?_;refine P_x rfl (Cu (Cs rfl) rfl ?_) ?_;rotate_left;exact Ao;refine Y ?_;exact Mt false () hx20 trivial (by exact .drop 0 rfl (.drop 0 rfl (.drop 0 rfl (.drop 0 rfl (.drop 0 rfl (.drop 0 rfl (.drop 0 rfl (.drop 0 rfl (.drop 0 rfl (.drop 0 rfl (.drop 0 rfl (.drop 0 rfl (.drop 0 rfl (.drop 0 rfl (.refl)))))))))))))))
      ·refine Y ?_;refine Cl rfl rfl rfl rfl rfl rfl ?_ ?_;rotate_left;exact Ao;refine Cl rfl rfl rfl rfl rfl rfl ?_ ?_;rotate_left;exact Ao;refine Y3 ?_;refine Cl rfl rfl rfl rfl rfl rfl ?_ ?_;rotate_left;exact Ao;refine Cl rfl rfl rfl rfl rfl rfl ?_ ?_;rotate_left;exact Ao;refine Y ?_;refine P_x rfl (Cu (Cs rfl) rfl ?_) ?_;rotate_left;exact Ao;refine Y ?_;exact Mt false () hx16 trivial (by exact .drop 0 rfl (.drop 0 rfl (.drop 0 rfl (.drop 0 rfl (.drop 0 rfl (.drop 0 rfl (.drop 0 rfl (.drop 0 rfl (.drop 0 rfl (.drop 0 rfl (.drop 0 rfl (.drop 0 rfl (.refl)))))))))))))
     ·refine Y5 ?_;refine Cl rfl rfl rfl rfl rfl rfl ?_ ?_;rotate_left;exact Ao;refine Cl rfl rfl rfl rfl rfl rfl ?_ ?_;rotate_left;exact Ao;refine Y3 ?_;refine Cl rfl rfl rfl rfl rfl rfl ?_ ?_;rotate_left;exact Ao;refine Cl rfl rfl rfl rfl rfl rfl ?_ ?_;rotate_left;exact Ao;refine Y ?_;refine P_x rfl (Cu (Cs rfl) rfl ?_) ?_;rotate_left;exact Ao;refine Y ?_;exact Mt false () hx14 trivial (by exact .drop 0 rfl (.drop 0 rfl (.drop 0 rfl (.drop 0 rfl (.drop 0 rfl (.drop 0 rfl (.drop 0 rfl (.drop 0 rfl (.drop 0 rfl (.drop 0 rfl (.drop 0 rfl (.drop 0 rfl (.refl)))))))))))))
    ·refine Y11 ?_;refine Cl rfl rfl rfl rfl rfl rfl ?_ ?_;rotate_left;exact Ao;refine Cl rfl rfl rfl rfl rfl rfl ?_ ?_;rotate_left;exact Ao;refine Y3 ?_;refine Cl rfl rfl rfl rfl rfl rfl ?_ ?_;rotate_left;exact Ao;refine Cl rfl rfl rfl rfl rfl rfl ?_ ?_;rotate_left;exact Ao;refine Y ?_;refine P_x rfl (Cu (Cs rfl) rfl ?_) ?_;rotate_left;exact Ao;refine Y ?_;exact Mt false () hx13 trivial (by exact .drop 0 rfl (.drop 0 rfl (.drop 0 rfl (.drop 0 rfl (.drop 0 rfl (.drop 0 rfl (.drop 0 rfl (.drop 0 rfl (.drop 0 rfl (.drop 0 rfl (.drop 0 rfl (.drop 0 rfl (.refl)))))))))))))
   ·(iterate 17 refine Y ?_);refine Cl rfl rfl rfl rfl rfl rfl ?_ ?_;rotate_left;exact Ao;refine Cl rfl rfl rfl rfl rfl rfl ?_ ?_;rotate_left;exact Ao;refine Y3 ?_;refine Cl rfl rfl rfl rfl rfl rfl ?_ ?_;rotate_left;exact Ao;refine Cl rfl rfl rfl rfl rfl rfl ?_ ?_;rotate_left;exact Ao;refine Y ?_;refine P_x rfl (Cu (Cs rfl) rfl ?_) ?_;rotate_left;exact Ao;refine Y ?_;exact Mt false () hx12 trivial (by exact .drop 0 rfl (.drop 0 rfl (.drop 0 rfl (.drop 0 rfl (.drop 0 rfl (.drop 0 rfl (.drop 0 rfl (.drop 0 rfl (.drop 0 rfl (.drop 0 rfl (.drop 0 rfl (.drop 0 rfl (.refl)))))))))))))
  ·(iterate 22 refine Y ?_);refine Cl rfl rfl rfl rfl rfl rfl ?_ ?_;rotate_left;exact Ao;refine Cl rfl rfl rfl rfl rfl rfl ?_ ?_;rotate_left;exact Ao;refine Y3 ?_;refine Cl rfl rfl rfl rfl rfl rfl ?_ ?_;rotate_left;exact Ao;refine Cl rfl rfl rfl rfl rfl rfl ?_ ?_;rotate_left;exact Ao;refine Y ?_;refine P_x rfl (Cu (Cs rfl) rfl ?_) ?_;rotate_left;exact Ao;refine Y ?_;exact Mt false () hx10 trivial (by exact .drop 0 rfl (.drop 0 rfl (.drop 0 rfl (.drop 0 rfl (.drop 0 rfl (.drop 0 rfl (.drop 0 rfl (.drop 0 rfl (.drop 0 rfl (.drop 0 rfl (.drop 0 rfl (.drop 0 rfl (.refl)))))))))))))
set_option maxHeartbeats 1000000 in
set_option maxRecDepth 100000 in
instance lidarlaw09_first_c  : Con (Ef) Tryz.prog 52 (fun _ vs=>vs=[]) (fun _ r=>fun v Ln=>v = .bool (r)∧Ln=[]∧True):=⟨by
 rintro _ _ r rfl hx w hK;exact Kq hx w⟩
set_option maxRecDepth 100000 in
theorem Nq (p0:Ei) {K:List Ent} {A0_0:Option Addr} {c0_0:Nat} {A0_1:Option Addr} {c0_1:Nat} {A0_2:Option Addr} {c0_2:Nat} (ha0:Has K A0_0 p0.M.V.length c0_0 4 Ak (p0.M.V)) (ha1:Has K A0_1 p0.M.T.length c0_1 3 Bk (p0.M.T)) (ha2:Has K A0_2 p0.M.Lines.length c0_2 2 Al (p0.M.Lines)) {r:Bool} (hx:Fn p0=some r) (w:World) (hK:∀ e∈K,Ent.ok w e):CtL Tryz.prog 8 [.agg #[.slice (A0_0) (p0.M.V.length) (c0_0),.slice (A0_1) (p0.M.T.length) (c0_1),.slice (A0_2) (p0.M.Lines.length) (c0_2),.int .i64 (p0.F.X0),.int .i64 (p0.F.Y0),.int .i64 (p0.F.Step),.int .i64 (p0.F.NX),.int .i64 (p0.F.NY),.int .u32 (p0.Low),.int .u32 (p0.High)]] w fun v Ln=>v = .bool (r)∧Ln=[]∧True:=by
 have ha0':=Has.up0 ha0;have ha1':=Has.up0 ha1;have ha2':=Has.up0 ha2;refine CtL.mk 160 Tryz.func8 rfl Tryz.ntmps8 (by kernel_rfl) rfl ?_;show T 160 _ [(0,.agg #[.slice (A0_0) (p0.M.V.length) (c0_0),.slice (A0_1) (p0.M.T.length) (c0_1),.slice (A0_2) (p0.M.Lines.length) (c0_2),.int .i64 (p0.F.X0),.int .i64 (p0.F.Y0),.int .i64 (p0.F.Step),.int .i64 (p0.F.NX),.int .i64 (p0.F.NY),.int .u32 (p0.Low),.int .u32 (p0.High)])] _;unfold Fn at hx;refine Y2 ?_;refine T_x (Ic rfl rfl rfl (fun g1=>?_));refine Y3 ?_;refine Tj (γ:=Nat × Nat) hx (fun s2 y2=>[(3,.pointer (some ⟨y2.1,0,none⟩)),(4,.pointer (some ⟨y2.2,0,none⟩)),(5,.int .u32 (p0.Low)),(6,.int .u32 (p0.High))]) (fun s2 y2=>[.m y2.2 101 [.int .i64 (p0.F.X0),.int .i64 (p0.F.Y0),.int .i64 (p0.F.Step),.int .i64 (p0.F.NX),.int .i64 (p0.F.NY)],.m y2.1 32 [.slice (A0_0) (p0.M.V.length) (c0_0),.slice (A0_1) (p0.M.T.length) (c0_1),.slice (A0_2) (p0.M.Lines.length) (c0_2)]]++[.old w]) (fun s2 y2=>True) (fun s2 y2 hx8 hG9=>?_) (fun j2 hx=>?_)
 ·refine Y ?_;refine Tj (γ:=Unit) hx8 (fun s4 y4=>[(3,.pointer (some ⟨y2.1,0,none⟩)),(4,.pointer (some ⟨y2.2,0,none⟩)),(5,.int .u32 (p0.Low)),(6,.int .u32 (p0.High)),(50,.bool (s4))]) (fun s4 y4=>[.m y2.2 101 [.int .i64 (p0.F.X0),.int .i64 (p0.F.Y0),.int .i64 (p0.F.Step),.int .i64 (p0.F.NX),.int .i64 (p0.F.NY)],.m y2.1 32 [.slice (A0_0) (p0.M.V.length) (c0_0),.slice (A0_1) (p0.M.T.length) (c0_1),.slice (A0_2) (p0.M.Lines.length) (c0_2)]]++[.old w]) (fun s4 y4=>True) (fun s4 y4 hx0 hG0=>?_) (fun j4 hx8=>?_)
  ·refine Dd (s:=50) rfl (fun h0=>?_) (fun h0=>?_)
   ·have hx1:=Cv h0 hx0;refine Y3 ?_;obtain ⟨r0,h1,hx2⟩:=Ad hx1;refine Tc (fun w1 hw1=>Kq  h1 w1) ?_;refine Y5 ?_;obtain rfl:=Option.some.inj hx2;exact Ce (rs:=[.tmp 2]) Tryz.results8 (.tmp rfl (.nil)) (Ln:=[]) ⟨rfl,rfl,trivial⟩ (Cm) (by exact .drop 0 rfl (.drop 0 rfl (.refl)))
   ·have hx3:=Db h0 hx0;refine Y6 ?_;refine Ag (Tl rfl (by kernel_rfl) Tryz.underlying3) rfl ?_;refine Ag (Abc rfl rfl (by decide)) rfl ?_;refine Y ?_;refine Ag (Tl rfl (by kernel_rfl) Tryz.underlying3) rfl ?_;refine Ag (Abc rfl rfl (by decide)) rfl ?_;refine Y6 ?_;refine Ag (Bb rfl (i:=1) rfl rfl Qv) rfl ?_;refine Ag (Bb rfl (i:=0) rfl rfl Pq) rfl ?_;refine Y2 ?_;refine Ag (Agv rfl rfl) rfl ?_;obtain ⟨r1,h2,hx4⟩:=Ad hx3;refine T_x (Be rfl (fun w1 hw1=>Qz p0.M p0.F (min (Int.tmod (w64 (p0.Low)) 1073741824) (Int.tmod (w64 (p0.High)) 1073741824)) (Has.len' ha0') (Has.len' ha1') (Has.len' ha2') h2 w1 (Hk (K:=K) (K2:=[]) hK (by exact (sb 2)) (by exact (SubE.nil)) hw1)) rfl ?_);rintro _ _ hlo ⟨A0,c0,rfl,rfl,-⟩;refine Ha ?_;refine Y3 ?_;refine T_x (Bn Xc rfl (fun g0=>?_));refine T_h (Au rfl rfl rfl (.here) (.put (.put (.put (.put (.put (.put (.done))))))) rfl (List.cons_ne_nil _ _) Hu.2 ?_);refine Y5 ?_;refine Ag (Bb rfl (i:=3) rfl rfl Qv) rfl ?_;refine Ag (Bb rfl (i:=2) rfl rfl Pq) rfl ?_;refine Y2 ?_;refine Ag (Agw rfl rfl) rfl ?_;obtain ⟨r2,h3,hx5⟩:=Ad hx4;refine T_x (Be rfl (fun w1 hw1=>Qz p0.M p0.F (max (Int.tmod (w64 (p0.Low)) 1073741824) (Int.tmod (w64 (p0.High)) 1073741824)) (Has.len' ha0') (Has.len' ha1') (Has.len' ha2') h3 w1 (Hk (K:=K) (K2:=[]) hK (by exact (sb 4)) (by exact (SubE.nil)) hw1)) rfl ?_)
    rintro _ _ hlo ⟨A1,c1,rfl,rfl,-⟩;refine Ha ?_;refine Y3 ?_;refine T_x (Bn Xc rfl (fun g2=>?_));refine T_h (Au rfl rfl rfl (.here) (.put (.put (.put (.put (.put (.put (.done))))))) rfl (List.cons_ne_nil _ _) Hu.2 ?_);refine Y4 ?_;refine Tj (γ:=Unit) hx5 (fun s0 y0=>[(4,.pointer (some ⟨y2.2,0,none⟩)),(9,.pointer (some ⟨g0,0,none⟩)),(10,.int .i64 (r1.2)),(11,.pointer (some ⟨g2,0,none⟩)),(86,.bool (s0))]) (fun s0 y0=>[.m g2 108 [.int .i64 (r2.1.Raster.X0),.int .i64 (r2.1.Raster.Y0),.int .i64 (r2.1.Raster.Step),.int .i64 (r2.1.Raster.NX),.int .i64 (r2.1.Raster.NY),.slice (A1) (r2.1.Cells.length) (c1)],.r (A1) (r2.1.Cells.length) (c1) 112 3 (r2.1.Cells.flatMap Bh),.m g0 108 [.int .i64 (r1.1.Raster.X0),.int .i64 (r1.1.Raster.Y0),.int .i64 (r1.1.Raster.Step),.int .i64 (r1.1.Raster.NX),.int .i64 (r1.1.Raster.NY),.slice (A0) (r1.1.Cells.length) (c0)],.r (A0) (r1.1.Cells.length) (c0) 112 3 (r1.1.Cells.flatMap Bh),.m y2.2 101 [.int .i64 (p0.F.X0),.int .i64 (p0.F.Y0),.int .i64 (p0.F.Step),.int .i64 (p0.F.NX),.int .i64 (p0.F.NY)]]++[.old w]) (fun s0 y0=>True) (fun s0 y0 hx6 hG1=>?_) (fun j0 hx5=>?_)
    ·refine Dd (s:=86) rfl (fun h4=>?_) (fun h4=>?_)
     ·have hx7:=Cv h4 hx6;refine Y8 ?_;obtain rfl:=Option.some.inj hx7;exact Ce (rs:=[.tmp 2]) Tryz.results8 (.tmp rfl (.nil)) (Ln:=[]) ⟨rfl,rfl,trivial⟩ (Cm) (by exact .drop 0 rfl (.drop 0 rfl (.drop 0 rfl (.drop 0 rfl (.drop 0 rfl (.refl))))))
     ·have hx9:=Db h4 hx6;refine Y10 ?_;refine Oc (s:=88) rfl (fun h5=>?_) (fun h5=>?_)
      ·have hx57:=Py h5 hx9;refine Y ?_;refine Tj (γ:=Unit) hx57 (fun s1 y1=>[(2,.bool (s1))]) (fun s1 y1=>[]++[.old w]) (fun s1 y1=>True) (fun s1 y1 hx67 hG2=>?_) (fun j1 hx57=>?_)
       ·refine Y2 ?_;obtain rfl:=Option.some.inj hx67;exact Ce (rs:=[.tmp 2]) Tryz.results8 (.tmp rfl (.nil)) (Ln:=[]) ⟨rfl,rfl,trivial⟩ (Cm) (by exact .refl)
       ·refine Y ?_;refine Ag (Am rfl Hx rfl) rfl ?_;refine Ag (Ai rfl (i:=2) rfl rfl Nt) rfl ?_;refine Ag (Ca rfl 112 Tryz.underlying106) rfl ?_;refine Y2 ?_;refine Ti hx57 (s:=93) rfl (fun h6 hx59=>?_) (fun h6 hx66=>?_)
        ·refine Br rfl rfl rfl (Am rfl Hx rfl) rfl ?_;refine Br rfl rfl rfl (Ai rfl (i:=0) rfl rfl Nt) rfl ?_;refine Br rfl rfl rfl (Ca rfl 112 Tryz.underlying106) rfl ?_;refine Y3 ?_;refine Ti hx59 (s:=99) rfl (fun h7 hx61=>?_) (fun h7 hx65=>?_)
         ·obtain ⟨r3,h8,hx64⟩:=Ad hx61;refine T_xG rfl rfl rfl (Be rfl (fun w1 hw1=>Kq  h8 w1) rfl ?_);rintro _ _ hlo ⟨rfl,rfl,-⟩;refine Dh ?_;refine Y3 ?_;exact Mt r3 () hx64 trivial (by exact .drop 0 rfl (.drop 0 rfl (.drop 0 rfl (.drop 0 rfl (.drop 0 rfl (.refl))))))
         ·refine Y4 ?_;exact Mt false () hx65 trivial (by exact .drop 0 rfl (.drop 0 rfl (.drop 0 rfl (.drop 0 rfl (.drop 0 rfl (.refl))))))
        ·refine Y10 ?_;exact Mt false () hx66 trivial (by exact .drop 0 rfl (.drop 0 rfl (.drop 0 rfl (.drop 0 rfl (.drop 0 rfl (.refl))))))
      ·have hx69:=Cv h5 hx9;refine Y4 ?_;refine Tj (γ:=Unit) hx69 (fun s3 y3=>[(9,.pointer (some ⟨g0,0,none⟩)),(11,.pointer (some ⟨g2,0,none⟩)),(131,.bool (s3))]) (fun s3 y3=>[.m g2 108 [.int .i64 (r2.1.Raster.X0),.int .i64 (r2.1.Raster.Y0),.int .i64 (r2.1.Raster.Step),.int .i64 (r2.1.Raster.NX),.int .i64 (r2.1.Raster.NY),.slice (A1) (r2.1.Cells.length) (c1)],.r (A1) (r2.1.Cells.length) (c1) 112 3 (r2.1.Cells.flatMap Bh),.m g0 108 [.int .i64 (r1.1.Raster.X0),.int .i64 (r1.1.Raster.Y0),.int .i64 (r1.1.Raster.Step),.int .i64 (r1.1.Raster.NX),.int .i64 (r1.1.Raster.NY),.slice (A0) (r1.1.Cells.length) (c0)],.r (A0) (r1.1.Cells.length) (c0) 112 3 (r1.1.Cells.flatMap Bh)]++[.old w]) (fun s3 y3=>True) (fun s3 y3 hx79 hG3=>?_) (fun j3 hx69=>?_)
       ·refine Dd (s:=131) rfl (fun h9=>?_) (fun h9=>?_)
        ·have hx82:=Cv h9 hx79;refine Y8 ?_;obtain rfl:=Option.some.inj hx82;exact Ce (rs:=[.tmp 2]) Tryz.results8 (.tmp rfl (.nil)) (Ln:=[]) ⟨rfl,rfl,trivial⟩ (Cm) (by exact .drop 0 rfl (.drop 0 rfl (.drop 0 rfl (.drop 0 rfl (.refl)))))
        ·have hx83:=Db h9 hx79;refine Y3 ?_;refine Tj (γ:=Unit) hx83 (fun s5 y5=>[]) (fun s5 y5=>[]++[.old w]) (fun s5 y5=>True) (fun s5 y5 hx10 hG4=>?_) (fun j5 hx83=>?_)
         ·refine Y2 ?_;obtain ⟨r4,h11,hx13⟩:=Ad hx10;refine Tc (fun w1 hw1=>Kq  h11 w1) ?_;refine Y4 ?_;obtain rfl:=Option.some.inj hx13;exact Ce (rs:=[.tmp 2]) Tryz.results8 (.tmp rfl (.nil)) (Ln:=[]) ⟨rfl,rfl,trivial⟩ (Cm) (by exact .refl)
         ·refine Y6 ?_;obtain ⟨t0,hl0,ho0⟩:=Ad hx83;refine Lp (σ:=Int) (γ:=Unit) hl0 (fun s6 y6=>[(9,.pointer (some ⟨g0,0,none⟩)),(11,.pointer (some ⟨g2,0,none⟩)),(13,.int .i64 (s6))]) (fun s6 y6=>[.m g2 108 [.int .i64 (r2.1.Raster.X0),.int .i64 (r2.1.Raster.Y0),.int .i64 (r2.1.Raster.Step),.int .i64 (r2.1.Raster.NX),.int .i64 (r2.1.Raster.NY),.slice (A1) (r2.1.Cells.length) (c1)],.r (A1) (r2.1.Cells.length) (c1) 112 3 (r2.1.Cells.flatMap Bh),.m g0 108 [.int .i64 (r1.1.Raster.X0),.int .i64 (r1.1.Raster.Y0),.int .i64 (r1.1.Raster.Step),.int .i64 (r1.1.Raster.NX),.int .i64 (r1.1.Raster.NY),.slice (A0) (r1.1.Cells.length) (c0)],.r (A0) (r1.1.Cells.length) (c0) 112 3 (r1.1.Cells.flatMap Bh)]++[.old w]) (fun s6 y6=>True) () trivial (by exact .pick 0 rfl (.pick 0 rfl (.pick 0 rfl (.pick 0 rfl (.refl))))) ?_;intro s6 y6 hG5 x0 hx16 ht0;unfold Dz at hx16;refine Y4 ?_;refine Ag (Am rfl Hx rfl) rfl ?_;refine Ag (Ai rfl (i:=2) rfl rfl Nt) rfl ?_;refine Ag (Ca rfl 112 Tryz.underlying106) rfl ?_;refine Y3 ?_;refine Ti hx16 (s:=136) rfl (fun h12 hx19=>?_) (fun h12 hx20=>?_)
          ·refine Y5 ?_;refine Tj (γ:=Unit) hx19 (fun s7 y7=>[(9,.pointer (some ⟨g0,0,none⟩)),(11,.pointer (some ⟨g2,0,none⟩)),(13,.int .i64 (s6)),(158,.bool (s7))]) (fun s7 y7=>[.m g2 108 [.int .i64 (r2.1.Raster.X0),.int .i64 (r2.1.Raster.Y0),.int .i64 (r2.1.Raster.Step),.int .i64 (r2.1.Raster.NX),.int .i64 (r2.1.Raster.NY),.slice (A1) (r2.1.Cells.length) (c1)],.r (A1) (r2.1.Cells.length) (c1) 112 3 (r2.1.Cells.flatMap Bh),.m g0 108 [.int .i64 (r1.1.Raster.X0),.int .i64 (r1.1.Raster.Y0),.int .i64 (r1.1.Raster.Step),.int .i64 (r1.1.Raster.NX),.int .i64 (r1.1.Raster.NY),.slice (A0) (r1.1.Cells.length) (c0)],.r (A0) (r1.1.Cells.length) (c0) 112 3 (r1.1.Cells.flatMap Bh)]++[.old w]) (fun s7 y7=>True) (fun s7 y7 hx22 hG6=>?_) (fun j6 hx19=>?_)
           ·refine Dd (s:=158) rfl (fun h14=>?_) (fun h14=>?_)
            ·have hx26:=Cv h14 hx22;refine Y9 ?_;obtain rfl:=Ct ht0 hx26;refine Y3 ?_;obtain rfl:=Option.some.inj ho0;exact Ce (rs:=[.tmp 2]) Tryz.results8 (.tmp rfl (.nil)) (Ln:=[]) ⟨rfl,rfl,trivial⟩ (Cm) (by exact .drop 0 rfl (.drop 0 rfl (.drop 0 rfl (.drop 0 rfl (.refl)))))
            ·have hx27:=Db h14 hx22;refine Y9 ?_;exact Rp (w64 (s6+1)) () hx27 trivial (by exact .pick 0 rfl (.pick 0 rfl (.pick 0 rfl (.pick 0 rfl (.refl)))))
           ·refine T_dr [0,1,0,0,0,1,0,0,0,1,0,0,1,0,1,0,0,1,0,0] (.q 0 (.q 1 (.q 2 (.q 3 (.q 4 (.q 5 (.q 6 (.q 7 (.q 8 (.q 9 (.q 10 (.q 11 (.q 12 (.q 13 (.q 14 (.q 15 (.q 16 (.q 17 (.q 18 (.q 19 (.done))))))))))))))))))))) mixed (by kernel_rfl) (by kernel_rfl) ?_;refine P_p rfl rfl (Am rfl Hx rfl) rfl ?_;refine P_q rfl rfl (Ai rfl (i:=2) rfl rfl Nt) rfl ?_;refine Y ?_;obtain ⟨x1,h15,hx29⟩:=Ad hx19;refine Mo (k:=3) rfl (by decide) (fun _=>rfl) h15 (fun b0 j7 hA0 hj0 hl1 hm0 hp0=>?_);refine P_p rfl rfl (Bf rfl rfl hA0 (j:=j7) hj0 hl1 Abq) rfl ?_;refine P_p rfl rfl (Am rfl Aar rfl) rfl ?_;refine P_q rfl rfl (Ec (d:=0) rfl hp0 (sb 3) rfl one4) rfl ?_;refine Y2 ?_;refine Jz (s:=146) rfl (fun h17=>?_) (fun h17=>?_)
            ·have hx30:=Db h17 hx29;refine P_pG rfl rfl rfl rfl rfl (Am rfl Hx rfl) rfl ?_;refine P_qG rfl rfl rfl rfl rfl (Ai rfl (i:=2) rfl rfl Nt) rfl ?_;refine Y ?_;obtain ⟨x2,h18,hx33⟩:=Ad hx30;refine Mo (k:=3) rfl (by decide) (fun _=>rfl) h18 (fun b1 j8 hA1 hj1 hl2 hm1 hp1=>?_);refine P_pG rfl rfl rfl rfl rfl (Bf rfl rfl hA1 (j:=j8) hj1 hl2 Abq) rfl ?_;refine P_qG rfl rfl rfl rfl rfl (Dy rfl hp1 (sb 3) rfl Abw) rfl ?_;refine P_pG rfl rfl rfl rfl rfl (Am rfl Hx rfl) rfl ?_;refine P_qG rfl rfl rfl rfl rfl (Ai rfl (i:=0) rfl rfl Nt) rfl ?_;refine Y ?_;obtain ⟨x3,h19,hx34⟩:=Ad hx33;refine Mo (k:=1) rfl (by decide) (fun _=>rfl) h19 (fun b2 j9 hA2 hj2 hl3 hm2 hp2=>?_);refine P_pG rfl rfl rfl rfl rfl (Bf rfl rfl hA2 (j:=j9) hj2 hl3 Abq) rfl ?_;refine P_qG rfl rfl rfl rfl rfl (Dy rfl hp2 (sb 1) rfl Abw) rfl ?_;refine P_pG rfl rfl rfl rfl rfl (Ado rfl rfl (by kernel_rfl) (Apz _ _ _ _ _ _)) rfl ?_;refine Y2 ?_;exact Mt (!((((x2.Void) == (x3.Void)) && ((((x2.Z.Lo) == (x3.Z.Lo)) && (((x2.Z.Hi) == (x3.Z.Hi)) && true)) && true)))) () hx34 trivial (by exact .pick 0 rfl (.pick 0 rfl (.pick 0 rfl (.pick 0 rfl (.refl)))))
            ·have hx36:=Cv h17 hx29;(iterate 13 refine Y ?_);exact Mt false () hx36 trivial (by exact .pick 0 rfl (.pick 0 rfl (.pick 0 rfl (.pick 0 rfl (.refl)))))
          ·refine Y3 ?_;obtain rfl:=Ct ht0 hx20;refine Y2 ?_;exact Mt () () ho0 trivial (by exact .drop 0 rfl (.drop 0 rfl (.drop 0 rfl (.drop 0 rfl (.refl)))))
       ·refine Y ?_;refine Ag (Am rfl Hx rfl) rfl ?_;refine Ag (Ai rfl (i:=2) rfl rfl Nt) rfl ?_;refine Ag (Ca rfl 112 Tryz.underlying106) rfl ?_;refine Ag (Am rfl Aax rfl) rfl ?_;refine Ag (Ai rfl (i:=4) rfl rfl one3) rfl ?_;refine Ag (Am rfl Aay rfl) rfl ?_;refine Ag (Ai rfl (i:=4) rfl rfl one3) rfl ?_;refine Y3 ?_;refine Oc (s:=111) rfl (fun h70=>?_) (fun h70=>?_)
        ·have hx71:=Py h70 hx69;(iterate 21 refine Y ?_);exact Mt true () hx71 trivial (by exact .pick 0 rfl (.pick 0 rfl (.pick 0 rfl (.pick 0 rfl (.drop 0 rfl (.refl))))))
        ·have hx72:=Cv h70 hx69;refine Br rfl rfl rfl (Am rfl Hx rfl) rfl ?_;refine Br rfl rfl rfl (Ai rfl (i:=0) rfl rfl Nt) rfl ?_;refine Br rfl rfl rfl (Ca rfl 112 Tryz.underlying106) rfl ?_;refine Br rfl rfl rfl (Am rfl Hx rfl) rfl ?_;refine Br rfl rfl rfl (Ai rfl (i:=2) rfl rfl Nt) rfl ?_;refine Br rfl rfl rfl (Ca rfl 112 Tryz.underlying106) rfl ?_;refine Y3 ?_;refine Oc (s:=120) rfl (fun h73=>?_) (fun h73=>?_)
         ·have hx74:=Py h73 hx72;refine Y12 ?_;exact Mt true () hx74 trivial (by exact .pick 0 rfl (.pick 0 rfl (.pick 0 rfl (.pick 0 rfl (.drop 0 rfl (.refl))))))
         ·have hx75:=Cv h73 hx72;refine Br rfl rfl rfl (Am rfl Aeb rfl) rfl ?_;refine Br rfl rfl rfl (Bb rfl (i:=2) rfl rfl Pq) rfl ?_;refine Br rfl rfl rfl (Bb rfl (i:=4) rfl rfl Pq) rfl ?_;refine Br rfl rfl rfl (Ado rfl rfl (by kernel_rfl) (Akl _ _ _ _ _ _ _ _ _ _)) rfl ?_;refine Y2 ?_;refine Jz (s:=126) rfl (fun h76=>?_) (fun h76=>?_)
          ·have hx77:=Db h76 hx75;refine Y6 ?_;exact Mt true () hx77 trivial (by exact .pick 0 rfl (.pick 0 rfl (.pick 0 rfl (.pick 0 rfl (.drop 0 rfl (.refl))))))
          ·have hx78:=Cv h76 hx75;refine Br rfl rfl rfl (Am rfl Aeb rfl) rfl ?_;refine Br rfl rfl rfl (Bb rfl (i:=0) rfl rfl Pq) rfl ?_;refine Br rfl rfl rfl (Bb rfl (i:=4) rfl rfl Pq) rfl ?_;refine Br rfl rfl rfl (Ado rfl rfl (by kernel_rfl) (Akl _ _ _ _ _ _ _ _ _ _)) rfl ?_;refine Y2 ?_;exact Mt (!((((r2.1.Raster.X0) == (p0.F.X0)) && (((r2.1.Raster.Y0) == (p0.F.Y0)) && (((r2.1.Raster.Step) == (p0.F.Step)) && (((r2.1.Raster.NX) == (p0.F.NX)) && (((r2.1.Raster.NY) == (p0.F.NY)) && true))))))) () hx78 trivial (by exact .pick 0 rfl (.pick 0 rfl (.pick 0 rfl (.pick 0 rfl (.drop 0 rfl (.refl))))))
    ·refine Y5 ?_;refine Oc (s:=79) rfl (fun h45=>?_) (fun h45=>?_)
     ·have hx46:=Py h45 hx5;refine Y8 ?_;exact Mt true () hx46 trivial (by exact .pick 0 rfl (.pick 0 rfl (.pick 0 rfl (.pick 0 rfl (.pick 0 rfl (.drop 0 rfl (.refl)))))))
     ·have hx47:=Cv h45 hx5;refine Y3 ?_;refine Oc (s:=82) rfl (fun h48=>?_) (fun h48=>?_)
      ·have hx49:=Py h48 hx47;refine Y5 ?_;exact Mt (!(decide (r1.2=64))) () hx49 trivial (by exact .pick 0 rfl (.pick 0 rfl (.pick 0 rfl (.pick 0 rfl (.pick 0 rfl (.drop 0 rfl (.refl)))))))
      ·have hx50:=Cv h48 hx47;refine Y5 ?_;exact Mt false () hx50 trivial (by exact .pick 0 rfl (.pick 0 rfl (.pick 0 rfl (.pick 0 rfl (.pick 0 rfl (.drop 0 rfl (.refl)))))))
  ·refine Y ?_;refine Ag (Am rfl Tm rfl) rfl ?_;refine Ag (Ai rfl (i:=1) rfl rfl Pv) rfl ?_;refine Ag (Ca rfl 43 Tryz.underlying22) rfl ?_;refine Y2 ?_;refine Ti hx8 (s:=26) rfl (fun h10 hx11=>?_) (fun h10 hx12=>?_)
   ·(iterate 25 refine Y ?_);exact Mt true () hx11 trivial (by exact .pick 0 rfl (.pick 0 rfl (.refl)))
   ·refine Br rfl rfl rfl (Am rfl Ahm rfl) rfl ?_;refine Br rfl rfl rfl (Ai rfl (i:=1) rfl rfl Arl) rfl ?_;refine Br rfl rfl rfl (Ca rfl 35 Tryz.underlying30) rfl ?_;refine Y3 ?_;refine Ti hx12 (s:=32) rfl (fun h13 hx14=>?_) (fun h13 hx15=>?_)
    ·(iterate 19 refine Y ?_);exact Mt true () hx14 trivial (by exact .pick 0 rfl (.pick 0 rfl (.refl)))
    ·refine Br rfl rfl rfl (Am rfl Am7 rfl) rfl ?_;refine Br rfl rfl rfl (Ai rfl (i:=1) rfl rfl Auy) rfl ?_;refine Br rfl rfl rfl (Ca rfl 48 Tryz.underlying23) rfl ?_;refine Y3 ?_;refine Ti hx15 (s:=38) rfl (fun h16 hx17=>?_) (fun h16 hx18=>?_)
     ·(iterate 13 refine Y ?_);exact Mt true () hx17 trivial (by exact .pick 0 rfl (.pick 0 rfl (.refl)))
     ·refine Br rfl rfl rfl (Bb rfl (i:=0) rfl rfl Pq) rfl ?_;obtain ⟨r5,h20,hx21⟩:=Ad hx18;refine T_xG rfl rfl rfl (Be rfl (fun w1 hw1=>Sx p0.F  h20 w1) rfl ?_);rintro _ _ hlo ⟨rfl,rfl,-⟩;refine Dh ?_;refine Y3 ?_;refine Jz (s:=43) rfl (fun h22=>?_) (fun h22=>?_)
      ·have hx23:=Db h22 hx21;refine Y8 ?_;exact Mt true () hx23 trivial (by exact .pick 0 rfl (.pick 0 rfl (.refl)))
      ·have hx24:=Cv h22 hx21;refine Br rfl rfl rfl (Am rfl Aax rfl) rfl ?_;refine Br rfl rfl rfl (Ai rfl (i:=0) rfl rfl one3) rfl ?_;refine Br rfl rfl rfl (Am rfl Aay rfl) rfl ?_;refine Br rfl rfl rfl (Ai rfl (i:=0) rfl rfl one3) rfl ?_;refine Y4 ?_;exact Mt (decide (40 < (w64 (p0.F.NX*p0.F.NY)))) () hx24 trivial (by exact .pick 0 rfl (.pick 0 rfl (.refl)))
 ·refine Amd [0,1,0,1,0,1,0,1,2,2,3,3,2,2] [[],[0],[],[2],[],[4],[],[6],[],[],[0,1,8,9],[0,1,2,3,8,9,10],[0,1,2,3,4,5,8,9,10,11],[0,1,2,3,4,5,6,7,8,9,10,11,12]] [3,5,7] ([.m g1 104 [.slice (A0_0) (p0.M.V.length) (c0_0),.slice (A0_1) (p0.M.T.length) (c0_1),.slice (A0_2) (p0.M.Lines.length) (c0_2),.int .i64 (p0.F.X0),.int .i64 (p0.F.Y0),.int .i64 (p0.F.Step),.int .i64 (p0.F.NX),.int .i64 (p0.F.NY),.int .u32 (p0.Low),.int .u32 (p0.High)]]) (.q 0 (.q 1 (.q 2 (.q 3 (.q 4 (.q 5 (.q 6 (.q 7 (.e 8 (.e 9 (.e 10 (.e 11 (.e 12 (.e 13 (.done) (.stop)) (.stop)) (.stop)) (.stop)) (.stop)) (.e 9 (.e 8 (.e 10 (.e 11 (.e 12 (.e 13 (.done) (.stop)) (.stop)) (.stop)) (.stop)) (.stop)) (.stop))))))))))) mixed (by kernel_rfl) (by kernel_rfl) (fun w hw=>SubE.ok (by exact ((sb 0))) w hw) ?_;refine P_p rfl rfl (Am rfl Aio rfl) rfl ?_;refine P_q rfl rfl (Bb rfl (i:=0) rfl rfl Qv) rfl ?_;refine P_p rfl rfl (Am rfl Aip rfl) rfl ?_;refine P_r rfl rfl (Bb rfl (i:=0) rfl rfl Pq) rfl ?_;refine P_p rfl rfl (Am rfl Aiq rfl) rfl ?_;refine P_r rfl rfl (Ai rfl (i:=0) rfl rfl Lg) rfl ?_;refine P_p rfl rfl (Am rfl Air rfl) rfl ?_;refine P_r rfl rfl (Ai rfl (i:=0) rfl rfl Lg) rfl ?_;refine P_x rfl (Bn Am6 rfl (fun g4=>?_)) ?_
  ·skip;refine P_x rfl (Bn Aj9 rfl (fun g5=>?_)) ?_;rotate_left;exact Ao;refine P_hR rfl rfl (Au rfl rfl rfl (.there (.here)) (.put (.put (.put (.done)))) rfl (List.cons_ne_nil _ _) Qv.2 ?_) ?_;rotate_left;exact Ao;refine Abm (fun w hw=>SubE.ok (by exact ((sb 2))) w hw) ?_;refine P_hR rfl rfl (Au rfl rfl rfl (.here) (.put (.put (.put (.put (.put (.done)))))) rfl (List.cons_ne_nil _ _) Pq.2 ?_) ?_;rotate_left;exact Ao;refine Abm (fun w hw=>SubE.ok (by exact ((sb 2))) w hw) ?_;refine P_x rfl (Cu (Cs rfl) rfl ?_) ?_;rotate_left;exact Ao;refine P_x rfl (Cu (Cs rfl) rfl ?_) ?_;rotate_left;exact Ao;refine Y ?_;exact Mt () (g4,g5) hx trivial (by exact .pick 0 rfl (.pick 0 rfl (.drop 0 rfl (.refl))))
  ·skip;refine P_x rfl (Bn Aj9 rfl (fun g6=>?_)) ?_;rotate_left;exact Ao;refine P_x rfl (Bn Am6 rfl (fun g7=>?_)) ?_;rotate_left;exact Ao;refine P_hR rfl rfl (Au rfl rfl rfl (.here) (.put (.put (.put (.done)))) rfl (List.cons_ne_nil _ _) Qv.2 ?_) ?_;rotate_left;exact Ao;refine Abm (fun w hw=>SubE.ok (by exact ((sb 2))) w hw) ?_;refine P_hR rfl rfl (Au rfl rfl rfl (.there (.here)) (.put (.put (.put (.put (.put (.done)))))) rfl (List.cons_ne_nil _ _) Pq.2 ?_) ?_;rotate_left;exact Ao;refine Abm (fun w hw=>SubE.ok (by exact ((sb 2))) w hw) ?_;refine P_x rfl (Cu (Cs rfl) rfl ?_) ?_;rotate_left;exact Ao;refine P_x rfl (Cu (Cs rfl) rfl ?_) ?_;rotate_left;exact Ao;refine Y ?_;exact Mt () (g7,g6) hx trivial (by exact .pick 1 rfl (.pick 0 rfl (.drop 0 rfl (.refl))))
set_option maxHeartbeats 1000000 in
set_option maxRecDepth 100000 in
instance lidarlaw09_ModelLimits_c (p0:Ei):Con (Fn p0) Tryz.prog 8 (fun K vs=>∃ (A0_0:Option Addr) (c0_0:Nat) (A0_1:Option Addr) (c0_1:Nat) (A0_2:Option Addr) (c0_2:Nat),vs=[.agg #[.slice (A0_0) ((p0.M.V).length) (c0_0),.slice (A0_1) ((p0.M.T).length) (c0_1),.slice (A0_2) ((p0.M.Lines).length) (c0_2),.int .i64 (p0.F.X0),.int .i64 (p0.F.Y0),.int .i64 (p0.F.Step),.int .i64 (p0.F.NX),.int .i64 (p0.F.NY),.int .u32 (p0.Low),.int .u32 (p0.High)]]∧Has K A0_0 (p0.M.V).length c0_0 4 Ak (p0.M.V)∧Has K A0_1 (p0.M.T).length c0_1 3 Bk (p0.M.T)∧Has K A0_2 (p0.M.Lines).length c0_2 2 Al (p0.M.Lines)∧True) (fun _ r=>fun v Ln=>v = .bool (r)∧Ln=[]∧True):=⟨by
 rintro K _ r ⟨A0_0,c0_0,A0_1,c0_1,A0_2,c0_2,rfl,ha0,ha1,ha2,-⟩ hx w hK;exact Nq p0 ha0 ha1 ha2 hx w hK⟩
end Go.Proofs.YtebkcipolijfmaaGreat
