/- Walks of the program, with their plain functions: surfaces. -/
import Derived.Test.YtbkobeeileemjaaGreatQ2
namespace Go.Proofs.YtbkobeeileemjaaGreat
open Go Go.RowKit
set_option maxRecDepth 100000
set_option maxHeartbeats 1000000
theorem Atu:Jd Tryz.prog 212 [.int .i64 (0),.int .i64 (0),.int .i64 (0),.int .i64 (0),.int .i64 (0),.int .i64 (0)]:=⟨_,Tryz.zeroValue212,rfl⟩
instance:Sn Tryz.prog 212 [.int .i64 (0),.int .i64 (0),.int .i64 (0),.int .i64 (0),.int .i64 (0),.int .i64 (0)]:=⟨Atu⟩
theorem Aj3:Ca Tryz.prog 40 1 1:=.mk Tryz.underlying40 rfl rfl (show Tryz.prog.info? 38=some Tryz.t38 from by kernel_rfl) (show Tryz.t38.size=1 from by kernel_rfl) rfl
instance:Cs Tryz.prog 40 1 1:=⟨Aj3⟩
theorem Atv:Lg Tryz.prog 38:=.mk Tryz.underlying38 rfl (show Tryz.prog.info? 38=some Tryz.t38 from by kernel_rfl) (by kernel_rfl)
instance:OneI Tryz.prog 38:=⟨Atv⟩
theorem Atw:Jb Tryz.prog 38 26 3:=.mk Tryz.underlying38 (show Tryz.prog.info? 26=some Tryz.t26 from by kernel_rfl) (by kernel_rfl)
instance:Mq Tryz.prog 38 26 3:=⟨Atw⟩
theorem Yl:Nh Tryz.prog 26 3:=.arr Tryz.underlying26 (show Tryz.prog.info? 26=some Tryz.t26 from by kernel_rfl) (by kernel_rfl)
instance:AggI Tryz.prog 26 3:=⟨Yl⟩
theorem Xu:Ca Tryz.prog 40 0 0:=.mk Tryz.underlying40 rfl rfl (show Tryz.prog.info? 22=some Tryz.t22 from by kernel_rfl) (show Tryz.t22.size=1 from by kernel_rfl) rfl
instance:Cs Tryz.prog 40 0 0:=⟨Xu⟩
theorem Abh:Afc Tryz.prog 212 3 2:=.mk Tryz.underlying212 (show Tryz.prog.info? 28=some Tryz.t28 from by kernel_rfl) (by kernel_rfl)
instance:ArrI Tryz.prog 212 3 2:=⟨Abh⟩
theorem Atx:Nh Tryz.prog 212 6:=.arr Tryz.underlying212 (show Tryz.prog.info? 212=some Tryz.t212 from by kernel_rfl) (by kernel_rfl)
instance:AggI Tryz.prog 212 6:=⟨Atx⟩
theorem one9:Lg Tryz.prog 9:=.mk Tryz.underlying9 rfl (show Tryz.prog.info? 9=some Tryz.t9 from by kernel_rfl) (by kernel_rfl)
instance:OneI Tryz.prog 9:=⟨one9⟩
theorem Aty:Jd Tryz.prog 304 [.int .u64 (0),.int .u64 (0)]:=⟨_,Tryz.zeroValue304,rfl⟩
instance:Sn Tryz.prog 304 [.int .u64 (0),.int .u64 (0)]:=⟨Aty⟩
theorem Alw:Ca Tryz.prog 304 1 1:=.mk Tryz.underlying304 rfl rfl (show Tryz.prog.info? 246=some Tryz.t246 from by kernel_rfl) (show Tryz.t246.size=1 from by kernel_rfl) rfl
instance:Cs Tryz.prog 304 1 1:=⟨Alw⟩
theorem Anu:Lg Tryz.prog 246:=.mk Tryz.underlying246 rfl (show Tryz.prog.info? 246=some Tryz.t246 from by kernel_rfl) (by kernel_rfl)
instance:OneI Tryz.prog 246:=⟨Anu⟩
theorem Alx:Ca Tryz.prog 304 0 0:=.mk Tryz.underlying304 rfl rfl (show Tryz.prog.info? 246=some Tryz.t246 from by kernel_rfl) (show Tryz.t246.size=1 from by kernel_rfl) rfl
instance:Cs Tryz.prog 304 0 0:=⟨Alx⟩
theorem Ym (x0:Int) (x1:Int):Gd Tryz.prog 304 [(0,.int .u64 x0),(1,.int .u64 x1)] [.int .u64 x0,.int .u64 x1]:=fun w=>by kernel_rfl
instance (x0:Int) (x1:Int):Kb Tryz.prog 304 [(0,.int .u64 x0),(1,.int .u64 x1)] [.int .u64 x0,.int .u64 x1]:=⟨Ym _ _⟩
theorem Anv:Nh Tryz.prog 304 2:=.mk Tryz.underlying304 rfl (show Tryz.prog.info? 304=some Tryz.t304 from by kernel_rfl) (by kernel_rfl)
instance:AggI Tryz.prog 304 2:=⟨Anv⟩
theorem Aly:Jd Tryz.prog 32 [.int .i64 (0),.int .i64 (0)]:=⟨_,Tryz.zeroValue32,rfl⟩
instance:Sn Tryz.prog 32 [.int .i64 (0),.int .i64 (0)]:=⟨Aly⟩
theorem Aex:Jd Tryz.prog 26 [.int .i64 (0),.int .i64 (0),.int .i64 (0)]:=⟨_,Tryz.zeroValue26,rfl⟩
instance:Sn Tryz.prog 26 [.int .i64 (0),.int .i64 (0),.int .i64 (0)]:=⟨Aex⟩
noncomputable def Fd (p0:Ab) (p1:Ab) (p2:Ab):Option Int :=
 some (w64 ((w64 ((w64 (p1.X-p0.X))*(w64 (p2.Y-p0.Y))))-(w64 ((w64 (p1.Y-p0.Y))*(w64 (p2.X-p0.X))))))
noncomputable def Ho (p0:Ae):Option Ab :=
 some (⟨p0.X,p0.Y⟩:Ab)
structure Wa where
 a0:Ab
 a1:Ab
 a2:Ab
theorem Alz (x0:Int) (x1:Int) (x2:Int):Ajx Tryz.prog 26 [.int .i64 x0,.int .i64 x1,.int .i64 x2]:=by
 intro j h k w
 have h':j < 3:=h
 match j,h,h' with
 | 0,_,_=>exact (show (Instr.index 26 (.agg ([.int .i64 x0,.int .i64 x1,.int .i64 x2]:List Value).toArray) (.int k ((0:Nat):Int))).run Tryz.prog w = .ok (.int .i64 x0) w by kernel_rfl)
 | 1,_,_=>exact (show (Instr.index 26 (.agg ([.int .i64 x0,.int .i64 x1,.int .i64 x2]:List Value).toArray) (.int k ((1:Nat):Int))).run Tryz.prog w = .ok (.int .i64 x1) w by kernel_rfl)
 | 2,_,_=>exact (show (Instr.index 26 (.agg ([.int .i64 x0,.int .i64 x1,.int .i64 x2]:List Value).toArray) (.int k ((2:Nat):Int))).run Tryz.prog w = .ok (.int .i64 x2) w by kernel_rfl)
instance (x0:Int) (x1:Int) (x2:Int):Atf Tryz.prog 26 [.int .i64 x0,.int .i64 x1,.int .i64 x2]:=⟨Alz _ _ _⟩
instance (x0:Int) (x1:Int) (x2:Int):Ao9 Tryz.prog 26 [.int .i64 x0,.int .i64 x1,.int .i64 x2] (Value.int .i64) [x0,x1,x2]:=⟨Alz _ _ _⟩
noncomputable def Gv (p0:Bg) (p1:Int):Option Wa :=
 bnd (idx p0.T p1) fun x4 =>
 bnd (idx p0.V x4.a0) fun x0 =>
 bnd (Ho x0) fun r0 =>
 bnd (idx p0.V x4.a1) fun x1 =>
 bnd (Ho x1) fun r1 =>
 bnd (idx p0.V x4.a2) fun x2 =>
 bnd (Ho x2) fun r2 =>
 some (⟨r0,r1,r2⟩:Wa)
instance:UndI Tryz.prog 38 (.slice 26):=⟨Tryz.underlying38⟩
noncomputable def Ju (p0:Bg) (p1:Ab):Int→Option (Sum Int (Sum Unit Int)):=fun s0 =>
 if s0 < ((((p0.T).length:Nat):Int)) then (bnd (Gv p0 s0) fun r0 =>
 jn (fun (s1:Bool) =>
 if s1=true then (some (.inr (.inr (s0))))
 else (some (.inl (w64 (s0+1)))))
 (fun j0=>bnd (Fd (⟨r0.a0.X,r0.a0.Y⟩:Ab) (⟨r0.a1.X,r0.a1.Y⟩:Ab) p1) fun r1 =>
 if 0≤r1 then (bnd (Fd (⟨r0.a1.X,r0.a1.Y⟩:Ab) (⟨r0.a2.X,r0.a2.Y⟩:Ab) p1) fun r2 =>
 if 0≤r2 then (bnd (Fd (⟨r0.a2.X,r0.a2.Y⟩:Ab) (⟨r0.a0.X,r0.a0.Y⟩:Ab) p1) fun r3 =>
 j0 (decide (0≤r3)))
 else (j0 false))
 else (j0 false)))
 else (some (.inr (.inl ())))
noncomputable def Kx (p0:Bg) (p1:Ab):Option Int :=
 jn (fun (_:Unit) =>
 some (-1))
 (fun j2=>bnd (lfix (Ju p0 p1) 0) fun t0 =>
 (match t0 with
 | (.inl z0)=>j2 z0
 | (.inr (z0))=>some z0
 ))
noncomputable def Gc (p0:Int) (p1:Int):Option (Int × Int) :=
 some (wu64 ((wu64 ((wu64 ((shr_ .u64 p0 32)*(shr_ .u64 p1 32)))+(shr_ .u64 (wu64 ((wu64 ((shr_ .u64 p0 32)*(Dn .u64 p1 4294967295)))+(shr_ .u64 (wu64 ((Dn .u64 p0 4294967295)*(Dn .u64 p1 4294967295))) 32))) 32)))+(shr_ .u64 (wu64 ((Dn .u64 (wu64 ((wu64 ((shr_ .u64 p0 32)*(Dn .u64 p1 4294967295)))+(shr_ .u64 (wu64 ((Dn .u64 p0 4294967295)*(Dn .u64 p1 4294967295))) 32))) 4294967295)+(wu64 ((Dn .u64 p0 4294967295)*(shr_ .u64 p1 32))))) 32)),wu64 (p0*p1))
instance:UndI Tryz.prog 5 (.int .u8):=⟨Tryz.underlying5⟩
def Kc:List Int:=[0,1,2,2,3,3,3,3,4,4,4,4,4,4,4,4,5,5,5,5,5,5,5,5,5,5,5,5,5,5,5,5,6,6,6,6,6,6,6,6,6,6,6,6,6,6,6,6,6,6,6,6,6,6,6,6,6,6,6,6,6,6,6,6,7,7,7,7,7,7,7,7,7,7,7,7,7,7,7,7,7,7,7,7,7,7,7,7,7,7,7,7,7,7,7,7,7,7,7,7,7,7,7,7,7,7,7,7,7,7,7,7,7,7,7,7,7,7,7,7,7,7,7,7,7,7,7,7,8,8,8,8,8,8,8,8,8,8,8,8,8,8,8,8,8,8,8,8,8,8,8,8,8,8,8,8,8,8,8,8,8,8,8,8,8,8,8,8,8,8,8,8,8,8,8,8,8,8,8,8,8,8,8,8,8,8,8,8,8,8,8,8,8,8,8,8,8,8,8,8,8,8,8,8,8,8,8,8,8,8,8,8,8,8,8,8,8,8,8,8,8,8,8,8,8,8,8,8,8,8,8,8,8,8,8,8,8,8,8,8,8,8,8,8,8,8,8,8,8,8,8,8,8,8,8,8]
noncomputable def Jh (p0:Int):Option Int :=
 jn (fun (s2:Int × Int) =>
 jn (fun (s5:Int × Int) =>
 jn (fun (s8:Int × Int) =>
 bnd (idx Kc (wu8 (s8.1))) fun x0 =>
 some (w64 (s8.2+(w64 (x0)))))
 (fun j8=>if 256≤s5.1 then (j8 (shr_ .u64 s5.1 8,w64 (s5.2+8)))
 else (j8 (s5.1,s5.2))))
 (fun j5=>if 65536≤s2.1 then (j5 (shr_ .u64 s2.1 16,w64 (s2.2+16)))
 else (j5 (s2.1,s2.2))))
 (fun j2=>if 4294967296≤p0 then (j2 (shr_ .u64 p0 32,32))
 else (j2 (p0,0)))
noncomputable def Ed (p0:Int):Option Int :=
 bnd (Jh p0) fun r1 =>
 some (w64 (64-r1))
instance:UndI Tryz.prog 35 (.int .u64):=⟨Tryz.underlying35⟩
noncomputable def Kk (p2:Int) (r0:Int) (p1:Int):(Int × Int)→Option (Sum (Int × Int) Int):=fun s0 =>
 jn (fun (s1:Bool) =>
 if s1=true then (if 4294967296≤(wu64 (s0.2+(shr_ .u64 (shl_ .u64 p2 (wu64 (r0))) 32))) then (some (.inr (wu64 (s0.1-1))))
 else (some (.inl (wu64 (s0.1-1),wu64 (s0.2+(shr_ .u64 (shl_ .u64 p2 (wu64 (r0))) 32))))))
 else (some (.inr s0.1)))
 (fun j0=>if 4294967296≤s0.1 then (j0 true)
 else (j0 (decide ((wu64 ((wu64 (4294967296*s0.2))+(shr_ .u64 (shl_ .u64 p1 (wu64 (r0))) 32))) < (wu64 (s0.1*(Dn .u64 (shl_ .u64 p2 (wu64 (r0))) 4294967295)))))))
noncomputable def Km (p2:Int) (r0:Int) (p1:Int):(Int × Int)→Option (Sum (Int × Int) Int):=fun s0 =>
 jn (fun (s1:Bool) =>
 if s1=true then (if 4294967296≤(wu64 (s0.1+(shr_ .u64 (shl_ .u64 p2 (wu64 (r0))) 32))) then (some (.inr (wu64 (s0.2-1))))
 else (some (.inl (wu64 (s0.1+(shr_ .u64 (shl_ .u64 p2 (wu64 (r0))) 32)),wu64 (s0.2-1)))))
 else (some (.inr s0.2)))
 (fun j0=>if 4294967296≤s0.2 then (j0 true)
 else (j0 (decide ((wu64 ((wu64 (4294967296*s0.1))+(Dn .u64 (shl_ .u64 p1 (wu64 (r0))) 4294967295))) < (wu64 (s0.2*(Dn .u64 (shl_ .u64 p2 (wu64 (r0))) 4294967295)))))))
noncomputable def Ji (p0:Int) (p1:Int) (p2:Int):Option (Int × Int) :=
 if p2=0 then (none)
 else (if p2≤p0 then (none)
 else (if p0=0 then (gd (p2≠0) <|
 gd (p2≠0) <|
 some (wu64 (Int.tdiv p1 p2),Int.tmod p1 p2))
 else (bnd (Ed p2) fun r0 =>
 gd (0≤(wu64 (r0))) <|
 gd (0≤(wu64 (r0))) <|
 gd (0≤(wu64 (64-(wu64 (r0))))) <|
 gd (0≤(wu64 (r0))) <|
 gd ((shr_ .u64 (shl_ .u64 p2 (wu64 (r0))) 32)≠0) <|
 jn (fun (s0:Int) =>
 gd ((shr_ .u64 (shl_ .u64 p2 (wu64 (r0))) 32)≠0) <|
 jn (fun (s1:Int) =>
 gd (0≤(wu64 (r0))) <|
 some (wu64 ((wu64 (s0*4294967296))+s1),shr_ .u64 (wu64 ((wu64 ((wu64 ((wu64 ((wu64 ((wu64 ((Ms .u64 (shl_ .u64 p0 (wu64 (r0))) (shr_ .u64 p1 (wu64 (64-(wu64 (r0))))))*4294967296))+(shr_ .u64 (shl_ .u64 p1 (wu64 (r0))) 32)))-(wu64 (s0*(shl_ .u64 p2 (wu64 (r0)))))))*4294967296))+(Dn .u64 (shl_ .u64 p1 (wu64 (r0))) 4294967295)))-(wu64 (s1*(shl_ .u64 p2 (wu64 (r0))))))) (wu64 (r0))))
 (fun j0=>bnd (lfix (Km p2 r0 p1) (wu64 ((wu64 ((wu64 ((wu64 ((Ms .u64 (shl_ .u64 p0 (wu64 (r0))) (shr_ .u64 p1 (wu64 (64-(wu64 (r0))))))*4294967296))+(shr_ .u64 (shl_ .u64 p1 (wu64 (r0))) 32)))-(wu64 (s0*(shl_ .u64 p2 (wu64 (r0)))))))-(wu64 ((wu64 (Int.tdiv (wu64 ((wu64 ((wu64 ((Ms .u64 (shl_ .u64 p0 (wu64 (r0))) (shr_ .u64 p1 (wu64 (64-(wu64 (r0))))))*4294967296))+(shr_ .u64 (shl_ .u64 p1 (wu64 (r0))) 32)))-(wu64 (s0*(shl_ .u64 p2 (wu64 (r0))))))) (shr_ .u64 (shl_ .u64 p2 (wu64 (r0))) 32)))*(shr_ .u64 (shl_ .u64 p2 (wu64 (r0))) 32)))),wu64 (Int.tdiv (wu64 ((wu64 ((wu64 ((Ms .u64 (shl_ .u64 p0 (wu64 (r0))) (shr_ .u64 p1 (wu64 (64-(wu64 (r0))))))*4294967296))+(shr_ .u64 (shl_ .u64 p1 (wu64 (r0))) 32)))-(wu64 (s0*(shl_ .u64 p2 (wu64 (r0))))))) (shr_ .u64 (shl_ .u64 p2 (wu64 (r0))) 32)))) fun t0 =>
 j0 t0))
 (fun j1=>bnd (lfix (Kk p2 r0 p1) (wu64 (Int.tdiv (Ms .u64 (shl_ .u64 p0 (wu64 (r0))) (shr_ .u64 p1 (wu64 (64-(wu64 (r0)))))) (shr_ .u64 (shl_ .u64 p2 (wu64 (r0))) 32)),wu64 ((Ms .u64 (shl_ .u64 p0 (wu64 (r0))) (shr_ .u64 p1 (wu64 (64-(wu64 (r0))))))-(wu64 ((wu64 (Int.tdiv (Ms .u64 (shl_ .u64 p0 (wu64 (r0))) (shr_ .u64 p1 (wu64 (64-(wu64 (r0)))))) (shr_ .u64 (shl_ .u64 p2 (wu64 (r0))) 32)))*(shr_ .u64 (shl_ .u64 p2 (wu64 (r0))) 32)))))) fun t1 =>
 j1 t1))))
structure Fp where
 hi:Int
 lo:Int
theorem Ads {x y c:Int} (h:(((0:Int)≤x∧(0:Int)≤y)∧(0:Int)≤c∧c≤(1:Int))) (w:World):(callFunc 351 #[.int .u64 x,.int .u64 y,.int .u64 c]).run Tryz.prog w = .ok (.value (.tuple #[.int .u64 ((x+y+c) % 18446744073709551616),.int .u64 ((x+y+c) / 18446744073709551616)])) w:=by
 rw [run_callFunc_extern Tryz.func351 (by kernel_rfl) (by kernel_rfl) (by kernel_rfl) (e:=add64Entry) (by kernel_rfl),run_add64 x y c h.1.1 h.1.2 h.2.1 h.2.2]
 rfl
instance {x y c:Int}:ExtI Tryz.prog 351 [.int .u64 x,.int .u64 y,.int .u64 c] (((0:Int)≤x∧(0:Int)≤y)∧(0:Int)≤c∧c≤(1:Int)) (.tuple [.int .u64 ((x+y+c) % 18446744073709551616),.int .u64 ((x+y+c) / 18446744073709551616)].toArray):=⟨fun h w=>Ads h w⟩
noncomputable def Fa (p0:Fp) (p1:Int) (p2:Int):Option Fp :=
 bnd (Gc (wu64 (p1)) (wu64 (p2))) fun r3 =>
 gd ((((0:Int)≤p0.lo∧(0:Int)≤r3.2)∧(0:Int)≤0∧0≤(1:Int))) <|
 gd ((((0:Int)≤p0.hi∧(0:Int)≤r3.1)∧(0:Int)≤((p0.lo+r3.2+0) / 18446744073709551616)∧((p0.lo+r3.2+0) / 18446744073709551616)≤(1:Int))) <|
 some (⟨(p0.hi+r3.1+((p0.lo+r3.2+0) / 18446744073709551616)) % 18446744073709551616,(p0.lo+r3.2+0) % 18446744073709551616⟩:Fp)
noncomputable def Hp (p0:Aw) (p1:Aw):Option (Int × Int) :=
 bnd (Fa (⟨0,0⟩:Fp) p0.a0 (w64 (p1.a0-(min (min p1.a0 p1.a1) p1.a2)))) fun r4 =>
 bnd (Fa r4 p0.a1 (w64 (p1.a1-(min (min p1.a0 p1.a1) p1.a2)))) fun r7 =>
 bnd (Fa r7 p0.a2 (w64 (p1.a2-(min (min p1.a0 p1.a1) p1.a2)))) fun r0 =>
 bnd (Ji r0.hi r0.lo (wu64 (w64 ((w64 (p0.a0+p0.a1))+p0.a2)))) fun r1 =>
 if 0 < r1.2 then (some (w64 ((min (min p1.a0 p1.a1) p1.a2)+(w64 (r1.1))),w64 ((w64 ((min (min p1.a0 p1.a1) p1.a2)+(w64 (r1.1))))+1)))
 else (some (w64 ((min (min p1.a0 p1.a1) p1.a2)+(w64 (r1.1))),w64 ((min (min p1.a0 p1.a1) p1.a2)+(w64 (r1.1)))))
noncomputable def Ir (p0:Bg) (p1:Int) (p2:Ab):Option Br :=
 bnd (Gv p0 p1) fun r4 =>
 jn (fun (s3:Int × Int × Int) =>
 bnd (idx p0.T p1) fun x0 =>
 jn (fun (s9:Int × Int) =>
 jn (fun (s0:Int × Int) =>
 jn (fun (s1:Int × Int) =>
 bnd (Hp (⟨s3.1,s3.2.1,s3.2.2⟩:Aw) (⟨s9.1,s0.1,s1.1⟩:Aw)) fun r0 =>
 bnd (Hp (⟨s3.1,s3.2.1,s3.2.2⟩:Aw) (⟨s9.2,s0.2,s1.2⟩:Aw)) fun r1 =>
 some (⟨r0.1,r1.2⟩:Br))
 (fun j0=>bnd (idx p0.V x0.a2) fun x1 =>
 bnd (idx p0.V x0.a2) fun x2 =>
 j0 (x1.Z.Lo,x2.Z.Hi)))
 (fun j1=>bnd (idx p0.V x0.a1) fun x3 =>
 bnd (idx p0.V x0.a1) fun x4 =>
 j1 (x3.Z.Lo,x4.Z.Hi)))
 (fun j9=>bnd (idx p0.V x0.a0) fun x5 =>
 bnd (idx p0.V x0.a0) fun x6 =>
 j9 (x5.Z.Lo,x6.Z.Hi)))
 (fun j3=>bnd (Fd (⟨r4.a1.X,r4.a1.Y⟩:Ab) (⟨r4.a2.X,r4.a2.Y⟩:Ab) p2) fun r8 =>
 bnd (Fd (⟨r4.a2.X,r4.a2.Y⟩:Ab) (⟨r4.a0.X,r4.a0.Y⟩:Ab) p2) fun r2 =>
 bnd (Fd (⟨r4.a0.X,r4.a0.Y⟩:Ab) (⟨r4.a1.X,r4.a1.Y⟩:Ab) p2) fun r3 =>
 j3 (r8,r2,r3))
noncomputable def Qc (p0:Br) (p1:Br):Option Int :=
 some (max (max 0 (w64 (p0.Lo-p1.Hi))) (w64 (p1.Lo-p0.Hi)))
noncomputable def Og (p0:Int) (p1:Int) (p2:Int):Option Bool :=
 bnd (Gc (wu64 ((wu64 (p0))*(wu64 (p0)))) 1000000) fun r1 =>
 bnd (Gc (wu64 ((wu64 (p2))*(wu64 (p2)))) (wu64 (p1))) fun r4 =>
 jn (fun (s4:Bool) =>
 some s4)
 (fun j4=>if r1.1 < r4.1 then (j4 true)
 else (if r1.1=r4.1 then (j4 (decide (r1.2≤r4.2)))
 else (j4 false)))
noncomputable def Mg (x0:Aw) (p0:Bg) (p1:Aa) (p2:Ag) (r7:Int):Int→Option (Sum Int (Sum Unit (Int × Bool × Int))):=fun s0 =>
 if s0 < 3 then (bnd (idx [x0.a0,x0.a1,x0.a2] s0) fun x1 =>
 bnd (idx p0.V x1) fun x2 =>
 bnd (Qc p1.Z x2.Z) fun r0 =>
 bnd (Ck p1) fun r1 =>
 bnd (Ho x2) fun r2 =>
 bnd (Iu r1 r2) fun r3 =>
 bnd (Og r0 r3 p2.Slope) fun r4 =>
 if r4=true then (some (.inl (w64 (s0+1))))
 else (some (.inr (.inr (r7,false,0)))))
 else (some (.inr (.inl ())))
noncomputable def Rv (p0:Bg) (p1:Aa) (p2:Ag):Option (Int × Bool × Int) :=
 bnd (Ck p1) fun r4 =>
 bnd (Kx p0 r4) fun r7 =>
 if r7 < 0 then (some (r7,false,0))
 else (bnd (Ck p1) fun r0 =>
 bnd (Ir p0 r7 r0) fun r1 =>
 bnd (Qc p1.Z r1) fun r2 =>
 if p2.Reach < r2 then (some (r7,false,0))
 else (jn (fun (_:Unit) =>
 some (r7,true,r2))
 (fun j0=>bnd (idx p0.T r7) fun x0 =>
 bnd (lfix (Mg x0 p0 p1 p2 r7) 0) fun t0 =>
 (match t0 with
 | (.inl z0)=>j0 z0
 | (.inr (z0))=>some z0
 ))))
instance Afj (p0:Ab) (p1:Ab) (p2:Ab):Con (Fd p0 p1 p2) Tryz.prog 225 (fun _ vs=>vs=[.agg #[.int .i64 (p0.X),.int .i64 (p0.Y)],.agg #[.int .i64 (p1.X),.int .i64 (p1.Y)],.agg #[.int .i64 (p2.X),.int .i64 (p2.Y)]]) (fun _ r=>fun v Ln=>v = .int .i64 (r)∧Ln=[]∧True):=⟨by
 rintro _ _ r rfl hx w hK;unfold Fd at hx;refine CtS Tryz.ntmps225 Tryz.results225 ?_;exact au⟩
theorem Eq (p0:Ab) (p1:Ab) (p2:Ab)  {r:Int} (hx:Fd p0 p1 p2=some r) (w:World):CtL Tryz.prog 225 [.agg #[.int .i64 (p0.X),.int .i64 (p0.Y)],.agg #[.int .i64 (p1.X),.int .i64 (p1.Y)],.agg #[.int .i64 (p2.X),.int .i64 (p2.Y)]] w fun v Ln=>v = .int .i64 (r)∧Ln=[]∧True:=(Afj p0 p1 p2).h [] _ _ rfl hx w (fun _ h=>absurd h List.not_mem_nil)
instance surface_Place_c (p0:Ae):Con (Ho p0) Tryz.prog 165 (fun _ vs=>vs=[.agg #[.int .i64 (p0.X),.int .i64 (p0.Y),.int .i64 (p0.Z.Lo),.int .i64 (p0.Z.Hi)]]) (fun _ r=>fun v Ln=>v = .agg #[.int .i64 (r.X),.int .i64 (r.Y)]∧Ln=[]∧True):=⟨by
 rintro _ _ r rfl hx w hK;unfold Ho at hx;refine CtS Tryz.ntmps165 Tryz.results165 ?_;exact au⟩
instance Acl (p0:Bg) (p1:Int):Con (Gv p0 p1) Tryz.prog 224 (fun K vs=>∃ (A0_0:Option Addr) (c0_0:Nat) (A0_1:Option Addr) (c0_1:Nat) (A0_2:Option Addr) (c0_2:Nat),vs=[.agg #[.slice (A0_0) ((p0.V).length) (c0_0),.slice (A0_1) ((p0.T).length) (c0_1),.slice (A0_2) ((p0.Lines).length) (c0_2)],.int .i64 (p1)]∧Has K A0_0 (p0.V).length c0_0 4 Al (p0.V)∧Has K A0_1 (p0.T).length c0_1 3 Bi (p0.T)∧Has K A0_2 (p0.Lines).length c0_2 2 Av (p0.Lines)∧True) (fun _ r=>fun v Ln=>v = .agg #[.int .i64 (r.a0.X),.int .i64 (r.a0.Y),.int .i64 (r.a1.X),.int .i64 (r.a1.Y),.int .i64 (r.a2.X),.int .i64 (r.a2.Y)]∧Ln=[]∧True):=⟨by
 rintro K _ r ⟨A0_0,c0_0,A0_1,c0_1,A0_2,c0_2,rfl,ha0,ha1,ha2,-⟩ hx w hK;replace ha0:=Has.lo ha0 hK;replace ha1:=Has.lo ha1 hK;replace ha2:=Has.lo ha2 hK;unfold Gv at hx;refine CtS Tryz.ntmps224 Tryz.results224 ?_;exact au⟩
theorem Abi (p0:Bg) (p1:Int) {K:List Ent} {A0_0:Option Addr} {c0_0:Nat} {A0_1:Option Addr} {c0_1:Nat} {A0_2:Option Addr} {c0_2:Nat} (ha0:Has K A0_0 (p0.V).length c0_0 4 Al (p0.V)) (ha1:Has K A0_1 (p0.T).length c0_1 3 Bi (p0.T)) (ha2:Has K A0_2 (p0.Lines).length c0_2 2 Av (p0.Lines)) {r:Wa} (hx:Gv p0 p1=some r) (w:World) (hK:∀ e∈K,Ent.ok w e):CtL Tryz.prog 224 [.agg #[.slice (A0_0) ((p0.V).length) (c0_0),.slice (A0_1) ((p0.T).length) (c0_1),.slice (A0_2) ((p0.Lines).length) (c0_2)],.int .i64 (p1)] w fun v Ln=>v = .agg #[.int .i64 (r.a0.X),.int .i64 (r.a0.Y),.int .i64 (r.a1.X),.int .i64 (r.a1.Y),.int .i64 (r.a2.X),.int .i64 (r.a2.Y)]∧Ln=[]∧True:=(Acl p0 p1).h K _ _ ⟨_,_,_,_,_,_,rfl,ha0,ha1,ha2,trivial⟩ hx w hK
instance surface_Locate_c (p0:Bg) (p1:Ab):Con (Kx p0 p1) Tryz.prog 160 (fun K vs=>∃ (A0_0:Option Addr) (c0_0:Nat) (A0_1:Option Addr) (c0_1:Nat) (A0_2:Option Addr) (c0_2:Nat),vs=[.agg #[.slice (A0_0) ((p0.V).length) (c0_0),.slice (A0_1) ((p0.T).length) (c0_1),.slice (A0_2) ((p0.Lines).length) (c0_2)],.agg #[.int .i64 (p1.X),.int .i64 (p1.Y)]]∧Has K A0_0 (p0.V).length c0_0 4 Al (p0.V)∧Has K A0_1 (p0.T).length c0_1 3 Bi (p0.T)∧Has K A0_2 (p0.Lines).length c0_2 2 Av (p0.Lines)∧True) (fun _ r=>fun v Ln=>v = .int .i64 (r)∧Ln=[]∧True):=⟨by
 rintro K _ r ⟨A0_0,c0_0,A0_1,c0_1,A0_2,c0_2,rfl,ha0,ha1,ha2,-⟩ hx w hK;replace ha0:=Has.lo ha0 hK;replace ha1:=Has.lo ha1 hK;replace ha2:=Has.lo ha2 hK;unfold Kx at hx;refine CtS Tryz.ntmps160 Tryz.results160 ?_;refine pre ?_;intros;rename_i hx
 refine Lw ?_;refine pre ?_;intros;rename_i hx
 apply Jr (γ:=Unit) hx [] (fun s2 y2 f=>f) [999] (fun s2 y2 l=>l);exact kk
 ·intro s2 y2 hx;exact au
 ·intro _ hx;refine pre ?_;intros;rename_i hx
  apply Lr (γ:=Unit) hx [2,3,9] (fun s0 y0 f=>(10,.int .i64 (s0))::f) [0,1,999] (fun s0 y0 l=>l) ();exact kk;exact sk;intro s0 y0 x0 hx _;unfold Ju at hx
  refine pre ?_;intros;rename_i hx
  refine Cq1 (s:=11) hx rfl (fun _ hx=>?_) (fun _ hx=>?_)
  ·refine pre ?_;intros;rename_i hx
   apply Jr (γ:=Unit) hx [2,3,5,9,10] (fun s1 y1 f=>(40,.bool (s1))::f) [1,2,999] (fun s1 y1 l=>l);exact kk
   ·intro s1 y1 hx;exact au
   ·intro _ hx;exact au
  ·exact au⟩
instance Acm (p0:Int) (p1:Int):Con (Gc p0 p1) Tryz.prog 227 (fun _ vs=>vs=[.int .u64 (p0),.int .u64 (p1)]) (fun _ r=>fun v Ln=>v = .tuple #[.int .u64 (r.1),.int .u64 (r.2)]∧Ln=[]∧True):=⟨by
 rintro _ _ r rfl hx w hK;unfold Gc at hx;refine CtS Tryz.ntmps227 Tryz.results227 ?_;exact au⟩
theorem Abj (p0:Int) (p1:Int)  {r:Int × Int} (hx:Gc p0 p1=some r) (w:World):CtL Tryz.prog 227 [.int .u64 (p0),.int .u64 (p1)] w fun v Ln=>v = .tuple #[.int .u64 (r.1),.int .u64 (r.2)]∧Ln=[]∧True:=(Acm p0 p1).h [] _ _ rfl hx w (fun _ h=>absurd h List.not_mem_nil)
theorem Abk (p0:Int)  {r:Int} (hx:Jh p0=some r) (w:World):CtL Tryz.prog 239 [.int .u64 (p0)] w fun v Ln=>v = .int .i64 (r)∧Ln=[]∧True:=by
 refine CtL.mk 25 Tryz.func239 rfl Tryz.ntmps239 (by kernel_rfl) rfl ?_;show T 25 _ [(0,.int .u64 (p0))] _;unfold Jh at hx;refine Y5 ?_;refine Tj (γ:=Unit) hx (fun s2 y2=>[(0,.int .u64 (s2.1)),(2,.int .i64 (s2.2))]) (fun s2 y2=>[]++[.old w]) (fun s2 y2=>True) (fun s2 y2 hx4 hG5=>?_) (fun j2 hx=>?_)
 ·refine Tj (γ:=Unit) hx4 (fun s5 y5=>[(0,.int .u64 (s5.1)),(2,.int .i64 (s5.2))]) (fun s5 y5=>[]++[.old w]) (fun s5 y5=>True) (fun s5 y5 hx9 hG0=>?_) (fun j5 hx4=>?_)
  ·refine Tj (γ:=Unit) hx9 (fun s8 y8=>[(0,.int .u64 (s8.1)),(2,.int .i64 (s8.2))]) (fun s8 y8=>[]++[.old w]) (fun s8 y8=>True) (fun s8 y8 hx0 hG1=>?_) (fun j8 hx9=>?_)
   ·refine Y4 ?_;refine Aj (Aev rfl (by kernel_rfl) Tryz.underlying5) rfl ?_;obtain ⟨x0,h0,hx1⟩:=Ad hx0;refine Aj (Ama (ys:=Kc) rfl rfl Tryz.underlying9 (by kernel_rfl) h0) rfl ?_;refine Aj (Zd rfl (by kernel_rfl) Tryz.underlying3) rfl ?_;refine Y5 ?_;obtain rfl:=Option.some.inj hx1;exact Bq (rs:=[.tmp 2]) Tryz.results239 (.tmp rfl (.nil)) (Ln:=[]) ⟨rfl,rfl,trivial⟩ (Bw) (by exact .refl)
   ·refine Y6 ?_;refine Ti hx9 (s:=14) rfl (fun h2 hx5=>?_) (fun h2 hx6=>?_)
    ·refine Y4 ?_;refine Aj (Sf rfl rfl (by decide)) rfl ?_;refine Y8 ?_;exact Mt (shr_ .u64 s5.1 8,w64 (s5.2+8)) () hx5 trivial (by exact .refl)
    ·refine Y2 ?_;exact Mt (s5.1,s5.2) () hx6 trivial (by exact .refl)
  ·refine Y6 ?_;refine Ti hx4 (s:=8) rfl (fun h6 hx7=>?_) (fun h6 hx8=>?_)
   ·refine Y4 ?_;refine Aj (Sf rfl rfl (by decide)) rfl ?_;refine Y8 ?_;exact Mt (shr_ .u64 s2.1 16,w64 (s2.2+16)) () hx7 trivial (by exact .refl)
   ·refine Y2 ?_;exact Mt (s2.1,s2.2) () hx8 trivial (by exact .refl)
 ·refine Y6 ?_;refine Ti hx (s:=4) rfl (fun h1 hx2=>?_) (fun h1 hx3=>?_)
  ·refine Y4 ?_;refine Aj (Sf rfl rfl (by decide)) rfl ?_;refine Y6 ?_;exact Mt (shr_ .u64 p0 32,32) () hx2 trivial (by exact .refl)
  ·refine Y2 ?_;exact Mt (p0,0) () hx3 trivial (by exact .refl)
instance math_bits_Len64_c (p0:Int):Con (Jh p0) Tryz.prog 239 (fun _ vs=>vs=[.int .u64 (p0)]) (fun _ r=>fun v Ln=>v = .int .i64 (r)∧Ln=[]∧True):=⟨by
 rintro _ _ r rfl hx w hK;exact Abk p0 hx w⟩
instance Un (p0:Int):Con (Ed p0) Tryz.prog 352 (fun _ vs=>vs=[.int .u64 (p0)]) (fun _ r=>fun v Ln=>v = .int .i64 (r)∧Ln=[]∧True):=⟨by
 rintro _ _ r rfl hx w hK;unfold Ed at hx;refine CtS Tryz.ntmps352 Tryz.results352 ?_;exact au⟩
theorem Tv (p0:Int)  {r:Int} (hx:Ed p0=some r) (w:World):CtL Tryz.prog 352 [.int .u64 (p0)] w fun v Ln=>v = .int .i64 (r)∧Ln=[]∧True:=(Un p0).h [] _ _ rfl hx w (fun _ h=>absurd h List.not_mem_nil)
theorem Abl (p0:Int) (p1:Int) (p2:Int)  {r:Int × Int} (hx:Ji p0 p1 p2=some r) (w:World):CtL Tryz.prog 308 [.int .u64 (p0),.int .u64 (p1),.int .u64 (p2)] w fun v Ln=>v = .tuple #[.int .u64 (r.1),.int .u64 (r.2)]∧Ln=[]∧True:=by
 refine CtL.mk 135 Tryz.func308 rfl Tryz.ntmps308 (by kernel_rfl) rfl ?_;show T 135 _ [(0,.int .u64 (p0)),(1,.int .u64 (p1)),(2,.int .u64 (p2))] _;unfold Ji at hx;(iterate 13 refine Y ?_);refine Ti hx (s:=20) rfl (fun h1 hx2=>?_) (fun h1 hx3=>?_)
 ·refine Y2 ?_;exact Acf hx2
 ·refine Y11 ?_;refine Ti hx3 (s:=24) rfl (fun h4 hx5=>?_) (fun h4 hx6=>?_)
  ·refine Y2 ?_;exact Acf hx5
  ·refine Y10 ?_;refine Ti hx6 (s:=27) rfl (fun h7 hx8=>?_) (fun h7 hx0=>?_)
   ·refine Y2 ?_;refine T_dr [0,0,0,0,0,0,2,2] (.q 0 (.q 1 (.q 2 (.q 3 (.q 4 (.q 5 (.e 6 (.e 7 (.done) (.stop)) (.stop)))))))) mixed (by kernel_rfl) (by kernel_rfl) ?_;refine Y2 ?_;obtain ⟨h9,hx1⟩:=Bh hx8;refine P_p rfl rfl (Ze rfl rfl h9) rfl ?_;refine Y2 ?_;obtain ⟨h0,hx4⟩:=Bh hx1;refine P_p rfl rfl (Aef rfl rfl h0) rfl ?_;refine P_x rfl (Cl (Cc rfl) rfl ?_) Am;refine P_x rfl (Cl (Cc rfl) rfl ?_) Am;refine Y4 ?_;obtain rfl:=Option.some.inj hx4;exact Bq (rs:=[.tmp 6,.tmp 7]) Tryz.results308 (.tmp rfl (.tmp rfl (.nil))) (Ln:=[]) ⟨rfl,rfl,trivial⟩ (Bw) (by exact .refl)
   ·refine Y6 ?_;obtain ⟨r0,h2,hx7⟩:=Ad hx0;refine Tc (fun w1 hw1=>Tv p2  h2 w1) ?_;refine Aj (Hk rfl (by kernel_rfl) Tryz.underlying35) rfl ?_;refine Y7 ?_;obtain ⟨h3,hx9⟩:=Bh hx7;refine Aj (Af5 rfl rfl h3) rfl ?_;refine Y6 ?_;refine Aj (Sf rfl rfl (by decide)) rfl ?_;(iterate 14 refine Y ?_);obtain ⟨h5,hx20⟩:=Bh hx9;refine Aj (Af5 rfl rfl h5) rfl ?_;refine Y3 ?_;obtain ⟨h6,hx22⟩:=Bh hx20;refine Aj (Sf rfl rfl h6) rfl ?_;refine Y8 ?_;obtain ⟨h8,hx24⟩:=Bh hx22;refine Aj (Af5 rfl rfl h8) rfl ?_;refine Y6 ?_;refine Aj (Sf rfl rfl (by decide)) rfl ?_;(iterate 14 refine Y ?_);obtain ⟨h25,hx26⟩:=Bh hx24;refine Aj (Ze rfl rfl h25) rfl ?_;(iterate 13 refine Y ?_);refine Tj (γ:=Unit) hx26 (fun s0 y0=>[(2,.int .u64 (shl_ .u64 p2 (wu64 (r0)))),(8,.int .u64 (wu64 (r0))),(9,.int .u64 (shr_ .u64 (shl_ .u64 p2 (wu64 (r0))) 32)),(10,.int .u64 (Dn .u64 (shl_ .u64 p2 (wu64 (r0))) 4294967295)),(11,.int .u64 (Ms .u64 (shl_ .u64 p0 (wu64 (r0))) (shr_ .u64 p1 (wu64 (64-(wu64 (r0))))))),(13,.int .u64 (shr_ .u64 (shl_ .u64 p1 (wu64 (r0))) 32)),(14,.int .u64 (Dn .u64 (shl_ .u64 p1 (wu64 (r0))) 4294967295)),(15,.int .u64 (s0))]) (fun s0 y0=>[]++[.old w]) (fun s0 y0=>True) (fun s0 y0 hx51 hG0=>?_) (fun j0 hx26=>?_)
    ·(iterate 17 refine Y ?_);obtain ⟨h53,hx54⟩:=Bh hx51;refine Aj (Ze rfl rfl h53) rfl ?_;(iterate 13 refine Y ?_);refine Tj (γ:=Unit) hx54 (fun s1 y1=>[(2,.int .u64 (shl_ .u64 p2 (wu64 (r0)))),(8,.int .u64 (wu64 (r0))),(14,.int .u64 (Dn .u64 (shl_ .u64 p1 (wu64 (r0))) 4294967295)),(15,.int .u64 (s0)),(17,.int .u64 (wu64 ((wu64 ((wu64 ((Ms .u64 (shl_ .u64 p0 (wu64 (r0))) (shr_ .u64 p1 (wu64 (64-(wu64 (r0))))))*4294967296))+(shr_ .u64 (shl_ .u64 p1 (wu64 (r0))) 32)))-(wu64 (s0*(shl_ .u64 p2 (wu64 (r0)))))))),(18,.int .u64 (s1))]) (fun s1 y1=>[]++[.old w]) (fun s1 y1=>True) (fun s1 y1 hx79 hG1=>?_) (fun j1 hx54=>?_)
     ·(iterate 15 refine Y ?_);obtain ⟨h81,hx82⟩:=Bh hx79;refine Aj (Sf rfl rfl h81) rfl ?_;refine Y5 ?_;obtain rfl:=Option.some.inj hx82;exact Bq (rs:=[.tmp 6,.tmp 7]) Tryz.results308 (.tmp rfl (.tmp rfl (.nil))) (Ln:=[]) ⟨rfl,rfl,trivial⟩ (Bw) (by exact .refl)
     ·refine Y ?_;obtain ⟨t0,hl0,ho0⟩:=Ad hx54;refine Lp (σ:=Int × Int) (γ:=Unit) hl0 (fun s2 y2=>[(2,.int .u64 (shl_ .u64 p2 (wu64 (r0)))),(8,.int .u64 (wu64 (r0))),(9,.int .u64 (shr_ .u64 (shl_ .u64 p2 (wu64 (r0))) 32)),(10,.int .u64 (Dn .u64 (shl_ .u64 p2 (wu64 (r0))) 4294967295)),(14,.int .u64 (Dn .u64 (shl_ .u64 p1 (wu64 (r0))) 4294967295)),(15,.int .u64 (s0)),(16,.int .u64 (s2.1)),(17,.int .u64 (wu64 ((wu64 ((wu64 ((Ms .u64 (shl_ .u64 p0 (wu64 (r0))) (shr_ .u64 p1 (wu64 (64-(wu64 (r0))))))*4294967296))+(shr_ .u64 (shl_ .u64 p1 (wu64 (r0))) 32)))-(wu64 (s0*(shl_ .u64 p2 (wu64 (r0)))))))),(18,.int .u64 (s2.2))]) (fun s2 y2=>[]++[.old w]) (fun s2 y2=>True) () trivial (by exact .refl) ?_;intro s2 y2 hG2 x0 hx67 ht0;unfold Km at hx67;refine Y ?_;refine Tj (γ:=Unit) hx67 (fun s3 y3=>[(2,.int .u64 (shl_ .u64 p2 (wu64 (r0)))),(8,.int .u64 (wu64 (r0))),(9,.int .u64 (shr_ .u64 (shl_ .u64 p2 (wu64 (r0))) 32)),(10,.int .u64 (Dn .u64 (shl_ .u64 p2 (wu64 (r0))) 4294967295)),(14,.int .u64 (Dn .u64 (shl_ .u64 p1 (wu64 (r0))) 4294967295)),(15,.int .u64 (s0)),(16,.int .u64 (s2.1)),(17,.int .u64 (wu64 ((wu64 ((wu64 ((Ms .u64 (shl_ .u64 p0 (wu64 (r0))) (shr_ .u64 p1 (wu64 (64-(wu64 (r0))))))*4294967296))+(shr_ .u64 (shl_ .u64 p1 (wu64 (r0))) 32)))-(wu64 (s0*(shl_ .u64 p2 (wu64 (r0)))))))),(18,.int .u64 (s2.2)),(113,.bool (s3))]) (fun s3 y3=>[]++[.old w]) (fun s3 y3=>True) (fun s3 y3 hx71 hG3=>?_) (fun j2 hx67=>?_)
      ·refine Dm (s:=113) rfl (fun h73=>?_) (fun h73=>?_)
       ·have hx74:=Cp h73 hx71;(iterate 25 refine Y ?_);refine Ti hx74 (s:=120) rfl (fun h76 hx77=>?_) (fun h76 hx78=>?_)
        ·refine Y2 ?_;refine Ajp rfl ?_;obtain rfl:=Cq ht0 hx77;refine Y2 ?_;exact Mt (wu64 (s2.2-1)) () ho0 trivial (by exact .refl)
        ·refine Y3 ?_;exact Rp (wu64 (s2.1+(shr_ .u64 (shl_ .u64 p2 (wu64 (r0))) 32)),wu64 (s2.2-1)) () hx78 trivial (by exact .refl)
       ·have hx75:=Db h73 hx71;refine Y3 ?_;obtain rfl:=Cq ht0 hx75;refine Y2 ?_;exact Mt s2.2 () ho0 trivial (by exact .refl)
      ·refine Y4 ?_;refine Ti hx67 (s:=104) rfl (fun h68 hx69=>?_) (fun h68 hx70=>?_)
       ·refine Y10 ?_;exact Mt true () hx69 trivial (by exact .refl)
       ·refine Y10 ?_;exact Mt (decide ((wu64 ((wu64 (4294967296*s2.1))+(Dn .u64 (shl_ .u64 p1 (wu64 (r0))) 4294967295))) < (wu64 (s2.2*(Dn .u64 (shl_ .u64 p2 (wu64 (r0))) 4294967295))))) () hx70 trivial (by exact .refl)
    ·refine Y ?_;obtain ⟨t1,hl1,ho1⟩:=Ad hx26;refine Lp (σ:=Int × Int) (γ:=Unit) hl1 (fun s4 y4=>[(2,.int .u64 (shl_ .u64 p2 (wu64 (r0)))),(8,.int .u64 (wu64 (r0))),(9,.int .u64 (shr_ .u64 (shl_ .u64 p2 (wu64 (r0))) 32)),(10,.int .u64 (Dn .u64 (shl_ .u64 p2 (wu64 (r0))) 4294967295)),(11,.int .u64 (Ms .u64 (shl_ .u64 p0 (wu64 (r0))) (shr_ .u64 p1 (wu64 (64-(wu64 (r0))))))),(13,.int .u64 (shr_ .u64 (shl_ .u64 p1 (wu64 (r0))) 32)),(14,.int .u64 (Dn .u64 (shl_ .u64 p1 (wu64 (r0))) 4294967295)),(15,.int .u64 (s4.1)),(16,.int .u64 (s4.2))]) (fun s4 y4=>[]++[.old w]) (fun s4 y4=>True) () trivial (by exact .refl) ?_;intro s4 y4 hG4 x1 hx39 ht1;unfold Kk at hx39;refine Y ?_;refine Tj (γ:=Unit) hx39 (fun s5 y5=>[(2,.int .u64 (shl_ .u64 p2 (wu64 (r0)))),(8,.int .u64 (wu64 (r0))),(9,.int .u64 (shr_ .u64 (shl_ .u64 p2 (wu64 (r0))) 32)),(10,.int .u64 (Dn .u64 (shl_ .u64 p2 (wu64 (r0))) 4294967295)),(11,.int .u64 (Ms .u64 (shl_ .u64 p0 (wu64 (r0))) (shr_ .u64 p1 (wu64 (64-(wu64 (r0))))))),(13,.int .u64 (shr_ .u64 (shl_ .u64 p1 (wu64 (r0))) 32)),(14,.int .u64 (Dn .u64 (shl_ .u64 p1 (wu64 (r0))) 4294967295)),(15,.int .u64 (s4.1)),(16,.int .u64 (s4.2)),(78,.bool (s5))]) (fun s5 y5=>[]++[.old w]) (fun s5 y5=>True) (fun s5 y5 hx43 hG5=>?_) (fun j3 hx39=>?_)
     ·refine Dm (s:=78) rfl (fun h45=>?_) (fun h45=>?_)
      ·have hx46:=Cp h45 hx43;(iterate 25 refine Y ?_);refine Ti hx46 (s:=85) rfl (fun h48 hx49=>?_) (fun h48 hx50=>?_)
       ·refine Y2 ?_;refine Ajp rfl ?_;obtain rfl:=Cq ht1 hx49;refine Y2 ?_;exact Mt (wu64 (s4.1-1)) () ho1 trivial (by exact .refl)
       ·refine Y3 ?_;exact Rp (wu64 (s4.1-1),wu64 (s4.2+(shr_ .u64 (shl_ .u64 p2 (wu64 (r0))) 32))) () hx50 trivial (by exact .refl)
      ·have hx47:=Db h45 hx43;refine Y3 ?_;obtain rfl:=Cq ht1 hx47;refine Y2 ?_;exact Mt s4.1 () ho1 trivial (by exact .refl)
     ·refine Y4 ?_;refine Ti hx39 (s:=69) rfl (fun h40 hx41=>?_) (fun h40 hx42=>?_)
      ·refine Y10 ?_;exact Mt true () hx41 trivial (by exact .refl)
      ·refine Y10 ?_;exact Mt (decide ((wu64 ((wu64 (4294967296*s4.2))+(shr_ .u64 (shl_ .u64 p1 (wu64 (r0))) 32))) < (wu64 (s4.1*(Dn .u64 (shl_ .u64 p2 (wu64 (r0))) 4294967295))))) () hx42 trivial (by exact .refl)
instance math_bits_Div64_c (p0:Int) (p1:Int) (p2:Int):Con (Ji p0 p1 p2) Tryz.prog 308 (fun _ vs=>vs=[.int .u64 (p0),.int .u64 (p1),.int .u64 (p2)]) (fun _ r=>fun v Ln=>v = .tuple #[.int .u64 (r.1),.int .u64 (r.2)]∧Ln=[]∧True):=⟨by
 rintro _ _ r rfl hx w hK;exact Abl p0 p1 p2 hx w⟩
theorem Zj (p0:Fp) (p1:Int) (p2:Int)  {r:Fp} (hx:Fa p0 p1 p2=some r) (w:World):CtL Tryz.prog 307 [.agg #[.int .u64 (p0.hi),.int .u64 (p0.lo)],.int .i64 (p1),.int .i64 (p2)] w fun v Ln=>v = .agg #[.int .u64 (r.hi),.int .u64 (r.lo)]∧Ln=[]∧True:=by
 refine CtL.mk 39 Tryz.func307 rfl Tryz.ntmps307 (by kernel_rfl) rfl ?_;show T 39 _ [(0,.agg #[.int .u64 (p0.hi),.int .u64 (p0.lo)]),(1,.int .i64 (p1)),(2,.int .i64 (p2))] _;unfold Fa at hx;refine Y2 ?_;refine T_x (Dy rfl rfl rfl (fun g1=>?_));refine T_x (Bj Aty rfl (fun g2=>?_));refine Y5 ?_;refine Aj (Hk rfl (by kernel_rfl) Tryz.underlying246) rfl ?_;refine Y ?_;refine Aj (Hk rfl (by kernel_rfl) Tryz.underlying246) rfl ?_;obtain ⟨r3,h4,hx5⟩:=Ad hx;refine Tc (fun w1 hw1=>Abj (wu64 (p1)) (wu64 (p2))  h4 w1) ?_;refine Y9 ?_;refine Aj (Ao rfl Alw rfl) rfl ?_;refine Aj (Aq rfl (i:=1) rfl rfl Anu) rfl ?_;refine Y ?_;obtain ⟨h6,hx7⟩:=Bh hx5;refine Aj (An2 rfl (fun w=>Ads h6 w)) rfl ?_;refine Y9 ?_;refine Aj (Ao rfl Alx rfl) rfl ?_;refine Aj (Aq rfl (i:=1) rfl rfl Anu) rfl ?_;refine Y2 ?_;obtain ⟨h8,hx9⟩:=Bh hx7;refine Aj (An2 rfl (fun w=>Ads h8 w)) rfl ?_;refine Y11 ?_;refine Aj (Ct rfl (Ym _ _)) rfl ?_;refine T_h (Ay rfl rfl rfl (.here) (.put (.put (.done))) rfl (List.cons_ne_nil _ _) Anv.2 ?_);refine Y3 ?_;obtain rfl:=Option.some.inj hx9;exact Bq (rs:=[.cell 6 304]) Tryz.results307 (.cell rfl (i:=0) rfl rfl Anv (.nil)) (Ln:=[]) ⟨rfl,rfl,trivial⟩ (Bw) (by exact .drop 0 rfl (.drop 0 rfl (.refl)))
instance surface_wide_plus_c (p0:Fp) (p1:Int) (p2:Int):Con (Fa p0 p1 p2) Tryz.prog 307 (fun _ vs=>vs=[.agg #[.int .u64 (p0.hi),.int .u64 (p0.lo)],.int .i64 (p1),.int .i64 (p2)]) (fun _ r=>fun v Ln=>v = .agg #[.int .u64 (r.hi),.int .u64 (r.lo)]∧Ln=[]∧True):=⟨by
 rintro _ _ r rfl hx w hK;exact Zj p0 p1 p2 hx w⟩
instance Afk (p0:Aw) (p1:Aw):Con (Hp p0 p1) Tryz.prog 226 (fun _ vs=>vs=[.agg #[.int .i64 (p0.a0),.int .i64 (p0.a1),.int .i64 (p0.a2)],.agg #[.int .i64 (p1.a0),.int .i64 (p1.a1),.int .i64 (p1.a2)]]) (fun _ r=>fun v Ln=>v = .tuple #[.int .i64 (r.1),.int .i64 (r.2)]∧Ln=[]∧True):=⟨by
 rintro _ _ r rfl hx w hK;unfold Hp at hx;have:=dl 6 [1,0,0,1,0,0,1,0,0,2,3] [0,1,2,3,4,5,6,7,8,9,10];refine CtS Tryz.ntmps226 Tryz.results226 ?_;refine pre ?_;intros;rename_i hx
 refine Cq1 (s:=57) hx rfl (fun _ hx=>?_) (fun _ hx=>?_)
 ·exact au
 ·exact au⟩
theorem Wt (p0:Aw) (p1:Aw)  {r:Int × Int} (hx:Hp p0 p1=some r) (w:World):CtL Tryz.prog 226 [.agg #[.int .i64 (p0.a0),.int .i64 (p0.a1),.int .i64 (p0.a2)],.agg #[.int .i64 (p1.a0),.int .i64 (p1.a1),.int .i64 (p1.a2)]] w fun v Ln=>v = .tuple #[.int .i64 (r.1),.int .i64 (r.2)]∧Ln=[]∧True:=(Afk p0 p1).h [] _ _ rfl hx w (fun _ h=>absurd h List.not_mem_nil)
theorem Acn (p0:Bg) (p1:Int) (p2:Ab) {K:List Ent} {A0_0:Option Addr} {c0_0:Nat} {A0_1:Option Addr} {c0_1:Nat} {A0_2:Option Addr} {c0_2:Nat} (ha0:Has K A0_0 p0.V.length c0_0 4 Al (p0.V)) (ha1:Has K A0_1 p0.T.length c0_1 3 Bi (p0.T)) (ha2:Has K A0_2 p0.Lines.length c0_2 2 Av (p0.Lines)) {r:Br} (hx:Ir p0 p1 p2=some r) (w:World) (hK:∀ e∈K,Ent.ok w e):CtL Tryz.prog 162 [.agg #[.slice (A0_0) (p0.V.length) (c0_0),.slice (A0_1) (p0.T.length) (c0_1),.slice (A0_2) (p0.Lines.length) (c0_2)],.int .i64 (p1),.agg #[.int .i64 (p2.X),.int .i64 (p2.Y)]] w fun v Ln=>v = .agg #[.int .i64 (r.Lo),.int .i64 (r.Hi)]∧Ln=[]∧True:=by
 have ha0':=Has.up0 ha0;have ha1':=Has.up0 ha1;have ha2':=Has.up0 ha2;refine CtL.mk 82 Tryz.func162 rfl Tryz.ntmps162 (by kernel_rfl) rfl ?_;show T 82 _ [(0,.agg #[.slice (A0_0) (p0.V.length) (c0_0),.slice (A0_1) (p0.T.length) (c0_1),.slice (A0_2) (p0.Lines.length) (c0_2)]),(1,.int .i64 (p1)),(2,.agg #[.int .i64 (p2.X),.int .i64 (p2.Y)])] _;unfold Ir at hx;refine Y2 ?_;refine T_x (Dy rfl rfl rfl (fun g1=>?_));refine T_x (Dy rfl rfl rfl (fun g2=>?_));refine T_x (Bj Aly rfl (fun g3=>?_));refine Y4 ?_;refine Aj (Az rfl (i:=2) rfl rfl Rg) rfl ?_;refine Y ?_;obtain ⟨r4,h5,hx6⟩:=Ad hx;refine Tc (fun w1 hw1=>Abi (K:=(K++[])) p0 p1 (Has.len' ha0') (Has.len' ha1') (Has.len' ha2') h5 w1 (oP hK hw1)) ?_;refine T_x (Bj Atu rfl (fun g7=>?_));refine T_h (Ay rfl rfl rfl (.here) (.put (.put (.put (.put (.put (.put (.done))))))) rfl (List.cons_ne_nil _ _) Atx.2 ?_);refine Y2 ?_;refine Tj (γ:=Nat) hx6 (fun s3 y3=>[(1,.int .i64 (p1)),(3,.pointer (some ⟨g1,0,none⟩)),(6,.pointer (some ⟨g3,0,none⟩)),(8,.pointer (some ⟨y3,0,none⟩))]) (fun s3 y3=>[.m y3 26 [.int .i64 (s3.1),.int .i64 (s3.2.1),.int .i64 (s3.2.2)],.m g3 32 [.int .i64 (0),.int .i64 (0)],.m g1 40 [.slice (A0_0) (p0.V.length) (c0_0),.slice (A0_1) (p0.T.length) (c0_1),.slice (A0_2) (p0.Lines.length) (c0_2)]]++[.old w]) (fun s3 y3=>True) (fun s3 y3 hx0 hG0=>?_) (fun j3 hx6=>?_)
 ·refine Y2 ?_;refine T_x (Bj Aex rfl (fun g0=>?_));refine T_x (Bj Aex rfl (fun g4=>?_));refine Y5 ?_;refine Aj (Ao rfl Aj3 rfl) rfl ?_;refine Aj (Aq rfl (i:=4) rfl rfl Atv) rfl ?_;refine Y ?_;obtain ⟨x0,h0,hx1⟩:=Ad hx0;have hw0:=Has.low (E:=[]) ha1' hK;obtain ⟨b0,o0,j0,hA0,hj0,hl0,hp0⟩:=Has.at_idx hw0 h0;refine Aj (Be rfl rfl hA0 (j:=j0) hj0 hl0 Atw) rfl ?_;refine Aj (Co rfl hp0 (sb 5) rfl Yl) rfl ?_;refine Y4 ?_;refine At4 9 ?_;refine Ady ?_;refine Y9 ?_;refine Tj (γ:=Unit) hx1 (fun s9 y9=>[(3,.pointer (some ⟨g1,0,none⟩)),(6,.pointer (some ⟨g3,0,none⟩)),(8,.pointer (some ⟨y3,0,none⟩)),(9,.pointer (some ⟨g0,0,none⟩)),(10,.pointer (some ⟨g4,0,none⟩)),(43,.agg #[.int .i64 (x0.a0),.int .i64 (x0.a1),.int .i64 (x0.a2)]),(44,.int .i64 (0))]) (fun s9 y9=>[.m g4 26 [.int .i64 (s9.2),.int .i64 (0),.int .i64 (0)],.m g0 26 [.int .i64 (s9.1),.int .i64 (0),.int .i64 (0)],.m y3 26 [.int .i64 (s3.1),.int .i64 (s3.2.1),.int .i64 (s3.2.2)],.m g3 32 [.int .i64 (0),.int .i64 (0)],.m g1 40 [.slice (A0_0) (p0.V.length) (c0_0),.slice (A0_1) (p0.T.length) (c0_1),.slice (A0_2) (p0.Lines.length) (c0_2)]]++[.old w]) (fun s9 y9=>True) (fun s9 y9 hx2 hG1=>?_) (fun j9 hx1=>?_)
  ·refine Y ?_;refine Aj (Af0 (c:=1) rfl rfl (by decide)) rfl ?_;refine Y2 ?_;refine Ack ?_;refine Ady ?_;refine Y9 ?_;refine Tj (γ:=Unit) hx2 (fun s0 y0=>[(3,.pointer (some ⟨g1,0,none⟩)),(6,.pointer (some ⟨g3,0,none⟩)),(8,.pointer (some ⟨y3,0,none⟩)),(9,.pointer (some ⟨g0,0,none⟩)),(10,.pointer (some ⟨g4,0,none⟩)),(43,.agg #[.int .i64 (x0.a0),.int .i64 (x0.a1),.int .i64 (x0.a2)]),(44,.int .i64 (1))]) (fun s0 y0=>[.m g4 26 [.int .i64 (s9.2),.int .i64 (s0.2),.int .i64 (0)],.m g0 26 [.int .i64 (s9.1),.int .i64 (s0.1),.int .i64 (0)],.m y3 26 [.int .i64 (s3.1),.int .i64 (s3.2.1),.int .i64 (s3.2.2)],.m g3 32 [.int .i64 (0),.int .i64 (0)],.m g1 40 [.slice (A0_0) (p0.V.length) (c0_0),.slice (A0_1) (p0.T.length) (c0_1),.slice (A0_2) (p0.Lines.length) (c0_2)]]++[.old w]) (fun s0 y0=>True) (fun s0 y0 hx3 hG2=>?_) (fun j1 hx2=>?_)
   ·refine Y ?_;refine Aj (Af0 (c:=2) rfl rfl (by decide)) rfl ?_;refine Y2 ?_;refine Ack ?_;refine Ady ?_;refine Y9 ?_;refine Tj (γ:=Unit) hx3 (fun s1 y1=>[(3,.pointer (some ⟨g1,0,none⟩)),(6,.pointer (some ⟨g3,0,none⟩)),(8,.pointer (some ⟨y3,0,none⟩)),(9,.pointer (some ⟨g0,0,none⟩)),(10,.pointer (some ⟨g4,0,none⟩)),(43,.agg #[.int .i64 (x0.a0),.int .i64 (x0.a1),.int .i64 (x0.a2)]),(44,.int .i64 (2))]) (fun s1 y1=>[.m g4 26 [.int .i64 (s9.2),.int .i64 (s0.2),.int .i64 (s1.2)],.m g0 26 [.int .i64 (s9.1),.int .i64 (s0.1),.int .i64 (s1.1)],.m y3 26 [.int .i64 (s3.1),.int .i64 (s3.2.1),.int .i64 (s3.2.2)],.m g3 32 [.int .i64 (0),.int .i64 (0)],.m g1 40 [.slice (A0_0) (p0.V.length) (c0_0),.slice (A0_1) (p0.T.length) (c0_1),.slice (A0_2) (p0.Lines.length) (c0_2)]]++[.old w]) (fun s1 y1=>True) (fun s1 y1 hx4 hG3=>?_) (fun j2 hx3=>?_)
    ·refine Y ?_;refine Aj (Af0 (c:=3) rfl rfl (by decide)) rfl ?_;refine Y2 ?_;refine Ack ?_;refine Ady ?_;(iterate 14 refine Y ?_);refine Aj (Az rfl (i:=2) rfl rfl Yl) rfl ?_;refine Aj (Az rfl (i:=1) rfl rfl Yl) rfl ?_;obtain ⟨r0,h1,hx5⟩:=Ad hx4;refine Tc (fun w1 hw1=>Wt (⟨s3.1,s3.2.1,s3.2.2⟩:Aw) (⟨s9.1,s0.1,s1.1⟩:Aw)  h1 w1) ?_;refine Y9 ?_;refine Aj (Az rfl (i:=2) rfl rfl Yl) rfl ?_;refine Aj (Az rfl (i:=0) rfl rfl Yl) rfl ?_;obtain ⟨r1,h2,hx7⟩:=Ad hx5;refine Tc (fun w1 hw1=>Wt (⟨s3.1,s3.2.1,s3.2.2⟩:Aw) (⟨s9.2,s0.2,s1.2⟩:Aw)  h2 w1) ?_;refine Y11 ?_;refine Aj (Ct rfl (Aad _ _)) rfl ?_;refine T_h (Ay rfl rfl rfl (.there (.there (.there (.here)))) (.put (.put (.done))) rfl (List.cons_ne_nil _ _) Aey.2 ?_);refine Y3 ?_;obtain rfl:=Option.some.inj hx7;exact Bq (rs:=[.cell 6 32]) Tryz.results162 (.cell rfl (i:=3) rfl rfl Aey (.nil)) (Ln:=[]) ⟨rfl,rfl,trivial⟩ (Bw) (by exact .drop 0 rfl (.drop 0 rfl (.drop 0 rfl (.drop 0 rfl (.drop 0 rfl (.refl))))))
    ·refine Y4 ?_;refine Aj (Aap (kd:=.i64) rfl rfl rfl (Alz _ _ _) (show idx [x0.a0,x0.a1,x0.a2] 2=some x0.a2 from rfl)) rfl ?_;refine Y4 ?_;obtain ⟨x1,h3,hx8⟩:=Ad hx3;obtain ⟨x2,h4,hx9⟩:=Ad hx8;refine T_dr [0,0,0,1,0,0,0,0,1,0,2,0,0,0,0,2,0,3,0,3] (.q 0 (.q 1 (.q 2 (.q 3 (.q 4 (.q 5 (.q 6 (.q 7 (.q 8 (.q 9 (.q 11 (.q 16 (.e 10 (.q 12 (.q 13 (.q 14 (.e 15 (.e 17 (.q 18 (.e 19 (.done) (.stop))) (.stop)) (.e 17 (.e 15 (.q 18 (.e 19 (.done) (.stop))) (.stop)) (.stop)))))) (.e 17 (.e 10 (.q 12 (.q 13 (.q 14 (.e 15 (.q 18 (.e 19 (.done) (.stop))) (.stop))))) (.stop)) (.stop))))))))))))))) mixed (by kernel_rfl) (by kernel_rfl) ?_;refine Y2 ?_;refine P_p rfl rfl (Ao rfl Xu rfl) rfl ?_;refine P_q rfl rfl (Aq rfl (i:=4) rfl rfl Te) rfl ?_;refine Y ?_;have hw2:=Has.low (E:=[]) ha0' hK;obtain ⟨b1,o1,j4,hA1,hj1,hl1,hp1⟩:=Has.at_idx hw2 h3;refine P_p rfl rfl (Be rfl rfl hA1 (j:=j4) hj1 hl1 Uf) rfl ?_;refine P_p rfl rfl (Ao rfl Sd rfl) rfl ?_;refine P_p rfl rfl (Ao rfl Xv rfl) rfl ?_;refine P_q rfl rfl (De (d:=2) rfl hp1 (sb 5) rfl one3) rfl ?_;refine P_p rfl rfl (Ao rfl Xu rfl) rfl ?_;refine Y ?_;refine P_p rfl rfl (Bk rfl rfl Sg (by decide) (by decide) rfl) rfl ?_;refine P_x rfl (Cl (Aq rfl (i:=4) rfl rfl Te) rfl ?_) ?_
     ·skip;have hw3:=Has.low (E:=[]) ha0' hK;obtain ⟨b2,o2,j5,hA2,hj2,hl2,hp2⟩:=Has.at_idx hw3 h4;refine P_p rfl rfl (Be rfl rfl hA2 (j:=j5) hj2 hl2 Uf) rfl ?_;refine P_p rfl rfl (Ao rfl Sd rfl) rfl ?_;refine P_p rfl rfl (Ao rfl Vl rfl) rfl ?_;refine P_x rfl (Cl (De (d:=3) rfl hp2 (sb 5) rfl one3) rfl ?_) ?_
      ·skip;refine P_h rfl rfl (Ay rfl rfl rfl (.there (.here)) (.skip (.skip (.put (.done)))) rfl (List.cons_ne_nil _ _) one3.2 ?_) Am;refine P_p rfl rfl (Bk rfl rfl Sg (by decide) (by decide) rfl) rfl ?_;refine P_h rfl rfl (Ay rfl rfl rfl (.here) (.skip (.skip (.put (.done)))) rfl (List.cons_ne_nil _ _) one3.2 ?_) Am;refine Y2 ?_;exact Mu (x1.Z.Lo,x2.Z.Hi) () hx9 trivial
      ·skip;refine P_h rfl rfl (Ay rfl rfl rfl (.there (.here)) (.skip (.skip (.put (.done)))) rfl (List.cons_ne_nil _ _) one3.2 ?_) Am;refine P_x rfl (Cl (De (d:=3) rfl hp2 (sb 5) rfl one3) rfl ?_) Am;refine P_p rfl rfl (Bk rfl rfl Sg (by decide) (by decide) rfl) rfl ?_;refine P_h rfl rfl (Ay rfl rfl rfl (.here) (.skip (.skip (.put (.done)))) rfl (List.cons_ne_nil _ _) one3.2 ?_) Am;refine Y2 ?_;exact Mu (x1.Z.Lo,x2.Z.Hi) () hx9 trivial
     ·skip;refine P_h rfl rfl (Ay rfl rfl rfl (.there (.here)) (.skip (.skip (.put (.done)))) rfl (List.cons_ne_nil _ _) one3.2 ?_) Am;refine P_x rfl (Cl (Aq rfl (i:=4) rfl rfl Te) rfl ?_) Am;have hw4:=Has.low (E:=[]) ha0' hK;obtain ⟨b3,o3,j6,hA3,hj3,hl3,hp3⟩:=Has.at_idx hw4 h4;refine P_p rfl rfl (Be rfl rfl hA3 (j:=j6) hj3 hl3 Uf) rfl ?_;refine P_p rfl rfl (Ao rfl Sd rfl) rfl ?_;refine P_p rfl rfl (Ao rfl Vl rfl) rfl ?_;refine P_x rfl (Cl (De (d:=3) rfl hp3 (sb 5) rfl one3) rfl ?_) Am;refine P_p rfl rfl (Bk rfl rfl Sg (by decide) (by decide) rfl) rfl ?_;refine P_h rfl rfl (Ay rfl rfl rfl (.here) (.skip (.skip (.put (.done)))) rfl (List.cons_ne_nil _ _) one3.2 ?_) Am;refine Y2 ?_;exact Mu (x1.Z.Lo,x2.Z.Hi) () hx9 trivial
   ·refine Y4 ?_;refine Aj (Aap (kd:=.i64) rfl rfl rfl (Alz _ _ _) (show idx [x0.a0,x0.a1,x0.a2] 1=some x0.a1 from rfl)) rfl ?_;refine Y4 ?_;obtain ⟨x3,h6,hx10⟩:=Ad hx2;obtain ⟨x4,h7,hx11⟩:=Ad hx10;refine T_dr [0,0,0,1,0,0,0,0,1,0,2,0,0,0,0,2,0,3,0,3] (.q 0 (.q 1 (.q 2 (.q 3 (.q 4 (.q 5 (.q 6 (.q 7 (.q 8 (.q 9 (.q 11 (.q 16 (.e 10 (.q 12 (.q 13 (.q 14 (.e 15 (.e 17 (.q 18 (.e 19 (.done) (.stop))) (.stop)) (.e 17 (.e 15 (.q 18 (.e 19 (.done) (.stop))) (.stop)) (.stop)))))) (.e 17 (.e 10 (.q 12 (.q 13 (.q 14 (.e 15 (.q 18 (.e 19 (.done) (.stop))) (.stop))))) (.stop)) (.stop))))))))))))))) mixed (by kernel_rfl) (by kernel_rfl) ?_;refine Y2 ?_;refine P_p rfl rfl (Ao rfl Xu rfl) rfl ?_;refine P_q rfl rfl (Aq rfl (i:=4) rfl rfl Te) rfl ?_;refine Y ?_;have hw5:=Has.low (E:=[]) ha0' hK;obtain ⟨b4,o4,j7,hA4,hj4,hl4,hp4⟩:=Has.at_idx hw5 h6;refine P_p rfl rfl (Be rfl rfl hA4 (j:=j7) hj4 hl4 Uf) rfl ?_;refine P_p rfl rfl (Ao rfl Sd rfl) rfl ?_;refine P_p rfl rfl (Ao rfl Xv rfl) rfl ?_;refine P_q rfl rfl (De (d:=2) rfl hp4 (sb 5) rfl one3) rfl ?_;refine P_p rfl rfl (Ao rfl Xu rfl) rfl ?_;refine Y ?_;refine P_p rfl rfl (Bk rfl rfl Sg (by decide) (by decide) rfl) rfl ?_;refine P_x rfl (Cl (Aq rfl (i:=4) rfl rfl Te) rfl ?_) ?_
    ·skip;have hw6:=Has.low (E:=[]) ha0' hK;obtain ⟨b5,o5,j8,hA5,hj5,hl5,hp5⟩:=Has.at_idx hw6 h7;refine P_p rfl rfl (Be rfl rfl hA5 (j:=j8) hj5 hl5 Uf) rfl ?_;refine P_p rfl rfl (Ao rfl Sd rfl) rfl ?_;refine P_p rfl rfl (Ao rfl Vl rfl) rfl ?_;refine P_x rfl (Cl (De (d:=3) rfl hp5 (sb 5) rfl one3) rfl ?_) ?_
     ·skip;refine P_h rfl rfl (Ay rfl rfl rfl (.there (.here)) (.skip (.put (.done))) rfl (List.cons_ne_nil _ _) one3.2 ?_) Am;refine P_p rfl rfl (Bk rfl rfl Sg (by decide) (by decide) rfl) rfl ?_;refine P_h rfl rfl (Ay rfl rfl rfl (.here) (.skip (.put (.done))) rfl (List.cons_ne_nil _ _) one3.2 ?_) Am;refine Y2 ?_;exact Mu (x3.Z.Lo,x4.Z.Hi) () hx11 trivial
     ·skip;refine P_h rfl rfl (Ay rfl rfl rfl (.there (.here)) (.skip (.put (.done))) rfl (List.cons_ne_nil _ _) one3.2 ?_) Am;refine P_x rfl (Cl (De (d:=3) rfl hp5 (sb 5) rfl one3) rfl ?_) Am;refine P_p rfl rfl (Bk rfl rfl Sg (by decide) (by decide) rfl) rfl ?_;refine P_h rfl rfl (Ay rfl rfl rfl (.here) (.skip (.put (.done))) rfl (List.cons_ne_nil _ _) one3.2 ?_) Am;refine Y2 ?_;exact Mu (x3.Z.Lo,x4.Z.Hi) () hx11 trivial
    ·skip;refine P_h rfl rfl (Ay rfl rfl rfl (.there (.here)) (.skip (.put (.done))) rfl (List.cons_ne_nil _ _) one3.2 ?_) Am;refine P_x rfl (Cl (Aq rfl (i:=4) rfl rfl Te) rfl ?_) Am;have hw7:=Has.low (E:=[]) ha0' hK;obtain ⟨b6,o6,j10,hA6,hj6,hl6,hp6⟩:=Has.at_idx hw7 h7;refine P_p rfl rfl (Be rfl rfl hA6 (j:=j10) hj6 hl6 Uf) rfl ?_;refine P_p rfl rfl (Ao rfl Sd rfl) rfl ?_;refine P_p rfl rfl (Ao rfl Vl rfl) rfl ?_;refine P_x rfl (Cl (De (d:=3) rfl hp6 (sb 5) rfl one3) rfl ?_) Am;refine P_p rfl rfl (Bk rfl rfl Sg (by decide) (by decide) rfl) rfl ?_;refine P_h rfl rfl (Ay rfl rfl rfl (.here) (.skip (.put (.done))) rfl (List.cons_ne_nil _ _) one3.2 ?_) Am;refine Y2 ?_;exact Mu (x3.Z.Lo,x4.Z.Hi) () hx11 trivial
  ·refine Y4 ?_;refine Aj (Aap (kd:=.i64) rfl rfl rfl (Alz _ _ _) (show idx [x0.a0,x0.a1,x0.a2] 0=some x0.a0 from rfl)) rfl ?_;refine Y4 ?_;obtain ⟨x5,h8,hx62⟩:=Ad hx1;obtain ⟨x6,h52,hx63⟩:=Ad hx62;refine T_dr [0,0,0,1,0,0,0,0,1,0,2,0,0,0,0,2,0,3,0,3] (.q 0 (.q 1 (.q 2 (.q 3 (.q 4 (.q 5 (.q 6 (.q 7 (.q 8 (.q 9 (.q 11 (.q 16 (.e 10 (.q 12 (.q 13 (.q 14 (.e 15 (.e 17 (.q 18 (.e 19 (.done) (.stop))) (.stop)) (.e 17 (.e 15 (.q 18 (.e 19 (.done) (.stop))) (.stop)) (.stop)))))) (.e 17 (.e 10 (.q 12 (.q 13 (.q 14 (.e 15 (.q 18 (.e 19 (.done) (.stop))) (.stop))))) (.stop)) (.stop))))))))))))))) mixed (by kernel_rfl) (by kernel_rfl) ?_;refine Y2 ?_;refine P_p rfl rfl (Ao rfl Xu rfl) rfl ?_;refine P_q rfl rfl (Aq rfl (i:=4) rfl rfl Te) rfl ?_;refine Y ?_;have hw8:=Has.low (E:=[]) ha0' hK;obtain ⟨b7,o7,j66,hA7,hj7,hl7,hp7⟩:=Has.at_idx hw8 h8;refine P_p rfl rfl (Be rfl rfl hA7 (j:=j66) hj7 hl7 Uf) rfl ?_;refine P_p rfl rfl (Ao rfl Sd rfl) rfl ?_;refine P_p rfl rfl (Ao rfl Xv rfl) rfl ?_;refine P_q rfl rfl (De (d:=2) rfl hp7 (sb 5) rfl one3) rfl ?_;refine P_p rfl rfl (Ao rfl Xu rfl) rfl ?_;refine Y ?_;refine P_p rfl rfl (Bk rfl rfl Sg (by decide) (by decide) rfl) rfl ?_;refine P_x rfl (Cl (Aq rfl (i:=4) rfl rfl Te) rfl ?_) ?_
   ·skip;have hw9:=Has.low (E:=[]) ha0' hK;obtain ⟨b8,o8,j74,hA8,hj8,hl8,hp8⟩:=Has.at_idx hw9 h52;refine P_p rfl rfl (Be rfl rfl hA8 (j:=j74) hj8 hl8 Uf) rfl ?_;refine P_p rfl rfl (Ao rfl Sd rfl) rfl ?_;refine P_p rfl rfl (Ao rfl Vl rfl) rfl ?_;refine P_x rfl (Cl (De (d:=3) rfl hp8 (sb 5) rfl one3) rfl ?_) ?_
    ·skip;refine P_h rfl rfl (Ay rfl rfl rfl (.there (.here)) (.put (.done)) rfl (List.cons_ne_nil _ _) one3.2 ?_) Am;refine P_p rfl rfl (Bk rfl rfl Sg (by decide) (by decide) rfl) rfl ?_;refine P_h rfl rfl (Ay rfl rfl rfl (.here) (.put (.done)) rfl (List.cons_ne_nil _ _) one3.2 ?_) Am;refine Y2 ?_;exact Mu (x5.Z.Lo,x6.Z.Hi) () hx63 trivial
    ·skip;refine P_h rfl rfl (Ay rfl rfl rfl (.there (.here)) (.put (.done)) rfl (List.cons_ne_nil _ _) one3.2 ?_) Am;refine P_x rfl (Cl (De (d:=3) rfl hp8 (sb 5) rfl one3) rfl ?_) Am;refine P_p rfl rfl (Bk rfl rfl Sg (by decide) (by decide) rfl) rfl ?_;refine P_h rfl rfl (Ay rfl rfl rfl (.here) (.put (.done)) rfl (List.cons_ne_nil _ _) one3.2 ?_) Am;refine Y2 ?_;exact Mu (x5.Z.Lo,x6.Z.Hi) () hx63 trivial
   ·skip;refine P_h rfl rfl (Ay rfl rfl rfl (.there (.here)) (.put (.done)) rfl (List.cons_ne_nil _ _) one3.2 ?_) Am;refine P_x rfl (Cl (Aq rfl (i:=4) rfl rfl Te) rfl ?_) Am;have hw87:=Has.low (E:=[]) ha0' hK;obtain ⟨b9,o9,j82,hA9,hj9,hl9,hp9⟩:=Has.at_idx hw87 h52;refine P_p rfl rfl (Be rfl rfl hA9 (j:=j82) hj9 hl9 Uf) rfl ?_;refine P_p rfl rfl (Ao rfl Sd rfl) rfl ?_;refine P_p rfl rfl (Ao rfl Vl rfl) rfl ?_;refine P_x rfl (Cl (De (d:=3) rfl hp9 (sb 5) rfl one3) rfl ?_) Am;refine P_p rfl rfl (Bk rfl rfl Sg (by decide) (by decide) rfl) rfl ?_;refine P_h rfl rfl (Ay rfl rfl rfl (.here) (.put (.done)) rfl (List.cons_ne_nil _ _) one3.2 ?_) Am;refine Y2 ?_;exact Mu (x5.Z.Lo,x6.Z.Hi) () hx63 trivial
 ·obtain ⟨r8,h9,hx18⟩:=Ad hx6;obtain ⟨r2,h12,hx19⟩:=Ad hx18;obtain ⟨r3,h15,hx20⟩:=Ad hx19;refine T_dr [0,1,0,1,1,2,0,1,0,1,1,2,0,1,0,1,1,2,0,2,3] (.q 0 (.q 1 (.q 2 (.q 3 (.q 4 (.q 6 (.q 7 (.q 8 (.q 9 (.q 10 (.q 12 (.q 13 (.q 14 (.q 15 (.q 16 (.e 5 (.e 11 (.e 17 (.q 18 (.e 19 (.e 20 (.done) (.stop)) (.stop))) (.e 19 (.e 17 (.q 18 (.e 20 (.done) (.stop))) (.stop)) (.stop))) (.e 19 (.e 11 (.e 17 (.q 18 (.e 20 (.done) (.stop))) (.stop)) (.stop)) (.stop))) (.e 19 (.e 5 (.e 11 (.e 17 (.q 18 (.e 20 (.done) (.stop))) (.stop)) (.stop)) (.stop)) (.stop)))))))))))))))))) mixed (by kernel_rfl) (by kernel_rfl) ?_;refine P_p rfl rfl (Bk rfl rfl Abh (by decide) (by decide) rfl) rfl ?_;refine P_q rfl rfl (Az rfl (i:=0) rfl rfl Fe) rfl ?_;refine P_p rfl rfl (Bk rfl rfl Abh (by decide) (by decide) rfl) rfl ?_;refine P_q rfl rfl (Az rfl (i:=0) rfl rfl Fe) rfl ?_;refine P_q rfl rfl (Az rfl (i:=2) rfl rfl Fe) rfl ?_;refine P_p rfl rfl (Bk rfl rfl Abh (by decide) (by decide) rfl) rfl ?_;refine P_q rfl rfl (Az rfl (i:=0) rfl rfl Fe) rfl ?_;refine P_p rfl rfl (Bk rfl rfl Abh (by decide) (by decide) rfl) rfl ?_;refine P_q rfl rfl (Az rfl (i:=0) rfl rfl Fe) rfl ?_;refine P_q rfl rfl (Az rfl (i:=2) rfl rfl Fe) rfl ?_;refine P_p rfl rfl (Bk rfl rfl Abh (by decide) (by decide) rfl) rfl ?_;refine P_q rfl rfl (Az rfl (i:=0) rfl rfl Fe) rfl ?_
  refine P_p rfl rfl (Bk rfl rfl Abh (by decide) (by decide) rfl) rfl ?_;refine P_q rfl rfl (Az rfl (i:=0) rfl rfl Fe) rfl ?_;refine P_q rfl rfl (Az rfl (i:=2) rfl rfl Fe) rfl ?_;refine P_x rfl (Au rfl (fun w1 hw1=>Eq (⟨r4.a1.X,r4.a1.Y⟩:Ab) (⟨r4.a2.X,r4.a2.Y⟩:Ab) p2  h9 w1) rfl ?_) ?_
  ·skip;rintro _ _ hlo ⟨rfl,rfl,-⟩;refine Dh ?_;refine P_x rfl (Au rfl (fun w1 hw1=>Eq (⟨r4.a2.X,r4.a2.Y⟩:Ab) (⟨r4.a0.X,r4.a0.Y⟩:Ab) p2  h12 w1) rfl ?_) ?_
   ·skip;rintro _ _ hlo ⟨rfl,rfl,-⟩;refine Dh ?_;refine P_x rfl (Au rfl (fun w1 hw1=>Eq (⟨r4.a0.X,r4.a0.Y⟩:Ab) (⟨r4.a1.X,r4.a1.Y⟩:Ab) p2  h15 w1) rfl ?_) ?_
    ·skip;rintro _ _ hlo ⟨rfl,rfl,-⟩;refine Dh ?_;refine P_p rfl rfl (Ct rfl (Gk _ _ _)) rfl ?_;refine P_x rfl (Bj Aex rfl (fun g5=>?_)) Am;refine P_h rfl rfl (Ay rfl rfl rfl (.here) (.put (.put (.put (.done)))) rfl (List.cons_ne_nil _ _) Yl.2 ?_) Am;refine Y ?_;exact Mu (r8,r2,r3) g5 hx20 trivial
    ·skip;refine P_x rfl (Bj Aex rfl (fun g6=>?_)) Am;refine Pc (fun w1 hw1=>Eq (⟨r4.a0.X,r4.a0.Y⟩:Ab) (⟨r4.a1.X,r4.a1.Y⟩:Ab) p2  h15 w1) ?_;refine P_p rfl rfl (Ct rfl (Gk _ _ _)) rfl ?_;refine P_h rfl rfl (Ay rfl rfl rfl (.here) (.put (.put (.put (.done)))) rfl (List.cons_ne_nil _ _) Yl.2 ?_) Am;refine Y ?_;exact Mu (r8,r2,r3) g6 hx20 trivial
   ·skip;refine P_x rfl (Bj Aex rfl (fun g8=>?_)) Am;refine Pc (fun w1 hw1=>Eq (⟨r4.a2.X,r4.a2.Y⟩:Ab) (⟨r4.a0.X,r4.a0.Y⟩:Ab) p2  h12 w1) ?_;refine Pc (fun w1 hw1=>Eq (⟨r4.a0.X,r4.a0.Y⟩:Ab) (⟨r4.a1.X,r4.a1.Y⟩:Ab) p2  h15 w1) ?_;refine P_p rfl rfl (Ct rfl (Gk _ _ _)) rfl ?_;refine P_h rfl rfl (Ay rfl rfl rfl (.here) (.put (.put (.put (.done)))) rfl (List.cons_ne_nil _ _) Yl.2 ?_) Am;refine Y ?_;exact Mu (r8,r2,r3) g8 hx20 trivial
  ·skip;refine P_x rfl (Bj Aex rfl (fun g9=>?_)) Am;refine Pc (fun w1 hw1=>Eq (⟨r4.a1.X,r4.a1.Y⟩:Ab) (⟨r4.a2.X,r4.a2.Y⟩:Ab) p2  h9 w1) ?_;refine Pc (fun w1 hw1=>Eq (⟨r4.a2.X,r4.a2.Y⟩:Ab) (⟨r4.a0.X,r4.a0.Y⟩:Ab) p2  h12 w1) ?_;refine Pc (fun w1 hw1=>Eq (⟨r4.a0.X,r4.a0.Y⟩:Ab) (⟨r4.a1.X,r4.a1.Y⟩:Ab) p2  h15 w1) ?_;refine P_p rfl rfl (Ct rfl (Gk _ _ _)) rfl ?_;refine P_h rfl rfl (Ay rfl rfl rfl (.here) (.put (.put (.put (.done)))) rfl (List.cons_ne_nil _ _) Yl.2 ?_) Am;refine Y ?_;exact Mu (r8,r2,r3) g9 hx20 trivial
instance surface_Bounds_c (p0:Bg) (p1:Int) (p2:Ab):Con (Ir p0 p1 p2) Tryz.prog 162 (fun K vs=>∃ (A0_0:Option Addr) (c0_0:Nat) (A0_1:Option Addr) (c0_1:Nat) (A0_2:Option Addr) (c0_2:Nat),vs=[.agg #[.slice (A0_0) ((p0.V).length) (c0_0),.slice (A0_1) ((p0.T).length) (c0_1),.slice (A0_2) ((p0.Lines).length) (c0_2)],.int .i64 (p1),.agg #[.int .i64 (p2.X),.int .i64 (p2.Y)]]∧Has K A0_0 (p0.V).length c0_0 4 Al (p0.V)∧Has K A0_1 (p0.T).length c0_1 3 Bi (p0.T)∧Has K A0_2 (p0.Lines).length c0_2 2 Av (p0.Lines)∧True) (fun _ r=>fun v Ln=>v = .agg #[.int .i64 (r.Lo),.int .i64 (r.Hi)]∧Ln=[]∧True):=⟨by
 rintro K _ r ⟨A0_0,c0_0,A0_1,c0_1,A0_2,c0_2,rfl,ha0,ha1,ha2,-⟩ hx w hK;exact Acn p0 p1 p2 ha0 ha1 ha2 hx w hK⟩
instance Al0 (p0:Br) (p1:Br):Con (Qc p0 p1) Tryz.prog 161 (fun _ vs=>vs=[.agg #[.int .i64 (p0.Lo),.int .i64 (p0.Hi)],.agg #[.int .i64 (p1.Lo),.int .i64 (p1.Hi)]]) (fun _ r=>fun v Ln=>v = .int .i64 (r)∧Ln=[]∧True):=⟨by
 rintro _ _ r rfl hx w hK;unfold Qc at hx;refine CtS Tryz.ntmps161 Tryz.results161 ?_;exact au⟩
theorem Aj4 (p0:Br) (p1:Br)  {r:Int} (hx:Qc p0 p1=some r) (w:World):CtL Tryz.prog 161 [.agg #[.int .i64 (p0.Lo),.int .i64 (p0.Hi)],.agg #[.int .i64 (p1.Lo),.int .i64 (p1.Hi)]] w fun v Ln=>v = .int .i64 (r)∧Ln=[]∧True:=(Al0 p0 p1).h [] _ _ rfl hx w (fun _ h=>absurd h List.not_mem_nil)
instance label_gentle_c (p0:Int) (p1:Int) (p2:Int):Con (Og p0 p1 p2) Tryz.prog 163 (fun _ vs=>vs=[.int .i64 (p0),.int .i64 (p1),.int .i64 (p2)]) (fun _ r=>fun v Ln=>v = .bool (r)∧Ln=[]∧True):=⟨by
 rintro _ _ r rfl hx w hK;unfold Og at hx;refine CtS Tryz.ntmps163 Tryz.results163 ?_;exact au⟩
instance Aj5 (p0:Bg) (p1:Aa) (p2:Ag):Con (Rv p0 p1 p2) Tryz.prog 85 (fun K vs=>∃ (A0_0:Option Addr) (c0_0:Nat) (A0_1:Option Addr) (c0_1:Nat) (A0_2:Option Addr) (c0_2:Nat),vs=[.agg #[.slice (A0_0) ((p0.V).length) (c0_0),.slice (A0_1) ((p0.T).length) (c0_1),.slice (A0_2) ((p0.Lines).length) (c0_2)],.agg #[.int .i64 (p1.Id),.int .i64 (p1.X),.int .i64 (p1.Y),.int .i64 (p1.Z.Lo),.int .i64 (p1.Z.Hi),.int .i64 (p1.Wide),.int .i64 (p1.Num),.int .i64 (p1.Of),.int .i64 (p1.Class)],.agg #[.int .i64 (p2.Cell),.int .i64 (p2.Reach),.int .i64 (p2.Slope),.int .i64 (p2.Link),.int .i64 (p2.Flat),.int .i64 (p2.Tall),.int .i64 (p2.High),.int .i64 (p2.Low),.int .i64 (p2.Brush),.int .i64 (p2.Few)]]∧Has K A0_0 (p0.V).length c0_0 4 Al (p0.V)∧Has K A0_1 (p0.T).length c0_1 3 Bi (p0.T)∧Has K A0_2 (p0.Lines).length c0_2 2 Av (p0.Lines)∧True) (fun _ r=>fun v Ln=>v = .tuple #[.int .i64 (r.1),.bool (r.2.1),.int .i64 (r.2.2)]∧Ln=[]∧True):=⟨by
 rintro K _ r ⟨A0_0,c0_0,A0_1,c0_1,A0_2,c0_2,rfl,ha0,ha1,ha2,-⟩ hx w hK;replace ha0:=Has.lo ha0 hK;replace ha1:=Has.lo ha1 hK;replace ha2:=Has.lo ha2 hK;unfold Rv at hx;have:=dl 1 [1,1,2,2,2] [0,1,2,3,4];have:=dl 4 [0,1,1,0,1,2,2,2,2] [0,1,2,3,4,5,6,7,8];have:=dl 11 [0,1,0,1,2,1,2,1,2,2,0,1,2,0] [0,1,2,3,5,7,10,11,4,6,8,9,12,13];refine CtS Tryz.ntmps85 Tryz.results85 ?_;refine pre ?_;intros;rename_i hx
 refine Cq1 (s:=19) hx rfl (fun _ hx=>?_) (fun _ hx=>?_)
 ·exact au
 ·refine pre ?_;intros;rename_i hx
  refine Cq1 (s:=32) hx rfl (fun _ hx=>?_) (fun _ hx=>?_)
  ·exact au
  ·refine pre ?_;intros;rename_i hx
   apply Jr (γ:=Unit) hx [9,10] (fun s10 y10 f=>f) [999] (fun s10 y10 l=>l);exact kk
   ·intro s10 y10 hx;exact au
   ·intro _ hx;refine pre ?_;intros;rename_i hx
    apply Lr (γ:=Unit) hx [3,4,5,9,10,38] (fun s73 y73 f=>(39,.int .i64 (s73))::f) [0,1,2,999] (fun s73 y73 l=>l) ();exact kk;exact sk;intro s73 y73 x73 hx _;unfold Mg at hx
    exact au⟩
theorem Ah7 (p0:Bg) (p1:Aa) (p2:Ag) {K:List Ent} {A0_0:Option Addr} {c0_0:Nat} {A0_1:Option Addr} {c0_1:Nat} {A0_2:Option Addr} {c0_2:Nat} (ha0:Has K A0_0 (p0.V).length c0_0 4 Al (p0.V)) (ha1:Has K A0_1 (p0.T).length c0_1 3 Bi (p0.T)) (ha2:Has K A0_2 (p0.Lines).length c0_2 2 Av (p0.Lines)) {r:Int × Bool × Int} (hx:Rv p0 p1 p2=some r) (w:World) (hK:∀ e∈K,Ent.ok w e):CtL Tryz.prog 85 [.agg #[.slice (A0_0) ((p0.V).length) (c0_0),.slice (A0_1) ((p0.T).length) (c0_1),.slice (A0_2) ((p0.Lines).length) (c0_2)],.agg #[.int .i64 (p1.Id),.int .i64 (p1.X),.int .i64 (p1.Y),.int .i64 (p1.Z.Lo),.int .i64 (p1.Z.Hi),.int .i64 (p1.Wide),.int .i64 (p1.Num),.int .i64 (p1.Of),.int .i64 (p1.Class)],.agg #[.int .i64 (p2.Cell),.int .i64 (p2.Reach),.int .i64 (p2.Slope),.int .i64 (p2.Link),.int .i64 (p2.Flat),.int .i64 (p2.Tall),.int .i64 (p2.High),.int .i64 (p2.Low),.int .i64 (p2.Brush),.int .i64 (p2.Few)]] w fun v Ln=>v = .tuple #[.int .i64 (r.1),.bool (r.2.1),.int .i64 (r.2.2)]∧Ln=[]∧True:=(Aj5 p0 p1 p2).h K _ _ ⟨_,_,_,_,_,_,rfl,ha0,ha1,ha2,trivial⟩ hx w hK
end Go.Proofs.YtbkobeeileemjaaGreat
