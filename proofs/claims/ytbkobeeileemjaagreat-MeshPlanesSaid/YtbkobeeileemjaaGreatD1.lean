/- Walks of the program, with their plain functions: numbers, turns, circles. -/
import Derived.Test.YtbkobeeileemjaaGreatFlow19
import Derived.Test.YtbkobeeileemjaaGreatProg
namespace Go.Proofs.YtbkobeeileemjaaGreat
open Go Go.RowKit
theorem mixed:Tryz.prog.follows .mixedOrders=true:=by kernel_rfl
instance:MixI Tryz.prog:=⟨mixed⟩
theorem Ia:Ir Tryz.prog 161 224 1:=.mk Tryz.underlying161 (show Tryz.prog.info? 224=some Tryz.t224 from by kernel_rfl) (by kernel_rfl)
instance:Kx Tryz.prog 161 224 1:=⟨Ia⟩
theorem Iv:Ni Tryz.prog 224:=.mk Tryz.underlying224 rfl (show Tryz.prog.info? 224=some Tryz.t224 from by kernel_rfl) (by kernel_rfl)
instance:OneI Tryz.prog 224:=⟨Iv⟩
theorem Qb (x0:Int) (x1:Int):Dd Tryz.prog 161 2 [(0,.int .u32 x0),(1,.int .u32 x1)] 224 [.int .u32 x0,.int .u32 x1]:=fun w=>by kernel_rfl
instance (x0:Int) (x1:Int):Lc Tryz.prog 161 2 [(0,.int .u32 x0),(1,.int .u32 x1)] 224 [.int .u32 x0,.int .u32 x1]:=⟨Qb _ _⟩
theorem Fi:Kj Tryz.prog 163 [.bool (false),.slice (none) (0) (0),.slice (none) (0) (0)]:=⟨_,Tryz.zeroValue163,rfl⟩
instance:Qy Tryz.prog 163 [.bool (false),.slice (none) (0) (0),.slice (none) (0) (0)]:=⟨Fi⟩
theorem Hr:Ek Tryz.prog 163 0 0:=.mk Tryz.underlying163 rfl rfl (show Tryz.prog.info? 4=some Tryz.t4 from by kernel_rfl) (show Tryz.t4.size=1 from by kernel_rfl) rfl
instance:Hz Tryz.prog 163 0 0:=⟨Hr⟩
theorem one4:Ni Tryz.prog 4:=.mk Tryz.underlying4 rfl (show Tryz.prog.info? 4=some Tryz.t4 from by kernel_rfl) (by kernel_rfl)
instance:OneI Tryz.prog 4:=⟨one4⟩
theorem Gc:Ek Tryz.prog 163 1 1:=.mk Tryz.underlying163 rfl rfl (show Tryz.prog.info? 161=some Tryz.t161 from by kernel_rfl) (show Tryz.t161.size=1 from by kernel_rfl) rfl
instance:Hz Tryz.prog 163 1 1:=⟨Gc⟩
theorem Dj:Ni Tryz.prog 161:=.mk Tryz.underlying161 rfl (show Tryz.prog.info? 161=some Tryz.t161 from by kernel_rfl) (by kernel_rfl)
instance:OneI Tryz.prog 161:=⟨Dj⟩
theorem Fa:Ek Tryz.prog 163 2 2:=.mk Tryz.underlying163 rfl rfl (show Tryz.prog.info? 161=some Tryz.t161 from by kernel_rfl) (show Tryz.t161.size=1 from by kernel_rfl) rfl
instance:Hz Tryz.prog 163 2 2:=⟨Fa⟩
theorem Da (x0:Bool) (x1:Option Addr) (x2:Nat) (x3:Nat) (x4:Option Addr) (x5:Nat) (x6:Nat):Gv Tryz.prog 163 [(0,.bool x0),(1,.slice x1 x2 x3),(2,.slice x4 x5 x6)] [.bool x0,.slice x1 x2 x3,.slice x4 x5 x6]:=fun w=>by kernel_rfl
instance (x0:Bool) (x1:Option Addr) (x2:Nat) (x3:Nat) (x4:Option Addr) (x5:Nat) (x6:Nat):Kk Tryz.prog 163 [(0,.bool x0),(1,.slice x1 x2 x3),(2,.slice x4 x5 x6)] [.bool x0,.slice x1 x2 x3,.slice x4 x5 x6]:=⟨Da _ _ _ _ _ _ _⟩
theorem Bj:Lb Tryz.prog 163 3:=.mk Tryz.underlying163 rfl (show Tryz.prog.info? 163=some Tryz.t163 from by kernel_rfl) (by kernel_rfl)
instance:AggI Tryz.prog 163 3:=⟨Bj⟩
theorem Kf (x0:Int):Dd Tryz.prog 161 1 [(0,.int .u32 x0)] 224 [.int .u32 x0]:=fun w=>by kernel_rfl
instance (x0:Int):Lc Tryz.prog 161 1 [(0,.int .u32 x0)] 224 [.int .u32 x0]:=⟨Kf _⟩
theorem Ard:Ir Tryz.prog 82 28 2:=.mk Tryz.underlying82 (show Tryz.prog.info? 28=some Tryz.t28 from by kernel_rfl) (by kernel_rfl)
instance:Kx Tryz.prog 82 28 2:=⟨Ard⟩
theorem Afq:Lb Tryz.prog 28 2:=.mk Tryz.underlying28 rfl (show Tryz.prog.info? 28=some Tryz.t28 from by kernel_rfl) (by kernel_rfl)
instance:AggI Tryz.prog 28 2:=⟨Afq⟩
theorem Ao5:Kj Tryz.prog 28 [.int .i64 (0),.int .i64 (0)]:=⟨_,Tryz.zeroValue28,rfl⟩
instance:Qy Tryz.prog 28 [.int .i64 (0),.int .i64 (0)]:=⟨Ao5⟩
theorem Ah9:Ek Tryz.prog 28 0 0:=.mk Tryz.underlying28 rfl rfl (show Tryz.prog.info? 3=some Tryz.t3 from by kernel_rfl) (show Tryz.t3.size=1 from by kernel_rfl) rfl
instance:Hz Tryz.prog 28 0 0:=⟨Ah9⟩
theorem one3:Ni Tryz.prog 3:=.mk Tryz.underlying3 rfl (show Tryz.prog.info? 3=some Tryz.t3 from by kernel_rfl) (by kernel_rfl)
instance:OneI Tryz.prog 3:=⟨one3⟩
theorem Aia:Ek Tryz.prog 28 1 1:=.mk Tryz.underlying28 rfl rfl (show Tryz.prog.info? 3=some Tryz.t3 from by kernel_rfl) (show Tryz.t3.size=1 from by kernel_rfl) rfl
instance:Hz Tryz.prog 28 1 1:=⟨Aia⟩
theorem Na (x0:Int) (x1:Int) (x2:Int) (x3:Int) (x4:Int) (x5:Int):Dd Tryz.prog 82 3 [(0,.agg #[.int .i64 x0,.int .i64 x1]),(1,.agg #[.int .i64 x2,.int .i64 x3]),(2,.agg #[.int .i64 x4,.int .i64 x5])] 28 [.int .i64 x0,.int .i64 x1,.int .i64 x2,.int .i64 x3,.int .i64 x4,.int .i64 x5]:=fun w=>by kernel_rfl
instance (x0:Int) (x1:Int) (x2:Int) (x3:Int) (x4:Int) (x5:Int):Lc Tryz.prog 82 3 [(0,.agg #[.int .i64 x0,.int .i64 x1]),(1,.agg #[.int .i64 x2,.int .i64 x3]),(2,.agg #[.int .i64 x4,.int .i64 x5])] 28 [.int .i64 x0,.int .i64 x1,.int .i64 x2,.int .i64 x3,.int .i64 x4,.int .i64 x5]:=⟨Na _ _ _ _ _ _⟩
theorem Km (x0:Int) (x1:Int) (x2:Int) (x3:Int) (x4:Int) (x5:Int) (x6:Int) (x7:Int):Dd Tryz.prog 82 4 [(0,.agg #[.int .i64 x0,.int .i64 x1]),(1,.agg #[.int .i64 x2,.int .i64 x3]),(2,.agg #[.int .i64 x4,.int .i64 x5]),(3,.agg #[.int .i64 x6,.int .i64 x7])] 28 [.int .i64 x0,.int .i64 x1,.int .i64 x2,.int .i64 x3,.int .i64 x4,.int .i64 x5,.int .i64 x6,.int .i64 x7]:=fun w=>by kernel_rfl
instance (x0:Int) (x1:Int) (x2:Int) (x3:Int) (x4:Int) (x5:Int) (x6:Int) (x7:Int):Lc Tryz.prog 82 4 [(0,.agg #[.int .i64 x0,.int .i64 x1]),(1,.agg #[.int .i64 x2,.int .i64 x3]),(2,.agg #[.int .i64 x4,.int .i64 x5]),(3,.agg #[.int .i64 x6,.int .i64 x7])] 28 [.int .i64 x0,.int .i64 x1,.int .i64 x2,.int .i64 x3,.int .i64 x4,.int .i64 x5,.int .i64 x6,.int .i64 x7]:=⟨Km _ _ _ _ _ _ _ _⟩
theorem Ans:Ek Tryz.prog 32 0 0:=.mk Tryz.underlying32 rfl rfl (show Tryz.prog.info? 3=some Tryz.t3 from by kernel_rfl) (show Tryz.t3.size=1 from by kernel_rfl) rfl
instance:Hz Tryz.prog 32 0 0:=⟨Ans⟩
theorem Ant:Ek Tryz.prog 32 1 1:=.mk Tryz.underlying32 rfl rfl (show Tryz.prog.info? 3=some Tryz.t3 from by kernel_rfl) (show Tryz.t3.size=1 from by kernel_rfl) rfl
instance:Hz Tryz.prog 32 1 1:=⟨Ant⟩
theorem Anu:Ek Tryz.prog 34 0 0:=.mk Tryz.underlying34 rfl rfl (show Tryz.prog.info? 3=some Tryz.t3 from by kernel_rfl) (show Tryz.t3.size=1 from by kernel_rfl) rfl
instance:Hz Tryz.prog 34 0 0:=⟨Anu⟩
theorem Anv:Ek Tryz.prog 34 1 1:=.mk Tryz.underlying34 rfl rfl (show Tryz.prog.info? 3=some Tryz.t3 from by kernel_rfl) (show Tryz.t3.size=1 from by kernel_rfl) rfl
instance:Hz Tryz.prog 34 1 1:=⟨Anv⟩
theorem Aba (x0:Int) (x1:Int):Gv Tryz.prog 28 [(0,.int .i64 x0),(1,.int .i64 x1)] [.int .i64 x0,.int .i64 x1]:=fun w=>by kernel_rfl
instance (x0:Int) (x1:Int):Kk Tryz.prog 28 [(0,.int .i64 x0),(1,.int .i64 x1)] [.int .i64 x0,.int .i64 x1]:=⟨Aba _ _⟩
theorem Yv:Lb Tryz.prog 34 4:=.mk Tryz.underlying34 rfl (show Tryz.prog.info? 34=some Tryz.t34 from by kernel_rfl) (by kernel_rfl)
instance:AggI Tryz.prog 34 4:=⟨Yv⟩
theorem Anw:Ek Tryz.prog 34 2 2:=.mk Tryz.underlying34 rfl rfl (show Tryz.prog.info? 32=some Tryz.t32 from by kernel_rfl) (show Tryz.t32.size=2 from by kernel_rfl) rfl
instance:Hz Tryz.prog 34 2 2:=⟨Anw⟩
theorem Abb:Lb Tryz.prog 32 2:=.mk Tryz.underlying32 rfl (show Tryz.prog.info? 32=some Tryz.t32 from by kernel_rfl) (by kernel_rfl)
instance:AggI Tryz.prog 32 2:=⟨Abb⟩
theorem Abc:Kj Tryz.prog 97 [.int .i64 (0),.int .i64 (0)]:=⟨_,Tryz.zeroValue97,rfl⟩
instance:Qy Tryz.prog 97 [.int .i64 (0),.int .i64 (0)]:=⟨Abc⟩
theorem Cr (x0:Int) (x1:Int):Gv Tryz.prog 97 [(0,.int .i64 x0),(1,.int .i64 x1)] [.int .i64 x0,.int .i64 x1]:=fun w=>by kernel_rfl
instance (x0:Int) (x1:Int):Kk Tryz.prog 97 [(0,.int .i64 x0),(1,.int .i64 x1)] [.int .i64 x0,.int .i64 x1]:=⟨Cr _ _⟩
theorem Re:Lb Tryz.prog 97 2:=.arr Tryz.underlying97 (show Tryz.prog.info? 97=some Tryz.t97 from by kernel_rfl) (by kernel_rfl)
instance:AggI Tryz.prog 97 2:=⟨Re⟩
theorem Hx:Zr Tryz.prog 97 2 1:=.mk Tryz.underlying97 (show Tryz.prog.info? 3=some Tryz.t3 from by kernel_rfl) (by kernel_rfl)
instance:ArrI Tryz.prog 97 2 1:=⟨Hx⟩
theorem Nk (x0:Int) (x1:Int) (x2:Int) (x3:Int) (x4:Int) (x5:Int):Gv Tryz.prog 212 [(0,.agg #[.int .i64 x0,.int .i64 x1]),(1,.agg #[.int .i64 x2,.int .i64 x3]),(2,.agg #[.int .i64 x4,.int .i64 x5])] [.int .i64 x0,.int .i64 x1,.int .i64 x2,.int .i64 x3,.int .i64 x4,.int .i64 x5]:=fun w=>by kernel_rfl
instance (x0:Int) (x1:Int) (x2:Int) (x3:Int) (x4:Int) (x5:Int):Kk Tryz.prog 212 [(0,.agg #[.int .i64 x0,.int .i64 x1]),(1,.agg #[.int .i64 x2,.int .i64 x3]),(2,.agg #[.int .i64 x4,.int .i64 x5])] [.int .i64 x0,.int .i64 x1,.int .i64 x2,.int .i64 x3,.int .i64 x4,.int .i64 x5]:=⟨Nk _ _ _ _ _ _⟩
theorem Are (a0:Int) (a1:Int) (b0:Int) (b1:Int):∀ w,(Op.equalIn 10000 28 (.agg #[.int .i64 (a0),.int .i64 (a1)]) (.agg #[.int .i64 (b0),.int .i64 (b1)])).run Tryz.prog w = .ok ((((a0) == (b0)) && (((a1) == (b1)) && true))) w :=
 EqF.struct Tryz.underlying28 (by kernel_rfl) (.cons rfl (fun w=>by kernel_rfl) (fun w=>by kernel_rfl) (fun w=>run_equalIn_int w 9998 3 .i64 .i64 _ _ Tryz.underlying3) (.cons rfl (fun w=>by kernel_rfl) (fun w=>by kernel_rfl) (fun w=>run_equalIn_int w 9998 3 .i64 .i64 _ _ Tryz.underlying3) (EqF.nil)))
instance (a0:Int) (a1:Int) (b0:Int) (b1:Int):EqSI Tryz.prog 28 [.int .i64 (a0),.int .i64 (a1)] [.int .i64 (b0),.int .i64 (b1)] ((((a0) == (b0)) && (((a1) == (b1)) && true))):=⟨Are _ _ _ _,by kernel_rfl⟩
instance:UndI Tryz.prog 161 (.slice 224):=⟨Tryz.underlying161⟩
def Ad (x:Int):List Value:=[.int .u32 (x)]
instance (x0:Int):DecI Ad [.int .u32 (x0)] (x0):=⟨rfl⟩
instance:EncI 224 Ad:=⟨trivial⟩
noncomputable def Kr  : (List Int)→Option (Sum (List Int) (List Int)):=fun s0 =>
 jn (fun (s6:Bool) =>
 if s6=true then (gd (0≤(w64 (((((s0).length:Nat):Int))-1))∧(w64 (((((s0).length:Nat):Int))-1))≤(((s0).length:Nat):Int)) <|
 some (.inl (subl s0 0 (w64 (((((s0).length:Nat):Int))-1)))))
 else (some (.inr s0)))
 (fun j6=>if 0 < ((((s0).length:Nat):Int)) then (bnd (idx s0 (w64 (((((s0).length:Nat):Int))-1))) fun x0 =>
 j6 (decide (x0=0)))
 else (j6 false))
noncomputable def Cd (p0:List Int):Option (List Int) :=
 jn (fun (s2:List Int) =>
 some s2)
 (fun j2=>bnd (lfix (Kr) p0) fun t0 =>
 j2 t0)
instance:UndI Tryz.prog 246 (.int .u64):=⟨Tryz.underlying246⟩
instance:UndI Tryz.prog 224 (.int .u32):=⟨Tryz.underlying224⟩
noncomputable def Gd (p0:Int):Option (List Int) :=
 bnd (Cd ([wu32 (p0),wu32 (shr_ .u64 p0 32)])) fun r3 =>
 some r3
noncomputable def Gm (p0:Int) (p1:Int) (p2:Int):Option (Int × Int) :=
 some (wu32 (wu64 ((wu64 ((wu64 (p0))+(wu64 (p1))))+(wu64 (p2)))),wu32 (shr_ .u64 (wu64 ((wu64 ((wu64 (p0))+(wu64 (p1))))+(wu64 (p2)))) 32))
noncomputable def Gn (p0:Int) (p1:Int) (p2:Int):Option (Int × Int) :=
 some (wu32 ((wu32 (p0-p1))-p2),shr_ .u32 (Jx .u32 (Aai .u32 (Us .u32 (if IntKind.signed .u32 then -1 else IntKind.max .u32) p0) p1) (Aai .u32 (Us .u32 (if IntKind.signed .u32 then -1 else IntKind.max .u32) (Us .u32 p0 p1)) (wu32 ((wu32 (p0-p1))-p2)))) 31)
instance:MkI Tryz.prog 161 224 1 4 Ad 0:=⟨Tryz.t224,.int .u32 (0),Tryz.underlying161,by kernel_rfl,by kernel_rfl,rfl,by kernel_rfl,by kernel_rfl⟩
noncomputable def Fs (p1:List Int) (s0:(List Int) × Int) (x0:Int):((List Int) × Int × Int)→Option (Sum ((List Int) × Int × Int) ((List Int) × Int)):=fun s1 =>
 if s1.2.2 < ((((p1).length:Nat):Int)) then (bnd (idx p1 s1.2.2) fun x1 =>
 bnd (idx s1.1 (w64 (s0.2+s1.2.2))) fun x2 =>
 bnd (idx s1.1 (w64 (s0.2+s1.2.2))) fun x3 =>
 some (.inl (setI s1.1 (w64 (s0.2+s1.2.2)) (wu32 (wu64 ((wu64 ((wu64 ((wu64 (x0))*(wu64 (x1))))+(wu64 (x2))))+s1.2.1))),shr_ .u64 (wu64 ((wu64 ((wu64 ((wu64 (x0))*(wu64 (x1))))+(wu64 (x2))))+s1.2.1)) 32,w64 (s1.2.2+1))))
 else (some (.inr (s1.1,s1.2.1)))
noncomputable def Ft (p0:List Int) (p1:List Int):((List Int) × Int)→Option (Sum ((List Int) × Int) (List Int)):=fun s0 =>
 if s0.2 < ((((p0).length:Nat):Int)) then (bnd (idx p0 s0.2) fun x0 =>
 jn (fun (s1:(List Int) × Int) =>
 bnd (idx s1.1 (w64 (s0.2+((((p1).length:Nat):Int))))) fun x1 =>
 some (.inl (setI s1.1 (w64 (s0.2+((((p1).length:Nat):Int)))) (wu32 (s1.2)),w64 (s0.2+1))))
 (fun j0=>bnd (lfix (Fs p1 s0 x0) (s0.1,0,0)) fun t0 =>
 j0 t0))
 else (some (.inr s0.1))
noncomputable def Cc (p0:List Int) (p1:List Int):Option (List Int) :=
 gd ((0:Int)≤(w64 (((((p0).length:Nat):Int))+((((p1).length:Nat):Int))))∧4*Int.toNat (w64 (((((p0).length:Nat):Int))+((((p1).length:Nat):Int))))≤140737488355328) <|
 jn (fun (s3:List Int) =>
 bnd (Cd s3) fun r0 =>
 some r0)
 (fun j3=>bnd (lfix (Ft p0 p1) (List.replicate (Int.toNat (w64 (((((p0).length:Nat):Int))+((((p1).length:Nat):Int))))) (0:Int),0)) fun t0 =>
 j3 t0)
noncomputable def Ld (p0:List Int) (p1:List Int):Int→Option (Sum Int (Sum Unit Int)):=fun s0 =>
 if 0≤s0 then (bnd (idx p0 s0) fun x0 =>
 bnd (idx p1 s0) fun x1 =>
 if x0=x1 then (some (.inl (w64 (s0-1))))
 else (bnd (idx p0 s0) fun x2 =>
 bnd (idx p1 s0) fun x3 =>
 if x2 < x3 then (some (.inr (.inr (-1))))
 else (some (.inr (.inr (1))))))
 else (some (.inr (.inl ())))
noncomputable def Fy (p0:List Int) (p1:List Int):Option Int :=
 if ((((p0).length:Nat):Int))=((((p1).length:Nat):Int)) then (jn (fun (s8:Unit) =>
 some 0)
 (fun j8=>bnd (lfix (Ld p0 p1) (w64 (((((p0).length:Nat):Int))-1))) fun t0 =>
 (match t0 with
 | (.inl z0)=>j8 z0
 | (.inr (z0))=>some z0
 )))
 else (if ((((p0).length:Nat):Int)) < ((((p1).length:Nat):Int)) then (some (-1))
 else (some 1))
noncomputable def Hl (s2:(List Int) × (List Int)):((List Int) × Int × Int)→Option (Sum ((List Int) × Int × Int) ((List Int) × Int)):=fun s0 =>
 if s0.2.2 < ((((s2.1).length:Nat):Int)) then (jn (fun (s1:Int) =>
 bnd (idx s2.1 s0.2.2) fun x0 =>
 bnd (Gm x0 s1 s0.2.1) fun r0 =>
 bnd (idx s0.1 s0.2.2) fun x1 =>
 some (.inl (setI s0.1 s0.2.2 r0.1,r0.2,w64 (s0.2.2+1))))
 (fun j0=>if s0.2.2 < ((((s2.2).length:Nat):Int)) then (bnd (idx s2.2 s0.2.2) fun x2 =>
 j0 x2)
 else (j0 0)))
 else (some (.inr (s0.1,s0.2.1)))
noncomputable def Gy (p0:List Int) (p1:List Int):Option (List Int) :=
 jn (fun (s2:(List Int) × (List Int)) =>
 gd ((0:Int)≤(w64 (((((s2.1).length:Nat):Int))+1))∧4*Int.toNat (w64 (((((s2.1).length:Nat):Int))+1))≤140737488355328) <|
 jn (fun (s6:(List Int) × Int) =>
 bnd (idx s6.1 ((((s2.1).length:Nat):Int))) fun x0 =>
 bnd (Cd (setI s6.1 ((((s2.1).length:Nat):Int)) s6.2)) fun r0 =>
 some r0)
 (fun j6=>bnd (lfix (Hl s2) (List.replicate (Int.toNat (w64 (((((s2.1).length:Nat):Int))+1))) (0:Int),0,0)) fun t0 =>
 j6 t0))
 (fun j2=>if ((((p0).length:Nat):Int)) < ((((p1).length:Nat):Int)) then (j2 (p1,p0))
 else (j2 (p0,p1)))
noncomputable def Hm (p0:List Int) (p1:List Int):((List Int) × Int × Int)→Option (Sum ((List Int) × Int × Int) (List Int)):=fun s0 =>
 if s0.2.2 < ((((p0).length:Nat):Int)) then (jn (fun (s1:Int) =>
 bnd (idx p0 s0.2.2) fun x0 =>
 bnd (Gn x0 s1 s0.2.1) fun r0 =>
 bnd (idx s0.1 s0.2.2) fun x1 =>
 some (.inl (setI s0.1 s0.2.2 r0.1,r0.2,w64 (s0.2.2+1))))
 (fun j0=>if s0.2.2 < ((((p1).length:Nat):Int)) then (bnd (idx p1 s0.2.2) fun x2 =>
 j0 x2)
 else (j0 0)))
 else (some (.inr s0.1))
noncomputable def Fz (p0:List Int) (p1:List Int):Option (List Int) :=
 gd ((0:Int)≤((((p0).length:Nat):Int))∧4*Int.toNat ((((p0).length:Nat):Int))≤140737488355328) <|
 jn (fun (s4:List Int) =>
 bnd (Cd s4) fun r0 =>
 some r0)
 (fun j4=>bnd (lfix (Hm p0 p1) (List.replicate (Int.toNat ((((p0).length:Nat):Int))) (0:Int),0,0)) fun t0 =>
 j4 t0)
structure Aj where
 neg:Bool
 n:List Int
 d:List Int
instance:UndI Tryz.prog 4 (.bool):=⟨Tryz.underlying4⟩
noncomputable def Db (p0:Aj) (p1:Aj):Option Aj :=
 bnd (Cc p0.n p1.n) fun r4 =>
 bnd (Cc p0.d p1.d) fun r0 =>
 some (⟨!((p0.neg) == (p1.neg)),r4,r0⟩:Aj)
noncomputable def Dl (p0:Aj) (p1:Aj):Option Aj :=
 bnd (Cc p0.n p1.d) fun r4 =>
 bnd (Cc p1.n p0.d) fun r0 =>
 bnd (Cc p0.d p1.d) fun r1 =>
 if ((p0.neg) == (p1.neg))=true then (bnd (Gy r4 r0) fun r2 =>
 some (⟨p0.neg,r2,r1⟩:Aj))
 else (bnd (Fy r4 r0) fun r3 =>
 if 0≤r3 then (bnd (Fz r4 r0) fun r5 =>
 some (⟨p0.neg,r5,r1⟩:Aj))
 else (bnd (Fz r0 r4) fun r6 =>
 some (⟨p1.neg,r6,r1⟩:Aj)))
noncomputable def Dk (p0:Aj):Option Int :=
 if ((((p0.n).length:Nat):Int))=0 then (some 0)
 else (if p0.neg=true then (some (-1))
 else (some 1))
instance:UndI Tryz.prog 3 (.int .i64):=⟨Tryz.underlying3⟩
noncomputable def Gj (p0:Int):Option Aj :=
 if p0 < 0 then (bnd (Gd (wu64 ((wu64 (w64 (-(w64 (p0+1)))))+1))) fun r4 =>
 some (⟨true,r4,[1]⟩:Aj))
 else (bnd (Gd (wu64 (p0))) fun r0 =>
 some (⟨false,r0,[1]⟩:Aj))
structure Ac where
 X:Int
 Y:Int
instance:UndI Tryz.prog 82 (.slice 28):=⟨Tryz.underlying82⟩
noncomputable def Ie (p0:List Ac):Int→Option (Sum Int (Sum Unit Bool)):=fun s0 =>
 if s0 < ((((p0).length:Nat):Int)) then (bnd (idx p0 s0) fun x0 =>
 jn (fun (s1:Bool) =>
 if s1=true then (some (.inr (.inr (false))))
 else (some (.inl (w64 (s0+1)))))
 (fun j0=>if x0.X < (-268435456) then (j0 true)
 else (if 268435456 < x0.X then (j0 true)
 else (if x0.Y < (-268435456) then (j0 true)
 else (j0 (decide (268435456 < x0.Y)))))))
 else (some (.inr (.inl ())))
noncomputable def Le (p0:List Ac):Option Bool :=
 jn (fun (s2:Unit) =>
 some true)
 (fun j2=>bnd (lfix (Ie p0) 0) fun t0 =>
 (match t0 with
 | (.inl z0)=>j2 z0
 | (.inr (z0))=>some z0
 ))
def Abd (x:Ac):List Value:=[.int .i64 (x.X),.int .i64 (x.Y)]
instance (x0:Int) (x1:Int):DecI Abd [.int .i64 (x0),.int .i64 (x1)] (⟨x0,x1⟩):=⟨rfl⟩
instance:EncI 28 Abd:=⟨trivial⟩
noncomputable def If (p0:Int):Option Int :=
 if p0 < 0 then (some (-1))
 else (if 0 < p0 then (some 1)
 else (some 0))
noncomputable def Io (p0:Ac) (p1:Ac) (p2:Ac):Option Int :=
 some (w64 ((w64 ((w64 (p1.X-p0.X))*(w64 (p2.Y-p0.Y))))-(w64 ((w64 (p1.Y-p0.Y))*(w64 (p2.X-p0.X))))))
structure Be where
 Lo:Int
 Hi:Int
structure Ab where
 X:Int
 Y:Int
 Z:Be
structure S_api_Point where
 Id:Int
 X:Int
 Y:Int
 Z:Be
 Wide:Int
 Num:Int
 Of:Int
 Class:Int
structure Xy where
 Neg:Bool
 L:List Int
structure Tn where
 N:Xy
 D:List Int
structure S_lidarref06_Spot where
 X:Tn
 Y:Tn
noncomputable def Mg (p0:Ac) (p1:Ac) (p2:Ac):Option (Int × Int) :=
 bnd (Le ([p0,p1,p2])) fun r6 =>
 if r6=true then (bnd (Io p0 p1 p2) fun r0 =>
 bnd (If r0) fun r1 =>
 some (r1,0))
 else (some (0,11))
noncomputable def Mh (p0:Ac) (p1:Ac):Option Int :=
 some (w64 ((w64 ((w64 (p0.X-p1.X))*(w64 (p0.X-p1.X))))+(w64 ((w64 (p0.Y-p1.Y))*(w64 (p0.Y-p1.Y))))))
noncomputable def Nb (p0:Ac) (p1:Ac) (p2:Ac) (p3:Ac):Option (Int × Int) :=
 bnd (Le ([p0,p1,p2,p3])) fun r7 =>
 if r7=true then (bnd (Io p0 p1 p2) fun r0 =>
 bnd (If r0) fun r1 =>
 if r1=0 then (some (0,12))
 else (bnd (Mh p0 p3) fun r2 =>
 bnd (Gj r2) fun r3 =>
 bnd (Io p3 p1 p2) fun r4 =>
 bnd (Gj r4) fun r5 =>
 bnd (Db r3 r5) fun r6 =>
 bnd (Mh p1 p3) fun r8 =>
 bnd (Gj r8) fun r9 =>
 bnd (Io p3 p2 p0) fun r81 =>
 bnd (Gj r81) fun r84 =>
 bnd (Db r9 r84) fun r98 =>
 bnd (Dl r6 r98) fun r10 =>
 bnd (Mh p2 p3) fun r11 =>
 bnd (Gj r11) fun r12 =>
 bnd (Io p3 p0 p1) fun r14 =>
 bnd (Gj r14) fun r15 =>
 bnd (Db r12 r15) fun r17 =>
 bnd (Dl r10 r17) fun r18 =>
 bnd (Dk r18) fun r19 =>
 some (w64 (r1*r19),0)))
 else (some (0,11))
noncomputable def Qc (p0:Be):Option Bool :=
 jn (fun (s2:Bool) =>
 some s2)
 (fun j2=>if (-1152921504606846976)≤p0.Lo then (if p0.Lo≤p0.Hi then (j2 (decide (p0.Hi≤1152921504606846976)))
 else (j2 false))
 else (j2 false))
noncomputable def Ej (p0:Ab):Option Ac :=
 some (⟨p0.X,p0.Y⟩:Ac)
noncomputable def Gz (p0:Ac) (p1:Ac):Option Bool :=
 jn (fun (s2:Bool) =>
 some s2)
 (fun j2=>if p0.X < p1.X then (j2 true)
 else (if p0.X=p1.X then (j2 (decide (p0.Y < p1.Y)))
 else (j2 false)))
noncomputable def Gk (p0:Ac) (p1:Ac) (p2:Ac):Option Int :=
 bnd (Mg p0 p1 p2) fun r4 =>
 some r4.1
noncomputable def Rf (p0:Ab):Option Bool :=
 bnd (Ej p0) fun r2 =>
 bnd (Ej p0) fun r5 =>
 bnd (Ej p0) fun r8 =>
 bnd (Mg r2 r5 r8) fun r0 =>
 jn (fun (s3:Bool) =>
 some s3)
 (fun j3=>if r0.2=0 then (bnd (Qc p0.Z) fun r1 =>
 if r1=true then (if (-268435456)≤p0.Z.Lo then (j3 (decide (p0.Z.Hi≤268435456)))
 else (j3 false))
 else (j3 false))
 else (j3 false))
structure Aa where
 a0:Int
 a1:Int
noncomputable def Kg (p0:Int) (p1:Int):Option Aa :=
 some (⟨min p0 p1,max p0 p1⟩:Aa)
noncomputable def Pp (p0:Aa) (p1:Aa):Option Int :=
 if p0.a0=p1.a0 then (some (w64 (p0.a1-p1.a1)))
 else (some (w64 (p0.a0-p1.a0)))
theorem Ap1 (x0:Int) (x1:Int) (x2:Int) (x3:Int) (x4:Int) (x5:Int):Aet Tryz.prog 212 [.int .i64 x0,.int .i64 x1,.int .i64 x2,.int .i64 x3,.int .i64 x4,.int .i64 x5] [.agg #[.int .i64 x0,.int .i64 x1],.agg #[.int .i64 x2,.int .i64 x3],.agg #[.int .i64 x4,.int .i64 x5]]:=by
 intro j h k w
 have h':j < 3:=h
 match j,h,h' with
 | 0,_,_=>exact (show (Instr.index 212 (.agg ([.int .i64 x0,.int .i64 x1,.int .i64 x2,.int .i64 x3,.int .i64 x4,.int .i64 x5]:List Value).toArray) (.int k ((0:Nat):Int))).run Tryz.prog w = .ok (.agg #[.int .i64 x0,.int .i64 x1]) w by kernel_rfl)
 | 1,_,_=>exact (show (Instr.index 212 (.agg ([.int .i64 x0,.int .i64 x1,.int .i64 x2,.int .i64 x3,.int .i64 x4,.int .i64 x5]:List Value).toArray) (.int k ((1:Nat):Int))).run Tryz.prog w = .ok (.agg #[.int .i64 x2,.int .i64 x3]) w by kernel_rfl)
 | 2,_,_=>exact (show (Instr.index 212 (.agg ([.int .i64 x0,.int .i64 x1,.int .i64 x2,.int .i64 x3,.int .i64 x4,.int .i64 x5]:List Value).toArray) (.int k ((2:Nat):Int))).run Tryz.prog w = .ok (.agg #[.int .i64 x4,.int .i64 x5]) w by kernel_rfl)
def Lu (x:Ac):Value:=.agg #[.int .i64 (x.X),.int .i64 (x.Y)]
theorem Ws (x y:Ac) (h:Lu x=Lu y):x=y:=by
 rcases x with ⟨_,_⟩;rcases y with ⟨_,_⟩;simp [Lu] at h;simp [h]
instance (x:Ac):UnfI Lu x (.agg #[.int .i64 (x.X),.int .i64 (x.Y)]):=⟨rfl⟩
instance (x0:Int) (x1:Int):Wm Lu (.agg #[.int .i64 (x0),.int .i64 (x1)]) (⟨x0,x1⟩):=⟨rfl⟩
instance:ValI Tryz.prog 28 Lu ((⟨0,0⟩:Ac)):=⟨Ws,fun w=>by kernel_rfl⟩
instance (x0:Int) (x1:Int) (x2:Int) (x3:Int) (x4:Int) (x5:Int):Ao1 Tryz.prog 212 [.int .i64 x0,.int .i64 x1,.int .i64 x2,.int .i64 x3,.int .i64 x4,.int .i64 x5] Lu [(⟨x0,x1⟩:Ac),(⟨x2,x3⟩:Ac),(⟨x4,x5⟩:Ac)]:=⟨Ap1 _ _ _ _ _ _⟩
noncomputable def Qn (p1:Ac) (p2:Ac) (p3:Ac):(Int × Int × Int)→Option (Sum (Int × Int × Int) (Int × Int)):=fun s0 =>
 if s0.2.2 < 3 then (jn (fun (s1:Int × Int) =>
 some (.inl (s1.1,s1.2,w64 (s0.2.2+1))))
 (fun j0=>bnd (idx [p1,p2,p3] s0.2.2) fun x0 =>
 bnd (Gz x0 (⟨s0.1,s0.2.1⟩:Ac)) fun r0 =>
 if r0=true then (j0 (x0.X,x0.Y))
 else (j0 (s0.1,s0.2.1))))
 else (some (.inr (s0.1,s0.2.1)))
noncomputable def Mi (p0:Ac) (p1:Ac) (p2:Ac) (p3:Ac):Option Bool :=
 bnd (Nb p0 p1 p2 p3) fun r5 =>
 if r5.1=0 then (jn (fun (s7:Int × Int) =>
 jn (fun (s0:Bool) =>
 some s0)
 (fun j0=>if ((((s7.1) == (p2.X)) && (((s7.2) == (p2.Y)) && true)))=true then (j0 true)
 else (j0 (((s7.1) == (p3.X)) && (((s7.2) == (p3.Y)) && true)))))
 (fun j7=>bnd (lfix (Qn p1 p2 p3) (p0.X,p0.Y,0)) fun t0 =>
 j7 t0))
 else (some (decide (r5.1 < 0)))
set_option maxRecDepth 100000 in
theorem Dx (p0:List Int) {K:List Ent} {A0_0:Option Addr} {c0_0:Nat} (ha0:Has K A0_0 p0.length c0_0 1 Ad (p0)) {r:List Int} (hx:Cd p0=some r) (w:World) (hK:∀ e∈K,Ent.ok w e):CtL Tryz.prog 199 [.slice (A0_0) (p0.length) (c0_0)] w fun v Ln=>∃ (A0:Option Addr) (c0:Nat),v = .slice (A0) (r.length) (c0)∧Ln=[]∧Has (K++[]) A0 r.length c0 1 Ad (r)∧True:=by
 have ha0':=Has.up0 ha0;refine CtL.mk 21 Tryz.func199 rfl Tryz.ntmps199 (by kernel_rfl) rfl ?_;show T 21 _ [(0,.slice (A0_0) (p0.length) (c0_0))] _;unfold Cd at hx;refine Y5 ?_;obtain ⟨j2,hj2,hx⟩:=Md hx;refine Nh (τ:=List Int) (γ:=(Option Addr) × Nat) (J:=j2) (out:=r) (fun s2 y2=>[(0,.slice (y2.1) (s2.length) (y2.2))]) (fun s2 y2=>[]++[.old w]) (fun s2 y2=>Has (K++[]) (y2.1) (s2.length) (y2.2) 1 Ad (s2)∧True) ?_ ?_
 ·intro s2 y2 hx0 hG0;obtain ⟨hs0,-⟩:=hG0;subst hj2;refine Y7 ?_;obtain rfl:=Option.some.inj hx0;exact Bz (rs:=[.tmp 2]) Tryz.results199 (.tmp rfl (.nil)) (Ln:=[]) ⟨y2.1,y2.2,rfl,rfl,Has.len' hs0,trivial⟩ (Bp) (by exact .refl)
 ·skip;refine Y ?_;obtain ⟨t0,hl0,ho0⟩:=Ae hx;refine Lp (σ:=List Int) (γ:=(Option Addr) × Nat) hl0 (fun s0 y0=>[(0,.slice (y0.1) (s0.length) (y0.2))]) (fun s0 y0=>[]++[.old w]) (fun s0 y0=>Has (K++[]) (y0.1) (s0.length) (y0.2) 1 Ad (s0)∧True) (A0_0,c0_0) ((by exact ⟨Has.len' ha0',trivial⟩)) (by exact .refl) ?_;intro s0 y0 hG1 x0 hx1 ht0;unfold Kr at hx1;obtain ⟨hs1,-⟩:=hG1;refine Y ?_;refine Tj (γ:=Unit) hx1 (fun s6 y6=>[(0,.slice (y0.1) (s0.length) (y0.2)),(14,.bool (s6))]) (fun s6 y6=>[]++[.old w]) (fun s6 y6=>True) (fun s6 y6 hx2 hG2=>?_) (fun j6 hx1=>?_)
  ·refine Do (s:=14) rfl (fun h0=>?_) (fun h0=>?_)
   ·have hx3:=Eh h0 hx2;refine Y7 ?_;refine Ak (Co rfl 224 Tryz.underlying161) rfl ?_;refine Y ?_;obtain ⟨h1,hx4⟩:=Cj hx3;have hs2:=Has.subH hs1 h1.1 h1.2;refine Ak (Aah rfl rfl Ia h1.1 (by have:=Has.nc hs1;omega)) rfl ?_;refine Y3 ?_;refine Ji (s:=0) (v':=.slice (y0.1) ((subl s0 0 (w64 ((((s0.length:Nat):Int))-1))).length) (y0.2)) rfl (by have hn0:(Int.toNat (w64 ((((s0.length:Nat):Int))-1)))=(subl s0 0 (w64 ((((s0.length:Nat):Int))-1))).length:=(Has.len hs2).symm;first | (rw [← hn0];done) | rfl) ?_;exact Rp (subl s0 0 (w64 ((((s0.length:Nat):Int))-1))) (y0.1,y0.2) hx4 ((by exact ⟨Has.len' hs2,trivial⟩)) (by exact .refl)
   ·have hx5:=El h0 hx2;refine Y3 ?_;obtain rfl:=Gl ht0 hx5;refine Y2 ?_;exact Mt s0 (y0.1,y0.2) ho0 ((by exact ⟨Has.len' hs1,trivial⟩)) (by exact .refl)
  ·refine Y2 ?_;refine Ak (Co rfl 224 Tryz.underlying161) rfl ?_;refine Y2 ?_;refine Ti hx1 (s:=6) rfl (fun h2 hx6=>?_) (fun h2 hx7=>?_)
   ·refine Y2 ?_;refine Hy rfl rfl rfl (Co rfl 224 Tryz.underlying161) rfl ?_;refine Y ?_;obtain ⟨x1,h3,hx8⟩:=Ae hx6;have hw0:=Has.low (E:=[]) hs1 hK;obtain ⟨b0,o0,j0,hA0,hj0,hl1,hp0⟩:=Has.at_idx hw0 h3;refine Hy rfl rfl rfl (Bo rfl rfl hA0 (j:=j0) hj0 hl1 Ia) rfl ?_;refine Hy rfl rfl rfl (Bx rfl hp0 (sb 0) rfl Iv) rfl ?_;refine Y3 ?_;exact Mt (decide (x1=0)) () hx8 trivial (by exact .refl)
   ·refine Y9 ?_;exact Mt false () hx7 trivial (by exact .refl)
set_option maxHeartbeats 1000000 in
set_option maxRecDepth 100000 in
instance ratio_nat_norm_c (p0:List Int):ConB (Cd p0) Tryz.prog 199 (fun K vs=>∃ (A0_0:Option Addr) (c0_0:Nat),vs=[.slice (A0_0) ((p0).length) (c0_0)]∧Has K A0_0 (p0).length c0_0 1 Ad (p0)∧True) (fun K r=>fun v Ln=>∃ (A0:Option Addr) (c0:Nat) (e:Ent),v = .slice (A0) ((r).length) (c0)∧Ln=[e]∧Has (K++[e]) A0 (r).length c0 1 Ad (r)∧True):=⟨by
 rintro K _ r ⟨A0_0,c0_0,rfl,ha0,-⟩ hx w hK;exact CtL.bunB (Dx p0 ha0 hx w hK) (by
  rintro _ _ w1 hw ⟨_,_,rfl,rfl,_,-⟩
  exact ⟨_,_,_,rfl,rfl,hZ hw,trivial⟩)⟩
set_option maxRecDepth 100000 in
theorem Nc (p0:Int)  {r:List Int} (hx:Gd p0=some r) (w:World):CtL Tryz.prog 275 [.int .u64 (p0)] w fun v Ln=>∃ (A0:Option Addr) (c0:Nat) (e0:Ent),v = .slice (A0) (r.length) (c0)∧Ln=[e0]∧Has ([e0]:List Ent) A0 r.length c0 1 Ad (r)∧True:=by
 refine CtL.mk 10 Tryz.func275 rfl Tryz.ntmps275 (by kernel_rfl) rfl ?_;show T 10 _ [(0,.int .u64 (p0))] _;unfold Gd at hx;refine Y8 ?_;refine Ak (Jy rfl (by kernel_rfl) Tryz.underlying224) rfl ?_;refine Y ?_;refine Ak (Aei rfl rfl (by decide)) rfl ?_;refine Ak (Jy rfl (by kernel_rfl) Tryz.underlying224) rfl ?_;refine T_x (Cf rfl (Qb _ _) rfl (fun g1=>?_));have hs2:Has [.m g1 224 [.int .u32 (wu32 (p0)),.int .u32 (wu32 (shr_ .u64 p0 32))]] (some ⟨g1,0,none⟩) 2 2 1 Ad [wu32 (p0),wu32 (shr_ .u64 p0 32)]:=Has.ofM (fun _ _=>rfl) rfl (by decide) rfl;obtain ⟨r3,h4,hx5⟩:=Ae hx;refine T_x (Ar rfl (fun w1 hw1=>Dx ([wu32 (p0),wu32 (shr_ .u64 p0 32)]) (Has.len' hs2) h4 w1 (Jj (K:=([.m g1 224 [.int .u32 (wu32 (p0)),.int .u32 (wu32 (shr_ .u64 p0 32))]]:List Ent)) (by exact (sb 0)) hw1)) rfl ?_);rintro _ _ hlo ⟨A6,c7,rfl,rfl,hs8,-⟩;refine Dv ?_;refine Y4 ?_;obtain rfl:=Option.some.inj hx5;exact Bz (rs:=[.tmp 2]) Tryz.results275 (.tmp rfl (.nil)) (Ln:=[.m g1 224 [.int .u32 (wu32 (p0)),.int .u32 (wu32 (shr_ .u64 p0 32))]]) ⟨A6,c7,(.m g1 224 [.int .u32 (wu32 (p0)),.int .u32 (wu32 (shr_ .u64 p0 32))]),rfl,rfl,Has.len' hs8,trivial⟩ (Ag rfl (Bp)) (by exact .pick 0 rfl (.refl))
set_option maxRecDepth 100000 in
instance ratio_natOf_c (p0:Int):ConB (Gd p0) Tryz.prog 275 (fun _ vs=>vs=[.int .u64 (p0)]) (fun K r=>fun v Ln=>∃ (A0:Option Addr) (c0:Nat) (e:Ent),v = .slice (A0) ((r).length) (c0)∧Ln=[e]∧Has (K++[e]) A0 (r).length c0 1 Ad (r)∧True):=⟨by
 rintro K _ r rfl hx w hK;unfold Gd at hx;refine CtS Tryz.ntmps275 Tryz.results275 ?_;exact au⟩

set_option maxRecDepth 100000 in
instance Wt (p0:Int) (p1:Int) (p2:Int):Con (Gm p0 p1 p2) Tryz.prog 337 (fun _ vs=>vs=[.int .u32 (p0),.int .u32 (p1),.int .u32 (p2)]) (fun _ r=>fun v Ln=>v = .tuple #[.int .u32 (r.1),.int .u32 (r.2)]∧Ln=[]∧True):=⟨by
 rintro _ _ r rfl hx w hK;unfold Gm at hx;refine CtS Tryz.ntmps337 Tryz.results337 ?_;exact au⟩
theorem Vn (p0:Int) (p1:Int) (p2:Int)  {r:Int × Int} (hx:Gm p0 p1 p2=some r) (w:World):CtL Tryz.prog 337 [.int .u32 (p0),.int .u32 (p1),.int .u32 (p2)] w fun v Ln=>v = .tuple #[.int .u32 (r.1),.int .u32 (r.2)]∧Ln=[]∧True:=(Wt p0 p1 p2).h [] _ _ rfl hx w (fun _ h=>absurd h List.not_mem_nil)
set_option maxRecDepth 100000 in
instance Wu (p0:Int) (p1:Int) (p2:Int):Con (Gn p0 p1 p2) Tryz.prog 366 (fun _ vs=>vs=[.int .u32 (p0),.int .u32 (p1),.int .u32 (p2)]) (fun _ r=>fun v Ln=>v = .tuple #[.int .u32 (r.1),.int .u32 (r.2)]∧Ln=[]∧True):=⟨by
 rintro _ _ r rfl hx w hK;unfold Gn at hx;refine CtS Tryz.ntmps366 Tryz.results366 ?_;exact au⟩
theorem Vo (p0:Int) (p1:Int) (p2:Int)  {r:Int × Int} (hx:Gn p0 p1 p2=some r) (w:World):CtL Tryz.prog 366 [.int .u32 (p0),.int .u32 (p1),.int .u32 (p2)] w fun v Ln=>v = .tuple #[.int .u32 (r.1),.int .u32 (r.2)]∧Ln=[]∧True:=(Wu p0 p1 p2).h [] _ _ rfl hx w (fun _ h=>absurd h List.not_mem_nil)
set_option maxRecDepth 100000 in
theorem Fu (p0:List Int) (p1:List Int) {K:List Ent} {A0_0:Option Addr} {c0_0:Nat} {A0_1:Option Addr} {c0_1:Nat} (ha0:Has K A0_0 p0.length c0_0 1 Ad (p0)) (ha1:Has K A0_1 p1.length c0_1 1 Ad (p1)) {r:List Int} (hx:Cc p0 p1=some r) (w:World) (hK:∀ e∈K,Ent.ok w e):CtL Tryz.prog 326 [.slice (A0_0) (p0.length) (c0_0),.slice (A0_1) (p1.length) (c0_1)] w fun v Ln=>∃ (A0:Option Addr) (c0:Nat) (e0:Ent),v = .slice (A0) (r.length) (c0)∧Ln=[e0]∧Has (K++[e0]) A0 r.length c0 1 Ad (r)∧True:=by
 have ha0':=Has.up0 ha0;have ha1':=Has.up0 ha1;refine CtL.mk 68 Tryz.func326 rfl Tryz.ntmps326 (by kernel_rfl) rfl ?_;show T 68 _ [(0,.slice (A0_0) (p0.length) (c0_0)),(1,.slice (A0_1) (p1.length) (c0_1))] _;unfold Cc at hx;refine Y8 ?_;refine Ak (Co rfl 224 Tryz.underlying161) rfl ?_;refine Y ?_;refine Ak (Co rfl 224 Tryz.underlying161) rfl ?_;refine Y ?_;obtain ⟨h2,hx3⟩:=Cj hx;refine T_x (Ps Ad (0) (z:=.int .u32 (0)) rfl rfl rfl h2.1 Tryz.underlying161 (show Tryz.prog.info? 224=some Tryz.t224 from by kernel_rfl) (by kernel_rfl) rfl rfl (by kernel_rfl) (show 4*_≤_ from h2.2) (by decide) rfl (fun A1=>?_));refine Y3 ?_;refine Tj (γ:=(Option Addr) × Nat) hx3 (fun s3 y3=>[(5,.slice (y3.1) (s3.length) (y3.2))]) (fun s3 y3=>[.r (y3.1) (s3.length) (y3.2) 224 1 (s3.flatMap Ad)]++[.old w]) (fun s3 y3=>True) (fun s3 y3 hx0 hG0=>?_) (fun j3 hx3=>?_)
 ·refine Y3 ?_;refine Kz (k:=0) rfl (by decide) (fun _=>rfl) (fun hn0 hs0=>?_);obtain ⟨r0,h0,hx1⟩:=Ae hx0;refine T_x (Ar rfl (fun w1 hw1=>Dx s3 (Has.len' hs0) h0 w1 (Jj (K:=([.r (y3.1) (s3.length) (y3.2) 224 1 (s3.flatMap Ad)]:List Ent)) (by exact (sb 0)) hw1)) rfl ?_);rintro _ _ hlo ⟨A2,c1,rfl,rfl,hs1,-⟩;refine Dv ?_;refine Y4 ?_;obtain rfl:=Option.some.inj hx1;exact Bz (rs:=[.tmp 4]) Tryz.results326 (.tmp rfl (.nil)) (Ln:=[.r (y3.1) (s3.length) (y3.2) 224 1 (s3.flatMap Ad)]) ⟨A2,c1,(.r (y3.1) (s3.length) (y3.2) 224 1 (s3.flatMap Ad)),rfl,rfl,Has.len' (Has.up (L:=(K++[.r (y3.1) (s3.length) (y3.2) 224 1 (s3.flatMap Ad)])) hs1 (SubE.appR2 (sb 0))),trivial⟩ (Ag rfl (Bp)) (by exact .pick 0 rfl (.refl))
 ·refine Y3 ?_;refine Ak (Co rfl 224 Tryz.underlying161) rfl ?_;refine Y4 ?_;obtain ⟨t0,hl0,ho0⟩:=Ae hx3;refine Lp (σ:=(List Int) × Int) (γ:=(Option Addr) × Nat) hl0 (fun s0 y0=>[(1,.slice (A0_1) (p1.length) (c0_1)),(5,.slice (y0.1) (s0.1.length) (y0.2)),(18,.slice (A0_0) (p0.length) (c0_0)),(19,.int .i64 (((p0.length:Nat):Int))),(20,.int .i64 (s0.2))]) (fun s0 y0=>[.r (y0.1) (s0.1.length) (y0.2) 224 1 (s0.1.flatMap Ad)]++[.old w]) (fun s0 y0=>True) (A1,(List.replicate (Int.toNat (w64 ((((p0.length:Nat):Int))+(((p1.length:Nat):Int))))) (0:Int)).length) trivial (by exact .pick 0 rfl (.refl)) ?_;intro s0 y0 hG1 x0 hx2 ht0;unfold Ft at hx2;refine Y6 ?_;refine Ti hx2 (s:=21) rfl (fun h1 hx4=>?_) (fun h1 hx5=>?_)
  ·refine Y8 ?_;obtain ⟨x1,h3,hx6⟩:=Ae hx4;have hw0:=Has.low (E:=[]) ha0' hK;obtain ⟨b0,o0,j0,hA0,hj0,hl1,hp0⟩:=Has.at_idx hw0 h3;refine Ak (Bo rfl rfl hA0 (j:=j0) hj0 hl1 Ia) rfl ?_;refine Ak (Bx rfl hp0 (sb 1) rfl Iv) rfl ?_;refine Y9 ?_;refine Tj (γ:=(Option Addr) × Nat) hx6 (fun s1 y1=>[(1,.slice (A0_1) (p1.length) (c0_1)),(5,.slice (y1.1) (s1.1.length) (y1.2)),(6,.int .i64 (s0.2)),(8,.int .u64 (s1.2)),(18,.slice (A0_0) (p0.length) (c0_0)),(19,.int .i64 (((p0.length:Nat):Int))),(20,.int .i64 (s0.2))]) (fun s1 y1=>[.r (y1.1) (s1.1.length) (y1.2) 224 1 (s1.1.flatMap Ad)]++[.old w]) (fun s1 y1=>True) (fun s1 y1 hx7 hG2=>?_) (fun j1 hx6=>?_)
   ·refine Y4 ?_;refine Ak (Co rfl 224 Tryz.underlying161) rfl ?_;refine Y2 ?_;refine Ak (Jy rfl (by kernel_rfl) Tryz.underlying224) rfl ?_;obtain ⟨x2,h4,hx8⟩:=Ae hx7;refine Qr (k:=0) rfl (by decide) (fun _=>rfl) h4 (fun b1 j2 hA1 hj1 hl2 hm0 hp1=>?_);refine Ak (Bo rfl rfl hA1 (j:=j2) hj1 hl2 Ia) rfl ?_;refine T_h (Nz Ad (s1.1) (w64 (s0.2+(((p1.length:Nat):Int)))) (wu32 (s1.2)) rfl rfl rfl (.here) hA1 rfl hj1 hl2 (fun _=>rfl) (by decide) rfl Iv.2 ?_);refine Y7 ?_
    have hn1:s1.1.length=(setI s1.1 (w64 (s0.2+(((p1.length:Nat):Int)))) (wu32 (s1.2))).length:=by simp [Ca,Cl,List.length_append] <;> omega
    refine Hw (.here) (e':=.r (y1.1) ((setI s1.1 (w64 (s0.2+(((p1.length:Nat):Int)))) (wu32 (s1.2))).length) (y1.2) 224 1 ((setI s1.1 (w64 (s0.2+(((p1.length:Nat):Int)))) (wu32 (s1.2))).flatMap Ad)) (by first | (rw [← hn1];done) | rfl) ?_;refine Ji (s:=5) (v':=.slice (y1.1) ((setI s1.1 (w64 (s0.2+(((p1.length:Nat):Int)))) (wu32 (s1.2))).length) (y1.2)) rfl (by have hn2:(s1.1.length)=(setI s1.1 (w64 (s0.2+(((p1.length:Nat):Int)))) (wu32 (s1.2))).length:=(by simp [Ca,Cl,List.length_append] <;> omega);first | (rw [← hn2];done) | rfl) ?_;exact Rp (setI s1.1 (w64 (s0.2+(((p1.length:Nat):Int)))) (wu32 (s1.2)),w64 (s0.2+1)) (y1.1,y1.2) hx8 trivial (by exact .pick 0 rfl (.refl))
   ·refine Y3 ?_;refine Ak (Co rfl 224 Tryz.underlying161) rfl ?_;refine Y4 ?_;obtain ⟨t1,hl3,ho1⟩:=Ae hx6;refine Lp (σ:=(List Int) × Int × Int) (γ:=(Option Addr) × Nat) hl3 (fun s2 y2=>[(1,.slice (A0_1) (p1.length) (c0_1)),(5,.slice (y2.1) (s2.1.length) (y2.2)),(6,.int .i64 (s0.2)),(7,.int .u32 (x1)),(8,.int .u64 (s2.2.1)),(18,.slice (A0_0) (p0.length) (c0_0)),(19,.int .i64 (((p0.length:Nat):Int))),(20,.int .i64 (s0.2)),(25,.slice (A0_1) (p1.length) (c0_1)),(26,.int .i64 (((p1.length:Nat):Int))),(27,.int .i64 (s2.2.2))]) (fun s2 y2=>[.r (y2.1) (s2.1.length) (y2.2) 224 1 (s2.1.flatMap Ad)]++[.old w]) (fun s2 y2=>True) (y0.1,y0.2) trivial (by exact .pick 0 rfl (.refl)) ?_;intro s2 y2 hG3 x3 hx9 ht1;unfold Fs at hx9;refine Y6 ?_;refine Ti hx9 (s:=28) rfl (fun h5 hx10=>?_) (fun h5 hx11=>?_)
    ·refine Y8 ?_;obtain ⟨x4,h6,hx12⟩:=Ae hx10;have hw2:=Has.low (E:=[]) ha1' hK;obtain ⟨b2,o1,j4,hA2,hj2,hl4,hp2⟩:=Has.at_idx hw2 h6;refine Ak (Bo rfl rfl hA2 (j:=j4) hj2 hl4 Ia) rfl ?_;refine Ak (Bx rfl hp2 (sb 1) rfl Iv) rfl ?_;refine Y7 ?_;refine Ak (Ga rfl (by kernel_rfl) Tryz.underlying246) rfl ?_;refine Y ?_;refine Ak (Ga rfl (by kernel_rfl) Tryz.underlying246) rfl ?_;refine Y5 ?_;obtain ⟨x5,h7,hx13⟩:=Ae hx12;refine Qr (k:=0) rfl (by decide) (fun _=>rfl) h7 (fun b3 j5 hA3 hj3 hl5 hm1 hp3=>?_);refine Ak (Bo rfl rfl hA3 (j:=j5) hj3 hl5 Ia) rfl ?_;refine Ak (Bx rfl hp3 (sb 0) rfl Iv) rfl ?_;refine Ak (Ga rfl (by kernel_rfl) Tryz.underlying246) rfl ?_;(iterate 13 refine Y ?_);refine Ak (Jy rfl (by kernel_rfl) Tryz.underlying224) rfl ?_;obtain ⟨x6,h8,hx14⟩:=Ae hx13;refine Qr (k:=0) rfl (by decide) (fun _=>rfl) h8 (fun b4 j6 hA4 hj4 hl6 hm2 hp4=>?_);refine Ak (Bo rfl rfl hA4 (j:=j6) hj4 hl6 Ia) rfl ?_;refine T_h (Nz Ad (s2.1) (w64 (s0.2+s2.2.2)) (wu32 (wu64 ((wu64 ((wu64 ((wu64 (x1))*(wu64 (x4))))+(wu64 (x5))))+s2.2.1))) rfl rfl rfl (.here) hA4 rfl hj4 hl6 (fun _=>rfl) (by decide) rfl Iv.2 ?_);refine Y4 ?_;refine Ak (Aei rfl rfl (by decide)) rfl ?_
     refine Y8 ?_
     have hn3:s2.1.length=(setI s2.1 (w64 (s0.2+s2.2.2)) (wu32 (wu64 ((wu64 ((wu64 ((wu64 (x1))*(wu64 (x4))))+(wu64 (x5))))+s2.2.1)))).length:=by simp [Ca,Cl,List.length_append] <;> omega
     refine Hw (.here) (e':=.r (y2.1) ((setI s2.1 (w64 (s0.2+s2.2.2)) (wu32 (wu64 ((wu64 ((wu64 ((wu64 (x1))*(wu64 (x4))))+(wu64 (x5))))+s2.2.1)))).length) (y2.2) 224 1 ((setI s2.1 (w64 (s0.2+s2.2.2)) (wu32 (wu64 ((wu64 ((wu64 ((wu64 (x1))*(wu64 (x4))))+(wu64 (x5))))+s2.2.1)))).flatMap Ad)) (by first | (rw [← hn3];done) | rfl) ?_;refine Ji (s:=5) (v':=.slice (y2.1) ((setI s2.1 (w64 (s0.2+s2.2.2)) (wu32 (wu64 ((wu64 ((wu64 ((wu64 (x1))*(wu64 (x4))))+(wu64 (x5))))+s2.2.1)))).length) (y2.2)) rfl (by have hn4:(s2.1.length)=(setI s2.1 (w64 (s0.2+s2.2.2)) (wu32 (wu64 ((wu64 ((wu64 ((wu64 (x1))*(wu64 (x4))))+(wu64 (x5))))+s2.2.1)))).length:=(by simp [Ca,Cl,List.length_append] <;> omega);first | (rw [← hn4];done) | rfl) ?_;exact Rp (setI s2.1 (w64 (s0.2+s2.2.2)) (wu32 (wu64 ((wu64 ((wu64 ((wu64 (x1))*(wu64 (x4))))+(wu64 (x5))))+s2.2.1))),shr_ .u64 (wu64 ((wu64 ((wu64 ((wu64 (x1))*(wu64 (x4))))+(wu64 (x5))))+s2.2.1)) 32,w64 (s2.2.2+1)) (y2.1,y2.2) hx14 trivial (by exact .pick 0 rfl (.refl))
    ·refine Y3 ?_;obtain rfl:=Gl ht1 hx11;refine Y2 ?_;exact Mt (s2.1,s2.2.1) (y2.1,y2.2) ho1 trivial (by exact .pick 0 rfl (.refl))
  ·refine Y3 ?_;obtain rfl:=Gl ht0 hx5;refine Y2 ?_;exact Mt s0.1 (y0.1,y0.2) ho0 trivial (by exact .pick 0 rfl (.refl))
set_option maxHeartbeats 1000000 in
set_option maxRecDepth 100000 in
instance ratio_nat_mul_c (p0:List Int) (p1:List Int):ConB (Cc p0 p1) Tryz.prog 326 (fun K vs=>∃ (A0_0:Option Addr) (c0_0:Nat) (A0_1:Option Addr) (c0_1:Nat),vs=[.slice (A0_0) ((p0).length) (c0_0),.slice (A0_1) ((p1).length) (c0_1)]∧Has K A0_0 (p0).length c0_0 1 Ad (p0)∧Has K A0_1 (p1).length c0_1 1 Ad (p1)∧True) (fun K r=>fun v Ln=>∃ (A0:Option Addr) (c0:Nat) (e:Ent),v = .slice (A0) ((r).length) (c0)∧Ln=[e]∧Has (K++[e]) A0 (r).length c0 1 Ad (r)∧True):=⟨by
 rintro K _ r ⟨A0_0,c0_0,A0_1,c0_1,rfl,ha0,ha1,-⟩ hx w hK;unfold Cc at hx;refine CtS Tryz.ntmps326 Tryz.results326 ?_;refine pre ?_;intros;rename_i hx
 apply Jr (γ:=(Option Addr) × Nat) hx [] (fun s3 y3 f=>(5,.slice (y3.1) ((s3).length) (y3.2))::f) [999] (fun s3 y3 l=>.r (y3.1) ((s3).length) (y3.2) 224 1 ((s3).flatMap Ad)::l);exact kk
 ·intro s3 y3 hx;exact au
 ·intro _ hx;refine pre ?_;intros;rename_i hx
  apply Lr (γ:=(Option Addr) × Nat) hx [1,18,19] (fun s0 y0 f=>(5,.slice (y0.1) ((s0.1).length) (y0.2))::(20,.int .i64 (s0.2))::f) [999] (fun s0 y0 l=>.r (y0.1) ((s0.1).length) (y0.2) 224 1 ((s0.1).flatMap Ad)::l) (_,_);exact kk;exact sk;intro s0 y0 x0 hx _;unfold Ft at hx
  refine pre ?_;intros;rename_i hx
  refine Cq1 (s:=21) hx rfl (fun _ hx=>?_) (fun _ hx=>?_)
  ·refine pre ?_;intros;rename_i hx
   refine Gh ?_;refine pre ?_;intros;rename_i hx
   apply Jr (γ:=(Option Addr) × Nat) hx [1,6,18,19,20] (fun s1 y1 f=>(5,.slice (y1.1) ((s1.1).length) (y1.2))::(8,.int .u64 (s1.2))::f) [999] (fun s1 y1 l=>.r (y1.1) ((s1.1).length) (y1.2) 224 1 ((s1.1).flatMap Ad)::l);exact kk
   ·intro s1 y1 hx;exact au
   ·intro _ hx;refine pre ?_;intros;rename_i hx
    apply Lr (γ:=(Option Addr) × Nat) hx [1,6,7,18,19,20,25,26] (fun s2 y2 f=>(5,.slice (y2.1) ((s2.1).length) (y2.2))::(8,.int .u64 (s2.2.1))::(27,.int .i64 (s2.2.2))::f) [999] (fun s2 y2 l=>.r (y2.1) ((s2.1).length) (y2.2) 224 1 ((s2.1).flatMap Ad)::l) (_,_);exact kk;exact sk;intro s2 y2 x1 hx _;unfold Fs at hx
    exact au
  ·exact au⟩

set_option maxHeartbeats 1000000 in
set_option maxRecDepth 100000 in
instance Zx (p0:List Int) (p1:List Int):Con (Fy p0 p1) Tryz.prog 283 (fun K vs=>∃ (A0_0:Option Addr) (c0_0:Nat) (A0_1:Option Addr) (c0_1:Nat),vs=[.slice (A0_0) ((p0).length) (c0_0),.slice (A0_1) ((p1).length) (c0_1)]∧Has K A0_0 (p0).length c0_0 1 Ad (p0)∧Has K A0_1 (p1).length c0_1 1 Ad (p1)∧True) (fun _ r=>fun v Ln=>v = .int .i64 (r)∧Ln=[]∧True):=⟨by
 rintro K _ r ⟨A0_0,c0_0,A0_1,c0_1,rfl,ha0,ha1,-⟩ hx w hK;replace ha0:=Has.lo ha0 hK;replace ha1:=Has.lo ha1 hK;unfold Fy at hx;have:=dl 8 [0,0,0,1,0,0,0,1,0] [0,1,2,3,4,5,6,7,8];have:=dl 9 [0,0,0,1,0,0,0,1,0] [0,1,2,3,4,5,6,7,8];refine CtS Tryz.ntmps283 Tryz.results283 ?_;refine pre ?_;intros;rename_i hx
 refine Cq2 (s:=10) hx rfl (fun _ hx=>?_) (fun _ hx=>?_)
 ·exact au
 ·refine pre ?_;intros;rename_i hx
  apply Jr (γ:=Unit) hx [] (fun s8 y8 f=>f) [999] (fun s8 y8 l=>l);exact kk
  ·intro s8 y8 hx;exact au
  ·intro _ hx;refine pre ?_;intros;rename_i hx
   apply Lr (γ:=Unit) hx [0,1] (fun s61 y61 f=>(5,.int .i64 (s61))::f) [999] (fun s61 y61 l=>l) ();exact kk;exact sk;intro s61 y61 x61 hx _;unfold Ld at hx
   exact au⟩
theorem Nv (p0:List Int) (p1:List Int) {K:List Ent} {A0_0:Option Addr} {c0_0:Nat} {A0_1:Option Addr} {c0_1:Nat} (ha0:Has K A0_0 (p0).length c0_0 1 Ad (p0)) (ha1:Has K A0_1 (p1).length c0_1 1 Ad (p1)) {r:Int} (hx:Fy p0 p1=some r) (w:World) (hK:∀ e∈K,Ent.ok w e):CtL Tryz.prog 283 [.slice (A0_0) ((p0).length) (c0_0),.slice (A0_1) ((p1).length) (c0_1)] w fun v Ln=>v = .int .i64 (r)∧Ln=[]∧True:=(Zx p0 p1).h K _ _ ⟨_,_,_,_,rfl,ha0,ha1,trivial⟩ hx w hK
set_option maxRecDepth 100000 in
theorem Nw (p0:List Int) (p1:List Int) {K:List Ent} {A0_0:Option Addr} {c0_0:Nat} {A0_1:Option Addr} {c0_1:Nat} (ha0:Has K A0_0 p0.length c0_0 1 Ad (p0)) (ha1:Has K A0_1 p1.length c0_1 1 Ad (p1)) {r:List Int} (hx:Gy p0 p1=some r) (w:World) (hK:∀ e∈K,Ent.ok w e):CtL Tryz.prog 282 [.slice (A0_0) (p0.length) (c0_0),.slice (A0_1) (p1.length) (c0_1)] w fun v Ln=>∃ (A0:Option Addr) (c0:Nat) (e0:Ent),v = .slice (A0) (r.length) (c0)∧Ln=[e0]∧Has (K++[e0]) A0 r.length c0 1 Ad (r)∧True:=by
 have ha0':=Has.up0 ha0;have ha1':=Has.up0 ha1;refine CtL.mk 54 Tryz.func282 rfl Tryz.ntmps282 (by kernel_rfl) rfl ?_;show T 54 _ [(0,.slice (A0_0) (p0.length) (c0_0)),(1,.slice (A0_1) (p1.length) (c0_1))] _;unfold Gy at hx;refine Y5 ?_;obtain ⟨j2,hj2,hx⟩:=Md hx;refine Nh (τ:=(List Int) × (List Int)) (γ:=(Option Addr) × Nat × (Option Addr) × Nat) (J:=j2) (out:=r) (fun s2 y2=>[(0,.slice (y2.1) (s2.1.length) (y2.2.1)),(1,.slice (y2.2.2.1) (s2.2.length) (y2.2.2.2))]) (fun s2 y2=>[]++[.old w]) (fun s2 y2=>Has (K++[]) (y2.1) (s2.1.length) (y2.2.1) 1 Ad (s2.1)∧Has (K++[]) (y2.2.2.1) (s2.2.length) (y2.2.2.2) 1 Ad (s2.2)∧True) ?_ ?_
 ·intro s2 y2 hx4 hG5;obtain ⟨hs6,hs7,-⟩:=hG5;subst hj2;refine Y3 ?_;refine Ak (Co rfl 224 Tryz.underlying161) rfl ?_;refine Y ?_;obtain ⟨h9,hx0⟩:=Cj hx4;refine T_x (Ps Ad (0) (z:=.int .u32 (0)) rfl rfl rfl h9.1 Tryz.underlying161 (show Tryz.prog.info? 224=some Tryz.t224 from by kernel_rfl) (by kernel_rfl) rfl rfl (by kernel_rfl) (show 4*_≤_ from h9.2) (by decide) rfl (fun A8=>?_));refine Y8 ?_;refine Tj (γ:=(Option Addr) × Nat) hx0 (fun s6 y6=>[(0,.slice (y2.1) (s2.1.length) (y2.2.1)),(5,.slice (y6.1) (s6.1.length) (y6.2)),(6,.int .u32 (s6.2))]) (fun s6 y6=>[.r (y6.1) (s6.1.length) (y6.2) 224 1 (s6.1.flatMap Ad)]++[.old w]) (fun s6 y6=>True) (fun s6 y6 hx1 hG0=>?_) (fun j6 hx0=>?_)
  ·refine Y4 ?_;refine Ak (Co rfl 224 Tryz.underlying161) rfl ?_;refine Y ?_;obtain ⟨x0,h0,hx5⟩:=Ae hx1;refine Qr (k:=0) rfl (by decide) (fun _=>rfl) h0 (fun b0 j0 hA0 hj0 hl0 hm0 hp0=>?_);refine Ak (Bo rfl rfl hA0 (j:=j0) hj0 hl0 Ia) rfl ?_;refine T_h (Nz Ad (s6.1) (((s2.1.length:Nat):Int)) (s6.2) rfl rfl rfl (.here) hA0 rfl hj0 hl0 (fun _=>rfl) (by decide) rfl Iv.2 ?_);refine Y5 ?_
   have hn0:s6.1.length=(setI s6.1 (((s2.1.length:Nat):Int)) s6.2).length:=by simp [Ca,Cl,List.length_append] <;> omega
   refine Hw (.here) (e':=.r (y6.1) ((setI s6.1 (((s2.1.length:Nat):Int)) s6.2).length) (y6.2) 224 1 ((setI s6.1 (((s2.1.length:Nat):Int)) s6.2).flatMap Ad)) (by first | (rw [← hn0];done) | rfl) ?_;refine Ji (s:=5) (v':=.slice (y6.1) ((setI s6.1 (((s2.1.length:Nat):Int)) s6.2).length) (y6.2)) rfl (by have hn1:(s6.1.length)=(setI s6.1 (((s2.1.length:Nat):Int)) s6.2).length:=(by simp [Ca,Cl,List.length_append] <;> omega);first | (rw [← hn1];done) | rfl) ?_;refine Ji (s:=47) (v':=.slice (y6.1) ((setI s6.1 (((s2.1.length:Nat):Int)) s6.2).length) (y6.2)) rfl (by have hn2:(s6.1.length)=(setI s6.1 (((s2.1.length:Nat):Int)) s6.2).length:=(by simp [Ca,Cl,List.length_append] <;> omega);first | (rw [← hn2];done) | rfl) ?_;refine Ji (s:=52) (v':=.slice (y6.1) ((setI s6.1 (((s2.1.length:Nat):Int)) s6.2).length) (y6.2)) rfl (by have hn3:(s6.1.length)=(setI s6.1 (((s2.1.length:Nat):Int)) s6.2).length:=(by simp [Ca,Cl,List.length_append] <;> omega);first | (rw [← hn3];done) | rfl) ?_;refine Kz (k:=0) rfl (by decide) (fun _=>rfl) (fun hn4 hs0=>?_);obtain ⟨r0,h2,hx6⟩:=Ae hx5;refine T_x (Ar rfl (fun w1 hw1=>Dx (setI s6.1 (((s2.1.length:Nat):Int)) s6.2) (Has.len' hs0) h2 w1 (Jj (K:=([.r (y6.1) ((setI s6.1 (((s2.1.length:Nat):Int)) s6.2).length) (y6.2) 224 1 ((setI s6.1 (((s2.1.length:Nat):Int)) s6.2).flatMap Ad)]:List Ent)) (by exact (sb 0)) hw1)) rfl ?_)
   rintro _ _ hlo ⟨A1,c1,rfl,rfl,hs1,-⟩;refine Dv ?_;refine Y4 ?_;obtain rfl:=Option.some.inj hx6;exact Bz (rs:=[.tmp 4]) Tryz.results282 (.tmp rfl (.nil)) (Ln:=[.r (y6.1) ((setI s6.1 (((s2.1.length:Nat):Int)) s6.2).length) (y6.2) 224 1 ((setI s6.1 (((s2.1.length:Nat):Int)) s6.2).flatMap Ad)]) ⟨A1,c1,(.r (y6.1) ((setI s6.1 (((s2.1.length:Nat):Int)) s6.2).length) (y6.2) 224 1 ((setI s6.1 (((s2.1.length:Nat):Int)) s6.2).flatMap Ad)),rfl,rfl,Has.len' (Has.up (L:=(K++[.r (y6.1) ((setI s6.1 (((s2.1.length:Nat):Int)) s6.2).length) (y6.2) 224 1 ((setI s6.1 (((s2.1.length:Nat):Int)) s6.2).flatMap Ad)])) hs1 (SubE.appR2 (sb 0))),trivial⟩ (Ag rfl (Bp)) (by exact .pick 0 rfl (.refl))
  ·refine Y3 ?_;refine Ak (Co rfl 224 Tryz.underlying161) rfl ?_;refine Y4 ?_;obtain ⟨t0,hl1,ho0⟩:=Ae hx0;refine Lp (σ:=(List Int) × Int × Int) (γ:=(Option Addr) × Nat) hl1 (fun s0 y0=>[(0,.slice (y2.1) (s2.1.length) (y2.2.1)),(1,.slice (y2.2.2.1) (s2.2.length) (y2.2.2.2)),(5,.slice (y0.1) (s0.1.length) (y0.2)),(6,.int .u32 (s0.2.1)),(21,.int .i64 (((s2.1.length:Nat):Int))),(22,.int .i64 (s0.2.2))]) (fun s0 y0=>[.r (y0.1) (s0.1.length) (y0.2) 224 1 (s0.1.flatMap Ad)]++[.old w]) (fun s0 y0=>True) (A8,(List.replicate (Int.toNat (w64 ((((s2.1.length:Nat):Int))+1))) (0:Int)).length) trivial (by exact .pick 0 rfl (.refl)) ?_;intro s0 y0 hG1 x1 hx7 ht0;unfold Hl at hx7;refine Y6 ?_;refine Ti hx7 (s:=23) rfl (fun h3 hx8=>?_) (fun h3 hx9=>?_)
   ·(iterate 16 refine Y ?_);refine Tj (γ:=Unit) hx8 (fun s1 y1=>[(0,.slice (y2.1) (s2.1.length) (y2.2.1)),(1,.slice (y2.2.2.1) (s2.2.length) (y2.2.2.2)),(5,.slice (y0.1) (s0.1.length) (y0.2)),(6,.int .u32 (s0.2.1)),(7,.int .i64 (s0.2.2)),(8,.int .u32 (s1)),(21,.int .i64 (((s2.1.length:Nat):Int))),(22,.int .i64 (s0.2.2))]) (fun s1 y1=>[.r (y0.1) (s0.1.length) (y0.2) 224 1 (s0.1.flatMap Ad)]++[.old w]) (fun s1 y1=>True) (fun s1 y1 hx74 hG2=>?_) (fun j1 hx8=>?_)
    ·refine Y5 ?_;obtain ⟨x2,h4,hx78⟩:=Ae hx74;have hw0:=Has.low (E:=[]) hs6 hK;obtain ⟨b1,o0,j3,hA1,hj1,hl2,hp1⟩:=Has.at_idx hw0 h4;refine Ak (Bo rfl rfl hA1 (j:=j3) hj1 hl2 Ia) rfl ?_;refine Ak (Bx rfl hp1 (sb 1) rfl Iv) rfl ?_;refine Y2 ?_;obtain ⟨r1,h5,hx89⟩:=Ae hx78;refine Tc (fun w1 hw1=>Vn x2 s1 s0.2.1  h5 w1) ?_;refine Y3 ?_;obtain ⟨x3,h6,hx92⟩:=Ae hx89;refine Qr (k:=0) rfl (by decide) (fun _=>rfl) h6 (fun b2 j4 hA2 hj3 hl3 hm1 hp2=>?_);refine Ak (Bo rfl rfl hA2 (j:=j4) hj3 hl3 Ia) rfl ?_;refine T_h (Nz Ad (s0.1) (s0.2.2) (r1.1) rfl rfl rfl (.here) hA2 rfl hj3 hl3 (fun _=>rfl) (by decide) rfl Iv.2 ?_);refine Y8 ?_
     have hn5:s0.1.length=(setI s0.1 s0.2.2 r1.1).length:=by simp [Ca,Cl,List.length_append] <;> omega
     refine Hw (.here) (e':=.r (y0.1) ((setI s0.1 s0.2.2 r1.1).length) (y0.2) 224 1 ((setI s0.1 s0.2.2 r1.1).flatMap Ad)) (by first | (rw [← hn5];done) | rfl) ?_;refine Ji (s:=5) (v':=.slice (y0.1) ((setI s0.1 s0.2.2 r1.1).length) (y0.2)) rfl (by have hn6:(s0.1.length)=(setI s0.1 s0.2.2 r1.1).length:=(by simp [Ca,Cl,List.length_append] <;> omega);first | (rw [← hn6];done) | rfl) ?_;exact Rp (setI s0.1 s0.2.2 r1.1,r1.2,w64 (s0.2.2+1)) (y0.1,y0.2) hx92 trivial (by exact .pick 0 rfl (.refl))
    ·refine Y4 ?_;refine Ak (Co rfl 224 Tryz.underlying161) rfl ?_;refine Y3 ?_;refine Ti hx8 (s:=28) rfl (fun h7 hx61=>?_) (fun h7 hx73=>?_)
     ·refine Y4 ?_;obtain ⟨x4,h8,hx64⟩:=Ae hx61;have hw2:=Has.low (E:=[]) hs7 hK;obtain ⟨b3,o1,j5,hA3,hj4,hl4,hp3⟩:=Has.at_idx hw2 h8;refine Ak (Bo rfl rfl hA3 (j:=j5) hj4 hl4 Ia) rfl ?_;refine Ak (Bx rfl hp3 (sb 1) rfl Iv) rfl ?_;refine Y2 ?_;exact Mt x4 () hx64 trivial (by exact .pick 0 rfl (.refl))
     ·refine Y2 ?_;exact Mt 0 () hx73 trivial (by exact .pick 0 rfl (.refl))
   ·refine Y3 ?_;obtain rfl:=Gl ht0 hx9;refine Y2 ?_;exact Mt (s0.1,s0.2.1) (y0.1,y0.2) ho0 trivial (by exact .pick 0 rfl (.refl))
 ·skip;refine Y3 ?_;refine Ak (Co rfl 224 Tryz.underlying161) rfl ?_;refine Y ?_;refine Ak (Co rfl 224 Tryz.underlying161) rfl ?_;refine Y3 ?_;refine Ti hx (s:=13) rfl (fun h1 hx2=>?_) (fun h1 hx3=>?_)
  ·refine Y7 ?_;exact Mt (p1,p0) (A0_1,c0_1,A0_0,c0_0) hx2 ((by exact ⟨Has.len' ha1',Has.len' ha0',trivial⟩)) (by exact .refl)
  ·refine Y2 ?_;exact Mt (p0,p1) (A0_0,c0_0,A0_1,c0_1) hx3 ((by exact ⟨Has.len' ha0',Has.len' ha1',trivial⟩)) (by exact .refl)
set_option maxHeartbeats 1000000 in
set_option maxRecDepth 100000 in
instance ratio_nat_add_c (p0:List Int) (p1:List Int):ConB (Gy p0 p1) Tryz.prog 282 (fun K vs=>∃ (A0_0:Option Addr) (c0_0:Nat) (A0_1:Option Addr) (c0_1:Nat),vs=[.slice (A0_0) ((p0).length) (c0_0),.slice (A0_1) ((p1).length) (c0_1)]∧Has K A0_0 (p0).length c0_0 1 Ad (p0)∧Has K A0_1 (p1).length c0_1 1 Ad (p1)∧True) (fun K r=>fun v Ln=>∃ (A0:Option Addr) (c0:Nat) (e:Ent),v = .slice (A0) ((r).length) (c0)∧Ln=[e]∧Has (K++[e]) A0 (r).length c0 1 Ad (r)∧True):=⟨by
 rintro K _ r ⟨A0_0,c0_0,A0_1,c0_1,rfl,ha0,ha1,-⟩ hx w hK;exact CtL.bunB (Nw p0 p1 ha0 ha1 hx w hK) (by
  rintro _ _ w1 hw ⟨_,_,_,rfl,rfl,_,-⟩
  exact ⟨_,_,_,rfl,rfl,hZ hw,trivial⟩)⟩
set_option maxRecDepth 100000 in
theorem Rg (p0:List Int) (p1:List Int) {K:List Ent} {A0_0:Option Addr} {c0_0:Nat} {A0_1:Option Addr} {c0_1:Nat} (ha0:Has K A0_0 p0.length c0_0 1 Ad (p0)) (ha1:Has K A0_1 p1.length c0_1 1 Ad (p1)) {r:List Int} (hx:Fz p0 p1=some r) (w:World) (hK:∀ e∈K,Ent.ok w e):CtL Tryz.prog 327 [.slice (A0_0) (p0.length) (c0_0),.slice (A0_1) (p1.length) (c0_1)] w fun v Ln=>∃ (A0:Option Addr) (c0:Nat) (e0:Ent),v = .slice (A0) (r.length) (c0)∧Ln=[e0]∧Has (K++[e0]) A0 r.length c0 1 Ad (r)∧True:=by
 have ha0':=Has.up0 ha0;have ha1':=Has.up0 ha1;refine CtL.mk 41 Tryz.func327 rfl Tryz.ntmps327 (by kernel_rfl) rfl ?_;show T 41 _ [(0,.slice (A0_0) (p0.length) (c0_0)),(1,.slice (A0_1) (p1.length) (c0_1))] _;unfold Fz at hx;refine Y8 ?_;refine Ak (Co rfl 224 Tryz.underlying161) rfl ?_;obtain ⟨h2,hx3⟩:=Cj hx;refine T_x (Ps Ad (0) (z:=.int .u32 (0)) rfl rfl rfl h2.1 Tryz.underlying161 (show Tryz.prog.info? 224=some Tryz.t224 from by kernel_rfl) (by kernel_rfl) rfl rfl (by kernel_rfl) (show 4*_≤_ from h2.2) (by decide) rfl (fun A1=>?_));refine Y8 ?_;refine Tj (γ:=(Option Addr) × Nat) hx3 (fun s4 y4=>[(5,.slice (y4.1) (s4.length) (y4.2))]) (fun s4 y4=>[.r (y4.1) (s4.length) (y4.2) 224 1 (s4.flatMap Ad)]++[.old w]) (fun s4 y4=>True) (fun s4 y4 hx0 hG0=>?_) (fun j4 hx3=>?_)
 ·refine Y3 ?_;refine Kz (k:=0) rfl (by decide) (fun _=>rfl) (fun hn0 hs0=>?_);obtain ⟨r0,h0,hx1⟩:=Ae hx0;refine T_x (Ar rfl (fun w1 hw1=>Dx s4 (Has.len' hs0) h0 w1 (Jj (K:=([.r (y4.1) (s4.length) (y4.2) 224 1 (s4.flatMap Ad)]:List Ent)) (by exact (sb 0)) hw1)) rfl ?_);rintro _ _ hlo ⟨A2,c1,rfl,rfl,hs1,-⟩;refine Dv ?_;refine Y4 ?_;obtain rfl:=Option.some.inj hx1;exact Bz (rs:=[.tmp 4]) Tryz.results327 (.tmp rfl (.nil)) (Ln:=[.r (y4.1) (s4.length) (y4.2) 224 1 (s4.flatMap Ad)]) ⟨A2,c1,(.r (y4.1) (s4.length) (y4.2) 224 1 (s4.flatMap Ad)),rfl,rfl,Has.len' (Has.up (L:=(K++[.r (y4.1) (s4.length) (y4.2) 224 1 (s4.flatMap Ad)])) hs1 (SubE.appR2 (sb 0))),trivial⟩ (Ag rfl (Bp)) (by exact .pick 0 rfl (.refl))
 ·refine Y3 ?_;refine Ak (Co rfl 224 Tryz.underlying161) rfl ?_;refine Y4 ?_;obtain ⟨t0,hl0,ho0⟩:=Ae hx3;refine Lp (σ:=(List Int) × Int × Int) (γ:=(Option Addr) × Nat) hl0 (fun s0 y0=>[(0,.slice (A0_0) (p0.length) (c0_0)),(1,.slice (A0_1) (p1.length) (c0_1)),(5,.slice (y0.1) (s0.1.length) (y0.2)),(6,.int .u32 (s0.2.1)),(13,.int .i64 (((p0.length:Nat):Int))),(14,.int .i64 (s0.2.2))]) (fun s0 y0=>[.r (y0.1) (s0.1.length) (y0.2) 224 1 (s0.1.flatMap Ad)]++[.old w]) (fun s0 y0=>True) (A1,(List.replicate (Int.toNat (((p0.length:Nat):Int))) (0:Int)).length) trivial (by exact .pick 0 rfl (.refl)) ?_;intro s0 y0 hG1 x0 hx2 ht0;unfold Hm at hx2;refine Y6 ?_;refine Ti hx2 (s:=15) rfl (fun h1 hx4=>?_) (fun h1 hx5=>?_)
  ·(iterate 16 refine Y ?_);refine Tj (γ:=Unit) hx4 (fun s1 y1=>[(0,.slice (A0_0) (p0.length) (c0_0)),(1,.slice (A0_1) (p1.length) (c0_1)),(5,.slice (y0.1) (s0.1.length) (y0.2)),(6,.int .u32 (s0.2.1)),(7,.int .i64 (s0.2.2)),(8,.int .u32 (s1)),(13,.int .i64 (((p0.length:Nat):Int))),(14,.int .i64 (s0.2.2))]) (fun s1 y1=>[.r (y0.1) (s0.1.length) (y0.2) 224 1 (s0.1.flatMap Ad)]++[.old w]) (fun s1 y1=>True) (fun s1 y1 hx6 hG2=>?_) (fun j0 hx4=>?_)
   ·refine Y5 ?_;obtain ⟨x1,h3,hx7⟩:=Ae hx6;have hw0:=Has.low (E:=[]) ha0' hK;obtain ⟨b0,o0,j1,hA0,hj0,hl1,hp0⟩:=Has.at_idx hw0 h3;refine Ak (Bo rfl rfl hA0 (j:=j1) hj0 hl1 Ia) rfl ?_;refine Ak (Bx rfl hp0 (sb 1) rfl Iv) rfl ?_;refine Y2 ?_;obtain ⟨r1,h4,hx8⟩:=Ae hx7;refine Tc (fun w1 hw1=>Vo x1 s1 s0.2.1  h4 w1) ?_;refine Y3 ?_;obtain ⟨x2,h5,hx9⟩:=Ae hx8;refine Qr (k:=0) rfl (by decide) (fun _=>rfl) h5 (fun b1 j2 hA1 hj1 hl2 hm0 hp1=>?_);refine Ak (Bo rfl rfl hA1 (j:=j2) hj1 hl2 Ia) rfl ?_;refine T_h (Nz Ad (s0.1) (s0.2.2) (r1.1) rfl rfl rfl (.here) hA1 rfl hj1 hl2 (fun _=>rfl) (by decide) rfl Iv.2 ?_);refine Y8 ?_
    have hn1:s0.1.length=(setI s0.1 s0.2.2 r1.1).length:=by simp [Ca,Cl,List.length_append] <;> omega
    refine Hw (.here) (e':=.r (y0.1) ((setI s0.1 s0.2.2 r1.1).length) (y0.2) 224 1 ((setI s0.1 s0.2.2 r1.1).flatMap Ad)) (by first | (rw [← hn1];done) | rfl) ?_;refine Ji (s:=5) (v':=.slice (y0.1) ((setI s0.1 s0.2.2 r1.1).length) (y0.2)) rfl (by have hn2:(s0.1.length)=(setI s0.1 s0.2.2 r1.1).length:=(by simp [Ca,Cl,List.length_append] <;> omega);first | (rw [← hn2];done) | rfl) ?_;exact Rp (setI s0.1 s0.2.2 r1.1,r1.2,w64 (s0.2.2+1)) (y0.1,y0.2) hx9 trivial (by exact .pick 0 rfl (.refl))
   ·refine Y4 ?_;refine Ak (Co rfl 224 Tryz.underlying161) rfl ?_;refine Y3 ?_;refine Ti hx4 (s:=20) rfl (fun h6 hx54=>?_) (fun h6 hx66=>?_)
    ·refine Y4 ?_;obtain ⟨x3,h7,hx57⟩:=Ae hx54;have hw2:=Has.low (E:=[]) ha1' hK;obtain ⟨b2,o1,j3,hA2,hj2,hl3,hp2⟩:=Has.at_idx hw2 h7;refine Ak (Bo rfl rfl hA2 (j:=j3) hj2 hl3 Ia) rfl ?_;refine Ak (Bx rfl hp2 (sb 1) rfl Iv) rfl ?_;refine Y2 ?_;exact Mt x3 () hx57 trivial (by exact .pick 0 rfl (.refl))
    ·refine Y2 ?_;exact Mt 0 () hx66 trivial (by exact .pick 0 rfl (.refl))
  ·refine Y3 ?_;obtain rfl:=Gl ht0 hx5;refine Y2 ?_;exact Mt s0.1 (y0.1,y0.2) ho0 trivial (by exact .pick 0 rfl (.refl))
set_option maxHeartbeats 1000000 in
set_option maxRecDepth 100000 in
instance ratio_nat_sub_c (p0:List Int) (p1:List Int):ConB (Fz p0 p1) Tryz.prog 327 (fun K vs=>∃ (A0_0:Option Addr) (c0_0:Nat) (A0_1:Option Addr) (c0_1:Nat),vs=[.slice (A0_0) ((p0).length) (c0_0),.slice (A0_1) ((p1).length) (c0_1)]∧Has K A0_0 (p0).length c0_0 1 Ad (p0)∧Has K A0_1 (p1).length c0_1 1 Ad (p1)∧True) (fun K r=>fun v Ln=>∃ (A0:Option Addr) (c0:Nat) (e:Ent),v = .slice (A0) ((r).length) (c0)∧Ln=[e]∧Has (K++[e]) A0 (r).length c0 1 Ad (r)∧True):=⟨by
 rintro K _ r ⟨A0_0,c0_0,A0_1,c0_1,rfl,ha0,ha1,-⟩ hx w hK;unfold Fz at hx;refine CtS Tryz.ntmps327 Tryz.results327 ?_;refine pre ?_;intros;rename_i hx
 refine Gh ?_;refine pre ?_;intros;rename_i hx
 apply Jr (γ:=(Option Addr) × Nat) hx [] (fun s4 y4 f=>(5,.slice (y4.1) ((s4).length) (y4.2))::f) [999] (fun s4 y4 l=>.r (y4.1) ((s4).length) (y4.2) 224 1 ((s4).flatMap Ad)::l);exact kk
 ·intro s4 y4 hx;exact au
 ·intro _ hx;refine pre ?_;intros;rename_i hx
  apply Lr (γ:=(Option Addr) × Nat) hx [0,1,13] (fun s0 y0 f=>(5,.slice (y0.1) ((s0.1).length) (y0.2))::(6,.int .u32 (s0.2.1))::(14,.int .i64 (s0.2.2))::f) [999] (fun s0 y0 l=>.r (y0.1) ((s0.1).length) (y0.2) 224 1 ((s0.1).flatMap Ad)::l) (_,_);exact kk;exact sk;intro s0 y0 x0 hx _;unfold Hm at hx
  exact au⟩

set_option maxRecDepth 100000 in
theorem Xz (p0:Aj) (p1:Aj) {K:List Ent} {A0_0:Option Addr} {c0_0:Nat} {A0_1:Option Addr} {c0_1:Nat} {A0_2:Option Addr} {c0_2:Nat} {A0_3:Option Addr} {c0_3:Nat} (ha0:Has K A0_0 p0.n.length c0_0 1 Ad (p0.n)) (ha1:Has K A0_1 p0.d.length c0_1 1 Ad (p0.d)) (ha2:Has K A0_2 p1.n.length c0_2 1 Ad (p1.n)) (ha3:Has K A0_3 p1.d.length c0_3 1 Ad (p1.d)) {r:Aj} (hx:Db p0 p1=some r) (w:World) (hK:∀ e∈K,Ent.ok w e):CtL Tryz.prog 263 [.agg #[.bool (p0.neg),.slice (A0_0) (p0.n.length) (c0_0),.slice (A0_1) (p0.d.length) (c0_1)],.agg #[.bool (p1.neg),.slice (A0_2) (p1.n.length) (c0_2),.slice (A0_3) (p1.d.length) (c0_3)]] w fun v Ln=>∃ (A0:Option Addr) (c0:Nat) (A2:Option Addr) (c2:Nat) (e0:Ent) (e1:Ent),v = .agg #[.bool (r.neg),.slice (A0) (r.n.length) (c0),.slice (A2) (r.d.length) (c2)]∧Ln=[e0,e1]∧Has (K++[e0,e1]) A0 r.n.length c0 1 Ad (r.n)∧Has (K++[e0,e1]) A2 r.d.length c2 1 Ad (r.d)∧True:=by
 have ha0':=Has.up0 ha0;have ha1':=Has.up0 ha1;have ha2':=Has.up0 ha2;have ha3':=Has.up0 ha3;refine CtL.mk 21 Tryz.func263 rfl Tryz.ntmps263 (by kernel_rfl) rfl ?_;show T 21 _ [(0,.agg #[.bool (p0.neg),.slice (A0_0) (p0.n.length) (c0_0),.slice (A0_1) (p0.d.length) (c0_1)]),(1,.agg #[.bool (p1.neg),.slice (A0_2) (p1.n.length) (c0_2),.slice (A0_3) (p1.d.length) (c0_3)])] _;unfold Db at hx;refine Y2 ?_;refine T_x (Di rfl rfl rfl (fun g1=>?_));refine T_x (Di rfl rfl rfl (fun g2=>?_));refine T_x (Az Fi rfl (fun g3=>?_));refine Y3 ?_;refine T_dr [0,1,0,1,0,0,1,0,1,2,0,1,0,1,2,0,3] (.q 0 (.q 1 (.q 2 (.q 3 (.q 4 (.q 5 (.q 6 (.q 7 (.q 8 (.q 10 (.q 11 (.q 12 (.q 13 (.e 9 (.e 14 (.q 15 (.e 16 (.done) (.stop))) (.stop)) (.stop))))))))))))))) mixed (by kernel_rfl) (by kernel_rfl) ?_;refine P_p rfl rfl (Ax rfl Hr rfl) rfl ?_;refine P_q rfl rfl (Au rfl (i:=2) rfl rfl one4) rfl ?_;refine P_p rfl rfl (Ax rfl Hr rfl) rfl ?_;refine P_q rfl rfl (Au rfl (i:=1) rfl rfl one4) rfl ?_;refine P_p rfl rfl (Aez rfl rfl (by kernel_rfl)) rfl ?_;refine P_p rfl rfl (Ax rfl Gc rfl) rfl ?_;refine P_q rfl rfl (Au rfl (i:=2) rfl rfl Dj) rfl ?_;refine P_p rfl rfl (Ax rfl Gc rfl) rfl ?_;refine P_q rfl rfl (Au rfl (i:=1) rfl rfl Dj) rfl ?_;refine P_p rfl rfl (Ax rfl Fa rfl) rfl ?_;refine P_q rfl rfl (Au rfl (i:=2) rfl rfl Dj) rfl ?_
 refine P_p rfl rfl (Ax rfl Fa rfl) rfl ?_;refine P_q rfl rfl (Au rfl (i:=1) rfl rfl Dj) rfl ?_;obtain ⟨r4,h5,hx6⟩:=Ae hx;refine P_x rfl (Ar rfl (fun w1 hw1=>Fu p0.n p1.n (Has.len' ha0') (Has.len' ha2') h5 w1 (Bt (K:=K) (K2:=[]) hK (by exact (sb 3)) (by exact (SubE.nil)) hw1)) rfl ?_) ?_;rotate_left;exact Al;rintro _ _ hlo ⟨A7,c8,e9,rfl,rfl,hs0,-⟩;have lo11:=hlo e9 (by simp);refine Ef ?_;have hs1:Has (K++[e9]) _ _ _ _ _ _:=Has.assoc hs0;obtain ⟨r0,h0,hx0⟩:=Ae hx6;refine P_x rfl (Ar rfl (fun w1 hw1=>Fu p0.d p1.d (Has.len' ha1') (Has.len' ha3') h0 w1 (Bt (K:=K) (K2:=[]) hK (by exact (sb 4)) (by exact (SubE.nil)) hw1)) rfl ?_) ?_;rotate_left;exact Al;rintro _ _ hlo ⟨A1,c1,e2,rfl,rfl,hs2,-⟩;have lo20:=hlo e2 (by simp);refine Ef ?_;have hs3:Has (K++[e2]) _ _ _ _ _ _:=Has.assoc hs2;refine P_p rfl rfl (Bn rfl (Da _ _ _ _ _ _ _)) rfl ?_;refine P_h rfl rfl (Av rfl rfl rfl (.there (.there (.here))) (.put (.put (.put (.done)))) rfl (List.cons_ne_nil _ _) Bj.2 ?_) ?_;rotate_left;exact Al;refine Y3 ?_;obtain rfl:=Option.some.inj hx0;exact Bz (rs:=[.cell 4 163]) Tryz.results263 (.cell rfl (i:=2) rfl rfl Bj (.nil)) (Ln:=[e9,e2]) ⟨A7,c8,A1,c1,e9,e2,rfl,rfl,Has.len' (Has.up (L:=(K++[e9,e2])) hs1 (SubE.app2 (sb 0))),Has.len' (Has.up (L:=(K++[e9,e2])) hs3 (SubE.app2 (sb 1))),trivial⟩ (Ag lo11 (Ag lo20 (Bp))) (by exact .pick 1 rfl (.pick 0 rfl (.drop 0 rfl (.drop 0 rfl (.drop 0 rfl (.refl))))))
set_option maxRecDepth 100000 in
instance ratio_Num_Mul_c (p0:Aj) (p1:Aj):ConB (Db p0 p1) Tryz.prog 263 (fun K vs=>∃ (A0_0:Option Addr) (c0_0:Nat) (A0_1:Option Addr) (c0_1:Nat) (A0_2:Option Addr) (c0_2:Nat) (A0_3:Option Addr) (c0_3:Nat),vs=[.agg #[.bool (p0.neg),.slice (A0_0) ((p0.n).length) (c0_0),.slice (A0_1) ((p0.d).length) (c0_1)],.agg #[.bool (p1.neg),.slice (A0_2) ((p1.n).length) (c0_2),.slice (A0_3) ((p1.d).length) (c0_3)]]∧Has K A0_0 (p0.n).length c0_0 1 Ad (p0.n)∧Has K A0_1 (p0.d).length c0_1 1 Ad (p0.d)∧Has K A0_2 (p1.n).length c0_2 1 Ad (p1.n)∧Has K A0_3 (p1.d).length c0_3 1 Ad (p1.d)∧True) (fun K r=>fun v Ln=>∃ (A0:Option Addr) (c0:Nat) (A2:Option Addr) (c2:Nat) (e:Ent),v = .agg #[.bool (r.neg),.slice (A0) ((r.n).length) (c0),.slice (A2) ((r.d).length) (c2)]∧Ln=[e]∧Has (K++[e]) A0 (r.n).length c0 1 Ad (r.n)∧Has (K++[e]) A2 (r.d).length c2 1 Ad (r.d)∧True):=⟨by
 rintro K _ r ⟨A0_0,c0_0,A0_1,c0_1,A0_2,c0_2,A0_3,c0_3,rfl,ha0,ha1,ha2,ha3,-⟩ hx w hK;unfold Db at hx;have:=dl 1 [0,1,0,1,0,0,1,0,1,2,0,1,0,1,2,0,3] [0,1,2,3,4,5,6,7,8,10,11,12,13,9,14,15,16];refine CtS Tryz.ntmps263 Tryz.results263 ?_;exact au⟩

set_option maxRecDepth 100000 in
theorem Rh (p0:Aj) (p1:Aj) {K:List Ent} {A0_0:Option Addr} {c0_0:Nat} {A0_1:Option Addr} {c0_1:Nat} {A0_2:Option Addr} {c0_2:Nat} {A0_3:Option Addr} {c0_3:Nat} (ha0:Has K A0_0 p0.n.length c0_0 1 Ad (p0.n)) (ha1:Has K A0_1 p0.d.length c0_1 1 Ad (p0.d)) (ha2:Has K A0_2 p1.n.length c0_2 1 Ad (p1.n)) (ha3:Has K A0_3 p1.d.length c0_3 1 Ad (p1.d)) {r:Aj} (hx:Dl p0 p1=some r) (w:World) (hK:∀ e∈K,Ent.ok w e):CtL Tryz.prog 264 [.agg #[.bool (p0.neg),.slice (A0_0) (p0.n.length) (c0_0),.slice (A0_1) (p0.d.length) (c0_1)],.agg #[.bool (p1.neg),.slice (A0_2) (p1.n.length) (c0_2),.slice (A0_3) (p1.d.length) (c0_3)]] w fun v Ln=>∃ (A0:Option Addr) (c0:Nat) (A2:Option Addr) (c2:Nat) (e0:Ent) (e1:Ent) (e2:Ent) (e3:Ent),v = .agg #[.bool (r.neg),.slice (A0) (r.n.length) (c0),.slice (A2) (r.d.length) (c2)]∧Ln=[e0,e1,e2,e3]∧Has (K++[e0,e1,e2,e3]) A0 r.n.length c0 1 Ad (r.n)∧Has (K++[e0,e1,e2,e3]) A2 r.d.length c2 1 Ad (r.d)∧True:=by
 have ha0':=Has.up0 ha0;have ha1':=Has.up0 ha1;have ha2':=Has.up0 ha2;have ha3':=Has.up0 ha3;refine CtL.mk 53 Tryz.func264 rfl Tryz.ntmps264 (by kernel_rfl) rfl ?_;show T 53 _ [(0,.agg #[.bool (p0.neg),.slice (A0_0) (p0.n.length) (c0_0),.slice (A0_1) (p0.d.length) (c0_1)]),(1,.agg #[.bool (p1.neg),.slice (A0_2) (p1.n.length) (c0_2),.slice (A0_3) (p1.d.length) (c0_3)])] _;unfold Dl at hx;refine Y2 ?_;refine T_x (Di rfl rfl rfl (fun g1=>?_));refine T_x (Di rfl rfl rfl (fun g2=>?_));refine T_x (Az Fi rfl (fun g3=>?_));refine Y3 ?_;refine T_dr [0,1,0,1,2,0,1,0,1,2,2,2] (.q 0 (.q 1 (.q 2 (.q 3 (.q 5 (.q 6 (.q 7 (.q 8 (.e 4 (.e 9 (.e 10 (.e 11 (.done) (.stop)) (.stop)) (.stop)) (.stop)))))))))) mixed (by kernel_rfl) (by kernel_rfl) ?_;refine P_p rfl rfl (Ax rfl Gc rfl) rfl ?_;refine P_q rfl rfl (Au rfl (i:=2) rfl rfl Dj) rfl ?_;refine P_p rfl rfl (Ax rfl Fa rfl) rfl ?_;refine P_q rfl rfl (Au rfl (i:=1) rfl rfl Dj) rfl ?_;refine P_p rfl rfl (Ax rfl Gc rfl) rfl ?_;refine P_q rfl rfl (Au rfl (i:=1) rfl rfl Dj) rfl ?_;refine P_p rfl rfl (Ax rfl Fa rfl) rfl ?_;refine P_q rfl rfl (Au rfl (i:=2) rfl rfl Dj) rfl ?_;obtain ⟨r4,h5,hx6⟩:=Ae hx;refine P_x rfl (Ar rfl (fun w1 hw1=>Fu p0.n p1.d (Has.len' ha0') (Has.len' ha3') h5 w1 (Bt (K:=K) (K2:=[]) hK (by exact (sb 3)) (by exact (SubE.nil)) hw1)) rfl ?_) ?_
 rotate_left;exact Al;rintro _ _ hlo ⟨A7,c8,e9,rfl,rfl,hs0,-⟩;have lo11:=hlo e9 (by simp);refine Ef ?_;have hs1:Has (K++[e9]) _ _ _ _ _ _:=Has.assoc hs0;obtain ⟨r0,h0,hx0⟩:=Ae hx6;refine P_x rfl (Ar rfl (fun w1 hw1=>Fu p1.n p0.d (Has.len' ha2') (Has.len' ha1') h0 w1 (Bt (K:=K) (K2:=[]) hK (by exact (sb 4)) (by exact (SubE.nil)) hw1)) rfl ?_) ?_;rotate_left;exact Al;rintro _ _ hlo ⟨A1,c1,e4,rfl,rfl,hs2,-⟩;have lo20:=hlo e4 (by simp);refine Ef ?_;have hs3:Has (K++[e4]) _ _ _ _ _ _:=Has.assoc hs2;refine P_x rfl (Ib (Dz rfl) rfl ?_) ?_;rotate_left;exact Al;refine P_x rfl (Ib (Dz rfl) rfl ?_) ?_;rotate_left;exact Al;refine Y4 ?_;refine Ak (Ax rfl Fa rfl) rfl ?_;refine Ak (Au rfl (i:=4) rfl rfl Dj) rfl ?_;refine Ak (Ax rfl Fa rfl) rfl ?_;refine Ak (Au rfl (i:=3) rfl rfl Dj) rfl ?_;obtain ⟨r1,h1,hx1⟩:=Ae hx0;refine T_x (Ar rfl (fun w1 hw1=>Fu p0.d p1.d (Has.len' ha1') (Has.len' ha3') h1 w1 (Bt (K:=K) (K2:=[]) hK (by exact (sb 5)) (by exact (SubE.nil)) hw1)) rfl ?_);rintro _ _ hlo ⟨A3,c3,e5,rfl,rfl,hs4,-⟩;have lo29:=hlo e5 (by simp);refine Ef ?_;have hs5:Has (K++[e5]) _ _ _ _ _ _:=Has.assoc hs4;refine Y6 ?_;refine Ak (Ax rfl Hr rfl) rfl ?_;refine Ak (Au rfl (i:=5) rfl rfl one4) rfl ?_
 refine Ak (Ax rfl Hr rfl) rfl ?_;refine Ak (Au rfl (i:=4) rfl rfl one4) rfl ?_;refine Ak (Ai1 rfl rfl (by kernel_rfl)) rfl ?_;refine Y2 ?_;refine Do (s:=27) rfl (fun h2=>?_) (fun h2=>?_)
 ·have hx2:=Eh h2 hx1;refine Y2 ?_;refine T_dr [0,1,0,0,2,0,0,3] (.q 0 (.q 1 (.q 2 (.q 3 (.q 5 (.e 4 (.q 6 (.e 7 (.done) (.stop))) (.stop))))))) mixed (by kernel_rfl) (by kernel_rfl) ?_;refine P_p rfl rfl (Ax rfl Hr rfl) rfl ?_;refine P_q rfl rfl (Au rfl (i:=5) rfl rfl one4) rfl ?_;refine Y3 ?_;obtain ⟨r2,h3,hx3⟩:=Ae hx2;refine P_x rfl (Ar rfl (fun w1 hw1=>Nw r4 r0 (Has.len' (Has.up (L:=(K++[e9,e4])) hs1 (SubE.app2 (sb 0)))) (Has.len' (Has.up (L:=(K++[e9,e4])) hs3 (SubE.app2 (sb 1)))) h3 w1 (Bt (K:=K) (K2:=[e9,e4]) hK (by exact (sb 6)) (by exact (SubE.cons2 (i:=2) rfl (sb 1))) hw1)) rfl ?_) ?_;rotate_left;exact Al;rintro _ _ hlo ⟨A4,c4,e6,rfl,rfl,hs6,-⟩;have lo40:=hlo e6 (by simp);refine Ef ?_;have hs7:Has (K++[e9,e4,e6]) _ _ _ _ _ _:=Has.assoc hs6;refine P_p rfl rfl (Bn rfl (Da _ _ _ _ _ _ _)) rfl ?_;refine P_h rfl rfl (Av rfl rfl rfl (.there (.there (.there (.there (.here))))) (.put (.put (.put (.done)))) rfl (List.cons_ne_nil _ _) Bj.2 ?_) ?_;rotate_left;exact Al;refine Y4 ?_;obtain rfl:=Option.some.inj hx3;exact Bz (rs:=[.cell 4 163]) Tryz.results264 (.cell rfl (i:=4) rfl rfl Bj (.nil)) (Ln:=[e9,e4,e6,e5]) ⟨A4,c4,A3,c3,e9,e4,e6,e5,rfl,rfl,Has.len' (Has.up (L:=(K++[e9,e4,e6,e5])) hs7 (SubE.app2 (SubE.cons2 (i:=0) rfl (SubE.cons2 (i:=1) rfl (sb 2))))),Has.len' (Has.up (L:=(K++[e9,e4,e6,e5])) hs5 (SubE.app2 (sb 3))),trivial⟩ (Ag lo11 (Ag lo20 (Ag lo40 (Ag lo29 (Bp))))) (by exact .pick 3 rfl (.pick 2 rfl (.pick 0 rfl (.pick 0 rfl (.drop 0 rfl (.drop 0 rfl (.drop 0 rfl (.refl))))))))
 ·have hx4:=El h2 hx1;refine Y8 ?_;obtain ⟨r3,h4,hx5⟩:=Ae hx4;refine Tc (fun w1 hw1=>Nv r4 r0 (Has.len' (Has.up (L:=(K++[e9,e4])) hs1 (SubE.app2 (sb 0)))) (Has.len' (Has.up (L:=(K++[e9,e4])) hs3 (SubE.app2 (sb 1)))) h4 w1 (Bt (K:=K) (K2:=[e9,e4]) hK (by exact (sb 6)) (by exact (SubE.cons2 (i:=2) rfl (sb 1))) hw1)) ?_;refine Y3 ?_;refine Ti hx5 (s:=38) rfl (fun h6 hx7=>?_) (fun h6 hx8=>?_)
  ·refine Y2 ?_;refine T_dr [0,1,0,0,2,0,0,3] (.q 0 (.q 1 (.q 2 (.q 3 (.q 5 (.e 4 (.q 6 (.e 7 (.done) (.stop))) (.stop))))))) mixed (by kernel_rfl) (by kernel_rfl) ?_;refine P_p rfl rfl (Ax rfl Hr rfl) rfl ?_;refine P_q rfl rfl (Au rfl (i:=5) rfl rfl one4) rfl ?_;refine Y3 ?_;obtain ⟨r5,h7,hx9⟩:=Ae hx7;refine P_x rfl (Ar rfl (fun w1 hw1=>Rg r4 r0 (Has.len' (Has.up (L:=(K++[e9,e4])) hs1 (SubE.app2 (sb 0)))) (Has.len' (Has.up (L:=(K++[e9,e4])) hs3 (SubE.app2 (sb 1)))) h7 w1 (Bt (K:=K) (K2:=[e9,e4]) hK (by exact (sb 6)) (by exact (SubE.cons2 (i:=2) rfl (sb 1))) hw1)) rfl ?_) ?_;rotate_left;exact Al;rintro _ _ hlo ⟨A5,c5,e7,rfl,rfl,hs8,-⟩;have lo55:=hlo e7 (by simp);refine Ef ?_;have hs9:Has (K++[e9,e4,e7]) _ _ _ _ _ _:=Has.assoc hs8;refine P_p rfl rfl (Bn rfl (Da _ _ _ _ _ _ _)) rfl ?_;refine P_h rfl rfl (Av rfl rfl rfl (.there (.there (.there (.there (.here))))) (.put (.put (.put (.done)))) rfl (List.cons_ne_nil _ _) Bj.2 ?_) ?_;rotate_left;exact Al;refine Y4 ?_;obtain rfl:=Option.some.inj hx9;exact Bz (rs:=[.cell 4 163]) Tryz.results264 (.cell rfl (i:=4) rfl rfl Bj (.nil)) (Ln:=[e9,e4,e7,e5]) ⟨A5,c5,A3,c3,e9,e4,e7,e5,rfl,rfl,Has.len' (Has.up (L:=(K++[e9,e4,e7,e5])) hs9 (SubE.app2 (SubE.cons2 (i:=0) rfl (SubE.cons2 (i:=1) rfl (sb 2))))),Has.len' (Has.up (L:=(K++[e9,e4,e7,e5])) hs5 (SubE.app2 (sb 3))),trivial⟩ (Ag lo11 (Ag lo20 (Ag lo55 (Ag lo29 (Bp))))) (by exact .pick 3 rfl (.pick 2 rfl (.pick 0 rfl (.pick 0 rfl (.drop 0 rfl (.drop 0 rfl (.drop 0 rfl (.refl))))))))
  ·refine Y4 ?_;refine T_dr [0,1,0,0,2,0,0,3] (.q 0 (.q 1 (.q 2 (.q 3 (.q 5 (.e 4 (.q 6 (.e 7 (.done) (.stop))) (.stop))))))) mixed (by kernel_rfl) (by kernel_rfl) ?_;refine P_p rfl rfl (Ax rfl Hr rfl) rfl ?_;refine P_q rfl rfl (Au rfl (i:=4) rfl rfl one4) rfl ?_;refine Y3 ?_;obtain ⟨r6,h8,hx60⟩:=Ae hx8;refine P_x rfl (Ar rfl (fun w1 hw1=>Rg r0 r4 (Has.len' (Has.up (L:=(K++[e4,e9])) hs3 (SubE.app2 (sb 0)))) (Has.len' (Has.up (L:=(K++[e4,e9])) hs1 (SubE.app2 (sb 1)))) h8 w1 (Bt (K:=K) (K2:=[e4,e9]) hK (by exact (sb 6)) (by exact (SubE.cons2 (i:=1) rfl (sb 2))) hw1)) rfl ?_) ?_;rotate_left;exact Al;rintro _ _ hlo ⟨A6,c6,e8,rfl,rfl,hs64,-⟩;have lo65:=hlo e8 (by simp);refine Ef ?_;have hs66:Has (K++[e4,e9,e8]) _ _ _ _ _ _:=Has.assoc hs64;refine P_p rfl rfl (Bn rfl (Da _ _ _ _ _ _ _)) rfl ?_;refine P_h rfl rfl (Av rfl rfl rfl (.there (.there (.there (.there (.here))))) (.put (.put (.put (.done)))) rfl (List.cons_ne_nil _ _) Bj.2 ?_) ?_;rotate_left;exact Al;refine Y3 ?_;obtain rfl:=Option.some.inj hx60;exact Bz (rs:=[.cell 4 163]) Tryz.results264 (.cell rfl (i:=4) rfl rfl Bj (.nil)) (Ln:=[e4,e9,e8,e5]) ⟨A6,c6,A3,c3,e4,e9,e8,e5,rfl,rfl,Has.len' (Has.up (L:=(K++[e4,e9,e8,e5])) hs66 (SubE.app2 (SubE.cons2 (i:=0) rfl (SubE.cons2 (i:=1) rfl (sb 2))))),Has.len' (Has.up (L:=(K++[e4,e9,e8,e5])) hs5 (SubE.app2 (sb 3))),trivial⟩ (Ag lo20 (Ag lo11 (Ag lo65 (Ag lo29 (Bp))))) (by exact .pick 2 rfl (.pick 2 rfl (.pick 0 rfl (.pick 0 rfl (.drop 0 rfl (.drop 0 rfl (.drop 0 rfl (.refl))))))))
set_option maxHeartbeats 1000000 in
set_option maxRecDepth 100000 in
instance ratio_Num_Add_c (p0:Aj) (p1:Aj):ConB (Dl p0 p1) Tryz.prog 264 (fun K vs=>∃ (A0_0:Option Addr) (c0_0:Nat) (A0_1:Option Addr) (c0_1:Nat) (A0_2:Option Addr) (c0_2:Nat) (A0_3:Option Addr) (c0_3:Nat),vs=[.agg #[.bool (p0.neg),.slice (A0_0) ((p0.n).length) (c0_0),.slice (A0_1) ((p0.d).length) (c0_1)],.agg #[.bool (p1.neg),.slice (A0_2) ((p1.n).length) (c0_2),.slice (A0_3) ((p1.d).length) (c0_3)]]∧Has K A0_0 (p0.n).length c0_0 1 Ad (p0.n)∧Has K A0_1 (p0.d).length c0_1 1 Ad (p0.d)∧Has K A0_2 (p1.n).length c0_2 1 Ad (p1.n)∧Has K A0_3 (p1.d).length c0_3 1 Ad (p1.d)∧True) (fun K r=>fun v Ln=>∃ (A0:Option Addr) (c0:Nat) (A2:Option Addr) (c2:Nat) (e:Ent),v = .agg #[.bool (r.neg),.slice (A0) ((r.n).length) (c0),.slice (A2) ((r.d).length) (c2)]∧Ln=[e]∧Has (K++[e]) A0 (r.n).length c0 1 Ad (r.n)∧Has (K++[e]) A2 (r.d).length c2 1 Ad (r.d)∧True):=⟨by
 rintro K _ r ⟨A0_0,c0_0,A0_1,c0_1,A0_2,c0_2,A0_3,c0_3,rfl,ha0,ha1,ha2,ha3,-⟩ hx w hK;unfold Dl at hx;have:=dl 1 [0,1,0,1,2,0,1,0,1,2,2,2] [0,1,2,3,5,6,7,8,4,9,10,11];have:=dl 4 [0,1,0,0,2,0,0,3] [0,1,2,3,5,4,6,7];have:=dl 6 [0,1,0,0,2,0,0,3] [0,1,2,3,5,4,6,7];have:=dl 7 [0,1,0,0,2,0,0,3] [0,1,2,3,5,4,6,7];refine CtS Tryz.ntmps264 Tryz.results264 ?_;refine pre ?_;intros;rename_i hx
 refine Cq3 (s:=27) hx rfl (fun _ hx=>?_) (fun _ hx=>?_)
 ·exact au
 ·exact au⟩

set_option maxRecDepth 100000 in
instance Ya (p0:Aj):Con (Dk p0) Tryz.prog 202 (fun K vs=>∃ (A0_0:Option Addr) (c0_0:Nat) (A0_1:Option Addr) (c0_1:Nat),vs=[.agg #[.bool (p0.neg),.slice (A0_0) ((p0.n).length) (c0_0),.slice (A0_1) ((p0.d).length) (c0_1)]]∧Has K A0_0 (p0.n).length c0_0 1 Ad (p0.n)∧Has K A0_1 (p0.d).length c0_1 1 Ad (p0.d)∧True) (fun _ r=>fun v Ln=>v = .int .i64 (r)∧Ln=[]∧True):=⟨by
 rintro K _ r ⟨A0_0,c0_0,A0_1,c0_1,rfl,ha0,ha1,-⟩ hx w hK;replace ha0:=Has.lo ha0 hK;replace ha1:=Has.lo ha1 hK;unfold Dk at hx;refine CtS Tryz.ntmps202 Tryz.results202 ?_;exact au⟩
theorem Wv (p0:Aj) {K:List Ent} {A0_0:Option Addr} {c0_0:Nat} {A0_1:Option Addr} {c0_1:Nat} (ha0:Has K A0_0 (p0.n).length c0_0 1 Ad (p0.n)) (ha1:Has K A0_1 (p0.d).length c0_1 1 Ad (p0.d)) {r:Int} (hx:Dk p0=some r) (w:World) (hK:∀ e∈K,Ent.ok w e):CtL Tryz.prog 202 [.agg #[.bool (p0.neg),.slice (A0_0) ((p0.n).length) (c0_0),.slice (A0_1) ((p0.d).length) (c0_1)]] w fun v Ln=>v = .int .i64 (r)∧Ln=[]∧True:=(Ya p0).h K _ _ ⟨_,_,_,_,rfl,ha0,ha1,trivial⟩ hx w hK
set_option maxRecDepth 100000 in
theorem Adz (p0:Int)  {r:Aj} (hx:Gj p0=some r) (w:World):CtL Tryz.prog 189 [.int .i64 (p0)] w fun v Ln=>∃ (A0:Option Addr) (c0:Nat) (A2:Option Addr) (c2:Nat) (e0:Ent),v = .agg #[.bool (r.neg),.slice (A0) (r.n.length) (c0),.slice (A2) (r.d.length) (c2)]∧Ln=[.r A2 r.d.length c2 224 1 (r.d.flatMap Ad),e0]∧Has ([e0]:List Ent) A0 r.n.length c0 1 Ad (r.n)∧True:=by
 refine CtL.mk 18 Tryz.func189 rfl Tryz.ntmps189 (by kernel_rfl) rfl ?_;show T 18 _ [(0,.int .i64 (p0))] _;unfold Gj at hx;refine Y2 ?_;refine T_x (Az Fi rfl (fun g1=>?_));refine Y9 ?_;refine Ti hx (s:=4) rfl (fun h2 hx3=>?_) (fun h2 hx0=>?_)
 ·refine Y6 ?_;refine Ak (Ga rfl (by kernel_rfl) Tryz.underlying246) rfl ?_;refine Y ?_;obtain ⟨r4,h5,hx6⟩:=Ae hx3;refine T_x (Ar rfl (fun w1 hw1=>Nc (wu64 ((wu64 (w64 (-(w64 (p0+1)))))+1))  h5 w1) rfl ?_);rintro _ _ hlo ⟨A7,c8,e9,rfl,rfl,hs0,-⟩;have lo11:=hlo e9 (by simp);refine Ef ?_;refine T_x (Cf rfl (Kf _) rfl (fun g0=>?_));refine Ak (Bn rfl (Da _ _ _ _ _ _ _)) rfl ?_;refine T_h (Av rfl rfl rfl (.there (.there (.here))) (.put (.put (.put (.done)))) rfl (List.cons_ne_nil _ _) Bj.2 ?_);refine Y4 ?_;refine T_mr (enc:=Ad) (sz:=1) ([1]) (.here) rfl rfl (fun _=>rfl) (by show 1≤maxLen;decide) ?_
  have hn0:1=([1]).length:=by simp [Ca,Cl,List.length_append] <;> omega
  refine Hw (.here) (e':=.r (some ⟨g0,0,none⟩) (([1]).length) (1) 224 1 (([1]).flatMap Ad)) (by first | (rw [← hn0];done) | rfl) ?_;refine Hw (.there (.there (.here))) (e':=.m g1 163 [.bool (true),.slice (A7) (r4.length) (c8),.slice (some ⟨g0,0,none⟩) (([1]).length) (1)]) (by first | (rw [show (1)=([1]).length from (by simp [Ca,Cl,List.length_append] <;> omega)];done) | rfl) ?_;obtain rfl:=Option.some.inj hx6;exact Bz (rs:=[.cell 2 163]) Tryz.results189 (.cell rfl (i:=2) rfl rfl Bj (.nil)) (Ln:=[.r (some ⟨g0,0,none⟩) (([1]).length) (1) 224 1 (([1]).flatMap Ad),e9]) ⟨A7,c8,(some ⟨g0,0,none⟩),1,e9,rfl,rfl,Has.len' hs0,trivial⟩ (Ag rfl (Ag lo11 (Bp))) (by exact .pick 0 rfl (.pick 0 rfl (.drop 0 rfl (.refl))))
 ·refine Y6 ?_;refine Ak (Ga rfl (by kernel_rfl) Tryz.underlying246) rfl ?_;obtain ⟨r0,h0,hx1⟩:=Ae hx0;refine T_x (Ar rfl (fun w1 hw1=>Nc (wu64 (p0))  h0 w1) rfl ?_);rintro _ _ hlo ⟨A1,c1,e1,rfl,rfl,hs1,-⟩;have lo22:=hlo e1 (by simp);refine Ef ?_;refine T_x (Cf rfl (Kf _) rfl (fun g2=>?_));refine Ak (Bn rfl (Da _ _ _ _ _ _ _)) rfl ?_;refine T_h (Av rfl rfl rfl (.there (.there (.here))) (.put (.put (.put (.done)))) rfl (List.cons_ne_nil _ _) Bj.2 ?_);refine Y3 ?_;refine T_mr (enc:=Ad) (sz:=1) ([1]) (.here) rfl rfl (fun _=>rfl) (by show 1≤maxLen;decide) ?_
  have hn1:1=([1]).length:=by simp [Ca,Cl,List.length_append] <;> omega
  refine Hw (.here) (e':=.r (some ⟨g2,0,none⟩) (([1]).length) (1) 224 1 (([1]).flatMap Ad)) (by first | (rw [← hn1];done) | rfl) ?_;refine Hw (.there (.there (.here))) (e':=.m g1 163 [.bool (false),.slice (A1) (r0.length) (c1),.slice (some ⟨g2,0,none⟩) (([1]).length) (1)]) (by first | (rw [show (1)=([1]).length from (by simp [Ca,Cl,List.length_append] <;> omega)];done) | rfl) ?_;obtain rfl:=Option.some.inj hx1;exact Bz (rs:=[.cell 2 163]) Tryz.results189 (.cell rfl (i:=2) rfl rfl Bj (.nil)) (Ln:=[.r (some ⟨g2,0,none⟩) (([1]).length) (1) 224 1 (([1]).flatMap Ad),e1]) ⟨A1,c1,(some ⟨g2,0,none⟩),1,e1,rfl,rfl,Has.len' hs1,trivial⟩ (Ag rfl (Ag lo22 (Bp))) (by exact .pick 0 rfl (.pick 0 rfl (.drop 0 rfl (.refl))))
set_option maxRecDepth 100000 in
instance ratio_Int_c (p0:Int):ConB (Gj p0) Tryz.prog 189 (fun _ vs=>vs=[.int .i64 (p0)]) (fun K r=>fun v Ln=>∃ (A0:Option Addr) (c0:Nat) (A2:Option Addr) (c2:Nat) (e:Ent),v = .agg #[.bool (r.neg),.slice (A0) ((r.n).length) (c0),.slice (A2) ((r.d).length) (c2)]∧Ln=[e]∧Has (K++[e]) A0 (r.n).length c0 1 Ad (r.n)∧Has (K++[e]) A2 (r.d).length c2 1 Ad (r.d)∧True):=⟨by
 rintro K _ r rfl hx w hK;exact CtL.bunB (Adz p0 hx w) (by
  rintro _ _ w1 hw ⟨_,_,_,_,_,rfl,rfl,_,-⟩
  exact ⟨_,_,_,_,_,rfl,rfl,hZ hw,hZ hw,trivial⟩)⟩
set_option maxHeartbeats 1000000 in
set_option maxRecDepth 100000 in
instance exact_inside_c (p0:List Ac):Con (Le p0) Tryz.prog 243 (fun K vs=>∃ (A0_0:Option Addr) (c0_0:Nat),vs=[.slice (A0_0) ((p0).length) (c0_0)]∧Has K A0_0 (p0).length c0_0 2 Abd (p0)∧True) (fun _ r=>fun v Ln=>v = .bool (r)∧Ln=[]∧True):=⟨by
 rintro K _ r ⟨A0_0,c0_0,rfl,ha0,-⟩ hx w hK;replace ha0:=Has.lo ha0 hK;unfold Le at hx;refine CtS Tryz.ntmps243 Tryz.results243 ?_;refine pre ?_;intros;rename_i hx
 refine Gh ?_;refine pre ?_;intros;rename_i hx
 apply Jr (γ:=Unit) hx [] (fun s2 y2 f=>f) [999] (fun s2 y2 l=>l);exact kk
 ·intro s2 y2 hx;exact au
 ·intro _ hx;refine pre ?_;intros;rename_i hx
  apply Lr (γ:=Unit) hx [5,6] (fun s0 y0 f=>(7,.int .i64 (s0))::f) [999] (fun s0 y0 l=>l) ();exact kk;exact sk;intro s0 y0 x0 hx _;unfold Ie at hx
  refine pre ?_;intros;rename_i hx
  refine Cq1 (s:=8) hx rfl (fun _ hx=>?_) (fun _ hx=>?_)
  ·refine pre ?_;intros;rename_i hx
   apply Jr (γ:=Unit) hx [5,6,7] (fun s1 y1 f=>(28,.bool (s1))::f) [999] (fun s1 y1 l=>l);exact kk
   ·intro s1 y1 hx;exact au
   ·intro _ hx;exact au
  ·exact au⟩
set_option maxRecDepth 100000 in
instance exact_sign_int__c (p0:Int):Con (If p0) Tryz.prog 244 (fun _ vs=>vs=[.int .i64 (p0)]) (fun _ r=>fun v Ln=>v = .int .i64 (r)∧Ln=[]∧True):=⟨by
 rintro _ _ r rfl hx w hK;unfold If at hx;refine CtS Tryz.ntmps244 Tryz.results244 ?_;exact au⟩
set_option maxRecDepth 100000 in
instance exact_cross_c (p0:Ac) (p1:Ac) (p2:Ac):Con (Io p0 p1 p2) Tryz.prog 245 (fun _ vs=>vs=[.agg #[.int .i64 (p0.X),.int .i64 (p0.Y)],.agg #[.int .i64 (p1.X),.int .i64 (p1.Y)],.agg #[.int .i64 (p2.X),.int .i64 (p2.Y)]]) (fun _ r=>fun v Ln=>v = .int .i64 (r)∧Ln=[]∧True):=⟨by
 rintro _ _ r rfl hx w hK;unfold Io at hx;refine CtS Tryz.ntmps245 Tryz.results245 ?_;exact au⟩
set_option maxRecDepth 100000 in
instance exact_Turn_c (p0:Ac) (p1:Ac) (p2:Ac):Con (Mg p0 p1 p2) Tryz.prog 179 (fun _ vs=>vs=[.agg #[.int .i64 (p0.X),.int .i64 (p0.Y)],.agg #[.int .i64 (p1.X),.int .i64 (p1.Y)],.agg #[.int .i64 (p2.X),.int .i64 (p2.Y)]]) (fun _ r=>fun v Ln=>v = .tuple #[.int .i64 (r.1),.int .i64 (r.2)]∧Ln=[]∧True):=⟨by
 rintro _ _ r rfl hx w hK;unfold Mg at hx;refine CtS Tryz.ntmps179 Tryz.results179 ?_;exact au⟩
set_option maxRecDepth 100000 in
instance exact_lift_c (p0:Ac) (p1:Ac):Con (Mh p0 p1) Tryz.prog 262 (fun _ vs=>vs=[.agg #[.int .i64 (p0.X),.int .i64 (p0.Y)],.agg #[.int .i64 (p1.X),.int .i64 (p1.Y)]]) (fun _ r=>fun v Ln=>v = .int .i64 (r)∧Ln=[]∧True):=⟨by
 rintro _ _ r rfl hx w hK;unfold Mh at hx;have:=dl 1 [0,1,0,1,0,0,1,0,1,0,2,2] [0,1,2,3,4,5,6,7,8,9,10,11];refine CtS Tryz.ntmps262 Tryz.results262 ?_;exact au⟩
set_option maxHeartbeats 1000000 in
set_option maxRecDepth 100000 in
instance exact_Circle_c (p0:Ac) (p1:Ac) (p2:Ac) (p3:Ac):Con (Nb p0 p1 p2 p3) Tryz.prog 185 (fun _ vs=>vs=[.agg #[.int .i64 (p0.X),.int .i64 (p0.Y)],.agg #[.int .i64 (p1.X),.int .i64 (p1.Y)],.agg #[.int .i64 (p2.X),.int .i64 (p2.Y)],.agg #[.int .i64 (p3.X),.int .i64 (p3.Y)]]) (fun _ r=>fun v Ln=>v = .tuple #[.int .i64 (r.1),.int .i64 (r.2)]∧Ln=[]∧True):=⟨by
 rintro _ _ r rfl hx w hK;unfold Nb at hx;have:=dl 6 [1,1,2,2,1,1,1,2,2,2,4,3] [0,1,4,5,6,2,3,7,8,9,10,11] [10];have:=dl 7 [1,1,1,2,2,1,1,1,2,2,2,2,3] [0,1,2,5,6,7,3,4,8,9,10,11,12];have:=dl 8 [1,1,1,2,2,1,1,1,2,2,2,2,3] [0,1,2,5,6,7,3,4,8,9,10,11,12];refine CtS Tryz.ntmps185 Tryz.results185 ?_;refine pre ?_;intros;rename_i hx
 refine Cq4 (s:=18) hx rfl (fun _ hx=>?_) (fun _ hx=>?_)
 ·exact au
 ·refine pre ?_;intros;rename_i hx
  refine Cq1 (s:=25) hx rfl (fun _ hx=>?_) (fun _ hx=>?_)
  ·exact au
  ·exact au⟩
set_option maxRecDepth 100000 in
instance exact_Valid_c (p0:Be):Con (Qc p0) Tryz.prog 180 (fun _ vs=>vs=[.agg #[.int .i64 (p0.Lo),.int .i64 (p0.Hi)]]) (fun _ r=>fun v Ln=>v = .bool (r)∧Ln=[]∧True):=⟨by
 rintro _ _ r rfl hx w hK;unfold Qc at hx;refine CtS Tryz.ntmps180 Tryz.results180 ?_;exact au⟩
set_option maxRecDepth 100000 in
instance Ajq (p0:Ab):Con (Ej p0) Tryz.prog 101 (fun _ vs=>vs=[.agg #[.int .i64 (p0.X),.int .i64 (p0.Y),.int .i64 (p0.Z.Lo),.int .i64 (p0.Z.Hi)]]) (fun _ r=>fun v Ln=>v = .agg #[.int .i64 (r.X),.int .i64 (r.Y)]∧Ln=[]∧True):=⟨by
 rintro _ _ r rfl hx w hK;unfold Ej at hx;refine CtS Tryz.ntmps101 Tryz.results101 ?_;exact au⟩
theorem Mj (p0:Ab)  {r:Ac} (hx:Ej p0=some r) (w:World):CtL Tryz.prog 101 [.agg #[.int .i64 (p0.X),.int .i64 (p0.Y),.int .i64 (p0.Z.Lo),.int .i64 (p0.Z.Hi)]] w fun v Ln=>v = .agg #[.int .i64 (r.X),.int .i64 (r.Y)]∧Ln=[]∧True:=(Ajq p0).h [] _ _ rfl hx w (fun _ h=>absurd h List.not_mem_nil)
set_option maxRecDepth 100000 in
instance Ach (p0:Ac) (p1:Ac):Con (Gz p0 p1) Tryz.prog 113 (fun _ vs=>vs=[.agg #[.int .i64 (p0.X),.int .i64 (p0.Y)],.agg #[.int .i64 (p1.X),.int .i64 (p1.Y)]]) (fun _ r=>fun v Ln=>v = .bool (r)∧Ln=[]∧True):=⟨by
 rintro _ _ r rfl hx w hK;unfold Gz at hx;refine CtS Tryz.ntmps113 Tryz.results113 ?_;exact au⟩
theorem Tp (p0:Ac) (p1:Ac)  {r:Bool} (hx:Gz p0 p1=some r) (w:World):CtL Tryz.prog 113 [.agg #[.int .i64 (p0.X),.int .i64 (p0.Y)],.agg #[.int .i64 (p1.X),.int .i64 (p1.Y)]] w fun v Ln=>v = .bool (r)∧Ln=[]∧True:=(Ach p0 p1).h [] _ _ rfl hx w (fun _ h=>absurd h List.not_mem_nil)
set_option maxRecDepth 100000 in
instance Afr (p0:Ac) (p1:Ac) (p2:Ac):Con (Gk p0 p1 p2) Tryz.prog 107 (fun _ vs=>vs=[.agg #[.int .i64 (p0.X),.int .i64 (p0.Y)],.agg #[.int .i64 (p1.X),.int .i64 (p1.Y)],.agg #[.int .i64 (p2.X),.int .i64 (p2.Y)]]) (fun _ r=>fun v Ln=>v = .int .i64 (r)∧Ln=[]∧True):=⟨by
 rintro _ _ r rfl hx w hK;unfold Gk at hx;refine CtS Tryz.ntmps107 Tryz.results107 ?_;exact au⟩
theorem Lg (p0:Ac) (p1:Ac) (p2:Ac)  {r:Int} (hx:Gk p0 p1 p2=some r) (w:World):CtL Tryz.prog 107 [.agg #[.int .i64 (p0.X),.int .i64 (p0.Y)],.agg #[.int .i64 (p1.X),.int .i64 (p1.Y)],.agg #[.int .i64 (p2.X),.int .i64 (p2.Y)]] w fun v Ln=>v = .int .i64 (r)∧Ln=[]∧True:=(Afr p0 p1 p2).h [] _ _ rfl hx w (fun _ h=>absurd h List.not_mem_nil)
set_option maxHeartbeats 1000000 in
set_option maxRecDepth 100000 in
instance mesh_good_c (p0:Ab):Con (Rf p0) Tryz.prog 100 (fun _ vs=>vs=[.agg #[.int .i64 (p0.X),.int .i64 (p0.Y),.int .i64 (p0.Z.Lo),.int .i64 (p0.Z.Hi)]]) (fun _ r=>fun v Ln=>v = .bool (r)∧Ln=[]∧True):=⟨by
 rintro _ _ r rfl hx w hK;unfold Rf at hx;have:=dl 1 [1,2,1,2,1,2,2,0,0,0,2,2] [0,2,4,1,3,5,6,7,8,9,10,11];refine CtS Tryz.ntmps100 Tryz.results100 ?_;exact au⟩
set_option maxRecDepth 100000 in
instance Afs (p0:Int) (p1:Int):Con (Kg p0 p1) Tryz.prog 102 (fun _ vs=>vs=[.int .i64 (p0),.int .i64 (p1)]) (fun _ r=>fun v Ln=>v = .agg #[.int .i64 (r.a0),.int .i64 (r.a1)]∧Ln=[]∧True):=⟨by
 rintro _ _ r rfl hx w hK;unfold Kg at hx;refine CtS Tryz.ntmps102 Tryz.results102 ?_;exact au⟩
theorem Nd (p0:Int) (p1:Int)  {r:Aa} (hx:Kg p0 p1=some r) (w:World):CtL Tryz.prog 102 [.int .i64 (p0),.int .i64 (p1)] w fun v Ln=>v = .agg #[.int .i64 (r.a0),.int .i64 (r.a1)]∧Ln=[]∧True:=(Afs p0 p1).h [] _ _ rfl hx w (fun _ h=>absurd h List.not_mem_nil)
set_option maxRecDepth 100000 in
instance Ad0 (p0:Aa) (p1:Aa):Con (Pp p0 p1) Tryz.prog 106 (fun _ vs=>vs=[.agg #[.int .i64 (p0.a0),.int .i64 (p0.a1)],.agg #[.int .i64 (p1.a0),.int .i64 (p1.a1)]]) (fun _ r=>fun v Ln=>v = .int .i64 (r)∧Ln=[]∧True):=⟨by
 rintro _ _ r rfl hx w hK;unfold Pp at hx;refine CtS Tryz.ntmps106 Tryz.results106 ?_;exact au⟩
theorem Qo (p0:Aa) (p1:Aa)  {r:Int} (hx:Pp p0 p1=some r) (w:World):CtL Tryz.prog 106 [.agg #[.int .i64 (p0.a0),.int .i64 (p0.a1)],.agg #[.int .i64 (p1.a0),.int .i64 (p1.a1)]] w fun v Ln=>v = .int .i64 (r)∧Ln=[]∧True:=(Ad0 p0 p1).h [] _ _ rfl hx w (fun _ h=>absurd h List.not_mem_nil)
set_option maxHeartbeats 1000000 in
set_option maxRecDepth 100000 in
instance Ad1 (p0:Ac) (p1:Ac) (p2:Ac) (p3:Ac):Con (Mi p0 p1 p2 p3) Tryz.prog 116 (fun _ vs=>vs=[.agg #[.int .i64 (p0.X),.int .i64 (p0.Y)],.agg #[.int .i64 (p1.X),.int .i64 (p1.Y)],.agg #[.int .i64 (p2.X),.int .i64 (p2.Y)],.agg #[.int .i64 (p3.X),.int .i64 (p3.Y)]]) (fun _ r=>fun v Ln=>v = .bool (r)∧Ln=[]∧True):=⟨by
 rintro _ _ r rfl hx w hK;unfold Mi at hx;refine CtS Tryz.ntmps116 Tryz.results116 ?_;refine pre ?_;intros;rename_i hx
 refine Cq2 (s:=23) hx rfl (fun _ hx=>?_) (fun _ hx=>?_)
 ·exact au
 ·refine pre ?_;intros;rename_i hx
  refine Gh ?_;refine pre ?_;intros;rename_i hx
  apply Jr (γ:=(Nat)) hx [6,7] (fun s7 y7 f=>(11,.pointer (some ⟨y7,0,none⟩))::f) [1,2,999] (fun s7 y7 l=>.m y7 28 [.int .i64 (s7.1),.int .i64 (s7.2)]::l);exact kk
  ·intro s7 y7 hx;exact au
  ·intro _ hx;refine pre ?_;intros;rename_i hx
   apply Lr (γ:=(Nat)) hx [6,7,30] (fun s0 y0 f=>(11,.pointer (some ⟨y0,0,none⟩))::(31,.int .i64 (s0.2.2))::f) [1,2,999] (fun s0 y0 l=>.m y0 28 [.int .i64 (s0.1),.int .i64 (s0.2.1)]::l) _;exact kk;exact sk;intro s0 y0 x0 hx _;unfold Qn at hx
   exact au⟩
theorem Aci (p0:Ac) (p1:Ac) (p2:Ac) (p3:Ac)  {r:Bool} (hx:Mi p0 p1 p2 p3=some r) (w:World):CtL Tryz.prog 116 [.agg #[.int .i64 (p0.X),.int .i64 (p0.Y)],.agg #[.int .i64 (p1.X),.int .i64 (p1.Y)],.agg #[.int .i64 (p2.X),.int .i64 (p2.Y)],.agg #[.int .i64 (p3.X),.int .i64 (p3.Y)]] w fun v Ln=>v = .bool (r)∧Ln=[]∧True:=(Ad1 p0 p1 p2 p3).h [] _ _ rfl hx w (fun _ h=>absurd h List.not_mem_nil)
end Go.Proofs.YtbkobeeileemjaaGreat
