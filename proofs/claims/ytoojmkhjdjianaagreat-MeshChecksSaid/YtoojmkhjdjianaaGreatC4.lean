/- Walks of the program, with their plain functions: the functions of meshes as far as their check. -/
import Derived.Test.YtoojmkhjdjianaaGreatE3
namespace Go.Proofs.YtoojmkhjdjianaaGreat
open Go Go.RowKit
theorem Adk:Lg Tryz.prog 45 [.bool (false),.slice (none) (0) (0),.slice (none) (0) (0)]:=⟨_,Tryz.zeroValue45,rfl⟩
instance:Sr Tryz.prog 45 [.bool (false),.slice (none) (0) (0),.slice (none) (0) (0)]:=⟨Adk⟩
theorem Ym  : Hj Tryz.prog 45 [] [.bool (false),.slice (none) (0) (0),.slice (none) (0) (0)]:=fun w=>by kernel_rfl
instance:Lv Tryz.prog 45 [] [.bool (false),.slice (none) (0) (0),.slice (none) (0) (0)]:=⟨Ym⟩
theorem Tv:Nm Tryz.prog 45 3:=.mk Tryz.underlying45 rfl (show Tryz.prog.info? 45=some Tryz.t45 from by kernel_rfl) (by kernel_rfl)
instance:AggI Tryz.prog 45 3:=⟨Tv⟩
theorem Aww:Lg Tryz.prog 68 [.int .i64 (0),.int .i64 (0)]:=⟨_,Tryz.zeroValue68,rfl⟩
instance:Sr Tryz.prog 68 [.int .i64 (0),.int .i64 (0)]:=⟨Aww⟩
theorem Aur  : Hj Tryz.prog 68 [] [.int .i64 (0),.int .i64 (0)]:=fun w=>by kernel_rfl
instance:Lv Tryz.prog 68 [] [.int .i64 (0),.int .i64 (0)]:=⟨Aur⟩
noncomputable def Ql (p0:Ao) (p1:Ab):Option (Ao × Int) :=
 bnd (Db p0) fun r4 =>
 if r4=0 then (none)
 else (some ((⟨([]:List Ab),([]:List Ah),([]:List Aa)⟩:Ao),r4))
noncomputable def Qm (p0:Ao) (p1:Int):Option (Ao × Int) :=
 bnd (Db p0) fun r3 =>
 if r3=0 then (none)
 else (some ((⟨([]:List Ab),([]:List Ah),([]:List Aa)⟩:Ao),r3))
noncomputable def Rw (p0:Ao):Option ((List Aa) × Int) :=
 bnd (Db p0) fun r2 =>
 if r2=0 then (none)
 else (some (([]:List Aa),r2))
noncomputable def Qn (p0:Ao) (p1:Int):Option ((List Int) × Int) :=
 bnd (Db p0) fun r2 =>
 if r2=0 then (none)
 else (some (([]:List Int),r2))
noncomputable def Pz (p0:Ao) (p1:Ac):Option (Int × Int) :=
 bnd (Db p0) fun r3 =>
 if r3=0 then (none)
 else (some (0,r3))
noncomputable def Nb (p0:Ao) (p1:Ac):Option (Bt × Bt × Int) :=
 bnd (Pz p0 p1) fun r5 =>
 if r5.2=0 then (none)
 else (some ((⟨false,([]:List Int),([]:List Int)⟩:Bt),(⟨false,([]:List Int),([]:List Int)⟩:Bt),r5.2))
noncomputable def Qo (p0:Ao) (p1:Ac):Option (An × Int) :=
 bnd (Nb p0 p1) fun r4 =>
 if r4.2.2=0 then (none)
 else (some ((⟨0,0⟩:An),r4.2.2))
noncomputable def Tw (p0:Ao):Option (Int × Int) :=
 bnd (Db p0) fun r2 =>
 if r2=0 then (none)
 else (some (0,r2))
noncomputable def Ow (p0:Ao) (p1:Int):Option (Bt × Bt × Int) :=
 bnd (Db p0) fun r4 =>
 if r4=0 then (none)
 else (some ((⟨false,([]:List Int),([]:List Int)⟩:Bt),(⟨false,([]:List Int),([]:List Int)⟩:Bt),r4))
structure Abi where
 Yv:Bool
 Sides:List Aa
def encN {α:Type} (_:α):List Value:=[]
noncomputable def Oc (p0:Ao) (p1:Int) (p2:Bool):Option ((List Abi) × Int) :=
 bnd (Db p0) fun r2 =>
 if r2=0 then (none)
 else (some (([]:List Abi),r2))
noncomputable def Mi (p0:Ao) (p1:Aa) (p2:Int) (p3:Bool):Option (Bt × Bt × Int) :=
 bnd (Db p0) fun r5 =>
 if r5=0 then (none)
 else (some ((⟨false,([]:List Int),([]:List Int)⟩:Bt),(⟨false,([]:List Int),([]:List Int)⟩:Bt),r5))
noncomputable def Pf (p0:Ao) (p1:Ac) (p2:Ac):Option ((List Acd) × Int) :=
 bnd (Db p0) fun r4 =>
 if r4=0 then (none)
 else (some (([]:List Acd),r4))
noncomputable def Im (p0:Ao):Option Int :=
 bnd (Cg p0.V p0.Lines) fun r2 =>
 jn (fun (s4:Bool) =>
 if s4=true then (some 64)
 else (some 0))
 (fun j4=>if r2.2=0 then (bnd (Cj p0 r2.1) fun r0 =>
 j4 (!(r0)))
 else (j4 true))
set_option maxRecDepth 100000 in
instance mesh_Insert_c (p0:Ao) (p1:Ab):Con (Ql p0 p1) Tryz.prog 39 (fun K vs=>∃ (A0_0:Option Addr) (c0_0:Nat) (A0_1:Option Addr) (c0_1:Nat) (A0_2:Option Addr) (c0_2:Nat),vs=[.agg #[.slice (A0_0) ((p0.V).length) (c0_0),.slice (A0_1) ((p0.T).length) (c0_1),.slice (A0_2) ((p0.Lines).length) (c0_2)],.agg #[.int .i64 (p1.X),.int .i64 (p1.Y),.int .i64 (p1.Z.Lo),.int .i64 (p1.Z.Hi)]]/\Has K A0_0 (p0.V).length c0_0 4 Af (p0.V)/\Has K A0_1 (p0.T).length c0_1 3 Aq (p0.T)/\Has K A0_2 (p0.Lines).length c0_2 2 Ai (p0.Lines)/\True) (fun _ r=>fun v Ln=>∃ (A0:Option Addr) (c0:Nat) (A2:Option Addr) (c2:Nat) (A4:Option Addr) (c4:Nat),v = .tuple #[.agg #[.slice (A0) ((r.1.V).length) (c0),.slice (A2) ((r.1.T).length) (c2),.slice (A4) ((r.1.Lines).length) (c4)],.int .i64 (r.2)]/\Ln=[.r A0 (r.1.V).length c0 70 4 ((r.1.V).flatMap Af),.r A2 (r.1.T).length c2 94 3 ((r.1.T).flatMap Aq),.r A4 (r.1.Lines).length c4 62 2 ((r.1.Lines).flatMap Ai)]/\True):=⟨by
 rintro K _ r ⟨A0_0,c0_0,A0_1,c0_1,A0_2,c0_2,rfl,ha0,ha1,ha2,-⟩ hx w hK;replace ha0:=Has.lo ha0 hK;replace ha1:=Has.lo ha1 hK;replace ha2:=Has.lo ha2 hK;unfold Ql at hx;refine CtS Tryz.ntmps39 Tryz.results39 ?_;exact au⟩
set_option maxRecDepth 100000 in
instance mesh_Remove_c (p0:Ao) (p1:Int):Con (Qm p0 p1) Tryz.prog 40 (fun K vs=>∃ (A0_0:Option Addr) (c0_0:Nat) (A0_1:Option Addr) (c0_1:Nat) (A0_2:Option Addr) (c0_2:Nat),vs=[.agg #[.slice (A0_0) ((p0.V).length) (c0_0),.slice (A0_1) ((p0.T).length) (c0_1),.slice (A0_2) ((p0.Lines).length) (c0_2)],.int .i64 (p1)]/\Has K A0_0 (p0.V).length c0_0 4 Af (p0.V)/\Has K A0_1 (p0.T).length c0_1 3 Aq (p0.T)/\Has K A0_2 (p0.Lines).length c0_2 2 Ai (p0.Lines)/\True) (fun _ r=>fun v Ln=>∃ (A0:Option Addr) (c0:Nat) (A2:Option Addr) (c2:Nat) (A4:Option Addr) (c4:Nat),v = .tuple #[.agg #[.slice (A0) ((r.1.V).length) (c0),.slice (A2) ((r.1.T).length) (c2),.slice (A4) ((r.1.Lines).length) (c4)],.int .i64 (r.2)]/\Ln=[.r A0 (r.1.V).length c0 70 4 ((r.1.V).flatMap Af),.r A2 (r.1.T).length c2 94 3 ((r.1.T).flatMap Aq),.r A4 (r.1.Lines).length c4 62 2 ((r.1.Lines).flatMap Ai)]/\True):=⟨by
 rintro K _ r ⟨A0_0,c0_0,A0_1,c0_1,A0_2,c0_2,rfl,ha0,ha1,ha2,-⟩ hx w hK;replace ha0:=Has.lo ha0 hK;replace ha1:=Has.lo ha1 hK;replace ha2:=Has.lo ha2 hK;unfold Qm at hx;refine CtS Tryz.ntmps40 Tryz.results40 ?_;exact au⟩
set_option maxRecDepth 100000 in
instance mesh_Sides_c (p0:Ao):Con (Rw p0) Tryz.prog 31 (fun K vs=>∃ (A0_0:Option Addr) (c0_0:Nat) (A0_1:Option Addr) (c0_1:Nat) (A0_2:Option Addr) (c0_2:Nat),vs=[.agg #[.slice (A0_0) ((p0.V).length) (c0_0),.slice (A0_1) ((p0.T).length) (c0_1),.slice (A0_2) ((p0.Lines).length) (c0_2)]]/\Has K A0_0 (p0.V).length c0_0 4 Af (p0.V)/\Has K A0_1 (p0.T).length c0_1 3 Aq (p0.T)/\Has K A0_2 (p0.Lines).length c0_2 2 Ai (p0.Lines)/\True) (fun _ r=>fun v Ln=>∃ (A0:Option Addr) (c0:Nat),v = .tuple #[.slice (A0) ((r.1).length) (c0),.int .i64 (r.2)]/\Ln=[.r A0 (r.1).length c0 62 2 ((r.1).flatMap Ai)]/\True):=⟨by
 rintro K _ r ⟨A0_0,c0_0,A0_1,c0_1,A0_2,c0_2,rfl,ha0,ha1,ha2,-⟩ hx w hK;replace ha0:=Has.lo ha0 hK;replace ha1:=Has.lo ha1 hK;replace ha2:=Has.lo ha2 hK;unfold Rw at hx;refine CtS Tryz.ntmps31 Tryz.results31 ?_;exact au⟩
set_option maxRecDepth 100000 in
instance mesh_Around_c (p0:Ao) (p1:Int):Con (Qn p0 p1) Tryz.prog 32 (fun K vs=>∃ (A0_0:Option Addr) (c0_0:Nat) (A0_1:Option Addr) (c0_1:Nat) (A0_2:Option Addr) (c0_2:Nat),vs=[.agg #[.slice (A0_0) ((p0.V).length) (c0_0),.slice (A0_1) ((p0.T).length) (c0_1),.slice (A0_2) ((p0.Lines).length) (c0_2)],.int .i64 (p1)]/\Has K A0_0 (p0.V).length c0_0 4 Af (p0.V)/\Has K A0_1 (p0.T).length c0_1 3 Aq (p0.T)/\Has K A0_2 (p0.Lines).length c0_2 2 Ai (p0.Lines)/\True) (fun _ r=>fun v Ln=>∃ (A0:Option Addr) (c0:Nat),v = .tuple #[.slice (A0) ((r.1).length) (c0),.int .i64 (r.2)]/\Ln=[.r A0 (r.1).length c0 3 1 ((r.1).flatMap Ar)]/\True):=⟨by
 rintro K _ r ⟨A0_0,c0_0,A0_1,c0_1,A0_2,c0_2,rfl,ha0,ha1,ha2,-⟩ hx w hK;replace ha0:=Has.lo ha0 hK;replace ha1:=Has.lo ha1 hK;replace ha2:=Has.lo ha2 hK;unfold Qn at hx;refine CtS Tryz.ntmps32 Tryz.results32 ?_;exact au⟩
set_option maxRecDepth 100000 in
instance Ah0 (p0:Ao) (p1:Ac):Con (Pz p0 p1) Tryz.prog 25 (fun K vs=>∃ (A0_0:Option Addr) (c0_0:Nat) (A0_1:Option Addr) (c0_1:Nat) (A0_2:Option Addr) (c0_2:Nat),vs=[.agg #[.slice (A0_0) ((p0.V).length) (c0_0),.slice (A0_1) ((p0.T).length) (c0_1),.slice (A0_2) ((p0.Lines).length) (c0_2)],.agg #[.int .i64 (p1.X),.int .i64 (p1.Y)]]/\Has K A0_0 (p0.V).length c0_0 4 Af (p0.V)/\Has K A0_1 (p0.T).length c0_1 3 Aq (p0.T)/\Has K A0_2 (p0.Lines).length c0_2 2 Ai (p0.Lines)/\True) (fun _ r=>fun v Ln=>v = .tuple #[.int .i64 (r.1),.int .i64 (r.2)]/\Ln=[]/\True):=⟨by
 rintro K _ r ⟨A0_0,c0_0,A0_1,c0_1,A0_2,c0_2,rfl,ha0,ha1,ha2,-⟩ hx w hK;replace ha0:=Has.lo ha0 hK;replace ha1:=Has.lo ha1 hK;replace ha2:=Has.lo ha2 hK;unfold Pz at hx;refine CtS Tryz.ntmps25 Tryz.results25 ?_;exact au⟩
theorem Agk (p0:Ao) (p1:Ac) {K:List Ent} {A0_0:Option Addr} {c0_0:Nat} {A0_1:Option Addr} {c0_1:Nat} {A0_2:Option Addr} {c0_2:Nat} (ha0:Has K A0_0 (p0.V).length c0_0 4 Af (p0.V)) (ha1:Has K A0_1 (p0.T).length c0_1 3 Aq (p0.T)) (ha2:Has K A0_2 (p0.Lines).length c0_2 2 Ai (p0.Lines)) {r:Int × Int} (hx:Pz p0 p1=some r) (w:World) (hK:∀ e∈K,Ent.ok w e):CtL Tryz.prog 25 [.agg #[.slice (A0_0) ((p0.V).length) (c0_0),.slice (A0_1) ((p0.T).length) (c0_1),.slice (A0_2) ((p0.Lines).length) (c0_2)],.agg #[.int .i64 (p1.X),.int .i64 (p1.Y)]] w fun v Ln=>v = .tuple #[.int .i64 (r.1),.int .i64 (r.2)]/\Ln=[]/\True:=(Ah0 p0 p1).h K _ _ ⟨_,_,_,_,_,_,rfl,ha0,ha1,ha2,trivial⟩ hx w hK
set_option maxRecDepth 100000 in
theorem Adl (p0:Ao) (p1:Ac) {K:List Ent} {A0_0:Option Addr} {c0_0:Nat} {A0_1:Option Addr} {c0_1:Nat} {A0_2:Option Addr} {c0_2:Nat} (ha0:Has K A0_0 p0.V.length c0_0 4 Af (p0.V)) (ha1:Has K A0_1 p0.T.length c0_1 3 Aq (p0.T)) (ha2:Has K A0_2 p0.Lines.length c0_2 2 Ai (p0.Lines)) {r:Bt × Bt × Int} (hx:Nb p0 p1=some r) (w:World) (hK:∀ e∈K,Ent.ok w e):CtL Tryz.prog 27 [.agg #[.slice (A0_0) (p0.V.length) (c0_0),.slice (A0_1) (p0.T.length) (c0_1),.slice (A0_2) (p0.Lines.length) (c0_2)],.agg #[.int .i64 (p1.X),.int .i64 (p1.Y)]] w fun v Ln=>∃ (A0:Option Addr) (c0:Nat) (A2:Option Addr) (c2:Nat) (A4:Option Addr) (c4:Nat) (A6:Option Addr) (c6:Nat),v = .tuple #[.agg #[.bool (r.1.Neg),.slice (A0) (r.1.Num.length) (c0),.slice (A2) (r.1.Den.length) (c2)],.agg #[.bool (r.2.1.Neg),.slice (A4) (r.2.1.Num.length) (c4),.slice (A6) (r.2.1.Den.length) (c6)],.int .i64 (r.2.2)]/\Ln=[.r A0 r.1.Num.length c0 245 1 (r.1.Num.flatMap Bi),.r A2 r.1.Den.length c2 245 1 (r.1.Den.flatMap Bi),.r A4 r.2.1.Num.length c4 245 1 (r.2.1.Num.flatMap Bi),.r A6 r.2.1.Den.length c6 245 1 (r.2.1.Den.flatMap Bi)]/\True:=by
 have ha0':=Has.up0 ha0;have ha1':=Has.up0 ha1;have ha2':=Has.up0 ha2;refine CtL.mk 44 Tryz.func27 rfl Tryz.ntmps27 (by kernel_rfl) rfl ?_;show T 44 _ [(0,.agg #[.slice (A0_0) (p0.V.length) (c0_0),.slice (A0_1) (p0.T.length) (c0_1),.slice (A0_2) (p0.Lines.length) (c0_2)]),(1,.agg #[.int .i64 (p1.X),.int .i64 (p1.Y)])] _;unfold Nb at hx;refine Y2 ?_;refine T_x (Py rfl rfl rfl (fun g1=>?_));refine T_x (Py rfl rfl rfl (fun g2=>?_));refine T_x (Is Adk rfl (fun g3=>?_));refine T_x (Is Adk rfl (fun g4=>?_));refine Y5 ?_;refine Aw (Jv rfl (i:=3) rfl rfl Alk) rfl ?_;refine Aw (Jv rfl (i:=2) rfl rfl Ati) rfl ?_;obtain ⟨r5,h6,hx7⟩:=Aj hx;refine Tc (fun w1 hw1=>Agk p0 p1 (Has.len' ha0') (Has.len' ha1') (Has.len' ha2') h6 w1 (Sp (K:=K) (K2:=[]) hK (by exact (sb 4)) (by exact (SubE.nil)) hw1)) ?_;(iterate 14 refine Y ?_);refine Ty (s:=19) rfl (fun h8=>?_) (fun h8=>?_)
 ·have hx9:=Sq h8 hx7;refine Y3 ?_;refine Aw (Dy rfl (Ym)) rfl ?_;refine Aw (Dy rfl (Ym)) rfl ?_;refine Y ?_;refine T_h (Gb rfl rfl rfl (.there (.here)) (.put (.put (.put (.done)))) rfl (List.cons_ne_nil _ _) Tv.2 ?_);refine T_h (Gb rfl rfl rfl (.here) (.put (.put (.put (.done)))) rfl (List.cons_ne_nil _ _) Tv.2 ?_);refine Y5 ?_;refine Az 245 1 ?_;refine Az 245 1 ?_;refine Az 245 1 ?_;refine Az 245 1 ?_;obtain rfl:=Option.some.inj hx9;exact Gp (rs:=[.cell 4 45,.cell 5 45,.tmp 6]) Tryz.results27 (.cell rfl (i:=5) rfl rfl Tv (.cell rfl (i:=4) rfl rfl Tv (.tmp rfl (.nil)))) (Ln:=[.r (none) (0) (0) 245 1 ((([]:List Int)).flatMap Bi),.r (none) (0) (0) 245 1 ((([]:List Int)).flatMap Bi),.r (none) (0) (0) 245 1 ((([]:List Int)).flatMap Bi),.r (none) (0) (0) 245 1 ((([]:List Int)).flatMap Bi)]) ⟨none,0,none,0,none,0,none,0,rfl,rfl,trivial⟩ (By rfl (By rfl (By rfl (By rfl (Gc))))) (by exact .pick 3 rfl (.pick 2 rfl (.pick 1 rfl (.pick 0 rfl (.drop 0 rfl (.drop 0 rfl (.drop 0 rfl (.drop 0 rfl (.refl)))))))))
 ·have hx0:=Hd h8 hx7;refine Y4 ?_;exact So hx0
set_option maxRecDepth 100000 in
instance mesh_Height_c (p0:Ao) (p1:Ac):Con (Nb p0 p1) Tryz.prog 27 (fun K vs=>∃ (A0_0:Option Addr) (c0_0:Nat) (A0_1:Option Addr) (c0_1:Nat) (A0_2:Option Addr) (c0_2:Nat),vs=[.agg #[.slice (A0_0) ((p0.V).length) (c0_0),.slice (A0_1) ((p0.T).length) (c0_1),.slice (A0_2) ((p0.Lines).length) (c0_2)],.agg #[.int .i64 (p1.X),.int .i64 (p1.Y)]]/\Has K A0_0 (p0.V).length c0_0 4 Af (p0.V)/\Has K A0_1 (p0.T).length c0_1 3 Aq (p0.T)/\Has K A0_2 (p0.Lines).length c0_2 2 Ai (p0.Lines)/\True) (fun _ r=>fun v Ln=>∃ (A0:Option Addr) (c0:Nat) (A2:Option Addr) (c2:Nat) (A4:Option Addr) (c4:Nat) (A6:Option Addr) (c6:Nat),v = .tuple #[.agg #[.bool (r.1.Neg),.slice (A0) ((r.1.Num).length) (c0),.slice (A2) ((r.1.Den).length) (c2)],.agg #[.bool (r.2.1.Neg),.slice (A4) ((r.2.1.Num).length) (c4),.slice (A6) ((r.2.1.Den).length) (c6)],.int .i64 (r.2.2)]/\Ln=[.r A0 (r.1.Num).length c0 245 1 ((r.1.Num).flatMap Bi),.r A2 (r.1.Den).length c2 245 1 ((r.1.Den).flatMap Bi),.r A4 (r.2.1.Num).length c4 245 1 ((r.2.1.Num).flatMap Bi),.r A6 (r.2.1.Den).length c6 245 1 ((r.2.1.Den).flatMap Bi)]/\True):=⟨by
 rintro K _ r ⟨A0_0,c0_0,A0_1,c0_1,A0_2,c0_2,rfl,ha0,ha1,ha2,-⟩ hx w hK;exact Adl p0 p1 ha0 ha1 ha2 hx w hK⟩
set_option maxRecDepth 100000 in
instance mesh_Bounds_c (p0:Ao) (p1:Ac):Con (Qo p0 p1) Tryz.prog 28 (fun K vs=>∃ (A0_0:Option Addr) (c0_0:Nat) (A0_1:Option Addr) (c0_1:Nat) (A0_2:Option Addr) (c0_2:Nat),vs=[.agg #[.slice (A0_0) ((p0.V).length) (c0_0),.slice (A0_1) ((p0.T).length) (c0_1),.slice (A0_2) ((p0.Lines).length) (c0_2)],.agg #[.int .i64 (p1.X),.int .i64 (p1.Y)]]/\Has K A0_0 (p0.V).length c0_0 4 Af (p0.V)/\Has K A0_1 (p0.T).length c0_1 3 Aq (p0.T)/\Has K A0_2 (p0.Lines).length c0_2 2 Ai (p0.Lines)/\True) (fun _ r=>fun v Ln=>v = .tuple #[.agg #[.int .i64 (r.1.Lo),.int .i64 (r.1.Hi)],.int .i64 (r.2)]/\Ln=[]/\True):=⟨by
 rintro K _ r ⟨A0_0,c0_0,A0_1,c0_1,A0_2,c0_2,rfl,ha0,ha1,ha2,-⟩ hx w hK;replace ha0:=Has.lo ha0 hK;replace ha1:=Has.lo ha1 hK;replace ha2:=Has.lo ha2 hK;unfold Qo at hx;refine CtS Tryz.ntmps28 Tryz.results28 ?_;exact au⟩
set_option maxRecDepth 100000 in
instance mesh_Area_c (p0:Ao):Con (Tw p0) Tryz.prog 19 (fun K vs=>∃ (A0_0:Option Addr) (c0_0:Nat) (A0_1:Option Addr) (c0_1:Nat) (A0_2:Option Addr) (c0_2:Nat),vs=[.agg #[.slice (A0_0) ((p0.V).length) (c0_0),.slice (A0_1) ((p0.T).length) (c0_1),.slice (A0_2) ((p0.Lines).length) (c0_2)]]/\Has K A0_0 (p0.V).length c0_0 4 Af (p0.V)/\Has K A0_1 (p0.T).length c0_1 3 Aq (p0.T)/\Has K A0_2 (p0.Lines).length c0_2 2 Ai (p0.Lines)/\True) (fun _ r=>fun v Ln=>v = .tuple #[.int .i64 (r.1),.int .i64 (r.2)]/\Ln=[]/\True):=⟨by
 rintro K _ r ⟨A0_0,c0_0,A0_1,c0_1,A0_2,c0_2,rfl,ha0,ha1,ha2,-⟩ hx w hK;replace ha0:=Has.lo ha0 hK;replace ha1:=Has.lo ha1 hK;replace ha2:=Has.lo ha2 hK;unfold Tw at hx;refine CtS Tryz.ntmps19 Tryz.results19 ?_;exact au⟩
set_option maxRecDepth 100000 in
theorem Adm (p0:Ao) (p1:Int) {K:List Ent} {A0_0:Option Addr} {c0_0:Nat} {A0_1:Option Addr} {c0_1:Nat} {A0_2:Option Addr} {c0_2:Nat} (ha0:Has K A0_0 p0.V.length c0_0 4 Af (p0.V)) (ha1:Has K A0_1 p0.T.length c0_1 3 Aq (p0.T)) (ha2:Has K A0_2 p0.Lines.length c0_2 2 Ai (p0.Lines)) {r:Bt × Bt × Int} (hx:Ow p0 p1=some r) (w:World) (hK:∀ e∈K,Ent.ok w e):CtL Tryz.prog 15 [.agg #[.slice (A0_0) (p0.V.length) (c0_0),.slice (A0_1) (p0.T.length) (c0_1),.slice (A0_2) (p0.Lines.length) (c0_2)],.int .i64 (p1)] w fun v Ln=>∃ (A0:Option Addr) (c0:Nat) (A2:Option Addr) (c2:Nat) (A4:Option Addr) (c4:Nat) (A6:Option Addr) (c6:Nat),v = .tuple #[.agg #[.bool (r.1.Neg),.slice (A0) (r.1.Num.length) (c0),.slice (A2) (r.1.Den.length) (c2)],.agg #[.bool (r.2.1.Neg),.slice (A4) (r.2.1.Num.length) (c4),.slice (A6) (r.2.1.Den.length) (c6)],.int .i64 (r.2.2)]/\Ln=[.r A0 r.1.Num.length c0 245 1 (r.1.Num.flatMap Bi),.r A2 r.1.Den.length c2 245 1 (r.1.Den.flatMap Bi),.r A4 r.2.1.Num.length c4 245 1 (r.2.1.Num.flatMap Bi),.r A6 r.2.1.Den.length c6 245 1 (r.2.1.Den.flatMap Bi)]/\True:=by
 have ha0':=Has.up0 ha0;have ha1':=Has.up0 ha1;have ha2':=Has.up0 ha2;refine CtL.mk 110 Tryz.func15 rfl Tryz.ntmps15 (by kernel_rfl) rfl ?_;show T 110 _ [(0,.agg #[.slice (A0_0) (p0.V.length) (c0_0),.slice (A0_1) (p0.T.length) (c0_1),.slice (A0_2) (p0.Lines.length) (c0_2)]),(1,.int .i64 (p1))] _;unfold Ow at hx;refine Y2 ?_;refine T_x (Py rfl rfl rfl (fun g1=>?_));refine T_x (Is Adk rfl (fun g2=>?_));refine T_x (Is Adk rfl (fun g3=>?_));refine Y6 ?_;refine Aw (Jv rfl (i:=2) rfl rfl Alk) rfl ?_;obtain ⟨r4,h5,hx6⟩:=Aj hx;refine Tc (fun w1 hw1=>Xp p0 (Has.len' ha0') (Has.len' ha1') (Has.len' ha2') h5 w1 (Sp (K:=K) (K2:=[]) hK (by exact (sb 3)) (by exact (SubE.nil)) hw1)) ?_;refine Y9 ?_;refine Ty (s:=19) rfl (fun h7=>?_) (fun h7=>?_)
 ·have hx8:=Sq h7 hx6;refine Y3 ?_;refine Aw (Dy rfl (Ym)) rfl ?_;refine Aw (Dy rfl (Ym)) rfl ?_;refine Y ?_;refine T_h (Gb rfl rfl rfl (.there (.here)) (.put (.put (.put (.done)))) rfl (List.cons_ne_nil _ _) Tv.2 ?_);refine T_h (Gb rfl rfl rfl (.here) (.put (.put (.put (.done)))) rfl (List.cons_ne_nil _ _) Tv.2 ?_);refine Y5 ?_;refine Az 245 1 ?_;refine Az 245 1 ?_;refine Az 245 1 ?_;refine Az 245 1 ?_;obtain rfl:=Option.some.inj hx8;exact Gp (rs:=[.cell 4 45,.cell 5 45,.tmp 6]) Tryz.results15 (.cell rfl (i:=5) rfl rfl Tv (.cell rfl (i:=4) rfl rfl Tv (.tmp rfl (.nil)))) (Ln:=[.r (none) (0) (0) 245 1 ((([]:List Int)).flatMap Bi),.r (none) (0) (0) 245 1 ((([]:List Int)).flatMap Bi),.r (none) (0) (0) 245 1 ((([]:List Int)).flatMap Bi),.r (none) (0) (0) 245 1 ((([]:List Int)).flatMap Bi)]) ⟨none,0,none,0,none,0,none,0,rfl,rfl,trivial⟩ (By rfl (By rfl (By rfl (By rfl (Gc))))) (by exact .pick 3 rfl (.pick 2 rfl (.pick 1 rfl (.pick 0 rfl (.drop 0 rfl (.drop 0 rfl (.drop 0 rfl (.refl))))))))
 ·have hx9:=Hd h7 hx6;refine Y6 ?_;exact So hx9
set_option maxRecDepth 100000 in
instance mesh_Volume_c (p0:Ao) (p1:Int):Con (Ow p0 p1) Tryz.prog 15 (fun K vs=>∃ (A0_0:Option Addr) (c0_0:Nat) (A0_1:Option Addr) (c0_1:Nat) (A0_2:Option Addr) (c0_2:Nat),vs=[.agg #[.slice (A0_0) ((p0.V).length) (c0_0),.slice (A0_1) ((p0.T).length) (c0_1),.slice (A0_2) ((p0.Lines).length) (c0_2)],.int .i64 (p1)]/\Has K A0_0 (p0.V).length c0_0 4 Af (p0.V)/\Has K A0_1 (p0.T).length c0_1 3 Aq (p0.T)/\Has K A0_2 (p0.Lines).length c0_2 2 Ai (p0.Lines)/\True) (fun _ r=>fun v Ln=>∃ (A0:Option Addr) (c0:Nat) (A2:Option Addr) (c2:Nat) (A4:Option Addr) (c4:Nat) (A6:Option Addr) (c6:Nat),v = .tuple #[.agg #[.bool (r.1.Neg),.slice (A0) ((r.1.Num).length) (c0),.slice (A2) ((r.1.Den).length) (c2)],.agg #[.bool (r.2.1.Neg),.slice (A4) ((r.2.1.Num).length) (c4),.slice (A6) ((r.2.1.Den).length) (c6)],.int .i64 (r.2.2)]/\Ln=[.r A0 (r.1.Num).length c0 245 1 ((r.1.Num).flatMap Bi),.r A2 (r.1.Den).length c2 245 1 ((r.1.Den).flatMap Bi),.r A4 (r.2.1.Num).length c4 245 1 ((r.2.1.Num).flatMap Bi),.r A6 (r.2.1.Den).length c6 245 1 ((r.2.1.Den).flatMap Bi)]/\True):=⟨by
 rintro K _ r ⟨A0_0,c0_0,A0_1,c0_1,A0_2,c0_2,rfl,ha0,ha1,ha2,-⟩ hx w hK;exact Adm p0 p1 ha0 ha1 ha2 hx w hK⟩
set_option maxRecDepth 100000 in
instance mesh_Contours_c (p0:Ao) (p1:Int) (p2:Bool):Con (Oc p0 p1 p2) Tryz.prog 12 (fun K vs=>∃ (A0_0:Option Addr) (c0_0:Nat) (A0_1:Option Addr) (c0_1:Nat) (A0_2:Option Addr) (c0_2:Nat),vs=[.agg #[.slice (A0_0) ((p0.V).length) (c0_0),.slice (A0_1) ((p0.T).length) (c0_1),.slice (A0_2) ((p0.Lines).length) (c0_2)],.int .i64 (p1),.bool (p2)]/\Has K A0_0 (p0.V).length c0_0 4 Af (p0.V)/\Has K A0_1 (p0.T).length c0_1 3 Aq (p0.T)/\Has K A0_2 (p0.Lines).length c0_2 2 Ai (p0.Lines)/\True) (fun _ r=>fun v Ln=>∃ (A0:Option Addr) (c0:Nat),v = .tuple #[.slice (A0) ((r.1).length) (c0),.int .i64 (r.2)]/\Ln=[.r A0 (r.1).length c0 40 2 ((r.1).flatMap encN)]/\True):=⟨by
 rintro K _ r ⟨A0_0,c0_0,A0_1,c0_1,A0_2,c0_2,rfl,ha0,ha1,ha2,-⟩ hx w hK;replace ha0:=Has.lo ha0 hK;replace ha1:=Has.lo ha1 hK;replace ha2:=Has.lo ha2 hK;unfold Oc at hx;refine CtS Tryz.ntmps12 Tryz.results12 ?_;exact au⟩
set_option maxRecDepth 100000 in
theorem Aav (p0:Ao) (p1:Aa) (p2:Int) (p3:Bool) {K:List Ent} {A0_0:Option Addr} {c0_0:Nat} {A0_1:Option Addr} {c0_1:Nat} {A0_2:Option Addr} {c0_2:Nat} (ha0:Has K A0_0 p0.V.length c0_0 4 Af (p0.V)) (ha1:Has K A0_1 p0.T.length c0_1 3 Aq (p0.T)) (ha2:Has K A0_2 p0.Lines.length c0_2 2 Ai (p0.Lines)) {r:Bt × Bt × Int} (hx:Mi p0 p1 p2 p3=some r) (w:World) (hK:∀ e∈K,Ent.ok w e):CtL Tryz.prog 42 [.agg #[.slice (A0_0) (p0.V.length) (c0_0),.slice (A0_1) (p0.T.length) (c0_1),.slice (A0_2) (p0.Lines.length) (c0_2)],.agg #[.int .i64 (p1.a0),.int .i64 (p1.a1)],.int .i64 (p2),.bool (p3)] w fun v Ln=>∃ (A0:Option Addr) (c0:Nat) (A2:Option Addr) (c2:Nat) (A4:Option Addr) (c4:Nat) (A6:Option Addr) (c6:Nat),v = .tuple #[.agg #[.bool (r.1.Neg),.slice (A0) (r.1.Num.length) (c0),.slice (A2) (r.1.Den.length) (c2)],.agg #[.bool (r.2.1.Neg),.slice (A4) (r.2.1.Num.length) (c4),.slice (A6) (r.2.1.Den.length) (c6)],.int .i64 (r.2.2)]/\Ln=[.r A0 r.1.Num.length c0 245 1 (r.1.Num.flatMap Bi),.r A2 r.1.Den.length c2 245 1 (r.1.Den.flatMap Bi),.r A4 r.2.1.Num.length c4 245 1 (r.2.1.Num.flatMap Bi),.r A6 r.2.1.Den.length c6 245 1 (r.2.1.Den.flatMap Bi)]/\True:=by
 have ha0':=Has.up0 ha0;have ha1':=Has.up0 ha1;have ha2':=Has.up0 ha2;refine CtL.mk 117 Tryz.func42 rfl Tryz.ntmps42 (by kernel_rfl) rfl ?_;show T 117 _ [(0,.agg #[.slice (A0_0) (p0.V.length) (c0_0),.slice (A0_1) (p0.T.length) (c0_1),.slice (A0_2) (p0.Lines.length) (c0_2)]),(1,.agg #[.int .i64 (p1.a0),.int .i64 (p1.a1)]),(2,.int .i64 (p2)),(3,.bool (p3))] _;unfold Mi at hx;refine Y2 ?_;refine T_x (Py rfl rfl rfl (fun g1=>?_));refine T_x (Py rfl rfl rfl (fun g2=>?_));refine T_x (Is Adk rfl (fun g3=>?_));refine T_x (Is Adk rfl (fun g4=>?_));refine Y6 ?_;refine Aw (Jv rfl (i:=3) rfl rfl Alk) rfl ?_;obtain ⟨r5,h6,hx7⟩:=Aj hx;refine Tc (fun w1 hw1=>Xp p0 (Has.len' ha0') (Has.len' ha1') (Has.len' ha2') h6 w1 (Sp (K:=K) (K2:=[]) hK (by exact (sb 4)) (by exact (SubE.nil)) hw1)) ?_;refine Y9 ?_;refine Ty (s:=21) rfl (fun h8=>?_) (fun h8=>?_)
 ·have hx9:=Sq h8 hx7;refine Y3 ?_;refine Aw (Dy rfl (Ym)) rfl ?_;refine Aw (Dy rfl (Ym)) rfl ?_;refine Y ?_;refine T_h (Gb rfl rfl rfl (.there (.here)) (.put (.put (.put (.done)))) rfl (List.cons_ne_nil _ _) Tv.2 ?_);refine T_h (Gb rfl rfl rfl (.here) (.put (.put (.put (.done)))) rfl (List.cons_ne_nil _ _) Tv.2 ?_);refine Y5 ?_;refine Az 245 1 ?_;refine Az 245 1 ?_;refine Az 245 1 ?_;refine Az 245 1 ?_;obtain rfl:=Option.some.inj hx9;exact Gp (rs:=[.cell 8 45,.cell 9 45,.tmp 10]) Tryz.results42 (.cell rfl (i:=5) rfl rfl Tv (.cell rfl (i:=4) rfl rfl Tv (.tmp rfl (.nil)))) (Ln:=[.r (none) (0) (0) 245 1 ((([]:List Int)).flatMap Bi),.r (none) (0) (0) 245 1 ((([]:List Int)).flatMap Bi),.r (none) (0) (0) 245 1 ((([]:List Int)).flatMap Bi),.r (none) (0) (0) 245 1 ((([]:List Int)).flatMap Bi)]) ⟨none,0,none,0,none,0,none,0,rfl,rfl,trivial⟩ (By rfl (By rfl (By rfl (By rfl (Gc))))) (by exact .pick 3 rfl (.pick 2 rfl (.pick 1 rfl (.pick 0 rfl (.drop 0 rfl (.drop 0 rfl (.drop 0 rfl (.drop 0 rfl (.refl)))))))))
 ·have hx0:=Hd h8 hx7;refine Y6 ?_;exact So hx0
set_option maxRecDepth 100000 in
instance mesh_Crossing_c (p0:Ao) (p1:Aa) (p2:Int) (p3:Bool):Con (Mi p0 p1 p2 p3) Tryz.prog 42 (fun K vs=>∃ (A0_0:Option Addr) (c0_0:Nat) (A0_1:Option Addr) (c0_1:Nat) (A0_2:Option Addr) (c0_2:Nat),vs=[.agg #[.slice (A0_0) ((p0.V).length) (c0_0),.slice (A0_1) ((p0.T).length) (c0_1),.slice (A0_2) ((p0.Lines).length) (c0_2)],.agg #[.int .i64 (p1.a0),.int .i64 (p1.a1)],.int .i64 (p2),.bool (p3)]/\Has K A0_0 (p0.V).length c0_0 4 Af (p0.V)/\Has K A0_1 (p0.T).length c0_1 3 Aq (p0.T)/\Has K A0_2 (p0.Lines).length c0_2 2 Ai (p0.Lines)/\True) (fun _ r=>fun v Ln=>∃ (A0:Option Addr) (c0:Nat) (A2:Option Addr) (c2:Nat) (A4:Option Addr) (c4:Nat) (A6:Option Addr) (c6:Nat),v = .tuple #[.agg #[.bool (r.1.Neg),.slice (A0) ((r.1.Num).length) (c0),.slice (A2) ((r.1.Den).length) (c2)],.agg #[.bool (r.2.1.Neg),.slice (A4) ((r.2.1.Num).length) (c4),.slice (A6) ((r.2.1.Den).length) (c6)],.int .i64 (r.2.2)]/\Ln=[.r A0 (r.1.Num).length c0 245 1 ((r.1.Num).flatMap Bi),.r A2 (r.1.Den).length c2 245 1 ((r.1.Den).flatMap Bi),.r A4 (r.2.1.Num).length c4 245 1 ((r.2.1.Num).flatMap Bi),.r A6 (r.2.1.Den).length c6 245 1 ((r.2.1.Den).flatMap Bi)]/\True):=⟨by
 rintro K _ r ⟨A0_0,c0_0,A0_1,c0_1,A0_2,c0_2,rfl,ha0,ha1,ha2,-⟩ hx w hK;exact Aav p0 p1 p2 p3 ha0 ha1 ha2 hx w hK⟩
set_option maxRecDepth 100000 in
instance mesh_Profile_c (p0:Ao) (p1:Ac) (p2:Ac):Con (Pf p0 p1 p2) Tryz.prog 43 (fun K vs=>∃ (A0_0:Option Addr) (c0_0:Nat) (A0_1:Option Addr) (c0_1:Nat) (A0_2:Option Addr) (c0_2:Nat),vs=[.agg #[.slice (A0_0) ((p0.V).length) (c0_0),.slice (A0_1) ((p0.T).length) (c0_1),.slice (A0_2) ((p0.Lines).length) (c0_2)],.agg #[.int .i64 (p1.X),.int .i64 (p1.Y)],.agg #[.int .i64 (p2.X),.int .i64 (p2.Y)]]/\Has K A0_0 (p0.V).length c0_0 4 Af (p0.V)/\Has K A0_1 (p0.T).length c0_1 3 Aq (p0.T)/\Has K A0_2 (p0.Lines).length c0_2 2 Ai (p0.Lines)/\True) (fun _ r=>fun v Ln=>∃ (A0:Option Addr) (c0:Nat),v = .tuple #[.slice (A0) ((r.1).length) (c0),.int .i64 (r.2)]/\Ln=[.r A0 (r.1).length c0 160 10 ((r.1).flatMap encN)]/\True):=⟨by
 rintro K _ r ⟨A0_0,c0_0,A0_1,c0_1,A0_2,c0_2,rfl,ha0,ha1,ha2,-⟩ hx w hK;replace ha0:=Has.lo ha0 hK;replace ha1:=Has.lo ha1 hK;replace ha2:=Has.lo ha2 hK;unfold Pf at hx;refine CtS Tryz.ntmps43 Tryz.results43 ?_;exact au⟩
set_option maxHeartbeats 1000000 in
set_option maxRecDepth 100000 in
instance lidarref06_Check_c (p0:Ao):Con (Im p0) Tryz.prog 37 (fun K vs=>∃ (A0_0:Option Addr) (c0_0:Nat) (A0_1:Option Addr) (c0_1:Nat) (A0_2:Option Addr) (c0_2:Nat),vs=[.agg #[.slice (A0_0) ((p0.V).length) (c0_0),.slice (A0_1) ((p0.T).length) (c0_1),.slice (A0_2) ((p0.Lines).length) (c0_2)]]/\Has K A0_0 (p0.V).length c0_0 4 Af (p0.V)/\Has K A0_1 (p0.T).length c0_1 3 Aq (p0.T)/\Has K A0_2 (p0.Lines).length c0_2 2 Ai (p0.Lines)/\True) (fun _ r=>fun v Ln=>v = .int .i64 (r)/\Ln=[]/\True):=⟨by
 rintro K _ r ⟨A0_0,c0_0,A0_1,c0_1,A0_2,c0_2,rfl,ha0,ha1,ha2,-⟩ hx w hK;replace ha0:=Has.lo ha0 hK;replace ha1:=Has.lo ha1 hK;replace ha2:=Has.lo ha2 hK;unfold Im at hx;refine CtS Tryz.ntmps37 Tryz.results37 ?_;exact au⟩
end Go.Proofs.YtoojmkhjdjianaaGreat
