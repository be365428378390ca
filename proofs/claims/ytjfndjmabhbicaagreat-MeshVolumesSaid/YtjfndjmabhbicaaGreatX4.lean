/- Walks of the program, with their plain functions: the reference's fractions. -/
import Derived.Test.YtjfndjmabhbicaaGreatX3
namespace Go.Proofs.YtjfndjmabhbicaaGreat
open Go Go.RowKit
theorem Aoc:Cw Tryz.prog 50 0 0:=.mk Tryz.underlying50 rfl rfl (show Tryz.prog.info? 4=some Tryz.t4 from by kernel_rfl) (show Tryz.t4.size=1 from by kernel_rfl) rfl
instance:Gd Tryz.prog 50 0 0:=⟨Aoc⟩
theorem Abk:Cw Tryz.prog 50 1 1:=.mk Tryz.underlying50 rfl rfl (show Tryz.prog.info? 48=some Tryz.t48 from by kernel_rfl) (show Tryz.t48.size=1 from by kernel_rfl) rfl
instance:Gd Tryz.prog 50 1 1:=⟨Abk⟩
theorem Akn:Qe Tryz.prog 48:=.mk Tryz.underlying48 rfl (show Tryz.prog.info? 48=some Tryz.t48 from by kernel_rfl) (by kernel_rfl)
instance:OneI Tryz.prog 48:=⟨Akn⟩
theorem Ayw  : Gs Tryz.prog 50 [] [.bool (false),.slice (none) (0) (0)]:=fun w=>by kernel_rfl
instance:Lk Tryz.prog 50 [] [.bool (false),.slice (none) (0) (0)]:=⟨Ayw⟩
theorem Axe:Md Tryz.prog 52 [.bool (false),.slice (none) (0) (0),.slice (none) (0) (0)]:=⟨_,Tryz.zeroValue52,rfl⟩
instance:Tg Tryz.prog 52 [.bool (false),.slice (none) (0) (0),.slice (none) (0) (0)]:=⟨Axe⟩
theorem We (x0:Bool) (x1:Option Addr) (x2:Nat) (x3:Nat) (x4:Option Addr) (x5:Nat) (x6:Nat):Gs Tryz.prog 52 [(0,.agg #[.bool x0,.slice x1 x2 x3]),(1,.slice x4 x5 x6)] [.bool x0,.slice x1 x2 x3,.slice x4 x5 x6]:=fun w=>by kernel_rfl
instance (x0:Bool) (x1:Option Addr) (x2:Nat) (x3:Nat) (x4:Option Addr) (x5:Nat) (x6:Nat):Lk Tryz.prog 52 [(0,.agg #[.bool x0,.slice x1 x2 x3]),(1,.slice x4 x5 x6)] [.bool x0,.slice x1 x2 x3,.slice x4 x5 x6]:=⟨We _ _ _ _ _ _ _⟩
theorem Aod:Nf Tryz.prog 52 3:=.mk Tryz.underlying52 rfl (show Tryz.prog.info? 52=some Tryz.t52 from by kernel_rfl) (by kernel_rfl)
instance:AggI Tryz.prog 52 3:=⟨Aod⟩
theorem Avy:Cw Tryz.prog 52 0 0:=.mk Tryz.underlying52 rfl rfl (show Tryz.prog.info? 50=some Tryz.t50 from by kernel_rfl) (show Tryz.t50.size=2 from by kernel_rfl) rfl
instance:Gd Tryz.prog 52 0 0:=⟨Avy⟩
theorem Avz:Cw Tryz.prog 52 1 2:=.mk Tryz.underlying52 rfl rfl (show Tryz.prog.info? 48=some Tryz.t48 from by kernel_rfl) (show Tryz.t48.size=1 from by kernel_rfl) rfl
instance:Gd Tryz.prog 52 1 2:=⟨Avz⟩
theorem Aiq (x0:Bool) (x1:Option Addr) (x2:Nat) (x3:Nat) (x4:Option Addr) (x5:Nat) (x6:Nat):Ah6 Tryz.prog 52 [.bool x0,.slice x1 x2 x3,.slice x4 x5 x6] 0 (.agg #[.bool x0,.slice x1 x2 x3]):=fun w=>by kernel_rfl
instance (x0:Bool) (x1:Option Addr) (x2:Nat) (x3:Nat) (x4:Option Addr) (x5:Nat) (x6:Nat):Aiu Tryz.prog 52 [.bool x0,.slice x1 x2 x3,.slice x4 x5 x6] 0 (.agg #[.bool x0,.slice x1 x2 x3]):=⟨Aiq _ _ _ _ _ _ _⟩
theorem Aoe:Kh Tryz.prog 43 245 1:=.mk Tryz.underlying43 (show Tryz.prog.info? 245=some Tryz.t245 from by kernel_rfl) (by kernel_rfl)
instance:Mj Tryz.prog 43 245 1:=⟨Aoe⟩
theorem Ayx  : Gs Tryz.prog 52 [] [.bool (false),.slice (none) (0) (0),.slice (none) (0) (0)]:=fun w=>by kernel_rfl
instance:Lk Tryz.prog 52 [] [.bool (false),.slice (none) (0) (0),.slice (none) (0) (0)]:=⟨Ayx⟩
noncomputable def Kc (p0:Ai) (p1:Ai):Option Ai :=
 if ((p0.Neg) == (p1.Neg))=true then (bnd (Ku p0.L p1.L) fun r6=>
 some (⟨p0.Neg,r6⟩:Ai))
 else (bnd (Fe p0.L p1.L) fun r0=>
 if r0=0 then (some (⟨false,([]:List Int)⟩:Ai))
 else (if 0 < r0 then (bnd (Ih p0.L p1.L) fun r1=>
 some (⟨p0.Neg,r1⟩:Ai))
 else (bnd (Ih p1.L p0.L) fun r2=>
 some (⟨p1.Neg,r2⟩:Ai))))
noncomputable def Hx (p0:Ai):Option Ai :=
 jn (fun (s2:Bool)=>
 some (⟨s2,p0.L⟩:Ai))
 (fun j2=>if p0.Neg=true then (j2 false)
 else (j2 (decide (0 < ((((p0.L).length:Nat):Int))))))
noncomputable def Ds (p0:Ai) (p1:Ai):Option Ai :=
 bnd (Ef p0.L p1.L) fun r4=>
 jn (fun (s3:Bool)=>
 some (⟨s3,r4⟩:Ai))
 (fun j3=>if ((p0.Neg) == (p1.Neg))=true then (j3 false)
 else (j3 (decide (0 < ((((r4).length:Nat):Int))))))
noncomputable def Is (p0:Ai):Option Int :=
 if ((((p0.L).length:Nat):Int))=0 then (some 0)
 else (if p0.Neg=true then (some (-1))
 else (some 1))
noncomputable def Fd (p0:Ai) (p1:Ai):Option Am :=
 bnd (Mh p0.L p1.L) fun r4=>
 bnd (Er p0.L r4) fun r0=>
 bnd (Er p1.L r4) fun r1=>
 jn (fun (s5:Bool)=>
 some (⟨(⟨s5,r0.1⟩:Ai),r1.1⟩:Am))
 (fun j5=>if p0.Neg=true then (j5 (decide (0 < ((((r0.1).length:Nat):Int)))))
 else (j5 false))
noncomputable def Cj (p0:Int):Option Am :=
 bnd (Hd p0) fun r2=>
 some (⟨r2,[1]⟩:Am)
noncomputable def Hg (p0:Am) (p1:Am):Option Am :=
 bnd (Ds p0.N (⟨false,p1.D⟩:Ai)) fun r4=>
 bnd (Ds p1.N (⟨false,p0.D⟩:Ai)) fun r9=>
 bnd (Kc r4 r9) fun r0=>
 bnd (Ef p0.D p1.D) fun r1=>
 bnd (Fd r0 (⟨false,r1⟩:Ai)) fun r2=>
 some r2
noncomputable def Mz (p0:Am):Option Am :=
 bnd (Hx p0.N) fun r3=>
 some (⟨r3,p0.D⟩:Am)
noncomputable def Hh (p0:Am) (p1:Am):Option Am :=
 bnd (Mz p1) fun r4=>
 bnd (Hg p0 r4) fun r0=>
 some r0
noncomputable def Hj (p0:Am) (p1:Am):Option Am :=
 bnd (Ds p0.N p1.N) fun r4=>
 bnd (Ef p0.D p1.D) fun r9=>
 bnd (Fd r4 (⟨false,r9⟩:Ai)) fun r0=>
 some r0
noncomputable def Mi (p0:Am) (p1:Am):Option Int :=
 bnd (Hh p0 p1) fun r3=>
 bnd (Is r3.N) fun r0=>
 some r0
instance:UndI Tryz.prog 43 (.slice 245):=⟨Tryz.underlying43⟩
noncomputable def It (p0:List Int):Int->Option (Sum Int Int):=fun s0=>
 jn (fun (s7:Bool)=>
 if s7=true then (some (.inl (w64 (s0-1))))
 else (some (.inr s0)))
 (fun j7=>if 0 < s0 then (bnd (idx p0 (w64 (s0-1))) fun x0=>
 j7 (decide (x0=0)))
 else (j7 false))
noncomputable def Iu (s3:Int) (p0:List Int):((List Int) × Int)->Option (Sum ((List Int) × Int) (List Int)):=fun s0=>
 if s0.2 < s3 then (bnd (idx p0 s0.2) fun x0=>
 bnd (idx p0 s0.2) fun x1=>
 gd (((s0.1).length+2)*8<=140737488355328) <|
 some (.inl (s0.1++[w64 (Int.tmod x0 65536),w64 (wu32 (Int.tdiv x1 65536))],w64 (s0.2+1))))
 else (some (.inr s0.1))
noncomputable def Fo (p0:List Int):Option ((List Int) × Bool) :=
 jn (fun (s3:Int)=>
 if 256 < s3 then (some (([]:List Int),false))
 else (jn (fun (s0:List Int)=>
 bnd (Ci s0) fun r0=>
 some (r0,true))
 (fun j0=>bnd (lfix (Iu s3 p0) (([]:List Int),0)) fun t0=>
 j0 t0)))
 (fun j3=>bnd (lfix (It p0) (((p0).length:Nat):Int)) fun t1=>
 j3 t1)
noncomputable def Pq (p0:As):Option (Am × Bool) :=
 bnd (Fo p0.Num) fun r3=>
 bnd (Fo p0.Den) fun r8=>
 jn (fun (s5:Bool)=>
 if s5=true then (some ((⟨(⟨false,([]:List Int)⟩:Ai),([]:List Int)⟩:Am),false))
 else (jn (fun (s7:List Int)=>
 jn (fun (s9:Bool × (List Int) × (List Int))=>
 some ((⟨(⟨s9.1,s9.2.1⟩:Ai),s9.2.2⟩:Am),true))
 (fun j9=>if p0.Neg=true then (bnd (Fd (⟨decide (0 < ((((r3.1).length:Nat):Int))),r3.1⟩:Ai) (⟨false,s7⟩:Ai)) fun r0=>
 j9 (r0.N.Neg,r0.N.L,r0.D))
 else (bnd (Fd (⟨false,r3.1⟩:Ai) (⟨false,s7⟩:Ai)) fun r1=>
 j9 (r1.N.Neg,r1.N.L,r1.D))))
 (fun j7=>if ((((r8.1).length:Nat):Int))=0 then (j7 ([1]))
 else (j7 r8.1))))
 (fun j5=>if r3.2=true then (j5 (!(r8.2)))
 else (j5 true))
set_option maxHeartbeats 1000000 in
set_option maxRecDepth 100000 in
instance lidarref01_Int_Add_c (p0:Ai) (p1:Ai):Con (Kc p0 p1) Tryz.prog 126 (fun K vs=>∃ (A0_0:Option Addr) (c0_0:Nat) (A0_1:Option Addr) (c0_1:Nat),vs=[.agg #[.bool (p0.Neg),.slice (A0_0) ((p0.L).length) (c0_0)],.agg #[.bool (p1.Neg),.slice (A0_1) ((p1.L).length) (c0_1)]]/\Has K A0_0 (p0.L).length c0_0 1 Aq (p0.L)/\Has K A0_1 (p1.L).length c0_1 1 Aq (p1.L)/\True) (fun _ r=>fun v Ln=>∃ (A0:Option Addr) (c0:Nat),v = .agg #[.bool (r.Neg),.slice (A0) ((r.L).length) (c0)]/\Ln=[.r A0 (r.L).length c0 3 1 ((r.L).flatMap Aq)]/\True):=⟨by
 rintro K _ r ⟨A0_0,c0_0,A0_1,c0_1,rfl,ha0,ha1,-⟩ hx w hK;replace ha0:=Has.lo ha0 hK;replace ha1:=Has.lo ha1 hK;unfold Kc at hx;have:=dl 2 [0,1,0,1,0,1,2,0,3] [0,1,2,3,4,5,6,7,8];have:=dl 7 [0,1,0,1,0,1,2,0,3] [0,1,2,3,4,5,6,7,8];have:=dl 8 [0,1,0,1,0,1,2,0,3] [0,1,2,3,4,5,6,7,8];refine CtS Tryz.ntmps126 Tryz.results126 ?_;exact au⟩
set_option maxRecDepth 100000 in
instance lidarref01_Int_Minus_c (p0:Ai):ConB (Hx p0) Tryz.prog 132 (fun K vs=>∃ (A0_0:Option Addr) (c0_0:Nat),vs=[.agg #[.bool (p0.Neg),.slice (A0_0) ((p0.L).length) (c0_0)]]/\Has K A0_0 (p0.L).length c0_0 1 Aq (p0.L)/\True) (fun K r=>fun v Ln=>∃ (A0:Option Addr) (c0:Nat) (e:Ent),v = .agg #[.bool (r.Neg),.slice (A0) ((r.L).length) (c0)]/\Ln=[e]/\Has (K++[e]) A0 (r.L).length c0 1 Aq (r.L)/\True):=⟨by
 rintro K _ r ⟨A0_0,c0_0,rfl,ha0,-⟩ hx w hK;unfold Hx at hx;refine CtS Tryz.ntmps132 Tryz.results132 ?_;exact au⟩

set_option maxRecDepth 100000 in
instance lidarref01_Int_Mul_c (p0:Ai) (p1:Ai):Con (Ds p0 p1) Tryz.prog 73 (fun K vs=>∃ (A0_0:Option Addr) (c0_0:Nat) (A0_1:Option Addr) (c0_1:Nat),vs=[.agg #[.bool (p0.Neg),.slice (A0_0) ((p0.L).length) (c0_0)],.agg #[.bool (p1.Neg),.slice (A0_1) ((p1.L).length) (c0_1)]]/\Has K A0_0 (p0.L).length c0_0 1 Aq (p0.L)/\Has K A0_1 (p1.L).length c0_1 1 Aq (p1.L)/\True) (fun _ r=>fun v Ln=>∃ (A0:Option Addr) (c0:Nat),v = .agg #[.bool (r.Neg),.slice (A0) ((r.L).length) (c0)]/\Ln=[.r A0 (r.L).length c0 3 1 ((r.L).flatMap Aq)]/\True):=⟨by
 rintro K _ r ⟨A0_0,c0_0,A0_1,c0_1,rfl,ha0,ha1,-⟩ hx w hK;replace ha0:=Has.lo ha0 hK;replace ha1:=Has.lo ha1 hK;unfold Ds at hx;refine CtS Tryz.ntmps73 Tryz.results73 ?_;exact au⟩
set_option maxRecDepth 100000 in
instance lidarref01_Int_Sign_c (p0:Ai):Con (Is p0) Tryz.prog 128 (fun K vs=>∃ (A0_0:Option Addr) (c0_0:Nat),vs=[.agg #[.bool (p0.Neg),.slice (A0_0) ((p0.L).length) (c0_0)]]/\Has K A0_0 (p0.L).length c0_0 1 Aq (p0.L)/\True) (fun _ r=>fun v Ln=>v = .int .i64 (r)/\Ln=[]/\True):=⟨by
 rintro K _ r ⟨A0_0,c0_0,rfl,ha0,-⟩ hx w hK;replace ha0:=Has.lo ha0 hK;unfold Is at hx;refine CtS Tryz.ntmps128 Tryz.results128 ?_;exact au⟩
set_option maxRecDepth 100000 in
theorem Aam (p0:Ai) (p1:Ai) {K:List Ent} {A0_0:Option Addr} {c0_0:Nat} {A0_1:Option Addr} {c0_1:Nat} (ha0:Has K A0_0 p0.L.length c0_0 1 Aq (p0.L)) (ha1:Has K A0_1 p1.L.length c0_1 1 Aq (p1.L)) {r:Am} (hx:Fd p0 p1=some r) (w:World) (hK:∀ e∈K,Ent.ok w e):CtL Tryz.prog 72 [.agg #[.bool (p0.Neg),.slice (A0_0) (p0.L.length) (c0_0)],.agg #[.bool (p1.Neg),.slice (A0_1) (p1.L.length) (c0_1)]] w fun v Ln=>∃ (A0:Option Addr) (c0:Nat) (A2:Option Addr) (c2:Nat),v = .agg #[.bool (r.N.Neg),.slice (A0) (r.N.L.length) (c0),.slice (A2) (r.D.length) (c2)]/\Ln=[.r A0 r.N.L.length c0 3 1 (r.N.L.flatMap Aq),.r A2 r.D.length c2 3 1 (r.D.flatMap Aq)]/\True:=by
 have ha0':=Has.up0 ha0;have ha1':=Has.up0 ha1;refine CtL.mk 40 Tryz.func72 rfl Tryz.ntmps72 (by kernel_rfl) rfl ?_;show T 40 _ [(0,.agg #[.bool (p0.Neg),.slice (A0_0) (p0.L.length) (c0_0)]),(1,.agg #[.bool (p1.Neg),.slice (A0_1) (p1.L.length) (c0_1)])] _;unfold Fd at hx;refine Y2 ?_;refine T_x (Ui rfl rfl rfl (fun g1=>?_));refine T_x (Ui rfl rfl rfl (fun g2=>?_));refine T_x (Kz Axe rfl (fun g3=>?_));refine Y4 ?_;refine Ba (Cs rfl Abk rfl) rfl ?_;refine Ba (Bf rfl (i:=2) rfl rfl Akn) rfl ?_;refine Ba (Cs rfl Abk rfl) rfl ?_;refine Ba (Bf rfl (i:=1) rfl rfl Akn) rfl ?_;obtain ⟨r4,h5,hx6⟩:=Ar hx;refine T_x (Ei rfl (fun w1 hw1=>Tz p0.L p1.L (Has.len' ha0') (Has.len' ha1') h5 w1 (Qj (K:=K) (K2:=[]) hK (by exact (sb 3)) (by exact (SubE.nil)) hw1)) rfl ?_);rintro _ _ hlo ⟨A7,c8,e9,rfl,rfl,hs0,-⟩;have lo11:=hlo e9 (by simp);refine Xt ?_;have hs1:Has (K++[e9]) _ _ _ _ _ _:=Has.assoc hs0;refine Y5 ?_;refine Ba (Cs rfl Abk rfl) rfl ?_;refine Ba (Bf rfl (i:=3) rfl rfl Akn) rfl ?_;refine Y ?_;obtain ⟨r0,h0,hx0⟩:=Ar hx6;refine T_x (Ei rfl (fun w1 hw1=>Ld p0.L r4 (Has.len' (Has.up (L:=(K++[e9])) ha0' (SubE.app2 SubE.nil))) (Has.len' hs1) h0 w1 (Qj (K:=K) (K2:=[e9]) hK (by exact (sb 4)) (by exact (sb 0)) hw1)) rfl ?_);rintro _ _ hlo ⟨A1,c1,A3,c3,e0,rfl,rfl,hs2,-⟩
 have lo22:=hlo e0 (by simp);refine Td ?_;have hs3:Has (K++[e9,e0]) _ _ _ _ _ _:=Has.assoc hs2;refine Y9 ?_;refine Ba (Cs rfl Abk rfl) rfl ?_;refine Ba (Bf rfl (i:=4) rfl rfl Akn) rfl ?_;refine Y ?_;obtain ⟨r1,h1,hx1⟩:=Ar hx0;refine T_x (Ei rfl (fun w1 hw1=>Ld p1.L r4 (Has.len' (Has.up (L:=(K++[e9])) ha1' (SubE.app2 SubE.nil))) (Has.len' hs1) h1 w1 (Qj (K:=K) (K2:=[e9]) hK (by exact (sb 6)) (by exact (sb 2)) hw1)) rfl ?_);rintro _ _ hlo ⟨A4,c4,A5,c5,e1,rfl,rfl,hs4,-⟩;have lo33:=hlo e1 (by simp);refine Td ?_;have hs5:Has (K++[e9,e1]) _ _ _ _ _ _:=Has.assoc hs4;refine Y7 ?_;refine Tj (γ:=Unit) hx1 (fun s5 y5=>[(4,.pointer (some ⟨g3,0,none⟩))]) (fun s5 y5=>[.r (A4) (r1.1.length) (c4) 3 1 (r1.1.flatMap Aq),.r (A1) (r0.1.length) (c1) 3 1 (r0.1.flatMap Aq),.m g3 52 [.bool (s5),.slice (A1) (r0.1.length) (c1),.slice (A4) (r1.1.length) (c4)]]++[.old w]) (fun s5 y5=>True) (fun s5 y5 hx2 hG0=>?_) (fun j5 hx1=>?_)
 ·refine Y ?_;obtain rfl:=Option.some.inj hx2;exact Hc (rs:=[.cell 4 52]) Tryz.results72 (.cell rfl (i:=2) rfl rfl Aod (.nil)) (Ln:=[.r (A1) (r0.1.length) (c1) 3 1 (r0.1.flatMap Aq),.r (A4) (r1.1.length) (c4) 3 1 (r1.1.flatMap Aq)]) ⟨A1,c1,A4,c4,rfl,rfl,trivial⟩ (By rfl (By rfl (Gn))) (by exact .pick 1 rfl (.pick 0 rfl (.drop 0 rfl (.refl))))
 ·refine Y ?_;refine Ba (Cs rfl Aoc rfl) rfl ?_;refine Ba (Bf rfl (i:=7) rfl rfl one4) rfl ?_;refine Y ?_;refine Hr (s:=31) rfl (fun h2=>?_) (fun h2=>?_)
  ·have hx3:=Jx h2 hx1;refine Y ?_;refine Oi rfl rfl rfl (Jq rfl 3 Tryz.underlying48) rfl ?_;refine Y3 ?_;refine Ba (Js rfl (Aaj _ _ _ _)) rfl ?_;refine Y ?_;refine Ba (Js rfl (We _ _ _ _ _ _ _)) rfl ?_;refine T_h (Fm rfl rfl rfl (.there (.there (.there (.there (.there (.here)))))) (.put (.put (.put (.done)))) rfl (List.cons_ne_nil _ _) Aod.2 ?_);refine Y ?_;exact Mt (decide (0 < (((r0.1.length:Nat):Int)))) () hx3 trivial (by exact .pick 0 rfl (.pick 1 rfl (.pick 3 rfl (.drop 0 rfl (.drop 0 rfl (.drop 0 rfl (.drop 0 rfl (.drop 0 rfl (.refl)))))))))
  ·have hx4:=Mg h2 hx1;refine Y5 ?_;refine Ba (Js rfl (Aaj _ _ _ _)) rfl ?_;refine Y ?_;refine Ba (Js rfl (We _ _ _ _ _ _ _)) rfl ?_;refine T_h (Fm rfl rfl rfl (.there (.there (.there (.there (.there (.here)))))) (.put (.put (.put (.done)))) rfl (List.cons_ne_nil _ _) Aod.2 ?_);refine Y ?_;exact Mt false () hx4 trivial (by exact .pick 0 rfl (.pick 1 rfl (.pick 3 rfl (.drop 0 rfl (.drop 0 rfl (.drop 0 rfl (.drop 0 rfl (.drop 0 rfl (.refl)))))))))
set_option maxHeartbeats 1000000 in
set_option maxRecDepth 100000 in
instance lidarref01_Frac_c (p0:Ai) (p1:Ai):Con (Fd p0 p1) Tryz.prog 72 (fun K vs=>∃ (A0_0:Option Addr) (c0_0:Nat) (A0_1:Option Addr) (c0_1:Nat),vs=[.agg #[.bool (p0.Neg),.slice (A0_0) ((p0.L).length) (c0_0)],.agg #[.bool (p1.Neg),.slice (A0_1) ((p1.L).length) (c0_1)]]/\Has K A0_0 (p0.L).length c0_0 1 Aq (p0.L)/\Has K A0_1 (p1.L).length c0_1 1 Aq (p1.L)/\True) (fun _ r=>fun v Ln=>∃ (A0:Option Addr) (c0:Nat) (A2:Option Addr) (c2:Nat),v = .agg #[.bool (r.N.Neg),.slice (A0) ((r.N.L).length) (c0),.slice (A2) ((r.D).length) (c2)]/\Ln=[.r A0 (r.N.L).length c0 3 1 ((r.N.L).flatMap Aq),.r A2 (r.D).length c2 3 1 ((r.D).flatMap Aq)]/\True):=⟨by
 rintro K _ r ⟨A0_0,c0_0,A0_1,c0_1,rfl,ha0,ha1,-⟩ hx w hK;exact Aam p0 p1 ha0 ha1 hx w hK⟩
set_option maxRecDepth 100000 in
instance lidarref01_Whole_c (p0:Int):Con (Cj p0) Tryz.prog 20 (fun _ vs=>vs=[.int .i64 (p0)]) (fun _ r=>fun v Ln=>∃ (A0:Option Addr) (c0:Nat) (A2:Option Addr) (c2:Nat),v = .agg #[.bool (r.N.Neg),.slice (A0) ((r.N.L).length) (c0),.slice (A2) ((r.D).length) (c2)]/\Ln=[.r A0 (r.N.L).length c0 3 1 ((r.N.L).flatMap Aq),.r A2 (r.D).length c2 3 1 ((r.D).flatMap Aq)]/\True):=⟨by
 rintro _ _ r rfl hx w hK;unfold Cj at hx;refine CtS Tryz.ntmps20 Tryz.results20 ?_;try (refine pre ?_;intros;rename_i hx)
 (with_reducible apply Ag8 5 (sz:=1));exact rfl;exact aT;exact inferInstance;exact dL;exact (fun _=>rfl);exact rfl;exact rfl;exact sA
 exact au⟩
set_option maxRecDepth 100000 in
instance lidarref01_Q_Add_c (p0:Am) (p1:Am):Con (Hg p0 p1) Tryz.prog 68 (fun K vs=>∃ (A0_0:Option Addr) (c0_0:Nat) (A0_1:Option Addr) (c0_1:Nat) (A0_2:Option Addr) (c0_2:Nat) (A0_3:Option Addr) (c0_3:Nat),vs=[.agg #[.bool (p0.N.Neg),.slice (A0_0) ((p0.N.L).length) (c0_0),.slice (A0_1) ((p0.D).length) (c0_1)],.agg #[.bool (p1.N.Neg),.slice (A0_2) ((p1.N.L).length) (c0_2),.slice (A0_3) ((p1.D).length) (c0_3)]]/\Has K A0_0 (p0.N.L).length c0_0 1 Aq (p0.N.L)/\Has K A0_1 (p0.D).length c0_1 1 Aq (p0.D)/\Has K A0_2 (p1.N.L).length c0_2 1 Aq (p1.N.L)/\Has K A0_3 (p1.D).length c0_3 1 Aq (p1.D)/\True) (fun _ r=>fun v Ln=>∃ (A0:Option Addr) (c0:Nat) (A2:Option Addr) (c2:Nat),v = .agg #[.bool (r.N.Neg),.slice (A0) ((r.N.L).length) (c0),.slice (A2) ((r.D).length) (c2)]/\Ln=[.r A0 (r.N.L).length c0 3 1 ((r.N.L).flatMap Aq),.r A2 (r.D).length c2 3 1 ((r.D).flatMap Aq)]/\True):=⟨by
 rintro K _ r ⟨A0_0,c0_0,A0_1,c0_1,A0_2,c0_2,A0_3,c0_3,rfl,ha0,ha1,ha2,ha3,-⟩ hx w hK;replace ha0:=Has.lo ha0 hK;replace ha1:=Has.lo ha1 hK;replace ha2:=Has.lo ha2 hK;replace ha3:=Has.lo ha3 hK;unfold Hg at hx;have:=dl 1 [0,1,0,1,0,2,0,1,0,1,0,2,2,0,1,0,1,2,0,2,3] [0,1,2,3,4,6,7,8,9,10,13,14,15,16,5,11,12,17,18,19,20];refine CtS Tryz.ntmps68 Tryz.results68 ?_;exact au⟩
set_option maxRecDepth 100000 in
instance lidarref01_Q_Minus_c (p0:Am):ConB (Mz p0) Tryz.prog 75 (fun K vs=>∃ (A0_0:Option Addr) (c0_0:Nat) (A0_1:Option Addr) (c0_1:Nat),vs=[.agg #[.bool (p0.N.Neg),.slice (A0_0) ((p0.N.L).length) (c0_0),.slice (A0_1) ((p0.D).length) (c0_1)]]/\Has K A0_0 (p0.N.L).length c0_0 1 Aq (p0.N.L)/\Has K A0_1 (p0.D).length c0_1 1 Aq (p0.D)/\True) (fun K r=>fun v Ln=>∃ (A0:Option Addr) (c0:Nat) (A2:Option Addr) (c2:Nat) (e:Ent),v = .agg #[.bool (r.N.Neg),.slice (A0) ((r.N.L).length) (c0),.slice (A2) ((r.D).length) (c2)]/\Ln=[e]/\Has (K++[e]) A0 (r.N.L).length c0 1 Aq (r.N.L)/\Has (K++[e]) A2 (r.D).length c2 1 Aq (r.D)/\True):=⟨by
 rintro K _ r ⟨A0_0,c0_0,A0_1,c0_1,rfl,ha0,ha1,-⟩ hx w hK;unfold Mz at hx;have:=dl 1 [0,1,2,0,1,0,3] [0,1,3,4,2,5,6];refine CtS Tryz.ntmps75 Tryz.results75 ?_;exact au⟩

set_option maxRecDepth 100000 in
instance lidarref01_Q_Sub_c (p0:Am) (p1:Am):Con (Hh p0 p1) Tryz.prog 22 (fun K vs=>∃ (A0_0:Option Addr) (c0_0:Nat) (A0_1:Option Addr) (c0_1:Nat) (A0_2:Option Addr) (c0_2:Nat) (A0_3:Option Addr) (c0_3:Nat),vs=[.agg #[.bool (p0.N.Neg),.slice (A0_0) ((p0.N.L).length) (c0_0),.slice (A0_1) ((p0.D).length) (c0_1)],.agg #[.bool (p1.N.Neg),.slice (A0_2) ((p1.N.L).length) (c0_2),.slice (A0_3) ((p1.D).length) (c0_3)]]/\Has K A0_0 (p0.N.L).length c0_0 1 Aq (p0.N.L)/\Has K A0_1 (p0.D).length c0_1 1 Aq (p0.D)/\Has K A0_2 (p1.N.L).length c0_2 1 Aq (p1.N.L)/\Has K A0_3 (p1.D).length c0_3 1 Aq (p1.D)/\True) (fun _ r=>fun v Ln=>∃ (A0:Option Addr) (c0:Nat) (A2:Option Addr) (c2:Nat),v = .agg #[.bool (r.N.Neg),.slice (A0) ((r.N.L).length) (c0),.slice (A2) ((r.D).length) (c2)]/\Ln=[.r A0 (r.N.L).length c0 3 1 ((r.N.L).flatMap Aq),.r A2 (r.D).length c2 3 1 ((r.D).flatMap Aq)]/\True):=⟨by
 rintro K _ r ⟨A0_0,c0_0,A0_1,c0_1,A0_2,c0_2,A0_3,c0_3,rfl,ha0,ha1,ha2,ha3,-⟩ hx w hK;replace ha0:=Has.lo ha0 hK;replace ha1:=Has.lo ha1 hK;replace ha2:=Has.lo ha2 hK;replace ha3:=Has.lo ha3 hK;unfold Hh at hx;have:=dl 1 [1,1,2,2,3] [0,1,2,3,4];refine CtS Tryz.ntmps22 Tryz.results22 ?_;exact au⟩
set_option maxRecDepth 100000 in
instance lidarref01_Q_Mul_c (p0:Am) (p1:Am):Con (Hj p0 p1) Tryz.prog 21 (fun K vs=>∃ (A0_0:Option Addr) (c0_0:Nat) (A0_1:Option Addr) (c0_1:Nat) (A0_2:Option Addr) (c0_2:Nat) (A0_3:Option Addr) (c0_3:Nat),vs=[.agg #[.bool (p0.N.Neg),.slice (A0_0) ((p0.N.L).length) (c0_0),.slice (A0_1) ((p0.D).length) (c0_1)],.agg #[.bool (p1.N.Neg),.slice (A0_2) ((p1.N.L).length) (c0_2),.slice (A0_3) ((p1.D).length) (c0_3)]]/\Has K A0_0 (p0.N.L).length c0_0 1 Aq (p0.N.L)/\Has K A0_1 (p0.D).length c0_1 1 Aq (p0.D)/\Has K A0_2 (p1.N.L).length c0_2 1 Aq (p1.N.L)/\Has K A0_3 (p1.D).length c0_3 1 Aq (p1.D)/\True) (fun _ r=>fun v Ln=>∃ (A0:Option Addr) (c0:Nat) (A2:Option Addr) (c2:Nat),v = .agg #[.bool (r.N.Neg),.slice (A0) ((r.N.L).length) (c0),.slice (A2) ((r.D).length) (c2)]/\Ln=[.r A0 (r.N.L).length c0 3 1 ((r.N.L).flatMap Aq),.r A2 (r.D).length c2 3 1 ((r.D).flatMap Aq)]/\True):=⟨by
 rintro K _ r ⟨A0_0,c0_0,A0_1,c0_1,A0_2,c0_2,A0_3,c0_3,rfl,ha0,ha1,ha2,ha3,-⟩ hx w hK;replace ha0:=Has.lo ha0 hK;replace ha1:=Has.lo ha1 hK;replace ha2:=Has.lo ha2 hK;replace ha3:=Has.lo ha3 hK;unfold Hj at hx;have:=dl 1 [0,1,0,1,2,0,1,0,1,2,0,2,3] [0,1,2,3,5,6,7,8,4,9,10,11,12];refine CtS Tryz.ntmps21 Tryz.results21 ?_;exact au⟩
set_option maxRecDepth 100000 in
instance lidarref01_Q_Cmp_c (p0:Am) (p1:Am):Con (Mi p0 p1) Tryz.prog 70 (fun K vs=>∃ (A0_0:Option Addr) (c0_0:Nat) (A0_1:Option Addr) (c0_1:Nat) (A0_2:Option Addr) (c0_2:Nat) (A0_3:Option Addr) (c0_3:Nat),vs=[.agg #[.bool (p0.N.Neg),.slice (A0_0) ((p0.N.L).length) (c0_0),.slice (A0_1) ((p0.D).length) (c0_1)],.agg #[.bool (p1.N.Neg),.slice (A0_2) ((p1.N.L).length) (c0_2),.slice (A0_3) ((p1.D).length) (c0_3)]]/\Has K A0_0 (p0.N.L).length c0_0 1 Aq (p0.N.L)/\Has K A0_1 (p0.D).length c0_1 1 Aq (p0.D)/\Has K A0_2 (p1.N.L).length c0_2 1 Aq (p1.N.L)/\Has K A0_3 (p1.D).length c0_3 1 Aq (p1.D)/\True) (fun _ r=>fun v Ln=>v = .int .i64 (r)/\Ln=[]/\True):=⟨by
 rintro K _ r ⟨A0_0,c0_0,A0_1,c0_1,A0_2,c0_2,A0_3,c0_3,rfl,ha0,ha1,ha2,ha3,-⟩ hx w hK;replace ha0:=Has.lo ha0 hK;replace ha1:=Has.lo ha1 hK;replace ha2:=Has.lo ha2 hK;replace ha3:=Has.lo ha3 hK;unfold Mi at hx;refine CtS Tryz.ntmps70 Tryz.results70 ?_;exact au⟩
set_option maxRecDepth 100000 in
theorem Zf (p0:List Int) {K:List Ent} {A0_0:Option Addr} {c0_0:Nat} (ha0:Has K A0_0 p0.length c0_0 1 Ao (p0)) {r:(List Int) × Bool} (hx:Fo p0=some r) (w:World) (hK:∀ e∈K,Ent.ok w e):CtL Tryz.prog 127 [.slice (A0_0) (p0.length) (c0_0)] w fun v Ln=>∃ (A0:Option Addr) (c0:Nat),v = .tuple #[.slice (A0) (r.1.length) (c0),.bool (r.2)]/\Ln=[.r A0 r.1.length c0 3 1 (r.1.flatMap Aq)]/\True:=by
 have ha0':=Has.up0 ha0;refine CtL.mk 45 Tryz.func127 rfl Tryz.ntmps127 (by kernel_rfl) rfl ?_;show T 45 _ [(0,.slice (A0_0) (p0.length) (c0_0))] _;unfold Fo at hx;refine Y9 ?_;refine Ba (Jq rfl 245 Tryz.underlying43) rfl ?_;refine Y3 ?_;refine Tj (γ:=Unit) hx (fun s3 y3=>[(0,.slice (A0_0) (p0.length) (c0_0)),(4,.int .i64 (s3))]) (fun s3 y3=>[]++[.old w]) (fun s3 y3=>True) (fun s3 y3 hx0 hG0=>?_) (fun j3 hx=>?_)
 ·refine Y7 ?_;refine Ti hx0 (s:=22) rfl (fun h0 hx1=>?_) (fun h0 hx2=>?_)
  ·refine Y9 ?_;refine Az 3 1 ?_;obtain rfl:=Option.some.inj hx1;exact Hc (rs:=[.tmp 2,.tmp 3]) Tryz.results127 (.tmp rfl (.tmp rfl (.nil))) (Ln:=[.r (none) (0) (0) 3 1 ((([]:List Int)).flatMap Aq)]) ⟨none,0,rfl,rfl,trivial⟩ (By rfl (Gn)) (by exact .pick 0 rfl (.refl))
  ·refine Y8 ?_;refine Tj (γ:=(Option Addr) × Nat) hx2 (fun s0 y0=>[(5,.slice (y0.1) (s0.length) (y0.2))]) (fun s0 y0=>[.r (y0.1) (s0.length) (y0.2) 3 1 (s0.flatMap Aq)]++[.old w]) (fun s0 y0=>True) (fun s0 y0 hx3 hG1=>?_) (fun j0 hx2=>?_)
   ·refine Y3 ?_;refine Aic (k:=0) rfl (by decide) (fun _=>rfl) (fun hn0 hs0=>?_);obtain ⟨r0,h1,hx4⟩:=Ar hx3;refine T_x (Ei rfl (fun w1 hw1=>Qb s0 (Has.len' hs0) h1 w1 (An8 (K:=([.r (y0.1) (s0.length) (y0.2) 3 1 (s0.flatMap Aq)]:List Ent)) (by exact (sb 0)) hw1)) rfl ?_);rintro _ _ hlo ⟨rfl,rfl,hs1,-⟩;refine Aly ?_;refine Anw (r:=r0) (Afg h1) (.here) (by decide) (fun _=>rfl) ?_;refine Y5 ?_;obtain rfl:=Option.some.inj hx4;exact Hc (rs:=[.tmp 2,.tmp 3]) Tryz.results127 (.tmp rfl (.tmp rfl (.nil))) (Ln:=[.r (y0.1) (r0.length) (y0.2) 3 1 (r0.flatMap Aq)]) ⟨y0.1,y0.2,rfl,rfl,trivial⟩ (By rfl (Gn)) (by exact .pick 0 rfl (.refl))
   ·refine Y6 ?_;obtain ⟨t0,hl0,ho0⟩:=Ar hx2;refine Az 3 1 ?_
    have hn1:0=(([]:List Int)).length:=by simp[Ip,Pe,List.length_append] <;> omega
    refine Rv (.here) (e':=.r (none) ((([]:List Int)).length) (0) 3 1 ((([]:List Int)).flatMap Aq)) (by first | (rw[<- hn1];done) | rfl) ?_;refine Lp (σ:=(List Int) × Int) (γ:=(Option Addr) × Nat) hl0 (fun s1 y1=>[(0,.slice (A0_0) (p0.length) (c0_0)),(4,.int .i64 (s3)),(5,.slice (y1.1) (s1.1.length) (y1.2)),(6,.int .i64 (s1.2))]) (fun s1 y1=>[.r (y1.1) (s1.1.length) (y1.2) 3 1 (s1.1.flatMap Aq)]++[.old w]) (fun s1 y1=>True) (none,0) trivial (by exact .pick 0 rfl (.refl)) ?_;intro s1 y1 hG2 x0 hx5 ht0;unfold Iu at hx5;refine Y8 ?_;refine Ti hx5 (s:=25) rfl (fun h2 hx6=>?_) (fun h2 hx7=>?_)
    ·refine Y5 ?_;refine T_dr [0,0,0,0,1,0,0,0,0,0,1,0,0,2,3,2] (.q 0 (.q 1 (.q 2 (.q 3 (.q 4 (.q 5 (.q 6 (.q 7 (.q 8 (.q 9 (.q 10 (.q 11 (.q 12 (.e 13 (.e 14 (.e 15 (.done) (.stop)) (.stop)) (.stop))))))))))))))) mixed (by kernel_rfl) (by kernel_rfl) ?_;refine Y3 ?_;obtain ⟨x1,h3,hx8⟩:=Ar hx6;have hw0:=Has.low (E:=[]) ha0' hK;obtain ⟨b0,o0,j1,hA0,hj0,hl1,hp0⟩:=Has.at_idx hw0 h3;refine P_p rfl rfl (Fw rfl rfl hA0 (j:=j1) hj0 hl1 Aoe) rfl ?_;refine P_q rfl rfl (Dy rfl hp0 (sb 1) rfl Adv) rfl ?_;refine P_p rfl rfl (Ad1 rfl rfl (by decide)) rfl ?_;refine P_p rfl rfl (Xu rfl (by kernel_rfl) Tryz.underlying3) rfl ?_;refine Y2 ?_;obtain ⟨x2,h4,hx9⟩:=Ar hx8;have hw2:=Has.low (E:=[]) ha0' hK;obtain ⟨b1,o1,j2,hA1,hj1,hl2,hp1⟩:=Has.at_idx hw2 h4;refine P_p rfl rfl (Fw rfl rfl hA1 (j:=j2) hj1 hl2 Aoe) rfl ?_;refine P_q rfl rfl (Dy rfl hp1 (sb 1) rfl Adv) rfl ?_;refine P_p rfl rfl (Aka rfl rfl (by decide)) rfl ?_;refine P_p rfl rfl (Xu rfl (by kernel_rfl) Tryz.underlying3) rfl ?_;refine P_x rfl (Di rfl (Ve _ _) rfl (fun g0=>?_)) ?_;rotate_left;exact Ct;obtain ⟨h5,hx10⟩:=Dr hx9;refine P_h rfl rfl (Ig Aq (s1.1) [w64 (Int.tmod x1 65536),w64 (wu32 (Int.tdiv x2 65536))] rfl rfl rfl Aoi (fun _=>rfl) (i':=0) rfl rfl rfl rfl h5 rfl (fun _ _=>.there (.here)) (fun _ _=>.drop .refl) (by decide) (fun A1 c1=>?_)) ?_
     rotate_left;exact Ct;refine P_x rfl (Pk (Fi rfl) rfl ?_) ?_;rotate_left;exact Ct;refine Y8 ?_;exact Rp (s1.1++[w64 (Int.tmod x1 65536),w64 (wu32 (Int.tdiv x2 65536))],w64 (s1.2+1)) (A1,c1) hx10 trivial (by exact .pick 0 rfl (.refl))
    ·refine Y3 ?_;obtain rfl:=Lc ht0 hx7;refine Y2 ?_;exact Mt s1.1 (y1.1,y1.2) ho0 trivial (by exact .pick 0 rfl (.refl))
 ·refine Y ?_;obtain ⟨t1,hl3,ho1⟩:=Ar hx;refine Lp (σ:=Int) (γ:=Unit) hl3 (fun s2 y2=>[(0,.slice (A0_0) (p0.length) (c0_0)),(4,.int .i64 (s2))]) (fun s2 y2=>[]++[.old w]) (fun s2 y2=>True) () trivial (by exact .refl) ?_;intro s2 y2 hG3 x3 hx21 ht1;unfold It at hx21;refine Y ?_;refine Tj (γ:=Unit) hx21 (fun s7 y7=>[(0,.slice (A0_0) (p0.length) (c0_0)),(4,.int .i64 (s2)),(18,.bool (s7))]) (fun s7 y7=>[]++[.old w]) (fun s7 y7=>True) (fun s7 y7 hx36 hG4=>?_) (fun j7 hx21=>?_)
  ·refine Hr (s:=18) rfl (fun h6=>?_) (fun h6=>?_)
   ·have hx39:=Jx h6 hx36;refine Y10 ?_;exact Rp (w64 (s2-1)) () hx39 trivial (by exact .refl)
   ·have hx40:=Mg h6 hx36;refine Y3 ?_;obtain rfl:=Lc ht1 hx40;refine Y2 ?_;exact Mt s2 () ho1 trivial (by exact .refl)
  ·refine Y4 ?_;refine Ti hx21 (s:=11) rfl (fun h7 hx23=>?_) (fun h7 hx35=>?_)
   ·refine Y3 ?_;obtain ⟨x4,h8,hx26⟩:=Ar hx23;have hw3:=Has.low (E:=[]) ha0' hK;obtain ⟨b2,o2,j4,hA2,hj2,hl4,hp2⟩:=Has.at_idx hw3 h8;refine Oi rfl rfl rfl (Fw rfl rfl hA2 (j:=j4) hj2 hl4 Aoe) rfl ?_;refine Oi rfl rfl rfl (Dy rfl hp2 (sb 0) rfl Adv) rfl ?_;refine Y3 ?_;exact Mt (decide (x4=0)) () hx26 trivial (by exact .refl)
   ·refine Y8 ?_;exact Mt false () hx35 trivial (by exact .refl)
set_option maxHeartbeats 1000000 in
set_option maxRecDepth 100000 in
instance lidarref01_limbs_c (p0:List Int):Con (Fo p0) Tryz.prog 127 (fun K vs=>∃ (A0_0:Option Addr) (c0_0:Nat),vs=[.slice (A0_0) ((p0).length) (c0_0)]/\Has K A0_0 (p0).length c0_0 1 Ao (p0)/\True) (fun _ r=>fun v Ln=>∃ (A0:Option Addr) (c0:Nat),v = .tuple #[.slice (A0) ((r.1).length) (c0),.bool (r.2)]/\Ln=[.r A0 (r.1).length c0 3 1 ((r.1).flatMap Aq)]/\True):=⟨by
 rintro K _ r ⟨A0_0,c0_0,rfl,ha0,-⟩ hx w hK;exact Zf p0 ha0 hx w hK⟩
set_option maxHeartbeats 1000000 in
set_option maxRecDepth 100000 in
instance lidarref01_Of_c (p0:As):Con (Pq p0) Tryz.prog 69 (fun K vs=>∃ (A0_0:Option Addr) (c0_0:Nat) (A0_1:Option Addr) (c0_1:Nat),vs=[.agg #[.bool (p0.Neg),.slice (A0_0) ((p0.Num).length) (c0_0),.slice (A0_1) ((p0.Den).length) (c0_1)]]/\Has K A0_0 (p0.Num).length c0_0 1 Ao (p0.Num)/\Has K A0_1 (p0.Den).length c0_1 1 Ao (p0.Den)/\True) (fun _ r=>fun v Ln=>∃ (A0:Option Addr) (c0:Nat) (A2:Option Addr) (c2:Nat),v = .tuple #[.agg #[.bool (r.1.N.Neg),.slice (A0) ((r.1.N.L).length) (c0),.slice (A2) ((r.1.D).length) (c2)],.bool (r.2)]/\Ln=[.r A0 (r.1.N.L).length c0 3 1 ((r.1.N.L).flatMap Aq),.r A2 (r.1.D).length c2 3 1 ((r.1.D).flatMap Aq)]/\True):=⟨by
 rintro K _ r ⟨A0_0,c0_0,A0_1,c0_1,rfl,ha0,ha1,-⟩ hx w hK;replace ha0:=Has.lo ha0 hK;replace ha1:=Has.lo ha1 hK;unfold Pq at hx;refine CtS Tryz.ntmps69 Tryz.results69 ?_;try (refine pre ?_;intros;rename_i hx)
 refine Bn ?_;try (refine pre ?_;intros;rename_i hx)
 apply Jr (γ:=Unit) hx [1,2,4,6] (fun s5 y5 f=>(25,.bool (s5))::f) [0,1,2,3,999] (fun s5 y5 l=>l);exact kk
 ·intro s5 y5 hx;refine Cq3 (s:=25) hx rfl (fun _ hx=>?_) (fun _ hx=>?_)
  ·exact au
  ·try (refine pre ?_;intros;rename_i hx)
   apply Jr (γ:=(Option Addr) × Nat) hx [1,2,4] (fun s7 y7 f=>(6,.slice (y7.1) ((s7).length) (y7.2))::f) [1,2,3,999] (fun s7 y7 l=>.r (y7.1) ((s7).length) (y7.2) 3 1 ((s7).flatMap Aq)::l);exact kk
   ·intro s7 y7 hx;exact au
   ·intro _ hx;try (refine pre ?_;intros;rename_i hx)
    refine Cq1 (s:=29) hx rfl (fun _ hx=>?_) (fun _ hx=>?_)
    ·try (refine pre ?_;intros;rename_i hx)
     (with_reducible apply Ag8 6 (sz:=1));exact rfl;exact aT;exact inferInstance;exact dL;exact (fun _=>rfl);exact rfl;exact rfl;exact sA
     exact au
    ·exact au
 ·intro _ hx;exact au⟩
end Go.Proofs.YtjfndjmabhbicaaGreat
