/- Walks of the program, with their plain functions: LabelSurfaces. -/
import Derived.Test.YtbkobeeileemjaaGreatQ2
namespace Go.Proofs.YtbkobeeileemjaaGreat
open Go Go.RowKit
theorem Tf (x0:Int) (x1:Int):Js Tryz.prog 32 [(0,.int .i64 x0),(1,.int .i64 x1)] [.int .i64 x0,.int .i64 x1]:=fun w=>by kernel_rfl
theorem Tg (x0:Int) (x1:Int) (x2:Int) (x3:Int) (x4:Int):Js Tryz.prog 66 [(0,.int .i64 x0),(3,.agg #[.int .i64 x1,.int .i64 x2]),(5,.int .i64 x3),(6,.int .i64 x4)] [.int .i64 x0,.int .i64 (0),.int .i64 (0),.int .i64 x1,.int .i64 x2,.int .i64 (0),.int .i64 x3,.int .i64 x4,.int .i64 (0)]:=fun w=>by kernel_rfl
theorem Pb (x0:Int) (x1:Int) (x2:Int) (x3:Int) (x4:Int) (x5:Int) (x6:Int):Js Tryz.prog 66 [(0,.int .i64 x0),(1,.int .i64 x1),(2,.int .i64 x2),(3,.agg #[.int .i64 x3,.int .i64 x4]),(5,.int .i64 x5),(6,.int .i64 x6)] [.int .i64 x0,.int .i64 x1,.int .i64 x2,.int .i64 x3,.int .i64 x4,.int .i64 (0),.int .i64 x5,.int .i64 x6,.int .i64 (0)]:=fun w=>by kernel_rfl
theorem Qx (x0:Int) (x1:Int) (x2:Int) (x3:Int) (x4:Int) (x5:Int):Js Tryz.prog 66 [(0,.int .i64 x0),(1,.int .i64 x1),(3,.agg #[.int .i64 x2,.int .i64 x3]),(5,.int .i64 x4),(6,.int .i64 x5)] [.int .i64 x0,.int .i64 x1,.int .i64 (0),.int .i64 x2,.int .i64 x3,.int .i64 (0),.int .i64 x4,.int .i64 x5,.int .i64 (0)]:=fun w=>by kernel_rfl
theorem Db (x0:Int) (x1:Int) (x2:Int) (x3:Int) (x4:Int) (x5:Int) (x6:Int) (x7:Int) (x8:Int) (x9:Int) (x10:Int) (x11:Int) (x12:Int) (x13:Int) (x14:Int) (x15:Int) (x16:Int) (x17:Int) (x18:Int) (x19:Int) (x20:Int) (x21:Int) (x22:Int) (x23:Int) (x24:Int) (x25:Int) (x26:Int):Dn Tryz.prog 47 3 [(0,.agg #[.int .i64 x0,.int .i64 x1,.int .i64 x2,.int .i64 x3,.int .i64 x4,.int .i64 x5,.int .i64 x6,.int .i64 x7,.int .i64 x8]),(1,.agg #[.int .i64 x9,.int .i64 x10,.int .i64 x11,.int .i64 x12,.int .i64 x13,.int .i64 x14,.int .i64 x15,.int .i64 x16,.int .i64 x17]),(2,.agg #[.int .i64 x18,.int .i64 x19,.int .i64 x20,.int .i64 x21,.int .i64 x22,.int .i64 x23,.int .i64 x24,.int .i64 x25,.int .i64 x26])] 66 [.int .i64 x0,.int .i64 x1,.int .i64 x2,.int .i64 x3,.int .i64 x4,.int .i64 x5,.int .i64 x6,.int .i64 x7,.int .i64 x8,.int .i64 x9,.int .i64 x10,.int .i64 x11,.int .i64 x12,.int .i64 x13,.int .i64 x14,.int .i64 x15,.int .i64 x16,.int .i64 x17,.int .i64 x18,.int .i64 x19,.int .i64 x20,.int .i64 x21,.int .i64 x22,.int .i64 x23,.int .i64 x24,.int .i64 x25,.int .i64 x26]:=fun w=>by kernel_rfl
theorem Aac (x0:Int) (x1:Int) (x2:Int):Js Tryz.prog 54 [(0,.int .i64 x0),(3,.int .i64 x1),(9,.int .i64 x2)] [.int .i64 x0,.int .i64 (0),.int .i64 (0),.int .i64 x1,.int .i64 (0),.int .i64 (0),.int .i64 (0),.int .i64 (0),.int .i64 (0),.int .i64 x2]:=fun w=>by kernel_rfl
noncomputable def Lq (p0:List Aa) (p1:Int):Option Bool :=
 jn (fun (s2:Bool) =>
 some s2)
 (fun j2=>if 300 < ((((p0).length:Nat):Int)) then (j2 true)
 else (if p1 < ((((p0).length:Nat):Int)) then (bnd (Ht p0) fun r6 =>
 j2 r6)
 else (j2 false)))
noncomputable def Fv  : Option Bool :=
 bnd (Ge ([(⟨0,0⟩:Ad),(⟨4,0⟩:Ad),(⟨4,4⟩:Ad),(⟨0,4⟩:Ad)]) (⟨4,2⟩:Ad)) fun r3 =>
 bnd (Ge ([(⟨0,0⟩:Ad),(⟨4,0⟩:Ad),(⟨4,4⟩:Ad),(⟨0,4⟩:Ad)]) (⟨5,2⟩:Ad)) fun r7 =>
 bnd (Mv ([(⟨1,0,0,(⟨3,3⟩:Dj),0,1,1,0⟩:Aa),(⟨2,5,5,(⟨1,1⟩:Dj),0,1,1,0⟩:Aa),(⟨3,12,0,(⟨2,2⟩:Dj),0,1,1,0⟩:Aa)]) (⟨10,0,0,1,0,0,0,0,0,1⟩:Bi)) fun r0 =>
 jn (fun (s6:Bool) =>
 some s6)
 (fun j6=>if r3.2=0 then (if r7.2=0 then (if r3.1=true then (if r7.1=true then (j6 false)
 else (if r0.2=0 then (if ((((r0.1).length:Nat):Int))=2 then (bnd (idx r0.1 0) fun x0 =>
 if x0=2 then (bnd (idx r0.1 1) fun x1 =>
 j6 (decide (x1=3)))
 else (j6 false))
 else (j6 false))
 else (j6 false)))
 else (j6 false))
 else (j6 false))
 else (j6 false))
noncomputable def Gf (p0:List Aa) (p1:List Int):Option Bool :=
 jn (fun (s3:Bool) =>
 if s3=true then (bnd (Fv) fun r0 =>
 some r0)
 else (bnd (Og p0 p1) fun r2 =>
 bnd (Im p0 p1) fun r3 =>
 jn (fun (s7:Bool) =>
 some s7)
 (fun j7=>if r2.2=r3.2 then (bnd (Hb r2.1 r3.1) fun r4 =>
 if r4=true then (bnd (Fv) fun r5 =>
 j7 r5)
 else (j7 false))
 else (j7 false))))
 (fun j3=>bnd (Lq p0 20) fun r1 =>
 if r1=true then (j3 true)
 else (j3 (decide (300 < ((((p1).length:Nat):Int))))))
set_option maxRecDepth 100000 in
theorem Aad (p0:List Aa) (p1:Int) {K:List Ent} {A0_0:Option Addr} {c0_0:Nat} (ha0:Has K A0_0 p0.length c0_0 9 Ao (p0)) {r:Bool} (hx:Lq p0 p1=some r) (w:World) (hK:∀ e∈K,Ent.ok w e):CtL Tryz.prog 21 [.slice (A0_0) (p0.length) (c0_0),.int .i64 (p1)] w fun v Ln=>v = .bool (r)∧Ln=[]∧True:=by
 have ha0':=Has.up0 ha0;refine CtL.mk 18 Tryz.func21 rfl Tryz.ntmps21 (by kernel_rfl) rfl ?_;show T 18 _ [(0,.slice (A0_0) (p0.length) (c0_0)),(1,.int .i64 (p1))] _;unfold Lq at hx;refine Y5 ?_;refine Tj (γ:=Unit) hx (fun s2 y2=>[(4,.bool (s2))]) (fun s2 y2=>[]++[.old w]) (fun s2 y2=>True) (fun s2 y2 hx0 hG0=>?_) (fun j2 hx=>?_)
 ·refine Y ?_;obtain rfl:=Option.some.inj hx0;exact Av (rs:=[.tmp 4]) Tryz.results21 (.tmp rfl (.nil)) (Ln:=[]) ⟨rfl,rfl,trivial⟩ (Ax) (by exact .refl)
 ·refine Y2 ?_;refine Af (Bf rfl 66 Tryz.underlying47) rfl ?_;refine Y2 ?_;refine Ti hx (s:=8) rfl (fun h1 hx2=>?_) (fun h1 hx3=>?_)
  ·refine Y11 ?_;exact Mt true () hx2 trivial (by exact .refl)
  ·refine Y ?_;refine Aq rfl rfl rfl (Bf rfl 66 Tryz.underlying47) rfl ?_;refine Y3 ?_;refine Ti hx3 (s:=13) rfl (fun h4 hx5=>?_) (fun h4 hx9=>?_)
   ·refine Y ?_;obtain ⟨r6,h7,hx8⟩:=Ac hx5;refine T_xG rfl rfl rfl (Aw rfl (fun w1 hw1=>Se p0 (Has.len' ha0') h7 w1 (Dz (K:=K) (K2:=[]) hK (by exact (sb 0)) (by exact (SubE.nil)) hw1)) rfl ?_);rintro _ _ hlo ⟨rfl,rfl,-⟩;refine Cs ?_;refine Y4 ?_;exact Mt r6 () hx8 trivial (by exact .refl)
   ·refine Y6 ?_;exact Mt false () hx9 trivial (by exact .refl)
set_option maxRecDepth 100000 in
theorem Sc   {r:Bool} (hx:Fv=some r) (w:World):CtL Tryz.prog 22 [] w fun v Ln=>v = .bool (r)∧Ln=[]∧True:=by
 refine CtL.mk 71 Tryz.func22 rfl Tryz.ntmps22 (by kernel_rfl) rfl ?_;unfold Fv at hx;refine Y7 ?_;refine Af (Bt rfl (Dy _ _)) rfl ?_;refine Af (Bt rfl (Dy _ _)) rfl ?_;refine Af (Bt rfl (Dy _ _)) rfl ?_;refine Af (Bt rfl (Dy _ _)) rfl ?_;refine T_x (Bk rfl (Fp _ _ _ _ _ _ _ _) rfl (fun g1=>?_));refine Y6 ?_;refine Af (Bt rfl (Dy _ _)) rfl ?_;have hs2:Has [.m g1 28 [.int .i64 (0),.int .i64 (0),.int .i64 (4),.int .i64 (0),.int .i64 (4),.int .i64 (4),.int .i64 (0),.int .i64 (4)]] (some ⟨g1,0,none⟩) 4 4 2 Gy [(⟨0,0⟩:Ad),(⟨4,0⟩:Ad),(⟨4,4⟩:Ad),(⟨0,4⟩:Ad)]:=Has.ofM (fun _ _=>rfl) rfl (by decide) rfl;obtain ⟨r3,h4,hx5⟩:=Ac hx;refine Tc (fun w1 hw1=>Wq ([(⟨0,0⟩:Ad),(⟨4,0⟩:Ad),(⟨4,4⟩:Ad),(⟨0,4⟩:Ad)]) (⟨4,2⟩:Ad) (Has.len' hs2) h4 w1 (Dr (K:=([.m g1 28 [.int .i64 (0),.int .i64 (0),.int .i64 (4),.int .i64 (0),.int .i64 (4),.int .i64 (4),.int .i64 (0),.int .i64 (4)]]:List Ent)) (by exact (sb 0)) hw1)) ?_;refine Y10 ?_;refine Af (Bt rfl (Dy _ _)) rfl ?_;have hs6:Has [.m g1 28 [.int .i64 (0),.int .i64 (0),.int .i64 (4),.int .i64 (0),.int .i64 (4),.int .i64 (4),.int .i64 (0),.int .i64 (4)]] (some ⟨g1,0,none⟩) 4 4 2 Gy [(⟨0,0⟩:Ad),(⟨4,0⟩:Ad),(⟨4,4⟩:Ad),(⟨0,4⟩:Ad)]:=Has.ofM (fun _ _=>rfl) rfl (by decide) rfl
 obtain ⟨r7,h8,hx9⟩:=Ac hx5;refine Tc (fun w1 hw1=>Wq ([(⟨0,0⟩:Ad),(⟨4,0⟩:Ad),(⟨4,4⟩:Ad),(⟨0,4⟩:Ad)]) (⟨5,2⟩:Ad) (Has.len' hs6) h8 w1 (Dr (K:=([.m g1 28 [.int .i64 (0),.int .i64 (0),.int .i64 (4),.int .i64 (0),.int .i64 (4),.int .i64 (4),.int .i64 (0),.int .i64 (4)]]:List Ent)) (by exact (sb 0)) hw1)) ?_;refine Y9 ?_;refine Af (Bt rfl (Tf _ _)) rfl ?_;refine Af (Bt rfl (Tg _ _ _ _ _)) rfl ?_;refine Af (Bt rfl (Tf _ _)) rfl ?_;refine Af (Bt rfl (Pb _ _ _ _ _ _ _)) rfl ?_;refine Af (Bt rfl (Tf _ _)) rfl ?_;refine Af (Bt rfl (Qx _ _ _ _ _ _)) rfl ?_;refine T_x (Bk rfl (Db _ _ _ _ _ _ _ _ _ _ _ _ _ _ _ _ _ _ _ _ _ _ _ _ _ _ _) rfl (fun g0=>?_));refine Af (Bt rfl (Aac _ _ _)) rfl ?_;have hs0:Has [.m g0 66 [.int .i64 (1),.int .i64 (0),.int .i64 (0),.int .i64 (3),.int .i64 (3),.int .i64 (0),.int .i64 (1),.int .i64 (1),.int .i64 (0),.int .i64 (2),.int .i64 (5),.int .i64 (5),.int .i64 (1),.int .i64 (1),.int .i64 (0),.int .i64 (1),.int .i64 (1),.int .i64 (0),.int .i64 (3),.int .i64 (12),.int .i64 (0),.int .i64 (2),.int .i64 (2),.int .i64 (0),.int .i64 (1),.int .i64 (1),.int .i64 (0)]] (some ⟨g0,0,none⟩) 3 3 9 Ao [(⟨1,0,0,(⟨3,3⟩:Dj),0,1,1,0⟩:Aa),(⟨2,5,5,(⟨1,1⟩:Dj),0,1,1,0⟩:Aa),(⟨3,12,0,(⟨2,2⟩:Dj),0,1,1,0⟩:Aa)]:=Has.ofM (fun _ _=>rfl) rfl (by decide) rfl
 obtain ⟨r0,h0,hx0⟩:=Ac hx9;refine T_x (Aw rfl (fun w1 hw1=>Ad4 ([(⟨1,0,0,(⟨3,3⟩:Dj),0,1,1,0⟩:Aa),(⟨2,5,5,(⟨1,1⟩:Dj),0,1,1,0⟩:Aa),(⟨3,12,0,(⟨2,2⟩:Dj),0,1,1,0⟩:Aa)]) (⟨10,0,0,1,0,0,0,0,0,1⟩:Bi) (Has.len' hs0) h0 w1 (Dr (K:=([.m g0 66 [.int .i64 (1),.int .i64 (0),.int .i64 (0),.int .i64 (3),.int .i64 (3),.int .i64 (0),.int .i64 (1),.int .i64 (1),.int .i64 (0),.int .i64 (2),.int .i64 (5),.int .i64 (5),.int .i64 (1),.int .i64 (1),.int .i64 (0),.int .i64 (1),.int .i64 (1),.int .i64 (0),.int .i64 (3),.int .i64 (12),.int .i64 (0),.int .i64 (2),.int .i64 (2),.int .i64 (0),.int .i64 (1),.int .i64 (1),.int .i64 (0)]]:List Ent)) (by exact (sb 0)) hw1)) rfl ?_);rintro _ _ hlo ⟨A0,c0,rfl,rfl,-⟩;refine Fw ?_;refine Y7 ?_;refine Tj (γ:=Unit) hx0 (fun s6 y6=>[(0,.bool (s6))]) (fun s6 y6=>[]++[.old w]) (fun s6 y6=>True) (fun s6 y6 hx1 hG0=>?_) (fun j6 hx0=>?_)
 ·refine Y ?_;obtain rfl:=Option.some.inj hx1;exact Av (rs:=[.tmp 0]) Tryz.results22 (.tmp rfl (.nil)) (Ln:=[]) ⟨rfl,rfl,trivial⟩ (Ax) (by exact .refl)
 ·refine Y4 ?_;refine Ti hx0 (s:=39) rfl (fun h1 hx2=>?_) (fun h1 hx3=>?_)
  ·refine Y4 ?_;refine Ti hx2 (s:=43) rfl (fun h2 hx4=>?_) (fun h2 hx6=>?_)
   ·refine Y3 ?_;refine By (s:=46) rfl (fun h3=>?_) (fun h3=>?_)
    ·have hx7:=Bx h3 hx4;refine Y4 ?_;refine Cz (s:=50) rfl (fun h5=>?_) (fun h5=>?_)
     ·have hx8:=Bn h5 hx7;refine Y4 ?_;refine Ti hx8 (s:=54) rfl (fun h6 hx26=>?_) (fun h6 hx55=>?_)
      ·refine Y ?_;refine Aq rfl rfl rfl (Bf rfl 3 Tryz.underlying48) rfl ?_;refine Y3 ?_;refine Ti hx26 (s:=59) rfl (fun h7 hx28=>?_) (fun h7 hx54=>?_)
       ·refine Y ?_;obtain ⟨x0,h9,hx31⟩:=Ac hx28;refine Ii (k:=0) rfl (by decide) (fun _=>rfl) h9 (fun b0 j0 hA0 hj0 hl0 hm0 hp0=>?_);refine Aq rfl rfl rfl (Az rfl rfl hA0 (j:=j0) hj0 hl0 Fn) rfl ?_;refine Aq rfl rfl rfl (Bu rfl hp0 (sb 0) rfl one3) rfl ?_;refine Y3 ?_;refine Ti hx31 (s:=65) rfl (fun h40 hx41=>?_) (fun h40 hx53=>?_)
        ·refine Y ?_;obtain ⟨x1,h43,hx44⟩:=Ac hx41;refine Ii (k:=0) rfl (by decide) (fun _=>rfl) h43 (fun b1 j1 hA1 hj1 hl1 hm1 hp1=>?_);refine Aq rfl rfl rfl (Az rfl rfl hA1 (j:=j1) hj1 hl1 Fn) rfl ?_;refine Aq rfl rfl rfl (Bu rfl hp1 (sb 0) rfl one3) rfl ?_;refine Y4 ?_;exact Mt (decide (x1=3)) () hx44 trivial (by exact .drop 0 rfl (.drop 0 rfl (.drop 0 rfl (.refl))))
        ·refine Y7 ?_;exact Mt false () hx53 trivial (by exact .drop 0 rfl (.drop 0 rfl (.drop 0 rfl (.refl))))
       ·(iterate 13 refine Y ?_);exact Mt false () hx54 trivial (by exact .drop 0 rfl (.drop 0 rfl (.drop 0 rfl (.refl))))
      ·(iterate 18 refine Y ?_);exact Mt false () hx55 trivial (by exact .drop 0 rfl (.drop 0 rfl (.drop 0 rfl (.refl))))
     ·have hx56:=Bx h5 hx7;(iterate 22 refine Y ?_);exact Mt false () hx56 trivial (by exact .drop 0 rfl (.drop 0 rfl (.drop 0 rfl (.refl))))
    ·have hx57:=Bn h3 hx4;(iterate 26 refine Y ?_);exact Mt false () hx57 trivial (by exact .drop 0 rfl (.drop 0 rfl (.drop 0 rfl (.refl))))
   ·(iterate 29 refine Y ?_);exact Mt false () hx6 trivial (by exact .drop 0 rfl (.drop 0 rfl (.drop 0 rfl (.refl))))
  ·(iterate 33 refine Y ?_);exact Mt false () hx3 trivial (by exact .drop 0 rfl (.drop 0 rfl (.drop 0 rfl (.refl))))
set_option maxRecDepth 100000 in
theorem Sm (p0:List Aa) (p1:List Int) {K:List Ent} {A0_0:Option Addr} {c0_0:Nat} {A0_1:Option Addr} {c0_1:Nat} (ha0:Has K A0_0 p0.length c0_0 9 Ao (p0)) (ha1:Has K A0_1 p1.length c0_1 1 Bs (p1)) {r:Bool} (hx:Gf p0 p1=some r) (w:World) (hK:∀ e∈K,Ent.ok w e):CtL Tryz.prog 4 [.slice (A0_0) (p0.length) (c0_0),.slice (A0_1) (p1.length) (c0_1)] w fun v Ln=>v = .bool (r)∧Ln=[]∧True:=by
 have ha0':=Has.up0 ha0;have ha1':=Has.up0 ha1;refine CtL.mk 40 Tryz.func4 rfl Tryz.ntmps4 (by kernel_rfl) rfl ?_;show T 40 _ [(0,.slice (A0_0) (p0.length) (c0_0)),(1,.slice (A0_1) (p1.length) (c0_1))] _;unfold Gf at hx;refine Y6 ?_;refine Tj (γ:=Unit) hx (fun s3 y3=>[(0,.slice (A0_0) (p0.length) (c0_0)),(1,.slice (A0_1) (p1.length) (c0_1)),(15,.bool (s3))]) (fun s3 y3=>[]++[.old w]) (fun s3 y3=>True) (fun s3 y3 hx7 hG8=>?_) (fun j3 hx=>?_)
 ·refine By (s:=15) rfl (fun h9=>?_) (fun h9=>?_)
  ·have hx0:=Bx h9 hx7;refine Y3 ?_;obtain ⟨r0,h0,hx1⟩:=Ac hx0;refine Tc (fun w1 hw1=>Sc  h0 w1) ?_;refine Y5 ?_;obtain rfl:=Option.some.inj hx1;exact Av (rs:=[.tmp 4]) Tryz.results4 (.tmp rfl (.nil)) (Ln:=[]) ⟨rfl,rfl,trivial⟩ (Ax) (by exact .refl)
  ·have hx2:=Bn h9 hx7;refine Y7 ?_;obtain ⟨r2,h1,hx4⟩:=Ac hx2;refine T_x (Aw rfl (fun w1 hw1=>Acc p0 p1 (Has.len' ha0') (Has.len' ha1') h1 w1 (Dz (K:=K) (K2:=[]) hK (by exact (sb 0)) (by exact (SubE.nil)) hw1)) rfl ?_);rintro _ _ hlo ⟨A0,c0,A1,c1,A2,c2,rfl,rfl,-⟩;refine Ng ?_;refine Y3 ?_;refine T_x (Bp Zo rfl (fun g0=>?_));refine T_h (Bc rfl rfl rfl (.here) (.put (.put (.put (.done)))) rfl (List.cons_ne_nil _ _) Fl.2 ?_);refine Y7 ?_;obtain ⟨r3,h3,hx8⟩:=Ac hx4;refine T_x (Aw rfl (fun w1 hw1=>Ww p0 p1 (Has.len' ha0') (Has.len' ha1') h3 w1 (Dz (K:=K) (K2:=[]) hK (by exact (sb 4)) (by exact (SubE.nil)) hw1)) rfl ?_);rintro _ _ hlo ⟨A3,c3,A4,c4,A5,c5,rfl,rfl,-⟩;refine Ng ?_;refine Y3 ?_;refine T_x (Bp Zo rfl (fun g1=>?_));refine T_h (Bc rfl rfl rfl (.here) (.put (.put (.put (.done)))) rfl (List.cons_ne_nil _ _) Fl.2 ?_);refine Y3 ?_;refine Tj (γ:=Unit) hx8 (fun s7 y7=>[(4,.bool (s7))]) (fun s7 y7=>[]++[.old w]) (fun s7 y7=>True) (fun s7 y7 hx9 hG0=>?_) (fun j7 hx8=>?_)
   ·refine Y ?_;obtain rfl:=Option.some.inj hx9;exact Av (rs:=[.tmp 4]) Tryz.results4 (.tmp rfl (.nil)) (Ln:=[]) ⟨rfl,rfl,trivial⟩ (Ax) (by exact .refl)
   ·refine Y5 ?_;refine Ti hx8 (s:=32) rfl (fun h5 hx36=>?_) (fun h5 hx58=>?_)
    ·refine Aq rfl rfl rfl (Au rfl (i:=4) rfl rfl Fl) rfl ?_;refine Aq rfl rfl rfl (Au rfl (i:=0) rfl rfl Fl) rfl ?_;refine Dh (k:=5) rfl (by decide) (fun _=>rfl) (fun hn0 hs0=>?_);refine Dh (k:=6) rfl (by decide) (fun _=>rfl) (fun hn1 hs1=>?_);refine Dh (k:=7) rfl (by decide) (fun _=>rfl) (fun hn2 hs2=>?_);refine Dh (k:=1) rfl (by decide) (fun _=>rfl) (fun hn3 hs3=>?_);refine Dh (k:=2) rfl (by decide) (fun _=>rfl) (fun hn4 hs4=>?_);refine Dh (k:=3) rfl (by decide) (fun _=>rfl) (fun hn5 hs5=>?_);obtain ⟨r4,h6,hx51⟩:=Ac hx36;refine T_xG rfl rfl rfl (Aw rfl (fun w1 hw1=>We r2.1 r3.1 (Has.len' (Has.up (L:=([.r (A0) (r2.1.V.length) (c0) 34 4 (r2.1.V.flatMap Ak),.r (A1) (r2.1.T.length) (c1) 26 3 (r2.1.T.flatMap Ba),.r (A2) (r2.1.Lines.length) (c2) 97 2 (r2.1.Lines.flatMap Ar),.r (A3) (r3.1.V.length) (c3) 34 4 (r3.1.V.flatMap Ak),.r (A4) (r3.1.T.length) (c4) 26 3 (r3.1.T.flatMap Ba),.r (A5) (r3.1.Lines.length) (c5) 97 2 (r3.1.Lines.flatMap Ar)]:List Ent)) hs0 (sb 0))) (Has.len' (Has.up (L:=([.r (A0) (r2.1.V.length) (c0) 34 4 (r2.1.V.flatMap Ak),.r (A1) (r2.1.T.length) (c1) 26 3 (r2.1.T.flatMap Ba),.r (A2) (r2.1.Lines.length) (c2) 97 2 (r2.1.Lines.flatMap Ar),.r (A3) (r3.1.V.length) (c3) 34 4 (r3.1.V.flatMap Ak),.r (A4) (r3.1.T.length) (c4) 26 3 (r3.1.T.flatMap Ba),.r (A5) (r3.1.Lines.length) (c5) 97 2 (r3.1.Lines.flatMap Ar)]:List Ent)) hs1 (sb 1))) (Has.len' (Has.up (L:=([.r (A0) (r2.1.V.length) (c0) 34 4 (r2.1.V.flatMap Ak),.r (A1) (r2.1.T.length) (c1) 26 3 (r2.1.T.flatMap Ba),.r (A2) (r2.1.Lines.length) (c2) 97 2 (r2.1.Lines.flatMap Ar),.r (A3) (r3.1.V.length) (c3) 34 4 (r3.1.V.flatMap Ak),.r (A4) (r3.1.T.length) (c4) 26 3 (r3.1.T.flatMap Ba),.r (A5) (r3.1.Lines.length) (c5) 97 2 (r3.1.Lines.flatMap Ar)]:List Ent)) hs2 (sb 2))) (Has.len' (Has.up (L:=([.r (A0) (r2.1.V.length) (c0) 34 4 (r2.1.V.flatMap Ak),.r (A1) (r2.1.T.length) (c1) 26 3 (r2.1.T.flatMap Ba),.r (A2) (r2.1.Lines.length) (c2) 97 2 (r2.1.Lines.flatMap Ar),.r (A3) (r3.1.V.length) (c3) 34 4 (r3.1.V.flatMap Ak),.r (A4) (r3.1.T.length) (c4) 26 3 (r3.1.T.flatMap Ba),.r (A5) (r3.1.Lines.length) (c5) 97 2 (r3.1.Lines.flatMap Ar)]:List Ent)) hs3 (sb 3))) (Has.len' (Has.up (L:=([.r (A0) (r2.1.V.length) (c0) 34 4 (r2.1.V.flatMap Ak),.r (A1) (r2.1.T.length) (c1) 26 3 (r2.1.T.flatMap Ba),.r (A2) (r2.1.Lines.length) (c2) 97 2 (r2.1.Lines.flatMap Ar),.r (A3) (r3.1.V.length) (c3) 34 4 (r3.1.V.flatMap Ak),.r (A4) (r3.1.T.length) (c4) 26 3 (r3.1.T.flatMap Ba),.r (A5) (r3.1.Lines.length) (c5) 97 2 (r3.1.Lines.flatMap Ar)]:List Ent)) hs4 (sb 4))) (Has.len' (Has.up (L:=([.r (A0) (r2.1.V.length) (c0) 34 4 (r2.1.V.flatMap Ak),.r (A1) (r2.1.T.length) (c1) 26 3 (r2.1.T.flatMap Ba),.r (A2) (r2.1.Lines.length) (c2) 97 2 (r2.1.Lines.flatMap Ar),.r (A3) (r3.1.V.length) (c3) 34 4 (r3.1.V.flatMap Ak),.r (A4) (r3.1.T.length) (c4) 26 3 (r3.1.T.flatMap Ba),.r (A5) (r3.1.Lines.length) (c5) 97 2 (r3.1.Lines.flatMap Ar)]:List Ent)) hs5 (sb 5))) h6 w1 (Dr (K:=([.r (A0) (r2.1.V.length) (c0) 34 4 (r2.1.V.flatMap Ak),.r (A1) (r2.1.T.length) (c1) 26 3 (r2.1.T.flatMap Ba),.r (A2) (r2.1.Lines.length) (c2) 97 2 (r2.1.Lines.flatMap Ar),.r (A3) (r3.1.V.length) (c3) 34 4 (r3.1.V.flatMap Ak),.r (A4) (r3.1.T.length) (c4) 26 3 (r3.1.T.flatMap Ba),.r (A5) (r3.1.Lines.length) (c5) 97 2 (r3.1.Lines.flatMap Ar)]:List Ent)) (by exact (SubE.cons2 (i:=5) rfl (SubE.cons2 (i:=6) rfl (SubE.cons2 (i:=7) rfl (SubE.cons2 (i:=1) rfl (SubE.cons2 (i:=2) rfl (sb 3))))))) hw1)) rfl ?_)
     rintro _ _ hlo ⟨rfl,rfl,-⟩;refine Cs ?_;refine Y2 ?_;refine By (s:=37) rfl (fun h7=>?_) (fun h7=>?_)
     ·have hx53:=Bx h7 hx51;obtain ⟨r5,h8,hx56⟩:=Ac hx53;refine T_xG rfl rfl rfl (Aw rfl (fun w1 hw1=>Sc  h8 w1) rfl ?_);rintro _ _ hlo ⟨rfl,rfl,-⟩;refine Cs ?_;refine Y3 ?_;exact Mt r5 () hx56 trivial (by exact .drop 0 rfl (.drop 0 rfl (.drop 0 rfl (.drop 0 rfl (.drop 0 rfl (.drop 0 rfl (.drop 0 rfl (.drop 0 rfl (.refl)))))))))
     ·have hx57:=Bn h7 hx51;refine Y4 ?_;exact Mt false () hx57 trivial (by exact .drop 0 rfl (.drop 0 rfl (.drop 0 rfl (.drop 0 rfl (.drop 0 rfl (.drop 0 rfl (.drop 0 rfl (.drop 0 rfl (.refl)))))))))
    ·refine Y9 ?_;exact Mt false () hx58 trivial (by exact .drop 0 rfl (.drop 0 rfl (.drop 0 rfl (.drop 0 rfl (.drop 0 rfl (.drop 0 rfl (.drop 0 rfl (.drop 0 rfl (.refl)))))))))
 ·refine Y2 ?_;obtain ⟨r1,h2,hx3⟩:=Ac hx;refine Tc (fun w1 hw1=>Aad p0 20 (Has.len' ha0') h2 w1 (Dz (K:=K) (K2:=[]) hK (by exact (sb 0)) (by exact (SubE.nil)) hw1)) ?_;refine Y ?_;refine By (s:=11) rfl (fun h4=>?_) (fun h4=>?_)
  ·have hx5:=Bx h4 hx3;refine Y5 ?_;exact Mt true () hx5 trivial (by exact .refl)
  ·have hx6:=Bn h4 hx3;refine Y ?_;refine Aq rfl rfl rfl (Bf rfl 3 Tryz.underlying48) rfl ?_;refine Y3 ?_;exact Mt (decide (300 < (((p1.length:Nat):Int)))) () hx6 trivial (by exact .refl)
end Go.Proofs.YtbkobeeileemjaaGreat
