/- Walks of the program, with their plain functions: the same mesh. -/
import Derived.Test.YtbkobeeileemjaaGreatE1
namespace Go.Proofs.YtbkobeeileemjaaGreat
open Go Go.RowKit
theorem Abq:Cx Tryz.prog 40 0 0:=.mk Tryz.underlying40 rfl rfl (show Tryz.prog.info? 22=some Tryz.t22 from by kernel_rfl) (show Tryz.t22.size=1 from by kernel_rfl) rfl
theorem Abr:Cx Tryz.prog 40 1 1:=.mk Tryz.underlying40 rfl rfl (show Tryz.prog.info? 38=some Tryz.t38 from by kernel_rfl) (show Tryz.t38.size=1 from by kernel_rfl) rfl
theorem Aiq:Pq Tryz.prog 38:=.mk Tryz.underlying38 rfl (show Tryz.prog.info? 38=some Tryz.t38 from by kernel_rfl) (by kernel_rfl)
theorem Ag9:Cx Tryz.prog 40 2 2:=.mk Tryz.underlying40 rfl rfl (show Tryz.prog.info? 23=some Tryz.t23 from by kernel_rfl) (show Tryz.t23.size=1 from by kernel_rfl) rfl
theorem Aos:Pq Tryz.prog 23:=.mk Tryz.underlying23 rfl (show Tryz.prog.info? 23=some Tryz.t23 from by kernel_rfl) (by kernel_rfl)
theorem Atp (a0:Int) (a1:Int) (a2:Int) (a3:Int) (b0:Int) (b1:Int) (b2:Int) (b3:Int):∀ w,(Op.equalIn 10000 34 (.agg #[.int .i64 (a0),.int .i64 (a1),.int .i64 (a2),.int .i64 (a3)]) (.agg #[.int .i64 (b0),.int .i64 (b1),.int .i64 (b2),.int .i64 (b3)])).run Tryz.prog w = .ok ((((a0) == (b0)) && (((a1) == (b1)) && ((((a2) == (b2)) && (((a3) == (b3)) && true)) && true)))) w :=
 EqF.struct Tryz.underlying34 (by kernel_rfl) (.cons rfl (fun w=>by kernel_rfl) (fun w=>by kernel_rfl) (fun w=>run_equalIn_int w 9998 3 .i64 .i64 _ _ Tryz.underlying3) (.cons rfl (fun w=>by kernel_rfl) (fun w=>by kernel_rfl) (fun w=>run_equalIn_int w 9998 3 .i64 .i64 _ _ Tryz.underlying3) (.cons (a:=.agg #[.int .i64 (a2),.int .i64 (a3)]) (b:=.agg #[.int .i64 (b2),.int .i64 (b3)]) rfl (fun w=>by kernel_rfl) (fun w=>by kernel_rfl) (EqF.struct Tryz.underlying32 (by kernel_rfl) (.cons rfl (fun w=>by kernel_rfl) (fun w=>by kernel_rfl) (fun w=>run_equalIn_int w 9997 3 .i64 .i64 _ _ Tryz.underlying3) (.cons rfl (fun w=>by kernel_rfl) (fun w=>by kernel_rfl) (fun w=>run_equalIn_int w 9997 3 .i64 .i64 _ _ Tryz.underlying3) (EqF.nil)))) (EqF.nil))))
theorem Ac6:Ka Tryz.prog 38 26 3:=.mk Tryz.underlying38 (show Tryz.prog.info? 26=some Tryz.t26 from by kernel_rfl) (by kernel_rfl)
theorem Ua:Pp Tryz.prog 26 3:=.arr Tryz.underlying26 (show Tryz.prog.info? 26=some Tryz.t26 from by kernel_rfl) (by kernel_rfl)
theorem Atq (a0:Int) (a1:Int) (a2:Int) (b0:Int) (b1:Int) (b2:Int):∀ w,(Op.equalIn 10000 26 (.agg #[.int .i64 (a0),.int .i64 (a1),.int .i64 (a2)]) (.agg #[.int .i64 (b0),.int .i64 (b1),.int .i64 (b2)])).run Tryz.prog w = .ok ((((a0) == (b0)) && (((a1) == (b1)) && (((a2) == (b2)) && true)))) w :=
 EqI.array (c:=1) Tryz.underlying26 (show Tryz.prog.info? 3=some Tryz.t3 from by kernel_rfl) (by kernel_rfl) (.cons (fun w=>by kernel_rfl) (fun w=>by kernel_rfl) (fun w=>run_equalIn_int w 9998 3 .i64 .i64 _ _ Tryz.underlying3) (.cons (fun w=>by kernel_rfl) (fun w=>by kernel_rfl) (fun w=>run_equalIn_int w 9998 3 .i64 .i64 _ _ Tryz.underlying3) (.cons (fun w=>by kernel_rfl) (fun w=>by kernel_rfl) (fun w=>run_equalIn_int w 9998 3 .i64 .i64 _ _ Tryz.underlying3) (EqI.nil))))
noncomputable def Ed (p0:Bz) (p1:Bz):Int→Option (Sum Int (Sum Unit Bool)):=fun s0 =>
 if s0 < ((((p0.V).length:Nat):Int)) then (bnd (idx p0.V s0) fun x0 =>
 bnd (idx p1.V s0) fun x1 =>
 if ((((x0.X) == (x1.X)) && (((x0.Y) == (x1.Y)) && ((((x0.Z.Lo) == (x1.Z.Lo)) && (((x0.Z.Hi) == (x1.Z.Hi)) && true)) && true))))=true then (some (.inl (w64 (s0+1))))
 else (some (.inr (.inr (false)))))
 else (some (.inr (.inl ())))
noncomputable def Du (p0:Bz) (p1:Bz):Int→Option (Sum Int (Sum Unit Bool)):=fun s0 =>
 if s0 < ((((p0.T).length:Nat):Int)) then (bnd (idx p0.T s0) fun x0 =>
 bnd (idx p1.T s0) fun x1 =>
 if ((((x0.a0) == (x1.a0)) && (((x0.a1) == (x1.a1)) && (((x0.a2) == (x1.a2)) && true))))=true then (some (.inl (w64 (s0+1))))
 else (some (.inr (.inr (false)))))
 else (some (.inr (.inl ())))
noncomputable def Gr (p0:Bz):Int→Option (Sum Int Unit):=fun s0 =>
 if s0 < ((((p0.Lines).length:Nat):Int)) then (none)
 else (some (.inr ()))
noncomputable def Hb (p0:Bz) (p1:Bz):Option Bool :=
 jn (fun (s3:Bool) =>
 if s3=true then (some false)
 else (jn (fun (s5:Unit) =>
 jn (fun (s0:Unit) =>
 jn (fun (s1:Unit) =>
 some true)
 (fun j0=>bnd (lfix (Gr p0) 0) fun t0 =>
 j0 t0))
 (fun j1=>bnd (lfix (Du p0 p1) 0) fun t1 =>
 (match t1 with
 | (.inl z0)=>j1 z0
 | (.inr (z0))=>some z0
 )))
 (fun j5=>bnd (lfix (Ed p0 p1) 0) fun t2 =>
 (match t2 with
 | (.inl z1)=>j5 z1
 | (.inr (z1))=>some z1
 ))))
 (fun j3=>if ((((p0.V).length:Nat):Int))=((((p1.V).length:Nat):Int)) then (if ((((p0.T).length:Nat):Int))=((((p1.T).length:Nat):Int)) then (j3 (!(decide (((((p0.Lines).length:Nat):Int))=((((p1.Lines).length:Nat):Int))))))
 else (j3 true))
 else (j3 true))
set_option maxRecDepth 100000 in
theorem We (p0:Bz) (p1:Bz) {K:List Ent} {A0_0:Option Addr} {c0_0:Nat} {A0_1:Option Addr} {c0_1:Nat} {A0_2:Option Addr} {c0_2:Nat} {A0_3:Option Addr} {c0_3:Nat} {A0_4:Option Addr} {c0_4:Nat} {A0_5:Option Addr} {c0_5:Nat} (ha0:Has K A0_0 p0.V.length c0_0 4 Ak (p0.V)) (ha1:Has K A0_1 p0.T.length c0_1 3 Ba (p0.T)) (ha2:Has K A0_2 p0.Lines.length c0_2 2 Ar (p0.Lines)) (ha3:Has K A0_3 p1.V.length c0_3 4 Ak (p1.V)) (ha4:Has K A0_4 p1.T.length c0_4 3 Ba (p1.T)) (ha5:Has K A0_5 p1.Lines.length c0_5 2 Ar (p1.Lines)) {r:Bool} (hx:Hb p0 p1=some r) (w:World) (hK:∀ e∈K,Ent.ok w e):CtL Tryz.prog 25 [.agg #[.slice (A0_0) (p0.V.length) (c0_0),.slice (A0_1) (p0.T.length) (c0_1),.slice (A0_2) (p0.Lines.length) (c0_2)],.agg #[.slice (A0_3) (p1.V.length) (c0_3),.slice (A0_4) (p1.T.length) (c0_4),.slice (A0_5) (p1.Lines.length) (c0_5)]] w fun v Ln=>v = .bool (r)∧Ln=[]∧True:=by
 have ha0':=Has.up0 ha0;have ha1':=Has.up0 ha1;have ha2':=Has.up0 ha2;have ha3':=Has.up0 ha3;have ha4':=Has.up0 ha4;have ha5':=Has.up0 ha5;refine CtL.mk 87 Tryz.func25 rfl Tryz.ntmps25 (by kernel_rfl) rfl ?_;show T 87 _ [(0,.agg #[.slice (A0_0) (p0.V.length) (c0_0),.slice (A0_1) (p0.T.length) (c0_1),.slice (A0_2) (p0.Lines.length) (c0_2)]),(1,.agg #[.slice (A0_3) (p1.V.length) (c0_3),.slice (A0_4) (p1.T.length) (c0_4),.slice (A0_5) (p1.Lines.length) (c0_5)])] _;unfold Hb at hx;refine Y2 ?_;refine T_x (Bl rfl rfl rfl (fun g1=>?_));refine T_x (Bl rfl rfl rfl (fun g2=>?_));refine Y4 ?_;refine Tj (γ:=Unit) hx (fun s3 y3=>[(2,.pointer (some ⟨g1,0,none⟩)),(3,.pointer (some ⟨g2,0,none⟩)),(32,.bool (s3))]) (fun s3 y3=>[.m g2 40 [.slice (A0_3) (p1.V.length) (c0_3),.slice (A0_4) (p1.T.length) (c0_4),.slice (A0_5) (p1.Lines.length) (c0_5)],.m g1 40 [.slice (A0_0) (p0.V.length) (c0_0),.slice (A0_1) (p0.T.length) (c0_1),.slice (A0_2) (p0.Lines.length) (c0_2)]]++[.old w]) (fun s3 y3=>True) (fun s3 y3 hx9 hG0=>?_) (fun j3 hx=>?_)
 ·refine By (s:=32) rfl (fun h0=>?_) (fun h0=>?_)
  ·have hx0:=Bx h0 hx9;refine Y8 ?_;obtain rfl:=Option.some.inj hx0;exact Av (rs:=[.tmp 4]) Tryz.results25 (.tmp rfl (.nil)) (Ln:=[]) ⟨rfl,rfl,trivial⟩ (Ax) (by exact .drop 0 rfl (.drop 0 rfl (.refl)))
  ·have hx1:=Bn h0 hx9;refine Y3 ?_;refine Tj (γ:=Unit) hx1 (fun s5 y5=>[(2,.pointer (some ⟨g1,0,none⟩)),(3,.pointer (some ⟨g2,0,none⟩))]) (fun s5 y5=>[.m g2 40 [.slice (A0_3) (p1.V.length) (c0_3),.slice (A0_4) (p1.T.length) (c0_4),.slice (A0_5) (p1.Lines.length) (c0_5)],.m g1 40 [.slice (A0_0) (p0.V.length) (c0_0),.slice (A0_1) (p0.T.length) (c0_1),.slice (A0_2) (p0.Lines.length) (c0_2)]]++[.old w]) (fun s5 y5=>True) (fun s5 y5 hx2 hG1=>?_) (fun j5 hx1=>?_)
   ·refine Tj (γ:=Unit) hx2 (fun s0 y0=>[(2,.pointer (some ⟨g1,0,none⟩)),(3,.pointer (some ⟨g2,0,none⟩))]) (fun s0 y0=>[.m g2 40 [.slice (A0_3) (p1.V.length) (c0_3),.slice (A0_4) (p1.T.length) (c0_4),.slice (A0_5) (p1.Lines.length) (c0_5)],.m g1 40 [.slice (A0_0) (p0.V.length) (c0_0),.slice (A0_1) (p0.T.length) (c0_1),.slice (A0_2) (p0.Lines.length) (c0_2)]]++[.old w]) (fun s0 y0=>True) (fun s0 y0 hx3 hG2=>?_) (fun j0 hx2=>?_)
    ·refine Tj (γ:=Unit) hx3 (fun s1 y1=>[]) (fun s1 y1=>[]++[.old w]) (fun s1 y1=>True) (fun s1 y1 hx6 hG3=>?_) (fun j1 hx3=>?_)
     ·refine Y6 ?_;obtain rfl:=Option.some.inj hx6;exact Av (rs:=[.tmp 4]) Tryz.results25 (.tmp rfl (.nil)) (Ln:=[]) ⟨rfl,rfl,trivial⟩ (Ax) (by exact .refl)
     ·refine Y2 ?_;refine Af (Ah rfl Ag9 rfl) rfl ?_;refine Af (Ag rfl (i:=1) rfl rfl Aos) rfl ?_;refine Af (Bf rfl 97 Tryz.underlying23) rfl ?_;refine Y4 ?_;obtain ⟨t0,hl0,ho0⟩:=Ac hx3;refine Lp (σ:=Int) (γ:=Unit) hl0 (fun s2 y2=>[(2,.pointer (some ⟨g1,0,none⟩)),(3,.pointer (some ⟨g2,0,none⟩)),(71,.int .i64 (((p0.Lines.length:Nat):Int))),(72,.int .i64 (s2))]) (fun s2 y2=>[.m g2 40 [.slice (A0_3) (p1.V.length) (c0_3),.slice (A0_4) (p1.T.length) (c0_4),.slice (A0_5) (p1.Lines.length) (c0_5)],.m g1 40 [.slice (A0_0) (p0.V.length) (c0_0),.slice (A0_1) (p0.T.length) (c0_1),.slice (A0_2) (p0.Lines.length) (c0_2)]]++[.old w]) (fun s2 y2=>True) () trivial (by exact .pick 0 rfl (.pick 0 rfl (.refl))) ?_;intro s2 y2 hG4 x0 hx10 ht0;unfold Gr at hx10;refine Y6 ?_;refine Ti hx10 (s:=73) rfl (fun h1 hx11=>?_) (fun h1 hx14=>?_)
      ·exact Rh hx11
      ·refine Y3 ?_;obtain rfl:=Bd ht0 hx14;refine Y2 ?_;exact Mt () () ho0 trivial (by exact .drop 0 rfl (.drop 0 rfl (.refl)))
    ·refine Y2 ?_;refine Af (Ah rfl Abr rfl) rfl ?_;refine Af (Ag rfl (i:=1) rfl rfl Aiq) rfl ?_;refine Af (Bf rfl 26 Tryz.underlying38) rfl ?_;refine Y4 ?_;obtain ⟨t1,hl1,ho1⟩:=Ac hx2;refine Lp (σ:=Int) (γ:=Unit) hl1 (fun s4 y4=>[(2,.pointer (some ⟨g1,0,none⟩)),(3,.pointer (some ⟨g2,0,none⟩)),(53,.int .i64 (((p0.T.length:Nat):Int))),(54,.int .i64 (s4))]) (fun s4 y4=>[.m g2 40 [.slice (A0_3) (p1.V.length) (c0_3),.slice (A0_4) (p1.T.length) (c0_4),.slice (A0_5) (p1.Lines.length) (c0_5)],.m g1 40 [.slice (A0_0) (p0.V.length) (c0_0),.slice (A0_1) (p0.T.length) (c0_1),.slice (A0_2) (p0.Lines.length) (c0_2)]]++[.old w]) (fun s4 y4=>True) () trivial (by exact .pick 0 rfl (.pick 0 rfl (.refl))) ?_;intro s4 y4 hG5 x1 hx15 ht1;unfold Du at hx15;refine Y6 ?_;refine Ti hx15 (s:=55) rfl (fun h2 hx16=>?_) (fun h2 hx17=>?_)
     ·refine Y12 ?_;refine T_dr [0,1,0,0,1,0,1,0,0,1,0] (.q 0 (.q 1 (.q 2 (.q 3 (.q 4 (.q 5 (.q 6 (.q 7 (.q 8 (.q 9 (.q 10 (.done)))))))))))) mixed (by kernel_rfl) (by kernel_rfl) ?_;refine P_p rfl rfl (Ah rfl Abr rfl) rfl ?_;refine P_q rfl rfl (Ag rfl (i:=1) rfl rfl Aiq) rfl ?_;refine Y ?_;obtain ⟨x2,h4,hx18⟩:=Ac hx16;refine P_il (Has.low (E:=[]) ha1' hK) h4 Ac6 Ua (sb 2) (fun b0 o0=>?_);refine P_p rfl rfl (Ah rfl Abr rfl) rfl ?_;refine P_q rfl rfl (Ag rfl (i:=0) rfl rfl Aiq) rfl ?_;refine Y ?_;obtain ⟨x3,h5,hx19⟩:=Ac hx18;refine P_il (Has.low (E:=[]) ha4' hK) h5 Ac6 Ua (sb 2) (fun b1 o1=>?_);refine P_p rfl rfl (Alz rfl rfl (by kernel_rfl) (Atq _ _ _ _ _ _)) rfl ?_;refine Y2 ?_;refine Cz (s:=67) rfl (fun h7=>?_) (fun h7=>?_)
      ·have hx20:=Bn h7 hx19;refine Y9 ?_;obtain rfl:=Bd ht1 hx20;refine Y3 ?_;obtain rfl:=Option.some.inj ho1;exact Av (rs:=[.tmp 4]) Tryz.results25 (.tmp rfl (.nil)) (Ln:=[]) ⟨rfl,rfl,trivial⟩ (Ax) (by exact .drop 0 rfl (.drop 0 rfl (.refl)))
      ·have hx21:=Bx h7 hx19;refine Y8 ?_;exact Rp (w64 (s4+1)) () hx21 trivial (by exact .pick 0 rfl (.pick 0 rfl (.refl)))
     ·refine Y3 ?_;obtain rfl:=Bd ht1 hx17;refine Y2 ?_;exact Mt () () ho1 trivial (by exact .pick 0 rfl (.pick 0 rfl (.refl)))
   ·refine Y2 ?_;refine Af (Ah rfl Abq rfl) rfl ?_;refine Af (Ag rfl (i:=1) rfl rfl Xd) rfl ?_;refine Af (Bf rfl 34 Tryz.underlying22) rfl ?_;refine Y4 ?_;obtain ⟨t2,hl2,ho2⟩:=Ac hx1;refine Lp (σ:=Int) (γ:=Unit) hl2 (fun s6 y6=>[(2,.pointer (some ⟨g1,0,none⟩)),(3,.pointer (some ⟨g2,0,none⟩)),(35,.int .i64 (((p0.V.length:Nat):Int))),(36,.int .i64 (s6))]) (fun s6 y6=>[.m g2 40 [.slice (A0_3) (p1.V.length) (c0_3),.slice (A0_4) (p1.T.length) (c0_4),.slice (A0_5) (p1.Lines.length) (c0_5)],.m g1 40 [.slice (A0_0) (p0.V.length) (c0_0),.slice (A0_1) (p0.T.length) (c0_1),.slice (A0_2) (p0.Lines.length) (c0_2)]]++[.old w]) (fun s6 y6=>True) () trivial (by exact .pick 0 rfl (.pick 0 rfl (.refl))) ?_;intro s6 y6 hG6 x4 hx43 ht2;unfold Ed at hx43;refine Y6 ?_;refine Ti hx43 (s:=37) rfl (fun h8 hx45=>?_) (fun h8 hx46=>?_)
    ·refine Y12 ?_;refine T_dr [0,1,0,0,1,0,1,0,0,1,0] (.q 0 (.q 1 (.q 2 (.q 3 (.q 4 (.q 5 (.q 6 (.q 7 (.q 8 (.q 9 (.q 10 (.done)))))))))))) mixed (by kernel_rfl) (by kernel_rfl) ?_;refine P_p rfl rfl (Ah rfl Abq rfl) rfl ?_;refine P_q rfl rfl (Ag rfl (i:=1) rfl rfl Xd) rfl ?_;refine Y ?_;obtain ⟨x5,h9,hx49⟩:=Ac hx45;refine P_il (Has.low (E:=[]) ha0' hK) h9 Ey Ej (sb 2) (fun b2 o2=>?_);refine P_p rfl rfl (Ah rfl Abq rfl) rfl ?_;refine P_q rfl rfl (Ag rfl (i:=0) rfl rfl Xd) rfl ?_;refine Y ?_;obtain ⟨x6,h59,hx60⟩:=Ac hx49;refine P_il (Has.low (E:=[]) ha3' hK) h59 Ey Ej (sb 2) (fun b3 o3=>?_);refine P_p rfl rfl (Alz rfl rfl (by kernel_rfl) (Atp _ _ _ _ _ _ _ _)) rfl ?_;refine Y2 ?_;refine Cz (s:=49) rfl (fun h69=>?_) (fun h69=>?_)
     ·have hx70:=Bn h69 hx60;refine Y9 ?_;obtain rfl:=Bd ht2 hx70;refine Y3 ?_;obtain rfl:=Option.some.inj ho2;exact Av (rs:=[.tmp 4]) Tryz.results25 (.tmp rfl (.nil)) (Ln:=[]) ⟨rfl,rfl,trivial⟩ (Ax) (by exact .drop 0 rfl (.drop 0 rfl (.refl)))
     ·have hx71:=Bx h69 hx60;refine Y8 ?_;exact Rp (w64 (s6+1)) () hx71 trivial (by exact .pick 0 rfl (.pick 0 rfl (.refl)))
    ·refine Y3 ?_;obtain rfl:=Bd ht2 hx46;refine Y2 ?_;exact Mt () () ho2 trivial (by exact .pick 0 rfl (.pick 0 rfl (.refl)))
 ·refine Y ?_;refine Af (Ah rfl Abq rfl) rfl ?_;refine Af (Ag rfl (i:=1) rfl rfl Xd) rfl ?_;refine Af (Bf rfl 34 Tryz.underlying22) rfl ?_;refine Af (Ah rfl Abq rfl) rfl ?_;refine Af (Ag rfl (i:=0) rfl rfl Xd) rfl ?_;refine Af (Bf rfl 34 Tryz.underlying22) rfl ?_;refine Y2 ?_;refine Fb (s:=15) rfl (fun h3=>?_) (fun h3=>?_)
  ·have hx4:=Pr h3 hx;(iterate 18 refine Y ?_);exact Mt true () hx4 trivial (by exact .pick 0 rfl (.pick 0 rfl (.refl)))
  ·have hx5:=Bx h3 hx;refine Aq rfl rfl rfl (Ah rfl Abr rfl) rfl ?_;refine Aq rfl rfl rfl (Ag rfl (i:=1) rfl rfl Aiq) rfl ?_;refine Aq rfl rfl rfl (Bf rfl 26 Tryz.underlying38) rfl ?_;refine Aq rfl rfl rfl (Ah rfl Abr rfl) rfl ?_;refine Aq rfl rfl rfl (Ag rfl (i:=0) rfl rfl Aiq) rfl ?_;refine Aq rfl rfl rfl (Bf rfl 26 Tryz.underlying38) rfl ?_;refine Y3 ?_;refine Fb (s:=24) rfl (fun h6=>?_) (fun h6=>?_)
   ·have hx7:=Pr h6 hx5;refine Y9 ?_;exact Mt true () hx7 trivial (by exact .pick 0 rfl (.pick 0 rfl (.refl)))
   ·have hx8:=Bx h6 hx5;refine Aq rfl rfl rfl (Ah rfl Ag9 rfl) rfl ?_;refine Aq rfl rfl rfl (Ag rfl (i:=1) rfl rfl Aos) rfl ?_;refine Aq rfl rfl rfl (Bf rfl 97 Tryz.underlying23) rfl ?_;refine Aq rfl rfl rfl (Ah rfl Ag9 rfl) rfl ?_;refine Aq rfl rfl rfl (Ag rfl (i:=0) rfl rfl Aos) rfl ?_;refine Aq rfl rfl rfl (Bf rfl 97 Tryz.underlying23) rfl ?_;refine Y3 ?_;exact Mt (!(decide ((((p0.Lines.length:Nat):Int))=(((p1.Lines.length:Nat):Int))))) () hx8 trivial (by exact .pick 0 rfl (.pick 0 rfl (.refl)))
end Go.Proofs.YtbkobeeileemjaaGreat
