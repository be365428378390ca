/- Walks of the program, with their plain functions: the references on hulls. -/
import Derived.Test.YtbkobeeileemjaaGreatE1
namespace Go.Proofs.YtbkobeeileemjaaGreat
open Go Go.RowKit

noncomputable def Io (p0:Ad) (p1:Ad) (p2:Ad):Option Bool :=
 jn (fun (s2:Bool) =>
 some s2)
 (fun j2=>bnd (Em p0 p1 p2) fun r4 =>
 if r4=0 then (if (min p0.X p1.X)≤p2.X then (if p2.X≤(max p0.X p1.X) then (if (min p0.Y p1.Y)≤p2.Y then (j2 (decide (p2.Y≤(max p0.Y p1.Y))))
 else (j2 false))
 else (j2 false))
 else (j2 false))
 else (j2 false))
noncomputable def Ee (p0:List Ae):Int→Option (Sum Int (Sum Unit Int)):=fun s0 =>
 if s0 < ((((p0).length:Nat):Int)) then (bnd (idx p0 s0) fun x0 =>
 bnd (Fa x0) fun r0 =>
 if r0=true then (some (.inl (w64 (s0+1))))
 else (some (.inr (.inr (60)))))
 else (some (.inr (.inl ())))
noncomputable def Ex (s0:Int) (p0:List Ae):Int→Option (Sum Int (Sum Unit Int)):=fun s1 =>
 if s1 < s0 then (jn (fun (s2:Bool) =>
 if s2=true then (some (.inr (.inr (61))))
 else (some (.inl (w64 (s1+1)))))
 (fun j0=>bnd (idx p0 s0) fun x0 =>
 bnd (idx p0 s1) fun x1 =>
 if x0.X=x1.X then (bnd (idx p0 s0) fun x2 =>
 bnd (idx p0 s1) fun x3 =>
 j0 (decide (x2.Y=x3.Y)))
 else (j0 false)))
 else (some (.inr (.inl ())))
noncomputable def Dv (p0:List Ae):Int→Option (Sum Int (Sum Unit Int)):=fun s0 =>
 if s0 < ((((p0).length:Nat):Int)) then (jn (fun (s1:Unit) =>
 some (.inl (w64 (s0+1))))
 (fun j0=>bnd (lfix (Ex s0 p0) 0) fun t0 =>
 (match t0 with
 | (.inl z0)=>j0 z0
 | (.inr (z0))=>some (.inr (.inr (z0)))
 )))
 else (some (.inr (.inl ())))
noncomputable def Hd (p0:List Ae):Option Int :=
 if 1024 < ((((p0).length:Nat):Int)) then (some 2)
 else (jn (fun (s5:Unit) =>
 jn (fun (s0:Unit) =>
 some 0)
 (fun j0=>bnd (lfix (Dv p0) 0) fun t0 =>
 (match t0 with
 | (.inl z0)=>j0 z0
 | (.inr (z0))=>some z0
 )))
 (fun j5=>bnd (lfix (Ee p0) 0) fun t1 =>
 (match t1 with
 | (.inl z1)=>j5 z1
 | (.inr (z1))=>some z1
 )))
noncomputable def Kb (p0:List Ae):(Int × Int)→Option (Sum (Int × Int) Int):=fun s0 =>
 if s0.2 < ((((p0).length:Nat):Int)) then (jn (fun (s1:Int) =>
 some (.inl (s1,w64 (s0.2+1))))
 (fun j0=>bnd (idx p0 s0.2) fun x0 =>
 bnd (idx p0 s0.1) fun x1 =>
 bnd (Be x0) fun r0 =>
 bnd (Be x1) fun r1 =>
 bnd (Gq r0 r1) fun r2 =>
 if r2=true then (j0 s0.2)
 else (j0 s0.1)))
 else (some (.inr s0.1))
noncomputable def Kt (p0:List Ae):Option Int :=
 jn (fun (s3:Int) =>
 some s3)
 (fun j3=>bnd (lfix (Kb p0) (0,0)) fun t0 =>
 j3 t0)
noncomputable def Lg (p0:List Ae) (p1:Int) (p2:Bool):(Int × Int)→Option (Sum (Int × Int) Int):=fun s0 =>
 if s0.2 < ((((p0).length:Nat):Int)) then (jn (fun (s1:Int) =>
 some (.inl (s1,w64 (s0.2+1))))
 (fun j0=>if s0.2=p1 then (j0 s0.1)
 else (if s0.1 < 0 then (j0 s0.2)
 else (jn (fun (s2:Int × Int × Int × Int × Int × Int) =>
 bnd (Em (⟨s2.1,s2.2.1⟩:Ad) (⟨s2.2.2.1,s2.2.2.2.1⟩:Ad) (⟨s2.2.2.2.2.1,s2.2.2.2.2.2⟩:Ad)) fun r0 =>
 jn (fun (s3:Bool) =>
 if s3=true then (j0 s0.2)
 else (j0 s0.1))
 (fun j1=>if r0 < 0 then (j1 true)
 else (if r0=0 then (bnd (Io (⟨s2.1,s2.2.1⟩:Ad) (⟨s2.2.2.1,s2.2.2.2.1⟩:Ad) (⟨s2.2.2.2.2.1,s2.2.2.2.2.2⟩:Ad)) fun r1 =>
 j1 (!((r1) == (p2))))
 else (j1 false))))
 (fun j2=>bnd (idx p0 p1) fun x0 =>
 bnd (idx p0 s0.1) fun x1 =>
 bnd (idx p0 s0.2) fun x2 =>
 bnd (Be x0) fun r2 =>
 bnd (Be x1) fun r3 =>
 bnd (Be x2) fun r4 =>
 j2 (r2.X,r2.Y,r3.X,r3.Y,r4.X,r4.Y))))))
 else (some (.inr s0.1))
noncomputable def Lx (p0:List Ae) (p1:Int) (p2:Bool):Option Int :=
 jn (fun (s3:Int) =>
 some s3)
 (fun j3=>bnd (lfix (Lg p0 p1 p2) (-1,0)) fun t0 =>
 j3 t0)
noncomputable def Lh (p0:List Ae):Int→Option (Sum Int (Sum Unit Bool)):=fun s0 =>
 if s0 < ((((p0).length:Nat):Int)) then (bnd (idx p0 0) fun x0 =>
 bnd (idx p0 1) fun x1 =>
 bnd (idx p0 s0) fun x2 =>
 bnd (Be x0) fun r0 =>
 bnd (Be x1) fun r1 =>
 bnd (Be x2) fun r2 =>
 bnd (Em r0 r1 r2) fun r3 =>
 if r3=0 then (some (.inl (w64 (s0+1))))
 else (some (.inr (.inr (false)))))
 else (some (.inr (.inl ())))
noncomputable def Ly (p0:List Ae):Option Bool :=
 jn (fun (s2:Unit) =>
 some true)
 (fun j2=>bnd (lfix (Lh p0) 2) fun t0 =>
 (match t0 with
 | (.inl z0)=>j2 z0
 | (.inr (z0))=>some z0
 ))
set_option maxRecDepth 100000 in
theorem Wy (p0:Ad) (p1:Ad) (p2:Ad)  {r:Bool} (hx:Io p0 p1 p2=some r) (w:World):CtL Tryz.prog 98 [.agg #[.int .i64 (p0.X),.int .i64 (p0.Y)],.agg #[.int .i64 (p1.X),.int .i64 (p1.Y)],.agg #[.int .i64 (p2.X),.int .i64 (p2.Y)]] w fun v Ln=>v = .bool (r)∧Ln=[]∧True:=by
 refine CtL.mk 52 Tryz.func98 rfl Tryz.ntmps98 (by kernel_rfl) rfl ?_;show T 52 _ [(0,.agg #[.int .i64 (p0.X),.int .i64 (p0.Y)]),(1,.agg #[.int .i64 (p1.X),.int .i64 (p1.Y)]),(2,.agg #[.int .i64 (p2.X),.int .i64 (p2.Y)])] _;unfold Io at hx;refine Y2 ?_;refine T_x (Bl rfl rfl rfl (fun g1=>?_));refine T_x (Bl rfl rfl rfl (fun g2=>?_));refine T_x (Bl rfl rfl rfl (fun g3=>?_));refine Y3 ?_;refine Tj (γ:=Unit) hx (fun s2 y2=>[(6,.bool (s2))]) (fun s2 y2=>[]++[.old w]) (fun s2 y2=>True) (fun s2 y2 hx0 hG0=>?_) (fun j2 hx=>?_)
 ·refine Y ?_;obtain rfl:=Option.some.inj hx0;exact Av (rs:=[.tmp 6]) Tryz.results98 (.tmp rfl (.nil)) (Ln:=[]) ⟨rfl,rfl,trivial⟩ (Ax) (by exact .refl)
 ·refine Y ?_;refine Af (Au rfl (i:=2) rfl rfl Bv) rfl ?_;refine Af (Au rfl (i:=1) rfl rfl Bv) rfl ?_;refine Af (Au rfl (i:=0) rfl rfl Bv) rfl ?_;obtain ⟨r4,h5,hx6⟩:=Ac hx;refine Tc (fun w1 hw1=>Hw p0 p1 p2  h5 w1) ?_;refine Y2 ?_;refine Ti hx6 (s:=12) rfl (fun h7 hx8=>?_) (fun h7 hx1=>?_)
  ·refine Aq rfl rfl rfl (Ah rfl Cl rfl) rfl ?_;refine Aq rfl rfl rfl (Ag rfl (i:=2) rfl rfl one3) rfl ?_;refine Aq rfl rfl rfl (Ah rfl Cl rfl) rfl ?_;refine Aq rfl rfl rfl (Ag rfl (i:=1) rfl rfl one3) rfl ?_;refine Aq rfl rfl rfl (Yq rfl rfl) rfl ?_;refine Aq rfl rfl rfl (Ah rfl Cl rfl) rfl ?_;refine Aq rfl rfl rfl (Ag rfl (i:=0) rfl rfl one3) rfl ?_;refine Y3 ?_;refine Ti hx8 (s:=22) rfl (fun h9 hx2=>?_) (fun h9 hx3=>?_)
   ·refine Aq rfl rfl rfl (Ah rfl Cl rfl) rfl ?_;refine Aq rfl rfl rfl (Ag rfl (i:=0) rfl rfl one3) rfl ?_;refine Aq rfl rfl rfl (Ah rfl Cl rfl) rfl ?_;refine Aq rfl rfl rfl (Ag rfl (i:=2) rfl rfl one3) rfl ?_;refine Aq rfl rfl rfl (Ah rfl Cl rfl) rfl ?_;refine Aq rfl rfl rfl (Ag rfl (i:=1) rfl rfl one3) rfl ?_;refine Aq rfl rfl rfl (Yr rfl rfl) rfl ?_;refine Y3 ?_;refine Ti hx2 (s:=32) rfl (fun h0 hx4=>?_) (fun h0 hx5=>?_)
    ·refine Aq rfl rfl rfl (Ah rfl Ck rfl) rfl ?_;refine Aq rfl rfl rfl (Ag rfl (i:=2) rfl rfl one3) rfl ?_;refine Aq rfl rfl rfl (Ah rfl Ck rfl) rfl ?_;refine Aq rfl rfl rfl (Ag rfl (i:=1) rfl rfl one3) rfl ?_;refine Aq rfl rfl rfl (Yq rfl rfl) rfl ?_;refine Aq rfl rfl rfl (Ah rfl Ck rfl) rfl ?_;refine Aq rfl rfl rfl (Ag rfl (i:=0) rfl rfl one3) rfl ?_;refine Y3 ?_;refine Ti hx4 (s:=42) rfl (fun h1 hx7=>?_) (fun h1 hx9=>?_)
     ·refine Aq rfl rfl rfl (Ah rfl Ck rfl) rfl ?_;refine Aq rfl rfl rfl (Ag rfl (i:=0) rfl rfl one3) rfl ?_;refine Aq rfl rfl rfl (Ah rfl Ck rfl) rfl ?_;refine Aq rfl rfl rfl (Ag rfl (i:=2) rfl rfl one3) rfl ?_;refine Aq rfl rfl rfl (Ah rfl Ck rfl) rfl ?_;refine Aq rfl rfl rfl (Ag rfl (i:=1) rfl rfl one3) rfl ?_;refine Aq rfl rfl rfl (Yr rfl rfl) rfl ?_;refine Y4 ?_;exact Mt (decide (p2.Y≤(max p0.Y p1.Y))) () hx7 trivial (by exact .drop 0 rfl (.drop 0 rfl (.drop 0 rfl (.refl))))
     ·refine Y11 ?_;exact Mt false () hx9 trivial (by exact .drop 0 rfl (.drop 0 rfl (.drop 0 rfl (.refl))))
    ·(iterate 21 refine Y ?_);exact Mt false () hx5 trivial (by exact .drop 0 rfl (.drop 0 rfl (.drop 0 rfl (.refl))))
   ·(iterate 31 refine Y ?_);exact Mt false () hx3 trivial (by exact .drop 0 rfl (.drop 0 rfl (.drop 0 rfl (.refl))))
  ·(iterate 41 refine Y ?_);exact Mt false () hx1 trivial (by exact .drop 0 rfl (.drop 0 rfl (.drop 0 rfl (.refl))))
set_option maxRecDepth 100000 in
theorem Wn (p0:List Ae) {K:List Ent} {A0_0:Option Addr} {c0_0:Nat} (ha0:Has K A0_0 p0.length c0_0 4 Ak (p0)) {r:Int} (hx:Hd p0=some r) (w:World) (hK:∀ e∈K,Ent.ok w e):CtL Tryz.prog 49 [.slice (A0_0) (p0.length) (c0_0)] w fun v Ln=>v = .int .i64 (r)∧Ln=[]∧True:=by
 have ha0':=Has.up0 ha0;refine CtL.mk 56 Tryz.func49 rfl Tryz.ntmps49 (by kernel_rfl) rfl ?_;show T 56 _ [(0,.slice (A0_0) (p0.length) (c0_0))] _;unfold Hd at hx;refine Y9 ?_;refine Af (Bf rfl 34 Tryz.underlying22) rfl ?_;refine Y3 ?_;refine Ti hx (s:=8) rfl (fun h1 hx2=>?_) (fun h1 hx3=>?_)
 ·refine Y8 ?_;obtain rfl:=Option.some.inj hx2;exact Av (rs:=[.tmp 2]) Tryz.results49 (.tmp rfl (.nil)) (Ln:=[]) ⟨rfl,rfl,trivial⟩ (Ax) (by exact .refl)
 ·refine Y3 ?_;refine Tj (γ:=Unit) hx3 (fun s5 y5=>[(0,.slice (A0_0) (p0.length) (c0_0))]) (fun s5 y5=>[]++[.old w]) (fun s5 y5=>True) (fun s5 y5 hx0 hG0=>?_) (fun j5 hx3=>?_)
  ·refine Tj (γ:=Unit) hx0 (fun s0 y0=>[]) (fun s0 y0=>[]++[.old w]) (fun s0 y0=>True) (fun s0 y0 hx1 hG1=>?_) (fun j0 hx0=>?_)
   ·refine Y6 ?_;obtain rfl:=Option.some.inj hx1;exact Av (rs:=[.tmp 2]) Tryz.results49 (.tmp rfl (.nil)) (Ln:=[]) ⟨rfl,rfl,trivial⟩ (Ax) (by exact .refl)
   ·refine Y3 ?_;refine Af (Bf rfl 34 Tryz.underlying22) rfl ?_;refine Y4 ?_;obtain ⟨t0,hl0,ho0⟩:=Ac hx0;refine Lp (σ:=Int) (γ:=Unit) hl0 (fun s1 y1=>[(0,.slice (A0_0) (p0.length) (c0_0)),(22,.int .i64 (((p0.length:Nat):Int))),(23,.int .i64 (s1))]) (fun s1 y1=>[]++[.old w]) (fun s1 y1=>True) () trivial (by exact .refl) ?_;intro s1 y1 hG2 x0 hx4 ht0;unfold Dv at hx4;refine Y6 ?_;refine Ti hx4 (s:=24) rfl (fun h0 hx5=>?_) (fun h0 hx6=>?_)
    ·refine Y3 ?_;refine Tj (γ:=Unit) hx5 (fun s2 y2=>[(0,.slice (A0_0) (p0.length) (c0_0)),(22,.int .i64 (((p0.length:Nat):Int))),(23,.int .i64 (s1))]) (fun s2 y2=>[]++[.old w]) (fun s2 y2=>True) (fun s2 y2 hx7 hG3=>?_) (fun j1 hx5=>?_)
     ·refine Y4 ?_;exact Rp (w64 (s1+1)) () hx7 trivial (by exact .refl)
     ·(iterate 13 refine Y ?_);obtain ⟨t1,hl1,ho1⟩:=Ac hx5;refine Lp (σ:=Int) (γ:=Unit) hl1 (fun s3 y3=>[(0,.slice (A0_0) (p0.length) (c0_0)),(4,.int .i64 (s1)),(5,.int .i64 (s3)),(22,.int .i64 (((p0.length:Nat):Int))),(23,.int .i64 (s1))]) (fun s3 y3=>[]++[.old w]) (fun s3 y3=>True) () trivial (by exact .refl) ?_;intro s3 y3 hG4 x1 hx8 ht1;unfold Ex at hx8;refine Y8 ?_;refine Ti hx8 (s:=28) rfl (fun h2 hx9=>?_) (fun h2 hx10=>?_)
      ·refine Y5 ?_;refine Tj (γ:=Unit) hx9 (fun s4 y4=>[(0,.slice (A0_0) (p0.length) (c0_0)),(4,.int .i64 (s1)),(5,.int .i64 (s3)),(22,.int .i64 (((p0.length:Nat):Int))),(23,.int .i64 (s1)),(54,.bool (s4))]) (fun s4 y4=>[]++[.old w]) (fun s4 y4=>True) (fun s4 y4 hx11 hG5=>?_) (fun j2 hx9=>?_)
       ·refine By (s:=54) rfl (fun h3=>?_) (fun h3=>?_)
        ·have hx12:=Bx h3 hx11;refine Y9 ?_;obtain rfl:=Bd ht1 hx12;refine Y4 ?_;obtain rfl:=Bd ht0 ho1;refine Y3 ?_;obtain rfl:=Option.some.inj ho0;exact Av (rs:=[.tmp 2]) Tryz.results49 (.tmp rfl (.nil)) (Ln:=[]) ⟨rfl,rfl,trivial⟩ (Ax) (by exact .refl)
        ·have hx13:=Bn h3 hx11;refine Y9 ?_;exact Rp (w64 (s3+1)) () hx13 trivial (by exact .refl)
       ·refine T_dr [0,0,0,0,1,0,0,0,0,1,0,0,0,0,0,0,1,0,0,0,0,1,0,0] (.q 0 (.q 1 (.q 2 (.q 3 (.q 4 (.q 5 (.q 6 (.q 7 (.q 8 (.q 9 (.q 10 (.q 11 (.q 12 (.q 13 (.q 14 (.q 15 (.q 16 (.q 17 (.q 18 (.q 19 (.q 20 (.q 21 (.q 22 (.q 23 (.done))))))))))))))))))))))))) mixed (by kernel_rfl) (by kernel_rfl) ?_;refine Y2 ?_;obtain ⟨x2,h4,hx14⟩:=Ac hx9;have hw0:=Has.low (E:=[]) ha0' hK;obtain ⟨b0,o0,j3,hA0,hj0,hl2,hp0⟩:=Has.at_idx hw0 h4;refine P_p rfl rfl (Az rfl rfl hA0 (j:=j3) hj0 hl2 Ey) rfl ?_;refine P_p rfl rfl (Ah rfl Adm rfl) rfl ?_;refine P_q rfl rfl (Ew (d:=0) rfl hp0 (sb 0) rfl one3) rfl ?_;refine Y2 ?_;obtain ⟨x3,h5,hx15⟩:=Ac hx14;have hw2:=Has.low (E:=[]) ha0' hK;obtain ⟨b1,o1,j4,hA1,hj1,hl3,hp1⟩:=Has.at_idx hw2 h5;refine P_p rfl rfl (Az rfl rfl hA1 (j:=j4) hj1 hl3 Ey) rfl ?_;refine P_p rfl rfl (Ah rfl Adm rfl) rfl ?_;refine P_q rfl rfl (Ew (d:=0) rfl hp1 (sb 0) rfl one3) rfl ?_;refine Y2 ?_;refine Ti hx15 (s:=42) rfl (fun h6 hx16=>?_) (fun h6 hx17=>?_)
        ·refine Y2 ?_;obtain ⟨x4,h7,hx18⟩:=Ac hx16;have hw3:=Has.low (E:=[]) ha0' hK;obtain ⟨b2,o2,j6,hA2,hj2,hl4,hp2⟩:=Has.at_idx hw3 h7;refine P_pG rfl rfl rfl rfl rfl (Az rfl rfl hA2 (j:=j6) hj2 hl4 Ey) rfl ?_;refine P_pG rfl rfl rfl rfl rfl (Ah rfl Adn rfl) rfl ?_;refine P_qG rfl rfl rfl rfl rfl (Ew (d:=1) rfl hp2 (sb 0) rfl one3) rfl ?_;refine Y2 ?_;obtain ⟨x5,h8,hx19⟩:=Ac hx18;have hw4:=Has.low (E:=[]) ha0' hK;obtain ⟨b3,o3,j7,hA3,hj3,hl5,hp3⟩:=Has.at_idx hw4 h8;refine P_pG rfl rfl rfl rfl rfl (Az rfl rfl hA3 (j:=j7) hj3 hl5 Ey) rfl ?_;refine P_pG rfl rfl rfl rfl rfl (Ah rfl Adn rfl) rfl ?_;refine P_qG rfl rfl rfl rfl rfl (Ew (d:=1) rfl hp3 (sb 0) rfl one3) rfl ?_;refine Y3 ?_;exact Mt (decide (x4.Y=x5.Y)) () hx19 trivial (by exact .refl)
        ·(iterate 13 refine Y ?_);exact Mt false () hx17 trivial (by exact .refl)
      ·refine Y3 ?_;obtain rfl:=Bd ht1 hx10;refine Y3 ?_;exact Mt () () ho1 trivial (by exact .refl)
    ·refine Y3 ?_;obtain rfl:=Bd ht0 hx6;refine Y2 ?_;exact Mt () () ho0 trivial (by exact .refl)
  ·refine Y3 ?_;refine Af (Bf rfl 34 Tryz.underlying22) rfl ?_;refine Y4 ?_;obtain ⟨t2,hl6,ho2⟩:=Ac hx3;refine Lp (σ:=Int) (γ:=Unit) hl6 (fun s6 y6=>[(0,.slice (A0_0) (p0.length) (c0_0)),(10,.int .i64 (((p0.length:Nat):Int))),(11,.int .i64 (s6))]) (fun s6 y6=>[]++[.old w]) (fun s6 y6=>True) () trivial (by exact .refl) ?_;intro s6 y6 hG6 x6 hx25 ht2;unfold Ee at hx25;refine Y6 ?_;refine Ti hx25 (s:=12) rfl (fun h9 hx27=>?_) (fun h9 hx28=>?_)
   ·(iterate 15 refine Y ?_);obtain ⟨x7,h30,hx31⟩:=Ac hx27;have hw5:=Has.low (E:=[]) ha0' hK;obtain ⟨b4,o4,j8,hA4,hj4,hl7,hp4⟩:=Has.at_idx hw5 h30;refine Af (Az rfl rfl hA4 (j:=j8) hj4 hl7 Ey) rfl ?_;refine Af (Cg rfl hp4 (sb 0) rfl Ej) rfl ?_;obtain ⟨r0,h41,hx42⟩:=Ac hx31;refine Tc (fun w1 hw1=>Tu x7  h41 w1) ?_;refine Y3 ?_;refine Cz (s:=19) rfl (fun h43=>?_) (fun h43=>?_)
    ·have hx44:=Bn h43 hx42;refine Y9 ?_;obtain rfl:=Bd ht2 hx44;refine Y3 ?_;obtain rfl:=Option.some.inj ho2;exact Av (rs:=[.tmp 2]) Tryz.results49 (.tmp rfl (.nil)) (Ln:=[]) ⟨rfl,rfl,trivial⟩ (Ax) (by exact .refl)
    ·have hx45:=Bx h43 hx42;refine Y8 ?_;exact Rp (w64 (s6+1)) () hx45 trivial (by exact .refl)
   ·refine Y3 ?_;obtain rfl:=Bd ht2 hx28;refine Y2 ?_;exact Mt () () ho2 trivial (by exact .refl)
set_option maxRecDepth 100000 in
theorem Zi (p0:List Ae) {K:List Ent} {A0_0:Option Addr} {c0_0:Nat} (ha0:Has K A0_0 p0.length c0_0 4 Ak (p0)) {r:Int} (hx:Kt p0=some r) (w:World) (hK:∀ e∈K,Ent.ok w e):CtL Tryz.prog 287 [.slice (A0_0) (p0.length) (c0_0)] w fun v Ln=>v = .int .i64 (r)∧Ln=[]∧True:=by
 have ha0':=Has.up0 ha0;refine CtL.mk 24 Tryz.func287 rfl Tryz.ntmps287 (by kernel_rfl) rfl ?_;show T 24 _ [(0,.slice (A0_0) (p0.length) (c0_0))] _;unfold Kt at hx;refine Y10 ?_;refine Tj (γ:=Unit) hx (fun s3 y3=>[(3,.int .i64 (s3))]) (fun s3 y3=>[]++[.old w]) (fun s3 y3=>True) (fun s3 y3 hx0 hG0=>?_) (fun j3 hx=>?_)
 ·refine Y7 ?_;obtain rfl:=Option.some.inj hx0;exact Av (rs:=[.tmp 2]) Tryz.results287 (.tmp rfl (.nil)) (Ln:=[]) ⟨rfl,rfl,trivial⟩ (Ax) (by exact .refl)
 ·refine Y3 ?_;refine Af (Bf rfl 34 Tryz.underlying22) rfl ?_;refine Y4 ?_;obtain ⟨t0,hl0,ho0⟩:=Ac hx;refine Lp (σ:=Int × Int) (γ:=Unit) hl0 (fun s0 y0=>[(0,.slice (A0_0) (p0.length) (c0_0)),(3,.int .i64 (s0.1)),(6,.int .i64 (((p0.length:Nat):Int))),(7,.int .i64 (s0.2))]) (fun s0 y0=>[]++[.old w]) (fun s0 y0=>True) () trivial (by exact .refl) ?_;intro s0 y0 hG1 x0 hx1 ht0;unfold Kb at hx1;refine Y6 ?_;refine Ti hx1 (s:=8) rfl (fun h0 hx2=>?_) (fun h0 hx3=>?_)
  ·refine Y3 ?_;refine Tj (γ:=Unit) hx2 (fun s1 y1=>[(0,.slice (A0_0) (p0.length) (c0_0)),(3,.int .i64 (s1)),(6,.int .i64 (((p0.length:Nat):Int))),(7,.int .i64 (s0.2))]) (fun s1 y1=>[]++[.old w]) (fun s1 y1=>True) (fun s1 y1 hx4 hG2=>?_) (fun j0 hx2=>?_)
   ·refine Y4 ?_;exact Rp (s1,w64 (s0.2+1)) () hx4 trivial (by exact .refl)
   ·refine Y8 ?_;refine T_dr [0,0,0,1,2,0,0,0,1,2,2] (.q 0 (.q 1 (.q 2 (.q 3 (.q 5 (.q 6 (.q 7 (.q 8 (.e 4 (.e 9 (.e 10 (.done) (.stop)) (.stop)) (.stop)))))))))) mixed (by kernel_rfl) (by kernel_rfl) ?_;refine Y2 ?_;obtain ⟨x1,h1,hx5⟩:=Ac hx2;refine P_il (Has.low (E:=[]) ha0' hK) h1 Ey Ej (sb 0) (fun b0 o0=>?_);refine Y2 ?_;obtain ⟨x2,h2,hx6⟩:=Ac hx5;refine P_il (Has.low (E:=[]) ha0' hK) h2 Ey Ej (sb 0) (fun b1 o1=>?_);obtain ⟨r0,h3,hx7⟩:=Ac hx6;refine Pc (fun w1 hw1=>Bh x1  h3 w1) ?_;obtain ⟨r1,h4,hx8⟩:=Ac hx7;refine Pc (fun w1 hw1=>Bh x2  h4 w1) ?_;obtain ⟨r2,h5,hx9⟩:=Ac hx8;refine Pc (fun w1 hw1=>Rl r0 r1  h5 w1) ?_;refine Y2 ?_;refine By (s:=20) rfl (fun h6=>?_) (fun h6=>?_)
    ·have hx77:=Bx h6 hx9;refine Y6 ?_;exact Mt s0.2 () hx77 trivial (by exact .refl)
    ·have hx78:=Bn h6 hx9;refine Y3 ?_;exact Mt s0.1 () hx78 trivial (by exact .refl)
  ·refine Y3 ?_;obtain rfl:=Bd ht0 hx3;refine Y2 ?_;exact Mt s0.1 () ho0 trivial (by exact .refl)
set_option maxHeartbeats 1000000 in
set_option maxRecDepth 100000 in
theorem Aat (p0:List Ae) (p1:Int) (p2:Bool) {K:List Ent} {A0_0:Option Addr} {c0_0:Nat} (ha0:Has K A0_0 p0.length c0_0 4 Ak (p0)) {r:Int} (hx:Lx p0 p1 p2=some r) (w:World) (hK:∀ e∈K,Ent.ok w e):CtL Tryz.prog 288 [.slice (A0_0) (p0.length) (c0_0),.int .i64 (p1),.bool (p2)] w fun v Ln=>v = .int .i64 (r)∧Ln=[]∧True:=by
 have ha0':=Has.up0 ha0;refine CtL.mk 60 Tryz.func288 rfl Tryz.ntmps288 (by kernel_rfl) rfl ?_;show T 60 _ [(0,.slice (A0_0) (p0.length) (c0_0)),(1,.int .i64 (p1)),(2,.bool (p2))] _;unfold Lx at hx;refine Y10 ?_;refine Tj (γ:=Unit) hx (fun s3 y3=>[(7,.int .i64 (s3))]) (fun s3 y3=>[]++[.old w]) (fun s3 y3=>True) (fun s3 y3 hx0 hG0=>?_) (fun j3 hx=>?_)
 ·refine Y7 ?_;obtain rfl:=Option.some.inj hx0;exact Av (rs:=[.tmp 6]) Tryz.results288 (.tmp rfl (.nil)) (Ln:=[]) ⟨rfl,rfl,trivial⟩ (Ax) (by exact .refl)
 ·refine Y3 ?_;refine Af (Bf rfl 34 Tryz.underlying22) rfl ?_;refine Y4 ?_;obtain ⟨t0,hl0,ho0⟩:=Ac hx;refine Lp (σ:=Int × Int) (γ:=Unit) hl0 (fun s0 y0=>[(0,.slice (A0_0) (p0.length) (c0_0)),(1,.int .i64 (p1)),(2,.bool (p2)),(7,.int .i64 (s0.1)),(14,.int .i64 (((p0.length:Nat):Int))),(15,.int .i64 (s0.2))]) (fun s0 y0=>[]++[.old w]) (fun s0 y0=>True) () trivial (by exact .refl) ?_;intro s0 y0 hG1 x0 hx1 ht0;unfold Lg at hx1;refine Y6 ?_;refine Ti hx1 (s:=16) rfl (fun h0 hx2=>?_) (fun h0 hx3=>?_)
  ·refine Y3 ?_;refine Tj (γ:=Unit) hx2 (fun s1 y1=>[(0,.slice (A0_0) (p0.length) (c0_0)),(1,.int .i64 (p1)),(2,.bool (p2)),(7,.int .i64 (s1)),(14,.int .i64 (((p0.length:Nat):Int))),(15,.int .i64 (s0.2))]) (fun s1 y1=>[]++[.old w]) (fun s1 y1=>True) (fun s1 y1 hx4 hG2=>?_) (fun j0 hx2=>?_)
   ·refine Y4 ?_;exact Rp (s1,w64 (s0.2+1)) () hx4 trivial (by exact .refl)
   ·(iterate 15 refine Y ?_);refine Ti hx2 (s:=20) rfl (fun h1 hx5=>?_) (fun h1 hx6=>?_)
    ·refine Y4 ?_;exact Mt s0.1 () hx5 trivial (by exact .refl)
    ·refine Y10 ?_;refine Ti hx6 (s:=22) rfl (fun h2 hx7=>?_) (fun h2 hx8=>?_)
     ·refine Y10 ?_;exact Mt s0.2 () hx7 trivial (by exact .refl)
     ·refine Y3 ?_;refine Tj (γ:=Nat × Nat × Nat) hx8 (fun s2 y2=>[(0,.slice (A0_0) (p0.length) (c0_0)),(1,.int .i64 (p1)),(2,.bool (p2)),(7,.int .i64 (s0.1)),(8,.int .i64 (s0.2)),(9,.pointer (some ⟨y2.1,0,none⟩)),(10,.pointer (some ⟨y2.2.1,0,none⟩)),(11,.pointer (some ⟨y2.2.2,0,none⟩)),(14,.int .i64 (((p0.length:Nat):Int))),(15,.int .i64 (s0.2))]) (fun s2 y2=>[.m y2.2.2 28 [.int .i64 (s2.2.2.2.2.1),.int .i64 (s2.2.2.2.2.2)],.m y2.2.1 28 [.int .i64 (s2.2.2.1),.int .i64 (s2.2.2.2.1)],.m y2.1 28 [.int .i64 (s2.1),.int .i64 (s2.2.1)]]++[.old w]) (fun s2 y2=>True) (fun s2 y2 hx9 hG3=>?_) (fun j1 hx8=>?_)
      ·refine Y2 ?_;refine Af (Au rfl (i:=2) rfl rfl Bv) rfl ?_;refine Af (Au rfl (i:=1) rfl rfl Bv) rfl ?_;refine Af (Au rfl (i:=0) rfl rfl Bv) rfl ?_;obtain ⟨r0,h3,hx10⟩:=Ac hx9;refine Tc (fun w1 hw1=>Hw (⟨s2.1,s2.2.1⟩:Ad) (⟨s2.2.2.1,s2.2.2.2.1⟩:Ad) (⟨s2.2.2.2.2.1,s2.2.2.2.2.2⟩:Ad)  h3 w1) ?_;refine Y3 ?_;refine Tj (γ:=Unit) hx10 (fun s4 y4=>[(0,.slice (A0_0) (p0.length) (c0_0)),(1,.int .i64 (p1)),(2,.bool (p2)),(7,.int .i64 (s0.1)),(8,.int .i64 (s0.2)),(14,.int .i64 (((p0.length:Nat):Int))),(15,.int .i64 (s0.2)),(56,.bool (s4))]) (fun s4 y4=>[]++[.old w]) (fun s4 y4=>True) (fun s4 y4 hx11 hG4=>?_) (fun j2 hx10=>?_)
       ·refine By (s:=56) rfl (fun h4=>?_) (fun h4=>?_)
        ·have hx12:=Bx h4 hx11;refine Y6 ?_;exact Mt s0.2 () hx12 trivial (by exact .refl)
        ·have hx13:=Bn h4 hx11;refine Y3 ?_;exact Mt s0.1 () hx13 trivial (by exact .refl)
       ·refine Y4 ?_;refine Ti hx10 (s:=45) rfl (fun h5 hx14=>?_) (fun h5 hx15=>?_)
        ·refine Y12 ?_;exact Mt true () hx14 trivial (by exact .drop 0 rfl (.drop 0 rfl (.drop 0 rfl (.refl))))
        ·refine Y3 ?_;refine Ti hx15 (s:=48) rfl (fun h6 hx16=>?_) (fun h6 hx17=>?_)
         ·refine Aq rfl rfl rfl (Au rfl (i:=2) rfl rfl Bv) rfl ?_;refine Aq rfl rfl rfl (Au rfl (i:=1) rfl rfl Bv) rfl ?_;refine Aq rfl rfl rfl (Au rfl (i:=0) rfl rfl Bv) rfl ?_;obtain ⟨r1,h7,hx18⟩:=Ac hx16;refine T_xG rfl rfl rfl (Aw rfl (fun w1 hw1=>Wy (⟨s2.1,s2.2.1⟩:Ad) (⟨s2.2.2.1,s2.2.2.2.1⟩:Ad) (⟨s2.2.2.2.2.1,s2.2.2.2.2.2⟩:Ad)  h7 w1) rfl ?_);rintro _ _ hlo ⟨rfl,rfl,-⟩;refine Cs ?_;refine Y ?_;refine Aq rfl rfl rfl (Als rfl rfl (by kernel_rfl)) rfl ?_;refine Y3 ?_;exact Mt (!((r1) == (p2))) () hx18 trivial (by exact .drop 0 rfl (.drop 0 rfl (.drop 0 rfl (.refl))))
         ·refine Y9 ?_;exact Mt false () hx17 trivial (by exact .drop 0 rfl (.drop 0 rfl (.drop 0 rfl (.refl))))
      ·obtain ⟨x1,h8,hx19⟩:=Ac hx8;obtain ⟨x2,h9,hx20⟩:=Ac hx19;obtain ⟨x3,h10,hx21⟩:=Ac hx20;obtain ⟨r2,h11,hx22⟩:=Ac hx21;obtain ⟨r3,h12,hx23⟩:=Ac hx22;obtain ⟨r4,h13,hx24⟩:=Ac hx23;refine T_dr [0,0,0,1,2,0,0,0,1,2,0,0,0,1,2,2,2,2,3,3,3] (.q 0 (.q 1 (.q 2 (.q 3 (.q 5 (.q 6 (.q 7 (.q 8 (.q 10 (.q 11 (.q 12 (.q 13 (.e 4 (.e 9 (.e 14 (.e 15 (.e 16 (.e 17 (.e 18 (.e 19 (.e 20 (.done) (.stop)) (.stop)) (.stop)) (.stop)) (.e 17 (.e 16 (.e 18 (.e 19 (.e 20 (.done) (.stop)) (.stop)) (.stop)) (.stop)) (.stop))) (.e 16 (.e 15 (.e 17 (.e 18 (.e 19 (.e 20 (.done) (.stop)) (.stop)) (.stop)) (.stop)) (.e 17 (.e 15 (.e 18 (.e 19 (.e 20 (.done) (.stop)) (.stop)) (.stop)) (.stop)) (.stop))) (.e 17 (.e 15 (.e 16 (.e 18 (.e 19 (.e 20 (.done) (.stop)) (.stop)) (.stop)) (.stop)) (.e 16 (.e 15 (.e 18 (.e 19 (.e 20 (.done) (.stop)) (.stop)) (.stop)) (.stop)) (.stop))) (.stop)))) (.e 15 (.e 14 (.e 16 (.e 17 (.e 18 (.e 19 (.e 20 (.done) (.stop)) (.stop)) (.stop)) (.stop)) (.e 17 (.e 16 (.e 18 (.e 19 (.e 20 (.done) (.stop)) (.stop)) (.stop)) (.stop)) (.stop))) (.e 16 (.e 14 (.e 17 (.e 18 (.e 19 (.e 20 (.done) (.stop)) (.stop)) (.stop)) (.stop)) (.e 17 (.e 14 (.e 18 (.e 19 (.e 20 (.done) (.stop)) (.stop)) (.stop)) (.stop)) (.stop))) (.e 17 (.e 14 (.e 16 (.e 18 (.e 19 (.e 20 (.done) (.stop)) (.stop)) (.stop)) (.stop)) (.e 16 (.e 14 (.e 18 (.e 19 (.e 20 (.done) (.stop)) (.stop)) (.stop)) (.stop)) (.stop))) (.stop)))) (.e 16 (.e 14 (.e 15 (.e 17 (.e 18 (.e 19 (.e 20 (.done) (.stop)) (.stop)) (.stop)) (.stop)) (.e 17 (.e 15 (.e 18 (.e 19 (.e 20 (.done) (.stop)) (.stop)) (.stop)) (.stop)) (.stop))) (.e 15 (.e 14 (.e 17 (.e 18 (.e 19 (.e 20 (.done) (.stop)) (.stop)) (.stop)) (.stop)) (.e 17 (.e 14 (.e 18 (.e 19 (.e 20 (.done) (.stop)) (.stop)) (.stop)) (.stop)) (.stop))) (.e 17 (.e 14 (.e 15 (.e 18 (.e 19 (.e 20 (.done) (.stop)) (.stop)) (.stop)) (.stop)) (.e 15 (.e 14 (.e 18 (.e 19 (.e 20 (.done) (.stop)) (.stop)) (.stop)) (.stop)) (.stop))) (.stop)))) (.e 17 (.e 14 (.e 15 (.e 16 (.e 18 (.e 19 (.e 20 (.done) (.stop)) (.stop)) (.stop)) (.stop)) (.e 16 (.e 15 (.e 18 (.e 19 (.e 20 (.done) (.stop)) (.stop)) (.stop)) (.stop)) (.stop))) (.e 15 (.e 14 (.e 16 (.e 18 (.e 19 (.e 20 (.done) (.stop)) (.stop)) (.stop)) (.stop)) (.e 16 (.e 14 (.e 18 (.e 19 (.e 20 (.done) (.stop)) (.stop)) (.stop)) (.stop)) (.stop))) (.e 16 (.e 14 (.e 15 (.e 18 (.e 19 (.e 20 (.done) (.stop)) (.stop)) (.stop)) (.stop)) (.e 15 (.e 14 (.e 18 (.e 19 (.e 20 (.done) (.stop)) (.stop)) (.stop)) (.stop)) (.stop))) (.stop)))) (.stop))))) (.e 15 (.e 9 (.e 14 (.e 16 (.e 17 (.e 18 (.e 19 (.e 20 (.done) (.stop)) (.stop)) (.stop)) (.stop)) (.e 17 (.e 16 (.e 18 (.e 19 (.e 20 (.done) (.stop)) (.stop)) (.stop)) (.stop)) (.stop))) (.e 16 (.e 14 (.e 17 (.e 18 (.e 19 (.e 20 (.done) (.stop)) (.stop)) (.stop)) (.stop)) (.e 17 (.e 14 (.e 18 (.e 19 (.e 20 (.done) (.stop)) (.stop)) (.stop)) (.stop)) (.stop))) (.e 17 (.e 14 (.e 16 (.e 18 (.e 19 (.e 20 (.done) (.stop)) (.stop)) (.stop)) (.stop)) (.e 16 (.e 14 (.e 18 (.e 19 (.e 20 (.done) (.stop)) (.stop)) (.stop)) (.stop)) (.stop))) (.stop)))) (.e 16 (.e 9 (.e 14 (.e 17 (.e 18 (.e 19 (.e 20 (.done) (.stop)) (.stop)) (.stop)) (.stop)) (.e 17 (.e 14 (.e 18 (.e 19 (.e 20 (.done) (.stop)) (.stop)) (.stop)) (.stop)) (.stop))) (.e 17 (.e 9 (.e 14 (.e 18 (.e 19 (.e 20 (.done) (.stop)) (.stop)) (.stop)) (.stop)) (.stop)) (.stop))) (.e 17 (.e 9 (.e 14 (.e 16 (.e 18 (.e 19 (.e 20 (.done) (.stop)) (.stop)) (.stop)) (.stop)) (.e 16 (.e 14 (.e 18 (.e 19 (.e 20 (.done) (.stop)) (.stop)) (.stop)) (.stop)) (.stop))) (.e 16 (.e 9 (.e 14 (.e 18 (.e 19 (.e 20 (.done) (.stop)) (.stop)) (.stop)) (.stop)) (.stop)) (.stop))) (.stop)))) (.e 16 (.e 9 (.e 14 (.e 15 (.e 17 (.e 18 (.e 19 (.e 20 (.done) (.stop)) (.stop)) (.stop)) (.stop)) (.e 17 (.e 15 (.e 18 (.e 19 (.e 20 (.done) (.stop)) (.stop)) (.stop)) (.stop)) (.stop))) (.e 15 (.e 14 (.e 17 (.e 18 (.e 19 (.e 20 (.done) (.stop)) (.stop)) (.stop)) (.stop)) (.e 17 (.e 14 (.e 18 (.e 19 (.e 20 (.done) (.stop)) (.stop)) (.stop)) (.stop)) (.stop))) (.e 17 (.e 14 (.e 15 (.e 18 (.e 19 (.e 20 (.done) (.stop)) (.stop)) (.stop)) (.stop)) (.e 15 (.e 14 (.e 18 (.e 19 (.e 20 (.done) (.stop)) (.stop)) (.stop)) (.stop)) (.stop))) (.stop)))) (.e 15 (.e 9 (.e 14 (.e 17 (.e 18 (.e 19 (.e 20 (.done) (.stop)) (.stop)) (.stop)) (.stop)) (.e 17 (.e 14 (.e 18 (.e 19 (.e 20 (.done) (.stop)) (.stop)) (.stop)) (.stop)) (.stop))) (.e 17 (.e 9 (.e 14 (.e 18 (.e 19 (.e 20 (.done) (.stop)) (.stop)) (.stop)) (.stop)) (.stop)) (.stop))) (.e 17 (.e 9 (.e 14 (.e 15 (.e 18 (.e 19 (.e 20 (.done) (.stop)) (.stop)) (.stop)) (.stop)) (.e 15 (.e 14 (.e 18 (.e 19 (.e 20 (.done) (.stop)) (.stop)) (.stop)) (.stop)) (.stop))) (.e 15 (.e 9 (.e 14 (.e 18 (.e 19 (.e 20 (.done) (.stop)) (.stop)) (.stop)) (.stop)) (.stop)) (.stop))) (.stop)))) (.e 17 (.e 9 (.e 14 (.e 15 (.e 16 (.e 18 (.e 19 (.e 20 (.done) (.stop)) (.stop)) (.stop)) (.stop)) (.e 16 (.e 15 (.e 18 (.e 19 (.e 20 (.done) (.stop)) (.stop)) (.stop)) (.stop)) (.stop))) (.e 15 (.e 14 (.e 16 (.e 18 (.e 19 (.e 20 (.done) (.stop)) (.stop)) (.stop)) (.stop)) (.e 16 (.e 14 (.e 18 (.e 19 (.e 20 (.done) (.stop)) (.stop)) (.stop)) (.stop)) (.stop))) (.e 16 (.e 14 (.e 15 (.e 18 (.e 19 (.e 20 (.done) (.stop)) (.stop)) (.stop)) (.stop)) (.e 15 (.e 14 (.e 18 (.e 19 (.e 20 (.done) (.stop)) (.stop)) (.stop)) (.stop)) (.stop))) (.stop)))) (.e 15 (.e 9 (.e 14 (.e 16 (.e 18 (.e 19 (.e 20 (.done) (.stop)) (.stop)) (.stop)) (.stop)) (.e 16 (.e 14 (.e 18 (.e 19 (.e 20 (.done) (.stop)) (.stop)) (.stop)) (.stop)) (.stop))) (.e 16 (.e 9 (.e 14 (.e 18 (.e 19 (.e 20 (.done) (.stop)) (.stop)) (.stop)) (.stop)) (.stop)) (.stop))) (.e 16 (.e 9 (.e 14 (.e 15 (.e 18 (.e 19 (.e 20 (.done) (.stop)) (.stop)) (.stop)) (.stop)) (.e 15 (.e 14 (.e 18 (.e 19 (.e 20 (.done) (.stop)) (.stop)) (.stop)) (.stop)) (.stop))) (.e 15 (.e 9 (.e 14 (.e 18 (.e 19 (.e 20 (.done) (.stop)) (.stop)) (.stop)) (.stop)) (.stop)) (.stop))) (.stop)))) (.stop))))) (.e 15 (.e 4 (.e 9 (.e 14 (.e 16 (.e 17 (.e 18 (.e 19 (.e 20 (.done) (.stop)) (.stop)) (.stop)) (.stop)) (.e 17 (.e 16 (.e 18 (.e 19 (.e 20 (.done) (.stop)) (.stop)) (.stop)) (.stop)) (.stop))) (.e 16 (.e 14 (.e 17 (.e 18 (.e 19 (.e 20 (.done) (.stop)) (.stop)) (.stop)) (.stop)) (.e 17 (.e 14 (.e 18 (.e 19 (.e 20 (.done) (.stop)) (.stop)) (.stop)) (.stop)) (.stop))) (.e 17 (.e 14 (.e 16 (.e 18 (.e 19 (.e 20 (.done) (.stop)) (.stop)) (.stop)) (.stop)) (.e 16 (.e 14 (.e 18 (.e 19 (.e 20 (.done) (.stop)) (.stop)) (.stop)) (.stop)) (.stop))) (.stop)))) (.e 16 (.e 9 (.e 14 (.e 17 (.e 18 (.e 19 (.e 20 (.done) (.stop)) (.stop)) (.stop)) (.stop)) (.e 17 (.e 14 (.e 18 (.e 19 (.e 20 (.done) (.stop)) (.stop)) (.stop)) (.stop)) (.stop))) (.e 17 (.e 9 (.e 14 (.e 18 (.e 19 (.e 20 (.done) (.stop)) (.stop)) (.stop)) (.stop)) (.stop)) (.stop))) (.e 17 (.e 9 (.e 14 (.e 16 (.e 18 (.e 19 (.e 20 (.done) (.stop)) (.stop)) (.stop)) (.stop)) (.e 16 (.e 14 (.e 18 (.e 19 (.e 20 (.done) (.stop)) (.stop)) (.stop)) (.stop)) (.stop))) (.e 16 (.e 9 (.e 14 (.e 18 (.e 19 (.e 20 (.done) (.stop)) (.stop)) (.stop)) (.stop)) (.stop)) (.stop))) (.stop)))) (.e 16 (.e 4 (.e 9 (.e 14 (.e 17 (.e 18 (.e 19 (.e 20 (.done) (.stop)) (.stop)) (.stop)) (.stop)) (.e 17 (.e 14 (.e 18 (.e 19 (.e 20 (.done) (.stop)) (.stop)) (.stop)) (.stop)) (.stop))) (.e 17 (.e 9 (.e 14 (.e 18 (.e 19 (.e 20 (.done) (.stop)) (.stop)) (.stop)) (.stop)) (.stop)) (.stop))) (.e 17 (.e 4 (.e 9 (.e 14 (.e 18 (.e 19 (.e 20 (.done) (.stop)) (.stop)) (.stop)) (.stop)) (.stop)) (.stop)) (.stop))) (.e 17 (.e 4 (.e 9 (.e 14 (.e 16 (.e 18 (.e 19 (.e 20 (.done) (.stop)) (.stop)) (.stop)) (.stop)) (.e 16 (.e 14 (.e 18 (.e 19 (.e 20 (.done) (.stop)) (.stop)) (.stop)) (.stop)) (.stop))) (.e 16 (.e 9 (.e 14 (.e 18 (.e 19 (.e 20 (.done) (.stop)) (.stop)) (.stop)) (.stop)) (.stop)) (.stop))) (.e 16 (.e 4 (.e 9 (.e 14 (.e 18 (.e 19 (.e 20 (.done) (.stop)) (.stop)) (.stop)) (.stop)) (.stop)) (.stop)) (.stop))) (.stop)))) (.e 16 (.e 4 (.e 9 (.e 14 (.e 15 (.e 17 (.e 18 (.e 19 (.e 20 (.done) (.stop)) (.stop)) (.stop)) (.stop)) (.e 17 (.e 15 (.e 18 (.e 19 (.e 20 (.done) (.stop)) (.stop)) (.stop)) (.stop)) (.stop))) (.e 15 (.e 14 (.e 17 (.e 18 (.e 19 (.e 20 (.done) (.stop)) (.stop)) (.stop)) (.stop)) (.e 17 (.e 14 (.e 18 (.e 19 (.e 20 (.done) (.stop)) (.stop)) (.stop)) (.stop)) (.stop))) (.e 17 (.e 14 (.e 15 (.e 18 (.e 19 (.e 20 (.done) (.stop)) (.stop)) (.stop)) (.stop)) (.e 15 (.e 14 (.e 18 (.e 19 (.e 20 (.done) (.stop)) (.stop)) (.stop)) (.stop)) (.stop))) (.stop)))) (.e 15 (.e 9 (.e 14 (.e 17 (.e 18 (.e 19 (.e 20 (.done) (.stop)) (.stop)) (.stop)) (.stop)) (.e 17 (.e 14 (.e 18 (.e 19 (.e 20 (.done) (.stop)) (.stop)) (.stop)) (.stop)) (.stop))) (.e 17 (.e 9 (.e 14 (.e 18 (.e 19 (.e 20 (.done) (.stop)) (.stop)) (.stop)) (.stop)) (.stop)) (.stop))) (.e 17 (.e 9 (.e 14 (.e 15 (.e 18 (.e 19 (.e 20 (.done) (.stop)) (.stop)) (.stop)) (.stop)) (.e 15 (.e 14 (.e 18 (.e 19 (.e 20 (.done) (.stop)) (.stop)) (.stop)) (.stop)) (.stop))) (.e 15 (.e 9 (.e 14 (.e 18 (.e 19 (.e 20 (.done) (.stop)) (.stop)) (.stop)) (.stop)) (.stop)) (.stop))) (.stop)))) (.e 15 (.e 4 (.e 9 (.e 14 (.e 17 (.e 18 (.e 19 (.e 20 (.done) (.stop)) (.stop)) (.stop)) (.stop)) (.e 17 (.e 14 (.e 18 (.e 19 (.e 20 (.done) (.stop)) (.stop)) (.stop)) (.stop)) (.stop))) (.e 17 (.e 9 (.e 14 (.e 18 (.e 19 (.e 20 (.done) (.stop)) (.stop)) (.stop)) (.stop)) (.stop)) (.stop))) (.e 17 (.e 4 (.e 9 (.e 14 (.e 18 (.e 19 (.e 20 (.done) (.stop)) (.stop)) (.stop)) (.stop)) (.stop)) (.stop)) (.stop))) (.e 17 (.e 4 (.e 9 (.e 14 (.e 15 (.e 18 (.e 19 (.e 20 (.done) (.stop)) (.stop)) (.stop)) (.stop)) (.e 15 (.e 14 (.e 18 (.e 19 (.e 20 (.done) (.stop)) (.stop)) (.stop)) (.stop)) (.stop))) (.e 15 (.e 9 (.e 14 (.e 18 (.e 19 (.e 20 (.done) (.stop)) (.stop)) (.stop)) (.stop)) (.stop)) (.stop))) (.e 15 (.e 4 (.e 9 (.e 14 (.e 18 (.e 19 (.e 20 (.done) (.stop)) (.stop)) (.stop)) (.stop)) (.stop)) (.stop)) (.stop))) (.stop)))) (.e 17 (.e 4 (.e 9 (.e 14 (.e 15 (.e 16 (.e 18 (.e 19 (.e 20 (.done) (.stop)) (.stop)) (.stop)) (.stop)) (.e 16 (.e 15 (.e 18 (.e 19 (.e 20 (.done) (.stop)) (.stop)) (.stop)) (.stop)) (.stop))) (.e 15 (.e 14 (.e 16 (.e 18 (.e 19 (.e 20 (.done) (.stop)) (.stop)) (.stop)) (.stop)) (.e 16 (.e 14 (.e 18 (.e 19 (.e 20 (.done) (.stop)) (.stop)) (.stop)) (.stop)) (.stop))) (.e 16 (.e 14 (.e 15 (.e 18 (.e 19 (.e 20 (.done) (.stop)) (.stop)) (.stop)) (.stop)) (.e 15 (.e 14 (.e 18 (.e 19 (.e 20 (.done) (.stop)) (.stop)) (.stop)) (.stop)) (.stop))) (.stop)))) (.e 15 (.e 9 (.e 14 (.e 16 (.e 18 (.e 19 (.e 20 (.done) (.stop)) (.stop)) (.stop)) (.stop)) (.e 16 (.e 14 (.e 18 (.e 19 (.e 20 (.done) (.stop)) (.stop)) (.stop)) (.stop)) (.stop))) (.e 16 (.e 9 (.e 14 (.e 18 (.e 19 (.e 20 (.done) (.stop)) (.stop)) (.stop)) (.stop)) (.stop)) (.stop))) (.e 16 (.e 9 (.e 14 (.e 15 (.e 18 (.e 19 (.e 20 (.done) (.stop)) (.stop)) (.stop)) (.stop)) (.e 15 (.e 14 (.e 18 (.e 19 (.e 20 (.done) (.stop)) (.stop)) (.stop)) (.stop)) (.stop))) (.e 15 (.e 9 (.e 14 (.e 18 (.e 19 (.e 20 (.done) (.stop)) (.stop)) (.stop)) (.stop)) (.stop)) (.stop))) (.stop)))) (.e 15 (.e 4 (.e 9 (.e 14 (.e 16 (.e 18 (.e 19 (.e 20 (.done) (.stop)) (.stop)) (.stop)) (.stop)) (.e 16 (.e 14 (.e 18 (.e 19 (.e 20 (.done) (.stop)) (.stop)) (.stop)) (.stop)) (.stop))) (.e 16 (.e 9 (.e 14 (.e 18 (.e 19 (.e 20 (.done) (.stop)) (.stop)) (.stop)) (.stop)) (.stop)) (.stop))) (.e 16 (.e 4 (.e 9 (.e 14 (.e 18 (.e 19 (.e 20 (.done) (.stop)) (.stop)) (.stop)) (.stop)) (.stop)) (.stop)) (.stop))) (.e 16 (.e 4 (.e 9 (.e 14 (.e 15 (.e 18 (.e 19 (.e 20 (.done) (.stop)) (.stop)) (.stop)) (.stop)) (.e 15 (.e 14 (.e 18 (.e 19 (.e 20 (.done) (.stop)) (.stop)) (.stop)) (.stop)) (.stop))) (.e 15 (.e 9 (.e 14 (.e 18 (.e 19 (.e 20 (.done) (.stop)) (.stop)) (.stop)) (.stop)) (.stop)) (.stop))) (.e 15 (.e 4 (.e 9 (.e 14 (.e 18 (.e 19 (.e 20 (.done) (.stop)) (.stop)) (.stop)) (.stop)) (.stop)) (.stop)) (.stop))) (.stop)))) (.stop))))))))))))))))) mixed (by kernel_rfl) (by kernel_rfl) ?_
       refine Y2 ?_;refine P_il (Has.low (E:=[]) ha0' hK) h8 Ey Ej (sb 0) (fun b0 o0=>?_);refine Y2 ?_;refine P_il (Has.low (E:=[]) ha0' hK) h9 Ey Ej (sb 0) (fun b1 o1=>?_);refine Y2 ?_;refine P_il (Has.low (E:=[]) ha0' hK) h10 Ey Ej (sb 0) (fun b2 o2=>?_)
       repeat'
        first
        | (with_reducible exact Bb)
        | ((with_reducible refine P_at 4 ?_);refine P_x rfl (Aw rfl (fun w1 hw1=>Bh x1  h11 w1) rfl ?_) ?_)
        | ((with_reducible refine P_at 9 ?_);refine P_x rfl (Aw rfl (fun w1 hw1=>Bh x2  h12 w1) rfl ?_) ?_)
        | ((with_reducible refine P_at 14 ?_);refine P_x rfl (Aw rfl (fun w1 hw1=>Bh x3  h13 w1) rfl ?_) ?_)
        | ((with_reducible refine P_at 15 ?_);refine P_x rfl (Bp Sb rfl (fun g=>?_)) ?_)
        | ((with_reducible refine P_at 16 ?_);refine P_x rfl (Bp Sb rfl (fun g=>?_)) ?_)
        | ((with_reducible refine P_at 17 ?_);refine P_x rfl (Bp Sb rfl (fun g=>?_)) ?_)
        | ((with_reducible refine P_at 18 ?_);refine P_h rfl rfl (Bc rfl rfl rfl (.there (.there (.here))) (.put (.put (.done))) rfl (List.cons_ne_nil _ _) Bv.2 ?_) ?_)
        | ((with_reducible refine P_at 19 ?_);refine P_h rfl rfl (Bc rfl rfl rfl (.there (.here)) (.put (.put (.done))) rfl (List.cons_ne_nil _ _) Bv.2 ?_) ?_)
        | ((with_reducible refine P_at 20 ?_);refine P_h rfl rfl (Bc rfl rfl rfl (.here) (.put (.put (.done))) rfl (List.cons_ne_nil _ _) Bv.2 ?_) ?_)
        | ((with_reducible refine An9 ?_);exact Aoq (r2.X,r2.Y,r3.X,r3.Y,r4.X,r4.Y) (_,_,_) hx24 trivial (by repeat (first | exact .nil | refine .cons rfl ?_)) (by repeat (first | exact .refl | refine .pick 0 rfl ?_ | refine .pick 1 rfl ?_ | refine .pick 2 rfl ?_ | refine .pick 3 rfl ?_ | refine .pick 4 rfl ?_ | refine .pick 5 rfl ?_ | refine .pick 6 rfl ?_ | refine .pick 7 rfl ?_)))
        | ((with_reducible refine P_at 19 ?_);refine P_h rfl rfl (Bc rfl rfl rfl (.here) (.put (.put (.done))) rfl (List.cons_ne_nil _ _) Bv.2 ?_) ?_)
        | ((with_reducible refine P_at 20 ?_);refine P_h rfl rfl (Bc rfl rfl rfl (.there (.here)) (.put (.put (.done))) rfl (List.cons_ne_nil _ _) Bv.2 ?_) ?_)
        | ((with_reducible refine P_at 18 ?_);refine P_h rfl rfl (Bc rfl rfl rfl (.there (.here)) (.put (.put (.done))) rfl (List.cons_ne_nil _ _) Bv.2 ?_) ?_)
        | ((with_reducible refine P_at 19 ?_);refine P_h rfl rfl (Bc rfl rfl rfl (.there (.there (.here))) (.put (.put (.done))) rfl (List.cons_ne_nil _ _) Bv.2 ?_) ?_)
        | ((with_reducible refine P_at 18 ?_);refine P_h rfl rfl (Bc rfl rfl rfl (.here) (.put (.put (.done))) rfl (List.cons_ne_nil _ _) Bv.2 ?_) ?_)
        | ((with_reducible refine P_at 20 ?_);refine P_h rfl rfl (Bc rfl rfl rfl (.there (.there (.here))) (.put (.put (.done))) rfl (List.cons_ne_nil _ _) Bv.2 ?_) ?_)
        | (rintro _ _ hlo ⟨rfl,rfl,-⟩;refine Cs ?_)
  ·refine Y3 ?_;obtain rfl:=Bd ht0 hx3;refine Y2 ?_;exact Mt s0.1 () ho0 trivial (by exact .refl)
set_option maxRecDepth 100000 in
theorem Aau (p0:List Ae) {K:List Ent} {A0_0:Option Addr} {c0_0:Nat} (ha0:Has K A0_0 p0.length c0_0 4 Ak (p0)) {r:Bool} (hx:Ly p0=some r) (w:World) (hK:∀ e∈K,Ent.ok w e):CtL Tryz.prog 286 [.slice (A0_0) (p0.length) (c0_0)] w fun v Ln=>v = .bool (r)∧Ln=[]∧True:=by
 have ha0':=Has.up0 ha0;refine CtL.mk 25 Tryz.func286 rfl Tryz.ntmps286 (by kernel_rfl) rfl ?_;show T 25 _ [(0,.slice (A0_0) (p0.length) (c0_0))] _;unfold Ly at hx;refine Y5 ?_;refine Tj (γ:=Unit) hx (fun s2 y2=>[]) (fun s2 y2=>[]++[.old w]) (fun s2 y2=>True) (fun s2 y2 hx0 hG0=>?_) (fun j2 hx=>?_)
 ·refine Y6 ?_;obtain rfl:=Option.some.inj hx0;exact Av (rs:=[.tmp 2]) Tryz.results286 (.tmp rfl (.nil)) (Ln:=[]) ⟨rfl,rfl,trivial⟩ (Ax) (by exact .refl)
 ·refine Y6 ?_;obtain ⟨t0,hl0,ho0⟩:=Ac hx;refine Lp (σ:=Int) (γ:=Unit) hl0 (fun s0 y0=>[(0,.slice (A0_0) (p0.length) (c0_0)),(3,.int .i64 (s0))]) (fun s0 y0=>[]++[.old w]) (fun s0 y0=>True) () trivial (by exact .refl) ?_;intro s0 y0 hG1 x0 hx1 ht0;unfold Lh at hx1;refine Y5 ?_;refine Af (Bf rfl 34 Tryz.underlying22) rfl ?_;refine Y3 ?_;refine Ti hx1 (s:=7) rfl (fun h0 hx2=>?_) (fun h0 hx3=>?_)
  ·refine Y6 ?_;refine T_dr [0,0,1,2,0,0,1,2,0,0,0,1,2,2,0] (.q 0 (.q 1 (.q 2 (.q 4 (.q 5 (.q 6 (.q 8 (.q 9 (.q 10 (.q 11 (.e 3 (.e 7 (.e 12 (.e 13 (.q 14 (.done)) (.stop)) (.stop)) (.stop)) (.stop)))))))))))) mixed (by kernel_rfl) (by kernel_rfl) ?_;refine Y ?_;obtain ⟨x1,h1,hx4⟩:=Ac hx2;refine P_il (Has.low (E:=[]) ha0' hK) h1 Ey Ej (sb 0) (fun b0 o0=>?_);refine Y ?_;obtain ⟨x2,h2,hx5⟩:=Ac hx4;refine P_il (Has.low (E:=[]) ha0' hK) h2 Ey Ej (sb 0) (fun b1 o1=>?_);refine Y2 ?_;obtain ⟨x3,h3,hx6⟩:=Ac hx5;refine P_il (Has.low (E:=[]) ha0' hK) h3 Ey Ej (sb 0) (fun b2 o2=>?_);obtain ⟨r0,h4,hx7⟩:=Ac hx6;refine Pc (fun w1 hw1=>Bh x1  h4 w1) ?_;obtain ⟨r1,h5,hx8⟩:=Ac hx7;refine Pc (fun w1 hw1=>Bh x2  h5 w1) ?_;obtain ⟨r2,h6,hx9⟩:=Ac hx8;refine Pc (fun w1 hw1=>Bh x3  h6 w1) ?_;obtain ⟨r3,h7,hx10⟩:=Ac hx9;refine Pc (fun w1 hw1=>Hw r0 r1 r2  h7 w1) ?_;refine Y3 ?_;refine Fb (s:=24) rfl (fun h8=>?_) (fun h8=>?_)
   ·have hx11:=Pr h8 hx10;refine Y9 ?_;obtain rfl:=Bd ht0 hx11;refine Y3 ?_;obtain rfl:=Option.some.inj ho0;exact Av (rs:=[.tmp 2]) Tryz.results286 (.tmp rfl (.nil)) (Ln:=[]) ⟨rfl,rfl,trivial⟩ (Ax) (by exact .refl)
   ·have hx12:=Bx h8 hx10;refine Y9 ?_;exact Rp (w64 (s0+1)) () hx12 trivial (by exact .refl)
  ·refine Y3 ?_;obtain rfl:=Bd ht0 hx3;refine Y2 ?_;exact Mt () () ho0 trivial (by exact .refl)
end Go.Proofs.YtbkobeeileemjaaGreat
