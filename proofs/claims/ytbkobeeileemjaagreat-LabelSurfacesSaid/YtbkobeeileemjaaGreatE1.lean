/- Walks of the program, with their plain functions: the references on places. -/
import Derived.Test.YtbkobeeileemjaaGreatD5
namespace Go.Proofs.YtbkobeeileemjaaGreat
open Go Go.RowKit
theorem Anw:Uh Tryz.prog 351 [.int .i64 (0),.int .i64 (0),.int .i64 (0)]:=⟨_,Tryz.zeroValue351,rfl⟩
theorem Ah0:Cx Tryz.prog 351 0 0:=.mk Tryz.underlying351 rfl rfl (show Tryz.prog.info? 3=some Tryz.t3 from by kernel_rfl) (show Tryz.t3.size=1 from by kernel_rfl) rfl
theorem Ah1:Cx Tryz.prog 351 1 1:=.mk Tryz.underlying351 rfl rfl (show Tryz.prog.info? 3=some Tryz.t3 from by kernel_rfl) (show Tryz.t3.size=1 from by kernel_rfl) rfl
theorem Ad5:Cx Tryz.prog 351 2 2:=.mk Tryz.underlying351 rfl rfl (show Tryz.prog.info? 3=some Tryz.t3 from by kernel_rfl) (show Tryz.t3.size=1 from by kernel_rfl) rfl
theorem Yy (x0:Int) (x1:Int) (x2:Int):Js Tryz.prog 351 [(0,.int .i64 x0),(1,.int .i64 x1),(2,.int .i64 x2)] [.int .i64 x0,.int .i64 x1,.int .i64 x2]:=fun w=>by kernel_rfl
theorem Vo:Pp Tryz.prog 351 3:=.mk Tryz.underlying351 rfl (show Tryz.prog.info? 351=some Tryz.t351 from by kernel_rfl) (by kernel_rfl)
noncomputable def Be (p0:Ae):Option Ad :=
 some (⟨p0.X,p0.Y⟩:Ad)
noncomputable def Fo (p0:Ad):Option Bool :=
 jn (fun (s2:Bool) =>
 some s2)
 (fun j2=>if (-268435456)≤p0.X then (if p0.X≤268435456 then (if (-268435456)≤p0.Y then (j2 (decide (p0.Y≤268435456)))
 else (j2 false))
 else (j2 false))
 else (j2 false))
noncomputable def Fa (p0:Ae):Option Bool :=
 jn (fun (s2:Bool) =>
 some s2)
 (fun j2=>bnd (Be p0) fun r2 =>
 bnd (Fo r2) fun r5 =>
 if r5=true then (if (-268435456)≤p0.Z.Lo then (if p0.Z.Lo≤p0.Z.Hi then (j2 (decide (p0.Z.Hi≤268435456)))
 else (j2 false))
 else (j2 false))
 else (j2 false))
noncomputable def Gq (p0:Ad) (p1:Ad):Option Bool :=
 jn (fun (s2:Bool) =>
 some s2)
 (fun j2=>if p0.X < p1.X then (j2 true)
 else (if p0.X=p1.X then (j2 (decide (p0.Y < p1.Y)))
 else (j2 false)))
noncomputable def Nm (p0:Ad) (p1:Ad) (p2:Ad):Option Int :=
 some (w64 ((w64 ((w64 (p1.X-p0.X))*(w64 (p2.Y-p0.Y))))-(w64 ((w64 (p1.Y-p0.Y))*(w64 (p2.X-p0.X))))))
noncomputable def Gs (p0:Int):Option Int :=
 if p0 < 0 then (some (-1))
 else (if 0 < p0 then (some 1)
 else (some 0))
noncomputable def Em (p0:Ad) (p1:Ad) (p2:Ad):Option Int :=
 bnd (Nm p0 p1 p2) fun r4 =>
 bnd (Gs r4) fun r7 =>
 some r7
structure Ct where
 high:Int
 middle:Int
 low:Int
noncomputable def Eg (p0:Ct) (p1:Int) (p2:Int):Option Ct :=
 some (⟨w64 (p0.high+(w64 ((shr_ .i64 p1 30)*(shr_ .i64 p2 30)))),w64 ((w64 (p0.middle+(w64 ((shr_ .i64 p1 30)*(Mn .i64 p2 1073741823)))))+(w64 ((Mn .i64 p1 1073741823)*(shr_ .i64 p2 30)))),w64 (p0.low+(w64 ((Mn .i64 p1 1073741823)*(Mn .i64 p2 1073741823))))⟩:Ct)
noncomputable def Gg (p0:Ct):Option Int :=
 if (w64 (p0.high+(shr_ .i64 (w64 (p0.middle+(shr_ .i64 p0.low 30))) 30)))=0 then (bnd (Gs (w64 ((Mn .i64 (w64 (p0.middle+(shr_ .i64 p0.low 30))) 1073741823)+(Mn .i64 p0.low 1073741823)))) fun r8 =>
 some r8)
 else (bnd (Gs (w64 (p0.high+(shr_ .i64 (w64 (p0.middle+(shr_ .i64 p0.low 30))) 30)))) fun r4 =>
 some r4)
noncomputable def Jd (p0:Ad) (p1:Ad) (p2:Ad) (p3:Ad):Option Int :=
 bnd (Eg (⟨0,0,0⟩:Ct) (w64 ((w64 ((w64 (p0.X-p3.X))*(w64 (p0.X-p3.X))))+(w64 ((w64 (p0.Y-p3.Y))*(w64 (p0.Y-p3.Y)))))) (w64 ((w64 ((w64 (p1.X-p3.X))*(w64 (p2.Y-p3.Y))))-(w64 ((w64 (p1.Y-p3.Y))*(w64 (p2.X-p3.X))))))) fun r6 =>
 bnd (Eg r6 (w64 ((w64 ((w64 (p1.X-p3.X))*(w64 (p1.X-p3.X))))+(w64 ((w64 (p1.Y-p3.Y))*(w64 (p1.Y-p3.Y)))))) (w64 ((w64 ((w64 (p2.X-p3.X))*(w64 (p0.Y-p3.Y))))-(w64 ((w64 (p2.Y-p3.Y))*(w64 (p0.X-p3.X))))))) fun r9 =>
 bnd (Eg r9 (w64 ((w64 ((w64 (p2.X-p3.X))*(w64 (p2.X-p3.X))))+(w64 ((w64 (p2.Y-p3.Y))*(w64 (p2.Y-p3.Y)))))) (w64 ((w64 ((w64 (p0.X-p3.X))*(w64 (p1.Y-p3.Y))))-(w64 ((w64 (p0.Y-p3.Y))*(w64 (p1.X-p3.X))))))) fun r0 =>
 bnd (Gg r0) fun r1 =>
 some r1
set_option maxRecDepth 100000 in
theorem Bh (p0:Ae)  {r:Ad} (hx:Be p0=some r) (w:World):CtL Tryz.prog 20 [.agg #[.int .i64 (p0.X),.int .i64 (p0.Y),.int .i64 (p0.Z.Lo),.int .i64 (p0.Z.Hi)]] w fun v Ln=>v = .agg #[.int .i64 (r.X),.int .i64 (r.Y)]∧Ln=[]∧True:=by
 refine CtL.mk 8 Tryz.func20 rfl Tryz.ntmps20 (by kernel_rfl) rfl ?_;show T 8 _ [(0,.agg #[.int .i64 (p0.X),.int .i64 (p0.Y),.int .i64 (p0.Z.Lo),.int .i64 (p0.Z.Hi)])] _;unfold Be at hx;refine Y2 ?_;refine T_x (Bl rfl rfl rfl (fun g1=>?_));refine T_x (Bp Sb rfl (fun g2=>?_));refine Y4 ?_;refine Af (Ah rfl Adm rfl) rfl ?_;refine Af (Ag rfl (i:=1) rfl rfl one3) rfl ?_;refine Af (Ah rfl Adn rfl) rfl ?_;refine Af (Ag rfl (i:=1) rfl rfl one3) rfl ?_;refine Af (Bt rfl (Dy _ _)) rfl ?_;refine T_h (Bc rfl rfl rfl (.here) (.put (.put (.done))) rfl (List.cons_ne_nil _ _) Bv.2 ?_);refine Y3 ?_;obtain rfl:=Option.some.inj hx;exact Av (rs:=[.cell 2 28]) Tryz.results20 (.cell rfl (i:=0) rfl rfl Bv (.nil)) (Ln:=[]) ⟨rfl,rfl,trivial⟩ (Ax) (by exact .drop 0 rfl (.drop 0 rfl (.refl)))
set_option maxRecDepth 100000 in
theorem Ug (p0:Ad)  {r:Bool} (hx:Fo p0=some r) (w:World):CtL Tryz.prog 177 [.agg #[.int .i64 (p0.X),.int .i64 (p0.Y)]] w fun v Ln=>v = .bool (r)∧Ln=[]∧True:=by
 refine CtL.mk 21 Tryz.func177 rfl Tryz.ntmps177 (by kernel_rfl) rfl ?_;show T 21 _ [(0,.agg #[.int .i64 (p0.X),.int .i64 (p0.Y)])] _;unfold Fo at hx;refine Y2 ?_;refine T_x (Bl rfl rfl rfl (fun g1=>?_));refine Y3 ?_;refine Tj (γ:=Unit) hx (fun s2 y2=>[(2,.bool (s2))]) (fun s2 y2=>[]++[.old w]) (fun s2 y2=>True) (fun s2 y2 hx0 hG0=>?_) (fun j2 hx=>?_)
 ·refine Y ?_;obtain rfl:=Option.some.inj hx0;exact Av (rs:=[.tmp 2]) Tryz.results177 (.tmp rfl (.nil)) (Ln:=[]) ⟨rfl,rfl,trivial⟩ (Ax) (by exact .refl)
 ·refine Y ?_;refine Af (Ah rfl Cl rfl) rfl ?_;refine Af (Ag rfl (i:=0) rfl rfl one3) rfl ?_;refine Y2 ?_;refine Ti hx (s:=6) rfl (fun h2 hx3=>?_) (fun h2 hx1=>?_)
  ·refine Aq rfl rfl rfl (Ah rfl Cl rfl) rfl ?_;refine Aq rfl rfl rfl (Ag rfl (i:=0) rfl rfl one3) rfl ?_;refine Y3 ?_;refine Ti hx3 (s:=11) rfl (fun h4 hx5=>?_) (fun h4 hx9=>?_)
   ·refine Aq rfl rfl rfl (Ah rfl Ck rfl) rfl ?_;refine Aq rfl rfl rfl (Ag rfl (i:=0) rfl rfl one3) rfl ?_;refine Y3 ?_;refine Ti hx5 (s:=16) rfl (fun h6 hx7=>?_) (fun h6 hx8=>?_)
    ·refine Aq rfl rfl rfl (Ah rfl Ck rfl) rfl ?_;refine Aq rfl rfl rfl (Ag rfl (i:=0) rfl rfl one3) rfl ?_;refine Y4 ?_;exact Mt (decide (p0.Y≤268435456)) () hx7 trivial (by exact .drop 0 rfl (.refl))
    ·refine Y6 ?_;exact Mt false () hx8 trivial (by exact .drop 0 rfl (.refl))
   ·refine Y11 ?_;exact Mt false () hx9 trivial (by exact .drop 0 rfl (.refl))
  ·(iterate 16 refine Y ?_);exact Mt false () hx1 trivial (by exact .drop 0 rfl (.refl))
set_option maxRecDepth 100000 in
theorem Tu (p0:Ae)  {r:Bool} (hx:Fa p0=some r) (w:World):CtL Tryz.prog 97 [.agg #[.int .i64 (p0.X),.int .i64 (p0.Y),.int .i64 (p0.Z.Lo),.int .i64 (p0.Z.Hi)]] w fun v Ln=>v = .bool (r)∧Ln=[]∧True:=by
 refine CtL.mk 27 Tryz.func97 rfl Tryz.ntmps97 (by kernel_rfl) rfl ?_;show T 27 _ [(0,.agg #[.int .i64 (p0.X),.int .i64 (p0.Y),.int .i64 (p0.Z.Lo),.int .i64 (p0.Z.Hi)])] _;unfold Fa at hx;refine Y2 ?_;refine T_x (Bl rfl rfl rfl (fun g1=>?_));refine Y3 ?_;refine Tj (γ:=Unit) hx (fun s2 y2=>[(2,.bool (s2))]) (fun s2 y2=>[]++[.old w]) (fun s2 y2=>True) (fun s2 y2 hx0 hG0=>?_) (fun j2 hx=>?_)
 ·refine Y ?_;obtain rfl:=Option.some.inj hx0;exact Av (rs:=[.tmp 2]) Tryz.results97 (.tmp rfl (.nil)) (Ln:=[]) ⟨rfl,rfl,trivial⟩ (Ax) (by exact .refl)
 ·refine Y ?_;refine Af (Au rfl (i:=0) rfl rfl Ej) rfl ?_;obtain ⟨r2,h3,hx4⟩:=Ac hx;refine Tc (fun w1 hw1=>Bh p0  h3 w1) ?_;obtain ⟨r5,h6,hx7⟩:=Ac hx4;refine Tc (fun w1 hw1=>Ug r2  h6 w1) ?_;refine Y ?_;refine By (s:=6) rfl (fun h8=>?_) (fun h8=>?_)
  ·have hx9:=Bx h8 hx7;refine Aq rfl rfl rfl (Ah rfl Vv rfl) rfl ?_;refine Aq rfl rfl rfl (Ah rfl Sk rfl) rfl ?_;refine Aq rfl rfl rfl (Ag rfl (i:=0) rfl rfl one3) rfl ?_;refine Y3 ?_;refine Ti hx9 (s:=12) rfl (fun h0 hx1=>?_) (fun h0 hx2=>?_)
   ·refine Aq rfl rfl rfl (Ah rfl Vv rfl) rfl ?_;refine Aq rfl rfl rfl (Ah rfl Sk rfl) rfl ?_;refine Aq rfl rfl rfl (Ag rfl (i:=0) rfl rfl one3) rfl ?_;refine Aq rfl rfl rfl (Ah rfl Vv rfl) rfl ?_;refine Aq rfl rfl rfl (Ah rfl Mk rfl) rfl ?_;refine Aq rfl rfl rfl (Ag rfl (i:=0) rfl rfl one3) rfl ?_;refine Y3 ?_;refine Ti hx1 (s:=21) rfl (fun h1 hx3=>?_) (fun h1 hx5=>?_)
    ·refine Aq rfl rfl rfl (Ah rfl Vv rfl) rfl ?_;refine Aq rfl rfl rfl (Ah rfl Mk rfl) rfl ?_;refine Aq rfl rfl rfl (Ag rfl (i:=0) rfl rfl one3) rfl ?_;refine Y4 ?_;exact Mt (decide (p0.Z.Hi≤268435456)) () hx3 trivial (by exact .drop 0 rfl (.refl))
    ·refine Y7 ?_;exact Mt false () hx5 trivial (by exact .drop 0 rfl (.refl))
   ·(iterate 16 refine Y ?_);exact Mt false () hx2 trivial (by exact .drop 0 rfl (.refl))
  ·have hx6:=Bn h8 hx7;(iterate 22 refine Y ?_);exact Mt false () hx6 trivial (by exact .drop 0 rfl (.refl))
set_option maxRecDepth 100000 in
theorem Rl (p0:Ad) (p1:Ad)  {r:Bool} (hx:Gq p0 p1=some r) (w:World):CtL Tryz.prog 338 [.agg #[.int .i64 (p0.X),.int .i64 (p0.Y)],.agg #[.int .i64 (p1.X),.int .i64 (p1.Y)]] w fun v Ln=>v = .bool (r)∧Ln=[]∧True:=by
 refine CtL.mk 24 Tryz.func338 rfl Tryz.ntmps338 (by kernel_rfl) rfl ?_;show T 24 _ [(0,.agg #[.int .i64 (p0.X),.int .i64 (p0.Y)]),(1,.agg #[.int .i64 (p1.X),.int .i64 (p1.Y)])] _;unfold Gq at hx;refine Y2 ?_;refine T_x (Bl rfl rfl rfl (fun g1=>?_));refine T_x (Bl rfl rfl rfl (fun g2=>?_));refine Y3 ?_;refine Tj (γ:=Unit) hx (fun s2 y2=>[(4,.bool (s2))]) (fun s2 y2=>[]++[.old w]) (fun s2 y2=>True) (fun s2 y2 hx9 hG0=>?_) (fun j2 hx=>?_)
 ·refine Y ?_;obtain rfl:=Option.some.inj hx9;exact Av (rs:=[.tmp 4]) Tryz.results338 (.tmp rfl (.nil)) (Ln:=[]) ⟨rfl,rfl,trivial⟩ (Ax) (by exact .refl)
 ·refine Y ?_;refine Af (Ah rfl Cl rfl) rfl ?_;refine Af (Ag rfl (i:=1) rfl rfl one3) rfl ?_;refine Af (Ah rfl Cl rfl) rfl ?_;refine Af (Ag rfl (i:=0) rfl rfl one3) rfl ?_;refine Y2 ?_;refine Ti hx (s:=10) rfl (fun h3 hx4=>?_) (fun h3 hx5=>?_)
  ·(iterate 15 refine Y ?_);exact Mt true () hx4 trivial (by exact .drop 0 rfl (.drop 0 rfl (.refl)))
  ·refine Aq rfl rfl rfl (Ah rfl Cl rfl) rfl ?_;refine Aq rfl rfl rfl (Ag rfl (i:=1) rfl rfl one3) rfl ?_;refine Aq rfl rfl rfl (Ah rfl Cl rfl) rfl ?_;refine Aq rfl rfl rfl (Ag rfl (i:=0) rfl rfl one3) rfl ?_;refine Y2 ?_;refine Ti hx5 (s:=16) rfl (fun h6 hx7=>?_) (fun h6 hx8=>?_)
   ·refine Aq rfl rfl rfl (Ah rfl Ck rfl) rfl ?_;refine Aq rfl rfl rfl (Ag rfl (i:=1) rfl rfl one3) rfl ?_;refine Aq rfl rfl rfl (Ah rfl Ck rfl) rfl ?_;refine Aq rfl rfl rfl (Ag rfl (i:=0) rfl rfl one3) rfl ?_;refine Y5 ?_;exact Mt (decide (p0.Y < p1.Y)) () hx7 trivial (by exact .drop 0 rfl (.drop 0 rfl (.refl)))
   ·refine Y9 ?_;exact Mt false () hx8 trivial (by exact .drop 0 rfl (.drop 0 rfl (.refl)))
set_option maxRecDepth 100000 in
theorem Yz (p0:Ad) (p1:Ad) (p2:Ad)  {r:Int} (hx:Nm p0 p1 p2=some r) (w:World):CtL Tryz.prog 242 [.agg #[.int .i64 (p0.X),.int .i64 (p0.Y)],.agg #[.int .i64 (p1.X),.int .i64 (p1.Y)],.agg #[.int .i64 (p2.X),.int .i64 (p2.Y)]] w fun v Ln=>v = .int .i64 (r)∧Ln=[]∧True:=by
 refine CtL.mk 30 Tryz.func242 rfl Tryz.ntmps242 (by kernel_rfl) rfl ?_;show T 30 _ [(0,.agg #[.int .i64 (p0.X),.int .i64 (p0.Y)]),(1,.agg #[.int .i64 (p1.X),.int .i64 (p1.Y)]),(2,.agg #[.int .i64 (p2.X),.int .i64 (p2.Y)])] _;unfold Nm at hx;refine Y2 ?_;refine T_x (Bl rfl rfl rfl (fun g1=>?_));refine T_x (Bl rfl rfl rfl (fun g2=>?_));refine T_x (Bl rfl rfl rfl (fun g3=>?_));refine Y5 ?_;refine Af (Ah rfl Cl rfl) rfl ?_;refine Af (Ag rfl (i:=1) rfl rfl one3) rfl ?_;refine Af (Ah rfl Cl rfl) rfl ?_;refine Af (Ag rfl (i:=2) rfl rfl one3) rfl ?_;refine Y ?_;refine Af (Ah rfl Ck rfl) rfl ?_;refine Af (Ag rfl (i:=0) rfl rfl one3) rfl ?_;refine Af (Ah rfl Ck rfl) rfl ?_;refine Af (Ag rfl (i:=2) rfl rfl one3) rfl ?_;refine Y2 ?_;refine Af (Ah rfl Ck rfl) rfl ?_;refine Af (Ag rfl (i:=1) rfl rfl one3) rfl ?_;refine Af (Ah rfl Ck rfl) rfl ?_;refine Af (Ag rfl (i:=2) rfl rfl one3) rfl ?_;refine Y ?_;refine Af (Ah rfl Cl rfl) rfl ?_;refine Af (Ag rfl (i:=0) rfl rfl one3) rfl ?_;refine Af (Ah rfl Cl rfl) rfl ?_;refine Af (Ag rfl (i:=2) rfl rfl one3) rfl ?_;refine Y7 ?_;obtain rfl:=Option.some.inj hx;exact Av (rs:=[.tmp 6]) Tryz.results242 (.tmp rfl (.nil)) (Ln:=[]) ⟨rfl,rfl,trivial⟩ (Ax) (by exact .drop 0 rfl (.drop 0 rfl (.drop 0 rfl (.refl))))
set_option maxRecDepth 100000 in
theorem Ow (p0:Int)  {r:Int} (hx:Gs p0=some r) (w:World):CtL Tryz.prog 241 [.int .i64 (p0)] w fun v Ln=>v = .int .i64 (r)∧Ln=[]∧True:=by
 refine CtL.mk 7 Tryz.func241 rfl Tryz.ntmps241 (by kernel_rfl) rfl ?_;show T 7 _ [(0,.int .i64 (p0))] _;unfold Gs at hx;refine Y12 ?_;refine Ti hx (s:=4) rfl (fun h1 hx2=>?_) (fun h1 hx3=>?_)
 ·refine Y8 ?_;obtain rfl:=Option.some.inj hx2;exact Av (rs:=[.tmp 2]) Tryz.results241 (.tmp rfl (.nil)) (Ln:=[]) ⟨rfl,rfl,trivial⟩ (Ax) (by exact .refl)
 ·refine Y10 ?_;refine Ti hx3 (s:=6) rfl (fun h4 hx5=>?_) (fun h4 hx6=>?_)
  ·refine Y8 ?_;obtain rfl:=Option.some.inj hx5;exact Av (rs:=[.tmp 2]) Tryz.results241 (.tmp rfl (.nil)) (Ln:=[]) ⟨rfl,rfl,trivial⟩ (Ax) (by exact .refl)
  ·refine Y9 ?_;obtain rfl:=Option.some.inj hx6;exact Av (rs:=[.tmp 2]) Tryz.results241 (.tmp rfl (.nil)) (Ln:=[]) ⟨rfl,rfl,trivial⟩ (Ax) (by exact .refl)
set_option maxRecDepth 100000 in
theorem Hw (p0:Ad) (p1:Ad) (p2:Ad)  {r:Int} (hx:Em p0 p1 p2=some r) (w:World):CtL Tryz.prog 178 [.agg #[.int .i64 (p0.X),.int .i64 (p0.Y)],.agg #[.int .i64 (p1.X),.int .i64 (p1.Y)],.agg #[.int .i64 (p2.X),.int .i64 (p2.Y)]] w fun v Ln=>v = .int .i64 (r)∧Ln=[]∧True:=by
 refine CtL.mk 12 Tryz.func178 rfl Tryz.ntmps178 (by kernel_rfl) rfl ?_;show T 12 _ [(0,.agg #[.int .i64 (p0.X),.int .i64 (p0.Y)]),(1,.agg #[.int .i64 (p1.X),.int .i64 (p1.Y)]),(2,.agg #[.int .i64 (p2.X),.int .i64 (p2.Y)])] _;unfold Em at hx;refine Y2 ?_;refine T_x (Bl rfl rfl rfl (fun g1=>?_));refine T_x (Bl rfl rfl rfl (fun g2=>?_));refine T_x (Bl rfl rfl rfl (fun g3=>?_));refine Y5 ?_;refine Af (Au rfl (i:=2) rfl rfl Bv) rfl ?_;refine Af (Au rfl (i:=1) rfl rfl Bv) rfl ?_;refine Af (Au rfl (i:=0) rfl rfl Bv) rfl ?_;obtain ⟨r4,h5,hx6⟩:=Ac hx;refine Tc (fun w1 hw1=>Yz p0 p1 p2  h5 w1) ?_;obtain ⟨r7,h8,hx9⟩:=Ac hx6;refine Tc (fun w1 hw1=>Ow r4  h8 w1) ?_;refine Y4 ?_;obtain rfl:=Option.some.inj hx9;exact Av (rs:=[.tmp 6]) Tryz.results178 (.tmp rfl (.nil)) (Ln:=[]) ⟨rfl,rfl,trivial⟩ (Ax) (by exact .drop 0 rfl (.drop 0 rfl (.drop 0 rfl (.refl))))
set_option maxRecDepth 100000 in
theorem Kv (p0:Ct) (p1:Int) (p2:Int)  {r:Ct} (hx:Eg p0 p1 p2=some r) (w:World):CtL Tryz.prog 368 [.agg #[.int .i64 (p0.high),.int .i64 (p0.middle),.int .i64 (p0.low)],.int .i64 (p1),.int .i64 (p2)] w fun v Ln=>v = .agg #[.int .i64 (r.high),.int .i64 (r.middle),.int .i64 (r.low)]∧Ln=[]∧True:=by
 refine CtL.mk 42 Tryz.func368 rfl Tryz.ntmps368 (by kernel_rfl) rfl ?_;show T 42 _ [(0,.agg #[.int .i64 (p0.high),.int .i64 (p0.middle),.int .i64 (p0.low)]),(1,.int .i64 (p1)),(2,.int .i64 (p2))] _;unfold Eg at hx;refine Y2 ?_;refine T_x (Bl rfl rfl rfl (fun g1=>?_));refine T_x (Bp Anw rfl (fun g2=>?_));refine Y5 ?_;refine Af (Tz rfl rfl (by decide)) rfl ?_;refine Y9 ?_;refine Af (Tz rfl rfl (by decide)) rfl ?_;refine Y8 ?_;refine Af (Ah rfl Ah0 rfl) rfl ?_;refine Af (Ag rfl (i:=1) rfl rfl one3) rfl ?_;refine Y4 ?_;refine Af (Ah rfl Ah1 rfl) rfl ?_;refine Af (Ag rfl (i:=1) rfl rfl one3) rfl ?_;refine Y8 ?_;refine Af (Ah rfl Ad5 rfl) rfl ?_;refine Af (Ag rfl (i:=1) rfl rfl one3) rfl ?_;refine Y4 ?_;refine Af (Bt rfl (Yy _ _ _)) rfl ?_;refine T_h (Bc rfl rfl rfl (.here) (.put (.put (.put (.done)))) rfl (List.cons_ne_nil _ _) Vo.2 ?_);refine Y3 ?_;obtain rfl:=Option.some.inj hx;exact Av (rs:=[.cell 6 351]) Tryz.results368 (.cell rfl (i:=0) rfl rfl Vo (.nil)) (Ln:=[]) ⟨rfl,rfl,trivial⟩ (Ax) (by exact .drop 0 rfl (.drop 0 rfl (.refl)))
set_option maxRecDepth 100000 in
theorem Us (p0:Ct)  {r:Int} (hx:Gg p0=some r) (w:World):CtL Tryz.prog 369 [.agg #[.int .i64 (p0.high),.int .i64 (p0.middle),.int .i64 (p0.low)]] w fun v Ln=>v = .int .i64 (r)∧Ln=[]∧True:=by
 refine CtL.mk 30 Tryz.func369 rfl Tryz.ntmps369 (by kernel_rfl) rfl ?_;show T 30 _ [(0,.agg #[.int .i64 (p0.high),.int .i64 (p0.middle),.int .i64 (p0.low)])] _;unfold Gg at hx;refine Y2 ?_;refine T_x (Bl rfl rfl rfl (fun g1=>?_));refine Y5 ?_;refine Af (Ah rfl Ah1 rfl) rfl ?_;refine Af (Ag rfl (i:=0) rfl rfl one3) rfl ?_;refine Af (Ah rfl Ad5 rfl) rfl ?_;refine Af (Ag rfl (i:=0) rfl rfl one3) rfl ?_;refine Af (Tz rfl rfl (by decide)) rfl ?_;refine Y6 ?_;refine Af (Ah rfl Ad5 rfl) rfl ?_;refine Af (Ag rfl (i:=0) rfl rfl one3) rfl ?_;refine Y6 ?_;refine Af (Ah rfl Ah0 rfl) rfl ?_;refine Af (Ag rfl (i:=0) rfl rfl one3) rfl ?_;refine Y ?_;refine Af (Tz rfl rfl (by decide)) rfl ?_;(iterate 18 refine Y ?_);refine Fb (s:=23) rfl (fun h2=>?_) (fun h2=>?_)
 ·have hx3:=Pr h2 hx;refine Y4 ?_;obtain ⟨r4,h5,hx6⟩:=Ac hx3;refine Tc (fun w1 hw1=>Ow (w64 (p0.high+(shr_ .i64 (w64 (p0.middle+(shr_ .i64 p0.low 30))) 30)))  h5 w1) ?_;refine Y5 ?_;obtain rfl:=Option.some.inj hx6;exact Av (rs:=[.tmp 2]) Tryz.results369 (.tmp rfl (.nil)) (Ln:=[]) ⟨rfl,rfl,trivial⟩ (Ax) (by exact .drop 0 rfl (.refl))
 ·have hx7:=Bx h2 hx;refine Y8 ?_;obtain ⟨r8,h9,hx0⟩:=Ac hx7;refine Tc (fun w1 hw1=>Ow (w64 ((Mn .i64 (w64 (p0.middle+(shr_ .i64 p0.low 30))) 1073741823)+(Mn .i64 p0.low 1073741823)))  h9 w1) ?_;refine Y4 ?_;obtain rfl:=Option.some.inj hx0;exact Av (rs:=[.tmp 2]) Tryz.results369 (.tmp rfl (.nil)) (Ln:=[]) ⟨rfl,rfl,trivial⟩ (Ax) (by exact .drop 0 rfl (.refl))
set_option maxRecDepth 100000 in
theorem Xg (p0:Ad) (p1:Ad) (p2:Ad) (p3:Ad)  {r:Int} (hx:Jd p0 p1 p2 p3=some r) (w:World):CtL Tryz.prog 340 [.agg #[.int .i64 (p0.X),.int .i64 (p0.Y)],.agg #[.int .i64 (p1.X),.int .i64 (p1.Y)],.agg #[.int .i64 (p2.X),.int .i64 (p2.Y)],.agg #[.int .i64 (p3.X),.int .i64 (p3.Y)]] w fun v Ln=>v = .int .i64 (r)∧Ln=[]∧True:=by
 refine CtL.mk 96 Tryz.func340 rfl Tryz.ntmps340 (by kernel_rfl) rfl ?_;show T 96 _ [(0,.agg #[.int .i64 (p0.X),.int .i64 (p0.Y)]),(1,.agg #[.int .i64 (p1.X),.int .i64 (p1.Y)]),(2,.agg #[.int .i64 (p2.X),.int .i64 (p2.Y)]),(3,.agg #[.int .i64 (p3.X),.int .i64 (p3.Y)])] _;unfold Jd at hx;refine Y2 ?_;refine T_x (Bl rfl rfl rfl (fun g1=>?_));refine T_x (Bl rfl rfl rfl (fun g2=>?_));refine T_x (Bl rfl rfl rfl (fun g3=>?_));refine T_x (Bl rfl rfl rfl (fun g4=>?_));refine Y4 ?_;refine T_dr [0,1,0,1,0,0,1,0,1,0,0,1,0,1,0,0,1,0,1,0,0,1,0,1,0,0,1,0,1,0,2,2,2,2,2,2] (.q 0 (.q 1 (.q 2 (.q 3 (.q 4 (.q 5 (.q 6 (.q 7 (.q 8 (.q 9 (.q 10 (.q 11 (.q 12 (.q 13 (.q 14 (.q 15 (.q 16 (.q 17 (.q 18 (.q 19 (.q 20 (.q 21 (.q 22 (.q 23 (.q 24 (.q 25 (.q 26 (.q 27 (.q 28 (.q 29 (.e 30 (.e 31 (.e 32 (.e 33 (.e 34 (.e 35 (.done) (.stop)) (.stop)) (.stop)) (.stop)) (.stop)) (.stop)))))))))))))))))))))))))))))))) mixed (by kernel_rfl) (by kernel_rfl) ?_;refine P_p rfl rfl (Ah rfl Cl rfl) rfl ?_;refine P_q rfl rfl (Ag rfl (i:=3) rfl rfl one3) rfl ?_;refine P_p rfl rfl (Ah rfl Cl rfl) rfl ?_;refine P_q rfl rfl (Ag rfl (i:=0) rfl rfl one3) rfl ?_;refine Y ?_;refine P_p rfl rfl (Ah rfl Ck rfl) rfl ?_;refine P_q rfl rfl (Ag rfl (i:=3) rfl rfl one3) rfl ?_;refine P_p rfl rfl (Ah rfl Ck rfl) rfl ?_;refine P_q rfl rfl (Ag rfl (i:=0) rfl rfl one3) rfl ?_;refine Y ?_;refine P_p rfl rfl (Ah rfl Cl rfl) rfl ?_
 refine P_q rfl rfl (Ag rfl (i:=2) rfl rfl one3) rfl ?_;refine P_p rfl rfl (Ah rfl Cl rfl) rfl ?_;refine P_q rfl rfl (Ag rfl (i:=0) rfl rfl one3) rfl ?_;refine Y ?_;refine P_p rfl rfl (Ah rfl Ck rfl) rfl ?_;refine P_q rfl rfl (Ag rfl (i:=2) rfl rfl one3) rfl ?_;refine P_p rfl rfl (Ah rfl Ck rfl) rfl ?_;refine P_q rfl rfl (Ag rfl (i:=0) rfl rfl one3) rfl ?_;refine Y ?_;refine P_p rfl rfl (Ah rfl Cl rfl) rfl ?_;refine P_q rfl rfl (Ag rfl (i:=1) rfl rfl one3) rfl ?_;refine P_p rfl rfl (Ah rfl Cl rfl) rfl ?_;refine P_q rfl rfl (Ag rfl (i:=0) rfl rfl one3) rfl ?_;refine Y ?_;refine P_p rfl rfl (Ah rfl Ck rfl) rfl ?_;refine P_q rfl rfl (Ag rfl (i:=1) rfl rfl one3) rfl ?_;refine P_p rfl rfl (Ah rfl Ck rfl) rfl ?_;refine P_q rfl rfl (Ag rfl (i:=0) rfl rfl one3) rfl ?_;refine Y ?_;refine P_x rfl (Ec (Ce rfl) rfl ?_) ?_;rotate_left;exact Bb;refine P_x rfl (Ec (Ce rfl) rfl ?_) ?_;rotate_left;exact Bb;refine P_x rfl (Ec (Ce rfl) rfl ?_) ?_;rotate_left;exact Bb;refine P_x rfl (Ec (Ce rfl) rfl ?_) ?_;rotate_left;exact Bb;refine P_x rfl (Ec (Ce rfl) rfl ?_) ?_;rotate_left;exact Bb;refine P_x rfl (Ec (Ce rfl) rfl ?_) ?_;rotate_left;exact Bb;refine Y4 ?_;refine T_x (Bp Anw rfl (fun g5=>?_));refine Y4 ?_;refine Af (Au rfl (i:=0) rfl rfl Vo) rfl ?_
 (iterate 14 refine Y ?_);obtain ⟨r6,h7,hx8⟩:=Ac hx;refine Tc (fun w1 hw1=>Kv (⟨0,0,0⟩:Ct) (w64 ((w64 ((w64 (p0.X-p3.X))*(w64 (p0.X-p3.X))))+(w64 ((w64 (p0.Y-p3.Y))*(w64 (p0.Y-p3.Y)))))) (w64 ((w64 ((w64 (p1.X-p3.X))*(w64 (p2.Y-p3.Y))))-(w64 ((w64 (p1.Y-p3.Y))*(w64 (p2.X-p3.X))))))  h7 w1) ?_;refine T_h (Bc rfl rfl rfl (.here) (.put (.put (.put (.done)))) rfl (List.cons_ne_nil _ _) Vo.2 ?_);refine Y4 ?_;refine Af (Au rfl (i:=0) rfl rfl Vo) rfl ?_;(iterate 14 refine Y ?_);obtain ⟨r9,h0,hx0⟩:=Ac hx8;refine Tc (fun w1 hw1=>Kv r6 (w64 ((w64 ((w64 (p1.X-p3.X))*(w64 (p1.X-p3.X))))+(w64 ((w64 (p1.Y-p3.Y))*(w64 (p1.Y-p3.Y)))))) (w64 ((w64 ((w64 (p2.X-p3.X))*(w64 (p0.Y-p3.Y))))-(w64 ((w64 (p2.Y-p3.Y))*(w64 (p0.X-p3.X))))))  h0 w1) ?_;refine T_h (Bc rfl rfl rfl (.here) (.put (.put (.put (.done)))) rfl (List.cons_ne_nil _ _) Vo.2 ?_);refine Y4 ?_;refine Af (Au rfl (i:=0) rfl rfl Vo) rfl ?_;(iterate 14 refine Y ?_);obtain ⟨r0,h1,hx1⟩:=Ac hx0;refine Tc (fun w1 hw1=>Kv r9 (w64 ((w64 ((w64 (p2.X-p3.X))*(w64 (p2.X-p3.X))))+(w64 ((w64 (p2.Y-p3.Y))*(w64 (p2.Y-p3.Y)))))) (w64 ((w64 ((w64 (p0.X-p3.X))*(w64 (p1.Y-p3.Y))))-(w64 ((w64 (p0.Y-p3.Y))*(w64 (p1.X-p3.X))))))  h1 w1) ?_;refine T_h (Bc rfl rfl rfl (.here) (.put (.put (.put (.done)))) rfl (List.cons_ne_nil _ _) Vo.2 ?_)
 refine Y4 ?_;refine Af (Au rfl (i:=0) rfl rfl Vo) rfl ?_;obtain ⟨r1,h2,hx2⟩:=Ac hx1;refine Tc (fun w1 hw1=>Us r0  h2 w1) ?_;refine Y4 ?_;obtain rfl:=Option.some.inj hx2;exact Av (rs:=[.tmp 8]) Tryz.results340 (.tmp rfl (.nil)) (Ln:=[]) ⟨rfl,rfl,trivial⟩ (Ax) (by exact .drop 0 rfl (.drop 0 rfl (.drop 0 rfl (.drop 0 rfl (.drop 0 rfl (.refl))))))
end Go.Proofs.YtbkobeeileemjaaGreat
