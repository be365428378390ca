/- Walks of the program, with their plain functions: the reference's mesh of points. -/
import Derived.Test.YtbkobeeileemjaaGreatQ1
namespace Go.Proofs.YtbkobeeileemjaaGreat
open Go Go.RowKit

noncomputable def Ff (p0:Int) (p1:Int) (p2:Int):Option Bool :=
 jn (fun (s2:Bool) =>
 some s2)
 (fun j2=>if p1≤p0 then (j2 (decide (p0≤p2)))
 else (j2 false))
noncomputable def Kq (p0:Ad):Option Bool :=
 jn (fun (s2:Bool) =>
 some s2)
 (fun j2=>if (-268435456)≤p0.X then (if p0.X≤268435456 then (if (-268435456)≤p0.Y then (j2 (decide (p0.Y≤268435456)))
 else (j2 false))
 else (j2 false))
 else (j2 false))
noncomputable def Nh (p0:Aa):Option Bool :=
 jn (fun (s2:Bool) =>
 some s2)
 (fun j2=>bnd (Ff p0.Id 0 1152921504606846976) fun r2 =>
 if r2=true then (bnd (Kq (⟨p0.X,p0.Y⟩:Ad)) fun r7 =>
 if r7=true then (if p0.Z.Lo≤p0.Z.Hi then (if (-268435456)≤p0.Z.Lo then (if p0.Z.Hi≤268435456 then (bnd (Ff p0.Wide 0 268435456) fun r0 =>
 if r0=true then (bnd (Ff p0.Num 1 p0.Of) fun r1 =>
 if r1=true then (j2 (decide (p0.Of≤15)))
 else (j2 false))
 else (j2 false))
 else (j2 false))
 else (j2 false))
 else (j2 false))
 else (j2 false))
 else (j2 false))
noncomputable def Fi (s0:Int) (p0:List Aa):Int→Option (Sum Int (Sum Unit Bool)):=fun s1 =>
 if s1 < s0 then (bnd (idx p0 s1) fun x0 =>
 bnd (idx p0 s0) fun x1 =>
 if x0.Id=x1.Id then (some (.inr (.inr (false))))
 else (some (.inl (w64 (s1+1)))))
 else (some (.inr (.inl ())))
noncomputable def Ei (p0:List Aa):Int→Option (Sum Int (Sum Unit Bool)):=fun s0 =>
 if s0 < ((((p0).length:Nat):Int)) then (jn (fun (s1:Unit) =>
 some (.inl (w64 (s0+1))))
 (fun j0=>bnd (idx p0 s0) fun x0 =>
 bnd (Nh x0) fun r0 =>
 if r0=true then (bnd (lfix (Fi s0 p0) 0) fun t0 =>
 (match t0 with
 | (.inl z0)=>j0 z0
 | (.inr (z0))=>some (.inr (.inr (z0)))
 ))
 else (some (.inr (.inr (false))))))
 else (some (.inr (.inl ())))
noncomputable def Ht (p0:List Aa):Option Bool :=
 if 1024 < ((((p0).length:Nat):Int)) then (some false)
 else (jn (fun (s5:Unit) =>
 some true)
 (fun j5=>bnd (lfix (Ei p0) 0) fun t0 =>
 (match t0 with
 | (.inl z0)=>j5 z0
 | (.inr (z0))=>some z0
 )))
noncomputable def Kr (p0:Aa) (p1:Aa):Option Int :=
 some (w64 ((w64 ((w64 (p0.X-p1.X))*(w64 (p0.X-p1.X))))+(w64 ((w64 (p0.Y-p1.Y))*(w64 (p0.Y-p1.Y))))))
noncomputable def Jn (s0:(List Int) × Int) (p0:List Aa):Int→Option (Sum Int Int):=fun s1 =>
 jn (fun (s2:Bool) =>
 if s2=true then (some (.inl (w64 (s1-1))))
 else (some (.inr s1)))
 (fun j0=>if 0 < s1 then (bnd (idx s0.1 (w64 (s1-1))) fun x0 =>
 bnd (idx p0 s0.2) fun x1 =>
 j0 (decide (x1.Id < x0)))
 else (j0 false))
noncomputable def Jo (p0:List Aa):((List Int) × Int)→Option (Sum ((List Int) × Int) (List Int)):=fun s0 =>
 if s0.2 < ((((p0).length:Nat):Int)) then (jn (fun (s1:Int) =>
 gd (0≤s1∧s1≤(((s0.1).length:Nat):Int)) <|
 bnd (idx p0 s0.2) fun x0 =>
 gd (0≤s1∧s1≤(((s0.1).length:Nat):Int)) <|
 gd ((([x0.Id]).length+(subl s0.1 s1 (((s0.1).length:Nat):Int)).length)*8≤140737488355328) <|
 gd (((subl s0.1 0 s1).length+(([x0.Id])++(subl s0.1 s1 (((s0.1).length:Nat):Int))).length)*8≤140737488355328) <|
 gd (0 < (([x0.Id])++(subl s0.1 s1 (((s0.1).length:Nat):Int))).length) <|
 some (.inl ((subl s0.1 0 s1)++(([x0.Id])++(subl s0.1 s1 (((s0.1).length:Nat):Int))),w64 (s0.2+1))))
 (fun j0=>bnd (lfix (Jn s0 p0) (((s0.1).length:Nat):Int)) fun t0 =>
 j0 t0))
 else (some (.inr s0.1))
noncomputable def Ni (p0:List Aa):Option (List Int) :=
 jn (fun (s3:List Int) =>
 some s3)
 (fun j3=>bnd (lfix (Jo p0) (([]:List Int),0)) fun t0 =>
 j3 t0)
noncomputable def Mo (p0:List Int) (p1:Int):Int→Option (Sum Int (Sum Unit Bool)):=fun s0 =>
 if s0 < ((((p0).length:Nat):Int)) then (bnd (idx p0 s0) fun x0 =>
 if x0=p1 then (some (.inr (.inr (true))))
 else (some (.inl (w64 (s0+1)))))
 else (some (.inr (.inl ())))
noncomputable def Ks (p0:List Int) (p1:Int):Option Bool :=
 jn (fun (s2:Unit) =>
 some false)
 (fun j2=>bnd (lfix (Mo p0 p1) 0) fun t0 =>
 (match t0 with
 | (.inl z0)=>j2 z0
 | (.inr (z0))=>some z0
 ))
noncomputable def Gn (p0:List Aa) (r1:List Int) (s0:(List Aa) × Int):((List Aa) × Int)→Option (Sum ((List Aa) × Int) (List Aa)):=fun s1 =>
 if s1.2 < ((((p0).length:Nat):Int)) then (jn (fun (s2:List Aa) =>
 some (.inl (s2,w64 (s1.2+1))))
 (fun j0=>bnd (idx p0 s1.2) fun x0 =>
 bnd (idx r1 s0.2) fun x1 =>
 if x0.Id=x1 then (bnd (idx p0 s1.2) fun x2 =>
 gd (((s1.1).length+1)*72≤140737488355328) <|
 j0 (s1.1++[x2]))
 else (j0 s1.1)))
 else (some (.inr s1.1))
noncomputable def Jp (r1:List Int) (p0:List Aa):((List Aa) × Int)→Option (Sum ((List Aa) × Int) (List Aa)):=fun s0 =>
 if s0.2 < ((((r1).length:Nat):Int)) then (jn (fun (s1:List Aa) =>
 some (.inl (s1,w64 (s0.2+1))))
 (fun j0=>bnd (lfix (Gn p0 r1 s0) (s0.1,0)) fun t0 =>
 j0 t0))
 else (some (.inr s0.1))
noncomputable def Jq (p0:List Aa):Option (List Aa) :=
 bnd (Ni p0) fun r1 =>
 jn (fun (s4:List Aa) =>
 some s4)
 (fun j4=>bnd (lfix (Jp r1 p0) (([]:List Aa),0)) fun t0 =>
 j4 t0)
noncomputable def Fy (p1:List Int):Int→Option (Sum Int (Sum Unit ((List Aa) × Bool))):=fun s0 =>
 if s0 < ((((p1).length:Nat):Int)) then (gd (0≤s0∧s0≤(((p1).length:Nat):Int)) <|
 bnd (idx p1 s0) fun x0 =>
 bnd (Ks (subl p1 0 s0) x0) fun r0 =>
 if r0=true then (some (.inr (.inr (([]:List Aa),false))))
 else (some (.inl (w64 (s0+1)))))
 else (some (.inr (.inl ())))
noncomputable def Il (p0:List Aa) (p1:List Int):((List Aa) × Int)→Option (Sum ((List Aa) × Int) (List Aa)):=fun s0 =>
 if s0.2 < ((((p0).length:Nat):Int)) then (jn (fun (s1:List Aa) =>
 some (.inl (s1,w64 (s0.2+1))))
 (fun j0=>bnd (idx p0 s0.2) fun x0 =>
 bnd (Ks p1 x0.Id) fun r0 =>
 if r0=true then (bnd (idx p0 s0.2) fun x1 =>
 gd (((s0.1).length+1)*72≤140737488355328) <|
 j0 (s0.1++[x1]))
 else (j0 s0.1)))
 else (some (.inr s0.1))
noncomputable def Lv (p0:List Aa) (p1:List Int):Option ((List Aa) × Bool) :=
 jn (fun (s2:Unit) =>
 jn (fun (s0:List Aa) =>
 if ((((s0).length:Nat):Int))=((((p1).length:Nat):Int)) then (bnd (Jq s0) fun r0 =>
 some (r0,true))
 else (some (([]:List Aa),false)))
 (fun j0=>bnd (lfix (Il p0 p1) (([]:List Aa),0)) fun t0 =>
 j0 t0))
 (fun j2=>bnd (lfix (Fy p1) 0) fun t1 =>
 (match t1 with
 | (.inl z0)=>j2 z0
 | (.inr (z0))=>some z0
 ))
noncomputable def Fz (s0:(List Ae) × Int) (p0:List Aa) (x0:Aa) (x1:Aa) (x2:Aa):Int→Option (Sum Int (Sum (List Ae) (Bz × Int))):=fun s1 =>
 if s1 < s0.2 then (bnd (idx p0 s1) fun x3 =>
 bnd (idx p0 s0.2) fun x4 =>
 bnd (Kr x3 x4) fun r0 =>
 if r0=0 then (some (.inr (.inr ((⟨([]:List Ae),([]:List Am),([]:List Ab)⟩:Bz),11))))
 else (some (.inl (w64 (s1+1)))))
 else (some (.inr (.inl (s0.1++[(⟨x0.X,x1.Y,x2.Z⟩:Ae)]))))
noncomputable def Ga (p0:List Aa):((List Ae) × Int)→Option (Sum ((List Ae) × Int) (Sum (List Ae) (Bz × Int))):=fun s0 =>
 if s0.2 < ((((p0).length:Nat):Int)) then (jn (fun (s1:List Ae) =>
 some (.inl (s1,w64 (s0.2+1))))
 (fun j0=>bnd (idx p0 s0.2) fun x0 =>
 bnd (idx p0 s0.2) fun x1 =>
 bnd (idx p0 s0.2) fun x2 =>
 gd (((s0.1).length+1)*32≤140737488355328) <|
 bnd (lfix (Fz s0 p0 x0 x1 x2) 0) fun t0 =>
 (match t0 with
 | (.inl z0)=>j0 z0
 | (.inr (z0))=>some (.inr (.inr (z0)))
 )))
 else (some (.inr (.inl s0.1)))
noncomputable def Lw (p0:List Aa):Option (Bz × Int) :=
 jn (fun (s3:List Ae) =>
 bnd (Kf s3 ([]:List Ab)) fun r0 =>
 some (r0.1,r0.2))
 (fun j3=>bnd (lfix (Ga p0) (([]:List Ae),0)) fun t0 =>
 (match t0 with
 | (.inl z0)=>j3 z0
 | (.inr (z0))=>some z0
 ))
noncomputable def Im (p0:List Aa) (p1:List Int):Option (Bz × Int) :=
 bnd (Ht p0) fun r2 =>
 if r2=true then (bnd (Lv p0 p1) fun r8 =>
 if r8.2=true then (bnd (Lw r8.1) fun r0 =>
 some (r0.1,r0.2))
 else (some ((⟨([]:List Ae),([]:List Am),([]:List Ab)⟩:Bz),2)))
 else (some ((⟨([]:List Ae),([]:List Am),([]:List Ab)⟩:Bz),70))
set_option maxRecDepth 100000 in
theorem Nj (p0:Int) (p1:Int) (p2:Int)  {r:Bool} (hx:Ff p0 p1 p2=some r) (w:World):CtL Tryz.prog 150 [.int .i64 (p0),.int .i64 (p1),.int .i64 (p2)] w fun v Ln=>v = .bool (r)∧Ln=[]∧True:=by
 refine CtL.mk 15 Tryz.func150 rfl Tryz.ntmps150 (by kernel_rfl) rfl ?_;show T 15 _ [(0,.int .i64 (p0)),(1,.int .i64 (p1)),(2,.int .i64 (p2))] _;unfold Ff at hx;refine Y5 ?_;refine Tj (γ:=Unit) hx (fun s2 y2=>[(6,.bool (s2))]) (fun s2 y2=>[]++[.old w]) (fun s2 y2=>True) (fun s2 y2 hx4 hG5=>?_) (fun j2 hx=>?_)
 ·refine Y ?_;obtain rfl:=Option.some.inj hx4;exact Av (rs:=[.tmp 6]) Tryz.results150 (.tmp rfl (.nil)) (Ln:=[]) ⟨rfl,rfl,trivial⟩ (Ax) (by exact .refl)
 ·refine Y5 ?_;refine Ti hx (s:=10) rfl (fun h1 hx2=>?_) (fun h1 hx3=>?_)
  ·refine Y6 ?_;exact Mt (decide (p0≤p2)) () hx2 trivial (by exact .refl)
  ·refine Y6 ?_;exact Mt false () hx3 trivial (by exact .refl)
set_option maxRecDepth 100000 in
theorem Zg (p0:Ad)  {r:Bool} (hx:Kq p0=some r) (w:World):CtL Tryz.prog 169 [.agg #[.int .i64 (p0.X),.int .i64 (p0.Y)]] w fun v Ln=>v = .bool (r)∧Ln=[]∧True:=by
 refine CtL.mk 21 Tryz.func169 rfl Tryz.ntmps169 (by kernel_rfl) rfl ?_;show T 21 _ [(0,.agg #[.int .i64 (p0.X),.int .i64 (p0.Y)])] _;unfold Kq at hx;refine Y2 ?_;refine T_x (Bl rfl rfl rfl (fun g1=>?_));refine Y3 ?_;refine Tj (γ:=Unit) hx (fun s2 y2=>[(2,.bool (s2))]) (fun s2 y2=>[]++[.old w]) (fun s2 y2=>True) (fun s2 y2 hx0 hG0=>?_) (fun j2 hx=>?_)
 ·refine Y ?_;obtain rfl:=Option.some.inj hx0;exact Av (rs:=[.tmp 2]) Tryz.results169 (.tmp rfl (.nil)) (Ln:=[]) ⟨rfl,rfl,trivial⟩ (Ax) (by exact .refl)
 ·refine Y ?_;refine Af (Ah rfl Cl rfl) rfl ?_;refine Af (Ag rfl (i:=0) rfl rfl one3) rfl ?_;refine Y2 ?_;refine Ti hx (s:=6) rfl (fun h2 hx3=>?_) (fun h2 hx1=>?_)
  ·refine Aq rfl rfl rfl (Ah rfl Cl rfl) rfl ?_;refine Aq rfl rfl rfl (Ag rfl (i:=0) rfl rfl one3) rfl ?_;refine Y3 ?_;refine Ti hx3 (s:=11) rfl (fun h4 hx5=>?_) (fun h4 hx9=>?_)
   ·refine Aq rfl rfl rfl (Ah rfl Ck rfl) rfl ?_;refine Aq rfl rfl rfl (Ag rfl (i:=0) rfl rfl one3) rfl ?_;refine Y3 ?_;refine Ti hx5 (s:=16) rfl (fun h6 hx7=>?_) (fun h6 hx8=>?_)
    ·refine Aq rfl rfl rfl (Ah rfl Ck rfl) rfl ?_;refine Aq rfl rfl rfl (Ag rfl (i:=0) rfl rfl one3) rfl ?_;refine Y4 ?_;exact Mt (decide (p0.Y≤268435456)) () hx7 trivial (by exact .drop 0 rfl (.refl))
    ·refine Y6 ?_;exact Mt false () hx8 trivial (by exact .drop 0 rfl (.refl))
   ·refine Y11 ?_;exact Mt false () hx9 trivial (by exact .drop 0 rfl (.refl))
  ·(iterate 16 refine Y ?_);exact Mt false () hx1 trivial (by exact .drop 0 rfl (.refl))
set_option maxRecDepth 100000 in
theorem Aby (p0:Aa)  {r:Bool} (hx:Nh p0=some r) (w:World):CtL Tryz.prog 89 [.agg #[.int .i64 (p0.Id),.int .i64 (p0.X),.int .i64 (p0.Y),.int .i64 (p0.Z.Lo),.int .i64 (p0.Z.Hi),.int .i64 (p0.Wide),.int .i64 (p0.Num),.int .i64 (p0.Of),.int .i64 (p0.Class)]] w fun v Ln=>v = .bool (r)∧Ln=[]∧True:=by
 refine CtL.mk 52 Tryz.func89 rfl Tryz.ntmps89 (by kernel_rfl) rfl ?_;show T 52 _ [(0,.agg #[.int .i64 (p0.Id),.int .i64 (p0.X),.int .i64 (p0.Y),.int .i64 (p0.Z.Lo),.int .i64 (p0.Z.Hi),.int .i64 (p0.Wide),.int .i64 (p0.Num),.int .i64 (p0.Of),.int .i64 (p0.Class)])] _;unfold Nh at hx;refine Y2 ?_;refine T_x (Bl rfl rfl rfl (fun g1=>?_));refine Y3 ?_;refine Tj (γ:=Unit) hx (fun s2 y2=>[(2,.bool (s2))]) (fun s2 y2=>[]++[.old w]) (fun s2 y2=>True) (fun s2 y2 hx0 hG0=>?_) (fun j2 hx=>?_)
 ·refine Y ?_;obtain rfl:=Option.some.inj hx0;exact Av (rs:=[.tmp 2]) Tryz.results89 (.tmp rfl (.nil)) (Ln:=[]) ⟨rfl,rfl,trivial⟩ (Ax) (by exact .refl)
 ·refine Y ?_;refine Af (Ah rfl Jz rfl) rfl ?_;refine Af (Ag rfl (i:=0) rfl rfl one3) rfl ?_;obtain ⟨r2,h3,hx4⟩:=Ac hx;refine Tc (fun w1 hw1=>Nj p0.Id 0 1152921504606846976  h3 w1) ?_;refine Y ?_;refine By (s:=6) rfl (fun h5=>?_) (fun h5=>?_)
  ·have hx6:=Bx h5 hx4;refine Aq rfl rfl rfl (Ah rfl Si rfl) rfl ?_;refine Aq rfl rfl rfl (Ag rfl (i:=0) rfl rfl one3) rfl ?_;refine Aq rfl rfl rfl (Ah rfl Sj rfl) rfl ?_;refine Aq rfl rfl rfl (Ag rfl (i:=0) rfl rfl one3) rfl ?_;refine Aq rfl rfl rfl (Bt rfl (Dy _ _)) rfl ?_;obtain ⟨r7,h8,hx9⟩:=Ac hx6;refine T_xG rfl rfl rfl (Aw rfl (fun w1 hw1=>Zg (⟨p0.X,p0.Y⟩:Ad)  h8 w1) rfl ?_);rintro _ _ hlo ⟨rfl,rfl,-⟩;refine Cs ?_;refine Y2 ?_;refine By (s:=14) rfl (fun h0=>?_) (fun h0=>?_)
   ·have hx1:=Bx h0 hx9;refine Aq rfl rfl rfl (Ah rfl Kz rfl) rfl ?_;refine Aq rfl rfl rfl (Ah rfl Sk rfl) rfl ?_;refine Aq rfl rfl rfl (Ag rfl (i:=0) rfl rfl one3) rfl ?_;refine Aq rfl rfl rfl (Ah rfl Kz rfl) rfl ?_;refine Aq rfl rfl rfl (Ah rfl Mk rfl) rfl ?_;refine Aq rfl rfl rfl (Ag rfl (i:=0) rfl rfl one3) rfl ?_;refine Y3 ?_;refine Ti hx1 (s:=23) rfl (fun h1 hx2=>?_) (fun h1 hx3=>?_)
    ·refine Aq rfl rfl rfl (Ah rfl Kz rfl) rfl ?_;refine Aq rfl rfl rfl (Ah rfl Sk rfl) rfl ?_;refine Aq rfl rfl rfl (Ag rfl (i:=0) rfl rfl one3) rfl ?_;refine Y3 ?_;refine Ti hx2 (s:=29) rfl (fun h2 hx5=>?_) (fun h2 hx7=>?_)
     ·refine Aq rfl rfl rfl (Ah rfl Kz rfl) rfl ?_;refine Aq rfl rfl rfl (Ah rfl Mk rfl) rfl ?_;refine Aq rfl rfl rfl (Ag rfl (i:=0) rfl rfl one3) rfl ?_;refine Y3 ?_;refine Ti hx5 (s:=35) rfl (fun h4 hx8=>?_) (fun h4 hx30=>?_)
      ·refine Aq rfl rfl rfl (Ah rfl Aky rfl) rfl ?_;refine Aq rfl rfl rfl (Ag rfl (i:=0) rfl rfl one3) rfl ?_;obtain ⟨r0,h6,hx20⟩:=Ac hx8;refine T_xG rfl rfl rfl (Aw rfl (fun w1 hw1=>Nj p0.Wide 0 268435456  h6 w1) rfl ?_);rintro _ _ hlo ⟨rfl,rfl,-⟩;refine Cs ?_;refine Y2 ?_;refine By (s:=40) rfl (fun h7=>?_) (fun h7=>?_)
       ·have hx22:=Bx h7 hx20;refine Aq rfl rfl rfl (Ah rfl Agt rfl) rfl ?_;refine Aq rfl rfl rfl (Ag rfl (i:=0) rfl rfl one3) rfl ?_;refine Aq rfl rfl rfl (Ah rfl Abb rfl) rfl ?_;refine Aq rfl rfl rfl (Ag rfl (i:=0) rfl rfl one3) rfl ?_;obtain ⟨r1,h9,hx25⟩:=Ac hx22;refine T_xG rfl rfl rfl (Aw rfl (fun w1 hw1=>Nj p0.Num 1 p0.Of  h9 w1) rfl ?_);rintro _ _ hlo ⟨rfl,rfl,-⟩;refine Cs ?_;refine Y2 ?_;refine By (s:=47) rfl (fun h26=>?_) (fun h26=>?_)
        ·have hx27:=Bx h26 hx25;refine Aq rfl rfl rfl (Ah rfl Abb rfl) rfl ?_;refine Aq rfl rfl rfl (Ag rfl (i:=0) rfl rfl one3) rfl ?_;refine Y4 ?_;exact Mt (decide (p0.Of≤15)) () hx27 trivial (by exact .drop 0 rfl (.refl))
        ·have hx28:=Bn h26 hx25;refine Y6 ?_;exact Mt false () hx28 trivial (by exact .drop 0 rfl (.refl))
       ·have hx29:=Bn h7 hx20;(iterate 13 refine Y ?_);exact Mt false () hx29 trivial (by exact .drop 0 rfl (.refl))
      ·(iterate 18 refine Y ?_);exact Mt false () hx30 trivial (by exact .drop 0 rfl (.refl))
     ·(iterate 24 refine Y ?_);exact Mt false () hx7 trivial (by exact .drop 0 rfl (.refl))
    ·(iterate 30 refine Y ?_);exact Mt false () hx3 trivial (by exact .drop 0 rfl (.refl))
   ·have hx33:=Bn h0 hx9;(iterate 39 refine Y ?_);exact Mt false () hx33 trivial (by exact .drop 0 rfl (.refl))
  ·have hx34:=Bn h5 hx4;(iterate 47 refine Y ?_);exact Mt false () hx34 trivial (by exact .drop 0 rfl (.refl))
set_option maxRecDepth 100000 in
theorem Se (p0:List Aa) {K:List Ent} {A0_0:Option Addr} {c0_0:Nat} (ha0:Has K A0_0 p0.length c0_0 9 Ao (p0)) {r:Bool} (hx:Ht p0=some r) (w:World) (hK:∀ e∈K,Ent.ok w e):CtL Tryz.prog 42 [.slice (A0_0) (p0.length) (c0_0)] w fun v Ln=>v = .bool (r)∧Ln=[]∧True:=by
 have ha0':=Has.up0 ha0;refine CtL.mk 36 Tryz.func42 rfl Tryz.ntmps42 (by kernel_rfl) rfl ?_;show T 36 _ [(0,.slice (A0_0) (p0.length) (c0_0))] _;unfold Ht at hx;refine Y9 ?_;refine Af (Bf rfl 66 Tryz.underlying47) rfl ?_;refine Y3 ?_;refine Ti hx (s:=7) rfl (fun h1 hx2=>?_) (fun h1 hx3=>?_)
 ·refine Y8 ?_;obtain rfl:=Option.some.inj hx2;exact Av (rs:=[.tmp 2]) Tryz.results42 (.tmp rfl (.nil)) (Ln:=[]) ⟨rfl,rfl,trivial⟩ (Ax) (by exact .refl)
 ·refine Y3 ?_;refine Tj (γ:=Unit) hx3 (fun s5 y5=>[]) (fun s5 y5=>[]++[.old w]) (fun s5 y5=>True) (fun s5 y5 hx0 hG0=>?_) (fun j5 hx3=>?_)
  ·refine Y6 ?_;obtain rfl:=Option.some.inj hx0;exact Av (rs:=[.tmp 2]) Tryz.results42 (.tmp rfl (.nil)) (Ln:=[]) ⟨rfl,rfl,trivial⟩ (Ax) (by exact .refl)
  ·refine Y6 ?_;obtain ⟨t0,hl0,ho0⟩:=Ac hx3;refine Lp (σ:=Int) (γ:=Unit) hl0 (fun s0 y0=>[(0,.slice (A0_0) (p0.length) (c0_0)),(3,.int .i64 (s0))]) (fun s0 y0=>[]++[.old w]) (fun s0 y0=>True) () trivial (by exact .refl) ?_;intro s0 y0 hG1 x0 hx1 ht0;unfold Ei at hx1;refine Y5 ?_;refine Af (Bf rfl 66 Tryz.underlying47) rfl ?_;refine Y3 ?_;refine Ti hx1 (s:=11) rfl (fun h0 hx4=>?_) (fun h0 hx5=>?_)
   ·refine Y3 ?_;refine Tj (γ:=Unit) hx4 (fun s1 y1=>[(0,.slice (A0_0) (p0.length) (c0_0)),(3,.int .i64 (s0))]) (fun s1 y1=>[]++[.old w]) (fun s1 y1=>True) (fun s1 y1 hx6 hG2=>?_) (fun j0 hx4=>?_)
    ·refine Y5 ?_;exact Rp (w64 (s0+1)) () hx6 trivial (by exact .refl)
    ·refine Y6 ?_;obtain ⟨x1,h2,hx7⟩:=Ac hx4;have hw0:=Has.low (E:=[]) ha0' hK;obtain ⟨b0,o0,j1,hA0,hj0,hl1,hp0⟩:=Has.at_idx hw0 h2;refine Af (Az rfl rfl hA0 (j:=j1) hj0 hl1 Na) rfl ?_;refine Af (Cg rfl hp0 (sb 0) rfl Fc) rfl ?_;obtain ⟨r0,h3,hx8⟩:=Ac hx7;refine Tc (fun w1 hw1=>Aby x1  h3 w1) ?_;refine Y3 ?_;refine Cz (s:=19) rfl (fun h4=>?_) (fun h4=>?_)
     ·have hx9:=Bn h4 hx8;refine Y10 ?_;obtain rfl:=Bd ht0 hx9;refine Y3 ?_;obtain rfl:=Option.some.inj ho0;exact Av (rs:=[.tmp 2]) Tryz.results42 (.tmp rfl (.nil)) (Ln:=[]) ⟨rfl,rfl,trivial⟩ (Ax) (by exact .refl)
     ·have hx10:=Bx h4 hx8;refine Y9 ?_;obtain ⟨t1,hl2,ho1⟩:=Ac hx10;refine Lp (σ:=Int) (γ:=Unit) hl2 (fun s2 y2=>[(0,.slice (A0_0) (p0.length) (c0_0)),(3,.int .i64 (s0)),(4,.int .i64 (s2))]) (fun s2 y2=>[]++[.old w]) (fun s2 y2=>True) () trivial (by exact .refl) ?_;intro s2 y2 hG3 x2 hx11 ht1;unfold Fi at hx11;refine Y8 ?_;refine Ti hx11 (s:=22) rfl (fun h5 hx12=>?_) (fun h5 hx13=>?_)
      ·refine Y6 ?_;refine T_dr [0,0,0,0,1,0,0,0,0,1,0] (.q 0 (.q 1 (.q 2 (.q 3 (.q 4 (.q 5 (.q 6 (.q 7 (.q 8 (.q 9 (.q 10 (.done)))))))))))) mixed (by kernel_rfl) (by kernel_rfl) ?_;refine Y2 ?_;obtain ⟨x3,h6,hx14⟩:=Ac hx12;have hw2:=Has.low (E:=[]) ha0' hK;obtain ⟨b1,o1,j2,hA1,hj1,hl3,hp1⟩:=Has.at_idx hw2 h6;refine P_p rfl rfl (Az rfl rfl hA1 (j:=j2) hj1 hl3 Na) rfl ?_;refine P_p rfl rfl (Ah rfl Jz rfl) rfl ?_;refine P_q rfl rfl (Ew (d:=0) rfl hp1 (sb 0) rfl one3) rfl ?_;refine Y2 ?_;obtain ⟨x4,h7,hx15⟩:=Ac hx14;have hw3:=Has.low (E:=[]) ha0' hK;obtain ⟨b2,o2,j3,hA2,hj2,hl4,hp2⟩:=Has.at_idx hw3 h7;refine P_p rfl rfl (Az rfl rfl hA2 (j:=j3) hj2 hl4 Na) rfl ?_;refine P_p rfl rfl (Ah rfl Jz rfl) rfl ?_;refine P_q rfl rfl (Ew (d:=0) rfl hp2 (sb 0) rfl one3) rfl ?_;refine Y3 ?_;refine Ti hx15 (s:=35) rfl (fun h8 hx16=>?_) (fun h8 hx17=>?_)
       ·refine Y9 ?_;obtain rfl:=Bd ht1 hx16;refine Y4 ?_;obtain rfl:=Bd ht0 ho1;refine Y3 ?_;obtain rfl:=Option.some.inj ho0;exact Av (rs:=[.tmp 2]) Tryz.results42 (.tmp rfl (.nil)) (Ln:=[]) ⟨rfl,rfl,trivial⟩ (Ax) (by exact .refl)
       ·refine Y9 ?_;exact Rp (w64 (s2+1)) () hx17 trivial (by exact .refl)
      ·refine Y3 ?_;obtain rfl:=Bd ht1 hx13;refine Y3 ?_;exact Mt () () ho1 trivial (by exact .refl)
   ·refine Y3 ?_;obtain rfl:=Bd ht0 hx5;refine Y2 ?_;exact Mt () () ho0 trivial (by exact .refl)
set_option maxRecDepth 100000 in
theorem Zh (p0:Aa) (p1:Aa)  {r:Int} (hx:Kr p0 p1=some r) (w:World):CtL Tryz.prog 135 [.agg #[.int .i64 (p0.Id),.int .i64 (p0.X),.int .i64 (p0.Y),.int .i64 (p0.Z.Lo),.int .i64 (p0.Z.Hi),.int .i64 (p0.Wide),.int .i64 (p0.Num),.int .i64 (p0.Of),.int .i64 (p0.Class)],.agg #[.int .i64 (p1.Id),.int .i64 (p1.X),.int .i64 (p1.Y),.int .i64 (p1.Z.Lo),.int .i64 (p1.Z.Hi),.int .i64 (p1.Wide),.int .i64 (p1.Num),.int .i64 (p1.Of),.int .i64 (p1.Class)]] w fun v Ln=>v = .int .i64 (r)∧Ln=[]∧True:=by
 refine CtL.mk 28 Tryz.func135 rfl Tryz.ntmps135 (by kernel_rfl) rfl ?_;show T 28 _ [(0,.agg #[.int .i64 (p0.Id),.int .i64 (p0.X),.int .i64 (p0.Y),.int .i64 (p0.Z.Lo),.int .i64 (p0.Z.Hi),.int .i64 (p0.Wide),.int .i64 (p0.Num),.int .i64 (p0.Of),.int .i64 (p0.Class)]),(1,.agg #[.int .i64 (p1.Id),.int .i64 (p1.X),.int .i64 (p1.Y),.int .i64 (p1.Z.Lo),.int .i64 (p1.Z.Hi),.int .i64 (p1.Wide),.int .i64 (p1.Num),.int .i64 (p1.Of),.int .i64 (p1.Class)])] _;unfold Kr at hx;refine Y2 ?_;refine T_x (Bl rfl rfl rfl (fun g1=>?_));refine T_x (Bl rfl rfl rfl (fun g2=>?_));refine Y5 ?_;refine Af (Ah rfl Si rfl) rfl ?_;refine Af (Ag rfl (i:=1) rfl rfl one3) rfl ?_;refine Af (Ah rfl Si rfl) rfl ?_;refine Af (Ag rfl (i:=0) rfl rfl one3) rfl ?_;refine Y ?_;refine Af (Ah rfl Si rfl) rfl ?_;refine Af (Ag rfl (i:=1) rfl rfl one3) rfl ?_;refine Af (Ah rfl Si rfl) rfl ?_;refine Af (Ag rfl (i:=0) rfl rfl one3) rfl ?_;refine Y2 ?_;refine Af (Ah rfl Sj rfl) rfl ?_;refine Af (Ag rfl (i:=1) rfl rfl one3) rfl ?_;refine Af (Ah rfl Sj rfl) rfl ?_;refine Af (Ag rfl (i:=0) rfl rfl one3) rfl ?_;refine Y ?_;refine Af (Ah rfl Sj rfl) rfl ?_;refine Af (Ag rfl (i:=1) rfl rfl one3) rfl ?_;refine Af (Ah rfl Sj rfl) rfl ?_;refine Af (Ag rfl (i:=0) rfl rfl one3) rfl ?_
 refine Y7 ?_;obtain rfl:=Option.some.inj hx;exact Av (rs:=[.tmp 4]) Tryz.results135 (.tmp rfl (.nil)) (Ln:=[]) ⟨rfl,rfl,trivial⟩ (Ax) (by exact .drop 0 rfl (.drop 0 rfl (.refl)))
set_option maxRecDepth 100000 in
theorem Abz (p0:List Aa) {K:List Ent} {A0_0:Option Addr} {c0_0:Nat} (ha0:Has K A0_0 p0.length c0_0 9 Ao (p0)) {r:List Int} (hx:Ni p0=some r) (w:World) (hK:∀ e∈K,Ent.ok w e):CtL Tryz.prog 71 [.slice (A0_0) (p0.length) (c0_0)] w fun v Ln=>∃ (A0:Option Addr) (c0:Nat),v = .slice (A0) (r.length) (c0)∧Ln=[.r A0 r.length c0 3 1 (r.flatMap Bs)]∧True:=by
 have ha0':=Has.up0 ha0;refine CtL.mk 47 Tryz.func71 rfl Tryz.ntmps71 (by kernel_rfl) rfl ?_;show T 47 _ [(0,.slice (A0_0) (p0.length) (c0_0))] _;unfold Ni at hx;refine Y10 ?_;refine Tj (γ:=(Option Addr) × Nat) hx (fun s3 y3=>[(3,.slice (y3.1) (s3.length) (y3.2))]) (fun s3 y3=>[.r (y3.1) (s3.length) (y3.2) 3 1 (s3.flatMap Bs)]++[.old w]) (fun s3 y3=>True) (fun s3 y3 hx0 hG0=>?_) (fun j3 hx=>?_)
 ·refine Y7 ?_;obtain rfl:=Option.some.inj hx0;exact Av (rs:=[.tmp 2]) Tryz.results71 (.tmp rfl (.nil)) (Ln:=[.r (y3.1) (s3.length) (y3.2) 3 1 (s3.flatMap Bs)]) ⟨y3.1,y3.2,rfl,rfl,trivial⟩ (Ay rfl (Ax)) (by exact .pick 0 rfl (.refl))
 ·refine Y6 ?_;obtain ⟨t0,hl0,ho0⟩:=Ac hx;refine Cr 3 1 ?_
  have hn0:0=(([]:List Int)).length:=by simp [Bq,Ca,List.length_append] <;> omega
  refine Ds (.here) (e':=.r (none) ((([]:List Int)).length) (0) 3 1 ((([]:List Int)).flatMap Bs)) (by first | (rw [← hn0];done) | rfl) ?_;refine Lp (σ:=(List Int) × Int) (γ:=(Option Addr) × Nat) hl0 (fun s0 y0=>[(0,.slice (A0_0) (p0.length) (c0_0)),(3,.slice (y0.1) (s0.1.length) (y0.2)),(4,.int .i64 (s0.2))]) (fun s0 y0=>[.r (y0.1) (s0.1.length) (y0.2) 3 1 (s0.1.flatMap Bs)]++[.old w]) (fun s0 y0=>True) (none,0) trivial (by exact .pick 0 rfl (.refl)) ?_;intro s0 y0 hG1 x0 hx1 ht0;unfold Jo at hx1;refine Y5 ?_;refine Af (Bf rfl 66 Tryz.underlying47) rfl ?_;refine Y3 ?_;refine Ti hx1 (s:=9) rfl (fun h0 hx2=>?_) (fun h0 hx3=>?_)
  ·refine Y8 ?_;refine Af (Bf rfl 3 Tryz.underlying48) rfl ?_;refine Y3 ?_;refine Tj (γ:=Unit) hx2 (fun s1 y1=>[(0,.slice (A0_0) (p0.length) (c0_0)),(3,.slice (y0.1) (s0.1.length) (y0.2)),(4,.int .i64 (s0.2)),(5,.int .i64 (s1))]) (fun s1 y1=>[.r (y0.1) (s0.1.length) (y0.2) 3 1 (s0.1.flatMap Bs)]++[.old w]) (fun s1 y1=>True) (fun s1 y1 hx4 hG2=>?_) (fun j0 hx2=>?_)
   ·refine T_dr [0,0,0,0,0,0,0,0,1,2,0,0,0,3,3,2] (.q 0 (.q 1 (.q 2 (.q 3 (.q 4 (.q 5 (.q 6 (.q 7 (.q 8 (.q 10 (.q 11 (.q 12 (.e 9 (.e 13 (.e 14 (.e 15 (.done) (.stop)) (.stop)) (.stop)) (.stop)))))))))))))) mixed (by kernel_rfl) (by kernel_rfl) ?_;refine Y3 ?_;refine Dh (k:=0) rfl (by decide) (fun _=>rfl) (fun hn1 hs0=>?_);obtain ⟨h1,hx5⟩:=Bj hx4;have hs1:=Has.subHM hs0 h1.1 h1.2;refine P_p rfl rfl (Apj rfl rfl rfl Fn h1.1 (by have:=Has.nc hs0;omega)) rfl ?_;refine Y2 ?_;obtain ⟨x1,h2,hx6⟩:=Ac hx5;have hw0:=Has.low (E:=[]) ha0' hK;obtain ⟨b0,o0,j1,hA0,hj0,hl1,hp0⟩:=Has.at_idx hw0 h2;refine P_p rfl rfl (Az rfl rfl hA0 (j:=j1) hj0 hl1 Na) rfl ?_;refine P_p rfl rfl (Ah rfl Jz rfl) rfl ?_;refine P_q rfl rfl (Ew (d:=0) rfl hp0 (sb 1) rfl one3) rfl ?_;refine Y2 ?_;refine Dh (k:=0) rfl (by decide) (fun _=>rfl) (fun hn2 hs2=>?_);obtain ⟨h3,hx7⟩:=Bj hx6;have hs3:=Has.subL hs2 h3.1 h3.2;refine P_p rfl rfl (Ala rfl rfl Fn h3.1 h3.2) rfl ?_;refine P_x rfl (Bk rfl (Jj _) rfl (fun g0=>?_)) ?_;rotate_left;exact Bb;refine T_mr (enc:=Bs) (sz:=1) ([x1.Id]) (.here) rfl rfl (fun _=>rfl) (by show 1≤maxLen;decide) ?_;obtain ⟨h4,hx8⟩:=Bj hx7;refine P_h rfl rfl (Ae3 Bs ([x1.Id]) (subl s0.1 s1 ((s0.1.length:Nat):Int)) rfl rfl Aek (fun _=>rfl) hs3 (sb 1) (fun _=>rfl) h4 rfl (fun _ _=>.here) (by decide) (fun A1 c1=>?_)) ?_
    rotate_left;exact Bb;refine Dh (k:=0) rfl (by decide) (fun _=>rfl) (fun hn3 hs4=>?_);obtain ⟨h5,hx9⟩:=Bj hx8;obtain ⟨h6,hx10⟩:=Bj hx9;refine P_h rfl rfl (Akf Bs (subl s0.1 0 s1) (([x1.Id])++(subl s0.1 s1 ((s0.1.length:Nat):Int))) rfl rfl Aek (fun _=>rfl) (Has.up (L:=([.r (y0.1) (s0.1.length) (y0.2) 3 1 (s0.1.flatMap Bs),.r (A1) ((([x1.Id])++(subl s0.1 s1 ((s0.1.length:Nat):Int))).length) (c1) 3 1 ((([x1.Id])++(subl s0.1 s1 ((s0.1.length:Nat):Int))).flatMap Bs)]:List Ent)) hs1 (sb 0)) (Has.up (L:=([.r (y0.1) (s0.1.length) (y0.2) 3 1 (s0.1.flatMap Bs),.r (A1) ((([x1.Id])++(subl s0.1 s1 ((s0.1.length:Nat):Int))).length) (c1) 3 1 ((([x1.Id])++(subl s0.1 s1 ((s0.1.length:Nat):Int))).flatMap Bs)]:List Ent)) hs4 (sb 1)) (SubE.cons2 (i:=1) rfl (sb 0)) (List.length_pos_iff.1 h6) h5 rfl (by decide) (fun A2 c2=>?_)) ?_;rotate_left;exact Bb;refine P_x rfl (Ec (Ce rfl) rfl ?_) ?_;rotate_left;exact Bb;refine Y8 ?_;exact Rp ((subl s0.1 0 s1)++(([x1.Id])++(subl s0.1 s1 ((s0.1.length:Nat):Int))),w64 (s0.2+1)) (A2,c2) hx10 trivial (by exact .pick 0 rfl (.drop 0 rfl (.drop 0 rfl (.refl))))
   ·refine Y ?_;obtain ⟨t1,hl2,ho1⟩:=Ac hx2;refine Lp (σ:=Int) (γ:=Unit) hl2 (fun s2 y2=>[(0,.slice (A0_0) (p0.length) (c0_0)),(3,.slice (y0.1) (s0.1.length) (y0.2)),(4,.int .i64 (s0.2)),(5,.int .i64 (s2))]) (fun s2 y2=>[.r (y0.1) (s0.1.length) (y0.2) 3 1 (s0.1.flatMap Bs)]++[.old w]) (fun s2 y2=>True) () trivial (by exact .pick 0 rfl (.refl)) ?_;intro s2 y2 hG3 x2 hx11 ht1;unfold Jn at hx11;refine Y ?_;refine Tj (γ:=Unit) hx11 (fun s4 y4=>[(0,.slice (A0_0) (p0.length) (c0_0)),(3,.slice (y0.1) (s0.1.length) (y0.2)),(4,.int .i64 (s0.2)),(5,.int .i64 (s2)),(28,.bool (s4))]) (fun s4 y4=>[.r (y0.1) (s0.1.length) (y0.2) 3 1 (s0.1.flatMap Bs)]++[.old w]) (fun s4 y4=>True) (fun s4 y4 hx12 hG4=>?_) (fun j2 hx11=>?_)
    ·refine By (s:=28) rfl (fun h7=>?_) (fun h7=>?_)
     ·have hx13:=Bx h7 hx12;refine Y10 ?_;exact Rp (w64 (s2-1)) () hx13 trivial (by exact .pick 0 rfl (.refl))
     ·have hx14:=Bn h7 hx12;refine Y3 ?_;obtain rfl:=Bd ht1 hx14;refine Y2 ?_;exact Mt s2 () ho1 trivial (by exact .pick 0 rfl (.refl))
    ·refine T_dr [0,0,0,0,0,0,0,1,0,0,0,0,1,0,0] (.q 0 (.q 1 (.q 2 (.q 3 (.q 4 (.q 5 (.q 6 (.q 7 (.q 8 (.q 9 (.q 10 (.q 11 (.q 12 (.q 13 (.q 14 (.done)))))))))))))))) mixed (by kernel_rfl) (by kernel_rfl) ?_;refine Y3 ?_;refine Ti hx11 (s:=16) rfl (fun h8 hx15=>?_) (fun h8 hx16=>?_)
     ·refine Y3 ?_;obtain ⟨x3,h9,hx17⟩:=Ac hx15;refine Ii (k:=0) rfl (by decide) (fun _=>rfl) h9 (fun b1 j4 hA1 hj1 hl3 hm0 hp1=>?_);refine P_pG rfl rfl rfl rfl rfl (Az rfl rfl hA1 (j:=j4) hj1 hl3 Fn) rfl ?_;refine P_qG rfl rfl rfl rfl rfl (Bu rfl hp1 (sb 0) rfl one3) rfl ?_;refine Y2 ?_;obtain ⟨x4,h10,hx18⟩:=Ac hx17;have hw1:=Has.low (E:=[]) ha0' hK;obtain ⟨b2,o1,j5,hA2,hj2,hl4,hp2⟩:=Has.at_idx hw1 h10;refine P_pG rfl rfl rfl rfl rfl (Az rfl rfl hA2 (j:=j5) hj2 hl4 Na) rfl ?_;refine P_pG rfl rfl rfl rfl rfl (Ah rfl Jz rfl) rfl ?_;refine P_qG rfl rfl rfl rfl rfl (Ew (d:=0) rfl hp2 (sb 1) rfl one3) rfl ?_;refine Y3 ?_;exact Mt (decide (x4.Id < x3)) () hx18 trivial (by exact .pick 0 rfl (.refl))
     ·(iterate 13 refine Y ?_);exact Mt false () hx16 trivial (by exact .pick 0 rfl (.refl))
  ·refine Y3 ?_;obtain rfl:=Bd ht0 hx3;refine Y2 ?_;exact Mt s0.1 (y0.1,y0.2) ho0 trivial (by exact .pick 0 rfl (.refl))
set_option maxRecDepth 100000 in
theorem Ub (p0:List Int) (p1:Int) {K:List Ent} {A0_0:Option Addr} {c0_0:Nat} (ha0:Has K A0_0 p0.length c0_0 1 Bs (p0)) {r:Bool} (hx:Ks p0 p1=some r) (w:World) (hK:∀ e∈K,Ent.ok w e):CtL Tryz.prog 36 [.slice (A0_0) (p0.length) (c0_0),.int .i64 (p1)] w fun v Ln=>v = .bool (r)∧Ln=[]∧True:=by
 have ha0':=Has.up0 ha0;refine CtL.mk 18 Tryz.func36 rfl Tryz.ntmps36 (by kernel_rfl) rfl ?_;show T 18 _ [(0,.slice (A0_0) (p0.length) (c0_0)),(1,.int .i64 (p1))] _;unfold Ks at hx;refine Y5 ?_;refine Tj (γ:=Unit) hx (fun s2 y2=>[]) (fun s2 y2=>[]++[.old w]) (fun s2 y2=>True) (fun s2 y2 hx0 hG0=>?_) (fun j2 hx=>?_)
 ·refine Y6 ?_;obtain rfl:=Option.some.inj hx0;exact Av (rs:=[.tmp 4]) Tryz.results36 (.tmp rfl (.nil)) (Ln:=[]) ⟨rfl,rfl,trivial⟩ (Ax) (by exact .refl)
 ·refine Y6 ?_;obtain ⟨t0,hl0,ho0⟩:=Ac hx;refine Lp (σ:=Int) (γ:=Unit) hl0 (fun s0 y0=>[(0,.slice (A0_0) (p0.length) (c0_0)),(1,.int .i64 (p1)),(5,.int .i64 (s0))]) (fun s0 y0=>[]++[.old w]) (fun s0 y0=>True) () trivial (by exact .refl) ?_;intro s0 y0 hG1 x0 hx1 ht0;unfold Mo at hx1;refine Y5 ?_;refine Af (Bf rfl 3 Tryz.underlying48) rfl ?_;refine Y3 ?_;refine Ti hx1 (s:=9) rfl (fun h0 hx2=>?_) (fun h0 hx3=>?_)
  ·refine Y9 ?_;obtain ⟨x1,h1,hx4⟩:=Ac hx2;have hw0:=Has.low (E:=[]) ha0' hK;obtain ⟨b0,o0,j0,hA0,hj0,hl1,hp0⟩:=Has.at_idx hw0 h1;refine Af (Az rfl rfl hA0 (j:=j0) hj0 hl1 Fn) rfl ?_;refine Af (Bu rfl hp0 (sb 0) rfl one3) rfl ?_;refine Y4 ?_;refine Ti hx4 (s:=17) rfl (fun h2 hx5=>?_) (fun h2 hx6=>?_)
   ·refine Y9 ?_;obtain rfl:=Bd ht0 hx5;refine Y3 ?_;obtain rfl:=Option.some.inj ho0;exact Av (rs:=[.tmp 4]) Tryz.results36 (.tmp rfl (.nil)) (Ln:=[]) ⟨rfl,rfl,trivial⟩ (Ax) (by exact .refl)
   ·refine Y9 ?_;exact Rp (w64 (s0+1)) () hx6 trivial (by exact .refl)
  ·refine Y3 ?_;obtain rfl:=Bd ht0 hx3;refine Y2 ?_;exact Mt () () ho0 trivial (by exact .refl)
set_option maxRecDepth 100000 in
theorem Yc (p0:List Aa) {K:List Ent} {A0_0:Option Addr} {c0_0:Nat} (ha0:Has K A0_0 p0.length c0_0 9 Ao (p0)) {r:List Aa} (hx:Jq p0=some r) (w:World) (hK:∀ e∈K,Ent.ok w e):CtL Tryz.prog 80 [.slice (A0_0) (p0.length) (c0_0)] w fun v Ln=>∃ (A0:Option Addr) (c0:Nat),v = .slice (A0) (r.length) (c0)∧Ln=[.r A0 r.length c0 66 9 (r.flatMap Ao)]∧True:=by
 have ha0':=Has.up0 ha0;refine CtL.mk 39 Tryz.func80 rfl Tryz.ntmps80 (by kernel_rfl) rfl ?_;show T 39 _ [(0,.slice (A0_0) (p0.length) (c0_0))] _;unfold Jq at hx;refine Y8 ?_;obtain ⟨r1,h2,hx3⟩:=Ac hx;refine T_x (Aw rfl (fun w1 hw1=>Abz p0 (Has.len' ha0') h2 w1 (Dz (K:=K) (K2:=[]) hK (by exact (sb 0)) (by exact (SubE.nil)) hw1)) rfl ?_);rintro _ _ hlo ⟨A4,c5,rfl,rfl,-⟩;refine Fw ?_;refine Y8 ?_;refine Tj (γ:=(Option Addr) × Nat) hx3 (fun s4 y4=>[(4,.slice (y4.1) (s4.length) (y4.2))]) (fun s4 y4=>[.r (y4.1) (s4.length) (y4.2) 66 9 (s4.flatMap Ao)]++[.old w]) (fun s4 y4=>True) (fun s4 y4 hx0 hG0=>?_) (fun j4 hx3=>?_)
 ·refine Y7 ?_;obtain rfl:=Option.some.inj hx0;exact Av (rs:=[.tmp 2]) Tryz.results80 (.tmp rfl (.nil)) (Ln:=[.r (y4.1) (s4.length) (y4.2) 66 9 (s4.flatMap Ao)]) ⟨y4.1,y4.2,rfl,rfl,trivial⟩ (Ay rfl (Ax)) (by exact .pick 0 rfl (.refl))
 ·refine Y6 ?_;obtain ⟨t0,hl0,ho0⟩:=Ac hx3;refine Cr 66 9 ?_
  have hn0:0=(([]:List Aa)).length:=by simp [Bq,Ca,List.length_append] <;> omega
  refine Ds (.here) (e':=.r (none) ((([]:List Aa)).length) (0) 66 9 ((([]:List Aa)).flatMap Ao)) (by first | (rw [← hn0];done) | rfl) ?_;refine Lp (σ:=(List Aa) × Int) (γ:=(Option Addr) × Nat) hl0 (fun s0 y0=>[(0,.slice (A0_0) (p0.length) (c0_0)),(3,.slice (A4) (r1.length) (c5)),(4,.slice (y0.1) (s0.1.length) (y0.2)),(5,.int .i64 (s0.2))]) (fun s0 y0=>[.r (y0.1) (s0.1.length) (y0.2) 66 9 (s0.1.flatMap Ao),.r (A4) (r1.length) (c5) 3 1 (r1.flatMap Bs)]++[.old w]) (fun s0 y0=>True) (none,0) trivial (by exact .pick 0 rfl (.pick 0 rfl (.refl))) ?_;intro s0 y0 hG1 x0 hx1 ht0;unfold Jp at hx1;refine Y5 ?_;refine Af (Bf rfl 3 Tryz.underlying48) rfl ?_;refine Y3 ?_;refine Ti hx1 (s:=12) rfl (fun h0 hx2=>?_) (fun h0 hx4=>?_)
  ·refine Y3 ?_;refine Tj (γ:=(Option Addr) × Nat) hx2 (fun s1 y1=>[(0,.slice (A0_0) (p0.length) (c0_0)),(3,.slice (A4) (r1.length) (c5)),(4,.slice (y1.1) (s1.length) (y1.2)),(5,.int .i64 (s0.2))]) (fun s1 y1=>[.r (y1.1) (s1.length) (y1.2) 66 9 (s1.flatMap Ao),.r (A4) (r1.length) (c5) 3 1 (r1.flatMap Bs)]++[.old w]) (fun s1 y1=>True) (fun s1 y1 hx5 hG2=>?_) (fun j0 hx2=>?_)
   ·refine Y5 ?_;exact Rp (s1,w64 (s0.2+1)) (y1.1,y1.2) hx5 trivial (by exact .pick 0 rfl (.pick 0 rfl (.refl)))
   ·refine Y7 ?_;obtain ⟨t1,hl1,ho1⟩:=Ac hx2;refine Lp (σ:=(List Aa) × Int) (γ:=(Option Addr) × Nat) hl1 (fun s2 y2=>[(0,.slice (A0_0) (p0.length) (c0_0)),(3,.slice (A4) (r1.length) (c5)),(4,.slice (y2.1) (s2.1.length) (y2.2)),(5,.int .i64 (s0.2)),(6,.int .i64 (s2.2))]) (fun s2 y2=>[.r (y2.1) (s2.1.length) (y2.2) 66 9 (s2.1.flatMap Ao),.r (A4) (r1.length) (c5) 3 1 (r1.flatMap Bs)]++[.old w]) (fun s2 y2=>True) (y0.1,y0.2) trivial (by exact .pick 0 rfl (.pick 0 rfl (.refl))) ?_;intro s2 y2 hG3 x1 hx6 ht1;unfold Gn at hx6;refine Y5 ?_;refine Af (Bf rfl 66 Tryz.underlying47) rfl ?_;refine Y3 ?_;refine Ti hx6 (s:=18) rfl (fun h1 hx7=>?_) (fun h1 hx8=>?_)
    ·refine Y3 ?_;refine Tj (γ:=(Option Addr) × Nat) hx7 (fun s3 y3=>[(0,.slice (A0_0) (p0.length) (c0_0)),(3,.slice (A4) (r1.length) (c5)),(4,.slice (y3.1) (s3.length) (y3.2)),(5,.int .i64 (s0.2)),(6,.int .i64 (s2.2))]) (fun s3 y3=>[.r (y3.1) (s3.length) (y3.2) 66 9 (s3.flatMap Ao),.r (A4) (r1.length) (c5) 3 1 (r1.flatMap Bs)]++[.old w]) (fun s3 y3=>True) (fun s3 y3 hx9 hG4=>?_) (fun j1 hx7=>?_)
     ·refine Y5 ?_;exact Rp (s3,w64 (s2.2+1)) (y3.1,y3.2) hx9 trivial (by exact .pick 0 rfl (.pick 0 rfl (.refl)))
     ·refine Y2 ?_;refine T_dr [0,0,0,0,1,0,0,0,1,0] (.q 0 (.q 1 (.q 2 (.q 3 (.q 4 (.q 5 (.q 6 (.q 7 (.q 8 (.q 9 (.done))))))))))) mixed (by kernel_rfl) (by kernel_rfl) ?_;refine Y2 ?_;obtain ⟨x2,h3,hx10⟩:=Ac hx7;have hw0:=Has.low (E:=[]) ha0' hK;obtain ⟨b0,o0,j2,hA0,hj0,hl2,hp0⟩:=Has.at_idx hw0 h3;refine P_p rfl rfl (Az rfl rfl hA0 (j:=j2) hj0 hl2 Na) rfl ?_;refine P_p rfl rfl (Ah rfl Jz rfl) rfl ?_;refine P_q rfl rfl (Ew (d:=0) rfl hp0 (sb 2) rfl one3) rfl ?_;refine Y2 ?_;obtain ⟨x3,h4,hx11⟩:=Ac hx10;refine Ii (k:=1) rfl (by decide) (fun _=>rfl) h4 (fun b1 j3 hA1 hj1 hl3 hm0 hp1=>?_);refine P_p rfl rfl (Az rfl rfl hA1 (j:=j3) hj1 hl3 Fn) rfl ?_;refine P_q rfl rfl (Bu rfl hp1 (sb 1) rfl one3) rfl ?_;refine Y3 ?_;refine Ti hx11 (s:=30) rfl (fun h5 hx12=>?_) (fun h5 hx13=>?_)
      ·refine Y5 ?_;obtain ⟨x4,h6,hx14⟩:=Ac hx12;have hw2:=Has.low (E:=[]) ha0' hK;obtain ⟨b2,o1,j5,hA2,hj2,hl4,hp2⟩:=Has.at_idx hw2 h6;refine Af (Az rfl rfl hA2 (j:=j5) hj2 hl4 Na) rfl ?_;refine Af (Cg rfl hp2 (sb 2) rfl Fc) rfl ?_;refine T_x (Bk rfl (Cf _ _ _ _ _ _ _ _ _) rfl (fun g0=>?_));obtain ⟨h7,hx15⟩:=Bj hx14;refine T_h (Dd Ao (s2.1) [x4] rfl rfl rfl Aeh (fun _=>rfl) (i':=0) rfl rfl rfl rfl h7 rfl (fun _ _=>.there (.here)) (fun _ _=>.drop .refl) (by decide) (fun A1 c1=>?_));refine Y3 ?_;exact Mt (s2.1++[x4]) (A1,c1) hx15 trivial (by exact .pick 0 rfl (.pick 0 rfl (.refl)))
      ·refine Y3 ?_;exact Mt s2.1 (y2.1,y2.2) hx13 trivial (by exact .pick 0 rfl (.pick 0 rfl (.refl)))
    ·refine Y3 ?_;obtain rfl:=Bd ht1 hx8;refine Y3 ?_;exact Mt s2.1 (y2.1,y2.2) ho1 trivial (by exact .pick 0 rfl (.pick 0 rfl (.refl)))
  ·refine Y3 ?_;obtain rfl:=Bd ht0 hx4;refine Y2 ?_;exact Mt s0.1 (y0.1,y0.2) ho0 trivial (by exact .pick 0 rfl (.drop 0 rfl (.refl)))
set_option maxRecDepth 100000 in
theorem Aap (p0:List Aa) (p1:List Int) {K:List Ent} {A0_0:Option Addr} {c0_0:Nat} {A0_1:Option Addr} {c0_1:Nat} (ha0:Has K A0_0 p0.length c0_0 9 Ao (p0)) (ha1:Has K A0_1 p1.length c0_1 1 Bs (p1)) {r:(List Aa) × Bool} (hx:Lv p0 p1=some r) (w:World) (hK:∀ e∈K,Ent.ok w e):CtL Tryz.prog 37 [.slice (A0_0) (p0.length) (c0_0),.slice (A0_1) (p1.length) (c0_1)] w fun v Ln=>∃ (A0:Option Addr) (c0:Nat),v = .tuple #[.slice (A0) (r.1.length) (c0),.bool (r.2)]∧Ln=[.r A0 r.1.length c0 66 9 (r.1.flatMap Ao)]∧True:=by
 have ha0':=Has.up0 ha0;have ha1':=Has.up0 ha1;refine CtL.mk 50 Tryz.func37 rfl Tryz.ntmps37 (by kernel_rfl) rfl ?_;show T 50 _ [(0,.slice (A0_0) (p0.length) (c0_0)),(1,.slice (A0_1) (p1.length) (c0_1))] _;unfold Lv at hx;refine Y6 ?_;refine Tj (γ:=Unit) hx (fun s2 y2=>[(0,.slice (A0_0) (p0.length) (c0_0)),(1,.slice (A0_1) (p1.length) (c0_1))]) (fun s2 y2=>[]++[.old w]) (fun s2 y2=>True) (fun s2 y2 hx0 hG0=>?_) (fun j2 hx=>?_)
 ·refine Y5 ?_;refine Tj (γ:=(Option Addr) × Nat) hx0 (fun s0 y0=>[(1,.slice (A0_1) (p1.length) (c0_1)),(7,.slice (y0.1) (s0.length) (y0.2))]) (fun s0 y0=>[.r (y0.1) (s0.length) (y0.2) 66 9 (s0.flatMap Ao)]++[.old w]) (fun s0 y0=>True) (fun s0 y0 hx1 hG1=>?_) (fun j0 hx0=>?_)
  ·refine Y4 ?_;refine Af (Bf rfl 66 Tryz.underlying47) rfl ?_;refine Y ?_;refine Af (Bf rfl 3 Tryz.underlying48) rfl ?_;refine Y3 ?_;refine Fb (s:=47) rfl (fun h0=>?_) (fun h0=>?_)
   ·have hx2:=Pr h0 hx1;refine Y9 ?_;refine Cr 66 9 ?_;obtain rfl:=Option.some.inj hx2;exact Av (rs:=[.tmp 4,.tmp 5]) Tryz.results37 (.tmp rfl (.tmp rfl (.nil))) (Ln:=[.r (none) (0) (0) 66 9 ((([]:List Aa)).flatMap Ao)]) ⟨none,0,rfl,rfl,trivial⟩ (Ay rfl (Ax)) (by exact .pick 0 rfl (.drop 0 rfl (.refl)))
   ·have hx3:=Bx h0 hx1;refine Y6 ?_;refine Dh (k:=0) rfl (by decide) (fun _=>rfl) (fun hn0 hs0=>?_);obtain ⟨r0,h1,hx4⟩:=Ac hx3;refine T_x (Aw rfl (fun w1 hw1=>Yc s0 (Has.len' hs0) h1 w1 (Dr (K:=([.r (y0.1) (s0.length) (y0.2) 66 9 (s0.flatMap Ao)]:List Ent)) (by exact (sb 0)) hw1)) rfl ?_);rintro _ _ hlo ⟨A1,c1,rfl,rfl,-⟩;refine Fw ?_;refine Y5 ?_;obtain rfl:=Option.some.inj hx4;exact Av (rs:=[.tmp 4,.tmp 5]) Tryz.results37 (.tmp rfl (.tmp rfl (.nil))) (Ln:=[.r (A1) (r0.length) (c1) 66 9 (r0.flatMap Ao)]) ⟨A1,c1,rfl,rfl,trivial⟩ (Ay rfl (Ax)) (by exact .pick 0 rfl (.drop 0 rfl (.refl)))
  ·refine Y6 ?_;obtain ⟨t0,hl0,ho0⟩:=Ac hx0;refine Cr 66 9 ?_
   have hn1:0=(([]:List Aa)).length:=by simp [Bq,Ca,List.length_append] <;> omega
   refine Ds (.here) (e':=.r (none) ((([]:List Aa)).length) (0) 66 9 ((([]:List Aa)).flatMap Ao)) (by first | (rw [← hn1];done) | rfl) ?_;refine Lp (σ:=(List Aa) × Int) (γ:=(Option Addr) × Nat) hl0 (fun s1 y1=>[(0,.slice (A0_0) (p0.length) (c0_0)),(1,.slice (A0_1) (p1.length) (c0_1)),(7,.slice (y1.1) (s1.1.length) (y1.2)),(8,.int .i64 (s1.2))]) (fun s1 y1=>[.r (y1.1) (s1.1.length) (y1.2) 66 9 (s1.1.flatMap Ao)]++[.old w]) (fun s1 y1=>True) (none,0) trivial (by exact .pick 0 rfl (.refl)) ?_;intro s1 y1 hG2 x0 hx5 ht0;unfold Il at hx5;refine Y5 ?_;refine Af (Bf rfl 66 Tryz.underlying47) rfl ?_;refine Y3 ?_;refine Ti hx5 (s:=26) rfl (fun h2 hx6=>?_) (fun h2 hx7=>?_)
   ·refine Y3 ?_;refine Tj (γ:=(Option Addr) × Nat) hx6 (fun s3 y3=>[(0,.slice (A0_0) (p0.length) (c0_0)),(1,.slice (A0_1) (p1.length) (c0_1)),(7,.slice (y3.1) (s3.length) (y3.2)),(8,.int .i64 (s1.2))]) (fun s3 y3=>[.r (y3.1) (s3.length) (y3.2) 66 9 (s3.flatMap Ao)]++[.old w]) (fun s3 y3=>True) (fun s3 y3 hx8 hG3=>?_) (fun j1 hx6=>?_)
    ·refine Y5 ?_;exact Rp (s3,w64 (s1.2+1)) (y3.1,y3.2) hx8 trivial (by exact .pick 0 rfl (.refl))
    ·refine Y6 ?_;obtain ⟨x1,h3,hx9⟩:=Ac hx6;have hw0:=Has.low (E:=[]) ha0' hK;obtain ⟨b0,o0,j3,hA0,hj0,hl1,hp0⟩:=Has.at_idx hw0 h3;refine Af (Az rfl rfl hA0 (j:=j3) hj0 hl1 Na) rfl ?_;refine Af (Ah rfl Jz rfl) rfl ?_;refine Af (Ew (d:=0) rfl hp0 (sb 1) rfl one3) rfl ?_;obtain ⟨r1,h4,hx10⟩:=Ac hx9;refine Tc (fun w1 hw1=>Ub p1 x1.Id (Has.len' ha1') h4 w1 (Dz (K:=K) (K2:=[]) hK (by exact (sb 1)) (by exact (SubE.nil)) hw1)) ?_;refine Y2 ?_;refine By (s:=35) rfl (fun h5=>?_) (fun h5=>?_)
     ·have hx11:=Bx h5 hx10;refine Y5 ?_;obtain ⟨x2,h6,hx12⟩:=Ac hx11;have hw2:=Has.low (E:=[]) ha0' hK;obtain ⟨b1,o1,j4,hA1,hj1,hl2,hp1⟩:=Has.at_idx hw2 h6;refine Af (Az rfl rfl hA1 (j:=j4) hj1 hl2 Na) rfl ?_;refine Af (Cg rfl hp1 (sb 1) rfl Fc) rfl ?_;refine T_x (Bk rfl (Cf _ _ _ _ _ _ _ _ _) rfl (fun g0=>?_));obtain ⟨h7,hx13⟩:=Bj hx12;refine T_h (Dd Ao (s1.1) [x2] rfl rfl rfl Aeh (fun _=>rfl) (i':=0) rfl rfl rfl rfl h7 rfl (fun _ _=>.there (.here)) (fun _ _=>.drop .refl) (by decide) (fun A2 c2=>?_));refine Y3 ?_;exact Mt (s1.1++[x2]) (A2,c2) hx13 trivial (by exact .pick 0 rfl (.refl))
     ·have hx14:=Bn h5 hx10;refine Y3 ?_;exact Mt s1.1 (y1.1,y1.2) hx14 trivial (by exact .pick 0 rfl (.refl))
   ·refine Y3 ?_;obtain rfl:=Bd ht0 hx7;refine Y2 ?_;exact Mt s1.1 (y1.1,y1.2) ho0 trivial (by exact .pick 0 rfl (.refl))
 ·refine Y6 ?_;obtain ⟨t1,hl3,ho1⟩:=Ac hx;refine Lp (σ:=Int) (γ:=Unit) hl3 (fun s4 y4=>[(0,.slice (A0_0) (p0.length) (c0_0)),(1,.slice (A0_1) (p1.length) (c0_1)),(6,.int .i64 (s4))]) (fun s4 y4=>[]++[.old w]) (fun s4 y4=>True) () trivial (by exact .refl) ?_;intro s4 y4 hG4 x3 hx26 ht1;unfold Fy at hx26;refine Y5 ?_;refine Af (Bf rfl 3 Tryz.underlying48) rfl ?_;refine Y3 ?_;refine Ti hx26 (s:=12) rfl (fun h8 hx28=>?_) (fun h8 hx29=>?_)
  ·refine Y6 ?_;refine T_dr [0,0,0,0,0,0,1,2] (.q 0 (.q 1 (.q 2 (.q 3 (.q 4 (.q 5 (.q 6 (.e 7 (.done) (.stop))))))))) mixed (by kernel_rfl) (by kernel_rfl) ?_;refine Y2 ?_;obtain ⟨h9,hx32⟩:=Bj hx28;have hs1:=Has.subH ha1' h9.1 h9.2;refine P_p rfl rfl (Adr rfl rfl Fn h9.1 (by have:=Has.nc ha1';omega)) rfl ?_;refine Y2 ?_;obtain ⟨x4,h34,hx35⟩:=Ac hx32;have hw3:=Has.low (E:=[]) ha1' hK;obtain ⟨b2,o2,j5,hA2,hj2,hl4,hp2⟩:=Has.at_idx hw3 h34;refine P_p rfl rfl (Az rfl rfl hA2 (j:=j5) hj2 hl4 Fn) rfl ?_;refine P_q rfl rfl (Bu rfl hp2 (sb 0) rfl one3) rfl ?_;refine Eo (s:=17) (v':=.slice (A0_1) ((subl p1 0 s4).length) (c0_1)) rfl (by have hn2:(Int.toNat s4)=(subl p1 0 s4).length:=(Has.len hs1).symm;first | (rw [← hn2];done) | rfl) ?_;obtain ⟨r2,h46,hx47⟩:=Ac hx35;refine Pc (fun w1 hw1=>Ub (subl p1 0 s4) x4 (Has.len' hs1) h46 w1 (Dz (K:=K) (K2:=[]) hK (by exact (sb 0)) (by exact (SubE.nil)) hw1)) ?_;refine Y2 ?_;refine By (s:=22) rfl (fun h48=>?_) (fun h48=>?_)
   ·have hx49:=Bx h48 hx47;refine Y10 ?_;obtain rfl:=Bd ht1 hx49;refine Y3 ?_;refine Cr 66 9 ?_;obtain rfl:=Option.some.inj ho1;exact Av (rs:=[.tmp 4,.tmp 5]) Tryz.results37 (.tmp rfl (.tmp rfl (.nil))) (Ln:=[.r (none) (0) (0) 66 9 ((([]:List Aa)).flatMap Ao)]) ⟨none,0,rfl,rfl,trivial⟩ (Ay rfl (Ax)) (by exact .pick 0 rfl (.refl))
   ·have hx50:=Bn h48 hx47;refine Y9 ?_;exact Rp (w64 (s4+1)) () hx50 trivial (by exact .refl)
  ·refine Y3 ?_;obtain rfl:=Bd ht1 hx29;refine Y2 ?_;exact Mt () () ho1 trivial (by exact .refl)
set_option maxRecDepth 100000 in
theorem Aaq (p0:List Aa) {K:List Ent} {A0_0:Option Addr} {c0_0:Nat} (ha0:Has K A0_0 p0.length c0_0 9 Ao (p0)) {r:Bz × Int} (hx:Lw p0=some r) (w:World) (hK:∀ e∈K,Ent.ok w e):CtL Tryz.prog 65 [.slice (A0_0) (p0.length) (c0_0)] w fun v Ln=>∃ (A0:Option Addr) (c0:Nat) (A2:Option Addr) (c2:Nat) (A4:Option Addr) (c4:Nat),v = .tuple #[.agg #[.slice (A0) (r.1.V.length) (c0),.slice (A2) (r.1.T.length) (c2),.slice (A4) (r.1.Lines.length) (c4)],.int .i64 (r.2)]∧Ln=[.r A0 r.1.V.length c0 34 4 (r.1.V.flatMap Ak),.r A2 r.1.T.length c2 26 3 (r.1.T.flatMap Ba),.r A4 r.1.Lines.length c4 97 2 (r.1.Lines.flatMap Ar)]∧True:=by
 have ha0':=Has.up0 ha0;refine CtL.mk 52 Tryz.func65 rfl Tryz.ntmps65 (by kernel_rfl) rfl ?_;show T 52 _ [(0,.slice (A0_0) (p0.length) (c0_0))] _;unfold Lw at hx;refine Y2 ?_;refine T_x (Bp Zo rfl (fun g1=>?_));refine Y8 ?_;refine Tj (γ:=(Option Addr) × Nat) hx (fun s3 y3=>[(2,.pointer (some ⟨g1,0,none⟩)),(4,.slice (y3.1) (s3.length) (y3.2))]) (fun s3 y3=>[.r (y3.1) (s3.length) (y3.2) 34 4 (s3.flatMap Ak),.m g1 40 [.slice (none) (0) (0),.slice (none) (0) (0),.slice (none) (0) (0)]]++[.old w]) (fun s3 y3=>True) (fun s3 y3 hx0 hG0=>?_) (fun j3 hx=>?_)
 ·refine Y3 ?_;refine Dh (k:=0) rfl (by decide) (fun _=>rfl) (fun hn0 hs0=>?_);obtain ⟨r0,h0,hx1⟩:=Ac hx0;refine T_x (Aw rfl (fun w1 hw1=>Za s3 ([]:List Ab) (Has.len' hs0) (Has.nil (K:=([.r (y3.1) (s3.length) (y3.2) 34 4 (s3.flatMap Ak)]:List Ent))) h0 w1 (Dr (K:=([.r (y3.1) (s3.length) (y3.2) 34 4 (s3.flatMap Ak)]:List Ent)) (by exact (sb 0)) hw1)) rfl ?_);rintro _ _ hlo ⟨A1,c1,A3,c3,A5,c5,rfl,rfl,-⟩;refine Ng ?_;refine Y2 ?_;refine T_h (Bc rfl rfl rfl (.there (.there (.there (.there (.here))))) (.put (.put (.put (.done)))) rfl (List.cons_ne_nil _ _) Fl.2 ?_);refine Y4 ?_;obtain rfl:=Option.some.inj hx1;exact Av (rs:=[.cell 2 40,.tmp 3]) Tryz.results65 (.cell rfl (i:=4) rfl rfl Fl (.tmp rfl (.nil))) (Ln:=[.r (A1) (r0.1.V.length) (c1) 34 4 (r0.1.V.flatMap Ak),.r (A3) (r0.1.T.length) (c3) 26 3 (r0.1.T.flatMap Ba),.r (A5) (r0.1.Lines.length) (c5) 97 2 (r0.1.Lines.flatMap Ar)]) ⟨A1,c1,A3,c3,A5,c5,rfl,rfl,trivial⟩ (Ay rfl (Ay rfl (Ay rfl (Ax)))) (by exact .pick 0 rfl (.pick 0 rfl (.pick 0 rfl (.drop 0 rfl (.drop 0 rfl (.refl))))))
 ·refine Y6 ?_;obtain ⟨t0,hl0,ho0⟩:=Ac hx;refine Cr 34 4 ?_
  have hn1:0=(([]:List Ae)).length:=by simp [Bq,Ca,List.length_append] <;> omega
  refine Ds (.here) (e':=.r (none) ((([]:List Ae)).length) (0) 34 4 ((([]:List Ae)).flatMap Ak)) (by first | (rw [← hn1];done) | rfl) ?_;refine Lp (σ:=(List Ae) × Int) (γ:=(Option Addr) × Nat) hl0 (fun s0 y0=>[(0,.slice (A0_0) (p0.length) (c0_0)),(2,.pointer (some ⟨g1,0,none⟩)),(4,.slice (y0.1) (s0.1.length) (y0.2)),(5,.int .i64 (s0.2))]) (fun s0 y0=>[.r (y0.1) (s0.1.length) (y0.2) 34 4 (s0.1.flatMap Ak),.m g1 40 [.slice (none) (0) (0),.slice (none) (0) (0),.slice (none) (0) (0)]]++[.old w]) (fun s0 y0=>True) (none,0) trivial (by exact .pick 0 rfl (.pick 0 rfl (.refl))) ?_;intro s0 y0 hG1 x0 hx2 ht0;unfold Ga at hx2;refine Y5 ?_;refine Af (Bf rfl 66 Tryz.underlying47) rfl ?_;refine Y3 ?_;refine Ti hx2 (s:=10) rfl (fun h1 hx3=>?_) (fun h1 hx4=>?_)
  ·refine Y3 ?_;refine Tj (γ:=(Option Addr) × Nat) hx3 (fun s1 y1=>[(0,.slice (A0_0) (p0.length) (c0_0)),(2,.pointer (some ⟨g1,0,none⟩)),(4,.slice (y1.1) (s1.length) (y1.2)),(5,.int .i64 (s0.2))]) (fun s1 y1=>[.r (y1.1) (s1.length) (y1.2) 34 4 (s1.flatMap Ak),.m g1 40 [.slice (none) (0) (0),.slice (none) (0) (0),.slice (none) (0) (0)]]++[.old w]) (fun s1 y1=>True) (fun s1 y1 hx5 hG2=>?_) (fun j0 hx3=>?_)
   ·refine Y5 ?_;exact Rp (s1,w64 (s0.2+1)) (y1.1,y1.2) hx5 trivial (by exact .pick 0 rfl (.pick 0 rfl (.refl)))
   ·refine Y2 ?_;refine T_dr [0,0,0,0,0,1,0,0,0,0,1,0,0,0,0,1,0,2,3,2] (.q 0 (.q 1 (.q 2 (.q 3 (.q 4 (.q 5 (.q 6 (.q 7 (.q 8 (.q 9 (.q 10 (.q 11 (.q 12 (.q 13 (.q 14 (.q 15 (.q 16 (.e 17 (.e 18 (.e 19 (.done) (.stop)) (.stop)) (.stop))))))))))))))))))) mixed (by kernel_rfl) (by kernel_rfl) ?_;refine Y3 ?_;obtain ⟨x1,h2,hx6⟩:=Ac hx3;have hw0:=Has.low (E:=[]) ha0' hK;obtain ⟨b0,o0,j1,hA0,hj0,hl1,hp0⟩:=Has.at_idx hw0 h2;refine P_p rfl rfl (Az rfl rfl hA0 (j:=j1) hj0 hl1 Na) rfl ?_;refine P_p rfl rfl (Ah rfl Si rfl) rfl ?_;refine P_q rfl rfl (Ew (d:=1) rfl hp0 (sb 2) rfl one3) rfl ?_;refine Y2 ?_;obtain ⟨x2,h3,hx7⟩:=Ac hx6;have hw2:=Has.low (E:=[]) ha0' hK;obtain ⟨b1,o1,j2,hA1,hj1,hl2,hp1⟩:=Has.at_idx hw2 h3;refine P_p rfl rfl (Az rfl rfl hA1 (j:=j2) hj1 hl2 Na) rfl ?_;refine P_p rfl rfl (Ah rfl Sj rfl) rfl ?_;refine P_q rfl rfl (Ew (d:=2) rfl hp1 (sb 2) rfl one3) rfl ?_;refine Y2 ?_;obtain ⟨x3,h4,hx8⟩:=Ac hx7;have hw3:=Has.low (E:=[]) ha0' hK;obtain ⟨b2,o2,j4,hA2,hj2,hl3,hp2⟩:=Has.at_idx hw3 h4;refine P_p rfl rfl (Az rfl rfl hA2 (j:=j4) hj2 hl3 Na) rfl ?_;refine P_p rfl rfl (Ah rfl Kz rfl) rfl ?_;refine P_q rfl rfl (Agm (d:=3) rfl hp2 (sb 2) rfl An4) rfl ?_;refine P_p rfl rfl (Bt rfl (Px _ _ _ _)) rfl ?_
    refine P_x rfl (Bk rfl (Kx _ _ _ _) rfl (fun g0=>?_)) ?_;rotate_left;exact Bb;obtain ⟨h5,hx9⟩:=Bj hx8;refine P_h rfl rfl (Dd Ak (s0.1) [(⟨x1.X,x2.Y,x3.Z⟩:Ae)] rfl rfl rfl Ak1 (fun _=>rfl) (i':=0) rfl rfl rfl rfl h5 rfl (fun _ _=>.there (.here)) (fun _ _=>.drop .refl) (by decide) (fun A6 c6=>?_)) ?_;rotate_left;exact Bb;refine P_x rfl (Ec (Ce rfl) rfl ?_) ?_;rotate_left;exact Bb;refine Y8 ?_;obtain ⟨t1,hl4,ho1⟩:=Ac hx9;refine Lp (σ:=Int) (γ:=Unit) hl4 (fun s2 y2=>[(0,.slice (A0_0) (p0.length) (c0_0)),(2,.pointer (some ⟨g1,0,none⟩)),(4,.slice (A6) ((s0.1++[(⟨x1.X,x2.Y,x3.Z⟩:Ae)]).length) (c6)),(5,.int .i64 (s0.2)),(6,.int .i64 (s2))]) (fun s2 y2=>[.r (A6) ((s0.1++[(⟨x1.X,x2.Y,x3.Z⟩:Ae)]).length) (c6) 34 4 ((s0.1++[(⟨x1.X,x2.Y,x3.Z⟩:Ae)]).flatMap Ak),.m g1 40 [.slice (none) (0) (0),.slice (none) (0) (0),.slice (none) (0) (0)]]++[.old w]) (fun s2 y2=>True) () trivial (by exact .pick 0 rfl (.pick 0 rfl (.refl))) ?_;intro s2 y2 hG3 x4 hx10 ht1;unfold Fz at hx10;refine Y8 ?_;refine Ti hx10 (s:=34) rfl (fun h6 hx11=>?_) (fun h6 hx12=>?_)
    ·refine Y6 ?_;refine T_dr [0,0,0,1,0,0,0,1,2,0] (.q 0 (.q 1 (.q 2 (.q 3 (.q 4 (.q 5 (.q 6 (.q 7 (.e 8 (.q 9 (.done)) (.stop)))))))))) mixed (by kernel_rfl) (by kernel_rfl) ?_;refine Y2 ?_;obtain ⟨x5,h7,hx13⟩:=Ac hx11;refine P_il (Has.low (E:=[]) ha0' hK) h7 Na Fc (sb 2) (fun b3 o3=>?_);refine Y2 ?_;obtain ⟨x6,h8,hx14⟩:=Ac hx13;refine P_il (Has.low (E:=[]) ha0' hK) h8 Na Fc (sb 2) (fun b4 o4=>?_);obtain ⟨r1,h9,hx15⟩:=Ac hx14;refine Pc (fun w1 hw1=>Zh x5 x6  h9 w1) ?_;refine Y3 ?_;refine Ti hx15 (s:=46) rfl (fun h10 hx16=>?_) (fun h10 hx17=>?_)
     ·refine Y3 ?_;refine Af (Bt rfl (Vx)) rfl ?_;refine T_h (Bc rfl rfl rfl (.there (.here)) (.put (.put (.put (.done)))) rfl (List.cons_ne_nil _ _) Fl.2 ?_);refine Y6 ?_;obtain rfl:=Bd ht1 hx16;refine Y4 ?_;obtain rfl:=Bd ht0 ho1;refine Y3 ?_;refine Cr 34 4 ?_;refine Cr 26 3 ?_;refine Cr 97 2 ?_;obtain rfl:=Option.some.inj ho0;exact Av (rs:=[.cell 2 40,.tmp 3]) Tryz.results65 (.cell rfl (i:=4) rfl rfl Fl (.tmp rfl (.nil))) (Ln:=[.r (none) (0) (0) 34 4 ((([]:List Ae)).flatMap Ak),.r (none) (0) (0) 26 3 ((([]:List Am)).flatMap Ba),.r (none) (0) (0) 97 2 ((([]:List Ab)).flatMap Ar)]) ⟨none,0,none,0,none,0,rfl,rfl,trivial⟩ (Ay rfl (Ay rfl (Ay rfl (Ax)))) (by exact .pick 2 rfl (.pick 1 rfl (.pick 0 rfl (.drop 0 rfl (.drop 0 rfl (.refl))))))
     ·refine Y9 ?_;exact Rp (w64 (s2+1)) () hx17 trivial (by exact .pick 0 rfl (.pick 0 rfl (.refl)))
    ·refine Y3 ?_;obtain rfl:=Bd ht1 hx12;refine Y3 ?_;exact Mt (s0.1++[(⟨x1.X,x2.Y,x3.Z⟩:Ae)]) (A6,c6) ho1 trivial (by exact .pick 0 rfl (.pick 0 rfl (.refl)))
  ·refine Y3 ?_;obtain rfl:=Bd ht0 hx4;refine Y2 ?_;exact Mt s0.1 (y0.1,y0.2) ho0 trivial (by exact .pick 0 rfl (.pick 0 rfl (.refl)))
set_option maxRecDepth 100000 in
theorem Ww (p0:List Aa) (p1:List Int) {K:List Ent} {A0_0:Option Addr} {c0_0:Nat} {A0_1:Option Addr} {c0_1:Nat} (ha0:Has K A0_0 p0.length c0_0 9 Ao (p0)) (ha1:Has K A0_1 p1.length c0_1 1 Bs (p1)) {r:Bz × Int} (hx:Im p0 p1=some r) (w:World) (hK:∀ e∈K,Ent.ok w e):CtL Tryz.prog 24 [.slice (A0_0) (p0.length) (c0_0),.slice (A0_1) (p1.length) (c0_1)] w fun v Ln=>∃ (A0:Option Addr) (c0:Nat) (A2:Option Addr) (c2:Nat) (A4:Option Addr) (c4:Nat),v = .tuple #[.agg #[.slice (A0) (r.1.V.length) (c0),.slice (A2) (r.1.T.length) (c2),.slice (A4) (r.1.Lines.length) (c4)],.int .i64 (r.2)]∧Ln=[.r A0 r.1.V.length c0 34 4 (r.1.V.flatMap Ak),.r A2 r.1.T.length c2 26 3 (r.1.T.flatMap Ba),.r A4 r.1.Lines.length c4 97 2 (r.1.Lines.flatMap Ar)]∧True:=by
 have ha0':=Has.up0 ha0;have ha1':=Has.up0 ha1;refine CtL.mk 25 Tryz.func24 rfl Tryz.ntmps24 (by kernel_rfl) rfl ?_;show T 25 _ [(0,.slice (A0_0) (p0.length) (c0_0)),(1,.slice (A0_1) (p1.length) (c0_1))] _;unfold Im at hx;refine Y2 ?_;refine T_x (Bp Zo rfl (fun g1=>?_));refine Y7 ?_;obtain ⟨r2,h3,hx4⟩:=Ac hx;refine Tc (fun w1 hw1=>Se p0 (Has.len' ha0') h3 w1 (Dz (K:=K) (K2:=[]) hK (by exact (sb 1)) (by exact (SubE.nil)) hw1)) ?_;refine Y3 ?_;refine Cz (s:=10) rfl (fun h5=>?_) (fun h5=>?_)
 ·have hx6:=Bn h5 hx4;refine Y3 ?_;refine Af (Bt rfl (Vx)) rfl ?_;refine T_h (Bc rfl rfl rfl (.here) (.put (.put (.put (.done)))) rfl (List.cons_ne_nil _ _) Fl.2 ?_);refine Y5 ?_;refine Cr 34 4 ?_;refine Cr 26 3 ?_;refine Cr 97 2 ?_;obtain rfl:=Option.some.inj hx6;exact Av (rs:=[.cell 4 40,.tmp 5]) Tryz.results24 (.cell rfl (i:=3) rfl rfl Fl (.tmp rfl (.nil))) (Ln:=[.r (none) (0) (0) 34 4 ((([]:List Ae)).flatMap Ak),.r (none) (0) (0) 26 3 ((([]:List Am)).flatMap Ba),.r (none) (0) (0) 97 2 ((([]:List Ab)).flatMap Ar)]) ⟨none,0,none,0,none,0,rfl,rfl,trivial⟩ (Ay rfl (Ay rfl (Ay rfl (Ax)))) (by exact .pick 2 rfl (.pick 1 rfl (.pick 0 rfl (.drop 0 rfl (.refl)))))
 ·have hx7:=Bx h5 hx4;refine Y7 ?_;obtain ⟨r8,h9,hx0⟩:=Ac hx7;refine T_x (Aw rfl (fun w1 hw1=>Aap p0 p1 (Has.len' ha0') (Has.len' ha1') h9 w1 (Dz (K:=K) (K2:=[]) hK (by exact (sb 1)) (by exact (SubE.nil)) hw1)) rfl ?_);rintro _ _ hlo ⟨A1,c1,rfl,rfl,-⟩;refine Fw ?_;(iterate 14 refine Y ?_);refine Cz (s:=19) rfl (fun h0=>?_) (fun h0=>?_)
  ·have hx1:=Bn h0 hx0;refine Y3 ?_;refine Af (Bt rfl (Vx)) rfl ?_;refine T_h (Bc rfl rfl rfl (.there (.here)) (.put (.put (.put (.done)))) rfl (List.cons_ne_nil _ _) Fl.2 ?_);refine Y5 ?_;refine Cr 34 4 ?_;refine Cr 26 3 ?_;refine Cr 97 2 ?_;obtain rfl:=Option.some.inj hx1;exact Av (rs:=[.cell 4 40,.tmp 5]) Tryz.results24 (.cell rfl (i:=4) rfl rfl Fl (.tmp rfl (.nil))) (Ln:=[.r (none) (0) (0) 34 4 ((([]:List Ae)).flatMap Ak),.r (none) (0) (0) 26 3 ((([]:List Am)).flatMap Ba),.r (none) (0) (0) 97 2 ((([]:List Ab)).flatMap Ar)]) ⟨none,0,none,0,none,0,rfl,rfl,trivial⟩ (Ay rfl (Ay rfl (Ay rfl (Ax)))) (by exact .pick 2 rfl (.pick 1 rfl (.pick 0 rfl (.drop 0 rfl (.drop 0 rfl (.refl))))))
  ·have hx2:=Bx h0 hx0;refine Y6 ?_;refine Dh (k:=0) rfl (by decide) (fun _=>rfl) (fun hn0 hs0=>?_);obtain ⟨r0,h1,hx3⟩:=Ac hx2;refine T_x (Aw rfl (fun w1 hw1=>Aaq r8.1 (Has.len' hs0) h1 w1 (Dr (K:=([.r (A1) (r8.1.length) (c1) 66 9 (r8.1.flatMap Ao)]:List Ent)) (by exact (sb 0)) hw1)) rfl ?_);rintro _ _ hlo ⟨A3,c3,A5,c5,A6,c6,rfl,rfl,-⟩;refine Ng ?_;refine Y2 ?_;refine T_h (Bc rfl rfl rfl (.there (.there (.there (.there (.here))))) (.put (.put (.put (.done)))) rfl (List.cons_ne_nil _ _) Fl.2 ?_);refine Y4 ?_;obtain rfl:=Option.some.inj hx3;exact Av (rs:=[.cell 4 40,.tmp 5]) Tryz.results24 (.cell rfl (i:=4) rfl rfl Fl (.tmp rfl (.nil))) (Ln:=[.r (A3) (r0.1.V.length) (c3) 34 4 (r0.1.V.flatMap Ak),.r (A5) (r0.1.T.length) (c5) 26 3 (r0.1.T.flatMap Ba),.r (A6) (r0.1.Lines.length) (c6) 97 2 (r0.1.Lines.flatMap Ar)]) ⟨A3,c3,A5,c5,A6,c6,rfl,rfl,trivial⟩ (Ay rfl (Ay rfl (Ay rfl (Ax)))) (by exact .pick 0 rfl (.pick 0 rfl (.pick 0 rfl (.drop 0 rfl (.drop 0 rfl (.refl))))))
end Go.Proofs.YtbkobeeileemjaaGreat
