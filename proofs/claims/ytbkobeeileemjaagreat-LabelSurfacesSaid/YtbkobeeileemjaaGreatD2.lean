/- Walks of the program, with their plain functions: inputs, comparators. -/
import Derived.Test.YtbkobeeileemjaaGreatD1
namespace Go.Proofs.YtbkobeeileemjaaGreat
open Go Go.RowKit
theorem Ey:Ka Tryz.prog 22 34 4:=.mk Tryz.underlying22 (show Tryz.prog.info? 34=some Tryz.t34 from by kernel_rfl) (by kernel_rfl)
theorem Arl:Uh Tryz.prog 34 [.int .i64 (0),.int .i64 (0),.int .i64 (0),.int .i64 (0)]:=⟨_,Tryz.zeroValue34,rfl⟩
theorem Ad0:Ka Tryz.prog 23 97 2:=.mk Tryz.underlying23 (show Tryz.prog.info? 97=some Tryz.t97 from by kernel_rfl) (by kernel_rfl)
theorem Fn:Ka Tryz.prog 48 3 1:=.mk Tryz.underlying48 (show Tryz.prog.info? 3=some Tryz.t3 from by kernel_rfl) (by kernel_rfl)
theorem Su:Agl Tryz.prog 26 3 1:=.mk Tryz.underlying26 (show Tryz.prog.info? 3=some Tryz.t3 from by kernel_rfl) (by kernel_rfl)
theorem Xd:Pq Tryz.prog 22:=.mk Tryz.underlying22 rfl (show Tryz.prog.info? 22=some Tryz.t22 from by kernel_rfl) (by kernel_rfl)
noncomputable def Hk (p0:List Ae):Int→Option (Sum Int (Sum Unit Int)):=fun s0 =>
 if s0 < ((((p0).length:Nat):Int)) then (bnd (idx p0 s0) fun x0 =>
 bnd (Uw x0) fun r0 =>
 if r0=true then (some (.inl (w64 (s0+1))))
 else (some (.inr (.inr (60)))))
 else (some (.inr (.inl ())))
noncomputable def Mj (p0:List Ae):((List (Ad × Bool)) × Int)→Option (Sum ((List (Ad × Bool)) × Int) (Sum Unit Int)):=fun s0 =>
 if s0.2 < ((((p0).length:Nat):Int)) then (bnd (idx p0 s0.2) fun x0 =>
 bnd (La x0) fun r0 =>
 gd ((-9223372036854775808≤r0.X∧r0.X≤9223372036854775807)∧(-9223372036854775808≤r0.Y∧r0.Y≤9223372036854775807)) <|
 bnd (some ((mget s0.1 r0).getD false)) fun x1 =>
 if x1=true then (some (.inr (.inr (61))))
 else (bnd (La x0) fun r1 =>
 gd ((-9223372036854775808≤r1.X∧r1.X≤9223372036854775807)∧(-9223372036854775808≤r1.Y∧r1.Y≤9223372036854775807)) <|
 gd ((s0.1).length < 9223372036854775807) <|
 some (.inl (mput s0.1 r1 true,w64 (s0.2+1)))))
 else (some (.inr (.inl ())))
noncomputable def Od (p0:List Ae):Option Int :=
 if 1024 < ((((p0).length:Nat):Int)) then (some 2)
 else (jn (fun (s5:Unit) =>
 jn (fun (s0:Unit) =>
 some 0)
 (fun j0=>bnd (lfix (Mj p0) (([]:List (Ad × Bool)),0)) fun t0 =>
 (match t0 with
 | (.inl z0)=>j0 z0
 | (.inr (z0))=>some z0
 )))
 (fun j5=>bnd (lfix (Hk p0) 0) fun t1 =>
 (match t1 with
 | (.inl z1)=>j5 z1
 | (.inr (z1))=>some z1
 )))
def Ak (x:Ae):List Value:=[.int .i64 (x.X),.int .i64 (x.Y),.int .i64 (x.Z.Lo),.int .i64 (x.Z.Hi)]
def Al (x:Ab):Value:=.agg #[.int .i64 (x.a0),.int .i64 (x.a1)]
theorem Ci (x y:Ab) (h:Al x=Al y):x=y:=by
 rcases x with ⟨_,_⟩;rcases y with ⟨_,_⟩;simp [Al] at h;simp [h]
theorem Ar1:(match Tryz.prog.underlying 97 with | some (.array _ _) | some (.struct _)=>true | _=>false)=true:=by kernel_rfl
set_option maxRecDepth 100000 in
theorem Ny:Maps.Keyed Tryz.prog 97:=Maps.Keyed.of_law (deep_law_laid Air (m:=3) (by omega) (of_decide_eq_true (by kernel_rfl)) (by kernel_rfl) Ar1)
theorem Rx (x:Ab) (h:(-9223372036854775808≤x.a0∧x.a0≤9223372036854775807)∧(-9223372036854775808≤x.a1∧x.a1≤9223372036854775807)):(keyOf Tryz.prog 97 (Al x)).isSome=true:=by
 refine Am3 (zs:=[x.a0,x.a1]) (d:=374) (by kernel_rfl) Tryz.underlying97 (by kernel_rfl) rfl Tryz.underlying3 (by kernel_rfl) (by kernel_rfl) (fun z hz=>?_)
 simp only [List.mem_cons,List.not_mem_nil,or_false] at hz
 rcases hz with rfl | rfl
 ·exact Aec h.1
 ·exact Aec h.2
def Ar (x:Ab):List Value:=[.int .i64 (x.a0),.int .i64 (x.a1)]
noncomputable def Ou (p1:List Ab):((List (Ab × Bool)) × Int)→Option (Sum ((List (Ab × Bool)) × Int) Unit):=fun s6 =>
 if s6.2 < ((((p1).length:Nat):Int)) then (none)
 else (some (.inr ()))
noncomputable def Oa (p1:List Ab):Int→Option (Sum Int Unit):=fun s0 =>
 if s0 < ((((p1).length:Nat):Int)) then (none)
 else (some (.inr ()))
noncomputable def Li (p0:List Ae) (p1:List Ab):Option Int :=
 jn (fun (s3:Unit) =>
 jn (fun (s9:Unit) =>
 some 0)
 (fun j9=>bnd (lfix (Oa p1) 0) fun t0 =>
 j9 t0))
 (fun j3=>bnd (lfix (Ou p1) (([]:List (Ab × Bool)),0)) fun t6 =>
 j3 t6)
noncomputable def Mq (p0:Int):Option Bool :=
 some (!(decide (p0=p0)))
noncomputable def Kc (p0:Int) (p1:Int):Option Int :=
 bnd (Mq p0) fun r1 =>
 bnd (Mq p1) fun r4 =>
 if r1=true then (if r4=true then (some 0)
 else (some (-1)))
 else (if r4=true then (some 1)
 else (if p0 < p1 then (some (-1))
 else (if p1 < p0 then (some 1)
 else (some 0))))
noncomputable def Cn (p0:List Int) (p1:List Int):Int→Option (Sum Int (Sum Unit Int)):=fun s0 =>
 if s0 < ((((p0).length:Nat):Int)) then (bnd (idx p0 s0) fun x0 =>
 if ((((p1).length:Nat):Int))≤s0 then (some (.inr (.inr (1))))
 else (bnd (idx p1 s0) fun x1 =>
 bnd (Kc x0 x1) fun r0 =>
 if r0=0 then (some (.inl (w64 (s0+1))))
 else (some (.inr (.inr (r0))))))
 else (some (.inr (.inl ())))
noncomputable def Fm (p0:List Int) (p1:List Int):Option Int :=
 jn (fun (s2:Unit) =>
 if ((((p0).length:Nat):Int)) < ((((p1).length:Nat):Int)) then (some (-1))
 else (some 0))
 (fun j2=>bnd (lfix (Cn p0 p1) 0) fun t0 =>
 (match t0 with
 | (.inl z0)=>j2 z0
 | (.inr (z0))=>some z0
 ))
structure Am where
 a0:Int
 a1:Int
 a2:Int
noncomputable def Gc (p0:Am) (p1:Am):Option Int :=
 bnd (Fm ([p0.a0,p0.a1,p0.a2]) ([p1.a0,p1.a1,p1.a2])) fun r5 =>
 some r5
noncomputable def Sf (p0:Int) (p1:Int) (p2:List Ae):Option Int :=
 bnd (idx p2 p0) fun x1 =>
 bnd (idx p2 p1) fun x0 =>
 bnd (La x1) fun r0 =>
 bnd (La x0) fun r1 =>
 bnd (Ji r0 r1) fun r2 =>
 if r2=true then (some (-1))
 else (bnd (idx p2 p1) fun x2 =>
 bnd (idx p2 p0) fun x3 =>
 bnd (La x2) fun r3 =>
 bnd (La x3) fun r4 =>
 bnd (Ji r3 r4) fun r5 =>
 if r5=true then (some 1)
 else (some 0))
def Ba (x:Am):List Value:=[.int .i64 (x.a0),.int .i64 (x.a1),.int .i64 (x.a2)]
set_option maxRecDepth 100000 in
theorem Ab7 (p0:List Ae) {K:List Ent} {A0_0:Option Addr} {c0_0:Nat} (ha0:Has K A0_0 p0.length c0_0 4 Ak (p0)) {r:Int} (hx:Od p0=some r) (w:World) (hK:∀ e∈K,Ent.ok w e):CtL Tryz.prog 51 [.slice (A0_0) (p0.length) (c0_0)] w fun v Ln=>v = .int .i64 (r)∧Ln=[]∧True:=by
 have ha0':=Has.up0 ha0;refine CtL.mk 36 Tryz.func51 rfl Tryz.ntmps51 (by kernel_rfl) rfl ?_;show T 36 _ [(0,.slice (A0_0) (p0.length) (c0_0))] _;unfold Od at hx;refine Y9 ?_;refine Af (Bf rfl 34 Tryz.underlying22) rfl ?_;refine Y3 ?_;refine Ti hx (s:=10) rfl (fun h1 hx2=>?_) (fun h1 hx3=>?_)
 ·refine Y8 ?_;obtain rfl:=Option.some.inj hx2;exact Av (rs:=[.tmp 2]) Tryz.results51 (.tmp rfl (.nil)) (Ln:=[]) ⟨rfl,rfl,trivial⟩ (Ax) (by exact .refl)
 ·refine Y3 ?_;refine Tj (γ:=Unit) hx3 (fun s5 y5=>[(0,.slice (A0_0) (p0.length) (c0_0))]) (fun s5 y5=>[]++[.old w]) (fun s5 y5=>True) (fun s5 y5 hx0 hG0=>?_) (fun j5 hx3=>?_)
  ·refine Y2 ?_;refine T_x (Ph Tryz.prog 28 Fe Cc rfl (fun g0=>?_));refine Y3 ?_;refine Tj (γ:=Unit) hx0 (fun s0 y0=>[]) (fun s0 y0=>[]++[.old w]) (fun s0 y0=>True) (fun s0 y0 hx1 hG1=>?_) (fun j0 hx0=>?_)
   ·refine Y6 ?_;obtain rfl:=Option.some.inj hx1;exact Av (rs:=[.tmp 2]) Tryz.results51 (.tmp rfl (.nil)) (Ln:=[]) ⟨rfl,rfl,trivial⟩ (Ax) (by exact .refl)
   ·refine Y3 ?_;refine Af (Bf rfl 34 Tryz.underlying22) rfl ?_;refine Y4 ?_;obtain ⟨t0,hl0,ho0⟩:=Ac hx0;refine Lp (σ:=(List (Ad × Bool)) × Int) (γ:=Unit) hl0 (fun s1 y1=>[(5,.map (some g0)),(22,.slice (A0_0) (p0.length) (c0_0)),(23,.int .i64 (((p0.length:Nat):Int))),(24,.int .i64 (s1.2))]) (fun s1 y1=>[Bg Tryz.prog 28 Fe Cc g0 (s1.1)]++[.old w]) (fun s1 y1=>True) () trivial (by exact .pick 0 rfl (.refl)) ?_;intro s1 y1 hG2 x0 hx4 ht0;unfold Mj at hx4;refine Y6 ?_;refine Ti hx4 (s:=25) rfl (fun h0 hx5=>?_) (fun h0 hx6=>?_)
    ·refine Y7 ?_;obtain ⟨x1,h2,hx7⟩:=Ac hx5;have hw0:=Has.low (E:=[]) ha0' hK;obtain ⟨b0,o0,j1,hA0,hj0,hl1,hp0⟩:=Has.at_idx hw0 h2;refine Af (Az rfl rfl hA0 (j:=j1) hj0 hl1 Ey) rfl ?_;refine Af (Cg rfl hp0 (sb 1) rfl Ej) rfl ?_;refine T_x (Bp Arl rfl (fun g1=>?_));refine T_h (Bc rfl rfl rfl (.here) (.put (.put (.put (.put (.done))))) rfl (List.cons_ne_nil _ _) Ej.2 ?_);refine Y6 ?_;refine Af (Au rfl (i:=0) rfl rfl Ej) rfl ?_;obtain ⟨r0,h3,hx8⟩:=Ac hx7;refine Tc (fun w1 hw1=>Ju x1  h3 w1) ?_;obtain ⟨h4,hx9⟩:=Bj hx8;obtain ⟨x2,h5,hx10⟩:=Ac hx9;refine Af (Xj (x:=r0) (i:=1) (vv:=.bool (x2)) Ais Tryz.underlying137 (fun w=>by kernel_rfl) Qm rfl rfl rfl rfl Fj (Ait r0 h4) h5 rfl) rfl ?_;refine Y2 ?_;refine By (s:=31) rfl (fun h6=>?_) (fun h6=>?_)
     ·have hx11:=Bx h6 hx10;refine Y10 ?_;obtain rfl:=Bd ht0 hx11;refine Y3 ?_;obtain rfl:=Option.some.inj ho0;exact Av (rs:=[.tmp 2]) Tryz.results51 (.tmp rfl (.nil)) (Ln:=[]) ⟨rfl,rfl,trivial⟩ (Ax) (by exact .drop 0 rfl (.drop 0 rfl (.refl)))
     ·have hx12:=Bn h6 hx10;refine Y5 ?_;refine Af (Au rfl (i:=0) rfl rfl Ej) rfl ?_;obtain ⟨r1,h7,hx13⟩:=Ac hx12;refine Tc (fun w1 hw1=>Ju x1  h7 w1) ?_;obtain ⟨h8,hx14⟩:=Bj hx13;obtain ⟨h9,hx15⟩:=Bj hx14;refine T_h (Kw (x:=r1) (y:=true) Ais Qm Tryz.underlying137 rfl rfl rfl rfl rfl (.there (.here)) (Ait r1 h8) h9 ?_);refine Y7 ?_;exact Rp (mput s1.1 r1 true,w64 (s1.2+1)) () hx15 trivial (by exact .pick 1 rfl (.drop 0 rfl (.refl)))
    ·refine Y3 ?_;obtain rfl:=Bd ht0 hx6;refine Y2 ?_;exact Mt () () ho0 trivial (by exact .drop 0 rfl (.refl))
  ·refine Y3 ?_;refine Af (Bf rfl 34 Tryz.underlying22) rfl ?_;refine Y4 ?_;obtain ⟨t1,hl2,ho1⟩:=Ac hx3;refine Lp (σ:=Int) (γ:=Unit) hl2 (fun s2 y2=>[(0,.slice (A0_0) (p0.length) (c0_0)),(11,.slice (A0_0) (p0.length) (c0_0)),(12,.int .i64 (((p0.length:Nat):Int))),(13,.int .i64 (s2))]) (fun s2 y2=>[]++[.old w]) (fun s2 y2=>True) () trivial (by exact .refl) ?_;intro s2 y2 hG3 x3 hx26 ht1;unfold Hk at hx26;refine Y6 ?_;refine Ti hx26 (s:=14) rfl (fun h27 hx28=>?_) (fun h27 hx29=>?_)
   ·refine Y7 ?_;obtain ⟨x4,h31,hx32⟩:=Ac hx28;have hw2:=Has.low (E:=[]) ha0' hK;obtain ⟨b1,o1,j2,hA1,hj1,hl3,hp1⟩:=Has.at_idx hw2 h31;refine Af (Az rfl rfl hA1 (j:=j2) hj1 hl3 Ey) rfl ?_;refine Af (Cg rfl hp1 (sb 0) rfl Ej) rfl ?_;refine T_x (Bp Arl rfl (fun g2=>?_));refine T_h (Bc rfl rfl rfl (.here) (.put (.put (.put (.put (.done))))) rfl (List.cons_ne_nil _ _) Ej.2 ?_);refine Y4 ?_;refine Af (Au rfl (i:=0) rfl rfl Ej) rfl ?_;obtain ⟨r2,h43,hx44⟩:=Ac hx32;refine Tc (fun w1 hw1=>Agv x4  h43 w1) ?_;refine Y3 ?_;refine Cz (s:=19) rfl (fun h45=>?_) (fun h45=>?_)
    ·have hx46:=Bn h45 hx44;refine Y9 ?_;obtain rfl:=Bd ht1 hx46;refine Y3 ?_;obtain rfl:=Option.some.inj ho1;exact Av (rs:=[.tmp 2]) Tryz.results51 (.tmp rfl (.nil)) (Ln:=[]) ⟨rfl,rfl,trivial⟩ (Ax) (by exact .drop 0 rfl (.refl))
    ·have hx47:=Bx h45 hx44;refine Y8 ?_;exact Rp (w64 (s2+1)) () hx47 trivial (by exact .drop 0 rfl (.refl))
   ·refine Y3 ?_;obtain rfl:=Bd ht1 hx29;refine Y2 ?_;exact Mt () () ho1 trivial (by exact .refl)
set_option maxRecDepth 100000 in
theorem Zs (p0:List Ae) (p1:List Ab) {K:List Ent} {A0_0:Option Addr} {c0_0:Nat} {A0_1:Option Addr} {c0_1:Nat} (ha0:Has K A0_0 p0.length c0_0 4 Ak (p0)) (ha1:Has K A0_1 p1.length c0_1 2 Ar (p1)) {r:Int} (hx:Li p0 p1=some r) (w:World) (hK:∀ e∈K,Ent.ok w e):CtL Tryz.prog 52 [.slice (A0_0) (p0.length) (c0_0),.slice (A0_1) (p1.length) (c0_1)] w fun v Ln=>v = .int .i64 (r)∧Ln=[]∧True:=by
 have ha0':=Has.up0 ha0;have ha1':=Has.up0 ha1;refine CtL.mk 109 Tryz.func52 rfl Tryz.ntmps52 (by kernel_rfl) rfl ?_;show T 109 _ [(0,.slice (A0_0) (p0.length) (c0_0)),(1,.slice (A0_1) (p1.length) (c0_1))] _;unfold Li at hx;refine Y7 ?_;refine T_x (Ph Tryz.prog 97 Al Cc rfl (fun g1=>?_));refine Y3 ?_;refine Tj (γ:=Unit) hx (fun s3 y3=>[(0,.slice (A0_0) (p0.length) (c0_0)),(1,.slice (A0_1) (p1.length) (c0_1))]) (fun s3 y3=>[]++[.old w]) (fun s3 y3=>True) (fun s3 y3 hx0 hG0=>?_) (fun j3 hx=>?_)
 ·refine Tj (γ:=Unit) hx0 (fun s9 y9=>[]) (fun s9 y9=>[]++[.old w]) (fun s9 y9=>True) (fun s9 y9 hx1 hG1=>?_) (fun j9 hx0=>?_)
  ·refine Y6 ?_;obtain rfl:=Option.some.inj hx1;exact Av (rs:=[.tmp 4]) Tryz.results52 (.tmp rfl (.nil)) (Ln:=[]) ⟨rfl,rfl,trivial⟩ (Ax) (by exact .refl)
  ·refine Y3 ?_;refine Af (Bf rfl 97 Tryz.underlying23) rfl ?_;refine Y4 ?_;obtain ⟨t0,hl0,ho0⟩:=Ac hx0;refine Lp (σ:=Int) (γ:=Unit) hl0 (fun s0 y0=>[(0,.slice (A0_0) (p0.length) (c0_0)),(1,.slice (A0_1) (p1.length) (c0_1)),(66,.slice (A0_1) (p1.length) (c0_1)),(67,.int .i64 (((p1.length:Nat):Int))),(68,.int .i64 (s0))]) (fun s0 y0=>[]++[.old w]) (fun s0 y0=>True) () trivial (by exact .refl) ?_;intro s0 y0 hG2 x0 hx2 ht0;unfold Oa at hx2;refine Y6 ?_;refine Ti hx2 (s:=69) rfl (fun h0 hx3=>?_) (fun h0 hx4=>?_)
   ·exact Rh hx3
   ·refine Y3 ?_;obtain rfl:=Bd ht0 hx4;refine Y2 ?_;exact Mt () () ho0 trivial (by exact .refl)
 ·refine Y3 ?_;refine Af (Bf rfl 97 Tryz.underlying23) rfl ?_;refine Y4 ?_;obtain ⟨t6,hl6,ho6⟩:=Ac hx;refine Lp (σ:=(List (Ab × Bool)) × Int) (γ:=Unit) hl6 (fun s6 y6=>[(0,.slice (A0_0) (p0.length) (c0_0)),(1,.slice (A0_1) (p1.length) (c0_1)),(5,.map (some g1)),(15,.slice (A0_1) (p1.length) (c0_1)),(16,.int .i64 (((p1.length:Nat):Int))),(17,.int .i64 (s6.2))]) (fun s6 y6=>[Bg Tryz.prog 97 Al Cc g1 (s6.1)]++[.old w]) (fun s6 y6=>True) () trivial (by exact .pick 0 rfl (.refl)) ?_;intro s6 y6 hG6 x6 hx6 ht6;unfold Ou at hx6;refine Y6 ?_;refine Ti hx6 (s:=18) rfl (fun h7 hx8=>?_) (fun h7 hx9=>?_)
  ·exact Rh hx8
  ·refine Y3 ?_;obtain rfl:=Bd ht6 hx9;refine Y2 ?_;exact Mt () () ho6 trivial (by exact .drop 0 rfl (.refl))
set_option maxRecDepth 100000 in
theorem Tv (p0:Int)  {r:Bool} (hx:Mq p0=some r) (w:World):CtL Tryz.prog 273 [.int .i64 (p0)] w fun v Ln=>v = .bool (r)∧Ln=[]∧True:=by
 refine CtL.mk 6 Tryz.func273 rfl Tryz.ntmps273 (by kernel_rfl) rfl ?_;show T 6 _ [(0,.int .i64 (p0))] _;unfold Mq at hx;(iterate 14 refine Y ?_);obtain rfl:=Option.some.inj hx;exact Av (rs:=[.tmp 2]) Tryz.results273 (.tmp rfl (.nil)) (Ln:=[]) ⟨rfl,rfl,trivial⟩ (Ax) (by exact .refl)
set_option maxRecDepth 100000 in
theorem Yv (p0:Int) (p1:Int)  {r:Int} (hx:Kc p0 p1=some r) (w:World):CtL Tryz.prog 187 [.int .i64 (p0),.int .i64 (p1)] w fun v Ln=>v = .int .i64 (r)∧Ln=[]∧True:=by
 refine CtL.mk 20 Tryz.func187 rfl Tryz.ntmps187 (by kernel_rfl) rfl ?_;show T 20 _ [(0,.int .i64 (p0)),(1,.int .i64 (p1))] _;unfold Kc at hx;refine Y8 ?_;obtain ⟨r1,h2,hx3⟩:=Ac hx;refine Tc (fun w1 hw1=>Tv p0  h2 w1) ?_;refine Y6 ?_;obtain ⟨r4,h5,hx6⟩:=Ac hx3;refine Tc (fun w1 hw1=>Tv p1  h5 w1) ?_;refine Y9 ?_;refine By (s:=11) rfl (fun h7=>?_) (fun h7=>?_)
 ·have hx8:=Bx h7 hx6;refine Y7 ?_;refine By (s:=12) rfl (fun h9=>?_) (fun h9=>?_)
  ·have hx0:=Bx h9 hx8;refine Y9 ?_;obtain rfl:=Option.some.inj hx0;exact Av (rs:=[.tmp 4]) Tryz.results187 (.tmp rfl (.nil)) (Ln:=[]) ⟨rfl,rfl,trivial⟩ (Ax) (by exact .refl)
  ·have hx1:=Bn h9 hx8;refine Y10 ?_;obtain rfl:=Option.some.inj hx1;exact Av (rs:=[.tmp 4]) Tryz.results187 (.tmp rfl (.nil)) (Ln:=[]) ⟨rfl,rfl,trivial⟩ (Ax) (by exact .refl)
 ·have hx2:=Bn h7 hx6;refine Y9 ?_;refine By (s:=13) rfl (fun h0=>?_) (fun h0=>?_)
  ·have hx4:=Bx h0 hx2;refine Y8 ?_;obtain rfl:=Option.some.inj hx4;exact Av (rs:=[.tmp 4]) Tryz.results187 (.tmp rfl (.nil)) (Ln:=[]) ⟨rfl,rfl,trivial⟩ (Ax) (by exact .refl)
  ·have hx5:=Bn h0 hx2;refine Y11 ?_;refine Ti hx5 (s:=16) rfl (fun h1 hx7=>?_) (fun h1 hx9=>?_)
   ·refine Y8 ?_;obtain rfl:=Option.some.inj hx7;exact Av (rs:=[.tmp 4]) Tryz.results187 (.tmp rfl (.nil)) (Ln:=[]) ⟨rfl,rfl,trivial⟩ (Ax) (by exact .refl)
   ·refine Y11 ?_;refine Ti hx9 (s:=19) rfl (fun h3 hx20=>?_) (fun h3 hx21=>?_)
    ·refine Y8 ?_;obtain rfl:=Option.some.inj hx20;exact Av (rs:=[.tmp 4]) Tryz.results187 (.tmp rfl (.nil)) (Ln:=[]) ⟨rfl,rfl,trivial⟩ (Ax) (by exact .refl)
    ·refine Y9 ?_;obtain rfl:=Option.some.inj hx21;exact Av (rs:=[.tmp 4]) Tryz.results187 (.tmp rfl (.nil)) (Ln:=[]) ⟨rfl,rfl,trivial⟩ (Ax) (by exact .refl)
set_option maxRecDepth 100000 in
theorem Rv (p0:List Int) (p1:List Int) {K:List Ent} {A0_0:Option Addr} {c0_0:Nat} {A0_1:Option Addr} {c0_1:Nat} (ha0:Has K A0_0 p0.length c0_0 1 Bs (p0)) (ha1:Has K A0_1 p1.length c0_1 1 Bs (p1)) {r:Int} (hx:Fm p0 p1=some r) (w:World) (hK:∀ e∈K,Ent.ok w e):CtL Tryz.prog 119 [.slice (A0_0) (p0.length) (c0_0),.slice (A0_1) (p1.length) (c0_1)] w fun v Ln=>v = .int .i64 (r)∧Ln=[]∧True:=by
 have ha0':=Has.up0 ha0;have ha1':=Has.up0 ha1;refine CtL.mk 36 Tryz.func119 rfl Tryz.ntmps119 (by kernel_rfl) rfl ?_;show T 36 _ [(0,.slice (A0_0) (p0.length) (c0_0)),(1,.slice (A0_1) (p1.length) (c0_1))] _;unfold Fm at hx;refine Y5 ?_;refine Tj (γ:=Unit) hx (fun s2 y2=>[(0,.slice (A0_0) (p0.length) (c0_0)),(1,.slice (A0_1) (p1.length) (c0_1))]) (fun s2 y2=>[]++[.old w]) (fun s2 y2=>True) (fun s2 y2 hx0 hG0=>?_) (fun j2 hx=>?_)
 ·refine Y4 ?_;refine Af (Bf rfl 3 Tryz.underlying48) rfl ?_;refine Y ?_;refine Af (Bf rfl 3 Tryz.underlying48) rfl ?_;refine Y3 ?_;refine Ti hx0 (s:=35) rfl (fun h0 hx1=>?_) (fun h0 hx2=>?_)
  ·refine Y8 ?_;obtain rfl:=Option.some.inj hx1;exact Av (rs:=[.tmp 4]) Tryz.results119 (.tmp rfl (.nil)) (Ln:=[]) ⟨rfl,rfl,trivial⟩ (Ax) (by exact .refl)
  ·refine Y9 ?_;obtain rfl:=Option.some.inj hx2;exact Av (rs:=[.tmp 4]) Tryz.results119 (.tmp rfl (.nil)) (Ln:=[]) ⟨rfl,rfl,trivial⟩ (Ax) (by exact .refl)
 ·refine Y3 ?_;refine Af (Bf rfl 3 Tryz.underlying48) rfl ?_;refine Y4 ?_;obtain ⟨t0,hl0,ho0⟩:=Ac hx;refine Lp (σ:=Int) (γ:=Unit) hl0 (fun s0 y0=>[(0,.slice (A0_0) (p0.length) (c0_0)),(1,.slice (A0_1) (p1.length) (c0_1)),(9,.slice (A0_0) (p0.length) (c0_0)),(10,.int .i64 (((p0.length:Nat):Int))),(11,.int .i64 (s0))]) (fun s0 y0=>[]++[.old w]) (fun s0 y0=>True) () trivial (by exact .refl) ?_;intro s0 y0 hG1 x0 hx3 ht0;unfold Cn at hx3;refine Y6 ?_;refine Ti hx3 (s:=12) rfl (fun h1 hx4=>?_) (fun h1 hx5=>?_)
  ·refine Y8 ?_;obtain ⟨x1,h2,hx6⟩:=Ac hx4;have hw0:=Has.low (E:=[]) ha0' hK;obtain ⟨b0,o0,j0,hA0,hj0,hl1,hp0⟩:=Has.at_idx hw0 h2;refine Af (Az rfl rfl hA0 (j:=j0) hj0 hl1 Fn) rfl ?_;refine Af (Bu rfl hp0 (sb 0) rfl one3) rfl ?_;refine Y9 ?_;refine Af (Bf rfl 3 Tryz.underlying48) rfl ?_;refine Y3 ?_;refine Ti hx6 (s:=19) rfl (fun h3 hx7=>?_) (fun h3 hx8=>?_)
   ·refine Y10 ?_;obtain rfl:=Bd ht0 hx7;refine Y3 ?_;obtain rfl:=Option.some.inj ho0;exact Av (rs:=[.tmp 4]) Tryz.results119 (.tmp rfl (.nil)) (Ln:=[]) ⟨rfl,rfl,trivial⟩ (Ax) (by exact .refl)
   ·refine Y7 ?_;obtain ⟨x2,h4,hx9⟩:=Ac hx8;have hw2:=Has.low (E:=[]) ha1' hK;obtain ⟨b1,o1,j1,hA1,hj1,hl2,hp1⟩:=Has.at_idx hw2 h4;refine Af (Az rfl rfl hA1 (j:=j1) hj1 hl2 Fn) rfl ?_;refine Af (Bu rfl hp1 (sb 0) rfl one3) rfl ?_;refine Y7 ?_;obtain ⟨r0,h5,hx67⟩:=Ac hx9;refine Tc (fun w1 hw1=>Yv x1 x2  h5 w1) ?_;refine Y9 ?_;refine Fb (s:=28) rfl (fun h6=>?_) (fun h6=>?_)
    ·have hx69:=Pr h6 hx67;refine Y10 ?_;obtain rfl:=Bd ht0 hx69;refine Y3 ?_;obtain rfl:=Option.some.inj ho0;exact Av (rs:=[.tmp 4]) Tryz.results119 (.tmp rfl (.nil)) (Ln:=[]) ⟨rfl,rfl,trivial⟩ (Ax) (by exact .refl)
    ·have hx70:=Bx h6 hx67;refine Y8 ?_;exact Rp (w64 (s0+1)) () hx70 trivial (by exact .refl)
  ·refine Y3 ?_;obtain rfl:=Bd ht0 hx5;refine Y2 ?_;exact Mt () () ho0 trivial (by exact .refl)
set_option maxRecDepth 100000 in
theorem Sg (p0:Am) (p1:Am)  {r:Int} (hx:Gc p0 p1=some r) (w:World):CtL Tryz.prog 118 [.agg #[.int .i64 (p0.a0),.int .i64 (p0.a1),.int .i64 (p0.a2)],.agg #[.int .i64 (p1.a0),.int .i64 (p1.a1),.int .i64 (p1.a2)]] w fun v Ln=>v = .int .i64 (r)∧Ln=[]∧True:=by
 refine CtL.mk 8 Tryz.func118 rfl Tryz.ntmps118 (by kernel_rfl) rfl ?_;show T 8 _ [(0,.agg #[.int .i64 (p0.a0),.int .i64 (p0.a1),.int .i64 (p0.a2)]),(1,.agg #[.int .i64 (p1.a0),.int .i64 (p1.a1),.int .i64 (p1.a2)])] _;unfold Gc at hx;refine Y2 ?_;refine T_x (Bl rfl rfl rfl (fun g1=>?_));refine T_x (Bl rfl rfl rfl (fun g2=>?_));refine Y4 ?_;refine T_dr [0,0,2,2] (.q 0 (.q 1 (.e 2 (.e 3 (.done) (.stop)) (.stop)))) mixed (by kernel_rfl) (by kernel_rfl) ?_;refine P_p rfl rfl (Alb rfl Su rfl) rfl ?_;refine P_p rfl rfl (Alb rfl Su rfl) rfl ?_;have hs3:Has [.m g1 26 [.int .i64 (p0.a0),.int .i64 (p0.a1),.int .i64 (p0.a2)]] (some ⟨g1,0,none⟩) 3 3 1 Bs [p0.a0,p0.a1,p0.a2]:=Has.ofM (fun _ _=>rfl) rfl (by decide) rfl;have hs4:Has [.m g2 26 [.int .i64 (p1.a0),.int .i64 (p1.a1),.int .i64 (p1.a2)]] (some ⟨g2,0,none⟩) 3 3 1 Bs [p1.a0,p1.a1,p1.a2]:=Has.ofM (fun _ _=>rfl) rfl (by decide) rfl;obtain ⟨r5,h6,hx7⟩:=Ac hx;refine Pc (fun w1 hw1=>Rv ([p0.a0,p0.a1,p0.a2]) ([p1.a0,p1.a1,p1.a2]) (Has.len' (Has.up (L:=([.m g1 26 [.int .i64 (p0.a0),.int .i64 (p0.a1),.int .i64 (p0.a2)],.m g2 26 [.int .i64 (p1.a0),.int .i64 (p1.a1),.int .i64 (p1.a2)]]:List Ent)) hs3 (sb 0))) (Has.len' (Has.up (L:=([.m g1 26 [.int .i64 (p0.a0),.int .i64 (p0.a1),.int .i64 (p0.a2)],.m g2 26 [.int .i64 (p1.a0),.int .i64 (p1.a1),.int .i64 (p1.a2)]]:List Ent)) hs4 (sb 1))) h6 w1 (Dr (K:=([.m g1 26 [.int .i64 (p0.a0),.int .i64 (p0.a1),.int .i64 (p0.a2)],.m g2 26 [.int .i64 (p1.a0),.int .i64 (p1.a1),.int .i64 (p1.a2)]]:List Ent)) (by exact (SubE.cons2 (i:=1) rfl (sb 0))) hw1)) ?_
 refine P_x rfl (Ec (Ce rfl) rfl ?_) ?_;rotate_left;exact Bb;refine Y3 ?_;obtain rfl:=Option.some.inj hx7;exact Av (rs:=[.tmp 4]) Tryz.results118 (.tmp rfl (.nil)) (Ln:=[]) ⟨rfl,rfl,trivial⟩ (Ax) (by exact .drop 0 rfl (.drop 0 rfl (.refl)))
set_option maxRecDepth 100000 in
theorem Ac8 (p0:Int) (p1:Int) (p2:List Ae) {K:List Ent} {A0_0:Option Addr} {c0_0:Nat} (ha0:Has K A0_0 p2.length c0_0 4 Ak (p2)) {g0_2:Nat} (hp2:Pt K g0_2 0 [.slice (A0_0) (p2.length) (c0_0)]) {r:Int} (hx:Sf p0 p1 p2=some r) (w:World) (hK:∀ e∈K,Ent.ok w e):CtL Tryz.prog 112 [.int .i64 (p0),.int .i64 (p1),.pointer (some ⟨g0_2,0,none⟩)] w fun v Ln=>v = .int .i64 (r)∧Ln=[]∧True:=by
 have ha0':=Has.up0 ha0;have hp2':=Pt.low (E:=[]) (Pt.up0 hp2) hK;refine CtL.mk 28 Tryz.func112 rfl Tryz.ntmps112 (by kernel_rfl) rfl ?_;show T 28 _ [(0,.int .i64 (p0)),(1,.int .i64 (p1)),(2,.pointer (some ⟨g0_2,0,none⟩))] _;unfold Sf at hx;refine Y7 ?_;refine T_dr [1,0,0,1,2,1,0,0,1,2,2] (.q 0 (.q 1 (.q 2 (.q 3 (.q 5 (.q 6 (.q 7 (.q 8 (.e 4 (.e 9 (.e 10 (.done) (.stop)) (.stop)) (.stop)))))))))) mixed (by kernel_rfl) (by kernel_rfl) ?_;refine P_q rfl rfl (Bu rfl hp2' (sb 0) rfl Xd) rfl ?_;refine Y ?_;obtain ⟨x1,h2,hx3⟩:=Ac hx;refine P_il (Has.low (E:=[]) ha0' hK) h2 Ey Ej (sb 0) (fun b4 o5=>?_);refine P_q rfl rfl (Bu rfl hp2' (sb 0) rfl Xd) rfl ?_;refine Y ?_;obtain ⟨x0,h0,hx0⟩:=Ac hx3;refine P_il (Has.low (E:=[]) ha0' hK) h0 Ey Ej (sb 0) (fun b0 o0=>?_);obtain ⟨r0,h1,hx1⟩:=Ac hx0;refine Pc (fun w1 hw1=>Ju x1  h1 w1) ?_;obtain ⟨r1,h3,hx2⟩:=Ac hx1;refine Pc (fun w1 hw1=>Ju x0  h3 w1) ?_;obtain ⟨r2,h4,hx4⟩:=Ac hx2;refine Pc (fun w1 hw1=>Te r0 r1  h4 w1) ?_;refine Y2 ?_;refine By (s:=16) rfl (fun h5=>?_) (fun h5=>?_)
 ·have hx5:=Bx h5 hx4;refine Y8 ?_;obtain rfl:=Option.some.inj hx5;exact Av (rs:=[.tmp 5]) Tryz.results112 (.tmp rfl (.nil)) (Ln:=[]) ⟨rfl,rfl,trivial⟩ (Ax) (by exact .refl)
 ·have hx6:=Bn h5 hx4;refine Y5 ?_;refine T_dr [1,0,0,1,2,1,0,0,1,2,2] (.q 0 (.q 1 (.q 2 (.q 3 (.q 5 (.q 6 (.q 7 (.q 8 (.e 4 (.e 9 (.e 10 (.done) (.stop)) (.stop)) (.stop)))))))))) mixed (by kernel_rfl) (by kernel_rfl) ?_;refine P_q rfl rfl (Bu rfl hp2' (sb 0) rfl Xd) rfl ?_;refine Y ?_;obtain ⟨x2,h6,hx7⟩:=Ac hx6;refine P_il (Has.low (E:=[]) ha0' hK) h6 Ey Ej (sb 0) (fun b1 o1=>?_);refine P_q rfl rfl (Bu rfl hp2' (sb 0) rfl Xd) rfl ?_;refine Y ?_;obtain ⟨x3,h7,hx8⟩:=Ac hx7;refine P_il (Has.low (E:=[]) ha0' hK) h7 Ey Ej (sb 0) (fun b2 o2=>?_);obtain ⟨r3,h8,hx9⟩:=Ac hx8;refine Pc (fun w1 hw1=>Ju x2  h8 w1) ?_;obtain ⟨r4,h9,hx62⟩:=Ac hx9;refine Pc (fun w1 hw1=>Ju x3  h9 w1) ?_;obtain ⟨r5,h64,hx65⟩:=Ac hx62;refine Pc (fun w1 hw1=>Te r3 r4  h64 w1) ?_;refine Y2 ?_;refine By (s:=27) rfl (fun h66=>?_) (fun h66=>?_)
  ·have hx67:=Bx h66 hx65;refine Y8 ?_;obtain rfl:=Option.some.inj hx67;exact Av (rs:=[.tmp 5]) Tryz.results112 (.tmp rfl (.nil)) (Ln:=[]) ⟨rfl,rfl,trivial⟩ (Ax) (by exact .refl)
  ·have hx68:=Bn h66 hx65;refine Y9 ?_;obtain rfl:=Option.some.inj hx68;exact Av (rs:=[.tmp 5]) Tryz.results112 (.tmp rfl (.nil)) (Ln:=[]) ⟨rfl,rfl,trivial⟩ (Ax) (by exact .refl)
end Go.Proofs.YtbkobeeileemjaaGreat
