/- Walks of the program, with their plain functions: the references on lines and triangles. -/
import Derived.Test.YtbkobeeileemjaaGreatE1b
import Derived.Test.YtbkobeeileemjaaGreatEs
namespace Go.Proofs.YtbkobeeileemjaaGreat
open Go Go.RowKit
theorem Acm (x0:Int) (x1:Int):Dn Tryz.prog 48 2 [(0,.int .i64 x0),(1,.int .i64 x1)] 3 [.int .i64 x0,.int .i64 x1]:=fun w=>by kernel_rfl
noncomputable def Jv (p1:List Ab):Int→Option (Sum Int Unit):=fun s5 =>
 if s5 < ((((p1).length:Nat):Int)) then (none)
 else (some (.inr ()))
noncomputable def Ir (p1:List Ab):Int→Option (Sum Int Unit):=fun s0 =>
 if s0 < ((((p1).length:Nat):Int)) then (none)
 else (some (.inr ()))
noncomputable def Fs (p0:List Ae) (p1:List Ab):Option Int :=
 jn (fun (s2:Unit) =>
 jn (fun (s8:Unit) =>
 some 0)
 (fun j8=>bnd (lfix (Ir p1) 0) fun t0 =>
 j8 t0))
 (fun j2=>bnd (lfix (Jv p1) 0) fun t5 =>
 j2 t5)
noncomputable def Nv (p0:List Ae) (p1:List Ab):Option Int :=
 bnd (Hd p0) fun r1 =>
 if r1=0 then (bnd (Fs p0 p1) fun r7 =>
 some r7)
 else (some r1)
noncomputable def Pd (p1:List Ab) (p0:List Ae) (p2:Int) (p3:Int):Unit→Option (Sum Unit Unit):=fun s0 =>
 if 0 < ((((p1).length:Nat):Int)) then (bnd (idx p1 0) fun x0 =>
 bnd (idx p0 p2) fun x1 =>
 bnd (idx p0 p3) fun x2 =>
 bnd (idx p0 x0.a0) fun x3 =>
 bnd (idx p0 x0.a1) fun x4 =>
 bnd (Be x1) fun r0 =>
 bnd (Be x2) fun r1 =>
 bnd (Be x3) fun r2 =>
 bnd (Be x4) fun r3 =>
 none)
 else (some (.inr ()))
noncomputable def Jc (p0:List Ae) (p1:List Ab) (p2:Int) (p3:Int):Option Bool :=
 jn (fun (s2:Unit) =>
 some true)
 (fun j2=>bnd (lfix (Pd p1 p0 p2 p3) ()) fun t0 =>
 j2 t0)
noncomputable def Ie (s0:List Int) (x0:Int):(Bool × Int)→Option (Sum (Bool × Int) Bool):=fun s1 =>
 if s1.2 < ((((s0).length:Nat):Int)) then (jn (fun (s2:Bool) =>
 some (.inl (s2,w64 (s1.2+1))))
 (fun j0=>bnd (idx s0 s1.2) fun x1 =>
 if s1.1=true then (j0 true)
 else (j0 (decide (x1=x0)))))
 else (some (.inr s1.1))
noncomputable def If (p3:List Int) (p0:List Ae) (p1:Int) (s0:List Int):(Int × Int)→Option (Sum (Int × Int) Int):=fun s1 =>
 if s1.2 < ((((p3).length:Nat):Int)) then (jn (fun (s2:Int) =>
 some (.inl (s2,w64 (s1.2+1))))
 (fun j0=>bnd (idx p3 s1.2) fun x0 =>
 jn (fun (s3:Bool) =>
 jn (fun (s4:Bool) =>
 if s4=true then (j0 x0)
 else (j0 s1.1))
 (fun j1=>if s3=true then (j1 false)
 else (if s1.1 < 0 then (j1 true)
 else (bnd (idx p0 p1) fun x1 =>
 bnd (idx p0 x0) fun x2 =>
 bnd (idx p0 s1.1) fun x3 =>
 bnd (Be x1) fun r0 =>
 bnd (Be x2) fun r1 =>
 bnd (Be x3) fun r2 =>
 bnd (Em r0 r1 r2) fun r3 =>
 j1 (decide (0 < r3))))))
 (fun j2=>bnd (lfix (Ie s0 x0) (false,0)) fun t0 =>
 j2 t0)))
 else (some (.inr s1.1))
noncomputable def Ld (p3:List Int) (p0:List Ae) (p1:Int):(List Int)→Option (Sum (List Int) (List Int)):=fun s0 =>
 if ((((s0).length:Nat):Int)) < (w64 (((((p3).length:Nat):Int))+2)) then (jn (fun (s1:Int) =>
 gd (((s0).length+1)*8≤140737488355328) <|
 some (.inl (s0++[s1])))
 (fun j0=>bnd (lfix (If p3 p0 p1 s0) (-1,0)) fun t0 =>
 j0 t0))
 else (some (.inr s0))
noncomputable def Ls (p0:List Ae) (p1:Int) (p2:Int) (p3:List Int):Option (List Int) :=
 jn (fun (s3:List Int) =>
 some s3)
 (fun j3=>bnd (lfix (Ld p3 p0 p1) ([p1,p2])) fun t0 =>
 j3 t0)
noncomputable def Ha (s0:List Int) (p0:List Ae):(Int × Int)→Option (Sum (Int × Int) Int):=fun s1 =>
 if s1.2 < ((((s0).length:Nat):Int)) then (jn (fun (s2:Int) =>
 some (.inl (s2,w64 (s1.2+1))))
 (fun j0=>bnd (idx s0 s1.2) fun x0 =>
 bnd (idx p0 x0) fun x1 =>
 bnd (idx s0 s1.1) fun x2 =>
 bnd (idx p0 x2) fun x3 =>
 bnd (Be x1) fun r0 =>
 bnd (Be x3) fun r1 =>
 bnd (Gq r0 r1) fun r2 =>
 if r2=true then (j0 s1.2)
 else (j0 s1.1)))
 else (some (.inr s1.1))
noncomputable def Gl (s0:List Int) (s1:Int):((List Int) × Int)→Option (Sum ((List Int) × Int) (List Int)):=fun s2 =>
 if s2.2 < ((((s0).length:Nat):Int)) then (jn (fun (s3:List Int) =>
 some (.inl (s3,w64 (s2.2+1))))
 (fun j0=>if s2.2=s1 then (j0 s2.1)
 else (bnd (idx s0 s2.2) fun x0 =>
 gd (((s2.1).length+1)*8≤140737488355328) <|
 j0 (s2.1++[x0]))))
 else (some (.inr s2.1))
noncomputable def Eh (p2:Int) (p1:Int) (p0:List Ae):(List Int)→Option (Sum (List Int) (Sum (List Int) Int)):=fun s0 =>
 if 3 < ((((s0).length:Nat):Int)) then (jn (fun (s1:Int) =>
 gd (((((s0).length:Nat):Int))≠0) <|
 bnd (idx s0 (Int.tmod (w64 ((w64 (s1+((((s0).length:Nat):Int))))-1)) ((((s0).length:Nat):Int)))) fun x0 =>
 gd (((((s0).length:Nat):Int))≠0) <|
 bnd (idx s0 (Int.tmod (w64 (s1+1)) ((((s0).length:Nat):Int)))) fun x1 =>
 jn (fun (s2:Bool) =>
 if s2=true then (some (.inr (.inr (x0))))
 else (jn (fun (s3:Bool) =>
 if s3=true then (some (.inr (.inr (x1))))
 else (jn (fun (s4:List Int) =>
 some (.inl s4))
 (fun j0=>bnd (lfix (Gl s0 s1) (([]:List Int),0)) fun t0 =>
 j0 t0)))
 (fun j1=>bnd (idx s0 s1) fun x2 =>
 if x2=p2 then (j1 (decide (x0=p1)))
 else (j1 false))))
 (fun j2=>bnd (idx s0 s1) fun x3 =>
 if x3=p1 then (j2 (decide (x1=p2)))
 else (j2 false)))
 (fun j3=>bnd (lfix (Ha s0 p0) (0,0)) fun t1 =>
 j3 t1))
 else (some (.inr (.inl s0)))
noncomputable def Dl (s2:List Int) (p1:Int) (p2:Int):Int→Option (Sum Int (Sum Unit Int)):=fun s0 =>
 if s0 < ((((s2).length:Nat):Int)) then (bnd (idx s2 s0) fun x0 =>
 jn (fun (s1:Bool) =>
 if s1=true then (some (.inr (.inr (x0))))
 else (some (.inl (w64 (s0+1)))))
 (fun j0=>if x0=p1 then (j0 false)
 else (j0 (!(decide (x0=p2))))))
 else (some (.inr (.inl ())))
noncomputable def Ko (p0:List Ae) (p1:Int) (p2:Int) (p3:List Int):Option Int :=
 jn (fun (s2:List Int) =>
 jn (fun (s0:Unit) =>
 some (-1))
 (fun j0=>bnd (lfix (Dl s2 p1 p2) 0) fun t0 =>
 (match t0 with
 | (.inl z0)=>j0 z0
 | (.inr (z0))=>some z0
 )))
 (fun j2=>bnd (lfix (Eh p2 p1 p0) p3) fun t1 =>
 (match t1 with
 | (.inl z1)=>j2 z1
 | (.inr (z1))=>some z1
 ))
noncomputable def Ig (p0:List Ae) (p2:Int) (p3:Int) (p1:List Ab):((List Int) × Int)→Option (Sum ((List Int) × Int) (List Int)):=fun s0 =>
 if s0.2 < ((((p0).length:Nat):Int)) then (jn (fun (s1:List Int) =>
 some (.inl (s1,w64 (s0.2+1))))
 (fun j0=>jn (fun (s2:Bool) =>
 if s2=true then (j0 s0.1)
 else (if ((((s0.1).length:Nat):Int))=0 then (j0 ([s0.2]))
 else (bnd (idx p0 p2) fun x0 =>
 bnd (idx p0 p3) fun x1 =>
 bnd (idx s0.1 0) fun x2 =>
 bnd (idx p0 x2) fun x3 =>
 bnd (idx p0 s0.2) fun x4 =>
 bnd (Be x0) fun r0 =>
 bnd (Be x1) fun r1 =>
 bnd (Be x3) fun r2 =>
 bnd (Be x4) fun r3 =>
 bnd (Jd r0 r1 r2 r3) fun r4 =>
 if r4=1 then (j0 ([s0.2]))
 else (if r4=0 then (gd (((s0.1).length+1)*8≤140737488355328) <|
 j0 (s0.1++[s0.2]))
 else (j0 s0.1)))))
 (fun j1=>bnd (idx p0 p2) fun x5 =>
 bnd (idx p0 p3) fun x6 =>
 bnd (idx p0 s0.2) fun x7 =>
 bnd (Be x5) fun r5 =>
 bnd (Be x6) fun r6 =>
 bnd (Be x7) fun r7 =>
 bnd (Em r5 r6 r7) fun r8 =>
 if r8≤0 then (j1 true)
 else (bnd (Jc p0 p1 p2 s0.2) fun r9 =>
 if r9=true then (bnd (Jc p0 p1 p3 s0.2) fun r10 =>
 j1 (!(r10)))
 else (j1 true)))))
 else (some (.inr s0.1))
noncomputable def Lt (p0:List Ae) (p1:List Ab) (p2:Int) (p3:Int):Option Int :=
 jn (fun (s3:List Int) =>
 if ((((s3).length:Nat):Int))=0 then (some (-1))
 else (bnd (Ls p0 p2 p3 s3) fun r0 =>
 bnd (Ko p0 p2 p3 r0) fun r1 =>
 some r1))
 (fun j3=>bnd (lfix (Ig p0 p2 p3 p1) (([]:List Int),0)) fun t0 =>
 j3 t0)
set_option maxRecDepth 100000 in
theorem Uo (p0:List Ae) (p1:List Ab) {K:List Ent} {A0_0:Option Addr} {c0_0:Nat} {A0_1:Option Addr} {c0_1:Nat} (ha0:Has K A0_0 p0.length c0_0 4 Ak (p0)) (ha1:Has K A0_1 p1.length c0_1 2 Ar (p1)) {r:Int} (hx:Fs p0 p1=some r) (w:World) (hK:∀ e∈K,Ent.ok w e):CtL Tryz.prog 50 [.slice (A0_0) (p0.length) (c0_0),.slice (A0_1) (p1.length) (c0_1)] w fun v Ln=>v = .int .i64 (r)∧Ln=[]∧True:=by
 have ha0':=Has.up0 ha0;have ha1':=Has.up0 ha1;refine CtL.mk 187 Tryz.func50 rfl Tryz.ntmps50 (by kernel_rfl) rfl ?_;show T 187 _ [(0,.slice (A0_0) (p0.length) (c0_0)),(1,.slice (A0_1) (p1.length) (c0_1))] _;unfold Fs at hx;refine Y5 ?_;refine Tj (γ:=Unit) hx (fun s2 y2=>[(0,.slice (A0_0) (p0.length) (c0_0)),(1,.slice (A0_1) (p1.length) (c0_1))]) (fun s2 y2=>[]++[.old w]) (fun s2 y2=>True) (fun s2 y2 hx9 hG0=>?_) (fun j2 hx=>?_)
 ·refine Tj (γ:=Unit) hx9 (fun s8 y8=>[]) (fun s8 y8=>[]++[.old w]) (fun s8 y8=>True) (fun s8 y8 hx0 hG1=>?_) (fun j8 hx9=>?_)
  ·refine Y6 ?_;obtain rfl:=Option.some.inj hx0;exact Av (rs:=[.tmp 4]) Tryz.results50 (.tmp rfl (.nil)) (Ln:=[]) ⟨rfl,rfl,trivial⟩ (Ax) (by exact .refl)
  ·refine Y3 ?_;refine Af (Bf rfl 97 Tryz.underlying23) rfl ?_;refine Y4 ?_;obtain ⟨t0,hl0,ho0⟩:=Ac hx9;refine Lp (σ:=Int) (γ:=Unit) hl0 (fun s0 y0=>[(0,.slice (A0_0) (p0.length) (c0_0)),(1,.slice (A0_1) (p1.length) (c0_1)),(106,.int .i64 (((p1.length:Nat):Int))),(107,.int .i64 (s0))]) (fun s0 y0=>[]++[.old w]) (fun s0 y0=>True) () trivial (by exact .refl) ?_;intro s0 y0 hG2 x0 hx1 ht0;unfold Ir at hx1;refine Y6 ?_;refine Ti hx1 (s:=108) rfl (fun h0 hx2=>?_) (fun h0 hx3=>?_)
   ·exact Rh hx2
   ·refine Y3 ?_;obtain rfl:=Bd ht0 hx3;refine Y2 ?_;exact Mt () () ho0 trivial (by exact .refl)
 ·refine Y3 ?_;refine Af (Bf rfl 97 Tryz.underlying23) rfl ?_;refine Y4 ?_;obtain ⟨t5,hl5,ho5⟩:=Ac hx;refine Lp (σ:=Int) (γ:=Unit) hl5 (fun s5 y5=>[(0,.slice (A0_0) (p0.length) (c0_0)),(1,.slice (A0_1) (p1.length) (c0_1)),(13,.int .i64 (((p1.length:Nat):Int))),(14,.int .i64 (s5))]) (fun s5 y5=>[]++[.old w]) (fun s5 y5=>True) () trivial (by exact .refl) ?_;intro s5 y5 hG5 x5 hx5 ht5;unfold Jv at hx5;refine Y6 ?_;refine Ti hx5 (s:=15) rfl (fun h6 hx7=>?_) (fun h6 hx8=>?_)
  ·exact Rh hx7
  ·refine Y3 ?_;obtain rfl:=Bd ht5 hx8;refine Y2 ?_;exact Mt () () ho5 trivial (by exact .refl)
set_option maxRecDepth 100000 in
theorem Ze (p0:List Ae) (p1:List Ab) {K:List Ent} {A0_0:Option Addr} {c0_0:Nat} {A0_1:Option Addr} {c0_1:Nat} (ha0:Has K A0_0 p0.length c0_0 4 Ak (p0)) (ha1:Has K A0_1 p1.length c0_1 2 Ar (p1)) {r:Int} (hx:Nv p0 p1=some r) (w:World) (hK:∀ e∈K,Ent.ok w e):CtL Tryz.prog 17 [.slice (A0_0) (p0.length) (c0_0),.slice (A0_1) (p1.length) (c0_1)] w fun v Ln=>v = .int .i64 (r)∧Ln=[]∧True:=by
 have ha0':=Has.up0 ha0;have ha1':=Has.up0 ha1;refine CtL.mk 14 Tryz.func17 rfl Tryz.ntmps17 (by kernel_rfl) rfl ?_;show T 14 _ [(0,.slice (A0_0) (p0.length) (c0_0)),(1,.slice (A0_1) (p1.length) (c0_1))] _;unfold Nv at hx;refine Y9 ?_;obtain ⟨r1,h2,hx3⟩:=Ac hx;refine Tc (fun w1 hw1=>Wn p0 (Has.len' ha0') h2 w1 (Dz (K:=K) (K2:=[]) hK (by exact (sb 0)) (by exact (SubE.nil)) hw1)) ?_;refine Y9 ?_;refine Fb (s:=9) rfl (fun h4=>?_) (fun h4=>?_)
 ·have hx5:=Pr h4 hx3;refine Y9 ?_;obtain rfl:=Option.some.inj hx5;exact Av (rs:=[.tmp 4]) Tryz.results17 (.tmp rfl (.nil)) (Ln:=[]) ⟨rfl,rfl,trivial⟩ (Ax) (by exact .refl)
 ·have hx6:=Bx h4 hx3;refine Y7 ?_;obtain ⟨r7,h8,hx9⟩:=Ac hx6;refine Tc (fun w1 hw1=>Uo p0 p1 (Has.len' ha0') (Has.len' ha1') h8 w1 (Dz (K:=K) (K2:=[]) hK (by exact (sb 0)) (by exact (SubE.nil)) hw1)) ?_;refine Y4 ?_;obtain rfl:=Option.some.inj hx9;exact Av (rs:=[.tmp 4]) Tryz.results17 (.tmp rfl (.nil)) (Ln:=[]) ⟨rfl,rfl,trivial⟩ (Ax) (by exact .refl)
set_option maxRecDepth 100000 in
theorem Tk (p0:List Ae) (p1:List Ab) (p2:Int) (p3:Int) {K:List Ent} {A0_0:Option Addr} {c0_0:Nat} {A0_1:Option Addr} {c0_1:Nat} (ha0:Has K A0_0 p0.length c0_0 4 Ak (p0)) (ha1:Has K A0_1 p1.length c0_1 2 Ar (p1)) {r:Bool} (hx:Jc p0 p1 p2 p3=some r) (w:World) (hK:∀ e∈K,Ent.ok w e):CtL Tryz.prog 339 [.slice (A0_0) (p0.length) (c0_0),.slice (A0_1) (p1.length) (c0_1),.int .i64 (p2),.int .i64 (p3)] w fun v Ln=>v = .bool (r)∧Ln=[]∧True:=by
 have ha0':=Has.up0 ha0;have ha1':=Has.up0 ha1;refine CtL.mk 41 Tryz.func339 rfl Tryz.ntmps339 (by kernel_rfl) rfl ?_;show T 41 _ [(0,.slice (A0_0) (p0.length) (c0_0)),(1,.slice (A0_1) (p1.length) (c0_1)),(2,.int .i64 (p2)),(3,.int .i64 (p3))] _;unfold Jc at hx;refine Y5 ?_;refine Tj (γ:=Unit) hx (fun s2 y2=>[]) (fun s2 y2=>[]++[.old w]) (fun s2 y2=>True) (fun s2 y2 hx0 hG0=>?_) (fun j2 hx=>?_)
 ·refine Y6 ?_;obtain rfl:=Option.some.inj hx0;exact Av (rs:=[.tmp 8]) Tryz.results339 (.tmp rfl (.nil)) (Ln:=[]) ⟨rfl,rfl,trivial⟩ (Ax) (by exact .refl)
 ·refine Y3 ?_;refine Af (Bf rfl 97 Tryz.underlying23) rfl ?_;refine Y4 ?_;obtain ⟨t0,hl0,ho0⟩:=Ac hx;refine Lp (σ:=Unit) (γ:=Unit) hl0 (fun s0 y0=>[(0,.slice (A0_0) (p0.length) (c0_0)),(2,.int .i64 (p2)),(3,.int .i64 (p3)),(11,.slice (A0_1) (p1.length) (c0_1)),(12,.int .i64 (((p1.length:Nat):Int))),(13,.int .i64 (0))]) (fun s0 y0=>[]++[.old w]) (fun s0 y0=>True) () trivial (by exact .refl) ?_;intro s0 y0 hG1 x0 hx1 ht0;unfold Pd at hx1;refine Y6 ?_;refine Ti hx1 (s:=14) rfl (fun h0 hx2=>?_) (fun h0 hx3=>?_)
  ·refine Y7 ?_;obtain ⟨x1,h1,hx4⟩:=Ac hx2;have hw0:=Has.low (E:=[]) ha1' hK;obtain ⟨b0,o0,j0,hA0,hj0,hl1,hp0⟩:=Has.at_idx hw0 h1;refine Af (Az rfl rfl hA0 (j:=j0) hj0 hl1 Ad0) rfl ?_;refine Af (Cg rfl hp0 (sb 0) rfl Pm) rfl ?_;refine T_x (Bp Abe rfl (fun g0=>?_));refine T_h (Bc rfl rfl rfl (.here) (.put (.put (.done))) rfl (List.cons_ne_nil _ _) Pm.2 ?_);refine Y3 ?_;refine T_dr [0,0,0,1,2,0,0,0,1,2,0,0,1,0,1,2,0,0,1,0,1,2,2] (.q 0 (.q 1 (.q 2 (.q 3 (.q 5 (.q 6 (.q 7 (.q 8 (.q 10 (.q 11 (.q 12 (.q 13 (.q 14 (.q 16 (.q 17 (.q 18 (.q 19 (.q 20 (.e 4 (.e 9 (.e 15 (.e 21 (.e 22 (.done) (.stop)) (.stop)) (.stop)) (.stop)) (.stop)))))))))))))))))))) mixed (by kernel_rfl) (by kernel_rfl) ?_;refine Y2 ?_;obtain ⟨x2,h2,hx5⟩:=Ac hx4;refine P_il (Has.low (E:=[]) ha0' hK) h2 Ey Ej (sb 1) (fun b1 o1=>?_);refine Y2 ?_;obtain ⟨x3,h3,hx6⟩:=Ac hx5;refine P_il (Has.low (E:=[]) ha0' hK) h3 Ey Ej (sb 1) (fun b2 o2=>?_);refine Y ?_;refine P_p rfl rfl (Bm rfl rfl Et (by decide) (by decide) rfl) rfl ?_;refine P_q rfl rfl (Ag rfl (i:=0) rfl rfl one3) rfl ?_;obtain ⟨x4,h4,hx7⟩:=Ac hx6;refine P_il (Has.low (E:=[]) ha0' hK) h4 Ey Ej (sb 1) (fun b3 o3=>?_);refine Y ?_;refine P_p rfl rfl (Bm rfl rfl Et (by decide) (by decide) rfl) rfl ?_;refine P_q rfl rfl (Ag rfl (i:=0) rfl rfl one3) rfl ?_
   obtain ⟨x5,h5,hx8⟩:=Ac hx7;refine P_il (Has.low (E:=[]) ha0' hK) h5 Ey Ej (sb 1) (fun b4 o4=>?_);obtain ⟨r0,h6,hx9⟩:=Ac hx8;refine Pc (fun w1 hw1=>Bh x2  h6 w1) ?_;obtain ⟨r1,h7,hx10⟩:=Ac hx9;refine Pc (fun w1 hw1=>Bh x3  h7 w1) ?_;obtain ⟨r2,h8,hx11⟩:=Ac hx10;refine Pc (fun w1 hw1=>Bh x4  h8 w1) ?_;obtain ⟨r3,h9,hx12⟩:=Ac hx11;refine Pc (fun w1 hw1=>Bh x5  h9 w1) ?_;exact Rh hx12
  ·refine Y3 ?_;obtain rfl:=Bd ht0 hx3;refine Y2 ?_;exact Mt () () ho0 trivial (by exact .refl)
set_option maxRecDepth 100000 in
theorem Aaf (p0:List Ae) (p1:Int) (p2:Int) (p3:List Int) {K:List Ent} {A0_0:Option Addr} {c0_0:Nat} {A0_1:Option Addr} {c0_1:Nat} (ha0:Has K A0_0 p0.length c0_0 4 Ak (p0)) (ha1:Has K A0_1 p3.length c0_1 1 Bs (p3)) {r:List Int} (hx:Ls p0 p1 p2 p3=some r) (w:World) (hK:∀ e∈K,Ent.ok w e):CtL Tryz.prog 342 [.slice (A0_0) (p0.length) (c0_0),.int .i64 (p1),.int .i64 (p2),.slice (A0_1) (p3.length) (c0_1)] w fun v Ln=>∃ (A0:Option Addr) (c0:Nat),v = .slice (A0) (r.length) (c0)∧Ln=[.r A0 r.length c0 3 1 (r.flatMap Bs)]∧True:=by
 have ha0':=Has.up0 ha0;have ha1':=Has.up0 ha1;refine CtL.mk 76 Tryz.func342 rfl Tryz.ntmps342 (by kernel_rfl) rfl ?_;show T 76 _ [(0,.slice (A0_0) (p0.length) (c0_0)),(1,.int .i64 (p1)),(2,.int .i64 (p2)),(3,.slice (A0_1) (p3.length) (c0_1))] _;unfold Ls at hx;refine Y9 ?_;refine T_x (Bk rfl (Acm _ _) rfl (fun g1=>?_));refine Y3 ?_;refine Tj (γ:=(Option Addr) × Nat) hx (fun s3 y3=>[(9,.slice (y3.1) (s3.length) (y3.2))]) (fun s3 y3=>[.r (y3.1) (s3.length) (y3.2) 3 1 (s3.flatMap Bs)]++[.old w]) (fun s3 y3=>True) (fun s3 y3 hx0 hG0=>?_) (fun j3 hx=>?_)
 ·refine Y7 ?_;obtain rfl:=Option.some.inj hx0;exact Av (rs:=[.tmp 8]) Tryz.results342 (.tmp rfl (.nil)) (Ln:=[.r (y3.1) (s3.length) (y3.2) 3 1 (s3.flatMap Bs)]) ⟨y3.1,y3.2,rfl,rfl,trivial⟩ (Ay rfl (Ax)) (by exact .pick 0 rfl (.refl))
 ·refine Y ?_;refine T_mr (enc:=Bs) (sz:=1) ([p1,p2]) (.here) rfl rfl (fun _=>rfl) (by show 2≤maxLen;decide) ?_;obtain ⟨t0,hl0,ho0⟩:=Ac hx
  have hn0:2=([p1,p2]).length:=by simp [Bq,Ca,List.length_append] <;> omega
  refine Ds (.here) (e':=.r (some ⟨g1,0,none⟩) (([p1,p2]).length) (2) 3 1 (([p1,p2]).flatMap Bs)) (by first | (rw [← hn0];done) | rfl) ?_;refine Eo (s:=9) (v':=.slice (some ⟨g1,0,none⟩) (([p1,p2]).length) (2)) rfl (by have hn1:(2)=([p1,p2]).length:=(by simp [Bq,Ca,List.length_append] <;> omega);first | (rw [← hn1];done) | rfl) ?_;refine Lp (σ:=List Int) (γ:=(Option Addr) × Nat) hl0 (fun s0 y0=>[(0,.slice (A0_0) (p0.length) (c0_0)),(1,.int .i64 (p1)),(3,.slice (A0_1) (p3.length) (c0_1)),(9,.slice (y0.1) (s0.length) (y0.2))]) (fun s0 y0=>[.r (y0.1) (s0.length) (y0.2) 3 1 (s0.flatMap Bs)]++[.old w]) (fun s0 y0=>True) (some ⟨g1,0,none⟩,2) trivial (by exact .pick 0 rfl (.refl)) ?_;intro s0 y0 hG1 x0 hx1 ht0;unfold Ld at hx1;refine Y4 ?_;refine Af (Bf rfl 3 Tryz.underlying48) rfl ?_;refine Y ?_;refine Af (Bf rfl 3 Tryz.underlying48) rfl ?_;refine Y4 ?_;refine Ti hx1 (s:=24) rfl (fun h0 hx2=>?_) (fun h0 hx3=>?_)
  ·refine Y9 ?_;refine Tj (γ:=Unit) hx2 (fun s1 y1=>[(0,.slice (A0_0) (p0.length) (c0_0)),(1,.int .i64 (p1)),(3,.slice (A0_1) (p3.length) (c0_1)),(9,.slice (y0.1) (s0.length) (y0.2)),(10,.int .i64 (s1))]) (fun s1 y1=>[.r (y0.1) (s0.length) (y0.2) 3 1 (s0.flatMap Bs)]++[.old w]) (fun s1 y1=>True) (fun s1 y1 hx4 hG2=>?_) (fun j0 hx2=>?_)
   ·refine Y3 ?_;refine T_x (Bk rfl (Jj _) rfl (fun g0=>?_));obtain ⟨h1,hx5⟩:=Bj hx4;refine T_h (Dd Bs (s0) [s1] rfl rfl rfl Aek (fun _=>rfl) (i':=0) rfl rfl rfl rfl h1 rfl (fun _ _=>.there (.here)) (fun _ _=>.drop .refl) (by decide) (fun A1 c1=>?_));refine Y3 ?_;exact Rp (s0++[s1]) (A1,c1) hx5 trivial (by exact .pick 0 rfl (.refl))
   ·refine Y3 ?_;refine Af (Bf rfl 3 Tryz.underlying48) rfl ?_;refine Y4 ?_;obtain ⟨t1,hl1,ho1⟩:=Ac hx2;refine Lp (σ:=Int × Int) (γ:=Unit) hl1 (fun s2 y2=>[(0,.slice (A0_0) (p0.length) (c0_0)),(1,.int .i64 (p1)),(3,.slice (A0_1) (p3.length) (c0_1)),(9,.slice (y0.1) (s0.length) (y0.2)),(10,.int .i64 (s2.1)),(25,.slice (A0_1) (p3.length) (c0_1)),(26,.int .i64 (((p3.length:Nat):Int))),(27,.int .i64 (s2.2))]) (fun s2 y2=>[.r (y0.1) (s0.length) (y0.2) 3 1 (s0.flatMap Bs)]++[.old w]) (fun s2 y2=>True) () trivial (by exact .pick 0 rfl (.refl)) ?_;intro s2 y2 hG3 x1 hx6 ht1;unfold If at hx6;refine Y6 ?_;refine Ti hx6 (s:=28) rfl (fun h2 hx7=>?_) (fun h2 hx8=>?_)
    ·refine Y3 ?_;refine Tj (γ:=Unit) hx7 (fun s4 y4=>[(0,.slice (A0_0) (p0.length) (c0_0)),(1,.int .i64 (p1)),(3,.slice (A0_1) (p3.length) (c0_1)),(9,.slice (y0.1) (s0.length) (y0.2)),(10,.int .i64 (s4)),(25,.slice (A0_1) (p3.length) (c0_1)),(26,.int .i64 (((p3.length:Nat):Int))),(27,.int .i64 (s2.2))]) (fun s4 y4=>[.r (y0.1) (s0.length) (y0.2) 3 1 (s0.flatMap Bs)]++[.old w]) (fun s4 y4=>True) (fun s4 y4 hx9 hG4=>?_) (fun j1 hx7=>?_)
     ·refine Y4 ?_;exact Rp (s4,w64 (s2.2+1)) () hx9 trivial (by exact .pick 0 rfl (.refl))
     ·refine Y3 ?_;obtain ⟨x2,h3,hx10⟩:=Ac hx7;have hw0:=Has.low (E:=[]) ha1' hK;obtain ⟨b0,o0,j2,hA0,hj0,hl2,hp0⟩:=Has.at_idx hw0 h3;refine Af (Az rfl rfl hA0 (j:=j2) hj0 hl2 Fn) rfl ?_;refine Af (Bu rfl hp0 (sb 1) rfl one3) rfl ?_;refine Y8 ?_;refine Tj (γ:=Unit) hx10 (fun s5 y5=>[(0,.slice (A0_0) (p0.length) (c0_0)),(1,.int .i64 (p1)),(3,.slice (A0_1) (p3.length) (c0_1)),(9,.slice (y0.1) (s0.length) (y0.2)),(10,.int .i64 (s2.1)),(12,.int .i64 (x2)),(13,.bool (s5)),(25,.slice (A0_1) (p3.length) (c0_1)),(26,.int .i64 (((p3.length:Nat):Int))),(27,.int .i64 (s2.2))]) (fun s5 y5=>[.r (y0.1) (s0.length) (y0.2) 3 1 (s0.flatMap Bs)]++[.old w]) (fun s5 y5=>True) (fun s5 y5 hx11 hG5=>?_) (fun j4 hx10=>?_)
      ·refine Tj (γ:=Unit) hx11 (fun s6 y6=>[(0,.slice (A0_0) (p0.length) (c0_0)),(1,.int .i64 (p1)),(3,.slice (A0_1) (p3.length) (c0_1)),(9,.slice (y0.1) (s0.length) (y0.2)),(10,.int .i64 (s2.1)),(12,.int .i64 (x2)),(25,.slice (A0_1) (p3.length) (c0_1)),(26,.int .i64 (((p3.length:Nat):Int))),(27,.int .i64 (s2.2)),(68,.bool (s6))]) (fun s6 y6=>[.r (y0.1) (s0.length) (y0.2) 3 1 (s0.flatMap Bs)]++[.old w]) (fun s6 y6=>True) (fun s6 y6 hx12 hG6=>?_) (fun j5 hx11=>?_)
       ·refine By (s:=68) rfl (fun h4=>?_) (fun h4=>?_)
        ·have hx13:=Bx h4 hx12;refine Y6 ?_;exact Mt x2 () hx13 trivial (by exact .pick 0 rfl (.refl))
        ·have hx14:=Bn h4 hx12;refine Y3 ?_;exact Mt s2.1 () hx14 trivial (by exact .pick 0 rfl (.refl))
       ·refine T_dr [0,0,0,0,0,0,0,0,0,1,2,0,0,0,1,2,0,0,0,1,2,2,0,0,0] (.q 0 (.q 1 (.q 2 (.q 3 (.q 4 (.q 5 (.q 6 (.q 7 (.q 8 (.q 9 (.q 11 (.q 12 (.q 13 (.q 14 (.q 16 (.q 17 (.q 18 (.q 19 (.e 10 (.e 15 (.e 20 (.e 21 (.q 22 (.q 23 (.q 24 (.done)))) (.stop)) (.stop)) (.stop)) (.stop)))))))))))))))))))) mixed (by kernel_rfl) (by kernel_rfl) ?_;refine Y3 ?_;refine Cz (s:=46) rfl (fun h5=>?_) (fun h5=>?_)
        ·have hx15:=Bn h5 hx11;refine Y3 ?_;refine Ti hx15 (s:=49) rfl (fun h6 hx16=>?_) (fun h6 hx17=>?_)
         ·refine Y12 ?_;refine Dw rfl rfl rfl rfl rfl rfl ?_ ?_;rotate_left;exact Bb;refine Dw rfl rfl rfl rfl rfl rfl ?_ ?_;rotate_left;exact Bb;refine Dw rfl rfl rfl rfl rfl rfl ?_ ?_;rotate_left;exact Bb;refine Dw rfl rfl rfl rfl rfl rfl ?_ ?_;rotate_left;exact Bb;refine Y4 ?_;exact Mt true () hx16 trivial (by exact .pick 0 rfl (.refl))
         ·refine Y2 ?_;obtain ⟨x3,h7,hx18⟩:=Ac hx17;have hw2:=Has.low (E:=[]) ha0' hK;obtain ⟨b1,o1,j6,hA1,hj1,hl3,hp1⟩:=Has.at_idx hw2 h7;refine P_pG rfl rfl rfl rfl rfl (Az rfl rfl hA1 (j:=j6) hj1 hl3 Ey) rfl ?_;refine P_qG rfl rfl rfl rfl rfl (Cg rfl hp1 (sb 1) rfl Ej) rfl ?_;refine Y2 ?_;obtain ⟨x4,h8,hx19⟩:=Ac hx18;have hw3:=Has.low (E:=[]) ha0' hK;obtain ⟨b2,o2,j7,hA2,hj2,hl4,hp2⟩:=Has.at_idx hw3 h8;refine P_pG rfl rfl rfl rfl rfl (Az rfl rfl hA2 (j:=j7) hj2 hl4 Ey) rfl ?_;refine P_qG rfl rfl rfl rfl rfl (Cg rfl hp2 (sb 1) rfl Ej) rfl ?_;refine Y2 ?_;obtain ⟨x5,h9,hx20⟩:=Ac hx19;have hw4:=Has.low (E:=[]) ha0' hK;obtain ⟨b3,o3,j8,hA3,hj3,hl5,hp3⟩:=Has.at_idx hw4 h9;refine P_pG rfl rfl rfl rfl rfl (Az rfl rfl hA3 (j:=j8) hj3 hl5 Ey) rfl ?_;refine P_qG rfl rfl rfl rfl rfl (Cg rfl hp3 (sb 1) rfl Ej) rfl ?_;obtain ⟨r0,h10,hx21⟩:=Ac hx20;refine P_xG rfl rfl rfl rfl (Aw rfl (fun w1 hw1=>Bh x3  h10 w1) rfl ?_) ?_;rotate_left;exact Bb;rintro _ _ hlo ⟨rfl,rfl,-⟩;refine Cs ?_;obtain ⟨r1,h11,hx22⟩:=Ac hx21;refine P_xG rfl rfl rfl rfl (Aw rfl (fun w1 hw1=>Bh x4  h11 w1) rfl ?_) ?_;rotate_left;exact Bb;rintro _ _ hlo ⟨rfl,rfl,-⟩
          refine Cs ?_;obtain ⟨r2,h12,hx23⟩:=Ac hx22;refine P_xG rfl rfl rfl rfl (Aw rfl (fun w1 hw1=>Bh x5  h12 w1) rfl ?_) ?_;rotate_left;exact Bb;rintro _ _ hlo ⟨rfl,rfl,-⟩;refine Cs ?_;obtain ⟨r3,h13,hx24⟩:=Ac hx23;refine P_xG rfl rfl rfl rfl (Aw rfl (fun w1 hw1=>Hw r0 r1 r2  h13 w1) rfl ?_) ?_;rotate_left;exact Bb;rintro _ _ hlo ⟨rfl,rfl,-⟩;refine Cs ?_;refine Y4 ?_;exact Mt (decide (0 < r3)) () hx24 trivial (by exact .pick 0 rfl (.refl))
        ·have hx25:=Bx h5 hx11;(iterate 15 refine Y ?_);refine Ab1 rfl rfl rfl rfl rfl ?_ ?_;rotate_left;exact Bb;refine Ab1 rfl rfl rfl rfl rfl ?_ ?_;rotate_left;exact Bb;refine Ab1 rfl rfl rfl rfl rfl ?_ ?_;rotate_left;exact Bb;refine Ab1 rfl rfl rfl rfl rfl ?_ ?_;rotate_left;exact Bb;refine Y4 ?_;exact Mt false () hx25 trivial (by exact .pick 0 rfl (.refl))
      ·refine Y3 ?_;refine Af (Bf rfl 3 Tryz.underlying48) rfl ?_;refine Y4 ?_;obtain ⟨t2,hl6,ho2⟩:=Ac hx10;refine Lp (σ:=Bool × Int) (γ:=Unit) hl6 (fun s7 y7=>[(0,.slice (A0_0) (p0.length) (c0_0)),(1,.int .i64 (p1)),(3,.slice (A0_1) (p3.length) (c0_1)),(9,.slice (y0.1) (s0.length) (y0.2)),(10,.int .i64 (s2.1)),(12,.int .i64 (x2)),(13,.bool (s7.1)),(25,.slice (A0_1) (p3.length) (c0_1)),(26,.int .i64 (((p3.length:Nat):Int))),(27,.int .i64 (s2.2)),(31,.slice (y0.1) (s0.length) (y0.2)),(32,.int .i64 (((s0.length:Nat):Int))),(33,.int .i64 (s7.2))]) (fun s7 y7=>[.r (y0.1) (s0.length) (y0.2) 3 1 (s0.flatMap Bs)]++[.old w]) (fun s7 y7=>True) () trivial (by exact .pick 0 rfl (.refl)) ?_;intro s7 y7 hG7 x6 hx26 ht2;unfold Ie at hx26;refine Y6 ?_;refine Ti hx26 (s:=34) rfl (fun h14 hx27=>?_) (fun h14 hx28=>?_)
       ·refine Y3 ?_;refine Tj (γ:=Unit) hx27 (fun s8 y8=>[(0,.slice (A0_0) (p0.length) (c0_0)),(1,.int .i64 (p1)),(3,.slice (A0_1) (p3.length) (c0_1)),(9,.slice (y0.1) (s0.length) (y0.2)),(10,.int .i64 (s2.1)),(12,.int .i64 (x2)),(13,.bool (s8)),(25,.slice (A0_1) (p3.length) (c0_1)),(26,.int .i64 (((p3.length:Nat):Int))),(27,.int .i64 (s2.2)),(31,.slice (y0.1) (s0.length) (y0.2)),(32,.int .i64 (((s0.length:Nat):Int))),(33,.int .i64 (s7.2))]) (fun s8 y8=>[.r (y0.1) (s0.length) (y0.2) 3 1 (s0.flatMap Bs)]++[.old w]) (fun s8 y8=>True) (fun s8 y8 hx29 hG8=>?_) (fun j9 hx27=>?_)
        ·refine Y4 ?_;exact Rp (s8,w64 (s7.2+1)) () hx29 trivial (by exact .pick 0 rfl (.refl))
        ·refine Y3 ?_;obtain ⟨x7,h15,hx30⟩:=Ac hx27;refine Ii (k:=0) rfl (by decide) (fun _=>rfl) h15 (fun b4 j10 hA4 hj4 hl7 hm0 hp4=>?_);refine Af (Az rfl rfl hA4 (j:=j10) hj4 hl7 Fn) rfl ?_;refine Af (Bu rfl hp4 (sb 0) rfl one3) rfl ?_;refine Y6 ?_;refine By (s:=38) rfl (fun h16=>?_) (fun h16=>?_)
         ·have hx31:=Bx h16 hx30;refine Y7 ?_;exact Mt true () hx31 trivial (by exact .pick 0 rfl (.refl))
         ·have hx32:=Bn h16 hx30;refine Y7 ?_;exact Mt (decide (x7=x2)) () hx32 trivial (by exact .pick 0 rfl (.refl))
       ·refine Y3 ?_;obtain rfl:=Bd ht2 hx28;refine Y2 ?_;exact Mt s7.1 () ho2 trivial (by exact .pick 0 rfl (.refl))
    ·refine Y3 ?_;obtain rfl:=Bd ht1 hx8;refine Y2 ?_;exact Mt s2.1 () ho1 trivial (by exact .pick 0 rfl (.refl))
  ·refine Y3 ?_;obtain rfl:=Bd ht0 hx3;refine Y2 ?_;exact Mt s0 (y0.1,y0.2) ho0 trivial (by exact .pick 0 rfl (.refl))
set_option maxRecDepth 100000 in
theorem Zf (p0:List Ae) (p1:Int) (p2:Int) (p3:List Int) {K:List Ent} {A0_0:Option Addr} {c0_0:Nat} {A0_1:Option Addr} {c0_1:Nat} (ha0:Has K A0_0 p0.length c0_0 4 Ak (p0)) (ha1:Has K A0_1 p3.length c0_1 1 Bs (p3)) {r:Int} (hx:Ko p0 p1 p2 p3=some r) (w:World) (hK:∀ e∈K,Ent.ok w e):CtL Tryz.prog 341 [.slice (A0_0) (p0.length) (c0_0),.int .i64 (p1),.int .i64 (p2),.slice (A0_1) (p3.length) (c0_1)] w fun v Ln=>v = .int .i64 (r)∧Ln=[]∧True:=by
 have ha0':=Has.up0 ha0;have ha1':=Has.up0 ha1;refine CtL.mk 120 Tryz.func341 rfl Tryz.ntmps341 (by kernel_rfl) rfl ?_;show T 120 _ [(0,.slice (A0_0) (p0.length) (c0_0)),(1,.int .i64 (p1)),(2,.int .i64 (p2)),(3,.slice (A0_1) (p3.length) (c0_1))] _;unfold Ko at hx;refine Y5 ?_;obtain ⟨j2,hj2,hx⟩:=Sr hx;refine Up (τ:=List Int) (γ:=(Option Addr) × Nat × Ent) (J:=j2) (out:=r) (fun s2 y2=>[(1,.int .i64 (p1)),(2,.int .i64 (p2)),(3,.slice (y2.1) (s2.length) (y2.2.1))]) (fun s2 y2=>[y2.2.2]++[.old w]) (fun s2 y2=>y2.2.2.low=0∧Has (K++[y2.2.2]) (y2.1) (s2.length) (y2.2.1) 1 Bs (s2)∧True) ?_ ?_
 ·intro s2 y2 hx0 hG0;obtain ⟨lo755,hs0,-⟩:=hG0;subst hj2;refine Tj (γ:=Unit) hx0 (fun s0 y0=>[]) (fun s0 y0=>[]++[.old w]) (fun s0 y0=>True) (fun s0 y0 hx1 hG1=>?_) (fun j0 hx0=>?_)
  ·refine Y6 ?_;obtain rfl:=Option.some.inj hx1;exact Av (rs:=[.tmp 8]) Tryz.results341 (.tmp rfl (.nil)) (Ln:=[]) ⟨rfl,rfl,trivial⟩ (Ax) (by exact .refl)
  ·refine Y3 ?_;refine Af (Bf rfl 3 Tryz.underlying48) rfl ?_;refine Y4 ?_;obtain ⟨t0,hl0,ho0⟩:=Ac hx0;refine Lp (σ:=Int) (γ:=Unit) hl0 (fun s1 y1=>[(1,.int .i64 (p1)),(2,.int .i64 (p2)),(104,.slice (y2.1) (s2.length) (y2.2.1)),(105,.int .i64 (((s2.length:Nat):Int))),(106,.int .i64 (s1))]) (fun s1 y1=>[y2.2.2]++[.old w]) (fun s1 y1=>True) () trivial (by exact .pick 0 rfl (.refl)) ?_;intro s1 y1 hG2 x0 hx2 ht0;unfold Dl at hx2;refine Y6 ?_;refine Ti hx2 (s:=107) rfl (fun h0 hx3=>?_) (fun h0 hx4=>?_)
   ·refine Y7 ?_;obtain ⟨x1,h1,hx5⟩:=Ac hx3;have hw0:=Has.low (E:=[y2.2.2]) hs0 hK;obtain ⟨b0,o0,j1,hA0,hj0,hl1,hp0⟩:=Has.at_idx hw0 h1;refine Af (Az rfl rfl hA0 (j:=j1) hj0 hl1 Fn) rfl ?_;refine Af (Bu rfl hp0 (SubE.cons2 (i:=1) rfl (sb 0)) rfl one3) rfl ?_;refine Y3 ?_;refine Tj (γ:=Unit) hx5 (fun s3 y3=>[(1,.int .i64 (p1)),(2,.int .i64 (p2)),(16,.int .i64 (x1)),(104,.slice (y2.1) (s2.length) (y2.2.1)),(105,.int .i64 (((s2.length:Nat):Int))),(106,.int .i64 (s1)),(117,.bool (s3))]) (fun s3 y3=>[y2.2.2]++[.old w]) (fun s3 y3=>True) (fun s3 y3 hx6 hG3=>?_) (fun j3 hx5=>?_)
    ·refine By (s:=117) rfl (fun h2=>?_) (fun h2=>?_)
     ·have hx7:=Bx h2 hx6;refine Y10 ?_;obtain rfl:=Bd ht0 hx7;refine Y3 ?_;obtain rfl:=Option.some.inj ho0;exact Av (rs:=[.tmp 8]) Tryz.results341 (.tmp rfl (.nil)) (Ln:=[]) ⟨rfl,rfl,trivial⟩ (Ax) (by exact .drop 0 rfl (.refl))
     ·have hx8:=Bn h2 hx6;refine Y8 ?_;exact Rp (w64 (s1+1)) () hx8 trivial (by exact .pick 0 rfl (.refl))
    ·refine Y5 ?_;refine Fb (s:=113) rfl (fun h3=>?_) (fun h3=>?_)
     ·have hx9:=Pr h3 hx5;refine Y5 ?_;exact Mt (!(decide (x1=p2))) () hx9 trivial (by exact .pick 0 rfl (.refl))
     ·have hx10:=Bx h3 hx5;refine Y5 ?_;exact Mt false () hx10 trivial (by exact .pick 0 rfl (.refl))
   ·refine Y3 ?_;obtain rfl:=Bd ht0 hx4;refine Y2 ?_;exact Mt () () ho0 trivial (by exact .drop 0 rfl (.refl))
 ·skip;refine Y ?_;obtain ⟨t1,hl2,ho1⟩:=Ac hx;refine Cr 0 1 ?_;refine Lp (σ:=List Int) (γ:=(Option Addr) × Nat × Ent) hl2 (fun s4 y4=>[(0,.slice (A0_0) (p0.length) (c0_0)),(1,.int .i64 (p1)),(2,.int .i64 (p2)),(3,.slice (y4.1) (s4.length) (y4.2.1))]) (fun s4 y4=>[y4.2.2]++[.old w]) (fun s4 y4=>y4.2.2.low=0∧Has (K++[y4.2.2]) (y4.1) (s4.length) (y4.2.1) 1 Bs (s4)∧True) (A0_1,c0_1,.r none 0 0 0 1 []) ((by exact ⟨rfl,Has.len' ((Has.up (L:=(K++[.r none 0 0 0 1 []])) ha1' (SubE.app2 SubE.nil))),trivial⟩)) (by exact .pick 0 rfl (.refl)) ?_;intro s4 y4 hG4 x2 hx11 ht1;unfold Eh at hx11;obtain ⟨lo502,hs1,-⟩:=hG4;refine Y4 ?_;refine Af (Bf rfl 3 Tryz.underlying48) rfl ?_;refine Y3 ?_;refine Ti hx11 (s:=19) rfl (fun h4 hx12=>?_) (fun h4 hx13=>?_)
  ·refine Y9 ?_;refine Tj (γ:=Unit) hx12 (fun s5 y5=>[(0,.slice (A0_0) (p0.length) (c0_0)),(1,.int .i64 (p1)),(2,.int .i64 (p2)),(3,.slice (y4.1) (s4.length) (y4.2.1)),(9,.int .i64 (s5))]) (fun s5 y5=>[y4.2.2]++[.old w]) (fun s5 y5=>True) (fun s5 y5 hx14 hG5=>?_) (fun j4 hx12=>?_)
   ·refine Y ?_;refine T_dr [0,0,0,0,0,0,0,0,0,0,1,0,0,0,0,0,0,0,1,2,2] (.q 0 (.q 1 (.q 2 (.q 3 (.q 4 (.q 5 (.q 6 (.q 7 (.q 8 (.q 9 (.q 10 (.q 11 (.q 12 (.q 13 (.q 14 (.q 15 (.q 16 (.q 17 (.q 18 (.e 19 (.e 20 (.done) (.stop)) (.stop))))))))))))))))))))) mixed (by kernel_rfl) (by kernel_rfl) ?_;refine Y3 ?_;refine P_p rfl rfl (Bf rfl 3 Tryz.underlying48) rfl ?_;refine Y3 ?_;refine P_p rfl rfl (Bf rfl 3 Tryz.underlying48) rfl ?_;obtain ⟨h5,hx15⟩:=Bj hx14;refine P_p rfl rfl (Ahm rfl rfl h5) rfl ?_;obtain ⟨x3,h6,hx16⟩:=Ac hx15;have hw2:=Has.low (E:=[y4.2.2]) hs1 hK;obtain ⟨b1,o1,j5,hA1,hj1,hl3,hp1⟩:=Has.at_idx hw2 h6;refine P_p rfl rfl (Az rfl rfl hA1 (j:=j5) hj1 hl3 Fn) rfl ?_;refine P_q rfl rfl (Bu rfl hp1 (SubE.cons2 (i:=1) rfl (sb 0)) rfl one3) rfl ?_;refine Y4 ?_;refine P_p rfl rfl (Bf rfl 3 Tryz.underlying48) rfl ?_;obtain ⟨h7,hx17⟩:=Bj hx16;refine P_p rfl rfl (Ahm rfl rfl h7) rfl ?_;obtain ⟨x4,h8,hx18⟩:=Ac hx17;have hw3:=Has.low (E:=[y4.2.2]) hs1 hK;obtain ⟨b2,o2,j6,hA2,hj3,hl4,hp2⟩:=Has.at_idx hw3 h8;refine P_p rfl rfl (Az rfl rfl hA2 (j:=j6) hj3 hl4 Fn) rfl ?_;refine P_q rfl rfl (Bu rfl hp2 (SubE.cons2 (i:=1) rfl (sb 0)) rfl one3) rfl ?_;refine P_x rfl (Ec (Ce rfl) rfl ?_) ?_;rotate_left;exact Bb;refine P_x rfl (Ec (Ce rfl) rfl ?_) ?_
    rotate_left;exact Bb;refine Y3 ?_;refine Tj (γ:=Unit) hx18 (fun s6 y6=>[(0,.slice (A0_0) (p0.length) (c0_0)),(1,.int .i64 (p1)),(2,.int .i64 (p2)),(3,.slice (y4.1) (s4.length) (y4.2.1)),(9,.int .i64 (s5)),(11,.int .i64 (x3)),(12,.int .i64 (x4)),(73,.bool (s6))]) (fun s6 y6=>[y4.2.2]++[.old w]) (fun s6 y6=>True) (fun s6 y6 hx19 hG6=>?_) (fun j7 hx18=>?_)
    ·refine By (s:=73) rfl (fun h9=>?_) (fun h9=>?_)
     ·have hx20:=Bx h9 hx19;refine Y10 ?_;obtain rfl:=Bd ht1 hx20;refine Y3 ?_;obtain rfl:=Option.some.inj ho1;exact Av (rs:=[.tmp 8]) Tryz.results341 (.tmp rfl (.nil)) (Ln:=[]) ⟨rfl,rfl,trivial⟩ (Ax) (by exact .drop 0 rfl (.refl))
     ·have hx21:=Bn h9 hx19;refine Y4 ?_;refine Tj (γ:=Unit) hx21 (fun s7 y7=>[(0,.slice (A0_0) (p0.length) (c0_0)),(1,.int .i64 (p1)),(2,.int .i64 (p2)),(3,.slice (y4.1) (s4.length) (y4.2.1)),(9,.int .i64 (s5)),(12,.int .i64 (x4)),(85,.bool (s7))]) (fun s7 y7=>[y4.2.2]++[.old w]) (fun s7 y7=>True) (fun s7 y7 hx22 hG7=>?_) (fun j8 hx21=>?_)
      ·refine By (s:=85) rfl (fun h10=>?_) (fun h10=>?_)
       ·have hx23:=Bx h10 hx22;refine Y10 ?_;obtain rfl:=Bd ht1 hx23;refine Y3 ?_;obtain rfl:=Option.some.inj ho1;exact Av (rs:=[.tmp 8]) Tryz.results341 (.tmp rfl (.nil)) (Ln:=[]) ⟨rfl,rfl,trivial⟩ (Ax) (by exact .drop 0 rfl (.refl))
       ·have hx24:=Bn h10 hx22;refine Y8 ?_;refine Tj (γ:=(Option Addr) × Nat) hx24 (fun s8 y8=>[(0,.slice (A0_0) (p0.length) (c0_0)),(1,.int .i64 (p1)),(2,.int .i64 (p2)),(13,.slice (y8.1) (s8.length) (y8.2))]) (fun s8 y8=>[.r (y8.1) (s8.length) (y8.2) 3 1 (s8.flatMap Bs)]++[.old w]) (fun s8 y8=>True) (fun s8 y8 hx25 hG8=>?_) (fun j9 hx24=>?_)
        ·refine Y5 ?_;refine Dh (k:=0) rfl (by decide) (fun _=>rfl) (fun hn0 hs2=>?_);exact Rp s8 (y8.1,y8.2,.r (y8.1) (s8.length) (y8.2) 3 1 (s8.flatMap Bs)) hx25 ((by exact ⟨rfl,Has.len' ((Has.up (L:=(K++[.r (y8.1) (s8.length) (y8.2) 3 1 (s8.flatMap Bs)])) hs2 (SubE.appR2 (sb 0)))),trivial⟩)) (by exact .pick 0 rfl (.refl))
        ·refine Y3 ?_;refine Af (Bf rfl 3 Tryz.underlying48) rfl ?_;refine Y4 ?_;obtain ⟨t2,hl5,ho2⟩:=Ac hx24;refine Cr 3 1 ?_
         have hn1:0=(([]:List Int)).length:=by simp [Bq,Ca,List.length_append] <;> omega
         refine Ds (.here) (e':=.r (none) ((([]:List Int)).length) (0) 3 1 ((([]:List Int)).flatMap Bs)) (by first | (rw [← hn1];done) | rfl) ?_;refine Lp (σ:=(List Int) × Int) (γ:=(Option Addr) × Nat) hl5 (fun s9 y9=>[(0,.slice (A0_0) (p0.length) (c0_0)),(1,.int .i64 (p1)),(2,.int .i64 (p2)),(3,.slice (y4.1) (s4.length) (y4.2.1)),(9,.int .i64 (s5)),(13,.slice (y9.1) (s9.1.length) (y9.2)),(88,.int .i64 (((s4.length:Nat):Int))),(89,.int .i64 (s9.2))]) (fun s9 y9=>[.r (y9.1) (s9.1.length) (y9.2) 3 1 (s9.1.flatMap Bs),y4.2.2]++[.old w]) (fun s9 y9=>True) (none,0) trivial (by exact .pick 0 rfl (.pick 0 rfl (.refl))) ?_;intro s9 y9 hG9 x5 hx26 ht2;unfold Gl at hx26;refine Y6 ?_;refine Ti hx26 (s:=90) rfl (fun h11 hx27=>?_) (fun h11 hx28=>?_)
         ·refine Y3 ?_;refine Tj (γ:=(Option Addr) × Nat) hx27 (fun s10 y10=>[(0,.slice (A0_0) (p0.length) (c0_0)),(1,.int .i64 (p1)),(2,.int .i64 (p2)),(3,.slice (y4.1) (s4.length) (y4.2.1)),(9,.int .i64 (s5)),(13,.slice (y10.1) (s10.length) (y10.2)),(88,.int .i64 (((s4.length:Nat):Int))),(89,.int .i64 (s9.2))]) (fun s10 y10=>[.r (y10.1) (s10.length) (y10.2) 3 1 (s10.flatMap Bs),y4.2.2]++[.old w]) (fun s10 y10=>True) (fun s10 y10 hx29 hG10=>?_) (fun j10 hx27=>?_)
          ·refine Y4 ?_;exact Rp (s10,w64 (s9.2+1)) (y10.1,y10.2) hx29 trivial (by exact .pick 0 rfl (.pick 0 rfl (.refl)))
          ·(iterate 14 refine Y ?_);refine Fb (s:=94) rfl (fun h12=>?_) (fun h12=>?_)
           ·have hx30:=Pr h12 hx27;refine Y5 ?_;obtain ⟨x6,h13,hx31⟩:=Ac hx30;have hw4:=Has.low (E:=[y4.2.2]) hs1 hK;obtain ⟨b3,o3,j11,hA3,hj4,hl6,hp3⟩:=Has.at_idx hw4 h13;refine Af (Az rfl rfl hA3 (j:=j11) hj4 hl6 Fn) rfl ?_;refine Af (Bu rfl hp3 (SubE.cons2 (i:=2) rfl (sb 1)) rfl one3) rfl ?_;refine T_x (Bk rfl (Jj _) rfl (fun g0=>?_));obtain ⟨h14,hx32⟩:=Bj hx31;refine T_h (Dd Bs (s9.1) [x6] rfl rfl rfl Aek (fun _=>rfl) (i':=0) rfl rfl rfl rfl h14 rfl (fun _ _=>.there (.here)) (fun _ _=>.drop .refl) (by decide) (fun A0 c0=>?_));refine Y3 ?_;exact Mt (s9.1++[x6]) (A0,c0) hx32 trivial (by exact .pick 0 rfl (.pick 0 rfl (.refl)))
           ·have hx33:=Bx h12 hx27;refine Y3 ?_;exact Mt s9.1 (y9.1,y9.2) hx33 trivial (by exact .pick 0 rfl (.pick 0 rfl (.refl)))
         ·refine Y3 ?_;obtain rfl:=Bd ht2 hx28;refine Y2 ?_;exact Mt s9.1 (y9.1,y9.2) ho2 trivial (by exact .pick 0 rfl (.drop 0 rfl (.refl)))
      ·refine Y3 ?_;obtain ⟨x7,h15,hx34⟩:=Ac hx21;have hw5:=Has.low (E:=[y4.2.2]) hs1 hK;obtain ⟨b4,o4,j12,hA4,hj5,hl7,hp4⟩:=Has.at_idx hw5 h15;refine Af (Az rfl rfl hA4 (j:=j12) hj5 hl7 Fn) rfl ?_;refine Af (Bu rfl hp4 (SubE.cons2 (i:=1) rfl (sb 0)) rfl one3) rfl ?_;refine Y3 ?_;refine Ti hx34 (s:=81) rfl (fun h16 hx35=>?_) (fun h16 hx36=>?_)
       ·refine Y5 ?_;exact Mt (decide (x3=p1)) () hx35 trivial (by exact .pick 0 rfl (.refl))
       ·refine Y5 ?_;exact Mt false () hx36 trivial (by exact .pick 0 rfl (.refl))
    ·refine Y3 ?_;obtain ⟨x8,h17,hx37⟩:=Ac hx18;have hw6:=Has.low (E:=[y4.2.2]) hs1 hK;obtain ⟨b5,o5,j13,hA5,hj6,hl8,hp5⟩:=Has.at_idx hw6 h17;refine Af (Az rfl rfl hA5 (j:=j13) hj6 hl8 Fn) rfl ?_;refine Af (Bu rfl hp5 (SubE.cons2 (i:=1) rfl (sb 0)) rfl one3) rfl ?_;refine Y3 ?_;refine Ti hx37 (s:=69) rfl (fun h18 hx38=>?_) (fun h18 hx39=>?_)
     ·refine Y5 ?_;exact Mt (decide (x4=p2)) () hx38 trivial (by exact .pick 0 rfl (.refl))
     ·refine Y5 ?_;exact Mt false () hx39 trivial (by exact .pick 0 rfl (.refl))
   ·refine Y3 ?_;refine Af (Bf rfl 3 Tryz.underlying48) rfl ?_;refine Y4 ?_;obtain ⟨t3,hl9,ho3⟩:=Ac hx12;refine Lp (σ:=Int × Int) (γ:=Unit) hl9 (fun s11 y11=>[(0,.slice (A0_0) (p0.length) (c0_0)),(1,.int .i64 (p1)),(2,.int .i64 (p2)),(3,.slice (y4.1) (s4.length) (y4.2.1)),(9,.int .i64 (s11.1)),(21,.int .i64 (((s4.length:Nat):Int))),(22,.int .i64 (s11.2))]) (fun s11 y11=>[y4.2.2]++[.old w]) (fun s11 y11=>True) () trivial (by exact .pick 0 rfl (.refl)) ?_;intro s11 y11 hG11 x9 hx40 ht3;unfold Ha at hx40;refine Y6 ?_;refine Ti hx40 (s:=23) rfl (fun h19 hx41=>?_) (fun h19 hx42=>?_)
    ·refine Y3 ?_;refine Tj (γ:=Unit) hx41 (fun s85 y85=>[(0,.slice (A0_0) (p0.length) (c0_0)),(1,.int .i64 (p1)),(2,.int .i64 (p2)),(3,.slice (y4.1) (s4.length) (y4.2.1)),(9,.int .i64 (s85)),(21,.int .i64 (((s4.length:Nat):Int))),(22,.int .i64 (s11.2))]) (fun s85 y85=>[y4.2.2]++[.old w]) (fun s85 y85=>True) (fun s85 y85 hx43 hG12=>?_) (fun j85 hx41=>?_)
     ·refine Y4 ?_;exact Rp (s85,w64 (s11.2+1)) () hx43 trivial (by exact .pick 0 rfl (.refl))
     ·refine Y8 ?_;refine T_dr [0,0,0,0,1,0,1,2,0,0,0,0,1,0,1,2,2] (.q 0 (.q 1 (.q 2 (.q 3 (.q 4 (.q 5 (.q 6 (.q 8 (.q 9 (.q 10 (.q 11 (.q 12 (.q 13 (.q 14 (.e 7 (.e 15 (.e 16 (.done) (.stop)) (.stop)) (.stop)))))))))))))))) mixed (by kernel_rfl) (by kernel_rfl) ?_;refine Y3 ?_;obtain ⟨x10,h20,hx44⟩:=Ac hx41;have hw7:=Has.low (E:=[y4.2.2]) hs1 hK;obtain ⟨b6,o6,j14,hA6,hj7,hl10,hp6⟩:=Has.at_idx hw7 h20;refine P_p rfl rfl (Az rfl rfl hA6 (j:=j14) hj7 hl10 Fn) rfl ?_;refine P_q rfl rfl (Bu rfl hp6 (SubE.cons2 (i:=1) rfl (sb 0)) rfl one3) rfl ?_;obtain ⟨x11,h21,hx45⟩:=Ac hx44;refine P_il (Has.low (E:=[]) ha0' hK) h21 Ey Ej (sb 1) (fun b7 o7=>?_);refine Y3 ?_;obtain ⟨x12,h22,hx46⟩:=Ac hx45;have hw8:=Has.low (E:=[y4.2.2]) hs1 hK;obtain ⟨b8,o8,j15,hA7,hj8,hl11,hp7⟩:=Has.at_idx hw8 h22;refine P_p rfl rfl (Az rfl rfl hA7 (j:=j15) hj8 hl11 Fn) rfl ?_;refine P_q rfl rfl (Bu rfl hp7 (SubE.cons2 (i:=1) rfl (sb 0)) rfl one3) rfl ?_;obtain ⟨x13,h23,hx47⟩:=Ac hx46;refine P_il (Has.low (E:=[]) ha0' hK) h23 Ey Ej (sb 1) (fun b9 o9=>?_);obtain ⟨r0,h24,hx48⟩:=Ac hx47;refine Pc (fun w1 hw1=>Bh x11  h24 w1) ?_;obtain ⟨r1,h25,hx49⟩:=Ac hx48;refine Pc (fun w1 hw1=>Bh x13  h25 w1) ?_;obtain ⟨r2,h26,hx50⟩:=Ac hx49
      refine Pc (fun w1 hw1=>Rl r0 r1  h26 w1) ?_;refine Y2 ?_;refine By (s:=41) rfl (fun h27=>?_) (fun h27=>?_)
      ·have hx51:=Bx h27 hx50;refine Y6 ?_;exact Mt s11.2 () hx51 trivial (by exact .pick 0 rfl (.refl))
      ·have hx52:=Bn h27 hx50;refine Y3 ?_;exact Mt s11.1 () hx52 trivial (by exact .pick 0 rfl (.refl))
    ·refine Y3 ?_;obtain rfl:=Bd ht3 hx42;refine Y2 ?_;exact Mt s11.1 () ho3 trivial (by exact .pick 0 rfl (.refl))
  ·refine Y3 ?_;obtain rfl:=Bd ht1 hx13;refine Y2 ?_;exact Mt s4 (y4.1,y4.2.1,y4.2.2) ho1 ((by exact ⟨lo502,Has.len' hs1,trivial⟩)) (by exact .pick 0 rfl (.refl))
set_option maxRecDepth 100000 in
theorem Aag (p0:List Ae) (p1:List Ab) (p2:Int) (p3:Int) {K:List Ent} {A0_0:Option Addr} {c0_0:Nat} {A0_1:Option Addr} {c0_1:Nat} (ha0:Has K A0_0 p0.length c0_0 4 Ak (p0)) (ha1:Has K A0_1 p1.length c0_1 2 Ar (p1)) {r:Int} (hx:Lt p0 p1 p2 p3=some r) (w:World) (hK:∀ e∈K,Ent.ok w e):CtL Tryz.prog 289 [.slice (A0_0) (p0.length) (c0_0),.slice (A0_1) (p1.length) (c0_1),.int .i64 (p2),.int .i64 (p3)] w fun v Ln=>v = .int .i64 (r)∧Ln=[]∧True:=by
 have ha0':=Has.up0 ha0;have ha1':=Has.up0 ha1;refine CtL.mk 100 Tryz.func289 rfl Tryz.ntmps289 (by kernel_rfl) rfl ?_;show T 100 _ [(0,.slice (A0_0) (p0.length) (c0_0)),(1,.slice (A0_1) (p1.length) (c0_1)),(2,.int .i64 (p2)),(3,.int .i64 (p3))] _;unfold Lt at hx;refine Y10 ?_;refine Tj (γ:=(Option Addr) × Nat) hx (fun s3 y3=>[(0,.slice (A0_0) (p0.length) (c0_0)),(2,.int .i64 (p2)),(3,.int .i64 (p3)),(9,.slice (y3.1) (s3.length) (y3.2))]) (fun s3 y3=>[.r (y3.1) (s3.length) (y3.2) 3 1 (s3.flatMap Bs)]++[.old w]) (fun s3 y3=>True) (fun s3 y3 hx0 hG0=>?_) (fun j3 hx=>?_)
 ·refine Y4 ?_;refine Af (Bf rfl 3 Tryz.underlying48) rfl ?_;refine Y3 ?_;refine Ti hx0 (s:=90) rfl (fun h0 hx1=>?_) (fun h0 hx2=>?_)
  ·refine Y8 ?_;obtain rfl:=Option.some.inj hx1;exact Av (rs:=[.tmp 8]) Tryz.results289 (.tmp rfl (.nil)) (Ln:=[]) ⟨rfl,rfl,trivial⟩ (Ax) (by exact .drop 0 rfl (.refl))
  ·refine Y12 ?_;refine Dh (k:=0) rfl (by decide) (fun _=>rfl) (fun hn0 hs0=>?_);obtain ⟨r0,h1,hx3⟩:=Ac hx2;refine T_x (Aw rfl (fun w1 hw1=>Aaf p0 p2 p3 s3 (Has.len' (Has.up (L:=(K++[.r (y3.1) (s3.length) (y3.2) 3 1 (s3.flatMap Bs)])) ha0' (SubE.app2 SubE.nil))) (Has.len' (Has.up (L:=(K++[.r (y3.1) (s3.length) (y3.2) 3 1 (s3.flatMap Bs)])) hs0 (SubE.appR2 (sb 0)))) h1 w1 (Dz (K:=K) (K2:=[.r (y3.1) (s3.length) (y3.2) 3 1 (s3.flatMap Bs)]) hK (by exact (sb 1)) (by exact (sb 0)) hw1)) rfl ?_);rintro _ _ hlo ⟨A0,c0,rfl,rfl,-⟩;refine Fw ?_;refine Dh (k:=0) rfl (by decide) (fun _=>rfl) (fun hn1 hs1=>?_);obtain ⟨r1,h2,hx4⟩:=Ac hx3;refine Tc (fun w1 hw1=>Zf p0 p2 p3 r0 (Has.len' (Has.up (L:=(K++[.r (A0) (r0.length) (c0) 3 1 (r0.flatMap Bs)])) ha0' (SubE.app2 SubE.nil))) (Has.len' (Has.up (L:=(K++[.r (A0) (r0.length) (c0) 3 1 (r0.flatMap Bs)])) hs1 (SubE.appR2 (sb 0)))) h2 w1 (Dz (K:=K) (K2:=[.r (A0) (r0.length) (c0) 3 1 (r0.flatMap Bs)]) hK (by exact (sb 2)) (by exact (sb 0)) hw1)) ?_;refine Y4 ?_;obtain rfl:=Option.some.inj hx4;exact Av (rs:=[.tmp 8]) Tryz.results289 (.tmp rfl (.nil)) (Ln:=[]) ⟨rfl,rfl,trivial⟩ (Ax) (by exact .drop 0 rfl (.drop 0 rfl (.refl)))
 ·refine Y3 ?_;refine Af (Bf rfl 34 Tryz.underlying22) rfl ?_;refine Y4 ?_;obtain ⟨t0,hl0,ho0⟩:=Ac hx;refine Cr 3 1 ?_
  have hn2:0=(([]:List Int)).length:=by simp [Bq,Ca,List.length_append] <;> omega
  refine Ds (.here) (e':=.r (none) ((([]:List Int)).length) (0) 3 1 ((([]:List Int)).flatMap Bs)) (by first | (rw [← hn2];done) | rfl) ?_;refine Lp (σ:=(List Int) × Int) (γ:=(Option Addr) × Nat) hl0 (fun s0 y0=>[(0,.slice (A0_0) (p0.length) (c0_0)),(1,.slice (A0_1) (p1.length) (c0_1)),(2,.int .i64 (p2)),(3,.int .i64 (p3)),(9,.slice (y0.1) (s0.1.length) (y0.2)),(12,.int .i64 (((p0.length:Nat):Int))),(13,.int .i64 (s0.2))]) (fun s0 y0=>[.r (y0.1) (s0.1.length) (y0.2) 3 1 (s0.1.flatMap Bs)]++[.old w]) (fun s0 y0=>True) (none,0) trivial (by exact .pick 0 rfl (.refl)) ?_;intro s0 y0 hG1 x0 hx5 ht0;unfold Ig at hx5;refine Y6 ?_;refine Ti hx5 (s:=14) rfl (fun h3 hx6=>?_) (fun h3 hx7=>?_)
  ·refine Y3 ?_;refine Tj (γ:=(Option Addr) × Nat) hx6 (fun s1 y1=>[(0,.slice (A0_0) (p0.length) (c0_0)),(1,.slice (A0_1) (p1.length) (c0_1)),(2,.int .i64 (p2)),(3,.int .i64 (p3)),(9,.slice (y1.1) (s1.length) (y1.2)),(12,.int .i64 (((p0.length:Nat):Int))),(13,.int .i64 (s0.2))]) (fun s1 y1=>[.r (y1.1) (s1.length) (y1.2) 3 1 (s1.flatMap Bs)]++[.old w]) (fun s1 y1=>True) (fun s1 y1 hx8 hG2=>?_) (fun j0 hx6=>?_)
   ·refine Y4 ?_;exact Rp (s1,w64 (s0.2+1)) (y1.1,y1.2) hx8 trivial (by exact .pick 0 rfl (.refl))
   ·refine Y8 ?_;refine Tj (γ:=Unit) hx6 (fun s2 y2=>[(0,.slice (A0_0) (p0.length) (c0_0)),(1,.slice (A0_1) (p1.length) (c0_1)),(2,.int .i64 (p2)),(3,.int .i64 (p3)),(9,.slice (y0.1) (s0.1.length) (y0.2)),(10,.int .i64 (s0.2)),(12,.int .i64 (((p0.length:Nat):Int))),(13,.int .i64 (s0.2)),(48,.bool (s2))]) (fun s2 y2=>[.r (y0.1) (s0.1.length) (y0.2) 3 1 (s0.1.flatMap Bs)]++[.old w]) (fun s2 y2=>True) (fun s2 y2 hx9 hG3=>?_) (fun j1 hx6=>?_)
    ·refine By (s:=48) rfl (fun h4=>?_) (fun h4=>?_)
     ·have hx10:=Bx h4 hx9;refine Y4 ?_;exact Mt s0.1 (y0.1,y0.2) hx10 trivial (by exact .pick 0 rfl (.refl))
     ·have hx11:=Bn h4 hx9;refine Y7 ?_;refine Af (Bf rfl 3 Tryz.underlying48) rfl ?_;refine Y3 ?_;refine Ti hx11 (s:=51) rfl (fun h5 hx12=>?_) (fun h5 hx13=>?_)
      ·refine Y4 ?_;refine T_x (Bk rfl (Jj _) rfl (fun g0=>?_));refine Y6 ?_;refine T_mr (enc:=Bs) (sz:=1) ([s0.2]) (.here) rfl rfl (fun _=>rfl) (by show 1≤maxLen;decide) ?_
       have hn3:1=([s0.2]).length:=by simp [Bq,Ca,List.length_append] <;> omega
       refine Ds (.here) (e':=.r (some ⟨g0,0,none⟩) (([s0.2]).length) (1) 3 1 (([s0.2]).flatMap Bs)) (by first | (rw [← hn3];done) | rfl) ?_;refine Eo (s:=9) (v':=.slice (some ⟨g0,0,none⟩) (([s0.2]).length) (1)) rfl (by have hn4:(1)=([s0.2]).length:=(by simp [Bq,Ca,List.length_append] <;> omega);first | (rw [← hn4];done) | rfl) ?_;exact Mt ([s0.2]) (some ⟨g0,0,none⟩,1) hx12 trivial (by exact .pick 0 rfl (.drop 0 rfl (.refl)))
      ·refine Y4 ?_;refine T_dr [0,0,0,1,2,0,0,0,1,2,0,0,0,1,0,1,2,0,0,0,1,2,2] (.q 0 (.q 1 (.q 2 (.q 3 (.q 5 (.q 6 (.q 7 (.q 8 (.q 10 (.q 11 (.q 12 (.q 13 (.q 14 (.q 15 (.q 17 (.q 18 (.q 19 (.q 20 (.e 4 (.e 9 (.e 16 (.e 21 (.e 22 (.done) (.stop)) (.stop)) (.stop)) (.stop)) (.stop)))))))))))))))))))) mixed (by kernel_rfl) (by kernel_rfl) ?_;refine Y2 ?_;obtain ⟨x1,h6,hx14⟩:=Ac hx13;refine P_il (Has.low (E:=[]) ha0' hK) h6 Ey Ej (sb 1) (fun b0 o0=>?_);refine Y2 ?_;obtain ⟨x2,h7,hx15⟩:=Ac hx14;refine P_il (Has.low (E:=[]) ha0' hK) h7 Ey Ej (sb 1) (fun b1 o1=>?_);refine Y2 ?_;obtain ⟨x3,h8,hx16⟩:=Ac hx15;refine Ii (k:=0) rfl (by decide) (fun _=>rfl) h8 (fun b2 j2 hA0 hj0 hl1 hm0 hp0=>?_);refine P_p rfl rfl (Az rfl rfl hA0 (j:=j2) hj0 hl1 Fn) rfl ?_;refine P_q rfl rfl (Bu rfl hp0 (sb 0) rfl one3) rfl ?_;obtain ⟨x4,h9,hx17⟩:=Ac hx16;refine P_il (Has.low (E:=[]) ha0' hK) h9 Ey Ej (sb 1) (fun b3 o2=>?_);refine Y2 ?_;obtain ⟨x5,h10,hx18⟩:=Ac hx17;refine P_il (Has.low (E:=[]) ha0' hK) h10 Ey Ej (sb 1) (fun b4 o3=>?_);obtain ⟨r2,h11,hx19⟩:=Ac hx18;refine Pc (fun w1 hw1=>Bh x1  h11 w1) ?_;obtain ⟨r3,h12,hx20⟩:=Ac hx19;refine Pc (fun w1 hw1=>Bh x2  h12 w1) ?_;obtain ⟨r4,h13,hx21⟩:=Ac hx20
       refine Pc (fun w1 hw1=>Bh x4  h13 w1) ?_;obtain ⟨r5,h14,hx22⟩:=Ac hx21;refine Pc (fun w1 hw1=>Bh x5  h14 w1) ?_;obtain ⟨r6,h15,hx23⟩:=Ac hx22;refine Pc (fun w1 hw1=>Xg r2 r3 r4 r5  h15 w1) ?_;refine Y9 ?_;refine Ti hx23 (s:=77) rfl (fun h16 hx24=>?_) (fun h16 hx25=>?_)
       ·refine Y3 ?_;refine T_x (Bk rfl (Jj _) rfl (fun g1=>?_));refine Y4 ?_;refine T_mr (enc:=Bs) (sz:=1) ([s0.2]) (.here) rfl rfl (fun _=>rfl) (by show 1≤maxLen;decide) ?_
        have hn5:1=([s0.2]).length:=by simp [Bq,Ca,List.length_append] <;> omega
        refine Ds (.here) (e':=.r (some ⟨g1,0,none⟩) (([s0.2]).length) (1) 3 1 (([s0.2]).flatMap Bs)) (by first | (rw [← hn5];done) | rfl) ?_;refine Eo (s:=9) (v':=.slice (some ⟨g1,0,none⟩) (([s0.2]).length) (1)) rfl (by have hn6:(1)=([s0.2]).length:=(by simp [Bq,Ca,List.length_append] <;> omega);first | (rw [← hn6];done) | rfl) ?_;exact Mt ([s0.2]) (some ⟨g1,0,none⟩,1) hx24 trivial (by exact .pick 0 rfl (.drop 0 rfl (.refl)))
       ·refine Y7 ?_;refine Ti hx25 (s:=81) rfl (fun h17 hx26=>?_) (fun h17 hx27=>?_)
        ·refine Y4 ?_;refine T_x (Bk rfl (Jj _) rfl (fun g2=>?_));obtain ⟨h18,hx28⟩:=Bj hx26;refine T_h (Dd Bs (s0.1) [s0.2] rfl rfl rfl Aek (fun _=>rfl) (i':=0) rfl rfl rfl rfl h18 rfl (fun _ _=>.there (.here)) (fun _ _=>.drop .refl) (by decide) (fun A1 c1=>?_));refine Y4 ?_;exact Mt (s0.1++[s0.2]) (A1,c1) hx28 trivial (by exact .pick 0 rfl (.refl))
        ·refine Y4 ?_;exact Mt s0.1 (y0.1,y0.2) hx27 trivial (by exact .pick 0 rfl (.refl))
    ·refine T_dr [0,0,0,1,2,0,0,0,1,2,0,0,0,1,2,2,0,0,0,0,0,0,2,0,0,0,0,0,0,0,2,0,0] (.q 0 (.q 1 (.q 2 (.q 3 (.q 5 (.q 6 (.q 7 (.q 8 (.q 10 (.q 11 (.q 12 (.q 13 (.e 4 (.e 9 (.e 14 (.e 15 (.q 16 (.q 17 (.q 18 (.q 19 (.q 20 (.q 21 (.e 22 (.q 23 (.q 24 (.q 25 (.q 26 (.q 27 (.q 28 (.q 29 (.e 30 (.q 31 (.q 32 (.done))) (.stop))))))))) (.stop)))))))) (.stop)) (.stop)) (.stop)) (.stop)))))))))))))) mixed (by kernel_rfl) (by kernel_rfl) ?_;refine Y2 ?_;obtain ⟨x6,h19,hx29⟩:=Ac hx6;refine P_il (Has.low (E:=[]) ha0' hK) h19 Ey Ej (sb 1) (fun b5 o4=>?_);refine Y2 ?_;obtain ⟨x7,h20,hx30⟩:=Ac hx29;refine P_il (Has.low (E:=[]) ha0' hK) h20 Ey Ej (sb 1) (fun b6 o5=>?_);refine Y2 ?_;obtain ⟨x8,h21,hx31⟩:=Ac hx30;refine P_il (Has.low (E:=[]) ha0' hK) h21 Ey Ej (sb 1) (fun b7 o6=>?_);obtain ⟨r7,h22,hx32⟩:=Ac hx31;refine Pc (fun w1 hw1=>Bh x6  h22 w1) ?_;obtain ⟨r8,h23,hx33⟩:=Ac hx32;refine Pc (fun w1 hw1=>Bh x7  h23 w1) ?_;obtain ⟨r9,h24,hx34⟩:=Ac hx33;refine Pc (fun w1 hw1=>Bh x8  h24 w1) ?_;obtain ⟨r10,h25,hx35⟩:=Ac hx34;refine Pc (fun w1 hw1=>Hw r7 r8 r9  h25 w1) ?_;refine Y2 ?_;refine Ti hx35 (s:=33) rfl (fun h26 hx36=>?_) (fun h26 hx37=>?_)
     ·refine Y4 ?_;refine Dw rfl rfl rfl rfl rfl rfl ?_ ?_;rotate_left;exact Bb;refine Y7 ?_;refine Dw rfl rfl rfl rfl rfl rfl ?_ ?_;rotate_left;exact Bb;refine Y3 ?_;exact Mt true () hx36 trivial (by exact .pick 0 rfl (.refl))
     ·refine Y4 ?_;obtain ⟨r11,h27,hx38⟩:=Ac hx37;refine P_xG rfl rfl rfl rfl (Aw rfl (fun w1 hw1=>Tk p0 p1 p2 s0.2 (Has.len' ha0') (Has.len' ha1') h27 w1 (Dz (K:=K) (K2:=[]) hK (by exact (sb 1)) (by exact (SubE.nil)) hw1)) rfl ?_) ?_;rotate_left;exact Bb;rintro _ _ hlo ⟨rfl,rfl,-⟩;refine Cs ?_;refine Y3 ?_;refine Cz (s:=41) rfl (fun h28=>?_) (fun h28=>?_)
      ·have hx39:=Bn h28 hx38;refine Y4 ?_;refine Dw rfl rfl rfl rfl rfl rfl ?_ ?_;rotate_left;exact Bb;refine Y3 ?_;exact Mt true () hx39 trivial (by exact .pick 0 rfl (.refl))
      ·have hx40:=Bx h28 hx38;refine Y4 ?_;obtain ⟨r12,h29,hx41⟩:=Ac hx40;refine P_xG rfl rfl rfl rfl (Aw rfl (fun w1 hw1=>Tk p0 p1 p3 s0.2 (Has.len' ha0') (Has.len' ha1') h29 w1 (Dz (K:=K) (K2:=[]) hK (by exact (sb 1)) (by exact (SubE.nil)) hw1)) rfl ?_) ?_;rotate_left;exact Bb;rintro _ _ hlo ⟨rfl,rfl,-⟩;refine Cs ?_;refine Y3 ?_;exact Mt (!(r12)) () hx41 trivial (by exact .pick 0 rfl (.refl))
  ·refine Y3 ?_;obtain rfl:=Bd ht0 hx7;refine Y2 ?_;exact Mt s0.1 (y0.1,y0.2) ho0 trivial (by exact .pick 0 rfl (.refl))
end Go.Proofs.YtbkobeeileemjaaGreat
