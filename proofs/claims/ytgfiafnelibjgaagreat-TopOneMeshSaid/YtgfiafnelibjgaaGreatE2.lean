/- Walks of the program, with their plain functions: the references on lines and triangles. -/
import Derived.Test.YtgfiafnelibjgaaGreatEs
namespace Go.Proofs.YtgfiafnelibjgaaGreat
open Go Go.RowKit
theorem Zr (x0:Int) (x1:Int):Dn Tryz.prog 59 2 [(0,.int .i64 x0),(1,.int .i64 x1)] 3 [.int .i64 x0,.int .i64 x1]:=fun w=>by kernel_rfl
instance (x0:Int) (x1:Int):Lv Tryz.prog 59 2 [(0,.int .i64 x0),(1,.int .i64 x1)] 3 [.int .i64 x0,.int .i64 x1]:=⟨Zr _ _⟩
noncomputable def Ij (p0:Ac) (p1:Ac) (p2:Ac) (p3:Ac):Option Bool :=
 jn (fun (s2:Bool) =>
 some s2)
 (fun j2=>bnd (Fa p0 p1 p2) fun r5 =>
 bnd (Fa p0 p1 p3) fun r8 =>
 if (w64 (r5*r8)) < 0 then (bnd (Fa p2 p3 p0) fun r0 =>
 bnd (Fa p2 p3 p1) fun r1 =>
 j2 (decide ((w64 (r0*r1)) < 0)))
 else (j2 false))
noncomputable def Cv (s0:Int) (p1:List Aa):Int→Option (Sum Int (Sum Unit Int)):=fun s1 =>
 if s1 < s0 then (jn (fun (s2:Bool) =>
 if s2=true then (some (.inr (.inr (62))))
 else (some (.inl (w64 (s1+1)))))
 (fun j0=>bnd (idx p1 s0) fun x0 =>
 bnd (idx p1 s1) fun x1 =>
 if ((((x0.a0) == (x1.a0)) && (((x0.a1) == (x1.a1)) && true)))=true then (j0 true)
 else (bnd (idx p1 s0) fun x2 =>
 bnd (idx p1 s1) fun x3 =>
 if x2.a0=x3.a1 then (bnd (idx p1 s0) fun x4 =>
 bnd (idx p1 s1) fun x5 =>
 j0 (decide (x4.a1=x5.a0)))
 else (j0 false))))
 else (some (.inr (.inl ())))
noncomputable def Ey (p1:List Aa) (p0:List Ab):Int→Option (Sum Int (Sum Unit Int)):=fun s0 =>
 if s0 < ((((p1).length:Nat):Int)) then (jn (fun (s1:Unit) =>
 some (.inl (w64 (s0+1))))
 (fun j0=>jn (fun (s2:Bool) =>
 if s2=true then (some (.inr (.inr (62))))
 else (bnd (lfix (Cv s0 p1) 0) fun t0 =>
 (match t0 with
 | (.inl z0)=>j0 z0
 | (.inr (z0))=>some (.inr (.inr (z0)))
 )))
 (fun j1=>bnd (idx p1 s0) fun x0 =>
 if x0.a0 < 0 then (j1 true)
 else (bnd (idx p1 s0) fun x1 =>
 if ((((p0).length:Nat):Int))≤x1.a0 then (j1 true)
 else (bnd (idx p1 s0) fun x2 =>
 if x2.a1 < 0 then (j1 true)
 else (bnd (idx p1 s0) fun x3 =>
 if ((((p0).length:Nat):Int))≤x3.a1 then (j1 true)
 else (bnd (idx p1 s0) fun x4 =>
 bnd (idx p1 s0) fun x5 =>
 j1 (decide (x4.a0=x5.a1)))))))))
 else (some (.inr (.inl ())))
noncomputable def Cs (p0:List Ab) (p1:List Aa) (s0:Int) (s1:Int × Int × Int × Int):Int→Option (Sum Int (Sum Unit Int)):=fun s2 =>
 if s2 < ((((p0).length:Nat):Int)) then (jn (fun (s3:Bool) =>
 if s3=true then (some (.inr (.inr (63))))
 else (some (.inl (w64 (s2+1)))))
 (fun j0=>bnd (idx p1 s0) fun x0 =>
 if s2=x0.a0 then (j0 false)
 else (bnd (idx p1 s0) fun x1 =>
 if s2=x1.a1 then (j0 false)
 else (bnd (idx p0 s2) fun x2 =>
 bnd (Cl (⟨x2.X,x2.Y,(⟨x2.Z.Lo,x2.Z.Hi⟩:Aq)⟩:Ab)) fun r0 =>
 bnd (Gr (⟨s1.1,s1.2.1⟩:Ac) (⟨s1.2.2.1,s1.2.2.2⟩:Ac) r0) fun r1 =>
 j0 r1))))
 else (some (.inr (.inl ())))
noncomputable def Ct (s0:Int) (p1:List Aa) (p0:List Ab) (s1:Int × Int × Int × Int):Int→Option (Sum Int (Sum Unit Int)):=fun s2 =>
 if s2 < s0 then (bnd (idx p1 s2) fun x0 =>
 bnd (idx p0 x0.a0) fun x1 =>
 bnd (idx p1 s2) fun x2 =>
 bnd (idx p0 x2.a1) fun x3 =>
 bnd (Cl (⟨x1.X,x1.Y,(⟨x1.Z.Lo,x1.Z.Hi⟩:Aq)⟩:Ab)) fun r0 =>
 bnd (Cl (⟨x3.X,x3.Y,(⟨x3.Z.Lo,x3.Z.Hi⟩:Aq)⟩:Ab)) fun r1 =>
 bnd (Ij (⟨s1.1,s1.2.1⟩:Ac) (⟨s1.2.2.1,s1.2.2.2⟩:Ac) r0 r1) fun r2 =>
 if r2=true then (some (.inr (.inr (63))))
 else (some (.inl (w64 (s2+1)))))
 else (some (.inr (.inl ())))
noncomputable def Ej (p1:List Aa) (p0:List Ab):Int→Option (Sum Int (Sum Unit Int)):=fun s0 =>
 if s0 < ((((p1).length:Nat):Int)) then (jn (fun (s1:Unit) =>
 some (.inl (w64 (s0+1))))
 (fun j0=>jn (fun (s2:Int × Int × Int × Int) =>
 jn (fun (s3:Unit) =>
 bnd (lfix (Ct s0 p1 p0 s2) 0) fun t0 =>
 (match t0 with
 | (.inl z0)=>j0 z0
 | (.inr (z0))=>some (.inr (.inr (z0)))
 ))
 (fun j1=>bnd (lfix (Cs p0 p1 s0 s2) 0) fun t1 =>
 (match t1 with
 | (.inl z1)=>j1 z1
 | (.inr (z1))=>some (.inr (.inr (z1)))
 )))
 (fun j2=>bnd (idx p1 s0) fun x0 =>
 bnd (idx p0 x0.a0) fun x1 =>
 bnd (idx p1 s0) fun x2 =>
 bnd (idx p0 x2.a1) fun x3 =>
 bnd (Cl (⟨x1.X,x1.Y,(⟨x1.Z.Lo,x1.Z.Hi⟩:Aq)⟩:Ab)) fun r0 =>
 bnd (Cl (⟨x3.X,x3.Y,(⟨x3.Z.Lo,x3.Z.Hi⟩:Aq)⟩:Ab)) fun r1 =>
 j2 (r0.X,r0.Y,r1.X,r1.Y))))
 else (some (.inr (.inl ())))
noncomputable def Et (p0:List Ab) (p1:List Aa):Option Int :=
 jn (fun (s2:Unit) =>
 jn (fun (s0:Unit) =>
 some 0)
 (fun j0=>bnd (lfix (Ej p1 p0) 0) fun t0 =>
 (match t0 with
 | (.inl z0)=>j0 z0
 | (.inr (z0))=>some z0
 )))
 (fun j2=>bnd (lfix (Ey p1 p0) 0) fun t1 =>
 (match t1 with
 | (.inl z1)=>j2 z1
 | (.inr (z1))=>some z1
 ))
noncomputable def Ik (p0:List Ab) (p1:List Aa):Option Int :=
 bnd (Hj p0) fun r1 =>
 if r1=0 then (bnd (Et p0 p1) fun r7 =>
 some r7)
 else (some r1)
set_option maxHeartbeats 1000000 in
set_option maxRecDepth 100000 in
instance Xe (p0:Ac) (p1:Ac) (p2:Ac) (p3:Ac):Con (Ij p0 p1 p2 p3) Tryz.prog 109 (fun _ vs=>vs=[.agg #[.int .i64 (p0.X),.int .i64 (p0.Y)],.agg #[.int .i64 (p1.X),.int .i64 (p1.Y)],.agg #[.int .i64 (p2.X),.int .i64 (p2.Y)],.agg #[.int .i64 (p3.X),.int .i64 (p3.Y)]]) (fun _ r=>fun v Ln=>v = .bool (r)∧Ln=[]∧True):=⟨by
 rintro _ _ r rfl hx w hK;unfold Ij at hx;have:=dl 1 [1,1,1,2,1,1,1,2,0,0,0,1,1,1,2,1,1,1,2,0,0,0,2] [0,1,2,4,5,6,3,7,8,9,10,11,12,13,15,16,17,14,18,19,20,21,22];refine CtS Tryz.ntmps109 Tryz.results109 ?_;exact au⟩
theorem Vu (p0:Ac) (p1:Ac) (p2:Ac) (p3:Ac)  {r:Bool} (hx:Ij p0 p1 p2 p3=some r) (w:World):CtL Tryz.prog 109 [.agg #[.int .i64 (p0.X),.int .i64 (p0.Y)],.agg #[.int .i64 (p1.X),.int .i64 (p1.Y)],.agg #[.int .i64 (p2.X),.int .i64 (p2.Y)],.agg #[.int .i64 (p3.X),.int .i64 (p3.Y)]] w fun v Ln=>v = .bool (r)∧Ln=[]∧True:=(Xe p0 p1 p2 p3).h [] _ _ rfl hx w (fun _ h=>absurd h List.not_mem_nil)
set_option maxHeartbeats 1000000 in
set_option maxRecDepth 100000 in
theorem Rr (p0:List Ab) (p1:List Aa) {K:List Ent} {A0_0:Option Addr} {c0_0:Nat} {A0_1:Option Addr} {c0_1:Nat} (ha0:Has K A0_0 p0.length c0_0 4 Ad (p0)) (ha1:Has K A0_1 p1.length c0_1 2 Af (p1)) {r:Int} (hx:Et p0 p1=some r) (w:World) (hK:∀ e∈K,Ent.ok w e):CtL Tryz.prog 52 [.slice (A0_0) (p0.length) (c0_0),.slice (A0_1) (p1.length) (c0_1)] w fun v Ln=>v = .int .i64 (r)∧Ln=[]∧True:=by
 have ha0':=Has.up0 ha0;have ha1':=Has.up0 ha1;refine CtL.mk 187 Tryz.func52 rfl Tryz.ntmps52 (by kernel_rfl) rfl ?_;show T 187 _ [(0,.slice (A0_0) (p0.length) (c0_0)),(1,.slice (A0_1) (p1.length) (c0_1))] _;unfold Et at hx;refine Y5 ?_;refine Tj (γ:=Unit) hx (fun s2 y2=>[(0,.slice (A0_0) (p0.length) (c0_0)),(1,.slice (A0_1) (p1.length) (c0_1))]) (fun s2 y2=>[]++[.old w]) (fun s2 y2=>True) (fun s2 y2 hx0 hG0=>?_) (fun j2 hx=>?_)
 ·refine Tj (γ:=Unit) hx0 (fun s0 y0=>[]) (fun s0 y0=>[]++[.old w]) (fun s0 y0=>True) (fun s0 y0 hx1 hG1=>?_) (fun j0 hx0=>?_)
  ·refine Y6 ?_;obtain rfl:=Option.some.inj hx1;exact Cy (rs:=[.tmp 4]) Tryz.results52 (.tmp rfl (.nil)) (Ln:=[]) ⟨rfl,rfl,trivial⟩ (Do) (by exact .refl)
  ·refine Y3 ?_;refine Al (Ch rfl 48 Tryz.underlying23) rfl ?_;refine Y4 ?_;obtain ⟨t0,hl0,ho0⟩:=Ae hx0;refine Lp (σ:=Int) (γ:=Unit) hl0 (fun s1 y1=>[(0,.slice (A0_0) (p0.length) (c0_0)),(1,.slice (A0_1) (p1.length) (c0_1)),(106,.int .i64 (((p1.length:Nat):Int))),(107,.int .i64 (s1))]) (fun s1 y1=>[]++[.old w]) (fun s1 y1=>True) () trivial (by exact .refl) ?_;intro s1 y1 hG2 x0 hx2 ht0;unfold Ej at hx2;refine Y6 ?_;refine Ti hx2 (s:=108) rfl (fun h0 hx3=>?_) (fun h0 hx4=>?_)
   ·refine Y3 ?_;refine Tj (γ:=Unit) hx3 (fun s3 y3=>[(0,.slice (A0_0) (p0.length) (c0_0)),(1,.slice (A0_1) (p1.length) (c0_1)),(106,.int .i64 (((p1.length:Nat):Int))),(107,.int .i64 (s1))]) (fun s3 y3=>[]++[.old w]) (fun s3 y3=>True) (fun s3 y3 hx5 hG3=>?_) (fun j1 hx3=>?_)
    ·refine Y4 ?_;exact Rp (w64 (s1+1)) () hx5 trivial (by exact .refl)
    ·refine Y7 ?_;refine Tj (γ:=Nat × Nat) hx3 (fun s4 y4=>[(0,.slice (A0_0) (p0.length) (c0_0)),(1,.slice (A0_1) (p1.length) (c0_1)),(7,.int .i64 (s1)),(8,.pointer (some ⟨y4.1,0,none⟩)),(9,.pointer (some ⟨y4.2,0,none⟩)),(106,.int .i64 (((p1.length:Nat):Int))),(107,.int .i64 (s1))]) (fun s4 y4=>[.m y4.2 38 [.int .i64 (s4.2.2.1),.int .i64 (s4.2.2.2)],.m y4.1 38 [.int .i64 (s4.1),.int .i64 (s4.2.1)]]++[.old w]) (fun s4 y4=>True) (fun s4 y4 hx6 hG4=>?_) (fun j3 hx3=>?_)
     ·refine Tj (γ:=Unit) hx6 (fun s5 y5=>[(0,.slice (A0_0) (p0.length) (c0_0)),(1,.slice (A0_1) (p1.length) (c0_1)),(7,.int .i64 (s1)),(8,.pointer (some ⟨y4.1,0,none⟩)),(9,.pointer (some ⟨y4.2,0,none⟩)),(106,.int .i64 (((p1.length:Nat):Int))),(107,.int .i64 (s1))]) (fun s5 y5=>[.m y4.2 38 [.int .i64 (s4.2.2.1),.int .i64 (s4.2.2.2)],.m y4.1 38 [.int .i64 (s4.1),.int .i64 (s4.2.1)]]++[.old w]) (fun s5 y5=>True) (fun s5 y5 hx7 hG5=>?_) (fun j4 hx6=>?_)
      ·refine Y6 ?_;obtain ⟨t1,hl1,ho1⟩:=Ae hx7;refine Lp (σ:=Int) (γ:=Unit) hl1 (fun s6 y6=>[(0,.slice (A0_0) (p0.length) (c0_0)),(1,.slice (A0_1) (p1.length) (c0_1)),(7,.int .i64 (s1)),(8,.pointer (some ⟨y4.1,0,none⟩)),(9,.pointer (some ⟨y4.2,0,none⟩)),(11,.int .i64 (s6)),(106,.int .i64 (((p1.length:Nat):Int))),(107,.int .i64 (s1))]) (fun s6 y6=>[.m y4.2 38 [.int .i64 (s4.2.2.1),.int .i64 (s4.2.2.2)],.m y4.1 38 [.int .i64 (s4.1),.int .i64 (s4.2.1)]]++[.old w]) (fun s6 y6=>True) () trivial (by exact .pick 0 rfl (.pick 0 rfl (.refl))) ?_;intro s6 y6 hG6 x1 hx8 ht1;unfold Ct at hx8;refine Y8 ?_;refine Ti hx8 (s:=162) rfl (fun h1 hx9=>?_) (fun h1 hx10=>?_)
       ·refine Y6 ?_;refine T_dr [1,1,0,0,0,0,0,1,0,1,2,0,0,0,0,0,1,0,1,2,2] (.q 0 (.q 1 (.q 2 (.q 3 (.q 4 (.q 5 (.q 6 (.q 7 (.q 8 (.q 9 (.q 11 (.q 12 (.q 13 (.q 14 (.q 15 (.q 16 (.q 17 (.q 18 (.e 10 (.e 19 (.e 20 (.done) (.stop)) (.stop)) (.stop)))))))))))))))))))) mixed (by kernel_rfl) (by kernel_rfl) ?_;refine P_q rfl rfl (Cj rfl (i:=1) rfl rfl Uc) rfl ?_;refine P_q rfl rfl (Cj rfl (i:=0) rfl rfl Uc) rfl ?_;refine Y3 ?_;obtain ⟨x2,h2,hx11⟩:=Ae hx9;have hw0:=Has.low (E:=[]) ha1' hK;obtain ⟨b0,o0,j5,hA0,hj0,hl2,hp0⟩:=Has.at_idx hw0 h2;refine P_p rfl rfl (Aw rfl rfl hA0 (j:=j5) hj0 hl2 Hc) rfl ?_;refine P_p rfl rfl (Ar rfl rfl Ca (by decide) (by decide) rfl) rfl ?_;refine P_q rfl rfl (De (d:=0) rfl hp0 (sb 2) rfl one3) rfl ?_;obtain ⟨x3,h3,hx12⟩:=Ae hx11;refine P_il (Has.low (E:=[]) ha0' hK) h3 Lx Me (sb 2) (fun b1 o1=>?_);refine Y3 ?_;obtain ⟨x4,h4,hx13⟩:=Ae hx12;have hw2:=Has.low (E:=[]) ha1' hK;obtain ⟨b2,o2,j6,hA1,hj1,hl3,hp1⟩:=Has.at_idx hw2 h4;refine P_p rfl rfl (Aw rfl rfl hA1 (j:=j6) hj1 hl3 Hc) rfl ?_;refine P_p rfl rfl (Ar rfl rfl Ca (by decide) (by decide) rfl) rfl ?_;refine P_q rfl rfl (De (d:=1) rfl hp1 (sb 2) rfl one3) rfl ?_;obtain ⟨x5,h5,hx14⟩:=Ae hx13
        refine P_il (Has.low (E:=[]) ha0' hK) h5 Lx Me (sb 2) (fun b3 o3=>?_);obtain ⟨r0,h6,hx15⟩:=Ae hx14;refine Pc (fun w1 hw1=>Hh (⟨x3.X,x3.Y,(⟨x3.Z.Lo,x3.Z.Hi⟩:Aq)⟩:Ab)  h6 w1) ?_;obtain ⟨r1,h7,hx16⟩:=Ae hx15;refine Pc (fun w1 hw1=>Hh (⟨x5.X,x5.Y,(⟨x5.Z.Lo,x5.Z.Hi⟩:Aq)⟩:Ab)  h7 w1) ?_;obtain ⟨r2,h8,hx17⟩:=Ae hx16;refine Pc (fun w1 hw1=>Vu (⟨s4.1,s4.2.1⟩:Ac) (⟨s4.2.2.1,s4.2.2.2⟩:Ac) r0 r1  h8 w1) ?_;refine Y2 ?_;refine Di (s:=185) rfl (fun h9=>?_) (fun h9=>?_)
        ·have hx18:=Db h9 hx17;refine Y9 ?_;obtain rfl:=Bx ht1 hx18;refine Y4 ?_;obtain rfl:=Bx ht0 ho1;refine Y3 ?_;obtain rfl:=Option.some.inj ho0;exact Cy (rs:=[.tmp 4]) Tryz.results52 (.tmp rfl (.nil)) (Ln:=[]) ⟨rfl,rfl,trivial⟩ (Do) (by exact .drop 0 rfl (.drop 0 rfl (.refl)))
        ·have hx19:=Eg h9 hx17;refine Y9 ?_;exact Rp (w64 (s6+1)) () hx19 trivial (by exact .pick 0 rfl (.pick 0 rfl (.refl)))
       ·refine Y3 ?_;obtain rfl:=Bx ht1 hx10;refine Y3 ?_;exact Mt () () ho1 trivial (by exact .drop 0 rfl (.drop 0 rfl (.refl)))
      ·refine Y3 ?_;refine Al (Ch rfl 43 Tryz.underlying22) rfl ?_;refine Y4 ?_;obtain ⟨t2,hl4,ho2⟩:=Ae hx6;refine Lp (σ:=Int) (γ:=Unit) hl4 (fun s7 y7=>[(0,.slice (A0_0) (p0.length) (c0_0)),(1,.slice (A0_1) (p1.length) (c0_1)),(7,.int .i64 (s1)),(8,.pointer (some ⟨y4.1,0,none⟩)),(9,.pointer (some ⟨y4.2,0,none⟩)),(106,.int .i64 (((p1.length:Nat):Int))),(107,.int .i64 (s1)),(129,.int .i64 (((p0.length:Nat):Int))),(130,.int .i64 (s7))]) (fun s7 y7=>[.m y4.2 38 [.int .i64 (s4.2.2.1),.int .i64 (s4.2.2.2)],.m y4.1 38 [.int .i64 (s4.1),.int .i64 (s4.2.1)]]++[.old w]) (fun s7 y7=>True) () trivial (by exact .pick 0 rfl (.pick 0 rfl (.refl))) ?_;intro s7 y7 hG7 x6 hx20 ht2;unfold Cs at hx20;refine Y6 ?_;refine Ti hx20 (s:=131) rfl (fun h10 hx21=>?_) (fun h10 hx22=>?_)
       ·refine Y11 ?_;refine Tj (γ:=Unit) hx21 (fun s8 y8=>[(0,.slice (A0_0) (p0.length) (c0_0)),(1,.slice (A0_1) (p1.length) (c0_1)),(7,.int .i64 (s1)),(8,.pointer (some ⟨y4.1,0,none⟩)),(9,.pointer (some ⟨y4.2,0,none⟩)),(106,.int .i64 (((p1.length:Nat):Int))),(107,.int .i64 (s1)),(129,.int .i64 (((p0.length:Nat):Int))),(130,.int .i64 (s7)),(158,.bool (s8))]) (fun s8 y8=>[.m y4.2 38 [.int .i64 (s4.2.2.1),.int .i64 (s4.2.2.2)],.m y4.1 38 [.int .i64 (s4.1),.int .i64 (s4.2.1)]]++[.old w]) (fun s8 y8=>True) (fun s8 y8 hx23 hG8=>?_) (fun j7 hx21=>?_)
        ·refine Di (s:=158) rfl (fun h11=>?_) (fun h11=>?_)
         ·have hx24:=Db h11 hx23;refine Y9 ?_;obtain rfl:=Bx ht2 hx24;refine Y5 ?_;obtain rfl:=Bx ht0 ho2;refine Y3 ?_;obtain rfl:=Option.some.inj ho0;exact Cy (rs:=[.tmp 4]) Tryz.results52 (.tmp rfl (.nil)) (Ln:=[]) ⟨rfl,rfl,trivial⟩ (Do) (by exact .drop 0 rfl (.drop 0 rfl (.refl)))
         ·have hx25:=Eg h11 hx23;refine Y8 ?_;exact Rp (w64 (s7+1)) () hx25 trivial (by exact .pick 0 rfl (.pick 0 rfl (.refl)))
        ·refine T_dr [0,0,0,0,0,1,0,0,0,0,0,0,0,1,0,0,0,1,1,0,0,0,1,2,2,0] (.q 0 (.q 1 (.q 2 (.q 3 (.q 4 (.q 5 (.q 6 (.q 7 (.q 8 (.q 9 (.q 10 (.q 11 (.q 12 (.q 13 (.q 14 (.q 15 (.q 16 (.q 17 (.q 18 (.q 19 (.q 20 (.q 21 (.q 22 (.e 23 (.e 24 (.q 25 (.done)) (.stop)) (.stop))))))))))))))))))))))))) mixed (by kernel_rfl) (by kernel_rfl) ?_;refine Y3 ?_;obtain ⟨x7,h12,hx26⟩:=Ae hx21;have hw3:=Has.low (E:=[]) ha1' hK;obtain ⟨b4,o4,j8,hA2,hj2,hl5,hp2⟩:=Has.at_idx hw3 h12;refine P_p rfl rfl (Aw rfl rfl hA2 (j:=j8) hj2 hl5 Hc) rfl ?_;refine P_p rfl rfl (Ar rfl rfl Ca (by decide) (by decide) rfl) rfl ?_;refine P_q rfl rfl (De (d:=0) rfl hp2 (sb 2) rfl one3) rfl ?_;refine Y2 ?_;refine Lk (s:=140) rfl (fun h13=>?_) (fun h13=>?_)
         ·have hx27:=Nn h13 hx26;refine Y3 ?_;obtain ⟨x8,h14,hx28⟩:=Ae hx27;have hw4:=Has.low (E:=[]) ha1' hK;obtain ⟨b5,o5,j9,hA3,hj3,hl6,hp3⟩:=Has.at_idx hw4 h14;refine P_pG rfl rfl rfl rfl rfl (Aw rfl rfl hA3 (j:=j9) hj3 hl6 Hc) rfl ?_;refine P_pG rfl rfl rfl rfl rfl (Ar rfl rfl Ca (by decide) (by decide) rfl) rfl ?_;refine P_qG rfl rfl rfl rfl rfl (De (d:=1) rfl hp3 (sb 2) rfl one3) rfl ?_;refine Y3 ?_;refine Lk (s:=149) rfl (fun h15=>?_) (fun h15=>?_)
          ·have hx29:=Nn h15 hx28;refine P_qG rfl rfl rfl rfl rfl (Cj rfl (i:=1) rfl rfl Uc) rfl ?_;refine P_qG rfl rfl rfl rfl rfl (Cj rfl (i:=0) rfl rfl Uc) rfl ?_;refine Y2 ?_;obtain ⟨x9,h16,hx30⟩:=Ae hx29;have hw5:=Has.low (E:=[]) ha0' hK;obtain ⟨b6,o6,j10,hA4,hj4,hl7,hp4⟩:=Has.at_idx hw5 h16;refine P_pG rfl rfl rfl rfl rfl (Aw rfl rfl hA4 (j:=j10) hj4 hl7 Lx) rfl ?_;refine P_qG rfl rfl rfl rfl rfl (Dm rfl hp4 (sb 2) rfl Me) rfl ?_;obtain ⟨r3,h17,hx31⟩:=Ae hx30;refine P_xG rfl rfl rfl rfl (Bd rfl (fun w1 hw1=>Hh (⟨x9.X,x9.Y,(⟨x9.Z.Lo,x9.Z.Hi⟩:Aq)⟩:Ab)  h17 w1) rfl ?_) ?_;rotate_left;exact Bc;rintro _ _ hlo ⟨rfl,rfl,-⟩;refine Ek ?_;obtain ⟨r4,h18,hx32⟩:=Ae hx31;refine P_xG rfl rfl rfl rfl (Bd rfl (fun w1 hw1=>Tw (⟨s4.1,s4.2.1⟩:Ac) (⟨s4.2.2.1,s4.2.2.2⟩:Ac) r3  h18 w1) rfl ?_) ?_;rotate_left;exact Bc;rintro _ _ hlo ⟨rfl,rfl,-⟩;refine Ek ?_;refine Y2 ?_;exact Mt r4 () hx32 trivial (by exact .pick 0 rfl (.pick 0 rfl (.refl)))
          ·have hx33:=Db h15 hx28;refine Y6 ?_;refine Gc rfl rfl rfl rfl rfl rfl ?_ ?_;rotate_left;exact Bc;refine Gc rfl rfl rfl rfl rfl rfl ?_ ?_;rotate_left;exact Bc;refine Y2 ?_;exact Mt false () hx33 trivial (by exact .pick 0 rfl (.pick 0 rfl (.refl)))
         ·have hx34:=Db h13 hx26;(iterate 15 refine Y ?_);refine Gc rfl rfl rfl rfl rfl rfl ?_ ?_;rotate_left;exact Bc;refine Gc rfl rfl rfl rfl rfl rfl ?_ ?_;rotate_left;exact Bc;refine Y2 ?_;exact Mt false () hx34 trivial (by exact .pick 0 rfl (.pick 0 rfl (.refl)))
       ·refine Y3 ?_;obtain rfl:=Bx ht2 hx22;refine Y2 ?_;exact Mt () () ho2 trivial (by exact .pick 0 rfl (.pick 0 rfl (.refl)))
     ·obtain ⟨x10,h19,hx35⟩:=Ae hx3;obtain ⟨x11,h20,hx36⟩:=Ae hx35;obtain ⟨x12,h21,hx37⟩:=Ae hx36;obtain ⟨x13,h22,hx38⟩:=Ae hx37;obtain ⟨r5,h23,hx39⟩:=Ae hx38;obtain ⟨r6,h24,hx40⟩:=Ae hx39;refine T_dr [0,0,0,0,0,1,0,1,2,0,0,0,0,0,1,0,1,2,2,2,3,3] (.q 0 (.q 1 (.q 2 (.q 3 (.q 4 (.q 5 (.q 6 (.q 7 (.q 9 (.q 10 (.q 11 (.q 12 (.q 13 (.q 14 (.q 15 (.q 16 (.e 8 (.e 17 (.e 18 (.e 19 (.e 20 (.e 21 (.done) (.stop)) (.stop)) (.stop)) (.e 19 (.e 18 (.e 20 (.e 21 (.done) (.stop)) (.stop)) (.stop)) (.stop))) (.e 18 (.e 17 (.e 19 (.e 20 (.e 21 (.done) (.stop)) (.stop)) (.stop)) (.e 19 (.e 17 (.e 20 (.e 21 (.done) (.stop)) (.stop)) (.stop)) (.stop))) (.e 19 (.e 17 (.e 18 (.e 20 (.e 21 (.done) (.stop)) (.stop)) (.stop)) (.e 18 (.e 17 (.e 20 (.e 21 (.done) (.stop)) (.stop)) (.stop)) (.stop))) (.stop)))) (.e 18 (.e 8 (.e 17 (.e 19 (.e 20 (.e 21 (.done) (.stop)) (.stop)) (.stop)) (.e 19 (.e 17 (.e 20 (.e 21 (.done) (.stop)) (.stop)) (.stop)) (.stop))) (.e 19 (.e 8 (.e 17 (.e 20 (.e 21 (.done) (.stop)) (.stop)) (.stop)) (.stop)) (.stop))) (.e 19 (.e 8 (.e 17 (.e 18 (.e 20 (.e 21 (.done) (.stop)) (.stop)) (.stop)) (.e 18 (.e 17 (.e 20 (.e 21 (.done) (.stop)) (.stop)) (.stop)) (.stop))) (.e 18 (.e 8 (.e 17 (.e 20 (.e 21 (.done) (.stop)) (.stop)) (.stop)) (.stop)) (.stop))) (.stop)))))))))))))))))))) mixed (by kernel_rfl) (by kernel_rfl) ?_;refine Y3 ?_;have hw6:=Has.low (E:=[]) ha1' hK;obtain ⟨b7,o7,j11,hA5,hj5,hl8,hp5⟩:=Has.at_idx hw6 h19
      refine P_p rfl rfl (Aw rfl rfl hA5 (j:=j11) hj5 hl8 Hc) rfl ?_;refine P_p rfl rfl (Ar rfl rfl Ca (by decide) (by decide) rfl) rfl ?_;refine P_q rfl rfl (De (d:=0) rfl hp5 (sb 0) rfl one3) rfl ?_;refine P_il (Has.low (E:=[]) ha0' hK) h20 Lx Me (sb 0) (fun b8 o8=>?_);refine Y3 ?_;have hw7:=Has.low (E:=[]) ha1' hK;obtain ⟨b9,o9,j12,hA6,hj6,hl9,hp6⟩:=Has.at_idx hw7 h21;refine P_p rfl rfl (Aw rfl rfl hA6 (j:=j12) hj6 hl9 Hc) rfl ?_;refine P_p rfl rfl (Ar rfl rfl Ca (by decide) (by decide) rfl) rfl ?_;refine P_q rfl rfl (De (d:=1) rfl hp6 (sb 0) rfl one3) rfl ?_;refine P_il (Has.low (E:=[]) ha0' hK) h22 Lx Me (sb 0) (fun b10 o10=>?_)
      repeat'
       first
       | (with_reducible exact Bc)
       | ((with_reducible refine P_at 8 ?_);refine P_x rfl (Bd rfl (fun w1 hw1=>Hh (⟨x11.X,x11.Y,(⟨x11.Z.Lo,x11.Z.Hi⟩:Aq)⟩:Ab)  h23 w1) rfl ?_) ?_)
       | ((with_reducible refine P_at 17 ?_);refine P_x rfl (Bd rfl (fun w1 hw1=>Hh (⟨x13.X,x13.Y,(⟨x13.Z.Lo,x13.Z.Hi⟩:Aq)⟩:Ab)  h24 w1) rfl ?_) ?_)
       | ((with_reducible refine P_at 18 ?_);refine P_x rfl (Co Aiw rfl (fun g=>?_)) ?_)
       | ((with_reducible refine P_at 19 ?_);refine P_x rfl (Co Aiw rfl (fun g=>?_)) ?_)
       | ((with_reducible refine P_at 20 ?_);refine P_h rfl rfl (Bm rfl rfl rfl (.there (.here)) (.put (.put (.done))) rfl (List.cons_ne_nil _ _) Uc.2 ?_) ?_)
       | ((with_reducible refine P_at 21 ?_);refine P_h rfl rfl (Bm rfl rfl rfl (.here) (.put (.put (.done))) rfl (List.cons_ne_nil _ _) Uc.2 ?_) ?_)
       | ((with_reducible refine Ann ?_);exact Ahy (r5.X,r5.Y,r6.X,r6.Y) (_,_) hx40 trivial (by repeat (first | exact .nil | refine .cons rfl ?_)) (by repeat (first | exact .refl | refine .pick 0 rfl ?_ | refine .pick 1 rfl ?_ | refine .pick 2 rfl ?_ | refine .pick 3 rfl ?_ | refine .pick 4 rfl ?_ | refine .pick 5 rfl ?_ | refine .pick 6 rfl ?_ | refine .pick 7 rfl ?_)))
       | ((with_reducible refine P_at 20 ?_);refine P_h rfl rfl (Bm rfl rfl rfl (.here) (.put (.put (.done))) rfl (List.cons_ne_nil _ _) Uc.2 ?_) ?_)
       | ((with_reducible refine P_at 21 ?_);refine P_h rfl rfl (Bm rfl rfl rfl (.there (.here)) (.put (.put (.done))) rfl (List.cons_ne_nil _ _) Uc.2 ?_) ?_)
       | (rintro _ _ hlo ⟨rfl,rfl,-⟩;refine Ek ?_)
   ·refine Y3 ?_;obtain rfl:=Bx ht0 hx4;refine Y2 ?_;exact Mt () () ho0 trivial (by exact .refl)
 ·refine Y3 ?_;refine Al (Ch rfl 48 Tryz.underlying23) rfl ?_;refine Y4 ?_;obtain ⟨t3,hl10,ho3⟩:=Ae hx;refine Lp (σ:=Int) (γ:=Unit) hl10 (fun s9 y9=>[(0,.slice (A0_0) (p0.length) (c0_0)),(1,.slice (A0_1) (p1.length) (c0_1)),(13,.int .i64 (((p1.length:Nat):Int))),(14,.int .i64 (s9))]) (fun s9 y9=>[]++[.old w]) (fun s9 y9=>True) () trivial (by exact .refl) ?_;intro s9 y9 hG9 x14 hx41 ht3;unfold Ey at hx41;refine Y6 ?_;refine Ti hx41 (s:=15) rfl (fun h25 hx42=>?_) (fun h25 hx43=>?_)
  ·refine Y3 ?_;refine Tj (γ:=Unit) hx42 (fun s24 y24=>[(0,.slice (A0_0) (p0.length) (c0_0)),(1,.slice (A0_1) (p1.length) (c0_1)),(13,.int .i64 (((p1.length:Nat):Int))),(14,.int .i64 (s9))]) (fun s24 y24=>[]++[.old w]) (fun s24 y24=>True) (fun s24 y24 hx44 hG10=>?_) (fun j24 hx42=>?_)
   ·refine Y4 ?_;exact Rp (w64 (s9+1)) () hx44 trivial (by exact .refl)
   ·refine Y8 ?_;refine Tj (γ:=Unit) hx42 (fun s27 y27=>[(0,.slice (A0_0) (p0.length) (c0_0)),(1,.slice (A0_1) (p1.length) (c0_1)),(5,.int .i64 (s9)),(13,.int .i64 (((p1.length:Nat):Int))),(14,.int .i64 (s9)),(63,.bool (s27))]) (fun s27 y27=>[]++[.old w]) (fun s27 y27=>True) (fun s27 y27 hx45 hG11=>?_) (fun j27 hx42=>?_)
    ·refine Di (s:=63) rfl (fun h26=>?_) (fun h26=>?_)
     ·have hx46:=Db h26 hx45;refine Y10 ?_;obtain rfl:=Bx ht3 hx46;refine Y3 ?_;obtain rfl:=Option.some.inj ho3;exact Cy (rs:=[.tmp 4]) Tryz.results52 (.tmp rfl (.nil)) (Ln:=[]) ⟨rfl,rfl,trivial⟩ (Do) (by exact .refl)
     ·have hx47:=Eg h26 hx45;refine Y9 ?_;obtain ⟨t4,hl11,ho4⟩:=Ae hx47;refine Lp (σ:=Int) (γ:=Unit) hl11 (fun s10 y10=>[(0,.slice (A0_0) (p0.length) (c0_0)),(1,.slice (A0_1) (p1.length) (c0_1)),(5,.int .i64 (s9)),(6,.int .i64 (s10)),(13,.int .i64 (((p1.length:Nat):Int))),(14,.int .i64 (s9))]) (fun s10 y10=>[]++[.old w]) (fun s10 y10=>True) () trivial (by exact .refl) ?_;intro s10 y10 hG12 x15 hx48 ht4;unfold Cv at hx48;refine Y8 ?_;refine Ti hx48 (s:=66) rfl (fun h27 hx49=>?_) (fun h27 hx50=>?_)
      ·refine Y5 ?_;refine Tj (γ:=Unit) hx49 (fun s38 y38=>[(0,.slice (A0_0) (p0.length) (c0_0)),(1,.slice (A0_1) (p1.length) (c0_1)),(5,.int .i64 (s9)),(6,.int .i64 (s10)),(13,.int .i64 (((p1.length:Nat):Int))),(14,.int .i64 (s9)),(103,.bool (s38))]) (fun s38 y38=>[]++[.old w]) (fun s38 y38=>True) (fun s38 y38 hx51 hG13=>?_) (fun j38 hx49=>?_)
       ·refine Di (s:=103) rfl (fun h28=>?_) (fun h28=>?_)
        ·have hx52:=Db h28 hx51;refine Y9 ?_;obtain rfl:=Bx ht4 hx52;refine Y4 ?_;obtain rfl:=Bx ht3 ho4;refine Y3 ?_;obtain rfl:=Option.some.inj ho3;exact Cy (rs:=[.tmp 4]) Tryz.results52 (.tmp rfl (.nil)) (Ln:=[]) ⟨rfl,rfl,trivial⟩ (Do) (by exact .refl)
        ·have hx53:=Eg h28 hx51;refine Y9 ?_;exact Rp (w64 (s10+1)) () hx53 trivial (by exact .refl)
       ·refine T_dr [0,0,0,1,0,0,0,1,0,0,0,0,0,0,1,0,0,0,0,1,0,0,0,0,0,0,1,0,0,0,0,1,0,0,0] (.q 0 (.q 1 (.q 2 (.q 3 (.q 4 (.q 5 (.q 6 (.q 7 (.q 8 (.q 9 (.q 10 (.q 11 (.q 12 (.q 13 (.q 14 (.q 15 (.q 16 (.q 17 (.q 18 (.q 19 (.q 20 (.q 21 (.q 22 (.q 23 (.q 24 (.q 25 (.q 26 (.q 27 (.q 28 (.q 29 (.q 30 (.q 31 (.q 32 (.q 33 (.q 34 (.done)))))))))))))))))))))))))))))))))))) mixed (by kernel_rfl) (by kernel_rfl) ?_;refine Y2 ?_;obtain ⟨x16,h29,hx54⟩:=Ae hx49;refine P_il (Has.low (E:=[]) ha1' hK) h29 Hc Fg (sb 0) (fun b11 o11=>?_);refine Y2 ?_;obtain ⟨x17,h30,hx55⟩:=Ae hx54;refine P_il (Has.low (E:=[]) ha1' hK) h30 Hc Fg (sb 0) (fun b12 o12=>?_);refine P_p rfl rfl (Ajb rfl rfl (by kernel_rfl) (Aq7 _ _ _ _)) rfl ?_;refine Y ?_;refine Di (s:=78) rfl (fun h31=>?_) (fun h31=>?_)
        ·have hx56:=Db h31 hx55;(iterate 26 refine Y ?_);exact Mt true () hx56 trivial (by exact .refl)
        ·have hx57:=Eg h31 hx55;refine Y2 ?_;obtain ⟨x18,h32,hx58⟩:=Ae hx57;have hw8:=Has.low (E:=[]) ha1' hK;obtain ⟨b13,o13,j13,hA7,hj7,hl12,hp7⟩:=Has.at_idx hw8 h32;refine P_pG rfl rfl rfl rfl rfl (Aw rfl rfl hA7 (j:=j13) hj7 hl12 Hc) rfl ?_;refine P_pG rfl rfl rfl rfl rfl (Ar rfl rfl Ca (by decide) (by decide) rfl) rfl ?_;refine P_qG rfl rfl rfl rfl rfl (De (d:=0) rfl hp7 (sb 0) rfl one3) rfl ?_;refine Y2 ?_;obtain ⟨x19,h33,hx59⟩:=Ae hx58;have hw9:=Has.low (E:=[]) ha1' hK;obtain ⟨b14,o14,j14,hA8,hj8,hl13,hp8⟩:=Has.at_idx hw9 h33;refine P_pG rfl rfl rfl rfl rfl (Aw rfl rfl hA8 (j:=j14) hj8 hl13 Hc) rfl ?_;refine P_pG rfl rfl rfl rfl rfl (Ar rfl rfl Ca (by decide) (by decide) rfl) rfl ?_;refine P_qG rfl rfl rfl rfl rfl (De (d:=1) rfl hp8 (sb 0) rfl one3) rfl ?_;refine Y2 ?_;refine Ti hx59 (s:=90) rfl (fun h34 hx60=>?_) (fun h34 hx61=>?_)
         ·refine Y2 ?_;obtain ⟨x20,h35,hx62⟩:=Ae hx60;have hw10:=Has.low (E:=[]) ha1' hK;obtain ⟨b15,o15,j15,hA9,hj9,hl14,hp9⟩:=Has.at_idx hw10 h35;refine P_pG rfl rfl rfl rfl rfl (Aw rfl rfl hA9 (j:=j15) hj9 hl14 Hc) rfl ?_;refine P_pG rfl rfl rfl rfl rfl (Ar rfl rfl Ca (by decide) (by decide) rfl) rfl ?_;refine P_qG rfl rfl rfl rfl rfl (De (d:=1) rfl hp9 (sb 0) rfl one3) rfl ?_;refine Y2 ?_;obtain ⟨x21,h36,hx63⟩:=Ae hx62;have hw11:=Has.low (E:=[]) ha1' hK;obtain ⟨b16,o16,j16,hA10,hj10,hl15,hp10⟩:=Has.at_idx hw11 h36;refine P_pG rfl rfl rfl rfl rfl (Aw rfl rfl hA10 (j:=j16) hj10 hl15 Hc) rfl ?_;refine P_pG rfl rfl rfl rfl rfl (Ar rfl rfl Ca (by decide) (by decide) rfl) rfl ?_;refine P_qG rfl rfl rfl rfl rfl (De (d:=0) rfl hp10 (sb 0) rfl one3) rfl ?_;refine Y4 ?_;exact Mt (decide (x20.a1=x21.a0)) () hx63 trivial (by exact .refl)
         ·(iterate 14 refine Y ?_);exact Mt false () hx61 trivial (by exact .refl)
      ·refine Y3 ?_;obtain rfl:=Bx ht4 hx50;refine Y3 ?_;exact Mt () () ho4 trivial (by exact .refl)
    ·refine T_dr [0,0,0,0,1,0,0,0,0,0,0,1,0,0,0,0,0,0,0,0,0,1,0,0,0,0,0,0,0,1,0,0,0,0,0,0,0,0,0,1,0,0,0,0,1,0,0] (.q 0 (.q 1 (.q 2 (.q 3 (.q 4 (.q 5 (.q 6 (.q 7 (.q 8 (.q 9 (.q 10 (.q 11 (.q 12 (.q 13 (.q 14 (.q 15 (.q 16 (.q 17 (.q 18 (.q 19 (.q 20 (.q 21 (.q 22 (.q 23 (.q 24 (.q 25 (.q 26 (.q 27 (.q 28 (.q 29 (.q 30 (.q 31 (.q 32 (.q 33 (.q 34 (.q 35 (.q 36 (.q 37 (.q 38 (.q 39 (.q 40 (.q 41 (.q 42 (.q 43 (.q 44 (.q 45 (.q 46 (.done)))))))))))))))))))))))))))))))))))))))))))))))) mixed (by kernel_rfl) (by kernel_rfl) ?_;refine Y2 ?_;obtain ⟨x22,h37,hx64⟩:=Ae hx42;have hw12:=Has.low (E:=[]) ha1' hK;obtain ⟨b17,o17,j17,hA11,hj11,hl16,hp11⟩:=Has.at_idx hw12 h37;refine P_p rfl rfl (Aw rfl rfl hA11 (j:=j17) hj11 hl16 Hc) rfl ?_;refine P_p rfl rfl (Ar rfl rfl Ca (by decide) (by decide) rfl) rfl ?_;refine P_q rfl rfl (De (d:=0) rfl hp11 (sb 0) rfl one3) rfl ?_;refine Y2 ?_;refine Ti hx64 (s:=23) rfl (fun h38 hx65=>?_) (fun h38 hx66=>?_)
     ·(iterate 41 refine Y ?_);exact Mt true () hx65 trivial (by exact .refl)
     ·refine Y2 ?_;obtain ⟨x23,h39,hx67⟩:=Ae hx66;have hw13:=Has.low (E:=[]) ha1' hK;obtain ⟨b18,o18,j18,hA12,hj12,hl17,hp12⟩:=Has.at_idx hw13 h39;refine P_pG rfl rfl rfl rfl rfl (Aw rfl rfl hA12 (j:=j18) hj12 hl17 Hc) rfl ?_;refine P_pG rfl rfl rfl rfl rfl (Ar rfl rfl Ca (by decide) (by decide) rfl) rfl ?_;refine P_qG rfl rfl rfl rfl rfl (De (d:=0) rfl hp12 (sb 0) rfl one3) rfl ?_;refine Y ?_;refine P_pG rfl rfl rfl rfl rfl (Ch rfl 43 Tryz.underlying22) rfl ?_;refine Y3 ?_;refine Ti hx67 (s:=33) rfl (fun h40 hx68=>?_) (fun h40 hx69=>?_)
      ·(iterate 31 refine Y ?_);exact Mt true () hx68 trivial (by exact .refl)
      ·refine Y2 ?_;obtain ⟨x24,h41,hx70⟩:=Ae hx69;have hw14:=Has.low (E:=[]) ha1' hK;obtain ⟨b19,o19,j19,hA13,hj13,hl18,hp13⟩:=Has.at_idx hw14 h41;refine P_pG rfl rfl rfl rfl rfl (Aw rfl rfl hA13 (j:=j19) hj13 hl18 Hc) rfl ?_;refine P_pG rfl rfl rfl rfl rfl (Ar rfl rfl Ca (by decide) (by decide) rfl) rfl ?_;refine P_qG rfl rfl rfl rfl rfl (De (d:=1) rfl hp13 (sb 0) rfl one3) rfl ?_;refine Y3 ?_;refine Ti hx70 (s:=41) rfl (fun h42 hx71=>?_) (fun h42 hx72=>?_)
       ·(iterate 23 refine Y ?_);exact Mt true () hx71 trivial (by exact .refl)
       ·refine Y2 ?_;obtain ⟨x25,h43,hx73⟩:=Ae hx72;have hw15:=Has.low (E:=[]) ha1' hK;obtain ⟨b20,o20,j20,hA14,hj14,hl19,hp14⟩:=Has.at_idx hw15 h43;refine P_pG rfl rfl rfl rfl rfl (Aw rfl rfl hA14 (j:=j20) hj14 hl19 Hc) rfl ?_;refine P_pG rfl rfl rfl rfl rfl (Ar rfl rfl Ca (by decide) (by decide) rfl) rfl ?_;refine P_qG rfl rfl rfl rfl rfl (De (d:=1) rfl hp14 (sb 0) rfl one3) rfl ?_;refine Y ?_;refine P_pG rfl rfl rfl rfl rfl (Ch rfl 43 Tryz.underlying22) rfl ?_;refine Y3 ?_;refine Ti hx73 (s:=51) rfl (fun h44 hx74=>?_) (fun h44 hx75=>?_)
        ·(iterate 13 refine Y ?_);exact Mt true () hx74 trivial (by exact .refl)
        ·refine Y2 ?_;obtain ⟨x26,h45,hx76⟩:=Ae hx75;have hw16:=Has.low (E:=[]) ha1' hK;obtain ⟨b21,o21,j21,hA15,hj15,hl20,hp15⟩:=Has.at_idx hw16 h45;refine P_pG rfl rfl rfl rfl rfl (Aw rfl rfl hA15 (j:=j21) hj15 hl20 Hc) rfl ?_;refine P_pG rfl rfl rfl rfl rfl (Ar rfl rfl Ca (by decide) (by decide) rfl) rfl ?_;refine P_qG rfl rfl rfl rfl rfl (De (d:=0) rfl hp15 (sb 0) rfl one3) rfl ?_;refine Y2 ?_;obtain ⟨x27,h46,hx77⟩:=Ae hx76;have hw17:=Has.low (E:=[]) ha1' hK;obtain ⟨b22,o22,j22,hA16,hj16,hl21,hp16⟩:=Has.at_idx hw17 h46;refine P_pG rfl rfl rfl rfl rfl (Aw rfl rfl hA16 (j:=j22) hj16 hl21 Hc) rfl ?_;refine P_pG rfl rfl rfl rfl rfl (Ar rfl rfl Ca (by decide) (by decide) rfl) rfl ?_;refine P_qG rfl rfl rfl rfl rfl (De (d:=1) rfl hp16 (sb 0) rfl one3) rfl ?_;refine Y3 ?_;exact Mt (decide (x26.a0=x27.a1)) () hx77 trivial (by exact .refl)
  ·refine Y3 ?_;obtain rfl:=Bx ht3 hx43;refine Y2 ?_;exact Mt () () ho3 trivial (by exact .refl)
set_option maxHeartbeats 8000000 in
set_option maxRecDepth 100000 in
instance lidarref06_linesError_c (p0:List Ab) (p1:List Aa):Con (Et p0 p1) Tryz.prog 52 (fun K vs=>∃ (A0_0:Option Addr) (c0_0:Nat) (A0_1:Option Addr) (c0_1:Nat),vs=[.slice (A0_0) ((p0).length) (c0_0),.slice (A0_1) ((p1).length) (c0_1)]∧Has K A0_0 (p0).length c0_0 4 Ad (p0)∧Has K A0_1 (p1).length c0_1 2 Af (p1)∧True) (fun _ r=>fun v Ln=>v = .int .i64 (r)∧Ln=[]∧True):=⟨by
 rintro K _ r ⟨A0_0,c0_0,A0_1,c0_1,rfl,ha0,ha1,-⟩ hx w hK;exact Rr p0 p1 ha0 ha1 hx w hK⟩
set_option maxRecDepth 100000 in
instance Xf (p0:List Ab) (p1:List Aa):Con (Ik p0 p1) Tryz.prog 10 (fun K vs=>∃ (A0_0:Option Addr) (c0_0:Nat) (A0_1:Option Addr) (c0_1:Nat),vs=[.slice (A0_0) ((p0).length) (c0_0),.slice (A0_1) ((p1).length) (c0_1)]∧Has K A0_0 (p0).length c0_0 4 Ad (p0)∧Has K A0_1 (p1).length c0_1 2 Af (p1)∧True) (fun _ r=>fun v Ln=>v = .int .i64 (r)∧Ln=[]∧True):=⟨by
 rintro K _ r ⟨A0_0,c0_0,A0_1,c0_1,rfl,ha0,ha1,-⟩ hx w hK;replace ha0:=Has.lo ha0 hK;replace ha1:=Has.lo ha1 hK;unfold Ik at hx;refine CtS Tryz.ntmps10 Tryz.results10 ?_;exact au⟩
theorem Vv (p0:List Ab) (p1:List Aa) {K:List Ent} {A0_0:Option Addr} {c0_0:Nat} {A0_1:Option Addr} {c0_1:Nat} (ha0:Has K A0_0 (p0).length c0_0 4 Ad (p0)) (ha1:Has K A0_1 (p1).length c0_1 2 Af (p1)) {r:Int} (hx:Ik p0 p1=some r) (w:World) (hK:∀ e∈K,Ent.ok w e):CtL Tryz.prog 10 [.slice (A0_0) ((p0).length) (c0_0),.slice (A0_1) ((p1).length) (c0_1)] w fun v Ln=>v = .int .i64 (r)∧Ln=[]∧True:=(Xf p0 p1).h K _ _ ⟨_,_,_,_,rfl,ha0,ha1,trivial⟩ hx w hK
end Go.Proofs.YtgfiafnelibjgaaGreat
