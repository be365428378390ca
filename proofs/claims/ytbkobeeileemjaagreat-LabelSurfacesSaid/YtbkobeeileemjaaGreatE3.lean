/- Walks of the program, with their plain functions: the reference's mesh. -/
import Derived.Test.YtbkobeeileemjaaGreatE2
namespace Go.Proofs.YtbkobeeileemjaaGreat
open Go Go.RowKit
theorem Arp:Uh Tryz.prog 26 [.int .i64 (0),.int .i64 (0),.int .i64 (0)]:=⟨_,Tryz.zeroValue26,rfl⟩
theorem Kx (x0:Int) (x1:Int) (x2:Int) (x3:Int):Dn Tryz.prog 22 1 [(0,.agg #[.int .i64 x0,.int .i64 x1,.int .i64 x2,.int .i64 x3])] 34 [.int .i64 x0,.int .i64 x1,.int .i64 x2,.int .i64 x3]:=fun w=>by kernel_rfl
noncomputable def Ft (p0:Am) (p1:Am):Int→Option (Sum Int (Sum Unit Bool)):=fun s0 =>
 if s0 < 3 then (bnd (idx [p0.a0,p0.a1,p0.a2] s0) fun x0 =>
 bnd (idx [p1.a0,p1.a1,p1.a2] s0) fun x1 =>
 if x0=x1 then (some (.inl (w64 (s0+1))))
 else (bnd (idx [p0.a0,p0.a1,p0.a2] s0) fun x2 =>
 bnd (idx [p1.a0,p1.a1,p1.a2] s0) fun x3 =>
 some (.inr (.inr (decide (x2 < x3))))))
 else (some (.inr (.inl ())))
noncomputable def Lj (p0:Am) (p1:Am):Option Bool :=
 jn (fun (s2:Unit) =>
 some false)
 (fun j2=>bnd (lfix (Ft p0 p1) 0) fun t0 =>
 (match t0 with
 | (.inl z0)=>j2 z0
 | (.inr (z0))=>some z0
 ))
noncomputable def Gh  : ((List Am) × Int)→Option (Sum ((List Am) × Int) (List Am)):=fun s0 =>
 jn (fun (s1:Bool) =>
 if s1=true then (bnd (idx s0.1 (w64 (s0.2-1))) fun x0 =>
 bnd (idx s0.1 s0.2) fun x1 =>
 bnd (idx s0.1 s0.2) fun x2 =>
 bnd (idx (setI s0.1 s0.2 x0) (w64 (s0.2-1))) fun x3 =>
 some (.inl (setI (setI s0.1 s0.2 x0) (w64 (s0.2-1)) x1,w64 (s0.2-1))))
 else (some (.inr s0.1)))
 (fun j0=>if 0 < s0.2 then (bnd (idx s0.1 s0.2) fun x4 =>
 bnd (idx s0.1 (w64 (s0.2-1))) fun x5 =>
 bnd (Lj x4 x5) fun r0 =>
 j0 r0)
 else (j0 false))
noncomputable def Gi (p0:List Am):((List Am) × Int)→Option (Sum ((List Am) × Int) (List Am)):=fun s0 =>
 if s0.2 < ((((p0).length:Nat):Int)) then (jn (fun (s1:List Am) =>
 some (.inl (s1,w64 (s0.2+1))))
 (fun j0=>bnd (lfix (Gh) (s0.1,s0.2)) fun t0 =>
 j0 t0))
 else (some (.inr s0.1))
noncomputable def Jf (p0:List Am):Option (List Am) :=
 jn (fun (s2:List Am) =>
 some s2)
 (fun j2=>bnd (lfix (Gi p0) (p0,0)) fun t0 =>
 j2 t0)
noncomputable def Er  : (Int × Int × Int)→Option (Sum (Int × Int × Int) (Int × Int × Int)):=fun s0 =>
 jn (fun (s6:Bool) =>
 if s6=true then (some (.inl (s0.2.1,s0.2.2,s0.1)))
 else (some (.inr (s0.1,s0.2.1,s0.2.2))))
 (fun j6=>if s0.2.1 < s0.1 then (j6 true)
 else (j6 (decide (s0.2.2 < s0.1))))
noncomputable def Jg (p0:Am):Option Am :=
 jn (fun (s2:Int × Int × Int) =>
 some (⟨s2.1,s2.2.1,s2.2.2⟩:Am))
 (fun j2=>bnd (lfix (Er) (p0.a0,p0.a1,p0.a2)) fun t0 =>
 j2 t0)
noncomputable def Mc (p0:List Ab):((List Ab) × Int)→Option (Sum ((List Ab) × Int) (List Ab)):=fun s6 =>
 if s6.2 < ((((p0).length:Nat):Int)) then (none)
 else (some (.inr s6.1))
noncomputable def Md (s3:List Ab):Int→Option (Sum Int Unit):=fun s0 =>
 if s0 < ((((s3).length:Nat):Int)) then (none)
 else (some (.inr ()))
noncomputable def Hx (p0:List Ab):Option (List Ab) :=
 jn (fun (s3:List Ab) =>
 jn (fun (s9:Unit) =>
 some s3)
 (fun j9=>bnd (lfix (Md s3) 0) fun t0 =>
 j9 t0))
 (fun j3=>bnd (lfix (Mc p0) (([]:List Ab),0)) fun t6 =>
 j3 t6)
noncomputable def Dg (r0:Am) (s0:(List Ab) × (List (Ab × Bool)) × (List Am)):((List Ab) × (List (Ab × Bool)) × Int)→Option (Sum ((List Ab) × (List (Ab × Bool)) × Int) ((List Ab) × (List (Ab × Bool)) × (List Am))):=fun s1 =>
 if s1.2.2 < 3 then (bnd (idx [r0.a0,r0.a1,r0.a2] s1.2.2) fun x0 =>
 bnd (idx [r0.a0,r0.a1,r0.a2] (Int.tmod (w64 (s1.2.2+1)) 3)) fun x1 =>
 gd ((-9223372036854775808≤x0∧x0≤9223372036854775807)∧(-9223372036854775808≤x1∧x1≤9223372036854775807)) <|
 gd ((s1.2.1).length < 9223372036854775807) <|
 gd (((s1.1).length+1)*16≤140737488355328) <|
 some (.inl (s1.1++[(⟨x1,x0⟩:Ab)],mput s1.2.1 ((⟨x0,x1⟩:Ab)) true,w64 (s1.2.2+1))))
 else (some (.inr (s1.1,s1.2.1,s0.2.2++[r0])))
noncomputable def Es (p0:List Ae) (p1:List Ab):((List Ab) × (List (Ab × Bool)) × (List Am))→Option (Sum ((List Ab) × (List (Ab × Bool)) × (List Am)) (List Am)):=fun s0 =>
 if 0 < ((((s0.1).length:Nat):Int)) then (bnd (idx s0.1 (w64 (((((s0.1).length:Nat):Int))-1))) fun x0 =>
 gd (0≤(w64 (((((s0.1).length:Nat):Int))-1))∧(w64 (((((s0.1).length:Nat):Int))-1))≤(((s0.1).length:Nat):Int)) <|
 gd ((-9223372036854775808≤x0.a0∧x0.a0≤9223372036854775807)∧(-9223372036854775808≤x0.a1∧x0.a1≤9223372036854775807)) <|
 bnd (some ((mget s0.2.1 x0).getD false)) fun x1 =>
 if x1=true then (some (.inl (List.take (Int.toNat (w64 (((((s0.1).length:Nat):Int))-1))) s0.1,s0.2.1,s0.2.2)))
 else (bnd (Lt p0 p1 x0.a0 x0.a1) fun r0 =>
 if r0 < 0 then (gd ((-9223372036854775808≤x0.a0∧x0.a0≤9223372036854775807)∧(-9223372036854775808≤x0.a1∧x0.a1≤9223372036854775807)) <|
 gd ((s0.2.1).length < 9223372036854775807) <|
 some (.inl (List.take (Int.toNat (w64 (((((s0.1).length:Nat):Int))-1))) s0.1,mput s0.2.1 x0 true,s0.2.2)))
 else (bnd (Jg (⟨x0.a0,x0.a1,r0⟩:Am)) fun r1 =>
 gd (((s0.2.2).length+1)*24≤140737488355328) <|
 bnd (lfix (Dg r1 s0) (List.take (Int.toNat (w64 (((((s0.1).length:Nat):Int))-1))) s0.1,s0.2.1,0)) fun t0 =>
 some (.inl t0))))
 else (some (.inr s0.2.2))
noncomputable def Gj (p0:List Ae) (p1:List Ab):Option (List Am) :=
 jn (fun (s3:Bool) =>
 if s3=true then (some ([]:List Am))
 else (bnd (Kt p0) fun r0 =>
 bnd (Lx p0 r0 false) fun r1 =>
 jn (fun (s9:List Am) =>
 bnd (Jf s9) fun r2 =>
 some r2)
 (fun j9=>bnd (lfix (Es p0 p1) ([(⟨r0,r1⟩:Ab)],([]:List (Ab × Bool)),([]:List Am))) fun t0 =>
 j9 t0)))
 (fun j3=>if ((((p0).length:Nat):Int)) < 3 then (j3 true)
 else (bnd (Ly p0) fun r4 =>
 j3 r4))
noncomputable def Gv (p0:List Ae):((List Ae) × Int)→Option (Sum ((List Ae) × Int) (List Ae)):=fun s0 =>
 if s0.2 < ((((p0).length:Nat):Int)) then (bnd (idx p0 s0.2) fun x0 =>
 gd (((s0.1).length+1)*32≤140737488355328) <|
 some (.inl (s0.1++[x0],w64 (s0.2+1))))
 else (some (.inr s0.1))
noncomputable def Kf (p0:List Ae) (p1:List Ab):Option (Bz × Int) :=
 bnd (Nv p0 p1) fun r2 =>
 if r2=0 then (jn (fun (s7:List Ae) =>
 bnd (Hx p1) fun r0 =>
 bnd (Gj p0 r0) fun r1 =>
 some ((⟨s7,r1,r0⟩:Bz),0))
 (fun j7=>bnd (lfix (Gv p0) (([]:List Ae),0)) fun t0 =>
 j7 t0))
 else (some ((⟨([]:List Ae),([]:List Am),([]:List Ab)⟩:Bz),r2))
set_option maxRecDepth 100000 in
theorem Zx (p0:Am) (p1:Am)  {r:Bool} (hx:Lj p0 p1=some r) (w:World):CtL Tryz.prog 343 [.agg #[.int .i64 (p0.a0),.int .i64 (p0.a1),.int .i64 (p0.a2)],.agg #[.int .i64 (p1.a0),.int .i64 (p1.a1),.int .i64 (p1.a2)]] w fun v Ln=>v = .bool (r)∧Ln=[]∧True:=by
 refine CtL.mk 24 Tryz.func343 rfl Tryz.ntmps343 (by kernel_rfl) rfl ?_;show T 24 _ [(0,.agg #[.int .i64 (p0.a0),.int .i64 (p0.a1),.int .i64 (p0.a2)]),(1,.agg #[.int .i64 (p1.a0),.int .i64 (p1.a1),.int .i64 (p1.a2)])] _;unfold Lj at hx;refine Y2 ?_;refine T_x (Bl rfl rfl rfl (fun g1=>?_));refine T_x (Bl rfl rfl rfl (fun g2=>?_));refine Y3 ?_;refine Tj (γ:=Unit) hx (fun s2 y2=>[]) (fun s2 y2=>[]++[.old w]) (fun s2 y2=>True) (fun s2 y2 hx0 hG0=>?_) (fun j2 hx=>?_)
 ·refine Y6 ?_;obtain rfl:=Option.some.inj hx0;exact Av (rs:=[.tmp 4]) Tryz.results343 (.tmp rfl (.nil)) (Ln:=[]) ⟨rfl,rfl,trivial⟩ (Ax) (by exact .refl)
 ·refine Y6 ?_;obtain ⟨t0,hl0,ho0⟩:=Ac hx;refine Lp (σ:=Int) (γ:=Unit) hl0 (fun s0 y0=>[(2,.pointer (some ⟨g1,0,none⟩)),(3,.pointer (some ⟨g2,0,none⟩)),(6,.int .i64 (s0))]) (fun s0 y0=>[.m g2 26 [.int .i64 (p1.a0),.int .i64 (p1.a1),.int .i64 (p1.a2)],.m g1 26 [.int .i64 (p0.a0),.int .i64 (p0.a1),.int .i64 (p0.a2)]]++[.old w]) (fun s0 y0=>True) () trivial (by exact .pick 0 rfl (.pick 0 rfl (.refl))) ?_;intro s0 y0 hG1 x0 hx1 ht0;unfold Ft at hx1;refine Y6 ?_;refine Ti hx1 (s:=7) rfl (fun h0 hx2=>?_) (fun h0 hx3=>?_)
  ·refine Y12 ?_;refine T_dr [0,0,1,0,0,1,0] (.q 0 (.q 1 (.q 2 (.q 3 (.q 4 (.q 5 (.q 6 (.done)))))))) mixed (by kernel_rfl) (by kernel_rfl) ?_;refine Y ?_;obtain ⟨x1,h1,hx4⟩:=Ac hx2;refine P_p rfl rfl (Bm rfl rfl Su (Ot h1).1 (Ot h1).2 rfl) rfl ?_;refine P_q rfl rfl (Vk Bs (o:=0) rfl (i:=1) rfl h1 rfl (fun _=>rfl) rfl one3) rfl ?_;refine Y ?_;obtain ⟨x2,h2,hx5⟩:=Ac hx4;refine P_p rfl rfl (Bm rfl rfl Su (Ot h2).1 (Ot h2).2 rfl) rfl ?_;refine P_q rfl rfl (Vk Bs (o:=0) rfl (i:=0) rfl h2 rfl (fun _=>rfl) rfl one3) rfl ?_;refine Y3 ?_;refine Fb (s:=15) rfl (fun h3=>?_) (fun h3=>?_)
   ·have hx6:=Pr h3 hx5;refine Y2 ?_;refine T_dr [0,0,1,0,0,1,0,2] (.q 0 (.q 1 (.q 2 (.q 3 (.q 4 (.q 5 (.q 6 (.e 7 (.done) (.stop))))))))) mixed (by kernel_rfl) (by kernel_rfl) ?_;refine Y ?_;obtain ⟨x3,h4,hx7⟩:=Ac hx6;refine P_p rfl rfl (Bm rfl rfl Su (Ot h4).1 (Ot h4).2 rfl) rfl ?_;refine P_q rfl rfl (Vk Bs (o:=0) rfl (i:=1) rfl h4 rfl (fun _=>rfl) rfl one3) rfl ?_;refine Y ?_;obtain ⟨x4,h5,hx8⟩:=Ac hx7;refine P_p rfl rfl (Bm rfl rfl Su (Ot h5).1 (Ot h5).2 rfl) rfl ?_;refine P_q rfl rfl (Vk Bs (o:=0) rfl (i:=0) rfl h5 rfl (fun _=>rfl) rfl one3) rfl ?_;refine Y ?_;refine P_x rfl (Ec (Ce rfl) rfl ?_) ?_;rotate_left;exact Bb;refine Y5 ?_;obtain rfl:=Bd ht0 hx8;refine Y3 ?_;obtain rfl:=Option.some.inj ho0;exact Av (rs:=[.tmp 4]) Tryz.results343 (.tmp rfl (.nil)) (Ln:=[]) ⟨rfl,rfl,trivial⟩ (Ax) (by exact .drop 0 rfl (.drop 0 rfl (.refl)))
   ·have hx9:=Bx h3 hx5;refine Y8 ?_;exact Rp (w64 (s0+1)) () hx9 trivial (by exact .pick 0 rfl (.pick 0 rfl (.refl)))
  ·refine Y3 ?_;obtain rfl:=Bd ht0 hx3;refine Y2 ?_;exact Mt () () ho0 trivial (by exact .drop 0 rfl (.drop 0 rfl (.refl)))
set_option maxRecDepth 100000 in
theorem Xl (p0:List Am) {B0_0:Option Addr} {d0_0:Nat} {K:List Ent} {r:List Am} (hx:Jf p0=some r):CtK Tryz.prog 291 [.slice (B0_0) (p0.length) (d0_0)] K [.r (B0_0) (p0.length) (d0_0) 26 3 (p0.flatMap Ba)] fun v Ln=>∃ (A0:Option Addr) (c0:Nat),v = .slice (A0) (r.length) (c0)∧Ln=[.r A0 r.length c0 26 3 (r.flatMap Ba)]∧True:=by
 refine CtK.mk 45 Tryz.func291 rfl Tryz.ntmps291 (by kernel_rfl) rfl ?_;intro Lf hKf;show T 45 _ [(0,.slice (B0_0) (p0.length) (d0_0))] ([.r (B0_0) (p0.length) (d0_0) 26 3 (p0.flatMap Ba)]++Lf);unfold Jf at hx;refine Y5 ?_;refine Tj (γ:=(Option Addr) × Nat) hx (fun s2 y2=>[(0,.slice (y2.1) (s2.length) (y2.2))]) (fun s2 y2=>[.r (y2.1) (s2.length) (y2.2) 26 3 (s2.flatMap Ba)]++Lf) (fun s2 y2=>True) (fun s2 y2 hx0 hG0=>?_) (fun j2 hx=>?_)
 ·refine Y7 ?_;obtain rfl:=Option.some.inj hx0;exact Zv (rs:=[.tmp 2]) Tryz.results291 (.tmp rfl (.nil)) (Ln:=[.r (y2.1) (s2.length) (y2.2) 26 3 (s2.flatMap Ba)]) ⟨y2.1,y2.2,rfl,rfl,trivial⟩ (by exact .pick 0 rfl (.refl))
 ·refine Y3 ?_;refine Af (Bf rfl 26 Tryz.underlying38) rfl ?_;refine Y4 ?_;obtain ⟨t0,hl0,ho0⟩:=Ac hx;refine Lp (σ:=(List Am) × Int) (γ:=(Option Addr) × Nat) hl0 (fun s0 y0=>[(0,.slice (y0.1) (s0.1.length) (y0.2)),(6,.int .i64 (((p0.length:Nat):Int))),(7,.int .i64 (s0.2))]) (fun s0 y0=>[.r (y0.1) (s0.1.length) (y0.2) 26 3 (s0.1.flatMap Ba)]++Lf) (fun s0 y0=>True) (B0_0,d0_0) trivial (by exact .pick 0 rfl (.refl)) ?_;intro s0 y0 hG1 x0 hx1 ht0;unfold Gi at hx1;refine Y6 ?_;refine Ti hx1 (s:=8) rfl (fun h0 hx2=>?_) (fun h0 hx3=>?_)
  ·refine Y3 ?_;refine Tj (γ:=(Option Addr) × Nat) hx2 (fun s1 y1=>[(0,.slice (y1.1) (s1.length) (y1.2)),(6,.int .i64 (((p0.length:Nat):Int))),(7,.int .i64 (s0.2))]) (fun s1 y1=>[.r (y1.1) (s1.length) (y1.2) 26 3 (s1.flatMap Ba)]++Lf) (fun s1 y1=>True) (fun s1 y1 hx4 hG2=>?_) (fun j0 hx2=>?_)
   ·refine Y4 ?_;exact Rp (s1,w64 (s0.2+1)) (y1.1,y1.2) hx4 trivial (by exact .pick 0 rfl (.refl))
   ·(iterate 14 refine Y ?_);obtain ⟨t1,hl1,ho1⟩:=Ac hx2;refine Lp (σ:=(List Am) × Int) (γ:=(Option Addr) × Nat) hl1 (fun s3 y3=>[(0,.slice (y3.1) (s3.1.length) (y3.2)),(4,.int .i64 (s3.2)),(6,.int .i64 (((p0.length:Nat):Int))),(7,.int .i64 (s0.2))]) (fun s3 y3=>[.r (y3.1) (s3.1.length) (y3.2) 26 3 (s3.1.flatMap Ba)]++Lf) (fun s3 y3=>True) (y0.1,y0.2) trivial (by exact .pick 0 rfl (.refl)) ?_;intro s3 y3 hG3 x1 hx5 ht1;unfold Gh at hx5;refine Y ?_;refine Tj (γ:=Unit) hx5 (fun s4 y4=>[(0,.slice (y3.1) (s3.1.length) (y3.2)),(4,.int .i64 (s3.2)),(6,.int .i64 (((p0.length:Nat):Int))),(7,.int .i64 (s0.2)),(24,.bool (s4))]) (fun s4 y4=>[.r (y3.1) (s3.1.length) (y3.2) 26 3 (s3.1.flatMap Ba)]++Lf) (fun s4 y4=>True) (fun s4 y4 hx6 hG4=>?_) (fun j1 hx5=>?_)
    ·refine By (s:=24) rfl (fun h1=>?_) (fun h1=>?_)
     ·have hx7:=Bx h1 hx6;refine Y5 ?_;refine T_dr [0,0,0,0,0,0,0,0,0,1,0,0,0,1,0,3,0,3] (.q 0 (.q 1 (.q 2 (.q 3 (.q 4 (.q 5 (.q 6 (.q 7 (.q 8 (.q 9 (.q 10 (.q 11 (.q 12 (.q 13 (.q 14 (.e 15 (.q 16 (.e 17 (.done) (.stop))) (.stop))))))))))))))))) mixed (by kernel_rfl) (by kernel_rfl) ?_;refine Y8 ?_;obtain ⟨x2,h2,hx8⟩:=Ac hx7;refine Ii (k:=0) rfl (by decide) (fun _=>rfl) h2 (fun b0 j3 hA0 hj0 hl2 hm0 hp0=>?_);refine P_p rfl rfl (Az rfl rfl hA0 (j:=j3) hj0 hl2 Ac6) rfl ?_;refine P_q rfl rfl (Cg rfl hp0 (sb 0) rfl Ua) rfl ?_;refine Y2 ?_;obtain ⟨x3,h3,hx9⟩:=Ac hx8;refine Ii (k:=0) rfl (by decide) (fun _=>rfl) h3 (fun b1 j4 hA1 hj1 hl3 hm1 hp1=>?_);refine P_p rfl rfl (Az rfl rfl hA1 (j:=j4) hj1 hl3 Ac6) rfl ?_;refine P_q rfl rfl (Cg rfl hp1 (sb 0) rfl Ua) rfl ?_;obtain ⟨x4,h4,hx10⟩:=Ac hx9;refine Ii (k:=0) rfl (by decide) (fun _=>rfl) h4 (fun b2 j5 hA2 hj2 hl4 hm2 hp2=>?_);refine P_p rfl rfl (Az rfl rfl hA2 (j:=j5) hj2 hl4 Ac6) rfl ?_;refine P_h rfl rfl (Ra Ba (s3.1) (s3.2) (x2) rfl rfl rfl (.here) hA2 rfl hj2 hl4 (fun _=>rfl) (by decide) rfl Ua.2 ?_) ?_;rotate_left;exact Bb;obtain ⟨x5,h5,hx11⟩:=Ac hx10;refine Ii (k:=0) rfl (by decide) (fun _=>rfl) h5 (fun b3 j6 hA3 hj3 hl5 hm3 hp3=>?_)
      refine P_p rfl rfl (Az rfl rfl hA3 (j:=j6) hj3 hl5 Ac6) rfl ?_;refine P_h rfl rfl (Ra Ba (setI s3.1 s3.2 x2) (w64 (s3.2-1)) (x3) rfl rfl rfl (.here) hA3 rfl hj3 hl5 (fun _=>rfl) (by decide) rfl Ua.2 ?_) ?_;rotate_left;exact Bb;refine Y8 ?_
      have hn0:s3.1.length=(setI (setI s3.1 s3.2 x2) (w64 (s3.2-1)) x3).length:=by simp [Bq,Ca,List.length_append] <;> omega
      refine Ds (.here) (e':=.r (y3.1) ((setI (setI s3.1 s3.2 x2) (w64 (s3.2-1)) x3).length) (y3.2) 26 3 ((setI (setI s3.1 s3.2 x2) (w64 (s3.2-1)) x3).flatMap Ba)) (by first | (rw [← hn0];done) | rfl) ?_;refine Eo (s:=0) (v':=.slice (y3.1) ((setI (setI s3.1 s3.2 x2) (w64 (s3.2-1)) x3).length) (y3.2)) rfl (by have hn1:(s3.1.length)=(setI (setI s3.1 s3.2 x2) (w64 (s3.2-1)) x3).length:=(by simp [Bq,Ca,List.length_append] <;> omega);first | (rw [← hn1];done) | rfl) ?_;exact Rp (setI (setI s3.1 s3.2 x2) (w64 (s3.2-1)) x3,w64 (s3.2-1)) (y3.1,y3.2) hx11 trivial (by exact .pick 0 rfl (.refl))
     ·have hx12:=Bn h1 hx6;refine Y3 ?_;obtain rfl:=Bd ht1 hx12;refine Y3 ?_;exact Mt s3.1 (y3.1,y3.2) ho1 trivial (by exact .pick 0 rfl (.refl))
    ·refine T_dr [0,0,0,0,0,0,1,0,0,0,0,1,2,0] (.q 0 (.q 1 (.q 2 (.q 3 (.q 4 (.q 5 (.q 6 (.q 7 (.q 8 (.q 9 (.q 10 (.q 11 (.e 12 (.q 13 (.done)) (.stop)))))))))))))) mixed (by kernel_rfl) (by kernel_rfl) ?_;refine Y3 ?_;refine Ti hx5 (s:=13) rfl (fun h6 hx13=>?_) (fun h6 hx14=>?_)
     ·refine Y2 ?_;obtain ⟨x6,h7,hx15⟩:=Ac hx13;refine Ii (k:=0) rfl (by decide) (fun _=>rfl) h7 (fun b4 j7 hA4 hj4 hl6 hm4 hp4=>?_);refine P_pG rfl rfl rfl rfl rfl (Az rfl rfl hA4 (j:=j7) hj4 hl6 Ac6) rfl ?_;refine P_qG rfl rfl rfl rfl rfl (Cg rfl hp4 (sb 0) rfl Ua) rfl ?_;refine Y3 ?_;obtain ⟨x7,h8,hx16⟩:=Ac hx15;refine Ii (k:=0) rfl (by decide) (fun _=>rfl) h8 (fun b5 j8 hA5 hj5 hl7 hm5 hp5=>?_);refine P_pG rfl rfl rfl rfl rfl (Az rfl rfl hA5 (j:=j8) hj5 hl7 Ac6) rfl ?_;refine P_qG rfl rfl rfl rfl rfl (Cg rfl hp5 (sb 0) rfl Ua) rfl ?_;obtain ⟨r0,h9,hx17⟩:=Ac hx16;refine P_xG rfl rfl rfl rfl (Aw rfl (fun w1 hw1=>Zx x6 x7  h9 w1) rfl ?_) ?_;rotate_left;exact Bb;rintro _ _ hlo ⟨rfl,rfl,-⟩;refine Cs ?_;refine Y2 ?_;exact Mt r0 () hx17 trivial (by exact .pick 0 rfl (.refl))
     ·refine Y9 ?_;refine Dw rfl rfl rfl rfl rfl rfl ?_ ?_;rotate_left;exact Bb;refine Y2 ?_;exact Mt false () hx14 trivial (by exact .pick 0 rfl (.refl))
  ·refine Y3 ?_;obtain rfl:=Bd ht0 hx3;refine Y2 ?_;exact Mt s0.1 (y0.1,y0.2) ho0 trivial (by exact .pick 0 rfl (.refl))
set_option maxRecDepth 100000 in
theorem Xm (p0:Am)  {r:Am} (hx:Jg p0=some r) (w:World):CtL Tryz.prog 290 [.agg #[.int .i64 (p0.a0),.int .i64 (p0.a1),.int .i64 (p0.a2)]] w fun v Ln=>v = .agg #[.int .i64 (r.a0),.int .i64 (r.a1),.int .i64 (r.a2)]∧Ln=[]∧True:=by
 refine CtL.mk 23 Tryz.func290 rfl Tryz.ntmps290 (by kernel_rfl) rfl ?_;show T 23 _ [(0,.agg #[.int .i64 (p0.a0),.int .i64 (p0.a1),.int .i64 (p0.a2)])] _;unfold Jg at hx;refine Y2 ?_;refine T_x (Bl rfl rfl rfl (fun g1=>?_));refine T_x (Bp Arp rfl (fun g2=>?_));refine Y2 ?_;refine Tj (γ:=Unit) hx (fun s2 y2=>[(1,.pointer (some ⟨g1,0,none⟩)),(2,.pointer (some ⟨g2,0,none⟩))]) (fun s2 y2=>[.m g2 26 [.int .i64 (0),.int .i64 (0),.int .i64 (0)],.m g1 26 [.int .i64 (s2.1),.int .i64 (s2.2.1),.int .i64 (s2.2.2)]]++[.old w]) (fun s2 y2=>True) (fun s2 y2 hx0 hG0=>?_) (fun j2 hx=>?_)
 ·refine Y2 ?_;refine Af (Au rfl (i:=1) rfl rfl Ua) rfl ?_;refine T_h (Bc rfl rfl rfl (.here) (.put (.put (.put (.done)))) rfl (List.cons_ne_nil _ _) Ua.2 ?_);refine Y3 ?_;obtain rfl:=Option.some.inj hx0;exact Av (rs:=[.cell 2 26]) Tryz.results290 (.cell rfl (i:=0) rfl rfl Ua (.nil)) (Ln:=[]) ⟨rfl,rfl,trivial⟩ (Ax) (by exact .drop 0 rfl (.drop 0 rfl (.refl)))
 ·refine Y ?_;obtain ⟨t0,hl0,ho0⟩:=Ac hx;refine Lp (σ:=Int × Int × Int) (γ:=Unit) hl0 (fun s0 y0=>[(1,.pointer (some ⟨g1,0,none⟩)),(2,.pointer (some ⟨g2,0,none⟩))]) (fun s0 y0=>[.m g2 26 [.int .i64 (0),.int .i64 (0),.int .i64 (0)],.m g1 26 [.int .i64 (s0.1),.int .i64 (s0.2.1),.int .i64 (s0.2.2)]]++[.old w]) (fun s0 y0=>True) () trivial (by exact .pick 0 rfl (.pick 0 rfl (.refl))) ?_;intro s0 y0 hG1 x0 hx1 ht0;unfold Er at hx1;refine Y ?_;refine Tj (γ:=Unit) hx1 (fun s6 y6=>[(1,.pointer (some ⟨g1,0,none⟩)),(2,.pointer (some ⟨g2,0,none⟩)),(14,.bool (s6))]) (fun s6 y6=>[.m g2 26 [.int .i64 (0),.int .i64 (0),.int .i64 (0)],.m g1 26 [.int .i64 (s0.1),.int .i64 (s0.2.1),.int .i64 (s0.2.2)]]++[.old w]) (fun s6 y6=>True) (fun s6 y6 hx2 hG2=>?_) (fun j6 hx1=>?_)
  ·refine By (s:=14) rfl (fun h0=>?_) (fun h0=>?_)
   ·have hx3:=Bx h0 hx2;refine Y5 ?_;refine Af (Bm rfl rfl Su (by decide) (by decide) rfl) rfl ?_;refine Af (Ag rfl (i:=1) rfl rfl one3) rfl ?_;refine Af (Bm rfl rfl Su (by decide) (by decide) rfl) rfl ?_;refine Af (Ag rfl (i:=1) rfl rfl one3) rfl ?_;refine Af (Bm rfl rfl Su (by decide) (by decide) rfl) rfl ?_;refine Af (Ag rfl (i:=1) rfl rfl one3) rfl ?_;refine Af (Bt rfl (Ov _ _ _)) rfl ?_;refine T_h (Bc rfl rfl rfl (.there (.here)) (.put (.put (.put (.done)))) rfl (List.cons_ne_nil _ _) Ua.2 ?_);refine Y2 ?_;exact Rp (s0.2.1,s0.2.2,s0.1) () hx3 trivial (by exact .pick 0 rfl (.pick 0 rfl (.refl)))
   ·have hx4:=Bn h0 hx2;refine Y3 ?_;obtain rfl:=Bd ht0 hx4;refine Y2 ?_;exact Mt (s0.1,s0.2.1,s0.2.2) () ho0 trivial (by exact .pick 0 rfl (.pick 0 rfl (.refl)))
  ·refine Y ?_;refine Af (Bm rfl rfl Su (by decide) (by decide) rfl) rfl ?_;refine Af (Ag rfl (i:=1) rfl rfl one3) rfl ?_;refine Af (Bm rfl rfl Su (by decide) (by decide) rfl) rfl ?_;refine Af (Ag rfl (i:=1) rfl rfl one3) rfl ?_;refine Y2 ?_;refine Ti hx1 (s:=8) rfl (fun h1 hx5=>?_) (fun h1 hx6=>?_)
   ·refine Y7 ?_;exact Mt true () hx5 trivial (by exact .pick 0 rfl (.pick 0 rfl (.refl)))
   ·refine Aq rfl rfl rfl (Bm rfl rfl Su (by decide) (by decide) rfl) rfl ?_;refine Aq rfl rfl rfl (Ag rfl (i:=1) rfl rfl one3) rfl ?_;refine Aq rfl rfl rfl (Bm rfl rfl Su (by decide) (by decide) rfl) rfl ?_;refine Aq rfl rfl rfl (Ag rfl (i:=1) rfl rfl one3) rfl ?_;refine Y3 ?_;exact Mt (decide (s0.2.2 < s0.1)) () hx6 trivial (by exact .pick 0 rfl (.pick 0 rfl (.refl)))
set_option maxRecDepth 100000 in
theorem Wu (p0:List Ab) {K:List Ent} {A0_0:Option Addr} {c0_0:Nat} (ha0:Has K A0_0 p0.length c0_0 2 Ar (p0)) {r:List Ab} (hx:Hx p0=some r) (w:World) (hK:∀ e∈K,Ent.ok w e):CtL Tryz.prog 207 [.slice (A0_0) (p0.length) (c0_0)] w fun v Ln=>∃ (A0:Option Addr) (c0:Nat),v = .slice (A0) (r.length) (c0)∧Ln=[.r A0 r.length c0 97 2 (r.flatMap Ar)]∧True:=by
 have ha0':=Has.up0 ha0;refine CtL.mk 79 Tryz.func207 rfl Tryz.ntmps207 (by kernel_rfl) rfl ?_;show T 79 _ [(0,.slice (A0_0) (p0.length) (c0_0))] _;unfold Hx at hx;refine Y10 ?_;refine Tj (γ:=(Option Addr) × Nat) hx (fun s3 y3=>[(3,.slice (y3.1) (s3.length) (y3.2))]) (fun s3 y3=>[.r (y3.1) (s3.length) (y3.2) 97 2 (s3.flatMap Ar)]++[.old w]) (fun s3 y3=>True) (fun s3 y3 hx0 hG0=>?_) (fun j3 hx=>?_)
 ·refine Tj (γ:=Unit) hx0 (fun s9 y9=>[(3,.slice (y3.1) (s3.length) (y3.2))]) (fun s9 y9=>[.r (y3.1) (s3.length) (y3.2) 97 2 (s3.flatMap Ar)]++[.old w]) (fun s9 y9=>True) (fun s9 y9 hx1 hG1=>?_) (fun j9 hx0=>?_)
  ·refine Y7 ?_;obtain rfl:=Option.some.inj hx1;exact Av (rs:=[.tmp 2]) Tryz.results207 (.tmp rfl (.nil)) (Ln:=[.r (y3.1) (s3.length) (y3.2) 97 2 (s3.flatMap Ar)]) ⟨y3.1,y3.2,rfl,rfl,trivial⟩ (Ay rfl (Ax)) (by exact .pick 0 rfl (.refl))
  ·refine Y3 ?_;refine Af (Bf rfl 97 Tryz.underlying23) rfl ?_;refine Y4 ?_;obtain ⟨t0,hl0,ho0⟩:=Ac hx0;refine Lp (σ:=Int) (γ:=Unit) hl0 (fun s0 y0=>[(3,.slice (y3.1) (s3.length) (y3.2)),(40,.int .i64 (((s3.length:Nat):Int))),(41,.int .i64 (s0))]) (fun s0 y0=>[.r (y3.1) (s3.length) (y3.2) 97 2 (s3.flatMap Ar)]++[.old w]) (fun s0 y0=>True) () trivial (by exact .pick 0 rfl (.refl)) ?_;intro s0 y0 hG2 x0 hx2 ht0;unfold Md at hx2;refine Y6 ?_;refine Ti hx2 (s:=42) rfl (fun h0 hx3=>?_) (fun h0 hx4=>?_)
   ·exact Rh hx3
   ·refine Y3 ?_;obtain rfl:=Bd ht0 hx4;refine Y2 ?_;exact Mt () () ho0 trivial (by exact .pick 0 rfl (.refl))
 ·refine Y3 ?_;refine Af (Bf rfl 97 Tryz.underlying23) rfl ?_;refine Y4 ?_;obtain ⟨t6,hl6,ho6⟩:=Ac hx;refine Cr 97 2 ?_
  have hn7:0=(([]:List Ab)).length:=by simp [Bq,Ca,List.length_append] <;> omega
  refine Ds (.here) (e':=.r (none) ((([]:List Ab)).length) (0) 97 2 ((([]:List Ab)).flatMap Ar)) (by first | (rw [← hn7];done) | rfl) ?_;refine Lp (σ:=(List Ab) × Int) (γ:=(Option Addr) × Nat) hl6 (fun s6 y6=>[(0,.slice (A0_0) (p0.length) (c0_0)),(3,.slice (y6.1) (s6.1.length) (y6.2)),(8,.int .i64 (((p0.length:Nat):Int))),(9,.int .i64 (s6.2))]) (fun s6 y6=>[.r (y6.1) (s6.1.length) (y6.2) 97 2 (s6.1.flatMap Ar)]++[.old w]) (fun s6 y6=>True) (none,0) trivial (by exact .pick 0 rfl (.refl)) ?_;intro s6 y6 hG6 x6 hx6 ht6;unfold Mc at hx6;refine Y6 ?_;refine Ti hx6 (s:=10) rfl (fun h8 hx9=>?_) (fun h8 hx5=>?_)
  ·exact Rh hx9
  ·refine Y3 ?_;obtain rfl:=Bd ht6 hx5;refine Y2 ?_;exact Mt s6.1 (y6.1,y6.2) ho6 trivial (by exact .pick 0 rfl (.refl))
set_option maxRecDepth 100000 in
theorem Uu (p0:List Ae) (p1:List Ab) {K:List Ent} {A0_0:Option Addr} {c0_0:Nat} {A0_1:Option Addr} {c0_1:Nat} (ha0:Has K A0_0 p0.length c0_0 4 Ak (p0)) (ha1:Has K A0_1 p1.length c0_1 2 Ar (p1)) {r:List Am} (hx:Gj p0 p1=some r) (w:World) (hK:∀ e∈K,Ent.ok w e):CtL Tryz.prog 208 [.slice (A0_0) (p0.length) (c0_0),.slice (A0_1) (p1.length) (c0_1)] w fun v Ln=>∃ (A0:Option Addr) (c0:Nat),v = .slice (A0) (r.length) (c0)∧Ln=[.r A0 r.length c0 26 3 (r.flatMap Ba)]∧True:=by
 have ha0':=Has.up0 ha0;have ha1':=Has.up0 ha1;refine CtL.mk 94 Tryz.func208 rfl Tryz.ntmps208 (by kernel_rfl) rfl ?_;show T 94 _ [(0,.slice (A0_0) (p0.length) (c0_0)),(1,.slice (A0_1) (p1.length) (c0_1))] _;unfold Gj at hx;refine Y6 ?_;refine Tj (γ:=Unit) hx (fun s3 y3=>[(0,.slice (A0_0) (p0.length) (c0_0)),(1,.slice (A0_1) (p1.length) (c0_1)),(21,.bool (s3))]) (fun s3 y3=>[]++[.old w]) (fun s3 y3=>True) (fun s3 y3 hx7 hG8=>?_) (fun j3 hx=>?_)
 ·refine By (s:=21) rfl (fun h9=>?_) (fun h9=>?_)
  ·have hx0:=Bx h9 hx7;refine Y8 ?_;refine Cr 26 3 ?_;obtain rfl:=Option.some.inj hx0;exact Av (rs:=[.tmp 4]) Tryz.results208 (.tmp rfl (.nil)) (Ln:=[.r (none) (0) (0) 26 3 ((([]:List Am)).flatMap Ba)]) ⟨none,0,rfl,rfl,trivial⟩ (Ay rfl (Ax)) (by exact .pick 0 rfl (.refl))
  ·have hx1:=Bn h9 hx7;refine Y6 ?_;obtain ⟨r0,h0,hx4⟩:=Ac hx1;refine Tc (fun w1 hw1=>Zi p0 (Has.len' ha0') h0 w1 (Dz (K:=K) (K2:=[]) hK (by exact (sb 0)) (by exact (SubE.nil)) hw1)) ?_;refine Y8 ?_;obtain ⟨r1,h2,hx5⟩:=Ac hx4;refine Tc (fun w1 hw1=>Aat p0 r0 false (Has.len' ha0') h2 w1 (Dz (K:=K) (K2:=[]) hK (by exact (sb 0)) (by exact (SubE.nil)) hw1)) ?_;refine Af (Bt rfl (Cv _ _)) rfl ?_;refine T_x (Bk rfl (Nl _ _) rfl (fun g0=>?_));refine Y5 ?_;refine T_x (Ph Tryz.prog 97 Al Cc rfl (fun g1=>?_));refine Y8 ?_;refine Tj (γ:=(Option Addr) × Nat) hx5 (fun s9 y9=>[(8,.slice (y9.1) (s9.length) (y9.2))]) (fun s9 y9=>[.r (y9.1) (s9.length) (y9.2) 26 3 (s9.flatMap Ba)]++[.old w]) (fun s9 y9=>True) (fun s9 y9 hx8 hG0=>?_) (fun j9 hx5=>?_)
   ·refine Y3 ?_;obtain ⟨r2,h3,hx9⟩:=Ac hx8;refine T_h (Je rfl (by exact .pick 0 rfl (.refl)) (by exact (SubE.nil)) (Xl s9  h3 (K:=([]:List Ent))) rfl ?_);rintro _ _ ⟨A1,c1,rfl,rfl,-⟩;refine Fw ?_;refine Y4 ?_;obtain rfl:=Option.some.inj hx9;exact Av (rs:=[.tmp 4]) Tryz.results208 (.tmp rfl (.nil)) (Ln:=[.r (A1) (r2.length) (c1) 26 3 (r2.flatMap Ba)]) ⟨A1,c1,rfl,rfl,trivial⟩ (Ay rfl (Ax)) (by exact .pick 0 rfl (.refl))
   ·refine Y ?_;refine T_mr (enc:=Ar) (sz:=2) ([(⟨r0,r1⟩:Ab)]) (.there (.here)) rfl rfl (fun _=>rfl) (by show 1≤maxLen;decide) ?_;obtain ⟨t0,hl0,ho0⟩:=Ac hx5;refine Cr 26 3 ?_
    have hn0:0=(([]:List Am)).length:=by simp [Bq,Ca,List.length_append] <;> omega
    refine Ds (.here) (e':=.r (none) ((([]:List Am)).length) (0) 26 3 ((([]:List Am)).flatMap Ba)) (by first | (rw [← hn0];done) | rfl) ?_
    have hn1:1=([(⟨r0,r1⟩:Ab)]).length:=by simp [Bq,Ca,List.length_append] <;> omega
    refine Ds (.there (.there (.here))) (e':=.r (some ⟨g0,0,none⟩) (([(⟨r0,r1⟩:Ab)]).length) (1) 97 2 (([(⟨r0,r1⟩:Ab)]).flatMap Ar)) (by first | (rw [← hn1];done) | rfl) ?_;refine Eo (s:=6) (v':=.slice (some ⟨g0,0,none⟩) (([(⟨r0,r1⟩:Ab)]).length) (1)) rfl (by have hn2:(1)=([(⟨r0,r1⟩:Ab)]).length:=(by simp [Bq,Ca,List.length_append] <;> omega);first | (rw [← hn2];done) | rfl) ?_;refine Lp (σ:=(List Ab) × (List (Ab × Bool)) × (List Am)) (γ:=(Option Addr) × Nat × (Option Addr) × Nat) hl0 (fun s0 y0=>[(0,.slice (A0_0) (p0.length) (c0_0)),(1,.slice (A0_1) (p1.length) (c0_1)),(6,.slice (y0.1) (s0.1.length) (y0.2.1)),(7,.map (some g1)),(8,.slice (y0.2.2.1) (s0.2.2.length) (y0.2.2.2))]) (fun s0 y0=>[.r (y0.2.2.1) (s0.2.2.length) (y0.2.2.2) 26 3 (s0.2.2.flatMap Ba),Bg Tryz.prog 97 Al Cc g1 (s0.2.1),.r (y0.1) (s0.1.length) (y0.2.1) 97 2 (s0.1.flatMap Ar)]++[.old w]) (fun s0 y0=>True) (some ⟨g0,0,none⟩,1,none,0) trivial (by exact .pick 0 rfl (.pick 0 rfl (.pick 0 rfl (.refl)))) ?_;intro s0 y0 hG1 x0 hx12 ht0;unfold Es at hx12;refine Y4 ?_;refine Af (Bf rfl 97 Tryz.underlying23) rfl ?_;refine Y3 ?_;refine Ti hx12 (s:=33) rfl (fun h4 hx13=>?_) (fun h4 hx15=>?_)
    ·refine Y8 ?_;refine Af (Bf rfl 97 Tryz.underlying23) rfl ?_;refine Y ?_;obtain ⟨x1,h6,hx16⟩:=Ac hx13;refine Ii (k:=2) rfl (by decide) (fun _=>rfl) h6 (fun b0 j0 hA0 hj0 hl1 hm0 hp0=>?_);refine Af (Az rfl rfl hA0 (j:=j0) hj0 hl1 Ad0) rfl ?_;refine Af (Cg rfl hp0 (sb 2) rfl Pm) rfl ?_;refine T_x (Bp Abe rfl (fun g2=>?_));refine T_h (Bc rfl rfl rfl (.here) (.put (.put (.done))) rfl (List.cons_ne_nil _ _) Pm.2 ?_);refine Y6 ?_;refine Af (Bf rfl 97 Tryz.underlying23) rfl ?_;refine Y ?_;refine Dh (k:=3) rfl (by decide) (fun _=>rfl) (fun hn3 hs0=>?_);obtain ⟨h7,hx18⟩:=Bj hx16;have hs1:=Has.subH hs0 h7.1 h7.2;refine Af (Adr rfl rfl Ad0 h7.1 (by have:=Has.nc hs0;omega)) rfl ?_;refine Y7 ?_;refine Af (Au rfl (i:=0) rfl rfl Pm) rfl ?_;obtain ⟨h8,hx19⟩:=Bj hx18;obtain ⟨x2,h10,hx20⟩:=Ac hx19;refine Af (Xj (x:=x1) (i:=2) (vv:=.bool (x2)) Ny Tryz.underlying91 (fun w=>by kernel_rfl) Ci rfl rfl rfl rfl Fj (Rx x1 h8) h10 rfl) rfl ?_;refine Y2 ?_;refine By (s:=47) rfl (fun h11=>?_) (fun h11=>?_)
     ·have hx21:=Bx h11 hx20;refine Y4 ?_;refine Wd (q:=Int.toNat (w64 ((((s0.1.length:Nat):Int))-1))) (.there (.there (.there (.here)))) (by have:=Has.len hs1;simp [subl] at this;omega) (by decide) (fun _=>rfl) ?_
      have hn4:Int.toNat (w64 ((((s0.1.length:Nat):Int))-1))=(List.take (Int.toNat (w64 ((((s0.1.length:Nat):Int))-1))) s0.1).length:=by simp [Bq,Ca,List.length_append] <;> omega
      refine Ds (.there (.there (.there (.here)))) (e':=.r (y0.1) ((List.take (Int.toNat (w64 ((((s0.1.length:Nat):Int))-1))) s0.1).length) (y0.2.1) 97 2 ((List.take (Int.toNat (w64 ((((s0.1.length:Nat):Int))-1))) s0.1).flatMap Ar)) (by first | (rw [← hn4];done) | rfl) ?_;refine Eo (s:=6) (v':=.slice (y0.1) ((List.take (Int.toNat (w64 ((((s0.1.length:Nat):Int))-1))) s0.1).length) (y0.2.1)) rfl (by have hn5:(Int.toNat (w64 ((((s0.1.length:Nat):Int))-1)))=(List.take (Int.toNat (w64 ((((s0.1.length:Nat):Int))-1))) s0.1).length:=(by simp [Bq,Ca,List.length_append] <;> omega);first | (rw [← hn5];done) | rfl) ?_;exact Rp (List.take (Int.toNat (w64 ((((s0.1.length:Nat):Int))-1))) s0.1,s0.2.1,s0.2.2) (y0.1,y0.2.1,y0.2.2.1,y0.2.2.2) hx21 trivial (by exact .pick 1 rfl (.pick 1 rfl (.pick 1 rfl (.drop 0 rfl (.refl)))))
     ·have hx22:=Bn h11 hx20;refine Y7 ?_;refine Af (Bm rfl rfl Et (by decide) (by decide) rfl) rfl ?_;refine Af (Ag rfl (i:=0) rfl rfl one3) rfl ?_;refine Af (Bm rfl rfl Et (by decide) (by decide) rfl) rfl ?_;refine Af (Ag rfl (i:=0) rfl rfl one3) rfl ?_;obtain ⟨r3,h12,hx23⟩:=Ac hx22;refine Tc (fun w1 hw1=>Aag p0 p1 x1.a0 x1.a1 (Has.len' ha0') (Has.len' ha1') h12 w1 (Dz (K:=K) (K2:=[]) hK (by exact (sb 4)) (by exact (SubE.nil)) hw1)) ?_;refine Y10 ?_;refine Ti hx23 (s:=56) rfl (fun h14 hx24=>?_) (fun h14 hx25=>?_)
      ·refine Y4 ?_;refine Af (Au rfl (i:=0) rfl rfl Pm) rfl ?_;obtain ⟨h15,hx26⟩:=Bj hx24;obtain ⟨h17,hx27⟩:=Bj hx26;refine T_h (Kw (x:=x1) (y:=true) Ny Ci Tryz.underlying91 rfl rfl rfl rfl rfl (.there (.there (.here))) (Rx x1 h15) h17 ?_);refine Y5 ?_;refine Wd (q:=Int.toNat (w64 ((((s0.1.length:Nat):Int))-1))) (.there (.there (.there (.here)))) (by have:=Has.len hs1;simp [subl] at this;omega) (by decide) (fun _=>rfl) ?_
       have hn6:Int.toNat (w64 ((((s0.1.length:Nat):Int))-1))=(List.take (Int.toNat (w64 ((((s0.1.length:Nat):Int))-1))) s0.1).length:=by simp [Bq,Ca,List.length_append] <;> omega
       refine Ds (.there (.there (.there (.here)))) (e':=.r (y0.1) ((List.take (Int.toNat (w64 ((((s0.1.length:Nat):Int))-1))) s0.1).length) (y0.2.1) 97 2 ((List.take (Int.toNat (w64 ((((s0.1.length:Nat):Int))-1))) s0.1).flatMap Ar)) (by first | (rw [← hn6];done) | rfl) ?_;refine Eo (s:=6) (v':=.slice (y0.1) ((List.take (Int.toNat (w64 ((((s0.1.length:Nat):Int))-1))) s0.1).length) (y0.2.1)) rfl (by have hn7:(Int.toNat (w64 ((((s0.1.length:Nat):Int))-1)))=(List.take (Int.toNat (w64 ((((s0.1.length:Nat):Int))-1))) s0.1).length:=(by simp [Bq,Ca,List.length_append] <;> omega);first | (rw [← hn7];done) | rfl) ?_;exact Rp (List.take (Int.toNat (w64 ((((s0.1.length:Nat):Int))-1))) s0.1,mput s0.2.1 x1 true,s0.2.2) (y0.1,y0.2.1,y0.2.2.1,y0.2.2.2) hx27 trivial (by exact .pick 1 rfl (.pick 1 rfl (.pick 1 rfl (.drop 0 rfl (.refl)))))
      ·refine Y5 ?_;refine Af (Bm rfl rfl Et (by decide) (by decide) rfl) rfl ?_;refine Af (Ag rfl (i:=0) rfl rfl one3) rfl ?_;refine Af (Bm rfl rfl Et (by decide) (by decide) rfl) rfl ?_;refine Af (Ag rfl (i:=0) rfl rfl one3) rfl ?_;refine Y ?_;refine Af (Bt rfl (Ov _ _ _)) rfl ?_;obtain ⟨r5,h18,hx28⟩:=Ac hx25;refine Tc (fun w1 hw1=>Xm (⟨x1.a0,x1.a1,r3⟩:Am)  h18 w1) ?_;refine T_x (Bp Arp rfl (fun g3=>?_));refine T_h (Bc rfl rfl rfl (.here) (.put (.put (.put (.done)))) rfl (List.cons_ne_nil _ _) Ua.2 ?_);refine Y5 ?_;refine Af (Au rfl (i:=0) rfl rfl Ua) rfl ?_;refine T_x (Bk rfl (Sa _ _ _) rfl (fun g4=>?_));obtain ⟨h19,hx29⟩:=Bj hx28;refine T_h (Dd Ba (s0.2.2) [r5] rfl rfl rfl Arm (fun _=>rfl) (i':=0) rfl rfl rfl rfl h19 rfl (fun _ _=>.there (.there (.there (.here)))) (fun _ _=>.drop .refl) (by decide) (fun A2 c2=>?_));refine Y9 ?_;obtain ⟨t1,hl2,ho1⟩:=Ac hx29;refine Wd (q:=Int.toNat (w64 ((((s0.1.length:Nat):Int))-1))) (.there (.there (.there (.there (.here))))) (by have:=Has.len hs1;simp [subl] at this;omega) (by decide) (fun _=>rfl) ?_
       have hn8:Int.toNat (w64 ((((s0.1.length:Nat):Int))-1))=(List.take (Int.toNat (w64 ((((s0.1.length:Nat):Int))-1))) s0.1).length:=by simp [Bq,Ca,List.length_append] <;> omega
       refine Ds (.there (.there (.there (.there (.here))))) (e':=.r (y0.1) ((List.take (Int.toNat (w64 ((((s0.1.length:Nat):Int))-1))) s0.1).length) (y0.2.1) 97 2 ((List.take (Int.toNat (w64 ((((s0.1.length:Nat):Int))-1))) s0.1).flatMap Ar)) (by first | (rw [← hn8];done) | rfl) ?_;refine Eo (s:=6) (v':=.slice (y0.1) ((List.take (Int.toNat (w64 ((((s0.1.length:Nat):Int))-1))) s0.1).length) (y0.2.1)) rfl (by have hn9:(Int.toNat (w64 ((((s0.1.length:Nat):Int))-1)))=(List.take (Int.toNat (w64 ((((s0.1.length:Nat):Int))-1))) s0.1).length:=(by simp [Bq,Ca,List.length_append] <;> omega);first | (rw [← hn9];done) | rfl) ?_;refine Lp (σ:=(List Ab) × (List (Ab × Bool)) × Int) (γ:=(Option Addr) × Nat) hl2 (fun s1 y1=>[(0,.slice (A0_0) (p0.length) (c0_0)),(1,.slice (A0_1) (p1.length) (c0_1)),(6,.slice (y1.1) (s1.1.length) (y1.2)),(7,.map (some g1)),(8,.slice (A2) ((s0.2.2++[r5]).length) (c2)),(11,.pointer (some ⟨g3,0,none⟩)),(70,.int .i64 (s1.2.2))]) (fun s1 y1=>[.r (y1.1) (s1.1.length) (y1.2) 97 2 (s1.1.flatMap Ar),.m g3 26 [.int .i64 (r5.a0),.int .i64 (r5.a1),.int .i64 (r5.a2)],.r (A2) ((s0.2.2++[r5]).length) (c2) 26 3 ((s0.2.2++[r5]).flatMap Ba),Bg Tryz.prog 97 Al Cc g1 (s1.2.1)]++[.old w]) (fun s1 y1=>True) (y0.1,y0.2.1) trivial (by exact .pick 4 rfl (.pick 0 rfl (.pick 1 rfl (.pick 1 rfl (.drop 0 rfl (.refl)))))) ?_
       intro s1 y1 hG2 x3 hx30 ht1;unfold Dg at hx30;refine Y6 ?_;refine Ti hx30 (s:=71) rfl (fun h20 hx31=>?_) (fun h20 hx32=>?_)
       ·refine Y12 ?_;refine T_dr [0,0,1,0,0,0,0,1,2,2] (.q 0 (.q 1 (.q 2 (.q 3 (.q 4 (.q 5 (.q 6 (.q 7 (.e 8 (.e 9 (.done) (.stop)) (.stop)))))))))) mixed (by kernel_rfl) (by kernel_rfl) ?_;refine Y ?_;obtain ⟨x4,h21,hx33⟩:=Ac hx31;refine P_p rfl rfl (Bm rfl rfl Su (Ot h21).1 (Ot h21).2 rfl) rfl ?_;refine P_q rfl rfl (Vk Bs (o:=0) rfl (i:=1) rfl h21 rfl (fun _=>rfl) rfl one3) rfl ?_;refine Y2 ?_;refine P_p rfl rfl (Ahm rfl rfl (by decide)) rfl ?_;obtain ⟨x5,h22,hx34⟩:=Ac hx33;refine P_p rfl rfl (Bm rfl rfl Su (Ot h22).1 (Ot h22).2 rfl) rfl ?_;refine P_q rfl rfl (Vk Bs (o:=0) rfl (i:=1) rfl h22 rfl (fun _=>rfl) rfl one3) rfl ?_;refine P_x rfl (Ec (Ce rfl) rfl ?_) ?_;rotate_left;exact Bb;refine P_x rfl (Ec (Ce rfl) rfl ?_) ?_;rotate_left;exact Bb;refine Y7 ?_;refine Af (Bt rfl (Cv _ _)) rfl ?_;obtain ⟨h23,hx35⟩:=Bj hx34;obtain ⟨h24,hx36⟩:=Bj hx35;refine T_h (Kw (x:=(⟨x4,x5⟩:Ab)) (y:=true) Ny Ci Tryz.underlying91 rfl rfl rfl rfl rfl (.there (.there (.there (.here)))) (Rx ((⟨x4,x5⟩:Ab)) h23) h24 ?_);refine Y6 ?_;refine Af (Bt rfl (Cv _ _)) rfl ?_;refine T_x (Bk rfl (Nl _ _) rfl (fun g5=>?_));obtain ⟨h25,hx37⟩:=Bj hx36;refine T_h (Dd Ar (s1.1) [(⟨x5,x4⟩:Ab)] rfl rfl rfl Aku (fun _=>rfl) (i':=0) rfl rfl rfl rfl h25 rfl (fun _ _=>.there (.here)) (fun _ _=>.drop .refl) (by decide) (fun A3 c3=>?_))
        refine Y8 ?_;exact Rp (s1.1++[(⟨x5,x4⟩:Ab)],mput s1.2.1 ((⟨x4,x5⟩:Ab)) true,w64 (s1.2.2+1)) (A3,c3) hx37 trivial (by exact .pick 0 rfl (.pick 0 rfl (.pick 0 rfl (.pick 0 rfl (.refl)))))
       ·refine Y3 ?_;obtain rfl:=Bd ht1 hx32;refine Y3 ?_;exact Rp (s1.1,s1.2.1,s0.2.2++[r5]) (y1.1,y1.2,A2,c2) ho1 trivial (by exact .pick 2 rfl (.pick 2 rfl (.pick 0 rfl (.drop 0 rfl (.refl)))))
    ·refine Y3 ?_;obtain rfl:=Bd ht0 hx15;refine Y2 ?_;exact Mt s0.2.2 (y0.2.2.1,y0.2.2.2) ho0 trivial (by exact .pick 0 rfl (.drop 0 rfl (.drop 0 rfl (.refl))))
 ·refine Y2 ?_;refine Af (Bf rfl 34 Tryz.underlying22) rfl ?_;refine Y2 ?_;refine Ti hx (s:=18) rfl (fun h1 hx2=>?_) (fun h1 hx3=>?_)
  ·refine Y4 ?_;exact Mt true () hx2 trivial (by exact .refl)
  ·refine Y ?_;obtain ⟨r4,h5,hx6⟩:=Ac hx3;refine T_xG rfl rfl rfl (Aw rfl (fun w1 hw1=>Aau p0 (Has.len' ha0') h5 w1 (Dz (K:=K) (K2:=[]) hK (by exact (sb 0)) (by exact (SubE.nil)) hw1)) rfl ?_);rintro _ _ hlo ⟨rfl,rfl,-⟩;refine Cs ?_;refine Y2 ?_;exact Mt r4 () hx6 trivial (by exact .refl)
set_option maxRecDepth 100000 in
theorem Za (p0:List Ae) (p1:List Ab) {K:List Ent} {A0_0:Option Addr} {c0_0:Nat} {A0_1:Option Addr} {c0_1:Nat} (ha0:Has K A0_0 p0.length c0_0 4 Ak (p0)) (ha1:Has K A0_1 p1.length c0_1 2 Ar (p1)) {r:Bz × Int} (hx:Kf p0 p1=some r) (w:World) (hK:∀ e∈K,Ent.ok w e):CtL Tryz.prog 136 [.slice (A0_0) (p0.length) (c0_0),.slice (A0_1) (p1.length) (c0_1)] w fun v Ln=>∃ (A0:Option Addr) (c0:Nat) (A2:Option Addr) (c2:Nat) (A4:Option Addr) (c4:Nat),v = .tuple #[.agg #[.slice (A0) (r.1.V.length) (c0),.slice (A2) (r.1.T.length) (c2),.slice (A4) (r.1.Lines.length) (c4)],.int .i64 (r.2)]∧Ln=[.r A0 r.1.V.length c0 34 4 (r.1.V.flatMap Ak),.r A2 r.1.T.length c2 26 3 (r.1.T.flatMap Ba),.r A4 r.1.Lines.length c4 97 2 (r.1.Lines.flatMap Ar)]∧True:=by
 have ha0':=Has.up0 ha0;have ha1':=Has.up0 ha1;refine CtL.mk 38 Tryz.func136 rfl Tryz.ntmps136 (by kernel_rfl) rfl ?_;show T 38 _ [(0,.slice (A0_0) (p0.length) (c0_0)),(1,.slice (A0_1) (p1.length) (c0_1))] _;unfold Kf at hx;refine Y2 ?_;refine T_x (Bp Zo rfl (fun g1=>?_));refine Y8 ?_;obtain ⟨r2,h3,hx4⟩:=Ac hx;refine Tc (fun w1 hw1=>Ze p0 p1 (Has.len' ha0') (Has.len' ha1') h3 w1 (Dz (K:=K) (K2:=[]) hK (by exact (sb 1)) (by exact (SubE.nil)) hw1)) ?_;refine Y9 ?_;refine Fb (s:=14) rfl (fun h5=>?_) (fun h5=>?_)
 ·have hx6:=Pr h5 hx4;refine Y3 ?_;refine Af (Bt rfl (Vx)) rfl ?_;refine Y ?_;refine T_h (Bc rfl rfl rfl (.here) (.put (.put (.put (.done)))) rfl (List.cons_ne_nil _ _) Fl.2 ?_);refine Y5 ?_;refine Cr 34 4 ?_;refine Cr 26 3 ?_;refine Cr 97 2 ?_;obtain rfl:=Option.some.inj hx6;exact Av (rs:=[.cell 4 40,.tmp 5]) Tryz.results136 (.cell rfl (i:=3) rfl rfl Fl (.tmp rfl (.nil))) (Ln:=[.r (none) (0) (0) 34 4 ((([]:List Ae)).flatMap Ak),.r (none) (0) (0) 26 3 ((([]:List Am)).flatMap Ba),.r (none) (0) (0) 97 2 ((([]:List Ab)).flatMap Ar)]) ⟨none,0,none,0,none,0,rfl,rfl,trivial⟩ (Ay rfl (Ay rfl (Ay rfl (Ax)))) (by exact .pick 2 rfl (.pick 1 rfl (.pick 0 rfl (.drop 0 rfl (.refl)))))
 ·have hx7:=Bx h5 hx4;refine Y8 ?_;refine Tj (γ:=(Option Addr) × Nat) hx7 (fun s7 y7=>[(0,.slice (A0_0) (p0.length) (c0_0)),(1,.slice (A0_1) (p1.length) (c0_1)),(4,.pointer (some ⟨g1,0,none⟩)),(7,.slice (y7.1) (s7.length) (y7.2))]) (fun s7 y7=>[.r (y7.1) (s7.length) (y7.2) 34 4 (s7.flatMap Ak),.m g1 40 [.slice (none) (0) (0),.slice (none) (0) (0),.slice (none) (0) (0)]]++[.old w]) (fun s7 y7=>True) (fun s7 y7 hx0 hG0=>?_) (fun j7 hx7=>?_)
  ·refine Y3 ?_;obtain ⟨r0,h0,hx1⟩:=Ac hx0;refine T_x (Aw rfl (fun w1 hw1=>Wu p1 (Has.len' ha1') h0 w1 (Dz (K:=K) (K2:=[]) hK (by exact (sb 2)) (by exact (SubE.nil)) hw1)) rfl ?_);rintro _ _ hlo ⟨A1,c1,rfl,rfl,-⟩;refine Fw ?_;refine Y8 ?_;refine Dh (k:=0) rfl (by decide) (fun _=>rfl) (fun hn0 hs0=>?_);obtain ⟨r1,h1,hx2⟩:=Ac hx1;refine T_x (Aw rfl (fun w1 hw1=>Uu p0 r0 (Has.len' (Has.up (L:=(K++[.r (A1) (r0.length) (c1) 97 2 (r0.flatMap Ar)])) ha0' (SubE.app2 SubE.nil))) (Has.len' (Has.up (L:=(K++[.r (A1) (r0.length) (c1) 97 2 (r0.flatMap Ar)])) hs0 (SubE.appR2 (sb 0)))) h1 w1 (Dz (K:=K) (K2:=[.r (A1) (r0.length) (c1) 97 2 (r0.flatMap Ar)]) hK (by exact (sb 3)) (by exact (sb 0)) hw1)) rfl ?_);rintro _ _ hlo ⟨A3,c3,rfl,rfl,-⟩;refine Fw ?_;refine Y ?_;refine Af (Bt rfl (Abg _ _ _ _ _ _ _ _ _)) rfl ?_;refine T_h (Bc rfl rfl rfl (.there (.there (.there (.here)))) (.put (.put (.put (.done)))) rfl (List.cons_ne_nil _ _) Fl.2 ?_);refine Y4 ?_;obtain rfl:=Option.some.inj hx2;exact Av (rs:=[.cell 4 40,.tmp 5]) Tryz.results136 (.cell rfl (i:=3) rfl rfl Fl (.tmp rfl (.nil))) (Ln:=[.r (y7.1) (s7.length) (y7.2) 34 4 (s7.flatMap Ak),.r (A3) (r1.length) (c3) 26 3 (r1.flatMap Ba),.r (A1) (r0.length) (c1) 97 2 (r0.flatMap Ar)]) ⟨y7.1,y7.2,A3,c3,A1,c1,rfl,rfl,trivial⟩ (Ay rfl (Ay rfl (Ay rfl (Ax)))) (by exact .pick 2 rfl (.pick 0 rfl (.pick 0 rfl (.drop 0 rfl (.refl)))))
  ·refine Y3 ?_;refine Af (Bf rfl 34 Tryz.underlying22) rfl ?_;refine Y4 ?_;obtain ⟨t0,hl0,ho0⟩:=Ac hx7;refine Cr 34 4 ?_
   have hn1:0=(([]:List Ae)).length:=by simp [Bq,Ca,List.length_append] <;> omega
   refine Ds (.here) (e':=.r (none) ((([]:List Ae)).length) (0) 34 4 ((([]:List Ae)).flatMap Ak)) (by first | (rw [← hn1];done) | rfl) ?_;refine Lp (σ:=(List Ae) × Int) (γ:=(Option Addr) × Nat) hl0 (fun s0 y0=>[(0,.slice (A0_0) (p0.length) (c0_0)),(1,.slice (A0_1) (p1.length) (c0_1)),(4,.pointer (some ⟨g1,0,none⟩)),(7,.slice (y0.1) (s0.1.length) (y0.2)),(18,.int .i64 (((p0.length:Nat):Int))),(19,.int .i64 (s0.2))]) (fun s0 y0=>[.r (y0.1) (s0.1.length) (y0.2) 34 4 (s0.1.flatMap Ak),.m g1 40 [.slice (none) (0) (0),.slice (none) (0) (0),.slice (none) (0) (0)]]++[.old w]) (fun s0 y0=>True) (none,0) trivial (by exact .pick 0 rfl (.pick 0 rfl (.refl))) ?_;intro s0 y0 hG1 x0 hx3 ht0;unfold Gv at hx3;refine Y6 ?_;refine Ti hx3 (s:=20) rfl (fun h2 hx5=>?_) (fun h2 hx8=>?_)
   ·(iterate 15 refine Y ?_);obtain ⟨x1,h4,hx9⟩:=Ac hx5;have hw0:=Has.low (E:=[]) ha0' hK;obtain ⟨b0,o0,j0,hA0,hj0,hl1,hp0⟩:=Has.at_idx hw0 h4;refine Af (Az rfl rfl hA0 (j:=j0) hj0 hl1 Ey) rfl ?_;refine Af (Cg rfl hp0 (sb 2) rfl Ej) rfl ?_;refine T_x (Bk rfl (Kx _ _ _ _) rfl (fun g0=>?_));obtain ⟨h6,hx47⟩:=Bj hx9;refine T_h (Dd Ak (s0.1) [x1] rfl rfl rfl Ak1 (fun _=>rfl) (i':=0) rfl rfl rfl rfl h6 rfl (fun _ _=>.there (.here)) (fun _ _=>.drop .refl) (by decide) (fun A5 c5=>?_));refine Y8 ?_;exact Rp (s0.1++[x1],w64 (s0.2+1)) (A5,c5) hx47 trivial (by exact .pick 0 rfl (.pick 0 rfl (.refl)))
   ·refine Y3 ?_;obtain rfl:=Bd ht0 hx8;refine Y2 ?_;exact Mt s0.1 (y0.1,y0.2) ho0 trivial (by exact .pick 0 rfl (.pick 0 rfl (.refl)))
end Go.Proofs.YtbkobeeileemjaaGreat
