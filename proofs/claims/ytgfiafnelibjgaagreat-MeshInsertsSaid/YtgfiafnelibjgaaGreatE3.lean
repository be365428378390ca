/- Walks of the program, with their plain functions: the reference's mesh. -/
import Derived.Test.YtgfiafnelibjgaaGreatE2
namespace Go.Proofs.YtgfiafnelibjgaaGreat
open Go Go.RowKit
theorem As0:Ov Tryz.prog 35 [.int .i64 (0),.int .i64 (0),.int .i64 (0)]:=⟨_,Tryz.zeroValue35,rfl⟩
instance:Yn Tryz.prog 35 [.int .i64 (0),.int .i64 (0),.int .i64 (0)]:=⟨As0⟩
theorem Iw (x0:Int) (x1:Int) (x2:Int) (x3:Int):Ei Tryz.prog 22 1 [(0,.agg #[.int .i64 x0,.int .i64 x1,.int .i64 x2,.int .i64 x3])] 43 [.int .i64 x0,.int .i64 x1,.int .i64 x2,.int .i64 x3]:=fun w=>by kernel_rfl
instance (x0:Int) (x1:Int) (x2:Int) (x3:Int):Nu Tryz.prog 22 1 [(0,.agg #[.int .i64 x0,.int .i64 x1,.int .i64 x2,.int .i64 x3])] 43 [.int .i64 x0,.int .i64 x1,.int .i64 x2,.int .i64 x3]:=⟨Iw _ _ _ _⟩
noncomputable def Hg (p0:Aj) (p1:Aj):Int→Option (Sum Int (Sum Unit Bool)):=fun s0 =>
 if s0 < 3 then (bnd (idx [p0.a0,p0.a1,p0.a2] s0) fun x0 =>
 bnd (idx [p1.a0,p1.a1,p1.a2] s0) fun x1 =>
 if x0=x1 then (some (.inl (w64 (s0+1))))
 else (bnd (idx [p0.a0,p0.a1,p0.a2] s0) fun x2 =>
 bnd (idx [p1.a0,p1.a1,p1.a2] s0) fun x3 =>
 some (.inr (.inr (decide (x2 < x3))))))
 else (some (.inr (.inl ())))
noncomputable def Kk (p0:Aj) (p1:Aj):Option Bool :=
 jn (fun (s2:Unit) =>
 some false)
 (fun j2=>bnd (lfix (Hg p0 p1) 0) fun t0 =>
 (match t0 with
 | (.inl z0)=>j2 z0
 | (.inr (z0))=>some z0
 ))
noncomputable def Hu  : ((List Aj) × Int)→Option (Sum ((List Aj) × Int) (List Aj)):=fun s0 =>
 jn (fun (s1:Bool) =>
 if s1=true then (bnd (idx s0.1 (w64 (s0.2-1))) fun x0 =>
 bnd (idx s0.1 s0.2) fun x1 =>
 bnd (idx s0.1 s0.2) fun x2 =>
 bnd (idx (setI s0.1 s0.2 x0) (w64 (s0.2-1))) fun x3 =>
 some (.inl (setI (setI s0.1 s0.2 x0) (w64 (s0.2-1)) x1,w64 (s0.2-1))))
 else (some (.inr s0.1)))
 (fun j0=>if 0 < s0.2 then (bnd (idx s0.1 s0.2) fun x4 =>
 bnd (idx s0.1 (w64 (s0.2-1))) fun x5 =>
 bnd (Kk x4 x5) fun r0 =>
 j0 r0)
 else (j0 false))
noncomputable def Hv (p0:List Aj):((List Aj) × Int)→Option (Sum ((List Aj) × Int) (List Aj)):=fun s0 =>
 if s0.2 < ((((p0).length:Nat):Int)) then (jn (fun (s1:List Aj) =>
 some (.inl (s1,w64 (s0.2+1))))
 (fun j0=>bnd (lfix (Hu) (s0.1,s0.2)) fun t0 =>
 j0 t0))
 else (some (.inr s0.1))
noncomputable def Kx (p0:List Aj):Option (List Aj) :=
 jn (fun (s2:List Aj) =>
 some s2)
 (fun j2=>bnd (lfix (Hv p0) (p0,0)) fun t0 =>
 j2 t0)
noncomputable def Fw  : (Int × Int × Int)→Option (Sum (Int × Int × Int) (Int × Int × Int)):=fun s0 =>
 jn (fun (s6:Bool) =>
 if s6=true then (some (.inl (s0.2.1,s0.2.2,s0.1)))
 else (some (.inr (s0.1,s0.2.1,s0.2.2))))
 (fun j6=>if s0.2.1 < s0.1 then (j6 true)
 else (j6 (decide (s0.2.2 < s0.1))))
noncomputable def Ic (p0:Aj):Option Aj :=
 jn (fun (s2:Int × Int × Int) =>
 some (⟨s2.1,s2.2.1,s2.2.2⟩:Aj))
 (fun j2=>bnd (lfix (Fw) (p0.a0,p0.a1,p0.a2)) fun t0 =>
 j2 t0)
noncomputable def Km (p0:Aa) (p1:Aa):Option Bool :=
 jn (fun (s2:Bool) =>
 some s2)
 (fun j2=>if p0.a0 < p1.a0 then (j2 true)
 else (if p0.a0=p1.a0 then (j2 (decide (p0.a1 < p1.a1)))
 else (j2 false)))
noncomputable def Kf (p0:List Aa):((List Aa) × Int)→Option (Sum ((List Aa) × Int) (List Aa)):=fun s0 =>
 if s0.2 < ((((p0).length:Nat):Int)) then (bnd (idx p0 s0.2) fun x0 =>
 bnd (idx p0 s0.2) fun x1 =>
 bnd (idx p0 s0.2) fun x2 =>
 bnd (idx p0 s0.2) fun x3 =>
 gd (((s0.1).length+1)*16≤140737488355328) <|
 some (.inl (s0.1++[(⟨min x0.a0 x1.a1,max x2.a0 x3.a1⟩:Aa)],w64 (s0.2+1))))
 else (some (.inr s0.1))
noncomputable def Gg  : ((List Aa) × Int)→Option (Sum ((List Aa) × Int) (List Aa)):=fun s0 =>
 jn (fun (s1:Bool) =>
 if s1=true then (bnd (idx s0.1 (w64 (s0.2-1))) fun x0 =>
 bnd (idx s0.1 s0.2) fun x1 =>
 bnd (idx s0.1 s0.2) fun x2 =>
 bnd (idx (setI s0.1 s0.2 x0) (w64 (s0.2-1))) fun x3 =>
 some (.inl (setI (setI s0.1 s0.2 x0) (w64 (s0.2-1)) x1,w64 (s0.2-1))))
 else (some (.inr s0.1)))
 (fun j0=>if 0 < s0.2 then (bnd (idx s0.1 s0.2) fun x4 =>
 bnd (idx s0.1 (w64 (s0.2-1))) fun x5 =>
 bnd (Km x4 x5) fun r0 =>
 j0 r0)
 else (j0 false))
noncomputable def Gy (s3:List Aa):((List Aa) × Int)→Option (Sum ((List Aa) × Int) (List Aa)):=fun s0 =>
 if s0.2 < ((((s3).length:Nat):Int)) then (jn (fun (s1:List Aa) =>
 some (.inl (s1,w64 (s0.2+1))))
 (fun j0=>bnd (lfix (Gg) (s0.1,s0.2)) fun t0 =>
 j0 t0))
 else (some (.inr s0.1))
noncomputable def Hh (p0:List Aa):Option (List Aa) :=
 jn (fun (s3:List Aa) =>
 jn (fun (s0:List Aa) =>
 some s0)
 (fun j0=>bnd (lfix (Gy s3) (s3,0)) fun t0 =>
 j0 t0))
 (fun j3=>bnd (lfix (Kf p0) (([]:List Aa),0)) fun t1 =>
 j3 t1)
noncomputable def Dl (r0:Aj) (s0:(List Aa) × (List (Aa × Bool)) × (List Aj)):((List Aa) × (List (Aa × Bool)) × Int)→Option (Sum ((List Aa) × (List (Aa × Bool)) × Int) ((List Aa) × (List (Aa × Bool)) × (List Aj))):=fun s1 =>
 if s1.2.2 < 3 then (bnd (idx [r0.a0,r0.a1,r0.a2] s1.2.2) fun x0 =>
 bnd (idx [r0.a0,r0.a1,r0.a2] (Int.tmod (w64 (s1.2.2+1)) 3)) fun x1 =>
 gd ((-9223372036854775808≤x0∧x0≤9223372036854775807)∧(-9223372036854775808≤x1∧x1≤9223372036854775807)) <|
 gd ((s1.2.1).length < 9223372036854775807) <|
 gd (((s1.1).length+1)*16≤140737488355328) <|
 some (.inl (s1.1++[(⟨x1,x0⟩:Aa)],mput s1.2.1 ((⟨x0,x1⟩:Aa)) true,w64 (s1.2.2+1))))
 else (some (.inr (s1.1,s1.2.1,s0.2.2++[r0])))
noncomputable def Fy (p0:List Ab) (p1:List Aa):((List Aa) × (List (Aa × Bool)) × (List Aj))→Option (Sum ((List Aa) × (List (Aa × Bool)) × (List Aj)) (List Aj)):=fun s0 =>
 if 0 < ((((s0.1).length:Nat):Int)) then (bnd (idx s0.1 (w64 (((((s0.1).length:Nat):Int))-1))) fun x0 =>
 gd (0≤(w64 (((((s0.1).length:Nat):Int))-1))∧(w64 (((((s0.1).length:Nat):Int))-1))≤(((s0.1).length:Nat):Int)) <|
 gd ((-9223372036854775808≤x0.a0∧x0.a0≤9223372036854775807)∧(-9223372036854775808≤x0.a1∧x0.a1≤9223372036854775807)) <|
 bnd (some ((mget s0.2.1 x0).getD false)) fun x1 =>
 if x1=true then (some (.inl (List.take (Int.toNat (w64 (((((s0.1).length:Nat):Int))-1))) s0.1,s0.2.1,s0.2.2)))
 else (bnd (Kv p0 p1 x0.a0 x0.a1) fun r0 =>
 if r0 < 0 then (gd ((-9223372036854775808≤x0.a0∧x0.a0≤9223372036854775807)∧(-9223372036854775808≤x0.a1∧x0.a1≤9223372036854775807)) <|
 gd ((s0.2.1).length < 9223372036854775807) <|
 some (.inl (List.take (Int.toNat (w64 (((((s0.1).length:Nat):Int))-1))) s0.1,mput s0.2.1 x0 true,s0.2.2)))
 else (bnd (Ic (⟨x0.a0,x0.a1,r0⟩:Aj)) fun r1 =>
 gd (((s0.2.2).length+1)*24≤140737488355328) <|
 bnd (lfix (Dl r1 s0) (List.take (Int.toNat (w64 (((((s0.1).length:Nat):Int))-1))) s0.1,s0.2.1,0)) fun t0 =>
 some (.inl t0))))
 else (some (.inr s0.2.2))
noncomputable def Cw (p0:List Ab) (p1:List Aa):Option (List Aj) :=
 jn (fun (s3:Bool) =>
 if s3=true then (some ([]:List Aj))
 else (bnd (Jk p0) fun r0 =>
 bnd (Kr p0 r0 false) fun r1 =>
 jn (fun (s9:List Aj) =>
 bnd (Kx s9) fun r2 =>
 some r2)
 (fun j9=>bnd (lfix (Fy p0 p1) ([(⟨r0,r1⟩:Aa)],([]:List (Aa × Bool)),([]:List Aj))) fun t0 =>
 j9 t0)))
 (fun j3=>if ((((p0).length:Nat):Int)) < 3 then (j3 true)
 else (bnd (Ks p0) fun r4 =>
 j3 r4))
noncomputable def Io (p0:List Ab):((List Ab) × Int)→Option (Sum ((List Ab) × Int) (List Ab)):=fun s0 =>
 if s0.2 < ((((p0).length:Nat):Int)) then (bnd (idx p0 s0.2) fun x0 =>
 gd (((s0.1).length+1)*32≤140737488355328) <|
 some (.inl (s0.1++[(⟨x0.X,x0.Y,(⟨x0.Z.Lo,x0.Z.Hi⟩:Ak)⟩:Ab)],w64 (s0.2+1))))
 else (some (.inr s0.1))
noncomputable def Bd (p0:List Ab) (p1:List Aa):Option (Av × Int) :=
 bnd (Jn p0 p1) fun r2 =>
 if r2=0 then (jn (fun (s7:List Ab) =>
 bnd (Hh p1) fun r0 =>
 bnd (Cw p0 r0) fun r1 =>
 some ((⟨s7,r1,r0⟩:Av),0))
 (fun j7=>bnd (lfix (Io p0) (([]:List Ab),0)) fun t0 =>
 j7 t0))
 else (some ((⟨([]:List Ab),([]:List Aj),([]:List Aa)⟩:Av),r2))
set_option maxRecDepth 100000 in
theorem Rr (p0:Aj) (p1:Aj)  {r:Bool} (hx:Kk p0 p1=some r) (w:World):CtL Tryz.prog 188 [.agg #[.int .i64 (p0.a0),.int .i64 (p0.a1),.int .i64 (p0.a2)],.agg #[.int .i64 (p1.a0),.int .i64 (p1.a1),.int .i64 (p1.a2)]] w fun v Ln=>v = .bool (r)∧Ln=[]∧True:=by
 refine CtL.mk 24 Tryz.func188 rfl Tryz.ntmps188 (by kernel_rfl) rfl ?_;show T 24 _ [(0,.agg #[.int .i64 (p0.a0),.int .i64 (p0.a1),.int .i64 (p0.a2)]),(1,.agg #[.int .i64 (p1.a0),.int .i64 (p1.a1),.int .i64 (p1.a2)])] _;unfold Kk at hx;refine Y2 ?_;refine T_x (Nn rfl rfl rfl (fun g1=>?_));refine T_x (Nn rfl rfl rfl (fun g2=>?_));refine Y3 ?_;refine Tj (γ:=Unit) hx (fun s2 y2=>[]) (fun s2 y2=>[]++[.old w]) (fun s2 y2=>True) (fun s2 y2 hx0 hG0=>?_) (fun j2 hx=>?_)
 ·refine Y6 ?_;obtain rfl:=Option.some.inj hx0;exact Cu (rs:=[.tmp 4]) Tryz.results188 (.tmp rfl (.nil)) (Ln:=[]) ⟨rfl,rfl,trivial⟩ (Dk) (by exact .refl)
 ·refine Y6 ?_;obtain ⟨t0,hl0,ho0⟩:=Ad hx;refine Lp (σ:=Int) (γ:=Unit) hl0 (fun s0 y0=>[(2,.pointer (some ⟨g1,0,none⟩)),(3,.pointer (some ⟨g2,0,none⟩)),(6,.int .i64 (s0))]) (fun s0 y0=>[.m g2 35 [.int .i64 (p1.a0),.int .i64 (p1.a1),.int .i64 (p1.a2)],.m g1 35 [.int .i64 (p0.a0),.int .i64 (p0.a1),.int .i64 (p0.a2)]]++[.old w]) (fun s0 y0=>True) () trivial (by exact .pick 0 rfl (.pick 0 rfl (.refl))) ?_;intro s0 y0 hG1 x0 hx1 ht0;unfold Hg at hx1;refine Y6 ?_;refine Ti hx1 (s:=7) rfl (fun h0 hx2=>?_) (fun h0 hx3=>?_)
  ·refine Y12 ?_;refine T_dr [0,0,1,0,0,1,0] (.q 0 (.q 1 (.q 2 (.q 3 (.q 4 (.q 5 (.q 6 (.done)))))))) mixed (by kernel_rfl) (by kernel_rfl) ?_;refine Y ?_;obtain ⟨x1,h1,hx4⟩:=Ad hx2;refine P_p rfl rfl (Aq rfl rfl Aex (Eh h1).1 (Eh h1).2 rfl) rfl ?_;refine P_q rfl rfl (Mv Bu (o:=0) rfl (i:=1) rfl h1 rfl (fun _=>rfl) rfl one3) rfl ?_;refine Y ?_;obtain ⟨x2,h2,hx5⟩:=Ad hx4;refine P_p rfl rfl (Aq rfl rfl Aex (Eh h2).1 (Eh h2).2 rfl) rfl ?_;refine P_q rfl rfl (Mv Bu (o:=0) rfl (i:=0) rfl h2 rfl (fun _=>rfl) rfl one3) rfl ?_;refine Y3 ?_;refine Ms (s:=15) rfl (fun h3=>?_) (fun h3=>?_)
   ·have hx6:=Pb h3 hx5;refine Y2 ?_;refine T_dr [0,0,1,0,0,1,0,2] (.q 0 (.q 1 (.q 2 (.q 3 (.q 4 (.q 5 (.q 6 (.e 7 (.done) (.stop))))))))) mixed (by kernel_rfl) (by kernel_rfl) ?_;refine Y ?_;obtain ⟨x3,h4,hx7⟩:=Ad hx6;refine P_p rfl rfl (Aq rfl rfl Aex (Eh h4).1 (Eh h4).2 rfl) rfl ?_;refine P_q rfl rfl (Mv Bu (o:=0) rfl (i:=1) rfl h4 rfl (fun _=>rfl) rfl one3) rfl ?_;refine Y ?_;obtain ⟨x4,h5,hx8⟩:=Ad hx7;refine P_p rfl rfl (Aq rfl rfl Aex (Eh h5).1 (Eh h5).2 rfl) rfl ?_;refine P_q rfl rfl (Mv Bu (o:=0) rfl (i:=0) rfl h5 rfl (fun _=>rfl) rfl one3) rfl ?_;refine Y ?_;refine P_x rfl (Gu (Dn rfl) rfl ?_) ?_;rotate_left;exact Az;refine Y5 ?_;obtain rfl:=Bm ht0 hx8;refine Y3 ?_;obtain rfl:=Option.some.inj ho0;exact Cu (rs:=[.tmp 4]) Tryz.results188 (.tmp rfl (.nil)) (Ln:=[]) ⟨rfl,rfl,trivial⟩ (Dk) (by exact .drop 0 rfl (.drop 0 rfl (.refl)))
   ·have hx9:=Dd h3 hx5;refine Y8 ?_;exact Rp (w64 (s0+1)) () hx9 trivial (by exact .pick 0 rfl (.pick 0 rfl (.refl)))
  ·refine Y3 ?_;obtain rfl:=Bm ht0 hx3;refine Y2 ?_;exact Mt () () ho0 trivial (by exact .drop 0 rfl (.drop 0 rfl (.refl)))
set_option maxHeartbeats 1000000 in
set_option maxRecDepth 100000 in
instance lidarref06_less_c (p0:Aj) (p1:Aj):Con (Kk p0 p1) Tryz.prog 188 (fun _ vs=>vs=[.agg #[.int .i64 (p0.a0),.int .i64 (p0.a1),.int .i64 (p0.a2)],.agg #[.int .i64 (p1.a0),.int .i64 (p1.a1),.int .i64 (p1.a2)]]) (fun _ r=>fun v Ln=>v = .bool (r)∧Ln=[]∧True):=⟨by
 rintro _ _ r rfl hx w hK;exact Rr p0 p1 hx w⟩
set_option maxRecDepth 100000 in
theorem Vy (p0:List Aj) {B0_0:Option Addr} {d0_0:Nat} {K:List Ent} {r:List Aj} (hx:Kx p0=some r):CtK Tryz.prog 135 [.slice (B0_0) (p0.length) (d0_0)] K [.r (B0_0) (p0.length) (d0_0) 35 3 (p0.flatMap Am)] fun v Ln=>∃ (A0:Option Addr) (c0:Nat),v = .slice (A0) (r.length) (c0)∧Ln=[.r A0 r.length c0 35 3 (r.flatMap Am)]∧True:=by
 refine CtK.mk 45 Tryz.func135 rfl Tryz.ntmps135 (by kernel_rfl) rfl ?_;intro Lf hKf;show T 45 _ [(0,.slice (B0_0) (p0.length) (d0_0))] ([.r (B0_0) (p0.length) (d0_0) 35 3 (p0.flatMap Am)]++Lf);unfold Kx at hx;refine Y5 ?_;refine Tj (γ:=(Option Addr) × Nat) hx (fun s2 y2=>[(0,.slice (y2.1) (s2.length) (y2.2))]) (fun s2 y2=>[.r (y2.1) (s2.length) (y2.2) 35 3 (s2.flatMap Am)]++Lf) (fun s2 y2=>True) (fun s2 y2 hx0 hG0=>?_) (fun j2 hx=>?_)
 ·refine Y7 ?_;obtain rfl:=Option.some.inj hx0;exact Ws (rs:=[.tmp 2]) Tryz.results135 (.tmp rfl (.nil)) (Ln:=[.r (y2.1) (s2.length) (y2.2) 35 3 (s2.flatMap Am)]) ⟨y2.1,y2.2,rfl,rfl,trivial⟩ (by exact .pick 0 rfl (.refl))
 ·refine Y3 ?_;refine Al (Bx rfl 35 Tryz.underlying30) rfl ?_;refine Y4 ?_;obtain ⟨t0,hl0,ho0⟩:=Ad hx;refine Lp (σ:=(List Aj) × Int) (γ:=(Option Addr) × Nat) hl0 (fun s0 y0=>[(0,.slice (y0.1) (s0.1.length) (y0.2)),(6,.int .i64 (((p0.length:Nat):Int))),(7,.int .i64 (s0.2))]) (fun s0 y0=>[.r (y0.1) (s0.1.length) (y0.2) 35 3 (s0.1.flatMap Am)]++Lf) (fun s0 y0=>True) (B0_0,d0_0) trivial (by exact .pick 0 rfl (.refl)) ?_;intro s0 y0 hG1 x0 hx1 ht0;unfold Hv at hx1;refine Y6 ?_;refine Ti hx1 (s:=8) rfl (fun h0 hx2=>?_) (fun h0 hx3=>?_)
  ·refine Y3 ?_;refine Tj (γ:=(Option Addr) × Nat) hx2 (fun s1 y1=>[(0,.slice (y1.1) (s1.length) (y1.2)),(6,.int .i64 (((p0.length:Nat):Int))),(7,.int .i64 (s0.2))]) (fun s1 y1=>[.r (y1.1) (s1.length) (y1.2) 35 3 (s1.flatMap Am)]++Lf) (fun s1 y1=>True) (fun s1 y1 hx4 hG2=>?_) (fun j0 hx2=>?_)
   ·refine Y4 ?_;exact Rp (s1,w64 (s0.2+1)) (y1.1,y1.2) hx4 trivial (by exact .pick 0 rfl (.refl))
   ·(iterate 14 refine Y ?_);obtain ⟨t1,hl1,ho1⟩:=Ad hx2;refine Lp (σ:=(List Aj) × Int) (γ:=(Option Addr) × Nat) hl1 (fun s3 y3=>[(0,.slice (y3.1) (s3.1.length) (y3.2)),(4,.int .i64 (s3.2)),(6,.int .i64 (((p0.length:Nat):Int))),(7,.int .i64 (s0.2))]) (fun s3 y3=>[.r (y3.1) (s3.1.length) (y3.2) 35 3 (s3.1.flatMap Am)]++Lf) (fun s3 y3=>True) (y0.1,y0.2) trivial (by exact .pick 0 rfl (.refl)) ?_;intro s3 y3 hG3 x1 hx5 ht1;unfold Hu at hx5;refine Y ?_;refine Tj (γ:=Unit) hx5 (fun s4 y4=>[(0,.slice (y3.1) (s3.1.length) (y3.2)),(4,.int .i64 (s3.2)),(6,.int .i64 (((p0.length:Nat):Int))),(7,.int .i64 (s0.2)),(24,.bool (s4))]) (fun s4 y4=>[.r (y3.1) (s3.1.length) (y3.2) 35 3 (s3.1.flatMap Am)]++Lf) (fun s4 y4=>True) (fun s4 y4 hx6 hG4=>?_) (fun j1 hx5=>?_)
    ·refine Da (s:=24) rfl (fun h1=>?_) (fun h1=>?_)
     ·have hx7:=Dd h1 hx6;refine Y5 ?_;refine T_dr [0,0,0,0,0,0,0,0,0,1,0,0,0,1,0,3,0,3] (.q 0 (.q 1 (.q 2 (.q 3 (.q 4 (.q 5 (.q 6 (.q 7 (.q 8 (.q 9 (.q 10 (.q 11 (.q 12 (.q 13 (.q 14 (.e 15 (.q 16 (.e 17 (.done) (.stop))) (.stop))))))))))))))))) mixed (by kernel_rfl) (by kernel_rfl) ?_;refine Y8 ?_;obtain ⟨x2,h2,hx8⟩:=Ad hx7;refine Lg (k:=0) rfl (by decide) (fun _=>rfl) h2 (fun b0 j3 hA0 hj0 hl2 hm0 hp0=>?_);refine P_p rfl rfl (Ay rfl rfl hA0 (j:=j3) hj0 hl2 Add) rfl ?_;refine P_q rfl rfl (Cg rfl hp0 (sb 0) rfl Zw) rfl ?_;refine Y2 ?_;obtain ⟨x3,h3,hx9⟩:=Ad hx8;refine Lg (k:=0) rfl (by decide) (fun _=>rfl) h3 (fun b1 j4 hA1 hj1 hl3 hm1 hp1=>?_);refine P_p rfl rfl (Ay rfl rfl hA1 (j:=j4) hj1 hl3 Add) rfl ?_;refine P_q rfl rfl (Cg rfl hp1 (sb 0) rfl Zw) rfl ?_;obtain ⟨x4,h4,hx10⟩:=Ad hx9;refine Lg (k:=0) rfl (by decide) (fun _=>rfl) h4 (fun b2 j5 hA2 hj2 hl4 hm2 hp2=>?_);refine P_p rfl rfl (Ay rfl rfl hA2 (j:=j5) hj2 hl4 Add) rfl ?_;refine P_h rfl rfl (Qj Am (s3.1) (s3.2) (x2) rfl rfl rfl (.here) hA2 rfl hj2 hl4 (fun _=>rfl) (by decide) rfl Zw.2 ?_) ?_;rotate_left;exact Az;obtain ⟨x5,h5,hx11⟩:=Ad hx10;refine Lg (k:=0) rfl (by decide) (fun _=>rfl) h5 (fun b3 j6 hA3 hj3 hl5 hm3 hp3=>?_)
      refine P_p rfl rfl (Ay rfl rfl hA3 (j:=j6) hj3 hl5 Add) rfl ?_;refine P_h rfl rfl (Qj Am (setI s3.1 s3.2 x2) (w64 (s3.2-1)) (x3) rfl rfl rfl (.here) hA3 rfl hj3 hl5 (fun _=>rfl) (by decide) rfl Zw.2 ?_) ?_;rotate_left;exact Az;refine Y8 ?_
      have hn0:s3.1.length=(setI (setI s3.1 s3.2 x2) (w64 (s3.2-1)) x3).length:=by simp [Bj,Bz,List.length_append] <;> omega
      refine He (.here) (e':=.r (y3.1) ((setI (setI s3.1 s3.2 x2) (w64 (s3.2-1)) x3).length) (y3.2) 35 3 ((setI (setI s3.1 s3.2 x2) (w64 (s3.2-1)) x3).flatMap Am)) (by first | (rw [← hn0];done) | rfl) ?_;refine Hy (s:=0) (v':=.slice (y3.1) ((setI (setI s3.1 s3.2 x2) (w64 (s3.2-1)) x3).length) (y3.2)) rfl (by have hn1:(s3.1.length)=(setI (setI s3.1 s3.2 x2) (w64 (s3.2-1)) x3).length:=(by simp [Bj,Bz,List.length_append] <;> omega);first | (rw [← hn1];done) | rfl) ?_;exact Rp (setI (setI s3.1 s3.2 x2) (w64 (s3.2-1)) x3,w64 (s3.2-1)) (y3.1,y3.2) hx11 trivial (by exact .pick 0 rfl (.refl))
     ·have hx12:=Dr h1 hx6;refine Y3 ?_;obtain rfl:=Bm ht1 hx12;refine Y3 ?_;exact Mt s3.1 (y3.1,y3.2) ho1 trivial (by exact .pick 0 rfl (.refl))
    ·refine T_dr [0,0,0,0,0,0,1,0,0,0,0,1,2,0] (.q 0 (.q 1 (.q 2 (.q 3 (.q 4 (.q 5 (.q 6 (.q 7 (.q 8 (.q 9 (.q 10 (.q 11 (.e 12 (.q 13 (.done)) (.stop)))))))))))))) mixed (by kernel_rfl) (by kernel_rfl) ?_;refine Y3 ?_;refine Ti hx5 (s:=13) rfl (fun h6 hx13=>?_) (fun h6 hx14=>?_)
     ·refine Y2 ?_;obtain ⟨x6,h7,hx15⟩:=Ad hx13;refine Lg (k:=0) rfl (by decide) (fun _=>rfl) h7 (fun b4 j7 hA4 hj4 hl6 hm4 hp4=>?_);refine P_pG rfl rfl rfl rfl rfl (Ay rfl rfl hA4 (j:=j7) hj4 hl6 Add) rfl ?_;refine P_qG rfl rfl rfl rfl rfl (Cg rfl hp4 (sb 0) rfl Zw) rfl ?_;refine Y3 ?_;obtain ⟨x7,h8,hx16⟩:=Ad hx15;refine Lg (k:=0) rfl (by decide) (fun _=>rfl) h8 (fun b5 j8 hA5 hj5 hl7 hm5 hp5=>?_);refine P_pG rfl rfl rfl rfl rfl (Ay rfl rfl hA5 (j:=j8) hj5 hl7 Add) rfl ?_;refine P_qG rfl rfl rfl rfl rfl (Cg rfl hp5 (sb 0) rfl Zw) rfl ?_;obtain ⟨r0,h9,hx17⟩:=Ad hx16;refine P_xG rfl rfl rfl rfl (Bk rfl (fun w1 hw1=>Rr x6 x7  h9 w1) rfl ?_) ?_;rotate_left;exact Az;rintro _ _ hlo ⟨rfl,rfl,-⟩;refine Ee ?_;refine Y2 ?_;exact Mt r0 () hx17 trivial (by exact .pick 0 rfl (.refl))
     ·refine Y9 ?_;refine Dv rfl rfl rfl rfl rfl rfl ?_ ?_;rotate_left;exact Az;refine Y2 ?_;exact Mt false () hx14 trivial (by exact .pick 0 rfl (.refl))
  ·refine Y3 ?_;obtain rfl:=Bm ht0 hx3;refine Y2 ?_;exact Mt s0.1 (y0.1,y0.2) ho0 trivial (by exact .pick 0 rfl (.refl))
set_option maxHeartbeats 1000000 in
set_option maxRecDepth 100000 in
instance Xz (p0:Aj):Con (Ic p0) Tryz.prog 134 (fun _ vs=>vs=[.agg #[.int .i64 (p0.a0),.int .i64 (p0.a1),.int .i64 (p0.a2)]]) (fun _ r=>fun v Ln=>v = .agg #[.int .i64 (r.a0),.int .i64 (r.a1),.int .i64 (r.a2)]∧Ln=[]∧True):=⟨by
 rintro _ _ r rfl hx w hK;unfold Ic at hx;refine CtS Tryz.ntmps134 Tryz.results134 ?_;refine pre ?_;intros;rename_i hx
 refine Lz ?_;refine pre ?_;intros;rename_i hx
 apply Jr (γ:=(Nat)) hx [2] (fun s2 y2 f=>(1,.pointer (some ⟨y2,0,none⟩))::f) [0,999] (fun s2 y2 l=>.m y2 35 [.int .i64 (s2.1),.int .i64 (s2.2.1),.int .i64 (s2.2.2)]::l);exact kk
 ·intro s2 y2 hx;exact au
 ·intro _ hx;refine pre ?_;intros;rename_i hx
  apply Lr (γ:=(Nat)) hx [2] (fun s0 y0 f=>(1,.pointer (some ⟨y0,0,none⟩))::f) [0,999] (fun s0 y0 l=>.m y0 35 [.int .i64 (s0.1),.int .i64 (s0.2.1),.int .i64 (s0.2.2)]::l) _;exact kk;exact sk;intro s0 y0 x0 hx _;unfold Fw at hx
  exact au⟩
theorem Vz (p0:Aj)  {r:Aj} (hx:Ic p0=some r) (w:World):CtL Tryz.prog 134 [.agg #[.int .i64 (p0.a0),.int .i64 (p0.a1),.int .i64 (p0.a2)]] w fun v Ln=>v = .agg #[.int .i64 (r.a0),.int .i64 (r.a1),.int .i64 (r.a2)]∧Ln=[]∧True:=(Xz p0).h [] _ _ rfl hx w (fun _ h=>absurd h List.not_mem_nil)
set_option maxRecDepth 100000 in
instance Zs (p0:Aa) (p1:Aa):Con (Km p0 p1) Tryz.prog 132 (fun _ vs=>vs=[.agg #[.int .i64 (p0.a0),.int .i64 (p0.a1)],.agg #[.int .i64 (p1.a0),.int .i64 (p1.a1)]]) (fun _ r=>fun v Ln=>v = .bool (r)∧Ln=[]∧True):=⟨by
 rintro _ _ r rfl hx w hK;unfold Km at hx;refine CtS Tryz.ntmps132 Tryz.results132 ?_;exact au⟩
theorem Yt (p0:Aa) (p1:Aa)  {r:Bool} (hx:Km p0 p1=some r) (w:World):CtL Tryz.prog 132 [.agg #[.int .i64 (p0.a0),.int .i64 (p0.a1)],.agg #[.int .i64 (p1.a0),.int .i64 (p1.a1)]] w fun v Ln=>v = .bool (r)∧Ln=[]∧True:=(Zs p0 p1).h [] _ _ rfl hx w (fun _ h=>absurd h List.not_mem_nil)
set_option maxRecDepth 100000 in
theorem Vt (p0:List Aa) {K:List Ent} {A0_0:Option Addr} {c0_0:Nat} (ha0:Has K A0_0 p0.length c0_0 2 Ag (p0)) {r:List Aa} (hx:Hh p0=some r) (w:World) (hK:∀ e∈K,Ent.ok w e):CtL Tryz.prog 67 [.slice (A0_0) (p0.length) (c0_0)] w fun v Ln=>∃ (A0:Option Addr) (c0:Nat),v = .slice (A0) (r.length) (c0)∧Ln=[.r A0 r.length c0 48 2 (r.flatMap Ag)]∧True:=by
 have ha0':=Has.up0 ha0;refine CtL.mk 79 Tryz.func67 rfl Tryz.ntmps67 (by kernel_rfl) rfl ?_;show T 79 _ [(0,.slice (A0_0) (p0.length) (c0_0))] _;unfold Hh at hx;refine Y10 ?_;refine Tj (γ:=(Option Addr) × Nat) hx (fun s3 y3=>[(3,.slice (y3.1) (s3.length) (y3.2))]) (fun s3 y3=>[.r (y3.1) (s3.length) (y3.2) 48 2 (s3.flatMap Ag)]++[.old w]) (fun s3 y3=>True) (fun s3 y3 hx0 hG0=>?_) (fun j3 hx=>?_)
 ·refine Tj (γ:=(Option Addr) × Nat) hx0 (fun s0 y0=>[(3,.slice (y0.1) (s0.length) (y0.2))]) (fun s0 y0=>[.r (y0.1) (s0.length) (y0.2) 48 2 (s0.flatMap Ag)]++[.old w]) (fun s0 y0=>True) (fun s0 y0 hx1 hG1=>?_) (fun j0 hx0=>?_)
  ·refine Y7 ?_;obtain rfl:=Option.some.inj hx1;exact Cu (rs:=[.tmp 2]) Tryz.results67 (.tmp rfl (.nil)) (Ln:=[.r (y0.1) (s0.length) (y0.2) 48 2 (s0.flatMap Ag)]) ⟨y0.1,y0.2,rfl,rfl,trivial⟩ (Bi rfl (Dk)) (by exact .pick 0 rfl (.refl))
  ·refine Y3 ?_;refine Al (Bx rfl 48 Tryz.underlying23) rfl ?_;refine Y4 ?_;obtain ⟨t0,hl0,ho0⟩:=Ad hx0;refine Lp (σ:=(List Aa) × Int) (γ:=(Option Addr) × Nat) hl0 (fun s1 y1=>[(3,.slice (y1.1) (s1.1.length) (y1.2)),(40,.int .i64 (((s3.length:Nat):Int))),(41,.int .i64 (s1.2))]) (fun s1 y1=>[.r (y1.1) (s1.1.length) (y1.2) 48 2 (s1.1.flatMap Ag)]++[.old w]) (fun s1 y1=>True) (y3.1,y3.2) trivial (by exact .pick 0 rfl (.refl)) ?_;intro s1 y1 hG2 x0 hx2 ht0;unfold Gy at hx2;refine Y6 ?_;refine Ti hx2 (s:=42) rfl (fun h0 hx3=>?_) (fun h0 hx4=>?_)
   ·refine Y3 ?_;refine Tj (γ:=(Option Addr) × Nat) hx3 (fun s2 y2=>[(3,.slice (y2.1) (s2.length) (y2.2)),(40,.int .i64 (((s3.length:Nat):Int))),(41,.int .i64 (s1.2))]) (fun s2 y2=>[.r (y2.1) (s2.length) (y2.2) 48 2 (s2.flatMap Ag)]++[.old w]) (fun s2 y2=>True) (fun s2 y2 hx5 hG3=>?_) (fun j1 hx3=>?_)
    ·refine Y4 ?_;exact Rp (s2,w64 (s1.2+1)) (y2.1,y2.2) hx5 trivial (by exact .pick 0 rfl (.refl))
    ·(iterate 14 refine Y ?_);obtain ⟨t1,hl1,ho1⟩:=Ad hx3;refine Lp (σ:=(List Aa) × Int) (γ:=(Option Addr) × Nat) hl1 (fun s4 y4=>[(3,.slice (y4.1) (s4.1.length) (y4.2)),(6,.int .i64 (s4.2)),(40,.int .i64 (((s3.length:Nat):Int))),(41,.int .i64 (s1.2))]) (fun s4 y4=>[.r (y4.1) (s4.1.length) (y4.2) 48 2 (s4.1.flatMap Ag)]++[.old w]) (fun s4 y4=>True) (y1.1,y1.2) trivial (by exact .pick 0 rfl (.refl)) ?_;intro s4 y4 hG4 x1 hx6 ht1;unfold Gg at hx6;refine Y ?_;refine Tj (γ:=Unit) hx6 (fun s5 y5=>[(3,.slice (y4.1) (s4.1.length) (y4.2)),(6,.int .i64 (s4.2)),(40,.int .i64 (((s3.length:Nat):Int))),(41,.int .i64 (s1.2)),(58,.bool (s5))]) (fun s5 y5=>[.r (y4.1) (s4.1.length) (y4.2) 48 2 (s4.1.flatMap Ag)]++[.old w]) (fun s5 y5=>True) (fun s5 y5 hx7 hG5=>?_) (fun j2 hx6=>?_)
     ·refine Da (s:=58) rfl (fun h1=>?_) (fun h1=>?_)
      ·have hx8:=Dd h1 hx7;refine Y5 ?_;refine T_dr [0,0,0,0,0,0,0,0,0,1,0,0,0,1,0,3,0,3] (.q 0 (.q 1 (.q 2 (.q 3 (.q 4 (.q 5 (.q 6 (.q 7 (.q 8 (.q 9 (.q 10 (.q 11 (.q 12 (.q 13 (.q 14 (.e 15 (.q 16 (.e 17 (.done) (.stop))) (.stop))))))))))))))))) mixed (by kernel_rfl) (by kernel_rfl) ?_;refine Y8 ?_;obtain ⟨x2,h2,hx9⟩:=Ad hx8;refine Lg (k:=0) rfl (by decide) (fun _=>rfl) h2 (fun b0 j4 hA0 hj0 hl2 hm0 hp0=>?_);refine P_p rfl rfl (Ay rfl rfl hA0 (j:=j4) hj0 hl2 Fa) rfl ?_;refine P_q rfl rfl (Cg rfl hp0 (sb 0) rfl Ds) rfl ?_;refine Y2 ?_;obtain ⟨x3,h3,hx10⟩:=Ad hx9;refine Lg (k:=0) rfl (by decide) (fun _=>rfl) h3 (fun b1 j5 hA1 hj1 hl3 hm1 hp1=>?_);refine P_p rfl rfl (Ay rfl rfl hA1 (j:=j5) hj1 hl3 Fa) rfl ?_;refine P_q rfl rfl (Cg rfl hp1 (sb 0) rfl Ds) rfl ?_;obtain ⟨x4,h4,hx11⟩:=Ad hx10;refine Lg (k:=0) rfl (by decide) (fun _=>rfl) h4 (fun b2 j6 hA2 hj2 hl4 hm2 hp2=>?_);refine P_p rfl rfl (Ay rfl rfl hA2 (j:=j6) hj2 hl4 Fa) rfl ?_;refine P_h rfl rfl (Qj Ag (s4.1) (s4.2) (x2) rfl rfl rfl (.here) hA2 rfl hj2 hl4 (fun _=>rfl) (by decide) rfl Ds.2 ?_) ?_;rotate_left;exact Az;obtain ⟨x5,h5,hx12⟩:=Ad hx11;refine Lg (k:=0) rfl (by decide) (fun _=>rfl) h5 (fun b3 j7 hA3 hj3 hl5 hm3 hp3=>?_)
       refine P_p rfl rfl (Ay rfl rfl hA3 (j:=j7) hj3 hl5 Fa) rfl ?_;refine P_h rfl rfl (Qj Ag (setI s4.1 s4.2 x2) (w64 (s4.2-1)) (x3) rfl rfl rfl (.here) hA3 rfl hj3 hl5 (fun _=>rfl) (by decide) rfl Ds.2 ?_) ?_;rotate_left;exact Az;refine Y8 ?_
       have hn0:s4.1.length=(setI (setI s4.1 s4.2 x2) (w64 (s4.2-1)) x3).length:=by simp [Bj,Bz,List.length_append] <;> omega
       refine He (.here) (e':=.r (y4.1) ((setI (setI s4.1 s4.2 x2) (w64 (s4.2-1)) x3).length) (y4.2) 48 2 ((setI (setI s4.1 s4.2 x2) (w64 (s4.2-1)) x3).flatMap Ag)) (by first | (rw [← hn0];done) | rfl) ?_;refine Hy (s:=3) (v':=.slice (y4.1) ((setI (setI s4.1 s4.2 x2) (w64 (s4.2-1)) x3).length) (y4.2)) rfl (by have hn1:(s4.1.length)=(setI (setI s4.1 s4.2 x2) (w64 (s4.2-1)) x3).length:=(by simp [Bj,Bz,List.length_append] <;> omega);first | (rw [← hn1];done) | rfl) ?_;exact Rp (setI (setI s4.1 s4.2 x2) (w64 (s4.2-1)) x3,w64 (s4.2-1)) (y4.1,y4.2) hx12 trivial (by exact .pick 0 rfl (.refl))
      ·have hx13:=Dr h1 hx7;refine Y3 ?_;obtain rfl:=Bm ht1 hx13;refine Y3 ?_;exact Mt s4.1 (y4.1,y4.2) ho1 trivial (by exact .pick 0 rfl (.refl))
     ·refine T_dr [0,0,0,0,0,0,1,0,0,0,0,1,2,0] (.q 0 (.q 1 (.q 2 (.q 3 (.q 4 (.q 5 (.q 6 (.q 7 (.q 8 (.q 9 (.q 10 (.q 11 (.e 12 (.q 13 (.done)) (.stop)))))))))))))) mixed (by kernel_rfl) (by kernel_rfl) ?_;refine Y3 ?_;refine Ti hx6 (s:=47) rfl (fun h6 hx14=>?_) (fun h6 hx15=>?_)
      ·refine Y2 ?_;obtain ⟨x6,h7,hx16⟩:=Ad hx14;refine Lg (k:=0) rfl (by decide) (fun _=>rfl) h7 (fun b4 j8 hA4 hj4 hl6 hm4 hp4=>?_);refine P_pG rfl rfl rfl rfl rfl (Ay rfl rfl hA4 (j:=j8) hj4 hl6 Fa) rfl ?_;refine P_qG rfl rfl rfl rfl rfl (Cg rfl hp4 (sb 0) rfl Ds) rfl ?_;refine Y3 ?_;obtain ⟨x7,h8,hx17⟩:=Ad hx16;refine Lg (k:=0) rfl (by decide) (fun _=>rfl) h8 (fun b5 j9 hA5 hj5 hl7 hm5 hp5=>?_);refine P_pG rfl rfl rfl rfl rfl (Ay rfl rfl hA5 (j:=j9) hj5 hl7 Fa) rfl ?_;refine P_qG rfl rfl rfl rfl rfl (Cg rfl hp5 (sb 0) rfl Ds) rfl ?_;obtain ⟨r0,h9,hx18⟩:=Ad hx17;refine P_xG rfl rfl rfl rfl (Bk rfl (fun w1 hw1=>Yt x6 x7  h9 w1) rfl ?_) ?_;rotate_left;exact Az;rintro _ _ hlo ⟨rfl,rfl,-⟩;refine Ee ?_;refine Y2 ?_;exact Mt r0 () hx18 trivial (by exact .pick 0 rfl (.refl))
      ·refine Y9 ?_;refine Dv rfl rfl rfl rfl rfl rfl ?_ ?_;rotate_left;exact Az;refine Y2 ?_;exact Mt false () hx15 trivial (by exact .pick 0 rfl (.refl))
   ·refine Y3 ?_;obtain rfl:=Bm ht0 hx4;refine Y2 ?_;exact Mt s1.1 (y1.1,y1.2) ho0 trivial (by exact .pick 0 rfl (.refl))
 ·refine Y3 ?_;refine Al (Bx rfl 48 Tryz.underlying23) rfl ?_;refine Y4 ?_;obtain ⟨t2,hl8,ho2⟩:=Ad hx;refine Bb 48 2 ?_
  have hn2:0=(([]:List Aa)).length:=by simp [Bj,Bz,List.length_append] <;> omega
  refine He (.here) (e':=.r (none) ((([]:List Aa)).length) (0) 48 2 ((([]:List Aa)).flatMap Ag)) (by first | (rw [← hn2];done) | rfl) ?_;refine Lp (σ:=(List Aa) × Int) (γ:=(Option Addr) × Nat) hl8 (fun s6 y6=>[(0,.slice (A0_0) (p0.length) (c0_0)),(3,.slice (y6.1) (s6.1.length) (y6.2)),(8,.int .i64 (((p0.length:Nat):Int))),(9,.int .i64 (s6.2))]) (fun s6 y6=>[.r (y6.1) (s6.1.length) (y6.2) 48 2 (s6.1.flatMap Ag)]++[.old w]) (fun s6 y6=>True) (none,0) trivial (by exact .pick 0 rfl (.refl)) ?_;intro s6 y6 hG6 x8 hx55 ht2;unfold Kf at hx55;refine Y6 ?_;refine Ti hx55 (s:=10) rfl (fun h57 hx58=>?_) (fun h57 hx59=>?_)
  ·refine Y11 ?_;refine T_dr [0,0,0,0,0,1,0,0,0,0,1,0,0,0,0,0,1,0,0,0,0,1,0,0,2,3,2] (.q 0 (.q 1 (.q 2 (.q 3 (.q 4 (.q 5 (.q 6 (.q 7 (.q 8 (.q 9 (.q 10 (.q 11 (.q 12 (.q 13 (.q 14 (.q 15 (.q 16 (.q 17 (.q 18 (.q 19 (.q 20 (.q 21 (.q 22 (.q 23 (.e 24 (.e 25 (.e 26 (.done) (.stop)) (.stop)) (.stop)))))))))))))))))))))))))) mixed (by kernel_rfl) (by kernel_rfl) ?_;refine Y3 ?_;obtain ⟨x9,h61,hx62⟩:=Ad hx58;have hw0:=Has.low (E:=[]) ha0' hK;obtain ⟨b6,o0,j65,hA6,hj6,hl9,hp6⟩:=Has.at_idx hw0 h61;refine P_p rfl rfl (Ay rfl rfl hA6 (j:=j65) hj6 hl9 Fa) rfl ?_;refine P_p rfl rfl (Aq rfl rfl By (by decide) (by decide) rfl) rfl ?_;refine P_q rfl rfl (Do (d:=0) rfl hp6 (sb 1) rfl one3) rfl ?_;refine Y2 ?_;obtain ⟨x71,h72,hx73⟩:=Ad hx62;have hw2:=Has.low (E:=[]) ha0' hK;obtain ⟨b7,o1,j76,hA7,hj7,hl79,hp7⟩:=Has.at_idx hw2 h72;refine P_p rfl rfl (Ay rfl rfl hA7 (j:=j76) hj7 hl79 Fa) rfl ?_;refine P_p rfl rfl (Aq rfl rfl By (by decide) (by decide) rfl) rfl ?_;refine P_q rfl rfl (Do (d:=1) rfl hp7 (sb 1) rfl one3) rfl ?_;refine P_p rfl rfl (Ahi rfl rfl) rfl ?_;refine Y2 ?_;obtain ⟨x82,h83,hx84⟩:=Ad hx73;have hw3:=Has.low (E:=[]) ha0' hK;obtain ⟨b8,o2,j87,hA8,hj8,hl90,hp8⟩:=Has.at_idx hw3 h83;refine P_p rfl rfl (Ay rfl rfl hA8 (j:=j87) hj8 hl90 Fa) rfl ?_;refine P_p rfl rfl (Aq rfl rfl By (by decide) (by decide) rfl) rfl ?_
   refine P_q rfl rfl (Do (d:=0) rfl hp8 (sb 1) rfl one3) rfl ?_;refine Y2 ?_;obtain ⟨x93,h94,hx95⟩:=Ad hx84;have hw4:=Has.low (E:=[]) ha0' hK;obtain ⟨b9,o3,j98,hA9,hj9,hl10,hp9⟩:=Has.at_idx hw4 h94;refine P_p rfl rfl (Ay rfl rfl hA9 (j:=j98) hj9 hl10 Fa) rfl ?_;refine P_p rfl rfl (Aq rfl rfl By (by decide) (by decide) rfl) rfl ?_;refine P_q rfl rfl (Do (d:=1) rfl hp9 (sb 1) rfl one3) rfl ?_;refine P_p rfl rfl (Ahj rfl rfl) rfl ?_;refine P_p rfl rfl (Cp rfl (Ci _ _)) rfl ?_;refine P_x rfl (Bg rfl (Di _ _) rfl (fun g0=>?_)) ?_;rotate_left;exact Az;obtain ⟨h10,hx19⟩:=Be hx95;refine P_h rfl rfl (Df Ag (s6.1) [(⟨min x9.a0 x71.a1,max x82.a0 x93.a1⟩:Aa)] rfl rfl rfl Vp (fun _=>rfl) (i':=0) rfl rfl rfl rfl h10 rfl (fun _ _=>.there (.here)) (fun _ _=>.drop .refl) (by decide) (fun A1 c1=>?_)) ?_;rotate_left;exact Az;refine P_x rfl (Gu (Dn rfl) rfl ?_) ?_;rotate_left;exact Az;refine Y7 ?_;exact Rp (s6.1++[(⟨min x9.a0 x71.a1,max x82.a0 x93.a1⟩:Aa)],w64 (s6.2+1)) (A1,c1) hx19 trivial (by exact .pick 0 rfl (.refl))
  ·refine Y3 ?_;obtain rfl:=Bm ht2 hx59;refine Y2 ?_;exact Mt s6.1 (y6.1,y6.2) ho2 trivial (by exact .pick 0 rfl (.refl))
set_option maxHeartbeats 1000000 in
set_option maxRecDepth 100000 in
instance lidarref06_ordered_c (p0:List Aa):Con (Hh p0) Tryz.prog 67 (fun K vs=>∃ (A0_0:Option Addr) (c0_0:Nat),vs=[.slice (A0_0) ((p0).length) (c0_0)]∧Has K A0_0 (p0).length c0_0 2 Ag (p0)∧True) (fun _ r=>fun v Ln=>∃ (A0:Option Addr) (c0:Nat),v = .slice (A0) ((r).length) (c0)∧Ln=[.r A0 (r).length c0 48 2 ((r).flatMap Ag)]∧True):=⟨by
 rintro K _ r ⟨A0_0,c0_0,rfl,ha0,-⟩ hx w hK;exact Vt p0 ha0 hx w hK⟩
set_option maxRecDepth 100000 in
theorem Tp (p0:List Ab) (p1:List Aa) {K:List Ent} {A0_0:Option Addr} {c0_0:Nat} {A0_1:Option Addr} {c0_1:Nat} (ha0:Has K A0_0 p0.length c0_0 4 Ae (p0)) (ha1:Has K A0_1 p1.length c0_1 2 Ag (p1)) {r:List Aj} (hx:Cw p0 p1=some r) (w:World) (hK:∀ e∈K,Ent.ok w e):CtL Tryz.prog 68 [.slice (A0_0) (p0.length) (c0_0),.slice (A0_1) (p1.length) (c0_1)] w fun v Ln=>∃ (A0:Option Addr) (c0:Nat),v = .slice (A0) (r.length) (c0)∧Ln=[.r A0 r.length c0 35 3 (r.flatMap Am)]∧True:=by
 have ha0':=Has.up0 ha0;have ha1':=Has.up0 ha1;refine CtL.mk 94 Tryz.func68 rfl Tryz.ntmps68 (by kernel_rfl) rfl ?_;show T 94 _ [(0,.slice (A0_0) (p0.length) (c0_0)),(1,.slice (A0_1) (p1.length) (c0_1))] _;unfold Cw at hx;refine Y6 ?_;refine Tj (γ:=Unit) hx (fun s3 y3=>[(0,.slice (A0_0) (p0.length) (c0_0)),(1,.slice (A0_1) (p1.length) (c0_1)),(21,.bool (s3))]) (fun s3 y3=>[]++[.old w]) (fun s3 y3=>True) (fun s3 y3 hx7 hG8=>?_) (fun j3 hx=>?_)
 ·refine Da (s:=21) rfl (fun h9=>?_) (fun h9=>?_)
  ·have hx0:=Dd h9 hx7;refine Y8 ?_;refine Bb 35 3 ?_;obtain rfl:=Option.some.inj hx0;exact Cu (rs:=[.tmp 4]) Tryz.results68 (.tmp rfl (.nil)) (Ln:=[.r (none) (0) (0) 35 3 ((([]:List Aj)).flatMap Am)]) ⟨none,0,rfl,rfl,trivial⟩ (Bi rfl (Dk)) (by exact .pick 0 rfl (.refl))
  ·have hx1:=Dr h9 hx7;refine Y6 ?_;obtain ⟨r0,h0,hx4⟩:=Ad hx1;refine Tc (fun w1 hw1=>Yd p0 (Has.len' ha0') h0 w1 (Mu (K:=K) (K2:=[]) hK (by exact (sb 0)) (by exact (SubE.nil)) hw1)) ?_;refine Y8 ?_;obtain ⟨r1,h2,hx5⟩:=Ad hx4;refine Tc (fun w1 hw1=>Yz p0 r0 false (Has.len' ha0') h2 w1 (Mu (K:=K) (K2:=[]) hK (by exact (sb 0)) (by exact (SubE.nil)) hw1)) ?_;refine Al (Cp rfl (Ci _ _)) rfl ?_;refine T_x (Bg rfl (Di _ _) rfl (fun g0=>?_));refine Y5 ?_;refine T_x (Qu Tryz.prog 48 Ai Bf rfl (fun g1=>?_));refine Y8 ?_;refine Tj (γ:=(Option Addr) × Nat) hx5 (fun s9 y9=>[(8,.slice (y9.1) (s9.length) (y9.2))]) (fun s9 y9=>[.r (y9.1) (s9.length) (y9.2) 35 3 (s9.flatMap Am)]++[.old w]) (fun s9 y9=>True) (fun s9 y9 hx8 hG0=>?_) (fun j9 hx5=>?_)
   ·refine Y3 ?_;obtain ⟨r2,h3,hx9⟩:=Ad hx8;refine T_h (Hz rfl (by exact .pick 0 rfl (.refl)) (by exact (SubE.nil)) (Vy s9  h3 (K:=([]:List Ent))) rfl ?_);rintro _ _ ⟨A1,c1,rfl,rfl,-⟩;refine Kh ?_;refine Y4 ?_;obtain rfl:=Option.some.inj hx9;exact Cu (rs:=[.tmp 4]) Tryz.results68 (.tmp rfl (.nil)) (Ln:=[.r (A1) (r2.length) (c1) 35 3 (r2.flatMap Am)]) ⟨A1,c1,rfl,rfl,trivial⟩ (Bi rfl (Dk)) (by exact .pick 0 rfl (.refl))
   ·refine Y ?_;refine T_mr (enc:=Ag) (sz:=2) ([(⟨r0,r1⟩:Aa)]) (.there (.here)) rfl rfl (fun _=>rfl) (by show 1≤maxLen;decide) ?_;obtain ⟨t0,hl0,ho0⟩:=Ad hx5;refine Bb 35 3 ?_
    have hn0:0=(([]:List Aj)).length:=by simp [Bj,Bz,List.length_append] <;> omega
    refine He (.here) (e':=.r (none) ((([]:List Aj)).length) (0) 35 3 ((([]:List Aj)).flatMap Am)) (by first | (rw [← hn0];done) | rfl) ?_
    have hn1:1=([(⟨r0,r1⟩:Aa)]).length:=by simp [Bj,Bz,List.length_append] <;> omega
    refine He (.there (.there (.here))) (e':=.r (some ⟨g0,0,none⟩) (([(⟨r0,r1⟩:Aa)]).length) (1) 48 2 (([(⟨r0,r1⟩:Aa)]).flatMap Ag)) (by first | (rw [← hn1];done) | rfl) ?_;refine Hy (s:=6) (v':=.slice (some ⟨g0,0,none⟩) (([(⟨r0,r1⟩:Aa)]).length) (1)) rfl (by have hn2:(1)=([(⟨r0,r1⟩:Aa)]).length:=(by simp [Bj,Bz,List.length_append] <;> omega);first | (rw [← hn2];done) | rfl) ?_;refine Lp (σ:=(List Aa) × (List (Aa × Bool)) × (List Aj)) (γ:=(Option Addr) × Nat × (Option Addr) × Nat) hl0 (fun s0 y0=>[(0,.slice (A0_0) (p0.length) (c0_0)),(1,.slice (A0_1) (p1.length) (c0_1)),(6,.slice (y0.1) (s0.1.length) (y0.2.1)),(7,.map (some g1)),(8,.slice (y0.2.2.1) (s0.2.2.length) (y0.2.2.2))]) (fun s0 y0=>[.r (y0.2.2.1) (s0.2.2.length) (y0.2.2.2) 35 3 (s0.2.2.flatMap Am),Ax Tryz.prog 48 Ai Bf g1 (s0.2.1),.r (y0.1) (s0.1.length) (y0.2.1) 48 2 (s0.1.flatMap Ag)]++[.old w]) (fun s0 y0=>True) (some ⟨g0,0,none⟩,1,none,0) trivial (by exact .pick 0 rfl (.pick 0 rfl (.pick 0 rfl (.refl)))) ?_;intro s0 y0 hG1 x0 hx12 ht0;unfold Fy at hx12;refine Y4 ?_;refine Al (Bx rfl 48 Tryz.underlying23) rfl ?_;refine Y3 ?_;refine Ti hx12 (s:=33) rfl (fun h4 hx13=>?_) (fun h4 hx15=>?_)
    ·refine Y8 ?_;refine Al (Bx rfl 48 Tryz.underlying23) rfl ?_;refine Y ?_;obtain ⟨x1,h6,hx16⟩:=Ad hx13;refine Lg (k:=2) rfl (by decide) (fun _=>rfl) h6 (fun b0 j0 hA0 hj0 hl1 hm0 hp0=>?_);refine Al (Ay rfl rfl hA0 (j:=j0) hj0 hl1 Fa) rfl ?_;refine Al (Cg rfl hp0 (sb 2) rfl Ds) rfl ?_;refine T_x (Dq Qq rfl (fun g2=>?_));refine T_h (Bt rfl rfl rfl (.here) (.put (.put (.done))) rfl (List.cons_ne_nil _ _) Ds.2 ?_);refine Y6 ?_;refine Al (Bx rfl 48 Tryz.underlying23) rfl ?_;refine Y ?_;refine Ou (k:=3) rfl (by decide) (fun _=>rfl) (fun hn3 hs0=>?_);obtain ⟨h7,hx18⟩:=Be hx16;have hs1:=Has.subH hs0 h7.1 h7.2;refine Al (Sx rfl rfl Fa h7.1 (by have:=Has.nc hs0;omega)) rfl ?_;refine Y7 ?_;refine Al (Cy rfl (i:=0) rfl rfl Ds) rfl ?_;obtain ⟨h8,hx19⟩:=Be hx18;obtain ⟨x2,h10,hx20⟩:=Ad hx19;refine Al (Ug (x:=x1) (i:=2) (vv:=.bool (x2)) Lh Tryz.underlying101 (fun w=>by kernel_rfl) Bc rfl rfl rfl rfl Fg (Nv x1 h8) h10 rfl) rfl ?_;refine Y2 ?_;refine Da (s:=47) rfl (fun h11=>?_) (fun h11=>?_)
     ·have hx21:=Dd h11 hx20;refine Y4 ?_;refine Ve (q:=Int.toNat (w64 ((((s0.1.length:Nat):Int))-1))) (.there (.there (.there (.here)))) (by have:=Has.len hs1;simp [subl] at this;omega) (by decide) (fun _=>rfl) ?_
      have hn4:Int.toNat (w64 ((((s0.1.length:Nat):Int))-1))=(List.take (Int.toNat (w64 ((((s0.1.length:Nat):Int))-1))) s0.1).length:=by simp [Bj,Bz,List.length_append] <;> omega
      refine He (.there (.there (.there (.here)))) (e':=.r (y0.1) ((List.take (Int.toNat (w64 ((((s0.1.length:Nat):Int))-1))) s0.1).length) (y0.2.1) 48 2 ((List.take (Int.toNat (w64 ((((s0.1.length:Nat):Int))-1))) s0.1).flatMap Ag)) (by first | (rw [← hn4];done) | rfl) ?_;refine Hy (s:=6) (v':=.slice (y0.1) ((List.take (Int.toNat (w64 ((((s0.1.length:Nat):Int))-1))) s0.1).length) (y0.2.1)) rfl (by have hn5:(Int.toNat (w64 ((((s0.1.length:Nat):Int))-1)))=(List.take (Int.toNat (w64 ((((s0.1.length:Nat):Int))-1))) s0.1).length:=(by simp [Bj,Bz,List.length_append] <;> omega);first | (rw [← hn5];done) | rfl) ?_;exact Rp (List.take (Int.toNat (w64 ((((s0.1.length:Nat):Int))-1))) s0.1,s0.2.1,s0.2.2) (y0.1,y0.2.1,y0.2.2.1,y0.2.2.2) hx21 trivial (by exact .pick 1 rfl (.pick 1 rfl (.pick 1 rfl (.drop 0 rfl (.refl)))))
     ·have hx22:=Dr h11 hx20;refine Y7 ?_;refine Al (Aq rfl rfl By (by decide) (by decide) rfl) rfl ?_;refine Al (Au rfl (i:=0) rfl rfl one3) rfl ?_;refine Al (Aq rfl rfl By (by decide) (by decide) rfl) rfl ?_;refine Al (Au rfl (i:=0) rfl rfl one3) rfl ?_;obtain ⟨r3,h12,hx23⟩:=Ad hx22;refine Tc (fun w1 hw1=>Sh p0 p1 x1.a0 x1.a1 (Has.len' ha0') (Has.len' ha1') h12 w1 (Mu (K:=K) (K2:=[]) hK (by exact (sb 4)) (by exact (SubE.nil)) hw1)) ?_;refine Y10 ?_;refine Ti hx23 (s:=56) rfl (fun h14 hx24=>?_) (fun h14 hx25=>?_)
      ·refine Y4 ?_;refine Al (Cy rfl (i:=0) rfl rfl Ds) rfl ?_;obtain ⟨h15,hx26⟩:=Be hx24;obtain ⟨h17,hx27⟩:=Be hx26;refine T_h (Nm (x:=x1) (y:=true) Lh Bc Tryz.underlying101 rfl rfl rfl rfl rfl (.there (.there (.here))) (Nv x1 h15) h17 ?_);refine Y5 ?_;refine Ve (q:=Int.toNat (w64 ((((s0.1.length:Nat):Int))-1))) (.there (.there (.there (.here)))) (by have:=Has.len hs1;simp [subl] at this;omega) (by decide) (fun _=>rfl) ?_
       have hn6:Int.toNat (w64 ((((s0.1.length:Nat):Int))-1))=(List.take (Int.toNat (w64 ((((s0.1.length:Nat):Int))-1))) s0.1).length:=by simp [Bj,Bz,List.length_append] <;> omega
       refine He (.there (.there (.there (.here)))) (e':=.r (y0.1) ((List.take (Int.toNat (w64 ((((s0.1.length:Nat):Int))-1))) s0.1).length) (y0.2.1) 48 2 ((List.take (Int.toNat (w64 ((((s0.1.length:Nat):Int))-1))) s0.1).flatMap Ag)) (by first | (rw [← hn6];done) | rfl) ?_;refine Hy (s:=6) (v':=.slice (y0.1) ((List.take (Int.toNat (w64 ((((s0.1.length:Nat):Int))-1))) s0.1).length) (y0.2.1)) rfl (by have hn7:(Int.toNat (w64 ((((s0.1.length:Nat):Int))-1)))=(List.take (Int.toNat (w64 ((((s0.1.length:Nat):Int))-1))) s0.1).length:=(by simp [Bj,Bz,List.length_append] <;> omega);first | (rw [← hn7];done) | rfl) ?_;exact Rp (List.take (Int.toNat (w64 ((((s0.1.length:Nat):Int))-1))) s0.1,mput s0.2.1 x1 true,s0.2.2) (y0.1,y0.2.1,y0.2.2.1,y0.2.2.2) hx27 trivial (by exact .pick 1 rfl (.pick 1 rfl (.pick 1 rfl (.drop 0 rfl (.refl)))))
      ·refine Y5 ?_;refine Al (Aq rfl rfl By (by decide) (by decide) rfl) rfl ?_;refine Al (Au rfl (i:=0) rfl rfl one3) rfl ?_;refine Al (Aq rfl rfl By (by decide) (by decide) rfl) rfl ?_;refine Al (Au rfl (i:=0) rfl rfl one3) rfl ?_;refine Y ?_;refine Al (Cp rfl (Oo _ _ _)) rfl ?_;obtain ⟨r5,h18,hx28⟩:=Ad hx25;refine Tc (fun w1 hw1=>Vz (⟨x1.a0,x1.a1,r3⟩:Aj)  h18 w1) ?_;refine T_x (Dq As0 rfl (fun g3=>?_));refine T_h (Bt rfl rfl rfl (.here) (.put (.put (.put (.done)))) rfl (List.cons_ne_nil _ _) Zw.2 ?_);refine Y5 ?_;refine Al (Cy rfl (i:=0) rfl rfl Zw) rfl ?_;refine T_x (Bg rfl (Nw _ _ _) rfl (fun g4=>?_));obtain ⟨h19,hx29⟩:=Be hx28;refine T_h (Df Am (s0.2.2) [r5] rfl rfl rfl Aok (fun _=>rfl) (i':=0) rfl rfl rfl rfl h19 rfl (fun _ _=>.there (.there (.there (.here)))) (fun _ _=>.drop .refl) (by decide) (fun A2 c2=>?_));refine Y9 ?_;obtain ⟨t1,hl2,ho1⟩:=Ad hx29;refine Ve (q:=Int.toNat (w64 ((((s0.1.length:Nat):Int))-1))) (.there (.there (.there (.there (.here))))) (by have:=Has.len hs1;simp [subl] at this;omega) (by decide) (fun _=>rfl) ?_
       have hn8:Int.toNat (w64 ((((s0.1.length:Nat):Int))-1))=(List.take (Int.toNat (w64 ((((s0.1.length:Nat):Int))-1))) s0.1).length:=by simp [Bj,Bz,List.length_append] <;> omega
       refine He (.there (.there (.there (.there (.here))))) (e':=.r (y0.1) ((List.take (Int.toNat (w64 ((((s0.1.length:Nat):Int))-1))) s0.1).length) (y0.2.1) 48 2 ((List.take (Int.toNat (w64 ((((s0.1.length:Nat):Int))-1))) s0.1).flatMap Ag)) (by first | (rw [← hn8];done) | rfl) ?_;refine Hy (s:=6) (v':=.slice (y0.1) ((List.take (Int.toNat (w64 ((((s0.1.length:Nat):Int))-1))) s0.1).length) (y0.2.1)) rfl (by have hn9:(Int.toNat (w64 ((((s0.1.length:Nat):Int))-1)))=(List.take (Int.toNat (w64 ((((s0.1.length:Nat):Int))-1))) s0.1).length:=(by simp [Bj,Bz,List.length_append] <;> omega);first | (rw [← hn9];done) | rfl) ?_;refine Lp (σ:=(List Aa) × (List (Aa × Bool)) × Int) (γ:=(Option Addr) × Nat) hl2 (fun s1 y1=>[(0,.slice (A0_0) (p0.length) (c0_0)),(1,.slice (A0_1) (p1.length) (c0_1)),(6,.slice (y1.1) (s1.1.length) (y1.2)),(7,.map (some g1)),(8,.slice (A2) ((s0.2.2++[r5]).length) (c2)),(11,.pointer (some ⟨g3,0,none⟩)),(70,.int .i64 (s1.2.2))]) (fun s1 y1=>[.r (y1.1) (s1.1.length) (y1.2) 48 2 (s1.1.flatMap Ag),.m g3 35 [.int .i64 (r5.a0),.int .i64 (r5.a1),.int .i64 (r5.a2)],.r (A2) ((s0.2.2++[r5]).length) (c2) 35 3 ((s0.2.2++[r5]).flatMap Am),Ax Tryz.prog 48 Ai Bf g1 (s1.2.1)]++[.old w]) (fun s1 y1=>True) (y0.1,y0.2.1) trivial (by exact .pick 4 rfl (.pick 0 rfl (.pick 1 rfl (.pick 1 rfl (.drop 0 rfl (.refl)))))) ?_
       intro s1 y1 hG2 x3 hx30 ht1;unfold Dl at hx30;refine Y6 ?_;refine Ti hx30 (s:=71) rfl (fun h20 hx31=>?_) (fun h20 hx32=>?_)
       ·refine Y12 ?_;refine T_dr [0,0,1,0,0,0,0,1,2,2] (.q 0 (.q 1 (.q 2 (.q 3 (.q 4 (.q 5 (.q 6 (.q 7 (.e 8 (.e 9 (.done) (.stop)) (.stop)))))))))) mixed (by kernel_rfl) (by kernel_rfl) ?_;refine Y ?_;obtain ⟨x4,h21,hx33⟩:=Ad hx31;refine P_p rfl rfl (Aq rfl rfl Aex (Eh h21).1 (Eh h21).2 rfl) rfl ?_;refine P_q rfl rfl (Mv Bu (o:=0) rfl (i:=1) rfl h21 rfl (fun _=>rfl) rfl one3) rfl ?_;refine Y2 ?_;refine P_p rfl rfl (Ae0 rfl rfl (by decide)) rfl ?_;obtain ⟨x5,h22,hx34⟩:=Ad hx33;refine P_p rfl rfl (Aq rfl rfl Aex (Eh h22).1 (Eh h22).2 rfl) rfl ?_;refine P_q rfl rfl (Mv Bu (o:=0) rfl (i:=1) rfl h22 rfl (fun _=>rfl) rfl one3) rfl ?_;refine P_x rfl (Gu (Dn rfl) rfl ?_) ?_;rotate_left;exact Az;refine P_x rfl (Gu (Dn rfl) rfl ?_) ?_;rotate_left;exact Az;refine Y7 ?_;refine Al (Cp rfl (Ci _ _)) rfl ?_;obtain ⟨h23,hx35⟩:=Be hx34;obtain ⟨h24,hx36⟩:=Be hx35;refine T_h (Nm (x:=(⟨x4,x5⟩:Aa)) (y:=true) Lh Bc Tryz.underlying101 rfl rfl rfl rfl rfl (.there (.there (.there (.here)))) (Nv ((⟨x4,x5⟩:Aa)) h23) h24 ?_);refine Y6 ?_;refine Al (Cp rfl (Ci _ _)) rfl ?_;refine T_x (Bg rfl (Di _ _) rfl (fun g5=>?_));obtain ⟨h25,hx37⟩:=Be hx36;refine T_h (Df Ag (s1.1) [(⟨x5,x4⟩:Aa)] rfl rfl rfl Vp (fun _=>rfl) (i':=0) rfl rfl rfl rfl h25 rfl (fun _ _=>.there (.here)) (fun _ _=>.drop .refl) (by decide) (fun A3 c3=>?_))
        refine Y8 ?_;exact Rp (s1.1++[(⟨x5,x4⟩:Aa)],mput s1.2.1 ((⟨x4,x5⟩:Aa)) true,w64 (s1.2.2+1)) (A3,c3) hx37 trivial (by exact .pick 0 rfl (.pick 0 rfl (.pick 0 rfl (.pick 0 rfl (.refl)))))
       ·refine Y3 ?_;obtain rfl:=Bm ht1 hx32;refine Y3 ?_;exact Rp (s1.1,s1.2.1,s0.2.2++[r5]) (y1.1,y1.2,A2,c2) ho1 trivial (by exact .pick 2 rfl (.pick 2 rfl (.pick 0 rfl (.drop 0 rfl (.refl)))))
    ·refine Y3 ?_;obtain rfl:=Bm ht0 hx15;refine Y2 ?_;exact Mt s0.2.2 (y0.2.2.1,y0.2.2.2) ho0 trivial (by exact .pick 0 rfl (.drop 0 rfl (.drop 0 rfl (.refl))))
 ·refine Y2 ?_;refine Al (Bx rfl 43 Tryz.underlying22) rfl ?_;refine Y2 ?_;refine Ti hx (s:=18) rfl (fun h1 hx2=>?_) (fun h1 hx3=>?_)
  ·refine Y4 ?_;exact Mt true () hx2 trivial (by exact .refl)
  ·refine Y ?_;obtain ⟨r4,h5,hx6⟩:=Ad hx3;refine T_xG rfl rfl rfl (Bk rfl (fun w1 hw1=>Za p0 (Has.len' ha0') h5 w1 (Mu (K:=K) (K2:=[]) hK (by exact (sb 0)) (by exact (SubE.nil)) hw1)) rfl ?_);rintro _ _ hlo ⟨rfl,rfl,-⟩;refine Ee ?_;refine Y2 ?_;exact Mt r4 () hx6 trivial (by exact .refl)
set_option maxHeartbeats 1000000 in
set_option maxRecDepth 100000 in
instance lidarref06_triangles_c (p0:List Ab) (p1:List Aa):Con (Cw p0 p1) Tryz.prog 68 (fun K vs=>∃ (A0_0:Option Addr) (c0_0:Nat) (A0_1:Option Addr) (c0_1:Nat),vs=[.slice (A0_0) ((p0).length) (c0_0),.slice (A0_1) ((p1).length) (c0_1)]∧Has K A0_0 (p0).length c0_0 4 Ae (p0)∧Has K A0_1 (p1).length c0_1 2 Ag (p1)∧True) (fun _ r=>fun v Ln=>∃ (A0:Option Addr) (c0:Nat),v = .slice (A0) ((r).length) (c0)∧Ln=[.r A0 (r).length c0 35 3 ((r).flatMap Am)]∧True):=⟨by
 rintro K _ r ⟨A0_0,c0_0,A0_1,c0_1,rfl,ha0,ha1,-⟩ hx w hK;exact Tp p0 p1 ha0 ha1 hx w hK⟩
set_option maxHeartbeats 1000000 in
set_option maxRecDepth 100000 in
instance Yu (p0:List Ab) (p1:List Aa):Con (Bd p0 p1) Tryz.prog 20 (fun K vs=>∃ (A0_0:Option Addr) (c0_0:Nat) (A0_1:Option Addr) (c0_1:Nat),vs=[.slice (A0_0) ((p0).length) (c0_0),.slice (A0_1) ((p1).length) (c0_1)]∧Has K A0_0 (p0).length c0_0 4 Ae (p0)∧Has K A0_1 (p1).length c0_1 2 Ag (p1)∧True) (fun _ r=>fun v Ln=>∃ (A0:Option Addr) (c0:Nat) (A2:Option Addr) (c2:Nat) (A4:Option Addr) (c4:Nat),v = .tuple #[.agg #[.slice (A0) ((r.1.V).length) (c0),.slice (A2) ((r.1.T).length) (c2),.slice (A4) ((r.1.Lines).length) (c4)],.int .i64 (r.2)]∧Ln=[.r A0 (r.1.V).length c0 43 4 ((r.1.V).flatMap Ae),.r A2 (r.1.T).length c2 35 3 ((r.1.T).flatMap Am),.r A4 (r.1.Lines).length c4 48 2 ((r.1.Lines).flatMap Ag)]∧True):=⟨by
 rintro K _ r ⟨A0_0,c0_0,A0_1,c0_1,rfl,ha0,ha1,-⟩ hx w hK;replace ha0:=Has.lo ha0 hK;replace ha1:=Has.lo ha1 hK;unfold Bd at hx;refine CtS Tryz.ntmps20 Tryz.results20 ?_;refine pre ?_;intros;rename_i hx
 refine Cq2 (s:=14) hx rfl (fun _ hx=>?_) (fun _ hx=>?_)
 ·exact au
 ·refine pre ?_;intros;rename_i hx
  refine Lz ?_;refine pre ?_;intros;rename_i hx
  apply Jr (γ:=(Option Addr) × Nat) hx [0,1,4] (fun s7 y7 f=>(7,.slice (y7.1) ((s7).length) (y7.2))::f) [0,999] (fun s7 y7 l=>.r (y7.1) ((s7).length) (y7.2) 43 4 ((s7).flatMap Ae)::l);exact kk
  ·intro s7 y7 hx;exact au
  ·intro _ hx;refine pre ?_;intros;rename_i hx
   refine Bb 43 4 ?_
   apply Lr (γ:=(Option Addr) × Nat) hx [0,1,4,18] (fun s0 y0 f=>(7,.slice (y0.1) ((s0.1).length) (y0.2))::(19,.int .i64 (s0.2))::f) [1,999] (fun s0 y0 l=>.r (y0.1) ((s0.1).length) (y0.2) 43 4 ((s0.1).flatMap Ae)::l) (_,_);exact kk;exact sk;intro s0 y0 x0 hx _;unfold Io at hx
   exact au⟩
theorem Qw (p0:List Ab) (p1:List Aa) {K:List Ent} {A0_0:Option Addr} {c0_0:Nat} {A0_1:Option Addr} {c0_1:Nat} (ha0:Has K A0_0 (p0).length c0_0 4 Ae (p0)) (ha1:Has K A0_1 (p1).length c0_1 2 Ag (p1)) {r:Av × Int} (hx:Bd p0 p1=some r) (w:World) (hK:∀ e∈K,Ent.ok w e):CtL Tryz.prog 20 [.slice (A0_0) ((p0).length) (c0_0),.slice (A0_1) ((p1).length) (c0_1)] w fun v Ln=>∃ (A0:Option Addr) (c0:Nat) (A2:Option Addr) (c2:Nat) (A4:Option Addr) (c4:Nat),v = .tuple #[.agg #[.slice (A0) ((r.1.V).length) (c0),.slice (A2) ((r.1.T).length) (c2),.slice (A4) ((r.1.Lines).length) (c4)],.int .i64 (r.2)]∧Ln=[.r A0 (r.1.V).length c0 43 4 ((r.1.V).flatMap Ae),.r A2 (r.1.T).length c2 35 3 ((r.1.T).flatMap Am),.r A4 (r.1.Lines).length c4 48 2 ((r.1.Lines).flatMap Ag)]∧True:=(Yu p0 p1).h K _ _ ⟨_,_,_,_,rfl,ha0,ha1,trivial⟩ hx w hK
end Go.Proofs.YtgfiafnelibjgaaGreat
