/- Walks of the program, with their plain functions: the reference's mesh. -/
import Derived.Test.YtjfndjmabhbicaaGreatE2
namespace Go.Proofs.YtjfndjmabhbicaaGreat
open Go Go.RowKit
theorem Aza:Nn Tryz.prog 94 [.int .i64 (0),.int .i64 (0),.int .i64 (0)]:=⟨_,Tryz.zeroValue94,rfl⟩
instance:Wi Tryz.prog 94 [.int .i64 (0),.int .i64 (0),.int .i64 (0)]:=⟨Aza⟩
theorem Vb (x0:Int) (x1:Int) (x2:Int) (x3:Int):Db Tryz.prog 22 1 [(0,.agg #[.int .i64 x0,.int .i64 x1,.int .i64 x2,.int .i64 x3])] 70 [.int .i64 x0,.int .i64 x1,.int .i64 x2,.int .i64 x3]:=fun w=>by kernel_rfl
instance (x0:Int) (x1:Int) (x2:Int) (x3:Int):Nm Tryz.prog 22 1 [(0,.agg #[.int .i64 x0,.int .i64 x1,.int .i64 x2,.int .i64 x3])] 70 [.int .i64 x0,.int .i64 x1,.int .i64 x2,.int .i64 x3]:=⟨Vb _ _ _ _⟩
noncomputable def Gx (p0:Ae) (p1:Ae):Int->Option (Sum Int (Sum Unit Bool)):=fun s0 =>
 if s0 < 3 then (bnd (idx [p0.a0,p0.a1,p0.a2] s0) fun x0 =>
 bnd (idx [p1.a0,p1.a1,p1.a2] s0) fun x1 =>
 if x0=x1 then (some (.inl (w64 (s0+1))))
 else (bnd (idx [p0.a0,p0.a1,p0.a2] s0) fun x2 =>
 bnd (idx [p1.a0,p1.a1,p1.a2] s0) fun x3 =>
 some (.inr (.inr (decide (x2 < x3))))))
 else (some (.inr (.inl ())))
noncomputable def Jz (p0:Ae) (p1:Ae):Option Bool :=
 jn (fun (s2:Unit) =>
 some false)
 (fun j2=>bnd (lfix (Gx p0 p1) 0) fun t0 =>
 (match t0 with
 | (.inl z0)=>j2 z0
 | (.inr (z0))=>some z0
 ))
noncomputable def Hh  : ((List Ae) × Int)->Option (Sum ((List Ae) × Int) (List Ae)):=fun s0 =>
 jn (fun (s1:Bool) =>
 if s1=true then (bnd (idx s0.1 (w64 (s0.2-1))) fun x0 =>
 bnd (idx s0.1 s0.2) fun x1 =>
 bnd (idx s0.1 s0.2) fun x2 =>
 bnd (idx (setI s0.1 s0.2 x0) (w64 (s0.2-1))) fun x3 =>
 some (.inl (setI (setI s0.1 s0.2 x0) (w64 (s0.2-1)) x1,w64 (s0.2-1))))
 else (some (.inr s0.1)))
 (fun j0=>if 0 < s0.2 then (bnd (idx s0.1 s0.2) fun x4 =>
 bnd (idx s0.1 (w64 (s0.2-1))) fun x5 =>
 bnd (Jz x4 x5) fun r0 =>
 j0 r0)
 else (j0 false))
noncomputable def Hj (p0:List Ae):((List Ae) × Int)->Option (Sum ((List Ae) × Int) (List Ae)):=fun s0 =>
 if s0.2 < ((((p0).length:Nat):Int)) then (jn (fun (s1:List Ae) =>
 some (.inl (s1,w64 (s0.2+1))))
 (fun j0=>bnd (lfix (Hh) (s0.1,s0.2)) fun t0 =>
 j0 t0))
 else (some (.inr s0.1))
noncomputable def Hm (p0:List Ae):Option (List Ae) :=
 jn (fun (s2:List Ae) =>
 some s2)
 (fun j2=>bnd (lfix (Hj p0) (p0,0)) fun t0 =>
 j2 t0)
noncomputable def Ff  : (Int × Int × Int)->Option (Sum (Int × Int × Int) (Int × Int × Int)):=fun s0 =>
 jn (fun (s6:Bool) =>
 if s6=true then (some (.inl (s0.2.1,s0.2.2,s0.1)))
 else (some (.inr (s0.1,s0.2.1,s0.2.2))))
 (fun j6=>if s0.2.1 < s0.1 then (j6 true)
 else (j6 (decide (s0.2.2 < s0.1))))
noncomputable def Kh (p0:Ae):Option Ae :=
 jn (fun (s2:Int × Int × Int) =>
 some (⟨s2.1,s2.2.1,s2.2.2⟩:Ae))
 (fun j2=>bnd (lfix (Ff) (p0.a0,p0.a1,p0.a2)) fun t0 =>
 j2 t0)
noncomputable def Ka (p0:Aa) (p1:Aa):Option Bool :=
 jn (fun (s2:Bool) =>
 some s2)
 (fun j2=>if p0.a0 < p1.a0 then (j2 true)
 else (if p0.a0=p1.a0 then (j2 (decide (p0.a1 < p1.a1)))
 else (j2 false)))
noncomputable def Jn (p0:List Aa):((List Aa) × Int)->Option (Sum ((List Aa) × Int) (List Aa)):=fun s0 =>
 if s0.2 < ((((p0).length:Nat):Int)) then (bnd (idx p0 s0.2) fun x0 =>
 bnd (idx p0 s0.2) fun x1 =>
 bnd (idx p0 s0.2) fun x2 =>
 bnd (idx p0 s0.2) fun x3 =>
 gd (((s0.1).length+1)*16<=140737488355328) <|
 some (.inl (s0.1++[(⟨min x0.a0 x1.a1,max x2.a0 x3.a1⟩:Aa)],w64 (s0.2+1))))
 else (some (.inr s0.1))
noncomputable def Fv  : ((List Aa) × Int)->Option (Sum ((List Aa) × Int) (List Aa)):=fun s0 =>
 jn (fun (s1:Bool) =>
 if s1=true then (bnd (idx s0.1 (w64 (s0.2-1))) fun x0 =>
 bnd (idx s0.1 s0.2) fun x1 =>
 bnd (idx s0.1 s0.2) fun x2 =>
 bnd (idx (setI s0.1 s0.2 x0) (w64 (s0.2-1))) fun x3 =>
 some (.inl (setI (setI s0.1 s0.2 x0) (w64 (s0.2-1)) x1,w64 (s0.2-1))))
 else (some (.inr s0.1)))
 (fun j0=>if 0 < s0.2 then (bnd (idx s0.1 s0.2) fun x4 =>
 bnd (idx s0.1 (w64 (s0.2-1))) fun x5 =>
 bnd (Ka x4 x5) fun r0 =>
 j0 r0)
 else (j0 false))
noncomputable def Gq (s3:List Aa):((List Aa) × Int)->Option (Sum ((List Aa) × Int) (List Aa)):=fun s0 =>
 if s0.2 < ((((s3).length:Nat):Int)) then (jn (fun (s1:List Aa) =>
 some (.inl (s1,w64 (s0.2+1))))
 (fun j0=>bnd (lfix (Fv) (s0.1,s0.2)) fun t0 =>
 j0 t0))
 else (some (.inr s0.1))
noncomputable def Ex (p0:List Aa):Option (List Aa) :=
 jn (fun (s3:List Aa) =>
 jn (fun (s0:List Aa) =>
 some s0)
 (fun j0=>bnd (lfix (Gq s3) (s3,0)) fun t0 =>
 j0 t0))
 (fun j3=>bnd (lfix (Jn p0) (([]:List Aa),0)) fun t1 =>
 j3 t1)
noncomputable def Cl (r0:Ae) (s0:(List Aa) × (List (Aa × Bool)) × (List Ae)):((List Aa) × (List (Aa × Bool)) × Int)->Option (Sum ((List Aa) × (List (Aa × Bool)) × Int) ((List Aa) × (List (Aa × Bool)) × (List Ae))):=fun s1 =>
 if s1.2.2 < 3 then (bnd (idx [r0.a0,r0.a1,r0.a2] s1.2.2) fun x0 =>
 bnd (idx [r0.a0,r0.a1,r0.a2] (Int.tmod (w64 (s1.2.2+1)) 3)) fun x1 =>
 gd ((-9223372036854775808<=x0/\x0<=9223372036854775807)/\(-9223372036854775808<=x1/\x1<=9223372036854775807)) <|
 gd ((s1.2.1).length < 9223372036854775807) <|
 gd (((s1.1).length+1)*16<=140737488355328) <|
 some (.inl (s1.1++[(⟨x1,x0⟩:Aa)],mput s1.2.1 ((⟨x0,x1⟩:Aa)) true,w64 (s1.2.2+1))))
 else (some (.inr (s1.1,s1.2.1,s0.2.2++[r0])))
noncomputable def Fg (p0:List Ab) (p1:List Aa):((List Aa) × (List (Aa × Bool)) × (List Ae))->Option (Sum ((List Aa) × (List (Aa × Bool)) × (List Ae)) (List Ae)):=fun s0 =>
 if 0 < ((((s0.1).length:Nat):Int)) then (bnd (idx s0.1 (w64 (((((s0.1).length:Nat):Int))-1))) fun x0 =>
 gd (0<=(w64 (((((s0.1).length:Nat):Int))-1))/\(w64 (((((s0.1).length:Nat):Int))-1))<=(((s0.1).length:Nat):Int)) <|
 gd ((-9223372036854775808<=x0.a0/\x0.a0<=9223372036854775807)/\(-9223372036854775808<=x0.a1/\x0.a1<=9223372036854775807)) <|
 bnd (some ((mget s0.2.1 x0).getD false)) fun x1 =>
 if x1=true then (some (.inl (List.take (Int.toNat (w64 (((((s0.1).length:Nat):Int))-1))) s0.1,s0.2.1,s0.2.2)))
 else (bnd (Mf p0 p1 x0.a0 x0.a1) fun r0 =>
 if r0 < 0 then (gd ((-9223372036854775808<=x0.a0/\x0.a0<=9223372036854775807)/\(-9223372036854775808<=x0.a1/\x0.a1<=9223372036854775807)) <|
 gd ((s0.2.1).length < 9223372036854775807) <|
 some (.inl (List.take (Int.toNat (w64 (((((s0.1).length:Nat):Int))-1))) s0.1,mput s0.2.1 x0 true,s0.2.2)))
 else (bnd (Kh (⟨x0.a0,x0.a1,r0⟩:Ae)) fun r1 =>
 gd (((s0.2.2).length+1)*24<=140737488355328) <|
 bnd (lfix (Cl r1 s0) (List.take (Int.toNat (w64 (((((s0.1).length:Nat):Int))-1))) s0.1,s0.2.1,0)) fun t0 =>
 some (.inl t0))))
 else (some (.inr s0.2.2))
noncomputable def Ci (p0:List Ab) (p1:List Aa):Option (List Ae) :=
 jn (fun (s3:Bool) =>
 if s3=true then (some ([]:List Ae))
 else (bnd (Is p0) fun r0 =>
 bnd (Es p0 r0 false) fun r1 =>
 jn (fun (s9:List Ae) =>
 bnd (Hm s9) fun r2 =>
 some r2)
 (fun j9=>bnd (lfix (Fg p0 p1) ([(⟨r0,r1⟩:Aa)],([]:List (Aa × Bool)),([]:List Ae))) fun t0 =>
 j9 t0)))
 (fun j3=>if ((((p0).length:Nat):Int)) < 3 then (j3 true)
 else (bnd (Jx p0) fun r4 =>
 j3 r4))
noncomputable def Hz (p0:List Ab):((List Ab) × Int)->Option (Sum ((List Ab) × Int) (List Ab)):=fun s0 =>
 if s0.2 < ((((p0).length:Nat):Int)) then (bnd (idx p0 s0.2) fun x0 =>
 gd (((s0.1).length+1)*32<=140737488355328) <|
 some (.inl (s0.1++[(⟨x0.X,x0.Y,(⟨x0.Z.Lo,x0.Z.Hi⟩:Ak)⟩:Ab)],w64 (s0.2+1))))
 else (some (.inr s0.1))
noncomputable def Bx (p0:List Ab) (p1:List Aa):Option (Aw × Int) :=
 bnd (Iu p0 p1) fun r2 =>
 if r2=0 then (jn (fun (s7:List Ab) =>
 bnd (Ex p1) fun r0 =>
 bnd (Ci p0 r0) fun r1 =>
 some ((⟨s7,r1,r0⟩:Aw),0))
 (fun j7=>bnd (lfix (Hz p0) (([]:List Ab),0)) fun t0 =>
 j7 t0))
 else (some ((⟨([]:List Ab),([]:List Ae),([]:List Aa)⟩:Aw),r2))
set_option maxHeartbeats 1000000 in
set_option maxRecDepth 100000 in
instance Aao (p0:Ae) (p1:Ae):Con (Jz p0 p1) Tryz.prog 186 (fun _ vs=>vs=[.agg #[.int .i64 (p0.a0),.int .i64 (p0.a1),.int .i64 (p0.a2)],.agg #[.int .i64 (p1.a0),.int .i64 (p1.a1),.int .i64 (p1.a2)]]) (fun _ r=>fun v Ln=>v = .bool (r)/\Ln=[]/\True):=⟨by
 rintro _ _ r rfl hx w hK;unfold Jz at hx;have:=dl 4 [0,0,1,0,0,1,0] [0,1,2,3,4,5,6];have:=dl 5 [0,0,1,0,0,1,0,2] [0,1,2,3,4,5,6,7];refine CtS Tryz.ntmps186 Tryz.results186 ?_;try (refine pre ?_;intros;rename_i hx)
 refine Bw ?_;try (refine pre ?_;intros;rename_i hx)
 apply Jr (γ:=Unit) hx [] (fun s2 y2 f=>f) [999] (fun s2 y2 l=>l);exact kk
 ·intro s2 y2 hx;exact au
 ·intro _ hx;try (refine pre ?_;intros;rename_i hx)
  apply Lr (γ:=Unit) hx [2,3] (fun s0 y0 f=>(6,.int .i64 (s0))::f) [0,1,999] (fun s0 y0 l=>l) ();exact kk;exact sk;intro s0 y0 x0 hx _;unfold Gx at hx
  exact au⟩
theorem Zd (p0:Ae) (p1:Ae)  {r:Bool} (hx:Jz p0 p1=some r) (w:World):CtL Tryz.prog 186 [.agg #[.int .i64 (p0.a0),.int .i64 (p0.a1),.int .i64 (p0.a2)],.agg #[.int .i64 (p1.a0),.int .i64 (p1.a1),.int .i64 (p1.a2)]] w fun v Ln=>v = .bool (r)/\Ln=[]/\True:=(Aao p0 p1).h [] _ _ rfl hx w (fun _ h=>absurd h List.not_mem_nil)
set_option maxRecDepth 100000 in
theorem Wn (p0:List Ae) {B0_0:Option Addr} {d0_0:Nat} {K:List Ent} {r:List Ae} (hx:Hm p0=some r):CtK Tryz.prog 116 [.slice (B0_0) (p0.length) (d0_0)] K [.r (B0_0) (p0.length) (d0_0) 94 3 (p0.flatMap Aq)] fun v Ln=>∃ (A0:Option Addr) (c0:Nat),v = .slice (A0) (r.length) (c0)/\Ln=[.r A0 r.length c0 94 3 (r.flatMap Aq)]/\True:=by
 refine CtK.mk 45 Tryz.func116 rfl Tryz.ntmps116 (by kernel_rfl) rfl ?_;intro Lf hKf;show T 45 _ [(0,.slice (B0_0) (p0.length) (d0_0))] ([.r (B0_0) (p0.length) (d0_0) 94 3 (p0.flatMap Aq)]++Lf);unfold Hm at hx;refine Y5 ?_;refine Tj (γ:=(Option Addr) × Nat) hx (fun s2 y2=>[(0,.slice (y2.1) (s2.length) (y2.2))]) (fun s2 y2=>[.r (y2.1) (s2.length) (y2.2) 94 3 (s2.flatMap Aq)]++Lf) (fun s2 y2=>True) (fun s2 y2 hx0 hG0=>?_) (fun j2 hx=>?_)
 ·refine Y7 ?_;obtain rfl:=Option.some.inj hx0;exact Ad1 (rs:=[.tmp 2]) Tryz.results116 (.tmp rfl (.nil)) (Ln:=[.r (y2.1) (s2.length) (y2.2) 94 3 (s2.flatMap Aq)]) ⟨y2.1,y2.2,rfl,rfl,trivial⟩ (by exact .pick 0 rfl (.refl))
 ·refine Y3 ?_;refine Ax (Kj rfl 94 Tryz.underlying30) rfl ?_;refine Y4 ?_;obtain ⟨t0,hl0,ho0⟩:=Am hx;refine Lp (σ:=(List Ae) × Int) (γ:=(Option Addr) × Nat) hl0 (fun s0 y0=>[(0,.slice (y0.1) (s0.1.length) (y0.2)),(6,.int .i64 (((p0.length:Nat):Int))),(7,.int .i64 (s0.2))]) (fun s0 y0=>[.r (y0.1) (s0.1.length) (y0.2) 94 3 (s0.1.flatMap Aq)]++Lf) (fun s0 y0=>True) (B0_0,d0_0) trivial (by exact .pick 0 rfl (.refl)) ?_;intro s0 y0 hG1 x0 hx1 ht0;unfold Hj at hx1;refine Y6 ?_;refine Ti hx1 (s:=8) rfl (fun h0 hx2=>?_) (fun h0 hx3=>?_)
  ·refine Y3 ?_;refine Tj (γ:=(Option Addr) × Nat) hx2 (fun s1 y1=>[(0,.slice (y1.1) (s1.length) (y1.2)),(6,.int .i64 (((p0.length:Nat):Int))),(7,.int .i64 (s0.2))]) (fun s1 y1=>[.r (y1.1) (s1.length) (y1.2) 94 3 (s1.flatMap Aq)]++Lf) (fun s1 y1=>True) (fun s1 y1 hx4 hG2=>?_) (fun j0 hx2=>?_)
   ·refine Y4 ?_;exact Rp (s1,w64 (s0.2+1)) (y1.1,y1.2) hx4 trivial (by exact .pick 0 rfl (.refl))
   ·(iterate 14 refine Y ?_);obtain ⟨t1,hl1,ho1⟩:=Am hx2;refine Lp (σ:=(List Ae) × Int) (γ:=(Option Addr) × Nat) hl1 (fun s3 y3=>[(0,.slice (y3.1) (s3.1.length) (y3.2)),(4,.int .i64 (s3.2)),(6,.int .i64 (((p0.length:Nat):Int))),(7,.int .i64 (s0.2))]) (fun s3 y3=>[.r (y3.1) (s3.1.length) (y3.2) 94 3 (s3.1.flatMap Aq)]++Lf) (fun s3 y3=>True) (y0.1,y0.2) trivial (by exact .pick 0 rfl (.refl)) ?_;intro s3 y3 hG3 x1 hx5 ht1;unfold Hh at hx5;refine Y ?_;refine Tj (γ:=Unit) hx5 (fun s4 y4=>[(0,.slice (y3.1) (s3.1.length) (y3.2)),(4,.int .i64 (s3.2)),(6,.int .i64 (((p0.length:Nat):Int))),(7,.int .i64 (s0.2)),(24,.bool (s4))]) (fun s4 y4=>[.r (y3.1) (s3.1.length) (y3.2) 94 3 (s3.1.flatMap Aq)]++Lf) (fun s4 y4=>True) (fun s4 y4 hx6 hG4=>?_) (fun j1 hx5=>?_)
    ·refine Jm (s:=24) rfl (fun h1=>?_) (fun h1=>?_)
     ·have hx7:=Jc h1 hx6;refine Y5 ?_;refine T_dr [0,0,0,0,0,0,0,0,0,1,0,0,0,1,0,3,0,3] (.q 0 (.q 1 (.q 2 (.q 3 (.q 4 (.q 5 (.q 6 (.q 7 (.q 8 (.q 9 (.q 10 (.q 11 (.q 12 (.q 13 (.q 14 (.e 15 (.q 16 (.e 17 (.done) (.stop))) (.stop))))))))))))))))) mixed (by kernel_rfl) (by kernel_rfl) ?_;refine Y8 ?_;obtain ⟨x2,h2,hx8⟩:=Am hx7;refine Mm (k:=0) rfl (by decide) (fun _=>rfl) h2 (fun b0 j3 hA0 hj0 hl2 hm0 hp0=>?_);refine P_p rfl rfl (Bp rfl rfl hA0 (j:=j3) hj0 hl2 Zy) rfl ?_;refine P_q rfl rfl (Fm rfl hp0 (sb 0) rfl Ad2) rfl ?_;refine Y2 ?_;obtain ⟨x3,h3,hx9⟩:=Am hx8;refine Mm (k:=0) rfl (by decide) (fun _=>rfl) h3 (fun b1 j4 hA1 hj1 hl3 hm1 hp1=>?_);refine P_p rfl rfl (Bp rfl rfl hA1 (j:=j4) hj1 hl3 Zy) rfl ?_;refine P_q rfl rfl (Fm rfl hp1 (sb 0) rfl Ad2) rfl ?_;obtain ⟨x4,h4,hx10⟩:=Am hx9;refine Mm (k:=0) rfl (by decide) (fun _=>rfl) h4 (fun b2 j5 hA2 hj2 hl4 hm2 hp2=>?_);refine P_p rfl rfl (Bp rfl rfl hA2 (j:=j5) hj2 hl4 Zy) rfl ?_;refine P_h rfl rfl (Py Aq (s3.1) (s3.2) (x2) rfl rfl rfl (.here) hA2 rfl hj2 hl4 (fun _=>rfl) (by decide) rfl Ad2.2 ?_) ?_;rotate_left;exact Jj;obtain ⟨x5,h5,hx11⟩:=Am hx10;refine Mm (k:=0) rfl (by decide) (fun _=>rfl) h5 (fun b3 j6 hA3 hj3 hl5 hm3 hp3=>?_)
      refine P_p rfl rfl (Bp rfl rfl hA3 (j:=j6) hj3 hl5 Zy) rfl ?_;refine P_h rfl rfl (Py Aq (setI s3.1 s3.2 x2) (w64 (s3.2-1)) (x3) rfl rfl rfl (.here) hA3 rfl hj3 hl5 (fun _=>rfl) (by decide) rfl Ad2.2 ?_) ?_;rotate_left;exact Jj;refine Y8 ?_
      have hn0:s3.1.length=(setI (setI s3.1 s3.2 x2) (w64 (s3.2-1)) x3).length:=by simp [Cc,Jl,List.length_append] <;> omega
      refine Oq (.here) (e':=.r (y3.1) ((setI (setI s3.1 s3.2 x2) (w64 (s3.2-1)) x3).length) (y3.2) 94 3 ((setI (setI s3.1 s3.2 x2) (w64 (s3.2-1)) x3).flatMap Aq)) (by first | (rw [<- hn0];done) | rfl) ?_;refine Sx (s:=0) (v':=.slice (y3.1) ((setI (setI s3.1 s3.2 x2) (w64 (s3.2-1)) x3).length) (y3.2)) rfl (by have hn1:(s3.1.length)=(setI (setI s3.1 s3.2 x2) (w64 (s3.2-1)) x3).length:=(by simp [Cc,Jl,List.length_append] <;> omega);first | (rw [<- hn1];done) | rfl) ?_;exact Rp (setI (setI s3.1 s3.2 x2) (w64 (s3.2-1)) x3,w64 (s3.2-1)) (y3.1,y3.2) hx11 trivial (by exact .pick 0 rfl (.refl))
     ·have hx12:=Mn h1 hx6;refine Y3 ?_;obtain rfl:=Hl ht1 hx12;refine Y3 ?_;exact Mt s3.1 (y3.1,y3.2) ho1 trivial (by exact .pick 0 rfl (.refl))
    ·refine T_dr [0,0,0,0,0,0,1,0,0,0,0,1,2,0] (.q 0 (.q 1 (.q 2 (.q 3 (.q 4 (.q 5 (.q 6 (.q 7 (.q 8 (.q 9 (.q 10 (.q 11 (.e 12 (.q 13 (.done)) (.stop)))))))))))))) mixed (by kernel_rfl) (by kernel_rfl) ?_;refine Y3 ?_;refine Ti hx5 (s:=13) rfl (fun h6 hx13=>?_) (fun h6 hx14=>?_)
     ·refine Y2 ?_;obtain ⟨x6,h7,hx15⟩:=Am hx13;refine Mm (k:=0) rfl (by decide) (fun _=>rfl) h7 (fun b4 j7 hA4 hj4 hl6 hm4 hp4=>?_);refine P_pG rfl rfl rfl rfl rfl (Bp rfl rfl hA4 (j:=j7) hj4 hl6 Zy) rfl ?_;refine P_qG rfl rfl rfl rfl rfl (Fm rfl hp4 (sb 0) rfl Ad2) rfl ?_;refine Y3 ?_;obtain ⟨x7,h8,hx16⟩:=Am hx15;refine Mm (k:=0) rfl (by decide) (fun _=>rfl) h8 (fun b5 j8 hA5 hj5 hl7 hm5 hp5=>?_);refine P_pG rfl rfl rfl rfl rfl (Bp rfl rfl hA5 (j:=j8) hj5 hl7 Zy) rfl ?_;refine P_qG rfl rfl rfl rfl rfl (Fm rfl hp5 (sb 0) rfl Ad2) rfl ?_;obtain ⟨r0,h9,hx17⟩:=Am hx16;refine P_xG rfl rfl rfl rfl (Oz rfl (fun w1 hw1=>Zd x6 x7  h9 w1) rfl ?_) ?_;rotate_left;exact Jj;rintro _ _ hlo ⟨rfl,rfl,-⟩;refine Wa ?_;refine Y2 ?_;exact Mt r0 () hx17 trivial (by exact .pick 0 rfl (.refl))
     ·refine Y9 ?_;refine Am8 rfl rfl rfl rfl rfl rfl ?_ ?_;rotate_left;exact Jj;refine Y2 ?_;exact Mt false () hx14 trivial (by exact .pick 0 rfl (.refl))
  ·refine Y3 ?_;obtain rfl:=Hl ht0 hx3;refine Y2 ?_;exact Mt s0.1 (y0.1,y0.2) ho0 trivial (by exact .pick 0 rfl (.refl))
set_option maxHeartbeats 1000000 in
set_option maxRecDepth 100000 in
instance lidarref06_sorted_c (p0:List Ae):ConK (Hm p0) Tryz.prog 116 (fun ug0 ug1 ug2 B0_0 d0_0 ua0 uc0 vs Lp=>vs=[.slice (B0_0) ((p0).length) (d0_0)]/\Lp=[.r (B0_0) ((p0).length) (d0_0) 94 3 ((p0).flatMap Aq)]/\ug0=0/\ug1=0/\ug2=0/\ua0=none/\uc0=0/\True) (fun B0_0 d0_0 ua0 uc0 K K2=>True) (fun ug0 ug1 ug2 B0_0 d0_0 ua0 uc0 K r=>fun v Ln=>∃ (A0:Option Addr) (c0:Nat),v = .slice (A0) ((r).length) (c0)/\Ln=[.r A0 (r).length c0 94 3 ((r).flatMap Aq)]/\True):=⟨by
 rintro _ _ _ B0_0 d0_0 _ _ K K2 _ _ r ⟨rfl,rfl,rfl,rfl,rfl,rfl,rfl,-⟩ ⟨-⟩ hx;exact CtK.wide (Wn p0 hx)⟩
set_option maxHeartbeats 1000000 in
set_option maxRecDepth 100000 in
instance lidarref06_turned_c (p0:Ae):Con (Kh p0) Tryz.prog 115 (fun _ vs=>vs=[.agg #[.int .i64 (p0.a0),.int .i64 (p0.a1),.int .i64 (p0.a2)]]) (fun _ r=>fun v Ln=>v = .agg #[.int .i64 (r.a0),.int .i64 (r.a1),.int .i64 (r.a2)]/\Ln=[]/\True):=⟨by
 rintro _ _ r rfl hx w hK;unfold Kh at hx;refine CtS Tryz.ntmps115 Tryz.results115 ?_;try (refine pre ?_;intros;rename_i hx)
 refine Bw ?_;try (refine pre ?_;intros;rename_i hx)
 apply Jr (γ:=(Nat)) hx [2] (fun s2 y2 f=>(1,.pointer (some ⟨y2,0,none⟩))::f) [0,999] (fun s2 y2 l=>.m y2 94 [.int .i64 (s2.1),.int .i64 (s2.2.1),.int .i64 (s2.2.2)]::l);exact kk
 ·intro s2 y2 hx;exact au
 ·intro _ hx;try (refine pre ?_;intros;rename_i hx)
  apply Lr (γ:=(Nat)) hx [2] (fun s0 y0 f=>(1,.pointer (some ⟨y0,0,none⟩))::f) [0,999] (fun s0 y0 l=>.m y0 94 [.int .i64 (s0.1),.int .i64 (s0.2.1),.int .i64 (s0.2.2)]::l) _;exact kk;exact sk;intro s0 y0 x0 hx _;unfold Ff at hx
  exact au⟩
set_option maxRecDepth 100000 in
instance Aap (p0:Aa) (p1:Aa):Con (Ka p0 p1) Tryz.prog 59 (fun _ vs=>vs=[.agg #[.int .i64 (p0.a0),.int .i64 (p0.a1)],.agg #[.int .i64 (p1.a0),.int .i64 (p1.a1)]]) (fun _ r=>fun v Ln=>v = .bool (r)/\Ln=[]/\True):=⟨by
 rintro _ _ r rfl hx w hK;unfold Ka at hx;refine CtS Tryz.ntmps59 Tryz.results59 ?_;exact au⟩
theorem Ze (p0:Aa) (p1:Aa)  {r:Bool} (hx:Ka p0 p1=some r) (w:World):CtL Tryz.prog 59 [.agg #[.int .i64 (p0.a0),.int .i64 (p0.a1)],.agg #[.int .i64 (p1.a0),.int .i64 (p1.a1)]] w fun v Ln=>v = .bool (r)/\Ln=[]/\True:=(Aap p0 p1).h [] _ _ rfl hx w (fun _ h=>absurd h List.not_mem_nil)
set_option maxRecDepth 100000 in
theorem Pr (p0:List Aa) {K:List Ent} {A0_0:Option Addr} {c0_0:Nat} (ha0:Has K A0_0 p0.length c0_0 2 Ai (p0)) {r:List Aa} (hx:Ex p0=some r) (w:World) (hK:∀ e∈K,Ent.ok w e):CtL Tryz.prog 46 [.slice (A0_0) (p0.length) (c0_0)] w fun v Ln=>∃ (A0:Option Addr) (c0:Nat),v = .slice (A0) (r.length) (c0)/\Ln=[.r A0 r.length c0 62 2 (r.flatMap Ai)]/\True:=by
 have ha0':=Has.up0 ha0;refine CtL.mk 79 Tryz.func46 rfl Tryz.ntmps46 (by kernel_rfl) rfl ?_;show T 79 _ [(0,.slice (A0_0) (p0.length) (c0_0))] _;unfold Ex at hx;refine Y10 ?_;refine Tj (γ:=(Option Addr) × Nat) hx (fun s3 y3=>[(3,.slice (y3.1) (s3.length) (y3.2))]) (fun s3 y3=>[.r (y3.1) (s3.length) (y3.2) 62 2 (s3.flatMap Ai)]++[.old w]) (fun s3 y3=>True) (fun s3 y3 hx0 hG0=>?_) (fun j3 hx=>?_)
 ·refine Tj (γ:=(Option Addr) × Nat) hx0 (fun s0 y0=>[(3,.slice (y0.1) (s0.length) (y0.2))]) (fun s0 y0=>[.r (y0.1) (s0.length) (y0.2) 62 2 (s0.flatMap Ai)]++[.old w]) (fun s0 y0=>True) (fun s0 y0 hx1 hG1=>?_) (fun j0 hx0=>?_)
  ·refine Y7 ?_;obtain rfl:=Option.some.inj hx1;exact Ls (rs:=[.tmp 2]) Tryz.results46 (.tmp rfl (.nil)) (Ln:=[.r (y0.1) (s0.length) (y0.2) 62 2 (s0.flatMap Ai)]) ⟨y0.1,y0.2,rfl,rfl,trivial⟩ (Eu rfl (Kw)) (by exact .pick 0 rfl (.refl))
  ·refine Y3 ?_;refine Ax (Kj rfl 62 Tryz.underlying23) rfl ?_;refine Y4 ?_;obtain ⟨t0,hl0,ho0⟩:=Am hx0;refine Lp (σ:=(List Aa) × Int) (γ:=(Option Addr) × Nat) hl0 (fun s1 y1=>[(3,.slice (y1.1) (s1.1.length) (y1.2)),(40,.int .i64 (((s3.length:Nat):Int))),(41,.int .i64 (s1.2))]) (fun s1 y1=>[.r (y1.1) (s1.1.length) (y1.2) 62 2 (s1.1.flatMap Ai)]++[.old w]) (fun s1 y1=>True) (y3.1,y3.2) trivial (by exact .pick 0 rfl (.refl)) ?_;intro s1 y1 hG2 x0 hx2 ht0;unfold Gq at hx2;refine Y6 ?_;refine Ti hx2 (s:=42) rfl (fun h0 hx3=>?_) (fun h0 hx4=>?_)
   ·refine Y3 ?_;refine Tj (γ:=(Option Addr) × Nat) hx3 (fun s2 y2=>[(3,.slice (y2.1) (s2.length) (y2.2)),(40,.int .i64 (((s3.length:Nat):Int))),(41,.int .i64 (s1.2))]) (fun s2 y2=>[.r (y2.1) (s2.length) (y2.2) 62 2 (s2.flatMap Ai)]++[.old w]) (fun s2 y2=>True) (fun s2 y2 hx5 hG3=>?_) (fun j1 hx3=>?_)
    ·refine Y4 ?_;exact Rp (s2,w64 (s1.2+1)) (y2.1,y2.2) hx5 trivial (by exact .pick 0 rfl (.refl))
    ·(iterate 14 refine Y ?_);obtain ⟨t1,hl1,ho1⟩:=Am hx3;refine Lp (σ:=(List Aa) × Int) (γ:=(Option Addr) × Nat) hl1 (fun s4 y4=>[(3,.slice (y4.1) (s4.1.length) (y4.2)),(6,.int .i64 (s4.2)),(40,.int .i64 (((s3.length:Nat):Int))),(41,.int .i64 (s1.2))]) (fun s4 y4=>[.r (y4.1) (s4.1.length) (y4.2) 62 2 (s4.1.flatMap Ai)]++[.old w]) (fun s4 y4=>True) (y1.1,y1.2) trivial (by exact .pick 0 rfl (.refl)) ?_;intro s4 y4 hG4 x1 hx6 ht1;unfold Fv at hx6;refine Y ?_;refine Tj (γ:=Unit) hx6 (fun s5 y5=>[(3,.slice (y4.1) (s4.1.length) (y4.2)),(6,.int .i64 (s4.2)),(40,.int .i64 (((s3.length:Nat):Int))),(41,.int .i64 (s1.2)),(58,.bool (s5))]) (fun s5 y5=>[.r (y4.1) (s4.1.length) (y4.2) 62 2 (s4.1.flatMap Ai)]++[.old w]) (fun s5 y5=>True) (fun s5 y5 hx7 hG5=>?_) (fun j2 hx6=>?_)
     ·refine Jm (s:=58) rfl (fun h1=>?_) (fun h1=>?_)
      ·have hx8:=Jc h1 hx7;refine Y5 ?_;refine T_dr [0,0,0,0,0,0,0,0,0,1,0,0,0,1,0,3,0,3] (.q 0 (.q 1 (.q 2 (.q 3 (.q 4 (.q 5 (.q 6 (.q 7 (.q 8 (.q 9 (.q 10 (.q 11 (.q 12 (.q 13 (.q 14 (.e 15 (.q 16 (.e 17 (.done) (.stop))) (.stop))))))))))))))))) mixed (by kernel_rfl) (by kernel_rfl) ?_;refine Y8 ?_;obtain ⟨x2,h2,hx9⟩:=Am hx8;refine Mm (k:=0) rfl (by decide) (fun _=>rfl) h2 (fun b0 j4 hA0 hj0 hl2 hm0 hp0=>?_);refine P_p rfl rfl (Bp rfl rfl hA0 (j:=j4) hj0 hl2 Qq) rfl ?_;refine P_q rfl rfl (Fm rfl hp0 (sb 0) rfl Ie) rfl ?_;refine Y2 ?_;obtain ⟨x3,h3,hx10⟩:=Am hx9;refine Mm (k:=0) rfl (by decide) (fun _=>rfl) h3 (fun b1 j5 hA1 hj1 hl3 hm1 hp1=>?_);refine P_p rfl rfl (Bp rfl rfl hA1 (j:=j5) hj1 hl3 Qq) rfl ?_;refine P_q rfl rfl (Fm rfl hp1 (sb 0) rfl Ie) rfl ?_;obtain ⟨x4,h4,hx11⟩:=Am hx10;refine Mm (k:=0) rfl (by decide) (fun _=>rfl) h4 (fun b2 j6 hA2 hj2 hl4 hm2 hp2=>?_);refine P_p rfl rfl (Bp rfl rfl hA2 (j:=j6) hj2 hl4 Qq) rfl ?_;refine P_h rfl rfl (Py Ai (s4.1) (s4.2) (x2) rfl rfl rfl (.here) hA2 rfl hj2 hl4 (fun _=>rfl) (by decide) rfl Ie.2 ?_) ?_;rotate_left;exact Jj;obtain ⟨x5,h5,hx12⟩:=Am hx11;refine Mm (k:=0) rfl (by decide) (fun _=>rfl) h5 (fun b3 j7 hA3 hj3 hl5 hm3 hp3=>?_)
       refine P_p rfl rfl (Bp rfl rfl hA3 (j:=j7) hj3 hl5 Qq) rfl ?_;refine P_h rfl rfl (Py Ai (setI s4.1 s4.2 x2) (w64 (s4.2-1)) (x3) rfl rfl rfl (.here) hA3 rfl hj3 hl5 (fun _=>rfl) (by decide) rfl Ie.2 ?_) ?_;rotate_left;exact Jj;refine Y8 ?_
       have hn0:s4.1.length=(setI (setI s4.1 s4.2 x2) (w64 (s4.2-1)) x3).length:=by simp [Cc,Jl,List.length_append] <;> omega
       refine Oq (.here) (e':=.r (y4.1) ((setI (setI s4.1 s4.2 x2) (w64 (s4.2-1)) x3).length) (y4.2) 62 2 ((setI (setI s4.1 s4.2 x2) (w64 (s4.2-1)) x3).flatMap Ai)) (by first | (rw [<- hn0];done) | rfl) ?_;refine Sx (s:=3) (v':=.slice (y4.1) ((setI (setI s4.1 s4.2 x2) (w64 (s4.2-1)) x3).length) (y4.2)) rfl (by have hn1:(s4.1.length)=(setI (setI s4.1 s4.2 x2) (w64 (s4.2-1)) x3).length:=(by simp [Cc,Jl,List.length_append] <;> omega);first | (rw [<- hn1];done) | rfl) ?_;exact Rp (setI (setI s4.1 s4.2 x2) (w64 (s4.2-1)) x3,w64 (s4.2-1)) (y4.1,y4.2) hx12 trivial (by exact .pick 0 rfl (.refl))
      ·have hx13:=Mn h1 hx7;refine Y3 ?_;obtain rfl:=Hl ht1 hx13;refine Y3 ?_;exact Mt s4.1 (y4.1,y4.2) ho1 trivial (by exact .pick 0 rfl (.refl))
     ·refine T_dr [0,0,0,0,0,0,1,0,0,0,0,1,2,0] (.q 0 (.q 1 (.q 2 (.q 3 (.q 4 (.q 5 (.q 6 (.q 7 (.q 8 (.q 9 (.q 10 (.q 11 (.e 12 (.q 13 (.done)) (.stop)))))))))))))) mixed (by kernel_rfl) (by kernel_rfl) ?_;refine Y3 ?_;refine Ti hx6 (s:=47) rfl (fun h6 hx14=>?_) (fun h6 hx15=>?_)
      ·refine Y2 ?_;obtain ⟨x6,h7,hx16⟩:=Am hx14;refine Mm (k:=0) rfl (by decide) (fun _=>rfl) h7 (fun b4 j8 hA4 hj4 hl6 hm4 hp4=>?_);refine P_pG rfl rfl rfl rfl rfl (Bp rfl rfl hA4 (j:=j8) hj4 hl6 Qq) rfl ?_;refine P_qG rfl rfl rfl rfl rfl (Fm rfl hp4 (sb 0) rfl Ie) rfl ?_;refine Y3 ?_;obtain ⟨x7,h8,hx17⟩:=Am hx16;refine Mm (k:=0) rfl (by decide) (fun _=>rfl) h8 (fun b5 j9 hA5 hj5 hl7 hm5 hp5=>?_);refine P_pG rfl rfl rfl rfl rfl (Bp rfl rfl hA5 (j:=j9) hj5 hl7 Qq) rfl ?_;refine P_qG rfl rfl rfl rfl rfl (Fm rfl hp5 (sb 0) rfl Ie) rfl ?_;obtain ⟨r0,h9,hx18⟩:=Am hx17;refine P_xG rfl rfl rfl rfl (Oz rfl (fun w1 hw1=>Ze x6 x7  h9 w1) rfl ?_) ?_;rotate_left;exact Jj;rintro _ _ hlo ⟨rfl,rfl,-⟩;refine Wa ?_;refine Y2 ?_;exact Mt r0 () hx18 trivial (by exact .pick 0 rfl (.refl))
      ·refine Y9 ?_;refine Am8 rfl rfl rfl rfl rfl rfl ?_ ?_;rotate_left;exact Jj;refine Y2 ?_;exact Mt false () hx15 trivial (by exact .pick 0 rfl (.refl))
   ·refine Y3 ?_;obtain rfl:=Hl ht0 hx4;refine Y2 ?_;exact Mt s1.1 (y1.1,y1.2) ho0 trivial (by exact .pick 0 rfl (.refl))
 ·refine Y3 ?_;refine Ax (Kj rfl 62 Tryz.underlying23) rfl ?_;refine Y4 ?_;obtain ⟨t2,hl8,ho2⟩:=Am hx;refine Ba 62 2 ?_
  have hn2:0=(([]:List Aa)).length:=by simp [Cc,Jl,List.length_append] <;> omega
  refine Oq (.here) (e':=.r (none) ((([]:List Aa)).length) (0) 62 2 ((([]:List Aa)).flatMap Ai)) (by first | (rw [<- hn2];done) | rfl) ?_;refine Lp (σ:=(List Aa) × Int) (γ:=(Option Addr) × Nat) hl8 (fun s6 y6=>[(0,.slice (A0_0) (p0.length) (c0_0)),(3,.slice (y6.1) (s6.1.length) (y6.2)),(8,.int .i64 (((p0.length:Nat):Int))),(9,.int .i64 (s6.2))]) (fun s6 y6=>[.r (y6.1) (s6.1.length) (y6.2) 62 2 (s6.1.flatMap Ai)]++[.old w]) (fun s6 y6=>True) (none,0) trivial (by exact .pick 0 rfl (.refl)) ?_;intro s6 y6 hG6 x8 hx55 ht2;unfold Jn at hx55;refine Y6 ?_;refine Ti hx55 (s:=10) rfl (fun h57 hx58=>?_) (fun h57 hx59=>?_)
  ·refine Y11 ?_;refine T_dr [0,0,0,0,0,1,0,0,0,0,1,0,0,0,0,0,1,0,0,0,0,1,0,0,2,3,2] (.q 0 (.q 1 (.q 2 (.q 3 (.q 4 (.q 5 (.q 6 (.q 7 (.q 8 (.q 9 (.q 10 (.q 11 (.q 12 (.q 13 (.q 14 (.q 15 (.q 16 (.q 17 (.q 18 (.q 19 (.q 20 (.q 21 (.q 22 (.q 23 (.e 24 (.e 25 (.e 26 (.done) (.stop)) (.stop)) (.stop)))))))))))))))))))))))))) mixed (by kernel_rfl) (by kernel_rfl) ?_;refine Y3 ?_;obtain ⟨x9,h61,hx62⟩:=Am hx58;have hw0:=Has.low (E:=[]) ha0' hK;obtain ⟨b6,o0,j65,hA6,hj6,hl9,hp6⟩:=Has.at_idx hw0 h61;refine P_p rfl rfl (Bp rfl rfl hA6 (j:=j65) hj6 hl9 Qq) rfl ?_;refine P_p rfl rfl (Bh rfl rfl If (by decide) (by decide) rfl) rfl ?_;refine P_q rfl rfl (Pw (d:=0) rfl hp6 (sb 1) rfl one3) rfl ?_;refine Y2 ?_;obtain ⟨x71,h72,hx73⟩:=Am hx62;have hw2:=Has.low (E:=[]) ha0' hK;obtain ⟨b7,o1,j76,hA7,hj7,hl79,hp7⟩:=Has.at_idx hw2 h72;refine P_p rfl rfl (Bp rfl rfl hA7 (j:=j76) hj7 hl79 Qq) rfl ?_;refine P_p rfl rfl (Bh rfl rfl If (by decide) (by decide) rfl) rfl ?_;refine P_q rfl rfl (Pw (d:=1) rfl hp7 (sb 1) rfl one3) rfl ?_;refine P_p rfl rfl (Acp rfl rfl) rfl ?_;refine Y2 ?_;obtain ⟨x82,h83,hx84⟩:=Am hx73;have hw3:=Has.low (E:=[]) ha0' hK;obtain ⟨b8,o2,j87,hA8,hj8,hl90,hp8⟩:=Has.at_idx hw3 h83;refine P_p rfl rfl (Bp rfl rfl hA8 (j:=j87) hj8 hl90 Qq) rfl ?_;refine P_p rfl rfl (Bh rfl rfl If (by decide) (by decide) rfl) rfl ?_
   refine P_q rfl rfl (Pw (d:=0) rfl hp8 (sb 1) rfl one3) rfl ?_;refine Y2 ?_;obtain ⟨x93,h94,hx95⟩:=Am hx84;have hw4:=Has.low (E:=[]) ha0' hK;obtain ⟨b9,o3,j98,hA9,hj9,hl10,hp9⟩:=Has.at_idx hw4 h94;refine P_p rfl rfl (Bp rfl rfl hA9 (j:=j98) hj9 hl10 Qq) rfl ?_;refine P_p rfl rfl (Bh rfl rfl If (by decide) (by decide) rfl) rfl ?_;refine P_q rfl rfl (Pw (d:=1) rfl hp9 (sb 1) rfl one3) rfl ?_;refine P_p rfl rfl (Acq rfl rfl) rfl ?_;refine P_p rfl rfl (Qf rfl (Iw _ _)) rfl ?_;refine P_x rfl (Cj rfl (Fc _ _) rfl (fun g0=>?_)) ?_;rotate_left;exact Jj;obtain ⟨h10,hx19⟩:=Co hx95;refine P_h rfl rfl (Ec Ai (s6.1) [(⟨min x9.a0 x71.a1,max x82.a0 x93.a1⟩:Aa)] rfl rfl rfl Ab9 (fun _=>rfl) (i':=0) rfl rfl rfl rfl h10 rfl (fun _ _=>.there (.here)) (fun _ _=>.drop .refl) (by decide) (fun A1 c1=>?_)) ?_;rotate_left;exact Jj;refine P_x rfl (Pm (Ip rfl) rfl ?_) ?_;rotate_left;exact Jj;refine Y7 ?_;exact Rp (s6.1++[(⟨min x9.a0 x71.a1,max x82.a0 x93.a1⟩:Aa)],w64 (s6.2+1)) (A1,c1) hx19 trivial (by exact .pick 0 rfl (.refl))
  ·refine Y3 ?_;obtain rfl:=Hl ht2 hx59;refine Y2 ?_;exact Mt s6.1 (y6.1,y6.2) ho2 trivial (by exact .pick 0 rfl (.refl))
set_option maxHeartbeats 1000000 in
set_option maxRecDepth 100000 in
instance lidarref06_ordered_c (p0:List Aa):Con (Ex p0) Tryz.prog 46 (fun K vs=>∃ (A0_0:Option Addr) (c0_0:Nat),vs=[.slice (A0_0) ((p0).length) (c0_0)]/\Has K A0_0 (p0).length c0_0 2 Ai (p0)/\True) (fun _ r=>fun v Ln=>∃ (A0:Option Addr) (c0:Nat),v = .slice (A0) ((r).length) (c0)/\Ln=[.r A0 (r).length c0 62 2 ((r).flatMap Ai)]/\True):=⟨by
 rintro K _ r ⟨A0_0,c0_0,rfl,ha0,-⟩ hx w hK;exact Pr p0 ha0 hx w hK⟩
set_option maxHeartbeats 1000000 in
set_option maxRecDepth 100000 in
instance lidarref06_triangles_c (p0:List Ab) (p1:List Aa):Con (Ci p0 p1) Tryz.prog 47 (fun K vs=>∃ (A0_0:Option Addr) (c0_0:Nat) (A0_1:Option Addr) (c0_1:Nat),vs=[.slice (A0_0) ((p0).length) (c0_0),.slice (A0_1) ((p1).length) (c0_1)]/\Has K A0_0 (p0).length c0_0 4 Ah (p0)/\Has K A0_1 (p1).length c0_1 2 Ai (p1)/\True) (fun _ r=>fun v Ln=>∃ (A0:Option Addr) (c0:Nat),v = .slice (A0) ((r).length) (c0)/\Ln=[.r A0 (r).length c0 94 3 ((r).flatMap Aq)]/\True):=⟨by
 rintro K _ r ⟨A0_0,c0_0,A0_1,c0_1,rfl,ha0,ha1,-⟩ hx w hK;replace ha0:=Has.lo ha0 hK;replace ha1:=Has.lo ha1 hK;unfold Ci at hx;have:=dl 19 [0,0,1,0,0,0,0,1,2,2] [0,1,2,3,4,5,6,7,8,9];refine CtS Tryz.ntmps47 Tryz.results47 ?_;try (refine pre ?_;intros;rename_i hx)
 refine Bw ?_;try (refine pre ?_;intros;rename_i hx)
 refine Bw ?_;try (refine pre ?_;intros;rename_i hx)
 apply Jr (γ:=Unit) hx [0,1] (fun s3 y3 f=>(21,.bool (s3))::f) [999] (fun s3 y3 l=>l);exact kk
 ·intro s3 y3 hx;refine Cq3 (s:=21) hx rfl (fun _ hx=>?_) (fun _ hx=>?_)
  ·exact au
  ·try (refine pre ?_;intros;rename_i hx)
   refine Bw ?_;try (refine pre ?_;intros;rename_i hx)
   refine Bw ?_;try (refine pre ?_;intros;rename_i hx)
   apply Jr (γ:=(Option Addr) × Nat) hx [] (fun s9 y9 f=>(8,.slice (y9.1) ((s9).length) (y9.2))::f) [999] (fun s9 y9 l=>.r (y9.1) ((s9).length) (y9.2) 94 3 ((s9).flatMap Aq)::l);exact kk
   ·intro s9 y9 hx;exact au
   ·intro _ hx;try (refine pre ?_;intros;rename_i hx)
    (with_reducible apply Aen 29 (sz:=2));exact rfl;exact aT;exact inferInstance;exact dL;exact (fun _=>rfl);exact rfl;exact rfl;exact sA
    try (refine pre ?_;intros;rename_i hx)
    refine Ba 94 3 ?_
    apply Lr (γ:=(Option Addr) × (Nat) × (Option Addr) × (Nat) × (Nat)) hx [0,1] (fun s0 y0 f=>(6,.slice (y0.1) ((s0.1).length) (y0.2.1))::(7,.map (some (y0.2.2.2.2)))::(8,.slice (y0.2.2.1) ((s0.2.2).length) (y0.2.2.2.1))::f) [999] (fun s0 y0 l=>.r (y0.2.2.1) ((s0.2.2).length) (y0.2.2.2.1) 94 3 ((s0.2.2).flatMap Aq)::Ao Tryz.prog 62 Af Az (y0.2.2.2.2) (s0.2.1) :: .r (y0.1) ((s0.1).length) (y0.2.1) 62 2 ((s0.1).flatMap Ai)::l) (_,_,_,_,_);exact kk;exact sk;intro s0 y0 x0 hx _;unfold Fg at hx
    try (refine pre ?_;intros;rename_i hx)
    refine Cq1e (s:=33) hx rfl cQ (fun _ hx=>?_) (fun _ hx=>?_)
    ·try (refine pre ?_;intros;rename_i hx)
     refine Cq3 (s:=47) hx rfl (fun _ hx=>?_) (fun _ hx=>?_)
     ·try (refine pre ?_;intros;rename_i hx)
      (with_reducible apply Sb 6);exact rfl;exact aT;(with_reducible assumption);exact rfl;exact (fun _=>rfl);exact sA
      exact au
     ·try (refine pre ?_;intros;rename_i hx)
      refine Cq1e (s:=56) hx rfl cQ (fun _ hx=>?_) (fun _ hx=>?_)
      ·try (refine pre ?_;intros;rename_i hx)
       (with_reducible apply Sb 6);exact rfl;exact aT;(with_reducible assumption);exact rfl;exact (fun _=>rfl);exact sA
       exact au
      ·try (refine pre ?_;intros;rename_i hx)
       (with_reducible apply Sb 6);exact rfl;exact aT;(with_reducible assumption);exact rfl;exact (fun _=>rfl);exact sA
       try (refine pre ?_;intros;rename_i hx)
       apply Lr (γ:=(Option Addr) × (Nat) × (Nat)) hx [0,1,8,11] (fun s1 y1 f=>(6,.slice (y1.1) ((s1.1).length) (y1.2.1))::(7,.map (some (y1.2.2)))::(70,.int .i64 (s1.2.2))::f) [0,2,999] (fun s1 y1 l=>.r (y1.1) ((s1.1).length) (y1.2.1) 62 2 ((s1.1).flatMap Ai)::Ao Tryz.prog 62 Af Az (y1.2.2) (s1.2.1)::l) (_,_,_);exact kk;exact sk;intro s1 y1 x1 hx _;unfold Cl at hx
       exact au
    ·exact au
 ·intro _ hx;exact au⟩
set_option maxHeartbeats 1000000 in
set_option maxRecDepth 100000 in
instance lidarref06_Build_c (p0:List Ab) (p1:List Aa):Con (Bx p0 p1) Tryz.prog 11 (fun K vs=>∃ (A0_0:Option Addr) (c0_0:Nat) (A0_1:Option Addr) (c0_1:Nat),vs=[.slice (A0_0) ((p0).length) (c0_0),.slice (A0_1) ((p1).length) (c0_1)]/\Has K A0_0 (p0).length c0_0 4 Ah (p0)/\Has K A0_1 (p1).length c0_1 2 Ai (p1)/\True) (fun _ r=>fun v Ln=>∃ (A0:Option Addr) (c0:Nat) (A2:Option Addr) (c2:Nat) (A4:Option Addr) (c4:Nat),v = .tuple #[.agg #[.slice (A0) ((r.1.V).length) (c0),.slice (A2) ((r.1.T).length) (c2),.slice (A4) ((r.1.Lines).length) (c4)],.int .i64 (r.2)]/\Ln=[.r A0 (r.1.V).length c0 70 4 ((r.1.V).flatMap Ah),.r A2 (r.1.T).length c2 94 3 ((r.1.T).flatMap Aq),.r A4 (r.1.Lines).length c4 62 2 ((r.1.Lines).flatMap Ai)]/\True):=⟨by
 rintro K _ r ⟨A0_0,c0_0,A0_1,c0_1,rfl,ha0,ha1,-⟩ hx w hK;replace ha0:=Has.lo ha0 hK;replace ha1:=Has.lo ha1 hK;unfold Bx at hx;refine CtS Tryz.ntmps11 Tryz.results11 ?_;try (refine pre ?_;intros;rename_i hx)
 refine Cq2 (s:=14) hx rfl (fun _ hx=>?_) (fun _ hx=>?_)
 ·exact au
 ·try (refine pre ?_;intros;rename_i hx)
  refine Bw ?_;try (refine pre ?_;intros;rename_i hx)
  apply Jr (γ:=(Option Addr) × Nat) hx [0,1,4] (fun s7 y7 f=>(7,.slice (y7.1) ((s7).length) (y7.2))::f) [0,999] (fun s7 y7 l=>.r (y7.1) ((s7).length) (y7.2) 70 4 ((s7).flatMap Ah)::l);exact kk
  ·intro s7 y7 hx;exact au
  ·intro _ hx;try (refine pre ?_;intros;rename_i hx)
   refine Ba 70 4 ?_
   apply Lr (γ:=(Option Addr) × Nat) hx [0,1,4,18] (fun s0 y0 f=>(7,.slice (y0.1) ((s0.1).length) (y0.2))::(19,.int .i64 (s0.2))::f) [1,999] (fun s0 y0 l=>.r (y0.1) ((s0.1).length) (y0.2) 70 4 ((s0.1).flatMap Ah)::l) (_,_);exact kk;exact sk;intro s0 y0 x0 hx _;unfold Hz at hx
   exact au⟩
end Go.Proofs.YtjfndjmabhbicaaGreat
