/- Walks of the program, with their plain functions: grids of meshes. -/
import Derived.Test.YtebkcipolijfmaaGreatY1
namespace Go.Proofs.YtebkcipolijfmaaGreat
open Go Go.RowKit
theorem Aq0:Ck Tryz.prog 101 0 0:=.mk Tryz.underlying101 rfl rfl (show Tryz.prog.info? 3=some Tryz.t3 from by kernel_rfl) (show Tryz.t3.size=1 from by kernel_rfl) rfl
instance:Dq Tryz.prog 101 0 0:=⟨Aq0⟩
theorem Aax:Ck Tryz.prog 101 3 3:=.mk Tryz.underlying101 rfl rfl (show Tryz.prog.info? 3=some Tryz.t3 from by kernel_rfl) (show Tryz.t3.size=1 from by kernel_rfl) rfl
instance:Dq Tryz.prog 101 3 3:=⟨Aax⟩
theorem Aq1:Ck Tryz.prog 101 2 2:=.mk Tryz.underlying101 rfl rfl (show Tryz.prog.info? 3=some Tryz.t3 from by kernel_rfl) (show Tryz.t3.size=1 from by kernel_rfl) rfl
instance:Dq Tryz.prog 101 2 2:=⟨Aq1⟩
theorem Aq2:Ck Tryz.prog 101 1 1:=.mk Tryz.underlying101 rfl rfl (show Tryz.prog.info? 3=some Tryz.t3 from by kernel_rfl) (show Tryz.t3.size=1 from by kernel_rfl) rfl
instance:Dq Tryz.prog 101 1 1:=⟨Aq2⟩
theorem Aay:Ck Tryz.prog 101 4 4:=.mk Tryz.underlying101 rfl rfl (show Tryz.prog.info? 3=some Tryz.t3 from by kernel_rfl) (show Tryz.t3.size=1 from by kernel_rfl) rfl
instance:Dq Tryz.prog 101 4 4:=⟨Aay⟩
theorem Pq:Lc Tryz.prog 101 5:=.mk Tryz.underlying101 rfl (show Tryz.prog.info? 101=some Tryz.t101 from by kernel_rfl) (by kernel_rfl)
instance:AggI Tryz.prog 101 5:=⟨Pq⟩
theorem Xc:Iw Tryz.prog 108 [.int .i64 (0),.int .i64 (0),.int .i64 (0),.int .i64 (0),.int .i64 (0),.slice (none) (0) (0)]:=⟨_,Tryz.zeroValue108,rfl⟩
instance:Qb Tryz.prog 108 [.int .i64 (0),.int .i64 (0),.int .i64 (0),.int .i64 (0),.int .i64 (0),.slice (none) (0) (0)]:=⟨Xc⟩
theorem Adp  : Fh Tryz.prog 108 [] [.int .i64 (0),.int .i64 (0),.int .i64 (0),.int .i64 (0),.int .i64 (0),.slice (none) (0) (0)]:=fun w=>by kernel_rfl
instance:Jh Tryz.prog 108 [] [.int .i64 (0),.int .i64 (0),.int .i64 (0),.int .i64 (0),.int .i64 (0),.slice (none) (0) (0)]:=⟨Adp⟩
theorem Hu:Lc Tryz.prog 108 6:=.mk Tryz.underlying108 rfl (show Tryz.prog.info? 108=some Tryz.t108 from by kernel_rfl) (by kernel_rfl)
instance:AggI Tryz.prog 108 6:=⟨Hu⟩
theorem Od (x0:Int) (x1:Int) (x2:Int) (x3:Int) (x4:Int):Fh Tryz.prog 108 [(0,.agg #[.int .i64 x0,.int .i64 x1,.int .i64 x2,.int .i64 x3,.int .i64 x4])] [.int .i64 x0,.int .i64 x1,.int .i64 x2,.int .i64 x3,.int .i64 x4,.slice (none) (0) (0)]:=fun w=>by kernel_rfl
instance (x0:Int) (x1:Int) (x2:Int) (x3:Int) (x4:Int):Jh Tryz.prog 108 [(0,.agg #[.int .i64 x0,.int .i64 x1,.int .i64 x2,.int .i64 x3,.int .i64 x4])] [.int .i64 x0,.int .i64 x1,.int .i64 x2,.int .i64 x3,.int .i64 x4,.slice (none) (0) (0)]:=⟨Od _ _ _ _ _⟩
theorem Agd (x0:Bool):Fh Tryz.prog 112 [(0,.bool x0)] [.bool x0,.int .i64 (0),.int .i64 (0)]:=fun w=>by kernel_rfl
instance (x0:Bool):Jh Tryz.prog 112 [(0,.bool x0)] [.bool x0,.int .i64 (0),.int .i64 (0)]:=⟨Agd _⟩
theorem Aq3:Iw Tryz.prog 112 [.bool (false),.int .i64 (0),.int .i64 (0)]:=⟨_,Tryz.zeroValue112,rfl⟩
instance:Qb Tryz.prog 112 [.bool (false),.int .i64 (0),.int .i64 (0)]:=⟨Aq3⟩
theorem Abw:Lc Tryz.prog 112 3:=.mk Tryz.underlying112 rfl (show Tryz.prog.info? 112=some Tryz.t112 from by kernel_rfl) (by kernel_rfl)
instance:AggI Tryz.prog 112 3:=⟨Abw⟩
theorem Vx (x0:Int) (x1:Int):Fh Tryz.prog 112 [(1,.agg #[.int .i64 x0,.int .i64 x1])] [.bool (false),.int .i64 x0,.int .i64 x1]:=fun w=>by kernel_rfl
instance (x0:Int) (x1:Int):Jh Tryz.prog 112 [(1,.agg #[.int .i64 x0,.int .i64 x1])] [.bool (false),.int .i64 x0,.int .i64 x1]:=⟨Vx _ _⟩
theorem Hx:Ck Tryz.prog 108 1 5:=.mk Tryz.underlying108 rfl rfl (show Tryz.prog.info? 106=some Tryz.t106 from by kernel_rfl) (show Tryz.t106.size=1 from by kernel_rfl) rfl
instance:Dq Tryz.prog 108 1 5:=⟨Hx⟩
theorem Nt:Mn Tryz.prog 106:=.mk Tryz.underlying106 rfl (show Tryz.prog.info? 106=some Tryz.t106 from by kernel_rfl) (by kernel_rfl)
instance:OneI Tryz.prog 106:=⟨Nt⟩
theorem Sq (x0:Bool) (x1:Int) (x2:Int):Dm Tryz.prog 106 1 [(0,.agg #[.bool x0,.int .i64 x1,.int .i64 x2])] 112 [.bool x0,.int .i64 x1,.int .i64 x2]:=fun w=>by kernel_rfl
instance (x0:Bool) (x1:Int) (x2:Int):Mm Tryz.prog 106 1 [(0,.agg #[.bool x0,.int .i64 x1,.int .i64 x2])] 112 [.bool x0,.int .i64 x1,.int .i64 x2]:=⟨Sq _ _ _⟩
theorem Aq4:Sh Tryz.prog 106 112 3 24:=⟨Tryz.underlying106,⟨Tryz.t112,.agg #[.bool (false),.int .i64 (0),.int .i64 (0)],by kernel_rfl,by kernel_rfl,by kernel_rfl,by kernel_rfl,rfl⟩,by decide⟩
instance:Yx Tryz.prog 106 112 3 24:=⟨Aq4⟩
noncomputable def Fq (p0:Int) (p1:Int) (p2:Int):Option Bool :=
 jn (fun (s2:Bool) =>
 some s2)
 (fun j2=>if p0≤p1 then (j2 (decide (p1≤p2)))
 else (j2 false))
noncomputable def Ds (p0:Int):Option Bool :=
 bnd (Fq (-268435456) p0 268435456) fun r1 =>
 some r1
structure Bj where
 X0:Int
 Y0:Int
 Step:Int
 NX:Int
 NY:Int
noncomputable def Oq (p0:Bj) (p1:Int):Option Ac :=
 gd (p0.NX≠0) <|
 gd (p0.NX≠0) <|
 some (⟨w64 (p0.X0+(w64 ((Int.tmod p1 p0.NX)*p0.Step))),w64 (p0.Y0+(w64 ((w64 (Int.tdiv p1 p0.NX))*p0.Step)))⟩:Ac)
noncomputable def Fs (p0:Bj):Option Bool :=
 jn (fun (s3:Bool) =>
 if s3=true then (some false)
 else (bnd (Oq p0 (w64 ((w64 (p0.NX*p0.NY))-1))) fun r0 =>
 jn (fun (s6:Bool) =>
 some s6)
 (fun j6=>bnd (Ds r0.X) fun r1 =>
 if r1=true then (bnd (Ds r0.Y) fun r3 =>
 j6 r3)
 else (j6 false))))
 (fun j3=>bnd (Fq 1 p0.Step 1000000) fun r2 =>
 if r2=true then (bnd (Fq 1 p0.NX 64) fun r8 =>
 if r8=true then (bnd (Fq 1 p0.NY 64) fun r4 =>
 if r4=true then (bnd (Ds p0.X0) fun r5 =>
 if r5=true then (bnd (Ds p0.Y0) fun r6 =>
 j3 (!(r6)))
 else (j3 true))
 else (j3 true))
 else (j3 true))
 else (j3 true))
structure Az where
 Void:Bool
 Z:Av
structure Aw where
 Raster:Bj
 Cells:List Az
def Bh (x:Az):List Value:=[.bool (x.Void),.int .i64 (x.Z.Lo),.int .i64 (x.Z.Hi)]
instance (x0:Bool) (x1:Int) (x2:Int):DecI Bh [.bool (x0),.int .i64 (x1),.int .i64 (x2)] (⟨x0,⟨x1,x2⟩⟩):=⟨rfl⟩
instance:EncI 112 Bh:=⟨trivial⟩
noncomputable def Jp (p1:Bj) (p0:Bu) (p2:Int):((List Az) × Int)→Option (Sum ((List Az) × Int) (List Az)):=fun s0 =>
 if s0.2 < (w64 (p1.NX*p1.NY)) then (bnd (Oq p1 s0.2) fun r0 =>
 jn (fun (s1:Bool × Int × Int) =>
 gd (((s0.1).length+1)*24≤140737488355328) <|
 some (.inl (s0.1++[(⟨s1.1,(⟨s1.2.1,s1.2.2⟩:Av)⟩:Az)],w64 (s0.2+1))))
 (fun j0=>bnd (Je p0 r0) fun r1 =>
 jn (fun (s2:Bool) =>
 if s2=true then (bnd (Jf p0 r1 r0) fun r2 =>
 j0 (false,r2.Lo,r2.Hi))
 else (j0 (true,0,0)))
 (fun j1=>if 0≤r1 then (bnd (Nn p0 r1 p2) fun r3 =>
 j1 (!(r3)))
 else (j1 false))))
 else (some (.inr s0.1))
noncomputable def Id (p0:Bu) (p1:Bj) (p2:Int):Option (Aw × Int) :=
 bnd (Nf p0) fun r4 =>
 if r4=0 then (bnd (Fs p1) fun r0 =>
 if r0=true then (bnd (Fq 0 p2 1073741824) fun r1 =>
 if r1=true then (jn (fun (s0:List Az) =>
 some ((⟨p1,s0⟩:Aw),0))
 (fun j0=>bnd (lfix (Jp p1 p0 p2) (([]:List Az),0)) fun t0 =>
 j0 t0))
 else (some ((⟨(⟨0,0,0,0,0⟩:Bj),([]:List Az)⟩:Aw),2)))
 else (some ((⟨(⟨0,0,0,0,0⟩:Bj),([]:List Az)⟩:Aw),90)))
 else (some ((⟨(⟨0,0,0,0,0⟩:Bj),([]:List Az)⟩:Aw),64))
set_option maxRecDepth 100000 in
instance Aev (p0:Int) (p1:Int) (p2:Int):Con (Fq p0 p1 p2) Tryz.prog 111 (fun _ vs=>vs=[.int .i64 (p0),.int .i64 (p1),.int .i64 (p2)]) (fun _ r=>fun v Ln=>v = .bool (r)∧Ln=[]∧True):=⟨by
 rintro _ _ r rfl hx w hK;unfold Fq at hx;refine CtS Tryz.ntmps111 Tryz.results111 ?_;exact au⟩
theorem Vy (p0:Int) (p1:Int) (p2:Int)  {r:Bool} (hx:Fq p0 p1 p2=some r) (w:World):CtL Tryz.prog 111 [.int .i64 (p0),.int .i64 (p1),.int .i64 (p2)] w fun v Ln=>v = .bool (r)∧Ln=[]∧True:=(Aev p0 p1 p2).h [] _ _ rfl hx w (fun _ h=>absurd h List.not_mem_nil)
set_option maxRecDepth 100000 in
instance model_validCoord_c (p0:Int):Con (Ds p0) Tryz.prog 189 (fun _ vs=>vs=[.int .i64 (p0)]) (fun _ r=>fun v Ln=>v = .bool (r)∧Ln=[]∧True):=⟨by
 rintro _ _ r rfl hx w hK;unfold Ds at hx;refine CtS Tryz.ntmps189 Tryz.results189 ?_;exact au⟩
set_option maxRecDepth 100000 in
instance Ahj (p0:Bj) (p1:Int):Con (Oq p0 p1) Tryz.prog 112 (fun _ vs=>vs=[.agg #[.int .i64 (p0.X0),.int .i64 (p0.Y0),.int .i64 (p0.Step),.int .i64 (p0.NX),.int .i64 (p0.NY)],.int .i64 (p1)]) (fun _ r=>fun v Ln=>v = .agg #[.int .i64 (r.X),.int .i64 (r.Y)]∧Ln=[]∧True):=⟨by
 rintro _ _ r rfl hx w hK;unfold Oq at hx;have:=dl 1 [0,1,0,0,1,0,0,1,0,0,0,1,0,0,1,0,0,1,0,0,0,3] [0,1,2,3,4,5,6,7,8,9,10,11,12,13,14,15,16,17,18,19,20,21];refine CtS Tryz.ntmps112 Tryz.results112 ?_;exact au⟩
theorem Afr (p0:Bj) (p1:Int)  {r:Ac} (hx:Oq p0 p1=some r) (w:World):CtL Tryz.prog 112 [.agg #[.int .i64 (p0.X0),.int .i64 (p0.Y0),.int .i64 (p0.Step),.int .i64 (p0.NX),.int .i64 (p0.NY)],.int .i64 (p1)] w fun v Ln=>v = .agg #[.int .i64 (r.X),.int .i64 (r.Y)]∧Ln=[]∧True:=(Ahj p0 p1).h [] _ _ rfl hx w (fun _ h=>absurd h List.not_mem_nil)
set_option maxHeartbeats 1000000 in
set_option maxRecDepth 100000 in
instance Yl (p0:Bj):Con (Fs p0) Tryz.prog 110 (fun _ vs=>vs=[.agg #[.int .i64 (p0.X0),.int .i64 (p0.Y0),.int .i64 (p0.Step),.int .i64 (p0.NX),.int .i64 (p0.NY)]]) (fun _ r=>fun v Ln=>v = .bool (r)∧Ln=[]∧True):=⟨by
 rintro _ _ r rfl hx w hK;unfold Fs at hx;refine CtS Tryz.ntmps110 Tryz.results110 ?_;refine pre ?_;intros;rename_i hx
 refine Im ?_;refine pre ?_;intros;rename_i hx
 refine Im ?_;refine pre ?_;intros;rename_i hx
 apply Jr (γ:=Unit) hx [1] (fun s3 y3 f=>(31,.bool (s3))::f) [0,999] (fun s3 y3 l=>l);exact kk
 ·intro s3 y3 hx;exact au
 ·intro _ hx;exact au⟩
theorem Xd (p0:Bj)  {r:Bool} (hx:Fs p0=some r) (w:World):CtL Tryz.prog 110 [.agg #[.int .i64 (p0.X0),.int .i64 (p0.Y0),.int .i64 (p0.Step),.int .i64 (p0.NX),.int .i64 (p0.NY)]] w fun v Ln=>v = .bool (r)∧Ln=[]∧True:=(Yl p0).h [] _ _ rfl hx w (fun _ h=>absurd h List.not_mem_nil)
set_option maxRecDepth 100000 in
theorem Qz (p0:Bu) (p1:Bj) (p2:Int) {K:List Ent} {A0_0:Option Addr} {c0_0:Nat} {A0_1:Option Addr} {c0_1:Nat} {A0_2:Option Addr} {c0_2:Nat} (ha0:Has K A0_0 p0.V.length c0_0 4 Ak (p0.V)) (ha1:Has K A0_1 p0.T.length c0_1 3 Bk (p0.T)) (ha2:Has K A0_2 p0.Lines.length c0_2 2 Al (p0.Lines)) {r:Aw × Int} (hx:Id p0 p1 p2=some r) (w:World) (hK:∀ e∈K,Ent.ok w e):CtL Tryz.prog 53 [.agg #[.slice (A0_0) (p0.V.length) (c0_0),.slice (A0_1) (p0.T.length) (c0_1),.slice (A0_2) (p0.Lines.length) (c0_2)],.agg #[.int .i64 (p1.X0),.int .i64 (p1.Y0),.int .i64 (p1.Step),.int .i64 (p1.NX),.int .i64 (p1.NY)],.int .i64 (p2)] w fun v Ln=>∃ (A0:Option Addr) (c0:Nat),v = .tuple #[.agg #[.int .i64 (r.1.Raster.X0),.int .i64 (r.1.Raster.Y0),.int .i64 (r.1.Raster.Step),.int .i64 (r.1.Raster.NX),.int .i64 (r.1.Raster.NY),.slice (A0) (r.1.Cells.length) (c0)],.int .i64 (r.2)]∧Ln=[.r A0 r.1.Cells.length c0 112 3 (r.1.Cells.flatMap Bh)]∧True:=by
 have ha0':=Has.up0 ha0;have ha1':=Has.up0 ha1;have ha2':=Has.up0 ha2;refine CtL.mk 67 Tryz.func53 rfl Tryz.ntmps53 (by kernel_rfl) rfl ?_;show T 67 _ [(0,.agg #[.slice (A0_0) (p0.V.length) (c0_0),.slice (A0_1) (p0.T.length) (c0_1),.slice (A0_2) (p0.Lines.length) (c0_2)]),(1,.agg #[.int .i64 (p1.X0),.int .i64 (p1.Y0),.int .i64 (p1.Step),.int .i64 (p1.NX),.int .i64 (p1.NY)]),(2,.int .i64 (p2))] _;unfold Id at hx;refine Y2 ?_;refine T_x (Ic rfl rfl rfl (fun g1=>?_));refine T_x (Ic rfl rfl rfl (fun g2=>?_));refine T_x (Bn Xc rfl (fun g3=>?_));refine Y7 ?_;refine Ag (Bb rfl (i:=2) rfl rfl Qv) rfl ?_;obtain ⟨r4,h5,hx6⟩:=Ad hx;refine Tc (fun w1 hw1=>Aft p0 (Has.len' ha0') (Has.len' ha1') (Has.len' ha2') h5 w1 (Hk (K:=K) (K2:=[]) hK (by exact (sb 3)) (by exact (SubE.nil)) hw1)) ?_;refine Y4 ?_;refine Oc (s:=13) rfl (fun h7=>?_) (fun h7=>?_)
 ·have hx8:=Py h7 hx6;refine Y3 ?_;refine Ag (Bp rfl (Adp)) rfl ?_;refine T_h (Au rfl rfl rfl (.here) (.put (.put (.put (.put (.put (.put (.done))))))) rfl (List.cons_ne_nil _ _) Hu.2 ?_);refine Y6 ?_;refine Bi 112 3 ?_;obtain rfl:=Option.some.inj hx8;exact Ce (rs:=[.cell 6 108,.tmp 7]) Tryz.results53 (.cell rfl (i:=1) rfl rfl Hu (.tmp rfl (.nil))) (Ln:=[.r (none) (0) (0) 112 3 ((([]:List Az)).flatMap Bh)]) ⟨none,0,rfl,rfl,trivial⟩ (Bd rfl (Cm)) (by exact .pick 0 rfl (.drop 0 rfl (.drop 0 rfl (.drop 0 rfl (.refl)))))
 ·have hx9:=Cv h7 hx6;refine Y3 ?_;refine Ag (Bb rfl (i:=1) rfl rfl Pq) rfl ?_;obtain ⟨r0,h0,hx0⟩:=Ad hx9;refine Tc (fun w1 hw1=>Xd p1  h0 w1) ?_;refine Y4 ?_;refine Jz (s:=18) rfl (fun h1=>?_) (fun h1=>?_)
  ·have hx1:=Db h1 hx0;refine Y3 ?_;refine Ag (Bp rfl (Adp)) rfl ?_;refine T_h (Au rfl rfl rfl (.here) (.put (.put (.put (.put (.put (.put (.done))))))) rfl (List.cons_ne_nil _ _) Hu.2 ?_);refine Y6 ?_;refine Bi 112 3 ?_;obtain rfl:=Option.some.inj hx1;exact Ce (rs:=[.cell 6 108,.tmp 7]) Tryz.results53 (.cell rfl (i:=1) rfl rfl Hu (.tmp rfl (.nil))) (Ln:=[.r (none) (0) (0) 112 3 ((([]:List Az)).flatMap Bh)]) ⟨none,0,rfl,rfl,trivial⟩ (Bd rfl (Cm)) (by exact .pick 0 rfl (.drop 0 rfl (.drop 0 rfl (.drop 0 rfl (.refl)))))
  ·have hx2:=Cv h1 hx0;refine Y4 ?_;obtain ⟨r1,h2,hx3⟩:=Ad hx2;refine Tc (fun w1 hw1=>Vy 0 p2 1073741824  h2 w1) ?_;refine Y4 ?_;refine Jz (s:=23) rfl (fun h3=>?_) (fun h3=>?_)
   ·have hx4:=Db h3 hx3;refine Y3 ?_;refine Ag (Bp rfl (Adp)) rfl ?_;refine T_h (Au rfl rfl rfl (.here) (.put (.put (.put (.put (.put (.put (.done))))))) rfl (List.cons_ne_nil _ _) Hu.2 ?_);refine Y6 ?_;refine Bi 112 3 ?_;obtain rfl:=Option.some.inj hx4;exact Ce (rs:=[.cell 6 108,.tmp 7]) Tryz.results53 (.cell rfl (i:=1) rfl rfl Hu (.tmp rfl (.nil))) (Ln:=[.r (none) (0) (0) 112 3 ((([]:List Az)).flatMap Bh)]) ⟨none,0,rfl,rfl,trivial⟩ (Bd rfl (Cm)) (by exact .pick 0 rfl (.drop 0 rfl (.drop 0 rfl (.drop 0 rfl (.refl)))))
   ·have hx5:=Cv h3 hx3;refine Y6 ?_;refine Ag (Bb rfl (i:=1) rfl rfl Pq) rfl ?_;refine Ag (Bp rfl (Od _ _ _ _ _)) rfl ?_;refine T_x (Bn Xc rfl (fun g0=>?_));refine T_h (Au rfl rfl rfl (.here) (.put (.put (.put (.put (.put (.put (.done))))))) rfl (List.cons_ne_nil _ _) Hu.2 ?_);refine Y2 ?_;refine Tj (γ:=(Option Addr) × Nat) hx5 (fun s0 y0=>[(6,.pointer (some ⟨g3,0,none⟩)),(8,.pointer (some ⟨g0,0,none⟩))]) (fun s0 y0=>[.r (y0.1) (s0.length) (y0.2) 112 3 (s0.flatMap Bh),.m g0 108 [.int .i64 (p1.X0),.int .i64 (p1.Y0),.int .i64 (p1.Step),.int .i64 (p1.NX),.int .i64 (p1.NY),.slice (y0.1) (s0.length) (y0.2)],.m g3 108 [.int .i64 (0),.int .i64 (0),.int .i64 (0),.int .i64 (0),.int .i64 (0),.slice (none) (0) (0)]]++[.old w]) (fun s0 y0=>True) (fun s0 y0 hx7 hG0=>?_) (fun j0 hx5=>?_)
    ·refine Y2 ?_;refine Ag (Bb rfl (i:=1) rfl rfl Hu) rfl ?_;refine T_h (Au rfl rfl rfl (.there (.there (.here))) (.put (.put (.put (.put (.put (.put (.done))))))) rfl (List.cons_ne_nil _ _) Hu.2 ?_);refine Y4 ?_;obtain rfl:=Option.some.inj hx7;exact Ce (rs:=[.cell 6 108,.tmp 7]) Tryz.results53 (.cell rfl (i:=2) rfl rfl Hu (.tmp rfl (.nil))) (Ln:=[.r (y0.1) (s0.length) (y0.2) 112 3 (s0.flatMap Bh)]) ⟨y0.1,y0.2,rfl,rfl,trivial⟩ (Bd rfl (Cm)) (by exact .pick 0 rfl (.drop 0 rfl (.drop 0 rfl (.refl))))
    ·refine Y2 ?_;refine Ag (Am rfl Aax rfl) rfl ?_;refine Ag (Ai rfl (i:=2) rfl rfl one3) rfl ?_;refine Ag (Am rfl Aay rfl) rfl ?_;refine Ag (Ai rfl (i:=2) rfl rfl one3) rfl ?_;refine Y5 ?_;obtain ⟨t0,hl0,ho0⟩:=Ad hx5;refine Bi 112 3 ?_
     have hn0:0=(([]:List Az)).length:=by simp [Cb,Co,List.length_append] <;> omega
     refine Hd (.here) (e':=.r (none) ((([]:List Az)).length) (0) 112 3 ((([]:List Az)).flatMap Bh)) (by first | (rw [← hn0];done) | rfl) ?_;refine Lp (σ:=(List Az) × Int) (γ:=(Option Addr) × Nat) hl0 (fun s1 y1=>[(2,.int .i64 (p2)),(3,.pointer (some ⟨g1,0,none⟩)),(4,.pointer (some ⟨g2,0,none⟩)),(6,.pointer (some ⟨g3,0,none⟩)),(8,.pointer (some ⟨g0,0,none⟩)),(34,.int .i64 (w64 (p1.NX*p1.NY))),(35,.int .i64 (s1.2))]) (fun s1 y1=>[.r (y1.1) (s1.1.length) (y1.2) 112 3 (s1.1.flatMap Bh),.m g0 108 [.int .i64 (p1.X0),.int .i64 (p1.Y0),.int .i64 (p1.Step),.int .i64 (p1.NX),.int .i64 (p1.NY),.slice (y1.1) (s1.1.length) (y1.2)],.m g3 108 [.int .i64 (0),.int .i64 (0),.int .i64 (0),.int .i64 (0),.int .i64 (0),.slice (none) (0) (0)],.m g2 101 [.int .i64 (p1.X0),.int .i64 (p1.Y0),.int .i64 (p1.Step),.int .i64 (p1.NX),.int .i64 (p1.NY)],.m g1 32 [.slice (A0_0) (p0.V.length) (c0_0),.slice (A0_1) (p0.T.length) (c0_1),.slice (A0_2) (p0.Lines.length) (c0_2)]]++[.old w]) (fun s1 y1=>True) (none,0) trivial (by exact .pick 0 rfl (.pick 0 rfl (.pick 0 rfl (.pick 0 rfl (.pick 0 rfl (.refl)))))) ?_;intro s1 y1 hG1 x0 hx57 ht0;unfold Jp at hx57;refine Y6 ?_;refine Ti hx57 (s:=36) rfl (fun h4 hx60=>?_) (fun h4 hx61=>?_)
     ·(iterate 13 refine Y ?_);refine Ag (Bp rfl (Agd _)) rfl ?_;refine T_x (Bn Aq3 rfl (fun g4=>?_));refine T_h (Au rfl rfl rfl (.here) (.put (.put (.put (.done)))) rfl (List.cons_ne_nil _ _) Abw.2 ?_);refine Y4 ?_;refine Ag (Bb rfl (i:=4) rfl rfl Pq) rfl ?_;refine Y ?_;obtain ⟨r2,h6,hx65⟩:=Ad hx60;refine Tc (fun w1 hw1=>Afr p1 s1.2  h6 w1) ?_;refine T_x (Bn Apw rfl (fun g5=>?_));refine T_h (Au rfl rfl rfl (.here) (.put (.put (.done))) rfl (List.cons_ne_nil _ _) Sb.2 ?_);refine Y2 ?_;refine Tj (γ:=Unit) hx65 (fun s2 y2=>[(2,.int .i64 (p2)),(3,.pointer (some ⟨g1,0,none⟩)),(4,.pointer (some ⟨g2,0,none⟩)),(6,.pointer (some ⟨g3,0,none⟩)),(8,.pointer (some ⟨g0,0,none⟩)),(10,.pointer (some ⟨g4,0,none⟩)),(34,.int .i64 (w64 (p1.NX*p1.NY))),(35,.int .i64 (s1.2))]) (fun s2 y2=>[.m g4 112 [.bool (s2.1),.int .i64 (s2.2.1),.int .i64 (s2.2.2)],.r (y1.1) (s1.1.length) (y1.2) 112 3 (s1.1.flatMap Bh),.m g0 108 [.int .i64 (p1.X0),.int .i64 (p1.Y0),.int .i64 (p1.Step),.int .i64 (p1.NX),.int .i64 (p1.NY),.slice (y1.1) (s1.1.length) (y1.2)],.m g3 108 [.int .i64 (0),.int .i64 (0),.int .i64 (0),.int .i64 (0),.int .i64 (0),.slice (none) (0) (0)],.m g2 101 [.int .i64 (p1.X0),.int .i64 (p1.Y0),.int .i64 (p1.Step),.int .i64 (p1.NX),.int .i64 (p1.NY)],.m g1 32 [.slice (A0_0) (p0.V.length) (c0_0),.slice (A0_1) (p0.T.length) (c0_1),.slice (A0_2) (p0.Lines.length) (c0_2)]]++[.old w]) (fun s2 y2=>True) (fun s2 y2 hx84 hG2=>?_) (fun j1 hx65=>?_)
      ·refine Y ?_;refine Ag (Am rfl Hx rfl) rfl ?_;refine Ag (Ai rfl (i:=2) rfl rfl Nt) rfl ?_;refine Ag (Bb rfl (i:=0) rfl rfl Abw) rfl ?_;refine T_x (Bz rfl (Sq _ _ _) rfl (fun g6=>?_));obtain ⟨h8,hx88⟩:=Bm hx84;refine T_h (Hn Bh (s1.1) [(⟨s2.1,(⟨s2.2.1,s2.2.2⟩:Av)⟩:Az)] rfl rfl rfl Aq4 (fun _=>rfl) (i':=0) rfl rfl rfl rfl h8 rfl (fun _ _=>.there (.there (.here))) (fun _ _=>.drop .refl) (by decide) (fun A1 c1=>?_));refine Ag (Am rfl Hx rfl) rfl ?_;refine T_h (Au rfl rfl rfl (.there (.there (.here))) (.skip (.skip (.skip (.skip (.skip (.put (.done))))))) rfl (List.cons_ne_nil _ _) Nt.2 ?_);refine Y7 ?_;exact Rp (s1.1++[(⟨s2.1,(⟨s2.2.1,s2.2.2⟩:Av)⟩:Az)],w64 (s1.2+1)) (A1,c1) hx88 trivial (by exact .pick 1 rfl (.pick 1 rfl (.pick 1 rfl (.pick 1 rfl (.pick 1 rfl (.drop 0 rfl (.refl)))))))
      ·refine Y2 ?_;refine Ag (Bb rfl (i:=6) rfl rfl Qv) rfl ?_;refine Ag (Bb rfl (i:=0) rfl rfl Sb) rfl ?_;obtain ⟨r3,h9,hx69⟩:=Ad hx65;refine Tc (fun w1 hw1=>Aa4 p0 r2 (Has.len' ha0') (Has.len' ha1') (Has.len' ha2') h9 w1 (Hk (K:=K) (K2:=[]) hK (by exact (sb 7)) (by exact (SubE.nil)) hw1)) ?_;refine Y3 ?_;refine Tj (γ:=Unit) hx69 (fun s3 y3=>[(2,.int .i64 (p2)),(3,.pointer (some ⟨g1,0,none⟩)),(4,.pointer (some ⟨g2,0,none⟩)),(6,.pointer (some ⟨g3,0,none⟩)),(8,.pointer (some ⟨g0,0,none⟩)),(10,.pointer (some ⟨g4,0,none⟩)),(11,.pointer (some ⟨g5,0,none⟩)),(12,.int .i64 (r3)),(34,.int .i64 (w64 (p1.NX*p1.NY))),(35,.int .i64 (s1.2)),(53,.bool (s3))]) (fun s3 y3=>[.m g5 38 [.int .i64 (r2.X),.int .i64 (r2.Y)],.m g4 112 [.bool (true),.int .i64 (0),.int .i64 (0)],.r (y1.1) (s1.1.length) (y1.2) 112 3 (s1.1.flatMap Bh),.m g0 108 [.int .i64 (p1.X0),.int .i64 (p1.Y0),.int .i64 (p1.Step),.int .i64 (p1.NX),.int .i64 (p1.NY),.slice (y1.1) (s1.1.length) (y1.2)],.m g3 108 [.int .i64 (0),.int .i64 (0),.int .i64 (0),.int .i64 (0),.int .i64 (0),.slice (none) (0) (0)],.m g2 101 [.int .i64 (p1.X0),.int .i64 (p1.Y0),.int .i64 (p1.Step),.int .i64 (p1.NX),.int .i64 (p1.NY)],.m g1 32 [.slice (A0_0) (p0.V.length) (c0_0),.slice (A0_1) (p0.T.length) (c0_1),.slice (A0_2) (p0.Lines.length) (c0_2)]]++[.old w]) (fun s3 y3=>True) (fun s3 y3 hx76 hG3=>?_) (fun j2 hx69=>?_)
       ·refine Dd (s:=53) rfl (fun h78=>?_) (fun h78=>?_)
        ·have hx79:=Cv h78 hx76;refine Y2 ?_;refine Ag (Bb rfl (i:=6) rfl rfl Qv) rfl ?_;refine Y ?_;refine Ag (Bb rfl (i:=0) rfl rfl Sb) rfl ?_;obtain ⟨r5,h81,hx82⟩:=Ad hx79;refine Tc (fun w1 hw1=>Tn p0 r3 r2 (Has.len' ha0') (Has.len' ha1') (Has.len' ha2') h81 w1 (Hk (K:=K) (K2:=[]) hK (by exact (sb 7)) (by exact (SubE.nil)) hw1)) ?_;refine Ag (Bp rfl (Vx _ _)) rfl ?_;refine T_h (Au rfl rfl rfl (.there (.here)) (.put (.put (.put (.done)))) rfl (List.cons_ne_nil _ _) Abw.2 ?_);refine Y ?_;exact Mt (false,r5.Lo,r5.Hi) () hx82 trivial (by exact .pick 1 rfl (.pick 1 rfl (.pick 1 rfl (.pick 1 rfl (.pick 1 rfl (.pick 1 rfl (.drop 0 rfl (.refl))))))))
        ·have hx83:=Db h78 hx76;refine Y2 ?_;exact Mt (true,0,0) () hx83 trivial (by exact .pick 1 rfl (.pick 1 rfl (.pick 1 rfl (.pick 1 rfl (.pick 1 rfl (.pick 1 rfl (.drop 0 rfl (.refl))))))))
       ·refine Y4 ?_;refine Ti hx69 (s:=47) rfl (fun h70 hx71=>?_) (fun h70 hx75=>?_)
        ·refine Br rfl rfl rfl (Bb rfl (i:=6) rfl rfl Qv) rfl ?_;refine Y2 ?_;obtain ⟨r6,h73,hx74⟩:=Ad hx71;refine T_xG rfl rfl rfl (Be rfl (fun w1 hw1=>Adc p0 r3 p2 (Has.len' ha0') (Has.len' ha1') (Has.len' ha2') h73 w1 (Hk (K:=K) (K2:=[]) hK (by exact (sb 7)) (by exact (SubE.nil)) hw1)) rfl ?_);rintro _ _ hlo ⟨rfl,rfl,-⟩;refine Dh ?_;refine Y3 ?_;exact Mt (!(r6)) () hx74 trivial (by exact .pick 0 rfl (.pick 0 rfl (.pick 0 rfl (.pick 0 rfl (.pick 0 rfl (.pick 0 rfl (.pick 0 rfl (.refl))))))))
        ·refine Y7 ?_;exact Mt false () hx75 trivial (by exact .pick 0 rfl (.pick 0 rfl (.pick 0 rfl (.pick 0 rfl (.pick 0 rfl (.pick 0 rfl (.pick 0 rfl (.refl))))))))
     ·refine Y3 ?_;obtain rfl:=Ct ht0 hx61;refine Y2 ?_;exact Mt s1.1 (y1.1,y1.2) ho0 trivial (by exact .pick 0 rfl (.pick 0 rfl (.pick 0 rfl (.drop 0 rfl (.drop 0 rfl (.refl))))))
set_option maxHeartbeats 1000000 in
set_option maxRecDepth 100000 in
instance model_Render_c (p0:Bu) (p1:Bj) (p2:Int):Con (Id p0 p1 p2) Tryz.prog 53 (fun K vs=>∃ (A0_0:Option Addr) (c0_0:Nat) (A0_1:Option Addr) (c0_1:Nat) (A0_2:Option Addr) (c0_2:Nat),vs=[.agg #[.slice (A0_0) ((p0.V).length) (c0_0),.slice (A0_1) ((p0.T).length) (c0_1),.slice (A0_2) ((p0.Lines).length) (c0_2)],.agg #[.int .i64 (p1.X0),.int .i64 (p1.Y0),.int .i64 (p1.Step),.int .i64 (p1.NX),.int .i64 (p1.NY)],.int .i64 (p2)]∧Has K A0_0 (p0.V).length c0_0 4 Ak (p0.V)∧Has K A0_1 (p0.T).length c0_1 3 Bk (p0.T)∧Has K A0_2 (p0.Lines).length c0_2 2 Al (p0.Lines)∧True) (fun _ r=>fun v Ln=>∃ (A0:Option Addr) (c0:Nat),v = .tuple #[.agg #[.int .i64 (r.1.Raster.X0),.int .i64 (r.1.Raster.Y0),.int .i64 (r.1.Raster.Step),.int .i64 (r.1.Raster.NX),.int .i64 (r.1.Raster.NY),.slice (A0) ((r.1.Cells).length) (c0)],.int .i64 (r.2)]∧Ln=[.r A0 (r.1.Cells).length c0 112 3 ((r.1.Cells).flatMap Bh)]∧True):=⟨by
 rintro K _ r ⟨A0_0,c0_0,A0_1,c0_1,A0_2,c0_2,rfl,ha0,ha1,ha2,-⟩ hx w hK;exact Qz p0 p1 p2 ha0 ha1 ha2 hx w hK⟩
end Go.Proofs.YtebkcipolijfmaaGreat
