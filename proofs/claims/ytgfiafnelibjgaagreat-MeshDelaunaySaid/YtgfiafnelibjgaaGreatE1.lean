/- Walks of the program, with their plain functions: the references on places. -/
import Derived.Test.YtgfiafnelibjgaaGreatD5
namespace Go.Proofs.YtgfiafnelibjgaaGreat
open Go Go.RowKit
theorem Asw:Nb Tryz.prog 111 [.int .i64 (0),.int .i64 (0),.int .i64 (0)]:=⟨_,Tryz.zeroValue111,rfl⟩
instance:Wn Tryz.prog 111 [.int .i64 (0),.int .i64 (0),.int .i64 (0)]:=⟨Asw⟩
theorem Amx:Fw Tryz.prog 111 0 0:=.mk Tryz.underlying111 rfl rfl (show Tryz.prog.info? 3=some Tryz.t3 from by kernel_rfl) (show Tryz.t3.size=1 from by kernel_rfl) rfl
instance:Jy Tryz.prog 111 0 0:=⟨Amx⟩
theorem Amy:Fw Tryz.prog 111 1 1:=.mk Tryz.underlying111 rfl rfl (show Tryz.prog.info? 3=some Tryz.t3 from by kernel_rfl) (show Tryz.t3.size=1 from by kernel_rfl) rfl
instance:Jy Tryz.prog 111 1 1:=⟨Amy⟩
theorem Amz:Fw Tryz.prog 111 2 2:=.mk Tryz.underlying111 rfl rfl (show Tryz.prog.info? 3=some Tryz.t3 from by kernel_rfl) (show Tryz.t3.size=1 from by kernel_rfl) rfl
instance:Jy Tryz.prog 111 2 2:=⟨Amz⟩
theorem Wb (x0:Int) (x1:Int) (x2:Int):Kn Tryz.prog 111 [(0,.int .i64 x0),(1,.int .i64 x1),(2,.int .i64 x2)] [.int .i64 x0,.int .i64 x1,.int .i64 x2]:=fun w=>by kernel_rfl
instance (x0:Int) (x1:Int) (x2:Int):Oa Tryz.prog 111 [(0,.int .i64 x0),(1,.int .i64 x1),(2,.int .i64 x2)] [.int .i64 x0,.int .i64 x1,.int .i64 x2]:=⟨Wb _ _ _⟩
theorem Asx:Nk Tryz.prog 111 3:=.mk Tryz.underlying111 rfl (show Tryz.prog.info? 111=some Tryz.t111 from by kernel_rfl) (by kernel_rfl)
instance:AggI Tryz.prog 111 3:=⟨Asx⟩
noncomputable def Aj (p0:Ab):Option Ac :=
 some (⟨p0.X,p0.Y⟩:Ac)
noncomputable def Ca (p0:Ac):Option Bool :=
 jn (fun (s2:Bool) =>
 some s2)
 (fun j2=>if (-268435456)≤p0.X then (if p0.X≤268435456 then (if (-268435456)≤p0.Y then (j2 (decide (p0.Y≤268435456)))
 else (j2 false))
 else (j2 false))
 else (j2 false))
noncomputable def Fn (p0:Ab):Option Bool :=
 jn (fun (s2:Bool) =>
 some s2)
 (fun j2=>bnd (Aj (⟨p0.X,p0.Y,(⟨p0.Z.Lo,p0.Z.Hi⟩:Al)⟩:Ab)) fun r2 =>
 bnd (Ca r2) fun r5 =>
 if r5=true then (if (-268435456)≤p0.Z.Lo then (if p0.Z.Lo≤p0.Z.Hi then (j2 (decide (p0.Z.Hi≤268435456)))
 else (j2 false))
 else (j2 false))
 else (j2 false))
noncomputable def Dg (p0:Ac) (p1:Ac):Option Bool :=
 jn (fun (s2:Bool) =>
 some s2)
 (fun j2=>if p0.X < p1.X then (j2 true)
 else (if p0.X=p1.X then (j2 (decide (p0.Y < p1.Y)))
 else (j2 false)))
noncomputable def Hz (p0:Ac) (p1:Ac) (p2:Ac):Option Int :=
 some (w64 ((w64 ((w64 (p1.X-p0.X))*(w64 (p2.Y-p0.Y))))-(w64 ((w64 (p1.Y-p0.Y))*(w64 (p2.X-p0.X))))))
noncomputable def Hh (p0:Int):Option Int :=
 if p0 < 0 then (some (-1))
 else (if 0 < p0 then (some 1)
 else (some 0))
noncomputable def Bf (p0:Ac) (p1:Ac) (p2:Ac):Option Int :=
 bnd (Hz p0 p1 p2) fun r4 =>
 bnd (Hh r4) fun r7 =>
 some r7
structure Cp where
 high:Int
 middle:Int
 low:Int
noncomputable def Ed (p0:Cp) (p1:Int) (p2:Int):Option Cp :=
 some (⟨w64 (p0.high+(w64 ((shr_ .i64 p1 30)*(shr_ .i64 p2 30)))),w64 ((w64 (p0.middle+(w64 ((shr_ .i64 p1 30)*(Mr .i64 p2 1073741823)))))+(w64 ((Mr .i64 p1 1073741823)*(shr_ .i64 p2 30)))),w64 (p0.low+(w64 ((Mr .i64 p1 1073741823)*(Mr .i64 p2 1073741823))))⟩:Cp)
noncomputable def Hb (p0:Cp):Option Int :=
 if (w64 (p0.high+(shr_ .i64 (w64 (p0.middle+(shr_ .i64 p0.low 30))) 30)))=0 then (bnd (Hh (w64 ((Mr .i64 (w64 (p0.middle+(shr_ .i64 p0.low 30))) 1073741823)+(Mr .i64 p0.low 1073741823)))) fun r8 =>
 some r8)
 else (bnd (Hh (w64 (p0.high+(shr_ .i64 (w64 (p0.middle+(shr_ .i64 p0.low 30))) 30)))) fun r4 =>
 some r4)
noncomputable def Ei (p0:Ac) (p1:Ac) (p2:Ac) (p3:Ac):Option Int :=
 bnd (Ed (⟨0,0,0⟩:Cp) (w64 ((w64 ((w64 (p0.X-p3.X))*(w64 (p0.X-p3.X))))+(w64 ((w64 (p0.Y-p3.Y))*(w64 (p0.Y-p3.Y)))))) (w64 ((w64 ((w64 (p1.X-p3.X))*(w64 (p2.Y-p3.Y))))-(w64 ((w64 (p1.Y-p3.Y))*(w64 (p2.X-p3.X))))))) fun r6 =>
 bnd (Ed r6 (w64 ((w64 ((w64 (p1.X-p3.X))*(w64 (p1.X-p3.X))))+(w64 ((w64 (p1.Y-p3.Y))*(w64 (p1.Y-p3.Y)))))) (w64 ((w64 ((w64 (p2.X-p3.X))*(w64 (p0.Y-p3.Y))))-(w64 ((w64 (p2.Y-p3.Y))*(w64 (p0.X-p3.X))))))) fun r9 =>
 bnd (Ed r9 (w64 ((w64 ((w64 (p2.X-p3.X))*(w64 (p2.X-p3.X))))+(w64 ((w64 (p2.Y-p3.Y))*(w64 (p2.Y-p3.Y)))))) (w64 ((w64 ((w64 (p0.X-p3.X))*(w64 (p1.Y-p3.Y))))-(w64 ((w64 (p0.Y-p3.Y))*(w64 (p1.X-p3.X))))))) fun r0 =>
 bnd (Hb r0) fun r1 =>
 some r1
noncomputable def Je (s8:Int × Int × Int × Int) (p2:Ac) (p3:Ac):(Int × Int × Int)→Option (Sum (Int × Int × Int) (Int × Int)):=fun s0 =>
 if s0.2.2 < (((3:Nat):Int)) then (jn (fun (s1:Int × Int) =>
 some (.inl (s1.1,s1.2,w64 (s0.2.2+1))))
 (fun j0=>bnd (idx ([(⟨s8.2.2.1,s8.2.2.2⟩:Ac),p2,p3]) s0.2.2) fun x0 =>
 bnd (Dg x0 (⟨s0.1,s0.2.1⟩:Ac)) fun r0 =>
 if r0=true then (j0 (x0.X,x0.Y))
 else (j0 (s0.1,s0.2.1))))
 else (some (.inr (s0.1,s0.2.1)))
noncomputable def Ia (p0:Ac) (p1:Ac) (p2:Ac) (p3:Ac):Option (Bool × Int) :=
 jn (fun (s3:Bool) =>
 if s3=true then (some (false,11))
 else (bnd (Bf p0 p1 p2) fun r0 =>
 bnd (Bf p0 p1 p3) fun r1 =>
 if (w64 (r0*r1))=(-1) then (jn (fun (s8:Int × Int × Int × Int) =>
 bnd (Ei (⟨s8.1,s8.2.1⟩:Ac) (⟨s8.2.2.1,s8.2.2.2⟩:Ac) p2 p3) fun r2 =>
 if r2=1 then (some (false,0))
 else (if r2=(-1) then (some (true,0))
 else (jn (fun (s0:Int × Int) =>
 jn (fun (s1:Bool) =>
 some (s1,0))
 (fun j0=>if ((((s0.1) == (p2.X)) && (((s0.2) == (p2.Y)) && true)))=true then (j0 true)
 else (j0 (((s0.1) == (p3.X)) && (((s0.2) == (p3.Y)) && true)))))
 (fun j1=>bnd (lfix (Je s8 p2 p3) (s8.1,s8.2.1,0)) fun t0 =>
 j1 t0))))
 (fun j8=>bnd (Bf p0 p1 p2) fun r3 =>
 if r3 < 0 then (j8 (p1.X,p1.Y,p0.X,p0.Y))
 else (j8 (p0.X,p0.Y,p1.X,p1.Y))))
 else (some (false,2))))
 (fun j3=>bnd (Ca p0) fun r5 =>
 if r5=true then (bnd (Ca p1) fun r4 =>
 if r4=true then (bnd (Ca p2) fun r6 =>
 if r6=true then (bnd (Ca p3) fun r7 =>
 j3 (!(r7)))
 else (j3 true))
 else (j3 true))
 else (j3 true))
set_option maxRecDepth 100000 in
instance Ws (p0:Ab):Con (Aj p0) Tryz.prog 14 (fun _ vs=>vs=[.agg #[.int .i64 (p0.X),.int .i64 (p0.Y),.int .i64 (p0.Z.Lo),.int .i64 (p0.Z.Hi)]]) (fun _ r=>fun v Ln=>v = .agg #[.int .i64 (r.X),.int .i64 (r.Y)]∧Ln=[]∧True):=⟨by
 rintro _ _ r rfl hx w hK;unfold Aj at hx;refine CtS Tryz.ntmps14 Tryz.results14 ?_;exact au⟩
theorem Ee (p0:Ab)  {r:Ac} (hx:Aj p0=some r) (w:World):CtL Tryz.prog 14 [.agg #[.int .i64 (p0.X),.int .i64 (p0.Y),.int .i64 (p0.Z.Lo),.int .i64 (p0.Z.Hi)]] w fun v Ln=>v = .agg #[.int .i64 (r.X),.int .i64 (r.Y)]∧Ln=[]∧True:=(Ws p0).h [] _ _ rfl hx w (fun _ h=>absurd h List.not_mem_nil)
set_option maxRecDepth 100000 in
instance Rr (p0:Ac):Con (Ca p0) Tryz.prog 100 (fun _ vs=>vs=[.agg #[.int .i64 (p0.X),.int .i64 (p0.Y)]]) (fun _ r=>fun v Ln=>v = .bool (r)∧Ln=[]∧True):=⟨by
 rintro _ _ r rfl hx w hK;unfold Ca at hx;refine CtS Tryz.ntmps100 Tryz.results100 ?_;exact au⟩
theorem Gy (p0:Ac)  {r:Bool} (hx:Ca p0=some r) (w:World):CtL Tryz.prog 100 [.agg #[.int .i64 (p0.X),.int .i64 (p0.Y)]] w fun v Ln=>v = .bool (r)∧Ln=[]∧True:=(Rr p0).h [] _ _ rfl hx w (fun _ h=>absurd h List.not_mem_nil)
set_option maxHeartbeats 1000000 in
set_option maxRecDepth 100000 in
instance lidarref06_validVertex_c (p0:Ab):Con (Fn p0) Tryz.prog 107 (fun _ vs=>vs=[.agg #[.int .i64 (p0.X),.int .i64 (p0.Y),.int .i64 (p0.Z.Lo),.int .i64 (p0.Z.Hi)]]) (fun _ r=>fun v Ln=>v = .bool (r)∧Ln=[]∧True):=⟨by
 rintro _ _ r rfl hx w hK;unfold Fn at hx;refine CtS Tryz.ntmps107 Tryz.results107 ?_;exact au⟩
set_option maxRecDepth 100000 in
instance Wc (p0:Ac) (p1:Ac):Con (Dg p0 p1) Tryz.prog 128 (fun _ vs=>vs=[.agg #[.int .i64 (p0.X),.int .i64 (p0.Y)],.agg #[.int .i64 (p1.X),.int .i64 (p1.Y)]]) (fun _ r=>fun v Ln=>v = .bool (r)∧Ln=[]∧True):=⟨by
 rintro _ _ r rfl hx w hK;unfold Dg at hx;refine CtS Tryz.ntmps128 Tryz.results128 ?_;exact au⟩
theorem Oy (p0:Ac) (p1:Ac)  {r:Bool} (hx:Dg p0 p1=some r) (w:World):CtL Tryz.prog 128 [.agg #[.int .i64 (p0.X),.int .i64 (p0.Y)],.agg #[.int .i64 (p1.X),.int .i64 (p1.Y)]] w fun v Ln=>v = .bool (r)∧Ln=[]∧True:=(Wc p0 p1).h [] _ _ rfl hx w (fun _ h=>absurd h List.not_mem_nil)
set_option maxRecDepth 100000 in
instance lidarref06_Twice_c (p0:Ac) (p1:Ac) (p2:Ac):Con (Hz p0 p1 p2) Tryz.prog 15 (fun _ vs=>vs=[.agg #[.int .i64 (p0.X),.int .i64 (p0.Y)],.agg #[.int .i64 (p1.X),.int .i64 (p1.Y)],.agg #[.int .i64 (p2.X),.int .i64 (p2.Y)]]) (fun _ r=>fun v Ln=>v = .int .i64 (r)∧Ln=[]∧True):=⟨by
 rintro _ _ r rfl hx w hK;unfold Hz at hx;refine CtS Tryz.ntmps15 Tryz.results15 ?_;exact au⟩
set_option maxRecDepth 100000 in
instance lidarref06_sign_c (p0:Int):Con (Hh p0) Tryz.prog 127 (fun _ vs=>vs=[.int .i64 (p0)]) (fun _ r=>fun v Ln=>v = .int .i64 (r)∧Ln=[]∧True):=⟨by
 rintro _ _ r rfl hx w hK;unfold Hh at hx;refine CtS Tryz.ntmps127 Tryz.results127 ?_;exact au⟩
set_option maxRecDepth 100000 in
instance Xw (p0:Ac) (p1:Ac) (p2:Ac):Con (Bf p0 p1 p2) Tryz.prog 62 (fun _ vs=>vs=[.agg #[.int .i64 (p0.X),.int .i64 (p0.Y)],.agg #[.int .i64 (p1.X),.int .i64 (p1.Y)],.agg #[.int .i64 (p2.X),.int .i64 (p2.Y)]]) (fun _ r=>fun v Ln=>v = .int .i64 (r)∧Ln=[]∧True):=⟨by
 rintro _ _ r rfl hx w hK;unfold Bf at hx;refine CtS Tryz.ntmps62 Tryz.results62 ?_;exact au⟩
theorem Mv (p0:Ac) (p1:Ac) (p2:Ac)  {r:Int} (hx:Bf p0 p1 p2=some r) (w:World):CtL Tryz.prog 62 [.agg #[.int .i64 (p0.X),.int .i64 (p0.Y)],.agg #[.int .i64 (p1.X),.int .i64 (p1.Y)],.agg #[.int .i64 (p2.X),.int .i64 (p2.Y)]] w fun v Ln=>v = .int .i64 (r)∧Ln=[]∧True:=(Xw p0 p1 p2).h [] _ _ rfl hx w (fun _ h=>absurd h List.not_mem_nil)
set_option maxRecDepth 100000 in
instance lidarref06_wide_add_c (p0:Cp) (p1:Int) (p2:Int):Con (Ed p0 p1 p2) Tryz.prog 63 (fun _ vs=>vs=[.agg #[.int .i64 (p0.high),.int .i64 (p0.middle),.int .i64 (p0.low)],.int .i64 (p1),.int .i64 (p2)]) (fun _ r=>fun v Ln=>v = .agg #[.int .i64 (r.high),.int .i64 (r.middle),.int .i64 (r.low)]∧Ln=[]∧True):=⟨by
 rintro _ _ r rfl hx w hK;unfold Ed at hx;refine CtS Tryz.ntmps63 Tryz.results63 ?_;exact au⟩
set_option maxHeartbeats 1000000 in
set_option maxRecDepth 100000 in
instance lidarref06_wide_sign_c (p0:Cp):Con (Hb p0) Tryz.prog 64 (fun _ vs=>vs=[.agg #[.int .i64 (p0.high),.int .i64 (p0.middle),.int .i64 (p0.low)]]) (fun _ r=>fun v Ln=>v = .int .i64 (r)∧Ln=[]∧True):=⟨by
 rintro _ _ r rfl hx w hK;unfold Hb at hx;refine CtS Tryz.ntmps64 Tryz.results64 ?_;exact au⟩
set_option maxHeartbeats 1000000 in
set_option maxRecDepth 100000 in
instance Wd (p0:Ac) (p1:Ac) (p2:Ac) (p3:Ac):Con (Ei p0 p1 p2 p3) Tryz.prog 16 (fun _ vs=>vs=[.agg #[.int .i64 (p0.X),.int .i64 (p0.Y)],.agg #[.int .i64 (p1.X),.int .i64 (p1.Y)],.agg #[.int .i64 (p2.X),.int .i64 (p2.Y)],.agg #[.int .i64 (p3.X),.int .i64 (p3.Y)]]) (fun _ r=>fun v Ln=>v = .int .i64 (r)∧Ln=[]∧True):=⟨by
 rintro _ _ r rfl hx w hK;unfold Ei at hx;have:=dl 1 [0,1,0,1,0,0,1,0,1,0,0,1,0,1,0,0,1,0,1,0,0,1,0,1,0,0,1,0,1,0,2,2,2,2,2,2] [0,1,2,3,4,5,6,7,8,9,10,11,12,13,14,15,16,17,18,19,20,21,22,23,24,25,26,27,28,29,30,31,32,33,34,35];refine CtS Tryz.ntmps16 Tryz.results16 ?_;exact au⟩
theorem Ty (p0:Ac) (p1:Ac) (p2:Ac) (p3:Ac)  {r:Int} (hx:Ei p0 p1 p2 p3=some r) (w:World):CtL Tryz.prog 16 [.agg #[.int .i64 (p0.X),.int .i64 (p0.Y)],.agg #[.int .i64 (p1.X),.int .i64 (p1.Y)],.agg #[.int .i64 (p2.X),.int .i64 (p2.Y)],.agg #[.int .i64 (p3.X),.int .i64 (p3.Y)]] w fun v Ln=>v = .int .i64 (r)∧Ln=[]∧True:=(Wd p0 p1 p2 p3).h [] _ _ rfl hx w (fun _ h=>absurd h List.not_mem_nil)
set_option maxRecDepth 100000 in
theorem We (p0:Ac) (p1:Ac) (p2:Ac) (p3:Ac)  {r:Bool × Int} (hx:Ia p0 p1 p2 p3=some r) (w:World):CtL Tryz.prog 65 [.agg #[.int .i64 (p0.X),.int .i64 (p0.Y)],.agg #[.int .i64 (p1.X),.int .i64 (p1.Y)],.agg #[.int .i64 (p2.X),.int .i64 (p2.Y)],.agg #[.int .i64 (p3.X),.int .i64 (p3.Y)]] w fun v Ln=>v = .tuple #[.bool (r.1),.int .i64 (r.2)]∧Ln=[]∧True:=by
 refine CtL.mk 80 Tryz.func65 rfl Tryz.ntmps65 (by kernel_rfl) rfl ?_;show T 80 _ [(0,.agg #[.int .i64 (p0.X),.int .i64 (p0.Y)]),(1,.agg #[.int .i64 (p1.X),.int .i64 (p1.Y)]),(2,.agg #[.int .i64 (p2.X),.int .i64 (p2.Y)]),(3,.agg #[.int .i64 (p3.X),.int .i64 (p3.Y)])] _;unfold Ia at hx;refine Y2 ?_;refine T_x (Ot rfl rfl rfl (fun g1=>?_));refine T_x (Ot rfl rfl rfl (fun g2=>?_));refine T_x (Ot rfl rfl rfl (fun g3=>?_));refine T_x (Ot rfl rfl rfl (fun g4=>?_));refine Y5 ?_;refine Tj (γ:=Unit) hx (fun s3 y3=>[(4,.pointer (some ⟨g1,0,none⟩)),(5,.pointer (some ⟨g2,0,none⟩)),(6,.pointer (some ⟨g3,0,none⟩)),(7,.pointer (some ⟨g4,0,none⟩)),(30,.bool (s3))]) (fun s3 y3=>[.m g4 38 [.int .i64 (p3.X),.int .i64 (p3.Y)],.m g3 38 [.int .i64 (p2.X),.int .i64 (p2.Y)],.m g2 38 [.int .i64 (p1.X),.int .i64 (p1.Y)],.m g1 38 [.int .i64 (p0.X),.int .i64 (p0.Y)]]++[.old w]) (fun s3 y3=>True) (fun s3 y3 hx0 hG0=>?_) (fun j3 hx=>?_)
 ·refine Do (s:=30) rfl (fun h0=>?_) (fun h0=>?_)
  ·have hx1:=Df h0 hx0;refine Y9 ?_;obtain rfl:=Option.some.inj hx1;exact Di (rs:=[.tmp 8,.tmp 9]) Tryz.results65 (.tmp rfl (.tmp rfl (.nil))) (Ln:=[]) ⟨rfl,rfl,trivial⟩ (Ec) (by exact .drop 0 rfl (.drop 0 rfl (.drop 0 rfl (.drop 0 rfl (.refl)))))
  ·have hx2:=Dw h0 hx0;refine Y5 ?_;refine T_dr [1,1,1,2,1,1,1,2,0,0] (.q 0 (.q 1 (.q 2 (.q 4 (.q 5 (.q 6 (.e 3 (.e 7 (.q 8 (.q 9 (.done))) (.stop)) (.stop)))))))) mixed (by kernel_rfl) (by kernel_rfl) ?_;refine P_q rfl rfl (Ba rfl (i:=3) rfl rfl Dq) rfl ?_;refine P_q rfl rfl (Ba rfl (i:=2) rfl rfl Dq) rfl ?_;refine P_q rfl rfl (Ba rfl (i:=1) rfl rfl Dq) rfl ?_;refine P_q rfl rfl (Ba rfl (i:=3) rfl rfl Dq) rfl ?_;refine P_q rfl rfl (Ba rfl (i:=2) rfl rfl Dq) rfl ?_;refine P_q rfl rfl (Ba rfl (i:=0) rfl rfl Dq) rfl ?_;obtain ⟨r0,h1,hx3⟩:=Ag hx2;refine Pc (fun w1 hw1=>Mv p0 p1 p2  h1 w1) ?_;obtain ⟨r1,h2,hx4⟩:=Ag hx3;refine Pc (fun w1 hw1=>Mv p0 p1 p3  h2 w1) ?_;refine Y4 ?_;refine Pf (s:=40) rfl (fun h3=>?_) (fun h3=>?_)
   ·have hx5:=Po h3 hx4;refine Y9 ?_;obtain rfl:=Option.some.inj hx5;exact Di (rs:=[.tmp 8,.tmp 9]) Tryz.results65 (.tmp rfl (.tmp rfl (.nil))) (Ln:=[]) ⟨rfl,rfl,trivial⟩ (Ec) (by exact .drop 0 rfl (.drop 0 rfl (.drop 0 rfl (.drop 0 rfl (.refl)))))
   ·have hx6:=Df h3 hx4;refine Y3 ?_;refine Tj (γ:=Unit) hx6 (fun s8 y8=>[(4,.pointer (some ⟨g1,0,none⟩)),(5,.pointer (some ⟨g2,0,none⟩)),(6,.pointer (some ⟨g3,0,none⟩)),(7,.pointer (some ⟨g4,0,none⟩))]) (fun s8 y8=>[.m g4 38 [.int .i64 (p3.X),.int .i64 (p3.Y)],.m g3 38 [.int .i64 (p2.X),.int .i64 (p2.Y)],.m g2 38 [.int .i64 (s8.2.2.1),.int .i64 (s8.2.2.2)],.m g1 38 [.int .i64 (s8.1),.int .i64 (s8.2.1)]]++[.old w]) (fun s8 y8=>True) (fun s8 y8 hx8 hG1=>?_) (fun j8 hx6=>?_)
    ·refine Y3 ?_;refine Ao (Ba rfl (i:=3) rfl rfl Dq) rfl ?_;refine Ao (Ba rfl (i:=2) rfl rfl Dq) rfl ?_;refine Ao (Ba rfl (i:=1) rfl rfl Dq) rfl ?_;refine Ao (Ba rfl (i:=0) rfl rfl Dq) rfl ?_;obtain ⟨r2,h4,hx50⟩:=Ag hx8;refine Tc (fun w1 hw1=>Ty (⟨s8.1,s8.2.1⟩:Ac) (⟨s8.2.2.1,s8.2.2.2⟩:Ac) p2 p3  h4 w1) ?_;refine Y9 ?_;refine Ti hx50 (s:=53) rfl (fun h5 hx52=>?_) (fun h5 hx53=>?_)
     ·refine Y10 ?_;obtain rfl:=Option.some.inj hx52;exact Di (rs:=[.tmp 8,.tmp 9]) Tryz.results65 (.tmp rfl (.tmp rfl (.nil))) (Ln:=[]) ⟨rfl,rfl,trivial⟩ (Ec) (by exact .drop 0 rfl (.drop 0 rfl (.drop 0 rfl (.drop 0 rfl (.refl)))))
     ·refine Y7 ?_;refine Ti hx53 (s:=55) rfl (fun h7 hx55=>?_) (fun h7 hx56=>?_)
      ·refine Y10 ?_;obtain rfl:=Option.some.inj hx55;exact Di (rs:=[.tmp 8,.tmp 9]) Tryz.results65 (.tmp rfl (.tmp rfl (.nil))) (Ln:=[]) ⟨rfl,rfl,trivial⟩ (Ec) (by exact .drop 0 rfl (.drop 0 rfl (.drop 0 rfl (.drop 0 rfl (.refl)))))
      ·refine Y6 ?_;refine Ao (Ba rfl (i:=3) rfl rfl Dq) rfl ?_;refine T_x (Eb Ad2 rfl (fun g0=>?_));refine T_h (Cj rfl rfl rfl (.here) (.put (.put (.done))) rfl (List.cons_ne_nil _ _) Dq.2 ?_);refine Y2 ?_;refine Tj (γ:=Unit) hx56 (fun s0 y0=>[(6,.pointer (some ⟨g3,0,none⟩)),(7,.pointer (some ⟨g4,0,none⟩)),(10,.pointer (some ⟨g0,0,none⟩))]) (fun s0 y0=>[.m g0 38 [.int .i64 (s0.1),.int .i64 (s0.2)],.m g4 38 [.int .i64 (p3.X),.int .i64 (p3.Y)],.m g3 38 [.int .i64 (p2.X),.int .i64 (p2.Y)]]++[.old w]) (fun s0 y0=>True) (fun s0 y0 hx11 hG2=>?_) (fun j0 hx56=>?_)
       ·refine Tj (γ:=Unit) hx11 (fun s1 y1=>[(8,.bool (s1)),(9,.int .i64 (0))]) (fun s1 y1=>[]++[.old w]) (fun s1 y1=>True) (fun s1 y1 hx12 hG3=>?_) (fun j1 hx11=>?_)
        ·refine Y ?_;obtain rfl:=Option.some.inj hx12;exact Di (rs:=[.tmp 8,.tmp 9]) Tryz.results65 (.tmp rfl (.tmp rfl (.nil))) (Ln:=[]) ⟨rfl,rfl,trivial⟩ (Ec) (by exact .refl)
        ·refine Y ?_;refine Ao (Ba rfl (i:=0) rfl rfl Dq) rfl ?_;refine Ao (Ba rfl (i:=2) rfl rfl Dq) rfl ?_;refine Ao (Abk rfl rfl (by kernel_rfl) (Am5 _ _ _ _)) rfl ?_;refine Y ?_;refine Do (s:=75) rfl (fun h9=>?_) (fun h9=>?_)
         ·have hx14:=Df h9 hx11;refine Y7 ?_;exact Mt true () hx14 trivial (by exact .drop 0 rfl (.drop 0 rfl (.drop 0 rfl (.refl))))
         ·have hx17:=Dw h9 hx11;refine Ex rfl rfl rfl (Ba rfl (i:=0) rfl rfl Dq) rfl ?_;refine Ex rfl rfl rfl (Ba rfl (i:=1) rfl rfl Dq) rfl ?_;refine Ex rfl rfl rfl (Abk rfl rfl (by kernel_rfl) (Am5 _ _ _ _)) rfl ?_;refine Y4 ?_;exact Mt (((s0.1) == (p3.X)) && (((s0.2) == (p3.Y)) && true)) () hx17 trivial (by exact .drop 0 rfl (.drop 0 rfl (.drop 0 rfl (.refl))))
       ·refine Y2 ?_;refine Ao (Ba rfl (i:=3) rfl rfl Dq) rfl ?_;refine Ao (Ba rfl (i:=2) rfl rfl Dq) rfl ?_;refine Ao (Ba rfl (i:=1) rfl rfl Dq) rfl ?_;refine T_x (Bu rfl (Ix _ _ _ _ _ _) rfl (fun g5=>?_));refine Ao (Dj rfl 38 Tryz.underlying186) rfl ?_;refine Y4 ?_;refine T_mr (enc:=Rs) (sz:=2) ([(⟨s8.2.2.1,s8.2.2.2⟩:Ac),p2,p3]) (.here) rfl rfl (fun _=>rfl) (by show 3≤maxLen;decide) ?_;obtain ⟨t0,hl0,ho0⟩:=Ag hx56;refine Lp (σ:=Int × Int × Int) (γ:=Unit) hl0 (fun s2 y2=>[(6,.pointer (some ⟨g3,0,none⟩)),(7,.pointer (some ⟨g4,0,none⟩)),(10,.pointer (some ⟨g0,0,none⟩)),(61,.slice (some ⟨g5,0,none⟩) (3) (3)),(62,.int .i64 (((3:Nat):Int))),(63,.int .i64 (s2.2.2))]) (fun s2 y2=>[.r (some ⟨g5,0,none⟩) (3) (3) 38 2 (([(⟨s8.2.2.1,s8.2.2.2⟩:Ac),p2,p3]).flatMap Rs),.m g0 38 [.int .i64 (s2.1),.int .i64 (s2.2.1)],.m g4 38 [.int .i64 (p3.X),.int .i64 (p3.Y)],.m g3 38 [.int .i64 (p2.X),.int .i64 (p2.Y)]]++[.old w]) (fun s2 y2=>True) () trivial (by exact .pick 0 rfl (.pick 0 rfl (.pick 0 rfl (.pick 0 rfl (.drop 0 rfl (.drop 0 rfl (.refl))))))) ?_;intro s2 y2 hG4 x0 hx83 ht0;unfold Je at hx83;refine Y6 ?_;refine Ti hx83 (s:=64) rfl (fun h84 hx85=>?_) (fun h84 hx86=>?_)
        ·refine Y3 ?_;refine Tj (γ:=Unit) hx85 (fun s4 y4=>[(6,.pointer (some ⟨g3,0,none⟩)),(7,.pointer (some ⟨g4,0,none⟩)),(10,.pointer (some ⟨g0,0,none⟩)),(61,.slice (some ⟨g5,0,none⟩) (3) (3)),(62,.int .i64 (((3:Nat):Int))),(63,.int .i64 (s2.2.2))]) (fun s4 y4=>[.r (some ⟨g5,0,none⟩) (3) (3) 38 2 (([(⟨s8.2.2.1,s8.2.2.2⟩:Ac),p2,p3]).flatMap Rs),.m g0 38 [.int .i64 (s4.1),.int .i64 (s4.2)],.m g4 38 [.int .i64 (p3.X),.int .i64 (p3.Y)],.m g3 38 [.int .i64 (p2.X),.int .i64 (p2.Y)]]++[.old w]) (fun s4 y4=>True) (fun s4 y4 hx18 hG5=>?_) (fun j2 hx85=>?_)
         ·refine Y4 ?_;exact Rp (s4.1,s4.2,w64 (s2.2.2+1)) () hx18 trivial (by exact .pick 0 rfl (.pick 0 rfl (.pick 0 rfl (.pick 0 rfl (.refl)))))
         ·refine Y3 ?_;obtain ⟨x1,h88,hx89⟩:=Ag hx85;refine Xm (k:=0) rfl (by decide) (fun _=>rfl) h88 (fun b0 j4 hA0 hj0 hl1 hm0 hp0=>?_);refine Ao (Bc rfl rfl hA0 (j:=j4) hj0 hl1 Am4) rfl ?_;refine Ao (Fe rfl hp0 (sb 0) rfl Dq) rfl ?_;refine T_x (Eb Ad2 rfl (fun g6=>?_));refine T_h (Cj rfl rfl rfl (.here) (.put (.put (.done))) rfl (List.cons_ne_nil _ _) Dq.2 ?_);refine Y4 ?_;refine Ao (Ba rfl (i:=0) rfl rfl Dq) rfl ?_;refine Ao (Ba rfl (i:=2) rfl rfl Dq) rfl ?_;obtain ⟨r3,h10,hx20⟩:=Ag hx89;refine Tc (fun w1 hw1=>Oy x1 (⟨s2.1,s2.2.1⟩:Ac)  h10 w1) ?_;refine Y2 ?_;refine Do (s:=69) rfl (fun h11=>?_) (fun h11=>?_)
          ·have hx23:=Df h11 hx20;refine Y2 ?_;refine Ao (Ba rfl (i:=0) rfl rfl Dq) rfl ?_;refine T_h (Cj rfl rfl rfl (.there (.there (.here))) (.put (.put (.done))) rfl (List.cons_ne_nil _ _) Dq.2 ?_);refine Y2 ?_;exact Mt (x1.X,x1.Y) () hx23 trivial (by exact .pick 1 rfl (.pick 1 rfl (.pick 1 rfl (.pick 1 rfl (.drop 0 rfl (.refl))))))
          ·have hx24:=Dw h11 hx20;refine Y3 ?_;exact Mt (s2.1,s2.2.1) () hx24 trivial (by exact .pick 1 rfl (.pick 1 rfl (.pick 1 rfl (.pick 1 rfl (.drop 0 rfl (.refl))))))
        ·refine Y3 ?_;obtain rfl:=Ck ht0 hx86;refine Y2 ?_;exact Mt (s2.1,s2.2.1) () ho0 trivial (by exact .pick 1 rfl (.pick 1 rfl (.pick 1 rfl (.drop 0 rfl (.refl)))))
    ·refine Y2 ?_;refine Ao (Ba rfl (i:=3) rfl rfl Dq) rfl ?_;refine Ao (Ba rfl (i:=2) rfl rfl Dq) rfl ?_;refine Ao (Ba rfl (i:=1) rfl rfl Dq) rfl ?_;obtain ⟨r4,h41,hx42⟩:=Ag hx6;refine Tc (fun w1 hw1=>Mv p0 p1 p2  h41 w1) ?_;refine Y3 ?_;refine Ti hx42 (s:=45) rfl (fun h43 hx44=>?_) (fun h43 hx45=>?_)
     ·refine Y2 ?_;refine Ao (Ba rfl (i:=2) rfl rfl Dq) rfl ?_;refine Ao (Ba rfl (i:=3) rfl rfl Dq) rfl ?_;refine T_h (Cj rfl rfl rfl (.there (.there (.there (.here)))) (.put (.put (.done))) rfl (List.cons_ne_nil _ _) Dq.2 ?_);refine T_h (Cj rfl rfl rfl (.there (.there (.here))) (.put (.put (.done))) rfl (List.cons_ne_nil _ _) Dq.2 ?_);refine Y ?_;exact Mt (p1.X,p1.Y,p0.X,p0.Y) () hx44 trivial (by exact .pick 0 rfl (.pick 0 rfl (.pick 0 rfl (.pick 0 rfl (.refl)))))
     ·refine Y2 ?_;exact Mt (p0.X,p0.Y,p1.X,p1.Y) () hx45 trivial (by exact .pick 0 rfl (.pick 0 rfl (.pick 0 rfl (.pick 0 rfl (.refl)))))
 ·refine Y ?_;refine Ao (Ba rfl (i:=3) rfl rfl Dq) rfl ?_;obtain ⟨r5,h6,hx7⟩:=Ag hx;refine Tc (fun w1 hw1=>Gy p0  h6 w1) ?_;refine Y2 ?_;refine Lq (s:=16) rfl (fun h8=>?_) (fun h8=>?_)
  ·have hx9:=Dw h8 hx7;(iterate 15 refine Y ?_);exact Mt true () hx9 trivial (by exact .pick 0 rfl (.pick 0 rfl (.pick 0 rfl (.pick 0 rfl (.refl)))))
  ·have hx10:=Df h8 hx7;refine Ex rfl rfl rfl (Ba rfl (i:=2) rfl rfl Dq) rfl ?_;obtain ⟨r6,h12,hx13⟩:=Ag hx10;refine T_xG rfl rfl rfl (Bt rfl (fun w1 hw1=>Gy p1  h12 w1) rfl ?_);rintro _ _ hlo ⟨rfl,rfl,-⟩;refine Eu ?_;refine Y3 ?_;refine Lq (s:=21) rfl (fun h14=>?_) (fun h14=>?_)
   ·have hx15:=Dw h14 hx13;refine Y10 ?_;exact Mt true () hx15 trivial (by exact .pick 0 rfl (.pick 0 rfl (.pick 0 rfl (.pick 0 rfl (.refl)))))
   ·have hx16:=Df h14 hx13;refine Ex rfl rfl rfl (Ba rfl (i:=1) rfl rfl Dq) rfl ?_;obtain ⟨r7,h18,hx19⟩:=Ag hx16;refine T_xG rfl rfl rfl (Bt rfl (fun w1 hw1=>Gy p2  h18 w1) rfl ?_);rintro _ _ hlo ⟨rfl,rfl,-⟩;refine Eu ?_;refine Y3 ?_;refine Lq (s:=26) rfl (fun h20=>?_) (fun h20=>?_)
    ·have hx21:=Dw h20 hx19;refine Y5 ?_;exact Mt true () hx21 trivial (by exact .pick 0 rfl (.pick 0 rfl (.pick 0 rfl (.pick 0 rfl (.refl)))))
    ·have hx22:=Df h20 hx19;refine Ex rfl rfl rfl (Ba rfl (i:=0) rfl rfl Dq) rfl ?_;obtain ⟨r8,h24,hx25⟩:=Ag hx22;refine T_xG rfl rfl rfl (Bt rfl (fun w1 hw1=>Gy p3  h24 w1) rfl ?_);rintro _ _ hlo ⟨rfl,rfl,-⟩;refine Eu ?_;refine Y3 ?_;exact Mt (!(r8)) () hx25 trivial (by exact .pick 0 rfl (.pick 0 rfl (.pick 0 rfl (.pick 0 rfl (.refl)))))
set_option maxHeartbeats 1000000 in
set_option maxRecDepth 100000 in
instance lidarref06_Legal_c (p0:Ac) (p1:Ac) (p2:Ac) (p3:Ac):Con (Ia p0 p1 p2 p3) Tryz.prog 65 (fun _ vs=>vs=[.agg #[.int .i64 (p0.X),.int .i64 (p0.Y)],.agg #[.int .i64 (p1.X),.int .i64 (p1.Y)],.agg #[.int .i64 (p2.X),.int .i64 (p2.Y)],.agg #[.int .i64 (p3.X),.int .i64 (p3.Y)]]) (fun _ r=>fun v Ln=>v = .tuple #[.bool (r.1),.int .i64 (r.2)]∧Ln=[]∧True):=⟨by
 rintro _ _ r rfl hx w hK;exact We p0 p1 p2 p3 hx w⟩
end Go.Proofs.YtgfiafnelibjgaaGreat
