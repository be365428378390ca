/- Walks of the program, with their plain functions: the builder. -/
import Derived.Test.YtbkobeeileemjaaGreatD2
import Derived.Test.YtbkobeeileemjaaGreatSl
namespace Go.Proofs.YtbkobeeileemjaaGreat
open Go Go.RowKit
set_option maxRecDepth 100000
theorem Aqr:Ca Tryz.prog 93 0 0:=.mk Tryz.underlying93 rfl rfl (show Tryz.prog.info? 22=some Tryz.t22 from by kernel_rfl) (show Tryz.t22.size=1 from by kernel_rfl) rfl
instance:Cs Tryz.prog 93 0 0:=⟨Aqr⟩
theorem Jy:Ca Tryz.prog 93 1 1:=.mk Tryz.underlying93 rfl rfl (show Tryz.prog.info? 90=some Tryz.t90 from by kernel_rfl) (show Tryz.t90.size=1 from by kernel_rfl) rfl
instance:Cs Tryz.prog 93 1 1:=⟨Jy⟩
theorem Sv:Lg Tryz.prog 90:=.mk Tryz.underlying90 rfl (show Tryz.prog.info? 90=some Tryz.t90 from by kernel_rfl) (by kernel_rfl)
instance:OneI Tryz.prog 90:=⟨Sv⟩
structure Ai where
 v:List Ae
 apex:List (Ac × Int)
 fixed:List (Ac × Bool)
noncomputable def Bz (p0:Ai) (p1:Int):Option Ab :=
 bnd (idx p0.v p1) fun x2 =>
 bnd (Kn x2) fun r0 =>
 some r0
instance:UndI Tryz.prog 90 (.map 97 3):=⟨Tryz.underlying90⟩
noncomputable def Es (p0:Ai) (p1:Int) (p2:Int) (p3:Int):Option Ai :=
 gd ((-9223372036854775808≤p1∧p1≤9223372036854775807)∧(-9223372036854775808≤p2∧p2≤9223372036854775807)) <|
 gd ((p0.apex).length < 9223372036854775807) <|
 gd ((-9223372036854775808≤p2∧p2≤9223372036854775807)∧(-9223372036854775808≤p3∧p3≤9223372036854775807)) <|
 gd ((mput p0.apex ((⟨p1,p2⟩:Ac)) p3).length < 9223372036854775807) <|
 gd ((-9223372036854775808≤p3∧p3≤9223372036854775807)∧(-9223372036854775808≤p1∧p1≤9223372036854775807)) <|
 gd ((mput (mput p0.apex ((⟨p1,p2⟩:Ac)) p3) ((⟨p2,p3⟩:Ac)) p1).length < 9223372036854775807) <|
 some (⟨p0.v,mput (mput (mput p0.apex ((⟨p1,p2⟩:Ac)) p3) ((⟨p2,p3⟩:Ac)) p1) ((⟨p3,p1⟩:Ac)) p2,p0.fixed⟩:Ai)
noncomputable def Ig (p0:Ai) (p1:Int) (p2:Int) (p3:Int):Option Ai :=
 gd ((-9223372036854775808≤p1∧p1≤9223372036854775807)∧(-9223372036854775808≤p2∧p2≤9223372036854775807)) <|
 gd ((-9223372036854775808≤p2∧p2≤9223372036854775807)∧(-9223372036854775808≤p3∧p3≤9223372036854775807)) <|
 gd ((-9223372036854775808≤p3∧p3≤9223372036854775807)∧(-9223372036854775808≤p1∧p1≤9223372036854775807)) <|
 some (⟨p0.v,mdel (mdel (mdel p0.apex ((⟨p1,p2⟩:Ac))) ((⟨p2,p3⟩:Ac))) ((⟨p3,p1⟩:Ac)),p0.fixed⟩:Ai)
noncomputable def Gu (p0:Ai) (p1:Int) (p2:Int):Option (Ai × Bool) :=
 gd ((-9223372036854775808≤p1∧p1≤9223372036854775807)∧(-9223372036854775808≤p2∧p2≤9223372036854775807)) <|
 bnd (some ((mget p0.apex ((⟨p1,p2⟩:Ac))).getD 0)) fun x3 =>
 gd ((-9223372036854775808≤p2∧p2≤9223372036854775807)∧(-9223372036854775808≤p1∧p1≤9223372036854775807)) <|
 bnd (some ((mget p0.apex ((⟨p2,p1⟩:Ac))).getD 0)) fun x8 =>
 jn (fun (s5:Bool) =>
 if s5=true then (some (p0,false))
 else (bnd (Ig p0 p1 p2 x3) fun r0 =>
 bnd (Ig r0 p2 p1 x8) fun r1 =>
 bnd (Es r1 p1 x8 x3) fun r2 =>
 bnd (Es r2 p2 x3 x8) fun r3 =>
 some (r3,true)))
 (fun j5=>if ((mget p0.apex ((⟨p1,p2⟩:Ac))).isSome)=true then (if ((mget p0.apex ((⟨p2,p1⟩:Ac))).isSome)=true then (bnd (Bz p0 x3) fun r4 =>
 bnd (Bz p0 x8) fun r5 =>
 bnd (Bz p0 p1) fun r6 =>
 bnd (Mk r4 r5 r6) fun r7 =>
 bnd (Bz p0 x3) fun r8 =>
 bnd (Bz p0 x8) fun r9 =>
 bnd (Bz p0 p2) fun r35 =>
 bnd (Mk r8 r9 r35) fun r38 =>
 j5 (decide (0≤(w64 (r7*r38)))))
 else (j5 true))
 else (j5 true))
theorem Bu (p0:Ai) (p1:Int) {K:List Ent} {A0_0:Option Addr} {c0_0:Nat} (ha0:Has K A0_0 p0.v.length c0_0 4 Al (p0.v)) {gm0_0:Nat} {gm0_1:Nat} {g0_0:Nat} (hp0:Pt K g0_0 0 [.slice (A0_0) (p0.v.length) (c0_0),.map (some gm0_0),.map (some gm0_1)]) {r:Ab} (hx:Bz p0 p1=some r) (w:World) (hK:∀ e∈K,Ent.ok w e):CtL Tryz.prog 108 [.pointer (some ⟨g0_0,0,none⟩),.int .i64 (p1)] w fun v Ln=>v = .agg #[.int .i64 (r.X),.int .i64 (r.Y)]∧Ln=[]∧True:=by
 have ha0':=Has.up0 ha0;have hp0':=Pt.low (E:=[]) (Pt.up0 hp0) hK;refine CtL.mk 13 Tryz.func108 rfl Tryz.ntmps108 (by kernel_rfl) rfl ?_;show T 13 _ [(0,.pointer (some ⟨g0_0,0,none⟩)),(1,.int .i64 (p1))] _;unfold Bz at hx;refine Y2 ?_;refine T_x (Bj Al1 rfl (fun g1=>?_));refine Y6 ?_;refine Aj (Ao rfl Aqr rfl) rfl ?_;refine Aj (De (d:=0) rfl hp0' (sb 1) rfl Te) rfl ?_;refine Y ?_;obtain ⟨x2,h3,hx4⟩:=Ad hx;have hw0:=Has.low (E:=[]) ha0' hK;obtain ⟨b5,o6,j7,hA8,hj9,hl0,hp1⟩:=Has.at_idx hw0 h3;refine Aj (Be rfl rfl hA8 (j:=j7) hj9 hl0 Uf) rfl ?_;refine Aj (Co rfl hp1 (sb 1) rfl Aiu) rfl ?_;obtain ⟨r0,h0,hx0⟩:=Ad hx4;refine Tc (fun w1 hw1=>Ur x2  h0 w1) ?_;refine T_h (Ay rfl rfl rfl (.here) (.put (.put (.done))) rfl (List.cons_ne_nil _ _) Fe.2 ?_);refine Y3 ?_;obtain rfl:=Option.some.inj hx0;exact Bq (rs:=[.cell 4 28]) Tryz.results108 (.cell rfl (i:=0) rfl rfl Fe (.nil)) (Ln:=[]) ⟨rfl,rfl,trivial⟩ (Bw) (by exact .drop 0 rfl (.refl))
theorem Hh (p0:Ai) (p1:Int) (p2:Int) (p3:Int) {g0_0:Nat} {gm0_0:Nat} {gm0_1:Nat} {K:List Ent} {A0_0:Option Addr} {c0_0:Nat} (ha0:Has K A0_0 p0.v.length c0_0 4 Al (p0.v)) {r:Ai} (hx:Es p0 p1 p2 p3=some r):CtK Tryz.prog 109 [.pointer (some ⟨g0_0,0,none⟩),.int .i64 (p1),.int .i64 (p2),.int .i64 (p3)] K [.m g0_0 93 [.slice (A0_0) (p0.v.length) (c0_0),.map (some gm0_0),.map (some gm0_1)],Bc Tryz.prog 97 Ak Bx gm0_0 (p0.apex),Bc Tryz.prog 97 Ak Bl gm0_1 (p0.fixed)] fun v Ln=>∃ (A0:Option Addr) (c0:Nat),v = .tuple #[]∧Ln=[.m g0_0 93 [.slice (A0) (r.v.length) (c0),.map (some gm0_0),.map (some gm0_1)],Bc Tryz.prog 97 Ak Bx gm0_0 (r.apex),Bc Tryz.prog 97 Ak Bl gm0_1 (r.fixed)]∧Has (K++[]) A0 r.v.length c0 4 Al (r.v)∧True:=by
 have ha0':=Has.up0 ha0;refine CtK.mk 32 Tryz.func109 rfl Tryz.ntmps109 (by kernel_rfl) rfl ?_;intro Lf hKf;show T 32 _ [(0,.pointer (some ⟨g0_0,0,none⟩)),(1,.int .i64 (p1)),(2,.int .i64 (p2)),(3,.int .i64 (p3))] ([.m g0_0 93 [.slice (A0_0) (p0.v.length) (c0_0),.map (some gm0_0),.map (some gm0_1)],Bc Tryz.prog 97 Ak Bx gm0_0 (p0.apex),Bc Tryz.prog 97 Ak Bl gm0_1 (p0.fixed)]++Lf);unfold Es at hx;refine Y4 ?_;refine Aj (Ao rfl Jy rfl) rfl ?_;refine Aj (Aq rfl (i:=0) rfl rfl Sv) rfl ?_;refine Y2 ?_;refine Aj (Ct rfl (Ds _ _)) rfl ?_;refine Y ?_;obtain ⟨h1,hx2⟩:=Bh hx;obtain ⟨h3,hx4⟩:=Bh hx2;refine T_h (Nn (x:=(⟨p1,p2⟩:Ac)) (y:=p3) Pv Cf Tryz.underlying90 rfl rfl rfl rfl rfl (.there (.here)) (Vh ((⟨p1,p2⟩:Ac)) h1) h3 ?_);refine Y6 ?_;refine Aj (Ao rfl Jy rfl) rfl ?_;refine Aj (Aq rfl (i:=0) rfl rfl Sv) rfl ?_;refine Y2 ?_;refine Aj (Ct rfl (Ds _ _)) rfl ?_;refine Y ?_;obtain ⟨h5,hx6⟩:=Bh hx4;obtain ⟨h7,hx8⟩:=Bh hx6;refine T_h (Nn (x:=(⟨p2,p3⟩:Ac)) (y:=p1) Pv Cf Tryz.underlying90 rfl rfl rfl rfl rfl (.there (.here)) (Vh ((⟨p2,p3⟩:Ac)) h5) h7 ?_);refine Y5 ?_;refine Aj (Ao rfl Jy rfl) rfl ?_;refine Aj (Aq rfl (i:=0) rfl rfl Sv) rfl ?_;refine Y2 ?_
 refine Aj (Ct rfl (Ds _ _)) rfl ?_;refine Y ?_;obtain ⟨h9,hx0⟩:=Bh hx8;obtain ⟨h0,hx1⟩:=Bh hx0;refine T_h (Nn (x:=(⟨p3,p1⟩:Ac)) (y:=p2) Pv Cf Tryz.underlying90 rfl rfl rfl rfl rfl (.there (.here)) (Vh ((⟨p3,p1⟩:Ac)) h9) h0 ?_);refine Y ?_;obtain rfl:=Option.some.inj hx1;exact Agx (rs:=[]) Tryz.results109 (.nil) (Ln:=[.m g0_0 93 [.slice (A0_0) (p0.v.length) (c0_0),.map (some gm0_0),.map (some gm0_1)],Bc Tryz.prog 97 Ak Bx gm0_0 (mput (mput (mput p0.apex ((⟨p1,p2⟩:Ac)) p3) ((⟨p2,p3⟩:Ac)) p1) ((⟨p3,p1⟩:Ac)) p2),Bc Tryz.prog 97 Ak Bl gm0_1 (p0.fixed)]) ⟨A0_0,c0_0,rfl,rfl,Has.len' ha0',trivial⟩ (by exact .pick 0 rfl (.pick 0 rfl (.pick 0 rfl (.refl))))
theorem Tm (p0:Ai) (p1:Int) (p2:Int) (p3:Int) {g0_0:Nat} {gm0_0:Nat} {gm0_1:Nat} {K:List Ent} {A0_0:Option Addr} {c0_0:Nat} (ha0:Has K A0_0 p0.v.length c0_0 4 Al (p0.v)) {r:Ai} (hx:Ig p0 p1 p2 p3=some r):CtK Tryz.prog 184 [.pointer (some ⟨g0_0,0,none⟩),.int .i64 (p1),.int .i64 (p2),.int .i64 (p3)] K [.m g0_0 93 [.slice (A0_0) (p0.v.length) (c0_0),.map (some gm0_0),.map (some gm0_1)],Bc Tryz.prog 97 Ak Bx gm0_0 (p0.apex),Bc Tryz.prog 97 Ak Bl gm0_1 (p0.fixed)] fun v Ln=>∃ (A0:Option Addr) (c0:Nat),v = .tuple #[]∧Ln=[.m g0_0 93 [.slice (A0) (r.v.length) (c0),.map (some gm0_0),.map (some gm0_1)],Bc Tryz.prog 97 Ak Bx gm0_0 (r.apex),Bc Tryz.prog 97 Ak Bl gm0_1 (r.fixed)]∧Has (K++[]) A0 r.v.length c0 4 Al (r.v)∧True:=by
 have ha0':=Has.up0 ha0;refine CtK.mk 29 Tryz.func184 rfl Tryz.ntmps184 (by kernel_rfl) rfl ?_;intro Lf hKf;show T 29 _ [(0,.pointer (some ⟨g0_0,0,none⟩)),(1,.int .i64 (p1)),(2,.int .i64 (p2)),(3,.int .i64 (p3))] ([.m g0_0 93 [.slice (A0_0) (p0.v.length) (c0_0),.map (some gm0_0),.map (some gm0_1)],Bc Tryz.prog 97 Ak Bx gm0_0 (p0.apex),Bc Tryz.prog 97 Ak Bl gm0_1 (p0.fixed)]++Lf);unfold Ig at hx;refine Y4 ?_;refine Aj (Ao rfl Jy rfl) rfl ?_;refine Aj (Aq rfl (i:=0) rfl rfl Sv) rfl ?_;refine Y2 ?_;refine Aj (Ct rfl (Ds _ _)) rfl ?_;obtain ⟨h1,hx2⟩:=Bh hx;refine T_h (Uj (x:=(⟨p1,p2⟩:Ac)) Pv Cf Tryz.underlying90 rfl rfl rfl (.there (.here)) (Vh ((⟨p1,p2⟩:Ac)) h1) ?_);refine Y6 ?_;refine Aj (Ao rfl Jy rfl) rfl ?_;refine Aj (Aq rfl (i:=0) rfl rfl Sv) rfl ?_;refine Y2 ?_;refine Aj (Ct rfl (Ds _ _)) rfl ?_;obtain ⟨h3,hx4⟩:=Bh hx2;refine T_h (Uj (x:=(⟨p2,p3⟩:Ac)) Pv Cf Tryz.underlying90 rfl rfl rfl (.there (.here)) (Vh ((⟨p2,p3⟩:Ac)) h3) ?_);refine Y5 ?_;refine Aj (Ao rfl Jy rfl) rfl ?_;refine Aj (Aq rfl (i:=0) rfl rfl Sv) rfl ?_;refine Y2 ?_;refine Aj (Ct rfl (Ds _ _)) rfl ?_;obtain ⟨h5,hx6⟩:=Bh hx4;refine T_h (Uj (x:=(⟨p3,p1⟩:Ac)) Pv Cf Tryz.underlying90 rfl rfl rfl (.there (.here)) (Vh ((⟨p3,p1⟩:Ac)) h5) ?_)
 refine Y ?_;obtain rfl:=Option.some.inj hx6;exact Agx (rs:=[]) Tryz.results184 (.nil) (Ln:=[.m g0_0 93 [.slice (A0_0) (p0.v.length) (c0_0),.map (some gm0_0),.map (some gm0_1)],Bc Tryz.prog 97 Ak Bx gm0_0 (mdel (mdel (mdel p0.apex ((⟨p1,p2⟩:Ac))) ((⟨p2,p3⟩:Ac))) ((⟨p3,p1⟩:Ac))),Bc Tryz.prog 97 Ak Bl gm0_1 (p0.fixed)]) ⟨A0_0,c0_0,rfl,rfl,Has.len' ha0',trivial⟩ (by exact .pick 0 rfl (.pick 0 rfl (.pick 0 rfl (.refl))))
theorem Aaj (p0:Ai) (p1:Int) (p2:Int) {g0_0:Nat} {gm0_0:Nat} {gm0_1:Nat} {K:List Ent} {A0_0:Option Addr} {c0_0:Nat} (ha0:Has K A0_0 p0.v.length c0_0 4 Al (p0.v)) {r:Ai × Bool} (hx:Gu p0 p1 p2=some r):CtK Tryz.prog 115 [.pointer (some ⟨g0_0,0,none⟩),.int .i64 (p1),.int .i64 (p2)] K [.m g0_0 93 [.slice (A0_0) (p0.v.length) (c0_0),.map (some gm0_0),.map (some gm0_1)],Bc Tryz.prog 97 Ak Bx gm0_0 (p0.apex),Bc Tryz.prog 97 Ak Bl gm0_1 (p0.fixed)] fun v Ln=>∃ (A0:Option Addr) (c0:Nat),v = .bool (r.2)∧Ln=[.m g0_0 93 [.slice (A0) (r.1.v.length) (c0),.map (some gm0_0),.map (some gm0_1)],Bc Tryz.prog 97 Ak Bx gm0_0 (r.1.apex),Bc Tryz.prog 97 Ak Bl gm0_1 (r.1.fixed)]∧Has (K++[]) A0 r.1.v.length c0 4 Al (r.1.v)∧True:=by
 have ha0':=Has.up0 ha0;refine CtK.mk 83 Tryz.func115 rfl Tryz.ntmps115 (by kernel_rfl) rfl ?_;intro Lf hKf;show T 83 _ [(0,.pointer (some ⟨g0_0,0,none⟩)),(1,.int .i64 (p1)),(2,.int .i64 (p2))] ([.m g0_0 93 [.slice (A0_0) (p0.v.length) (c0_0),.map (some gm0_0),.map (some gm0_1)],Bc Tryz.prog 97 Ak Bx gm0_0 (p0.apex),Bc Tryz.prog 97 Ak Bl gm0_1 (p0.fixed)]++Lf);unfold Gu at hx;refine Y9 ?_;refine Aj (Ao rfl Jy rfl) rfl ?_;refine Aj (Aq rfl (i:=0) rfl rfl Sv) rfl ?_;refine Y2 ?_;refine Aj (Ct rfl (Ds _ _)) rfl ?_;obtain ⟨h1,hx2⟩:=Bh hx;obtain ⟨x3,h4,hx5⟩:=Ad hx2;refine Aj (Ka (x:=(⟨p1,p2⟩:Ac)) (i:=1) (vv:=.int .i64 (x3)) Pv Tryz.underlying90 (fun w=>by kernel_rfl) Cf rfl rfl rfl rfl Ez (Vh ((⟨p1,p2⟩:Ac)) h1) h4 rfl) rfl ?_;refine Y11 ?_;refine Aj (Ao rfl Jy rfl) rfl ?_;refine Aj (Aq rfl (i:=0) rfl rfl Sv) rfl ?_;refine Y2 ?_;refine Aj (Ct rfl (Ds _ _)) rfl ?_;obtain ⟨h6,hx7⟩:=Bh hx5;obtain ⟨x8,h9,hx0⟩:=Ad hx7;refine Aj (Ka (x:=(⟨p2,p1⟩:Ac)) (i:=1) (vv:=.int .i64 (x8)) Pv Tryz.underlying90 (fun w=>by kernel_rfl) Cf rfl rfl rfl rfl Ez (Vh ((⟨p2,p1⟩:Ac)) h6) h9 rfl) rfl ?_;refine Y8 ?_;refine Tj (γ:=Unit) hx0 (fun s5 y5=>[(0,.pointer (some ⟨g0_0,0,none⟩)),(1,.int .i64 (p1)),(2,.int .i64 (p2)),(7,.int .i64 (x3)),(9,.int .i64 (x8)),(62,.bool (s5))]) (fun s5 y5=>[.m g0_0 93 [.slice (A0_0) (p0.v.length) (c0_0),.map (some gm0_0),.map (some gm0_1)],Bc Tryz.prog 97 Ak Bx gm0_0 (p0.apex),Bc Tryz.prog 97 Ak Bl gm0_1 (p0.fixed)]++Lf) (fun s5 y5=>True) (fun s5 y5 hx1 hG0=>?_) (fun j5 hx0=>?_)
 ·refine Dm (s:=62) rfl (fun h0=>?_) (fun h0=>?_)
  ·have hx3:=Cp h0 hx1;refine Y8 ?_;obtain rfl:=Option.some.inj hx3;exact Adm (rs:=[.tmp 6]) Tryz.results115 (.tmp rfl (.nil)) (Ln:=[.m g0_0 93 [.slice (A0_0) (p0.v.length) (c0_0),.map (some gm0_0),.map (some gm0_1)],Bc Tryz.prog 97 Ak Bx gm0_0 (p0.apex),Bc Tryz.prog 97 Ak Bl gm0_1 (p0.fixed)]) ⟨A0_0,c0_0,rfl,rfl,Has.len' ha0',trivial⟩ (by exact .pick 0 rfl (.pick 0 rfl (.pick 0 rfl (.refl))))
  ·have hx4:=Db h0 hx1;refine Y9 ?_;obtain ⟨r0,h2,hx6⟩:=Ad hx4;refine T_h (Kv rfl (by exact .pick 0 rfl (.pick 0 rfl (.pick 0 rfl (.refl)))) (by exact (SubE.appC (hKf) (SubE.nil))) (Tm p0 p1 p2 x3 (Has.len' ha0') h2 (K:=(K++[]))) rfl ?_);rintro _ _ ⟨A1,c1,rfl,rfl,hs0,-⟩;refine Lu ?_;have hs1:Has (K++[]) _ _ _ _ _ _:=Has.assoc hs0;refine Y8 ?_;obtain ⟨r1,h3,hx8⟩:=Ad hx6;refine T_h (Kv rfl (by exact .pick 0 rfl (.pick 0 rfl (.pick 0 rfl (.refl)))) (by exact (SubE.appC (hKf) (SubE.nil))) (Tm r0 p2 p1 x8 (Has.len' hs1) h3 (K:=(K++[]))) rfl ?_);rintro _ _ ⟨A2,c2,rfl,rfl,hs2,-⟩;refine Lu ?_;have hs3:Has (K++[]) _ _ _ _ _ _:=Has.assoc hs2;refine Y8 ?_;obtain ⟨r2,h5,hx9⟩:=Ad hx8;refine T_h (Kv rfl (by exact .pick 0 rfl (.pick 0 rfl (.pick 0 rfl (.refl)))) (by exact (SubE.appC (hKf) (SubE.nil))) (Hh r1 p1 x8 x3 (Has.len' hs3) h5 (K:=(K++[]))) rfl ?_);rintro _ _ ⟨A3,c3,rfl,rfl,hs4,-⟩;refine Lu ?_;have hs5:Has (K++[]) _ _ _ _ _ _:=Has.assoc hs4;refine Y8 ?_;obtain ⟨r3,h7,hx69⟩:=Ad hx9;refine T_h (Kv rfl (by exact .pick 0 rfl (.pick 0 rfl (.pick 0 rfl (.refl)))) (by exact (SubE.appC (hKf) (SubE.nil))) (Hh r2 p2 x3 x8 (Has.len' hs5) h7 (K:=(K++[]))) rfl ?_);rintro _ _ ⟨A4,c4,rfl,rfl,hs6,-⟩;refine Lu ?_;have hs7:Has (K++[]) _ _ _ _ _ _:=Has.assoc hs6
   refine Y8 ?_;obtain rfl:=Option.some.inj hx69;exact Adm (rs:=[.tmp 6]) Tryz.results115 (.tmp rfl (.nil)) (Ln:=[.m g0_0 93 [.slice (A4) (r3.v.length) (c4),.map (some gm0_0),.map (some gm0_1)],Bc Tryz.prog 97 Ak Bx gm0_0 (r3.apex),Bc Tryz.prog 97 Ak Bl gm0_1 (r3.fixed)]) ⟨A4,c4,rfl,rfl,Has.len' hs7,trivial⟩ (by exact .pick 0 rfl (.pick 0 rfl (.pick 0 rfl (.refl))))
 ·refine Y4 ?_;refine Fm (s:=35) rfl (fun h8=>?_) (fun h8=>?_)
  ·have hx12:=Db h8 hx0;(iterate 28 refine Y ?_);exact Mu true () hx12 trivial
  ·have hx13:=Cp h8 hx0;refine Y4 ?_;refine Fm (s:=39) rfl (fun h14=>?_) (fun h14=>?_)
   ·have hx15:=Db h14 hx13;(iterate 24 refine Y ?_);exact Mu true () hx15 trivial
   ·have hx16:=Cp h14 hx13;refine Y2 ?_;obtain ⟨r4,h18,hx19⟩:=Ad hx16;refine T_xG rfl rfl rfl (Au rfl (fun w1 hw1=>Bu p0 x3 (Has.len' (Has.up (L:=(K++[.m g0_0 93 [.slice (A0_0) (p0.v.length) (c0_0),.map (some gm0_0),.map (some gm0_1)]])) ha0' (SubE.app2 SubE.nil))) (Pt.m0 (List.mem_append_right _ (List.mem_cons_self))) h18 w1 (Qe (K:=(K++[.m g0_0 93 [.slice (A0_0) (p0.v.length) (c0_0),.map (some gm0_0),.map (some gm0_1)]])) (by exact (SubE.appC (SubE.tail (SubE.tail (SubE.tail (hKf)))) (sb 0))) hw1)) rfl ?_);rintro _ _ hlo ⟨rfl,rfl,-⟩;refine Dh ?_;refine Y2 ?_;obtain ⟨r5,h21,hx22⟩:=Ad hx19;refine T_xG rfl rfl rfl (Au rfl (fun w1 hw1=>Bu p0 x8 (Has.len' (Has.up (L:=(K++[.m g0_0 93 [.slice (A0_0) (p0.v.length) (c0_0),.map (some gm0_0),.map (some gm0_1)]])) ha0' (SubE.app2 SubE.nil))) (Pt.m0 (List.mem_append_right _ (List.mem_cons_self))) h21 w1 (Qe (K:=(K++[.m g0_0 93 [.slice (A0_0) (p0.v.length) (c0_0),.map (some gm0_0),.map (some gm0_1)]])) (by exact (SubE.appC (SubE.tail (SubE.tail (SubE.tail (hKf)))) (sb 0))) hw1)) rfl ?_);rintro _ _ hlo ⟨rfl,rfl,-⟩;refine Dh ?_;refine Y2 ?_;obtain ⟨r6,h24,hx25⟩:=Ad hx22;refine T_xG rfl rfl rfl (Au rfl (fun w1 hw1=>Bu p0 p1 (Has.len' (Has.up (L:=(K++[.m g0_0 93 [.slice (A0_0) (p0.v.length) (c0_0),.map (some gm0_0),.map (some gm0_1)]])) ha0' (SubE.app2 SubE.nil))) (Pt.m0 (List.mem_append_right _ (List.mem_cons_self))) h24 w1 (Qe (K:=(K++[.m g0_0 93 [.slice (A0_0) (p0.v.length) (c0_0),.map (some gm0_0),.map (some gm0_1)]])) (by exact (SubE.appC (SubE.tail (SubE.tail (SubE.tail (hKf)))) (sb 0))) hw1)) rfl ?_)
    rintro _ _ hlo ⟨rfl,rfl,-⟩;refine Dh ?_;obtain ⟨r7,h27,hx28⟩:=Ad hx25;refine T_xG rfl rfl rfl (Au rfl (fun w1 hw1=>Qq r4 r5 r6  h27 w1) rfl ?_);rintro _ _ hlo ⟨rfl,rfl,-⟩;refine Dh ?_;refine Y2 ?_;obtain ⟨r8,h30,hx31⟩:=Ad hx28;refine T_xG rfl rfl rfl (Au rfl (fun w1 hw1=>Bu p0 x3 (Has.len' (Has.up (L:=(K++[.m g0_0 93 [.slice (A0_0) (p0.v.length) (c0_0),.map (some gm0_0),.map (some gm0_1)]])) ha0' (SubE.app2 SubE.nil))) (Pt.m0 (List.mem_append_right _ (List.mem_cons_self))) h30 w1 (Qe (K:=(K++[.m g0_0 93 [.slice (A0_0) (p0.v.length) (c0_0),.map (some gm0_0),.map (some gm0_1)]])) (by exact (SubE.appC (SubE.tail (SubE.tail (SubE.tail (hKf)))) (sb 0))) hw1)) rfl ?_);rintro _ _ hlo ⟨rfl,rfl,-⟩;refine Dh ?_;refine Y2 ?_;obtain ⟨r9,h33,hx34⟩:=Ad hx31;refine T_xG rfl rfl rfl (Au rfl (fun w1 hw1=>Bu p0 x8 (Has.len' (Has.up (L:=(K++[.m g0_0 93 [.slice (A0_0) (p0.v.length) (c0_0),.map (some gm0_0),.map (some gm0_1)]])) ha0' (SubE.app2 SubE.nil))) (Pt.m0 (List.mem_append_right _ (List.mem_cons_self))) h33 w1 (Qe (K:=(K++[.m g0_0 93 [.slice (A0_0) (p0.v.length) (c0_0),.map (some gm0_0),.map (some gm0_1)]])) (by exact (SubE.appC (SubE.tail (SubE.tail (SubE.tail (hKf)))) (sb 0))) hw1)) rfl ?_);rintro _ _ hlo ⟨rfl,rfl,-⟩;refine Dh ?_;refine Y2 ?_;obtain ⟨r35,h36,hx37⟩:=Ad hx34;refine T_xG rfl rfl rfl (Au rfl (fun w1 hw1=>Bu p0 p2 (Has.len' (Has.up (L:=(K++[.m g0_0 93 [.slice (A0_0) (p0.v.length) (c0_0),.map (some gm0_0),.map (some gm0_1)]])) ha0' (SubE.app2 SubE.nil))) (Pt.m0 (List.mem_append_right _ (List.mem_cons_self))) h36 w1 (Qe (K:=(K++[.m g0_0 93 [.slice (A0_0) (p0.v.length) (c0_0),.map (some gm0_0),.map (some gm0_1)]])) (by exact (SubE.appC (SubE.tail (SubE.tail (SubE.tail (hKf)))) (sb 0))) hw1)) rfl ?_)
    rintro _ _ hlo ⟨rfl,rfl,-⟩;refine Dh ?_;obtain ⟨r38,h39,hx40⟩:=Ad hx37;refine T_xG rfl rfl rfl (Au rfl (fun w1 hw1=>Qq r8 r9 r35  h39 w1) rfl ?_);rintro _ _ hlo ⟨rfl,rfl,-⟩;refine Dh ?_;refine Y4 ?_;exact Mu (decide (0≤(w64 (r7*r38)))) () hx40 trivial
end Go.Proofs.YtbkobeeileemjaaGreat
/- The comparators of the mesh, and the sorts by them. -/
namespace Go.Proofs.YtbkobeeileemjaaGreat
open Go Go.RowKit Go.Shelf Go.Lib Go.Sort
theorem Aay {P:Program} {f:FuncId} (h:Uh P f):∀ (args:Array Value) (w:World),(callFunc f args).run P w = .ok (.enter f args) w:=by
 obtain ⟨fn,h1,h2,h3⟩:=h
 obtain ⟨c,hc⟩:∃ c,fn.body=some c:=by cases hb:fn.body with
  | none=>rw [hb] at h3;cases h3
  | some c=>exact ⟨c,rfl⟩
 exact enters_of h1 h2 hc
def Alc (z:Int):Prop:=-1000000000000≤z∧z≤1000000000000
instance (z:Int):Decidable (Alc z):=by unfold Alc;infer_instance
def Ow (x:Ac):Prop:=Alc x.a0∧Alc x.a1
instance (x:Ac):Decidable (Ow x):=by unfold Ow;infer_instance
def cmp2 (x y:Ac):Int:=if x.a0=y.a0 then x.a1-y.a1 else x.a0-y.a0
theorem Ald (x y:Ac):cmp2 x y < 0↔x.a0 < y.a0∨x.a0=y.a0∧x.a1 < y.a1:=by unfold cmp2;split <;> omega
theorem tot2:Xg Ow cmp2 where
 irr x _:=by rw [Ald];omega
 trans x y z _ _ _ h1 h2:=by rw [Ald] at *;omega
 tot x y _ _ h1 h2:=by
  rw [Ald] at h1 h2
  obtain ⟨x0,x1⟩:=x
  obtain ⟨y0,y1⟩:=y
  simp only at h1 h2
  rw [show x0=y0 by omega,show x1=y1 by omega]
theorem Aeg {x y:Ac} (hx:Ow x) (hy:Ow y):Uq x y=some (cmp2 x y):=by
 obtain ⟨⟨_,_⟩,_,_⟩:=hx
 obtain ⟨⟨_,_⟩,_,_⟩:=hy
 unfold Uq cmp2
 split <;> (rw [Bp (by omega) (by omega)])
theorem Ab6 (l:List Ac) (hb:l.length≤1000000000) (hp:∀ x∈l,Ow x) {A:Option Addr} {m c:Nat} {t:TypeId} {gf:Nat} {cb:Array Value} (w:World) (hok:Ent.ok w (.r A m c t 2 (l.flatMap Av)))
  (hcmp:Ada Tryz.prog Ow cmp2 (fun x=>.agg #[.int .i64 x.a0,.int .i64 x.a1]) A m c t 2 gf cb w (l.flatMap Av)) (eg:Uh Tryz.prog gf):Ac9 Tryz.prog 105 A m c t 2 gf cb w (l.flatMap Av) ((Ar cmp2 l).flatMap Av) :=
 Abw (ρ:=Tryz.laysSort2_ren) Tryz.laysSort2 (k:=2) Tryz.isAgg97 Tryz.sizeOf97 (enc:=Av) (fun _=>rfl) (by decide) (fun x v hv=>by simp [Av] at hv;rcases hv with rfl | rfl <;> rfl) tot2 (Aay eg) l hb hp w hok hcmp
def Yg (_:Aw):Prop:=True
instance (x:Aw):Decidable (Yg x):=by unfold Yg;infer_instance
def cmpI (x y:Int):Int:=if x < y then -1 else if y < x then 1 else 0
theorem Aqs (x y:Int):cmpI x y < 0↔x < y:=by
 unfold cmpI
 split
 ·omega
 ·split <;> omega
theorem Axu (x y:Int):cmpI x y=0↔x=y:=by
 unfold cmpI
 split
 ·omega
 ·split <;> omega
def cmp3 (x y:Aw):Int:=if cmpI x.a0 y.a0=0 then if cmpI x.a1 y.a1=0 then cmpI x.a2 y.a2 else cmpI x.a1 y.a1 else cmpI x.a0 y.a0
theorem Ale (x y:Aw):cmp3 x y < 0↔x.a0 < y.a0∨x.a0=y.a0∧(x.a1 < y.a1∨x.a1=y.a1∧x.a2 < y.a2):=by
 unfold cmp3
 simp only [Axu]
 split
 ·split <;> rw [Aqs] <;> omega
 ·rw [Aqs];omega
theorem tot3:Xg Yg cmp3 where
 irr x _:=by rw [Ale];omega
 trans x y z _ _ _ h1 h2:=by rw [Ale] at *;omega
 tot x y _ _ h1 h2:=by
  rw [Ale] at h1 h2
  obtain ⟨x0,x1,x2⟩:=x
  obtain ⟨y0,y1,y2⟩:=y
  simp only at h1 h2
  rw [show x0=y0 by omega,show x1=y1 by omega,show x2=y2 by omega]
theorem Axv (x y:Int):Kq x y=some (cmpI x y):=by
 unfold Kq Ni cmpI
 simp only [bnd,decide_true,Bool.not_true,Bool.false_eq_true,if_false]
 split
 ·rfl
 ·split <;> rfl
theorem Alf {x y:Aw} (hx:Yg x) (hy:Yg y):Fc x y=some (cmp3 x y):=by
 obtain ⟨x0,x1,x2⟩:=x
 obtain ⟨y0,y1,y2⟩:=y
 unfold Fc Et jn cmp3
 simp only
 have step:∀ i:Int,Cm [x0,x1,x2] [y0,y1,y2] i=if i < 3 then bnd (idx [x0,x1,x2] i) fun a=>bnd (idx [y0,y1,y2] i) fun b=>if cmpI a b=0 then some (.inl (w64 (i+1))) else some (.inr (.inr (cmpI a b))) else some (.inr (.inl ())):=by
  intro i
  unfold Cm
  simp only [Axv,List.length_cons,List.length_nil]
  by_cases h:i < 3
  ·rw [if_pos (by omega),if_pos h]
   congr 1
   funext a
   rw [if_neg (by omega)]
   rfl
  ·rw [if_neg (by omega),if_neg h]
 have w1:w64 (0+1)=1:=Bp (by omega) (by omega)
 have w2:w64 (1+1)=2:=Bp (by omega) (by omega)
 have w3:w64 (2+1)=3:=Bp (by omega) (by omega)
 have i0:∀ a b c:Int,idx [a,b,c] 0=some a:=fun _ _ _=>rfl
 have i1:∀ a b c:Int,idx [a,b,c] 1=some b:=fun _ _ _=>rfl
 have i2:∀ a b c:Int,idx [a,b,c] 2=some c:=fun _ _ _=>rfl
 have s0:Cm [x0,x1,x2] [y0,y1,y2] 0=if cmpI x0 y0=0 then some (.inl 1) else some (.inr (.inr (cmpI x0 y0))):=by rw [step,if_pos (by omega),w1];simp only [i0,bnd]
 have s1:Cm [x0,x1,x2] [y0,y1,y2] 1=if cmpI x1 y1=0 then some (.inl 2) else some (.inr (.inr (cmpI x1 y1))):=by rw [step,if_pos (by omega),w2];simp only [i1,bnd]
 have s2:Cm [x0,x1,x2] [y0,y1,y2] 2=if cmpI x2 y2=0 then some (.inl 3) else some (.inr (.inr (cmpI x2 y2))):=by rw [step,if_pos (by omega),w3];simp only [i2,bnd]
 have s3:Cm [x0,x1,x2] [y0,y1,y2] 3=some (.inr (.inl ())):=by rw [step,if_neg (by omega)]
 rw [Dq,s0]
 by_cases h0:cmpI x0 y0=0
 ·rw [if_pos h0,if_pos h0]
  simp only
  rw [Dq,s1]
  by_cases h1:cmpI x1 y1=0
  ·rw [if_pos h1,if_pos h1]
   simp only
   rw [Dq,s2]
   by_cases h2:cmpI x2 y2=0
   ·rw [if_pos h2,h2]
    simp only
    rw [Dq,s3]
    simp [bnd]
   ·rw [if_neg h2]
    simp [bnd]
  ·rw [if_neg h1,if_neg h1]
   simp [bnd]
 ·rw [if_neg h0,if_neg h0]
  simp [bnd]
theorem Aos (l:List Aw) (hb:l.length≤1000000000) (hp:∀ x∈l,Yg x) {A:Option Addr} {m c:Nat} {t:TypeId} {gf:Nat} {cb:Array Value} (w:World) (hok:Ent.ok w (.r A m c t 3 (l.flatMap Bi)))
  (hcmp:Ada Tryz.prog Yg cmp3 (fun x=>.agg #[.int .i64 x.a0,.int .i64 x.a1,.int .i64 x.a2]) A m c t 3 gf cb w (l.flatMap Bi)) (eg:Uh Tryz.prog gf):Ac9 Tryz.prog 117 A m c t 3 gf cb w (l.flatMap Bi) ((Ar cmp3 l).flatMap Bi) :=
 Abw (ρ:=Tryz.laysSort3_ren) Tryz.laysSort3 (k:=3) Tryz.isAgg26 Tryz.sizeOf26 (enc:=Bi) (fun _=>rfl) (by decide) (fun x v hv=>by simp [Bi] at hv;rcases hv with rfl | rfl | rfl <;> rfl) tot3 (Aay eg) l hb hp w hok hcmp
/-- The order of places. -/
def befV (a b:Ae):Prop:=a.X < b.X∨a.X=b.X∧a.Y < b.Y
instance (a b:Ae):Decidable (befV a b):=by unfold befV;infer_instance
def Ah2 (a b:Ae):Prop:=a.X=b.X∧a.Y=b.Y
instance (a b:Ae):Decidable (Ah2 a b):=by unfold Ah2;infer_instance
def Gb (v:List Ae):Prop:=v.Pairwise fun a b=>¬ Ah2 a b
instance (v:List Ae):Decidable (Gb v):=by unfold Gb;infer_instance
def okIx (v:List Ae) (i:Int):Prop:=0≤i∧i < (v.length:Int)
instance (v:List Ae) (i:Int):Decidable (okIx v i):=by unfold okIx;infer_instance
def cmpR (v:List Ae) (i j:Int):Int:=match idx v i,idx v j with
 | some a,some b=>if befV a b then -1 else if befV b a then 1 else 0
 | _,_=>0
theorem Jz {v:List Ae} {i:Int} (h:okIx v i):∃ (k:Nat) (hk:k < v.length),i=(k:Int)∧idx v i=some v[k]:=by
 obtain ⟨h0,h1⟩:=h
 obtain ⟨k,rfl⟩:=Int.eq_ofNat_of_zero_le h0
 have hk:k < v.length:=by omega
 exact ⟨k,hk,rfl,Bf hk⟩
theorem Tz {v:List Ae} {i j:Nat} (hi:i < v.length) (hj:j < v.length):cmpR v (i:Int) (j:Int) < 0↔befV v[i] v[j]:=by
 unfold cmpR
 rw [Bf hi,Bf hj]
 simp only
 split
 ·simp_all
 ·split <;> simp_all
theorem totR {v:List Ae} (hd:Gb v):Xg (okIx v) (cmpR v) where
 irr x hx:=by
  obtain ⟨i,hi,rfl,_⟩:=Jz hx
  rw [Tz hi hi]
  unfold befV
  omega
 trans x y z hx hy hz h1 h2:=by
  obtain ⟨i,hi,rfl,_⟩:=Jz hx
  obtain ⟨j,hj,rfl,_⟩:=Jz hy
  obtain ⟨k,hk,rfl,_⟩:=Jz hz
  rw [Tz hi hj] at h1
  rw [Tz hj hk] at h2
  rw [Tz hi hk]
  unfold befV at *
  omega
 tot x y hx hy h1 h2:=by
  obtain ⟨i,hi,rfl,_⟩:=Jz hx
  obtain ⟨j,hj,rfl,_⟩:=Jz hy
  rw [Tz hi hj] at h1
  rw [Tz hj hi] at h2
  have hs:Ah2 v[i] v[j]:=by unfold befV at h1 h2;unfold Ah2;omega
  unfold Gb at hd
  rw [List.pairwise_iff_getElem] at hd
  rcases Nat.lt_trichotomy i j with h | h | h
  ·exact absurd hs (hd i j hi hj h)
  ·rw [h]
  ·exact absurd ⟨hs.1.symm,hs.2.symm⟩ (hd j i hj hi h)
theorem Asj (a b:Ae):Ht ⟨a.X,a.Y⟩ ⟨b.X,b.Y⟩=some (decide (befV a b)):=by
 unfold Ht jn befV
 simp only
 by_cases h1:a.X < b.X
 ·simp [h1]
 ·by_cases h2:a.X=b.X
  ·simp [h2]
  ·simp [h1,h2]
theorem Asl (v:List Ae) {x y:Int} (hx:okIx v x) (hy:okIx v y):Tp x y v=some (cmpR v x y):=by
 obtain ⟨i,hi,rfl,ei⟩:=Jz hx
 obtain ⟨j,hj,rfl,ej⟩:=Jz hy
 unfold Tp cmpR
 simp only [ei,ej,bnd,Kn,Asj,decide_eq_true_eq]
 split
 ·rfl
 ·split <;> rfl
theorem Am6 (v:List Ae) (hd:Gb v) (l:List Int) (hb:l.length≤1000000000) (hp:∀ x∈l,okIx v x) {A:Option Addr} {m c:Nat} {t:TypeId} {gf:Nat} {cb:Array Value} (w:World) (hok:Ent.ok w (.r A m c t 1 (l.flatMap Bd)))
  (hcmp:Ada Tryz.prog (okIx v) (cmpR v) (fun x=>.int .i64 x) A m c t 1 gf cb w (l.flatMap Bd)) (eg:Uh Tryz.prog gf):Ac9 Tryz.prog 111 A m c t 1 gf cb w (l.flatMap Bd) ((Ar (cmpR v) l).flatMap Bd) :=
 Aoj (ρ:=Tryz.laysSort1_ren) Tryz.laysSort1 (enc:=Value.int .i64) (fun _=>rfl) (totR hd) (Aay eg) l hb hp w hok hcmp
end Go.Proofs.YtbkobeeileemjaaGreat
