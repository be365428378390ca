/- Walks of the program, with their plain functions: the builder. -/
import Derived.Test.YtbkobeeileemjaaGreatD2
import Derived.Test.YtbkobeeileemjaaGreatSl
namespace Go.Proofs.YtbkobeeileemjaaGreat
open Go Go.RowKit
theorem fld93_0:FieldOf Tryz.prog 93 0 0:=.mk Tryz.underlying93 rfl rfl (show Tryz.prog.info? 22=some Tryz.t22 from by kernel_rfl) (show Tryz.t22.size=1 from by kernel_rfl) rfl
instance:FieldI Tryz.prog 93 0 0:=⟨fld93_0⟩
theorem fld93_1:FieldOf Tryz.prog 93 1 1:=.mk Tryz.underlying93 rfl rfl (show Tryz.prog.info? 90=some Tryz.t90 from by kernel_rfl) (show Tryz.t90.size=1 from by kernel_rfl) rfl
instance:FieldI Tryz.prog 93 1 1:=⟨fld93_1⟩
theorem one90:OneOf Tryz.prog 90:=.mk Tryz.underlying90 rfl (show Tryz.prog.info? 90=some Tryz.t90 from by kernel_rfl) (by kernel_rfl)
instance:OneI Tryz.prog 90:=⟨one90⟩
structure S_mesh_builder where
 v:List S_api_Vertex
 apex:List (S_arr2_int × Int)
 fixed:List (S_arr2_int × Bool)
noncomputable def mesh_builder_p (p0:S_mesh_builder) (p1:Int):Option S_api_XY :=
 bnd (idx p0.v p1) fun x2 =>
 bnd (mesh_at x2) fun r0 =>
 some r0
instance:UndI Tryz.prog 90 (.map 97 3):=⟨Tryz.underlying90⟩
noncomputable def mesh_builder_put (p0:S_mesh_builder) (p1:Int) (p2:Int) (p3:Int):Option S_mesh_builder :=
 gd ((-9223372036854775808≤p1∧p1≤9223372036854775807)∧(-9223372036854775808≤p2∧p2≤9223372036854775807)) <|
 gd ((p0.apex).length < 9223372036854775807) <|
 gd ((-9223372036854775808≤p2∧p2≤9223372036854775807)∧(-9223372036854775808≤p3∧p3≤9223372036854775807)) <|
 gd ((mput p0.apex ((⟨p1,p2⟩:S_arr2_int)) p3).length < 9223372036854775807) <|
 gd ((-9223372036854775808≤p3∧p3≤9223372036854775807)∧(-9223372036854775808≤p1∧p1≤9223372036854775807)) <|
 gd ((mput (mput p0.apex ((⟨p1,p2⟩:S_arr2_int)) p3) ((⟨p2,p3⟩:S_arr2_int)) p1).length < 9223372036854775807) <|
 some (⟨p0.v,mput (mput (mput p0.apex ((⟨p1,p2⟩:S_arr2_int)) p3) ((⟨p2,p3⟩:S_arr2_int)) p1) ((⟨p3,p1⟩:S_arr2_int)) p2,p0.fixed⟩:S_mesh_builder)
noncomputable def mesh_builder_cut (p0:S_mesh_builder) (p1:Int) (p2:Int) (p3:Int):Option S_mesh_builder :=
 gd ((-9223372036854775808≤p1∧p1≤9223372036854775807)∧(-9223372036854775808≤p2∧p2≤9223372036854775807)) <|
 gd ((-9223372036854775808≤p2∧p2≤9223372036854775807)∧(-9223372036854775808≤p3∧p3≤9223372036854775807)) <|
 gd ((-9223372036854775808≤p3∧p3≤9223372036854775807)∧(-9223372036854775808≤p1∧p1≤9223372036854775807)) <|
 some (⟨p0.v,mdel (mdel (mdel p0.apex ((⟨p1,p2⟩:S_arr2_int))) ((⟨p2,p3⟩:S_arr2_int))) ((⟨p3,p1⟩:S_arr2_int)),p0.fixed⟩:S_mesh_builder)
noncomputable def mesh_builder_flip (p0:S_mesh_builder) (p1:Int) (p2:Int):Option (S_mesh_builder × Bool) :=
 gd ((-9223372036854775808≤p1∧p1≤9223372036854775807)∧(-9223372036854775808≤p2∧p2≤9223372036854775807)) <|
 bnd (some ((mget p0.apex ((⟨p1,p2⟩:S_arr2_int))).getD 0)) fun x3 =>
 gd ((-9223372036854775808≤p2∧p2≤9223372036854775807)∧(-9223372036854775808≤p1∧p1≤9223372036854775807)) <|
 bnd (some ((mget p0.apex ((⟨p2,p1⟩:S_arr2_int))).getD 0)) fun x8 =>
 jn (fun (s5:Bool) =>
 if s5=true then (some (p0,false))
 else (bnd (mesh_builder_cut p0 p1 p2 x3) fun r0 =>
 bnd (mesh_builder_cut r0 p2 p1 x8) fun r1 =>
 bnd (mesh_builder_put r1 p1 x8 x3) fun r2 =>
 bnd (mesh_builder_put r2 p2 x3 x8) fun r3 =>
 some (r3,true)))
 (fun j5=>if ((mget p0.apex ((⟨p1,p2⟩:S_arr2_int))).isSome)=true then (if ((mget p0.apex ((⟨p2,p1⟩:S_arr2_int))).isSome)=true then (bnd (mesh_builder_p p0 x3) fun r4 =>
 bnd (mesh_builder_p p0 x8) fun r5 =>
 bnd (mesh_builder_p p0 p1) fun r6 =>
 bnd (mesh_turn r4 r5 r6) fun r7 =>
 bnd (mesh_builder_p p0 x3) fun r8 =>
 bnd (mesh_builder_p p0 x8) fun r9 =>
 bnd (mesh_builder_p p0 p2) fun r35 =>
 bnd (mesh_turn r8 r9 r35) fun r38 =>
 j5 (decide (0≤(w64 (r7*r38)))))
 else (j5 true))
 else (j5 true))
set_option maxRecDepth 100000 in
theorem mesh_builder_p_ok (p0:S_mesh_builder) (p1:Int) {K:List Ent} {A0_0:Option Addr} {c0_0:Nat} (ha0:Has K A0_0 p0.v.length c0_0 4 e_api_Vertex (p0.v)) {gm0_0:Nat} {gm0_1:Nat} {g0_0:Nat} (hp0:Pt K g0_0 0 [.slice (A0_0) (p0.v.length) (c0_0),.map (some gm0_0),.map (some gm0_1)]) {r:S_api_XY} (hx:mesh_builder_p p0 p1=some r) (w:World) (hK:∀ e∈K,Ent.ok w e):CtL Tryz.prog 108 [.pointer (some ⟨g0_0,0,none⟩),.int .i64 (p1)] w fun v Ln=>v = .agg #[.int .i64 (r.X),.int .i64 (r.Y)]∧Ln=[]∧True:=by
 have ha0':=Has.up0 ha0;have hp0':=Pt.low (E:=[]) (Pt.up0 hp0) hK;refine CtL.mk 13 Tryz.func108 rfl Tryz.ntmps108 (by kernel_rfl) rfl ?_;show T 13 _ [(0,.pointer (some ⟨g0_0,0,none⟩)),(1,.int .i64 (p1))] _;unfold mesh_builder_p at hx;refine Y2 ?_;refine T_x (Wx_alloc zer28 rfl (fun g1=>?_));refine Y6 ?_;refine T_val (Ev_field rfl fld93_0 rfl) rfl ?_;refine T_val (Ev_loadP1 (d:=0) rfl hp0' (sb 1) rfl one22) rfl ?_;refine Y ?_;obtain ⟨x2,h3,hx4⟩:=bnd_some hx;have hw0:=Has.low (E:=[]) ha0' hK;obtain ⟨b5,o6,j7,hA8,hj9,hl0,hp1⟩:=Has.at_idx hw0 h3;refine T_val (Ev_index rfl rfl hA8 (j:=j7) hj9 hl0 slc22) rfl ?_;refine T_val (Ev_loadPK0 rfl hp1 (sb 1) rfl agg34) rfl ?_;obtain ⟨r0,h0,hx0⟩:=bnd_some hx4;refine Tc (fun w1 hw1=>mesh_at_ok x2  h0 w1) ?_;refine T_h (Wh_store rfl rfl rfl (.here) (.put (.put (.done))) rfl (List.cons_ne_nil _ _) agg28.2 ?_);refine Y3 ?_;obtain rfl:=Option.some.inj hx0;exact T_retP (rs:=[.cell 4 28]) Tryz.results108 (.cell rfl (i:=0) rfl rfl agg28 (.nil)) (Ln:=[]) ⟨rfl,rfl,trivial⟩ (loNil) (by exact .drop 0 rfl (.refl))
set_option maxRecDepth 100000 in
theorem mesh_builder_put_ok (p0:S_mesh_builder) (p1:Int) (p2:Int) (p3:Int) {g0_0:Nat} {gm0_0:Nat} {gm0_1:Nat} {K:List Ent} {A0_0:Option Addr} {c0_0:Nat} (ha0:Has K A0_0 p0.v.length c0_0 4 e_api_Vertex (p0.v)) {r:S_mesh_builder} (hx:mesh_builder_put p0 p1 p2 p3=some r):CtK Tryz.prog 109 [.pointer (some ⟨g0_0,0,none⟩),.int .i64 (p1),.int .i64 (p2),.int .i64 (p3)] K [.m g0_0 93 [.slice (A0_0) (p0.v.length) (c0_0),.map (some gm0_0),.map (some gm0_1)],mapE2 Tryz.prog 97 v_arr2_int v_i64 gm0_0 (p0.apex),mapE2 Tryz.prog 97 v_arr2_int v_bool gm0_1 (p0.fixed)] fun v Ln=>∃ (A0:Option Addr) (c0:Nat),v = .tuple #[]∧Ln=[.m g0_0 93 [.slice (A0) (r.v.length) (c0),.map (some gm0_0),.map (some gm0_1)],mapE2 Tryz.prog 97 v_arr2_int v_i64 gm0_0 (r.apex),mapE2 Tryz.prog 97 v_arr2_int v_bool gm0_1 (r.fixed)]∧Has (K++[]) A0 r.v.length c0 4 e_api_Vertex (r.v)∧True:=by
 have ha0':=Has.up0 ha0;refine CtK.mk 32 Tryz.func109 rfl Tryz.ntmps109 (by kernel_rfl) rfl ?_;intro Lf hKf;show T 32 _ [(0,.pointer (some ⟨g0_0,0,none⟩)),(1,.int .i64 (p1)),(2,.int .i64 (p2)),(3,.int .i64 (p3))] ([.m g0_0 93 [.slice (A0_0) (p0.v.length) (c0_0),.map (some gm0_0),.map (some gm0_1)],mapE2 Tryz.prog 97 v_arr2_int v_i64 gm0_0 (p0.apex),mapE2 Tryz.prog 97 v_arr2_int v_bool gm0_1 (p0.fixed)]++Lf);unfold mesh_builder_put at hx;refine Y4 ?_;refine T_val (Ev_field rfl fld93_1 rfl) rfl ?_;refine T_val (Ev_load1 rfl (i:=0) rfl rfl one90) rfl ?_;refine Y2 ?_;refine T_val (Ev_build rfl (bld97_0i641i64 _ _)) rfl ?_;refine Y ?_;obtain ⟨h1,hx2⟩:=gd_some hx;obtain ⟨h3,hx4⟩:=gd_some hx2;refine T_h (Wh_mapPut2 (x:=(⟨p1,p2⟩:S_arr2_int)) (y:=p3) key97 v_arr2_int_inj Tryz.underlying90 rfl rfl rfl rfl rfl (.there (.here)) (isk97 ((⟨p1,p2⟩:S_arr2_int)) h1) h3 ?_);refine Y6 ?_;refine T_val (Ev_field rfl fld93_1 rfl) rfl ?_;refine T_val (Ev_load1 rfl (i:=0) rfl rfl one90) rfl ?_;refine Y2 ?_;refine T_val (Ev_build rfl (bld97_0i641i64 _ _)) rfl ?_;refine Y ?_;obtain ⟨h5,hx6⟩:=gd_some hx4;obtain ⟨h7,hx8⟩:=gd_some hx6;refine T_h (Wh_mapPut2 (x:=(⟨p2,p3⟩:S_arr2_int)) (y:=p1) key97 v_arr2_int_inj Tryz.underlying90 rfl rfl rfl rfl rfl (.there (.here)) (isk97 ((⟨p2,p3⟩:S_arr2_int)) h5) h7 ?_);refine Y5 ?_;refine T_val (Ev_field rfl fld93_1 rfl) rfl ?_;refine T_val (Ev_load1 rfl (i:=0) rfl rfl one90) rfl ?_;refine Y2 ?_
 refine T_val (Ev_build rfl (bld97_0i641i64 _ _)) rfl ?_;refine Y ?_;obtain ⟨h9,hx0⟩:=gd_some hx8;obtain ⟨h0,hx1⟩:=gd_some hx0;refine T_h (Wh_mapPut2 (x:=(⟨p3,p1⟩:S_arr2_int)) (y:=p2) key97 v_arr2_int_inj Tryz.underlying90 rfl rfl rfl rfl rfl (.there (.here)) (isk97 ((⟨p3,p1⟩:S_arr2_int)) h9) h0 ?_);refine Y ?_;obtain rfl:=Option.some.inj hx1;exact T_endK (rs:=[]) Tryz.results109 (.nil) (Ln:=[.m g0_0 93 [.slice (A0_0) (p0.v.length) (c0_0),.map (some gm0_0),.map (some gm0_1)],mapE2 Tryz.prog 97 v_arr2_int v_i64 gm0_0 (mput (mput (mput p0.apex ((⟨p1,p2⟩:S_arr2_int)) p3) ((⟨p2,p3⟩:S_arr2_int)) p1) ((⟨p3,p1⟩:S_arr2_int)) p2),mapE2 Tryz.prog 97 v_arr2_int v_bool gm0_1 (p0.fixed)]) ⟨A0_0,c0_0,rfl,rfl,Has.len' ha0',trivial⟩ (by exact .pick 0 rfl (.pick 0 rfl (.pick 0 rfl (.refl))))
set_option maxRecDepth 100000 in
theorem mesh_builder_cut_ok (p0:S_mesh_builder) (p1:Int) (p2:Int) (p3:Int) {g0_0:Nat} {gm0_0:Nat} {gm0_1:Nat} {K:List Ent} {A0_0:Option Addr} {c0_0:Nat} (ha0:Has K A0_0 p0.v.length c0_0 4 e_api_Vertex (p0.v)) {r:S_mesh_builder} (hx:mesh_builder_cut p0 p1 p2 p3=some r):CtK Tryz.prog 184 [.pointer (some ⟨g0_0,0,none⟩),.int .i64 (p1),.int .i64 (p2),.int .i64 (p3)] K [.m g0_0 93 [.slice (A0_0) (p0.v.length) (c0_0),.map (some gm0_0),.map (some gm0_1)],mapE2 Tryz.prog 97 v_arr2_int v_i64 gm0_0 (p0.apex),mapE2 Tryz.prog 97 v_arr2_int v_bool gm0_1 (p0.fixed)] fun v Ln=>∃ (A0:Option Addr) (c0:Nat),v = .tuple #[]∧Ln=[.m g0_0 93 [.slice (A0) (r.v.length) (c0),.map (some gm0_0),.map (some gm0_1)],mapE2 Tryz.prog 97 v_arr2_int v_i64 gm0_0 (r.apex),mapE2 Tryz.prog 97 v_arr2_int v_bool gm0_1 (r.fixed)]∧Has (K++[]) A0 r.v.length c0 4 e_api_Vertex (r.v)∧True:=by
 have ha0':=Has.up0 ha0;refine CtK.mk 29 Tryz.func184 rfl Tryz.ntmps184 (by kernel_rfl) rfl ?_;intro Lf hKf;show T 29 _ [(0,.pointer (some ⟨g0_0,0,none⟩)),(1,.int .i64 (p1)),(2,.int .i64 (p2)),(3,.int .i64 (p3))] ([.m g0_0 93 [.slice (A0_0) (p0.v.length) (c0_0),.map (some gm0_0),.map (some gm0_1)],mapE2 Tryz.prog 97 v_arr2_int v_i64 gm0_0 (p0.apex),mapE2 Tryz.prog 97 v_arr2_int v_bool gm0_1 (p0.fixed)]++Lf);unfold mesh_builder_cut at hx;refine Y4 ?_;refine T_val (Ev_field rfl fld93_1 rfl) rfl ?_;refine T_val (Ev_load1 rfl (i:=0) rfl rfl one90) rfl ?_;refine Y2 ?_;refine T_val (Ev_build rfl (bld97_0i641i64 _ _)) rfl ?_;obtain ⟨h1,hx2⟩:=gd_some hx;refine T_h (Wh_mapDel2 (x:=(⟨p1,p2⟩:S_arr2_int)) key97 v_arr2_int_inj Tryz.underlying90 rfl rfl rfl (.there (.here)) (isk97 ((⟨p1,p2⟩:S_arr2_int)) h1) ?_);refine Y6 ?_;refine T_val (Ev_field rfl fld93_1 rfl) rfl ?_;refine T_val (Ev_load1 rfl (i:=0) rfl rfl one90) rfl ?_;refine Y2 ?_;refine T_val (Ev_build rfl (bld97_0i641i64 _ _)) rfl ?_;obtain ⟨h3,hx4⟩:=gd_some hx2;refine T_h (Wh_mapDel2 (x:=(⟨p2,p3⟩:S_arr2_int)) key97 v_arr2_int_inj Tryz.underlying90 rfl rfl rfl (.there (.here)) (isk97 ((⟨p2,p3⟩:S_arr2_int)) h3) ?_);refine Y5 ?_;refine T_val (Ev_field rfl fld93_1 rfl) rfl ?_;refine T_val (Ev_load1 rfl (i:=0) rfl rfl one90) rfl ?_;refine Y2 ?_;refine T_val (Ev_build rfl (bld97_0i641i64 _ _)) rfl ?_;obtain ⟨h5,hx6⟩:=gd_some hx4;refine T_h (Wh_mapDel2 (x:=(⟨p3,p1⟩:S_arr2_int)) key97 v_arr2_int_inj Tryz.underlying90 rfl rfl rfl (.there (.here)) (isk97 ((⟨p3,p1⟩:S_arr2_int)) h5) ?_)
 refine Y ?_;obtain rfl:=Option.some.inj hx6;exact T_endK (rs:=[]) Tryz.results184 (.nil) (Ln:=[.m g0_0 93 [.slice (A0_0) (p0.v.length) (c0_0),.map (some gm0_0),.map (some gm0_1)],mapE2 Tryz.prog 97 v_arr2_int v_i64 gm0_0 (mdel (mdel (mdel p0.apex ((⟨p1,p2⟩:S_arr2_int))) ((⟨p2,p3⟩:S_arr2_int))) ((⟨p3,p1⟩:S_arr2_int))),mapE2 Tryz.prog 97 v_arr2_int v_bool gm0_1 (p0.fixed)]) ⟨A0_0,c0_0,rfl,rfl,Has.len' ha0',trivial⟩ (by exact .pick 0 rfl (.pick 0 rfl (.pick 0 rfl (.refl))))
set_option maxRecDepth 100000 in
theorem mesh_builder_flip_ok (p0:S_mesh_builder) (p1:Int) (p2:Int) {g0_0:Nat} {gm0_0:Nat} {gm0_1:Nat} {K:List Ent} {A0_0:Option Addr} {c0_0:Nat} (ha0:Has K A0_0 p0.v.length c0_0 4 e_api_Vertex (p0.v)) {r:S_mesh_builder × Bool} (hx:mesh_builder_flip p0 p1 p2=some r):CtK Tryz.prog 115 [.pointer (some ⟨g0_0,0,none⟩),.int .i64 (p1),.int .i64 (p2)] K [.m g0_0 93 [.slice (A0_0) (p0.v.length) (c0_0),.map (some gm0_0),.map (some gm0_1)],mapE2 Tryz.prog 97 v_arr2_int v_i64 gm0_0 (p0.apex),mapE2 Tryz.prog 97 v_arr2_int v_bool gm0_1 (p0.fixed)] fun v Ln=>∃ (A0:Option Addr) (c0:Nat),v = .bool (r.2)∧Ln=[.m g0_0 93 [.slice (A0) (r.1.v.length) (c0),.map (some gm0_0),.map (some gm0_1)],mapE2 Tryz.prog 97 v_arr2_int v_i64 gm0_0 (r.1.apex),mapE2 Tryz.prog 97 v_arr2_int v_bool gm0_1 (r.1.fixed)]∧Has (K++[]) A0 r.1.v.length c0 4 e_api_Vertex (r.1.v)∧True:=by
 have ha0':=Has.up0 ha0;refine CtK.mk 83 Tryz.func115 rfl Tryz.ntmps115 (by kernel_rfl) rfl ?_;intro Lf hKf;show T 83 _ [(0,.pointer (some ⟨g0_0,0,none⟩)),(1,.int .i64 (p1)),(2,.int .i64 (p2))] ([.m g0_0 93 [.slice (A0_0) (p0.v.length) (c0_0),.map (some gm0_0),.map (some gm0_1)],mapE2 Tryz.prog 97 v_arr2_int v_i64 gm0_0 (p0.apex),mapE2 Tryz.prog 97 v_arr2_int v_bool gm0_1 (p0.fixed)]++Lf);unfold mesh_builder_flip at hx;refine Y9 ?_;refine T_val (Ev_field rfl fld93_1 rfl) rfl ?_;refine T_val (Ev_load1 rfl (i:=0) rfl rfl one90) rfl ?_;refine Y2 ?_;refine T_val (Ev_build rfl (bld97_0i641i64 _ _)) rfl ?_;obtain ⟨h1,hx2⟩:=gd_some hx;obtain ⟨x3,h4,hx5⟩:=bnd_some hx2;refine T_val (Ev_look2Ok (x:=(⟨p1,p2⟩:S_arr2_int)) (i:=1) (vv:=.int .i64 (x3)) key97 Tryz.underlying90 (fun w=>by kernel_rfl) v_arr2_int_inj rfl rfl rfl rfl holds_mapE2 (isk97 ((⟨p1,p2⟩:S_arr2_int)) h1) h4 rfl) rfl ?_;refine Y11 ?_;refine T_val (Ev_field rfl fld93_1 rfl) rfl ?_;refine T_val (Ev_load1 rfl (i:=0) rfl rfl one90) rfl ?_;refine Y2 ?_;refine T_val (Ev_build rfl (bld97_0i641i64 _ _)) rfl ?_;obtain ⟨h6,hx7⟩:=gd_some hx5;obtain ⟨x8,h9,hx0⟩:=bnd_some hx7;refine T_val (Ev_look2Ok (x:=(⟨p2,p1⟩:S_arr2_int)) (i:=1) (vv:=.int .i64 (x8)) key97 Tryz.underlying90 (fun w=>by kernel_rfl) v_arr2_int_inj rfl rfl rfl rfl holds_mapE2 (isk97 ((⟨p2,p1⟩:S_arr2_int)) h6) h9 rfl) rfl ?_;refine Y8 ?_;refine Tj (γ:=Unit) hx0 (fun s5 y5=>[(0,.pointer (some ⟨g0_0,0,none⟩)),(1,.int .i64 (p1)),(2,.int .i64 (p2)),(7,.int .i64 (x3)),(9,.int .i64 (x8)),(62,.bool (s5))]) (fun s5 y5=>[.m g0_0 93 [.slice (A0_0) (p0.v.length) (c0_0),.map (some gm0_0),.map (some gm0_1)],mapE2 Tryz.prog 97 v_arr2_int v_i64 gm0_0 (p0.apex),mapE2 Tryz.prog 97 v_arr2_int v_bool gm0_1 (p0.fixed)]++Lf) (fun s5 y5=>True) (fun s5 y5 hx1 hG0=>?_) (fun j5 hx0=>?_)
 ·refine T_caseB (s:=62) rfl (fun h0=>?_) (fun h0=>?_)
  ·have hx3:=ite_t h0 hx1;refine Y8 ?_;obtain rfl:=Option.some.inj hx3;exact T_retK (rs:=[.tmp 6]) Tryz.results115 (.tmp rfl (.nil)) (Ln:=[.m g0_0 93 [.slice (A0_0) (p0.v.length) (c0_0),.map (some gm0_0),.map (some gm0_1)],mapE2 Tryz.prog 97 v_arr2_int v_i64 gm0_0 (p0.apex),mapE2 Tryz.prog 97 v_arr2_int v_bool gm0_1 (p0.fixed)]) ⟨A0_0,c0_0,rfl,rfl,Has.len' ha0',trivial⟩ (by exact .pick 0 rfl (.pick 0 rfl (.pick 0 rfl (.refl))))
  ·have hx4:=ite_bf h0 hx1;refine Y9 ?_;obtain ⟨r0,h2,hx6⟩:=bnd_some hx4;refine T_h (Wh_callK rfl (by exact .pick 0 rfl (.pick 0 rfl (.pick 0 rfl (.refl)))) (by exact (SubE.appC (hKf) (SubE.nil))) (mesh_builder_cut_ok p0 p1 p2 x3 (Has.len' ha0') h2 (K:=(K++[]))) rfl ?_);rintro _ _ ⟨A1,c1,rfl,rfl,hs0,-⟩;refine T_app3 ?_;have hs1:Has (K++[]) _ _ _ _ _ _:=Has.assoc hs0;refine Y8 ?_;obtain ⟨r1,h3,hx8⟩:=bnd_some hx6;refine T_h (Wh_callK rfl (by exact .pick 0 rfl (.pick 0 rfl (.pick 0 rfl (.refl)))) (by exact (SubE.appC (hKf) (SubE.nil))) (mesh_builder_cut_ok r0 p2 p1 x8 (Has.len' hs1) h3 (K:=(K++[]))) rfl ?_);rintro _ _ ⟨A2,c2,rfl,rfl,hs2,-⟩;refine T_app3 ?_;have hs3:Has (K++[]) _ _ _ _ _ _:=Has.assoc hs2;refine Y8 ?_;obtain ⟨r2,h5,hx9⟩:=bnd_some hx8;refine T_h (Wh_callK rfl (by exact .pick 0 rfl (.pick 0 rfl (.pick 0 rfl (.refl)))) (by exact (SubE.appC (hKf) (SubE.nil))) (mesh_builder_put_ok r1 p1 x8 x3 (Has.len' hs3) h5 (K:=(K++[]))) rfl ?_);rintro _ _ ⟨A3,c3,rfl,rfl,hs4,-⟩;refine T_app3 ?_;have hs5:Has (K++[]) _ _ _ _ _ _:=Has.assoc hs4;refine Y8 ?_;obtain ⟨r3,h7,hx69⟩:=bnd_some hx9;refine T_h (Wh_callK rfl (by exact .pick 0 rfl (.pick 0 rfl (.pick 0 rfl (.refl)))) (by exact (SubE.appC (hKf) (SubE.nil))) (mesh_builder_put_ok r2 p2 x3 x8 (Has.len' hs5) h7 (K:=(K++[]))) rfl ?_);rintro _ _ ⟨A4,c4,rfl,rfl,hs6,-⟩;refine T_app3 ?_;have hs7:Has (K++[]) _ _ _ _ _ _:=Has.assoc hs6
   refine Y8 ?_;obtain rfl:=Option.some.inj hx69;exact T_retK (rs:=[.tmp 6]) Tryz.results115 (.tmp rfl (.nil)) (Ln:=[.m g0_0 93 [.slice (A4) (r3.v.length) (c4),.map (some gm0_0),.map (some gm0_1)],mapE2 Tryz.prog 97 v_arr2_int v_i64 gm0_0 (r3.apex),mapE2 Tryz.prog 97 v_arr2_int v_bool gm0_1 (r3.fixed)]) ⟨A4,c4,rfl,rfl,Has.len' hs7,trivial⟩ (by exact .pick 0 rfl (.pick 0 rfl (.pick 0 rfl (.refl))))
 ·refine Y4 ?_;refine T_caseNB (s:=35) rfl (fun h8=>?_) (fun h8=>?_)
  ·have hx12:=ite_bf h8 hx0;(iterate 28 refine Y ?_);exact Mt true () hx12 trivial (by exact .pick 0 rfl (.pick 0 rfl (.pick 0 rfl (.refl))))
  ·have hx13:=ite_t h8 hx0;refine Y4 ?_;refine T_caseNB (s:=39) rfl (fun h14=>?_) (fun h14=>?_)
   ·have hx15:=ite_bf h14 hx13;(iterate 24 refine Y ?_);exact Mt true () hx15 trivial (by exact .pick 0 rfl (.pick 0 rfl (.pick 0 rfl (.refl))))
   ·have hx16:=ite_t h14 hx13;refine Y2 ?_;obtain ⟨r4,h18,hx19⟩:=bnd_some hx16;refine T_xG rfl rfl rfl (Wx_callL rfl (fun w1 hw1=>mesh_builder_p_ok p0 x3 (Has.len' (Has.up (L:=(K++[.m g0_0 93 [.slice (A0_0) (p0.v.length) (c0_0),.map (some gm0_0),.map (some gm0_1)]])) ha0' (SubE.app2 SubE.nil))) (Pt.m0 (List.mem_append_right _ (List.mem_cons_self))) h18 w1 (okAll (K:=(K++[.m g0_0 93 [.slice (A0_0) (p0.v.length) (c0_0),.map (some gm0_0),.map (some gm0_1)]])) (by exact (SubE.appC (SubE.tail (SubE.tail (SubE.tail (hKf)))) (sb 0))) hw1)) rfl ?_);rintro _ _ hlo ⟨rfl,rfl,-⟩;refine T_app0 ?_;refine Y2 ?_;obtain ⟨r5,h21,hx22⟩:=bnd_some hx19;refine T_xG rfl rfl rfl (Wx_callL rfl (fun w1 hw1=>mesh_builder_p_ok p0 x8 (Has.len' (Has.up (L:=(K++[.m g0_0 93 [.slice (A0_0) (p0.v.length) (c0_0),.map (some gm0_0),.map (some gm0_1)]])) ha0' (SubE.app2 SubE.nil))) (Pt.m0 (List.mem_append_right _ (List.mem_cons_self))) h21 w1 (okAll (K:=(K++[.m g0_0 93 [.slice (A0_0) (p0.v.length) (c0_0),.map (some gm0_0),.map (some gm0_1)]])) (by exact (SubE.appC (SubE.tail (SubE.tail (SubE.tail (hKf)))) (sb 0))) hw1)) rfl ?_);rintro _ _ hlo ⟨rfl,rfl,-⟩;refine T_app0 ?_;refine Y2 ?_;obtain ⟨r6,h24,hx25⟩:=bnd_some hx22;refine T_xG rfl rfl rfl (Wx_callL rfl (fun w1 hw1=>mesh_builder_p_ok p0 p1 (Has.len' (Has.up (L:=(K++[.m g0_0 93 [.slice (A0_0) (p0.v.length) (c0_0),.map (some gm0_0),.map (some gm0_1)]])) ha0' (SubE.app2 SubE.nil))) (Pt.m0 (List.mem_append_right _ (List.mem_cons_self))) h24 w1 (okAll (K:=(K++[.m g0_0 93 [.slice (A0_0) (p0.v.length) (c0_0),.map (some gm0_0),.map (some gm0_1)]])) (by exact (SubE.appC (SubE.tail (SubE.tail (SubE.tail (hKf)))) (sb 0))) hw1)) rfl ?_)
    rintro _ _ hlo ⟨rfl,rfl,-⟩;refine T_app0 ?_;obtain ⟨r7,h27,hx28⟩:=bnd_some hx25;refine T_xG rfl rfl rfl (Wx_callL rfl (fun w1 hw1=>mesh_turn_ok r4 r5 r6  h27 w1) rfl ?_);rintro _ _ hlo ⟨rfl,rfl,-⟩;refine T_app0 ?_;refine Y2 ?_;obtain ⟨r8,h30,hx31⟩:=bnd_some hx28;refine T_xG rfl rfl rfl (Wx_callL rfl (fun w1 hw1=>mesh_builder_p_ok p0 x3 (Has.len' (Has.up (L:=(K++[.m g0_0 93 [.slice (A0_0) (p0.v.length) (c0_0),.map (some gm0_0),.map (some gm0_1)]])) ha0' (SubE.app2 SubE.nil))) (Pt.m0 (List.mem_append_right _ (List.mem_cons_self))) h30 w1 (okAll (K:=(K++[.m g0_0 93 [.slice (A0_0) (p0.v.length) (c0_0),.map (some gm0_0),.map (some gm0_1)]])) (by exact (SubE.appC (SubE.tail (SubE.tail (SubE.tail (hKf)))) (sb 0))) hw1)) rfl ?_);rintro _ _ hlo ⟨rfl,rfl,-⟩;refine T_app0 ?_;refine Y2 ?_;obtain ⟨r9,h33,hx34⟩:=bnd_some hx31;refine T_xG rfl rfl rfl (Wx_callL rfl (fun w1 hw1=>mesh_builder_p_ok p0 x8 (Has.len' (Has.up (L:=(K++[.m g0_0 93 [.slice (A0_0) (p0.v.length) (c0_0),.map (some gm0_0),.map (some gm0_1)]])) ha0' (SubE.app2 SubE.nil))) (Pt.m0 (List.mem_append_right _ (List.mem_cons_self))) h33 w1 (okAll (K:=(K++[.m g0_0 93 [.slice (A0_0) (p0.v.length) (c0_0),.map (some gm0_0),.map (some gm0_1)]])) (by exact (SubE.appC (SubE.tail (SubE.tail (SubE.tail (hKf)))) (sb 0))) hw1)) rfl ?_);rintro _ _ hlo ⟨rfl,rfl,-⟩;refine T_app0 ?_;refine Y2 ?_;obtain ⟨r35,h36,hx37⟩:=bnd_some hx34;refine T_xG rfl rfl rfl (Wx_callL rfl (fun w1 hw1=>mesh_builder_p_ok p0 p2 (Has.len' (Has.up (L:=(K++[.m g0_0 93 [.slice (A0_0) (p0.v.length) (c0_0),.map (some gm0_0),.map (some gm0_1)]])) ha0' (SubE.app2 SubE.nil))) (Pt.m0 (List.mem_append_right _ (List.mem_cons_self))) h36 w1 (okAll (K:=(K++[.m g0_0 93 [.slice (A0_0) (p0.v.length) (c0_0),.map (some gm0_0),.map (some gm0_1)]])) (by exact (SubE.appC (SubE.tail (SubE.tail (SubE.tail (hKf)))) (sb 0))) hw1)) rfl ?_)
    rintro _ _ hlo ⟨rfl,rfl,-⟩;refine T_app0 ?_;obtain ⟨r38,h39,hx40⟩:=bnd_some hx37;refine T_xG rfl rfl rfl (Wx_callL rfl (fun w1 hw1=>mesh_turn_ok r8 r9 r35  h39 w1) rfl ?_);rintro _ _ hlo ⟨rfl,rfl,-⟩;refine T_app0 ?_;refine Y4 ?_;exact Mt (decide (0≤(w64 (r7*r38)))) () hx40 trivial (by exact .pick 0 rfl (.pick 0 rfl (.pick 0 rfl (.refl))))
end Go.Proofs.YtbkobeeileemjaaGreat
/- The comparators of the mesh, and the sorts by them. -/
namespace Go.Proofs.YtbkobeeileemjaaGreat
open Go Go.RowKit Go.Shelf Go.Lib Go.Sort
theorem enters_my {P:Program} {f:FuncId} (h:Enters P f):∀ (args:Array Value) (w:World),(callFunc f args).run P w = .ok (.enter f args) w:=by
 obtain ⟨fn,h1,h2,h3⟩:=h
 obtain ⟨c,hc⟩:∃ c,fn.body=some c:=by cases hb:fn.body with
  | none=>rw [hb] at h3;cases h3
  | some c=>exact ⟨c,rfl⟩
 exact enters_of h1 h2 hc
def smallI (z:Int):Prop:=-1000000000000≤z∧z≤1000000000000
instance (z:Int):Decidable (smallI z):=by unfold smallI;infer_instance
def small2 (x:S_arr2_int):Prop:=smallI x.a0∧smallI x.a1
instance (x:S_arr2_int):Decidable (small2 x):=by unfold small2;infer_instance
def cmp2 (x y:S_arr2_int):Int:=if x.a0=y.a0 then x.a1-y.a1 else x.a0-y.a0
theorem cmp2_lt (x y:S_arr2_int):cmp2 x y < 0↔x.a0 < y.a0∨x.a0=y.a0∧x.a1 < y.a1:=by unfold cmp2;split <;> omega
theorem tot2:TotOn small2 cmp2 where
 irr x _:=by rw [cmp2_lt];omega
 trans x y z _ _ _ h1 h2:=by rw [cmp2_lt] at *;omega
 tot x y _ _ h1 h2:=by
  rw [cmp2_lt] at h1 h2
  obtain ⟨x0,x1⟩:=x
  obtain ⟨y0,y1⟩:=y
  simp only at h1 h2
  rw [show x0=y0 by omega,show x1=y1 by omega]
theorem order_cmp {x y:S_arr2_int} (hx:small2 x) (hy:small2 y):mesh_order x y=some (cmp2 x y):=by
 obtain ⟨⟨_,_⟩,_,_⟩:=hx
 obtain ⟨⟨_,_⟩,_,_⟩:=hy
 unfold mesh_order cmp2
 split <;> (rw [w64_id (by omega) (by omega)])
theorem sort2_runs (l:List S_arr2_int) (hb:l.length≤1000000000) (hp:∀ x∈l,small2 x) {A:Option Addr} {m c:Nat} {t:TypeId} {gf:Nat} {cb:Array Value} (w:World) (hok:Ent.ok w (.r A m c t 2 (l.flatMap e_arr2_int)))
  (hcmp:CmpIn Tryz.prog small2 cmp2 (fun x=>.agg #[.int .i64 x.a0,.int .i64 x.a1]) A m c t 2 gf cb w (l.flatMap e_arr2_int)) (eg:Enters Tryz.prog gf):Sorts Tryz.prog 105 A m c t 2 gf cb w (l.flatMap e_arr2_int) ((sortBy cmp2 l).flatMap e_arr2_int) :=
 sortK_runs (ρ:=Tryz.laysSort2_ren) Tryz.laysSort2 (k:=2) Tryz.isAgg97 Tryz.sizeOf97 (enc:=e_arr2_int) (fun _=>rfl) (by decide) (fun x v hv=>by simp [e_arr2_int] at hv;rcases hv with rfl | rfl <;> rfl) tot2 (enters_my eg) l hb hp w hok hcmp
def small3 (_:S_arr3_int):Prop:=True
instance (x:S_arr3_int):Decidable (small3 x):=by unfold small3;infer_instance
def cmpI (x y:Int):Int:=if x < y then -1 else if y < x then 1 else 0
theorem cmpI_lt (x y:Int):cmpI x y < 0↔x < y:=by
 unfold cmpI
 split
 ·omega
 ·split <;> omega
theorem cmpI_eq (x y:Int):cmpI x y=0↔x=y:=by
 unfold cmpI
 split
 ·omega
 ·split <;> omega
def cmp3 (x y:S_arr3_int):Int:=if cmpI x.a0 y.a0=0 then if cmpI x.a1 y.a1=0 then cmpI x.a2 y.a2 else cmpI x.a1 y.a1 else cmpI x.a0 y.a0
theorem cmp3_lt (x y:S_arr3_int):cmp3 x y < 0↔x.a0 < y.a0∨x.a0=y.a0∧(x.a1 < y.a1∨x.a1=y.a1∧x.a2 < y.a2):=by
 unfold cmp3
 simp only [cmpI_eq]
 split
 ·split <;> rw [cmpI_lt] <;> omega
 ·rw [cmpI_lt];omega
theorem tot3:TotOn small3 cmp3 where
 irr x _:=by rw [cmp3_lt];omega
 trans x y z _ _ _ h1 h2:=by rw [cmp3_lt] at *;omega
 tot x y _ _ h1 h2:=by
  rw [cmp3_lt] at h1 h2
  obtain ⟨x0,x1,x2⟩:=x
  obtain ⟨y0,y1,y2⟩:=y
  simp only at h1 h2
  rw [show x0=y0 by omega,show x1=y1 by omega,show x2=y2 by omega]
theorem cmp_int (x y:Int):cmp_Compare_int_ x y=some (cmpI x y):=by
 unfold cmp_Compare_int_ cmp_isNaN_int_ cmpI
 simp only [bnd,decide_true,Bool.not_true,Bool.false_eq_true,if_false]
 split
 ·rfl
 ·split <;> rfl
theorem triangle_cmp {x y:S_arr3_int} (hx:small3 x) (hy:small3 y):mesh_builder_triangles_1 x y=some (cmp3 x y):=by
 obtain ⟨x0,x1,x2⟩:=x
 obtain ⟨y0,y1,y2⟩:=y
 unfold mesh_builder_triangles_1 slices_Compare___int_int_ jn cmp3
 simp only
 have step:∀ i:Int,slices_Compare___int_int__l2 [x0,x1,x2] [y0,y1,y2] i=if i < 3 then bnd (idx [x0,x1,x2] i) fun a=>bnd (idx [y0,y1,y2] i) fun b=>if cmpI a b=0 then some (.inl (w64 (i+1))) else some (.inr (.inr (cmpI a b))) else some (.inr (.inl ())):=by
  intro i
  unfold slices_Compare___int_int__l2
  simp only [cmp_int,List.length_cons,List.length_nil]
  by_cases h:i < 3
  ·rw [if_pos (by omega),if_pos h]
   congr 1
   funext a
   rw [if_neg (by omega)]
   rfl
  ·rw [if_neg (by omega),if_neg h]
 have w1:w64 (0+1)=1:=w64_id (by omega) (by omega)
 have w2:w64 (1+1)=2:=w64_id (by omega) (by omega)
 have w3:w64 (2+1)=3:=w64_id (by omega) (by omega)
 have i0:∀ a b c:Int,idx [a,b,c] 0=some a:=fun _ _ _=>rfl
 have i1:∀ a b c:Int,idx [a,b,c] 1=some b:=fun _ _ _=>rfl
 have i2:∀ a b c:Int,idx [a,b,c] 2=some c:=fun _ _ _=>rfl
 have s0:slices_Compare___int_int__l2 [x0,x1,x2] [y0,y1,y2] 0=if cmpI x0 y0=0 then some (.inl 1) else some (.inr (.inr (cmpI x0 y0))):=by rw [step,if_pos (by omega),w1];simp only [i0,bnd]
 have s1:slices_Compare___int_int__l2 [x0,x1,x2] [y0,y1,y2] 1=if cmpI x1 y1=0 then some (.inl 2) else some (.inr (.inr (cmpI x1 y1))):=by rw [step,if_pos (by omega),w2];simp only [i1,bnd]
 have s2:slices_Compare___int_int__l2 [x0,x1,x2] [y0,y1,y2] 2=if cmpI x2 y2=0 then some (.inl 3) else some (.inr (.inr (cmpI x2 y2))):=by rw [step,if_pos (by omega),w3];simp only [i2,bnd]
 have s3:slices_Compare___int_int__l2 [x0,x1,x2] [y0,y1,y2] 3=some (.inr (.inl ())):=by rw [step,if_neg (by omega)]
 rw [lfix_eq,s0]
 by_cases h0:cmpI x0 y0=0
 ·rw [if_pos h0,if_pos h0]
  simp only
  rw [lfix_eq,s1]
  by_cases h1:cmpI x1 y1=0
  ·rw [if_pos h1,if_pos h1]
   simp only
   rw [lfix_eq,s2]
   by_cases h2:cmpI x2 y2=0
   ·rw [if_pos h2,h2]
    simp only
    rw [lfix_eq,s3]
    simp [bnd]
   ·rw [if_neg h2]
    simp [bnd]
  ·rw [if_neg h1,if_neg h1]
   simp [bnd]
 ·rw [if_neg h0,if_neg h0]
  simp [bnd]
theorem sort3_runs (l:List S_arr3_int) (hb:l.length≤1000000000) (hp:∀ x∈l,small3 x) {A:Option Addr} {m c:Nat} {t:TypeId} {gf:Nat} {cb:Array Value} (w:World) (hok:Ent.ok w (.r A m c t 3 (l.flatMap e_arr3_int)))
  (hcmp:CmpIn Tryz.prog small3 cmp3 (fun x=>.agg #[.int .i64 x.a0,.int .i64 x.a1,.int .i64 x.a2]) A m c t 3 gf cb w (l.flatMap e_arr3_int)) (eg:Enters Tryz.prog gf):Sorts Tryz.prog 117 A m c t 3 gf cb w (l.flatMap e_arr3_int) ((sortBy cmp3 l).flatMap e_arr3_int) :=
 sortK_runs (ρ:=Tryz.laysSort3_ren) Tryz.laysSort3 (k:=3) Tryz.isAgg26 Tryz.sizeOf26 (enc:=e_arr3_int) (fun _=>rfl) (by decide) (fun x v hv=>by simp [e_arr3_int] at hv;rcases hv with rfl | rfl | rfl <;> rfl) tot3 (enters_my eg) l hb hp w hok hcmp
/-- The order of places. -/
def befV (a b:S_api_Vertex):Prop:=a.X < b.X∨a.X=b.X∧a.Y < b.Y
instance (a b:S_api_Vertex):Decidable (befV a b):=by unfold befV;infer_instance
def sameV (a b:S_api_Vertex):Prop:=a.X=b.X∧a.Y=b.Y
instance (a b:S_api_Vertex):Decidable (sameV a b):=by unfold sameV;infer_instance
def distinctV (v:List S_api_Vertex):Prop:=v.Pairwise fun a b=>¬ sameV a b
instance (v:List S_api_Vertex):Decidable (distinctV v):=by unfold distinctV;infer_instance
def okIx (v:List S_api_Vertex) (i:Int):Prop:=0≤i∧i < (v.length:Int)
instance (v:List S_api_Vertex) (i:Int):Decidable (okIx v i):=by unfold okIx;infer_instance
def cmpR (v:List S_api_Vertex) (i j:Int):Int:=match idx v i,idx v j with
 | some a,some b=>if befV a b then -1 else if befV b a then 1 else 0
 | _,_=>0
theorem okIx_get {v:List S_api_Vertex} {i:Int} (h:okIx v i):∃ (k:Nat) (hk:k < v.length),i=(k:Int)∧idx v i=some v[k]:=by
 obtain ⟨h0,h1⟩:=h
 obtain ⟨k,rfl⟩:=Int.eq_ofNat_of_zero_le h0
 have hk:k < v.length:=by omega
 exact ⟨k,hk,rfl,idx_nat hk⟩
theorem cmpR_lt {v:List S_api_Vertex} {i j:Nat} (hi:i < v.length) (hj:j < v.length):cmpR v (i:Int) (j:Int) < 0↔befV v[i] v[j]:=by
 unfold cmpR
 rw [idx_nat hi,idx_nat hj]
 simp only
 split
 ·simp_all
 ·split <;> simp_all
theorem totR {v:List S_api_Vertex} (hd:distinctV v):TotOn (okIx v) (cmpR v) where
 irr x hx:=by
  obtain ⟨i,hi,rfl,_⟩:=okIx_get hx
  rw [cmpR_lt hi hi]
  unfold befV
  omega
 trans x y z hx hy hz h1 h2:=by
  obtain ⟨i,hi,rfl,_⟩:=okIx_get hx
  obtain ⟨j,hj,rfl,_⟩:=okIx_get hy
  obtain ⟨k,hk,rfl,_⟩:=okIx_get hz
  rw [cmpR_lt hi hj] at h1
  rw [cmpR_lt hj hk] at h2
  rw [cmpR_lt hi hk]
  unfold befV at *
  omega
 tot x y hx hy h1 h2:=by
  obtain ⟨i,hi,rfl,_⟩:=okIx_get hx
  obtain ⟨j,hj,rfl,_⟩:=okIx_get hy
  rw [cmpR_lt hi hj] at h1
  rw [cmpR_lt hj hi] at h2
  have hs:sameV v[i] v[j]:=by unfold befV at h1 h2;unfold sameV;omega
  unfold distinctV at hd
  rw [List.pairwise_iff_getElem] at hd
  rcases Nat.lt_trichotomy i j with h | h | h
  ·exact absurd hs (hd i j hi hj h)
  ·rw [h]
  ·exact absurd ⟨hs.1.symm,hs.2.symm⟩ (hd j i hj hi h)
theorem before_eq (a b:S_api_Vertex):mesh_before ⟨a.X,a.Y⟩ ⟨b.X,b.Y⟩=some (decide (befV a b)):=by
 unfold mesh_before jn befV
 simp only
 by_cases h1:a.X < b.X
 ·simp [h1]
 ·by_cases h2:a.X=b.X
  ·simp [h2]
  ·simp [h1,h2]
theorem ranks_cmp (v:List S_api_Vertex) {x y:Int} (hx:okIx v x) (hy:okIx v y):mesh_ranks_1 x y v=some (cmpR v x y):=by
 obtain ⟨i,hi,rfl,ei⟩:=okIx_get hx
 obtain ⟨j,hj,rfl,ej⟩:=okIx_get hy
 unfold mesh_ranks_1 cmpR
 simp only [ei,ej,bnd,mesh_at,before_eq,decide_eq_true_eq]
 split
 ·rfl
 ·split <;> rfl
theorem sort1_ranks (v:List S_api_Vertex) (hd:distinctV v) (l:List Int) (hb:l.length≤1000000000) (hp:∀ x∈l,okIx v x) {A:Option Addr} {m c:Nat} {t:TypeId} {gf:Nat} {cb:Array Value} (w:World) (hok:Ent.ok w (.r A m c t 1 (l.flatMap e_i64)))
  (hcmp:CmpIn Tryz.prog (okIx v) (cmpR v) (fun x=>.int .i64 x) A m c t 1 gf cb w (l.flatMap e_i64)) (eg:Enters Tryz.prog gf):Sorts Tryz.prog 111 A m c t 1 gf cb w (l.flatMap e_i64) ((sortBy (cmpR v) l).flatMap e_i64) :=
 sort1_runs (ρ:=Tryz.laysSort1_ren) Tryz.laysSort1 (enc:=Value.int .i64) (fun _=>rfl) (totR hd) (enters_my eg) l hb hp w hok hcmp
end Go.Proofs.YtbkobeeileemjaaGreat
