/- Walks of the program, with their plain functions: inputs, comparators. -/
import Derived.Test.YtbkobeeileemjaaGreatD1
namespace Go.Proofs.YtbkobeeileemjaaGreat
open Go Go.RowKit
theorem slc22:SliceOf Tryz.prog 22 34 4:=.mk Tryz.underlying22 (show Tryz.prog.info? 34=some Tryz.t34 from by kernel_rfl) (by kernel_rfl)
instance:SliceI Tryz.prog 22 34 4:=⟨slc22⟩
theorem zer34:ZeroOf Tryz.prog 34 [.int .i64 (0),.int .i64 (0),.int .i64 (0),.int .i64 (0)]:=⟨_,Tryz.zeroValue34,rfl⟩
instance:ZeroI Tryz.prog 34 [.int .i64 (0),.int .i64 (0),.int .i64 (0),.int .i64 (0)]:=⟨zer34⟩
theorem slc23:SliceOf Tryz.prog 23 97 2:=.mk Tryz.underlying23 (show Tryz.prog.info? 97=some Tryz.t97 from by kernel_rfl) (by kernel_rfl)
instance:SliceI Tryz.prog 23 97 2:=⟨slc23⟩
theorem slc48:SliceOf Tryz.prog 48 3 1:=.mk Tryz.underlying48 (show Tryz.prog.info? 3=some Tryz.t3 from by kernel_rfl) (by kernel_rfl)
instance:SliceI Tryz.prog 48 3 1:=⟨slc48⟩
theorem arr26:ArrOf Tryz.prog 26 3 1:=.mk Tryz.underlying26 (show Tryz.prog.info? 3=some Tryz.t3 from by kernel_rfl) (by kernel_rfl)
instance:ArrI Tryz.prog 26 3 1:=⟨arr26⟩
theorem one22:OneOf Tryz.prog 22:=.mk Tryz.underlying22 rfl (show Tryz.prog.info? 22=some Tryz.t22 from by kernel_rfl) (by kernel_rfl)
instance:OneI Tryz.prog 22:=⟨one22⟩
instance:UndI Tryz.prog 22 (.slice 34):=⟨Tryz.underlying22⟩
instance:UndI Tryz.prog 137 (.map 28 4):=⟨Tryz.underlying137⟩
noncomputable def mesh_vertices_l4 (p0:List S_api_Vertex):Int→Option (Sum Int (Sum Unit Int)):=fun s0 =>
 if s0 < ((((p0).length:Nat):Int)) then (bnd (idx p0 s0) fun x0 =>
 bnd (mesh_good x0) fun r0 =>
 if r0=true then (some (.inl (w64 (s0+1))))
 else (some (.inr (.inr (60)))))
 else (some (.inr (.inl ())))
noncomputable def mesh_vertices_l11 (p0:List S_api_Vertex):((List (S_api_XY × Bool)) × Int)→Option (Sum ((List (S_api_XY × Bool)) × Int) (Sum Unit Int)):=fun s0 =>
 if s0.2 < ((((p0).length:Nat):Int)) then (bnd (idx p0 s0.2) fun x0 =>
 bnd (mesh_at x0) fun r0 =>
 gd ((-9223372036854775808≤r0.X∧r0.X≤9223372036854775807)∧(-9223372036854775808≤r0.Y∧r0.Y≤9223372036854775807)) <|
 bnd (some ((mget s0.1 r0).getD false)) fun x1 =>
 if x1=true then (some (.inr (.inr (61))))
 else (bnd (mesh_at x0) fun r1 =>
 gd ((-9223372036854775808≤r1.X∧r1.X≤9223372036854775807)∧(-9223372036854775808≤r1.Y∧r1.Y≤9223372036854775807)) <|
 gd ((s0.1).length < 9223372036854775807) <|
 some (.inl (mput s0.1 r1 true,w64 (s0.2+1)))))
 else (some (.inr (.inl ())))
noncomputable def mesh_vertices (p0:List S_api_Vertex):Option Int :=
 if 1024 < ((((p0).length:Nat):Int)) then (some 2)
 else (jn (fun (_:Unit) =>
 jn (fun (_:Unit) =>
 some 0)
 (fun j0=>bnd (lfix (mesh_vertices_l11 p0) (([]:List (S_api_XY × Bool)),0)) fun t0 =>
 (match t0 with
 | (.inl z0)=>j0 z0
 | (.inr (z0))=>some z0
 )))
 (fun j5=>bnd (lfix (mesh_vertices_l4 p0) 0) fun t1 =>
 (match t1 with
 | (.inl z1)=>j5 z1
 | (.inr (z1))=>some z1
 )))
def e_api_Vertex (x:S_api_Vertex):List Value:=[.int .i64 (x.X),.int .i64 (x.Y),.int .i64 (x.Z.Lo),.int .i64 (x.Z.Hi)]
instance (x0:Int) (x1:Int) (x2:Int) (x3:Int):DecI e_api_Vertex [.int .i64 (x0),.int .i64 (x1),.int .i64 (x2),.int .i64 (x3)] (⟨x0,x1,⟨x2,x3⟩⟩):=⟨rfl⟩
instance:EncI 34 e_api_Vertex:=⟨trivial⟩
def v_arr2_int (x:S_arr2_int):Value:=.agg #[.int .i64 (x.a0),.int .i64 (x.a1)]
theorem v_arr2_int_inj (x y:S_arr2_int) (h:v_arr2_int x=v_arr2_int y):x=y:=by
 rcases x with ⟨_,_⟩;rcases y with ⟨_,_⟩;simp [v_arr2_int] at h;simp [h]
instance (x:S_arr2_int):UnfI v_arr2_int x (.agg #[.int .i64 (x.a0),.int .i64 (x.a1)]):=⟨rfl⟩
instance (x0:Int) (x1:Int):DecVI v_arr2_int (.agg #[.int .i64 (x0),.int .i64 (x1)]) (⟨x0,x1⟩):=⟨rfl⟩
instance:ValI Tryz.prog 97 v_arr2_int ((⟨0,0⟩:S_arr2_int)):=⟨v_arr2_int_inj,fun w=>by kernel_rfl⟩
theorem wide97:(match Tryz.prog.underlying 97 with | some (.array _ _) | some (.struct _)=>true | _=>false)=true:=by kernel_rfl
set_option maxRecDepth 100000 in
theorem key97:Maps.Keyed Tryz.prog 97:=Maps.Keyed.of_law (deep_law_laid laidOut3 (m:=3) (by omega) (of_decide_eq_true (by kernel_rfl)) (by kernel_rfl) wide97)
theorem isk97 (x:S_arr2_int) (h:(-9223372036854775808≤x.a0∧x.a0≤9223372036854775807)∧(-9223372036854775808≤x.a1∧x.a1≤9223372036854775807)):(keyOf Tryz.prog 97 (v_arr2_int x)).isSome=true:=by
 refine isk_array (zs:=[x.a0,x.a1]) (d:=374) (by kernel_rfl) Tryz.underlying97 (by kernel_rfl) rfl Tryz.underlying3 (by kernel_rfl) (by kernel_rfl) (fun z hz=>?_)
 simp only [List.mem_cons,List.not_mem_nil,or_false] at hz
 rcases hz with rfl | rfl
 ·exact wf_i64 h.1
 ·exact wf_i64 h.2
instance:KeyI Tryz.prog 97 v_arr2_int (fun x=>(-9223372036854775808≤x.a0∧x.a0≤9223372036854775807)∧(-9223372036854775808≤x.a1∧x.a1≤9223372036854775807)):=⟨key97,v_arr2_int_inj,isk97⟩
instance:UndI Tryz.prog 91 (.map 97 4):=⟨Tryz.underlying91⟩
instance:UndI Tryz.prog 23 (.slice 97):=⟨Tryz.underlying23⟩
def e_arr2_int (x:S_arr2_int):List Value:=[.int .i64 (x.a0),.int .i64 (x.a1)]
instance (x0:Int) (x1:Int):DecI e_arr2_int [.int .i64 (x0),.int .i64 (x1)] (⟨x0,x1⟩):=⟨rfl⟩
instance:EncI 97 e_arr2_int:=⟨trivial⟩
noncomputable def mesh_lineErrors_l3 (p1:List S_arr2_int):((List (S_arr2_int × Bool)) × Int)→Option (Sum ((List (S_arr2_int × Bool)) × Int) Unit):=fun s6 =>
 if s6.2 < ((((p1).length:Nat):Int)) then (none)
 else (some (.inr ()))
noncomputable def mesh_lineErrors_l10 (p1:List S_arr2_int):Int→Option (Sum Int Unit):=fun s0 =>
 if s0 < ((((p1).length:Nat):Int)) then (none)
 else (some (.inr ()))
noncomputable def mesh_lineErrors (_:List S_api_Vertex) (p1:List S_arr2_int):Option Int :=
 jn (fun (_:Unit) =>
 jn (fun (_:Unit) =>
 some 0)
 (fun j9=>bnd (lfix (mesh_lineErrors_l10 p1) 0) fun t0 =>
 j9 t0))
 (fun j3=>bnd (lfix (mesh_lineErrors_l3 p1) (([]:List (S_arr2_int × Bool)),0)) fun t6 =>
 j3 t6)
noncomputable def cmp_isNaN_int_ (p0:Int):Option Bool :=
 some (!(decide (p0=p0)))
noncomputable def cmp_Compare_int_ (p0:Int) (p1:Int):Option Int :=
 bnd (cmp_isNaN_int_ p0) fun r1 =>
 bnd (cmp_isNaN_int_ p1) fun r4 =>
 if r1=true then (if r4=true then (some 0)
 else (some (-1)))
 else (if r4=true then (some 1)
 else (if p0 < p1 then (some (-1))
 else (if p1 < p0 then (some 1)
 else (some 0))))
instance:UndI Tryz.prog 48 (.slice 3):=⟨Tryz.underlying48⟩
noncomputable def slices_Compare___int_int__l2 (p0:List Int) (p1:List Int):Int→Option (Sum Int (Sum Unit Int)):=fun s0 =>
 if s0 < ((((p0).length:Nat):Int)) then (bnd (idx p0 s0) fun x0 =>
 if ((((p1).length:Nat):Int))≤s0 then (some (.inr (.inr (1))))
 else (bnd (idx p1 s0) fun x1 =>
 bnd (cmp_Compare_int_ x0 x1) fun r0 =>
 if r0=0 then (some (.inl (w64 (s0+1))))
 else (some (.inr (.inr (r0))))))
 else (some (.inr (.inl ())))
noncomputable def slices_Compare___int_int_ (p0:List Int) (p1:List Int):Option Int :=
 jn (fun (_:Unit) =>
 if ((((p0).length:Nat):Int)) < ((((p1).length:Nat):Int)) then (some (-1))
 else (some 0))
 (fun j2=>bnd (lfix (slices_Compare___int_int__l2 p0 p1) 0) fun t0 =>
 (match t0 with
 | (.inl z0)=>j2 z0
 | (.inr (z0))=>some z0
 ))
structure S_arr3_int where
 a0:Int
 a1:Int
 a2:Int
noncomputable def mesh_builder_triangles_1 (p0:S_arr3_int) (p1:S_arr3_int):Option Int :=
 bnd (slices_Compare___int_int_ ([p0.a0,p0.a1,p0.a2]) ([p1.a0,p1.a1,p1.a2])) fun r5 =>
 some r5
noncomputable def mesh_ranks_1 (p0:Int) (p1:Int) (p2:List S_api_Vertex):Option Int :=
 bnd (idx p2 p0) fun x1 =>
 bnd (idx p2 p1) fun x0 =>
 bnd (mesh_at x1) fun r0 =>
 bnd (mesh_at x0) fun r1 =>
 bnd (mesh_before r0 r1) fun r2 =>
 if r2=true then (some (-1))
 else (bnd (idx p2 p1) fun x2 =>
 bnd (idx p2 p0) fun x3 =>
 bnd (mesh_at x2) fun r3 =>
 bnd (mesh_at x3) fun r4 =>
 bnd (mesh_before r3 r4) fun r5 =>
 if r5=true then (some 1)
 else (some 0))
def e_arr3_int (x:S_arr3_int):List Value:=[.int .i64 (x.a0),.int .i64 (x.a1),.int .i64 (x.a2)]
instance (x0:Int) (x1:Int) (x2:Int):DecI e_arr3_int [.int .i64 (x0),.int .i64 (x1),.int .i64 (x2)] (⟨x0,x1,x2⟩):=⟨rfl⟩
instance:EncI 26 e_arr3_int:=⟨trivial⟩
set_option maxHeartbeats 1000000 in
set_option maxRecDepth 100000 in
instance mesh_vertices_c (p0:List S_api_Vertex):Con (mesh_vertices p0) Tryz.prog 51 (fun K vs=>∃ (A0_0:Option Addr) (c0_0:Nat),vs=[.slice (A0_0) ((p0).length) (c0_0)]∧Has K A0_0 (p0).length c0_0 4 e_api_Vertex (p0)∧True) (fun _ r=>fun v Ln=>v = .int .i64 (r)∧Ln=[]∧True):=⟨by
 rintro K _ r ⟨A0_0,c0_0,rfl,ha0,-⟩ hx w hK;replace ha0:=Has.lo ha0 hK;unfold mesh_vertices at hx;refine CtS Tryz.ntmps51 Tryz.results51 ?_;refine pre ?_;intros;rename_i hx
 refine Cq1 (s:=10) hx rfl (fun _ hx=>?_) (fun _ hx=>?_)
 ·exact au
 ·refine pre ?_;intros;rename_i hx
  apply Jr (γ:=Unit) hx [0] (fun s5 y5 f=>f) [999] (fun s5 y5 l=>l);exact kk
  ·intro s5 y5 hx;refine pre ?_;intros;rename_i hx
   refine T_seq ?_;refine pre ?_;intros;rename_i hx
   apply Jr (γ:=Unit) hx [] (fun s0 y0 f=>f) [999] (fun s0 y0 l=>l);exact kk
   ·intro s0 y0 hx;exact au
   ·intro _ hx;refine pre ?_;intros;rename_i hx
    apply Lr (γ:=(Nat)) hx [22,23] (fun s1 y1 f=>(5,.map (some y1))::(24,.int .i64 (s1.2))::f) [999] (fun s1 y1 l=>mapE2 Tryz.prog 28 v_api_XY v_bool y1 (s1.1)::l) _;exact kk;exact sk;intro s1 y1 x0 hx _;unfold mesh_vertices_l11 at hx
    exact au
  ·intro _ hx;refine pre ?_;intros;rename_i hx
   apply Lr (γ:=Unit) hx [0,11,12] (fun s2 y2 f=>(13,.int .i64 (s2))::f) [999] (fun s2 y2 l=>l) ();exact kk;exact sk;intro s2 y2 x1 hx _;unfold mesh_vertices_l4 at hx
   exact au⟩
theorem mesh_vertices_ok (p0:List S_api_Vertex) {K:List Ent} {A0_0:Option Addr} {c0_0:Nat} (ha0:Has K A0_0 (p0).length c0_0 4 e_api_Vertex (p0)) {r:Int} (hx:mesh_vertices p0=some r) (w:World) (hK:∀ e∈K,Ent.ok w e):CtL Tryz.prog 51 [.slice (A0_0) ((p0).length) (c0_0)] w fun v Ln=>v = .int .i64 (r)∧Ln=[]∧True:=(mesh_vertices_c p0).h K _ _ ⟨_,_,rfl,ha0,trivial⟩ hx w hK
set_option maxHeartbeats 1000000 in
set_option maxRecDepth 100000 in
instance mesh_lineErrors_c (p0:List S_api_Vertex) (p1:List S_arr2_int):Con (mesh_lineErrors p0 p1) Tryz.prog 52 (fun K vs=>∃ (A0_0:Option Addr) (c0_0:Nat) (A0_1:Option Addr) (c0_1:Nat),vs=[.slice (A0_0) ((p0).length) (c0_0),.slice (A0_1) ((p1).length) (c0_1)]∧Has K A0_0 (p0).length c0_0 4 e_api_Vertex (p0)∧Has K A0_1 (p1).length c0_1 2 e_arr2_int (p1)∧True) (fun _ r=>fun v Ln=>v = .int .i64 (r)∧Ln=[]∧True):=⟨by
 rintro K _ r ⟨A0_0,c0_0,A0_1,c0_1,rfl,ha0,ha1,-⟩ hx w hK;replace ha0:=Has.lo ha0 hK;replace ha1:=Has.lo ha1 hK;unfold mesh_lineErrors at hx;refine CtS Tryz.ntmps52 Tryz.results52 ?_;refine pre ?_;intros;rename_i hx
 refine T_seq ?_;refine pre ?_;intros;rename_i hx
 refine T_seq ?_;refine pre ?_;intros;rename_i hx
 apply Jr (γ:=Unit) hx [0,1] (fun s3 y3 f=>f) [999] (fun s3 y3 l=>l);exact kk
 ·intro s3 y3 hx;apply Jr (γ:=Unit) hx [] (fun s9 y9 f=>f) [999] (fun s9 y9 l=>l);exact kk
  ·intro s9 y9 hx;exact au
  ·intro _ hx;refine pre ?_;intros;rename_i hx
   apply Lr (γ:=Unit) hx [0,1,66,67] (fun s0 y0 f=>(68,.int .i64 (s0))::f) [999] (fun s0 y0 l=>l) ();exact kk;exact sk;intro s0 y0 x0 hx _;unfold mesh_lineErrors_l10 at hx
   exact au
 ·intro _ hx;refine pre ?_;intros;rename_i hx
  apply Lr (γ:=(Nat)) hx [0,1,15,16] (fun s6 y6 f=>(5,.map (some y6))::(17,.int .i64 (s6.2))::f) [999] (fun s6 y6 l=>mapE2 Tryz.prog 97 v_arr2_int v_bool y6 (s6.1)::l) _;exact kk;exact sk;intro s6 y6 x6 hx _;unfold mesh_lineErrors_l3 at hx
  exact au⟩
theorem mesh_lineErrors_ok (p0:List S_api_Vertex) (p1:List S_arr2_int) {K:List Ent} {A0_0:Option Addr} {c0_0:Nat} {A0_1:Option Addr} {c0_1:Nat} (ha0:Has K A0_0 (p0).length c0_0 4 e_api_Vertex (p0)) (ha1:Has K A0_1 (p1).length c0_1 2 e_arr2_int (p1)) {r:Int} (hx:mesh_lineErrors p0 p1=some r) (w:World) (hK:∀ e∈K,Ent.ok w e):CtL Tryz.prog 52 [.slice (A0_0) ((p0).length) (c0_0),.slice (A0_1) ((p1).length) (c0_1)] w fun v Ln=>v = .int .i64 (r)∧Ln=[]∧True:=(mesh_lineErrors_c p0 p1).h K _ _ ⟨_,_,_,_,rfl,ha0,ha1,trivial⟩ hx w hK
set_option maxRecDepth 100000 in
instance cmp_isNaN_int__c (p0:Int):Con (cmp_isNaN_int_ p0) Tryz.prog 273 (fun _ vs=>vs=[.int .i64 (p0)]) (fun _ r=>fun v Ln=>v = .bool (r)∧Ln=[]∧True):=⟨by
 rintro _ _ r rfl hx w hK;unfold cmp_isNaN_int_ at hx;refine CtS Tryz.ntmps273 Tryz.results273 ?_;exact au⟩
set_option maxHeartbeats 1000000 in
set_option maxRecDepth 100000 in
instance cmp_Compare_int__c (p0:Int) (p1:Int):Con (cmp_Compare_int_ p0 p1) Tryz.prog 187 (fun _ vs=>vs=[.int .i64 (p0),.int .i64 (p1)]) (fun _ r=>fun v Ln=>v = .int .i64 (r)∧Ln=[]∧True):=⟨by
 rintro _ _ r rfl hx w hK;unfold cmp_Compare_int_ at hx;refine CtS Tryz.ntmps187 Tryz.results187 ?_;exact au⟩
set_option maxHeartbeats 1000000 in
set_option maxRecDepth 100000 in
instance slices_Compare___int_int__c (p0:List Int) (p1:List Int):Con (slices_Compare___int_int_ p0 p1) Tryz.prog 119 (fun K vs=>∃ (A0_0:Option Addr) (c0_0:Nat) (A0_1:Option Addr) (c0_1:Nat),vs=[.slice (A0_0) ((p0).length) (c0_0),.slice (A0_1) ((p1).length) (c0_1)]∧Has K A0_0 (p0).length c0_0 1 e_i64 (p0)∧Has K A0_1 (p1).length c0_1 1 e_i64 (p1)∧True) (fun _ r=>fun v Ln=>v = .int .i64 (r)∧Ln=[]∧True):=⟨by
 rintro K _ r ⟨A0_0,c0_0,A0_1,c0_1,rfl,ha0,ha1,-⟩ hx w hK;replace ha0:=Has.lo ha0 hK;replace ha1:=Has.lo ha1 hK;unfold slices_Compare___int_int_ at hx;refine CtS Tryz.ntmps119 Tryz.results119 ?_;refine pre ?_;intros;rename_i hx
 refine T_seq ?_;refine pre ?_;intros;rename_i hx
 apply Jr (γ:=Unit) hx [0,1] (fun s2 y2 f=>f) [999] (fun s2 y2 l=>l);exact kk
 ·intro s2 y2 hx;exact au
 ·intro _ hx;refine pre ?_;intros;rename_i hx
  apply Lr (γ:=Unit) hx [0,1,9,10] (fun s0 y0 f=>(11,.int .i64 (s0))::f) [999] (fun s0 y0 l=>l) ();exact kk;exact sk;intro s0 y0 x0 hx _;unfold slices_Compare___int_int__l2 at hx
  exact au⟩
theorem slices_Compare___int_int__ok (p0:List Int) (p1:List Int) {K:List Ent} {A0_0:Option Addr} {c0_0:Nat} {A0_1:Option Addr} {c0_1:Nat} (ha0:Has K A0_0 (p0).length c0_0 1 e_i64 (p0)) (ha1:Has K A0_1 (p1).length c0_1 1 e_i64 (p1)) {r:Int} (hx:slices_Compare___int_int_ p0 p1=some r) (w:World) (hK:∀ e∈K,Ent.ok w e):CtL Tryz.prog 119 [.slice (A0_0) ((p0).length) (c0_0),.slice (A0_1) ((p1).length) (c0_1)] w fun v Ln=>v = .int .i64 (r)∧Ln=[]∧True:=(slices_Compare___int_int__c p0 p1).h K _ _ ⟨_,_,_,_,rfl,ha0,ha1,trivial⟩ hx w hK
set_option maxRecDepth 100000 in
theorem mesh_builder_triangles_1_ok (p0:S_arr3_int) (p1:S_arr3_int)  {r:Int} (hx:mesh_builder_triangles_1 p0 p1=some r) (w:World):CtL Tryz.prog 118 [.agg #[.int .i64 (p0.a0),.int .i64 (p0.a1),.int .i64 (p0.a2)],.agg #[.int .i64 (p1.a0),.int .i64 (p1.a1),.int .i64 (p1.a2)]] w fun v Ln=>v = .int .i64 (r)∧Ln=[]∧True:=by
 refine CtL.mk 8 Tryz.func118 rfl Tryz.ntmps118 (by kernel_rfl) rfl ?_;show T 8 _ [(0,.agg #[.int .i64 (p0.a0),.int .i64 (p0.a1),.int .i64 (p0.a2)]),(1,.agg #[.int .i64 (p1.a0),.int .i64 (p1.a1),.int .i64 (p1.a2)])] _;unfold mesh_builder_triangles_1 at hx;refine Y2 ?_;refine T_x (Wx_box rfl rfl rfl (fun g1=>?_));refine T_x (Wx_box rfl rfl rfl (fun g2=>?_));refine Y4 ?_;refine T_dr [0,0,2,2] (.q 0 (.q 1 (.e 2 (.e 3 (.done) (.stop)) (.stop)))) mixed (by kernel_rfl) (by kernel_rfl) ?_;refine P_p rfl rfl (Ev_arrS rfl arr26 rfl) rfl ?_;refine P_p rfl rfl (Ev_arrS rfl arr26 rfl) rfl ?_;have hs3:Has [.m g1 26 [.int .i64 (p0.a0),.int .i64 (p0.a1),.int .i64 (p0.a2)]] (some ⟨g1,0,none⟩) 3 3 1 e_i64 [p0.a0,p0.a1,p0.a2]:=Has.ofM (fun _ _=>rfl) rfl (by decide) rfl;have hs4:Has [.m g2 26 [.int .i64 (p1.a0),.int .i64 (p1.a1),.int .i64 (p1.a2)]] (some ⟨g2,0,none⟩) 3 3 1 e_i64 [p1.a0,p1.a1,p1.a2]:=Has.ofM (fun _ _=>rfl) rfl (by decide) rfl;obtain ⟨r5,h6,hx7⟩:=bnd_some hx;refine Pc (fun w1 hw1=>slices_Compare___int_int__ok ([p0.a0,p0.a1,p0.a2]) ([p1.a0,p1.a1,p1.a2]) (Has.len' (Has.up (L:=([.m g1 26 [.int .i64 (p0.a0),.int .i64 (p0.a1),.int .i64 (p0.a2)],.m g2 26 [.int .i64 (p1.a0),.int .i64 (p1.a1),.int .i64 (p1.a2)]]:List Ent)) hs3 (sb 0))) (Has.len' (Has.up (L:=([.m g1 26 [.int .i64 (p0.a0),.int .i64 (p0.a1),.int .i64 (p0.a2)],.m g2 26 [.int .i64 (p1.a0),.int .i64 (p1.a1),.int .i64 (p1.a2)]]:List Ent)) hs4 (sb 1))) h6 w1 (okAll (K:=([.m g1 26 [.int .i64 (p0.a0),.int .i64 (p0.a1),.int .i64 (p0.a2)],.m g2 26 [.int .i64 (p1.a0),.int .i64 (p1.a1),.int .i64 (p1.a2)]]:List Ent)) (by exact (SubE.cons2 (i:=1) rfl (sb 0))) hw1)) ?_
 refine P_x rfl (Wx_val (Ev_assign rfl) rfl ?_) ?_;rotate_left;exact P_stop;refine Y3 ?_;obtain rfl:=Option.some.inj hx7;exact T_retP (rs:=[.tmp 4]) Tryz.results118 (.tmp rfl (.nil)) (Ln:=[]) ⟨rfl,rfl,trivial⟩ (loNil) (by exact .drop 0 rfl (.drop 0 rfl (.refl)))
set_option maxRecDepth 100000 in
instance mesh_builder_triangles_1_c (p0:S_arr3_int) (p1:S_arr3_int):Con (mesh_builder_triangles_1 p0 p1) Tryz.prog 118 (fun _ vs=>vs=[.agg #[.int .i64 (p0.a0),.int .i64 (p0.a1),.int .i64 (p0.a2)],.agg #[.int .i64 (p1.a0),.int .i64 (p1.a1),.int .i64 (p1.a2)]]) (fun _ r=>fun v Ln=>v = .int .i64 (r)∧Ln=[]∧True):=⟨by
 rintro _ _ r rfl hx w hK;exact mesh_builder_triangles_1_ok p0 p1 hx w⟩
set_option maxRecDepth 100000 in
theorem mesh_ranks_1_ok (p0:Int) (p1:Int) (p2:List S_api_Vertex) {K:List Ent} {A0_0:Option Addr} {c0_0:Nat} (ha0:Has K A0_0 p2.length c0_0 4 e_api_Vertex (p2)) {g0_2:Nat} (hp2:Pt K g0_2 0 [.slice (A0_0) (p2.length) (c0_0)]) {r:Int} (hx:mesh_ranks_1 p0 p1 p2=some r) (w:World) (hK:∀ e∈K,Ent.ok w e):CtL Tryz.prog 112 [.int .i64 (p0),.int .i64 (p1),.pointer (some ⟨g0_2,0,none⟩)] w fun v Ln=>v = .int .i64 (r)∧Ln=[]∧True:=by
 have ha0':=Has.up0 ha0;have hp2':=Pt.low (E:=[]) (Pt.up0 hp2) hK;refine CtL.mk 28 Tryz.func112 rfl Tryz.ntmps112 (by kernel_rfl) rfl ?_;show T 28 _ [(0,.int .i64 (p0)),(1,.int .i64 (p1)),(2,.pointer (some ⟨g0_2,0,none⟩))] _;unfold mesh_ranks_1 at hx;refine Y7 ?_;refine T_dr [1,0,0,1,2,1,0,0,1,2,2] (.q 0 (.q 1 (.q 2 (.q 3 (.q 5 (.q 6 (.q 7 (.q 8 (.e 4 (.e 9 (.e 10 (.done) (.stop)) (.stop)) (.stop)))))))))) mixed (by kernel_rfl) (by kernel_rfl) ?_;refine P_q rfl rfl (Ev_loadP0 rfl hp2' (sb 0) rfl one22) rfl ?_;refine Y ?_;obtain ⟨x1,h2,hx3⟩:=bnd_some hx;refine P_il (Has.low (E:=[]) ha0' hK) h2 slc22 agg34 (sb 0) (fun b4 o5=>?_);refine P_q rfl rfl (Ev_loadP0 rfl hp2' (sb 0) rfl one22) rfl ?_;refine Y ?_;obtain ⟨x0,h0,hx0⟩:=bnd_some hx3;refine P_il (Has.low (E:=[]) ha0' hK) h0 slc22 agg34 (sb 0) (fun b0 o0=>?_);obtain ⟨r0,h1,hx1⟩:=bnd_some hx0;refine Pc (fun w1 hw1=>mesh_at_ok x1  h1 w1) ?_;obtain ⟨r1,h3,hx2⟩:=bnd_some hx1;refine Pc (fun w1 hw1=>mesh_at_ok x0  h3 w1) ?_;obtain ⟨r2,h4,hx4⟩:=bnd_some hx2;refine Pc (fun w1 hw1=>mesh_before_ok r0 r1  h4 w1) ?_;refine Y2 ?_;refine T_caseB (s:=16) rfl (fun h5=>?_) (fun h5=>?_)
 ·have hx5:=ite_t h5 hx4;refine Y8 ?_;obtain rfl:=Option.some.inj hx5;exact T_retP (rs:=[.tmp 5]) Tryz.results112 (.tmp rfl (.nil)) (Ln:=[]) ⟨rfl,rfl,trivial⟩ (loNil) (by exact .refl)
 ·have hx6:=ite_bf h5 hx4;refine Y5 ?_;refine T_dr [1,0,0,1,2,1,0,0,1,2,2] (.q 0 (.q 1 (.q 2 (.q 3 (.q 5 (.q 6 (.q 7 (.q 8 (.e 4 (.e 9 (.e 10 (.done) (.stop)) (.stop)) (.stop)))))))))) mixed (by kernel_rfl) (by kernel_rfl) ?_;refine P_q rfl rfl (Ev_loadP0 rfl hp2' (sb 0) rfl one22) rfl ?_;refine Y ?_;obtain ⟨x2,h6,hx7⟩:=bnd_some hx6;refine P_il (Has.low (E:=[]) ha0' hK) h6 slc22 agg34 (sb 0) (fun b1 o1=>?_);refine P_q rfl rfl (Ev_loadP0 rfl hp2' (sb 0) rfl one22) rfl ?_;refine Y ?_;obtain ⟨x3,h7,hx8⟩:=bnd_some hx7;refine P_il (Has.low (E:=[]) ha0' hK) h7 slc22 agg34 (sb 0) (fun b2 o2=>?_);obtain ⟨r3,h8,hx9⟩:=bnd_some hx8;refine Pc (fun w1 hw1=>mesh_at_ok x2  h8 w1) ?_;obtain ⟨r4,h9,hx62⟩:=bnd_some hx9;refine Pc (fun w1 hw1=>mesh_at_ok x3  h9 w1) ?_;obtain ⟨r5,h64,hx65⟩:=bnd_some hx62;refine Pc (fun w1 hw1=>mesh_before_ok r3 r4  h64 w1) ?_;refine Y2 ?_;refine T_caseB (s:=27) rfl (fun h66=>?_) (fun h66=>?_)
  ·have hx67:=ite_t h66 hx65;refine Y8 ?_;obtain rfl:=Option.some.inj hx67;exact T_retP (rs:=[.tmp 5]) Tryz.results112 (.tmp rfl (.nil)) (Ln:=[]) ⟨rfl,rfl,trivial⟩ (loNil) (by exact .refl)
  ·have hx68:=ite_bf h66 hx65;refine Y9 ?_;obtain rfl:=Option.some.inj hx68;exact T_retP (rs:=[.tmp 5]) Tryz.results112 (.tmp rfl (.nil)) (Ln:=[]) ⟨rfl,rfl,trivial⟩ (loNil) (by exact .refl)
end Go.Proofs.YtbkobeeileemjaaGreat
