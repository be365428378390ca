/- Walks of the program, with their plain functions: the lowest ones of groups. -/
import Derived.Test.YtbkobeeileemjaaGreatJ1
namespace Go.Proofs.YtbkobeeileemjaaGreat
open Go Go.RowKit
theorem one47:OneOf Tryz.prog 47:=.mk Tryz.underlying47 rfl (show Tryz.prog.info? 47=some Tryz.t47 from by kernel_rfl) (by kernel_rfl)
instance:OneI Tryz.prog 47:=⟨one47⟩
theorem one186:OneOf Tryz.prog 186:=.mk Tryz.underlying186 rfl (show Tryz.prog.info? 186=some Tryz.t186 from by kernel_rfl) (by kernel_rfl)
instance:OneI Tryz.prog 186:=⟨one186⟩
theorem bls82_1_0ai64i64 (x0:Int) (x1:Int):BuildSliceOf Tryz.prog 82 1 [(0,.agg #[.int .i64 x0,.int .i64 x1])] 28 [.int .i64 x0,.int .i64 x1]:=fun w=>by kernel_rfl
instance (x0:Int) (x1:Int):BuildSI Tryz.prog 82 1 [(0,.agg #[.int .i64 x0,.int .i64 x1])] 28 [.int .i64 x0,.int .i64 x1]:=⟨bls82_1_0ai64i64 _ _⟩
theorem elm82:ElemOf Tryz.prog 82 28 2 16:=⟨Tryz.underlying82,⟨Tryz.t28,.agg #[.int .i64 (0),.int .i64 (0)],by kernel_rfl,by kernel_rfl,by kernel_rfl,by kernel_rfl,rfl⟩,by decide⟩
instance:ElemI Tryz.prog 82 28 2 16:=⟨elm82⟩
def v_api_XY (x:S_api_XY):Value:=.agg #[.int .i64 (x.X),.int .i64 (x.Y)]
theorem v_api_XY_inj (x y:S_api_XY) (h:v_api_XY x=v_api_XY y):x=y:=by
 rcases x with ⟨_,_⟩;rcases y with ⟨_,_⟩;simp [v_api_XY] at h;simp [h]
instance (x:S_api_XY):UnfI v_api_XY x (.agg #[.int .i64 (x.X),.int .i64 (x.Y)]):=⟨rfl⟩
instance (x0:Int) (x1:Int):DecVI v_api_XY (.agg #[.int .i64 (x0),.int .i64 (x1)]) (⟨x0,x1⟩):=⟨rfl⟩
instance:ValI Tryz.prog 28 v_api_XY ((⟨0,0⟩:S_api_XY)):=⟨v_api_XY_inj,fun w=>by kernel_rfl⟩
theorem laidOut3:laidOutB Tryz.prog=true:=by kernel_rfl
theorem wide28:(match Tryz.prog.underlying 28 with | some (.array _ _) | some (.struct _)=>true | _=>false)=true:=by kernel_rfl
set_option maxRecDepth 100000 in
theorem key28:Maps.Keyed Tryz.prog 28:=Maps.Keyed.of_law (deep_law_laid laidOut3 (m:=3) (by omega) (of_decide_eq_true (by kernel_rfl)) (by kernel_rfl) wide28)
theorem isk28 (x:S_api_XY) (h:(-9223372036854775808≤x.X∧x.X≤9223372036854775807)∧(-9223372036854775808≤x.Y∧x.Y≤9223372036854775807)):(keyOf Tryz.prog 28 (v_api_XY x)).isSome=true:=by
 refine isk_struct (cs:=[.int .i64 (x.X),.int .i64 (x.Y)]) (d:=374) (by kernel_rfl) Tryz.underlying28 (by kernel_rfl) (by kernel_rfl) (by kernel_rfl) (fun f hf=>?_)
 simp only [List.mem_cons,List.not_mem_nil,or_false] at hf
 rcases hf with rfl | rfl
 ·exact ⟨.i64,x.X,Tryz.underlying3,by kernel_rfl,wf_i64 h.1⟩
 ·exact ⟨.i64,x.Y,Tryz.underlying3,by kernel_rfl,wf_i64 h.2⟩
instance:KeyI Tryz.prog 28 v_api_XY (fun x=>(-9223372036854775808≤x.X∧x.X≤9223372036854775807)∧(-9223372036854775808≤x.Y∧x.Y≤9223372036854775807)):=⟨key28,v_api_XY_inj,isk28⟩
instance:UndI Tryz.prog 241 (.map 28 66):=⟨Tryz.underlying241⟩
def v_api_Point (x:S_api_Point):Value:=.agg #[.int .i64 (x.Id),.int .i64 (x.X),.int .i64 (x.Y),.int .i64 (x.Z.Lo),.int .i64 (x.Z.Hi),.int .i64 (x.Wide),.int .i64 (x.Num),.int .i64 (x.Of),.int .i64 (x.Class)]
theorem v_api_Point_inj (x y:S_api_Point) (h:v_api_Point x=v_api_Point y):x=y:=by
 rcases x with ⟨_,_,_,⟨_,_⟩,_,_,_,_⟩;rcases y with ⟨_,_,_,⟨_,_⟩,_,_,_,_⟩;simp [v_api_Point] at h;simp [h]
instance (x:S_api_Point):UnfI v_api_Point x (.agg #[.int .i64 (x.Id),.int .i64 (x.X),.int .i64 (x.Y),.int .i64 (x.Z.Lo),.int .i64 (x.Z.Hi),.int .i64 (x.Wide),.int .i64 (x.Num),.int .i64 (x.Of),.int .i64 (x.Class)]):=⟨rfl⟩
instance (x0:Int) (x1:Int) (x2:Int) (x3:Int) (x4:Int) (x5:Int) (x6:Int) (x7:Int) (x8:Int):DecVI v_api_Point (.agg #[.int .i64 (x0),.int .i64 (x1),.int .i64 (x2),.int .i64 (x3),.int .i64 (x4),.int .i64 (x5),.int .i64 (x6),.int .i64 (x7),.int .i64 (x8)]) (⟨x0,x1,x2,⟨x3,x4⟩,x5,x6,x7,x8⟩):=⟨rfl⟩
instance:ValI Tryz.prog 66 v_api_Point ((⟨0,0,0,(⟨0,0⟩:S_api_Span),0,0,0,0⟩:S_api_Point)):=⟨v_api_Point_inj,fun w=>by kernel_rfl⟩
noncomputable def label_lowestOf_1_l3 (p1:List S_api_Point) (ky:S_api_Point→Option S_api_XY):((List (S_api_XY × S_api_Point)) × (List S_api_XY) × Int)→Option (Sum ((List (S_api_XY × S_api_Point)) × (List S_api_XY) × Int) ((List (S_api_XY × S_api_Point)) × (List S_api_XY))):=fun s0 =>
 if s0.2.2 < ((((p1).length:Nat):Int)) then (jn (fun (s1:(List (S_api_XY × S_api_Point)) × (List S_api_XY)) =>
 some (.inl (s1.1,s1.2,w64 (s0.2.2+1))))
 (fun j0=>bnd (idx p1 s0.2.2) fun x0 =>
 bnd (ky x0) fun x1 =>
 gd ((-9223372036854775808≤x1.X∧x1.X≤9223372036854775807)∧(-9223372036854775808≤x1.Y∧x1.Y≤9223372036854775807)) <|
 bnd (some ((mget s0.1 x1).getD ((⟨0,0,0,(⟨0,0⟩:S_api_Span),0,0,0,0⟩:S_api_Point)))) fun x2 =>
 jn (fun (s2:List S_api_XY) =>
 jn (fun (s3:Bool) =>
 if s3=true then (gd ((-9223372036854775808≤x1.X∧x1.X≤9223372036854775807)∧(-9223372036854775808≤x1.Y∧x1.Y≤9223372036854775807)) <|
 gd ((s0.1).length < 9223372036854775807) <|
 j0 (mput s0.1 x1 x0,s2))
 else (j0 (s0.1,s2)))
 (fun j1=>if ((mget s0.1 x1).isSome)=true then (bnd (label_lower x0 x2) fun r0 =>
 j1 r0)
 else (j1 true)))
 (fun j2=>if ((mget s0.1 x1).isSome)=true then (j2 s0.2.1)
 else (gd (((s0.2.1).length+1)*16≤140737488355328) <|
 j2 (s0.2.1++[x1])))))
 else (some (.inr (s0.1,s0.2.1)))
noncomputable def label_lowestOf_1_l13 {σ:Type} (s3:(List (S_api_XY × S_api_Point)) × (List S_api_XY)) (st:σ→S_api_Point→Option σ):(σ × Int)→Option (Sum (σ × Int) σ):=fun s0 =>
 if s0.2 < ((((s3.2).length:Nat):Int)) then (bnd (idx s3.2 s0.2) fun x0 =>
 gd ((-9223372036854775808≤x0.X∧x0.X≤9223372036854775807)∧(-9223372036854775808≤x0.Y∧x0.Y≤9223372036854775807)) <|
 bnd (some ((mget s3.1 x0).getD ((⟨0,0,0,(⟨0,0⟩:S_api_Span),0,0,0,0⟩:S_api_Point)))) fun x1 =>
 bnd (st s0.1 x1) fun x2 =>
 some (.inl (x2,w64 (s0.2+1))))
 else (some (.inr s0.1))
noncomputable def label_lowestOf_1 {σ:Type} (ky:S_api_Point→Option S_api_XY) (st:σ→S_api_Point→Option σ) (p1:List S_api_Point) (ys:σ):Option σ :=
 jn (fun (s3:(List (S_api_XY × S_api_Point)) × (List S_api_XY)) =>
 bnd (lfix (label_lowestOf_1_l13 s3 st) (ys,0)) fun t0 =>
 some t0)
 (fun j3=>bnd (lfix (label_lowestOf_1_l3 p1 ky) (([]:List (S_api_XY × S_api_Point)),([]:List S_api_XY),0)) fun t1 =>
 j3 t1)
noncomputable def label_seeds_1 (p0:S_api_Point) (p1:S_api_Terrain):Option S_api_XY :=
 bnd (label_floor p0.X p1.Cell) fun r3 =>
 bnd (label_floor p0.Y p1.Cell) fun r6 =>
 some (⟨r3,r6⟩:S_api_XY)
set_option maxRecDepth 100000 in
theorem label_lowestOf_1_ok {σ:Type} (ky:S_api_Point→Option S_api_XY) (st:σ→S_api_Point→Option σ) (p1:List S_api_Point) (ys:σ) {kv:Value} {l:Nat} {Inv:σ→Ent→Prop} {ye:Ent} {K:List Ent} {A0_0:Option Addr} {c0_0:Nat} (ha0:Has K A0_0 p1.length c0_0 9 e_api_Point (p1)) {g0_1:Nat} {g0_2:Nat} (hp1:Pt K g0_1 0 [.slice (A0_0) (p1.length) (c0_0)]) (hp2:Pt K g0_2 0 [kv]) (hkey:KeyOk Tryz.prog K kv v_api_Point v_api_XY ky) (hy:∀ s x s' e,st s x=some s'→Inv s e→YldOk Tryz.prog l [v_api_Point x] e (Inv s')) (hi0:Inv ys ye) {r:σ} (hx:label_lowestOf_1 ky st p1 ys=some r):CtK Tryz.prog 222 [.func (.yield l) #[] #[],.pointer (some ⟨g0_1,0,none⟩),.pointer (some ⟨g0_2,0,none⟩)] K [ye] (fun _ Ln=>∃ e,Ln=[e]∧Inv r e):=by
 have ha0':=Has.up0 ha0;have hp1':=Pt.up0 hp1;have hp2':=Pt.up0 hp2;refine CtK.mk 59 Tryz.func222 rfl Tryz.ntmps222 (by kernel_rfl) rfl ?_;intro Lf hKf;show T 59 _ [(0,.func (.yield l) #[] #[]),(1,.pointer (some ⟨g0_1,0,none⟩)),(2,.pointer (some ⟨g0_2,0,none⟩))] ([ye]++Lf);unfold label_lowestOf_1 at hx;refine Y2 ?_;refine T_x (Wx_makeMap2 Tryz.prog 28 v_api_XY v_api_Point rfl (fun g1=>?_));refine Y8 ?_;refine Tj (γ:=(Option Addr) × Nat) hx (fun s3 y3=>[(0,.func (.yield l) #[] #[]),(4,.map (some g1)),(5,.slice (y3.1) (s3.2.length) (y3.2))]) (fun s3 y3=>[.r (y3.1) (s3.2.length) (y3.2) 28 2 (s3.2.flatMap e_api_XY),mapE2 Tryz.prog 28 v_api_XY v_api_Point g1 (s3.1),ye]++Lf) (fun s3 y3=>True) (fun s3 y3 hx0 hG0=>?_) (fun j3 hx=>?_)
 ·refine Y3 ?_;refine T_val (Ev_len rfl 28 Tryz.underlying82) rfl ?_;refine Y4 ?_;obtain ⟨t0,hl0,ho0⟩:=bnd_some hx0;refine Lp (σ:=σ × Int) (γ:=Ent) hl0 (fun s0 y0=>[(0,.func (.yield l) #[] #[]),(4,.map (some g1)),(46,.slice (y3.1) (s3.2.length) (y3.2)),(47,.int .i64 (((s3.2.length:Nat):Int))),(48,.int .i64 (s0.2))]) (fun s0 y0=>[.r (y3.1) (s3.2.length) (y3.2) 28 2 (s3.2.flatMap e_api_XY),mapE2 Tryz.prog 28 v_api_XY v_api_Point g1 (s3.1),y0]++Lf) (fun s0 y0=>Inv (s0.1) y0∧True) ye ((by exact ⟨hi0,trivial⟩)) (by exact .pick 0 rfl (.pick 0 rfl (.pick 0 rfl (.refl)))) ?_;intro s0 y0 hG1 x0 hx1 ht0;unfold label_lowestOf_1_l13 at hx1;obtain ⟨hi138,-⟩:=hG1;refine Y6 ?_;refine Ti hx1 (s:=49) rfl (fun h0 hx2=>?_) (fun h0 hx3=>?_)
  ·refine Y7 ?_;obtain ⟨x1,h1,hx4⟩:=bnd_some hx2;refine T_idxR (k:=0) rfl (by decide) (fun _=>rfl) h1 (fun b0 j0 hA0 hj0 hl1 hm0 hp0=>?_);refine T_val (Ev_index rfl rfl hA0 (j:=j0) hj0 hl1 slc82) rfl ?_;refine T_val (Ev_loadPK0 rfl hp0 (sb 0) rfl agg28) rfl ?_;refine T_x (Wx_alloc zer28 rfl (fun g0=>?_));refine T_h (Wh_store rfl rfl rfl (.here) (.put (.put (.done))) rfl (List.cons_ne_nil _ _) agg28.2 ?_);refine Y3 ?_;refine T_regY ?_;refine I_val (Ev_move rfl) rfl ?_;refine I_val (Ev_move rfl) rfl ?_;refine I_val (Ev_loadK rfl (i:=0) rfl rfl agg28) rfl ?_;obtain ⟨h2,hx5⟩:=gd_some hx4;obtain ⟨x2,h3,hx6⟩:=bnd_some hx5;refine I_val (Ev_look2 (x:=x1) (i:=2) (vv:=.agg #[.int .i64 (x2.Id),.int .i64 (x2.X),.int .i64 (x2.Y),.int .i64 (x2.Z.Lo),.int .i64 (x2.Z.Hi),.int .i64 (x2.Wide),.int .i64 (x2.Num),.int .i64 (x2.Of),.int .i64 (x2.Class)]) key28 Tryz.underlying241 (fun w=>by kernel_rfl) v_api_XY_inj rfl rfl rfl rfl holds_mapE2 (isk28 x1 h2) h3 rfl) rfl ?_;obtain ⟨x3,h4,hx7⟩:=bnd_some hx6;refine I_yield (i:=3) rfl rfl rfl (hy _ _ _ _ h4 hi138) rfl (fun e0 hi163=>?_);refine I_val (Ev_not rfl) rfl ?_;refine I_nilY ?_;refine Y9 ?_;exact Rp (x3,w64 (s0.2+1)) e0 hx7 ((by exact ⟨hi163,trivial⟩)) (by exact .pick 2 rfl (.pick 2 rfl (.pick 0 rfl (.drop 0 rfl (.refl)))))
  ·refine Y3 ?_;obtain rfl:=exit_eq ht0 hx3;refine Y2 ?_;obtain rfl:=Option.some.inj ho0;exact T_endK (rs:=[]) Tryz.results222 (.nil) (Ln:=[y0]) ⟨y0,rfl,hi138⟩ (by exact .pick 2 rfl (.drop 0 rfl (.drop 0 rfl (.refl))))
 ·refine Y2 ?_;refine T_val (Ev_loadP0 rfl hp1' (SubE.appC (SubE.tail (SubE.tail (hKf))) (SubE.nil)) rfl one47) rfl ?_;refine T_val (Ev_len rfl 66 Tryz.underlying47) rfl ?_;refine Y4 ?_;obtain ⟨t1,hl2,ho1⟩:=bnd_some hx;refine T_none 28 2 ?_
  have hn0:0=(([]:List S_api_XY)).length:=by simp [] <;> omega
  refine T_ent (.here) (e':=.r (none) ((([]:List S_api_XY)).length) (0) 28 2 ((([]:List S_api_XY)).flatMap e_api_XY)) (by first | (rw [← hn0];done) | rfl) ?_;refine Lp (σ:=(List (S_api_XY × S_api_Point)) × (List S_api_XY) × Int) (γ:=(Option Addr) × Nat) hl2 (fun s1 y1=>[(0,.func (.yield l) #[] #[]),(2,.pointer (some ⟨g0_2,0,none⟩)),(4,.map (some g1)),(5,.slice (y1.1) (s1.2.1.length) (y1.2)),(14,.slice (A0_0) (p1.length) (c0_0)),(15,.int .i64 (((p1.length:Nat):Int))),(16,.int .i64 (s1.2.2))]) (fun s1 y1=>[.r (y1.1) (s1.2.1.length) (y1.2) 28 2 (s1.2.1.flatMap e_api_XY),mapE2 Tryz.prog 28 v_api_XY v_api_Point g1 (s1.1),ye]++Lf) (fun s1 y1=>True) (none,0) trivial (by exact .pick 0 rfl (.pick 0 rfl (.pick 0 rfl (.refl)))) ?_;intro s1 y1 hG2 x4 hx8 ht1;unfold label_lowestOf_1_l3 at hx8;refine Y6 ?_;refine Ti hx8 (s:=17) rfl (fun h5 hx9=>?_) (fun h5 hx59=>?_)
  ·refine Y3 ?_;refine Tj (γ:=(Option Addr) × Nat) hx9 (fun s2 y2=>[(0,.func (.yield l) #[] #[]),(2,.pointer (some ⟨g0_2,0,none⟩)),(4,.map (some g1)),(5,.slice (y2.1) (s2.2.length) (y2.2)),(14,.slice (A0_0) (p1.length) (c0_0)),(15,.int .i64 (((p1.length:Nat):Int))),(16,.int .i64 (s1.2.2))]) (fun s2 y2=>[.r (y2.1) (s2.2.length) (y2.2) 28 2 (s2.2.flatMap e_api_XY),mapE2 Tryz.prog 28 v_api_XY v_api_Point g1 (s2.1),ye]++Lf) (fun s2 y2=>True) (fun s2 y2 hx10 hG3=>?_) (fun j1 hx9=>?_)
   ·refine Y4 ?_;exact Rp (s2.1,s2.2,w64 (s1.2.2+1)) (y2.1,y2.2) hx10 trivial (by exact .pick 0 rfl (.pick 0 rfl (.pick 0 rfl (.refl))))
   ·refine Y3 ?_;obtain ⟨x5,h6,hx62⟩:=bnd_some hx9;obtain ⟨b1,o0,j2,hA1,hj1,hl3,hp3⟩:=Has.at_idx ha0' h6;refine T_val (Ev_index rfl rfl hA1 (j:=j2) hj1 hl3 slc47) rfl ?_;refine T_val (Ev_loadPK0 rfl hp3 (SubE.appC (SubE.tail (SubE.tail (SubE.tail (hKf)))) (SubE.nil)) rfl agg66) rfl ?_;refine T_x (Wx_alloc zer66 rfl (fun g2=>?_));refine T_h (Wh_store rfl rfl rfl (.here) (.put (.put (.put (.put (.put (.put (.put (.put (.put (.done)))))))))) rfl (List.cons_ne_nil _ _) agg66.2 ?_);refine Y4 ?_;refine T_val (Ev_loadP0 rfl hp2' (SubE.appC (SubE.tail (SubE.tail (SubE.tail (SubE.tail (hKf))))) (SubE.nil)) rfl one186) rfl ?_;refine T_val (Ev_loadK rfl (i:=0) rfl rfl agg66) rfl ?_;obtain ⟨x6,h7,hx73⟩:=bnd_some hx62;refine T_x (Wx_callKey (u:=x5) hkey rfl rfl h7 (SubE.tail (SubE.tail (SubE.tail (SubE.tail hKf)))) rfl ?_);refine T_x (Wx_alloc zer28 rfl (fun g3=>?_));refine T_h (Wh_store rfl rfl rfl (.here) (.put (.put (.done))) rfl (List.cons_ne_nil _ _) agg28.2 ?_);refine Y5 ?_;refine T_val (Ev_loadK rfl (i:=0) rfl rfl agg28) rfl ?_;obtain ⟨h8,hx76⟩:=gd_some hx73;obtain ⟨x7,h9,hx79⟩:=bnd_some hx76;refine T_val (Ev_look2Ok (x:=x6) (i:=3) (vv:=.agg #[.int .i64 (x7.Id),.int .i64 (x7.X),.int .i64 (x7.Y),.int .i64 (x7.Z.Lo),.int .i64 (x7.Z.Hi),.int .i64 (x7.Wide),.int .i64 (x7.Num),.int .i64 (x7.Of),.int .i64 (x7.Class)]) key28 Tryz.underlying241 (fun w=>by kernel_rfl) v_api_XY_inj rfl rfl rfl rfl holds_mapE2 (isk28 x6 h8) h9 rfl) rfl ?_
    refine Y3 ?_;refine T_x (Wx_alloc zer66 rfl (fun g4=>?_));refine T_h (Wh_store rfl rfl rfl (.here) (.put (.put (.put (.put (.put (.put (.put (.put (.put (.done)))))))))) rfl (List.cons_ne_nil _ _) agg66.2 ?_);refine Y3 ?_;refine Tj (γ:=(Option Addr) × Nat) hx79 (fun s4 y4=>[(0,.func (.yield l) #[] #[]),(2,.pointer (some ⟨g0_2,0,none⟩)),(4,.map (some g1)),(5,.slice (y4.1) (s4.length) (y4.2)),(7,.pointer (some ⟨g2,0,none⟩)),(8,.pointer (some ⟨g3,0,none⟩)),(9,.pointer (some ⟨g4,0,none⟩)),(10,.bool ((mget s1.1 x6).isSome)),(14,.slice (A0_0) (p1.length) (c0_0)),(15,.int .i64 (((p1.length:Nat):Int))),(16,.int .i64 (s1.2.2))]) (fun s4 y4=>[.m g4 66 [.int .i64 (x7.Id),.int .i64 (x7.X),.int .i64 (x7.Y),.int .i64 (x7.Z.Lo),.int .i64 (x7.Z.Hi),.int .i64 (x7.Wide),.int .i64 (x7.Num),.int .i64 (x7.Of),.int .i64 (x7.Class)],.m g3 28 [.int .i64 (x6.X),.int .i64 (x6.Y)],.m g2 66 [.int .i64 (x5.Id),.int .i64 (x5.X),.int .i64 (x5.Y),.int .i64 (x5.Z.Lo),.int .i64 (x5.Z.Hi),.int .i64 (x5.Wide),.int .i64 (x5.Num),.int .i64 (x5.Of),.int .i64 (x5.Class)],.r (y4.1) (s4.length) (y4.2) 28 2 (s4.flatMap e_api_XY),mapE2 Tryz.prog 28 v_api_XY v_api_Point g1 (s1.1),ye]++Lf) (fun s4 y4=>True) (fun s4 y4 hx89 hG4=>?_) (fun j4 hx79=>?_)
    ·refine Tj (γ:=Unit) hx89 (fun s5 y5=>[(0,.func (.yield l) #[] #[]),(2,.pointer (some ⟨g0_2,0,none⟩)),(4,.map (some g1)),(5,.slice (y4.1) (s4.length) (y4.2)),(7,.pointer (some ⟨g2,0,none⟩)),(8,.pointer (some ⟨g3,0,none⟩)),(14,.slice (A0_0) (p1.length) (c0_0)),(15,.int .i64 (((p1.length:Nat):Int))),(16,.int .i64 (s1.2.2)),(41,.bool (s5))]) (fun s5 y5=>[.m g3 28 [.int .i64 (x6.X),.int .i64 (x6.Y)],.m g2 66 [.int .i64 (x5.Id),.int .i64 (x5.X),.int .i64 (x5.Y),.int .i64 (x5.Z.Lo),.int .i64 (x5.Z.Hi),.int .i64 (x5.Wide),.int .i64 (x5.Num),.int .i64 (x5.Of),.int .i64 (x5.Class)],.r (y4.1) (s4.length) (y4.2) 28 2 (s4.flatMap e_api_XY),mapE2 Tryz.prog 28 v_api_XY v_api_Point g1 (s1.1),ye]++Lf) (fun s5 y5=>True) (fun s5 y5 hx97 hG5=>?_) (fun j5 hx89=>?_)
     ·refine T_caseB (s:=41) rfl (fun h99=>?_) (fun h99=>?_)
      ·have hx11:=ite_t h99 hx97;refine Y3 ?_;refine T_val (Ev_loadK rfl (i:=0) rfl rfl agg28) rfl ?_;refine T_val (Ev_loadK rfl (i:=1) rfl rfl agg66) rfl ?_;obtain ⟨h10,hx12⟩:=gd_some hx11;obtain ⟨h11,hx13⟩:=gd_some hx12;refine T_h (Wh_mapPut2 (x:=x6) (y:=x5) key28 v_api_XY_inj Tryz.underlying241 rfl rfl rfl rfl rfl (.there (.there (.there (.here)))) (isk28 x6 h10) h11 ?_);refine Y2 ?_;exact Mt (mput s1.1 x6 x5,s4) (y4.1,y4.2) hx13 trivial (by exact .pick 2 rfl (.pick 2 rfl (.pick 2 rfl (.drop 0 rfl (.drop 0 rfl (.refl))))))
      ·have hx14:=ite_bf h99 hx97;refine Y3 ?_;exact Mt (s1.1,s4) (y4.1,y4.2) hx14 trivial (by exact .pick 2 rfl (.pick 2 rfl (.pick 2 rfl (.drop 0 rfl (.drop 0 rfl (.refl))))))
     ·refine Y4 ?_;refine T_caseNB (s:=37) rfl (fun h91=>?_) (fun h91=>?_)
      ·have hx92:=ite_bf h91 hx89;refine Y5 ?_;exact Mt true () hx92 trivial (by exact .pick 1 rfl (.pick 1 rfl (.pick 1 rfl (.pick 1 rfl (.pick 1 rfl (.drop 0 rfl (.refl)))))))
      ·have hx93:=ite_t h91 hx89;refine T_valG rfl rfl rfl (Ev_loadK rfl (i:=2) rfl rfl agg66) rfl ?_;refine T_valG rfl rfl rfl (Ev_loadK rfl (i:=0) rfl rfl agg66) rfl ?_;obtain ⟨r0,h95,hx96⟩:=bnd_some hx93;refine T_xG rfl rfl rfl (Wx_callL rfl (fun w1 hw1=>label_lower_ok x5 x7  h95 w1) rfl ?_);rintro _ _ hlo ⟨rfl,rfl,-⟩;refine T_app0 ?_;refine Y2 ?_;exact Mt r0 () hx96 trivial (by exact .pick 1 rfl (.pick 1 rfl (.pick 1 rfl (.pick 1 rfl (.pick 1 rfl (.drop 0 rfl (.refl)))))))
    ·refine Y6 ?_;refine T_caseNB (s:=30) rfl (fun h81=>?_) (fun h81=>?_)
     ·have hx82:=ite_bf h81 hx79;refine Y3 ?_;refine T_val (Ev_loadK rfl (i:=1) rfl rfl agg28) rfl ?_;refine T_x (Wx_buildSlice rfl (bls82_1_0ai64i64 _ _) rfl (fun g5=>?_));obtain ⟨h84,hx85⟩:=gd_some hx82;refine T_h (Wh_appendP e_api_XY (s1.2.1) [x6] rfl rfl rfl elm82 (fun _=>rfl) (i':=0) rfl rfl rfl rfl h84 rfl (fun _ _=>.there (.there (.there (.there (.here))))) (fun _ _=>.drop .refl) (by decide) (fun A0 c0=>?_));refine Y2 ?_;exact Mt (s1.2.1++[x6]) (A0,c0) hx85 trivial (by exact .pick 0 rfl (.pick 0 rfl (.pick 0 rfl (.pick 0 rfl (.pick 0 rfl (.pick 0 rfl (.refl)))))))
     ·have hx88:=ite_t h81 hx79;refine Y2 ?_;exact Mt s1.2.1 (y1.1,y1.2) hx88 trivial (by exact .pick 0 rfl (.pick 0 rfl (.pick 0 rfl (.pick 0 rfl (.pick 0 rfl (.pick 0 rfl (.refl)))))))
  ·refine Y3 ?_;obtain rfl:=exit_eq ht1 hx59;refine Y2 ?_;exact Mt (s1.1,s1.2.1) (y1.1,y1.2) ho1 trivial (by exact .pick 0 rfl (.pick 0 rfl (.pick 0 rfl (.refl))))
set_option maxRecDepth 100000 in
theorem label_seeds_1_ok (p0:S_api_Point) (p1:S_api_Terrain) {K:List Ent} {g0_1:Nat} (hp1:Pt K g0_1 0 [.int .i64 (p1.Cell),.int .i64 (p1.Reach),.int .i64 (p1.Slope),.int .i64 (p1.Link),.int .i64 (p1.Flat),.int .i64 (p1.Tall),.int .i64 (p1.High),.int .i64 (p1.Low),.int .i64 (p1.Brush),.int .i64 (p1.Few)]) {r:S_api_XY} (hx:label_seeds_1 p0 p1=some r) (w:World) (hK:∀ e∈K,Ent.ok w e):CtL Tryz.prog 151 [.agg #[.int .i64 (p0.Id),.int .i64 (p0.X),.int .i64 (p0.Y),.int .i64 (p0.Z.Lo),.int .i64 (p0.Z.Hi),.int .i64 (p0.Wide),.int .i64 (p0.Num),.int .i64 (p0.Of),.int .i64 (p0.Class)],.pointer (some ⟨g0_1,0,none⟩)] w fun v Ln=>v = .agg #[.int .i64 (r.X),.int .i64 (r.Y)]∧Ln=[]∧True:=by
 have hp1':=Pt.low (E:=[]) (Pt.up0 hp1) hK;refine CtL.mk 15 Tryz.func151 rfl Tryz.ntmps151 (by kernel_rfl) rfl ?_;show T 15 _ [(0,.agg #[.int .i64 (p0.Id),.int .i64 (p0.X),.int .i64 (p0.Y),.int .i64 (p0.Z.Lo),.int .i64 (p0.Z.Hi),.int .i64 (p0.Wide),.int .i64 (p0.Num),.int .i64 (p0.Of),.int .i64 (p0.Class)]),(1,.pointer (some ⟨g0_1,0,none⟩))] _;unfold label_seeds_1 at hx;refine Y2 ?_;refine T_x (Wx_box rfl rfl rfl (fun g1=>?_));refine T_x (Wx_alloc zer28 rfl (fun g2=>?_));refine Y3 ?_;refine T_dr [0,1,0,1,2,0,1,0,1,2,0,3] (.q 0 (.q 1 (.q 2 (.q 3 (.q 5 (.q 6 (.q 7 (.q 8 (.e 4 (.e 9 (.q 10 (.e 11 (.done) (.stop))) (.stop)) (.stop)))))))))) mixed (by kernel_rfl) (by kernel_rfl) ?_;refine P_p rfl rfl (Ev_field rfl fld66_1 rfl) rfl ?_;refine P_q rfl rfl (Ev_load1 rfl (i:=1) rfl rfl one3) rfl ?_;refine P_p rfl rfl (Ev_field rfl fld54_0 rfl) rfl ?_;refine P_q rfl rfl (Ev_loadP1 (d:=0) rfl hp1' (sb 2) rfl one3) rfl ?_;refine P_p rfl rfl (Ev_field rfl fld66_2 rfl) rfl ?_;refine P_q rfl rfl (Ev_load1 rfl (i:=1) rfl rfl one3) rfl ?_;refine P_p rfl rfl (Ev_field rfl fld54_0 rfl) rfl ?_;refine P_q rfl rfl (Ev_loadP1 (d:=0) rfl hp1' (sb 2) rfl one3) rfl ?_;obtain ⟨r3,h4,hx5⟩:=bnd_some hx;refine Pc (fun w1 hw1=>label_floor_ok p0.X p1.Cell  h4 w1) ?_;obtain ⟨r6,h7,hx8⟩:=bnd_some hx5;refine Pc (fun w1 hw1=>label_floor_ok p0.Y p1.Cell  h7 w1) ?_;refine P_p rfl rfl (Ev_build rfl (bld28_0i641i64 _ _)) rfl ?_;refine P_h rfl rfl (Wh_store rfl rfl rfl (.here) (.put (.put (.done))) rfl (List.cons_ne_nil _ _) agg28.2 ?_) ?_
 rotate_left;exact P_stop;refine Y3 ?_;obtain rfl:=Option.some.inj hx8;exact T_retP (rs:=[.cell 3 28]) Tryz.results151 (.cell rfl (i:=0) rfl rfl agg28 (.nil)) (Ln:=[]) ⟨rfl,rfl,trivial⟩ (loNil) (by exact .drop 0 rfl (.drop 0 rfl (.refl)))
end Go.Proofs.YtbkobeeileemjaaGreat
