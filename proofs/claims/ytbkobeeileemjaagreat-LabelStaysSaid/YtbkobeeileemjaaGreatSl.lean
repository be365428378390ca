/- Walks of the program, with their plain functions: the lowest ones of groups. -/
import Derived.Test.YtbkobeeileemjaaGreatJ1
import Derived.Shelf.Lays
import Derived.Shelf.SlSortCmp.NoneTotal
import Derived.Ground.SlsfProg
import Derived.Ground.NamesProg
import Derived.Test.YtbkobeeileemjaaGreatProg
namespace Go.Proofs.YtbkobeeileemjaaGreat
open Go Go.RowKit
set_option maxRecDepth 100000
theorem Ajh:Lg Tryz.prog 47:=.mk Tryz.underlying47 rfl (show Tryz.prog.info? 47=some Tryz.t47 from by kernel_rfl) (by kernel_rfl)
instance:OneI Tryz.prog 47:=⟨Ajh⟩
theorem Avw:Lg Tryz.prog 186:=.mk Tryz.underlying186 rfl (show Tryz.prog.info? 186=some Tryz.t186 from by kernel_rfl) (by kernel_rfl)
instance:OneI Tryz.prog 186:=⟨Avw⟩
theorem Xn (x0:Int) (x1:Int):Cx Tryz.prog 82 1 [(0,.agg #[.int .i64 x0,.int .i64 x1])] 28 [.int .i64 x0,.int .i64 x1]:=fun w=>by kernel_rfl
instance (x0:Int) (x1:Int):Hl Tryz.prog 82 1 [(0,.agg #[.int .i64 x0,.int .i64 x1])] 28 [.int .i64 x0,.int .i64 x1]:=⟨Xn _ _⟩
theorem Ayi:Sz Tryz.prog 82 28 2 16:=⟨Tryz.underlying82,⟨Tryz.t28,.agg #[.int .i64 (0),.int .i64 (0)],by kernel_rfl,by kernel_rfl,by kernel_rfl,by kernel_rfl,rfl⟩,by decide⟩
instance:Zh Tryz.prog 82 28 2 16:=⟨Ayi⟩
def Ew (x:Ab):Value:=.agg #[.int .i64 (x.X),.int .i64 (x.Y)]
theorem Qz (x y:Ab) (h:Ew x=Ew y):x=y:=by
 rcases x with ⟨_,_⟩;rcases y with ⟨_,_⟩;simp [Ew] at h;simp [h]
instance (x:Ab):UnfI Ew x (.agg #[.int .i64 (x.X),.int .i64 (x.Y)]):=⟨rfl⟩
instance (x0:Int) (x1:Int):Zi Ew (.agg #[.int .i64 (x0),.int .i64 (x1)]) (⟨x0,x1⟩):=⟨rfl⟩
instance:ValI Tryz.prog 28 Ew ((⟨0,0⟩:Ab)):=⟨Qz,fun w=>by kernel_rfl⟩
theorem Am7:laidOutB Tryz.prog=true:=by kernel_rfl
theorem Azu:(match Tryz.prog.underlying 28 with | some (.array _ _) | some (.struct _)=>true | _=>false)=true:=by kernel_rfl
theorem Aqt:Maps.Keyed Tryz.prog 28:=Maps.Keyed.of_law (deep_law_laid Am7 (m:=3) (by omega) (of_decide_eq_true (by kernel_rfl)) (by kernel_rfl) Azu)
theorem Aqu (x:Ab) (h:(-9223372036854775808≤x.X∧x.X≤9223372036854775807)∧(-9223372036854775808≤x.Y∧x.Y≤9223372036854775807)):(keyOf Tryz.prog 28 (Ew x)).isSome=true:=by
 refine Anq (cs:=[.int .i64 (x.X),.int .i64 (x.Y)]) (d:=374) (by kernel_rfl) Tryz.underlying28 (by kernel_rfl) (by kernel_rfl) (by kernel_rfl) (fun f hf=>?_)
 simp only [List.mem_cons,List.not_mem_nil,or_false] at hf
 rcases hf with rfl | rfl
 ·exact ⟨.i64,x.X,Tryz.underlying3,by kernel_rfl,Agy h.1⟩
 ·exact ⟨.i64,x.Y,Tryz.underlying3,by kernel_rfl,Agy h.2⟩
instance:KeyI Tryz.prog 28 Ew (fun x=>(-9223372036854775808≤x.X∧x.X≤9223372036854775807)∧(-9223372036854775808≤x.Y∧x.Y≤9223372036854775807)):=⟨Aqt,Qz,Aqu⟩
instance:UndI Tryz.prog 241 (.map 28 66):=⟨Tryz.underlying241⟩
def Cu (x:Aa):Value:=.agg #[.int .i64 (x.Id),.int .i64 (x.X),.int .i64 (x.Y),.int .i64 (x.Z.Lo),.int .i64 (x.Z.Hi),.int .i64 (x.Wide),.int .i64 (x.Num),.int .i64 (x.Of),.int .i64 (x.Class)]
theorem Afu (x y:Aa) (h:Cu x=Cu y):x=y:=by
 rcases x with ⟨_,_,_,⟨_,_⟩,_,_,_,_⟩;rcases y with ⟨_,_,_,⟨_,_⟩,_,_,_,_⟩;simp [Cu] at h;simp [h]
instance (x:Aa):UnfI Cu x (.agg #[.int .i64 (x.Id),.int .i64 (x.X),.int .i64 (x.Y),.int .i64 (x.Z.Lo),.int .i64 (x.Z.Hi),.int .i64 (x.Wide),.int .i64 (x.Num),.int .i64 (x.Of),.int .i64 (x.Class)]):=⟨rfl⟩
instance (x0:Int) (x1:Int) (x2:Int) (x3:Int) (x4:Int) (x5:Int) (x6:Int) (x7:Int) (x8:Int):Zi Cu (.agg #[.int .i64 (x0),.int .i64 (x1),.int .i64 (x2),.int .i64 (x3),.int .i64 (x4),.int .i64 (x5),.int .i64 (x6),.int .i64 (x7),.int .i64 (x8)]) (⟨x0,x1,x2,⟨x3,x4⟩,x5,x6,x7,x8⟩):=⟨rfl⟩
instance:ValI Tryz.prog 66 Cu ((⟨0,0,0,(⟨0,0⟩:Br),0,0,0,0⟩:Aa)):=⟨Afu,fun w=>by kernel_rfl⟩
noncomputable def Hj (p1:List Aa) (ky:Aa→Option Ab):((List (Ab × Aa)) × (List Ab) × Int)→Option (Sum ((List (Ab × Aa)) × (List Ab) × Int) ((List (Ab × Aa)) × (List Ab))):=fun s0 =>
 if s0.2.2 < ((((p1).length:Nat):Int)) then (jn (fun (s1:(List (Ab × Aa)) × (List Ab)) =>
 some (.inl (s1.1,s1.2,w64 (s0.2.2+1))))
 (fun j0=>bnd (idx p1 s0.2.2) fun x0 =>
 bnd (ky x0) fun x1 =>
 gd ((-9223372036854775808≤x1.X∧x1.X≤9223372036854775807)∧(-9223372036854775808≤x1.Y∧x1.Y≤9223372036854775807)) <|
 bnd (some ((mget s0.1 x1).getD ((⟨0,0,0,(⟨0,0⟩:Br),0,0,0,0⟩:Aa)))) fun x2 =>
 jn (fun (s2:List Ab) =>
 jn (fun (s3:Bool) =>
 if s3=true then (gd ((-9223372036854775808≤x1.X∧x1.X≤9223372036854775807)∧(-9223372036854775808≤x1.Y∧x1.Y≤9223372036854775807)) <|
 gd ((s0.1).length < 9223372036854775807) <|
 j0 (mput s0.1 x1 x0,s2))
 else (j0 (s0.1,s2)))
 (fun j1=>if ((mget s0.1 x1).isSome)=true then (bnd (Nr x0 x2) fun r0 =>
 j1 r0)
 else (j1 true)))
 (fun j2=>if ((mget s0.1 x1).isSome)=true then (j2 s0.2.1)
 else (gd (((s0.2.1).length+1)*16≤140737488355328) <|
 j2 (s0.2.1++[x1])))))
 else (some (.inr (s0.1,s0.2.1)))
noncomputable def Gr {σ:Type} (s3:(List (Ab × Aa)) × (List Ab)) (st:σ→Aa→Option σ):(σ × Int)→Option (Sum (σ × Int) σ):=fun s0 =>
 if s0.2 < ((((s3.2).length:Nat):Int)) then (bnd (idx s3.2 s0.2) fun x0 =>
 gd ((-9223372036854775808≤x0.X∧x0.X≤9223372036854775807)∧(-9223372036854775808≤x0.Y∧x0.Y≤9223372036854775807)) <|
 bnd (some ((mget s3.1 x0).getD ((⟨0,0,0,(⟨0,0⟩:Br),0,0,0,0⟩:Aa)))) fun x1 =>
 bnd (st s0.1 x1) fun x2 =>
 some (.inl (x2,w64 (s0.2+1))))
 else (some (.inr s0.1))
noncomputable def Ih {σ:Type} (ky:Aa→Option Ab) (st:σ→Aa→Option σ) (p1:List Aa) (ys:σ):Option σ :=
 jn (fun (s3:(List (Ab × Aa)) × (List Ab)) =>
 bnd (lfix (Gr s3 st) (ys,0)) fun t0 =>
 some t0)
 (fun j3=>bnd (lfix (Hj p1 ky) (([]:List (Ab × Aa)),([]:List Ab),0)) fun t1 =>
 j3 t1)
noncomputable def Ki (p0:Aa) (p1:Ag):Option Ab :=
 bnd (Ns p0.X p1.Cell) fun r3 =>
 bnd (Ns p0.Y p1.Cell) fun r6 =>
 some (⟨r3,r6⟩:Ab)
theorem Tn {σ:Type} (ky:Aa→Option Ab) (st:σ→Aa→Option σ) (p1:List Aa) (ys:σ) {kv:Value} {l:Nat} {Inv:σ→Ent→Prop} {ye:Ent} {K:List Ent} {A0_0:Option Addr} {c0_0:Nat} (ha0:Has K A0_0 p1.length c0_0 9 Af (p1)) {g0_1:Nat} {g0_2:Nat} (hp1:Pt K g0_1 0 [.slice (A0_0) (p1.length) (c0_0)]) (hp2:Pt K g0_2 0 [kv]) (hkey:Yq Tryz.prog K kv Cu Ew ky) (hy:∀ s x s' e,st s x=some s'→Inv s e→Ajd Tryz.prog l [Cu x] e (Inv s')) (hi0:Inv ys ye) {r:σ} (hx:Ih ky st p1 ys=some r):CtK Tryz.prog 222 [.func (.yield l) #[] #[],.pointer (some ⟨g0_1,0,none⟩),.pointer (some ⟨g0_2,0,none⟩)] K [ye] (fun _ Ln=>∃ e,Ln=[e]∧Inv r e):=by
 have ha0':=Has.up0 ha0;have hp1':=Pt.up0 hp1;have hp2':=Pt.up0 hp2;refine CtK.mk 59 Tryz.func222 rfl Tryz.ntmps222 (by kernel_rfl) rfl ?_;intro Lf hKf;show T 59 _ [(0,.func (.yield l) #[] #[]),(1,.pointer (some ⟨g0_1,0,none⟩)),(2,.pointer (some ⟨g0_2,0,none⟩))] ([ye]++Lf);unfold Ih at hx;refine Y2 ?_;refine T_x (Sm Tryz.prog 28 Ew Cu rfl (fun g1=>?_));refine Y8 ?_;refine Tj (γ:=(Option Addr) × Nat) hx (fun s3 y3=>[(0,.func (.yield l) #[] #[]),(4,.map (some g1)),(5,.slice (y3.1) (s3.2.length) (y3.2))]) (fun s3 y3=>[.r (y3.1) (s3.2.length) (y3.2) 28 2 (s3.2.flatMap Ej),Bc Tryz.prog 28 Ew Cu g1 (s3.1),ye]++Lf) (fun s3 y3=>True) (fun s3 y3 hx0 hG0=>?_) (fun j3 hx=>?_)
 ·refine Y3 ?_;refine Aj (Cb rfl 28 Tryz.underlying82) rfl ?_;refine Y4 ?_;obtain ⟨t0,hl0,ho0⟩:=Ad hx0;refine Lp (σ:=σ × Int) (γ:=Ent) hl0 (fun s0 y0=>[(0,.func (.yield l) #[] #[]),(4,.map (some g1)),(46,.slice (y3.1) (s3.2.length) (y3.2)),(47,.int .i64 (((s3.2.length:Nat):Int))),(48,.int .i64 (s0.2))]) (fun s0 y0=>[.r (y3.1) (s3.2.length) (y3.2) 28 2 (s3.2.flatMap Ej),Bc Tryz.prog 28 Ew Cu g1 (s3.1),y0]++Lf) (fun s0 y0=>Inv (s0.1) y0∧True) ye ((by exact ⟨hi0,trivial⟩)) (by exact .pick 0 rfl (.pick 0 rfl (.pick 0 rfl (.refl)))) ?_;intro s0 y0 hG1 x0 hx1 ht0;unfold Gr at hx1;obtain ⟨hi138,-⟩:=hG1;refine Y6 ?_;refine Ti hx1 (s:=49) rfl (fun h0 hx2=>?_) (fun h0 hx3=>?_)
  ·refine Y7 ?_;obtain ⟨x1,h1,hx4⟩:=Ad hx2;refine Fu (k:=0) rfl (by decide) (fun _=>rfl) h1 (fun b0 j0 hA0 hj0 hl1 hm0 hp0=>?_);refine Aj (Be rfl rfl hA0 (j:=j0) hj0 hl1 Ax8) rfl ?_;refine Aj (Co rfl hp0 (sb 0) rfl Fe) rfl ?_;refine T_x (Bj Al1 rfl (fun g0=>?_));refine T_h (Ay rfl rfl rfl (.here) (.put (.put (.done))) rfl (List.cons_ne_nil _ _) Fe.2 ?_);refine Y3 ?_;refine Azr ?_;refine Oo (Ye rfl) rfl ?_;refine Oo (Ye rfl) rfl ?_;refine Oo (Az rfl (i:=0) rfl rfl Fe) rfl ?_;obtain ⟨h2,hx5⟩:=Bh hx4;obtain ⟨x2,h3,hx6⟩:=Ad hx5;refine Oo (Agp (x:=x1) (i:=2) (vv:=.agg #[.int .i64 (x2.Id),.int .i64 (x2.X),.int .i64 (x2.Y),.int .i64 (x2.Z.Lo),.int .i64 (x2.Z.Hi),.int .i64 (x2.Wide),.int .i64 (x2.Num),.int .i64 (x2.Of),.int .i64 (x2.Class)]) Aqt Tryz.underlying241 (fun w=>by kernel_rfl) Qz rfl rfl rfl rfl Ez (Aqu x1 h2) h3 rfl) rfl ?_;obtain ⟨x3,h4,hx7⟩:=Ad hx6;refine Axj (i:=3) rfl rfl rfl (hy _ _ _ _ h4 hi138) rfl (fun e0 hi163=>?_);refine Oo (Aoq rfl) rfl ?_;refine Azq ?_;refine Y9 ?_;exact Ru (x3,w64 (s0.2+1)) e0 hx7 ((by exact ⟨hi163,trivial⟩))
  ·refine Y3 ?_;obtain rfl:=Cq ht0 hx3;refine Y2 ?_;obtain rfl:=Option.some.inj ho0;exact Agx (rs:=[]) Tryz.results222 (.nil) (Ln:=[y0]) ⟨y0,rfl,hi138⟩ (by exact .pick 2 rfl (.drop 0 rfl (.drop 0 rfl (.refl))))
 ·refine Y2 ?_;refine Aj (Ce rfl hp1' (SubE.appC (SubE.tail (SubE.tail (hKf))) (SubE.nil)) rfl Ajh) rfl ?_;refine Aj (Cb rfl 66 Tryz.underlying47) rfl ?_;refine Y4 ?_;obtain ⟨t1,hl2,ho1⟩:=Ad hx;refine Bt 28 2 ?_
  have hn0:0=(([]:List Ab)).length:=by simp [Bo,Ch,List.length_append] <;> omega
  refine En (.here) (e':=.r (none) ((([]:List Ab)).length) (0) 28 2 ((([]:List Ab)).flatMap Ej)) (by first | (rw [← hn0];done) | rfl) ?_;refine Lp (σ:=(List (Ab × Aa)) × (List Ab) × Int) (γ:=(Option Addr) × Nat) hl2 (fun s1 y1=>[(0,.func (.yield l) #[] #[]),(2,.pointer (some ⟨g0_2,0,none⟩)),(4,.map (some g1)),(5,.slice (y1.1) (s1.2.1.length) (y1.2)),(14,.slice (A0_0) (p1.length) (c0_0)),(15,.int .i64 (((p1.length:Nat):Int))),(16,.int .i64 (s1.2.2))]) (fun s1 y1=>[.r (y1.1) (s1.2.1.length) (y1.2) 28 2 (s1.2.1.flatMap Ej),Bc Tryz.prog 28 Ew Cu g1 (s1.1),ye]++Lf) (fun s1 y1=>True) (none,0) trivial (by exact .pick 0 rfl (.pick 0 rfl (.pick 0 rfl (.refl)))) ?_;intro s1 y1 hG2 x4 hx8 ht1;unfold Hj at hx8;refine Y6 ?_;refine Ti hx8 (s:=17) rfl (fun h5 hx9=>?_) (fun h5 hx59=>?_)
  ·refine Y3 ?_;refine Tj (γ:=(Option Addr) × Nat) hx9 (fun s2 y2=>[(0,.func (.yield l) #[] #[]),(2,.pointer (some ⟨g0_2,0,none⟩)),(4,.map (some g1)),(5,.slice (y2.1) (s2.2.length) (y2.2)),(14,.slice (A0_0) (p1.length) (c0_0)),(15,.int .i64 (((p1.length:Nat):Int))),(16,.int .i64 (s1.2.2))]) (fun s2 y2=>[.r (y2.1) (s2.2.length) (y2.2) 28 2 (s2.2.flatMap Ej),Bc Tryz.prog 28 Ew Cu g1 (s2.1),ye]++Lf) (fun s2 y2=>True) (fun s2 y2 hx10 hG3=>?_) (fun j1 hx9=>?_)
   ·refine Y4 ?_;exact Ru (s2.1,s2.2,w64 (s1.2.2+1)) (y2.1,y2.2) hx10 trivial
   ·refine Y3 ?_;obtain ⟨x5,h6,hx62⟩:=Ad hx9;obtain ⟨b1,o0,j2,hA1,hj1,hl3,hp3⟩:=Has.at_idx ha0' h6;refine Aj (Be rfl rfl hA1 (j:=j2) hj1 hl3 Qm) rfl ?_;refine Aj (Co rfl hp3 (SubE.appC (SubE.tail (SubE.tail (SubE.tail (hKf)))) (SubE.nil)) rfl Cy) rfl ?_;refine T_x (Bj Mz rfl (fun g2=>?_));refine T_h (Ay rfl rfl rfl (.here) (.put (.put (.put (.put (.put (.put (.put (.put (.put (.done)))))))))) rfl (List.cons_ne_nil _ _) Cy.2 ?_);refine Y4 ?_;refine Aj (Ce rfl hp2' (SubE.appC (SubE.tail (SubE.tail (SubE.tail (SubE.tail (hKf))))) (SubE.nil)) rfl Avw) rfl ?_;refine Aj (Az rfl (i:=0) rfl rfl Cy) rfl ?_;obtain ⟨x6,h7,hx73⟩:=Ad hx62;refine T_x (Aoo (u:=x5) hkey rfl rfl h7 (SubE.tail (SubE.tail (SubE.tail (SubE.tail hKf)))) rfl ?_);refine T_x (Bj Al1 rfl (fun g3=>?_));refine T_h (Ay rfl rfl rfl (.here) (.put (.put (.done))) rfl (List.cons_ne_nil _ _) Fe.2 ?_);refine Y5 ?_;refine Aj (Az rfl (i:=0) rfl rfl Fe) rfl ?_;obtain ⟨h8,hx76⟩:=Bh hx73;obtain ⟨x7,h9,hx79⟩:=Ad hx76;refine Aj (Ka (x:=x6) (i:=3) (vv:=.agg #[.int .i64 (x7.Id),.int .i64 (x7.X),.int .i64 (x7.Y),.int .i64 (x7.Z.Lo),.int .i64 (x7.Z.Hi),.int .i64 (x7.Wide),.int .i64 (x7.Num),.int .i64 (x7.Of),.int .i64 (x7.Class)]) Aqt Tryz.underlying241 (fun w=>by kernel_rfl) Qz rfl rfl rfl rfl Ez (Aqu x6 h8) h9 rfl) rfl ?_
    refine Y3 ?_;refine T_x (Bj Mz rfl (fun g4=>?_));refine T_h (Ay rfl rfl rfl (.here) (.put (.put (.put (.put (.put (.put (.put (.put (.put (.done)))))))))) rfl (List.cons_ne_nil _ _) Cy.2 ?_);refine Y3 ?_;refine Tj (γ:=(Option Addr) × Nat) hx79 (fun s4 y4=>[(0,.func (.yield l) #[] #[]),(2,.pointer (some ⟨g0_2,0,none⟩)),(4,.map (some g1)),(5,.slice (y4.1) (s4.length) (y4.2)),(7,.pointer (some ⟨g2,0,none⟩)),(8,.pointer (some ⟨g3,0,none⟩)),(9,.pointer (some ⟨g4,0,none⟩)),(10,.bool ((mget s1.1 x6).isSome)),(14,.slice (A0_0) (p1.length) (c0_0)),(15,.int .i64 (((p1.length:Nat):Int))),(16,.int .i64 (s1.2.2))]) (fun s4 y4=>[.m g4 66 [.int .i64 (x7.Id),.int .i64 (x7.X),.int .i64 (x7.Y),.int .i64 (x7.Z.Lo),.int .i64 (x7.Z.Hi),.int .i64 (x7.Wide),.int .i64 (x7.Num),.int .i64 (x7.Of),.int .i64 (x7.Class)],.m g3 28 [.int .i64 (x6.X),.int .i64 (x6.Y)],.m g2 66 [.int .i64 (x5.Id),.int .i64 (x5.X),.int .i64 (x5.Y),.int .i64 (x5.Z.Lo),.int .i64 (x5.Z.Hi),.int .i64 (x5.Wide),.int .i64 (x5.Num),.int .i64 (x5.Of),.int .i64 (x5.Class)],.r (y4.1) (s4.length) (y4.2) 28 2 (s4.flatMap Ej),Bc Tryz.prog 28 Ew Cu g1 (s1.1),ye]++Lf) (fun s4 y4=>True) (fun s4 y4 hx89 hG4=>?_) (fun j4 hx79=>?_)
    ·refine Tj (γ:=Unit) hx89 (fun s5 y5=>[(0,.func (.yield l) #[] #[]),(2,.pointer (some ⟨g0_2,0,none⟩)),(4,.map (some g1)),(5,.slice (y4.1) (s4.length) (y4.2)),(7,.pointer (some ⟨g2,0,none⟩)),(8,.pointer (some ⟨g3,0,none⟩)),(14,.slice (A0_0) (p1.length) (c0_0)),(15,.int .i64 (((p1.length:Nat):Int))),(16,.int .i64 (s1.2.2)),(41,.bool (s5))]) (fun s5 y5=>[.m g3 28 [.int .i64 (x6.X),.int .i64 (x6.Y)],.m g2 66 [.int .i64 (x5.Id),.int .i64 (x5.X),.int .i64 (x5.Y),.int .i64 (x5.Z.Lo),.int .i64 (x5.Z.Hi),.int .i64 (x5.Wide),.int .i64 (x5.Num),.int .i64 (x5.Of),.int .i64 (x5.Class)],.r (y4.1) (s4.length) (y4.2) 28 2 (s4.flatMap Ej),Bc Tryz.prog 28 Ew Cu g1 (s1.1),ye]++Lf) (fun s5 y5=>True) (fun s5 y5 hx97 hG5=>?_) (fun j5 hx89=>?_)
     ·refine Dm (s:=41) rfl (fun h99=>?_) (fun h99=>?_)
      ·have hx11:=Cp h99 hx97;refine Y3 ?_;refine Aj (Az rfl (i:=0) rfl rfl Fe) rfl ?_;refine Aj (Az rfl (i:=1) rfl rfl Cy) rfl ?_;obtain ⟨h10,hx12⟩:=Bh hx11;obtain ⟨h11,hx13⟩:=Bh hx12;refine T_h (Nn (x:=x6) (y:=x5) Aqt Qz Tryz.underlying241 rfl rfl rfl rfl rfl (.there (.there (.there (.here)))) (Aqu x6 h10) h11 ?_);refine Y2 ?_;exact Mu (mput s1.1 x6 x5,s4) (y4.1,y4.2) hx13 trivial
      ·have hx14:=Db h99 hx97;refine Y3 ?_;exact Mu (s1.1,s4) (y4.1,y4.2) hx14 trivial
     ·refine Y4 ?_;refine Fm (s:=37) rfl (fun h91=>?_) (fun h91=>?_)
      ·have hx92:=Db h91 hx89;refine Y5 ?_;exact Mu true () hx92 trivial
      ·have hx93:=Cp h91 hx89;refine Dd rfl rfl rfl (Az rfl (i:=2) rfl rfl Cy) rfl ?_;refine Dd rfl rfl rfl (Az rfl (i:=0) rfl rfl Cy) rfl ?_;obtain ⟨r0,h95,hx96⟩:=Ad hx93;refine T_xG rfl rfl rfl (Au rfl (fun w1 hw1=>Zn x5 x7  h95 w1) rfl ?_);rintro _ _ hlo ⟨rfl,rfl,-⟩;refine Dh ?_;refine Y2 ?_;exact Mu r0 () hx96 trivial
    ·refine Y6 ?_;refine Fm (s:=30) rfl (fun h81=>?_) (fun h81=>?_)
     ·have hx82:=Db h81 hx79;refine Y3 ?_;refine Aj (Az rfl (i:=1) rfl rfl Fe) rfl ?_;refine T_x (Bv rfl (Xn _ _) rfl (fun g5=>?_));obtain ⟨h84,hx85⟩:=Bh hx82;refine T_h (Dv Ej (s1.2.1) [x6] rfl rfl rfl Ayi (fun _=>rfl) (i':=0) rfl rfl rfl rfl h84 rfl (fun _ _=>.there (.there (.there (.there (.here))))) (fun _ _=>.drop .refl) (by decide) (fun A0 c0=>?_));refine Y2 ?_;exact Mu (s1.2.1++[x6]) (A0,c0) hx85 trivial
     ·have hx88:=Cp h81 hx79;refine Y2 ?_;exact Mu s1.2.1 (y1.1,y1.2) hx88 trivial
  ·refine Y3 ?_;obtain rfl:=Cq ht1 hx59;refine Y2 ?_;exact Mu (s1.1,s1.2.1) (y1.1,y1.2) ho1 trivial
theorem Aeh (p0:Aa) (p1:Ag) {K:List Ent} {g0_1:Nat} (hp1:Pt K g0_1 0 [.int .i64 (p1.Cell),.int .i64 (p1.Reach),.int .i64 (p1.Slope),.int .i64 (p1.Link),.int .i64 (p1.Flat),.int .i64 (p1.Tall),.int .i64 (p1.High),.int .i64 (p1.Low),.int .i64 (p1.Brush),.int .i64 (p1.Few)]) {r:Ab} (hx:Ki p0 p1=some r) (w:World) (hK:∀ e∈K,Ent.ok w e):CtL Tryz.prog 151 [.agg #[.int .i64 (p0.Id),.int .i64 (p0.X),.int .i64 (p0.Y),.int .i64 (p0.Z.Lo),.int .i64 (p0.Z.Hi),.int .i64 (p0.Wide),.int .i64 (p0.Num),.int .i64 (p0.Of),.int .i64 (p0.Class)],.pointer (some ⟨g0_1,0,none⟩)] w fun v Ln=>v = .agg #[.int .i64 (r.X),.int .i64 (r.Y)]∧Ln=[]∧True:=by
 have hp1':=Pt.low (E:=[]) (Pt.up0 hp1) hK;refine CtL.mk 15 Tryz.func151 rfl Tryz.ntmps151 (by kernel_rfl) rfl ?_;show T 15 _ [(0,.agg #[.int .i64 (p0.Id),.int .i64 (p0.X),.int .i64 (p0.Y),.int .i64 (p0.Z.Lo),.int .i64 (p0.Z.Hi),.int .i64 (p0.Wide),.int .i64 (p0.Num),.int .i64 (p0.Of),.int .i64 (p0.Class)]),(1,.pointer (some ⟨g0_1,0,none⟩))] _;unfold Ki at hx;refine Y2 ?_;refine T_x (Dy rfl rfl rfl (fun g1=>?_));refine T_x (Bj Al1 rfl (fun g2=>?_));refine Y3 ?_;refine T_dr [0,1,0,1,2,0,1,0,1,2,0,3] (.q 0 (.q 1 (.q 2 (.q 3 (.q 5 (.q 6 (.q 7 (.q 8 (.e 4 (.e 9 (.q 10 (.e 11 (.done) (.stop))) (.stop)) (.stop)))))))))) mixed (by kernel_rfl) (by kernel_rfl) ?_;refine P_p rfl rfl (Ao rfl Ape rfl) rfl ?_;refine P_q rfl rfl (Aq rfl (i:=1) rfl rfl one3) rfl ?_;refine P_p rfl rfl (Ao rfl Aj9 rfl) rfl ?_;refine P_q rfl rfl (De (d:=0) rfl hp1' (sb 2) rfl one3) rfl ?_;refine P_p rfl rfl (Ao rfl Apf rfl) rfl ?_;refine P_q rfl rfl (Aq rfl (i:=1) rfl rfl one3) rfl ?_;refine P_p rfl rfl (Ao rfl Aj9 rfl) rfl ?_;refine P_q rfl rfl (De (d:=0) rfl hp1' (sb 2) rfl one3) rfl ?_;obtain ⟨r3,h4,hx5⟩:=Ad hx;refine Pc (fun w1 hw1=>Zo p0.X p1.Cell  h4 w1) ?_;obtain ⟨r6,h7,hx8⟩:=Ad hx5;refine Pc (fun w1 hw1=>Zo p0.Y p1.Cell  h7 w1) ?_;refine P_p rfl rfl (Ct rfl (Zk _ _)) rfl ?_;refine P_h rfl rfl (Ay rfl rfl rfl (.here) (.put (.put (.done))) rfl (List.cons_ne_nil _ _) Fe.2 ?_) Am;refine Y3 ?_;obtain rfl:=Option.some.inj hx8;exact Bq (rs:=[.cell 3 28]) Tryz.results151 (.cell rfl (i:=0) rfl rfl Fe (.nil)) (Ln:=[]) ⟨rfl,rfl,trivial⟩ (Bw) (by exact .drop 0 rfl (.drop 0 rfl (.refl)))
end Go.Proofs.YtbkobeeileemjaaGreat
/-
 DERIVED: THE SHELF's CONTRACTS AT THIS DUMP,IN PLAIN WORDS (tools/lay-plain.mjs out of 'YtbkobeeileemjaaGreatSl0.lean',which tools/lay-shelf.mjs wrote): THE SAME DECLARATIONS UNDER THE SAME NAMES: 'import','namespace','open','def','theorem' AND NOTHING ELSE: no command of the shelf's: FOR A HAND-IN. Each laying: the table of numbers ('.._ren') and one theorem,a field a fact of the dump's own or the kernel's comparison;each contract: ONE APPLICATION.
-/
namespace Go.Proofs
open Go.Shelf
def Tryz.laysSort2_ren:Go.Shelf.Ren:=⟨fun | 6=>105 | 15=>172 | 14=>182 | 28=>238 | 29=>239 | 20=>246 | 21=>247 | 22=>248 | 23=>249 | 24=>250 | 25=>251 | 26=>252 | 27=>253 | 46=>320 | 47=>316 | 48=>317 | 49=>321 | 50=>322 | 57=>364 | n=>n,fun | 22=>23 | 24=>97 | 25=>141 | 3=>3 | 39=>35 | 0=>0 | 53=>224 | 55=>246 | 4=>4 | 46=>257 | 45=>256 | 50=>150 | 5=>5 | 9=>9 | 66=>313 | 70=>317 | 76=>345 | 77=>244 | n=>n,fun | n=>n⟩
theorem Tryz.laysSort2:Go.Proofs.SlLaysF0.n6 Tryz.prog Tryz.laysSort2_ren:={
 mixed:=by kernel_rfl
 f6:=⟨Tryz.f105.name,by decide,Tryz.func105.trans (congrArg some (by kernel_rfl))⟩
 f14:=⟨Tryz.f182.name,by decide,Tryz.func182.trans (congrArg some (by kernel_rfl))⟩
 f15:=Tryz.func172.trans (congrArg some (by kernel_rfl))
 f20:=⟨Tryz.f246.name,by decide,Tryz.func246.trans (congrArg some (by kernel_rfl))⟩
 f21:=⟨Tryz.f247.name,by decide,Tryz.func247.trans (congrArg some (by kernel_rfl))⟩
 f22:=⟨Tryz.f248.name,by decide,Tryz.func248.trans (congrArg some (by kernel_rfl))⟩
 f23:=⟨Tryz.f249.name,by decide,Tryz.func249.trans (congrArg some (by kernel_rfl))⟩
 f24:=⟨Tryz.f250.name,by decide,Tryz.func250.trans (congrArg some (by kernel_rfl))⟩
 f25:=⟨Tryz.f251.name,by decide,Tryz.func251.trans (congrArg some (by kernel_rfl))⟩
 f26:=⟨Tryz.f252.name,by decide,Tryz.func252.trans (congrArg some (by kernel_rfl))⟩
 f27:=⟨Tryz.f253.name,by decide,Tryz.func253.trans (congrArg some (by kernel_rfl))⟩
 f28:=Tryz.func238.trans (congrArg some (by kernel_rfl))
 f29:=Tryz.func239.trans (congrArg some (by kernel_rfl))
 f46:=⟨Tryz.f320.name,by decide,Tryz.func320.trans (congrArg some (by kernel_rfl))⟩
 f47:=Tryz.func316.trans (congrArg some (by kernel_rfl))
 f48:=Tryz.func317.trans (congrArg some (by kernel_rfl))
 f49:=⟨Tryz.f321.name,by decide,Tryz.func321.trans (congrArg some (by kernel_rfl))⟩
 f50:=⟨Tryz.f322.name,by decide,Tryz.func322.trans (congrArg some (by kernel_rfl))⟩
 f57:=⟨Tryz.f364.name,by decide,Tryz.func364.trans (congrArg some (by kernel_rfl))⟩
 t0:=Tryz.underlying0
 a0:=Tryz.isAgg0
 z0:=Tryz.sizeOf0
 v0:=Tryz.zeroValue0
 t3:=Tryz.underlying3
 a3:=Tryz.isAgg3
 z3:=Tryz.sizeOf3
 v3:=Tryz.zeroValue3
 t4:=Tryz.underlying4
 a4:=Tryz.isAgg4
 z4:=Tryz.sizeOf4
 v4:=Tryz.zeroValue4
 t5:=Tryz.underlying5
 a5:=Tryz.isAgg5
 z5:=Tryz.sizeOf5
 v5:=Tryz.zeroValue5
 t9:=Tryz.underlying9
 a9:=Tryz.isAgg9
 z9:=Tryz.sizeOf9
 v9:=Tryz.zeroValue9
 t22:=Tryz.underlying23
 a22:=Tryz.isAgg23
 z22:=Tryz.sizeOf23
 v22:=Tryz.zeroValue23
 t25:=Tryz.underlying141
 a25:=Tryz.isAgg141
 z25:=Tryz.sizeOf141
 v25:=Tryz.zeroValue141
 t39:=Tryz.underlying35
 a39:=Tryz.isAgg35
 z39:=Tryz.sizeOf35
 v39:=Tryz.zeroValue35
 t45:=Tryz.underlying256
 a45:=Tryz.isAgg256
 z45:=Tryz.sizeOf256
 v45:=Tryz.zeroValue256
 t46:=Tryz.underlying257
 a46:=Tryz.isAgg257
 z46:=Tryz.sizeOf257
 v46:=Tryz.zeroValue257
 t50:=Tryz.underlying150
 a50:=Tryz.isAgg150
 z50:=Tryz.sizeOf150
 v50:=Tryz.zeroValue150
 t53:=Tryz.underlying224
 a53:=Tryz.isAgg224
 z53:=Tryz.sizeOf224
 v53:=Tryz.zeroValue224
 t55:=Tryz.underlying246
 a55:=Tryz.isAgg246
 z55:=Tryz.sizeOf246
 v55:=Tryz.zeroValue246
 t66:=Tryz.underlying313
 a66:=Tryz.isAgg313
 z66:=Tryz.sizeOf313
 v66:=Tryz.zeroValue313
 t70:=Tryz.underlying317
 a70:=Tryz.isAgg317
 z70:=Tryz.sizeOf317
 v70:=Tryz.zeroValue317
 t76:=Tryz.underlying345
 a76:=Tryz.isAgg345
 z76:=Tryz.sizeOf345
 v76:=Tryz.zeroValue345
 t77:=Tryz.underlying244
 a77:=Tryz.isAgg244
 z77:=Tryz.sizeOf244
 v77:=Tryz.zeroValue244 }
def Tryz.laysSort3_ren:Go.Shelf.Ren:=⟨fun | 6=>117 | 15=>172 | 14=>186 | 28=>238 | 29=>239 | 20=>265 | 21=>266 | 22=>267 | 23=>268 | 24=>269 | 25=>270 | 26=>271 | 27=>272 | 46=>328 | 47=>316 | 48=>317 | 49=>329 | 50=>330 | 57=>367 | n=>n,fun | 22=>38 | 24=>26 | 25=>153 | 3=>3 | 39=>35 | 0=>0 | 53=>224 | 55=>246 | 4=>4 | 46=>257 | 45=>256 | 50=>150 | 5=>5 | 9=>9 | 66=>313 | 70=>317 | 76=>345 | 77=>244 | n=>n,fun | n=>n⟩
theorem Tryz.laysSort3:Go.Proofs.SlLaysF0.n6 Tryz.prog Tryz.laysSort3_ren:={
 mixed:=by kernel_rfl
 f6:=⟨Tryz.f117.name,by decide,Tryz.func117.trans (congrArg some (by kernel_rfl))⟩
 f14:=⟨Tryz.f186.name,by decide,Tryz.func186.trans (congrArg some (by kernel_rfl))⟩
 f15:=Tryz.func172.trans (congrArg some (by kernel_rfl))
 f20:=⟨Tryz.f265.name,by decide,Tryz.func265.trans (congrArg some (by kernel_rfl))⟩
 f21:=⟨Tryz.f266.name,by decide,Tryz.func266.trans (congrArg some (by kernel_rfl))⟩
 f22:=⟨Tryz.f267.name,by decide,Tryz.func267.trans (congrArg some (by kernel_rfl))⟩
 f23:=⟨Tryz.f268.name,by decide,Tryz.func268.trans (congrArg some (by kernel_rfl))⟩
 f24:=⟨Tryz.f269.name,by decide,Tryz.func269.trans (congrArg some (by kernel_rfl))⟩
 f25:=⟨Tryz.f270.name,by decide,Tryz.func270.trans (congrArg some (by kernel_rfl))⟩
 f26:=⟨Tryz.f271.name,by decide,Tryz.func271.trans (congrArg some (by kernel_rfl))⟩
 f27:=⟨Tryz.f272.name,by decide,Tryz.func272.trans (congrArg some (by kernel_rfl))⟩
 f28:=Tryz.func238.trans (congrArg some (by kernel_rfl))
 f29:=Tryz.func239.trans (congrArg some (by kernel_rfl))
 f46:=⟨Tryz.f328.name,by decide,Tryz.func328.trans (congrArg some (by kernel_rfl))⟩
 f47:=Tryz.func316.trans (congrArg some (by kernel_rfl))
 f48:=Tryz.func317.trans (congrArg some (by kernel_rfl))
 f49:=⟨Tryz.f329.name,by decide,Tryz.func329.trans (congrArg some (by kernel_rfl))⟩
 f50:=⟨Tryz.f330.name,by decide,Tryz.func330.trans (congrArg some (by kernel_rfl))⟩
 f57:=⟨Tryz.f367.name,by decide,Tryz.func367.trans (congrArg some (by kernel_rfl))⟩
 t0:=Tryz.underlying0
 a0:=Tryz.isAgg0
 z0:=Tryz.sizeOf0
 v0:=Tryz.zeroValue0
 t3:=Tryz.underlying3
 a3:=Tryz.isAgg3
 z3:=Tryz.sizeOf3
 v3:=Tryz.zeroValue3
 t4:=Tryz.underlying4
 a4:=Tryz.isAgg4
 z4:=Tryz.sizeOf4
 v4:=Tryz.zeroValue4
 t5:=Tryz.underlying5
 a5:=Tryz.isAgg5
 z5:=Tryz.sizeOf5
 v5:=Tryz.zeroValue5
 t9:=Tryz.underlying9
 a9:=Tryz.isAgg9
 z9:=Tryz.sizeOf9
 v9:=Tryz.zeroValue9
 t22:=Tryz.underlying38
 a22:=Tryz.isAgg38
 z22:=Tryz.sizeOf38
 v22:=Tryz.zeroValue38
 t25:=Tryz.underlying153
 a25:=Tryz.isAgg153
 z25:=Tryz.sizeOf153
 v25:=Tryz.zeroValue153
 t39:=Tryz.underlying35
 a39:=Tryz.isAgg35
 z39:=Tryz.sizeOf35
 v39:=Tryz.zeroValue35
 t45:=Tryz.underlying256
 a45:=Tryz.isAgg256
 z45:=Tryz.sizeOf256
 v45:=Tryz.zeroValue256
 t46:=Tryz.underlying257
 a46:=Tryz.isAgg257
 z46:=Tryz.sizeOf257
 v46:=Tryz.zeroValue257
 t50:=Tryz.underlying150
 a50:=Tryz.isAgg150
 z50:=Tryz.sizeOf150
 v50:=Tryz.zeroValue150
 t53:=Tryz.underlying224
 a53:=Tryz.isAgg224
 z53:=Tryz.sizeOf224
 v53:=Tryz.zeroValue224
 t55:=Tryz.underlying246
 a55:=Tryz.isAgg246
 z55:=Tryz.sizeOf246
 v55:=Tryz.zeroValue246
 t66:=Tryz.underlying313
 a66:=Tryz.isAgg313
 z66:=Tryz.sizeOf313
 v66:=Tryz.zeroValue313
 t70:=Tryz.underlying317
 a70:=Tryz.isAgg317
 z70:=Tryz.sizeOf317
 v70:=Tryz.zeroValue317
 t76:=Tryz.underlying345
 a76:=Tryz.isAgg345
 z76:=Tryz.sizeOf345
 v76:=Tryz.zeroValue345
 t77:=Tryz.underlying244
 a77:=Tryz.isAgg244
 z77:=Tryz.sizeOf244
 v77:=Tryz.zeroValue244 }
def Tryz.laysSort1_ren:Go.Shelf.Ren:=⟨fun | 6=>111 | 15=>172 | 14=>183 | 28=>238 | 29=>239 | 20=>254 | 21=>255 | 22=>256 | 23=>257 | 24=>258 | 25=>259 | 26=>260 | 27=>261 | 46=>323 | 47=>316 | 48=>317 | 49=>324 | 50=>325 | 57=>365 | n=>n,fun | 22=>48 | 24=>3 | 25=>148 | 3=>3 | 39=>35 | 0=>0 | 53=>224 | 55=>246 | 4=>4 | 46=>257 | 45=>256 | 50=>150 | 5=>5 | 9=>9 | 66=>313 | 70=>317 | 76=>345 | 77=>244 | n=>n,fun | n=>n⟩
theorem Tryz.laysSort1:Go.Proofs.SlLaysF.n6 Tryz.prog Tryz.laysSort1_ren:={
 mixed:=by kernel_rfl
 f6:=⟨Tryz.f111.name,by decide,Tryz.func111.trans (congrArg some (by kernel_rfl))⟩
 f14:=⟨Tryz.f183.name,by decide,Tryz.func183.trans (congrArg some (by kernel_rfl))⟩
 f15:=Tryz.func172.trans (congrArg some (by kernel_rfl))
 f20:=⟨Tryz.f254.name,by decide,Tryz.func254.trans (congrArg some (by kernel_rfl))⟩
 f21:=⟨Tryz.f255.name,by decide,Tryz.func255.trans (congrArg some (by kernel_rfl))⟩
 f22:=⟨Tryz.f256.name,by decide,Tryz.func256.trans (congrArg some (by kernel_rfl))⟩
 f23:=⟨Tryz.f257.name,by decide,Tryz.func257.trans (congrArg some (by kernel_rfl))⟩
 f24:=⟨Tryz.f258.name,by decide,Tryz.func258.trans (congrArg some (by kernel_rfl))⟩
 f25:=⟨Tryz.f259.name,by decide,Tryz.func259.trans (congrArg some (by kernel_rfl))⟩
 f26:=⟨Tryz.f260.name,by decide,Tryz.func260.trans (congrArg some (by kernel_rfl))⟩
 f27:=⟨Tryz.f261.name,by decide,Tryz.func261.trans (congrArg some (by kernel_rfl))⟩
 f28:=Tryz.func238.trans (congrArg some (by kernel_rfl))
 f29:=Tryz.func239.trans (congrArg some (by kernel_rfl))
 f46:=⟨Tryz.f323.name,by decide,Tryz.func323.trans (congrArg some (by kernel_rfl))⟩
 f47:=Tryz.func316.trans (congrArg some (by kernel_rfl))
 f48:=Tryz.func317.trans (congrArg some (by kernel_rfl))
 f49:=⟨Tryz.f324.name,by decide,Tryz.func324.trans (congrArg some (by kernel_rfl))⟩
 f50:=⟨Tryz.f325.name,by decide,Tryz.func325.trans (congrArg some (by kernel_rfl))⟩
 f57:=⟨Tryz.f365.name,by decide,Tryz.func365.trans (congrArg some (by kernel_rfl))⟩
 t0:=Tryz.underlying0
 a0:=Tryz.isAgg0
 z0:=Tryz.sizeOf0
 v0:=Tryz.zeroValue0
 t3:=Tryz.underlying3
 a3:=Tryz.isAgg3
 z3:=Tryz.sizeOf3
 v3:=Tryz.zeroValue3
 t4:=Tryz.underlying4
 a4:=Tryz.isAgg4
 z4:=Tryz.sizeOf4
 v4:=Tryz.zeroValue4
 t5:=Tryz.underlying5
 a5:=Tryz.isAgg5
 z5:=Tryz.sizeOf5
 v5:=Tryz.zeroValue5
 t9:=Tryz.underlying9
 a9:=Tryz.isAgg9
 z9:=Tryz.sizeOf9
 v9:=Tryz.zeroValue9
 t22:=Tryz.underlying48
 a22:=Tryz.isAgg48
 z22:=Tryz.sizeOf48
 v22:=Tryz.zeroValue48
 a24:=Tryz.isAgg3
 z24:=Tryz.sizeOf3
 t25:=Tryz.underlying148
 a25:=Tryz.isAgg148
 z25:=Tryz.sizeOf148
 v25:=Tryz.zeroValue148
 t39:=Tryz.underlying35
 a39:=Tryz.isAgg35
 z39:=Tryz.sizeOf35
 v39:=Tryz.zeroValue35
 t45:=Tryz.underlying256
 a45:=Tryz.isAgg256
 z45:=Tryz.sizeOf256
 v45:=Tryz.zeroValue256
 t46:=Tryz.underlying257
 a46:=Tryz.isAgg257
 z46:=Tryz.sizeOf257
 v46:=Tryz.zeroValue257
 t50:=Tryz.underlying150
 a50:=Tryz.isAgg150
 z50:=Tryz.sizeOf150
 v50:=Tryz.zeroValue150
 t53:=Tryz.underlying224
 a53:=Tryz.isAgg224
 z53:=Tryz.sizeOf224
 v53:=Tryz.zeroValue224
 t55:=Tryz.underlying246
 a55:=Tryz.isAgg246
 z55:=Tryz.sizeOf246
 v55:=Tryz.zeroValue246
 t66:=Tryz.underlying313
 a66:=Tryz.isAgg313
 z66:=Tryz.sizeOf313
 v66:=Tryz.zeroValue313
 t70:=Tryz.underlying317
 a70:=Tryz.isAgg317
 z70:=Tryz.sizeOf317
 v70:=Tryz.zeroValue317
 t76:=Tryz.underlying345
 a76:=Tryz.isAgg345
 z76:=Tryz.sizeOf345
 v76:=Tryz.zeroValue345
 t77:=Tryz.underlying244
 a77:=Tryz.isAgg244
 z77:=Tryz.sizeOf244
 v77:=Tryz.zeroValue244 }
def Tryz.laysSortP_ren:Go.Shelf.Ren:=⟨fun | 6=>92 | 15=>172 | 14=>171 | 28=>238 | 29=>239 | 20=>230 | 21=>231 | 22=>232 | 23=>233 | 24=>234 | 25=>235 | 26=>236 | 27=>237 | 46=>315 | 47=>316 | 48=>317 | 49=>318 | 50=>319 | 57=>363 | n=>n,fun | 22=>47 | 24=>66 | 25=>131 | 3=>3 | 39=>35 | 0=>0 | 53=>224 | 55=>246 | 4=>4 | 46=>257 | 45=>256 | 50=>150 | 5=>5 | 9=>9 | 66=>313 | 70=>317 | 76=>345 | 77=>244 | n=>n,fun | n=>n⟩
theorem Tryz.laysSortP:Go.Proofs.SlLaysF0.n6 Tryz.prog Tryz.laysSortP_ren:={
 mixed:=by kernel_rfl
 f6:=⟨Tryz.f92.name,by decide,Tryz.func92.trans (congrArg some (by kernel_rfl))⟩
 f14:=⟨Tryz.f171.name,by decide,Tryz.func171.trans (congrArg some (by kernel_rfl))⟩
 f15:=Tryz.func172.trans (congrArg some (by kernel_rfl))
 f20:=⟨Tryz.f230.name,by decide,Tryz.func230.trans (congrArg some (by kernel_rfl))⟩
 f21:=⟨Tryz.f231.name,by decide,Tryz.func231.trans (congrArg some (by kernel_rfl))⟩
 f22:=⟨Tryz.f232.name,by decide,Tryz.func232.trans (congrArg some (by kernel_rfl))⟩
 f23:=⟨Tryz.f233.name,by decide,Tryz.func233.trans (congrArg some (by kernel_rfl))⟩
 f24:=⟨Tryz.f234.name,by decide,Tryz.func234.trans (congrArg some (by kernel_rfl))⟩
 f25:=⟨Tryz.f235.name,by decide,Tryz.func235.trans (congrArg some (by kernel_rfl))⟩
 f26:=⟨Tryz.f236.name,by decide,Tryz.func236.trans (congrArg some (by kernel_rfl))⟩
 f27:=⟨Tryz.f237.name,by decide,Tryz.func237.trans (congrArg some (by kernel_rfl))⟩
 f28:=Tryz.func238.trans (congrArg some (by kernel_rfl))
 f29:=Tryz.func239.trans (congrArg some (by kernel_rfl))
 f46:=⟨Tryz.f315.name,by decide,Tryz.func315.trans (congrArg some (by kernel_rfl))⟩
 f47:=Tryz.func316.trans (congrArg some (by kernel_rfl))
 f48:=Tryz.func317.trans (congrArg some (by kernel_rfl))
 f49:=⟨Tryz.f318.name,by decide,Tryz.func318.trans (congrArg some (by kernel_rfl))⟩
 f50:=⟨Tryz.f319.name,by decide,Tryz.func319.trans (congrArg some (by kernel_rfl))⟩
 f57:=⟨Tryz.f363.name,by decide,Tryz.func363.trans (congrArg some (by kernel_rfl))⟩
 t0:=Tryz.underlying0
 a0:=Tryz.isAgg0
 z0:=Tryz.sizeOf0
 v0:=Tryz.zeroValue0
 t3:=Tryz.underlying3
 a3:=Tryz.isAgg3
 z3:=Tryz.sizeOf3
 v3:=Tryz.zeroValue3
 t4:=Tryz.underlying4
 a4:=Tryz.isAgg4
 z4:=Tryz.sizeOf4
 v4:=Tryz.zeroValue4
 t5:=Tryz.underlying5
 a5:=Tryz.isAgg5
 z5:=Tryz.sizeOf5
 v5:=Tryz.zeroValue5
 t9:=Tryz.underlying9
 a9:=Tryz.isAgg9
 z9:=Tryz.sizeOf9
 v9:=Tryz.zeroValue9
 t22:=Tryz.underlying47
 a22:=Tryz.isAgg47
 z22:=Tryz.sizeOf47
 v22:=Tryz.zeroValue47
 t25:=Tryz.underlying131
 a25:=Tryz.isAgg131
 z25:=Tryz.sizeOf131
 v25:=Tryz.zeroValue131
 t39:=Tryz.underlying35
 a39:=Tryz.isAgg35
 z39:=Tryz.sizeOf35
 v39:=Tryz.zeroValue35
 t45:=Tryz.underlying256
 a45:=Tryz.isAgg256
 z45:=Tryz.sizeOf256
 v45:=Tryz.zeroValue256
 t46:=Tryz.underlying257
 a46:=Tryz.isAgg257
 z46:=Tryz.sizeOf257
 v46:=Tryz.zeroValue257
 t50:=Tryz.underlying150
 a50:=Tryz.isAgg150
 z50:=Tryz.sizeOf150
 v50:=Tryz.zeroValue150
 t53:=Tryz.underlying224
 a53:=Tryz.isAgg224
 z53:=Tryz.sizeOf224
 v53:=Tryz.zeroValue224
 t55:=Tryz.underlying246
 a55:=Tryz.isAgg246
 z55:=Tryz.sizeOf246
 v55:=Tryz.zeroValue246
 t66:=Tryz.underlying313
 a66:=Tryz.isAgg313
 z66:=Tryz.sizeOf313
 v66:=Tryz.zeroValue313
 t70:=Tryz.underlying317
 a70:=Tryz.isAgg317
 z70:=Tryz.sizeOf317
 v70:=Tryz.zeroValue317
 t76:=Tryz.underlying345
 a76:=Tryz.isAgg345
 z76:=Tryz.sizeOf345
 v76:=Tryz.zeroValue345
 t77:=Tryz.underlying244
 a77:=Tryz.isAgg244
 z77:=Tryz.sizeOf244
 v77:=Tryz.zeroValue244 }
def Tryz.laysSort_ren:Go.Shelf.Ren:=⟨fun | 189=>140 | 125=>172 | 257=>210 | 128=>238 | 129=>239 | 294=>292 | 295=>293 | 296=>294 | 297=>295 | 298=>296 | 299=>297 | 216=>298 | 300=>299 | 301=>300 | 328=>344 | 329=>316 | 330=>317 | 331=>345 | 332=>346 | 215=>273 | 343=>370 | n=>n,fun | 28=>48 | 3=>3 | 46=>35 | 0=>0 | 51=>224 | 53=>246 | 4=>4 | 183=>257 | 182=>256 | 131=>150 | 5=>5 | 9=>9 | 218=>313 | 222=>317 | 228=>345 | 229=>244 | n=>n,fun | n=>n⟩
theorem Tryz.laysSort:Go.Proofs.Lays.n189 Tryz.prog Tryz.laysSort_ren:={
 mixed:=by kernel_rfl
 f125:=Tryz.func172.trans (congrArg some (by kernel_rfl))
 f128:=Tryz.func238.trans (congrArg some (by kernel_rfl))
 f129:=Tryz.func239.trans (congrArg some (by kernel_rfl))
 f189:=Tryz.func140.trans (congrArg some (by kernel_rfl))
 f215:=Tryz.func273.trans (congrArg some (by kernel_rfl))
 f216:=Tryz.func298.trans (congrArg some (by kernel_rfl))
 f257:=Tryz.func210.trans (congrArg some (by kernel_rfl))
 f294:=Tryz.func292.trans (congrArg some (by kernel_rfl))
 f295:=Tryz.func293.trans (congrArg some (by kernel_rfl))
 f296:=Tryz.func294.trans (congrArg some (by kernel_rfl))
 f297:=Tryz.func295.trans (congrArg some (by kernel_rfl))
 f298:=Tryz.func296.trans (congrArg some (by kernel_rfl))
 f299:=Tryz.func297.trans (congrArg some (by kernel_rfl))
 f300:=Tryz.func299.trans (congrArg some (by kernel_rfl))
 f301:=Tryz.func300.trans (congrArg some (by kernel_rfl))
 f328:=Tryz.func344.trans (congrArg some (by kernel_rfl))
 f329:=Tryz.func316.trans (congrArg some (by kernel_rfl))
 f330:=Tryz.func317.trans (congrArg some (by kernel_rfl))
 f331:=Tryz.func345.trans (congrArg some (by kernel_rfl))
 f332:=Tryz.func346.trans (congrArg some (by kernel_rfl))
 f343:=Tryz.func370.trans (congrArg some (by kernel_rfl))
 t0:=Tryz.underlying0
 a0:=Tryz.isAgg0
 z0:=Tryz.sizeOf0
 v0:=Tryz.zeroValue0
 t3:=Tryz.underlying3
 a3:=Tryz.isAgg3
 z3:=Tryz.sizeOf3
 v3:=Tryz.zeroValue3
 t4:=Tryz.underlying4
 a4:=Tryz.isAgg4
 z4:=Tryz.sizeOf4
 v4:=Tryz.zeroValue4
 t5:=Tryz.underlying5
 a5:=Tryz.isAgg5
 z5:=Tryz.sizeOf5
 v5:=Tryz.zeroValue5
 t9:=Tryz.underlying9
 a9:=Tryz.isAgg9
 z9:=Tryz.sizeOf9
 v9:=Tryz.zeroValue9
 t28:=Tryz.underlying48
 a28:=Tryz.isAgg48
 z28:=Tryz.sizeOf48
 v28:=Tryz.zeroValue48
 t46:=Tryz.underlying35
 a46:=Tryz.isAgg35
 z46:=Tryz.sizeOf35
 v46:=Tryz.zeroValue35
 t51:=Tryz.underlying224
 a51:=Tryz.isAgg224
 z51:=Tryz.sizeOf224
 v51:=Tryz.zeroValue224
 t53:=Tryz.underlying246
 a53:=Tryz.isAgg246
 z53:=Tryz.sizeOf246
 v53:=Tryz.zeroValue246
 t131:=Tryz.underlying150
 a131:=Tryz.isAgg150
 z131:=Tryz.sizeOf150
 v131:=Tryz.zeroValue150
 t182:=Tryz.underlying256
 a182:=Tryz.isAgg256
 z182:=Tryz.sizeOf256
 v182:=Tryz.zeroValue256
 t183:=Tryz.underlying257
 a183:=Tryz.isAgg257
 z183:=Tryz.sizeOf257
 v183:=Tryz.zeroValue257
 t218:=Tryz.underlying313
 a218:=Tryz.isAgg313
 z218:=Tryz.sizeOf313
 v218:=Tryz.zeroValue313
 t222:=Tryz.underlying317
 a222:=Tryz.isAgg317
 z222:=Tryz.sizeOf317
 v222:=Tryz.zeroValue317
 t228:=Tryz.underlying345
 a228:=Tryz.isAgg345
 z228:=Tryz.sizeOf345
 v228:=Tryz.zeroValue345
 t229:=Tryz.underlying244
 a229:=Tryz.isAgg244
 z229:=Tryz.sizeOf244
 v229:=Tryz.zeroValue244 }
end Go.Proofs
