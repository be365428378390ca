/- Walks of the program, with their plain functions: the lowest ones of groups. -/
import Derived.Test.YtbkobeeileemjaaGreatJ1
namespace Go.Proofs.YtbkobeeileemjaaGreat
open Go Go.RowKit
theorem Alc:Pq Tryz.prog 47:=.mk Tryz.underlying47 rfl (show Tryz.prog.info? 47=some Tryz.t47 from by kernel_rfl) (by kernel_rfl)
theorem Asn:Pq Tryz.prog 186:=.mk Tryz.underlying186 rfl (show Tryz.prog.info? 186=some Tryz.t186 from by kernel_rfl) (by kernel_rfl)
theorem Aco (x0:Int) (x1:Int):Dn Tryz.prog 82 1 [(0,.agg #[.int .i64 x0,.int .i64 x1])] 28 [.int .i64 x0,.int .i64 x1]:=fun w=>by kernel_rfl
theorem Atr:Ui Tryz.prog 82 28 2 16:=⟨Tryz.underlying82,⟨Tryz.t28,.agg #[.int .i64 (0),.int .i64 (0)],by kernel_rfl,by kernel_rfl,by kernel_rfl,by kernel_rfl,rfl⟩,by decide⟩
def Fe (x:Ad):Value:=.agg #[.int .i64 (x.X),.int .i64 (x.Y)]
theorem Qm (x y:Ad) (h:Fe x=Fe y):x=y:=by
 rcases x with ⟨_,_⟩;rcases y with ⟨_,_⟩;simp [Fe] at h;simp [h]
theorem Air:laidOutB Tryz.prog=true:=by kernel_rfl
theorem Aso:(match Tryz.prog.underlying 28 with | some (.array _ _) | some (.struct _)=>true | _=>false)=true:=by kernel_rfl
set_option maxRecDepth 100000 in
theorem Ais:Maps.Keyed Tryz.prog 28:=Maps.Keyed.of_law (deep_law_laid Air (m:=3) (by omega) (of_decide_eq_true (by kernel_rfl)) (by kernel_rfl) Aso)
theorem Ait (x:Ad) (h:(-9223372036854775808≤x.X∧x.X≤9223372036854775807)∧(-9223372036854775808≤x.Y∧x.Y≤9223372036854775807)):(keyOf Tryz.prog 28 (Fe x)).isSome=true:=by
 refine Ajl (cs:=[.int .i64 (x.X),.int .i64 (x.Y)]) (d:=374) (by kernel_rfl) Tryz.underlying28 (by kernel_rfl) (by kernel_rfl) (by kernel_rfl) (fun f hf=>?_)
 simp only [List.mem_cons,List.not_mem_nil,or_false] at hf
 rcases hf with rfl | rfl
 ·exact ⟨.i64,x.X,Tryz.underlying3,by kernel_rfl,Aec h.1⟩
 ·exact ⟨.i64,x.Y,Tryz.underlying3,by kernel_rfl,Aec h.2⟩
def Dm (x:Aa):Value:=.agg #[.int .i64 (x.Id),.int .i64 (x.X),.int .i64 (x.Y),.int .i64 (x.Z.Lo),.int .i64 (x.Z.Hi),.int .i64 (x.Wide),.int .i64 (x.Num),.int .i64 (x.Of),.int .i64 (x.Class)]
noncomputable def Hc (p1:List Aa) (ky:Aa→Option Ad):((List (Ad × Aa)) × (List Ad) × Int)→Option (Sum ((List (Ad × Aa)) × (List Ad) × Int) ((List (Ad × Aa)) × (List Ad))):=fun s0 =>
 if s0.2.2 < ((((p1).length:Nat):Int)) then (jn (fun (s1:(List (Ad × Aa)) × (List Ad)) =>
 some (.inl (s1.1,s1.2,w64 (s0.2.2+1))))
 (fun j0=>bnd (idx p1 s0.2.2) fun x0 =>
 bnd (ky x0) fun x1 =>
 gd ((-9223372036854775808≤x1.X∧x1.X≤9223372036854775807)∧(-9223372036854775808≤x1.Y∧x1.Y≤9223372036854775807)) <|
 bnd (some ((mget s0.1 x1).getD ((⟨0,0,0,(⟨0,0⟩:Dj),0,0,0,0⟩:Aa)))) fun x2 =>
 jn (fun (s2:List Ad) =>
 jn (fun (s3:Bool) =>
 if s3=true then (gd ((-9223372036854775808≤x1.X∧x1.X≤9223372036854775807)∧(-9223372036854775808≤x1.Y∧x1.Y≤9223372036854775807)) <|
 gd ((s0.1).length < 9223372036854775807) <|
 j0 (mput s0.1 x1 x0,s2))
 else (j0 (s0.1,s2)))
 (fun j1=>if ((mget s0.1 x1).isSome)=true then (bnd (Rq x0 x2) fun r0 =>
 j1 r0)
 else (j1 true)))
 (fun j2=>if ((mget s0.1 x1).isSome)=true then (j2 s0.2.1)
 else (gd (((s0.2.1).length+1)*16≤140737488355328) <|
 j2 (s0.2.1++[x1])))))
 else (some (.inr (s0.1,s0.2.1)))
noncomputable def Gm {σ:Type} (s3:(List (Ad × Aa)) × (List Ad)) (st:σ→Aa→Option σ):(σ × Int)→Option (Sum (σ × Int) σ):=fun s0 =>
 if s0.2 < ((((s3.2).length:Nat):Int)) then (bnd (idx s3.2 s0.2) fun x0 =>
 gd ((-9223372036854775808≤x0.X∧x0.X≤9223372036854775807)∧(-9223372036854775808≤x0.Y∧x0.Y≤9223372036854775807)) <|
 bnd (some ((mget s3.1 x0).getD ((⟨0,0,0,(⟨0,0⟩:Dj),0,0,0,0⟩:Aa)))) fun x1 =>
 bnd (st s0.1 x1) fun x2 =>
 some (.inl (x2,w64 (s0.2+1))))
 else (some (.inr s0.1))
noncomputable def Hr {σ:Type} (ky:Aa→Option Ad) (st:σ→Aa→Option σ) (p1:List Aa) (ys:σ):Option σ :=
 jn (fun (s3:(List (Ad × Aa)) × (List Ad)) =>
 bnd (lfix (Gm s3 st) (ys,0)) fun t0 =>
 some t0)
 (fun j3=>bnd (lfix (Hc p1 ky) (([]:List (Ad × Aa)),([]:List Ad),0)) fun t1 =>
 j3 t1)
noncomputable def Jw (p0:Aa) (p1:Bi):Option Ad :=
 bnd (Pk p0.X p1.Cell) fun r3 =>
 bnd (Pk p0.Y p1.Cell) fun r6 =>
 some (⟨r3,r6⟩:Ad)
set_option maxRecDepth 100000 in
theorem Sd {σ:Type} (ky:Aa→Option Ad) (st:σ→Aa→Option σ) (p1:List Aa) (ys:σ) {kv:Value} {l:Nat} {Inv:σ→Ent→Prop} {ye:Ent} {K:List Ent} {A0_0:Option Addr} {c0_0:Nat} (ha0:Has K A0_0 p1.length c0_0 9 Ao (p1)) {g0_1:Nat} {g0_2:Nat} (hp1:Pt K g0_1 0 [.slice (A0_0) (p1.length) (c0_0)]) (hp2:Pt K g0_2 0 [kv]) (hkey:Wp Tryz.prog K kv Dm Fe ky) (hy:∀ s x s' e,st s x=some s'→Inv s e→Afu Tryz.prog l [Dm x] e (Inv s')) (hi0:Inv ys ye) {r:σ} (hx:Hr ky st p1 ys=some r):CtK Tryz.prog 222 [.func (.yield l) #[] #[],.pointer (some ⟨g0_1,0,none⟩),.pointer (some ⟨g0_2,0,none⟩)] K [ye] (fun _ Ln=>∃ e,Ln=[e]∧Inv r e):=by
 have ha0':=Has.up0 ha0;have hp1':=Pt.up0 hp1;have hp2':=Pt.up0 hp2;refine CtK.mk 59 Tryz.func222 rfl Tryz.ntmps222 (by kernel_rfl) rfl ?_;intro Lf hKf;show T 59 _ [(0,.func (.yield l) #[] #[]),(1,.pointer (some ⟨g0_1,0,none⟩)),(2,.pointer (some ⟨g0_2,0,none⟩))] ([ye]++Lf);unfold Hr at hx;refine Y2 ?_;refine T_x (Ph Tryz.prog 28 Fe Dm rfl (fun g1=>?_));refine Y8 ?_;refine Tj (γ:=(Option Addr) × Nat) hx (fun s3 y3=>[(0,.func (.yield l) #[] #[]),(4,.map (some g1)),(5,.slice (y3.1) (s3.2.length) (y3.2))]) (fun s3 y3=>[.r (y3.1) (s3.2.length) (y3.2) 28 2 (s3.2.flatMap Gy),Bg Tryz.prog 28 Fe Dm g1 (s3.1),ye]++Lf) (fun s3 y3=>True) (fun s3 y3 hx0 hG0=>?_) (fun j3 hx=>?_)
 ·refine Y3 ?_;refine Af (Bf rfl 28 Tryz.underlying82) rfl ?_;refine Y4 ?_;obtain ⟨t0,hl0,ho0⟩:=Ac hx0;refine Lp (σ:=σ × Int) (γ:=Ent) hl0 (fun s0 y0=>[(0,.func (.yield l) #[] #[]),(4,.map (some g1)),(46,.slice (y3.1) (s3.2.length) (y3.2)),(47,.int .i64 (((s3.2.length:Nat):Int))),(48,.int .i64 (s0.2))]) (fun s0 y0=>[.r (y3.1) (s3.2.length) (y3.2) 28 2 (s3.2.flatMap Gy),Bg Tryz.prog 28 Fe Dm g1 (s3.1),y0]++Lf) (fun s0 y0=>Inv (s0.1) y0∧True) ye ((by exact ⟨hi0,trivial⟩)) (by exact .pick 0 rfl (.pick 0 rfl (.pick 0 rfl (.refl)))) ?_;intro s0 y0 hG1 x0 hx1 ht0;unfold Gm at hx1;obtain ⟨hi138,-⟩:=hG1;refine Y6 ?_;refine Ti hx1 (s:=49) rfl (fun h0 hx2=>?_) (fun h0 hx3=>?_)
  ·refine Y7 ?_;obtain ⟨x1,h1,hx4⟩:=Ac hx2;refine Ii (k:=0) rfl (by decide) (fun _=>rfl) h1 (fun b0 j0 hA0 hj0 hl1 hm0 hp0=>?_);refine Af (Az rfl rfl hA0 (j:=j0) hj0 hl1 Ah7) rfl ?_;refine Af (Cg rfl hp0 (sb 0) rfl Bv) rfl ?_;refine T_x (Bp Sb rfl (fun g0=>?_));refine T_h (Bc rfl rfl rfl (.here) (.put (.put (.done))) rfl (List.cons_ne_nil _ _) Bv.2 ?_);refine Y3 ?_;refine Arx ?_;refine Nx (Yp rfl) rfl ?_;refine Nx (Yp rfl) rfl ?_;refine Nx (Au rfl (i:=0) rfl rfl Bv) rfl ?_;obtain ⟨h2,hx5⟩:=Bj hx4;obtain ⟨x2,h3,hx6⟩:=Ac hx5;refine Nx (Xj (x:=x1) (i:=2) (vv:=.agg #[.int .i64 (x2.Id),.int .i64 (x2.X),.int .i64 (x2.Y),.int .i64 (x2.Z.Lo),.int .i64 (x2.Z.Hi),.int .i64 (x2.Wide),.int .i64 (x2.Num),.int .i64 (x2.Of),.int .i64 (x2.Class)]) Ais Tryz.underlying241 (fun w=>by kernel_rfl) Qm rfl rfl rfl rfl Fj (Ait x1 h2) h3 rfl) rfl ?_;obtain ⟨x3,h4,hx7⟩:=Ac hx6;refine Apu (i:=3) rfl rfl rfl (hy _ _ _ _ h4 hi138) rfl (fun e0 hi163=>?_);refine Nx (Apm rfl) rfl ?_;refine Arw ?_;refine Y9 ?_;exact Rp (x3,w64 (s0.2+1)) e0 hx7 ((by exact ⟨hi163,trivial⟩)) (by exact .pick 2 rfl (.pick 2 rfl (.pick 0 rfl (.drop 0 rfl (.refl)))))
  ·refine Y3 ?_;obtain rfl:=Bd ht0 hx3;refine Y2 ?_;obtain rfl:=Option.some.inj ho0;exact Aeb (rs:=[]) Tryz.results222 (.nil) (Ln:=[y0]) ⟨y0,rfl,hi138⟩ (by exact .pick 2 rfl (.drop 0 rfl (.drop 0 rfl (.refl))))
 ·refine Y2 ?_;refine Af (Bu rfl hp1' (SubE.appC (SubE.tail (SubE.tail (hKf))) (SubE.nil)) rfl Alc) rfl ?_;refine Af (Bf rfl 66 Tryz.underlying47) rfl ?_;refine Y4 ?_;obtain ⟨t1,hl2,ho1⟩:=Ac hx;refine Cr 28 2 ?_
  have hn0:0=(([]:List Ad)).length:=by simp [Bq,Ca,List.length_append] <;> omega
  refine Ds (.here) (e':=.r (none) ((([]:List Ad)).length) (0) 28 2 ((([]:List Ad)).flatMap Gy)) (by first | (rw [← hn0];done) | rfl) ?_;refine Lp (σ:=(List (Ad × Aa)) × (List Ad) × Int) (γ:=(Option Addr) × Nat) hl2 (fun s1 y1=>[(0,.func (.yield l) #[] #[]),(2,.pointer (some ⟨g0_2,0,none⟩)),(4,.map (some g1)),(5,.slice (y1.1) (s1.2.1.length) (y1.2)),(14,.slice (A0_0) (p1.length) (c0_0)),(15,.int .i64 (((p1.length:Nat):Int))),(16,.int .i64 (s1.2.2))]) (fun s1 y1=>[.r (y1.1) (s1.2.1.length) (y1.2) 28 2 (s1.2.1.flatMap Gy),Bg Tryz.prog 28 Fe Dm g1 (s1.1),ye]++Lf) (fun s1 y1=>True) (none,0) trivial (by exact .pick 0 rfl (.pick 0 rfl (.pick 0 rfl (.refl)))) ?_;intro s1 y1 hG2 x4 hx8 ht1;unfold Hc at hx8;refine Y6 ?_;refine Ti hx8 (s:=17) rfl (fun h5 hx9=>?_) (fun h5 hx59=>?_)
  ·refine Y3 ?_;refine Tj (γ:=(Option Addr) × Nat) hx9 (fun s2 y2=>[(0,.func (.yield l) #[] #[]),(2,.pointer (some ⟨g0_2,0,none⟩)),(4,.map (some g1)),(5,.slice (y2.1) (s2.2.length) (y2.2)),(14,.slice (A0_0) (p1.length) (c0_0)),(15,.int .i64 (((p1.length:Nat):Int))),(16,.int .i64 (s1.2.2))]) (fun s2 y2=>[.r (y2.1) (s2.2.length) (y2.2) 28 2 (s2.2.flatMap Gy),Bg Tryz.prog 28 Fe Dm g1 (s2.1),ye]++Lf) (fun s2 y2=>True) (fun s2 y2 hx10 hG3=>?_) (fun j1 hx9=>?_)
   ·refine Y4 ?_;exact Rp (s2.1,s2.2,w64 (s1.2.2+1)) (y2.1,y2.2) hx10 trivial (by exact .pick 0 rfl (.pick 0 rfl (.pick 0 rfl (.refl))))
   ·refine Y3 ?_;obtain ⟨x5,h6,hx62⟩:=Ac hx9;obtain ⟨b1,o0,j2,hA1,hj1,hl3,hp3⟩:=Has.at_idx ha0' h6;refine Af (Az rfl rfl hA1 (j:=j2) hj1 hl3 Na) rfl ?_;refine Af (Cg rfl hp3 (SubE.appC (SubE.tail (SubE.tail (SubE.tail (hKf)))) (SubE.nil)) rfl Fc) rfl ?_;refine T_x (Bp Xn rfl (fun g2=>?_));refine T_h (Bc rfl rfl rfl (.here) (.put (.put (.put (.put (.put (.put (.put (.put (.put (.done)))))))))) rfl (List.cons_ne_nil _ _) Fc.2 ?_);refine Y4 ?_;refine Af (Bu rfl hp2' (SubE.appC (SubE.tail (SubE.tail (SubE.tail (SubE.tail (hKf))))) (SubE.nil)) rfl Asn) rfl ?_;refine Af (Au rfl (i:=0) rfl rfl Fc) rfl ?_;obtain ⟨x6,h7,hx73⟩:=Ac hx62;refine T_x (Ai8 (u:=x5) hkey rfl rfl h7 (SubE.tail (SubE.tail (SubE.tail (SubE.tail hKf)))) rfl ?_);refine T_x (Bp Sb rfl (fun g3=>?_));refine T_h (Bc rfl rfl rfl (.here) (.put (.put (.done))) rfl (List.cons_ne_nil _ _) Bv.2 ?_);refine Y5 ?_;refine Af (Au rfl (i:=0) rfl rfl Bv) rfl ?_;obtain ⟨h8,hx76⟩:=Bj hx73;obtain ⟨x7,h9,hx79⟩:=Ac hx76;refine Af (My (x:=x6) (i:=3) (vv:=.agg #[.int .i64 (x7.Id),.int .i64 (x7.X),.int .i64 (x7.Y),.int .i64 (x7.Z.Lo),.int .i64 (x7.Z.Hi),.int .i64 (x7.Wide),.int .i64 (x7.Num),.int .i64 (x7.Of),.int .i64 (x7.Class)]) Ais Tryz.underlying241 (fun w=>by kernel_rfl) Qm rfl rfl rfl rfl Fj (Ait x6 h8) h9 rfl) rfl ?_
    refine Y3 ?_;refine T_x (Bp Xn rfl (fun g4=>?_));refine T_h (Bc rfl rfl rfl (.here) (.put (.put (.put (.put (.put (.put (.put (.put (.put (.done)))))))))) rfl (List.cons_ne_nil _ _) Fc.2 ?_);refine Y3 ?_;refine Tj (γ:=(Option Addr) × Nat) hx79 (fun s4 y4=>[(0,.func (.yield l) #[] #[]),(2,.pointer (some ⟨g0_2,0,none⟩)),(4,.map (some g1)),(5,.slice (y4.1) (s4.length) (y4.2)),(7,.pointer (some ⟨g2,0,none⟩)),(8,.pointer (some ⟨g3,0,none⟩)),(9,.pointer (some ⟨g4,0,none⟩)),(10,.bool ((mget s1.1 x6).isSome)),(14,.slice (A0_0) (p1.length) (c0_0)),(15,.int .i64 (((p1.length:Nat):Int))),(16,.int .i64 (s1.2.2))]) (fun s4 y4=>[.m g4 66 [.int .i64 (x7.Id),.int .i64 (x7.X),.int .i64 (x7.Y),.int .i64 (x7.Z.Lo),.int .i64 (x7.Z.Hi),.int .i64 (x7.Wide),.int .i64 (x7.Num),.int .i64 (x7.Of),.int .i64 (x7.Class)],.m g3 28 [.int .i64 (x6.X),.int .i64 (x6.Y)],.m g2 66 [.int .i64 (x5.Id),.int .i64 (x5.X),.int .i64 (x5.Y),.int .i64 (x5.Z.Lo),.int .i64 (x5.Z.Hi),.int .i64 (x5.Wide),.int .i64 (x5.Num),.int .i64 (x5.Of),.int .i64 (x5.Class)],.r (y4.1) (s4.length) (y4.2) 28 2 (s4.flatMap Gy),Bg Tryz.prog 28 Fe Dm g1 (s1.1),ye]++Lf) (fun s4 y4=>True) (fun s4 y4 hx89 hG4=>?_) (fun j4 hx79=>?_)
    ·refine Tj (γ:=Unit) hx89 (fun s5 y5=>[(0,.func (.yield l) #[] #[]),(2,.pointer (some ⟨g0_2,0,none⟩)),(4,.map (some g1)),(5,.slice (y4.1) (s4.length) (y4.2)),(7,.pointer (some ⟨g2,0,none⟩)),(8,.pointer (some ⟨g3,0,none⟩)),(14,.slice (A0_0) (p1.length) (c0_0)),(15,.int .i64 (((p1.length:Nat):Int))),(16,.int .i64 (s1.2.2)),(41,.bool (s5))]) (fun s5 y5=>[.m g3 28 [.int .i64 (x6.X),.int .i64 (x6.Y)],.m g2 66 [.int .i64 (x5.Id),.int .i64 (x5.X),.int .i64 (x5.Y),.int .i64 (x5.Z.Lo),.int .i64 (x5.Z.Hi),.int .i64 (x5.Wide),.int .i64 (x5.Num),.int .i64 (x5.Of),.int .i64 (x5.Class)],.r (y4.1) (s4.length) (y4.2) 28 2 (s4.flatMap Gy),Bg Tryz.prog 28 Fe Dm g1 (s1.1),ye]++Lf) (fun s5 y5=>True) (fun s5 y5 hx97 hG5=>?_) (fun j5 hx89=>?_)
     ·refine By (s:=41) rfl (fun h99=>?_) (fun h99=>?_)
      ·have hx11:=Bx h99 hx97;refine Y3 ?_;refine Af (Au rfl (i:=0) rfl rfl Bv) rfl ?_;refine Af (Au rfl (i:=1) rfl rfl Fc) rfl ?_;obtain ⟨h10,hx12⟩:=Bj hx11;obtain ⟨h11,hx13⟩:=Bj hx12;refine T_h (Kw (x:=x6) (y:=x5) Ais Qm Tryz.underlying241 rfl rfl rfl rfl rfl (.there (.there (.there (.here)))) (Ait x6 h10) h11 ?_);refine Y2 ?_;exact Mt (mput s1.1 x6 x5,s4) (y4.1,y4.2) hx13 trivial (by exact .pick 2 rfl (.pick 2 rfl (.pick 2 rfl (.drop 0 rfl (.drop 0 rfl (.refl))))))
      ·have hx14:=Bn h99 hx97;refine Y3 ?_;exact Mt (s1.1,s4) (y4.1,y4.2) hx14 trivial (by exact .pick 2 rfl (.pick 2 rfl (.pick 2 rfl (.drop 0 rfl (.drop 0 rfl (.refl))))))
     ·refine Y4 ?_;refine Cz (s:=37) rfl (fun h91=>?_) (fun h91=>?_)
      ·have hx92:=Bn h91 hx89;refine Y5 ?_;exact Mt true () hx92 trivial (by exact .pick 1 rfl (.pick 1 rfl (.pick 1 rfl (.pick 1 rfl (.pick 1 rfl (.drop 0 rfl (.refl)))))))
      ·have hx93:=Bx h91 hx89;refine Aq rfl rfl rfl (Au rfl (i:=2) rfl rfl Fc) rfl ?_;refine Aq rfl rfl rfl (Au rfl (i:=0) rfl rfl Fc) rfl ?_;obtain ⟨r0,h95,hx96⟩:=Ac hx93;refine T_xG rfl rfl rfl (Aw rfl (fun w1 hw1=>Aei x5 x7  h95 w1) rfl ?_);rintro _ _ hlo ⟨rfl,rfl,-⟩;refine Cs ?_;refine Y2 ?_;exact Mt r0 () hx96 trivial (by exact .pick 1 rfl (.pick 1 rfl (.pick 1 rfl (.pick 1 rfl (.pick 1 rfl (.drop 0 rfl (.refl)))))))
    ·refine Y6 ?_;refine Cz (s:=30) rfl (fun h81=>?_) (fun h81=>?_)
     ·have hx82:=Bn h81 hx79;refine Y3 ?_;refine Af (Au rfl (i:=1) rfl rfl Bv) rfl ?_;refine T_x (Bk rfl (Aco _ _) rfl (fun g5=>?_));obtain ⟨h84,hx85⟩:=Bj hx82;refine T_h (Dd Gy (s1.2.1) [x6] rfl rfl rfl Atr (fun _=>rfl) (i':=0) rfl rfl rfl rfl h84 rfl (fun _ _=>.there (.there (.there (.there (.here))))) (fun _ _=>.drop .refl) (by decide) (fun A0 c0=>?_));refine Y2 ?_;exact Mt (s1.2.1++[x6]) (A0,c0) hx85 trivial (by exact .pick 0 rfl (.pick 0 rfl (.pick 0 rfl (.pick 0 rfl (.pick 0 rfl (.pick 0 rfl (.refl)))))))
     ·have hx88:=Bx h81 hx79;refine Y2 ?_;exact Mt s1.2.1 (y1.1,y1.2) hx88 trivial (by exact .pick 0 rfl (.pick 0 rfl (.pick 0 rfl (.pick 0 rfl (.pick 0 rfl (.pick 0 rfl (.refl)))))))
  ·refine Y3 ?_;obtain rfl:=Bd ht1 hx59;refine Y2 ?_;exact Mt (s1.1,s1.2.1) (y1.1,y1.2) ho1 trivial (by exact .pick 0 rfl (.pick 0 rfl (.pick 0 rfl (.refl))))
set_option maxRecDepth 100000 in
theorem Acp (p0:Aa) (p1:Bi) {K:List Ent} {g0_1:Nat} (hp1:Pt K g0_1 0 [.int .i64 (p1.Cell),.int .i64 (p1.Reach),.int .i64 (p1.Slope),.int .i64 (p1.Link),.int .i64 (p1.Flat),.int .i64 (p1.Tall),.int .i64 (p1.High),.int .i64 (p1.Low),.int .i64 (p1.Brush),.int .i64 (p1.Few)]) {r:Ad} (hx:Jw p0 p1=some r) (w:World) (hK:∀ e∈K,Ent.ok w e):CtL Tryz.prog 151 [.agg #[.int .i64 (p0.Id),.int .i64 (p0.X),.int .i64 (p0.Y),.int .i64 (p0.Z.Lo),.int .i64 (p0.Z.Hi),.int .i64 (p0.Wide),.int .i64 (p0.Num),.int .i64 (p0.Of),.int .i64 (p0.Class)],.pointer (some ⟨g0_1,0,none⟩)] w fun v Ln=>v = .agg #[.int .i64 (r.X),.int .i64 (r.Y)]∧Ln=[]∧True:=by
 have hp1':=Pt.low (E:=[]) (Pt.up0 hp1) hK;refine CtL.mk 15 Tryz.func151 rfl Tryz.ntmps151 (by kernel_rfl) rfl ?_;show T 15 _ [(0,.agg #[.int .i64 (p0.Id),.int .i64 (p0.X),.int .i64 (p0.Y),.int .i64 (p0.Z.Lo),.int .i64 (p0.Z.Hi),.int .i64 (p0.Wide),.int .i64 (p0.Num),.int .i64 (p0.Of),.int .i64 (p0.Class)]),(1,.pointer (some ⟨g0_1,0,none⟩))] _;unfold Jw at hx;refine Y2 ?_;refine T_x (Bl rfl rfl rfl (fun g1=>?_));refine T_x (Bp Sb rfl (fun g2=>?_));refine Y3 ?_;refine T_dr [0,1,0,1,2,0,1,0,1,2,0,3] (.q 0 (.q 1 (.q 2 (.q 3 (.q 5 (.q 6 (.q 7 (.q 8 (.e 4 (.e 9 (.q 10 (.e 11 (.done) (.stop))) (.stop)) (.stop)))))))))) mixed (by kernel_rfl) (by kernel_rfl) ?_;refine P_p rfl rfl (Ah rfl Si rfl) rfl ?_;refine P_q rfl rfl (Ag rfl (i:=1) rfl rfl one3) rfl ?_;refine P_p rfl rfl (Ah rfl Agu rfl) rfl ?_;refine P_q rfl rfl (Ew (d:=0) rfl hp1' (sb 2) rfl one3) rfl ?_;refine P_p rfl rfl (Ah rfl Sj rfl) rfl ?_;refine P_q rfl rfl (Ag rfl (i:=1) rfl rfl one3) rfl ?_;refine P_p rfl rfl (Ah rfl Agu rfl) rfl ?_;refine P_q rfl rfl (Ew (d:=0) rfl hp1' (sb 2) rfl one3) rfl ?_;obtain ⟨r3,h4,hx5⟩:=Ac hx;refine Pc (fun w1 hw1=>Xr p0.X p1.Cell  h4 w1) ?_;obtain ⟨r6,h7,hx8⟩:=Ac hx5;refine Pc (fun w1 hw1=>Xr p0.Y p1.Cell  h7 w1) ?_;refine P_p rfl rfl (Bt rfl (Dy _ _)) rfl ?_;refine P_h rfl rfl (Bc rfl rfl rfl (.here) (.put (.put (.done))) rfl (List.cons_ne_nil _ _) Bv.2 ?_) ?_
 rotate_left;exact Bb;refine Y3 ?_;obtain rfl:=Option.some.inj hx8;exact Av (rs:=[.cell 3 28]) Tryz.results151 (.cell rfl (i:=0) rfl rfl Bv (.nil)) (Ln:=[]) ⟨rfl,rfl,trivial⟩ (Ax) (by exact .drop 0 rfl (.drop 0 rfl (.refl)))
end Go.Proofs.YtbkobeeileemjaaGreat
