import Derived.Test.YthlkpgdfifnagaaGreatJ1
import Derived.Shelf.Lays
import Derived.Shelf.SlSortCmp.NoneTotal
import Derived.Ground.SlsfProg
import Derived.Ground.NamesProg
import Derived.Test.YthlkpgdfifnagaaGreatProg
import Derived.Shelf.Sort.Plain
import Derived.Shelf.Slices.In.SortNone
set_option maxRecDepth 100000
set_option maxHeartbeats 1000000
namespace Go.Proofs.YthlkpgdfifnagaaGreat
open Go Go.RowKit Tryz
theorem Anc:Tl prog 41:=.mk underlying41 rfl (show prog.info? 41=some t41 from by kernel_rfl) kr
instance:OneI prog 41:=⟨Anc⟩
theorem Bba:Tl prog 98:=.mk underlying98 rfl (show prog.info? 98=some t98 from by kernel_rfl) kr
instance:OneI prog 98:=⟨Bba⟩
theorem Ya(x0:Int)(x1:Int):Jw prog 58 1 [(0,.agg #[iq x0,iq x1])] 57 [iq x0,iq x1]:=fun w=>kr
instance(x0:Int)(x1:Int):Qd prog 58 1 [(0,.agg #[iq x0,iq x1])] 57 [iq x0,iq x1]:=⟨Ya _ _⟩
theorem Bbb:Xf prog 58 57 2 16:=⟨underlying58,⟨t57,.agg #[iq 0,iq 0],kr,kr,kr,kr,rfl⟩,dD⟩
instance:Afp prog 58 57 2 16:=⟨Bbb⟩
def Es(x:Aa):Value:=.agg #[iq x.X,iq x.Y]
theorem Sx(x y:Aa)(h:Es x=Es y):x=y:=by
 rcases x with⟨_,_⟩;rcases y with⟨_,_⟩;simp[Es] at h;simp[h]
instance(x:Aa):UnfI Es x (.agg #[iq x.X,iq x.Y]):=⟨rfl⟩
instance(x0:Int)(x1:Int):Aa0 Es (.agg #[iq x0,iq x1]) (⟨x0,x1⟩):=⟨rfl⟩
instance:ValI prog 57 Es ((⟨0,0⟩:Aa)):=⟨Sx,fun w=>kr⟩
theorem And:laidOutB prog=true:=kr
theorem Bcq:(match prog.underlying 57 with | some (.array _ _) | some (.struct _)=>true | _=>false)=true:=kr
theorem Aq5:Maps.Keyed prog 57:=Maps.Keyed.of_law (deep_law_laid And (m:=3) oo (of_decide_eq_true kr) kr Bcq)
theorem Aq6(x:Aa)(h:(-9223372036854775808<=x.X/\x.X<=9223372036854775807)/\(-9223372036854775808<=x.Y/\x.Y<=9223372036854775807)):(keyOf prog 57 (Es x)).isSome=true:=by
 refine Aoh (cs:=[iq x.X,iq x.Y]) (d:=333) kr underlying57 kr kr kr (fun f hf=>?_);simp only[List.mem_cons,List.not_mem_nil,or_false] at hf;rcases hf with rfl | rfl
 ·exact⟨.i64,x.X,underlying3,kr,Ag2 h.1⟩
 ·exact⟨.i64,x.Y,underlying3,kr,Ag2 h.2⟩
instance:KeyI prog 57 Es (fun x=>(-9223372036854775808<=x.X/\x.X<=9223372036854775807)/\(-9223372036854775808<=x.Y/\x.Y<=9223372036854775807)):=⟨Aq5,Sx,Aq6⟩
instance:UndI prog 201 (.map 57 30):=⟨underlying201⟩
def Cw(x:Ae):Value:=.agg #[iq x.Id,iq x.X,iq x.Y,iq x.Z.Lo,iq x.Z.Hi,iq x.Wide,iq x.Num,iq x.Of,iq x.Class]
theorem Afz(x y:Ae)(h:Cw x=Cw y):x=y:=by
 rcases x with⟨_,_,_,⟨_,_⟩,_,_,_,_⟩;rcases y with⟨_,_,_,⟨_,_⟩,_,_,_,_⟩;simp[Cw] at h;simp[h]
instance(x:Ae):UnfI Cw x (.agg #[iq x.Id,iq x.X,iq x.Y,iq x.Z.Lo,iq x.Z.Hi,iq x.Wide,iq x.Num,iq x.Of,iq x.Class]):=⟨rfl⟩
instance(x0:Int)(x1:Int)(x2:Int)(x3:Int)(x4:Int)(x5:Int)(x6:Int)(x7:Int)(x8:Int):Aa0 Cw (.agg #[iq x0,iq x1,iq x2,iq x3,iq x4,iq x5,iq x6,iq x7,iq x8]) (⟨x0,x1,x2,⟨x3,x4⟩,x5,x6,x7,x8⟩):=⟨rfl⟩
instance:ValI prog 30 Cw ((⟨0,0,0,(⟨0,0⟩:Av),0,0,0,0⟩:Ae)):=⟨Afz,fun w=>kr⟩
noncomputable def Jm(p1:List Ae)(ky:Ae->Option Aa):((List (Aa × Ae)) × List Aa × Int)->Option (Sum ((List (Aa × Ae)) × List Aa × Int) ((List (Aa × Ae)) × List Aa)):=fun s0=>
 if s0.2.2<(p1.length:Int) then (jn (fun (s1:(List (Aa × Ae)) × List Aa)=>
 some (.inl (s1.1,s1.2,w64 (s0.2.2+1))))
 (fun j0=>bnd (idx p1 s0.2.2) fun x0=>
 bnd (ky x0) fun x1=>
 gd ((-9223372036854775808<=x1.X/\x1.X<=9223372036854775807)/\(-9223372036854775808<=x1.Y/\x1.Y<=9223372036854775807))<|
 bnd (some ((mget s0.1 x1).getD ((⟨0,0,0,(⟨0,0⟩:Av),0,0,0,0⟩:Ae)))) fun x2=>
 jn (fun (s2:List Aa)=>
 jn (fun (s3:Bool)=>
 if s3=true then (gd ((-9223372036854775808<=x1.X/\x1.X<=9223372036854775807)/\(-9223372036854775808<=x1.Y/\x1.Y<=9223372036854775807))<|
 gd (s0.1.length<9223372036854775807)<|
 j0 (mput s0.1 x1 x0,s2))
 else (j0 (s0.1,s2)))
 (fun j1=>if ((mget s0.1 x1).isSome)=true then (bnd (Se x0 x2) fun r0=>
 j1 r0)
 else (j1 true)))
 (fun j2=>if ((mget s0.1 x1).isSome)=true then (j2 s0.2.1)
 else (gd ((s0.2.1.length+1)*16<=140737488355328)<|
 j2 (s0.2.1++[x1])))))
 else (some (.inr (s0.1,s0.2.1)))
noncomputable def It{σ:Type}(s3:(List (Aa × Ae)) × List Aa)(st:σ->Ae->Option σ):(σ × Int)->Option (Sum (σ × Int) σ):=fun s0=>
 if s0.2<(s3.2.length:Int) then (bnd (idx s3.2 s0.2) fun x0=>
 gd ((-9223372036854775808<=x0.X/\x0.X<=9223372036854775807)/\(-9223372036854775808<=x0.Y/\x0.Y<=9223372036854775807))<|
 bnd (some ((mget s3.1 x0).getD ((⟨0,0,0,(⟨0,0⟩:Av),0,0,0,0⟩:Ae)))) fun x1=>
 bnd (st s0.1 x1) fun x2=>
 some (.inl (x2,w64 (s0.2+1))))
 else (some (.inr s0.1))
noncomputable def Ki{σ:Type}(ky:Ae->Option Aa)(st:σ->Ae->Option σ)(p1:List Ae)(ys:σ):Option σ :=
 jn (fun (s3:(List (Aa × Ae)) × List Aa)=>
 bnd (lfix (It s3 st) (ys,0)) fun t0=>
 some t0)
 (fun j3=>bnd (lfix (Jm p1 ky) (([]:List (Aa × Ae)),([]:List Aa),0)) fun t1=>
 j3 t1)
noncomputable def Mz(p0:Ae)(p1:Am):Option Aa :=
 bnd (Qe p0.X p1.Cell) fun r3=>
 bnd (Qe p0.Y p1.Cell) fun r6=>
 some (⟨r3,r6⟩:Aa)
theorem Un{σ:Type}(ky:Ae->Option Aa)(st:σ->Ae->Option σ)(p1:List Ae)(ys:σ){kv:Value}{l:Nat}{Inv:σ->Ent->Prop}{ye:Ent}{K:List Ent}{U0:Option Addr}{E0:Nat}(ha0:Has K U0 p1.length E0 9 Aw p1){g0_1:Nat}{g0_2:Nat}(hp1:Pt K g0_1 0 [.slice U0 p1.length E0])(hp2:Pt K g0_2 0 [kv])(hkey:Zj prog K kv Cw Es ky)(hy:∀ s x s' e,st s x=some s'->Inv s e->Ai8 prog l [Cw x] e (Inv s'))(hi0:Inv ys ye){r:σ}(hx:Ki ky st p1 ys=some r):CtK prog 170 [.func (.yield l) #[] #[],.pointer (some ⟨g0_1,0,none⟩),.pointer (some ⟨g0_2,0,none⟩)] K [ye] (fun _ Ln=>∃ e,Ln=[e]/\Inv r e):=by
 have ha0':=Has.up0 ha0;have hp1':=Pt.up0 hp1;have hp2':=Pt.up0 hp2;refine CtK.mk 59 func170 rfl ntmps170 kr rfl ?_;intro Lf hKf;show T 59 _ [(0,.func (.yield l) #[] #[]),(1,.pointer (some ⟨g0_1,0,none⟩)),(2,.pointer (some ⟨g0_2,0,none⟩))] ([ye]++Lf);unfold Ki at hx;refine Y2 ?_;refine T_x (Aez prog 57 Es Cw rfl (fun g1=>?_));refine Y8 ?_;refine Tj (γ:=Option Addr × Nat) hx (fun s3 y3=>[(0,.func (.yield l) #[] #[]),(4,.map (some g1)),(5,.slice y3.1 s3.2.length y3.2)]) (fun s3 y3=>[.r y3.1 s3.2.length y3.2 57 2 (s3.2.flatMap Mg),Bc prog 57 Es Cw g1 s3.1,ye]++Lf) (fun s3 y3=>True) (fun s3 y3 hx0 hG0=>?_) (fun j3 hx=>?_)
 ·refine Y3 ?_;refine Ay (If rfl 57 underlying58) rfl ?_;refine Y4 ?_;obtain⟨t0,hl0,ho0⟩:=Au hx0;refine Lp (σ:=σ × Int) (γ:=Ent) hl0 (fun s0 y0=>[(0,.func (.yield l) #[] #[]),(4,.map (some g1)),(46,.slice y3.1 s3.2.length y3.2),(47,iq (s3.2.length:Int)),(48,iq s0.2)]) (fun s0 y0=>[.r y3.1 s3.2.length y3.2 57 2 (s3.2.flatMap Mg),Bc prog 57 Es Cw g1 s3.1,y0]++Lf) (fun s0 y0=>Inv s0.1 y0/\True) ye ((by exact⟨hi0,trivial⟩)) (by exact .pick 0 rfl (.pick 0 rfl (.pick 0 rfl (.refl)))) ?_;intro s0 y0 hG1 x0 hx1 ht0;unfold It at hx1;obtain⟨hi138,-⟩:=hG1;refine Y6 ?_;refine Ti hx1 (s:=49) rfl (fun h0 hx2=>?_) (fun h0 hx3=>?_)
  ·refine Y7 ?_;obtain⟨x1,h1,hx4⟩:=Au hx2;refine Aaj (k:=0) rfl dD (fun _=>rfl) h1 (fun b0 j0 hA0 hj0 hl1 hm0 hp0=>?_);refine Ay (Iv rfl rfl hA0 (j:=j0) hj0 hl1 Bas) rfl ?_;refine Ay (Sc rfl hp0 (sb 0) rfl Zr) rfl ?_;refine T_x (Gq Apv rfl (fun g0=>?_));refine T_h (Ef rfl rfl rfl (.here) (.put (.put (.done))) rfl (List.cons_ne_nil _ _) Zr.2 ?_);refine Y3 ?_;refine Bbu ?_;refine Re (Zb rfl) rfl ?_;refine Re (Zb rfl) rfl ?_;refine Re (Db rfl (i:=0) rfl rfl Zr) rfl ?_;obtain⟨h2,hx5⟩:=De hx4;obtain⟨x2,h3,hx6⟩:=Au hx5;refine Re (Ac9 (x:=x1) (i:=2) (vv:=.agg #[iq x2.Id,iq x2.X,iq x2.Y,iq x2.Z.Lo,iq x2.Z.Hi,iq x2.Wide,iq x2.Num,iq x2.Of,iq x2.Class]) Aq5 underlying201 (fun w=>kr) Sx rfl rfl rfl rfl Qh (Aq6 x1 h2) h3 rfl) rfl ?_;obtain⟨x3,h4,hx7⟩:=Au hx6;refine Ayo (i:=3) rfl rfl rfl (hy _ _ _ _ h4 hi138) rfl (fun e0 hi163=>?_);refine Re (App rfl) rfl ?_;refine Bbt ?_;refine Y9 ?_;exact Rp (x3,w64 (s0.2+1)) e0 hx7 ((by exact⟨hi163,trivial⟩)) (by exact .pick 2 rfl (.pick 2 rfl (.pick 0 rfl (.drop 0 rfl (.refl)))))
  ·refine Y3 ?_;obtain rfl:=Ua ht0 hx3;refine Y2 ?_;obtain rfl:=Option.some.inj ho0;exact Aof (rs:=[]) results170 (.nil) (Ln:=[y0]) ⟨y0,rfl,hi138⟩ (by exact .pick 2 rfl (.drop 0 rfl (.drop 0 rfl (.refl))))
 ·refine Y2 ?_;refine Ay (Ie rfl hp1' (SubE.appC (SubE.tail (SubE.tail hKf)) SubE.nil) rfl Anc) rfl ?_;refine Ay (If rfl 30 underlying41) rfl ?_;refine Y4 ?_;obtain⟨t1,hl2,ho1⟩:=Au hx;refine Bh 57 2 ?_;have hn0:0=(([]:List Aa)).length:=by simp[Nr,Aba,List.length_append] <;> omega
  refine Afe (.here) (e':=.r none ((([]:List Aa)).length) 0 57 2 ((([]:List Aa)).flatMap Mg)) (by first | (rw[<- hn0];done) | rfl) ?_;refine Lp (σ:=(List (Aa × Ae)) × List Aa × Int) (γ:=Option Addr × Nat) hl2 (fun s1 y1=>[(0,.func (.yield l) #[] #[]),(2,.pointer (some ⟨g0_2,0,none⟩)),(4,.map (some g1)),(5,.slice y1.1 s1.2.1.length y1.2),(14,.slice U0 p1.length E0),(15,iq (p1.length:Int)),(16,iq s1.2.2)]) (fun s1 y1=>[.r y1.1 s1.2.1.length y1.2 57 2 (s1.2.1.flatMap Mg),Bc prog 57 Es Cw g1 s1.1,ye]++Lf) (fun s1 y1=>True) (none,0) trivial (by exact .pick 0 rfl (.pick 0 rfl (.pick 0 rfl (.refl)))) ?_;intro s1 y1 hG2 x4 hx8 ht1;unfold Jm at hx8;refine Y6 ?_;refine Ti hx8 (s:=17) rfl (fun h5 hx9=>?_) (fun h5 hx59=>?_)
  ·refine Y3 ?_;refine Tj (γ:=Option Addr × Nat) hx9 (fun s2 y2=>[(0,.func (.yield l) #[] #[]),(2,.pointer (some ⟨g0_2,0,none⟩)),(4,.map (some g1)),(5,.slice y2.1 s2.2.length y2.2),(14,.slice U0 p1.length E0),(15,iq (p1.length:Int)),(16,iq s1.2.2)]) (fun s2 y2=>[.r y2.1 s2.2.length y2.2 57 2 (s2.2.flatMap Mg),Bc prog 57 Es Cw g1 s2.1,ye]++Lf) (fun s2 y2=>True) (fun s2 y2 hx10 hG3=>?_) (fun j1 hx9=>?_)
   ·refine Y4 ?_;exact Rp (s2.1,s2.2,w64 (s1.2.2+1)) (y2.1,y2.2) hx10 trivial (by exact .pick 0 rfl (.pick 0 rfl (.pick 0 rfl (.refl))))
   ·refine Y3 ?_;obtain⟨x5,h6,hx62⟩:=Au hx9;obtain⟨b1,o0,j2,hA1,hj1,hl3,hp3⟩:=Has.at_idx ha0' h6;refine Ay (Iv rfl rfl hA1 (j:=j2) hj1 hl3 At9) rfl ?_;refine Ay (Sc rfl hp3 (SubE.appC (SubE.tail (SubE.tail (SubE.tail hKf))) SubE.nil) rfl Wk) rfl ?_;refine T_x (Gq Ai3 rfl (fun g2=>?_));refine T_h (Ef rfl rfl rfl (.here) (.put (.put (.put (.put (.put (.put (.put (.put (.put (.done)))))))))) rfl (List.cons_ne_nil _ _) Wk.2 ?_);refine Y4 ?_;refine Ay (Ie rfl hp2' (SubE.appC (SubE.tail (SubE.tail (SubE.tail (SubE.tail hKf)))) SubE.nil) rfl Bba) rfl ?_;refine Ay (Db rfl (i:=0) rfl rfl Wk) rfl ?_;obtain⟨x6,h7,hx73⟩:=Au hx62;refine T_x (Aoi (u:=x5) hkey rfl rfl h7 (SubE.tail (SubE.tail (SubE.tail (SubE.tail hKf)))) rfl ?_);refine T_x (Gq Apv rfl (fun g3=>?_));refine T_h (Ef rfl rfl rfl (.here) (.put (.put (.done))) rfl (List.cons_ne_nil _ _) Zr.2 ?_);refine Y5 ?_;refine Ay (Db rfl (i:=0) rfl rfl Zr) rfl ?_;obtain⟨h8,hx76⟩:=De hx73;obtain⟨x7,h9,hx79⟩:=Au hx76;refine Ay (Acg (x:=x6) (i:=3) (vv:=.agg #[iq x7.Id,iq x7.X,iq x7.Y,iq x7.Z.Lo,iq x7.Z.Hi,iq x7.Wide,iq x7.Num,iq x7.Of,iq x7.Class]) Aq5 underlying201 (fun w=>kr) Sx rfl rfl rfl rfl Qh (Aq6 x6 h8) h9 rfl) rfl ?_;refine Y3 ?_;refine T_x (Gq Ai3 rfl (fun g4=>?_));refine T_h (Ef rfl rfl rfl (.here) (.put (.put (.put (.put (.put (.put (.put (.put (.put (.done)))))))))) rfl (List.cons_ne_nil _ _) Wk.2 ?_);refine Y3 ?_;refine Tj (γ:=Option Addr × Nat) hx79 (fun s4 y4=>[(0,.func (.yield l) #[] #[]),(2,.pointer (some ⟨g0_2,0,none⟩)),(4,.map (some g1)),(5,.slice y4.1 s4.length y4.2),(7,.pointer (some ⟨g2,0,none⟩)),(8,.pointer (some ⟨g3,0,none⟩)),(9,.pointer (some ⟨g4,0,none⟩)),(10,.bool ((mget s1.1 x6).isSome)),(14,.slice U0 p1.length E0),(15,iq (p1.length:Int)),(16,iq s1.2.2)]) (fun s4 y4=>[.m g4 30 [iq x7.Id,iq x7.X,iq x7.Y,iq x7.Z.Lo,iq x7.Z.Hi,iq x7.Wide,iq x7.Num,iq x7.Of,iq x7.Class],.m g3 57 [iq x6.X,iq x6.Y],.m g2 30 [iq x5.Id,iq x5.X,iq x5.Y,iq x5.Z.Lo,iq x5.Z.Hi,iq x5.Wide,iq x5.Num,iq x5.Of,iq x5.Class],.r y4.1 s4.length y4.2 57 2 (s4.flatMap Mg),Bc prog 57 Es Cw g1 s1.1,ye]++Lf) (fun s4 y4=>True) (fun s4 y4 hx89 hG4=>?_) (fun j4 hx79=>?_)
    ·refine Tj (γ:=Unit) hx89 (fun s5 y5=>[(0,.func (.yield l) #[] #[]),(2,.pointer (some ⟨g0_2,0,none⟩)),(4,.map (some g1)),(5,.slice y4.1 s4.length y4.2),(7,.pointer (some ⟨g2,0,none⟩)),(8,.pointer (some ⟨g3,0,none⟩)),(14,.slice U0 p1.length E0),(15,iq (p1.length:Int)),(16,iq s1.2.2),(41,.bool s5)]) (fun s5 y5=>[.m g3 57 [iq x6.X,iq x6.Y],.m g2 30 [iq x5.Id,iq x5.X,iq x5.Y,iq x5.Z.Lo,iq x5.Z.Hi,iq x5.Wide,iq x5.Num,iq x5.Of,iq x5.Class],.r y4.1 s4.length y4.2 57 2 (s4.flatMap Mg),Bc prog 57 Es Cw g1 s1.1,ye]++Lf) (fun s5 y5=>True) (fun s5 y5 hx97 hG5=>?_) (fun j5 hx89=>?_)
     ·refine Tz (s:=41) rfl (fun h99=>?_) (fun h99=>?_)
      ·have hx11:=Rg h99 hx97;refine Y3 ?_;refine Ay (Db rfl (i:=0) rfl rfl Zr) rfl ?_;refine Ay (Db rfl (i:=1) rfl rfl Wk) rfl ?_;obtain⟨h10,hx12⟩:=De hx11;obtain⟨h11,hx13⟩:=De hx12;refine T_h (Ach (x:=x6) (y:=x5) Aq5 Sx underlying201 rfl rfl rfl rfl rfl (.there (.there (.there (.here)))) (Aq6 x6 h10) h11 ?_);refine Y2 ?_;exact Mt (mput s1.1 x6 x5,s4) (y4.1,y4.2) hx13 trivial (by exact .pick 2 rfl (.pick 2 rfl (.pick 2 rfl (.drop 0 rfl (.drop 0 rfl (.refl))))))
      ·have hx14:=Vt h99 hx97;refine Y3 ?_;exact Mt (s1.1,s4) (y4.1,y4.2) hx14 trivial (by exact .pick 2 rfl (.pick 2 rfl (.pick 2 rfl (.drop 0 rfl (.drop 0 rfl (.refl))))))
     ·refine Y4 ?_;refine Xo (s:=37) rfl (fun h91=>?_) (fun h91=>?_)
      ·have hx92:=Vt h91 hx89;refine Y5 ?_;exact Mt true () hx92 trivial (by exact .pick 1 rfl (.pick 1 rfl (.pick 1 rfl (.pick 1 rfl (.pick 1 rfl (.drop 0 rfl (.refl)))))))
      ·have hx93:=Rg h91 hx89;refine Aa3 rfl rfl rfl (Db rfl (i:=2) rfl rfl Wk) rfl ?_;refine Aa3 rfl rfl rfl (Db rfl (i:=0) rfl rfl Wk) rfl ?_;obtain⟨r0,h95,hx96⟩:=Au hx93;refine T_xG rfl rfl rfl (Ch rfl (fun w1 hw1=>Agj x5 x7  h95 w1) rfl ?_);rintro _ _ hlo ⟨rfl,rfl,-⟩;refine Acw ?_;refine Y2 ?_;exact Mt r0 () hx96 trivial (by exact .pick 1 rfl (.pick 1 rfl (.pick 1 rfl (.pick 1 rfl (.pick 1 rfl (.drop 0 rfl (.refl)))))))
    ·refine Y6 ?_;refine Xo (s:=30) rfl (fun h81=>?_) (fun h81=>?_)
     ·have hx82:=Vt h81 hx79;refine Y3 ?_;refine Ay (Db rfl (i:=1) rfl rfl Zr) rfl ?_;refine T_x (Ck rfl (Ya _ _) rfl (fun g5=>?_));obtain⟨h84,hx85⟩:=De hx82;refine T_h (Qk Mg s1.2.1 [x6] rfl rfl rfl Bbb (fun _=>rfl) (i':=0) rfl rfl rfl rfl h84 rfl (fun _ _=>.there (.there (.there (.there (.here))))) (fun _ _=>.drop .refl) dD (fun A0 c0=>?_));refine Y2 ?_;exact Mt (s1.2.1++[x6]) (A0,c0) hx85 trivial (by exact .pick 0 rfl (.pick 0 rfl (.pick 0 rfl (.pick 0 rfl (.pick 0 rfl (.pick 0 rfl (.refl)))))))
     ·have hx88:=Rg h81 hx79;refine Y2 ?_;exact Mt s1.2.1 (y1.1,y1.2) hx88 trivial (by exact .pick 0 rfl (.pick 0 rfl (.pick 0 rfl (.pick 0 rfl (.pick 0 rfl (.pick 0 rfl (.refl)))))))
  ·refine Y3 ?_;obtain rfl:=Ua ht1 hx59;refine Y2 ?_;exact Mt (s1.1,s1.2.1) (y1.1,y1.2) ho1 trivial (by exact .pick 0 rfl (.pick 0 rfl (.pick 0 rfl (.refl))))
theorem Aem(p0:Ae)(p1:Am){K:List Ent}{g0_1:Nat}(hp1:Pt K g0_1 0 [iq p1.Cell,iq p1.Reach,iq p1.Slope,iq p1.Link,iq p1.Flat,iq p1.Tall,iq p1.High,iq p1.Low,iq p1.Brush,iq p1.Few]){r:Aa}(hx:Mz p0 p1=some r)(w:World)(hK:∀ e∈K,Ent.ok w e):CtL prog 120 [.agg #[iq p0.Id,iq p0.X,iq p0.Y,iq p0.Z.Lo,iq p0.Z.Hi,iq p0.Wide,iq p0.Num,iq p0.Of,iq p0.Class],.pointer (some ⟨g0_1,0,none⟩)] w fun v Ln=>v = .agg #[iq r.X,iq r.Y]/\Ln=[]/\True:=by
 have hp1':=Pt.low (E:=[]) (Pt.up0 hp1) hK;refine CtL.mk 15 func120 rfl ntmps120 kr rfl ?_;show T 15 _ [(0,.agg #[iq p0.Id,iq p0.X,iq p0.Y,iq p0.Z.Lo,iq p0.Z.Hi,iq p0.Wide,iq p0.Num,iq p0.Of,iq p0.Class]),(1,.pointer (some ⟨g0_1,0,none⟩))] _;unfold Mz at hx;refine Y2 ?_;refine T_x (Qt rfl rfl rfl (fun g1=>?_));refine T_x (Gq Apv rfl (fun g2=>?_));refine Y3 ?_;refine T_dr [0,1,0,1,2,0,1,0,1,2,0,3] (.q 0 (.q 1 (.q 2 (.q 3 (.q 5 (.q 6 (.q 7 (.q 8 (.e 4 (.e 9 (.q 10 (.e 11 (.done) (.stop))) (.stop)) (.stop)))))))))) mixed kr kr ?_;refine P_p rfl rfl (Ee rfl Apw rfl) rfl ?_;refine P_q rfl rfl (Cg rfl (i:=1) rfl rfl one3) rfl ?_;refine P_p rfl rfl (Ee rfl Aj9 rfl) rfl ?_;refine P_q rfl rfl (Yg (d:=0) rfl hp1' (sb 2) rfl one3) rfl ?_;refine P_p rfl rfl (Ee rfl Apx rfl) rfl ?_;refine P_q rfl rfl (Cg rfl (i:=1) rfl rfl one3) rfl ?_;refine P_p rfl rfl (Ee rfl Aj9 rfl) rfl ?_;refine P_q rfl rfl (Yg (d:=0) rfl hp1' (sb 2) rfl one3) rfl ?_;obtain⟨r3,h4,hx5⟩:=Au hx;refine Pc (fun w1 hw1=>Zt p0.X p1.Cell  h4 w1) ?_;obtain⟨r6,h7,hx8⟩:=Au hx5;refine Pc (fun w1 hw1=>Zt p0.Y p1.Cell  h7 w1) ?_;refine P_p rfl rfl (Qs rfl (Zq _ _)) rfl ?_;refine P_h rfl rfl (Ef rfl rfl rfl (.here) (.put (.put (.done))) rfl (List.cons_ne_nil _ _) Zr.2 ?_) ?_
 rotate_left;exact Tq;refine Y3 ?_;obtain rfl:=Option.some.inj hx8;exact Jc (rs:=[.cell 3 57]) results120 (.cell rfl (i:=0) rfl rfl Zr (.nil)) (Ln:=[]) ⟨rfl,rfl,trivial⟩ Fg (by exact .drop 0 rfl (.drop 0 rfl (.refl)))
end Go.Proofs.YthlkpgdfifnagaaGreat
namespace Go.Proofs
open Go.Shelf Tryz
theorem lk0{α:Type _}{a b:α}(h:a=b:=by kernel_rfl):some a=some b:=congrArg some h
def Tryz.laysSort2_ren:Go.Shelf.Ren:=⟨fun | 6=>176 | 15=>113 | 14=>233 | 28=>166 | 29=>167 | 20=>270 | 21=>271 | 22=>272 | 23=>273 | 24=>274 | 25=>275 | 26=>276 | 27=>277 | 46=>305 | 47=>226 | 48=>227 | 49=>306 | 50=>307 | 57=>321 | n=>n,fun | 22=>24 | 24=>103 | 25=>207 | 3=>3 | 39=>144 | 0=>0 | 53=>199 | 55=>167 | 4=>4 | 46=>192 | 45=>191 | 50=>196 | 5=>5 | 9=>9 | 66=>242 | 70=>246 | 76=>270 | 77=>165 | n=>n,fun | n=>n⟩
theorem Tryz.laysSort2:Go.Proofs.SlLaysF0.n6 prog laysSort2_ren:={
 mixed:=by kernel_rfl
 f6:=⟨f176.name,by decide,func176.trans lk0⟩
 f14:=⟨f233.name,by decide,func233.trans lk0⟩
 f15:=func113.trans lk0
 f20:=⟨f270.name,by decide,func270.trans lk0⟩
 f21:=⟨f271.name,by decide,func271.trans lk0⟩
 f22:=⟨f272.name,by decide,func272.trans lk0⟩
 f23:=⟨f273.name,by decide,func273.trans lk0⟩
 f24:=⟨f274.name,by decide,func274.trans lk0⟩
 f25:=⟨f275.name,by decide,func275.trans lk0⟩
 f26:=⟨f276.name,by decide,func276.trans lk0⟩
 f27:=⟨f277.name,by decide,func277.trans lk0⟩
 f28:=func166.trans lk0
 f29:=func167.trans lk0
 f46:=⟨f305.name,by decide,func305.trans lk0⟩
 f47:=func226.trans lk0
 f48:=func227.trans lk0
 f49:=⟨f306.name,by decide,func306.trans lk0⟩
 f50:=⟨f307.name,by decide,func307.trans lk0⟩
 f57:=⟨f321.name,by decide,func321.trans lk0⟩
 t0:=underlying0
 a0:=isAgg0
 z0:=sizeOf0
 v0:=zeroValue0
 t3:=underlying3
 a3:=isAgg3
 z3:=sizeOf3
 v3:=zeroValue3
 t4:=underlying4
 a4:=isAgg4
 z4:=sizeOf4
 v4:=zeroValue4
 t5:=underlying5
 a5:=isAgg5
 z5:=sizeOf5
 v5:=zeroValue5
 t9:=underlying9
 a9:=isAgg9
 z9:=sizeOf9
 v9:=zeroValue9
 t22:=underlying24
 a22:=isAgg24
 z22:=sizeOf24
 v22:=zeroValue24
 t25:=underlying207
 a25:=isAgg207
 z25:=sizeOf207
 v25:=zeroValue207
 t39:=underlying144
 a39:=isAgg144
 z39:=sizeOf144
 v39:=zeroValue144
 t45:=underlying191
 a45:=isAgg191
 z45:=sizeOf191
 v45:=zeroValue191
 t46:=underlying192
 a46:=isAgg192
 z46:=sizeOf192
 v46:=zeroValue192
 t50:=underlying196
 a50:=isAgg196
 z50:=sizeOf196
 v50:=zeroValue196
 t53:=underlying199
 a53:=isAgg199
 z53:=sizeOf199
 v53:=zeroValue199
 t55:=underlying167
 a55:=isAgg167
 z55:=sizeOf167
 v55:=zeroValue167
 t66:=underlying242
 a66:=isAgg242
 z66:=sizeOf242
 v66:=zeroValue242
 t70:=underlying246
 a70:=isAgg246
 z70:=sizeOf246
 v70:=zeroValue246
 t76:=underlying270
 a76:=isAgg270
 z76:=sizeOf270
 v76:=zeroValue270
 t77:=underlying165
 a77:=isAgg165
 z77:=sizeOf165
 v77:=zeroValue165 }
def Tryz.laysSort3_ren:Go.Shelf.Ren:=⟨fun | 6=>188 | 15=>113 | 14=>237 | 28=>166 | 29=>167 | 20=>291 | 21=>292 | 22=>293 | 23=>294 | 24=>295 | 25=>296 | 26=>297 | 27=>298 | 46=>316 | 47=>226 | 48=>227 | 49=>317 | 50=>318 | 57=>326 | n=>n,fun | 22=>23 | 24=>101 | 25=>217 | 3=>3 | 39=>144 | 0=>0 | 53=>199 | 55=>167 | 4=>4 | 46=>192 | 45=>191 | 50=>196 | 5=>5 | 9=>9 | 66=>242 | 70=>246 | 76=>270 | 77=>165 | n=>n,fun | n=>n⟩
theorem Tryz.laysSort3:Go.Proofs.SlLaysF0.n6 prog laysSort3_ren:={
 mixed:=by kernel_rfl
 f6:=⟨f188.name,by decide,func188.trans lk0⟩
 f14:=⟨f237.name,by decide,func237.trans lk0⟩
 f15:=func113.trans lk0
 f20:=⟨f291.name,by decide,func291.trans lk0⟩
 f21:=⟨f292.name,by decide,func292.trans lk0⟩
 f22:=⟨f293.name,by decide,func293.trans lk0⟩
 f23:=⟨f294.name,by decide,func294.trans lk0⟩
 f24:=⟨f295.name,by decide,func295.trans lk0⟩
 f25:=⟨f296.name,by decide,func296.trans lk0⟩
 f26:=⟨f297.name,by decide,func297.trans lk0⟩
 f27:=⟨f298.name,by decide,func298.trans lk0⟩
 f28:=func166.trans lk0
 f29:=func167.trans lk0
 f46:=⟨f316.name,by decide,func316.trans lk0⟩
 f47:=func226.trans lk0
 f48:=func227.trans lk0
 f49:=⟨f317.name,by decide,func317.trans lk0⟩
 f50:=⟨f318.name,by decide,func318.trans lk0⟩
 f57:=⟨f326.name,by decide,func326.trans lk0⟩
 t0:=underlying0
 a0:=isAgg0
 z0:=sizeOf0
 v0:=zeroValue0
 t3:=underlying3
 a3:=isAgg3
 z3:=sizeOf3
 v3:=zeroValue3
 t4:=underlying4
 a4:=isAgg4
 z4:=sizeOf4
 v4:=zeroValue4
 t5:=underlying5
 a5:=isAgg5
 z5:=sizeOf5
 v5:=zeroValue5
 t9:=underlying9
 a9:=isAgg9
 z9:=sizeOf9
 v9:=zeroValue9
 t22:=underlying23
 a22:=isAgg23
 z22:=sizeOf23
 v22:=zeroValue23
 t25:=underlying217
 a25:=isAgg217
 z25:=sizeOf217
 v25:=zeroValue217
 t39:=underlying144
 a39:=isAgg144
 z39:=sizeOf144
 v39:=zeroValue144
 t45:=underlying191
 a45:=isAgg191
 z45:=sizeOf191
 v45:=zeroValue191
 t46:=underlying192
 a46:=isAgg192
 z46:=sizeOf192
 v46:=zeroValue192
 t50:=underlying196
 a50:=isAgg196
 z50:=sizeOf196
 v50:=zeroValue196
 t53:=underlying199
 a53:=isAgg199
 z53:=sizeOf199
 v53:=zeroValue199
 t55:=underlying167
 a55:=isAgg167
 z55:=sizeOf167
 v55:=zeroValue167
 t66:=underlying242
 a66:=isAgg242
 z66:=sizeOf242
 v66:=zeroValue242
 t70:=underlying246
 a70:=isAgg246
 z70:=sizeOf246
 v70:=zeroValue246
 t76:=underlying270
 a76:=isAgg270
 z76:=sizeOf270
 v76:=zeroValue270
 t77:=underlying165
 a77:=isAgg165
 z77:=sizeOf165
 v77:=zeroValue165 }
def Tryz.laysSort1_ren:Go.Shelf.Ren:=⟨fun | 6=>182 | 15=>113 | 14=>234 | 28=>166 | 29=>167 | 20=>278 | 21=>279 | 22=>280 | 23=>281 | 24=>282 | 25=>283 | 26=>284 | 27=>285 | 46=>308 | 47=>226 | 48=>227 | 49=>309 | 50=>310 | 57=>322 | n=>n,fun | 22=>42 | 24=>3 | 25=>131 | 3=>3 | 39=>144 | 0=>0 | 53=>199 | 55=>167 | 4=>4 | 46=>192 | 45=>191 | 50=>196 | 5=>5 | 9=>9 | 66=>242 | 70=>246 | 76=>270 | 77=>165 | n=>n,fun | n=>n⟩
theorem Tryz.laysSort1:Go.Proofs.SlLaysF.n6 prog laysSort1_ren:={
 mixed:=by kernel_rfl
 f6:=⟨f182.name,by decide,func182.trans lk0⟩
 f14:=⟨f234.name,by decide,func234.trans lk0⟩
 f15:=func113.trans lk0
 f20:=⟨f278.name,by decide,func278.trans lk0⟩
 f21:=⟨f279.name,by decide,func279.trans lk0⟩
 f22:=⟨f280.name,by decide,func280.trans lk0⟩
 f23:=⟨f281.name,by decide,func281.trans lk0⟩
 f24:=⟨f282.name,by decide,func282.trans lk0⟩
 f25:=⟨f283.name,by decide,func283.trans lk0⟩
 f26:=⟨f284.name,by decide,func284.trans lk0⟩
 f27:=⟨f285.name,by decide,func285.trans lk0⟩
 f28:=func166.trans lk0
 f29:=func167.trans lk0
 f46:=⟨f308.name,by decide,func308.trans lk0⟩
 f47:=func226.trans lk0
 f48:=func227.trans lk0
 f49:=⟨f309.name,by decide,func309.trans lk0⟩
 f50:=⟨f310.name,by decide,func310.trans lk0⟩
 f57:=⟨f322.name,by decide,func322.trans lk0⟩
 t0:=underlying0
 a0:=isAgg0
 z0:=sizeOf0
 v0:=zeroValue0
 t3:=underlying3
 a3:=isAgg3
 z3:=sizeOf3
 v3:=zeroValue3
 t4:=underlying4
 a4:=isAgg4
 z4:=sizeOf4
 v4:=zeroValue4
 t5:=underlying5
 a5:=isAgg5
 z5:=sizeOf5
 v5:=zeroValue5
 t9:=underlying9
 a9:=isAgg9
 z9:=sizeOf9
 v9:=zeroValue9
 t22:=underlying42
 a22:=isAgg42
 z22:=sizeOf42
 v22:=zeroValue42
 a24:=isAgg3
 z24:=sizeOf3
 t25:=underlying131
 a25:=isAgg131
 z25:=sizeOf131
 v25:=zeroValue131
 t39:=underlying144
 a39:=isAgg144
 z39:=sizeOf144
 v39:=zeroValue144
 t45:=underlying191
 a45:=isAgg191
 z45:=sizeOf191
 v45:=zeroValue191
 t46:=underlying192
 a46:=isAgg192
 z46:=sizeOf192
 v46:=zeroValue192
 t50:=underlying196
 a50:=isAgg196
 z50:=sizeOf196
 v50:=zeroValue196
 t53:=underlying199
 a53:=isAgg199
 z53:=sizeOf199
 v53:=zeroValue199
 t55:=underlying167
 a55:=isAgg167
 z55:=sizeOf167
 v55:=zeroValue167
 t66:=underlying242
 a66:=isAgg242
 z66:=sizeOf242
 v66:=zeroValue242
 t70:=underlying246
 a70:=isAgg246
 z70:=sizeOf246
 v70:=zeroValue246
 t76:=underlying270
 a76:=isAgg270
 z76:=sizeOf270
 v76:=zeroValue270
 t77:=underlying165
 a77:=isAgg165
 z77:=sizeOf165
 v77:=zeroValue165 }
def Tryz.laysSort_ren:Go.Shelf.Ren:=⟨fun | 189=>95 | 125=>113 | 257=>149 | 128=>166 | 129=>167 | 294=>215 | 295=>216 | 296=>217 | 297=>218 | 298=>219 | 299=>220 | 216=>221 | 300=>222 | 301=>223 | 328=>262 | 329=>226 | 330=>227 | 331=>263 | 332=>264 | 215=>265 | 343=>304 | n=>n,fun | 28=>42 | 3=>3 | 46=>144 | 0=>0 | 51=>199 | 53=>167 | 4=>4 | 183=>192 | 182=>191 | 131=>196 | 5=>5 | 9=>9 | 218=>242 | 222=>246 | 228=>270 | 229=>165 | n=>n,fun | n=>n⟩
theorem Tryz.laysSort:Go.Proofs.Lays.n189 prog laysSort_ren:={
 mixed:=by kernel_rfl
 f125:=func113.trans lk0
 f128:=func166.trans lk0
 f129:=func167.trans lk0
 f189:=func95.trans lk0
 f215:=func265.trans lk0
 f216:=func221.trans lk0
 f257:=func149.trans lk0
 f294:=func215.trans lk0
 f295:=func216.trans lk0
 f296:=func217.trans lk0
 f297:=func218.trans lk0
 f298:=func219.trans lk0
 f299:=func220.trans lk0
 f300:=func222.trans lk0
 f301:=func223.trans lk0
 f328:=func262.trans lk0
 f329:=func226.trans lk0
 f330:=func227.trans lk0
 f331:=func263.trans lk0
 f332:=func264.trans lk0
 f343:=func304.trans lk0
 t0:=underlying0
 a0:=isAgg0
 z0:=sizeOf0
 v0:=zeroValue0
 t3:=underlying3
 a3:=isAgg3
 z3:=sizeOf3
 v3:=zeroValue3
 t4:=underlying4
 a4:=isAgg4
 z4:=sizeOf4
 v4:=zeroValue4
 t5:=underlying5
 a5:=isAgg5
 z5:=sizeOf5
 v5:=zeroValue5
 t9:=underlying9
 a9:=isAgg9
 z9:=sizeOf9
 v9:=zeroValue9
 t28:=underlying42
 a28:=isAgg42
 z28:=sizeOf42
 v28:=zeroValue42
 t46:=underlying144
 a46:=isAgg144
 z46:=sizeOf144
 v46:=zeroValue144
 t51:=underlying199
 a51:=isAgg199
 z51:=sizeOf199
 v51:=zeroValue199
 t53:=underlying167
 a53:=isAgg167
 z53:=sizeOf167
 v53:=zeroValue167
 t131:=underlying196
 a131:=isAgg196
 z131:=sizeOf196
 v131:=zeroValue196
 t182:=underlying191
 a182:=isAgg191
 z182:=sizeOf191
 v182:=zeroValue191
 t183:=underlying192
 a183:=isAgg192
 z183:=sizeOf192
 v183:=zeroValue192
 t218:=underlying242
 a218:=isAgg242
 z218:=sizeOf242
 v218:=zeroValue242
 t222:=underlying246
 a222:=isAgg246
 z222:=sizeOf246
 v222:=zeroValue246
 t228:=underlying270
 a228:=isAgg270
 z228:=sizeOf270
 v228:=zeroValue270
 t229:=underlying165
 a229:=isAgg165
 z229:=sizeOf165
 v229:=zeroValue165 }
end Go.Proofs
namespace Go.Proofs.YthlkpgdfifnagaaGreat
open Go Go.RowKit Go.Shelf Go.Sort Tryz
theorem Aav:∀ l:List Int,l.flatMap Ah=l.map (Value.int .i64)
 | []=>rfl
 | x::r=>by rw[List.flatMap_cons,Aav r];rfl
theorem As7(l:List Int)(hb:l.length<=1000000){A:Option Addr}{m c:Nat}{t:TypeId}(w:World)(hok:Ent.ok w (.r A m c t 1 (l.flatMap Ah))):
  Calls prog 95 #[.slice A m c] w fun e w'=>e = .returned (.tuple #[])/\w.grownBy w' (Ent.blk (.r A m c t 1 (l.flatMap Ah)))/\w.drawn<=w'.drawn/\Ent.ok w' (.r A m c t 1 ((Lq l).flatMap Ah)):=by
 obtain⟨hl,h2⟩:=hok;rw[Aav,List.length_map,Nat.mul_one] at hl;subst hl;rcases h2 with⟨hv,h0⟩|⟨g,cap,cur,hv,hbg,hh,h3,h4,h5,h6⟩
 ·injection hv with e1 e2 e3
  subst e1;subst e3;have hl0:l=[]:=List.eq_nil_of_length_eq_zero h0;subst hl0;refine (calls_of_every_depth fun D=>AnyS.slices_Sort_int_none_alone Tryz.laysSort D none 0 w).mono ?_;rintro e w' ⟨rfl,rfl⟩;refine⟨rfl,⟨rfl,rfl,rfl,Nat.le_refl _,fun _ _ _=>rfl⟩,Nat.le_refl _,by simp[Lq],.inl ⟨rfl,rfl⟩⟩
 ·injection hv with e1 e2 e3
  subst e1;subst e3;rw[Aav,Nat.mul_one] at h6;rw[Nat.mul_one] at h5;have hlt:=Dw hh;have hcell:∀ j,(hj:j<l.length)->cur[j]? = some (Value.int .i64 l[j]):=fun j hj=>by
   have h7:(cur.toList.take l.length)[j]? = some (Value.int .i64 l[j]):=by rw[h6];simp[hj]
   rw[List.getElem?_take,if_pos hj] at h7;simpa using h7
  have hH:Holds (Value.int .i64) w g 0 l.toArray:=fun j hj=>by
   have hj':j<l.length:=by simpa using hj
   refine⟨?_,?_⟩
   ·have:=hcell j hj';simp[World.cell?,hh,this,hj']
   ·simp[World.frozen?,hh]
  refine (Any.slices_Sort_int Tryz.laysSort g 0 c l w hH hlt oo).mono ?_;rintro e w' ⟨rfl,q,os,rfl⟩;rw[show (l.mergeSort fun x y=>decide (x<=y))=Lq l from rfl];have hsz:(Lq l).length=l.length:=Kn;have hg0:∀ k,k<w.heap.size->(grow (putRow (Value.int .i64) (Go.Sort.ahead w q) g 0 (Lq l).toArray) os).heap[k]? = (w.heap.modify g (onCells (putCells (Value.int .i64) 0 (Lq l).toArray)))[k]?:=fun k hk=>by
   show (((Go.Sort.ahead w q).heap.modify g (onCells (putCells (Value.int .i64) 0 (Lq l).toArray)))++os)[k]? = _;rw[Array.getElem?_append_left (by rw[Array.size_modify];exact hk)];rfl
  refine⟨rfl,⟨rfl,rfl,rfl,?_,fun k hk hne=>?_⟩,Nat.le_add_right _ _,by rw[Aav,List.length_map,hsz,Nat.mul_one],.inr ⟨g,c,putCells (Value.int .i64) 0 (Lq l).toArray cur,rfl,Nat.zero_le _,?_,h3,h4,?_,?_⟩⟩
  ·show w.heap.size<=(((Go.Sort.ahead w q).heap.modify g (onCells (putCells (Value.int .i64) 0 (Lq l).toArray)))++os).size;rw[Array.size_append,Array.size_modify];exact Nat.le_add_right _ _
  ·rw[hg0 k hk,Array.getElem?_modify];rw[if_neg (fun he=>hne (by rw[he];rfl))]
  ·rw[hg0 g hlt,Array.getElem?_modify,if_pos rfl,hh];rfl
  ·simp[putCells,h5]
  ·rw[Nat.mul_one,Aav];apply List.ext_getElem?;intro j;rw[List.getElem?_take]
   by_cases hj:j<l.length
   ·rw[if_pos hj];have hj2:j<(Lq l).length:=oo;have hcj:=hcell j hj;have:(putCells (Value.int .i64) 0 (Lq l).toArray cur)[j]? = some (Value.int .i64 (Lq l)[j]):=by
     simp only[putCells,Array.getElem?_mapIdx,hcj,Option.map_some];rw[if_pos ⟨Nat.zero_le _,by simpa using hj2⟩];simp[hj2]
    rw[<- Array.getElem?_toList] at this;rw[this];simp[hj2]
   ·rw[if_neg hj];rw[List.getElem?_eq_none (by rw[List.length_map,hsz];omega)]
section
variable {n:Nat} {N:Act->World->Prop} {Q:Exit->Act->World->Prop} {fr:List (Nat × Value)} {L L':List Ent}
theorem Azn(l:List Int){d i m c:Nat}{A:Option Addr}{t:TypeId}{xs:List Operand}{ts:Array TypeId}{ty':TypeId}{pos:String}{after:Array Edge}{guard:Option (Nat × Bool)}(hx:evos fr xs=some [.slice A m c])(hb:l.length<=1000000)(hL:SetE L i (.r A m c t 1 (l.flatMap Ah)) (.r A m c t 1 ((Lq l).flatMap Ah)) L')(hd:Nat.blt d n=true)(k:T n N ((d,.tuple #[])::fr) L'):Wh prog Q n ⟨some d,.call ⟨.value (.func 95),xs.toArray,ts⟩,ty',pos,after,guard⟩ fr L N:=by
 intro a w ha hw;have he:Wi prog 95:=⟨_,func95,rfl,rfl⟩;simp only[Oper.wp,Ad4 he ha hx,Oper.upon_enter];refine (As7 l hb w (hw.ok _ hL.mem)).mono ?_;rintro e w' ⟨rfl,hg,hdr,hok⟩;exact k _ _ (ha.put hd) (Heap.turn (e:=.r A m c t 1 (l.flatMap Ah)) (e':=.r A m c t 1 ((Lq l).flatMap Ah)) hg hok (Nat.le_refl _) (fun _ hg=>.inl hg) hL hw (hd:=hdr))
end
end Go.Proofs.YthlkpgdfifnagaaGreat
namespace Go.Proofs.YthlkpgdfifnagaaGreat
open Go Go.RowKit Tryz
theorem Aaw:Tl prog 42:=.mk underlying42 rfl (show prog.info? 42=some t42 from by kernel_rfl) kr
instance:OneI prog 42:=⟨Aaw⟩
theorem Bbc:Rj prog 42 [.slice none 0 0]:=⟨_,zeroValue42,rfl⟩
instance:Te prog 42 [.slice none 0 0]:=⟨Bbc⟩
theorem Ane:Xf prog 42 3 1 8:=⟨underlying42,⟨Tryz.t3,iq 0,kr,kr,kr,kr,rfl⟩,dD⟩
instance:Afp prog 42 3 1 8:=⟨Ane⟩
theorem Oo(x0:Int):Jw prog 42 1 [(0,iq x0)] 3 [iq x0]:=fun w=>kr
instance(x0:Int):Qd prog 42 1 [(0,iq x0)] 3 [iq x0]:=⟨Oo _⟩
theorem CtL.of{P:Program}{f:FuncId}{vs:List Value}{w:World}{R S:Value->List Ent->Prop}(h:CtL P f vs w R)(k:∀ v Ln,R v Ln->S v Ln):CtL P f vs w S:=by
 obtain⟨h1,h2⟩:=h;exact⟨h1,h2.mono (by rintro e w' ⟨v,Ln,h3,h4,h6,h7⟩;exact⟨v,Ln,h3,k _ _ h4,h6,h7⟩)⟩
theorem Zj.low{α β:Type}{P:Program}{K:List Ent}{kv:Value}{ax:α->Value}{ry:β->Value}{ky:α->Option β}{w:World}(h:Zj P K kv ax ry ky)(hK:∀ e∈K,Ent.ok w e):Zj P [.old w] kv ax ry ky:=by
 obtain⟨f,caps,h1,h2⟩:=h;exact⟨f,caps,h1,fun x y hxy w' hw'=>h2 x y hxy w' fun e he=>Ent.ext (hK e he) (hw' (.old w) List.mem_cons_self)⟩
theorem Zj.up{α β:Type}{P:Program}{K L:List Ent}{kv:Value}{ax:α->Value}{ry:β->Value}{ky:α->Option β}(h:Zj P K kv ax ry ky)(hs:SubE K L):Zj P L kv ax ry ky:=by
 obtain⟨f,caps,h1,h2⟩:=h;exact⟨f,caps,h1,fun x y hxy w hw=>h2 x y hxy w (hs.ok w hw)⟩
def Aju(acc:List Ae)(x:Ae):Option (List Ae):=gd ((acc.length+1)*72<=140737488355328) <| some (acc++[x])
def Ajv(acc:List Int)(x:Ae):Option (List Int):=gd ((acc.length+1)*8<=140737488355328) <| some (acc++[x.Id])
noncomputable def Yb(ky:Ae->Option Aa)(l:List Ae):Option (List Ae):=
 Ki ky Aju l []
theorem Ald(ky:Ae->Option Aa)(p1:List Ae){K:List Ent}{A0:Option Addr}{c0:Nat}(ha0:Has K A0 p1.length c0 9 Aw p1){g1 g2:Nat}{kv:Value}(hp1:Pt K g1 0 [.slice A0 p1.length c0])(hp2:Pt K g2 0 [kv])(hkey:Zj prog K kv Cw Es ky){r:List Ae}(hx:Yb ky p1=some r)(w:World)(hK:∀ e∈K,Ent.ok w e):
  CtL prog 224 [.slice none 0 0,.func (.func 170) #[] #[.pointer (some ⟨g1,0,none⟩),.pointer (some ⟨g2,0,none⟩)]] w (fun v Ln=>∃ A c,v = .slice A r.length c/\Ln=[.r A r.length c 30 9 (r.flatMap Aw)]):=by
 have hb0:Has [.old w] A0 p1.length c0 9 Aw p1:=Has.low (E:=[]) (by rw[List.append_nil];exact ha0) hK;have hq1:Pt [.old w] g1 0 _:=Pt.low (E:=[]) (by rw[List.append_nil];exact hp1) hK;have hq2:Pt [.old w] g2 0 _:=Pt.low (E:=[]) (by rw[List.append_nil];exact hp2) hK;have hky:=hkey.low hK;unfold Yb at hx;refine CtL.mkI 13 func224 rfl ntmps224 kr rfl ?_;show T 13 _ [(0,.slice none 0 0),(1,.func (.func 170) #[] #[.pointer (some ⟨g1,0,none⟩),.pointer (some ⟨g2,0,none⟩)])] _;refine Aab ?_;refine Xl ?_;refine I_x (Qt rfl rfl rfl (fun g3=>?_));refine Re (Me rfl) rfl ?_;refine Xk ?_;refine Vo ?_;refine Aab ?_;refine Aab ?_;refine Xl ?_;refine Re (Zb rfl) rfl ?_;refine Xk ?_;refine Vo ?_;refine Af6 ?_;refine Bh 30 9 ?_;refine Aqa (p:=7) (Hs:=[.m g3 41 [.slice none 0 0],.r none 0 0 30 9 []]) (Lr:=[.old w]) (K:=[.old w]) (Rf:=fun Hs'=>∃ A c,Hs'=[.m g3 41 [.slice A r.length c],.r A r.length c 30 9 (r.flatMap Aw)]) rfl (by exact .pick 1 rfl (.pick 0 rfl .refl)) (Br rfl (Br rfl Fg)) ⟨fun w hw=>hw⟩ ?_ ?_
 ·intro l q a0 hfr hst hpe hpa htm has hbo;have hi0:∃ (A:Option Addr) (c:Nat),bunS [Pz l q,.m g3 41 [.slice none 0 0],.r none 0 0 30 9 []]=bunS [Pz l q,.m g3 41 [.slice A ([]:List Ae).length c],.r A ([]:List Ae).length c 30 9 (([]:List Ae).flatMap Aw)]:=⟨none,0,rfl⟩;have key:=Un ky Aju p1 ([]:List Ae) (K:=[.old w]) (kv:=kv) (l:=l)
   (Inv:=fun s e=>∃ A c,e=bunS [Pz l q,.m g3 41 [.slice A s.length c],.r A s.length c 30 9 (s.flatMap Aw)]) (ye:=bunS [Pz l q,.m g3 41 [.slice none 0 0],.r none 0 0 30 9 []]) hb0 hq1 hq2 hky ?_ hi0 hx
  ·refine⟨key.1,fun Lf w' hs hw'=>(key.2 Lf w' hs hw').mono ?_⟩;rintro e w'' ⟨v,Ln,rfl,⟨e',rfl,A,c,rfl⟩,hh⟩;exact⟨v,_,rfl,⟨_,⟨A,c,rfl⟩,Br rfl (Br rfl Fg),rfl⟩,hh⟩
  ·rintro s x s' e hs ⟨A,c,rfl⟩;obtain⟨hb,hs⟩:=De hs;obtain rfl:=Option.some.inj hs;refine Ai8.mk hfr hpa htm rfl (Br rfl (Br rfl Fg)) (fun Lf=>?_);rw[has,hbo];show T 13 _ ((7,.agg #[iq x.Id,iq x.X,iq x.Y,iq x.Z.Lo,iq x.Z.Hi,iq x.Wide,iq x.Num,iq x.Of,iq x.Class])::_) ([Pz l q,.m g3 41 [.slice A s.length c],.r A s.length c 30 9 (s.flatMap Aw)]++Lf);refine Xl ?_;refine I_x (Gq Ai3 rfl (fun g5=>?_));refine I_h (Ef rfl rfl rfl (.here) (.put (.put (.put (.put (.put (.put (.put (.put (.put (.done)))))))))) rfl (List.cons_ne_nil _ _) Wk.2 ?_);refine Xk ?_;refine Ap7 (i:=1) (.there .here) hst ?_;refine Af6 ?_;refine Xl ?_;refine Re (Cg rfl (i:=2) rfl rfl Anc) rfl ?_;refine Re (Db rfl (i:=0) rfl rfl Wk) rfl ?_;refine I_x (Ck rfl (Em _ _ _ _ _ _ _ _ _) rfl (fun g0=>?_));refine I_h (Qk Aw s [x] rfl rfl rfl Aua (fun _=>rfl) (i':=0) rfl rfl rfl rfl hb rfl (fun _ _=>.there (.there (.there (.there (.here))))) (fun _ _=>.drop .refl) dD (fun A1 c1=>?_));refine I_h (Ef rfl rfl rfl (.there (.there .here)) (.put .done) rfl (List.cons_ne_nil _ _) Anc.2 ?_);refine Xk ?_;refine Ap6 ?_;exact Ap8 (i:=1) (.there .here) hst hpe (fun w3 hw3=>⟨rfl,_,⟨A1,c1,rfl⟩,Abb (Br rfl (Br rfl (Br rfl Fg))) (hw3.pick (.pick 1 rfl (.pick 1 rfl (.pick 1 rfl (.drop 0 rfl .refl)))))⟩)
 ·rintro D Hs' ⟨A,c,rfl⟩ -;refine Ap6 ?_;refine Vo ?_;refine Aab ?_;refine Xl ?_;refine Re (Cg rfl (i:=1) rfl rfl Anc) rfl ?_;refine Re (Me rfl) rfl ?_;refine Xk ?_;refine Vo ?_;refine Baw ?_;exact Bax (rs:=[.tmp 4]) (i:=0) results224 (.tmp rfl .nil) (Ln:=[.r A r.length c 30 9 (r.flatMap Aw)]) ⟨A,c,rfl,rfl⟩ (Br rfl Fg) .here (.tmp rfl .nil) (.pick 2 rfl (.pick 2 rfl (.drop 0 rfl (.drop 0 rfl .refl))))
theorem Apa(ky:Ae->Option Aa)(p1:List Ae){K:List Ent}{A0:Option Addr}{c0:Nat}(ha0:Has K A0 p1.length c0 9 Aw p1){g1 g2:Nat}{kv:Value}(hp1:Pt K g1 0 [.slice A0 p1.length c0])(hp2:Pt K g2 0 [kv])(hkey:Zj prog K kv Cw Es ky){r:List Ae}(hx:Yb ky p1=some r)(w:World)(hK:∀ e∈K,Ent.ok w e):
  CtL prog 151 [.func (.func 170) #[] #[.pointer (some ⟨g1,0,none⟩),.pointer (some ⟨g2,0,none⟩)]] w (fun v Ln=>∃ A c,v = .slice A r.length c/\Ln=[.r A r.length c 30 9 (r.flatMap Aw)]):=by
 have hb0:Has [.old w] A0 p1.length c0 9 Aw p1:=Has.low (E:=[]) (by rw[List.append_nil];exact ha0) hK;have hq1:Pt [.old w] g1 0 _:=Pt.low (E:=[]) (by rw[List.append_nil];exact hp1) hK;have hq2:Pt [.old w] g2 0 _:=Pt.low (E:=[]) (by rw[List.append_nil];exact hp2) hK;have hky:=hkey.low hK;refine CtL.mk 5 func151 rfl ntmps151 kr rfl ?_;show T 5 _ [(0,.func (.func 170) #[] #[.pointer (some ⟨g1,0,none⟩),.pointer (some ⟨g2,0,none⟩)])] _;refine Y8 ?_;refine T_x (Ch rfl (fun w1 hw1=>Ald ky p1 hb0 hq1 hq2 hky hx w1 hw1.ok) rfl ?_);rintro _ _ hlo ⟨A,c,rfl,rfl⟩;refine My ?_;refine Y4 ?_;exact Jc (rs:=[.tmp 2]) results151 (.tmp rfl .nil) (Ln:=[.r A r.length c 30 9 (r.flatMap Aw)]) ⟨A,c,rfl,rfl⟩ (Br rfl Fg) (.pick 0 rfl (.pick 0 rfl .refl))
theorem Afo(A:Option Addr)(n c:Nat)(f:Nat)(caps:List Value)(w:World):CtL prog 122 [.slice A n c,.func (.func f) #[] caps.toArray] w (fun v Ln=>∃ g1 g2,v = .func (.func 170) #[] #[.pointer (some ⟨g1,0,none⟩),.pointer (some ⟨g2,0,none⟩)]/\Ln=[.m g2 98 [.func (.func f) #[] caps.toArray],.m g1 41 [.slice A n c]]):=by
 refine CtL.mk 6 func122 rfl ntmps122 kr rfl ?_;show T 6 _ [(0,.slice A n c),(1,.func (.func f) #[] caps.toArray)] _;refine Y2 ?_;refine T_x (Qt rfl rfl rfl (fun g1=>?_));refine T_x (Qt (cs:=[.func (.func f) #[] caps.toArray]) rfl rfl rfl (fun g2=>?_));refine Y10 ?_;exact Jc (rs:=[.tmp 4]) results122 (.tmp rfl .nil) (Ln:=[.m g2 98 [.func (.func f) #[] caps.toArray],.m g1 41 [.slice A n c]]) ⟨g1,g2,rfl,rfl⟩ (Br rfl (Br rfl Fg)) (.pick 0 rfl (.pick 0 rfl (.pick 0 rfl .refl)))
theorem Awn:Zj prog [] (.func (.func 70) #[] #[]) Cw Es Cu :=
 ⟨70,[],rfl,fun x y hxy w _=>(Agi x hxy w).of fun v Ln ⟨h1,h2,_⟩=>⟨h1,h2⟩⟩
theorem Azo(tr:Am){g:Nat}{K:List Ent}(hp:Pt K g 0 [iq tr.Cell,iq tr.Reach,iq tr.Slope,iq tr.Link,iq tr.Flat,iq tr.Tall,iq tr.High,iq tr.Low,iq tr.Brush,iq tr.Few]):Zj prog K (.func (.func 120) #[] #[.pointer (some ⟨g,0,none⟩)]) Cw Es (fun p=>Mz p tr):=
 ⟨120,[_],rfl,fun x y hxy w hw=>(Aem x tr hp hxy w hw).of fun v Ln ⟨h1,h2,_⟩=>⟨h1,h2⟩⟩
noncomputable def Ws(p0:List Ae)(p1:Am):Option (List Int):=
 bnd (Ki (fun p=>Mz p p1) Ajv p0 ([]:List Int)) fun out=>gd (out.length<=1000000) <| some (Lq out)
theorem Ahr(p0:List Ae)(p1:Am){K:List Ent}{U0:Option Addr}{E0:Nat}(ha0:Has K U0 p0.length E0 9 Aw p0){r:List Int}(hx:Ws p0 p1=some r)(w:World)(hK:∀ e∈K,Ent.ok w e):
  CtL prog 68 [.slice U0 p0.length E0,.agg #[iq p1.Cell,iq p1.Reach,iq p1.Slope,iq p1.Link,iq p1.Flat,iq p1.Tall,iq p1.High,iq p1.Low,iq p1.Brush,iq p1.Few]] w (fun v Ln=>∃ (A0:Option Addr) (c0:Nat),v = .slice A0 r.length c0/\Ln=[.r A0 r.length c0 3 1 (r.flatMap Ah)]/\True):=by
 obtain⟨out,hout,hx⟩:=Au hx;obtain⟨hn,hx⟩:=De hx;obtain rfl:=Option.some.inj hx;have hb0:Has [.old w] U0 p0.length E0 9 Aw p0:=Has.low (E:=[]) (by rw[List.append_nil];exact ha0) hK;refine CtL.mkI 21 func68 rfl ntmps68 kr rfl ?_;show T 21 _ [(0,.slice U0 p0.length E0),(1,.agg #[iq p1.Cell,iq p1.Reach,iq p1.Slope,iq p1.Link,iq p1.Flat,iq p1.Tall,iq p1.High,iq p1.Low,iq p1.Brush,iq p1.Few])] _;refine Aab ?_;refine Xl ?_;refine I_x (Qt rfl rfl rfl (fun g3=>?_));refine Re (Me rfl) rfl ?_;refine Xk ?_;refine Vo ?_;refine Aab ?_;refine Xl ?_;refine Re (Aac rfl) rfl ?_;refine Re (Me rfl) rfl ?_;refine Xk ?_;refine Vo ?_;refine Aab ?_;refine Xl ?_;refine I_x (Gq Bbc rfl (fun g6=>?_));refine Xk ?_;refine Vo ?_;refine Aab ?_;refine Aab ?_;refine Xl ?_;refine Re (Zb rfl) rfl ?_;refine Re (Zb rfl) rfl ?_;refine I_x (Ch rfl (fun w1 _=>Afo U0 p0.length E0 120 [.pointer (some ⟨g3,0,none⟩)] w1) rfl ?_);rintro _ _ hlo ⟨g1,g2,rfl,rfl⟩;refine Xb ?_;refine Xk ?_;refine Vo ?_;refine Af6 ?_;refine Bh 3 1 ?_;obtain⟨KK,hKK⟩:∃ KK:List Ent,KK=[.m g2 98 [.func (.func 120) #[] #[.pointer (some ⟨g3,0,none⟩)]],.m g1 41 [.slice U0 p0.length E0],.m g3 32 [iq p1.Cell,iq p1.Reach,iq p1.Slope,iq p1.Link,iq p1.Flat,iq p1.Tall,iq p1.High,iq p1.Low,iq p1.Brush,iq p1.Few],.old w]:=⟨_,rfl⟩;have k1:Pt KK g1 0 [.slice U0 p0.length E0]:=Pt.m0 (by rw[hKK];exact .tail _ (.head _));have k2:Pt KK g2 0 [.func (.func 120) #[] #[.pointer (some ⟨g3,0,none⟩)]]:=Pt.m0 (by rw[hKK];exact .head _);have k3:Pt KK g3 0 [iq p1.Cell,iq p1.Reach,iq p1.Slope,iq p1.Link,iq p1.Flat,iq p1.Tall,iq p1.High,iq p1.Low,iq p1.Brush,iq p1.Few]:=Pt.m0 (by rw[hKK];exact .tail _ (.tail _ (.head _)));have k0:Has KK U0 p0.length E0 9 Aw p0:=Has.up hb0 (by rw[hKK];exact SubE.cons2 (i:=3) rfl SubE.nil);refine Aqa (p:=12) (Hs:=[.m g6 42 [.slice none 0 0],.r none 0 0 3 1 []]) (Lr:=KK) (K:=KK) (Rf:=fun Hs'=>∃ A c,Hs'=[.m g6 42 [.slice A out.length c],.r A out.length c 3 1 (out.flatMap Ah)]) rfl (by rw[hKK];exact .pick 3 rfl (.pick 0 rfl .refl)) (Br rfl (Br rfl Fg)) ⟨fun w hw=>hw⟩ ?_ ?_
 ·intro l q a0 hfr hst hpe hpa htm has hbo;have hi0:∃ (A:Option Addr) (c:Nat),bunS [Pz l q,.m g6 42 [.slice none 0 0],.r none 0 0 3 1 []]=bunS [Pz l q,.m g6 42 [.slice A ([]:List Int).length c],.r A ([]:List Int).length c 3 1 (([]:List Int).flatMap Ah)]:=⟨none,0,rfl⟩;have key:=Un (fun p=>Mz p p1) Ajv p0 ([]:List Int) (K:=KK) (kv:=.func (.func 120) #[] #[.pointer (some ⟨g3,0,none⟩)]) (l:=l)
   (Inv:=fun s e=>∃ A c,e=bunS [Pz l q,.m g6 42 [.slice A s.length c],.r A s.length c 3 1 (s.flatMap Ah)]) (ye:=bunS [Pz l q,.m g6 42 [.slice none 0 0],.r none 0 0 3 1 []]) k0 k1 k2 (Azo p1 k3) ?_ hi0 hout
  ·refine⟨key.1,fun Lf w' hs hw'=>(key.2 Lf w' hs hw').mono ?_⟩;rintro e w'' ⟨v,Ln,rfl,⟨e',rfl,A,c,rfl⟩,hh⟩;exact⟨v,_,rfl,⟨_,⟨A,c,rfl⟩,Br rfl (Br rfl Fg),rfl⟩,hh⟩
  ·rintro s x s' e hs ⟨A,c,rfl⟩;obtain⟨hb,hs⟩:=De hs;obtain rfl:=Option.some.inj hs;refine Ai8.mk hfr hpa htm rfl (Br rfl (Br rfl Fg)) (fun Lf=>?_);rw[has,hbo];show T 21 _ ((12,.agg #[iq x.Id,iq x.X,iq x.Y,iq x.Z.Lo,iq x.Z.Hi,iq x.Wide,iq x.Num,iq x.Of,iq x.Class])::_) ([Pz l q,.m g6 42 [.slice A s.length c],.r A s.length c 3 1 (s.flatMap Ah)]++Lf);refine Xl ?_;refine I_x (Gq Ai3 rfl (fun g5=>?_));refine I_h (Ef rfl rfl rfl (.here) (.put (.put (.put (.put (.put (.put (.put (.put (.put (.done)))))))))) rfl (List.cons_ne_nil _ _) Wk.2 ?_);refine Xk ?_;refine Ap7 (i:=1) (.there .here) hst ?_;refine Af6 ?_;refine Xl ?_;refine Re (Cg rfl (i:=2) rfl rfl Aaw) rfl ?_;refine Re (Ee rfl Apy rfl) rfl ?_;refine Re (Cg rfl (i:=0) rfl rfl one3) rfl ?_;refine I_x (Ck rfl (Oo _) rfl (fun g0=>?_));refine I_h (Qk Ah s [x.Id] rfl rfl rfl Ane (fun _=>rfl) (i':=0) rfl rfl rfl rfl hb rfl (fun _ _=>.there (.there (.there (.there (.here))))) (fun _ _=>.drop .refl) dD (fun A1 c1=>?_));refine I_h (Ef rfl rfl rfl (.there (.there .here)) (.put .done) rfl (List.cons_ne_nil _ _) Aaw.2 ?_);refine Xk ?_;refine Ap6 ?_;exact Ap8 (i:=1) (.there .here) hst hpe (fun w3 hw3=>⟨rfl,_,⟨A1,c1,rfl⟩,Abb (Br rfl (Br rfl (Br rfl Fg))) (hw3.pick (.pick 1 rfl (.pick 1 rfl (.pick 1 rfl (.drop 0 rfl .refl)))))⟩)
 ·rintro D Hs' ⟨A,c,rfl⟩ -;subst hKK;refine Ap6 ?_;refine Vo ?_;refine Aab ?_;refine Xl ?_;refine Re (Cg rfl (i:=1) rfl rfl Aaw) rfl ?_;refine I_h (Azn out rfl hn (.there (.there .here)) rfl ?_);refine Xk ?_;refine Vo ?_;refine Aab ?_;refine Xl ?_;refine Re (Cg rfl (i:=1) rfl rfl Aaw) rfl ?_;refine Re (Me rfl) rfl ?_;refine Xk ?_;refine Vo ?_;refine Baw ?_;have hlen:out.length=(Lq out).length:=Kn.symm;refine Aha (s:=4) (v':=.slice A (Lq out).length c) rfl (by rw[hlen]) ?_;refine Afe (i:=2) (.there (.there .here)) (e':=.r A (Lq out).length c 3 1 ((Lq out).flatMap Ah)) (by rw[hlen]) ?_;exact Bax (rs:=[.tmp 4]) (i:=0) results68 (.tmp rfl .nil) (Ln:=[.r A (Lq out).length c 3 1 ((Lq out).flatMap Ah)]) ⟨A,c,rfl,rfl,trivial⟩ (Br rfl Fg) .here (.tmp rfl .nil) (.pick 2 rfl (.pick 5 rfl (.drop 0 rfl (.drop 0 rfl (.drop 0 rfl (.drop 0 rfl (.drop 0 rfl .refl)))))))
instance:MkI prog 42 3 1 8 Ah 0:=⟨Tryz.t3,iq 0,underlying42,kr,kr,rfl,kr,kr⟩
noncomputable def Qn(p0:List Ae):(List Ae × Int)->Option (Sum (List Ae × Int) (List Ae)):=fun s0=>
 if s0.2<(p0.length:Int) then (jn (fun (s1:List Ae)=>
 some (.inl (s1,w64 (s0.2+1))))
 (fun j0=>bnd (idx p0 s0.2) fun x0=>
 if x0.Num=x0.Of then (gd ((s0.1.length+1)*72<=140737488355328)<|
 j0 (s0.1++[x0]))
 else (j0 s0.1)))
 else (some (.inr s0.1))
noncomputable def Sk(p0:List Ae):Option (List Ae):=
 jn (fun (s3:List Ae)=>
 bnd (Yb Cu s3) fun r0=>
 some r0)
 (fun j3=>bnd (lfix (Qn p0) (([]:List Ae),0)) fun t0=>
 j3 t0)
noncomputable def Kj(p0:List Ae)(p1:Am):Option (List Ae):=
 bnd (So p0 p1) fun r2=>
 bnd (Sk r2.1) fun r0=>
 some r0
noncomputable def Oi(p0:List Ae)(p1:Am):Option (List Int × Int):=
 bnd (Ps p0 p1) fun r2=>
 if r2=0 then (bnd (Kj p0 p1) fun r8=>
 bnd (Ws r8 p1) fun r0=>
 some (r0,0))
 else (some (([]:List Int),r2))
theorem Ahs(p0:List Ae){K:List Ent}{U0:Option Addr}{E0:Nat}(ha0:Has K U0 p0.length E0 9 Aw p0){r:List Ae}(hx:Sk p0=some r)(w:World)(hK:∀ e∈K,Ent.ok w e):CtL prog 97 [.slice U0 p0.length E0] w fun v Ln=>∃ (A0:Option Addr) (c0:Nat),v = .slice A0 r.length c0/\Ln=[.r A0 r.length c0 30 9 (r.flatMap Aw)]/\True:=by
 have ha0':=Has.up0 ha0;refine CtL.mk 25 func97 rfl ntmps97 kr rfl ?_;show T 25 _ [(0,.slice U0 p0.length E0)] _;unfold Sk at hx;refine Y10 ?_;refine Tj (γ:=Option Addr × Nat) hx (fun s3 y3=>[(3,.slice y3.1 s3.length y3.2)]) (fun s3 y3=>[.r y3.1 s3.length y3.2 30 9 (s3.flatMap Aw)]++[.old w]) (fun s3 y3=>True) (fun s3 y3 hx0 hG0=>?_) (fun j3 hx=>?_)
 ·refine Y3 ?_;refine T_x (Ch rfl (fun w1 _=>Afo y3.1 s3.length y3.2 70 [] w1) rfl ?_);rintro _ _ hlo ⟨g0,g1,rfl,rfl⟩;refine Xb ?_;refine Kv (k:=2) rfl dD (fun _=>rfl) (fun hn0 hs0=>?_);obtain⟨r0,h0,hx1⟩:=Au hx0;refine T_x (Ch rfl (fun w1 hw1=>Apa Cu s3 (Has.up (L:=([.r y3.1 s3.length y3.2 30 9 (s3.flatMap Aw),.m g0 41 [.slice y3.1 s3.length y3.2],.m g1 98 [.func (.func 70) #[] #[]]]:List Ent)) hs0 (sb 0)) (Pt.m0 (.tail _ (.head _))) (Pt.m0 (.tail _ (.tail _ (.head _)))) (Awn.up (K:=[]) SubE.nil) h0 w1 (Um (K:=([.r y3.1 s3.length y3.2 30 9 (s3.flatMap Aw),.m g0 41 [.slice y3.1 s3.length y3.2],.m g1 98 [.func (.func 70) #[] #[]]]:List Ent)) (by exact (SubE.cons2 (i:=2) rfl (SubE.cons2 (i:=1) rfl (sb 0)))) hw1)) rfl ?_);rintro _ _ hlo ⟨A1,c1,rfl,rfl⟩;refine My ?_;refine Y4 ?_;obtain rfl:=Option.some.inj hx1;exact Jc (rs:=[.tmp 2]) results97 (.tmp rfl (.nil)) (Ln:=[.r A1 r0.length c1 30 9 (r0.flatMap Aw)]) ⟨A1,c1,rfl,rfl,trivial⟩ (Br rfl Fg) (by exact .pick 0 rfl (.drop 0 rfl (.drop 0 rfl (.drop 0 rfl (.refl)))))
 ·refine Y3 ?_;refine Ay (If rfl 30 underlying41) rfl ?_;refine Y4 ?_;obtain⟨t0,hl0,ho0⟩:=Au hx;refine Bh 30 9 ?_;have hn1:0=(([]:List Ae)).length:=by simp[Nr,Aba,List.length_append] <;> omega
  refine Afe (.here) (e':=.r none ((([]:List Ae)).length) 0 30 9 ((([]:List Ae)).flatMap Aw)) (by first | (rw[<- hn1];done) | rfl) ?_;refine Lp (σ:=List Ae × Int) (γ:=Option Addr × Nat) hl0 (fun s0 y0=>[(3,.slice y0.1 s0.1.length y0.2),(6,.slice U0 p0.length E0),(7,iq (p0.length:Int)),(8,iq s0.2)]) (fun s0 y0=>[.r y0.1 s0.1.length y0.2 30 9 (s0.1.flatMap Aw)]++[.old w]) (fun s0 y0=>True) (none,0) trivial (by exact .pick 0 rfl (.refl)) ?_;intro s0 y0 hG1 x0 hx2 ht0;unfold Qn at hx2;refine Y6 ?_;refine Ti hx2 (s:=9) rfl (fun h1 hx3=>?_) (fun h1 hx4=>?_)
  ·refine Y3 ?_;refine Tj (γ:=Option Addr × Nat) hx3 (fun s1 y1=>[(3,.slice y1.1 s1.length y1.2),(6,.slice U0 p0.length E0),(7,iq (p0.length:Int)),(8,iq s0.2)]) (fun s1 y1=>[.r y1.1 s1.length y1.2 30 9 (s1.flatMap Aw)]++[.old w]) (fun s1 y1=>True) (fun s1 y1 hx5 hG2=>?_) (fun j0 hx3=>?_)
   ·refine Y4 ?_;exact Rp (s1,w64 (s0.2+1)) (y1.1,y1.2) hx5 trivial (by exact .pick 0 rfl (.refl))
   ·refine Y3 ?_;obtain⟨x1,h2,hx6⟩:=Au hx3;have hw0:=Has.low (E:=[]) ha0' hK;obtain⟨b0,o0,j1,hA0,hj0,hl1,hp0⟩:=Has.at_idx hw0 h2;refine Ay (Iv rfl rfl hA0 (j:=j1) hj0 hl1 At9) rfl ?_;refine Ay (Sc rfl hp0 (sb 1) rfl Wk) rfl ?_;refine T_x (Gq Ai3 rfl (fun g2=>?_));refine T_h (Ef rfl rfl rfl (.here) (.put (.put (.put (.put (.put (.put (.put (.put (.put (.done)))))))))) rfl (List.cons_ne_nil _ _) Wk.2 ?_);refine Y4 ?_;refine Ay (Ee rfl Apz rfl) rfl ?_;refine Ay (Cg rfl (i:=0) rfl rfl one3) rfl ?_;refine Ay (Ee rfl Ap0 rfl) rfl ?_;refine Ay (Cg rfl (i:=0) rfl rfl one3) rfl ?_;refine Y3 ?_;refine Ti hx6 (s:=16) rfl (fun h3 hx7=>?_) (fun h3 hx8=>?_)
    ·refine Y3 ?_;refine Ay (Db rfl (i:=0) rfl rfl Wk) rfl ?_;refine T_x (Ck rfl (Em _ _ _ _ _ _ _ _ _) rfl (fun g3=>?_));obtain⟨h4,hx9⟩:=De hx7;refine T_h (Qk Aw s0.1 [x1] rfl rfl rfl Aua (fun _=>rfl) (i':=0) rfl rfl rfl rfl h4 rfl (fun _ _=>.there (.there (.here))) (fun _ _=>.drop .refl) dD (fun A2 c2=>?_));refine Y3 ?_;exact Mt (s0.1++[x1]) (A2,c2) hx9 trivial (by exact .pick 1 rfl (.drop 0 rfl (.refl)))
    ·refine Y3 ?_;exact Mt s0.1 (y0.1,y0.2) hx8 trivial (by exact .pick 1 rfl (.drop 0 rfl (.refl)))
  ·refine Y3 ?_;obtain rfl:=Ua ht0 hx4;refine Y2 ?_;exact Mt s0.1 (y0.1,y0.2) ho0 trivial (by exact .pick 0 rfl (.refl))
instance(p0:List Ae):Con (Sk p0) prog 97 (fun K vs=>∃ U0 E0,vs=[.slice U0 p0.length E0]/\Has K U0 p0.length E0 9 Aw p0/\True) (fun _ r=>fun v Ln=>∃ A0 c0,v = .slice A0 r.length c0/\Ln=[.r A0 r.length c0 30 9 (r.flatMap Aw)]/\True):=⟨by
 rintro K _ r ⟨U0,E0,rfl,ha0,-⟩ hx w hK;exact Ahs p0 ha0 hx w hK⟩
instance Ac3(p0:List Ae)(p1:Am):Con (Kj p0 p1) prog 44 (fun K vs=>∃ U0 E0,vs=[.slice U0 p0.length E0,.agg #[iq p1.Cell,iq p1.Reach,iq p1.Slope,iq p1.Link,iq p1.Flat,iq p1.Tall,iq p1.High,iq p1.Low,iq p1.Brush,iq p1.Few]]/\Has K U0 p0.length E0 9 Aw p0/\True) (fun _ r=>fun v Ln=>∃ A0 c0,v = .slice A0 r.length c0/\Ln=[.r A0 r.length c0 30 9 (r.flatMap Aw)]/\True):=⟨by
 rintro K _ r ⟨U0,E0,rfl,ha0,-⟩ hx w hK;replace ha0:=Has.lo ha0 hK;unfold Kj at hx;refine CtS ntmps44 results44 ?_;exact au⟩
theorem Aby(p0:List Ae)(p1:Am){K:List Ent}{U0:Option Addr}{E0:Nat}(ha0:Has K U0 p0.length E0 9 Aw p0){r:List Ae}(hx:Kj p0 p1=some r)(w:World)(hK:∀ e∈K,Ent.ok w e):CtL prog 44 [.slice U0 p0.length E0,.agg #[iq p1.Cell,iq p1.Reach,iq p1.Slope,iq p1.Link,iq p1.Flat,iq p1.Tall,iq p1.High,iq p1.Low,iq p1.Brush,iq p1.Few]] w fun v Ln=>∃ (A0:Option Addr) (c0:Nat),v = .slice A0 r.length c0/\Ln=[.r A0 r.length c0 30 9 (r.flatMap Aw)]/\True:=(Ac3 p0 p1).h K _ _ ⟨_,_,rfl,ha0,trivial⟩ hx w hK
theorem Aht(p0:List Ae)(p1:Am){K:List Ent}{U0:Option Addr}{E0:Nat}(ha0:Has K U0 p0.length E0 9 Aw p0){r:List Int × Int}(hx:Oi p0 p1=some r)(w:World)(hK:∀ e∈K,Ent.ok w e):CtL prog 30 [.slice U0 p0.length E0,.agg #[iq p1.Cell,iq p1.Reach,iq p1.Slope,iq p1.Link,iq p1.Flat,iq p1.Tall,iq p1.High,iq p1.Low,iq p1.Brush,iq p1.Few]] w fun v Ln=>∃ (A0:Option Addr) (c0:Nat),v = .tuple #[.slice A0 r.1.length c0,iq r.2]/\Ln=[.r A0 r.1.length c0 3 1 (r.1.flatMap Ah)]/\True:=by
 have ha0':=Has.up0 ha0;refine CtL.mk 18 func30 rfl ntmps30 kr rfl ?_;show T 18 _ [(0,.slice U0 p0.length E0),(1,.agg #[iq p1.Cell,iq p1.Reach,iq p1.Slope,iq p1.Link,iq p1.Flat,iq p1.Tall,iq p1.High,iq p1.Low,iq p1.Brush,iq p1.Few])] _;unfold Oi at hx;refine Y2 ?_;refine T_x (Qt rfl rfl rfl (fun g1=>?_));refine Y8 ?_;refine Ay (Db rfl (i:=0) rfl rfl Ap1) rfl ?_;obtain⟨r2,h3,hx4⟩:=Au hx;refine Tc (fun w1 hw1=>Ad7 p0 p1 (Has.len' ha0') h3 w1 (Xq (K:=K) (K2:=[]) hK (by exact (sb 1)) (by exact SubE.nil) hw1)) ?_;refine Y9 ?_;refine Ag9 (s:=11) rfl (fun h5=>?_) (fun h5=>?_)
 ·have hx6:=Aag h5 hx4;refine Y10 ?_;refine Bh 3 1 ?_;obtain rfl:=Option.some.inj hx6;exact Jc (rs:=[.tmp 4,.tmp 5]) results30 (.tmp rfl (.tmp rfl (.nil))) (Ln:=[.r none 0 0 3 1 ((([]:List Int)).flatMap Ah)]) ⟨none,0,rfl,rfl,trivial⟩ (Br rfl Fg) (by exact .pick 0 rfl (.drop 0 rfl (.refl)))
 ·have hx7:=Rg h5 hx4;refine Y4 ?_;refine T_dr [0,1,2,1,2,2,2] (.q 0 (.q 1 (.q 3 (.e 2 (.e 4 (.e 5 (.e 6 (.done) (.stop)) (.stop)) (.stop)) (.stop))))) mixed kr kr ?_;refine Y ?_;refine P_q rfl rfl (Db rfl (i:=0) rfl rfl Ap1) rfl ?_;refine P_q rfl rfl (Db rfl (i:=0) rfl rfl Ap1) rfl ?_;obtain⟨r8,h9,hx0⟩:=Au hx7;refine P_x rfl (Ch rfl (fun w1 hw1=>Aby p0 p1 (Has.len' ha0') h9 w1 (Xq (K:=K) (K2:=[]) hK (by exact (sb 1)) (by exact SubE.nil) hw1)) rfl ?_) ?_;rotate_left;exact Tq;rintro _ _ hlo ⟨A1,c1,rfl,rfl,-⟩;refine My ?_;refine Kv (k:=0) rfl dD (fun _=>rfl) (fun hn0 hs0=>?_);obtain⟨r0,h0,hx1⟩:=Au hx0;refine P_x rfl (Ch rfl (fun w1 hw1=>Ahr r8 p1 (Has.len' hs0) h0 w1 (Um (K:=([.r A1 r8.length c1 30 9 (r8.flatMap Aw)]:List Ent)) (by exact (sb 0)) hw1)) rfl ?_) ?_;rotate_left;exact Tq;rintro _ _ hlo ⟨A2,c2,rfl,rfl,-⟩;refine My ?_;refine P_x rfl (Acv (Me rfl) rfl ?_) ?_;rotate_left;exact Tq;refine P_x rfl (Acv (Me rfl) rfl ?_) ?_;rotate_left;exact Tq;refine Y3 ?_;obtain rfl:=Option.some.inj hx1;exact Jc (rs:=[.tmp 4,.tmp 5]) results30 (.tmp rfl (.tmp rfl (.nil))) (Ln:=[.r A2 r0.length c2 3 1 (r0.flatMap Ah)]) ⟨A2,c2,rfl,rfl,trivial⟩ (Br rfl Fg) (by exact .pick 0 rfl (.drop 0 rfl (.drop 0 rfl (.refl))))
instance(p0:List Ae)(p1:Am):Con (Oi p0 p1) prog 30 (fun K vs=>∃ U0 E0,vs=[.slice U0 p0.length E0,.agg #[iq p1.Cell,iq p1.Reach,iq p1.Slope,iq p1.Link,iq p1.Flat,iq p1.Tall,iq p1.High,iq p1.Low,iq p1.Brush,iq p1.Few]]/\Has K U0 p0.length E0 9 Aw p0/\True) (fun _ r=>fun v Ln=>∃ A0 c0,v = .tuple #[.slice A0 r.1.length c0,iq r.2]/\Ln=[.r A0 r.1.length c0 3 1 (r.1.flatMap Ah)]/\True):=⟨by
 rintro K _ r ⟨U0,E0,rfl,ha0,-⟩ hx w hK;exact Aht p0 p1 ha0 hx w hK⟩
end Go.Proofs.YthlkpgdfifnagaaGreat
