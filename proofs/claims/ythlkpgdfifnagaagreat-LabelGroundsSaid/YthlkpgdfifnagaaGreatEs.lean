import Derived.Test.YthlkpgdfifnagaaGreatSort2
set_option maxRecDepth 100000
set_option maxHeartbeats 1000000
namespace Go.Proofs.YthlkpgdfifnagaaGreat
open Go Go.RowKit Tryz
theorem Vi(x0:Int)(x1:Int):Gi prog 24 1 [(0,.agg #[iq x0,iq x1])] 103 [iq x0,iq x1]:=fun w=>kr
instance(x0:Int)(x1:Int):Pq prog 24 1 [(0,.agg #[iq x0,iq x1])] 103 [iq x0,iq x1]:=⟨Vi _ _⟩
theorem Ax6:Xp prog 24 103 2 16:=⟨underlying24,⟨t103,.agg #[iq 0,iq 0],kr,kr,kr,kr,rfl⟩,dD⟩
instance:Aft prog 24 103 2 16:=⟨Ax6⟩
theorem Gz(x0:Int)(x1:Int)(x2:Int):Ui prog 101 [(0,iq x0),(1,iq x1),(2,iq x2)] [iq x0,iq x1,iq x2]:=fun w=>kr
instance(x0:Int)(x1:Int)(x2:Int):Kb prog 101 [(0,iq x0),(1,iq x1),(2,iq x2)] [iq x0,iq x1,iq x2]:=⟨Gz _ _ _⟩
theorem Wt(x0:Int)(x1:Int)(x2:Int):Gi prog 23 1 [(0,.agg #[iq x0,iq x1,iq x2])] 101 [iq x0,iq x1,iq x2]:=fun w=>kr
instance(x0:Int)(x1:Int)(x2:Int):Pq prog 23 1 [(0,.agg #[iq x0,iq x1,iq x2])] 101 [iq x0,iq x1,iq x2]:=⟨Wt _ _ _⟩
theorem Bcf:Xp prog 23 101 3 24:=⟨underlying23,⟨t101,.agg #[iq 0,iq 0,iq 0],kr,kr,kr,kr,rfl⟩,dD⟩
instance:Aft prog 23 101 3 24:=⟨Bcf⟩
instance srtI_176_177:SrtI prog 176 177 Ar 2 (fun _=>Sr) cmp2 (fun x=>.agg #[iq x.a0,iq x.a1]):=⟨⟨_,func176,rfl,rfl⟩,fun l hb hp A m c t w hok hcm=>Ae4 l hb hp w hok hcm ⟨_,func177,rfl,rfl⟩,fun _ W x y px py=>⟨[.agg #[iq x.a0,iq x.a1],.agg #[iq y.a0,iq y.a1]],rfl,Zv x y (Ag4 px py) W⟩⟩
noncomputable def Vx  : (List Ac)->Option (Sum (List Ac) (List Ac)):=fun s0=>
 some (.inr s0)
noncomputable def Rn(p0:Am):(List Ac)->Ac × Int->Option (Sum (List Ac) (List Ac)):=fun s0 p19_=>
 gd ((-9223372036854775808<=p19_.1.a1/\p19_.1.a1<=9223372036854775807)/\(-9223372036854775808<=p19_.1.a0/\p19_.1.a0<=9223372036854775807))<|
 bnd (some ((mget p0.apex ((⟨p19_.1.a1,p19_.1.a0⟩:Ac))).getD 0)) fun x0=>
 if ((mget p0.apex ((⟨p19_.1.a1,p19_.1.a0⟩:Ac))).isSome)=true then (some (.inl s0))
 else (gd ((s0.length+1)*16<=140737488355328)<|
 some (.inl (s0++[(⟨p19_.1.a1,p19_.1.a0⟩:Ac)])))
noncomputable def Hy(p0:Am):Option (Am × List Ac):=
 jn (fun (s3:List Ac)=>
 gd (s3.length<=1000000000/\(∀ x∈s3,Sr x))<|
 some (p0,Bi cmp2 s3))
 (fun j3=>Al6 Vx (Rn p0) p0.apex ([]:List Ac) fun t0=>
 j3 t0)
noncomputable def Uq  : (List Ac)->Option (Sum (List Ac) (List Ac)):=fun s0=>
 some (.inr s0)
noncomputable def Pr(p0:Am):(List Ac)->Ac × Int->Option (Sum (List Ac) (List Ac)):=fun s0 p27_=>
 gd ((-9223372036854775808<=p27_.1.a1/\p27_.1.a1<=9223372036854775807)/\(-9223372036854775808<=p27_.1.a0/\p27_.1.a0<=9223372036854775807))<|
 bnd (some ((mget p0.apex ((⟨p27_.1.a1,p27_.1.a0⟩:Ac))).getD 0)) fun x0=>
 jn (fun (s1:Bool)=>
 if s1=true then (bnd (Qs p27_.1.a0 p27_.1.a1) fun r0=>
 gd ((s0.length+1)*16<=140737488355328)<|
 some (.inl (s0++[r0])))
 else (some (.inl s0)))
 (fun j0=>if p27_.1.a0<p27_.1.a1 then (j0 true)
 else (j0 (!((mget p0.apex ((⟨p27_.1.a1,p27_.1.a0⟩:Ac))).isSome))))
noncomputable def Hz(p0:Am):Option (Am × List Ac):=
 jn (fun (s3:List Ac)=>
 gd (s3.length<=1000000000/\(∀ x∈s3,Sr x))<|
 some (p0,Bi cmp2 s3))
 (fun j3=>Al6 Uq (Pr p0) p0.apex ([]:List Ac) fun t0=>
 j3 t0)
noncomputable def Rq  : (List Aj)->Option (Sum (List Aj) (List Aj)):=fun s0=>
 some (.inr s0)
noncomputable def Lg  : (List Aj)->Ac × Int->Option (Sum (List Aj) (List Aj)):=fun s0 p19_=>
 jn (fun (s1:Bool)=>
 if s1=true then (gd ((s0.length+1)*24<=140737488355328)<|
 some (.inl (s0++[(⟨p19_.1.a0,p19_.1.a1,p19_.2⟩:Aj)])))
 else (some (.inl s0)))
 (fun j0=>if p19_.1.a0<p19_.1.a1 then (j0 (decide (p19_.1.a0<p19_.2)))
 else (j0 false))
noncomputable def Ep(p0:Am):Option (Am × List Aj):=
 jn (fun (s3:List Aj)=>
 gd (s3.length<=1000000000/\(∀ x∈s3,Abh x))<|
 some (p0,Bi cmp3 s3))
 (fun j3=>Al6 Rq Lg p0.apex ([]:List Aj) fun t0=>
 j3 t0)
noncomputable def Sx(p0:List Ad):(List Int × Int)->Option (Sum (List Int × Int) (List Int)):=fun s0=>
 if s0.2<(p0.length:Int) then (gd ((s0.1.length+1)*8<=140737488355328)<|
 some (.inl (s0.1++[s0.2],w64 (s0.2+1))))
 else (some (.inr s0.1))
noncomputable def Vj(p0:List Ad):Option (List Int):=
 jn (fun (s3:List Int)=>
 gd (s3.length<=1000000000/\(∀ x∈s3,(okIx p0) x)/\Fp p0)<|
 some (Bi ((cmpR p0)) s3))
 (fun j3=>bnd (lfix (Sx p0) (([]:List Int),0)) fun t0=>
 j3 t0)
noncomputable def Ya(p0:List Ac):(List Ac × Int)->Option (Sum (List Ac × Int) (List Ac)):=fun s6=>
 if s6.2<(p0.length:Int) then none
 else (some (.inr s6.1))
noncomputable def Vy(p0:List Ac):Option (List Ac):=
 jn (fun (s3:List Ac)=>
 gd (s3.length<=1000000000/\(∀ x∈s3,Sr x))<|
 some (Bi cmp2 s3))
 (fun j3=>bnd (lfix (Ya p0) (([]:List Ac),0)) fun t6=>
 j3 t6)
theorem Adq(p0:Am){g0_0:Nat}{gm0_0:Nat}{gm0_1:Nat}{K:List Ent}{U0:Option Addr}{E0:Nat}(ha0:Has K U0 p0.v.length E0 4 Ak p0.v){r:Am × List Ac}(hx:Hy p0=some r):CtK prog 181 [.pointer (some ⟨g0_0,0,none⟩)] K [.m g0_0 156 [.slice U0 p0.v.length E0,.map (some gm0_0),.map (some gm0_1)],Ba prog 103 Ao Cl gm0_0 p0.apex,Ba prog 103 Ao Ce gm0_1 p0.fixed] fun v Ln=>∃ (A0:Option Addr) (c0:Nat) (A2:Option Addr) (c2:Nat),v = .slice A2 r.2.length c2/\Ln=[.m g0_0 156 [.slice A0 r.1.v.length c0,.map (some gm0_0),.map (some gm0_1)],Ba prog 103 Ao Cl gm0_0 r.1.apex,Ba prog 103 Ao Ce gm0_1 r.1.fixed,.r A2 r.2.length c2 103 2 (r.2.flatMap Ar)]/\Has (K++[]) A0 r.1.v.length c0 4 Ak r.1.v/\True:=by
 have ha0':=Has.up0 ha0;refine CtK.mk 42 func181 rfl ntmps181 kr rfl ?_;intro Lf hKf;show T 42 _ [(0,.pointer (some ⟨g0_0,0,none⟩))] ([.m g0_0 156 [.slice U0 p0.v.length E0,.map (some gm0_0),.map (some gm0_1)],Ba prog 103 Ao Cl gm0_0 p0.apex,Ba prog 103 Ao Ce gm0_1 p0.fixed]++Lf);unfold Hy at hx;refine Y10 ?_;refine Tj (γ:=Option Addr × Nat) hx (fun s3 y3=>[(0,.pointer (some ⟨g0_0,0,none⟩)),(3,.slice y3.1 s3.length y3.2)]) (fun s3 y3=>[.r y3.1 s3.length y3.2 103 2 (s3.flatMap Ar),.m g0_0 156 [.slice U0 p0.v.length E0,.map (some gm0_0),.map (some gm0_1)],Ba prog 103 Ao Cl gm0_0 p0.apex,Ba prog 103 Ao Ce gm0_1 p0.fixed]++Lf) (fun s3 y3=>True) (fun s3 y3 hx0 hG0=>?_) (fun j3 hx=>?_)
 ·refine Y3 ?_;obtain⟨h0,hx1⟩:=Bo hx0;refine T_h (Acy (p:=Sr) (arg:=fun x=>.agg #[iq x.a0,iq x.a1]) (cf:=cmp2) s3 (by exact⟨_,func176,rfl,rfl⟩) (fun w hok hcm=>Ae4 s3 h0.1 h0.2 w hok hcm ⟨_,func177,rfl,rfl⟩) (fun ys=>[.r y3.1 s3.length y3.2 103 2 ys,.m g0_0 156 [.slice U0 p0.v.length E0,.map (some gm0_0),.map (some gm0_1)],Ba prog 103 Ao Cl gm0_0 p0.apex,Ba prog 103 Ao Ce gm0_1 p0.fixed]++Lf) (fun ys=>by exact .here) (fun ys W hW x y px py=>⟨[.agg #[iq x.a0,iq x.a1],.agg #[iq y.a0,iq y.a1]],rfl,Zv x y  (Ag4 px py) W⟩) rfl rfl rfl ?_);refine Y9 ?_;have hn0:s3.length=(Bi cmp2 s3).length:=(by rw[Bx]);refine Yb (.here) (e':=.r y3.1 ((Bi cmp2 s3).length) y3.2 103 2 ((Bi cmp2 s3).flatMap Ar)) (by first | (rw[<- hn0];done) | rfl) ?_;refine Aci (s:=2) (v':=.slice y3.1 ((Bi cmp2 s3).length) y3.2) rfl (by have hn1:s3.length=(Bi cmp2 s3).length:=(by rw[Bx]);first | (rw[<- hn1];done) | rfl) ?_;obtain rfl:=Option.some.inj hx1;exact Am9 (rs:=[.tmp 2]) results181 (.tmp rfl (.nil)) (Ln:=[.m g0_0 156 [.slice U0 p0.v.length E0,.map (some gm0_0),.map (some gm0_1)],Ba prog 103 Ao Cl gm0_0 p0.apex,Ba prog 103 Ao Ce gm0_1 p0.fixed,.r y3.1 ((Bi cmp2 s3).length) y3.2 103 2 ((Bi cmp2 s3).flatMap Ar)]) ⟨U0,E0,y3.1,y3.2,rfl,rfl,Has.len' ha0',trivial⟩ (by exact .pick 1 rfl (.pick 1 rfl (.pick 1 rfl (.pick 0 rfl (.refl)))))
 ·refine Y4 ?_;refine As (Be rfl Aaq rfl) rfl ?_;refine As (Bf rfl (i:=0) rfl rfl Ag3) rfl ?_;refine T_x (Ac2 Abg Fw underlying153 rfl (fun _=>.there (.here)) rfl (fun g1=>?_));refine Y3 ?_;refine Bb 103 2 ?_;have hn2:0=(([]:List Ac)).length:=by simp[Jq,Vr,List.length_append] <;> omega
  refine Yb (.here) (e':=.r none ((([]:List Ac)).length) 0 103 2 ((([]:List Ac)).flatMap Ar)) (by first | (rw[<- hn2];done) | rfl) ?_;refine Aip (σ:=List Ac) (γ:=(List (Ac × Int)) × (Option (Ac × Int)) × Option Addr × Nat) hx (fun y0=>y0.1) (fun s0 y0=>[(0,.pointer (some ⟨g0_0,0,none⟩)),(3,.slice y0.2.2.1 s0.length y0.2.2.2),(11,.pointer (some ⟨g1,0,none⟩))]) (fun s0 y0=>[.r y0.2.2.1 s0.length y0.2.2.2 103 2 (s0.flatMap Ar),.m g0_0 156 [.slice U0 p0.v.length E0,.map (some gm0_0),.map (some gm0_1)],rngE prog 103 Ao Cl gm0_0 g1 p0.apex y0.1 y0.2.1,Ba prog 103 Ao Ce gm0_1 p0.fixed]++Lf) (fun s0 y0=>True) (p0.apex,(none:Option (Ac × Int)),none,0) rfl trivial (by exact .cons rfl (.cons rfl (.cons rfl (.nil)))) (by exact .pick 0 rfl (.pick 0 rfl (.pick 0 rfl (.pick 0 rfl (.refl))))) ?_;intro s0 y0 hG1 hm0;replace hm0:MR _ _ y0.1 s0 r:=hm0;refine Y2 ?_;refine T_h (Afh Abg Fw Sg rfl (i:=2) (fun _ _=>.there (.there (.here))) rfl (fun hn3=>?_) (fun p19_ hp0=>?_))
  ·obtain⟨x0,hx2,ht0⟩:=MR.noneK hm0 hn3;unfold Vx at hx2;refine Y7 ?_;have hk0:=Aki ht0 hx2;refine Aay (.there (.there (.here))) ?_;refine Y2 ?_;exact Mt s0 (y0.2.2.1,y0.2.2.2) hk0 trivial (by exact .pick 0 rfl (.pick 0 rfl (.pick 0 rfl (.pick 0 rfl (.refl)))))
  ·obtain⟨x0,hx2,ht0,hn4⟩:=MR.someK hm0 hp0;unfold Rn at hx2;refine Y10 ?_;refine As (Ac3 (kv:=.agg #[iq p19_.1.a0,iq p19_.1.a1]) (vv:=iq p19_.2) rfl (i:=2) rfl rfl rfl) rfl ?_;refine Y ?_;refine T_x (Bu Anm rfl (fun g0=>?_));refine T_h (Az rfl rfl rfl (.here) (.put (.put (.done))) rfl (List.cons_ne_nil _ _) Ann.2 ?_);refine Y3 ?_;refine T_dr [0,0,0,1,0,1,0,1,0,1,0,0,0,2,2] (.q 0 (.q 1 (.q 2 (.q 3 (.q 4 (.q 5 (.q 6 (.q 7 (.q 8 (.q 9 (.q 10 (.q 11 (.q 12 (.e 13 (.e 14 (.done) (.stop)) (.stop))))))))))))))) mixed kr kr ?_;refine Y2 ?_;refine P_p rfl rfl (Be rfl Aaq rfl) rfl ?_;refine P_q rfl rfl (Bf rfl (i:=2) rfl rfl Ag3) rfl ?_;refine P_p rfl rfl (Bw rfl rfl Sp dD dD rfl) rfl ?_;refine P_q rfl rfl (Bf rfl (i:=0) rfl rfl one3) rfl ?_;refine P_p rfl rfl (Bw rfl rfl Sp dD dD rfl) rfl ?_;refine P_q rfl rfl (Bf rfl (i:=0) rfl rfl one3) rfl ?_;refine P_p rfl rfl (Ex rfl (Tk _ _)) rfl ?_;obtain⟨h1,hx3⟩:=Bo hx2;obtain⟨x1,h2,hx4⟩:=An hx3;refine P_q rfl rfl (Xs (x:=(⟨p19_.1.a1,p19_.1.a0⟩:Ac)) (i:=3) (vv:=iq x1) Abg underlying153 (fun w=>kr) Fw rfl rfl rfl rfl Aix (Aq7 ((⟨p19_.1.a1,p19_.1.a0⟩:Ac)) h1) h2 rfl) rfl ?_;refine Y3 ?_;refine P_x rfl (Ec (Ek rfl) rfl ?_) ?_;rotate_left;exact Bj;refine P_x rfl (Ec (Ek rfl) rfl ?_) ?_;rotate_left;exact Bj;refine Y8 ?_;refine Wa (s:=30) rfl (fun h3=>?_) (fun h3=>?_)
   ·have hx5:=Kd h3 hx4;refine Y3 ?_;refine As (Bw rfl rfl Sp dD dD rfl) rfl ?_;refine As (Bf rfl (i:=0) rfl rfl one3) rfl ?_;refine As (Bw rfl rfl Sp dD dD rfl) rfl ?_;refine As (Bf rfl (i:=0) rfl rfl one3) rfl ?_;refine As (Ex rfl (Tk _ _)) rfl ?_;refine T_x (By rfl (Vi _ _) rfl (fun g2=>?_));obtain⟨h4,hx6⟩:=Bo hx5;refine T_h (Jk Ar s0 [(⟨p19_.1.a1,p19_.1.a0⟩:Ac)] rfl rfl rfl Ax6 (fun _=>rfl) (i':=0) rfl rfl rfl rfl h4 rfl (fun _ _=>.there (.there (.here))) (fun _ _=>.drop .refl) dD (fun A1 c1=>?_));refine Y3 ?_;exact Ys (s0++[(⟨p19_.1.a1,p19_.1.a0⟩:Ac)]) (mdel y0.1 p19_.1,(some p19_:Option (Ac × Int)),A1,c1) hx6 hn4 hp0 rfl trivial (by exact .cons rfl (.cons rfl (.cons rfl (.nil)))) (by exact .pick 1 rfl (.pick 1 rfl (.pick 1 rfl (.pick 1 rfl (.drop 0 rfl (.refl))))))
   ·have hx7:=Gp h3 hx4;refine Y3 ?_;exact Ys s0 (mdel y0.1 p19_.1,(some p19_:Option (Ac × Int)),y0.2.2.1,y0.2.2.2) hx7 hn4 hp0 rfl trivial (by exact .cons rfl (.cons rfl (.cons rfl (.nil)))) (by exact .pick 1 rfl (.pick 1 rfl (.pick 1 rfl (.pick 1 rfl (.drop 0 rfl (.refl))))))
instance mesh_builder_rim_c(p0:Am):ConK (Hy p0) prog 181 (fun g0_0 gm0_0 gm0_1 U0 E0 ua0 uc0 vs Lp=>vs=[.pointer (some ⟨g0_0,0,none⟩)]/\Lp=[.m g0_0 156 [.slice U0 p0.v.length E0,.map (some gm0_0),.map (some gm0_1)],Ba prog 103 Ao Cl gm0_0 p0.apex,Ba prog 103 Ao Ce gm0_1 p0.fixed]/\ua0=none/\uc0=0/\True) (fun U0 E0 ua0 uc0 K K2=>Has K U0 p0.v.length E0 4 Ak p0.v/\True) (fun g0_0 gm0_0 gm0_1 U0 E0 ua0 uc0 K r=>fun v Ln=>∃ A0 c0 A2 c2,v = .slice A2 r.2.length c2/\Ln=[.m g0_0 156 [.slice A0 r.1.v.length c0,.map (some gm0_0),.map (some gm0_1)],Ba prog 103 Ao Cl gm0_0 r.1.apex,Ba prog 103 Ao Ce gm0_1 r.1.fixed,.r A2 r.2.length c2 103 2 (r.2.flatMap Ar)]/\Has K A0 r.1.v.length c0 4 Ak r.1.v/\True):=⟨by
 rintro g0_0 gm0_0 gm0_1 U0 E0 _ _ K K2 _ _ r ⟨rfl,rfl,rfl,rfl,-⟩ ⟨ha0,-⟩ hx;exact CtK.wide ((Adq p0 ha0 hx).mono (by
  rintro _ _ ⟨_,_,_,_,rfl,rfl,f0,-⟩;exact⟨_,_,_,_,rfl,rfl,Has.dn0 f0,trivial⟩))⟩
theorem Abt(p0:Am){g0_0:Nat}{gm0_0:Nat}{gm0_1:Nat}{K:List Ent}{U0:Option Addr}{E0:Nat}(ha0:Has K U0 p0.v.length E0 4 Ak p0.v){r:Am × List Ac}(hx:Hz p0=some r):CtK prog 185 [.pointer (some ⟨g0_0,0,none⟩)] K [.m g0_0 156 [.slice U0 p0.v.length E0,.map (some gm0_0),.map (some gm0_1)],Ba prog 103 Ao Cl gm0_0 p0.apex,Ba prog 103 Ao Ce gm0_1 p0.fixed] fun v Ln=>∃ (A0:Option Addr) (c0:Nat) (A2:Option Addr) (c2:Nat),v = .slice A2 r.2.length c2/\Ln=[.m g0_0 156 [.slice A0 r.1.v.length c0,.map (some gm0_0),.map (some gm0_1)],Ba prog 103 Ao Cl gm0_0 r.1.apex,Ba prog 103 Ao Ce gm0_1 r.1.fixed,.r A2 r.2.length c2 103 2 (r.2.flatMap Ar)]/\Has (K++[]) A0 r.1.v.length c0 4 Ak r.1.v/\True:=by
 have ha0':=Has.up0 ha0;refine CtK.mk 49 func185 rfl ntmps185 kr rfl ?_;intro Lf hKf;show T 49 _ [(0,.pointer (some ⟨g0_0,0,none⟩))] ([.m g0_0 156 [.slice U0 p0.v.length E0,.map (some gm0_0),.map (some gm0_1)],Ba prog 103 Ao Cl gm0_0 p0.apex,Ba prog 103 Ao Ce gm0_1 p0.fixed]++Lf);unfold Hz at hx;refine Y10 ?_;refine Tj (γ:=Option Addr × Nat) hx (fun s3 y3=>[(0,.pointer (some ⟨g0_0,0,none⟩)),(3,.slice y3.1 s3.length y3.2)]) (fun s3 y3=>[.r y3.1 s3.length y3.2 103 2 (s3.flatMap Ar),.m g0_0 156 [.slice U0 p0.v.length E0,.map (some gm0_0),.map (some gm0_1)],Ba prog 103 Ao Cl gm0_0 p0.apex,Ba prog 103 Ao Ce gm0_1 p0.fixed]++Lf) (fun s3 y3=>True) (fun s3 y3 hx0 hG0=>?_) (fun j3 hx=>?_)
 ·refine Y3 ?_;obtain⟨h0,hx1⟩:=Bo hx0;refine T_h (Acy (p:=Sr) (arg:=fun x=>.agg #[iq x.a0,iq x.a1]) (cf:=cmp2) s3 (by exact⟨_,func176,rfl,rfl⟩) (fun w hok hcm=>Ae4 s3 h0.1 h0.2 w hok hcm ⟨_,func177,rfl,rfl⟩) (fun ys=>[.r y3.1 s3.length y3.2 103 2 ys,.m g0_0 156 [.slice U0 p0.v.length E0,.map (some gm0_0),.map (some gm0_1)],Ba prog 103 Ao Cl gm0_0 p0.apex,Ba prog 103 Ao Ce gm0_1 p0.fixed]++Lf) (fun ys=>by exact .here) (fun ys W hW x y px py=>⟨[.agg #[iq x.a0,iq x.a1],.agg #[iq y.a0,iq y.a1]],rfl,Zv x y  (Ag4 px py) W⟩) rfl rfl rfl ?_);refine Y9 ?_;have hn0:s3.length=(Bi cmp2 s3).length:=(by rw[Bx]);refine Yb (.here) (e':=.r y3.1 ((Bi cmp2 s3).length) y3.2 103 2 ((Bi cmp2 s3).flatMap Ar)) (by first | (rw[<- hn0];done) | rfl) ?_;refine Aci (s:=2) (v':=.slice y3.1 ((Bi cmp2 s3).length) y3.2) rfl (by have hn1:s3.length=(Bi cmp2 s3).length:=(by rw[Bx]);first | (rw[<- hn1];done) | rfl) ?_;obtain rfl:=Option.some.inj hx1;exact Am9 (rs:=[.tmp 2]) results185 (.tmp rfl (.nil)) (Ln:=[.m g0_0 156 [.slice U0 p0.v.length E0,.map (some gm0_0),.map (some gm0_1)],Ba prog 103 Ao Cl gm0_0 p0.apex,Ba prog 103 Ao Ce gm0_1 p0.fixed,.r y3.1 ((Bi cmp2 s3).length) y3.2 103 2 ((Bi cmp2 s3).flatMap Ar)]) ⟨U0,E0,y3.1,y3.2,rfl,rfl,Has.len' ha0',trivial⟩ (by exact .pick 1 rfl (.pick 1 rfl (.pick 1 rfl (.pick 0 rfl (.refl)))))
 ·refine Y4 ?_;refine As (Be rfl Aaq rfl) rfl ?_;refine As (Bf rfl (i:=0) rfl rfl Ag3) rfl ?_;refine T_x (Ac2 Abg Fw underlying153 rfl (fun _=>.there (.here)) rfl (fun g1=>?_));refine Y3 ?_;refine Bb 103 2 ?_;have hn2:0=(([]:List Ac)).length:=by simp[Jq,Vr,List.length_append] <;> omega
  refine Yb (.here) (e':=.r none ((([]:List Ac)).length) 0 103 2 ((([]:List Ac)).flatMap Ar)) (by first | (rw[<- hn2];done) | rfl) ?_;refine Aip (σ:=List Ac) (γ:=(List (Ac × Int)) × (Option (Ac × Int)) × Option Addr × Nat) hx (fun y0=>y0.1) (fun s0 y0=>[(0,.pointer (some ⟨g0_0,0,none⟩)),(3,.slice y0.2.2.1 s0.length y0.2.2.2),(11,.pointer (some ⟨g1,0,none⟩))]) (fun s0 y0=>[.r y0.2.2.1 s0.length y0.2.2.2 103 2 (s0.flatMap Ar),.m g0_0 156 [.slice U0 p0.v.length E0,.map (some gm0_0),.map (some gm0_1)],rngE prog 103 Ao Cl gm0_0 g1 p0.apex y0.1 y0.2.1,Ba prog 103 Ao Ce gm0_1 p0.fixed]++Lf) (fun s0 y0=>True) (p0.apex,(none:Option (Ac × Int)),none,0) rfl trivial (by exact .cons rfl (.cons rfl (.cons rfl (.nil)))) (by exact .pick 0 rfl (.pick 0 rfl (.pick 0 rfl (.pick 0 rfl (.refl))))) ?_;intro s0 y0 hG1 hm0;replace hm0:MR _ _ y0.1 s0 r:=hm0;refine Y2 ?_;refine T_h (Afh Abg Fw Sg rfl (i:=2) (fun _ _=>.there (.there (.here))) rfl (fun hn3=>?_) (fun p27_ hp0=>?_))
  ·obtain⟨x0,hx2,ht0⟩:=MR.noneK hm0 hn3;unfold Uq at hx2;refine Y7 ?_;have hk0:=Aki ht0 hx2;refine Aay (.there (.there (.here))) ?_;refine Y2 ?_;exact Mt s0 (y0.2.2.1,y0.2.2.2) hk0 trivial (by exact .pick 0 rfl (.pick 0 rfl (.pick 0 rfl (.pick 0 rfl (.refl)))))
  ·obtain⟨x0,hx2,ht0,hn4⟩:=MR.someK hm0 hp0;unfold Pr at hx2;refine Y10 ?_;refine As (Ac3 (kv:=.agg #[iq p27_.1.a0,iq p27_.1.a1]) (vv:=iq p27_.2) rfl (i:=2) rfl rfl rfl) rfl ?_;refine Y ?_;refine T_x (Bu Anm rfl (fun g0=>?_));refine T_h (Az rfl rfl rfl (.here) (.put (.put (.done))) rfl (List.cons_ne_nil _ _) Ann.2 ?_);refine Y3 ?_;refine T_dr [0,0,0,1,0,1,0,1,0,1,0,0,0,2,2] (.q 0 (.q 1 (.q 2 (.q 3 (.q 4 (.q 5 (.q 6 (.q 7 (.q 8 (.q 9 (.q 10 (.q 11 (.q 12 (.e 13 (.e 14 (.done) (.stop)) (.stop))))))))))))))) mixed kr kr ?_;refine Y2 ?_;refine P_p rfl rfl (Be rfl Aaq rfl) rfl ?_;refine P_q rfl rfl (Bf rfl (i:=2) rfl rfl Ag3) rfl ?_;refine P_p rfl rfl (Bw rfl rfl Sp dD dD rfl) rfl ?_;refine P_q rfl rfl (Bf rfl (i:=0) rfl rfl one3) rfl ?_;refine P_p rfl rfl (Bw rfl rfl Sp dD dD rfl) rfl ?_;refine P_q rfl rfl (Bf rfl (i:=0) rfl rfl one3) rfl ?_;refine P_p rfl rfl (Ex rfl (Tk _ _)) rfl ?_;obtain⟨h1,hx3⟩:=Bo hx2;obtain⟨x1,h2,hx4⟩:=An hx3;refine P_q rfl rfl (Xs (x:=(⟨p27_.1.a1,p27_.1.a0⟩:Ac)) (i:=3) (vv:=iq x1) Abg underlying153 (fun w=>kr) Fw rfl rfl rfl rfl Aix (Aq7 ((⟨p27_.1.a1,p27_.1.a0⟩:Ac)) h1) h2 rfl) rfl ?_;refine Y3 ?_;refine P_x rfl (Ec (Ek rfl) rfl ?_) ?_;rotate_left;exact Bj;refine P_x rfl (Ec (Ek rfl) rfl ?_) ?_;rotate_left;exact Bj;refine Y2 ?_;refine Tj (γ:=Unit) hx4 (fun s1 y1=>[(0,.pointer (some ⟨g0_0,0,none⟩)),(3,.slice y0.2.2.1 s0.length y0.2.2.2),(4,.pointer (some ⟨g0,0,none⟩)),(11,.pointer (some ⟨g1,0,none⟩)),(37,.bool s1)]) (fun s1 y1=>[.m g0 103 [iq p27_.1.a0,iq p27_.1.a1],.r y0.2.2.1 s0.length y0.2.2.2 103 2 (s0.flatMap Ar),.m g0_0 156 [.slice U0 p0.v.length E0,.map (some gm0_0),.map (some gm0_1)],rngE prog 103 Ao Cl gm0_0 g1 p0.apex (mdel y0.1 p27_.1) (some p27_),Ba prog 103 Ao Ce gm0_1 p0.fixed]++Lf) (fun s1 y1=>True) (fun s1 y1 hx5 hG2=>?_) (fun j0 hx4=>?_)
   ·refine Io (s:=37) rfl (fun h3=>?_) (fun h3=>?_)
    ·have hx6:=Gp h3 hx5;refine Y3 ?_;refine As (Bw rfl rfl Sp dD dD rfl) rfl ?_;refine As (Bf rfl (i:=0) rfl rfl one3) rfl ?_;refine As (Bw rfl rfl Sp dD dD rfl) rfl ?_;refine As (Bf rfl (i:=0) rfl rfl one3) rfl ?_;obtain⟨r0,h4,hx7⟩:=An hx6;refine Tc (fun w1 hw1=>Ano p27_.1.a0 p27_.1.a1  h4 w1) ?_;refine T_x (By rfl (Vi _ _) rfl (fun g2=>?_));obtain⟨h5,hx8⟩:=Bo hx7;refine T_h (Jk Ar s0 [r0] rfl rfl rfl Ax6 (fun _=>rfl) (i':=0) rfl rfl rfl rfl h5 rfl (fun _ _=>.there (.there (.here))) (fun _ _=>.drop .refl) dD (fun A1 c1=>?_));refine Y3 ?_;exact Ys (s0++[r0]) (mdel y0.1 p27_.1,(some p27_:Option (Ac × Int)),A1,c1) hx8 hn4 hp0 rfl trivial (by exact .cons rfl (.cons rfl (.cons rfl (.nil)))) (by exact .pick 1 rfl (.pick 1 rfl (.pick 1 rfl (.pick 1 rfl (.drop 0 rfl (.refl))))))
    ·have hx9:=Kd h3 hx5;refine Y3 ?_;exact Ys s0 (mdel y0.1 p27_.1,(some p27_:Option (Ac × Int)),y0.2.2.1,y0.2.2.2) hx9 hn4 hp0 rfl trivial (by exact .cons rfl (.cons rfl (.cons rfl (.nil)))) (by exact .pick 1 rfl (.pick 1 rfl (.pick 1 rfl (.pick 1 rfl (.drop 0 rfl (.refl))))))
   ·refine Y ?_;refine As (Bw rfl rfl Sp dD dD rfl) rfl ?_;refine As (Bf rfl (i:=0) rfl rfl one3) rfl ?_;refine As (Bw rfl rfl Sp dD dD rfl) rfl ?_;refine As (Bf rfl (i:=0) rfl rfl one3) rfl ?_;refine Y2 ?_;refine Ti hx4 (s:=34) rfl (fun h6 hx38=>?_) (fun h6 hx39=>?_)
    ·refine Y4 ?_;exact Mt true () hx38 trivial (by exact .pick 0 rfl (.pick 0 rfl (.pick 0 rfl (.pick 0 rfl (.pick 0 rfl (.refl))))))
    ·refine Y4 ?_;exact Mt (!((mget p0.apex ((⟨p27_.1.a1,p27_.1.a0⟩:Ac))).isSome)) () hx39 trivial (by exact .pick 0 rfl (.pick 0 rfl (.pick 0 rfl (.pick 0 rfl (.pick 0 rfl (.refl))))))
instance mesh_builder_sides_c(p0:Am):ConK (Hz p0) prog 185 (fun g0_0 gm0_0 gm0_1 U0 E0 ua0 uc0 vs Lp=>vs=[.pointer (some ⟨g0_0,0,none⟩)]/\Lp=[.m g0_0 156 [.slice U0 p0.v.length E0,.map (some gm0_0),.map (some gm0_1)],Ba prog 103 Ao Cl gm0_0 p0.apex,Ba prog 103 Ao Ce gm0_1 p0.fixed]/\ua0=none/\uc0=0/\True) (fun U0 E0 ua0 uc0 K K2=>Has K U0 p0.v.length E0 4 Ak p0.v/\True) (fun g0_0 gm0_0 gm0_1 U0 E0 ua0 uc0 K r=>fun v Ln=>∃ A0 c0 A2 c2,v = .slice A2 r.2.length c2/\Ln=[.m g0_0 156 [.slice A0 r.1.v.length c0,.map (some gm0_0),.map (some gm0_1)],Ba prog 103 Ao Cl gm0_0 r.1.apex,Ba prog 103 Ao Ce gm0_1 r.1.fixed,.r A2 r.2.length c2 103 2 (r.2.flatMap Ar)]/\Has K A0 r.1.v.length c0 4 Ak r.1.v/\True):=⟨by
 rintro g0_0 gm0_0 gm0_1 U0 E0 _ _ K K2 _ _ r ⟨rfl,rfl,rfl,rfl,-⟩ ⟨ha0,-⟩ hx;exact CtK.wide ((Abt p0 ha0 hx).mono (by
  rintro _ _ ⟨_,_,_,_,rfl,rfl,f0,-⟩;exact⟨_,_,_,_,rfl,rfl,Has.dn0 f0,trivial⟩))⟩
theorem Yv(p0:Am){g0_0:Nat}{gm0_0:Nat}{gm0_1:Nat}{K:List Ent}{U0:Option Addr}{E0:Nat}(ha0:Has K U0 p0.v.length E0 4 Ak p0.v){r:Am × List Aj}(hx:Ep p0=some r):CtK prog 131 [.pointer (some ⟨g0_0,0,none⟩)] K [.m g0_0 156 [.slice U0 p0.v.length E0,.map (some gm0_0),.map (some gm0_1)],Ba prog 103 Ao Cl gm0_0 p0.apex,Ba prog 103 Ao Ce gm0_1 p0.fixed] fun v Ln=>∃ (A0:Option Addr) (c0:Nat) (A2:Option Addr) (c2:Nat),v = .slice A2 r.2.length c2/\Ln=[.m g0_0 156 [.slice A0 r.1.v.length c0,.map (some gm0_0),.map (some gm0_1)],Ba prog 103 Ao Cl gm0_0 r.1.apex,Ba prog 103 Ao Ce gm0_1 r.1.fixed,.r A2 r.2.length c2 101 3 (r.2.flatMap Aw)]/\Has (K++[]) A0 r.1.v.length c0 4 Ak r.1.v/\True:=by
 have ha0':=Has.up0 ha0;refine CtK.mk 39 func131 rfl ntmps131 kr rfl ?_;intro Lf hKf;show T 39 _ [(0,.pointer (some ⟨g0_0,0,none⟩))] ([.m g0_0 156 [.slice U0 p0.v.length E0,.map (some gm0_0),.map (some gm0_1)],Ba prog 103 Ao Cl gm0_0 p0.apex,Ba prog 103 Ao Ce gm0_1 p0.fixed]++Lf);unfold Ep at hx;refine Y10 ?_;refine Tj (γ:=Option Addr × Nat) hx (fun s3 y3=>[(0,.pointer (some ⟨g0_0,0,none⟩)),(3,.slice y3.1 s3.length y3.2)]) (fun s3 y3=>[.r y3.1 s3.length y3.2 101 3 (s3.flatMap Aw),.m g0_0 156 [.slice U0 p0.v.length E0,.map (some gm0_0),.map (some gm0_1)],Ba prog 103 Ao Cl gm0_0 p0.apex,Ba prog 103 Ao Ce gm0_1 p0.fixed]++Lf) (fun s3 y3=>True) (fun s3 y3 hx0 hG0=>?_) (fun j3 hx=>?_)
 ·refine Y3 ?_;obtain⟨h0,hx1⟩:=Bo hx0;refine T_h (Acy (p:=Abh) (arg:=fun x=>.agg #[iq x.a0,iq x.a1,iq x.a2]) (cf:=cmp3) s3 (by exact⟨_,func188,rfl,rfl⟩) (fun w hok hcm=>Aq8 s3 h0.1 h0.2 w hok hcm ⟨_,func189,rfl,rfl⟩) (fun ys=>[.r y3.1 s3.length y3.2 101 3 ys,.m g0_0 156 [.slice U0 p0.v.length E0,.map (some gm0_0),.map (some gm0_1)],Ba prog 103 Ao Cl gm0_0 p0.apex,Ba prog 103 Ao Ce gm0_1 p0.fixed]++Lf) (fun ys=>by exact .here) (fun ys W hW x y px py=>⟨[.agg #[iq x.a0,iq x.a1,iq x.a2],.agg #[iq y.a0,iq y.a1,iq y.a2]],rfl,Xi x y  (Ant px py) W⟩) rfl rfl rfl ?_);refine Y9 ?_;have hn0:s3.length=(Bi cmp3 s3).length:=(by rw[Bx]);refine Yb (.here) (e':=.r y3.1 ((Bi cmp3 s3).length) y3.2 101 3 ((Bi cmp3 s3).flatMap Aw)) (by first | (rw[<- hn0];done) | rfl) ?_;refine Aci (s:=2) (v':=.slice y3.1 ((Bi cmp3 s3).length) y3.2) rfl (by have hn1:s3.length=(Bi cmp3 s3).length:=(by rw[Bx]);first | (rw[<- hn1];done) | rfl) ?_;obtain rfl:=Option.some.inj hx1;exact Am9 (rs:=[.tmp 2]) results131 (.tmp rfl (.nil)) (Ln:=[.m g0_0 156 [.slice U0 p0.v.length E0,.map (some gm0_0),.map (some gm0_1)],Ba prog 103 Ao Cl gm0_0 p0.apex,Ba prog 103 Ao Ce gm0_1 p0.fixed,.r y3.1 ((Bi cmp3 s3).length) y3.2 101 3 ((Bi cmp3 s3).flatMap Aw)]) ⟨U0,E0,y3.1,y3.2,rfl,rfl,Has.len' ha0',trivial⟩ (by exact .pick 1 rfl (.pick 1 rfl (.pick 1 rfl (.pick 0 rfl (.refl)))))
 ·refine Y4 ?_;refine As (Be rfl Aaq rfl) rfl ?_;refine As (Bf rfl (i:=0) rfl rfl Ag3) rfl ?_;refine T_x (Ac2 Abg Fw underlying153 rfl (fun _=>.there (.here)) rfl (fun g1=>?_));refine Y3 ?_;refine Bb 101 3 ?_;have hn2:0=(([]:List Aj)).length:=by simp[Jq,Vr,List.length_append] <;> omega
  refine Yb (.here) (e':=.r none ((([]:List Aj)).length) 0 101 3 ((([]:List Aj)).flatMap Aw)) (by first | (rw[<- hn2];done) | rfl) ?_;refine Aip (σ:=List Aj) (γ:=(List (Ac × Int)) × (Option (Ac × Int)) × Option Addr × Nat) hx (fun y0=>y0.1) (fun s0 y0=>[(0,.pointer (some ⟨g0_0,0,none⟩)),(3,.slice y0.2.2.1 s0.length y0.2.2.2),(10,.pointer (some ⟨g1,0,none⟩))]) (fun s0 y0=>[.r y0.2.2.1 s0.length y0.2.2.2 101 3 (s0.flatMap Aw),.m g0_0 156 [.slice U0 p0.v.length E0,.map (some gm0_0),.map (some gm0_1)],rngE prog 103 Ao Cl gm0_0 g1 p0.apex y0.1 y0.2.1,Ba prog 103 Ao Ce gm0_1 p0.fixed]++Lf) (fun s0 y0=>True) (p0.apex,(none:Option (Ac × Int)),none,0) rfl trivial (by exact .cons rfl (.cons rfl (.cons rfl (.nil)))) (by exact .pick 0 rfl (.pick 0 rfl (.pick 0 rfl (.pick 0 rfl (.refl))))) ?_;intro s0 y0 hG1 hm0;replace hm0:MR _ _ y0.1 s0 r:=hm0;refine Y2 ?_;refine T_h (Afh Abg Fw Sg rfl (i:=2) (fun _ _=>.there (.there (.here))) rfl (fun hn3=>?_) (fun p19_ hp0=>?_))
  ·obtain⟨x0,hx2,ht0⟩:=MR.noneK hm0 hn3;unfold Rq at hx2;refine Y7 ?_;have hk0:=Aki ht0 hx2;refine Aay (.there (.there (.here))) ?_;refine Y2 ?_;exact Mt s0 (y0.2.2.1,y0.2.2.2) hk0 trivial (by exact .pick 0 rfl (.pick 0 rfl (.pick 0 rfl (.pick 0 rfl (.refl)))))
  ·obtain⟨x0,hx2,ht0,hn4⟩:=MR.someK hm0 hp0;unfold Lg at hx2;refine Y10 ?_;refine As (Ac3 (kv:=.agg #[iq p19_.1.a0,iq p19_.1.a1]) (vv:=iq p19_.2) rfl (i:=2) rfl rfl rfl) rfl ?_;refine Y2 ?_;refine T_x (Bu Anm rfl (fun g0=>?_));refine T_h (Az rfl rfl rfl (.here) (.put (.put (.done))) rfl (List.cons_ne_nil _ _) Ann.2 ?_);refine Y3 ?_;refine Tj (γ:=Unit) hx2 (fun s1 y1=>[(0,.pointer (some ⟨g0_0,0,none⟩)),(3,.slice y0.2.2.1 s0.length y0.2.2.2),(4,.pointer (some ⟨g0,0,none⟩)),(5,iq p19_.2),(10,.pointer (some ⟨g1,0,none⟩)),(26,.bool s1)]) (fun s1 y1=>[.m g0 103 [iq p19_.1.a0,iq p19_.1.a1],.r y0.2.2.1 s0.length y0.2.2.2 101 3 (s0.flatMap Aw),.m g0_0 156 [.slice U0 p0.v.length E0,.map (some gm0_0),.map (some gm0_1)],rngE prog 103 Ao Cl gm0_0 g1 p0.apex (mdel y0.1 p19_.1) (some p19_),Ba prog 103 Ao Ce gm0_1 p0.fixed]++Lf) (fun s1 y1=>True) (fun s1 y1 hx3 hG2=>?_) (fun j0 hx2=>?_)
   ·refine Io (s:=26) rfl (fun h1=>?_) (fun h1=>?_)
    ·have hx4:=Gp h1 hx3;refine Y3 ?_;refine As (Bw rfl rfl Sp dD dD rfl) rfl ?_;refine As (Bf rfl (i:=0) rfl rfl one3) rfl ?_;refine As (Bw rfl rfl Sp dD dD rfl) rfl ?_;refine As (Bf rfl (i:=0) rfl rfl one3) rfl ?_;refine Y ?_;refine As (Ex rfl (Gz _ _ _)) rfl ?_;refine T_x (By rfl (Wt _ _ _) rfl (fun g2=>?_));obtain⟨h2,hx5⟩:=Bo hx4;refine T_h (Jk Aw s0 [(⟨p19_.1.a0,p19_.1.a1,p19_.2⟩:Aj)] rfl rfl rfl Bcf (fun _=>rfl) (i':=0) rfl rfl rfl rfl h2 rfl (fun _ _=>.there (.there (.here))) (fun _ _=>.drop .refl) dD (fun A1 c1=>?_));refine Y3 ?_;exact Ys (s0++[(⟨p19_.1.a0,p19_.1.a1,p19_.2⟩:Aj)]) (mdel y0.1 p19_.1,(some p19_:Option (Ac × Int)),A1,c1) hx5 hn4 hp0 rfl trivial (by exact .cons rfl (.cons rfl (.cons rfl (.nil)))) (by exact .pick 1 rfl (.pick 1 rfl (.pick 1 rfl (.pick 1 rfl (.drop 0 rfl (.refl))))))
    ·have hx6:=Kd h1 hx3;refine Y3 ?_;exact Ys s0 (mdel y0.1 p19_.1,(some p19_:Option (Ac × Int)),y0.2.2.1,y0.2.2.2) hx6 hn4 hp0 rfl trivial (by exact .cons rfl (.cons rfl (.cons rfl (.nil)))) (by exact .pick 1 rfl (.pick 1 rfl (.pick 1 rfl (.pick 1 rfl (.drop 0 rfl (.refl))))))
   ·refine Y ?_;refine As (Bw rfl rfl Sp dD dD rfl) rfl ?_;refine As (Bf rfl (i:=0) rfl rfl one3) rfl ?_;refine As (Bw rfl rfl Sp dD dD rfl) rfl ?_;refine As (Bf rfl (i:=0) rfl rfl one3) rfl ?_;refine Y2 ?_;refine Ti hx2 (s:=21) rfl (fun h3 hx7=>?_) (fun h3 hx8=>?_)
    ·refine Pm rfl rfl rfl (Bw rfl rfl Sp dD dD rfl) rfl ?_;refine Pm rfl rfl rfl (Bf rfl (i:=0) rfl rfl one3) rfl ?_;refine Y4 ?_;exact Mt (decide (p19_.1.a0<p19_.2)) () hx7 trivial (by exact .pick 0 rfl (.pick 0 rfl (.pick 0 rfl (.pick 0 rfl (.pick 0 rfl (.refl))))))
    ·refine Y6 ?_;exact Mt false () hx8 trivial (by exact .pick 0 rfl (.pick 0 rfl (.pick 0 rfl (.pick 0 rfl (.pick 0 rfl (.refl))))))
instance mesh_builder_triangles_c(p0:Am):ConK (Ep p0) prog 131 (fun g0_0 gm0_0 gm0_1 U0 E0 ua0 uc0 vs Lp=>vs=[.pointer (some ⟨g0_0,0,none⟩)]/\Lp=[.m g0_0 156 [.slice U0 p0.v.length E0,.map (some gm0_0),.map (some gm0_1)],Ba prog 103 Ao Cl gm0_0 p0.apex,Ba prog 103 Ao Ce gm0_1 p0.fixed]/\ua0=none/\uc0=0/\True) (fun U0 E0 ua0 uc0 K K2=>Has K U0 p0.v.length E0 4 Ak p0.v/\True) (fun g0_0 gm0_0 gm0_1 U0 E0 ua0 uc0 K r=>fun v Ln=>∃ A0 c0 A2 c2,v = .slice A2 r.2.length c2/\Ln=[.m g0_0 156 [.slice A0 r.1.v.length c0,.map (some gm0_0),.map (some gm0_1)],Ba prog 103 Ao Cl gm0_0 r.1.apex,Ba prog 103 Ao Ce gm0_1 r.1.fixed,.r A2 r.2.length c2 101 3 (r.2.flatMap Aw)]/\Has K A0 r.1.v.length c0 4 Ak r.1.v/\True):=⟨by
 rintro g0_0 gm0_0 gm0_1 U0 E0 _ _ K K2 _ _ r ⟨rfl,rfl,rfl,rfl,-⟩ ⟨ha0,-⟩ hx;exact CtK.wide ((Yv p0 ha0 hx).mono (by
  rintro _ _ ⟨_,_,_,_,rfl,rfl,f0,-⟩;exact⟨_,_,_,_,rfl,rfl,Has.dn0 f0,trivial⟩))⟩
theorem Aks(p0:List Ad){K:List Ent}{U0:Option Addr}{E0:Nat}(ha0:Has K U0 p0.length E0 4 Ak p0){r:List Int}(hx:Vj p0=some r)(w:World)(hK:∀ e∈K,Ent.ok w e):CtL prog 127 [.slice U0 p0.length E0] w fun v Ln=>∃ (A0:Option Addr) (c0:Nat),v = .slice A0 r.length c0/\Ln=[.r A0 r.length c0 3 1 (r.flatMap Ag)]/\True:=by
 have ha0':=Has.up0 ha0;refine CtL.mk 19 func127 rfl ntmps127 kr rfl ?_;show T 19 _ [(0,.slice U0 p0.length E0)] _;unfold Vj at hx;refine Y2 ?_;refine T_x (Pn rfl rfl rfl (fun g1=>?_));refine Y8 ?_;refine Tj (γ:=Option Addr × Nat) hx (fun s3 y3=>[(1,.pointer (some ⟨g1,0,none⟩)),(3,.slice y3.1 s3.length y3.2)]) (fun s3 y3=>[.r y3.1 s3.length y3.2 3 1 (s3.flatMap Ag),.m g1 22 [.slice U0 p0.length E0]]++[.old w]) (fun s3 y3=>True) (fun s3 y3 hx0 hG0=>?_) (fun j3 hx=>?_)
 ·refine Y4 ?_;obtain⟨h0,hx1⟩:=Bo hx0;refine T_h (Acy (p:=(okIx p0)) (arg:=fun x=>iq x) (cf:=(cmpR p0)) s3 (by exact⟨_,func182,rfl,rfl⟩) (fun w hok hcm=>Aph p0 h0.2.2 s3 h0.1 h0.2.1 w hok hcm ⟨_,func183,rfl,rfl⟩) (fun ys=>[.r y3.1 s3.length y3.2 3 1 ys,.m g1 22 [.slice U0 p0.length E0]]++[.old w]) (fun ys=>by exact .here) (fun ys W hW x y px py=>⟨[iq x,iq y,.pointer (some ⟨g1,0,none⟩)],rfl,Ah3 x y p0 (Has.len' (Has.up (L:=(K++[.m g1 22 [.slice U0 p0.length E0]])) ha0' (SubE.app2 SubE.nil))) (Pt.m0 (List.mem_append_right _ List.mem_cons_self)) (Au5 p0 px py) W (Qz (K:=K) (K2:=[.m g1 22 [.slice U0 p0.length E0]]) hK (by exact (sb 2)) (by exact (sb 1)) hW)⟩) rfl rfl rfl ?_);refine Y9 ?_;have hn0:s3.length=(Bi ((cmpR p0)) s3).length:=(by rw[Bx]);refine Yb (.here) (e':=.r y3.1 ((Bi ((cmpR p0)) s3).length) y3.2 3 1 ((Bi ((cmpR p0)) s3).flatMap Ag)) (by first | (rw[<- hn0];done) | rfl) ?_;refine Aci (s:=2) (v':=.slice y3.1 ((Bi ((cmpR p0)) s3).length) y3.2) rfl (by have hn1:s3.length=(Bi ((cmpR p0)) s3).length:=(by rw[Bx]);first | (rw[<- hn1];done) | rfl) ?_;obtain rfl:=Option.some.inj hx1;exact Cz (rs:=[.tmp 2]) results127 (.tmp rfl (.nil)) (Ln:=[.r y3.1 ((Bi ((cmpR p0)) s3).length) y3.2 3 1 ((Bi ((cmpR p0)) s3).flatMap Ag)]) ⟨y3.1,y3.2,rfl,rfl,trivial⟩ (Bm rfl Co) (by exact .pick 0 rfl (.drop 0 rfl (.refl)))
 ·refine Y2 ?_;refine As (Bf rfl (i:=0) rfl rfl Yo) rfl ?_;refine As (Dn rfl 108 underlying22) rfl ?_;refine Y4 ?_;obtain⟨t0,hl0,ho0⟩:=An hx;refine Bb 3 1 ?_;have hn2:0=(([]:List Int)).length:=by simp[Jq,Vr,List.length_append] <;> omega
  refine Yb (.here) (e':=.r none ((([]:List Int)).length) 0 3 1 ((([]:List Int)).flatMap Ag)) (by first | (rw[<- hn2];done) | rfl) ?_;refine Lp (σ:=List Int × Int) (γ:=Option Addr × Nat) hl0 (fun s0 y0=>[(1,.pointer (some ⟨g1,0,none⟩)),(3,.slice y0.1 s0.1.length y0.2),(6,iq (p0.length:Int)),(7,iq s0.2)]) (fun s0 y0=>[.r y0.1 s0.1.length y0.2 3 1 (s0.1.flatMap Ag),.m g1 22 [.slice U0 p0.length E0]]++[.old w]) (fun s0 y0=>True) (none,0) trivial (by exact .pick 0 rfl (.pick 0 rfl (.refl))) ?_;intro s0 y0 hG1 x0 hx2 ht0;unfold Sx at hx2;refine Y6 ?_;refine Ti hx2 (s:=8) rfl (fun h1 hx3=>?_) (fun h1 hx4=>?_)
  ·(iterate 14 refine Y ?_);refine T_x (By rfl (Im _) rfl (fun g0=>?_));obtain⟨h2,hx5⟩:=Bo hx3;refine T_h (Jk Ag s0.1 [s0.2] rfl rfl rfl Adz (fun _=>rfl) (i':=0) rfl rfl rfl rfl h2 rfl (fun _ _=>.there (.here)) (fun _ _=>.drop .refl) dD (fun A1 c1=>?_));refine Y8 ?_;exact Rp (s0.1++[s0.2],w64 (s0.2+1)) (A1,c1) hx5 trivial (by exact .pick 0 rfl (.pick 0 rfl (.refl)))
  ·refine Y3 ?_;obtain rfl:=Gg ht0 hx4;refine Y2 ?_;exact Mt s0.1 (y0.1,y0.2) ho0 trivial (by exact .pick 0 rfl (.pick 0 rfl (.refl)))
instance mesh_ranks_c(p0:List Ad):Con (Vj p0) prog 127 (fun K vs=>∃ U0 E0,vs=[.slice U0 p0.length E0]/\Has K U0 p0.length E0 4 Ak p0/\True) (fun _ r=>fun v Ln=>∃ A0 c0,v = .slice A0 r.length c0/\Ln=[.r A0 r.length c0 3 1 (r.flatMap Ag)]/\True):=⟨by
 rintro K _ r ⟨U0,E0,rfl,ha0,-⟩ hx w hK;exact Aks p0 ha0 hx w hK⟩
instance mesh_sorted_c(p0:List Ac):Con (Vy p0) prog 125 (fun K vs=>∃ U0 E0,vs=[.slice U0 p0.length E0]/\Has K U0 p0.length E0 2 Ar p0/\True) (fun _ r=>fun v Ln=>∃ A0 c0,v = .slice A0 r.length c0/\Ln=[.r A0 r.length c0 103 2 (r.flatMap Ar)]/\True):=⟨by
 rintro K _ r ⟨U0,E0,rfl,ha0,-⟩ hx w hK;replace ha0:=Has.lo ha0 hK;unfold Vy at hx;refine CtS ntmps125 results125 ?_;try (refine pre ?_;intros;rename_i hx)
 refine Bl ?_;try (refine pre ?_;intros;rename_i hx)
 refine Bl ?_;try (refine pre ?_;intros;rename_i hx)
 apply Jr (γ:=Option Addr × Nat) hx [] (fun s3 y3 f=>(3,.slice y3.1 s3.length y3.2)::f) [999] (fun s3 y3 l=>.r y3.1 s3.length y3.2 103 2 (s3.flatMap Ar)::l);exact kk
 ·intro s3 y3 hx;exact au
 ·intro _ hx;try (refine pre ?_;intros;rename_i hx)
  refine Bb 103 2 ?_;apply Lr (γ:=Option Addr × Nat) hx [6,7] (fun s6 y6 f=>(3,.slice y6.1 s6.1.length y6.2)::(8,iq s6.2)::f) [999] (fun s6 y6 l=>.r y6.1 s6.1.length y6.2 103 2 (s6.1.flatMap Ar)::l) (_,_);exact kk;exact sk;intro s6 y6 x6 hx _;unfold Ya at hx;exact au⟩
instance:Cd prog 156 2 2:=⟨.mk underlying156 rfl rfl (show prog.info? 154=some t154 from by kernel_rfl) (show t154.size=1 from by kernel_rfl) rfl⟩
instance:OneI prog 154:=⟨.mk underlying154 rfl (show prog.info? 154=some t154 from by kernel_rfl) kr⟩
instance(x0:Int)(x1:Int)(x2:Int)(x3:Int)(x4:Int)(x5:Int)(x6:Int)(x7:Int):Pq prog 24 4 [(0,.agg #[iq x0,iq x1]),(1,.agg #[iq x2,iq x3]),(2,.agg #[iq x4,iq x5]),(3,.agg #[iq x6,iq x7])] 103 [iq x0,iq x1,iq x2,iq x3,iq x4,iq x5,iq x6,iq x7]:=⟨fun w=>kr⟩
theorem Ax7  : Gi prog 22 0 [] 108 []:=fun w=>kr
theorem Bcg:Xp prog 22 108 4 32:=⟨underlying22,⟨t108,.agg #[iq 0,iq 0,iq 0,iq 0],kr,kr,kr,kr,rfl⟩,dD⟩
instance:Aft prog 22 108 4 32:=⟨Bcg⟩
theorem Bch:Ol prog 26 [.slice none 0 0,.slice none 0 0,.slice none 0 0]:=⟨_,zeroValue26,rfl⟩
instance:Ub prog 26 [.slice none 0 0,.slice none 0 0,.slice none 0 0]:=⟨Bch⟩
instance:Kb prog 26 [] [.slice none 0 0,.slice none 0 0,.slice none 0 0]:=⟨fun w=>kr⟩
theorem Aov:Qx prog 26 3:=.mk underlying26 rfl (show prog.info? 26=some t26 from by kernel_rfl) kr
instance:AggI prog 26 3:=⟨Aov⟩
instance(x0:Option Addr)(x1:Nat)(x2:Nat)(x3:Nat)(x4:Nat):Kb prog 156 [(0,.slice x0 x1 x2),(1,.map (some x3)),(2,.map (some x4))] [.slice x0 x1 x2,.map (some x3),.map (some x4)]:=⟨fun w=>kr⟩
instance(x0:Option Addr)(x1:Nat)(x2:Nat)(x3:Option Addr)(x4:Nat)(x5:Nat)(x6:Option Addr)(x7:Nat)(x8:Nat):Kb prog 26 [(0,.slice x0 x1 x2),(1,.slice x3 x4 x5),(2,.slice x6 x7 x8)] [.slice x0 x1 x2,.slice x3 x4 x5,.slice x6 x7 x8]:=⟨fun w=>kr⟩
noncomputable def Hl(p1:List Int)(p0:Am):Int->Option (Sum Int Int):=fun s0=>
 jn (fun (s6:Bool)=>
 if s6=true then (some (.inl (w64 (s0+1))))
 else (some (.inr s0)))
 (fun j6=>if s0<(p1.length:Int) then (bnd (idx p1 0) fun x0=>
 bnd (idx p1 1) fun x1=>
 bnd (idx p1 s0) fun x2=>
 bnd (Bn p0 x0) fun r0=>
 bnd (Bn p0 x1) fun r1=>
 bnd (Bn p0 x2) fun r2=>
 bnd (Sm r0 r1 r2) fun r3=>
 j6 (decide (r3=0)))
 else (j6 false))
noncomputable def Fm(s2:Int)(p1:List Int):(List Ad × (List (Ac × Int)) × (List (Ac × Bool)) × Int)->Option (Sum (List Ad × (List (Ac × Int)) × (List (Ac × Bool)) × Int) (List Ad × (List (Ac × Int)) × (List (Ac × Bool)))):=fun s0=>
 if (w64 (s0.2.2.2+1))<s2 then (jn (fun (s1:List Ad × (List (Ac × Int)) × (List (Ac × Bool)))=>
 some (.inl (s1.1,s1.2.1,s1.2.2,w64 (s0.2.2.2+1))))
 (fun j0=>bnd (idx p1 s0.2.2.2) fun x0=>
 bnd (idx p1 (w64 (s0.2.2.2+1))) fun x1=>
 bnd (idx p1 s2) fun x2=>
 bnd (Bn (⟨s0.1,s0.2.1,s0.2.2.1⟩:Am) x0) fun r0=>
 bnd (Bn (⟨s0.1,s0.2.1,s0.2.2.1⟩:Am) x1) fun r1=>
 bnd (Bn (⟨s0.1,s0.2.1,s0.2.2.1⟩:Am) x2) fun r2=>
 bnd (Sm r0 r1 r2) fun r3=>
 if 0<r3 then (bnd (idx p1 s0.2.2.2) fun x3=>
 bnd (idx p1 (w64 (s0.2.2.2+1))) fun x4=>
 bnd (idx p1 s2) fun x5=>
 bnd (Eu (⟨s0.1,s0.2.1,s0.2.2.1⟩:Am) x3 x4 x5) fun r4=>
 j0 (r4.v,r4.apex,r4.fixed))
 else (bnd (idx p1 (w64 (s0.2.2.2+1))) fun x6=>
 bnd (idx p1 s0.2.2.2) fun x7=>
 bnd (idx p1 s2) fun x8=>
 bnd (Eu (⟨s0.1,s0.2.1,s0.2.2.1⟩:Am) x6 x7 x8) fun r5=>
 j0 (r5.v,r5.apex,r5.fixed))))
 else (some (.inr (s0.1,s0.2.1,s0.2.2.1)))
noncomputable def Dk(r0:Am × List Ac)(x0:Int):(List Ad × (List (Ac × Int)) × (List (Ac × Bool)) × Int)->Option (Sum (List Ad × (List (Ac × Int)) × (List (Ac × Bool)) × Int) (List Ad × (List (Ac × Int)) × (List (Ac × Bool)))):=fun s0=>
 if s0.2.2.2<(r0.2.length:Int) then (jn (fun (s1:List Ad × (List (Ac × Int)) × (List (Ac × Bool)))=>
 some (.inl (s1.1,s1.2.1,s1.2.2,w64 (s0.2.2.2+1))))
 (fun j0=>bnd (idx r0.2 s0.2.2.2) fun x1=>
 bnd (Bn (⟨s0.1,s0.2.1,s0.2.2.1⟩:Am) x1.a0) fun r1=>
 bnd (Bn (⟨s0.1,s0.2.1,s0.2.2.1⟩:Am) x1.a1) fun r2=>
 bnd (Bn (⟨s0.1,s0.2.1,s0.2.2.1⟩:Am) x0) fun r3=>
 bnd (Sm r1 r2 r3) fun r4=>
 if 0<r4 then (bnd (Eu (⟨s0.1,s0.2.1,s0.2.2.1⟩:Am) x1.a0 x1.a1 x0) fun r5=>
 j0 (r5.v,r5.apex,r5.fixed))
 else (j0 (s0.1,s0.2.1,s0.2.2.1))))
 else (some (.inr (s0.1,s0.2.1,s0.2.2.1)))
noncomputable def Kc(p1:List Int)(s2:Int):(List Ad × (List (Ac × Int)) × (List (Ac × Bool)) × List Int × Int)->Option (Sum (List Ad × (List (Ac × Int)) × (List (Ac × Bool)) × List Int × Int) Am):=fun s0=>
 if s0.2.2.2.2<(((p1.length-Int.toNat (w64 (s2+1)):Nat):Int)) then (jn (fun (s1:List Ad × (List (Ac × Int)) × (List (Ac × Bool)))=>
 some (.inl (s1.1,s1.2.1,s1.2.2,s0.2.2.2.1,w64 (s0.2.2.2.2+1))))
 (fun j0=>bnd (idx s0.2.2.2.1 s0.2.2.2.2) fun x0=>
 bnd (Hy (⟨s0.1,s0.2.1,s0.2.2.1⟩:Am)) fun r0=>
 bnd (lfix (Dk r0 x0) (r0.1.v,r0.1.apex,r0.1.fixed,0)) fun t0=>
 j0 t0))
 else (some (.inr (⟨s0.1,s0.2.1,s0.2.2.1⟩:Am)))
noncomputable def Lh(p0:Am)(p1:List Int):Option Am :=
 jn (fun (s2:Int)=>
 if (p1.length:Int)<=s2 then (some p0)
 else (jn (fun (s9:List Ad × (List (Ac × Int)) × (List (Ac × Bool)))=>
 gd (0<=(w64 (s2+1))/\(w64 (s2+1))<=(p1.length:Int))<|
 bnd (lfix (Kc p1 s2) (s9.1,s9.2.1,s9.2.2,subl p1 (w64 (s2+1)) (p1.length:Int),0)) fun t0=>
 some t0)
 (fun j9=>bnd (lfix (Fm s2 p1) (p0.v,p0.apex,p0.fixed,0)) fun t1=>
 j9 t1)))
 (fun j2=>bnd (lfix (Hl p1 p0) 2) fun t2=>
 j2 t2)
noncomputable def Dl  : (List Ad × (List (Ac × Int)) × (List (Ac × Bool)) × List Ac)->Option (Sum (List Ad × (List (Ac × Int)) × (List (Ac × Bool)) × List Ac) Am):=fun s0=>
 if 0<(s0.2.2.2.length:Int) then (bnd (idx s0.2.2.2 (w64 ((s0.2.2.2.length:Int)-1))) fun x0=>
 gd (0<=(w64 ((s0.2.2.2.length:Int)-1))/\(w64 ((s0.2.2.2.length:Int)-1))<=(s0.2.2.2.length:Int))<|
 gd ((-9223372036854775808<=x0.a0/\x0.a0<=9223372036854775807)/\(-9223372036854775808<=x0.a1/\x0.a1<=9223372036854775807))<|
 bnd (some ((mget s0.2.1 x0).getD 0)) fun x1=>
 gd ((-9223372036854775808<=x0.a1/\x0.a1<=9223372036854775807)/\(-9223372036854775808<=x0.a0/\x0.a0<=9223372036854775807))<|
 bnd (some ((mget s0.2.1 ((⟨x0.a1,x0.a0⟩:Ac))).getD 0)) fun x2=>
 jn (fun (s1:List Ac × Bool)=>
 if s1.2=true then (some (.inl (s0.1,s0.2.1,s0.2.2.1,s1.1)))
 else (bnd (Jc (⟨s0.1,s0.2.1,s0.2.2.1⟩:Am) x0.a0 x0.a1) fun r0=>
 if r0.2=true then (bnd (Qs x0.a0 x1) fun r1=>
 bnd (Qs x1 x0.a1) fun r2=>
 bnd (Qs x0.a1 x2) fun r3=>
 bnd (Qs x2 x0.a0) fun r4=>
 gd ((s1.1.length+4)*16<=140737488355328)<|
 some (.inl (r0.1.v,r0.1.apex,r0.1.fixed,s1.1++[r1,r2,r3,r4])))
 else (some (.inl (r0.1.v,r0.1.apex,r0.1.fixed,s1.1)))))
 (fun j0=>if ((mget s0.2.1 x0).isSome)=true then (if ((mget s0.2.1 ((⟨x0.a1,x0.a0⟩:Ac))).isSome)=true then (gd ((-9223372036854775808<=x0.a0/\x0.a0<=9223372036854775807)/\(-9223372036854775808<=x0.a1/\x0.a1<=9223372036854775807))<|
 bnd (some ((mget s0.2.2.1 x0).getD false)) fun x3=>
 if x3=true then (j0 (List.take (Int.toNat (w64 ((s0.2.2.2.length:Int)-1))) s0.2.2.2,true))
 else (bnd (Bn (⟨s0.1,s0.2.1,s0.2.2.1⟩:Am) x0.a0) fun r5=>
 bnd (Bn (⟨s0.1,s0.2.1,s0.2.2.1⟩:Am) x0.a1) fun r6=>
 bnd (Bn (⟨s0.1,s0.2.1,s0.2.2.1⟩:Am) x1) fun r7=>
 bnd (Bn (⟨s0.1,s0.2.1,s0.2.2.1⟩:Am) x2) fun r8=>
 bnd (Vn r5 r6 r7 r8) fun r9=>
 j0 (List.take (Int.toNat (w64 ((s0.2.2.2.length:Int)-1))) s0.2.2.2,r9)))
 else (j0 (List.take (Int.toNat (w64 ((s0.2.2.2.length:Int)-1))) s0.2.2.2,true)))
 else (j0 (List.take (Int.toNat (w64 ((s0.2.2.2.length:Int)-1))) s0.2.2.2,true))))
 else (some (.inr (⟨s0.1,s0.2.1,s0.2.2.1⟩:Am)))
noncomputable def Jn(p0:Am):Option Am :=
 bnd (Hz p0) fun r1=>
 bnd (lfix Dl (r1.1.v,r1.1.apex,r1.1.fixed,r1.2)) fun t0=>
 some t0
noncomputable def Ou(p0:List Ad):Option (List Ad):=gd (p0.length*32<=140737488355328) <| some p0
theorem Adr(p0:List Ad){K:List Ent}{U0:Option Addr}{E0:Nat}(ha0:Has K U0 p0.length E0 4 Ak p0){r:List Ad}(hx:Ou p0=some r)(w:World)(hK:∀ e∈K,Ent.ok w e):
  CtL prog 130 [.slice U0 p0.length E0] w (fun v Ln=>∃ (A0:Option Addr) (c0:Nat),v = .slice A0 r.length c0/\Ln=[.r A0 r.length c0 108 4 (r.flatMap Ak)]/\True):=by
 obtain⟨hb,hx⟩:=Bo hx;obtain rfl:=Option.some.inj hx;have ha:Has [.old w] U0 p0.length E0 4 Ak p0:=Has.low (E:=[]) (by rw[List.append_nil];exact ha0) hK;refine CtL.mk 8 func130 rfl ntmps130 kr rfl ?_;show T 8 _ [(0,.slice U0 p0.length E0)] _;refine Y9 ?_;refine As (Agh underlying22 rfl rfl) rfl ?_;refine Y2 ?_;cases hA:U0 with
 | none=>
  subst hA;have h0:p0=[]:=by
   cases p0 with
   | nil=>rfl
   | cons x r=>obtain⟨b,o,h,_⟩:=ha.at_ (by simp);cases h
  subst h0;refine Y8 ?_;refine Bb 108 4 ?_;exact Cz (rs:=[.tmp 2]) results130 (.tmp rfl .nil) (Ln:=[.r none 0 0 108 4 []]) ⟨none,0,rfl,rfl,trivial⟩ (Bm rfl Co) (.pick 0 rfl (.pick 0 rfl .refl))
 | some a=>
  subst hA;refine Y5 ?_;refine T_x (By rfl Ax7 rfl (fun g5=>?_));refine Y ?_;refine T_mr (enc:=Ak) (sz:=4) (([]:List Ad)) (.here) rfl rfl (fun _=>rfl) dD ?_;refine T_h (Tq Ak ([]:List Ad) p0 rfl rfl Bcg (fun _=>rfl) ha (sb 1) (fun _=>rfl) (by rw[List.length_nil,Nat.zero_add];exact hb) rfl (fun _ _=>.here) dD (fun A1 c1=>?_));refine Y4 ?_;exact Cz (rs:=[.tmp 2]) results130 (.tmp rfl .nil) (Ln:=[.r A1 p0.length c1 108 4 (p0.flatMap Ak)]) ⟨A1,c1,rfl,rfl,trivial⟩ (Bm rfl Co) (.pick 0 rfl (.pick 0 rfl .refl))
instance(p0:List Ad):Con (Ou p0) prog 130 (fun K vs=>∃ U0 E0,vs=[.slice U0 p0.length E0]/\Has K U0 p0.length E0 4 Ak p0/\True) (fun _ r=>fun v Ln=>∃ A0 c0,v = .slice A0 r.length c0/\Ln=[.r A0 r.length c0 108 4 (r.flatMap Ak)]/\True):=⟨by rintro K _ r ⟨A,c,rfl,ha,-⟩ hx w hK;exact Adr p0 ha hx w hK⟩
structure Aq where
 V:List Ad
 T:List Aj
 Lines:List Ac
noncomputable def Ur(r0:List Ac):Unit->Option (Sum Unit Unit):=fun s0=>
 if 0<(r0.length:Int) then (bnd (idx r0 0) fun x0=>
 none)
 else (some (.inr ()))
noncomputable def Rr(p0:List Ad)(p1:List Ac):Option (Aq × Int):=
 bnd (Tg p0) fun r2=>
 if r2=0 then (bnd (Qo p0 p1) fun r8=>
 if r8=0 then (bnd (Vy p1) fun r0=>
 bnd (Vj p0) fun r1=>
 bnd (Lh (⟨p0,([]:List (Ac × Int)),([]:List (Ac × Bool))⟩:Am) r1) fun r3=>
 jn (fun (s0:List Ad × (List (Ac × Int)) × (List (Ac × Bool)))=>
 bnd (Ou p0) fun r4=>
 bnd (Ep (⟨s0.1,s0.2.1,s0.2.2⟩:Am)) fun r5=>
 some ((⟨r4,r5.2,r0⟩:Aq),0))
 (fun j0=>if 0<((r3.apex.length:Int)) then (jn (fun (s1:Unit)=>
 bnd (Jn r3) fun r6=>
 j0 (r6.v,r6.apex,r6.fixed))
 (fun j1=>bnd (lfix (Ur r0) ()) fun t0=>
 j1 t0))
 else (j0 (r3.v,r3.apex,r3.fixed))))
 else (some ((⟨([]:List Ad),([]:List Aj),([]:List Ac)⟩:Aq),r8)))
 else (some ((⟨([]:List Ad),([]:List Aj),([]:List Ac)⟩:Aq),r2))
instance mesh_builder_sweep_c(p0:Am)(p1:List Int):ConK (Lh p0 p1) prog 126 (fun g0_0 gm0_0 gm0_1 U0 E0 U1 E1 vs Lp=>vs=[.pointer (some ⟨g0_0,0,none⟩),.slice U1 p1.length E1]/\Lp=[.m g0_0 156 [.slice U0 p0.v.length E0,.map (some gm0_0),.map (some gm0_1)],Ba prog 103 Ao Cl gm0_0 p0.apex,Ba prog 103 Ao Ce gm0_1 p0.fixed]/\True) (fun U0 E0 U1 E1 K K2=>Has K U0 p0.v.length E0 4 Ak p0.v/\Has K2 U1 p1.length E1 1 Ag p1/\True) (fun g0_0 gm0_0 gm0_1 U0 E0 U1 E1 K r=>fun v Ln=>∃ A0 c0,v = .tuple #[]/\Ln=[.m g0_0 156 [.slice A0 r.v.length c0,.map (some gm0_0),.map (some gm0_1)],Ba prog 103 Ao Cl gm0_0 r.apex,Ba prog 103 Ao Ce gm0_1 r.fixed]/\Has K A0 r.v.length c0 4 Ak r.v/\True):=⟨by
 rintro g0_0 gm0_0 gm0_1 U0 E0 U1 E1 K K2 _ _ r ⟨rfl,rfl,-⟩ ⟨ha0,ha1,-⟩ hx;unfold Lh at hx;have:=dl 1 [0,0,0,0,0,0,0,0,1,2,0,0,0,1,2,0,0,0,0,1,2,2,0,0] [0,1,2,3,4,5,6,7,8,10,11,12,13,15,16,17,18,19,9,14,20,21,22,23];have:=dl 7 [0,0,0,0,1,2,0,0,0,0,0,1,2,0,0,0,0,1,2,2,0] [0,1,2,3,4,6,7,8,9,10,11,13,14,15,16,17,5,12,18,19,20];have:=dl 8 [0,0,0,0,1,0,0,0,0,1,0,0,0,1,3] [0,1,2,3,4,5,6,7,8,9,10,11,12,13,14];have:=dl 9 [0,0,0,0,0,1,0,0,0,1,0,0,0,1,3] [0,1,2,3,4,5,6,7,8,9,10,11,12,13,14];have:=dl 16 [0,0,1,2,0,0,1,2,0,0,2,2,0] [0,1,2,4,5,6,8,9,3,7,10,11,12];refine CtSK ntmps126 results126 ?_;intro Lf hKf;have hKg:=hKf.r;replace hKf:=hKf.l;refine Aa9 ?_;try (refine pre ?_;intros;rename_i hx)
 refine Bl ?_;try (refine pre ?_;intros;rename_i hx)
 apply Jr (γ:=Unit) hx [0,1] (fun s2 y2 f=>(4,iq s2)::f) [0,1,2,1003] (fun s2 y2 l=>l);exact kk
 ·intro s2 y2 hx;try (refine pre ?_;intros;rename_i hx)
  refine Cq1e (s:=39) hx rfl cQ (fun _ hx=>?_) (fun _ hx=>?_)
  ·exact au
  ·try (refine pre ?_;intros;rename_i hx)
   apply JrG (γ:=Option Addr × Nat) hx [0,1,4] (fun s9 y9 f=>f) [1003] (fun s9 y9 l=>.m g0_0 156 [.slice y9.1 s9.1.length y9.2,.map (some gm0_0),.map (some gm0_1)]::Ba prog 103 Ao Cl gm0_0 s9.2.1::Ba prog 103 Ao Ce gm0_1 s9.2.2::l) (fun s9 y9=>Has K y9.1 s9.1.length y9.2 4 Ak s9.1/\True);exact kk
   ·intro s9 y9 hx hG;obtain⟨_,-⟩:=hG;try (refine pre ?_;intros;rename_i hx)
    apply LrG (γ:=Option Addr × Nat × Option Addr × Nat) hx [0,101] (fun s0 y0 f=>(100,.slice y0.2.2.1 s0.2.2.2.1.length y0.2.2.2)::(102,iq s0.2.2.2.2)::f) [1003] (fun s0 y0 l=>.m g0_0 156 [.slice y0.1 s0.1.length y0.2.1,.map (some gm0_0),.map (some gm0_1)]::Ba prog 103 Ao Cl gm0_0 s0.2.1::Ba prog 103 Ao Ce gm0_1 s0.2.2.1::l) (fun s0 y0=>Has K y0.1 s0.1.length y0.2.1 4 Ak s0.1/\Has K2 y0.2.2.1 s0.2.2.2.1.length y0.2.2.2 1 Ag s0.2.2.2.1/\True) (_,_,_,_);exact kk;exact sF2;exact gG;exact pK2;intro s0 y0 x0 hx _ hG;obtain⟨_,_,-⟩:=hG;unfold Kc at hx;try (refine pre ?_;intros;rename_i hx)
    refine Cq1e (s:=103) hx rfl cQ (fun _ hx=>?_) (fun _ hx=>?_)
    ·try (refine pre ?_;intros;rename_i hx)
     apply JrG (γ:=Option Addr × Nat) hx [0,100,101,102] (fun s1 y1 f=>f) [1003] (fun s1 y1 l=>.m g0_0 156 [.slice y1.1 s1.1.length y1.2,.map (some gm0_0),.map (some gm0_1)]::Ba prog 103 Ao Cl gm0_0 s1.2.1::Ba prog 103 Ao Ce gm0_1 s1.2.2::l) (fun s1 y1=>Has K y1.1 s1.1.length y1.2 4 Ak s1.1/\True);exact kk
     ·intro s1 y1 hx hG;obtain⟨_,-⟩:=hG;exact au
     ·intro _ hx;try (refine pre ?_;intros;rename_i hx)
      apply LrG (γ:=Option Addr × Nat) hx [0,7,100,101,102,107,108] (fun s3 y3 f=>(109,iq s3.2.2.2)::f) [3,1004] (fun s3 y3 l=>.m g0_0 156 [.slice y3.1 s3.1.length y3.2,.map (some gm0_0),.map (some gm0_1)]::Ba prog 103 Ao Cl gm0_0 s3.2.1::Ba prog 103 Ao Ce gm0_1 s3.2.2.1::l) (fun s3 y3=>Has K y3.1 s3.1.length y3.2 4 Ak s3.1/\True) (_,_);exact kk;exact sF2;exact gG;exact pK2;intro s3 y3 x1 hx _ hG;obtain⟨_,-⟩:=hG;unfold Dk at hx;exact au
    ·exact au
   ·intro _ hx;try (refine pre ?_;intros;rename_i hx)
    apply LrG (γ:=Option Addr × Nat) hx [0,1,4] (fun s4 y4 f=>(5,iq s4.2.2.2)::f) [1003] (fun s4 y4 l=>.m g0_0 156 [.slice y4.1 s4.1.length y4.2,.map (some gm0_0),.map (some gm0_1)]::Ba prog 103 Ao Cl gm0_0 s4.2.1::Ba prog 103 Ao Ce gm0_1 s4.2.2.1::l) (fun s4 y4=>Has K y4.1 s4.1.length y4.2 4 Ak s4.1/\True) (_,_);exact kk;exact sF2;exact gG;exact pK2;intro s4 y4 x2 hx _ hG;obtain⟨_,-⟩:=hG;unfold Fm at hx;try (refine pre ?_;intros;rename_i hx)
    refine Cq1e (s:=43) hx rfl cQ (fun _ hx=>?_) (fun _ hx=>?_)
    ·exact au
    ·exact au
 ·intro _ hx;try (refine pre ?_;intros;rename_i hx)
  apply Lr (γ:=Unit) hx [0,1] (fun s5 y5 f=>(4,iq s5)::f) [0,1,2,1003] (fun s5 y5 l=>l) ();exact kk;exact sk;intro s5 y5 x3 hx _;unfold Hl at hx;exact au⟩
instance mesh_builder_settle_c(p0:Am):ConK (Jn p0) prog 129 (fun g0_0 gm0_0 gm0_1 U0 E0 ua0 uc0 vs Lp=>vs=[.pointer (some ⟨g0_0,0,none⟩)]/\Lp=[.m g0_0 156 [.slice U0 p0.v.length E0,.map (some gm0_0),.map (some gm0_1)],Ba prog 103 Ao Cl gm0_0 p0.apex,Ba prog 103 Ao Ce gm0_1 p0.fixed]/\ua0=none/\uc0=0/\True) (fun U0 E0 ua0 uc0 K K2=>Has K U0 p0.v.length E0 4 Ak p0.v/\True) (fun g0_0 gm0_0 gm0_1 U0 E0 ua0 uc0 K r=>fun v Ln=>∃ A0 c0,v = .tuple #[]/\Ln=[.m g0_0 156 [.slice A0 r.v.length c0,.map (some gm0_0),.map (some gm0_1)],Ba prog 103 Ao Cl gm0_0 r.apex,Ba prog 103 Ao Ce gm0_1 r.fixed]/\Has K A0 r.v.length c0 4 Ak r.v/\True):=⟨by
 rintro g0_0 gm0_0 gm0_1 U0 E0 _ _ K K2 _ _ r ⟨rfl,rfl,rfl,rfl,-⟩ ⟨ha0,-⟩ hx;unfold Jn at hx;have:=dl 4 [0,0,0,1,1,1,0,0,0,2,2] [0,1,2,3,4,5,6,7,8,9,10];have:=dl 5 [0,0,0,1,0,1,0,1,0,1,0,0,0,2,2] [0,1,2,3,4,5,6,7,8,9,10,11,12,13,14];have:=dl 6 [0,0,0,0,0,0,0,0,0,0,1,1,1,0,0,0,0,1,2,0,0,1,2,0,0,2,0,0,2,2,0] [0,1,2,3,4,5,6,7,8,9,10,11,12,13,14,15,16,17,19,20,21,23,24,26,27,18,22,25,28,29,30];have:=dl 8 [0,0,1,0,2,0,0,1,2,0,1,0,2,0,0,1,2,2,3,2] [0,1,2,3,5,6,7,9,10,11,13,14,15,4,8,12,16,17,18,19];refine CtSK ntmps129 results129 ?_;intro Lf hKf;have hKg:=hKf.r;replace hKf:=hKf.l;refine Aa9 ?_;try (refine pre ?_;intros;rename_i hx)
 apply LrG (γ:=Option Addr × Nat × Option Addr × Nat) hx [0] (fun s0 y0 f=>(2,.slice y0.2.2.1 s0.2.2.2.length y0.2.2.2)::f) [1004] (fun s0 y0 l=>.m g0_0 156 [.slice y0.1 s0.1.length y0.2.1,.map (some gm0_0),.map (some gm0_1)]::Ba prog 103 Ao Cl gm0_0 s0.2.1::Ba prog 103 Ao Ce gm0_1 s0.2.2.1 :: .r y0.2.2.1 s0.2.2.2.length y0.2.2.2 103 2 (s0.2.2.2.flatMap Ar)::l) (fun s0 y0=>Has K y0.1 s0.1.length y0.2.1 4 Ak s0.1/\True) (_,_,_,_);exact kk;exact sF2;exact gG;exact pK2;intro s0 y0 x0 hx _ hG;obtain⟨_,-⟩:=hG;unfold Dl at hx;try (refine pre ?_;intros;rename_i hx)
 refine Cq1e (s:=12) hx rfl cQ (fun _ hx=>?_) (fun _ hx=>?_)
 ·try (refine pre ?_;intros;rename_i hx)
  refine Bl ?_;try (refine pre ?_;intros;rename_i hx)
  apply Jr (γ:=Option Addr × Nat) hx [0,3,4,6] (fun s1 y1 f=>(2,.slice y1.1 s1.1.length y1.2)::(76,.bool s1.2)::f) [0,1,2,3,1005] (fun s1 y1 l=>.r y1.1 s1.1.length y1.2 103 2 (s1.1.flatMap Ar)::l);exact kk
  ·intro s1 y1 hx;exact au
  ·intro _ hx;try (refine pre ?_;intros;rename_i hx)
   refine (Cb4 (s:=48) hx rfl (fun _ hx=>?_) (fun _ hx=>?_)) ⟨_,_,rfl,rfl⟩
   ·try (refine pre ?_;intros;rename_i hx)
    (with_reducible apply Xz 2);exact rfl;exact aT;(with_reducible assumption);exact rfl;exact (fun _=>rfl);exact sA
    exact au
   ·try (refine pre ?_;intros;rename_i hx)
    refine (Cb4 (s:=52) hx rfl (fun _ hx=>?_) (fun _ hx=>?_)) ⟨_,_,rfl,rfl⟩
    ·try (refine pre ?_;intros;rename_i hx)
     (with_reducible apply Xz 2);exact rfl;exact aT;(with_reducible assumption);exact rfl;exact (fun _=>rfl);exact sA
     exact au
    ·try (refine pre ?_;intros;rename_i hx)
     refine (Cb3 (s:=60) hx rfl (fun _ hx=>?_) (fun _ hx=>?_)) ⟨_,_,rfl,rfl⟩
     ·try (refine pre ?_;intros;rename_i hx)
      (with_reducible apply Xz 2);exact rfl;exact aT;(with_reducible assumption);exact rfl;exact (fun _=>rfl);exact sA
      exact au
     ·try (refine pre ?_;intros;rename_i hx)
      (with_reducible apply Xz 2);exact rfl;exact aT;(with_reducible assumption);exact rfl;exact (fun _=>rfl);exact sA
      exact au
 ·exact au⟩
instance mesh_Build_c(p0:List Ad)(p1:List Ac):Con (Rr p0 p1) prog 71 (fun K vs=>∃ U0 E0 U1 E1,vs=[.slice U0 p0.length E0,.slice U1 p1.length E1]/\Has K U0 p0.length E0 4 Ak p0/\Has K U1 p1.length E1 2 Ar p1/\True) (fun _ r=>fun v Ln=>∃ A0 c0 A2 c2 A4 c4,v = .tuple #[.agg #[.slice A0 r.1.V.length c0,.slice A2 r.1.T.length c2,.slice A4 r.1.Lines.length c4],iq r.2]/\Ln=[.r A0 r.1.V.length c0 108 4 (r.1.V.flatMap Ak),.r A2 r.1.T.length c2 101 3 (r.1.T.flatMap Aw),.r A4 r.1.Lines.length c4 103 2 (r.1.Lines.flatMap Ar)]/\True):=⟨by
 rintro K _ r ⟨U0,E0,U1,E1,rfl,ha0,ha1,-⟩ hx w hK;replace ha0:=Has.lo ha0 hK;replace ha1:=Has.lo ha1 hK;unfold Rr at hx;refine CtS ntmps71 results71 ?_;try (refine pre ?_;intros;rename_i hx)
 refine Cq2 (s:=15) hx rfl (fun _ hx=>?_) (fun _ hx=>?_)
 ·exact au
 ·try (refine pre ?_;intros;rename_i hx)
  refine Cq2 (s:=22) hx rfl (fun _ hx=>?_) (fun _ hx=>?_)
  ·exact au
  ·try (refine pre ?_;intros;rename_i hx)
   apply JrG (γ:=Option Addr × Nat × Nat × Nat × Nat) hx [0,4,9] (fun s13 y13 f=>(8,.pointer (some ⟨y13.2.2.2.2,0,none⟩))::f) [3,4,5,999] (fun s13 y13 l=>.m y13.2.2.2.2 156 [.slice y13.1 s13.1.length y13.2.1,.map (some y13.2.2.1),.map (some y13.2.2.2.1)]::Ba prog 103 Ao Cl y13.2.2.1 s13.2.1::Ba prog 103 Ao Ce y13.2.2.2.1 s13.2.2::l) (fun s13 y13=>Has ([.old w]:List Ent) y13.1 s13.1.length y13.2.1 4 Ak s13.1/\True);exact kk
   ·intro s13 y13 hx hG;obtain⟨_,-⟩:=hG;exact au
   ·intro _ hx;try (refine pre ?_;intros;rename_i hx)
    refine Cq1 (s:=41) hx rfl (fun _ hx=>?_) (fun _ hx=>?_)
    ·try (refine pre ?_;intros;rename_i hx)
     apply Jr (γ:=Unit) hx [0,4,8,9] (fun s15 y15 f=>f) [0,1,2,3,4,5,999] (fun s15 y15 l=>l);exact kk
     ·intro s15 y15 hx;exact au
     ·intro _ hx;try (refine pre ?_;intros;rename_i hx)
      apply Lr (γ:=Unit) hx [0,4,8,9,42,43,44] (fun s55 y55 f=>f) [0,1,2,3,4,5,999] (fun s55 y55 l=>l) ();exact kk;exact sk;intro s55 y55 x55 hx _;unfold Ur at hx;exact au
    ·exact au⟩
noncomputable def Rs(p0:Aa)(p1:Aa):Option Int :=
 some (w64 (p0.Id-p1.Id))
instance Agu(p0:Aa)(p1:Aa):Con (Rs p0 p1) prog 153 (fun _ vs=>vs=[.agg #[iq p0.Id,iq p0.X,iq p0.Y,iq p0.Z.Lo,iq p0.Z.Hi,iq p0.Wide,iq p0.Num,iq p0.Of,iq p0.Class],.agg #[iq p1.Id,iq p1.X,iq p1.Y,iq p1.Z.Lo,iq p1.Z.Hi,iq p1.Wide,iq p1.Num,iq p1.Of,iq p1.Class]]) (fun _ r=>fun v Ln=>v = iq r/\Ln=[]/\True):=⟨by
 rintro _ _ r rfl hx w hK;unfold Rs at hx;refine CtS ntmps153 results153 ?_;exact au⟩
theorem Afy(p0:Aa)(p1:Aa){r:Int}(hx:Rs p0 p1=some r)(w:World):CtL prog 153 [.agg #[iq p0.Id,iq p0.X,iq p0.Y,iq p0.Z.Lo,iq p0.Z.Hi,iq p0.Wide,iq p0.Num,iq p0.Of,iq p0.Class],.agg #[iq p1.Id,iq p1.X,iq p1.Y,iq p1.Z.Lo,iq p1.Z.Hi,iq p1.Wide,iq p1.Num,iq p1.Of,iq p1.Class]] w fun v Ln=>v = iq r/\Ln=[]/\True:=(Agu p0 p1).h [] _ _ rfl hx w (fun _ h=>absurd h List.not_mem_nil)
end Go.Proofs.YthlkpgdfifnagaaGreat
namespace Go.Proofs.YthlkpgdfifnagaaGreat
open Go Go.RowKit Go.Shelf Go.Lib Go.Sort Tryz
def Alp(l:List Aa):Prop:=(l.map (·.Id)).Nodup/\∀ x∈l,0<=x.Id/\x.Id<=1152921504606846976
def ptIn(l:List Aa)(x:Aa):Prop:=x∈l/\Alp l
noncomputable instance(l:List Aa)(x:Aa):Decidable (ptIn l x):=Classical.propDecidable _
def Vz(x y:Aa):Int:=x.Id-y.Id
theorem Aqt{l:List Aa}(h:(l.map (·.Id)).Nodup){x y:Aa}(hx:x∈l)(hy:y∈l)(e:x.Id=y.Id):x=y:=by
 obtain⟨i,hi,rfl⟩:=List.getElem_of_mem hx;obtain⟨j,hj,rfl⟩:=List.getElem_of_mem hy;have:=List.pairwise_iff_getElem.1 (List.pairwise_map.1 h);rcases Nat.lt_trichotomy i j with g | g | g
 ·exact absurd e (this i j hi hj g)
 ·subst g;rfl
 ·exact absurd e.symm (this j i hj hi g)
theorem totP(l:List Aa):Aat (ptIn l) Vz where
 irr x _:=by unfold Vz;omega
 trans x y z _ _ _ h1 h2:=by unfold Vz at *;omega
 tot x y hx hy h1 h2:=Aqt hx.2.1 hx.1 hy.1 (by unfold Vz at h1 h2;omega)
theorem Aqu{l:List Aa}{x y:Aa}(hx:ptIn l x)(hy:ptIn l y):Rs x y=some (Vz x y):=by
 have h1:=hx.2.2 x hx.1;have h2:=hy.2.2 y hy.1;unfold Rs Vz;rw[Av oo oo]
theorem Aqv(l:List Aa)(hb:l.length<=1000000000)(hp:∀ x∈l,ptIn l x){A:Option Addr}{m c:Nat}{t:TypeId}{gf:Nat}{cb:Array Value}(w:World)(hok:Ent.ok w (.r A m c t 9 (l.flatMap Ai)))(hcmp:Ad2 prog (ptIn l) Vz (fun x=>.agg #[iq x.Id,iq x.X,iq x.Y,iq x.Z.Lo,iq x.Z.Hi,iq x.Wide,iq x.Num,iq x.Of,iq x.Class]) A m c t 9 gf cb w (l.flatMap Ai))(eg:Wk prog gf):Ad1 prog 60 A m c t 9 gf cb w (l.flatMap Ai) ((Bi Vz l).flatMap Ai):=
 Afb (ρ:=Tryz.laysSortP_ren) Tryz.laysSortP (k:=9) isAgg30 sizeOf30 (enc:=Ai) (fun _=>rfl) dD (fun x v hv=>by simp[Ai] at hv;rcases hv with rfl | rfl | rfl | rfl | rfl | rfl | rfl | rfl | rfl <;> rfl) (totP l) (Adk eg) l hb hp w hok hcmp
end Go.Proofs.YthlkpgdfifnagaaGreat
namespace Go.Proofs.YthlkpgdfifnagaaGreat
open Go Go.RowKit Tryz
instance:Ub prog 295 [iq 0,iq 0,iq 0]:=⟨⟨_,zeroValue295,rfl⟩⟩
instance:Cd prog 295 0 0:=⟨.mk underlying295 rfl rfl (show prog.info? 3=some Tryz.t3 from by kernel_rfl) (show Tryz.t3.size=1 from by kernel_rfl) rfl⟩
instance:Cd prog 295 1 1:=⟨.mk underlying295 rfl rfl (show prog.info? 3=some Tryz.t3 from by kernel_rfl) (show Tryz.t3.size=1 from by kernel_rfl) rfl⟩
instance:Cd prog 295 2 2:=⟨.mk underlying295 rfl rfl (show prog.info? 3=some Tryz.t3 from by kernel_rfl) (show Tryz.t3.size=1 from by kernel_rfl) rfl⟩
instance(x0:Int)(x1:Int)(x2:Int):Kb prog 295 [(0,iq x0),(1,iq x1),(2,iq x2)] [iq x0,iq x1,iq x2]:=⟨fun w=>kr⟩
instance:AggI prog 295 3:=⟨.mk underlying295 rfl (show prog.info? 295=some t295 from by kernel_rfl) kr⟩
noncomputable def Au(p0:Ad):Option Ab :=
 some (⟨p0.X,p0.Y⟩:Ab)
noncomputable def Fn(p0:Ab):Option Bool :=
 jn (fun (s2:Bool)=>
 some s2)
 (fun j2=>if (-268435456)<=p0.X then (if p0.X<=268435456 then (if (-268435456)<=p0.Y then (j2 (decide (p0.Y<=268435456)))
 else (j2 false))
 else (j2 false))
 else (j2 false))
noncomputable def Gm(p0:Ad):Option Bool :=
 jn (fun (s2:Bool)=>
 some s2)
 (fun j2=>bnd (Au p0) fun r2=>
 bnd (Fn r2) fun r5=>
 if r5=true then (if (-268435456)<=p0.Z.Lo then (if p0.Z.Lo<=p0.Z.Hi then (j2 (decide (p0.Z.Hi<=268435456)))
 else (j2 false))
 else (j2 false))
 else (j2 false))
noncomputable def Gn(p0:Ab)(p1:Ab):Option Bool :=
 jn (fun (s2:Bool)=>
 some s2)
 (fun j2=>if p0.X<p1.X then (j2 true)
 else (if p0.X=p1.X then (j2 (decide (p0.Y<p1.Y)))
 else (j2 false)))
noncomputable def Se(p0:Ab)(p1:Ab)(p2:Ab):Option Int :=
 some (w64 ((w64 ((w64 (p1.X-p0.X))*(w64 (p2.Y-p0.Y))))-(w64 ((w64 (p1.Y-p0.Y))*(w64 (p2.X-p0.X))))))
noncomputable def Ji(p0:Int):Option Int :=
 if p0<0 then (some (-1))
 else (if 0<p0 then (some 1)
 else (some 0))
noncomputable def Ef(p0:Ab)(p1:Ab)(p2:Ab):Option Int :=
 bnd (Se p0 p1 p2) fun r4=>
 bnd (Ji r4) fun r7=>
 some r7
structure Cv where
 high:Int
 middle:Int
 low:Int
noncomputable def Ff(p0:Cv)(p1:Int)(p2:Int):Option Cv :=
 some (⟨w64 (p0.high+(w64 ((shr_ .i64 p1 30)*(shr_ .i64 p2 30)))),w64 ((w64 (p0.middle+(w64 ((shr_ .i64 p1 30)*(Ch .i64 p2 1073741823)))))+(w64 ((Ch .i64 p1 1073741823)*(shr_ .i64 p2 30)))),w64 (p0.low+(w64 ((Ch .i64 p1 1073741823)*(Ch .i64 p2 1073741823))))⟩:Cv)
noncomputable def Is(p0:Cv):Option Int :=
 if (w64 (p0.high+(shr_ .i64 (w64 (p0.middle+(shr_ .i64 p0.low 30))) 30)))=0 then (bnd (Ji (w64 ((Ch .i64 (w64 (p0.middle+(shr_ .i64 p0.low 30))) 1073741823)+(Ch .i64 p0.low 1073741823)))) fun r8=>
 some r8)
 else (bnd (Ji (w64 (p0.high+(shr_ .i64 (w64 (p0.middle+(shr_ .i64 p0.low 30))) 30)))) fun r4=>
 some r4)
noncomputable def Ng(p0:Ab)(p1:Ab)(p2:Ab)(p3:Ab):Option Int :=
 bnd (Ff (⟨0,0,0⟩:Cv) (w64 ((w64 ((w64 (p0.X-p3.X))*(w64 (p0.X-p3.X))))+(w64 ((w64 (p0.Y-p3.Y))*(w64 (p0.Y-p3.Y)))))) (w64 ((w64 ((w64 (p1.X-p3.X))*(w64 (p2.Y-p3.Y))))-(w64 ((w64 (p1.Y-p3.Y))*(w64 (p2.X-p3.X))))))) fun r6=>
 bnd (Ff r6 (w64 ((w64 ((w64 (p1.X-p3.X))*(w64 (p1.X-p3.X))))+(w64 ((w64 (p1.Y-p3.Y))*(w64 (p1.Y-p3.Y)))))) (w64 ((w64 ((w64 (p2.X-p3.X))*(w64 (p0.Y-p3.Y))))-(w64 ((w64 (p2.Y-p3.Y))*(w64 (p0.X-p3.X))))))) fun r9=>
 bnd (Ff r9 (w64 ((w64 ((w64 (p2.X-p3.X))*(w64 (p2.X-p3.X))))+(w64 ((w64 (p2.Y-p3.Y))*(w64 (p2.Y-p3.Y)))))) (w64 ((w64 ((w64 (p0.X-p3.X))*(w64 (p1.Y-p3.Y))))-(w64 ((w64 (p0.Y-p3.Y))*(w64 (p1.X-p3.X))))))) fun r0=>
 bnd (Is r0) fun r1=>
 some r1
instance Aeq(p0:Ad):Con (Au p0) prog 203 (fun _ vs=>vs=[.agg #[iq p0.X,iq p0.Y,iq p0.Z.Lo,iq p0.Z.Hi]]) (fun _ r=>fun v Ln=>v = .agg #[iq r.X,iq r.Y]/\Ln=[]/\True):=⟨by
 rintro _ _ r rfl hx w hK;unfold Au at hx;refine CtS ntmps203 results203 ?_;exact au⟩
theorem Wu(p0:Ad){r:Ab}(hx:Au p0=some r)(w:World):CtL prog 203 [.agg #[iq p0.X,iq p0.Y,iq p0.Z.Lo,iq p0.Z.Hi]] w fun v Ln=>v = .agg #[iq r.X,iq r.Y]/\Ln=[]/\True:=(Aeq p0).h [] _ _ rfl hx w (fun _ h=>absurd h List.not_mem_nil)
instance lidarref06_ValidPlace_c(p0:Ab):Con (Fn p0) prog 139 (fun _ vs=>vs=[.agg #[iq p0.X,iq p0.Y]]) (fun _ r=>fun v Ln=>v = .bool r/\Ln=[]/\True):=⟨by
 rintro _ _ r rfl hx w hK;unfold Fn at hx;refine CtS ntmps139 results139 ?_;exact au⟩
instance lidarref06_validVertex_c(p0:Ad):Con (Gm p0) prog 241 (fun _ vs=>vs=[.agg #[iq p0.X,iq p0.Y,iq p0.Z.Lo,iq p0.Z.Hi]]) (fun _ r=>fun v Ln=>v = .bool r/\Ln=[]/\True):=⟨by
 rintro _ _ r rfl hx w hK;unfold Gm at hx;refine CtS ntmps241 results241 ?_;exact au⟩
instance Ads(p0:Ab)(p1:Ab):Con (Gn p0 p1) prog 244 (fun _ vs=>vs=[.agg #[iq p0.X,iq p0.Y],.agg #[iq p1.X,iq p1.Y]]) (fun _ r=>fun v Ln=>v = .bool r/\Ln=[]/\True):=⟨by
 rintro _ _ r rfl hx w hK;unfold Gn at hx;refine CtS ntmps244 results244 ?_;exact au⟩
theorem Ach(p0:Ab)(p1:Ab){r:Bool}(hx:Gn p0 p1=some r)(w:World):CtL prog 244 [.agg #[iq p0.X,iq p0.Y],.agg #[iq p1.X,iq p1.Y]] w fun v Ln=>v = .bool r/\Ln=[]/\True:=(Ads p0 p1).h [] _ _ rfl hx w (fun _ h=>absurd h List.not_mem_nil)
instance lidarref06_Twice_c(p0:Ab)(p1:Ab)(p2:Ab):Con (Se p0 p1 p2) prog 251 (fun _ vs=>vs=[.agg #[iq p0.X,iq p0.Y],.agg #[iq p1.X,iq p1.Y],.agg #[iq p2.X,iq p2.Y]]) (fun _ r=>fun v Ln=>v = iq r/\Ln=[]/\True):=⟨by
 rintro _ _ r rfl hx w hK;unfold Se at hx;refine CtS ntmps251 results251 ?_;exact au⟩
instance lidarref06_sign_c(p0:Int):Con (Ji p0) prog 250 (fun _ vs=>vs=[iq p0]) (fun _ r=>fun v Ln=>v = iq r/\Ln=[]/\True):=⟨by
 rintro _ _ r rfl hx w hK;unfold Ji at hx;refine CtS ntmps250 results250 ?_;exact au⟩
instance lidarref06_Turn_c(p0:Ab)(p1:Ab)(p2:Ab):Con (Ef p0 p1 p2) prog 202 (fun _ vs=>vs=[.agg #[iq p0.X,iq p0.Y],.agg #[iq p1.X,iq p1.Y],.agg #[iq p2.X,iq p2.Y]]) (fun _ r=>fun v Ln=>v = iq r/\Ln=[]/\True):=⟨by
 rintro _ _ r rfl hx w hK;unfold Ef at hx;refine CtS ntmps202 results202 ?_;exact au⟩
instance lidarref06_wide_add_c(p0:Cv)(p1:Int)(p2:Int):Con (Ff p0 p1 p2) prog 299 (fun _ vs=>vs=[.agg #[iq p0.high,iq p0.middle,iq p0.low],iq p1,iq p2]) (fun _ r=>fun v Ln=>v = .agg #[iq r.high,iq r.middle,iq r.low]/\Ln=[]/\True):=⟨by
 rintro _ _ r rfl hx w hK;unfold Ff at hx;refine CtS ntmps299 results299 ?_;exact au⟩
instance lidarref06_wide_sign_c(p0:Cv):Con (Is p0) prog 300 (fun _ vs=>vs=[.agg #[iq p0.high,iq p0.middle,iq p0.low]]) (fun _ r=>fun v Ln=>v = iq r/\Ln=[]/\True):=⟨by
 rintro _ _ r rfl hx w hK;unfold Is at hx;refine CtS ntmps300 results300 ?_;exact au⟩
instance lidarref06_Circle_c(p0:Ab)(p1:Ab)(p2:Ab)(p3:Ab):Con (Ng p0 p1 p2 p3) prog 246 (fun _ vs=>vs=[.agg #[iq p0.X,iq p0.Y],.agg #[iq p1.X,iq p1.Y],.agg #[iq p2.X,iq p2.Y],.agg #[iq p3.X,iq p3.Y]]) (fun _ r=>fun v Ln=>v = iq r/\Ln=[]/\True):=⟨by
 rintro _ _ r rfl hx w hK;unfold Ng at hx;have:=dl 1 [0,1,0,1,0,0,1,0,1,0,0,1,0,1,0,0,1,0,1,0,0,1,0,1,0,0,1,0,1,0,2,2,2,2,2,2] [0,1,2,3,4,5,6,7,8,9,10,11,12,13,14,15,16,17,18,19,20,21,22,23,24,25,26,27,28,29,30,31,32,33,34,35];refine CtS ntmps246 results246 ?_;exact au⟩
noncomputable def Li(p0:Ab)(p1:Ab)(p2:Ab):Option Bool :=
 jn (fun (s2:Bool)=>
 some s2)
 (fun j2=>bnd (Ef p0 p1 p2) fun r4=>
 if r4=0 then (if (min p0.X p1.X)<=p2.X then (if p2.X<=(max p0.X p1.X) then (if (min p0.Y p1.Y)<=p2.Y then (j2 (decide (p2.Y<=(max p0.Y p1.Y))))
 else (j2 false))
 else (j2 false))
 else (j2 false))
 else (j2 false))
noncomputable def Eq(p0:List Ad):Int->Option (Sum Int (Sum Unit Int)):=fun s0=>
 if s0<(p0.length:Int) then (bnd (idx p0 s0) fun x0=>
 bnd (Gm x0) fun r0=>
 if r0=true then (some (.inl (w64 (s0+1))))
 else (some (.inr (.inr 60))))
 else (some (.inr (.inl ())))
noncomputable def Gc(s0:Int)(p0:List Ad):Int->Option (Sum Int (Sum Unit Int)):=fun s1=>
 if s1<s0 then (jn (fun (s2:Bool)=>
 if s2=true then (some (.inr (.inr 61)))
 else (some (.inl (w64 (s1+1)))))
 (fun j0=>bnd (idx p0 s0) fun x0=>
 bnd (idx p0 s1) fun x1=>
 if x0.X=x1.X then (bnd (idx p0 s0) fun x2=>
 bnd (idx p0 s1) fun x3=>
 j0 (decide (x2.Y=x3.Y)))
 else (j0 false)))
 else (some (.inr (.inl ())))
noncomputable def Dy(p0:List Ad):Int->Option (Sum Int (Sum Unit Int)):=fun s0=>
 if s0<(p0.length:Int) then (jn (fun (s1:Unit)=>
 some (.inl (w64 (s0+1))))
 (fun j0=>bnd (lfix (Gc s0 p0) 0) fun t0=>
 (match t0 with
 | (.inl z0)=>j0 z0
 | (.inr z0)=>some (.inr (.inr z0))
 )))
 else (some (.inr (.inl ())))
noncomputable def Jo(p0:List Ad):Option Int :=
 if 1024<(p0.length:Int) then (some 2)
 else (jn (fun (s5:Unit)=>
 jn (fun (s0:Unit)=>
 some 0)
 (fun j0=>bnd (lfix (Dy p0) 0) fun t0=>
 (match t0 with
 | (.inl z0)=>j0 z0
 | (.inr z0)=>some z0
 )))
 (fun j5=>bnd (lfix (Eq p0) 0) fun t1=>
 (match t1 with
 | (.inl z1)=>j5 z1
 | (.inr z1)=>some z1
 )))
noncomputable def Oi(p0:List Ad):(Int × Int)->Option (Sum (Int × Int) Int):=fun s0=>
 if s0.2<(p0.length:Int) then (jn (fun (s1:Int)=>
 some (.inl (s1,w64 (s0.2+1))))
 (fun j0=>bnd (idx p0 s0.2) fun x0=>
 bnd (idx p0 s0.1) fun x1=>
 bnd (Au x0) fun r0=>
 bnd (Au x1) fun r1=>
 bnd (Gn r0 r1) fun r2=>
 if r2=true then (j0 s0.2)
 else (j0 s0.1)))
 else (some (.inr s0.1))
noncomputable def Ov(p0:List Ad):Option Int :=
 jn (fun (s3:Int)=>
 some s3)
 (fun j3=>bnd (lfix (Oi p0) (0,0)) fun t0=>
 j3 t0)
noncomputable def Ps(p0:List Ad)(p1:Int)(p2:Bool):(Int × Int)->Option (Sum (Int × Int) Int):=fun s0=>
 if s0.2<(p0.length:Int) then (jn (fun (s1:Int)=>
 some (.inl (s1,w64 (s0.2+1))))
 (fun j0=>if s0.2=p1 then (j0 s0.1)
 else (if s0.1<0 then (j0 s0.2)
 else (bnd (idx p0 p1) fun x0=>
 bnd (idx p0 s0.1) fun x1=>
 bnd (idx p0 s0.2) fun x2=>
 bnd (Au x0) fun r0=>
 bnd (Au x1) fun r1=>
 bnd (Au x2) fun r2=>
 bnd (Ef r0 r1 r2) fun r3=>
 jn (fun (s2:Bool)=>
 if s2=true then (j0 s0.2)
 else (j0 s0.1))
 (fun j1=>if r3<0 then (j1 true)
 else (if r3=0 then (bnd (Li r0 r1 r2) fun r4=>
 j1 (!(r4 == p2)))
 else (j1 false)))))))
 else (some (.inr s0.1))
noncomputable def Qb(p0:List Ad)(p1:Int)(p2:Bool):Option Int :=
 jn (fun (s3:Int)=>
 some s3)
 (fun j3=>bnd (lfix (Ps p0 p1 p2) (-1,0)) fun t0=>
 j3 t0)
noncomputable def Pu(p0:List Ad):Int->Option (Sum Int (Sum Unit Bool)):=fun s0=>
 if s0<(p0.length:Int) then (bnd (idx p0 0) fun x0=>
 bnd (idx p0 1) fun x1=>
 bnd (idx p0 s0) fun x2=>
 bnd (Au x0) fun r0=>
 bnd (Au x1) fun r1=>
 bnd (Au x2) fun r2=>
 bnd (Ef r0 r1 r2) fun r3=>
 if r3=0 then (some (.inl (w64 (s0+1))))
 else (some (.inr (.inr false))))
 else (some (.inr (.inl ())))
noncomputable def Qc(p0:List Ad):Option Bool :=
 jn (fun (s2:Unit)=>
 some true)
 (fun j2=>bnd (lfix (Pu p0) 2) fun t0=>
 (match t0 with
 | (.inl z0)=>j2 z0
 | (.inr z0)=>some z0
 ))
instance lidarref06_between_c(p0:Ab)(p1:Ab)(p2:Ab):Con (Li p0 p1 p2) prog 242 (fun _ vs=>vs=[.agg #[iq p0.X,iq p0.Y],.agg #[iq p1.X,iq p1.Y],.agg #[iq p2.X,iq p2.Y]]) (fun _ r=>fun v Ln=>v = .bool r/\Ln=[]/\True):=⟨by
 rintro _ _ r rfl hx w hK;unfold Li at hx;refine CtS ntmps242 results242 ?_;try (refine pre ?_;intros;rename_i hx)
 refine Bl ?_;try (refine pre ?_;intros;rename_i hx)
 apply Jr (γ:=Unit) hx [] (fun s2 y2 f=>(6,.bool s2)::f) [999] (fun s2 y2 l=>l);exact kk
 ·intro s2 y2 hx;exact au
 ·intro _ hx;try (refine pre ?_;intros;rename_i hx)
  refine Cq1 (s:=12) hx rfl (fun _ hx=>?_) (fun _ hx=>?_)
  ·exact au
  ·exact au⟩
instance lidarref06_vertices_c(p0:List Ad):Con (Jo p0) prog 193 (fun K vs=>∃ U0 E0,vs=[.slice U0 p0.length E0]/\Has K U0 p0.length E0 4 Ak p0/\True) (fun _ r=>fun v Ln=>v = iq r/\Ln=[]/\True):=⟨by
 rintro K _ r ⟨U0,E0,rfl,ha0,-⟩ hx w hK;replace ha0:=Has.lo ha0 hK;unfold Jo at hx;have:=dl 15 [0,0,0,0,1,0,0,0,0,1,0,0,0,0,0,0,1,0,0,0,0,1,0,0] [0,1,2,3,4,5,6,7,8,9,10,11,12,13,14,15,16,17,18,19,20,21,22,23];refine CtS ntmps193 results193 ?_;try (refine pre ?_;intros;rename_i hx)
 refine Cq1 (s:=8) hx rfl (fun _ hx=>?_) (fun _ hx=>?_)
 ·exact au
 ·try (refine pre ?_;intros;rename_i hx)
  apply Jr (γ:=Unit) hx [0] (fun s5 y5 f=>f) [999] (fun s5 y5 l=>l);exact kk
  ·intro s5 y5 hx;apply Jr (γ:=Unit) hx [] (fun s19 y19 f=>f) [999] (fun s19 y19 l=>l);exact kk
   ·intro s19 y19 hx;exact au
   ·intro _ hx;try (refine pre ?_;intros;rename_i hx)
    apply Lr (γ:=Unit) hx [0,22] (fun s166 y166 f=>(23,iq s166)::f) [999] (fun s166 y166 l=>l) ();exact kk;exact sk;intro s166 y166 x166 hx _;unfold Dy at hx;try (refine pre ?_;intros;rename_i hx)
    refine Cq1 (s:=24) hx rfl (fun _ hx=>?_) (fun _ hx=>?_)
    ·try (refine pre ?_;intros;rename_i hx)
     apply Jr (γ:=Unit) hx [0,22,23] (fun s38 y38 f=>f) [999] (fun s38 y38 l=>l);exact kk
     ·intro s38 y38 hx;exact au
     ·intro _ hx;try (refine pre ?_;intros;rename_i hx)
      apply Lr (γ:=Unit) hx [0,4,22,23] (fun s226 y226 f=>(5,iq s226)::f) [999] (fun s226 y226 l=>l) ();exact kk;exact sk;intro s226 y226 x226 hx _;unfold Gc at hx;exact au
    ·exact au
  ·intro _ hx;try (refine pre ?_;intros;rename_i hx)
   apply Lr (γ:=Unit) hx [0,10] (fun s25 y25 f=>(11,iq s25)::f) [999] (fun s25 y25 l=>l) ();exact kk;exact sk;intro s25 y25 x25 hx _;unfold Eq at hx;exact au⟩
instance lidarref06_first_c(p0:List Ad):Con (Ov p0) prog 197 (fun K vs=>∃ U0 E0,vs=[.slice U0 p0.length E0]/\Has K U0 p0.length E0 4 Ak p0/\True) (fun _ r=>fun v Ln=>v = iq r/\Ln=[]/\True):=⟨by
 rintro K _ r ⟨U0,E0,rfl,ha0,-⟩ hx w hK;replace ha0:=Has.lo ha0 hK;unfold Ov at hx;have:=dl 5 [0,0,0,1,2,0,0,0,1,2,2] [0,1,2,3,5,6,7,8,4,9,10];refine CtS ntmps197 results197 ?_;try (refine pre ?_;intros;rename_i hx)
 refine Bl ?_;try (refine pre ?_;intros;rename_i hx)
 refine Bl ?_;try (refine pre ?_;intros;rename_i hx)
 apply Jr (γ:=Unit) hx [] (fun s3 y3 f=>(3,iq s3)::f) [999] (fun s3 y3 l=>l);exact kk
 ·intro s3 y3 hx;exact au
 ·intro _ hx;try (refine pre ?_;intros;rename_i hx)
  apply Lr (γ:=Unit) hx [0,6] (fun s0 y0 f=>(3,iq s0.1)::(7,iq s0.2)::f) [999] (fun s0 y0 l=>l) ();exact kk;exact sk;intro s0 y0 x0 hx _;unfold Oi at hx;exact au⟩
instance lidarref06_hull_c(p0:List Ad)(p1:Int)(p2:Bool):Con (Qb p0 p1 p2) prog 198 (fun K vs=>∃ U0 E0,vs=[.slice U0 p0.length E0,iq p1,.bool p2]/\Has K U0 p0.length E0 4 Ak p0/\True) (fun _ r=>fun v Ln=>v = iq r/\Ln=[]/\True):=⟨by
 rintro K _ r ⟨U0,E0,rfl,ha0,-⟩ hx w hK;replace ha0:=Has.lo ha0 hK;unfold Qb at hx;have:=dl 8 [0,0,0,1,2,0,0,0,1,2,0,0,0,1,2,4,4,4,3,3,3] [0,1,2,3,5,6,7,8,10,11,12,13,4,9,14,15,16,17,18,19,20] [15,16,17];refine CtS ntmps198 results198 ?_;try (refine pre ?_;intros;rename_i hx)
 refine Bl ?_;try (refine pre ?_;intros;rename_i hx)
 refine Bl ?_;try (refine pre ?_;intros;rename_i hx)
 apply Jr (γ:=Unit) hx [] (fun s3 y3 f=>(7,iq s3)::f) [999] (fun s3 y3 l=>l);exact kk
 ·intro s3 y3 hx;exact au
 ·intro _ hx;try (refine pre ?_;intros;rename_i hx)
  apply Lr (γ:=Unit) hx [0,1,2,14] (fun s0 y0 f=>(7,iq s0.1)::(15,iq s0.2)::f) [999] (fun s0 y0 l=>l) ();exact kk;exact sk;intro s0 y0 x0 hx _;unfold Ps at hx;try (refine pre ?_;intros;rename_i hx)
  refine Cq1 (s:=16) hx rfl (fun _ hx=>?_) (fun _ hx=>?_)
  ·try (refine pre ?_;intros;rename_i hx)
   apply Jr (γ:=Unit) hx [0,1,2,14,15] (fun s1 y1 f=>(7,iq s1)::f) [999] (fun s1 y1 l=>l);exact kk
   ·intro s1 y1 hx;exact au
   ·intro _ hx;try (refine pre ?_;intros;rename_i hx)
    refine Cq1 (s:=20) hx rfl (fun _ hx=>?_) (fun _ hx=>?_)
    ·exact au
    ·try (refine pre ?_;intros;rename_i hx)
     refine Cq1 (s:=22) hx rfl (fun _ hx=>?_) (fun _ hx=>?_)
     ·exact au
     ·try (refine pre ?_;intros;rename_i hx)
      apply Jr (γ:=Unit) hx [0,1,2,7,8,14,15] (fun s2 y2 f=>(56,.bool s2)::f) [999] (fun s2 y2 l=>l);exact kk
      ·intro s2 y2 hx;exact au
      ·intro _ hx;exact au
  ·exact au⟩
instance lidarref06_flat_c(p0:List Ad):Con (Qc p0) prog 196 (fun K vs=>∃ U0 E0,vs=[.slice U0 p0.length E0]/\Has K U0 p0.length E0 4 Ak p0/\True) (fun _ r=>fun v Ln=>v = .bool r/\Ln=[]/\True):=⟨by
 rintro K _ r ⟨U0,E0,rfl,ha0,-⟩ hx w hK;replace ha0:=Has.lo ha0 hK;unfold Qc at hx;have:=dl 4 [0,0,1,2,0,0,1,2,0,0,0,1,2,2,0] [0,1,2,4,5,6,8,9,10,11,3,7,12,13,14];refine CtS ntmps196 results196 ?_;try (refine pre ?_;intros;rename_i hx)
 refine Bl ?_;try (refine pre ?_;intros;rename_i hx)
 apply Jr (γ:=Unit) hx [] (fun s2 y2 f=>f) [999] (fun s2 y2 l=>l);exact kk
 ·intro s2 y2 hx;exact au
 ·intro _ hx;try (refine pre ?_;intros;rename_i hx)
  apply Lr (γ:=Unit) hx [0] (fun s0 y0 f=>(3,iq s0)::f) [999] (fun s0 y0 l=>l) ();exact kk;exact sk;intro s0 y0 x0 hx _;unfold Pu at hx;exact au⟩
theorem Aa5:Hj prog 26 0 0:=.mk underlying26 rfl rfl (show prog.info? 22=some Tryz.t22 from by kernel_rfl) (show Tryz.t22.size=1 from by kernel_rfl) rfl
instance:Cd prog 26 0 0:=⟨Aa5⟩
theorem Asn:Hj prog 26 1 1:=.mk underlying26 rfl rfl (show prog.info? 23=some t23 from by kernel_rfl) (show t23.size=1 from by kernel_rfl) rfl
instance:Cd prog 26 1 1:=⟨Asn⟩
theorem Bci:Vd prog 23:=.mk underlying23 rfl (show prog.info? 23=some t23 from by kernel_rfl) kr
instance:OneI prog 23:=⟨Bci⟩
instance:Cd prog 26 2 2:=⟨.mk underlying26 rfl rfl (show prog.info? 24=some t24 from by kernel_rfl) (show t24.size=1 from by kernel_rfl) rfl⟩
instance:OneI prog 24:=⟨.mk underlying24 rfl (show prog.info? 24=some t24 from by kernel_rfl) kr⟩
theorem Bd7(a0:Int)(a1:Int)(a2:Int)(a3:Int)(b0:Int)(b1:Int)(b2:Int)(b3:Int):∀ w,(Op.equalIn 10000 108 (.agg #[iq a0,iq a1,iq a2,iq a3]) (.agg #[iq b0,iq b1,iq b2,iq b3])).run prog w = .ok (((a0 == b0) && ((a1 == b1) && (((a2 == b2) && ((a3 == b3) && true)) && true)))) w :=
 EqF.struct underlying108 kr (.cons rfl (fun w=>kr) (fun w=>kr) (fun w=>run_equalIn_int w 9998 3 .i64 .i64 _ _ underlying3) (.cons rfl (fun w=>kr) (fun w=>kr) (fun w=>run_equalIn_int w 9998 3 .i64 .i64 _ _ underlying3) (.cons (a:=.agg #[iq a2,iq a3]) (b:=.agg #[iq b2,iq b3]) rfl (fun w=>kr) (fun w=>kr) (EqF.struct underlying28 kr (.cons rfl (fun w=>kr) (fun w=>kr) (fun w=>run_equalIn_int w 9997 3 .i64 .i64 _ _ underlying3) (.cons rfl (fun w=>kr) (fun w=>kr) (fun w=>run_equalIn_int w 9997 3 .i64 .i64 _ _ underlying3) EqF.nil))) EqF.nil)))
instance(a0:Int)(a1:Int)(a2:Int)(a3:Int)(b0:Int)(b1:Int)(b2:Int)(b3:Int):EqSI prog 108 [iq a0,iq a1,iq a2,iq a3] [iq b0,iq b1,iq b2,iq b3] (((a0 == b0) && ((a1 == b1) && (((a2 == b2) && ((a3 == b3) && true)) && true)))):=⟨Bd7 _ _ _ _ _ _ _ _,kr⟩
theorem Bcj:Na prog 23 101 3:=.mk underlying23 (show prog.info? 101=some t101 from by kernel_rfl) kr
instance:Pp prog 23 101 3:=⟨Bcj⟩
theorem Zr:Qx prog 101 3:=.arr underlying101 (show prog.info? 101=some t101 from by kernel_rfl) kr
instance:AggI prog 101 3:=⟨Zr⟩
theorem Bd8(a0:Int)(a1:Int)(a2:Int)(b0:Int)(b1:Int)(b2:Int):∀ w,(Op.equalIn 10000 101 (.agg #[iq a0,iq a1,iq a2]) (.agg #[iq b0,iq b1,iq b2])).run prog w = .ok (((a0 == b0) && ((a1 == b1) && ((a2 == b2) && true)))) w :=
 EqI.array (c:=1) underlying101 (show prog.info? 3=some Tryz.t3 from by kernel_rfl) kr (.cons (fun w=>kr) (fun w=>kr) (fun w=>run_equalIn_int w 9998 3 .i64 .i64 _ _ underlying3) (.cons (fun w=>kr) (fun w=>kr) (fun w=>run_equalIn_int w 9998 3 .i64 .i64 _ _ underlying3) (.cons (fun w=>kr) (fun w=>kr) (fun w=>run_equalIn_int w 9998 3 .i64 .i64 _ _ underlying3) EqI.nil)))
instance(a0:Int)(a1:Int)(a2:Int)(b0:Int)(b1:Int)(b2:Int):EqSI prog 101 [iq a0,iq a1,iq a2] [iq b0,iq b1,iq b2] (((a0 == b0) && ((a1 == b1) && ((a2 == b2) && true)))):=⟨Bd8 _ _ _ _ _ _,kr⟩
theorem Bd9(a0:Int)(a1:Int)(b0:Int)(b1:Int):∀ w,(Op.equalIn 10000 103 (.agg #[iq a0,iq a1]) (.agg #[iq b0,iq b1])).run prog w = .ok (((a0 == b0) && ((a1 == b1) && true))) w :=
 EqI.array (c:=1) underlying103 (show prog.info? 3=some Tryz.t3 from by kernel_rfl) kr (.cons (fun w=>kr) (fun w=>kr) (fun w=>run_equalIn_int w 9998 3 .i64 .i64 _ _ underlying3) (.cons (fun w=>kr) (fun w=>kr) (fun w=>run_equalIn_int w 9998 3 .i64 .i64 _ _ underlying3) EqI.nil))
instance(a0:Int)(a1:Int)(b0:Int)(b1:Int):EqSI prog 103 [iq a0,iq a1] [iq b0,iq b1] (((a0 == b0) && ((a1 == b1) && true))):=⟨Bd9 _ _ _ _,kr⟩
instance:UndI prog 23 (.slice 101):=⟨underlying23⟩
noncomputable def Er(p0:Aq)(p1:Aq):Int->Option (Sum Int (Sum Unit Bool)):=fun s0=>
 if s0<(p0.V.length:Int) then (bnd (idx p0.V s0) fun x0=>
 bnd (idx p1.V s0) fun x1=>
 if (((x0.X == x1.X) && ((x0.Y == x1.Y) && (((x0.Z.Lo == x1.Z.Lo) && ((x0.Z.Hi == x1.Z.Hi) && true)) && true))))=true then (some (.inl (w64 (s0+1))))
 else (some (.inr (.inr false))))
 else (some (.inr (.inl ())))
noncomputable def Dz(p0:Aq)(p1:Aq):Int->Option (Sum Int (Sum Unit Bool)):=fun s0=>
 if s0<(p0.T.length:Int) then (bnd (idx p0.T s0) fun x0=>
 bnd (idx p1.T s0) fun x1=>
 if (((x0.a0 == x1.a0) && ((x0.a1 == x1.a1) && ((x0.a2 == x1.a2) && true))))=true then (some (.inl (w64 (s0+1))))
 else (some (.inr (.inr false))))
 else (some (.inr (.inl ())))
noncomputable def Ja(p0:Aq):Int->Option (Sum Int Unit):=fun s0=>
 if s0<(p0.Lines.length:Int) then none
 else (some (.inr ()))
noncomputable def Jp(p0:Aq)(p1:Aq):Option Bool :=
 jn (fun (s3:Bool)=>
 if s3=true then (some false)
 else (jn (fun (s5:Unit)=>
 jn (fun (s0:Unit)=>
 jn (fun (s1:Unit)=>
 some true)
 (fun j0=>bnd (lfix (Ja p0) 0) fun t0=>
 j0 t0))
 (fun j1=>bnd (lfix (Dz p0 p1) 0) fun t1=>
 (match t1 with
 | (.inl z0)=>j1 z0
 | (.inr z0)=>some z0
 )))
 (fun j5=>bnd (lfix (Er p0 p1) 0) fun t2=>
 (match t2 with
 | (.inl z1)=>j5 z1
 | (.inr z1)=>some z1
 ))))
 (fun j3=>if (p0.V.length:Int)=(p1.V.length:Int) then (if (p0.T.length:Int)=(p1.T.length:Int) then (j3 (!(decide ((p0.Lines.length:Int)=(p1.Lines.length:Int)))))
 else (j3 true))
 else (j3 true))
instance lidarref06_SameMesh_c(p0:Aq)(p1:Aq):Con (Jp p0 p1) prog 83 (fun K vs=>∃ U0 E0 U1 E1 U2 E2 U3 E3 U4 E4 U5 E5,vs=[.agg #[.slice U0 p0.V.length E0,.slice U1 p0.T.length E1,.slice U2 p0.Lines.length E2],.agg #[.slice U3 p1.V.length E3,.slice U4 p1.T.length E4,.slice U5 p1.Lines.length E5]]/\Has K U0 p0.V.length E0 4 Ak p0.V/\Has K U1 p0.T.length E1 3 Aw p0.T/\Has K U2 p0.Lines.length E2 2 Ar p0.Lines/\Has K U3 p1.V.length E3 4 Ak p1.V/\Has K U4 p1.T.length E4 3 Aw p1.T/\Has K U5 p1.Lines.length E5 2 Ar p1.Lines/\True) (fun _ r=>fun v Ln=>v = .bool r/\Ln=[]/\True):=⟨by
 rintro K _ r ⟨U0,E0,U1,E1,U2,E2,U3,E3,U4,E4,U5,E5,rfl,ha0,ha1,ha2,ha3,ha4,ha5,-⟩ hx w hK;replace ha0:=Has.lo ha0 hK;replace ha1:=Has.lo ha1 hK;replace ha2:=Has.lo ha2 hK;replace ha3:=Has.lo ha3 hK;replace ha4:=Has.lo ha4 hK;replace ha5:=Has.lo ha5 hK;unfold Jp at hx;have:=dl 6 [0,1,0,0,1,0,1,0,0,1,0] [0,1,2,3,4,5,6,7,8,9,10];have:=dl 12 [0,1,0,0,1,0,1,0,0,1,0] [0,1,2,3,4,5,6,7,8,9,10];refine CtS ntmps83 results83 ?_;try (refine pre ?_;intros;rename_i hx)
 refine Bl ?_;try (refine pre ?_;intros;rename_i hx)
 refine Bl ?_;try (refine pre ?_;intros;rename_i hx)
 apply Jr (γ:=Unit) hx [2,3] (fun s3 y3 f=>(32,.bool s3)::f) [0,1,999] (fun s3 y3 l=>l);exact kk
 ·intro s3 y3 hx;refine Cq3 (s:=32) hx rfl (fun _ hx=>?_) (fun _ hx=>?_)
  ·exact au
  ·try (refine pre ?_;intros;rename_i hx)
   apply Jr (γ:=Unit) hx [2,3] (fun s5 y5 f=>f) [0,1,999] (fun s5 y5 l=>l);exact kk
   ·intro s5 y5 hx;apply Jr (γ:=Unit) hx [2,3] (fun s0 y0 f=>f) [0,1,999] (fun s0 y0 l=>l);exact kk
    ·intro s0 y0 hx;apply Jr (γ:=Unit) hx [] (fun s1 y1 f=>f) [999] (fun s1 y1 l=>l);exact kk
     ·intro s1 y1 hx;exact au
     ·intro _ hx;try (refine pre ?_;intros;rename_i hx)
      apply Lr (γ:=Unit) hx [2,3,71] (fun s2 y2 f=>(72,iq s2)::f) [0,1,999] (fun s2 y2 l=>l) ();exact kk;exact sk;intro s2 y2 x0 hx _;unfold Ja at hx;exact au
    ·intro _ hx;try (refine pre ?_;intros;rename_i hx)
     apply Lr (γ:=Unit) hx [2,3,53] (fun s4 y4 f=>(54,iq s4)::f) [0,1,999] (fun s4 y4 l=>l) ();exact kk;exact sk;intro s4 y4 x1 hx _;unfold Dz at hx;exact au
   ·intro _ hx;try (refine pre ?_;intros;rename_i hx)
    apply Lr (γ:=Unit) hx [2,3,35] (fun s6 y6 f=>(36,iq s6)::f) [0,1,999] (fun s6 y6 l=>l) ();exact kk;exact sk;intro s6 y6 x2 hx _;unfold Er at hx;exact au
 ·intro _ hx;exact au⟩
end Go.Proofs.YthlkpgdfifnagaaGreat
