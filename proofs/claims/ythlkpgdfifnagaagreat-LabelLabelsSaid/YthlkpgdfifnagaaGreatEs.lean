import Derived.Test.YthlkpgdfifnagaaGreatSort2
set_option maxRecDepth 100000
set_option maxHeartbeats 1000000
namespace Go.Proofs.YthlkpgdfifnagaaGreat
open Go Go.RowKit Tryz
noncomputable section
instance(x0:Int)(x1:Int):Oo prog 24 1 [(0,.agg #[iq x0,iq x1])] 103 [iq x0,iq x1]:=⟨fun w=>kr⟩
instance:Ad9 prog 24 103 2 16:=⟨⟨underlying24,⟨t103,.agg #[iq 0,iq 0],kr,kr,kr,kr,rfl⟩,dD⟩⟩
instance(x0:Int)(x1:Int)(x2:Int):Ji prog 101 [(0,iq x0),(1,iq x1),(2,iq x2)] [iq x0,iq x1,iq x2]:=⟨fun w=>kr⟩
instance(x0:Int)(x1:Int)(x2:Int):Oo prog 23 1 [(0,.agg #[iq x0,iq x1,iq x2])] 101 [iq x0,iq x1,iq x2]:=⟨fun w=>kr⟩
instance:Ad9 prog 23 101 3 24:=⟨⟨underlying23,⟨t101,.agg #[iq 0,iq 0,iq 0],kr,kr,kr,kr,rfl⟩,dD⟩⟩
instance:SrtI prog 176 177 Ar 2 (fun _=>Ua) cmp2 (fun x=>.agg #[iq x.a0,iq x.a1]):=⟨⟨_,func176,rfl,rfl⟩,fun l hb hp A m c t w hok hcm=>Arq l hb hp w hok hcm ⟨_,func177,rfl,rfl⟩,fun _ W x y px py=>⟨[.agg #[iq x.a0,iq x.a1],.agg #[iq y.a0,iq y.a1]],rfl,Akx x y (Avx px py) W⟩⟩
def Xo  : (List Ad)->Option (Sum (List Ad) (List Ad)):=fun s0=>
 some (.inr s0)
def Ta(p0:An):(List Ad)->Ad×Int->Option (Sum (List Ad) (List Ad)):=fun s0 p19_=>
 gd ((-9223372036854775808<=p19_.1.a1/\p19_.1.a1<=9223372036854775807)/\(-9223372036854775808<=p19_.1.a0/\p19_.1.a0<=9223372036854775807))<|
 bnd (some ((mget p0.apex ((⟨p19_.1.a1,p19_.1.a0⟩:Ad))).getD 0)) fun x0=>
 if ((mget p0.apex ((⟨p19_.1.a1,p19_.1.a0⟩:Ad))).isSome)=true then (some (.inl s0))
 else (gd ((s0.length+1)*16<=140737488355328)<|
 some (.inl (s0++[(⟨p19_.1.a1,p19_.1.a0⟩:Ad)])))
def Lu(p0:An):Option (An×List Ad):=
 jn (fun (s3:List Ad)=>
 gd (s3.length<=1000000000/\(∀x∈s3,Ua x))<|
 some (p0,Bf cmp2 s3))
 (fun j3=>Ali Xo (Ta p0) p0.apex ([]:List Ad) fun t0=>
 j3 t0)
def Wd  : (List Ad)->Option (Sum (List Ad) (List Ad)):=fun s0=>
 some (.inr s0)
def Qv(p0:An):(List Ad)->Ad×Int->Option (Sum (List Ad) (List Ad)):=fun s0 p27_=>
 gd ((-9223372036854775808<=p27_.1.a1/\p27_.1.a1<=9223372036854775807)/\(-9223372036854775808<=p27_.1.a0/\p27_.1.a0<=9223372036854775807))<|
 bnd (some ((mget p0.apex ((⟨p27_.1.a1,p27_.1.a0⟩:Ad))).getD 0)) fun x0=>
 jn (fun (s1:Bool)=>
 if s1=true then (bnd (Tt p27_.1.a0 p27_.1.a1) fun r0=>
 gd ((s0.length+1)*16<=140737488355328)<|
 some (.inl (s0++[r0])))
 else (some (.inl s0)))
 (fun j0=>if p27_.1.a0<p27_.1.a1 then (j0 true)
 else (j0 (!((mget p0.apex ((⟨p27_.1.a1,p27_.1.a0⟩:Ad))).isSome))))
def Ms(p0:An):Option (An×List Ad):=
 jn (fun (s3:List Ad)=>
 gd (s3.length<=1000000000/\(∀x∈s3,Ua x))<|
 some (p0,Bf cmp2 s3))
 (fun j3=>Ali Wd (Qv p0) p0.apex ([]:List Ad) fun t0=>
 j3 t0)
instance:SrtI prog 188 189 Az 3 (fun _=>Abu) cmp3 (fun x=>.agg #[iq x.a0,iq x.a1,iq x.a2]):=⟨⟨_,func188,rfl,rfl⟩,fun l hb hp A m c t w hok hcm=>Arr l hb hp w hok hcm ⟨_,func189,rfl,rfl⟩,fun _ W x y px py=>⟨[.agg #[iq x.a0,iq x.a1,iq x.a2],.agg #[iq y.a0,iq y.a1,iq y.a2]],rfl,Yj x y (Ang px py) W⟩⟩
def Tb  : (List Ah)->Option (Sum (List Ah) (List Ah)):=fun s0=>
 some (.inr s0)
def Mu  : (List Ah)->Ad×Int->Option (Sum (List Ah) (List Ah)):=fun s0 p19_=>
 jn (fun (s1:Bool)=>
 if s1=true then (gd ((s0.length+1)*24<=140737488355328)<|
 some (.inl (s0++[(⟨p19_.1.a0,p19_.1.a1,p19_.2⟩:Ah)])))
 else (some (.inl s0)))
 (fun j0=>if p19_.1.a0<p19_.1.a1 then (j0 (decide (p19_.1.a0<p19_.2)))
 else (j0 false))
def Gx(p0:An):Option (An×List Ah):=
 jn (fun (s3:List Ah)=>
 gd (s3.length<=1000000000/\(∀x∈s3,Abu x))<|
 some (p0,Bf cmp3 s3))
 (fun j3=>Ali Tb Mu p0.apex ([]:List Ah) fun t0=>
 j3 t0)
def Us(p0:List Ae):(LI×Int)->Option (Sum (LI×Int) LI):=fun s0=>
 if s0.2<(p0.length:Int) then (gd ((s0.1.length+1)*8<=140737488355328)<|
 some (.inl (s0.1++[s0.2],w64 (s0.2+1))))
 else (some (.inr s0.1))
def Wz(p0:List Ae):Option LI:=
 jn (fun (s3:LI)=>
 gd (s3.length<=1000000000/\(∀x∈s3,(okIx p0) x)/\Eu p0)<|
 some (Bf ((cmpR p0)) s3))
 (fun j3=>bnd (lfix (Us p0) (([]:LI),0)) fun t0=>
 j3 t0)
def Zn(p0:List Ad):(List Ad×Int)->Option (Sum (List Ad×Int) (List Ad)):=fun s6=>
 if s6.2<(p0.length:Int) then none
 else (some (.inr s6.1))
def Xp(p0:List Ad):Option (List Ad):=
 jn (fun (s3:List Ad)=>
 gd (s3.length<=1000000000/\(∀x∈s3,Ua x))<|
 some (Bf cmp2 s3))
 (fun j3=>bnd (lfix (Zn p0) (([]:List Ad),0)) fun t6=>
 j3 t6)
instance(p0:An):ConK (Lu p0) prog 181 (fun g0_0 gm0_0 gm0_1 U0 E0 ua0 uc0 vs Lp=>vs=[.pointer (some ⟨g0_0,0,none⟩)]/\Lp=[.m g0_0 156 [.slice U0 p0.v.length E0,.map (some gm0_0),.map (some gm0_1)],Bg prog 103 Au Cy gm0_0 p0.apex,Bg prog 103 Au Ca gm0_1 p0.fixed]/\ua0=none/\uc0=0/\True) (fun U0 E0 ua0 uc0 K K2=>Has K U0 p0.v.length E0 4 Am p0.v/\True) (fun g0_0 gm0_0 gm0_1 U0 E0 ua0 uc0 K r v Ln=>∃A0 c0 A2 c2,v=.slice A2 r.2.length c2/\Ln=[.m g0_0 156 [.slice A0 r.1.v.length c0,.map (some gm0_0),.map (some gm0_1)],Bg prog 103 Au Cy gm0_0 r.1.apex,Bg prog 103 Au Ca gm0_1 r.1.fixed,.r A2 r.2.length c2 103 2 (r.2.flatMap Ar)]/\Has K A0 r.1.v.length c0 4 Am r.1.v/\True):=⟨by
 rintro g0_0 gm0_0 gm0_1 U0 E0 _ _ K K2 _ _ r ⟨rfl,rfl,rfl,rfl,-⟩ ⟨ha0,-⟩ hx;unfold Lu at hx;have:=dl 5 [0,0,0,1,0,1,0,1,0,1,0,0,0,2,2] [0,1,2,3,4,5,6,7,8,9,10,11,12,13,14];refine CtSK ntmps181 results181 ?_;intro Lf hKf;have hKg:=hKf.r;replace hKf:=hKf.l;refine Xr ?_;refine pq ?_;intros;rename_i hx
 refine pA ?_;intros;rename_i hx
 refine pA ?_;intros;rename_i hx
 apply Jr (γ:=OA×Nat) hx [0] (fun s3 y3 f=>(3,.slice y3.1 s3.length y3.2)::f) [0,1,2,1003] (fun s3 y3 l=>.r y3.1 s3.length y3.2 103 2 (s3.flatMap Ar)::l);exact kk
 .exact aI
 .refine pI ?_;intros;rename_i hx
  refine T_x (Adk Aeu Jh underlying153 rfl (fun _=>by exact sE) rfl (fun g1=>?_));refine pq ?_;intros;rename_i hx
  refine Ba 103 2 ?_;refine Aid (σ:=List Ad) (γ:=(List (Ad×Int))×(Option (Ad×Int))×OA×Nat) hx (fun y0=>y0.1) (fun s0 y0=>[(0,.pointer (some ⟨g0_0,0,none⟩)),(3,.slice y0.2.2.1 s0.length y0.2.2.2),(11,.pointer (some ⟨g1,0,none⟩))]) (fun s0 y0=>.r y0.2.2.1 s0.length y0.2.2.2 103 2 (s0.flatMap Ar) :: .m g0_0 156 [.slice U0 p0.v.length E0,.map (some gm0_0),.map (some gm0_1)]::rngE prog 103 Au Cy gm0_0 g1 p0.apex y0.1 y0.2.1::Bg prog 103 Au Ca gm0_1 p0.fixed::Lf) (fun s0 y0=>True) (_,_,_,_) rfl trivial (by exact sF2) (by exact pK2) ?_;intro s0 y0 _ hm0;replace hm0:MR _ _ y0.1 s0 r:=hm0;refine pq ?_;intros;rename_i hx
  refine T_h (Afv Aeu Jh Vq rfl (fun _ _=>by exact sE) rfl (fun hn0=>?_) (fun p19_ hp0=>?_))
  .obtain⟨x0,hx,ht0⟩:=MR.noneK hm0 hn0;unfold Xo at hx;refine Abw (by exact sE) ?_;exact au
  .obtain⟨x0,hx,ht0,hn1⟩:=MR.someK hm0 hp0;unfold Ta at hx;exact au⟩
instance(p0:An):ConK (Ms p0) prog 185 (fun g0_0 gm0_0 gm0_1 U0 E0 ua0 uc0 vs Lp=>vs=[.pointer (some ⟨g0_0,0,none⟩)]/\Lp=[.m g0_0 156 [.slice U0 p0.v.length E0,.map (some gm0_0),.map (some gm0_1)],Bg prog 103 Au Cy gm0_0 p0.apex,Bg prog 103 Au Ca gm0_1 p0.fixed]/\ua0=none/\uc0=0/\True) (fun U0 E0 ua0 uc0 K K2=>Has K U0 p0.v.length E0 4 Am p0.v/\True) (fun g0_0 gm0_0 gm0_1 U0 E0 ua0 uc0 K r v Ln=>∃A0 c0 A2 c2,v=.slice A2 r.2.length c2/\Ln=[.m g0_0 156 [.slice A0 r.1.v.length c0,.map (some gm0_0),.map (some gm0_1)],Bg prog 103 Au Cy gm0_0 r.1.apex,Bg prog 103 Au Ca gm0_1 r.1.fixed,.r A2 r.2.length c2 103 2 (r.2.flatMap Ar)]/\Has K A0 r.1.v.length c0 4 Am r.1.v/\True):=⟨by
 rintro g0_0 gm0_0 gm0_1 U0 E0 _ _ K K2 _ _ r ⟨rfl,rfl,rfl,rfl,-⟩ ⟨ha0,-⟩ hx;unfold Ms at hx;have:=dl 5 [0,0,0,1,0,1,0,1,0,1,0,0,0,2,2] [0,1,2,3,4,5,6,7,8,9,10,11,12,13,14];refine CtSK ntmps185 results185 ?_;intro Lf hKf;have hKg:=hKf.r;replace hKf:=hKf.l;refine Xr ?_;refine pq ?_;intros;rename_i hx
 refine pA ?_;intros;rename_i hx
 refine pA ?_;intros;rename_i hx
 apply Jr (γ:=OA×Nat) hx [0] (fun s3 y3 f=>(3,.slice y3.1 s3.length y3.2)::f) [0,1,2,1003] (fun s3 y3 l=>.r y3.1 s3.length y3.2 103 2 (s3.flatMap Ar)::l);exact kk
 .exact aI
 .refine pI ?_;intros;rename_i hx
  refine T_x (Adk Aeu Jh underlying153 rfl (fun _=>by exact sE) rfl (fun g1=>?_));refine pq ?_;intros;rename_i hx
  refine Ba 103 2 ?_;refine Aid (σ:=List Ad) (γ:=(List (Ad×Int))×(Option (Ad×Int))×OA×Nat) hx (fun y0=>y0.1) (fun s0 y0=>[(0,.pointer (some ⟨g0_0,0,none⟩)),(3,.slice y0.2.2.1 s0.length y0.2.2.2),(11,.pointer (some ⟨g1,0,none⟩))]) (fun s0 y0=>.r y0.2.2.1 s0.length y0.2.2.2 103 2 (s0.flatMap Ar) :: .m g0_0 156 [.slice U0 p0.v.length E0,.map (some gm0_0),.map (some gm0_1)]::rngE prog 103 Au Cy gm0_0 g1 p0.apex y0.1 y0.2.1::Bg prog 103 Au Ca gm0_1 p0.fixed::Lf) (fun s0 y0=>True) (_,_,_,_) rfl trivial (by exact sF2) (by exact pK2) ?_;intro s0 y0 _ hm0;replace hm0:MR _ _ y0.1 s0 r:=hm0;refine pq ?_;intros;rename_i hx
  refine T_h (Afv Aeu Jh Vq rfl (fun _ _=>by exact sE) rfl (fun hn0=>?_) (fun p27_ hp0=>?_))
  .obtain⟨x0,hx,ht0⟩:=MR.noneK hm0 hn0;unfold Wd at hx;refine Abw (by exact sE) ?_;exact au
  .obtain⟨x0,hx,ht0,hn1⟩:=MR.someK hm0 hp0;unfold Qv at hx;exact au⟩
instance(p0:An):ConK (Gx p0) prog 131 (fun g0_0 gm0_0 gm0_1 U0 E0 ua0 uc0 vs Lp=>vs=[.pointer (some ⟨g0_0,0,none⟩)]/\Lp=[.m g0_0 156 [.slice U0 p0.v.length E0,.map (some gm0_0),.map (some gm0_1)],Bg prog 103 Au Cy gm0_0 p0.apex,Bg prog 103 Au Ca gm0_1 p0.fixed]/\ua0=none/\uc0=0/\True) (fun U0 E0 ua0 uc0 K K2=>Has K U0 p0.v.length E0 4 Am p0.v/\True) (fun g0_0 gm0_0 gm0_1 U0 E0 ua0 uc0 K r v Ln=>∃A0 c0 A2 c2,v=.slice A2 r.2.length c2/\Ln=[.m g0_0 156 [.slice A0 r.1.v.length c0,.map (some gm0_0),.map (some gm0_1)],Bg prog 103 Au Cy gm0_0 r.1.apex,Bg prog 103 Au Ca gm0_1 r.1.fixed,.r A2 r.2.length c2 101 3 (r.2.flatMap Az)]/\Has K A0 r.1.v.length c0 4 Am r.1.v/\True):=⟨by
 rintro g0_0 gm0_0 gm0_1 U0 E0 _ _ K K2 _ _ r ⟨rfl,rfl,rfl,rfl,-⟩ ⟨ha0,-⟩ hx;unfold Gx at hx;refine CtSK ntmps131 results131 ?_;intro Lf hKf;have hKg:=hKf.r;replace hKf:=hKf.l;refine Xr ?_;refine pq ?_;intros;rename_i hx
 refine pA ?_;intros;rename_i hx
 refine pA ?_;intros;rename_i hx
 apply Jr (γ:=OA×Nat) hx [0] (fun s3 y3 f=>(3,.slice y3.1 s3.length y3.2)::f) [0,1,2,1003] (fun s3 y3 l=>.r y3.1 s3.length y3.2 101 3 (s3.flatMap Az)::l);exact kk
 .exact aI
 .refine pI ?_;intros;rename_i hx
  refine T_x (Adk Aeu Jh underlying153 rfl (fun _=>by exact sE) rfl (fun g1=>?_));refine pq ?_;intros;rename_i hx
  refine Ba 101 3 ?_;refine Aid (σ:=List Ah) (γ:=(List (Ad×Int))×(Option (Ad×Int))×OA×Nat) hx (fun y0=>y0.1) (fun s0 y0=>[(0,.pointer (some ⟨g0_0,0,none⟩)),(3,.slice y0.2.2.1 s0.length y0.2.2.2),(10,.pointer (some ⟨g1,0,none⟩))]) (fun s0 y0=>.r y0.2.2.1 s0.length y0.2.2.2 101 3 (s0.flatMap Az) :: .m g0_0 156 [.slice U0 p0.v.length E0,.map (some gm0_0),.map (some gm0_1)]::rngE prog 103 Au Cy gm0_0 g1 p0.apex y0.1 y0.2.1::Bg prog 103 Au Ca gm0_1 p0.fixed::Lf) (fun s0 y0=>True) (_,_,_,_) rfl trivial (by exact sF2) (by exact pK2) ?_;intro s0 y0 _ hm0;replace hm0:MR _ _ y0.1 s0 r:=hm0;refine pq ?_;intros;rename_i hx
  refine T_h (Afv Aeu Jh Vq rfl (fun _ _=>by exact sE) rfl (fun hn0=>?_) (fun p19_ hp0=>?_))
  .obtain⟨x0,hx,ht0⟩:=MR.noneK hm0 hn0;unfold Tb at hx;refine Abw (by exact sE) ?_;exact au
  .obtain⟨x0,hx,ht0,hn1⟩:=MR.someK hm0 hp0;unfold Mu at hx;exact au⟩
theorem Akz(p0:List Ae){K:LE}{U0:OA}{E0:Nat}(ha0:Has K U0 p0.length E0 4 Am p0){r:LI}(hx:Wz p0=some r)(w:World)(hK:∀e∈K,Ent.ok w e):CtL prog 127 [.slice U0 p0.length E0] w fun v Ln=>∃(A0:OA) (c0:Nat),v=.slice A0 r.length c0/\Ln=[.r A0 r.length c0 3 1 (r.flatMap Ak)]/\True:=by
 have ha0':=Has.up0 ha0;refine CtL.mk 19 func127 rfl ntmps127 kr rfl ?_;show T 19 _ [(0,.slice U0 p0.length E0)] _;unfold Wz at hx;refine Y2 ?_;refine T_x (Ab3 rfl rfl rfl (fun g1=>?_));refine Y8 ?_;refine Tj (γ:=OA×Nat) hx (fun s3 y3=>[(1,.pointer (some ⟨g1,0,none⟩)),(3,.slice y3.1 s3.length y3.2)]) (fun s3 y3=>[.r y3.1 s3.length y3.2 3 1 (s3.flatMap Ak),.m g1 22 [.slice U0 p0.length E0]]++[.old w]) (fun s3 y3=>True) (fun s3 y3 hx0 hG0=>?_) (fun j3 hx=>?_)
 .refine Y4 ?_;obtain⟨h0,hx1⟩:=Em hx0;refine T_h (Aou (p:=(okIx p0)) (arg:=fun x=>iq x) (cf:=(cmpR p0)) s3 (by exact⟨_,func182,rfl,rfl⟩) (fun w hok hcm=>Aph p0 h0.2.2 s3 h0.1 h0.2.1 w hok hcm ⟨_,func183,rfl,rfl⟩) (fun ys=>[.r y3.1 s3.length y3.2 3 1 ys,.m g1 22 [.slice U0 p0.length E0]]++[.old w]) (fun ys=>by exact .here) (fun ys W hW x y px py=>⟨[iq x,iq y,.pointer (some ⟨g1,0,none⟩)],rfl,Ah1 x y p0 (Has.len' (Has.up (L:=(K++[.m g1 22 [.slice U0 p0.length E0]])) ha0' (SubE.app2 SubE.nil))) (Pt.m0 (List.mem_append_right _ mS)) (Avz p0 px py) W (Bd0 (K:=K) (K2:=[.m g1 22 [.slice U0 p0.length E0]]) hK (by exact (sb 2)) (by exact (sb 1)) hW)⟩) rfl rfl rfl ?_);refine Y9 ?_;have hn0:s3.length=(Bf ((cmpR p0)) s3).length:=(by rw[Ct]);refine An7 (.here) (e':=.r y3.1 ((Bf ((cmpR p0)) s3).length) y3.2 3 1 ((Bf ((cmpR p0)) s3).flatMap Ak)) (by first|(rw[<-hn0];done)|rfl) ?_;refine Aqm (s:=2) (v':=.slice y3.1 ((Bf ((cmpR p0)) s3).length) y3.2) rfl (by have hn1:s3.length=(Bf ((cmpR p0)) s3).length:=(by rw[Ct]);first|(rw[<-hn1];done)|rfl) ?_;obtain rfl:=oI hx1;exact Pr (rs:=[.tmp 2]) results127 (.tmp rfl (.nil)) (Ln:=[.r y3.1 ((Bf ((cmpR p0)) s3).length) y3.2 3 1 ((Bf ((cmpR p0)) s3).flatMap Ak)]) ⟨y3.1,y3.2,rfl,rfl,trivial⟩ (Bq rfl Gg) (by exact .pick 0 rfl (.drop 0 rfl (.refl)))
 .refine Y2 ?_;refine Dg (Rx rfl (i:=0) rfl rfl Alw) rfl ?_;refine Dg (Aap rfl 108 underlying22) rfl ?_;refine Y4 ?_;obtain⟨t0,hl0,ho0⟩:=Bk hx;refine Ba 3 1 ?_;have hn2:0=(([]:LI)).length:=by simp[Fn,Amp,List.length_append] <;> omega
  refine An7 (.here) (e':=.r none ((([]:LI)).length) 0 3 1 ((([]:LI)).flatMap Ak)) (by first|(rw[<-hn2];done)|rfl) ?_;refine Lp (σ:=LI×Int) (γ:=OA×Nat) hl0 (fun s0 y0=>[(1,.pointer (some ⟨g1,0,none⟩)),(3,.slice y0.1 s0.1.length y0.2),(6,iq (p0.length:Int)),(7,iq s0.2)]) (fun s0 y0=>[.r y0.1 s0.1.length y0.2 3 1 (s0.1.flatMap Ak),.m g1 22 [.slice U0 p0.length E0]]++[.old w]) (fun s0 y0=>True) (none,0) trivial (by exact .pick 0 rfl (.pick 0 rfl (.refl))) ?_;intro s0 y0 hG1 x0 hx2 ht0;unfold Us at hx2;refine Y6 ?_;refine Ti hx2 (s:=8) rfl (fun h1 hx3=>?_) (fun h1 hx4=>?_)
  ·(iterate 14 refine Y ?_);refine T_x (Iy rfl (Yh _) rfl (fun g0=>?_));obtain⟨h2,hx5⟩:=Em hx3;refine T_h (Wn Ak s0.1 [s0.2] rfl rfl rfl Alu (fun _=>rfl) (i':=0) rfl rfl rfl rfl h2 rfl (fun _ _=>.there (.here)) (fun _ _=>.drop .refl) dD (fun A1 c1=>?_));refine Y8 ?_;exact Rp (s0.1++[s0.2],w64 (s0.2+1)) (A1,c1) hx5 trivial (by exact .pick 0 rfl (.pick 0 rfl (.refl)))
  .refine Y3 ?_;obtain rfl:=Zw ht0 hx4;refine Y2 ?_;exact Mt s0.1 (y0.1,y0.2) ho0 trivial (by exact .pick 0 rfl (.pick 0 rfl (.refl)))
instance(p0:List Ae):Con (Wz p0) prog 127 (fun K vs=>∃U0 E0,vs=[.slice U0 p0.length E0]/\Has K U0 p0.length E0 4 Am p0/\True) (fun _ r v Ln=>∃A0 c0,v=.slice A0 r.length c0/\Ln=[.r A0 r.length c0 3 1 (r.flatMap Ak)]/\True):=⟨by
 rintro K _ r ⟨U0,E0,rfl,ha0,-⟩ hx w hK;exact Akz p0 ha0 hx w hK⟩
instance(p0:List Ad):Con (Xp p0) prog 125 (fun K vs=>∃U0 E0,vs=[.slice U0 p0.length E0]/\Has K U0 p0.length E0 2 Ar p0/\True) (fun _ r v Ln=>∃A0 c0,v=.slice A0 r.length c0/\Ln=[.r A0 r.length c0 103 2 (r.flatMap Ar)]/\True):=⟨by
 rintro K _ r ⟨U0,E0,rfl,ha0,-⟩ hx w hK;replace ha0:=ha0.lo hK;unfold Xp at hx;refine CtS ntmps125 results125 ?_;refine pq ?_;intros;rename_i hx
 refine pA ?_;intros;rename_i hx
 refine pA ?_;intros;rename_i hx
 apply Jr (γ:=OA×Nat) hx [] (fun s3 y3 f=>(3,.slice y3.1 s3.length y3.2)::f) [999] (fun s3 y3 l=>.r y3.1 s3.length y3.2 103 2 (s3.flatMap Ar)::l);exact kk
 .exact aI
 .refine pI ?_;intros;rename_i hx
  refine Ba 103 2 ?_;apply Lr (γ:=OA×Nat) hx [6,7] (fun s6 y6 f=>(3,.slice y6.1 s6.1.length y6.2)::(8,iq s6.2)::f) [999] (fun s6 y6 l=>.r y6.1 s6.1.length y6.2 103 2 (s6.1.flatMap Ar)::l) (_,_);exact kk;exact sk;intro s6 y6 x6 hx _;unfold Zn at hx;exact au⟩
instance:Bt prog 156 2 2:=⟨.mk underlying156 rfl rfl (kr:prog.info? 154=some t154) (kr:t154.size=1) rfl⟩
instance:OneI prog 154:=⟨.mk underlying154 rfl (kr:prog.info? 154=some t154) kr⟩
instance(x0:Int)(x1:Int)(x2:Int)(x3:Int)(x4:Int)(x5:Int)(x6:Int)(x7:Int):Oo prog 24 4 [(0,.agg #[iq x0,iq x1]),(1,.agg #[iq x2,iq x3]),(2,.agg #[iq x4,iq x5]),(3,.agg #[iq x6,iq x7])] 103 [iq x0,iq x1,iq x2,iq x3,iq x4,iq x5,iq x6,iq x7]:=⟨fun w=>kr⟩
theorem Bat  : Ov prog 22 0 [] 108 []:=fun w=>kr
theorem Bee:Ab4 prog 22 108 4 32:=⟨underlying22,⟨t108,.agg #[iq 0,iq 0,iq 0,iq 0],kr,kr,kr,kr,rfl⟩,dD⟩
instance:Ad9 prog 22 108 4 32:=⟨Bee⟩
instance:Ur prog 26 [.slice none 0 0,.slice none 0 0,.slice none 0 0]:=⟨⟨_,zeroValue26,rfl⟩⟩
instance:Ji prog 26 [] [.slice none 0 0,.slice none 0 0,.slice none 0 0]:=⟨fun w=>kr⟩
instance:AggI prog 26 3:=⟨.mk underlying26 rfl (kr:prog.info? 26=some t26) kr⟩
instance(x0:OA)(x1:Nat)(x2:Nat)(x3:Nat)(x4:Nat):Ji prog 156 [(0,.slice x0 x1 x2),(1,.map (some x3)),(2,.map (some x4))] [.slice x0 x1 x2,.map (some x3),.map (some x4)]:=⟨fun w=>kr⟩
instance(x0:OA)(x1:Nat)(x2:Nat)(x3:OA)(x4:Nat)(x5:Nat)(x6:OA)(x7:Nat)(x8:Nat):Ji prog 26 [(0,.slice x0 x1 x2),(1,.slice x3 x4 x5),(2,.slice x6 x7 x8)] [.slice x0 x1 x2,.slice x3 x4 x5,.slice x6 x7 x8]:=⟨fun w=>kr⟩
def Hy(p1:LI)(p0:An):Int->Option (Sum Int Int):=fun s0=>
 jn (fun (s6:Bool)=>
 if s6=true then (some (.inl (w64 (s0+1))))
 else (some (.inr s0)))
 (fun j6=>if s0<(p1.length:Int) then (bnd (idx p1 0) fun x0=>
 bnd (idx p1 1) fun x1=>
 bnd (idx p1 s0) fun x2=>
 bnd (Bj p0 x0) fun r0=>
 bnd (Bj p0 x1) fun r1=>
 bnd (Bj p0 x2) fun r2=>
 bnd (Ts r0 r1 r2) fun r3=>
 j6 (decide (r3=0)))
 else (j6 false))
def Ew(s2:Int)(p1:LI):(List Ae×(List (Ad×Int))×(List (Ad×Bool))×Int)->Option (Sum (List Ae×(List (Ad×Int))×(List (Ad×Bool))×Int) (List Ae×(List (Ad×Int))×(List (Ad×Bool)))):=fun s0=>
 if (w64 (s0.2.2.2+1))<s2 then (jn (fun (s1:List Ae×(List (Ad×Int))×(List (Ad×Bool)))=>
 some (.inl (s1.1,s1.2.1,s1.2.2,w64 (s0.2.2.2+1))))
 (fun j0=>bnd (idx p1 s0.2.2.2) fun x0=>
 bnd (idx p1 (w64 (s0.2.2.2+1))) fun x1=>
 bnd (idx p1 s2) fun x2=>
 bnd (Bj (⟨s0.1,s0.2.1,s0.2.2.1⟩:An) x0) fun r0=>
 bnd (Bj (⟨s0.1,s0.2.1,s0.2.2.1⟩:An) x1) fun r1=>
 bnd (Bj (⟨s0.1,s0.2.1,s0.2.2.1⟩:An) x2) fun r2=>
 bnd (Ts r0 r1 r2) fun r3=>
 if 0<r3 then (bnd (idx p1 s0.2.2.2) fun x3=>
 bnd (idx p1 (w64 (s0.2.2.2+1))) fun x4=>
 bnd (idx p1 s2) fun x5=>
 bnd (Dy (⟨s0.1,s0.2.1,s0.2.2.1⟩:An) x3 x4 x5) fun r4=>
 j0 (r4.v,r4.apex,r4.fixed))
 else (bnd (idx p1 (w64 (s0.2.2.2+1))) fun x6=>
 bnd (idx p1 s0.2.2.2) fun x7=>
 bnd (idx p1 s2) fun x8=>
 bnd (Dy (⟨s0.1,s0.2.1,s0.2.2.1⟩:An) x6 x7 x8) fun r5=>
 j0 (r5.v,r5.apex,r5.fixed))))
 else (some (.inr (s0.1,s0.2.1,s0.2.2.1)))
def Cv(r0:An×List Ad)(x0:Int):(List Ae×(List (Ad×Int))×(List (Ad×Bool))×Int)->Option (Sum (List Ae×(List (Ad×Int))×(List (Ad×Bool))×Int) (List Ae×(List (Ad×Int))×(List (Ad×Bool)))):=fun s0=>
 if s0.2.2.2<(r0.2.length:Int) then (jn (fun (s1:List Ae×(List (Ad×Int))×(List (Ad×Bool)))=>
 some (.inl (s1.1,s1.2.1,s1.2.2,w64 (s0.2.2.2+1))))
 (fun j0=>bnd (idx r0.2 s0.2.2.2) fun x1=>
 bnd (Bj (⟨s0.1,s0.2.1,s0.2.2.1⟩:An) x1.a0) fun r1=>
 bnd (Bj (⟨s0.1,s0.2.1,s0.2.2.1⟩:An) x1.a1) fun r2=>
 bnd (Bj (⟨s0.1,s0.2.1,s0.2.2.1⟩:An) x0) fun r3=>
 bnd (Ts r1 r2 r3) fun r4=>
 if 0<r4 then (bnd (Dy (⟨s0.1,s0.2.1,s0.2.2.1⟩:An) x1.a0 x1.a1 x0) fun r5=>
 j0 (r5.v,r5.apex,r5.fixed))
 else (j0 (s0.1,s0.2.1,s0.2.2.1))))
 else (some (.inr (s0.1,s0.2.1,s0.2.2.1)))
def Ku(p1:LI)(s2:Int):(List Ae×(List (Ad×Int))×(List (Ad×Bool))×LI×Int)->Option (Sum (List Ae×(List (Ad×Int))×(List (Ad×Bool))×LI×Int) An):=fun s0=>
 if s0.2.2.2.2<(((p1.length-Int.toNat (w64 (s2+1)):Nat):Int)) then (jn (fun (s1:List Ae×(List (Ad×Int))×(List (Ad×Bool)))=>
 some (.inl (s1.1,s1.2.1,s1.2.2,s0.2.2.2.1,w64 (s0.2.2.2.2+1))))
 (fun j0=>bnd (idx s0.2.2.2.1 s0.2.2.2.2) fun x0=>
 bnd (Lu (⟨s0.1,s0.2.1,s0.2.2.1⟩:An)) fun r0=>
 bnd (lfix (Cv r0 x0) (r0.1.v,r0.1.apex,r0.1.fixed,0)) fun t0=>
 j0 t0))
 else (some (.inr (⟨s0.1,s0.2.1,s0.2.2.1⟩:An)))
def Mv(p0:An)(p1:LI):Option An :=
 jn (fun (s2:Int)=>
 if (p1.length:Int)<=s2 then (some p0)
 else (jn (fun (s9:List Ae×(List (Ad×Int))×(List (Ad×Bool)))=>
 gd (0<=(w64 (s2+1))/\(w64 (s2+1))<=(p1.length:Int))<|
 bnd (lfix (Ku p1 s2) (s9.1,s9.2.1,s9.2.2,subl p1 (w64 (s2+1)) (p1.length:Int),0)) fun t0=>
 some t0)
 (fun j9=>bnd (lfix (Ew s2 p1) (p0.v,p0.apex,p0.fixed,0)) fun t1=>
 j9 t1)))
 (fun j2=>bnd (lfix (Hy p1 p0) 2) fun t2=>
 j2 t2)
def Cw  : (List Ae×(List (Ad×Int))×(List (Ad×Bool))×List Ad)->Option (Sum (List Ae×(List (Ad×Int))×(List (Ad×Bool))×List Ad) An):=fun s0=>
 if 0<(s0.2.2.2.length:Int) then (bnd (idx s0.2.2.2 (w64 ((s0.2.2.2.length:Int)-1))) fun x0=>
 gd (0<=(w64 ((s0.2.2.2.length:Int)-1))/\(w64 ((s0.2.2.2.length:Int)-1))<=(s0.2.2.2.length:Int))<|
 gd ((-9223372036854775808<=x0.a0/\x0.a0<=9223372036854775807)/\(-9223372036854775808<=x0.a1/\x0.a1<=9223372036854775807))<|
 bnd (some ((mget s0.2.1 x0).getD 0)) fun x1=>
 gd ((-9223372036854775808<=x0.a1/\x0.a1<=9223372036854775807)/\(-9223372036854775808<=x0.a0/\x0.a0<=9223372036854775807))<|
 bnd (some ((mget s0.2.1 ((⟨x0.a1,x0.a0⟩:Ad))).getD 0)) fun x2=>
 jn (fun (s1:List Ad×Bool)=>
 if s1.2=true then (some (.inl (s0.1,s0.2.1,s0.2.2.1,s1.1)))
 else (bnd (Jp (⟨s0.1,s0.2.1,s0.2.2.1⟩:An) x0.a0 x0.a1) fun r0=>
 if r0.2=true then (bnd (Tt x0.a0 x1) fun r1=>
 bnd (Tt x1 x0.a1) fun r2=>
 bnd (Tt x0.a1 x2) fun r3=>
 bnd (Tt x2 x0.a0) fun r4=>
 gd ((s1.1.length+4)*16<=140737488355328)<|
 some (.inl (r0.1.v,r0.1.apex,r0.1.fixed,s1.1++[r1,r2,r3,r4])))
 else (some (.inl (r0.1.v,r0.1.apex,r0.1.fixed,s1.1)))))
 (fun j0=>if ((mget s0.2.1 x0).isSome)=true then (if ((mget s0.2.1 ((⟨x0.a1,x0.a0⟩:Ad))).isSome)=true then (gd ((-9223372036854775808<=x0.a0/\x0.a0<=9223372036854775807)/\(-9223372036854775808<=x0.a1/\x0.a1<=9223372036854775807))<|
 bnd (some ((mget s0.2.2.1 x0).getD false)) fun x3=>
 if x3=true then (j0 (List.take (Int.toNat (w64 ((s0.2.2.2.length:Int)-1))) s0.2.2.2,true))
 else (bnd (Bj (⟨s0.1,s0.2.1,s0.2.2.1⟩:An) x0.a0) fun r5=>
 bnd (Bj (⟨s0.1,s0.2.1,s0.2.2.1⟩:An) x0.a1) fun r6=>
 bnd (Bj (⟨s0.1,s0.2.1,s0.2.2.1⟩:An) x1) fun r7=>
 bnd (Bj (⟨s0.1,s0.2.1,s0.2.2.1⟩:An) x2) fun r8=>
 bnd (Wy r5 r6 r7 r8) fun r9=>
 j0 (List.take (Int.toNat (w64 ((s0.2.2.2.length:Int)-1))) s0.2.2.2,r9)))
 else (j0 (List.take (Int.toNat (w64 ((s0.2.2.2.length:Int)-1))) s0.2.2.2,true)))
 else (j0 (List.take (Int.toNat (w64 ((s0.2.2.2.length:Int)-1))) s0.2.2.2,true))))
 else (some (.inr (⟨s0.1,s0.2.1,s0.2.2.1⟩:An)))
def Kn(p0:An):Option An :=
 bnd (Ms p0) fun r1=>
 bnd (lfix Cw (r1.1.v,r1.1.apex,r1.1.fixed,r1.2)) fun t0=>
 some t0
def Qj(p0:List Ae):Option (List Ae):=gd (p0.length*32<=140737488355328) <| some p0
theorem Adw(p0:List Ae){K:List Ent}{U0:Option Addr}{E0:Nat}(ha0:Has K U0 p0.length E0 4 Am p0){r:List Ae}(hx:Qj p0=some r)(w:World)(hK:∀ e∈K,Ent.ok w e):
  CtL prog 130 [.slice U0 p0.length E0] w (fun v Ln=>∃(A0:OA) (c0:Nat),v=.slice A0 r.length c0/\Ln=[.r A0 r.length c0 108 4 (r.flatMap Am)]/\True):=by
 obtain⟨hb,hx⟩:=Em hx;obtain rfl:=oI hx;have ha:Has [.old w] U0 p0.length E0 4 Am p0:=Has.low (E:=[]) (by rw[List.append_nil];exact ha0) hK;refine CtL.mk 8 func130 rfl ntmps130 kr rfl ?_;show T 8 _ [(0,.slice U0 p0.length E0)] _;refine Y9 ?_;refine Dg (Ags underlying22 rfl rfl) rfl ?_;refine Y2 ?_;cases hA:U0 with
 |none=>
  subst hA;have h0:p0=[]:=by
   cases p0 with
   |nil=>rfl
   |cons x r=>obtain⟨b,o,h,_⟩:=ha.at_ s_;cases h
  subst h0;refine Y8 ?_;refine Ba 108 4 ?_;exact Pr (rs:=[.tmp 2]) results130 (.tmp rfl .nil) (Ln:=[.r none 0 0 108 4 []]) ⟨none,0,rfl,rfl,trivial⟩ (Bq rfl Gg) (.pick 0 rfl (.pick 0 rfl .refl))
 |some a=>
  subst hA;refine Y5 ?_;refine T_x (Iy rfl Bat rfl (fun g5=>?_));refine Y ?_;refine T_mr (enc:=Am) (sz:=4) (([]:List Ae)) (.here) rfl rfl (fun _=>rfl) dD ?_;refine T_h (Yx Am ([]:List Ae) p0 rfl rfl Bee (fun _=>rfl) ha (sb 1) (fun _=>rfl) (by rw[List.length_nil,Nat.zero_add];exact hb) rfl (fun _ _=>.here) dD (fun A1 c1=>?_));refine Y4 ?_;exact Pr (rs:=[.tmp 2]) results130 (.tmp rfl .nil) (Ln:=[.r A1 p0.length c1 108 4 (p0.flatMap Am)]) ⟨A1,c1,rfl,rfl,trivial⟩ (Bq rfl Gg) (.pick 0 rfl (.pick 0 rfl .refl))
instance(p0:List Ae):Con (Qj p0) prog 130 (fun K vs=>∃U0 E0,vs=[.slice U0 p0.length E0]/\Has K U0 p0.length E0 4 Am p0/\True) (fun _ r v Ln=>∃A0 c0,v=.slice A0 r.length c0/\Ln=[.r A0 r.length c0 108 4 (r.flatMap Am)]/\True):=⟨by rintro K _ r ⟨A,c,rfl,ha,-⟩ hx w hK;exact Adw p0 ha hx w hK⟩
structure Al where
 V:List Ae
 T:List Ah
 Lines:List Ad
def We(r0:List Ad):Unit->Option (Sum Unit Unit):=fun s0=>
 if 0<(r0.length:Int) then (bnd (idx r0 0) fun x0=>
 none)
 else (some (.inr ()))
def Td(p0:List Ae)(p1:List Ad):Option (Al×Int):=
 bnd (Uo p0) fun r2=>
 if r2=0 then (bnd (Rs p0 p1) fun r8=>
 if r8=0 then (bnd (Xp p1) fun r0=>
 bnd (Wz p0) fun r1=>
 bnd (Mv (⟨p0,([]:List (Ad×Int)),([]:List (Ad×Bool))⟩:An) r1) fun r3=>
 jn (fun (s0:List Ae×(List (Ad×Int))×(List (Ad×Bool)))=>
 bnd (Qj p0) fun r4=>
 bnd (Gx (⟨s0.1,s0.2.1,s0.2.2⟩:An)) fun r5=>
 some ((⟨r4,r5.2,r0⟩:Al),0))
 (fun j0=>if 0<((r3.apex.length:Int)) then (jn (fun (s1:Unit)=>
 bnd (Kn r3) fun r6=>
 j0 (r6.v,r6.apex,r6.fixed))
 (fun j1=>bnd (lfix (We r0) ()) fun t0=>
 j1 t0))
 else (j0 (r3.v,r3.apex,r3.fixed))))
 else (some ((⟨([]:List Ae),([]:List Ah),([]:List Ad)⟩:Al),r8)))
 else (some ((⟨([]:List Ae),([]:List Ah),([]:List Ad)⟩:Al),r2))
instance(p0:An)(p1:LI):ConK (Mv p0 p1) prog 126 (fun g0_0 gm0_0 gm0_1 U0 E0 U1 E1 vs Lp=>vs=[.pointer (some ⟨g0_0,0,none⟩),.slice U1 p1.length E1]/\Lp=[.m g0_0 156 [.slice U0 p0.v.length E0,.map (some gm0_0),.map (some gm0_1)],Bg prog 103 Au Cy gm0_0 p0.apex,Bg prog 103 Au Ca gm0_1 p0.fixed]/\True) (fun U0 E0 U1 E1 K K2=>Has K U0 p0.v.length E0 4 Am p0.v/\Has K2 U1 p1.length E1 1 Ak p1/\True) (fun g0_0 gm0_0 gm0_1 U0 E0 U1 E1 K r v Ln=>∃A0 c0,v=.tuple #[]/\Ln=[.m g0_0 156 [.slice A0 r.v.length c0,.map (some gm0_0),.map (some gm0_1)],Bg prog 103 Au Cy gm0_0 r.apex,Bg prog 103 Au Ca gm0_1 r.fixed]/\Has K A0 r.v.length c0 4 Am r.v/\True):=⟨by
 rintro g0_0 gm0_0 gm0_1 U0 E0 U1 E1 K K2 _ _ r ⟨rfl,rfl,-⟩ ⟨ha0,ha1,-⟩ hx;unfold Mv at hx;have:=dl 1 [0,0,0,0,0,0,0,0,1,2,0,0,0,1,2,0,0,0,0,1,2,2,0,0] [0,1,2,3,4,5,6,7,8,10,11,12,13,15,16,17,18,19,9,14,20,21,22,23];have:=dl 7 [0,0,0,0,1,2,0,0,0,0,0,1,2,0,0,0,0,1,2,2,0] [0,1,2,3,4,6,7,8,9,10,11,13,14,15,16,17,5,12,18,19,20];have:=dl 8 [0,0,0,0,1,0,0,0,0,1,0,0,0,1,3] [0,1,2,3,4,5,6,7,8,9,10,11,12,13,14];have:=dl 9 [0,0,0,0,0,1,0,0,0,1,0,0,0,1,3] [0,1,2,3,4,5,6,7,8,9,10,11,12,13,14];have:=dl 16 [0,0,1,2,0,0,1,2,0,0,2,2,0] [0,1,2,4,5,6,8,9,3,7,10,11,12];refine CtSK ntmps126 results126 ?_;intro Lf hKf;have hKg:=hKf.r;replace hKf:=hKf.l;refine Xr ?_;refine pq ?_;intros;rename_i hx
 refine pA ?_;intros;rename_i hx
 apply Jr (γ:=Unit) hx [0,1] (fun s2 y2 f=>(4,iq s2)::f) [0,1,2,1003] (fun s2 y2 l=>l);exact kk
 .intro s2 y2 hx;refine pq ?_;intros;rename_i hx
  refine Cq1e (s:=39) hx rfl cQ ?_ ?_
  .exact aI
  .refine pI ?_;intros;rename_i hx
   apply JrG (γ:=OA×Nat) hx [0,1,4] (fun s9 y9 f=>f) [1003] (fun s9 y9 l=>.m g0_0 156 [.slice y9.1 s9.1.length y9.2,.map (some gm0_0),.map (some gm0_1)]::Bg prog 103 Au Cy gm0_0 s9.2.1::Bg prog 103 Au Ca gm0_1 s9.2.2::l) (fun s9 y9=>Has K y9.1 s9.1.length y9.2 4 Am s9.1/\True);exact kk
   .intro s9 y9 hx hG;obtain⟨_,-⟩:=hG;refine pq ?_;intros;rename_i hx
    apply LrG (γ:=OA×Nat×OA×Nat) hx [0,101] (fun s0 y0 f=>(100,.slice y0.2.2.1 s0.2.2.2.1.length y0.2.2.2)::(102,iq s0.2.2.2.2)::f) [1003] (fun s0 y0 l=>.m g0_0 156 [.slice y0.1 s0.1.length y0.2.1,.map (some gm0_0),.map (some gm0_1)]::Bg prog 103 Au Cy gm0_0 s0.2.1::Bg prog 103 Au Ca gm0_1 s0.2.2.1::l) (fun s0 y0=>Has K y0.1 s0.1.length y0.2.1 4 Am s0.1/\Has K2 y0.2.2.1 s0.2.2.2.1.length y0.2.2.2 1 Ak s0.2.2.2.1/\True) (_,_,_,_);exact kk;exact sF2;exact gG;exact pK2;intro s0 y0 x0 hx _ hG;obtain⟨_,_,-⟩:=hG;unfold Ku at hx;refine pq ?_;intros;rename_i hx
    refine Cq1e (s:=103) hx rfl cQ ?_ ?_
    .refine pI ?_;intros;rename_i hx
     apply JrG (γ:=OA×Nat) hx [0,100,101,102] (fun s1 y1 f=>f) [1003] (fun s1 y1 l=>.m g0_0 156 [.slice y1.1 s1.1.length y1.2,.map (some gm0_0),.map (some gm0_1)]::Bg prog 103 Au Cy gm0_0 s1.2.1::Bg prog 103 Au Ca gm0_1 s1.2.2::l) (fun s1 y1=>Has K y1.1 s1.1.length y1.2 4 Am s1.1/\True);exact kk
     .intro s1 y1 hx hG;obtain⟨_,-⟩:=hG;exact au
     .refine pI ?_;intros;rename_i hx
      apply LrG (γ:=OA×Nat) hx [0,7,100,101,102,107,108] (fun s3 y3 f=>(109,iq s3.2.2.2)::f) [3,1004] (fun s3 y3 l=>.m g0_0 156 [.slice y3.1 s3.1.length y3.2,.map (some gm0_0),.map (some gm0_1)]::Bg prog 103 Au Cy gm0_0 s3.2.1::Bg prog 103 Au Ca gm0_1 s3.2.2.1::l) (fun s3 y3=>Has K y3.1 s3.1.length y3.2 4 Am s3.1/\True) (_,_);exact kk;exact sF2;exact gG;exact pK2;intro s3 y3 x1 hx _ hG;obtain⟨_,-⟩:=hG;unfold Cv at hx;exact au
    .exact aI
   .refine pI ?_;intros;rename_i hx
    apply LrG (γ:=OA×Nat) hx [0,1,4] (fun s4 y4 f=>(5,iq s4.2.2.2)::f) [1003] (fun s4 y4 l=>.m g0_0 156 [.slice y4.1 s4.1.length y4.2,.map (some gm0_0),.map (some gm0_1)]::Bg prog 103 Au Cy gm0_0 s4.2.1::Bg prog 103 Au Ca gm0_1 s4.2.2.1::l) (fun s4 y4=>Has K y4.1 s4.1.length y4.2 4 Am s4.1/\True) (_,_);exact kk;exact sF2;exact gG;exact pK2;intro s4 y4 x2 hx _ hG;obtain⟨_,-⟩:=hG;unfold Ew at hx;refine pq ?_;intros;rename_i hx
    refine Cq1e (s:=43) hx rfl cQ ?_ ?_
    .exact aI
    .exact aI
 .refine pI ?_;intros;rename_i hx
  apply Lr (γ:=Unit) hx [0,1] (fun s5 y5 f=>(4,iq s5)::f) [0,1,2,1003] (fun s5 y5 l=>l) ();exact kk;exact sk;intro s5 y5 x3 hx _;unfold Hy at hx;exact au⟩
instance(p0:An):ConK (Kn p0) prog 129 (fun g0_0 gm0_0 gm0_1 U0 E0 ua0 uc0 vs Lp=>vs=[.pointer (some ⟨g0_0,0,none⟩)]/\Lp=[.m g0_0 156 [.slice U0 p0.v.length E0,.map (some gm0_0),.map (some gm0_1)],Bg prog 103 Au Cy gm0_0 p0.apex,Bg prog 103 Au Ca gm0_1 p0.fixed]/\ua0=none/\uc0=0/\True) (fun U0 E0 ua0 uc0 K K2=>Has K U0 p0.v.length E0 4 Am p0.v/\True) (fun g0_0 gm0_0 gm0_1 U0 E0 ua0 uc0 K r v Ln=>∃A0 c0,v=.tuple #[]/\Ln=[.m g0_0 156 [.slice A0 r.v.length c0,.map (some gm0_0),.map (some gm0_1)],Bg prog 103 Au Cy gm0_0 r.apex,Bg prog 103 Au Ca gm0_1 r.fixed]/\Has K A0 r.v.length c0 4 Am r.v/\True):=⟨by
 rintro g0_0 gm0_0 gm0_1 U0 E0 _ _ K K2 _ _ r ⟨rfl,rfl,rfl,rfl,-⟩ ⟨ha0,-⟩ hx;unfold Kn at hx;have:=dl 4 [0,0,0,1,1,1,0,0,0,2,2] [0,1,2,3,4,5,6,7,8,9,10];have:=dl 5 [0,0,0,1,0,1,0,1,0,1,0,0,0,2,2] [0,1,2,3,4,5,6,7,8,9,10,11,12,13,14];have:=dl 6 [0,0,0,0,0,0,0,0,0,0,1,1,1,0,0,0,0,1,2,0,0,1,2,0,0,2,0,0,2,2,0] [0,1,2,3,4,5,6,7,8,9,10,11,12,13,14,15,16,17,19,20,21,23,24,26,27,18,22,25,28,29,30];have:=dl 8 [0,0,1,0,2,0,0,1,2,0,1,0,2,0,0,1,2,2,3,2] [0,1,2,3,5,6,7,9,10,11,13,14,15,4,8,12,16,17,18,19];refine CtSK ntmps129 results129 ?_;intro Lf hKf;have hKg:=hKf.r;replace hKf:=hKf.l;refine Xr ?_;refine pq ?_;intros;rename_i hx
 apply LrG (γ:=OA×Nat×OA×Nat) hx [0] (fun s0 y0 f=>(2,.slice y0.2.2.1 s0.2.2.2.length y0.2.2.2)::f) [1004] (fun s0 y0 l=>.m g0_0 156 [.slice y0.1 s0.1.length y0.2.1,.map (some gm0_0),.map (some gm0_1)]::Bg prog 103 Au Cy gm0_0 s0.2.1::Bg prog 103 Au Ca gm0_1 s0.2.2.1 :: .r y0.2.2.1 s0.2.2.2.length y0.2.2.2 103 2 (s0.2.2.2.flatMap Ar)::l) (fun s0 y0=>Has K y0.1 s0.1.length y0.2.1 4 Am s0.1/\True) (_,_,_,_);exact kk;exact sF2;exact gG;exact pK2;intro s0 y0 x0 hx _ hG;obtain⟨_,-⟩:=hG;unfold Cw at hx;refine pq ?_;intros;rename_i hx
 refine Cq1e (s:=12) hx rfl cQ ?_ ?_
 .refine pI ?_;intros;rename_i hx
  refine pA ?_;intros;rename_i hx
  apply Jr (γ:=OA×Nat) hx [0,3,4,6] (fun s1 y1 f=>(2,.slice y1.1 s1.1.length y1.2)::(76,.bool s1.2)::f) [0,1,2,3,1005] (fun s1 y1 l=>.r y1.1 s1.1.length y1.2 103 2 (s1.1.flatMap Ar)::l);exact kk
  .exact aI
  .refine pI ?_;intros;rename_i hx
   refine (Cb4 (s:=48) hx rfl (fun _ hx=>?_) (fun _ hx=>?_)) ⟨_,_,rfl,rfl⟩
   .refine pq ?_;intros;rename_i hx
    (with_reducible apply Zm 2);exact rfl;exact aT;exact aS;exact rfl;exact (fun _=>rfl);exact sA
    exact au
   .refine pq ?_;intros;rename_i hx
    refine (Cb4 (s:=52) hx rfl (fun _ hx=>?_) (fun _ hx=>?_)) ⟨_,_,rfl,rfl⟩
    .refine pq ?_;intros;rename_i hx
     (with_reducible apply Zm 2);exact rfl;exact aT;exact aS;exact rfl;exact (fun _=>rfl);exact sA
     exact au
    .refine pq ?_;intros;rename_i hx
     refine (Cb3 (s:=60) hx rfl (fun _ hx=>?_) (fun _ hx=>?_)) ⟨_,_,rfl,rfl⟩
     .refine pq ?_;intros;rename_i hx
      (with_reducible apply Zm 2);exact rfl;exact aT;exact aS;exact rfl;exact (fun _=>rfl);exact sA
      exact au
     .refine pq ?_;intros;rename_i hx
      (with_reducible apply Zm 2);exact rfl;exact aT;exact aS;exact rfl;exact (fun _=>rfl);exact sA
      exact au
 .exact aI⟩
instance(p0:List Ae)(p1:List Ad):Con (Td p0 p1) prog 71 (fun K vs=>∃U0 E0 U1 E1,vs=[.slice U0 p0.length E0,.slice U1 p1.length E1]/\Has K U0 p0.length E0 4 Am p0/\Has K U1 p1.length E1 2 Ar p1/\True) (fun _ r v Ln=>∃A0 c0 A2 c2 A4 c4,v=.tuple #[.agg #[.slice A0 r.1.V.length c0,.slice A2 r.1.T.length c2,.slice A4 r.1.Lines.length c4],iq r.2]/\Ln=[.r A0 r.1.V.length c0 108 4 (r.1.V.flatMap Am),.r A2 r.1.T.length c2 101 3 (r.1.T.flatMap Az),.r A4 r.1.Lines.length c4 103 2 (r.1.Lines.flatMap Ar)]/\True):=⟨by
 rintro K _ r ⟨U0,E0,U1,E1,rfl,ha0,ha1,-⟩ hx w hK;replace ha0:=ha0.lo hK;replace ha1:=ha1.lo hK;unfold Td at hx;refine CtS ntmps71 results71 ?_;refine pq ?_;intros;rename_i hx
 refine Cq2 (s:=15) hx rfl ?_ ?_
 .exact aI
 .refine pI ?_;intros;rename_i hx
  refine Cq2 (s:=22) hx rfl ?_ ?_
  .exact aI
  .refine pI ?_;intros;rename_i hx
   apply JrG (γ:=OA×Nat×Nat×Nat×Nat) hx [0,4,9] (fun s13 y13 f=>(8,.pointer (some ⟨y13.2.2.2.2,0,none⟩))::f) [3,4,5,999] (fun s13 y13 l=>.m y13.2.2.2.2 156 [.slice y13.1 s13.1.length y13.2.1,.map (some y13.2.2.1),.map (some y13.2.2.2.1)]::Bg prog 103 Au Cy y13.2.2.1 s13.2.1::Bg prog 103 Au Ca y13.2.2.2.1 s13.2.2::l) (fun s13 y13=>Has ([.old w]:LE) y13.1 s13.1.length y13.2.1 4 Am s13.1/\True);exact kk
   .intro s13 y13 hx hG;obtain⟨_,-⟩:=hG;exact au
   .refine pI ?_;intros;rename_i hx
    refine Cq1 (s:=41) hx rfl ?_ ?_
    .refine pI ?_;intros;rename_i hx
     apply Jr (γ:=Unit) hx [0,4,8,9] (fun s15 y15 f=>f) [0,1,2,3,4,5,999] (fun s15 y15 l=>l);exact kk
     .exact aI
     .refine pI ?_;intros;rename_i hx
      apply Lr (γ:=Unit) hx [0,4,8,9,42,43,44] (fun s55 y55 f=>f) [0,1,2,3,4,5,999] (fun s55 y55 l=>l) ();exact kk;exact sk;intro s55 y55 x55 hx _;unfold We at hx;exact au
    .exact aI⟩
def Te(p0:Aa)(p1:Aa):Option Int :=
 some (w64 (p0.Id-p1.Id))
instance Agw(p0:Aa)(p1:Aa):Con (Te p0 p1) prog 153 (fun _ vs=>vs=[.agg #[iq p0.Id,iq p0.X,iq p0.Y,iq p0.Z.Lo,iq p0.Z.Hi,iq p0.Wide,iq p0.Num,iq p0.Of,iq p0.Class],.agg #[iq p1.Id,iq p1.X,iq p1.Y,iq p1.Z.Lo,iq p1.Z.Hi,iq p1.Wide,iq p1.Num,iq p1.Of,iq p1.Class]]) (fun _ r v Ln=>v=iq r/\Ln=[]/\True):=⟨by
 rintro _ _ r rfl hx w hK;unfold Te at hx;refine CtS ntmps153 results153 ?_;exact au⟩
theorem Af4(p0:Aa)(p1:Aa){r:Int}(hx:Te p0 p1=some r)(w:World):CtL prog 153 [.agg #[iq p0.Id,iq p0.X,iq p0.Y,iq p0.Z.Lo,iq p0.Z.Hi,iq p0.Wide,iq p0.Num,iq p0.Of,iq p0.Class],.agg #[iq p1.Id,iq p1.X,iq p1.Y,iq p1.Z.Lo,iq p1.Z.Hi,iq p1.Wide,iq p1.Num,iq p1.Of,iq p1.Class]] w fun v Ln=>v=iq r/\Ln=[]/\True:=(Agw p0 p1).h [] _ _ rfl hx w (fun _ h=>absurd h List.not_mem_nil)
section
open Go.Shelf Go.Lib Go.Sort
def Al9(l:List Aa):Prop:=(l.map (·.Id)).Nodup/\∀x∈l,0<=x.Id/\x.Id<=1152921504606846976
def ptIn(l:List Aa)(x:Aa):Prop:=x∈l/\Al9 l
instance(l:List Aa)(x:Aa):Decidable (ptIn l x):=Classical.propDecidable _
def Hn(x y:Aa):Int:=x.Id-y.Id
theorem Asf{l:List Aa}(h:(l.map (·.Id)).Nodup){x y:Aa}(hx:x∈l)(hy:y∈l)(e:x.Id=y.Id):x=y:=by
 obtain⟨i,hi,rfl⟩:=List.getElem_of_mem hx;obtain⟨j,hj,rfl⟩:=List.getElem_of_mem hy;have:=List.pairwise_iff_getElem.1 (List.pairwise_map.1 h);rcases Nat.lt_trichotomy i j with g|g|g
 .exact absurd e (this i j hi hj g)
 .subst g;rfl
 .exact absurd e.symm (this j i hj hi g)
theorem totP(l:List Aa):Aa0 (ptIn l) Hn where
 irr x _:=by unfold Hn;omega
 trans x y z _ _ _ h1 h2:=by unfold Hn at *;omega
 tot x y hx hy h1 h2:=Asf hx.2.1 hx.1 hy.1 (by unfold Hn at h1 h2;omega)
theorem Asg{l:List Aa}{x y:Aa}(hx:ptIn l x)(hy:ptIn l y):Te x y=some (Hn x y):=by
 have h1:=hx.2.2 x hx.1;have h2:=hy.2.2 y hy.1;unfold Te Hn;rw[Aq oo oo]
theorem Ae3(l:List Aa)(hb:l.length<=1000000000)(hp:∀x∈l,ptIn l x){A:OA}{m c:Nat}{t:TypeId}{gf:Nat}{cb:Array Value}(w:World)(hok:Ent.ok w (.r A m c t 9 (l.flatMap Ag)))(hcmp:Ad2 prog (ptIn l) Hn (fun x=>.agg #[iq x.Id,iq x.X,iq x.Y,iq x.Z.Lo,iq x.Z.Hi,iq x.Wide,iq x.Num,iq x.Of,iq x.Class]) A m c t 9 gf cb w (l.flatMap Ag))(eg:Xx prog gf):Ad1 prog 60 A m c t 9 gf cb w (l.flatMap Ag) ((Bf Hn l).flatMap Ag):=
 Aek (ρ:=Tryz.laysSortP_ren) Tryz.laysSortP (k:=9) isAgg30 sizeOf30 (enc:=Ag) (fun _=>rfl) dD (fun x v hv=>by simp[Ag] at hv;rcases hv with rfl|rfl|rfl|rfl|rfl|rfl|rfl|rfl|rfl <;> rfl) (totP l) (Adg eg) l hb hp w hok hcmp
end
instance:Ur prog 295 [iq 0,iq 0,iq 0]:=⟨⟨_,zeroValue295,rfl⟩⟩
instance:Bt prog 295 0 0:=⟨.mk underlying295 rfl rfl (kr:prog.info? 3=some Tryz.t3) (kr:Tryz.t3.size=1) rfl⟩
instance:Bt prog 295 1 1:=⟨.mk underlying295 rfl rfl (kr:prog.info? 3=some Tryz.t3) (kr:Tryz.t3.size=1) rfl⟩
instance:Bt prog 295 2 2:=⟨.mk underlying295 rfl rfl (kr:prog.info? 3=some Tryz.t3) (kr:Tryz.t3.size=1) rfl⟩
instance(x0:Int)(x1:Int)(x2:Int):Ji prog 295 [(0,iq x0),(1,iq x1),(2,iq x2)] [iq x0,iq x1,iq x2]:=⟨fun w=>kr⟩
instance:AggI prog 295 3:=⟨.mk underlying295 rfl (kr:prog.info? 295=some t295) kr⟩
def At(p0:Ae):Option Ab :=
 some (⟨p0.X,p0.Y⟩:Ab)
def Ex(p0:Ab):Option Bool :=
 jn (fun (s2:Bool)=>
 some s2)
 (fun j2=>if (-268435456)<=p0.X then (if p0.X<=268435456 then (if (-268435456)<=p0.Y then (j2 (decide (p0.Y<=268435456)))
 else (j2 false))
 else (j2 false))
 else (j2 false))
def Gy(p0:Ae):Option Bool :=
 jn (fun (s2:Bool)=>
 some s2)
 (fun j2=>bnd (At p0) fun r2=>
 bnd (Ex r2) fun r5=>
 if r5=true then (if (-268435456)<=p0.Z.Lo then (if p0.Z.Lo<=p0.Z.Hi then (j2 (decide (p0.Z.Hi<=268435456)))
 else (j2 false))
 else (j2 false))
 else (j2 false))
def Jq(p0:Ab)(p1:Ab):Option Bool :=
 jn (fun (s2:Bool)=>
 some s2)
 (fun j2=>if p0.X<p1.X then (j2 true)
 else (if p0.X=p1.X then (j2 (decide (p0.Y<p1.Y)))
 else (j2 false)))
def Tv(p0:Ab)(p1:Ab)(p2:Ab):Option Int :=
 some (w64 ((w64 ((w64 (p1.X-p0.X))*(w64 (p2.Y-p0.Y))))-(w64 ((w64 (p1.Y-p0.Y))*(w64 (p2.X-p0.X))))))
def Jx(p0:Int):Option Int :=
 if p0<0 then (some (-1))
 else (if 0<p0 then (some 1)
 else (some 0))
def Du(p0:Ab)(p1:Ab)(p2:Ab):Option Int :=
 bnd (Tv p0 p1 p2) fun r4=>
 bnd (Jx r4) fun r7=>
 some r7
structure Ci where
 high:Int
 middle:Int
 low:Int
def El(p0:Ci)(p1:Int)(p2:Int):Option Ci :=
 some (⟨w64 (p0.high+(w64 ((shr_ .i64 p1 30)*(shr_ .i64 p2 30)))),w64 ((w64 (p0.middle+(w64 ((shr_ .i64 p1 30)*(Df .i64 p2 1073741823)))))+(w64 ((Df .i64 p1 1073741823)*(shr_ .i64 p2 30)))),w64 (p0.low+(w64 ((Df .i64 p1 1073741823)*(Df .i64 p2 1073741823))))⟩:Ci)
def Jl(p0:Ci):Option Int :=
 if (w64 (p0.high+(shr_ .i64 (w64 (p0.middle+(shr_ .i64 p0.low 30))) 30)))=0 then (bnd (Jx (w64 ((Df .i64 (w64 (p0.middle+(shr_ .i64 p0.low 30))) 1073741823)+(Df .i64 p0.low 1073741823)))) fun r8=>
 some r8)
 else (bnd (Jx (w64 (p0.high+(shr_ .i64 (w64 (p0.middle+(shr_ .i64 p0.low 30))) 30)))) fun r4=>
 some r4)
def Ot(p0:Ab)(p1:Ab)(p2:Ab)(p3:Ab):Option Int :=
 bnd (El (⟨0,0,0⟩:Ci) (w64 ((w64 ((w64 (p0.X-p3.X))*(w64 (p0.X-p3.X))))+(w64 ((w64 (p0.Y-p3.Y))*(w64 (p0.Y-p3.Y)))))) (w64 ((w64 ((w64 (p1.X-p3.X))*(w64 (p2.Y-p3.Y))))-(w64 ((w64 (p1.Y-p3.Y))*(w64 (p2.X-p3.X))))))) fun r6=>
 bnd (El r6 (w64 ((w64 ((w64 (p1.X-p3.X))*(w64 (p1.X-p3.X))))+(w64 ((w64 (p1.Y-p3.Y))*(w64 (p1.Y-p3.Y)))))) (w64 ((w64 ((w64 (p2.X-p3.X))*(w64 (p0.Y-p3.Y))))-(w64 ((w64 (p2.Y-p3.Y))*(w64 (p0.X-p3.X))))))) fun r9=>
 bnd (El r9 (w64 ((w64 ((w64 (p2.X-p3.X))*(w64 (p2.X-p3.X))))+(w64 ((w64 (p2.Y-p3.Y))*(w64 (p2.Y-p3.Y)))))) (w64 ((w64 ((w64 (p0.X-p3.X))*(w64 (p1.Y-p3.Y))))-(w64 ((w64 (p0.Y-p3.Y))*(w64 (p1.X-p3.X))))))) fun r0=>
 bnd (Jl r0) fun r1=>
 some r1
instance(p0:Ae):Con (At p0) prog 203 (fun _ vs=>vs=[.agg #[iq p0.X,iq p0.Y,iq p0.Z.Lo,iq p0.Z.Hi]]) (fun _ r v Ln=>v=.agg #[iq r.X,iq r.Y]/\Ln=[]/\True):=⟨by
 rintro _ _ r rfl hx w hK;unfold At at hx;refine CtS ntmps203 results203 ?_;exact au⟩
instance(p0:Ab):Con (Ex p0) prog 139 (fun _ vs=>vs=[.agg #[iq p0.X,iq p0.Y]]) (fun _ r v Ln=>v=.bool r/\Ln=[]/\True):=⟨by
 rintro _ _ r rfl hx w hK;unfold Ex at hx;refine CtS ntmps139 results139 ?_;exact au⟩
instance(p0:Ae):Con (Gy p0) prog 241 (fun _ vs=>vs=[.agg #[iq p0.X,iq p0.Y,iq p0.Z.Lo,iq p0.Z.Hi]]) (fun _ r v Ln=>v=.bool r/\Ln=[]/\True):=⟨by
 rintro _ _ r rfl hx w hK;unfold Gy at hx;refine CtS ntmps241 results241 ?_;exact au⟩
instance(p0:Ab)(p1:Ab):Con (Jq p0 p1) prog 244 (fun _ vs=>vs=[.agg #[iq p0.X,iq p0.Y],.agg #[iq p1.X,iq p1.Y]]) (fun _ r v Ln=>v=.bool r/\Ln=[]/\True):=⟨by
 rintro _ _ r rfl hx w hK;unfold Jq at hx;refine CtS ntmps244 results244 ?_;exact au⟩
instance(p0:Ab)(p1:Ab)(p2:Ab):Con (Tv p0 p1 p2) prog 251 (fun _ vs=>vs=[.agg #[iq p0.X,iq p0.Y],.agg #[iq p1.X,iq p1.Y],.agg #[iq p2.X,iq p2.Y]]) (fun _ r v Ln=>v=iq r/\Ln=[]/\True):=⟨by
 rintro _ _ r rfl hx w hK;unfold Tv at hx;refine CtS ntmps251 results251 ?_;exact au⟩
instance(p0:Int):Con (Jx p0) prog 250 (fun _ vs=>vs=[iq p0]) (fun _ r v Ln=>v=iq r/\Ln=[]/\True):=⟨by
 rintro _ _ r rfl hx w hK;unfold Jx at hx;refine CtS ntmps250 results250 ?_;exact au⟩
instance(p0:Ab)(p1:Ab)(p2:Ab):Con (Du p0 p1 p2) prog 202 (fun _ vs=>vs=[.agg #[iq p0.X,iq p0.Y],.agg #[iq p1.X,iq p1.Y],.agg #[iq p2.X,iq p2.Y]]) (fun _ r v Ln=>v=iq r/\Ln=[]/\True):=⟨by
 rintro _ _ r rfl hx w hK;unfold Du at hx;refine CtS ntmps202 results202 ?_;exact au⟩
instance(p0:Ci)(p1:Int)(p2:Int):Con (El p0 p1 p2) prog 299 (fun _ vs=>vs=[.agg #[iq p0.high,iq p0.middle,iq p0.low],iq p1,iq p2]) (fun _ r v Ln=>v=.agg #[iq r.high,iq r.middle,iq r.low]/\Ln=[]/\True):=⟨by
 rintro _ _ r rfl hx w hK;unfold El at hx;refine CtS ntmps299 results299 ?_;exact au⟩
instance(p0:Ci):Con (Jl p0) prog 300 (fun _ vs=>vs=[.agg #[iq p0.high,iq p0.middle,iq p0.low]]) (fun _ r v Ln=>v=iq r/\Ln=[]/\True):=⟨by
 rintro _ _ r rfl hx w hK;unfold Jl at hx;refine CtS ntmps300 results300 ?_;exact au⟩
instance(p0:Ab)(p1:Ab)(p2:Ab)(p3:Ab):Con (Ot p0 p1 p2 p3) prog 246 (fun _ vs=>vs=[.agg #[iq p0.X,iq p0.Y],.agg #[iq p1.X,iq p1.Y],.agg #[iq p2.X,iq p2.Y],.agg #[iq p3.X,iq p3.Y]]) (fun _ r v Ln=>v=iq r/\Ln=[]/\True):=⟨by
 rintro _ _ r rfl hx w hK;unfold Ot at hx;have:=dl 1 [0,1,0,1,0,0,1,0,1,0,0,1,0,1,0,0,1,0,1,0,0,1,0,1,0,0,1,0,1,0,2,2,2,2,2,2] [0,1,2,3,4,5,6,7,8,9,10,11,12,13,14,15,16,17,18,19,20,21,22,23,24,25,26,27,28,29,30,31,32,33,34,35];refine CtS ntmps246 results246 ?_;exact au⟩
def Mw(p0:Ab)(p1:Ab)(p2:Ab):Option Bool :=
 jn (fun (s2:Bool)=>
 some s2)
 (fun j2=>bnd (Du p0 p1 p2) fun r4=>
 if r4=0 then (if (min p0.X p1.X)<=p2.X then (if p2.X<=(max p0.X p1.X) then (if (min p0.Y p1.Y)<=p2.Y then (j2 (decide (p2.Y<=(max p0.Y p1.Y))))
 else (j2 false))
 else (j2 false))
 else (j2 false))
 else (j2 false))
def Dz(p0:List Ae):Int->Option (Sum Int (Sum Unit Int)):=fun s0=>
 if s0<(p0.length:Int) then (bnd (idx p0 s0) fun x0=>
 bnd (Gy x0) fun r0=>
 if r0=true then (some (.inl (w64 (s0+1))))
 else (some (.inr (.inr 60))))
 else (some (.inr (.inl ())))
def Gc(s0:Int)(p0:List Ae):Int->Option (Sum Int (Sum Unit Int)):=fun s1=>
 if s1<s0 then (jn (fun (s2:Bool)=>
 if s2=true then (some (.inr (.inr 61)))
 else (some (.inl (w64 (s1+1)))))
 (fun j0=>bnd (idx p0 s0) fun x0=>
 bnd (idx p0 s1) fun x1=>
 if x0.X=x1.X then (bnd (idx p0 s0) fun x2=>
 bnd (idx p0 s1) fun x3=>
 j0 (decide (x2.Y=x3.Y)))
 else (j0 false)))
 else (some (.inr (.inl ())))
def Di(p0:List Ae):Int->Option (Sum Int (Sum Unit Int)):=fun s0=>
 if s0<(p0.length:Int) then (jn (fun (s1:Unit)=>
 some (.inl (w64 (s0+1))))
 (fun j0=>bnd (lfix (Gc s0 p0) 0) fun t0=>
 (match t0 with
 |(.inl z0)=>j0 z0
 |(.inr z0)=>some (.inr (.inr z0))
 )))
 else (some (.inr (.inl ())))
def Ko(p0:List Ae):Option Int :=
 if 1024<(p0.length:Int) then (some 2)
 else (jn (fun (s5:Unit)=>
 jn (fun (s0:Unit)=>
 some 0)
 (fun j0=>bnd (lfix (Di p0) 0) fun t0=>
 (match t0 with
 |(.inl z0)=>j0 z0
 |(.inr z0)=>some z0
 )))
 (fun j5=>bnd (lfix (Dz p0) 0) fun t1=>
 (match t1 with
 |(.inl z1)=>j5 z1
 |(.inr z1)=>some z1
 )))
def Pn(p0:List Ae):(Int×Int)->Option (Sum (Int×Int) Int):=fun s0=>
 if s0.2<(p0.length:Int) then (jn (fun (s1:Int)=>
 some (.inl (s1,w64 (s0.2+1))))
 (fun j0=>bnd (idx p0 s0.2) fun x0=>
 bnd (idx p0 s0.1) fun x1=>
 bnd (At x0) fun r0=>
 bnd (At x1) fun r1=>
 bnd (Jq r0 r1) fun r2=>
 if r2=true then (j0 s0.2)
 else (j0 s0.1)))
 else (some (.inr s0.1))
def Qk(p0:List Ae):Option Int :=
 jn (fun (s3:Int)=>
 some s3)
 (fun j3=>bnd (lfix (Pn p0) (0,0)) fun t0=>
 j3 t0)
def Qw(p0:List Ae)(p1:Int)(p2:Bool):(Int×Int)->Option (Sum (Int×Int) Int):=fun s0=>
 if s0.2<(p0.length:Int) then (jn (fun (s1:Int)=>
 some (.inl (s1,w64 (s0.2+1))))
 (fun j0=>if s0.2=p1 then (j0 s0.1)
 else (if s0.1<0 then (j0 s0.2)
 else (bnd (idx p0 p1) fun x0=>
 bnd (idx p0 s0.1) fun x1=>
 bnd (idx p0 s0.2) fun x2=>
 bnd (At x0) fun r0=>
 bnd (At x1) fun r1=>
 bnd (At x2) fun r2=>
 bnd (Du r0 r1 r2) fun r3=>
 jn (fun (s2:Bool)=>
 if s2=true then (j0 s0.2)
 else (j0 s0.1))
 (fun j1=>if r3<0 then (j1 true)
 else (if r3=0 then (bnd (Mw r0 r1 r2) fun r4=>
 j1 (!(r4==p2)))
 else (j1 false)))))))
 else (some (.inr s0.1))
def Rv(p0:List Ae)(p1:Int)(p2:Bool):Option Int :=
 jn (fun (s3:Int)=>
 some s3)
 (fun j3=>bnd (lfix (Qw p0 p1 p2) (-1,0)) fun t0=>
 j3 t0)
def Qx(p0:List Ae):Int->Option (Sum Int (Sum Unit Bool)):=fun s0=>
 if s0<(p0.length:Int) then (bnd (idx p0 0) fun x0=>
 bnd (idx p0 1) fun x1=>
 bnd (idx p0 s0) fun x2=>
 bnd (At x0) fun r0=>
 bnd (At x1) fun r1=>
 bnd (At x2) fun r2=>
 bnd (Du r0 r1 r2) fun r3=>
 if r3=0 then (some (.inl (w64 (s0+1))))
 else (some (.inr (.inr false))))
 else (some (.inr (.inl ())))
def Rw(p0:List Ae):Option Bool :=
 jn (fun (s2:Unit)=>
 some true)
 (fun j2=>bnd (lfix (Qx p0) 2) fun t0=>
 (match t0 with
 |(.inl z0)=>j2 z0
 |(.inr z0)=>some z0
 ))
instance(p0:Ab)(p1:Ab)(p2:Ab):Con (Mw p0 p1 p2) prog 242 (fun _ vs=>vs=[.agg #[iq p0.X,iq p0.Y],.agg #[iq p1.X,iq p1.Y],.agg #[iq p2.X,iq p2.Y]]) (fun _ r v Ln=>v=.bool r/\Ln=[]/\True):=⟨by
 rintro _ _ r rfl hx w hK;unfold Mw at hx;refine CtS ntmps242 results242 ?_;refine pq ?_;intros;rename_i hx
 refine pA ?_;intros;rename_i hx
 apply Jr (γ:=Unit) hx [] (fun s2 y2 f=>(6,.bool s2)::f) [999] (fun s2 y2 l=>l);exact kk
 .exact aI
 .refine pI ?_;intros;rename_i hx
  refine Cq1 (s:=12) hx rfl ?_ ?_
  .exact aI
  .exact aI⟩
instance(p0:List Ae):Con (Ko p0) prog 193 (fun K vs=>∃U0 E0,vs=[.slice U0 p0.length E0]/\Has K U0 p0.length E0 4 Am p0/\True) (fun _ r v Ln=>v=iq r/\Ln=[]/\True):=⟨by
 rintro K _ r ⟨U0,E0,rfl,ha0,-⟩ hx w hK;replace ha0:=ha0.lo hK;unfold Ko at hx;have:=dl 15 [0,0,0,0,1,0,0,0,0,1,0,0,0,0,0,0,1,0,0,0,0,1,0,0] [0,1,2,3,4,5,6,7,8,9,10,11,12,13,14,15,16,17,18,19,20,21,22,23];refine CtS ntmps193 results193 ?_;refine pq ?_;intros;rename_i hx
 refine Cq1 (s:=8) hx rfl ?_ ?_
 .exact aI
 .refine pI ?_;intros;rename_i hx
  apply Jr (γ:=Unit) hx [0] (fun s5 y5 f=>f) [999] (fun s5 y5 l=>l);exact kk
  .intro s5 y5 hx;apply Jr (γ:=Unit) hx [] (fun s19 y19 f=>f) [999] (fun s19 y19 l=>l);exact kk
   .exact aI
   .refine pI ?_;intros;rename_i hx
    apply Lr (γ:=Unit) hx [0,22] (fun s166 y166 f=>(23,iq s166)::f) [999] (fun s166 y166 l=>l) ();exact kk;exact sk;intro s166 y166 x166 hx _;unfold Di at hx;refine pq ?_;intros;rename_i hx
    refine Cq1 (s:=24) hx rfl ?_ ?_
    .refine pI ?_;intros;rename_i hx
     apply Jr (γ:=Unit) hx [0,22,23] (fun s38 y38 f=>f) [999] (fun s38 y38 l=>l);exact kk
     .exact aI
     .refine pI ?_;intros;rename_i hx
      apply Lr (γ:=Unit) hx [0,4,22,23] (fun s226 y226 f=>(5,iq s226)::f) [999] (fun s226 y226 l=>l) ();exact kk;exact sk;intro s226 y226 x226 hx _;unfold Gc at hx;exact au
    .exact aI
  .refine pI ?_;intros;rename_i hx
   apply Lr (γ:=Unit) hx [0,10] (fun s25 y25 f=>(11,iq s25)::f) [999] (fun s25 y25 l=>l) ();exact kk;exact sk;intro s25 y25 x25 hx _;unfold Dz at hx;exact au⟩
instance(p0:List Ae):Con (Qk p0) prog 197 (fun K vs=>∃U0 E0,vs=[.slice U0 p0.length E0]/\Has K U0 p0.length E0 4 Am p0/\True) (fun _ r v Ln=>v=iq r/\Ln=[]/\True):=⟨by
 rintro K _ r ⟨U0,E0,rfl,ha0,-⟩ hx w hK;replace ha0:=ha0.lo hK;unfold Qk at hx;have:=dl 5 [0,0,0,1,2,0,0,0,1,2,2] [0,1,2,3,5,6,7,8,4,9,10];refine CtS ntmps197 results197 ?_;refine pq ?_;intros;rename_i hx
 refine pA ?_;intros;rename_i hx
 refine pA ?_;intros;rename_i hx
 apply Jr (γ:=Unit) hx [] (fun s3 y3 f=>(3,iq s3)::f) [999] (fun s3 y3 l=>l);exact kk
 .exact aI
 .refine pI ?_;intros;rename_i hx
  apply Lr (γ:=Unit) hx [0,6] (fun s0 y0 f=>(3,iq s0.1)::(7,iq s0.2)::f) [999] (fun s0 y0 l=>l) ();exact kk;exact sk;intro s0 y0 x0 hx _;unfold Pn at hx;exact au⟩
instance(p0:List Ae)(p1:Int)(p2:Bool):Con (Rv p0 p1 p2) prog 198 (fun K vs=>∃U0 E0,vs=[.slice U0 p0.length E0,iq p1,.bool p2]/\Has K U0 p0.length E0 4 Am p0/\True) (fun _ r v Ln=>v=iq r/\Ln=[]/\True):=⟨by
 rintro K _ r ⟨U0,E0,rfl,ha0,-⟩ hx w hK;replace ha0:=ha0.lo hK;unfold Rv at hx;have:=dl 8 [0,0,0,1,2,0,0,0,1,2,0,0,0,1,2,4,4,4,3,3,3] [0,1,2,3,5,6,7,8,10,11,12,13,4,9,14,15,16,17,18,19,20] [15,16,17];refine CtS ntmps198 results198 ?_;refine pq ?_;intros;rename_i hx
 refine pA ?_;intros;rename_i hx
 refine pA ?_;intros;rename_i hx
 apply Jr (γ:=Unit) hx [] (fun s3 y3 f=>(7,iq s3)::f) [999] (fun s3 y3 l=>l);exact kk
 .exact aI
 .refine pI ?_;intros;rename_i hx
  apply Lr (γ:=Unit) hx [0,1,2,14] (fun s0 y0 f=>(7,iq s0.1)::(15,iq s0.2)::f) [999] (fun s0 y0 l=>l) ();exact kk;exact sk;intro s0 y0 x0 hx _;unfold Qw at hx;refine pq ?_;intros;rename_i hx
  refine Cq1 (s:=16) hx rfl ?_ ?_
  .refine pI ?_;intros;rename_i hx
   apply Jr (γ:=Unit) hx [0,1,2,14,15] (fun s1 y1 f=>(7,iq s1)::f) [999] (fun s1 y1 l=>l);exact kk
   .exact aI
   .refine pI ?_;intros;rename_i hx
    refine Cq1 (s:=20) hx rfl ?_ ?_
    .exact aI
    .refine pI ?_;intros;rename_i hx
     refine Cq1 (s:=22) hx rfl ?_ ?_
     .exact aI
     .refine pI ?_;intros;rename_i hx
      apply Jr (γ:=Unit) hx [0,1,2,7,8,14,15] (fun s2 y2 f=>(56,.bool s2)::f) [999] (fun s2 y2 l=>l);exact kk
      .exact aI
      .exact aI
  .exact aI⟩
instance(p0:List Ae):Con (Rw p0) prog 196 (fun K vs=>∃U0 E0,vs=[.slice U0 p0.length E0]/\Has K U0 p0.length E0 4 Am p0/\True) (fun _ r v Ln=>v=.bool r/\Ln=[]/\True):=⟨by
 rintro K _ r ⟨U0,E0,rfl,ha0,-⟩ hx w hK;replace ha0:=ha0.lo hK;unfold Rw at hx;have:=dl 4 [0,0,1,2,0,0,1,2,0,0,0,1,2,2,0] [0,1,2,4,5,6,8,9,10,11,3,7,12,13,14];refine CtS ntmps196 results196 ?_;refine pq ?_;intros;rename_i hx
 refine pA ?_;intros;rename_i hx
 apply Jr (γ:=Unit) hx [] (fun s2 y2 f=>f) [999] (fun s2 y2 l=>l);exact kk
 .exact aI
 .refine pI ?_;intros;rename_i hx
  apply Lr (γ:=Unit) hx [0] (fun s0 y0 f=>(3,iq s0)::f) [999] (fun s0 y0 l=>l) ();exact kk;exact sk;intro s0 y0 x0 hx _;unfold Qx at hx;exact au⟩
instance:Bt prog 26 0 0:=⟨.mk underlying26 rfl rfl (kr:prog.info? 22=some Tryz.t22) (kr:Tryz.t22.size=1) rfl⟩
instance:Bt prog 26 1 1:=⟨.mk underlying26 rfl rfl (kr:prog.info? 23=some t23) (kr:t23.size=1) rfl⟩
instance:OneI prog 23:=⟨.mk underlying23 rfl (kr:prog.info? 23=some t23) kr⟩
instance:Bt prog 26 2 2:=⟨.mk underlying26 rfl rfl (kr:prog.info? 24=some t24) (kr:t24.size=1) rfl⟩
instance:OneI prog 24:=⟨.mk underlying24 rfl (kr:prog.info? 24=some t24) kr⟩
theorem Bgd(a0:Int)(a1:Int)(a2:Int)(a3:Int)(b0:Int)(b1:Int)(b2:Int)(b3:Int):∀w,(Op.equalIn 10000 108 (.agg #[iq a0,iq a1,iq a2,iq a3]) (.agg #[iq b0,iq b1,iq b2,iq b3])).run prog w=.ok (((a0==b0)&&((a1==b1)&&(((a2==b2)&&((a3==b3)&&true))&&true)))) w :=
 EqF.struct underlying108 kr (.cons rfl (fun w=>kr) (fun w=>kr) (fun w=>run_equalIn_int w 9998 3 .i64 .i64 _ _ underlying3) (.cons rfl (fun w=>kr) (fun w=>kr) (fun w=>run_equalIn_int w 9998 3 .i64 .i64 _ _ underlying3) (.cons (a:=.agg #[iq a2,iq a3]) (b:=.agg #[iq b2,iq b3]) rfl (fun w=>kr) (fun w=>kr) (EqF.struct underlying28 kr (.cons rfl (fun w=>kr) (fun w=>kr) (fun w=>run_equalIn_int w 9997 3 .i64 .i64 _ _ underlying3) (.cons rfl (fun w=>kr) (fun w=>kr) (fun w=>run_equalIn_int w 9997 3 .i64 .i64 _ _ underlying3) EqF.nil))) EqF.nil)))
instance(a0:Int)(a1:Int)(a2:Int)(a3:Int)(b0:Int)(b1:Int)(b2:Int)(b3:Int):EqSI prog 108 [iq a0,iq a1,iq a2,iq a3] [iq b0,iq b1,iq b2,iq b3] (((a0==b0)&&((a1==b1)&&(((a2==b2)&&((a3==b3)&&true))&&true)))):=⟨Bgd _ _ _ _ _ _ _ _,kr⟩
instance:Kt prog 23 101 3:=⟨.mk underlying23 (kr:prog.info? 101=some t101) kr⟩
instance:AggI prog 101 3:=⟨.arr underlying101 (kr:prog.info? 101=some t101) kr⟩
theorem Bge(a0:Int)(a1:Int)(a2:Int)(b0:Int)(b1:Int)(b2:Int):∀w,(Op.equalIn 10000 101 (.agg #[iq a0,iq a1,iq a2]) (.agg #[iq b0,iq b1,iq b2])).run prog w=.ok (((a0==b0)&&((a1==b1)&&((a2==b2)&&true)))) w :=
 EqI.array (c:=1) underlying101 (kr:prog.info? 3=some Tryz.t3) kr (.cons (fun w=>kr) (fun w=>kr) (fun w=>run_equalIn_int w 9998 3 .i64 .i64 _ _ underlying3) (.cons (fun w=>kr) (fun w=>kr) (fun w=>run_equalIn_int w 9998 3 .i64 .i64 _ _ underlying3) (.cons (fun w=>kr) (fun w=>kr) (fun w=>run_equalIn_int w 9998 3 .i64 .i64 _ _ underlying3) EqI.nil)))
instance(a0:Int)(a1:Int)(a2:Int)(b0:Int)(b1:Int)(b2:Int):EqSI prog 101 [iq a0,iq a1,iq a2] [iq b0,iq b1,iq b2] (((a0==b0)&&((a1==b1)&&((a2==b2)&&true)))):=⟨Bge _ _ _ _ _ _,kr⟩
theorem Bgf(a0:Int)(a1:Int)(b0:Int)(b1:Int):∀w,(Op.equalIn 10000 103 (.agg #[iq a0,iq a1]) (.agg #[iq b0,iq b1])).run prog w=.ok (((a0==b0)&&((a1==b1)&&true))) w :=
 EqI.array (c:=1) underlying103 (kr:prog.info? 3=some Tryz.t3) kr (.cons (fun w=>kr) (fun w=>kr) (fun w=>run_equalIn_int w 9998 3 .i64 .i64 _ _ underlying3) (.cons (fun w=>kr) (fun w=>kr) (fun w=>run_equalIn_int w 9998 3 .i64 .i64 _ _ underlying3) EqI.nil))
instance(a0:Int)(a1:Int)(b0:Int)(b1:Int):EqSI prog 103 [iq a0,iq a1] [iq b0,iq b1] (((a0==b0)&&((a1==b1)&&true))):=⟨Bgf _ _ _ _,kr⟩
instance:UndI prog 23 (.slice 101):=⟨underlying23⟩
def Eb(p0:Al)(p1:Al):Int->Option (Sum Int (Sum Unit Bool)):=fun s0=>
 if s0<(p0.V.length:Int) then (bnd (idx p0.V s0) fun x0=>
 bnd (idx p1.V s0) fun x1=>
 if (((x0.X==x1.X)&&((x0.Y==x1.Y)&&(((x0.Z.Lo==x1.Z.Lo)&&((x0.Z.Hi==x1.Z.Hi)&&true))&&true))))=true then (some (.inl (w64 (s0+1))))
 else (some (.inr (.inr false))))
 else (some (.inr (.inl ())))
def Dj(p0:Al)(p1:Al):Int->Option (Sum Int (Sum Unit Bool)):=fun s0=>
 if s0<(p0.T.length:Int) then (bnd (idx p0.T s0) fun x0=>
 bnd (idx p1.T s0) fun x1=>
 if (((x0.a0==x1.a0)&&((x0.a1==x1.a1)&&((x0.a2==x1.a2)&&true))))=true then (some (.inl (w64 (s0+1))))
 else (some (.inr (.inr false))))
 else (some (.inr (.inl ())))
def Js(p0:Al):Int->Option (Sum Int Unit):=fun s0=>
 if s0<(p0.Lines.length:Int) then none
 else (some (.inr ()))
def Kq(p0:Al)(p1:Al):Option Bool :=
 jn (fun (s3:Bool)=>
 if s3=true then (some false)
 else (jn (fun (s5:Unit)=>
 jn (fun (s0:Unit)=>
 jn (fun (s1:Unit)=>
 some true)
 (fun j0=>bnd (lfix (Js p0) 0) fun t0=>
 j0 t0))
 (fun j1=>bnd (lfix (Dj p0 p1) 0) fun t1=>
 (match t1 with
 |(.inl z0)=>j1 z0
 |(.inr z0)=>some z0
 )))
 (fun j5=>bnd (lfix (Eb p0 p1) 0) fun t2=>
 (match t2 with
 |(.inl z1)=>j5 z1
 |(.inr z1)=>some z1
 ))))
 (fun j3=>if (p0.V.length:Int)=(p1.V.length:Int) then (if (p0.T.length:Int)=(p1.T.length:Int) then (j3 (!(decide ((p0.Lines.length:Int)=(p1.Lines.length:Int)))))
 else (j3 true))
 else (j3 true))
instance(p0:Al)(p1:Al):Con (Kq p0 p1) prog 83 (fun K vs=>∃U0 E0 U1 E1 U2 E2 U3 E3 U4 E4 U5 E5,vs=[.agg #[.slice U0 p0.V.length E0,.slice U1 p0.T.length E1,.slice U2 p0.Lines.length E2],.agg #[.slice U3 p1.V.length E3,.slice U4 p1.T.length E4,.slice U5 p1.Lines.length E5]]/\Has K U0 p0.V.length E0 4 Am p0.V/\Has K U1 p0.T.length E1 3 Az p0.T/\Has K U2 p0.Lines.length E2 2 Ar p0.Lines/\Has K U3 p1.V.length E3 4 Am p1.V/\Has K U4 p1.T.length E4 3 Az p1.T/\Has K U5 p1.Lines.length E5 2 Ar p1.Lines/\True) (fun _ r v Ln=>v=.bool r/\Ln=[]/\True):=⟨by
 rintro K _ r ⟨U0,E0,U1,E1,U2,E2,U3,E3,U4,E4,U5,E5,rfl,ha0,ha1,ha2,ha3,ha4,ha5,-⟩ hx w hK;replace ha0:=ha0.lo hK;replace ha1:=ha1.lo hK;replace ha2:=ha2.lo hK;replace ha3:=ha3.lo hK;replace ha4:=ha4.lo hK;replace ha5:=ha5.lo hK;unfold Kq at hx;have:=dl 6 [0,1,0,0,1,0,1,0,0,1,0] [0,1,2,3,4,5,6,7,8,9,10];have:=dl 12 [0,1,0,0,1,0,1,0,0,1,0] [0,1,2,3,4,5,6,7,8,9,10];refine CtS ntmps83 results83 ?_;refine pq ?_;intros;rename_i hx
 refine pA ?_;intros;rename_i hx
 refine pA ?_;intros;rename_i hx
 apply Jr (γ:=Unit) hx [2,3] (fun s3 y3 f=>(32,.bool s3)::f) [0,1,999] (fun s3 y3 l=>l);exact kk
 .intro s3 y3 hx;refine Cq3 (s:=32) hx rfl ?_ ?_
  .exact aI
  .refine pI ?_;intros;rename_i hx
   apply Jr (γ:=Unit) hx [2,3] (fun s5 y5 f=>f) [0,1,999] (fun s5 y5 l=>l);exact kk
   .intro s5 y5 hx;apply Jr (γ:=Unit) hx [2,3] (fun s0 y0 f=>f) [0,1,999] (fun s0 y0 l=>l);exact kk
    .intro s0 y0 hx;apply Jr (γ:=Unit) hx [] (fun s1 y1 f=>f) [999] (fun s1 y1 l=>l);exact kk
     .exact aI
     .refine pI ?_;intros;rename_i hx
      apply Lr (γ:=Unit) hx [2,3,71] (fun s2 y2 f=>(72,iq s2)::f) [0,1,999] (fun s2 y2 l=>l) ();exact kk;exact sk;intro s2 y2 x0 hx _;unfold Js at hx;exact au
    .refine pI ?_;intros;rename_i hx
     apply Lr (γ:=Unit) hx [2,3,53] (fun s4 y4 f=>(54,iq s4)::f) [0,1,999] (fun s4 y4 l=>l) ();exact kk;exact sk;intro s4 y4 x1 hx _;unfold Dj at hx;exact au
   .refine pI ?_;intros;rename_i hx
    apply Lr (γ:=Unit) hx [2,3,35] (fun s6 y6 f=>(36,iq s6)::f) [0,1,999] (fun s6 y6 l=>l) ();exact kk;exact sk;intro s6 y6 x2 hx _;unfold Eb at hx;exact au
 .exact aI⟩
end
end Go.Proofs.YthlkpgdfifnagaaGreat
