import Derived.Test.YtlejkgngmjchdaaGreatF4
set_option maxRecDepth 100000
set_option maxHeartbeats 1000000
namespace Go.Proofs.YtlejkgngmjchdaaGreat
open Go Go.RowKit Tryz List
theorem Apr:Mi prog 50 245 1:=.mk underlying50 (kr:prog.info? 245=some t245) kr
instance:Lj prog 50 245 1:=⟨Apr⟩
instance:Jg prog 62 [] [.bool false,.slice none 0 0,.slice none 0 0]:=⟨fun w=>kr⟩
instance:Dz prog 42 0 0:=⟨.mk underlying42 rfl rfl (kr:prog.info? 22=some Tryz.t22) (kr:Tryz.t22.size=1) rfl⟩
instance:Dz prog 42 1 1:=⟨.mk underlying42 rfl rfl (kr:prog.info? 24=some t24) (kr:t24.size=1) rfl⟩
instance:Jg prog 105 [] [.int .i64 0,.int .i64 0,.int .i64 0,.int .i64 0]:=⟨fun w=>kr⟩
instance(x0:Int):Jg prog 105 [(0,.int .i64 x0)] [.int .i64 x0,.int .i64 0,.int .i64 0,.int .i64 0]:=⟨fun w=>kr⟩
instance(x0:Int):Jg prog 105 [(1,.int .i64 x0)] [.int .i64 0,.int .i64 x0,.int .i64 0,.int .i64 0]:=⟨fun w=>kr⟩
instance(x0:Int)(x1:Int):Jg prog 105 [(0,.int .i64 x0),(1,.int .i64 x1)] [.int .i64 x0,.int .i64 x1,.int .i64 0,.int .i64 0]:=⟨fun w=>kr⟩
instance(x0:Int)(x1:Int)(x2:Int)(x3:Int)(x4:Int)(x5:Int)(x6:Int)(x7:Int)(x8:Int)(x9:Int)(x10:Int)(x11:Int)(x12:Int)(x13:Int)(x14:Int)(x15:Int):Kg prog 22 4 [(0,.agg #[.int .i64 x0,.int .i64 x1,.int .i64 x2,.int .i64 x3]),(1,.agg #[.int .i64 x4,.int .i64 x5,.int .i64 x6,.int .i64 x7]),(2,.agg #[.int .i64 x8,.int .i64 x9,.int .i64 x10,.int .i64 x11]),(3,.agg #[.int .i64 x12,.int .i64 x13,.int .i64 x14,.int .i64 x15])] 105 [.int .i64 x0,.int .i64 x1,.int .i64 x2,.int .i64 x3,.int .i64 x4,.int .i64 x5,.int .i64 x6,.int .i64 x7,.int .i64 x8,.int .i64 x9,.int .i64 x10,.int .i64 x11,.int .i64 x12,.int .i64 x13,.int .i64 x14,.int .i64 x15]:=⟨fun w=>kr⟩
instance:AggI prog 42 2:=⟨.mk underlying42 rfl (kr:prog.info? 42=some t42) kr⟩
instance:UndI prog 50 (.slice 245):=⟨underlying50⟩
noncomputable def Js(p0:LI):Int->Option (Sum Int Int):=fun s0=>
 jn (fun (s7:Bool)=>
 if s7=true then (some (.inl (w64 (s0-1))))
 else (some (.inr s0)))
 (fun j7=>if 0<s0 then (bnd (idx p0 (w64 (s0-1))) fun x0=>
 j7 (decide (x0=0)))
 else (j7 false))
noncomputable def Jt(s3:Int)(p0:LI):(LI×Int)->Option (Sum (LI×Int) LI):=fun s0=>
 if s0.2<s3 then (bnd (idx p0 s0.2) fun x0=>
 bnd (idx p0 s0.2) fun x1=>
 gd ((s0.1.length+2)*8<=140737488355328)<|
 some (.inl (s0.1++[w64 (Int.tmod x0 65536),w64 (wu32 (Int.tdiv x1 65536))],w64 (s0.2+1))))
 else (some (.inr s0.1))
noncomputable def Gi(p0:LI):Option (LI×Bool):=
 jn (fun (s3:Int)=>
 if 256<s3 then (some (([]:LI),false))
 else (jn (fun (s0:LI)=>
 bnd (Br s0) fun r0=>
 some (r0,true))
 (fun j0=>bnd (lfix (Jt s3 p0) (([]:LI),0)) fun t0=>
 j0 t0)))
 (fun j3=>bnd (lfix (Js p0) (p0.length:Int)) fun t1=>
 j3 t1)
noncomputable def Rf(p0:As):Option (Aj×Bool):=
 bnd (Gi p0.Num) fun r3=>
 bnd (Gi p0.Den) fun r8=>
 jn (fun (s5:Bool)=>
 if s5=true then (some ((⟨(⟨false,([]:LI)⟩:Ae),([]:LI)⟩:Aj),false))
 else (jn (fun (s7:LI)=>
 jn (fun (s9:Bool×LI×LI)=>
 some ((⟨(⟨s9.1,s9.2.1⟩:Ae),s9.2.2⟩:Aj),true))
 (fun j9=>if p0.Neg=true then (bnd (Cg (⟨decide (0<(r3.1.length:Int)),r3.1⟩:Ae) (⟨false,s7⟩:Ae)) fun r0=>
 j9 (r0.N.Neg,r0.N.L,r0.D))
 else (bnd (Cg (⟨false,r3.1⟩:Ae) (⟨false,s7⟩:Ae)) fun r1=>
 j9 (r1.N.Neg,r1.N.L,r1.D))))
 (fun j7=>if (r8.1.length:Int)=0 then (j7 ([1]))
 else (j7 r8.1))))
 (fun j5=>if r3.2=true then (j5 (!(r8.2)))
 else (j5 true))
structure Ej where
 V:List Aa
 Lines:List Ab
noncomputable def Hr(p0:Ej)(p1:Int)(p2:Int):Option Bool :=
 jn (fun (s2:Bool)=>
 some s2)
 (fun j2=>if p1<(p0.V.length:Int) then (j2 true)
 else (j2 (decide (p2<(p0.Lines.length:Int)))))
noncomputable def Gj  : Option Bool :=
 bnd (Me ([(⟨0,0,(⟨0,0⟩:Af)⟩:Aa),(⟨2,0,(⟨0,0⟩:Af)⟩:Aa),(⟨0,2,(⟨0,0⟩:Af)⟩:Aa),(⟨2,2,(⟨0,0⟩:Af)⟩:Aa)]) ([]:List Ab)) fun r3=>
 jn (fun (s3:Bool)=>
 some s3)
 (fun j3=>if r3.2=0 then (if (r3.1.T.length:Int)=2 then (bnd (idx r3.1.T 0) fun x0=>
 if (((x0.a0==0)&&((x0.a1==1)&&((x0.a2==2)&&true))))=true then (bnd (idx r3.1.T 1) fun x1=>
 j3 ((x1.a0==1)&&((x1.a1==3)&&((x1.a2==2)&&true))))
 else (j3 false))
 else (j3 false))
 else (j3 false))
noncomputable def Cp(p0:As)(p1:Aj):Option Bool :=
 bnd (Rf p0) fun r3=>
 jn (fun (s3:Bool)=>
 some s3)
 (fun j3=>if r3.2=true then (bnd (Iq r3.1 p1) fun r0=>
 j3 (decide (r0=0)))
 else (j3 false))
noncomputable def Ml(p0:As):Option Bool :=
 bnd (Cl 0) fun r2=>
 bnd (Cp p0 r2) fun r0=>
 some r0
noncomputable def Bv(p0:Ej)(p1:Ad):Option Bool :=
 bnd (Hr p0 24 8) fun r3=>
 if r3=true then (bnd Gj fun r8=>
 some r8)
 else (bnd (Bt p0.V p0.Lines) fun r0=>
 if r0.2=0 then (bnd (La r0.1 p1) fun r1=>
 bnd (Dg r0.1 p1) fun r2=>
 bnd (Fj r0.1 p1) fun r4=>
 bnd (Hs r0.1 p1) fun r5=>
 jn (fun (s0:Bool)=>
 if s0=true then (some false)
 else (if r2.2=0 then (bnd (Fk r0.1 p1) fun r6=>
 bnd (Hg r0.1 p1) fun r7=>
 jn (fun (s1:Bool)=>
 some s1)
 (fun j0=>bnd (Cp r4.1 r6.1) fun r9=>
 if r9=true then (bnd (Cp r4.2.1 r6.2.1) fun r10=>
 if r10=true then (if (((r5.1.Lo==r7.1.Lo)&&((r5.1.Hi==r7.1.Hi)&&true)))=true then (bnd Gj fun r11=>
 j0 r11)
 else (j0 false))
 else (j0 false))
 else (j0 false)))
 else (jn (fun (s2:Bool)=>
 some s2)
 (fun j1=>bnd (Ml r4.1) fun r95=>
 if r95=true then (bnd (Ml r4.2.1) fun r13=>
 if r13=true then (if (((r5.1.Lo==0)&&((r5.1.Hi==0)&&true)))=true then (bnd Gj fun r14=>
 j1 r14)
 else (j1 false))
 else (j1 false))
 else (j1 false)))))
 (fun j2=>if r1.1=r2.1 then (if r1.2=r2.2 then (if r4.2.2=r2.2 then (j2 (!(decide (r5.2=r2.2))))
 else (j2 true))
 else (j2 true))
 else (j2 true)))
 else (bnd Gj fun r24=>
 some r24))
theorem Aa9(p0:LI){K:LE}{E0:OA}{G0:Nat}(ha0:Has K E0 p0.length G0 1 Ak p0){r:LI×Bool}(hx:Gi p0=some r)(w:World)(hK:∀e∈K,Ent.ok w e):CtL prog 86 [.slice E0 p0.length G0] w fun v Ln=>∃(A0:OA) (c0:Nat),v=.tuple #[.slice A0 r.1.length c0,.bool r.2]/\Ln=[.r A0 r.1.length c0 3 1 (r.1.flatMap Ao)]/\True:=by
 have ha0':=Has.up0 ha0;refine CtL.mk 45 func86 rfl ntmps86 kr rfl ?_;show T 45 _ [(0,.slice E0 p0.length G0)] _;unfold Gi at hx;refine Y9 ?_;refine Ay (Gf rfl 245 underlying50) rfl ?_;refine Y3 ?_;refine Tj (γ:=Unit) hx (fun s3 y3=>[(0,.slice E0 p0.length G0),(4,.int .i64 s3)]) (fun s3 y3=>[]++[.old w]) (fun s3 y3=>True) (fun s3 y3 hx0 hG0=>?_) (fun j3 hx=>?_)
 .refine Y7 ?_;refine Ti hx0 (s:=22) rfl (fun h0 hx1=>?_) (fun h0 hx2=>?_)
  .refine Y9 ?_;refine Bf 3 1 ?_;obtain rfl:=oI hx1;exact Kf (rs:=[.tmp 2,.tmp 3]) results86 (.tmp rfl (.tmp rfl (.nil))) (Ln:=[.r none 0 0 3 1 ((([]:LI)).flatMap Ao)]) ⟨none,0,rfl,rfl,trivial⟩ (Cj rfl Iz) (by exact .pick 0 rfl (.refl))
  .refine Y8 ?_;refine Tj (γ:=OA×Nat) hx2 (fun s0 y0=>[(5,.slice y0.1 s0.length y0.2)]) (fun s0 y0=>[.r y0.1 s0.length y0.2 3 1 (s0.flatMap Ao)]++[.old w]) (fun s0 y0=>True) (fun s0 y0 hx3 hG1=>?_) (fun j0 hx2=>?_)
   .refine Y3 ?_;refine Abt (k:=0) rfl dD (fun _=>rfl) (fun hn0 hs0=>?_);obtain⟨r0,h1,hx4⟩:=Aq hx3;refine T_x (Gl rfl (fun w1 hw1=>Ry s0 (Has.len' hs0) h1 w1 (Ad9 (K:=([.r y0.1 s0.length y0.2 3 1 (s0.flatMap Ao)]:LE)) (by exact (sb 0)) hw1)) rfl ?_);rintro _ _ hlo ⟨rfl,rfl,hs1,-⟩;refine Adk ?_;refine Akr (r:=r0) (Agd h1) (.here) dD (fun _=>rfl) ?_;refine Y5 ?_;obtain rfl:=oI hx4;exact Kf (rs:=[.tmp 2,.tmp 3]) results86 (.tmp rfl (.tmp rfl (.nil))) (Ln:=[.r y0.1 r0.length y0.2 3 1 (r0.flatMap Ao)]) ⟨y0.1,y0.2,rfl,rfl,trivial⟩ (Cj rfl Iz) (by exact .pick 0 rfl (.refl))
   .refine Y6 ?_;obtain⟨t0,hl0,ho0⟩:=Aq hx2;refine Bf 3 1 ?_;have hn1:0=(([]:LI)).length:=by simp[Je,Qx,length_append] <;> omega
    refine Wt (.here) (e':=.r none ((([]:LI)).length) 0 3 1 ((([]:LI)).flatMap Ao)) (by first|(rw[<-hn1];done)|rfl) ?_;refine Lp (σ:=LI×Int) (γ:=OA×Nat) hl0 (fun s1 y1=>[(0,.slice E0 p0.length G0),(4,.int .i64 s3),(5,.slice y1.1 s1.1.length y1.2),(6,.int .i64 s1.2)]) (fun s1 y1=>[.r y1.1 s1.1.length y1.2 3 1 (s1.1.flatMap Ao)]++[.old w]) (fun s1 y1=>True) (none,0) trivial (by exact .pick 0 rfl (.refl)) ?_;intro s1 y1 hG2 x0 hx5 ht0;unfold Jt at hx5;refine Y8 ?_;refine Ti hx5 (s:=25) rfl (fun h2 hx6=>?_) (fun h2 hx7=>?_)
    .refine Y5 ?_;refine T_dr [0,0,0,0,1,0,0,0,0,0,1,0,0,2,3,2] (.q 0 (.q 1 (.q 2 (.q 3 (.q 4 (.q 5 (.q 6 (.q 7 (.q 8 (.q 9 (.q 10 (.q 11 (.q 12 (.e 13 (.e 14 (.e 15 (.done) (.stop)) (.stop)) (.stop))))))))))))))) mixed kr kr ?_;refine Y3 ?_;obtain⟨x1,h3,hx8⟩:=Aq hx6;have hw0:=Has.low (E:=[]) ha0' hK;obtain⟨b0,o0,j1,hA0,hj0,hl1,hp0⟩:=Has.at_idx hw0 h3;refine P_p rfl rfl (By rfl rfl hA0 (j:=j1) hj0 hl1 Apr) rfl ?_;refine P_q rfl rfl (Cd rfl hp0 (sb 1) rfl Gg) rfl ?_;refine P_p rfl rfl (Akg rfl rfl dD) rfl ?_;refine P_p rfl rfl (Ue rfl kr underlying3) rfl ?_;refine Y2 ?_;obtain⟨x2,h4,hx9⟩:=Aq hx8;have hw2:=Has.low (E:=[]) ha0' hK;obtain⟨b1,o1,j2,hA1,hj1,hl2,hp1⟩:=Has.at_idx hw2 h4;refine P_p rfl rfl (By rfl rfl hA1 (j:=j2) hj1 hl2 Apr) rfl ?_;refine P_q rfl rfl (Cd rfl hp1 (sb 1) rfl Gg) rfl ?_;refine P_p rfl rfl (Amv rfl rfl dD) rfl ?_;refine P_p rfl rfl (Ue rfl kr underlying3) rfl ?_;refine P_x rfl (Gx rfl (Xg _ _) rfl (fun g0=>?_)) ?_;rotate_left;exact Oh;obtain⟨h5,hx10⟩:=Dv hx9;refine P_h rfl rfl (Rw Ao s1.1 [w64 (Int.tmod x1 65536),w64 (wu32 (Int.tdiv x2 65536))] rfl rfl rfl Axg (fun _=>rfl) (i':=0) rfl rfl rfl rfl h5 rfl (fun _ _=>.there (.here)) (fun _ _=>.drop .refl) dD (fun A1 c1=>?_)) ?_
     rotate_left;exact Oh;refine P_x rfl (Zd (Sk rfl) rfl ?_) ?_;rotate_left;exact Oh;refine Y8 ?_;exact Rp (s1.1++[w64 (Int.tmod x1 65536),w64 (wu32 (Int.tdiv x2 65536))],w64 (s1.2+1)) (A1,c1) hx10 trivial (by exact .pick 0 rfl (.refl))
    .refine Y3 ?_;obtain rfl:=Mg ht0 hx7;refine Y2 ?_;exact Mt s1.1 (y1.1,y1.2) ho0 trivial (by exact .pick 0 rfl (.refl))
 .refine Y ?_;obtain⟨t1,hl3,ho1⟩:=Aq hx;refine Lp (σ:=Int) (γ:=Unit) hl3 (fun s2 y2=>[(0,.slice E0 p0.length G0),(4,.int .i64 s2)]) (fun s2 y2=>[]++[.old w]) (fun s2 y2=>True) () trivial (by exact .refl) ?_;intro s2 y2 hG3 x3 hx21 ht1;unfold Js at hx21;refine Y ?_;refine Tj (γ:=Unit) hx21 (fun s7 y7=>[(0,.slice E0 p0.length G0),(4,.int .i64 s2),(18,.bool s7)]) (fun s7 y7=>[]++[.old w]) (fun s7 y7=>True) (fun s7 y7 hx36 hG4=>?_) (fun j7 hx21=>?_)
  .refine Nm (s:=18) rfl (fun h6=>?_) (fun h6=>?_)
   .have hx39:=Qc h6 hx36;refine Y10 ?_;exact Rp (w64 (s2-1)) () hx39 trivial (by exact .refl)
   .have hx40:=Sq h6 hx36;refine Y3 ?_;obtain rfl:=Mg ht1 hx40;refine Y2 ?_;exact Mt s2 () ho1 trivial (by exact .refl)
  .refine Y4 ?_;refine Ti hx21 (s:=11) rfl (fun h7 hx23=>?_) (fun h7 hx35=>?_)
   .refine Y3 ?_;obtain⟨x4,h8,hx26⟩:=Aq hx23;have hw3:=Has.low (E:=[]) ha0' hK;obtain⟨b2,o2,j4,hA2,hj2,hl4,hp2⟩:=Has.at_idx hw3 h8;refine Pv rfl rfl rfl (By rfl rfl hA2 (j:=j4) hj2 hl4 Apr) rfl ?_;refine Pv rfl rfl rfl (Cd rfl hp2 (sb 0) rfl Gg) rfl ?_;refine Y3 ?_;exact Mt (decide (x4=0)) () hx26 trivial (by exact .refl)
   .refine Y8 ?_;exact Mt false () hx35 trivial (by exact .refl)
instance(p0:LI):Con (Gi p0) prog 86 (fun K vs=>∃E0 G0,vs=[.slice E0 p0.length G0]/\Has K E0 p0.length G0 1 Ak p0/\True) (fun _ r v Ln=>∃A0 c0,v=.tuple #[.slice A0 r.1.length c0,.bool r.2]/\Ln=[.r A0 r.1.length c0 3 1 (r.1.flatMap Ao)]/\True):=⟨by
 rintro K _ r ⟨E0,G0,rfl,ha0,-⟩ hx w hK;exact Aa9 p0 ha0 hx w hK⟩
instance(p0:As):Con (Rf p0) prog 32 (fun K vs=>∃E0 G0 E1 G1,vs=[.agg #[.bool p0.Neg,.slice E0 p0.Num.length G0,.slice E1 p0.Den.length G1]]/\Has K E0 p0.Num.length G0 1 Ak p0.Num/\Has K E1 p0.Den.length G1 1 Ak p0.Den/\True) (fun _ r v Ln=>∃A0 c0 A2 c2,v=.tuple #[.agg #[.bool r.1.N.Neg,.slice A0 r.1.N.L.length c0,.slice A2 r.1.D.length c2],.bool r.2]/\Ln=[.r A0 r.1.N.L.length c0 3 1 (r.1.N.L.flatMap Ao),.r A2 r.1.D.length c2 3 1 (r.1.D.flatMap Ao)]/\True):=⟨by
 rintro K _ r ⟨E0,G0,E1,G1,rfl,ha0,ha1,-⟩ hx w hK;replace ha0:=ha0.lo hK;replace ha1:=ha1.lo hK;unfold Rf at hx;refine CtS ntmps32 results32 ?_;refine pq ?_;intros;rename_i hx
 refine pA ?_;intros;rename_i hx
 apply Jr (γ:=Unit) hx [1,2,4,6] (fun s5 y5 f=>(25,.bool s5)::f) [0,1,2,3,999] (fun s5 y5 l=>l);exact kk
 .intro s5 y5 hx;refine Cq3 (s:=25) hx rfl ?_ ?_
  .exact aI
  .refine pI ?_;intros;rename_i hx
   apply Jr (γ:=OA×Nat) hx [1,2,4] (fun s7 y7 f=>(6,.slice y7.1 s7.length y7.2)::f) [1,2,3,999] (fun s7 y7 l=>.r y7.1 s7.length y7.2 3 1 (s7.flatMap Ao)::l);exact kk
   .exact aI
   .refine pI ?_;intros;rename_i hx
    refine Cq1 (s:=29) hx rfl ?_ ?_
    .refine pI ?_;intros;rename_i hx
     (with_reducible apply Ack 6 (sz:=1));exact rfl;exact aT;exact iI;exact dL;exact (fun _=>rfl);exact rfl;exact rfl;exact sA
     exact au
    .exact aI
 .exact aI⟩
instance(p0:Ej)(p1:Int)(p2:Int):Con (Hr p0 p1 p2) prog 15 (fun K vs=>∃E0 G0 E1 G1,vs=[.agg #[.slice E0 p0.V.length G0,.slice E1 p0.Lines.length G1],.int .i64 p1,.int .i64 p2]/\Has K E0 p0.V.length G0 4 Ai p0.V/\Has K E1 p0.Lines.length G1 2 Ar p0.Lines/\True) (fun _ r v Ln=>v=.bool r/\Ln=[]/\True):=⟨by
 rintro K _ r ⟨E0,G0,E1,G1,rfl,ha0,ha1,-⟩ hx w hK;replace ha0:=ha0.lo hK;replace ha1:=ha1.lo hK;unfold Hr at hx;refine CtS ntmps15 results15 ?_;exact au⟩
instance  : Con Gj prog 16 (fun _ vs=>vs=[]) (fun _ r v Ln=>v=.bool r/\Ln=[]/\True):=⟨by
 rintro _ _ r rfl hx w hK;unfold Gj at hx;refine CtS ntmps16 results16 ?_;exact au⟩
instance(p0:As)(p1:Aj):Con (Cp p0 p1) prog 25 (fun K vs=>∃E0 G0 E1 G1 E2 G2 E3 G3,vs=[.agg #[.bool p0.Neg,.slice E0 p0.Num.length G0,.slice E1 p0.Den.length G1],.agg #[.bool p1.N.Neg,.slice E2 p1.N.L.length G2,.slice E3 p1.D.length G3]]/\Has K E0 p0.Num.length G0 1 Ak p0.Num/\Has K E1 p0.Den.length G1 1 Ak p0.Den/\Has K E2 p1.N.L.length G2 1 Ao p1.N.L/\Has K E3 p1.D.length G3 1 Ao p1.D/\True) (fun _ r v Ln=>v=.bool r/\Ln=[]/\True):=⟨by
 rintro K _ r ⟨E0,G0,E1,G1,E2,G2,E3,G3,rfl,ha0,ha1,ha2,ha3,-⟩ hx w hK;replace ha0:=ha0.lo hK;replace ha1:=ha1.lo hK;replace ha2:=ha2.lo hK;replace ha3:=ha3.lo hK;unfold Cp at hx;refine CtS ntmps25 results25 ?_;exact au⟩
instance(p0:As):Con (Ml p0) prog 22 (fun K vs=>∃E0 G0 E1 G1,vs=[.agg #[.bool p0.Neg,.slice E0 p0.Num.length G0,.slice E1 p0.Den.length G1]]/\Has K E0 p0.Num.length G0 1 Ak p0.Num/\Has K E1 p0.Den.length G1 1 Ak p0.Den/\True) (fun _ r v Ln=>v=.bool r/\Ln=[]/\True):=⟨by
 rintro K _ r ⟨E0,G0,E1,G1,rfl,ha0,ha1,-⟩ hx w hK;replace ha0:=ha0.lo hK;replace ha1:=ha1.lo hK;unfold Ml at hx;have:=dl 1 [1,2,2,2] [0,1,2,3];refine CtS ntmps22 results22 ?_;exact au⟩
instance Yf(p0:Ej)(p1:Ad):Con (Bv p0 p1) prog 4 (fun K vs=>∃E0 G0 E1 G1,vs=[.agg #[.slice E0 p0.V.length G0,.slice E1 p0.Lines.length G1],.agg #[.int .i64 p1.X,.int .i64 p1.Y]]/\Has K E0 p0.V.length G0 4 Ai p0.V/\Has K E1 p0.Lines.length G1 2 Ar p0.Lines/\True) (fun _ r v Ln=>v=.bool r/\Ln=[]/\True):=⟨by
 rintro K _ r ⟨E0,G0,E1,G1,rfl,ha0,ha1,-⟩ hx w hK;replace ha0:=ha0.lo hK;replace ha1:=ha1.lo hK;unfold Bv at hx;refine CtS ntmps4 results4 ?_;refine pq ?_;intros;rename_i hx
 refine Cq3 (s:=21) hx rfl ?_ ?_
 .exact aI
 .refine pI ?_;intros;rename_i hx
  refine Cq2 (s:=32) hx rfl ?_ ?_
  .exact aI
  .refine pI ?_;intros;rename_i hx
   refine pA ?_;intros;rename_i hx
   apply Jr (γ:=Unit) hx [3,5,9,10,11,13] (fun s0 y0 f=>(76,.bool s0)::f) [0,1,2,3,4,5,6,7,8,9,10,11,999] (fun s0 y0 l=>l);exact kk
   .intro s0 y0 hx;refine Cq3 (s:=76) hx rfl ?_ ?_
    .exact aI
    .refine pI ?_;intros;rename_i hx
     refine Cq2 (s:=78) hx rfl ?_ ?_
     .exact aI
     .exact aI
   .exact aI⟩
theorem Xc(p0:Ej)(p1:Ad){K:LE}{E0:OA}{G0:Nat}{E1:OA}{G1:Nat}(ha0:Has K E0 p0.V.length G0 4 Ai p0.V)(ha1:Has K E1 p0.Lines.length G1 2 Ar p0.Lines){r:Bool}(hx:Bv p0 p1=some r)(w:World)(hK:∀e∈K,Ent.ok w e):CtL prog 4 [.agg #[.slice E0 p0.V.length G0,.slice E1 p0.Lines.length G1],.agg #[.int .i64 p1.X,.int .i64 p1.Y]] w fun v Ln=>v=.bool r/\Ln=[]/\True:=(Yf p0 p1).h K _ _ ⟨_,_,_,_,rfl,ha0,ha1,trivial⟩ hx w hK
section
variable {v:List Aa}{l:List Ab}{m:Mp}{T:List Ah}
theorem Wd:Pe v l=0↔Lin1 v l/\Lin2 v l:=by
 unfold Pe
 by_cases c1:Lin1 v l
 .rw[iP c1]
  by_cases c2:Lin2 v l
  .rw[iP c2];exact⟨fun _=>⟨c1,c2⟩,fun _=>rfl⟩
  .rw[iN c2];exact⟨fun h=>(by cases h),fun h=>absurd h.2 c2⟩
 .rw[iN c1];exact⟨fun h=>(by cases h),fun h=>absurd h.1 c1⟩
theorem Bbj{s:Ab}(h:s.a0<=s.a1):prL s=s:=by
 obtain⟨x,y⟩:=s;unfold prL pr2;dsimp only at h⊢;rw[Int.min_eq_left h,Int.max_eq_right h]
theorem Ayv{L:List Ab}(h:∀s∈L,s.a0<=s.a1):L.map prL=L:=by
 induction L with
 |nil=>rfl
 |cons x r ih=>rw[map_cons,Bbj (h x s_),ih (fun s hs=>h s (by simp[hs]))]
theorem Ale(hv:Ci v)(hn:v.length<=1024)(h:Pe v l=0):Pe v (Ba cmp2 (l.map prL))=0/\Ba cmp2 ((Ba cmp2 (l.map prL)).map prL)=Ba cmp2 (l.map prL)/\(Ba cmp2 (l.map prL)).length=l.length:=by
 obtain⟨h1,h2⟩:=Wd.1 h;have hL:=Ahp hv h1 h2;have hm:=Ayv (fun s hs=>(hL.ok s hs).2);have sm:∀s∈Ba cmp2 (l.map prL),Oe s:=fun s hs=>by
  obtain⟨⟨k1,k2,_⟩,_⟩:=hL.ok s hs;exact Aaq hn k1 k2
 have sm':∀s∈l.map prL,Oe s:=fun s hs=>sm s (Hc.2 hs)
 refine⟨Wd.2 ⟨⟨fun s hs=>(hL.ok s hs).1,by rw[hm];exact hL.nd⟩,fun s hs k hk g=>?_,?_⟩,?_,by rw[(Dk _ _).length_eq,length_map]⟩
 .exact hL.free s hs k hk (fun e=>g.2.1 (by rw[e];exact⟨rfl,rfl⟩)) (fun e=>g.2.2 (by rw[e];exact⟨rfl,rfl⟩)) g.1
 .exact List.Pairwise.imp_of_mem (fun {a b} ha hb hne=>hL.apart a ha b hb hne) hL.nd
 .rw[hm];exact Xb tot2 (fun s hs=>sm s (Hc.1 hs)) (Kq tot2 sm) (Kq tot2 sm') (Dk _ _)
theorem Arw{T:List Ah}(h:T.length<=100000000):Ca T T=some true:=by
 have e:lfix (Bi T T) 0=some (.inl ()):=by
  rw[Vh (β:=Unit) (γ:=Bool) T (fun _=>true) (Bi T T) () false (fun j hj=>?_) ?_]
  .simp
  .unfold Bi;rw[iN oo]
  .unfold Bi;rw[iP oo,Az hj,Ac,Ac,iP s_,iP rfl,Bd oo]
 unfold Ca;rw[iP rfl,jn_d,e,Ac]
theorem Arx{L:List Ab}(h:L.length<=100000000):Cb L L=some true:=by
 have e:lfix (Bj L L) 0=some (.inl ()):=by
  rw[Vh (β:=Unit) (γ:=Bool) L (fun _=>true) (Bj L L) () false (fun j hj=>?_) ?_]
  .simp
  .unfold Bj;rw[iN oo]
  .unfold Bj;rw[iP oo,Az hj,Ac,Ac,iP s_,iP rfl,Bd oo]
 unfold Cb;rw[iP rfl,jn_d,e,Ac]
theorem Alf{m:Aw}(h1:m.V.length<=100000000)(h2:m.T.length<=100000000)(h3:m.Lines.length<=100000000):Ka m m=some true:=by
 have e1:lfix (Ew m m) 0=some (.inl ()):=by
  rw[Vh (β:=Unit) (γ:=Bool) m.V (fun _=>true) (Ew m m) () false (fun j hj=>?_) ?_]
  .simp
  .unfold Ew;rw[iN oo]
  .unfold Ew;rw[iP oo,Az hj,Ac,Ac,iP s_,iP rfl,Bd oo]
 have e2:lfix (Eh m m) 0=some (.inl ()):=by
  rw[Vh (β:=Unit) (γ:=Bool) m.T (fun _=>true) (Eh m m) () false (fun j hj=>?_) ?_]
  .simp
  .unfold Eh;rw[iN oo]
  .unfold Eh;rw[iP oo,Az hj,Ac,Ac,iP s_,iP rfl,Bd oo]
 have e3:lfix (Ei m m) 0=some (.inl ()):=by
  rw[Vh (β:=Unit) (γ:=Bool) m.Lines (fun _=>true) (Ei m m) () false (fun j hj=>?_) ?_]
  .simp
  .unfold Ei;rw[iN oo]
  .unfold Ei;rw[iP oo,Az hj,Ac,Ac,iP s_,iP rfl,Bd oo]
 unfold Ka;rw[jn_d,iP rfl,iP rfl,dT rfl];dsimp only;rw[iN s_,jn_d,e1,Ac];dsimp only;rw[jn_d,e2,Ac];dsimp only;rw[jn_d,e3,Ac]
theorem Acp.len(hn:v.length<=1024){L:List Ab}(hM:Mesh v L m)(h:Acp v m T):T.length<=1048576:=by
 have hsq:=Abg hn;have:=Aex hM.tri (fun t ht=>(h.mem t).1 ht) h.nd;omega
theorem Alg(h:Ox v=0)(hl:l.length<=1000000)(h1:Pe v l=0):
  ∃T,Me v l=some (⟨v,T,Ba cmp2 (l.map prL)⟩,0)/\Bt v l=some (⟨v,T,Ba cmp2 (l.map prL)⟩,0)/\T.length<=1048576/\Rx ⟨v,T,Ba cmp2 (l.map prL)⟩=some 0/\Me v (Ba cmp2 (l.map prL))=some (⟨v,T,Ba cmp2 (l.map prL)⟩,0)/\Bt v (Ba cmp2 (l.map prL))=some (⟨v,T,Ba cmp2 (l.map prL)⟩,0)/\((Aah v/\T=[])\/(¬Aah v/\∃m,Mesh v (Ba cmp2 (l.map prL)) m/\Acp v m T)):=by
 obtain⟨hn,_,hv⟩:=Sn h;obtain⟨g1,g2,g3⟩:=Ale hv hn h1;obtain⟨T,e1,e2,e3,e4⟩:=Yv h hl h1;obtain⟨T',f1,f2,f3,_⟩:=Yv (l:=Ba cmp2 (l.map prL)) h oo g1;rw[g2] at f1 f2 f3;have:T'=T:=oI (f3.symm.trans e3);subst this;have hT:T'.length<=1048576:=by
  rcases e4 with⟨_,rfl⟩|⟨_,m,hM,hT⟩
  .simp
  .exact hT.len hn hM
 refine⟨T',e1,e2,hT,?_,f1,f2,e4⟩;unfold Rx;dsimp only;rw[f1,Ac,jn_d];dsimp only;rw[iP rfl,Arw oo,Ac,iP rfl,Arx oo,Ac];rfl
theorem Ank:Pe v []=0:=Wd.2 ⟨⟨fun s hs=>(by cases hs),List.Pairwise.nil⟩,fun s hs=>(by cases hs),List.Pairwise.nil⟩
theorem Anl:Me sqv []=some (⟨sqv,[⟨0,1,2⟩,⟨1,3,2⟩],[]⟩,0):=by
 obtain⟨_,_,hv⟩:=Sn Az9;have hE:=Wd.1 (Ank (v:=sqv));obtain⟨T,h1,h2⟩:=Aey Az9 (l:=[]) s_ hE.1 hE.2;have e:Ba cmp2 (([]:List Ab).map prL)=[]:=by simp[Ba]
 rw[e] at h1 h2;rcases h2 with⟨f,_⟩|⟨_,m,hM,rfl⟩
 .have:=f 0 1 2 (in4.2 s_) (in4.2 s_) (in4.2 s_);exact absurd this dD
 .have hd:=Ams hv hM.map hM.tri hM.cov (fun i j k l hk hl=>(hM.leg i j k l hk hl).resolve_left s_) hM.ne;rw[h1,(Azo hM.map hd).unique Avl]
theorem Af7:Gj=some true:=by
 unfold Gj;refine Eq.trans (congrArg (fun z=>bnd z _) Anl) ?_;show bnd (some _) _=_;rw[Ac,jn_d];rfl
end
theorem We(x:Int):wu64 x=x%18446744073709551616:=by unfold wu64;rw[IntKind.wrap_u64]
theorem Auv{j:Nat}(h:j<=18446744073709551615):wu64 (j:Int)=(j:Int):=by rw[We];omega
theorem Ary{σ τ:Type}{f:σ->Option (Sum σ τ)}(enc:Nat->Nat->σ)(g:Nat->Nat->τ){B v1 v0 U u1:Nat}(hB:0<B)(h3:v0<B)(hU:U<=v1*B+v0)(h1:v1<B)(h0:0<v1)(hu:u1<B)(hf:∀ q r:Nat,q*v1+r=U->r<B->f (enc q r)=if B<=q\/B*r+u1<q*v0 then (if B<=r+v1 then some (.inr (g (q-1) (r+v1))) else some (.inl (enc (q-1) (r+v1)))) else some (.inr (g q r))):
  ∃r,lfix f (enc (U/v1) (U%v1))=some (g (min (B-1) ((U*B+u1)/(v1*B+v0))) r):=by
 have hV:0<v1*B+v0:=by
  have:=Nat.mul_pos h0 hB;omega
 generalize hq:(U*B+u1)/(v1*B+v0)=Q0;have hle:∀q,q<=Q0↔q*(v1*B+v0)<=U*B+u1:=fun q=>by rw[<-hq,Nat.le_div_iff_mul_le hV]
 generalize hQ:min (B-1) Q0=Q;have hQ1:Q<=B-1:=oo;have hQ2:Q<=Q0:=oo;have key:∀q r:Nat,q*v1+r=U->r<B->Q<=q->∃r',lfix f (enc q r)=some (g Q r'):=by
  intro q
  induction q with
  |zero=>
   intro r e hr hq0;refine⟨r,?_⟩;rw[Ax,hf 0 r e hr,iN oo];have:Q=0:=oo;rw[this]
  |succ q ih=>
   intro r e hr hq1;have ex:(q+1)*(v1*B+v0)+r*B=U*B+(q+1)*v0:=by rw[<-e];grind
   have e':q*v1+(r+v1)=U:=by rw[<-e];grind
   rw[Ax,hf (q+1) r e hr]
   by_cases hc:B<=q+1\/B*r+u1<(q+1)*v0
   ·have hq2:Q<=q:=by
     rcases hc with hc|hc
     .omega
     ·have:¬ (q+1)<=Q0:=by
       rw[hle];rw[Nat.mul_comm B r] at hc;omega
      omega
    rw[iP hc]
    by_cases hd:B<=r+v1
    ·rw[if_pos hd];have hqB:q<B:=by
      apply Classical.byContradiction;intro hn;have h5:B*v1<=q*v1:=Nat.mul_le_mul_right _ oo;rw[Nat.mul_comm B v1] at h5;omega
     have:q<=Q0:=by
      rw[hle];have ey:q*(v1*B+v0)+(r+v1)*B=U*B+q*v0:=by rw[<-e'];grind
      have x1:q*v0<=B*B:=Nat.mul_le_mul oo oo;have x2:B*B<=(r+v1)*B:=Nat.mul_le_mul_right _ hd;omega
     have:q=Q:=oo;subst this;exact⟨r+v1,s_⟩
    .rw[iN hd];exact ih (r+v1) e' oo hq2
   ·rw[if_neg hc];have:q+1<=Q0:=by
     rw[hle];rw[Nat.mul_comm B r] at hc;omega
    have:q+1=Q:=oo;subst this;exact⟨r,rfl⟩
 have:=Nat.div_add_mod U v1;refine key _ _ (by rw[Nat.mul_comm];exact this) (Nat.lt_trans (Nat.mod_lt _ h0) h1) ?_;refine Nat.le_trans hQ2 ?_;rw[<-hq,Nat.le_div_iff_mul_le h0];have a:=Nat.div_mul_le_self (U*B+u1) (v1*B+v0);generalize (U*B+u1)/(v1*B+v0)=q at *;have b:q*v1*B<=U*B+u1:=by
  have:q*(v1*B+v0)=q*v1*B+q*v0:=by grind
  omega
 have c:q*v1*B<(U+1)*B:=by rw[Nat.add_mul,Nat.one_mul];omega
 have:=Nat.lt_of_mul_lt_mul_right c;omega
theorem Arz{B M h u0 w Vl Ul:Nat}(hV:B<=w)(hM:0<M)(hVl:Vl<M)(hUl:Ul<M)(hu:(h*B+u0)*M+Ul<B*(w*M+Vl)):
  ((h*B+u0)*M+Ul)/(w*M+Vl)<=min (B-1) ((h*B+u0)/w)/\min (B-1) ((h*B+u0)/w)<=((h*B+u0)*M+Ul)/(w*M+Vl)+1:=by
 generalize h*B+u0=H at *;have hB:0<B:=by
  rcases Nat.eq_zero_or_pos B with h|h
  .subst h;omega
  .exact h
 have hw:0<w:=oo;have hVp:0<w*M+Vl:=by
  have:=Nat.mul_pos hw hM;omega
 have hBM:B*M<=w*M+Vl:=Nat.le_trans (Nat.mul_le_mul_right M hV) (Nat.le_add_right _ _);constructor
 .generalize hQ:(H*M+Ul)/(w*M+Vl)=Q;have h1:Q*(w*M+Vl)<=H*M+Ul:=by rw[<-hQ];exact Nat.div_mul_le_self _ _
  have h2:Q<B:=by rw[<-hQ,Nat.div_lt_iff_lt_mul hVp];exact hu
  have h3:Q*w*M<(H+1)*M:=by
   have e1:Q*(w*M+Vl)=Q*w*M+Q*Vl:=by grind
   have e2:(H+1)*M=H*M+M:=by grind
   omega
  have h4:=Nat.lt_of_mul_lt_mul_right h3;have h5:Q<=H/w:=by rw[Nat.le_div_iff_mul_le hw];omega
  omega
 .generalize hq:min (B-1) (H/w)=q;have h1:q*w<=H:=Nat.le_trans (Nat.mul_le_mul_right w (oo:q<=H/w)) (Nat.div_mul_le_self _ _);have h2:q<B:=oo;rcases Nat.eq_zero_or_pos q with h0|h0
  .rw[h0];exact Nat.zero_le _
  ·obtain⟨p,rfl⟩:∃ p,q=p+1:=⟨q-1,oo⟩;have h3:p<=(H*M+Ul) / (w*M+Vl):=by
    rw[Nat.le_div_iff_mul_le hVp];have e1:p*(w*M+Vl)+(w*M+Vl)=(p+1)*w*M+(p+1)*Vl:=by grind
    have e2:(p+1)*w*M<=H*M:=Nat.mul_le_mul_right M h1;have e3:(p+1)*Vl<=B*M:=Nat.mul_le_mul oo oo;omega
   omega
theorem Auw{B q v c u b:Nat}(hq:q<B)(hv:v<B)(hc:c<B)(hb:b<=1)(hu:u<B):
  (q*v+c)/B<B/\∃b' u':Nat,b'<=1/\u'<B/\(u:Int)-((q*v+c)%B:Nat)-b=u'-B*b'/\u'+(q*v+c+b)=u+B*((q*v+c)/B+b'):=by
 have hB:0<B:=oo;have h1:(q*v+c)/B<B:=by
  rw[Nat.div_lt_iff_lt_mul hB];have:q*v<=(B-1)*(B-1):=Nat.mul_le_mul oo oo;obtain⟨d,rfl⟩:∃d,B=d+1:=⟨B-1,oo⟩;have e:(d+1)*(d+1)=d*d+d+(d+1):=by grind
  simp at this;omega
 have h2:=Nat.div_add_mod (q*v+c) B;have h3:=Nat.mod_lt (q*v+c) hB;generalize (q*v+c)%B=m at *;generalize (q*v+c)/B=k at *;refine⟨h1,?_⟩
 by_cases h:m+b<=u
 .exact⟨0,u-m-b,oo,oo,oo,by rw[Nat.add_zero];omega⟩
 .refine⟨1,u+B-m-b,oo,oo,oo,?_⟩;rw[Nat.mul_add,Nat.mul_one];omega
theorem Afb{u U:LM}{i:Nat}(h:U.drop i=u.drop i)(hi:i<U.length)(hi':i<u.length):U[i]=u[i]:=by
 rw[drop_eq_getElem_cons hi,drop_eq_getElem_cons hi'] at h;injection h
theorem Yg{U:LM}{B i x:Nat}(h:∀y∈U,y<B)(hx:x<B):∀y∈U.set i x,y<B:=fun y hy=>by
 rcases mem_or_eq_of_mem_set hy with h1|h1
 .exact h y h1
 .rw[h1];exact hx
theorem drop_set{U:LM}{i x:Nat}:(U.set i x).drop (i+1)=U.drop (i+1):=by
 rw[List.drop_set,iP oo]
theorem Ah8{u U:LM}{i x:Nat}(h:U.drop i=u.drop i):(U.set i x).drop (i+1)=u.drop (i+1):=by
 rw[drop_set,<-drop_drop,h,drop_drop]
theorem Su{B:Nat}{U:LM}{i x:Nat}(hi:i<U.length):val B ((U.set i x).take (i+1))=val B (U.take i)+B^i*x:=by
 rw[El _ _ (by rw[length_set];exact hi),getElem_set_self,take_set,set_eq_of_length_le (by rw[length_take];omega)]
theorem Aux{σ τ:Type}{f:σ->Option (Sum σ τ)}(enc:List Nat->Nat->Nat->Nat->σ){B q:Nat}(u v:List Nat)(hB:0<B)(hv:∀ x∈v,x<B)(hu:∀ x∈u,x<B)(hq:q<B)(hn:v.length<=u.length)(hf:∀ (U:List Nat) (b c i u' b':Nat) (hi:i<v.length) (hU:i<U.length),U.length=u.length->(∀ x∈U,x<B)->b<=1->c<B->b'<=1->u'<B->(q*v[i] + c) / B<B->((U[i]:Int)-(((q*v[i] + c) % B:Nat):Int)-(b:Int)=(u':Int)-(B:Int)*(b':Int)) ->
   f (enc U b c i)=some (.inl (enc (U.set i u') b' ((q*v[i]+c)/B) (i+1)))):
  ∃U b c,lfix f (enc u 0 0 0)=lfix f (enc U b c v.length)/\U.length=u.length/\(∀x∈U,x<B)/\U.drop v.length=u.drop v.length/\b<=1/\c<B/\val B (U.take v.length)+q*val B v=val B (u.take v.length)+B^v.length*(c+b):=by
 have key:∀i,i<=v.length->∃U b c,lfix f (enc u 0 0 0)=lfix f (enc U b c i)/\U.length=u.length/\(∀x∈U,x<B)/\U.drop i=u.drop i/\b<=1/\c<B/\val B (U.take i)+q*val B (v.take i)=val B (u.take i)+B^i*(c+b):=by
  intro i
  induction i with
  |zero=>intro _;exact⟨u,0,0,rfl,rfl,hu,rfl,oo,hB,by simp[val]⟩
  |succ i ih=>
   intro hi;obtain⟨U,b,c,h1,h2,h3,h4,h5,h6,h7⟩:=ih oo;have hiv:i<v.length:=oo;have hiU:i<U.length:=oo;have hiu:i<u.length:=oo;obtain⟨k1,b',u',k2,k3,k4,k5⟩:=Auw hq (hv _ (gM hiv)) h6 h5 (h3 _ (gM hiU));refine⟨U.set i u',b',(q*v[i]+c)/B,?_,by rw[length_set];exact h2,Yg h3 k3,Ah8 h4,k2,k1,?_⟩
   .rw[h1,Ax,hf U b c i u' b' hiv hiU h2 h3 h5 h6 k2 k3 k1 k4]
   .rw[Su hiU,El _ _ hiv,El _ _ hiu];rw[Afb h4 hiU hiu] at k5;generalize (q*v[i]+c)/B=c' at *;have e:B^(i+1)=B^i*B:=rfl;rw[e];generalize B^i=M at *;have e2:=congrArg (M * ·) k5;grind
 obtain⟨U,b,c,h1,h2,h3,h4,h5,h6,h7⟩:=key _ (nL _);rw[take_length] at h7;exact⟨U,b,c,h1,h2,h3,h4,h5,h6,h7⟩
theorem Auy{σ τ:Type}{f:σ->Option (Sum σ τ)}(enc:List Nat->Nat->Nat->σ){B:Nat}(u v:List Nat)(hB:0<B)(hv:∀ x∈v,x<B)(hu:∀ x∈u,x<B)(hn:v.length<=u.length)(hf:∀ (U:List Nat) (c i:Nat) (hi:i<v.length) (hU:i<U.length),U.length=u.length->(∀ x∈U,x<B)->c<=1 ->
   f (enc U c i)=some (.inl (enc (U.set i ((U[i]+v[i]+c)%B)) ((U[i]+v[i]+c)/B) (i+1)))):
  ∃U c,lfix f (enc u 0 0)=lfix f (enc U c v.length)/\U.length=u.length/\(∀x∈U,x<B)/\U.drop v.length=u.drop v.length/\c<=1/\val B (U.take v.length)+B^v.length*c=val B (u.take v.length)+val B v:=by
 have key:∀i,i<=v.length->∃U c,lfix f (enc u 0 0)=lfix f (enc U c i)/\U.length=u.length/\(∀x∈U,x<B)/\U.drop i=u.drop i/\c<=1/\val B (U.take i)+B^i*c=val B (u.take i)+val B (v.take i):=by
  intro i
  induction i with
  |zero=>intro _;exact⟨u,0,rfl,rfl,hu,rfl,oo,by simp[val]⟩
  |succ i ih=>
   intro hi;obtain⟨U,c,h1,h2,h3,h4,h5,h7⟩:=ih oo;have hiv:i<v.length:=oo;have hiU:i<U.length:=oo;have hiu:i<u.length:=oo;have l1:=hv _ (gM hiv);have l2:=h3 _ (gM hiU);have k1:(U[i]+v[i]+c)/B<=1:=by
    have:(U[i]+v[i]+c)/B<2:=by rw[Nat.div_lt_iff_lt_mul hB];omega
    omega
   refine⟨U.set i ((U[i]+v[i]+c)%B),(U[i]+v[i]+c)/B,?_,by rw[length_set];exact h2,Yg h3 (Nat.mod_lt _ hB),Ah8 h4,k1,?_⟩
   .rw[h1,Ax,hf U c i hiv hiU h2 h3 h5]
   .rw[Su hiU,El _ _ hiv,El _ _ hiu];rw[<-Afb h4 hiU hiu];have k5:=Nat.div_add_mod (U[i]+v[i]+c) B;generalize (U[i]+v[i]+c)/B=c' at *;generalize (U[i]+v[i]+c)%B=m at *;have e:B^(i+1)=B^i*B:=rfl;rw[e];generalize B^i=M at *;have e2:=congrArg (M * ·) k5;grind
 obtain⟨U,c,h1,h2,h3,h4,h5,h7⟩:=key _ (nL _);rw[take_length] at h7;exact⟨U,c,h1,h2,h3,h4,h5,h7⟩
theorem Ah9{M a b x y:Nat}(ha:a<M)(hb:b<M)(h:a+M*x=b+M*y):x=y/\a=b:=by
 have h1:(a+M*x)/M=(b+M*y)/M:=by rw[h]
 rw[Nat.add_mul_div_left _ _ oo,Nat.add_mul_div_left _ _ oo,Nat.div_eq_of_lt ha,Nat.div_eq_of_lt hb] at h1;have:x=y:=oo;subst this;exact⟨rfl,oo⟩
theorem Anm{M V U q ut c b W lo:Nat}(hV0:0<V)(hV:V<M)(hU:U=lo+M*ut)(h1:U / V<=q)(h2:q<=U / V+1)(hW:W<M)(he:W+q*V=lo+M*(c+b)):
  (q=U/V/\ut=c+b/\W=U%V)\/(q=U/V+1/\c+b=ut+1/\∀W2 c2,W2<M->W2+M*c2=W+V->c2=1/\W2=U%V):=by
 have hd:=Nat.div_add_mod U V;have hr:=Nat.mod_lt U hV0;generalize U%V=R at *;generalize hQ:U/V=Q at *;rcases (by omega:q=Q\/q=Q+1) with h|h
 ·left;subst h;have:W+M*ut=R+M*(c+b):=by
   have:V*q=q*V:=Nat.mul_comm _ _;omega
  obtain⟨e1,e2⟩:=Ah9 hW oo this;exact⟨rfl,e1,e2⟩
 ·right;subst h;have e:W+V+M*ut=R+M*(c+b):=by
   have e1:V*Q=Q*V:=Nat.mul_comm _ _;have e2:(Q+1)*V=Q*V+V:=Nat.succ_mul _ _;omega
  have e3:c+b=ut+1:=by
   rcases Nat.lt_trichotomy (c+b) (ut+1) with h|h|h
   .have:M*(c+b)<=M*ut:=Nat.mul_le_mul_left _ oo;omega
   .exact h
   .have:M*(ut+2)<=M*(c+b):=Nat.mul_le_mul_left _ oo;rw[Nat.mul_add] at this;omega
  refine⟨rfl,e3,fun W2 c2 hW2 h=>?_⟩;rw[e3,Nat.mul_add,Nat.mul_one] at e;have:W2+M*c2=R+M*1:=oo;exact Ah9 hW2 oo this
theorem Po{B:Nat}(l:LM)(k:Nat)(hk:k<=l.length):val B l=val B (l.take k)+B^k*val B (l.drop k):=by
 conv=>lhs;rw[<-take_append_drop k l]
 rw[Oi,length_take,Nat.min_eq_left hk]
theorem En{B:Nat}(l:LM)(k:Nat)(h:k<l.length):val B (l.drop k)=l[k]+B*val B (l.drop (k+1)):=by
 rw[drop_eq_getElem_cons h];rfl
theorem Auz{σ τ:Type}{f:σ->Option (Sum σ τ)}(enc:List Nat->List Nat->Nat->σ){B V n m:Nat}(u0 q0:List Nat)(hV0:0<V)(hV:V<B ^ n)(hu0:u0.length=m+n)(hq0:q0.length=m)(hw:∀ x∈u0,x<B)(htop:val B (u0.drop m)<V)(hqw:∀ x∈q0,x<B)(hf:∀ (u q:List Nat) (i:Nat),i<m->u.length=m+n->(∀ x∈u,x<B)->q.length=m->(∀ x∈q,x<B)->val B ((u.drop i).take (n+1))<B*V ->
   ∃w',w'.length=n+1/\(∀x∈w',x<B)/\val B w'=val B ((u.drop i).take (n+1))%V /\
    f (enc u q (i+1))=some (.inl (enc (u.take i++w'++u.drop (i+n+1)) (q.set i (val B ((u.drop i).take (n+1))/V)) i))):
  ∃u q,lfix f (enc u0 q0 m)=lfix f (enc u q 0)/\u.length=m+n/\q.length=m/\(∀x∈u,x<B)/\(∀x∈q,x<B)/\val B q=val B u0/V/\val B u=val B u0%V:=by
 have key:∀k,k<=m->∃u q,lfix f (enc u0 q0 m)=lfix f (enc u q (m-k))/\u.length=m+n/\q.length=m/\(∀x∈u,x<B)/\(∀x∈q,x<B)/\val B (u.drop (m-k))<V/\val B u0=val B u+V*B^(m-k)*val B (q.drop (m-k)):=by
  intro k
  induction k with
  |zero=>
   intro _;refine⟨u0,q0,rfl,hu0,hq0,hw,hqw,htop,?_⟩;rw[drop_eq_nil_of_le oo];simp[val]
  |succ k ih=>
   intro hk;obtain⟨u,q,h1,h2,h3,h4,h4',h5,h6⟩:=ih oo;obtain⟨i,hi⟩:∃i,m-k=i+1:=⟨m-k-1,oo⟩;rw[hi] at h1 h5 h6;have e1:m-(k+1)=i:=oo;rw[e1];have hiu:i<u.length:=oo;have hiq:i<q.length:=oo;have hz:val B (u.drop (i+n+1))=0:=by
    have s:=Po (B:=B) (u.drop (i+1)) n (by rw[length_drop];omega);rw[drop_drop,show i+1+n=i+n+1 by omega] at s;rcases Nat.eq_zero_or_pos (val B (u.drop (i+n+1))) with h|h
    .exact h
    .have:B^n*1<=B^n*val B (u.drop (i+n+1)):=Nat.mul_le_mul_left _ h;omega
   have hwin:val B ((u.drop i).take (n+1))=val B (u.drop i):=by
    have s:=Po (B:=B) (u.drop i) (n+1) (by rw[length_drop];omega);rw[drop_drop,show i+(n+1)=i+n+1 by omega,hz,Nat.mul_zero,Nat.add_zero] at s;exact s.symm
   have hlt:val B ((u.drop i).take (n+1))<B*V:=by
    rw[hwin,En _ _ hiu];have:=h4 _ (gM hiu);have:B*(val B (u.drop (i+1))+1)<=B*V:=Nat.mul_le_mul_left _ h5;rw[Nat.mul_add,Nat.mul_one] at this;omega
   obtain⟨w',w1,w2,w3,w4⟩:=hf u q i oo h2 h4 h3 h4' hlt;have hd:val B ((u.drop i).take (n+1))/V<B:=by rw[Nat.div_lt_iff_lt_mul hV0];exact hlt
   rw[hwin] at w3 w4 hd;have hlen:(u.take i++w'++u.drop (i+n+1)).length=m+n:=by
    rw[length_append,length_append,length_take,length_drop,w1];omega
   have hdrop:(u.take i++w'++u.drop (i+n+1)).drop i=w'++u.drop (i+n+1):=by
    rw[append_assoc,List.drop_left' (by rw[length_take];omega)]
   have hvd:val B ((u.take i++w'++u.drop (i+n+1)).drop i)=val B (u.drop i)%V:=by
    rw[hdrop,Oi,hz,Nat.mul_zero,Nat.add_zero,w3]
   refine⟨_,_,by rw[h1,Ax,w4],hlen,by rw[length_set];exact h3,fun x hx=>?_,Yg h4' hd,?_,?_⟩
   .rcases mem_append.1 hx with hx|hx
    .rcases mem_append.1 hx with hx|hx
     .exact h4 x (mem_of_mem_take hx)
     .exact w2 x hx
    .exact h4 x (mem_of_mem_drop hx)
   .rw[hvd];exact Nat.mod_lt _ hV0
   .have s1:=Po (B:=B) (u.take i++w'++u.drop (i+n+1)) i oo;have s2:=Po (B:=B) u i oo;rw[hvd,append_assoc,List.take_left' (by rw[length_take];omega)] at s1;rw[En _ _ (by rw[length_set];exact hiq),getElem_set_self,drop_set];rw[h6,s2,append_assoc,s1];have hdm:=Nat.div_add_mod (val B (u.drop i)) V;generalize val B (u.drop i)%V=r at *;generalize val B (u.drop i)/V=d at *;rw[<-hdm];have e:B^(i+1)=B^i*B:=rfl;rw[e];generalize B^i=M;generalize val B (q.drop (i+1))=Y;generalize val B (u.take i)=X;grind
 obtain⟨u,q,h1,h2,h3,h4,h4',h5,h6⟩:=key m (nL _);rw[Nat.sub_self] at h1 h5 h6;simp only[drop_zero,Nat.pow_zero,Nat.mul_one] at h5 h6;refine⟨u,q,h1,h2,h3,h4,h4',?_,?_⟩
 .rw[h6,Nat.add_mul_div_left _ _ hV0,Nat.div_eq_of_lt h5,Nat.zero_add]
 .rw[h6,Nat.add_mul_mod_self_left,Nat.mod_eq_of_lt h5]
theorem Au0{B S x y:Nat}(hS:0<S)(hd:S ∣ B)(hx:S ∣ x)(hy:y<S)(hB:0<B):y+x%B<B:=by
 have h1:S ∣ x%B:=(Nat.dvd_mod_iff hd).2 hx;obtain⟨c,hc⟩:=hd;obtain⟨k,hk⟩:=h1;have h2:=Nat.mod_lt x hB;rw[hk] at h2⊢;rw[hc] at h2⊢;have h3:k<c:=Nat.lt_of_mul_lt_mul_left h2;have h4:S*(k+1)<=S*c:=Nat.mul_le_mul_left _ h3;rw[Nat.mul_add,Nat.mul_one] at h4;omega
theorem Au1{σ τ:Type}{f:σ->Option (Sum σ τ)}(enc:List Nat->Nat->σ){B S:Nat}(a:List Nat)(hS:0<S)(hd:S ∣ B)(hB:0<B)(ha:∀ x∈a,x<B)(hf:∀ (out:List Nat) (i:Nat) (hi:i<a.length) (ho:i<out.length),out.length=a.length+1->(∀ x∈out,x<B)->out[i]<S->a[i] * S / B<S->out[i] + a[i] * S % B<B ->
   f (enc out i)=some (.inl (enc ((out.set i (out[i]+a[i]*S%B)).set (i+1) (a[i]*S/B)) (i+1)))):
  ∃out,lfix f (enc (List.replicate (a.length+1) 0) 0)=lfix f (enc out a.length)/\out.length=a.length+1/\(∀x∈out,x<B)/\val B out=val B a*S:=by
 have key:∀i,i<=a.length->∃out,lfix f (enc (List.replicate (a.length+1) 0) 0)=lfix f (enc out i)/\out.length=a.length+1/\(∀x∈out,x<B)/\(∀h:i<out.length,out[i]<S)/\val B (out.take (i+1))=val B (a.take i)*S/\∀x∈out.drop (i+1),x=0:=by
  intro i
  induction i with
  |zero=>
   intro _;refine⟨_,rfl,s_,fun x hx=>by rw[eq_of_mem_replicate hx];exact hB,fun h=>by simpa using hS,?_,fun x hx=>eq_of_mem_replicate (mem_of_mem_drop hx)⟩;rw[take_replicate,Uv];simp[val]
  |succ i ih=>
   intro hi;obtain⟨out,h1,h2,h3,h4,h5,h6⟩:=ih oo;have hia:i<a.length:=oo;have hio:i<out.length:=oo;have hx:=h4 hio;have hai:=ha _ (gM hia);have k1:a[i]*S/B<S:=by
    rw[Nat.div_lt_iff_lt_mul hB,Nat.mul_comm S];exact Nat.mul_lt_mul_of_pos_right hai hS
   have k2:out[i]+a[i]*S%B<B:=Au0 hS hd (Nat.dvd_mul_left _ _) hx hB;have k3:a[i]*S/B<B:=Nat.lt_of_lt_of_le k1 (Nat.le_of_dvd hB hd);refine⟨_,by rw[h1,Ax,hf out i hia hio h2 h3 hx k1 k2],by simp[h2],Yg (Yg h3 k2) k3,fun h=>?_,?_,?_⟩
   .rw[getElem_set_self];exact k1
   .have e1:i+1<(out.set i (out[i]+a[i]*S%B)).length:=by rw[length_set];omega
    rw[Su e1,Su hio,El _ _ hia];have e2:=El (b:=B) out i hio;rw[e2] at h5;have e3:=Nat.div_add_mod (a[i]*S) B;have e4:B^(i+1)=B^i*B:=rfl;rw[e4];generalize a[i]*S/B=q at *;generalize a[i]*S%B=r at *;have e5:(val B (List.take i a)+B^i*a[i])*S=val B (List.take i a)*S+B^i*(a[i]*S):=by grind
    rw[e5,<-h5,<-e3];grind
   ·intro x hx';rw[drop_set,drop_set_of_lt oo] at hx';exact h6 x (by
     have:out.drop (i+1+1)=(out.drop (i+1)).drop 1:=by rw[drop_drop]
     rw[this] at hx';exact mem_of_mem_drop hx')
 obtain⟨out,h1,h2,h3,h4,h5,h6⟩:=key a.length (nL _);refine⟨out,h1,h2,h3,?_⟩;rw[take_length,take_of_length_le oo] at h5;exact h5
theorem Au2{B S x y z:Nat}(hS:0<S)(hd:S ∣ B):(x+B*(y+B*z))/S%B=(x+B*y)/S%B:=by
 obtain⟨c,hc⟩:=hd;have e:x+B*(y+B*z)=(x+B*y)+S*(B*(c*z)):=by
  have:B*(B*z)=S*(B*(c*z)):=by
   conv=>lhs;arg 1;rw[hc]
   grind
  rw[<-this];grind
 rw[e,Nat.add_mul_div_left _ _ hS,Nat.add_mul_mod_self_left]
theorem Au3{σ τ:Type}{f:σ->Option (Sum σ τ)}(enc:List Nat->Nat->σ){B S:Nat}(a out0:List Nat)(hS:0<S)(hd:S ∣ B)(hB:0<B)(ha:∀ x∈a,x<B)(h0:out0.length=a.length)(h00:∀ x∈out0,x<B)(hf:∀ (out:List Nat) (i:Nat) (hi:i<a.length) (ho:i<out.length),out.length=a.length->(∀ x∈out,x<B) ->
   f (enc out i)=some (.inl (enc (out.set i ((a[i]+B*(a[i+1]?).getD 0)/S%B)) (i+1)))):
  ∃out,lfix f (enc out0 0)=lfix f (enc out a.length)/\out.length=a.length/\(∀x∈out,x<B)/\val B out=val B a/S:=by
 have hdrop:∀i,i<=a.length->val B a/B^i=val B (a.drop i):=fun i hi=>by
  have s:=Po (B:=B) a i hi;have hl:val B (a.take i)<B^i:=by
   have:=Uh (b:=B) (a.take i) (fun x hx=>ha x (mem_of_mem_take hx))
   rwa [length_take,Nat.min_eq_left hi] at this
  rw[s,Nat.add_mul_div_left _ _ (Nat.pow_pos hB),Nat.div_eq_of_lt hl,Nat.zero_add]
 have key:∀i,i<=a.length->∃out,lfix f (enc out0 0)=lfix f (enc out i)/\out.length=a.length/\(∀x∈out,x<B)/\val B (out.take i)=val B a/S%B^i:=by
  intro i
  induction i with
  |zero=>intro _;exact⟨out0,rfl,h0,h00,by simp[val,Nat.mod_one]⟩
  |succ i ih=>
   intro hi;obtain⟨out,h1,h2,h3,h5⟩:=ih oo;have hia:i<a.length:=oo;have hio:i<out.length:=oo;refine⟨_,by rw[h1,Ax,hf out i hia hio h2 h3],by rw[length_set];exact h2,Yg h3 (Nat.mod_lt _ hB),?_⟩;rw[Su hio,h5,Nat.pow_succ,Nat.mod_mul,Nat.div_div_eq_div_mul,Nat.mul_comm S,<-Nat.div_div_eq_div_mul,hdrop i oo,En _ _ hia];congr 2
   by_cases h:i+1<a.length
   .rw[En _ _ h,gE h,Option.getD_some,Au2 hS hd]
   .rw[drop_eq_nil_of_le oo,List.getElem?_eq_none oo];rfl
 obtain⟨out,h1,h2,h3,h5⟩:=key a.length (nL _);refine⟨out,h1,h2,h3,?_⟩;rw[take_of_length_le oo] at h5;rw[h5,Nat.mod_eq_of_lt];exact Nat.lt_of_le_of_lt (Nat.div_le_self _ _) (Uh a ha)
theorem Au4{B:Nat}(l:LM)(n:Nat)(hl:l.length=n+2):val B l=(l[n+1]*B+l[n])*B^n+val B (l.take n):=by
 have s:=Po (B:=B) l n oo;rw[En l n oo,En l (n+1) oo,drop_eq_nil_of_le oo] at s;rw[s];show val B (List.take n l)+B^n*(l[n]+B*(l[n+1]+B*0))=_;generalize B^n=M;grind
theorem Au5{B:Nat}(l:LM)(n:Nat)(hl:l.length=n+3):val B l=((l[n+2]*B+l[n+1])*B+l[n])*B^n+val B (l.take n):=by
 have s:=Po (B:=B) l n oo;rw[En l n oo,En l (n+1) oo,En l (n+2) oo,drop_eq_nil_of_le oo] at s;rw[s];show val B (List.take n l)+B^n*(l[n]+B*(l[n+1]+B*(l[n+2]+B*0)))=_;generalize B^n=M;grind
theorem Tz{B:Nat}{l:LM}(h:∀x∈l,x<B)(k:Nat)(hk:k<=l.length):val B (l.take k)<B^k:=by
 have:=Uh (b:=B) (l.take k) (fun x hx=>h x (mem_of_mem_take hx))
 rwa [length_take,Nat.min_eq_left hk] at this
theorem Alh{B n:Nat}{u v:List Nat}(hB:0<B)(hv:v.length=n+2)(hu:u.length=n+3)(wv:∀ x∈v,x<B)(wu:∀ x∈u,x<B)(htop:0<v[n+1])(hlt:val B u<B*val B v):
  u[n+2]*B+u[n+1]<=v[n+1]*B+v[n] /\
  val B u/val B v<=min (B-1) (((u[n+2]*B+u[n+1])*B+u[n])/(v[n+1]*B+v[n])) /\
  min (B-1) (((u[n+2]*B+u[n+1])*B+u[n])/(v[n+1]*B+v[n]))<=val B u/val B v+1:=by
 have e1:=Au4 (B:=B) v n hv;have e2:=Au5 (B:=B) u n hu;have l1:=Tz wv n oo;have l2:=Tz wu n oo;have hM:0<B^n:=Nat.pow_pos hB;have hw:B<=v[n+1]*B+v[n]:=by
  have:=Nat.mul_le_mul_right B htop;omega
 rw[e1,e2] at hlt;rw[e1,e2];generalize val B (v.take n)=Vl at *;generalize val B (u.take n)=Ul at *;generalize v[n+1]*B+v[n]=w at *;generalize u[n+2]*B+u[n+1]=h at *;have a:=Arz (M:=B^n) hw hM l1 l2 hlt;refine⟨?_,a.1,a.2⟩;have h1:h*(B*B^n)<(w+1)*(B*B^n):=by
  have x1:(h*B+u[n])*B^n=h*(B*B^n)+u[n]*B^n:=by grind
  have x2:B*(w*B^n+Vl)=w*(B*B^n)+B*Vl:=by grind
  have x3:(w+1)*(B*B^n)=w*(B*B^n)+B*B^n:=by grind
  have x4:B*Vl<B*B^n:=Nat.mul_lt_mul_of_pos_left l1 hB;omega
 have:=Nat.lt_of_mul_lt_mul_right h1;omega
theorem Ar0{B q b c:Nat}{u U v:List Nat}(hB:0<B)(hu:u.length=v.length+1)(wu:∀ x∈u,x<B)(wv:∀ x∈v,x<B)(hV:0<val B v)(h1:val B u / val B v<=q)(h2:q<=val B u / val B v+1)(hU:U.length=u.length)(wU:∀ x∈U,x<B)(hd:U.drop v.length=u.drop v.length)(he:val B (U.take v.length)+q*val B v=val B (u.take v.length)+B ^ v.length*(c+b)):
  (q=val B u/val B v/\u[v.length]=c+b/\val B (U.take v.length)=val B u%val B v) \/
  (q=val B u/val B v+1/\c+b=u[v.length]+1/\∀W2 c2,W2<B^v.length->W2+B^v.length*c2=val B (U.take v.length)+val B v->c2=1/\W2=val B u%val B v):=by
 have s:=Po (B:=B) u v.length oo;rw[En u v.length oo,drop_eq_nil_of_le oo] at s;have s':val B u=val B (u.take v.length)+B^v.length*u[v.length]:=by rw[s];simp[val]
 exact Anm hV (Uh v wv) s' h1 h2 (Tz wU v.length oo) he
theorem or32{a b s:Nat}(hb:b<2^s)(h:a*2^s+b<4294967296):Fb .u32 (b:Int) ((a*2^s:Nat):Int)=((b+a*2^s:Nat):Int):=by
 unfold Fb;have e:(BitVec.ofInt IntKind.u32.bits (b:Int) ||| BitVec.ofInt IntKind.u32.bits ((a*2^s:Nat):Int)).toNat=b+a*2^s:=by
  show (BitVec.ofInt 32 (b:Int) ||| BitVec.ofInt 32 ((a*2^s:Nat):Int)).toNat=_;rw[BitVec.toNat_or];have k:∀n:Nat,n<4294967296->(BitVec.ofInt 32 (n:Int)).toNat=n:=fun n hn=>by
   simp[BitVec.toNat_ofInt];omega
  rw[k _ oo,k _ oo,Nat.or_comm,Nat.mul_comm,<-Nat.two_pow_add_eq_or_of_lt hb,Nat.add_comm]
 rw[e];exact Ace .u32 _ (by simp only[top];omega)
theorem or64{x y:Nat}(hx:x<4294967296)(hy:y<4294967296):Fb .u64 (x:Int) (shl_ .u64 (y:Int) 32)=((x+4294967296*y:Nat):Int):=by
 have e1:shl_ .u64 (y:Int) 32=((y*4294967296:Nat):Int):=by
  show IntKind.wrap .u64 ((y:Int)*2^(min (32:Int).toNat 64))=_;rw[show (2:Int)^(min (32:Int).toNat 64)=4294967296 from by decide,IntKind.wrap_u64];omega
 rw[e1];unfold Fb;have e:(BitVec.ofInt IntKind.u64.bits (x:Int) ||| BitVec.ofInt IntKind.u64.bits ((y*4294967296:Nat):Int)).toNat=x+4294967296*y:=by
  show (BitVec.ofInt 64 (x:Int) ||| BitVec.ofInt 64 ((y*4294967296:Nat):Int)).toNat=_;rw[BitVec.toNat_or];have k:∀n:Nat,n<18446744073709551616->(BitVec.ofInt 64 (n:Int)).toNat=n:=fun n hn=>by
   simp[BitVec.toNat_ofInt];omega
  rw[k _ oo,k _ oo,Nat.or_comm,show y*4294967296=2^32*y by omega,<-Nat.two_pow_add_eq_or_of_lt oo];omega
 rw[e];exact Db oo
theorem Az7{x y:Nat}(hx:x<4294967296)(hy:y<4294967296):Fb .u64 (shl_ .u64 (y:Int) 32) (x:Int)=((y*4294967296+x:Nat):Int):=by
 have e1:shl_ .u64 (y:Int) 32=((y*4294967296:Nat):Int):=by
  show IntKind.wrap .u64 ((y:Int)*2^(min (32:Int).toNat 64))=_;rw[show (2:Int)^(min (32:Int).toNat 64)=4294967296 from by decide,IntKind.wrap_u64];omega
 rw[e1];unfold Fb;have e:(BitVec.ofInt IntKind.u64.bits ((y*4294967296:Nat):Int) ||| BitVec.ofInt IntKind.u64.bits (x:Int)).toNat=y*4294967296+x:=by
  show (BitVec.ofInt 64 ((y*4294967296:Nat):Int) ||| BitVec.ofInt 64 (x:Int)).toNat=_;rw[BitVec.toNat_or];have k:∀n:Nat,n<18446744073709551616->(BitVec.ofInt 64 (n:Int)).toNat=n:=fun n hn=>by
   simp[BitVec.toNat_ofInt];omega
  rw[k _ oo,k _ oo,show y*4294967296=2^32*y by omega,<-Nat.two_pow_add_eq_or_of_lt oo]
 rw[e];exact Db oo
theorem Aia(n j:Nat)(h:j<=64):shr_ .u64 (n:Int) (j:Int)=((n/2^j:Nat):Int):=by
 unfold shr_;have e:min ((j:Int)).toNat IntKind.u64.bits=j:=by
  have:IntKind.u64.bits=64:=rfl;rw[this];omega
 rw[e,Int.fdiv_eq_ediv_of_nonneg _ (by exact_mod_cast Nat.zero_le (2^j))];norm_cast
theorem Bdb(n j:Nat)(h:j<=64)(hn:n*2^j<18446744073709551616):shl_ .u64 (n:Int) (j:Int)=((n*2^j:Nat):Int):=by
 unfold shl_;have e:min ((j:Int)).toNat IntKind.u64.bits=j:=by
  have:IntKind.u64.bits=64:=rfl;rw[this];omega
 have c:(n:Int)*2^j=((n*2^j:Nat):Int):=by norm_cast
 rw[e,IntKind.wrap_u64,c];generalize n*2^j=m at *;omega
theorem Bdc{u m b u' b':Nat}(hu:u<4294967296)(hm:m<4294967296)(hb:b<=1)(hb':b'<=1)(hu':u'<4294967296)(h:(u:Int)-(m:Int)-(b:Int)=(u':Int)-4294967296*(b':Int)):
  wu32 (wu64 (wu64 ((u:Int)-(m:Int))-(b:Int)))=(u':Int)/\shr_ .u64 (wu64 (wu64 ((u:Int)-(m:Int))-(b:Int))) 63=(b':Int):=by
 have e:wu64 (wu64 ((u:Int)-(m:Int))-(b:Int))=(((u'+18446744069414584320*b':Nat)):Int):=by
  rw[We,We];omega
 rw[e];constructor
 .rw[Ua];omega
 .rw[show (63:Int)=((63:Nat):Int) from rfl,Aia _ 63 oo];have:(2:Nat)^63=9223372036854775808:=dD;rw[this];omega
end Go.Proofs.YtlejkgngmjchdaaGreat
set_option maxRecDepth 100000
namespace Go.Proofs.YtlejkgngmjchdaaGreat
open Go Go.RowKit Tryz List
theorem Au6{p0 p1:List Int}{U u1 v0 v1:Nat}(i1:idx p1 (w64 ((p1.length:Int)-1))=some ((v1:Nat):Int))(i2:idx p1 (w64 ((p1.length:Int)-2))=some ((v0:Nat):Int))(i3:idx p0 (w64 ((p1.length:Int)-2))=some ((u1:Nat):Int))(g1:v1<4294967296)(g0:v0<4294967296)(k0:u1<4294967296)(htop:0<v1)(hle:U<=v1*4294967296+v0):
  lfix (Jm p1 p0) (((U/v1:Nat):Int),((U%v1:Nat):Int))=some ((min (4294967296-1) ((U*4294967296+u1)/(v1*4294967296+v0)):Nat):Int):=by
 have hU:U<18446744073709551616:=by
  have:v1*4294967296+v0<18446744073709551616:=oo;omega
 obtain⟨r,h⟩:=Ary (f:=Jm p1 p0) (fun q r=>(((q:Nat):Int),((r:Nat):Int))) (fun q _=>((q:Nat):Int)) (B:=4294967296) (v1:=v1) (v0:=v0) (U:=U) (u1:=u1) oo g0 hle g1 htop k0 (fun q r e hr=>by
  have hq:q<=U:=by
   have:q*1<=q*v1:=Nat.mul_le_mul_left _ htop;omega
  have hback:0<q->wu64 (((q:Nat):Int)-1)=((q-1:Nat):Int):=fun h=>by
   rw[show ((q:Nat):Int)-1=((q-1:Nat):Int) by omega,Db oo]
  have hsum:wu64 (((r:Nat):Int)+wu64 ((v1:Nat):Int))=((r+v1:Nat):Int):=by
   rw[Db oo,show ((r:Nat):Int)+((v1:Nat):Int)=((r+v1:Nat):Int) by omega,Db oo]
  have tail:∀ _:0<q,(bnd (idx p1 (w64 ((p1.length:Int)-1))) fun x0=>if 4294967296<=wu64 (((r:Nat):Int)+wu64 x0) then some (.inr (wu64 (((q:Nat):Int)-1))) else some (.inl (wu64 (((q:Nat):Int)-1),wu64 (((r:Nat):Int)+wu64 x0)))) =
    (if 4294967296<=r+v1 then some (Sum.inr ((q-1:Nat):Int)) else some (Sum.inl (((q-1:Nat):Int),((r+v1:Nat):Int)))):=fun hq0=>by
   rw[i1,Ac,hsum,hback hq0]
   by_cases c:4294967296<=r+v1
   .rw[iP c,iP oo]
   .rw[iN c,iN oo]
  unfold Jm;dsimp only;rw[jn_d]
  by_cases c:4294967296<=q
  .rw[iP (oo:(4294967296:Int)<=((q:Nat):Int))];dsimp only;rw[iP rfl,iP (.inl c)];exact tail oo
  ·rw[if_neg oo,i2,Ac,i3,Ac,Db (show u1<_ by omega),Db (show v0<_ by omega),Az7 k0 hr];have hm:wu64 (((q:Nat):Int)*((v0:Nat):Int))=((q*v0:Nat):Int):=by
    have:q*v0<=4294967295*4294967295:=Nat.mul_le_mul oo oo;rw[<-Int.natCast_mul,Db oo]
   rw[hm]
   by_cases c2:4294967296*r+u1<q*v0
   .have hq0:0<q:=Nat.pos_of_ne_zero fun e=>by rw[e,Nat.zero_mul] at c2;omega
    rw[dT oo];dsimp only;rw[iP rfl,iP (.inr c2)];exact tail hq0
   .rw[dF oo];dsimp only;rw[iN Bool.false_ne_true,iN oo])
 exact h
theorem Au7{n:Nat}{u v:List Nat}(hn:n<=1000000)(hv:v.length=n+2)(hu:u.length=n+3)(wv:∀ x∈v,x<4294967296)(wu:∀ x∈u,x<4294967296)(htop:0<v[n+1])(hlt:val 4294967296 u<4294967296*val 4294967296 v):
  lfix (Jm (nI v) (nI u)) (((((u[n+2]*4294967296+u[n+1])/v[n+1]:Nat)):Int),(((u[n+2]*4294967296+u[n+1])%v[n+1]:Nat):Int)) =
   some ((min (4294967296-1) (((u[n+2]*4294967296+u[n+1])*4294967296+u[n])/(v[n+1]*4294967296+v[n])):Nat):Int):=by
 have hB:0<4294967296:=dD;have hle:=@Alh 4294967296 n u v hB hv hu wv wu htop hlt;refine Au6 ?_ ?_ ?_ (wv _ (gM _)) (wv _ (gM _)) (wu _ (gM _)) htop hle.1
 .rw[Bm,Av oo oo,show (v.length:Int)-1=((n+1:Nat):Int) by omega,Bu oo]
 .rw[Bm,Av oo oo,show (v.length:Int)-2=((n:Nat):Int) by omega,Bu oo]
 .rw[Bm,Av oo oo,show (v.length:Int)-2=((n:Nat):Int) by omega,Bu oo]
theorem Ann{q:Nat}(u v:List Nat)(hl:v.length<=1000000)(hv:∀ x∈v,x<4294967296)(hu:∀ x∈u,x<4294967296)(hq:q<4294967296)(hn:v.length<=u.length):
  ∃U b c,lfix (Ij (nI v) (q:Int)) (nI u,0,0,0)=some (nI U,((b:Nat):Int),((c:Nat):Int))/\U.length=u.length/\(∀x∈U,x<4294967296)/\U.drop v.length=u.drop v.length/\b<=1/\c<4294967296 /\
   val 4294967296 (U.take v.length)+q*val 4294967296 v=val 4294967296 (u.take v.length)+4294967296^v.length*(c+b):=by
 obtain⟨U,b,c,h1,h2,h3,h4,h5,h6,h7⟩:=Aux (f:=Ij (nI v) (q:Int)) (fun U b c i=>(nI U,((b:Nat):Int),((c:Nat):Int),((i:Nat):Int))) (B:=4294967296) (q:=q) u v oo hv hu hq hn (fun U b c i u' b' hi hU hlen hw hb hc hb' hu' hcar e=>by
  have a1:=hv _ (gM hi);have a2:=hw _ (gM hU);have hp:q*v[i]<=4294967295*4294967295:=Nat.mul_le_mul oo oo;unfold Ij;dsimp only;rw[iP (by rw[Bm];omega),Bu hi,Ac,Bu hU,Ac,Ac];have e1:wu64 (wu64 ((q:Int)*wu64 ((v[i]:Nat):Int))+((c:Nat):Int))=((q*v[i]+c:Nat):Int):=by
   rw[Db (oo:v[i]<_),<-Int.natCast_mul,Db oo,<-Int.natCast_add,Db oo]
  rw[e1,Ua,Db (oo:(q*v[i]+c)%4294967296<_),Db (oo:U[i]<_)];obtain⟨s1,s2⟩:=Bdc a2 (oo:(q*v[i]+c)%4294967296<4294967296) hb hb' hu' e;rw[s1,s2,show (32:Int)=((32:Nat):Int) from rfl,Aia _ 32 oo,Kh,Bd oo])
 refine⟨U,b,c,?_,h2,h3,h4,h5,h6,h7⟩;refine Eq.trans h1 ?_;rw[Ax];unfold Ij;dsimp only;rw[iN (by rw[Bm];omega)]
theorem Ano(u v:List Nat)(hl:v.length<=1000000)(hv:∀ x∈v,x<4294967296)(hu:∀ x∈u,x<4294967296)(hn:v.length<=u.length):
  ∃U c,lfix (Gc (nI v)) (nI u,0,0)=some (nI U,((c:Nat):Int))/\U.length=u.length/\(∀x∈U,x<4294967296)/\U.drop v.length=u.drop v.length/\c<=1 /\
   val 4294967296 (U.take v.length)+4294967296^v.length*c=val 4294967296 (u.take v.length)+val 4294967296 v:=by
 obtain⟨U,c,h1,h2,h3,h4,h5,h7⟩:=Auy (f:=Gc (nI v)) (fun U c i=>(nI U,((c:Nat):Int),((i:Nat):Int))) (B:=4294967296) u v oo hv hu hn (fun U c i hi hU hlen hw hc=>by
  have a1:=hv _ (gM hi);have a2:=hw _ (gM hU);unfold Gc;dsimp only;rw[iP (by rw[Bm];omega),Bu hU,Ac,Bu hi,Ac,Az8 a2 a1 hc,Ac,Ac];dsimp only;rw[Kh,Bd oo])
 refine⟨U,c,?_,h2,h3,h4,h5,h7⟩;refine Eq.trans h1 ?_;rw[Ax];unfold Gc;dsimp only;rw[iN (by rw[Bm];omega)]
end Go.Proofs.YtlejkgngmjchdaaGreat
