import Derived.Test.YthlkpgdfifnagaaGreatY5
set_option maxRecDepth 100000
set_option maxHeartbeats 1000000
namespace Go.Proofs.YthlkpgdfifnagaaGreat
open Go Go.RowKit Tryz
noncomputable section
section
open Go.Maps (Keyed)
end
instance:Bt prog 139 2 13:=⟨.mk underlying139 rfl rfl (kr:prog.info? 136=some t136) (kr:t136.size=1) rfl⟩
instance:OneI prog 136:=⟨.mk underlying136 rfl (kr:prog.info? 136=some t136) kr⟩
instance:Bt prog 139 3 14:=⟨.mk underlying139 rfl rfl (kr:prog.info? 136=some t136) (kr:t136.size=1) rfl⟩
instance:Bt prog 139 1 10:=⟨.mk underlying139 rfl rfl (kr:prog.info? 26=some t26) (kr:t26.size=3) rfl⟩
instance:Bt prog 139 0 0:=⟨.mk underlying139 rfl rfl (kr:prog.info? 32=some t32) (kr:t32.size=10) rfl⟩
instance:Bt prog 139 4 15:=⟨.mk underlying139 rfl rfl (kr:prog.info? 136=some t136) (kr:t136.size=1) rfl⟩
instance(x0:Int)(x1:Int)(x2:Int)(x3:Int)(x4:Int)(x5:Int)(x6:Int)(x7:Int)(x8:Int)(x9:Int)(x10:OA)(x11:Nat)(x12:Nat)(x13:OA)(x14:Nat)(x15:Nat)(x16:OA)(x17:Nat)(x18:Nat)(x19:Nat)(x20:Nat)(x21:Nat):Ji prog 139 [(0,.agg #[iq x0,iq x1,iq x2,iq x3,iq x4,iq x5,iq x6,iq x7,iq x8,iq x9]),(1,.agg #[.slice x10 x11 x12,.slice x13 x14 x15,.slice x16 x17 x18]),(2,.map (some x19)),(3,.map (some x20)),(4,.map (some x21))] [iq x0,iq x1,iq x2,iq x3,iq x4,iq x5,iq x6,iq x7,iq x8,iq x9,.slice x10 x11 x12,.slice x13 x14 x15,.slice x16 x17 x18,.map (some x19),.map (some x20),.map (some x21)]:=⟨fun w=>kr⟩
structure Vb where
 r:Af
 m:Al
 sunk:List (Int×Bool)
 ground:List (Int×Bool)
 roof:List (Int×Bool)
def Gk(p0:Vb)(p1:Aa):Option Int :=
 gd ((-9223372036854775808<=p1.Id/\p1.Id<=9223372036854775807))<|
 bnd (some ((mget p0.sunk p1.Id).getD false)) fun x4=>
 if x4=true then (some 7)
 else (gd ((-9223372036854775808<=p1.Id/\p1.Id<=9223372036854775807))<|
 bnd (some ((mget p0.ground p1.Id).getD false)) fun x0=>
 if x0=true then (some 2)
 else (jn (fun (s8:Int×Int×Bool)=>
 if s8.2.2=true then (jn (fun (s0:Bool)=>
 if s0=true then (some 7)
 else (gd ((-9223372036854775808<=p1.Id/\p1.Id<=9223372036854775807))<|
 bnd (some ((mget p0.roof p1.Id).getD false)) fun x1=>
 if x1=true then (some 6)
 else (if p0.r.Brush<=s8.1 then (some 5)
 else (some 1))))
 (fun j0=>if p0.r.High<s8.1 then (j0 true)
 else (j0 (decide (s8.2.1<(w64 (-p0.r.Low)))))))
 else (some 1))
 (fun j8=>bnd (Wt p0.m p1) fun r0=>
 j8 (r0.1.Lo,r0.1.Hi,r0.2))))
def Sf(p0:List Aa)(p1:Af)(s5:List Ae×List Ah×List Ad)(r0:List (Int×Bool))(r1:List (Int×Bool))(r2:List (Int×Bool)):(LI×Int)->Option (Sum (LI×Int) LI):=fun s0=>
 if s0.2<(p0.length:Int) then (bnd (idx p0 s0.2) fun x0=>
 bnd (Gk (⟨p1,(⟨s5.1,s5.2.1,s5.2.2⟩:Al),r0,r1,r2⟩:Vb) x0) fun r3=>
 gd ((s0.1.length+1)*8<=140737488355328)<|
 some (.inl (s0.1++[r3],w64 (s0.2+1))))
 else (some (.inr s0.1))
def Gl(p0:List Aa)(p1:Af):Option LI:=
 bnd (Qz p0 p1) fun r2=>
 bnd (Fc p0 p1) fun r9=>
 bnd (Bo p0 r9) fun r0=>
 jn (fun (s5:List Ae×List Ah×List Ad)=>
 bnd (Yq r2.2) fun r1=>
 bnd (Vk r1) fun r3=>
 bnd (Vk r9) fun r4=>
 bnd (Nz p0 (⟨s5.1,s5.2.1,s5.2.2⟩:Al) r9 p1) fun r5=>
 bnd (Vk r5) fun r6=>
 gd ((0:Int)<=(p0.length:Int)/\8*Int.toNat (p0.length:Int)<=140737488355328)<|
 jn (fun (s9:LI)=>
 some s9)
 (fun j9=>bnd (lfix (Sf p0 p1 s5 r3 r4 r6) (([]:LI),0)) fun t0=>
 j9 t0))
 (fun j5=>if r0.2=0 then (j5 (r0.1.V,r0.1.T,r0.1.Lines))
 else (j5 (([]:List Ae),([]:List Ah),([]:List Ad))))
instance(p0:Vb)(p1:Aa):Con (Gk p0 p1) prog 110 (fun K vs=>∃g0_0 gm0_0 gm0_1 gm0_2 U0 E0 U1 E1 U2 E2,vs=[.pointer (some ⟨g0_0,0,none⟩),.agg #[iq p1.Id,iq p1.X,iq p1.Y,iq p1.Z.Lo,iq p1.Z.Hi,iq p1.Wide,iq p1.Num,iq p1.Of,iq p1.Class]]/\Pt K g0_0 0 [iq p0.r.Cell,iq p0.r.Reach,iq p0.r.Slope,iq p0.r.Link,iq p0.r.Flat,iq p0.r.Tall,iq p0.r.High,iq p0.r.Low,iq p0.r.Brush,iq p0.r.Few,.slice U0 p0.m.V.length E0,.slice U1 p0.m.T.length E1,.slice U2 p0.m.Lines.length E2,.map (some gm0_0),.map (some gm0_1),.map (some gm0_2)]/\Has K U0 p0.m.V.length E0 4 Am p0.m.V/\Has K U1 p0.m.T.length E1 3 Az p0.m.T/\Has K U2 p0.m.Lines.length E2 2 Ar p0.m.Lines/\MapK K prog 3 Cy Ca gm0_0 p0.sunk/\MapK K prog 3 Cy Ca gm0_1 p0.ground/\MapK K prog 3 Cy Ca gm0_2 p0.roof/\True) (fun _ r v Ln=>v=iq r/\Ln=[]/\True):=⟨by
 rintro K _ r ⟨g0_0,gm0_0,gm0_1,gm0_2,U0,E0,U1,E1,U2,E2,rfl,hp0,ha0,ha1,ha2,hm0_0,hm0_1,hm0_2,-⟩ hx w hK;replace hp0:=Pt.lo hp0 hK;replace ha0:=ha0.lo hK;replace ha1:=ha1.lo hK;replace ha2:=ha2.lo hK;replace hm0_0:=MapK.lo hm0_0 hK;replace hm0_1:=MapK.lo hm0_1 hK;replace hm0_2:=MapK.lo hm0_2 hK;unfold Gk at hx;have:=dl 1 [0,0,0,1,0,1,1] [0,1,2,3,4,5,6];have:=dl 3 [0,0,0,1,0,1,1] [0,1,2,3,4,5,6];have:=dp 5 [0,0,0,1,1,2,0,0,0,2,3,2] (.q 0 (.q 1 (.q 2 (.q 3 (.q 4 (.e 5 (.q 6 (.q 7 (.q 8 (.e 9 (.e 10 (.e 11 (.done) (.stop)) (.stop)) (.stop))))) (.e 9 (.e 5 (.q 6 (.q 7 (.q 8 (.e 10 (.e 11 (.done) (.stop)) (.stop))))) (.stop)) (.stop))))))));have:=dl 8 [0,1,0,0,0,0,1,0,0,0,1,0,0,0,0,1,0,0,0,2] [0,1,2,3,4,5,6,7,8,9,10,11,12,13,14,15,16,17,18,19];have:=dl 10 [0,0,0,1,0,1,1,2] [0,1,2,3,4,5,6,7];have:=dl 12 [0,1,0,0,0,0,1,0,2] [0,1,2,3,4,5,6,7,8];refine CtS ntmps110 results110 ?_;refine pq ?_;intros;rename_i hx
 refine Cq3 (s:=13) hx rfl ?_ ?_
 .exact aI
 .refine pI ?_;intros;rename_i hx
  refine Cq3 (s:=20) hx rfl ?_ ?_
  .exact aI
  .refine pI ?_;intros;rename_i hx
   apply Jr (γ:=Nat) hx [0,3] (fun s8 y8 f=>(5,.pointer (some ⟨y8,0,none⟩))::(6,.bool s8.2.2)::f) [0,999] (fun s8 y8 l=>.m y8 28 [iq s8.1,iq s8.2.1]::l);exact kk
   .intro s8 y8 hx;refine pq ?_;intros;rename_i hx
    refine Cq4 (s:=30) hx rfl ?_ ?_
    .exact aI
    .refine pI ?_;intros;rename_i hx
     apply Jr (γ:=Unit) hx [0,3,5] (fun s12 y12 f=>(33,.bool s12)::f) [0,1,999] (fun s12 y12 l=>l);exact kk
     .exact aI
     .exact aI
   .exact aI⟩
instance(p0:List Aa)(p1:Af):Con (Gl p0 p1) prog 55 (fun K vs=>∃U0 E0,vs=[.slice U0 p0.length E0,.agg #[iq p1.Cell,iq p1.Reach,iq p1.Slope,iq p1.Link,iq p1.Flat,iq p1.Tall,iq p1.High,iq p1.Low,iq p1.Brush,iq p1.Few]]/\Has K U0 p0.length E0 9 Ag p0/\True) (fun _ r v Ln=>∃A0 c0,v=.slice A0 r.length c0/\Ln=[.r A0 r.length c0 3 1 (r.flatMap Ak)]/\True):=⟨by
 rintro K _ r ⟨U0,E0,rfl,ha0,-⟩ hx w hK;replace ha0:=ha0.lo hK;unfold Gl at hx;have:=dl 6 [1,1,0,2,2,0,2,0,1,0,1,2,2,0,2,2] [0,1,2,5,7,8,9,10,3,4,6,11,12,13,14,15];refine CtS ntmps55 results55 ?_;refine pq ?_;intros;rename_i hx
 apply Jr (γ:=OA×Nat×OA×Nat×OA×Nat×Nat) hx [0,3,6,7] (fun s5 y5 f=>(8,.pointer (some ⟨y5.2.2.2.2.2.2,0,none⟩))::f) [4,6,7,999] (fun s5 y5 l=>.r y5.1 s5.1.length y5.2.1 108 4 (s5.1.flatMap Am) :: .r y5.2.2.1 s5.2.1.length y5.2.2.2.1 101 3 (s5.2.1.flatMap Az) :: .r y5.2.2.2.2.1 s5.2.2.length y5.2.2.2.2.2.1 103 2 (s5.2.2.flatMap Ar) :: .m y5.2.2.2.2.2.2 26 [.slice y5.1 s5.1.length y5.2.1,.slice y5.2.2.1 s5.2.1.length y5.2.2.2.1,.slice y5.2.2.2.2.1 s5.2.2.length y5.2.2.2.2.2.1]::l);exact kk
 .intro s5 y5 hx;refine pq ?_;intros;rename_i hx
  apply Jr (γ:=OA×Nat) hx [] (fun s9 y9 f=>(11,.slice y9.1 s9.length y9.2)::f) [999] (fun s9 y9 l=>.r y9.1 s9.length y9.2 3 1 (s9.flatMap Ak)::l);exact kk
  .exact aI
  .refine pI ?_;intros;rename_i hx
   apply Lr (γ:=OA×Nat) hx [10,50,51] (fun s106 y106 f=>(11,.slice y106.1 s106.1.length y106.2)::(52,iq s106.2)::f) [1,2,4,5,7,8,9,999] (fun s106 y106 l=>.r y106.1 s106.1.length y106.2 3 1 (s106.1.flatMap Ak)::l) (_,_);exact kk;exact sk;intro s106 y106 x106 hx _;unfold Sf at hx;exact au
 .exact aI⟩
theorem Aoe  : Ov prog 41 0 [] 30 []:=fun w=>kr
instance:Oo prog 41 0 [] 30 []:=⟨Aoe⟩
instance:Bt prog 30 7 8:=⟨.mk underlying30 rfl rfl (kr:prog.info? 3=some Tryz.t3) (kr:Tryz.t3.size=1) rfl⟩
def Uz(p0:List Aa):Option (List Aa):=gd (p0.length*72<=140737488355328) <| some p0
theorem Aec(p0:List Aa){K:List Ent}{U0:Option Addr}{E0:Nat}(ha0:Has K U0 p0.length E0 9 Ag p0){r:List Aa}(hx:Uz p0=some r)(w:World)(hK:∀ e∈K,Ent.ok w e):
  CtL prog 59 [.slice U0 p0.length E0] w (fun v Ln=>∃(A0:OA) (c0:Nat),v=.slice A0 r.length c0/\Ln=[.r A0 r.length c0 30 9 (r.flatMap Ag)]/\True):=by
 obtain⟨hb,hx⟩:=Em hx;obtain rfl:=oI hx;have ha:Has [.old w] U0 p0.length E0 9 Ag p0:=Has.low (E:=[]) (by rw[List.append_nil];exact ha0) hK;refine CtL.mk 8 func59 rfl ntmps59 kr rfl ?_;show T 8 _ [(0,.slice U0 p0.length E0)] _;refine Y9 ?_;refine Dg (Ags underlying41 rfl rfl) rfl ?_;refine Y2 ?_;cases hA:U0 with
 |none=>
  subst hA;have h0:p0=[]:=by
   cases p0 with
   |nil=>rfl
   |cons x r=>obtain⟨b,o,h,_⟩:=ha.at_ s_;cases h
  subst h0;refine Y8 ?_;refine Ba 30 9 ?_;exact Pr (rs:=[.tmp 2]) results59 (.tmp rfl .nil) (Ln:=[.r none 0 0 30 9 []]) ⟨none,0,rfl,rfl,trivial⟩ (Bq rfl Gg) (.pick 0 rfl (.pick 0 rfl .refl))
 |some a=>
  subst hA;refine Y5 ?_;refine T_x (Iy rfl Aoe rfl (fun g5=>?_));refine Y ?_;refine T_mr (enc:=Ag) (sz:=9) (([]:List Aa)) (.here) rfl rfl (fun _=>rfl) dD ?_;refine T_h (Yx Ag ([]:List Aa) p0 rfl rfl Ba9 (fun _=>rfl) ha (sb 1) (fun _=>rfl) (by rw[List.length_nil,Nat.zero_add];exact hb) rfl (fun _ _=>.here) dD (fun A1 c1=>?_));refine Y4 ?_;exact Pr (rs:=[.tmp 2]) results59 (.tmp rfl .nil) (Ln:=[.r A1 p0.length c1 30 9 (p0.flatMap Ag)]) ⟨A1,c1,rfl,rfl,trivial⟩ (Bq rfl Gg) (.pick 0 rfl (.pick 0 rfl .refl))
instance(p0:List Aa):Con (Uz p0) prog 59 (fun K vs=>∃U0 E0,vs=[.slice U0 p0.length E0]/\Has K U0 p0.length E0 9 Ag p0/\True) (fun _ r v Ln=>∃A0 c0,v=.slice A0 r.length c0/\Ln=[.r A0 r.length c0 30 9 (r.flatMap Ag)]/\True):=⟨by rintro K _ r ⟨A,c,rfl,ha,-⟩ hx w hK;exact Aec p0 ha hx w hK⟩
instance:SrtI prog 60 61 Ag 9 (fun l=>(ptIn l)) Hn (fun x=>.agg #[iq x.Id,iq x.X,iq x.Y,iq x.Z.Lo,iq x.Z.Hi,iq x.Wide,iq x.Num,iq x.Of,iq x.Class]):=⟨⟨_,func60,rfl,rfl⟩,fun l hb hp A m c t w hok hcm=>Ae3 l hb hp w hok hcm ⟨_,func61,rfl,rfl⟩,fun _ W x y px py=>⟨[.agg #[iq x.Id,iq x.X,iq x.Y,iq x.Z.Lo,iq x.Z.Hi,iq x.Wide,iq x.Num,iq x.Of,iq x.Class],.agg #[iq y.Id,iq y.X,iq y.Y,iq y.Z.Lo,iq y.Z.Hi,iq y.Wide,iq y.Num,iq y.Of,iq y.Class]],rfl,Agi x y (Avh px py) W⟩⟩
def Rd(r0:LI):(List Aa×Int)->Option (Sum (List Aa×Int) (List Aa)):=fun s0=>
 if s0.2<(r0.length:Int) then (bnd (idx r0 s0.2) fun x0=>
 bnd (idx s0.1 s0.2) fun x1=>
 some (.inl (setI s0.1 s0.2 ((⟨x1.Id,x1.X,x1.Y,x1.Z,x1.Wide,x1.Num,x1.Of,x0⟩:Aa)),w64 (s0.2+1))))
 else (some (.inr s0.1))
def Nv(p0:List Aa)(p1:Af)(p2:List Bc):Option (List Aa×Int):=
 bnd (Sd p0 p1) fun r2=>
 if r2=0 then (bnd (Py p2) fun r8=>
 if r8=0 then (bnd (Uz p0) fun r0=>
 gd (r0.length<=1000000000/\(∀x∈r0,(ptIn r0) x))<|
 jn (fun (s0:List Aa)=>
 some (s0,0))
 (fun j0=>bnd (Gl (Bf Hn r0) p1) fun r1=>
 bnd (Rn (Bf Hn r0) r1 p2) fun r3=>
 bnd (lfix (Rd r3) (Bf Hn r0,0)) fun t0=>
 j0 t0))
 else (some (([]:List Aa),r8)))
 else (some (([]:List Aa),r2))
instance(p0:List Aa)(p1:Af)(p2:List Bc):Con (Nv p0 p1 p2) prog 26 (fun K vs=>∃U0 E0 U1 E1,vs=[.slice U0 p0.length E0,.agg #[iq p1.Cell,iq p1.Reach,iq p1.Slope,iq p1.Link,iq p1.Flat,iq p1.Tall,iq p1.High,iq p1.Low,iq p1.Brush,iq p1.Few],.slice U1 p2.length E1]/\Has K U0 p0.length E0 9 Ag p0/\HasN K U1 p2.length E1 4 Ii p2/\True) (fun _ r v Ln=>∃A0 c0,v=.tuple #[.slice A0 r.1.length c0,iq r.2]/\Ln=[.r A0 r.1.length c0 30 9 (r.1.flatMap Ag)]/\True):=⟨by
 rintro K _ r ⟨U0,E0,U1,E1,rfl,ha0,ha1,-⟩ hx w hK;replace ha0:=ha0.lo hK;unfold Nv at hx;refine CtS ntmps26 results26 ?_;refine pq ?_;intros;rename_i hx
 refine Cq2 (s:=17) hx rfl ?_ ?_
 .exact aI
 .refine pI ?_;intros;rename_i hx
  refine Cq2 (s:=22) hx rfl ?_ ?_
  .exact aI
  .refine pI ?_;intros;rename_i hx
   apply Jr (γ:=OA×Nat) hx [] (fun s12 y12 f=>(10,.slice y12.1 s12.length y12.2)::f) [999] (fun s12 y12 l=>.r y12.1 s12.length y12.2 30 9 (s12.flatMap Ag)::l);exact kk
   .exact aI
   .refine pI ?_;intros;rename_i hx
    apply Lr (γ:=OA×Nat) hx [33,34] (fun s69 y69 f=>(10,.slice y69.1 s69.1.length y69.2)::(35,iq s69.2)::f) [0,999] (fun s69 y69 l=>.r y69.1 s69.1.length y69.2 30 9 (s69.1.flatMap Ag)::l) (_,_);exact kk;exact⟨sF2,pK2⟩;intro s69 y69 x69 hx _;unfold Rd at hx;exact au⟩
instance:Ur prog 117 [.bool false,.slice none 0 0]:=⟨⟨_,zeroValue117,rfl⟩⟩
instance(x0:Bool)(x1:OA)(x2:Nat)(x3:Nat):Ji prog 117 [(0,.bool x0),(1,.slice x1 x2 x3)] [.bool x0,.slice x1 x2 x3]:=⟨fun w=>kr⟩
instance:AggI prog 117 2:=⟨.mk underlying117 rfl (kr:prog.info? 117=some t117) kr⟩
instance(x0:Bool)(x1:OA)(x2:Nat)(x3:Nat):Ano prog 117 [.bool x0,.slice x1 x2 x3] 1 (.slice x1 x2 x3):=⟨fun w=>kr⟩
def Lc(p0:Av):Option Bool :=
 jn (fun (s2:Bool)=>
 some s2)
 (fun j2=>if (-1152921504606846976)<=p0.Lo then (if p0.Lo<=p0.Hi then (j2 (decide (p0.Hi<=1152921504606846976)))
 else (j2 false))
 else (j2 false))
def Vs(p0:Av)(p1:Av):Option (Int×Int):=
 jn (fun (s3:Bool)=>
 if s3=true then (some (0,2))
 else (some (max 0 (w64 ((max p0.Lo p1.Lo)-(min p0.Hi p1.Hi))),0)))
 (fun j3=>bnd (Lc p0) fun r3=>
 if r3=true then (bnd (Lc p1) fun r9=>
 j3 (!(r9)))
 else (j3 true))
def Jy  : (Int×LI)->Option (Sum (Int×LI) LI):=fun s0=>
 if 0<s0.1 then (gd ((s0.2.length+1)*8<=140737488355328)<|
 some (.inl (wu64 (Int.tdiv s0.1 65536),s0.2++[w64 (Int.tmod s0.1 65536)])))
 else (some (.inr s0.2))
def Be(p0:Int):Option Ai :=
 jn (fun (s3:Int)=>
 jn (fun (s6:LI)=>
 some (⟨decide (p0<0),s6⟩:Ai))
 (fun j6=>bnd (lfix Jy (s3,([]:LI))) fun t0=>
 j6 t0))
 (fun j3=>if p0<0 then (j3 (wu64 (-(wu64 p0))))
 else (j3 (wu64 p0)))
def Qo(p0:LI):Int->Option (Sum Int Int):=fun s0=>
 jn (fun (s7:Bool)=>
 if s7=true then (some (.inl (w64 (s0-1))))
 else (some (.inr s0)))
 (fun j7=>if 0<s0 then (bnd (idx p0 (w64 (s0-1))) fun x0=>
 j7 (decide (x0=0)))
 else (j7 false))
def Bl(p0:LI):Option LI:=
 jn (fun (s3:Int)=>
 gd (0<=s3/\s3<=(p0.length:Int))<|
 some (subl p0 0 s3))
 (fun j3=>bnd (lfix (Qo p0) (p0.length:Int)) fun t0=>
 j3 t0)
theorem Aqo{l r:LI}(h:Bl l=some r):∃k,r=l.take k:=by
 unfold Bl at h;simp only[jn] at h;obtain⟨n,_,h⟩:=Bk h;obtain⟨_,h⟩:=Em h;obtain rfl:=oI h;exact⟨_,Bd1 _ _⟩
def Na(p0:LI)(p1:LI):Int->Option (Sum Int (Sum Unit Int)):=fun s0=>
 if 0<=s0 then (bnd (idx p0 s0) fun x0=>
 bnd (idx p1 s0) fun x1=>
 if x0=x1 then (some (.inl (w64 (s0-1))))
 else (bnd (idx p0 s0) fun x2=>
 bnd (idx p1 s0) fun x3=>
 if x2<x3 then (some (.inr (.inr (-1))))
 else (some (.inr (.inr 1)))))
 else (some (.inr (.inl ())))
def Fk(p0:LI)(p1:LI):Option Int :=
 if (p0.length:Int)=(p1.length:Int) then (jn (fun (s8:Unit)=>
 some 0)
 (fun j8=>bnd (lfix (Na p0 p1) (w64 ((p0.length:Int)-1))) fun t0=>
 (match t0 with
 |(.inl z0)=>j8 z0
 |(.inr z0)=>some z0
 )))
 else (if (p0.length:Int)<(p1.length:Int) then (some (-1))
 else (some 1))
def Ia(p1:LI)(p0:LI):(LI×Int×Int)->Option (Sum (LI×Int×Int) LI):=fun s0=>
 jn (fun (s1:Bool)=>
 if s1=true then (jn (fun (s2:Int)=>
 jn (fun (s3:Int)=>
 gd ((s0.1.length+1)*8<=140737488355328)<|
 some (.inl (s0.1++[Int.tmod s3 65536],w64 (Int.tdiv s3 65536),w64 (s0.2.2+1))))
 (fun j0=>if s0.2.2<(p1.length:Int) then (bnd (idx p1 s0.2.2) fun x0=>
 j0 (w64 (s2+x0)))
 else (j0 s2)))
 (fun j1=>if s0.2.2<(p0.length:Int) then (bnd (idx p0 s0.2.2) fun x1=>
 j1 (w64 (s0.2.1+x1)))
 else (j1 s0.2.1)))
 else (some (.inr s0.1)))
 (fun j2=>if s0.2.2<(p0.length:Int) then (j2 true)
 else (if s0.2.2<(p1.length:Int) then (j2 true)
 else (j2 (decide (0<s0.2.1)))))
def Ju(p0:LI)(p1:LI):Option LI:=
 jn (fun (s4:LI)=>
 bnd (Bl s4) fun r0=>
 some r0)
 (fun j4=>bnd (lfix (Ia p1 p0) (([]:LI),0,0)) fun t0=>
 j4 t0)
def Fm(p0:LI)(p1:LI):(LI×Int×Int)->Option (Sum (LI×Int×Int) LI):=fun s0=>
 if s0.2.2<(p0.length:Int) then (bnd (idx p0 s0.2.2) fun x0=>
 jn (fun (s1:Int)=>
 jn (fun (s2:Int×Int)=>
 gd ((s0.1.length+1)*8<=140737488355328)<|
 some (.inl (s0.1++[s2.2],s2.1,w64 (s0.2.2+1))))
 (fun j0=>if s1<0 then (j0 (1,w64 (s1+65536)))
 else (j0 (0,s1))))
 (fun j1=>if s0.2.2<(p1.length:Int) then (bnd (idx p1 s0.2.2) fun x1=>
 j1 (w64 ((w64 (x0-s0.2.1))-x1)))
 else (j1 (w64 (x0-s0.2.1)))))
 else (some (.inr s0.1))
def Fi(p0:LI)(p1:LI):Option LI:=
 jn (fun (s4:LI)=>
 bnd (Bl s4) fun r0=>
 some r0)
 (fun j4=>bnd (lfix (Fm p0 p1) (([]:LI),0,0)) fun t0=>
 j4 t0)
def Ha(p1:LI)(p0:LI)(s0:LI×Int):(LI×Int×Int)->Option (Sum (LI×Int×Int) (LI×Int)):=fun s1=>
 if s1.2.2<(p1.length:Int) then (bnd (idx p0 s0.2) fun x0=>
 bnd (idx p1 s1.2.2) fun x1=>
 bnd (idx s1.1 (w64 (s0.2+s1.2.2))) fun x2=>
 bnd (idx s1.1 (w64 (s0.2+s1.2.2))) fun x3=>
 some (.inl (setI s1.1 (w64 (s0.2+s1.2.2)) (Int.tmod (w64 ((w64 ((w64 (x0*x1))+x2))+s1.2.1)) 65536),w64 (Int.tdiv (w64 ((w64 ((w64 (x0*x1))+x2))+s1.2.1)) 65536),w64 (s1.2.2+1))))
 else (some (.inr (s1.1,s1.2.1)))
def Hb(p0:LI)(p1:LI):(LI×Int)->Option (Sum (LI×Int) LI):=fun s0=>
 if s0.2<(p0.length:Int) then (jn (fun (s1:LI×Int)=>
 bnd (idx s1.1 (w64 (s0.2+(p1.length:Int)))) fun x0=>
 some (.inl (setI s1.1 (w64 (s0.2+(p1.length:Int))) s1.2,w64 (s0.2+1))))
 (fun j0=>bnd (lfix (Ha p1 p0 s0) (s0.1,0,0)) fun t0=>
 j0 t0))
 else (some (.inr s0.1))
def Ck(p0:LI)(p1:LI):Option LI:=
 gd ((0:Int)<=(w64 ((p0.length:Int)+(p1.length:Int)))/\8*Int.toNat (w64 ((p0.length:Int)+(p1.length:Int)))<=140737488355328)<|
 jn (fun (s3:LI)=>
 bnd (Bl s3) fun r0=>
 some r0)
 (fun j3=>bnd (lfix (Hb p0 p1) (List.replicate (Int.toNat (w64 ((p0.length:Int)+(p1.length:Int)))) (0:Int),0)) fun t0=>
 j3 t0)
def Pi(p0:LI)(p1:Int):(LI×Int×Int)->Option (Sum (LI×Int×Int) (LI×Int)):=fun s0=>
 if 0<=s0.2.2 then (bnd (idx p0 s0.2.2) fun x0=>
 gd (p1≠0)<|
 bnd (idx s0.1 s0.2.2) fun x1=>
 gd (p1≠0)<|
 some (.inl (setI s0.1 s0.2.2 (w64 (Int.tdiv (w64 ((w64 (s0.2.1*65536))+x0)) p1)),Int.tmod (w64 ((w64 (s0.2.1*65536))+x0)) p1,w64 (s0.2.2-1))))
 else (some (.inr (s0.1,s0.2.1)))
def Fp(p0:LI)(p1:Int):Option (LI×Int):=
 gd ((0:Int)<=(p0.length:Int)/\8*Int.toNat (p0.length:Int)<=140737488355328)<|
 jn (fun (s4:LI×Int)=>
 bnd (Bl s4.1) fun r0=>
 some (r0,s4.2))
 (fun j4=>bnd (lfix (Pi p0 p1) (List.replicate (Int.toNat (p0.length:Int)) (0:Int),0,w64 ((p0.length:Int)-1))) fun t0=>
 j4 t0)
def Hr(r0:LI)(r1:LI):(Int×LI)->Option (Sum (Int×LI) (Int×LI)):=fun s0=>
 bnd (Fk s0.2 r0) fun r2=>
 if 0<r2 then (bnd (Fi s0.2 r1) fun r3=>
 some (.inl (w64 (s0.1-1),r3)))
 else (some (.inr (s0.1,s0.2)))
def Dd(r0:LI)(r1:LI):(LI×LI×Int)->Option (Sum (LI×LI×Int) (LI×LI)):=fun s0=>
 if 0<=s0.2.2 then (bnd (idx r0 s0.2.2) fun x0=>
 gd ((([x0]).length+s0.2.1.length)*8<=140737488355328)<|
 bnd (Bl (([x0])++s0.2.1)) fun r2=>
 jn (fun (s1:Int)=>
 bnd (Bl ([s1])) fun r3=>
 bnd (Ck r1 r3) fun r4=>
 jn (fun (s2:Int×LI)=>
 bnd (Fi r2 s2.2) fun r5=>
 bnd (idx s0.1 s0.2.2) fun x1=>
 some (.inl (setI s0.1 s0.2.2 s2.1,r5,w64 (s0.2.2-1))))
 (fun j0=>bnd (lfix (Hr r2 r1) (s1,r4)) fun t0=>
 j0 t0))
 (fun j1=>if (r1.length:Int)<=(r2.length:Int) then (bnd (idx r2 (w64 ((r2.length:Int)-1))) fun x2=>
 jn (fun (s3:Int)=>
 bnd (idx r1 (w64 ((r1.length:Int)-1))) fun x3=>
 gd (x3≠0)<|
 if 65536<=(w64 (Int.tdiv s3 x3)) then (j1 65535)
 else (j1 (w64 (Int.tdiv s3 x3))))
 (fun j2=>if (r1.length:Int)<(r2.length:Int) then (bnd (idx r2 (w64 ((r2.length:Int)-2))) fun x4=>
 j2 (w64 ((w64 (x2*65536))+x4)))
 else (j2 x2)))
 else (j1 0)))
 else (some (.inr (s0.1,s0.2.1)))
def De(p0:LI)(p1:LI):Option (LI×LI):=
 bnd (Fk p0 p1) fun r1=>
 if r1<0 then (some (([]:LI),p0))
 else (if (p1.length:Int)=1 then (bnd (idx p1 0) fun x9=>
 bnd (Fp p0 x9) fun r0=>
 bnd (Be r0.2) fun r2=>
 some (r0.1,r2.L))
 else (bnd (idx p1 (w64 ((p1.length:Int)-1))) fun x0=>
 gd ((w64 (x0+1))≠0)<|
 bnd (Ck p0 ([w64 (Int.tdiv 65536 (w64 (x0+1)))])) fun r3=>
 bnd (Ck p1 ([w64 (Int.tdiv 65536 (w64 (x0+1)))])) fun r4=>
 gd ((0:Int)<=(w64 ((w64 ((r3.length:Int)-(r4.length:Int)))+1))/\8*Int.toNat (w64 ((w64 ((r3.length:Int)-(r4.length:Int)))+1))<=140737488355328)<|
 gd (0<=(w64 ((w64 ((r3.length:Int)-(r4.length:Int)))+1))/\(w64 ((w64 ((r3.length:Int)-(r4.length:Int)))+1))<=(r3.length:Int))<|
 gd (((([]:LI)).length+(subl r3 (w64 ((w64 ((r3.length:Int)-(r4.length:Int)))+1)) (r3.length:Int)).length)*8<=140737488355328)<|
 bnd (Bl ((([]:LI))++(subl r3 (w64 ((w64 ((r3.length:Int)-(r4.length:Int)))+1)) (r3.length:Int)))) fun r5=>
 jn (fun (s0:LI×LI)=>
 bnd (idx ([w64 (Int.tdiv 65536 (w64 (x0+1)))]) 0) fun x1=>
 bnd (Fp s0.2 x1) fun r6=>
 bnd (Bl s0.1) fun r7=>
 some (r7,r6.1))
 (fun j0=>bnd (lfix (Dd r3 r4) (List.replicate (Int.toNat (w64 ((w64 ((r3.length:Int)-(r4.length:Int)))+1))) (0:Int),r5,w64 ((r3.length:Int)-(r4.length:Int)))) fun t0=>
 j0 t0)))
def Sg  : (LI×LI)->Option (Sum (LI×LI) LI):=fun s0=>
 if 0<(s0.2.length:Int) then (bnd (De s0.1 s0.2) fun r0=>
 some (.inl (s0.2,r0.2)))
 else (some (.inr s0.1))
def Pq(p0:LI)(p1:LI):Option LI:=
 jn (fun (s2:LI)=>
 some s2)
 (fun j2=>bnd (lfix Sg (p0,p1)) fun t0=>
 j2 t0)
instance(p0:Av):Con (Lc p0) prog 210 (fun _ vs=>vs=[.agg #[iq p0.Lo,iq p0.Hi]]) (fun _ r v Ln=>v=.bool r/\Ln=[]/\True):=⟨by
 rintro _ _ r rfl hx w hK;unfold Lc at hx;refine CtS ntmps210 results210 ?_;exact au⟩
instance(p0:Av)(p1:Av):Con (Vs p0 p1) prog 143 (fun _ vs=>vs=[.agg #[iq p0.Lo,iq p0.Hi],.agg #[iq p1.Lo,iq p1.Hi]]) (fun _ r v Ln=>v=.tuple #[iq r.1,iq r.2]/\Ln=[]/\True):=⟨by
 rintro _ _ r rfl hx w hK;unfold Vs at hx;refine CtS ntmps143 results143 ?_;exact au⟩
instance(p0:Int):Con (Be p0) prog 88 (fun _ vs=>vs=[iq p0]) (fun _ r v Ln=>∃A0 c0,v=.agg #[.bool r.Neg,.slice A0 r.L.length c0]/\Ln=[.r A0 r.L.length c0 3 1 (r.L.flatMap Ak)]/\True):=⟨by
 rintro _ _ r rfl hx w hK;unfold Be at hx;refine CtS ntmps88 results88 ?_;refine pq ?_;intros;rename_i hx
 refine pA ?_;intros;rename_i hx
 refine pA ?_;intros;rename_i hx
 apply Jr (γ:=Unit) hx [0,2] (fun s3 y3 f=>(3,.int .u64 s3)::f) [0,999] (fun s3 y3 l=>l);exact kk
 .intro s3 y3 hx;refine pq ?_;intros;rename_i hx
  refine pA ?_;intros;rename_i hx
  apply Jr (γ:=OA×Nat) hx [0,2] (fun s6 y6 f=>(4,.slice y6.1 s6.length y6.2)::f) [0,999] (fun s6 y6 l=>.r y6.1 s6.length y6.2 3 1 (s6.flatMap Ak)::l);exact kk
  .exact aI
  .refine pI ?_;intros;rename_i hx
   refine Ba 3 1 ?_;apply Lr (γ:=OA×Nat) hx [0,2] (fun s0 y0 f=>(3,.int .u64 s0.1)::(4,.slice y0.1 s0.2.length y0.2)::f) [1,999] (fun s0 y0 l=>.r y0.1 s0.2.length y0.2 3 1 (s0.2.flatMap Ak)::l) (_,_);exact kk;exact sk;intro s0 y0 x0 hx _;unfold Jy at hx;exact au
 .exact aI⟩
theorem Yw(p0:LI){K:LE}{U0:OA}{E0:Nat}(ha0:Has K U0 p0.length E0 1 Ak p0){r:LI}(hx:Bl p0=some r)(w:World)(hK:∀e∈K,Ent.ok w e):CtL prog 211 [.slice U0 p0.length E0] w fun v Ln=>v=.slice U0 r.length E0/\Ln=[]/\Has K U0 r.length E0 1 Ak r/\True:=by
 have ha0':=Has.up0 ha0;refine CtL.mk 21 func211 rfl ntmps211 kr rfl ?_;show T 21 _ [(0,.slice U0 p0.length E0)] _;unfold Bl at hx;refine Y8 ?_;refine Dg (Aap rfl 3 underlying42) rfl ?_;refine Y3 ?_;refine Tj (γ:=Unit) hx (fun s3 y3=>[(0,.slice U0 p0.length E0),(3,iq s3)]) (fun s3 y3=>[]++[.old w]) (fun s3 y3=>True) (fun s3 y3 hx0 hG0=>?_) (fun j3 hx=>?_)
 .refine Y4 ?_;obtain⟨h0,hx1⟩:=Em hx0;have hs0:=Has.subH ha0' h0.1 h0.2;refine Dg (Amn rfl rfl Aj1 h0.1 (by have:=Has.nc ha0';omega)) rfl ?_;refine Y4 ?_;refine Aqm (s:=2) (v':=.slice U0 ((subl p0 0 s3).length) E0) rfl (by have hn0:(Int.toNat s3)=(subl p0 0 s3).length:=(Has.len hs0).symm;first|(rw[<-hn0];done)|rfl) ?_;obtain rfl:=oI hx1;exact Pr (rs:=[.tmp 2]) results211 (.tmp rfl (.nil)) (Ln:=[]) ⟨rfl,rfl,Has.len' (Has.dn0 hs0),trivial⟩ Gg (by exact .refl)
 .refine Y ?_;obtain⟨t0,hl0,ho0⟩:=Bk hx;refine Lp (σ:=Int) (γ:=Unit) hl0 (fun s0 y0=>[(0,.slice U0 p0.length E0),(3,iq s0)]) (fun s0 y0=>[]++[.old w]) (fun s0 y0=>True) () trivial (by exact .refl) ?_;intro s0 y0 hG1 x0 hx2 ht0;unfold Qo at hx2;refine Y ?_;refine Tj (γ:=Unit) hx2 (fun s7 y7=>[(0,.slice U0 p0.length E0),(3,iq s0),(15,.bool s7)]) (fun s7 y7=>[]++[.old w]) (fun s7 y7=>True) (fun s7 y7 hx3 hG2=>?_) (fun j7 hx2=>?_)
  .refine Zt (s:=15) rfl (fun h1=>?_) (fun h1=>?_)
   .have hx4:=Yv h1 hx3;refine Y10 ?_;exact Rp (w64 (s0-1)) () hx4 trivial (by exact .refl)
   .have hx5:=Aeb h1 hx3;refine Y3 ?_;obtain rfl:=Zw ht0 hx5;refine Y2 ?_;exact Mt s0 () ho0 trivial (by exact .refl)
  .refine Y4 ?_;refine Ti hx2 (s:=8) rfl (fun h2 hx6=>?_) (fun h2 hx7=>?_)
   .refine Y3 ?_;obtain⟨x1,h3,hx8⟩:=Bk hx6;have hw0:=Has.low (E:=[]) ha0' hK;obtain⟨b0,o0,j0,hA0,hj0,hl1,hp0⟩:=Has.at_idx hw0 h3;refine Ae4 rfl rfl rfl (Uv rfl rfl hA0 (j:=j0) hj0 hl1 Aj1) rfl ?_;refine Ae4 rfl rfl rfl (Sc rfl hp0 (sb 0) rfl one3) rfl ?_;refine Y3 ?_;exact Mt (decide (x1=0)) () hx8 trivial (by exact .refl)
   .refine Y8 ?_;exact Mt false () hx7 trivial (by exact .refl)
instance(p0:LI):ConB (Bl p0) prog 211 (fun K vs=>∃U0 E0,vs=[.slice U0 p0.length E0]/\Has K U0 p0.length E0 1 Ak p0/\True) (fun K r v Ln=>∃A0 c0 e,v=.slice A0 r.length c0/\Ln=[e]/\Has (K++[e]) A0 r.length c0 1 Ak r/\True):=⟨by
 rintro K _ r ⟨U0,E0,rfl,ha0,-⟩ hx w hK;exact CtL.bunB (Yw p0 ha0 hx w hK) (by
  rintro _ _ w1 hw ⟨rfl,rfl,_,-⟩;exact⟨_,_,_,rfl,rfl,hZ hw,trivial⟩)⟩
instance(p0:LI):TrI (Bl p0) prog 211 Ak 1 p0:=⟨fun _ h=>⟨Aqo h,fun _ _ _ hs w hK=>Yw p0 hs h w hK⟩⟩
instance(p0:LI)(p1:LI):Con (Fk p0 p1) prog 213 (fun K vs=>∃U0 E0 U1 E1,vs=[.slice U0 p0.length E0,.slice U1 p1.length E1]/\Has K U0 p0.length E0 1 Ak p0/\Has K U1 p1.length E1 1 Ak p1/\True) (fun _ r v Ln=>v=iq r/\Ln=[]/\True):=⟨by
 rintro K _ r ⟨U0,E0,U1,E1,rfl,ha0,ha1,-⟩ hx w hK;replace ha0:=ha0.lo hK;replace ha1:=ha1.lo hK;unfold Fk at hx;have:=dl 8 [0,0,0,1,0,0,0,1,0] [0,1,2,3,4,5,6,7,8];have:=dl 9 [0,0,0,1,0,0,0,1,0] [0,1,2,3,4,5,6,7,8];refine CtS ntmps213 results213 ?_;refine pq ?_;intros;rename_i hx
 refine Cq2 (s:=10) hx rfl ?_ ?_
 .exact aI
 .refine pI ?_;intros;rename_i hx
  apply Jr (γ:=Unit) hx [] (fun s8 y8 f=>f) [999] (fun s8 y8 l=>l);exact kk
  .exact aI
  .refine pI ?_;intros;rename_i hx
   apply Lr (γ:=Unit) hx [0,1] (fun s61 y61 f=>(5,iq s61)::f) [999] (fun s61 y61 l=>l) ();exact kk;exact sk;intro s61 y61 x61 hx _;unfold Na at hx;exact au⟩
instance(p0:LI)(p1:LI):Con (Ju p0 p1) prog 212 (fun K vs=>∃U0 E0 U1 E1,vs=[.slice U0 p0.length E0,.slice U1 p1.length E1]/\Has K U0 p0.length E0 1 Ak p0/\Has K U1 p1.length E1 1 Ak p1/\True) (fun _ r v Ln=>∃A0 c0,v=.slice A0 r.length c0/\Ln=[.r A0 r.length c0 3 1 (r.flatMap Ak)]/\True):=⟨by
 rintro K _ r ⟨U0,E0,U1,E1,rfl,ha0,ha1,-⟩ hx w hK;replace ha0:=ha0.lo hK;replace ha1:=ha1.lo hK;unfold Ju at hx;refine CtS ntmps212 results212 ?_;refine pq ?_;intros;rename_i hx
 refine pA ?_;intros;rename_i hx
 refine pA ?_;intros;rename_i hx
 refine pA ?_;intros;rename_i hx
 apply Jr (γ:=OA×Nat) hx [] (fun s4 y4 f=>(5,.slice y4.1 s4.length y4.2)::f) [999] (fun s4 y4 l=>.r y4.1 s4.length y4.2 3 1 (s4.flatMap Ak)::l);exact kk
 .exact aI
 .refine pI ?_;intros;rename_i hx
  refine Ba 3 1 ?_;apply Lr (γ:=OA×Nat) hx [0,1] (fun s0 y0 f=>(5,.slice y0.1 s0.1.length y0.2)::(6,iq s0.2.1)::(7,iq s0.2.2)::f) [999] (fun s0 y0 l=>.r y0.1 s0.1.length y0.2 3 1 (s0.1.flatMap Ak)::l) (_,_);exact kk;exact sk;intro s0 y0 x0 hx _;unfold Ia at hx;refine pq ?_;intros;rename_i hx
  refine pA ?_;intros;rename_i hx
  apply Jr (γ:=Unit) hx [0,1,5,6,7] (fun s1 y1 f=>(22,.bool s1)::f) [0,999] (fun s1 y1 l=>l);exact kk
  .intro s1 y1 hx;refine Cq3 (s:=22) hx rfl ?_ ?_
   .refine pI ?_;intros;rename_i hx
    refine pA ?_;intros;rename_i hx
    refine pA ?_;intros;rename_i hx
    apply Jr (γ:=Unit) hx [0,1,5,7] (fun s2 y2 f=>(8,iq s2)::f) [0,999] (fun s2 y2 l=>l);exact kk
    .exact aI
    .exact aI
   .exact aI
  .exact aI⟩
instance(p0:LI)(p1:LI):Con (Fi p0 p1) prog 214 (fun K vs=>∃U0 E0 U1 E1,vs=[.slice U0 p0.length E0,.slice U1 p1.length E1]/\Has K U0 p0.length E0 1 Ak p0/\Has K U1 p1.length E1 1 Ak p1/\True) (fun _ r v Ln=>∃A0 c0,v=.slice A0 r.length c0/\Ln=[.r A0 r.length c0 3 1 (r.flatMap Ak)]/\True):=⟨by
 rintro K _ r ⟨U0,E0,U1,E1,rfl,ha0,ha1,-⟩ hx w hK;replace ha0:=ha0.lo hK;replace ha1:=ha1.lo hK;unfold Fi at hx;refine CtS ntmps214 results214 ?_;refine pq ?_;intros;rename_i hx
 refine pA ?_;intros;rename_i hx
 refine pA ?_;intros;rename_i hx
 refine pA ?_;intros;rename_i hx
 apply Jr (γ:=OA×Nat) hx [] (fun s4 y4 f=>(5,.slice y4.1 s4.length y4.2)::f) [999] (fun s4 y4 l=>.r y4.1 s4.length y4.2 3 1 (s4.flatMap Ak)::l);exact kk
 .exact aI
 .refine pI ?_;intros;rename_i hx
  refine Ba 3 1 ?_;apply Lr (γ:=OA×Nat) hx [0,1] (fun s0 y0 f=>(5,.slice y0.1 s0.1.length y0.2)::(6,iq s0.2.1)::(7,iq s0.2.2)::f) [999] (fun s0 y0 l=>.r y0.1 s0.1.length y0.2 3 1 (s0.1.flatMap Ak)::l) (_,_);exact kk;exact sk;intro s0 y0 x0 hx _;unfold Fm at hx;refine pq ?_;intros;rename_i hx
  refine Cq1 (s:=12) hx rfl ?_ ?_
  .refine pI ?_;intros;rename_i hx
   apply Jr (γ:=Unit) hx [0,1,5,7] (fun s1 y1 f=>(8,iq s1)::f) [0,999] (fun s1 y1 l=>l);exact kk
   .exact aI
   .exact aI
  .exact aI⟩
instance(p0:LI)(p1:LI):Con (Ck p0 p1) prog 144 (fun K vs=>∃U0 E0 U1 E1,vs=[.slice U0 p0.length E0,.slice U1 p1.length E1]/\Has K U0 p0.length E0 1 Ak p0/\Has K U1 p1.length E1 1 Ak p1/\True) (fun _ r v Ln=>∃A0 c0,v=.slice A0 r.length c0/\Ln=[.r A0 r.length c0 3 1 (r.flatMap Ak)]/\True):=⟨by
 rintro K _ r ⟨U0,E0,U1,E1,rfl,ha0,ha1,-⟩ hx w hK;replace ha0:=ha0.lo hK;replace ha1:=ha1.lo hK;unfold Ck at hx;have:=dl 9 [0,0,0,1,0,0,0,1,0,0,0,0,0,0,1,0,0,0,2] [0,1,2,3,4,5,6,7,8,9,10,11,12,13,14,15,16,17,18];refine CtS ntmps144 results144 ?_;refine pq ?_;intros;rename_i hx
 apply Jr (γ:=OA×Nat) hx [] (fun s3 y3 f=>(5,.slice y3.1 s3.length y3.2)::f) [999] (fun s3 y3 l=>.r y3.1 s3.length y3.2 3 1 (s3.flatMap Ak)::l);exact kk
 .exact aI
 .refine pI ?_;intros;rename_i hx
  apply Lr (γ:=OA×Nat) hx [0,1] (fun s0 y0 f=>(5,.slice y0.1 s0.1.length y0.2)::(6,iq s0.2)::f) [999] (fun s0 y0 l=>.r y0.1 s0.1.length y0.2 3 1 (s0.1.flatMap Ak)::l) (_,_);exact kk;exact sk;intro s0 y0 x0 hx _;unfold Hb at hx;refine pq ?_;intros;rename_i hx
  refine Cq1 (s:=19) hx rfl ?_ ?_
  .refine pI ?_;intros;rename_i hx
   refine pA ?_;intros;rename_i hx
   refine pA ?_;intros;rename_i hx
   apply Jr (γ:=OA×Nat) hx [0,1,6] (fun s1 y1 f=>(5,.slice y1.1 s1.1.length y1.2)::(7,iq s1.2)::f) [999] (fun s1 y1 l=>.r y1.1 s1.1.length y1.2 3 1 (s1.1.flatMap Ak)::l);exact kk
   .exact aI
   .refine pI ?_;intros;rename_i hx
    apply Lr (γ:=OA×Nat) hx [0,1,6] (fun s2 y2 f=>(5,.slice y2.1 s2.1.length y2.2)::(7,iq s2.2.1)::(8,iq s2.2.2)::f) [999] (fun s2 y2 l=>.r y2.1 s2.1.length y2.2 3 1 (s2.1.flatMap Ak)::l) (_,_);exact kk;exact sk;intro s2 y2 x1 hx _;unfold Ha at hx;exact au
  .exact aI⟩
instance(p0:LI)(p1:Int):Con (Fp p0 p1) prog 320 (fun K vs=>∃U0 E0,vs=[.slice U0 p0.length E0,iq p1]/\Has K U0 p0.length E0 1 Ak p0/\True) (fun _ r v Ln=>∃A0 c0,v=.tuple #[.slice A0 r.1.length c0,iq r.2]/\Ln=[.r A0 r.1.length c0 3 1 (r.1.flatMap Ak)]/\True):=⟨by
 rintro K _ r ⟨U0,E0,rfl,ha0,-⟩ hx w hK;replace ha0:=ha0.lo hK;unfold Fp at hx;refine CtS ntmps320 results320 ?_;refine pq ?_;intros;rename_i hx
 refine pA ?_;intros;rename_i hx
 apply Jr (γ:=OA×Nat) hx [] (fun s4 y4 f=>(6,.slice y4.1 s4.1.length y4.2)::(7,iq s4.2)::f) [999] (fun s4 y4 l=>.r y4.1 s4.1.length y4.2 3 1 (s4.1.flatMap Ak)::l);exact kk
 .exact aI
 .refine pI ?_;intros;rename_i hx
  apply Lr (γ:=OA×Nat) hx [0,1] (fun s0 y0 f=>(6,.slice y0.1 s0.1.length y0.2)::(7,iq s0.2.1)::(8,iq s0.2.2)::f) [999] (fun s0 y0 l=>.r y0.1 s0.1.length y0.2 3 1 (s0.1.flatMap Ak)::l) (_,_);exact kk;exact sk;intro s0 y0 x0 hx _;unfold Pi at hx;exact au⟩
instance Adu(p0:LI)(p1:LI):ConB (De p0 p1) prog 303 (fun K vs=>∃U0 E0 U1 E1,vs=[.slice U0 p0.length E0,.slice U1 p1.length E1]/\Has K U0 p0.length E0 1 Ak p0/\Has K U1 p1.length E1 1 Ak p1/\True) (fun K r v Ln=>∃A0 c0 A2 c2 e,v=.tuple #[.slice A0 r.1.length c0,.slice A2 r.2.length c2]/\Ln=[.r A0 r.1.length c0 3 1 (r.1.flatMap Ak),e]/\Has (K++[e]) A2 r.2.length c2 1 Ak r.2/\True):=⟨by
 rintro K _ r ⟨U0,E0,U1,E1,rfl,ha0,ha1,-⟩ hx w hK;unfold De at hx;refine CtS ntmps303 results303 ?_;refine pq ?_;intros;rename_i hx
 refine Cq1e (s:=22) hx rfl cQ ?_ ?_
 .exact aI
 .refine pI ?_;intros;rename_i hx
  refine Cq1e (s:=26) hx rfl cQ ?_ ?_
  .exact aI
  .refine pI ?_;intros;rename_i hx
   (with_reducible apply Af3 61 (sz:=1));exact rfl;exact aT;exact iI;exact dL;exact (fun _=>rfl);exact rfl;exact rfl;exact sA
   refine pq ?_;intros;rename_i hx
   rename Int=>x0
   apply Jr (γ:=OA×Nat×OA×Nat×Nat) hx [] (fun s0 y0 f=>(8,.slice (some ⟨y0.2.2.2.2,0,none⟩) 1 1)::(11,.slice y0.1 s0.1.length y0.2.1)::(12,.slice y0.2.2.1 s0.2.length y0.2.2.2.1)::f) [999] (fun s0 y0 l=>.r y0.2.2.1 s0.2.length y0.2.2.2.1 3 1 (s0.2.flatMap Ak) :: .r y0.1 s0.1.length y0.2.1 3 1 (s0.1.flatMap Ak) :: .r (some ⟨y0.2.2.2.2,0,none⟩) 1 1 3 1 (([w64 (Int.tdiv 65536 (w64 (x0+1)))]).flatMap Ak)::l);exact kk
   .exact aI
   .refine pI ?_;intros;rename_i hx
    (with_reducible apply Af3 47 (sz:=1));exact rfl;exact aT;exact iI;exact dL;exact (fun _=>rfl);exact rfl;exact rfl;exact sA
    apply Lr (γ:=OA×Nat×OA×Nat) hx [8,9,10] (fun s1 y1 f=>(11,.slice y1.1 s1.1.length y1.2.1)::(12,.slice y1.2.2.1 s1.2.1.length y1.2.2.2)::(13,iq s1.2.2)::f) [2,3,4,999] (fun s1 y1 l=>.r y1.2.2.1 s1.2.1.length y1.2.2.2 3 1 (s1.2.1.flatMap Ak) :: .r y1.1 s1.1.length y1.2.1 3 1 (s1.1.flatMap Ak)::l) (_,_,_,_);exact kk;exact sk;intro s1 y1 x1 hx _;unfold Dd at hx;refine pq ?_;intros;rename_i hx
    refine Cq1e (s:=78) hx rfl cQ ?_ ?_
    .refine pI ?_;intros;rename_i hx
     (with_reducible apply Af3 85 (sz:=1));exact rfl;exact aT;exact iI;exact dL;exact (fun _=>rfl);exact rfl;exact rfl;exact sA
     refine pq ?_;intros;rename_i hx
     refine pA ?_;intros;rename_i hx
     apply Jr (γ:=Unit) hx [8,9,10,11,12,13] (fun s2 y2 f=>(14,iq s2)::f) [0,2,3,4,5,999] (fun s2 y2 l=>l);exact kk
     .intro s2 y2 hx;refine pq ?_;intros;rename_i hx
      apply Jr (γ:=OA×Nat) hx [8,9,10,11,12,13] (fun s3 y3 f=>(14,iq s3.1)::(16,.slice y3.1 s3.2.length y3.2)::f) [3,4,5,6,7,999] (fun s3 y3 l=>.r y3.1 s3.2.length y3.2 3 1 (s3.2.flatMap Ak)::l);exact kk
      .exact aI
      .refine pI ?_;intros;rename_i hx
       apply Lr (γ:=OA×Nat) hx [8,9,10,11,12,13] (fun s4 y4 f=>(14,iq s4.1)::(16,.slice y4.1 s4.2.length y4.2)::f) [3,4,5,6,7,999] (fun s4 y4 l=>.r y4.1 s4.2.length y4.2 3 1 (s4.2.flatMap Ak)::l) (_,_);exact kk;exact sk;intro s4 y4 x2 hx _;unfold Hr at hx;exact au
     .exact aI
    .exact aI⟩
theorem Ace(p0:LI)(p1:LI){K:LE}{U0:OA}{E0:Nat}{U1:OA}{E1:Nat}(ha0:Has K U0 p0.length E0 1 Ak p0)(ha1:Has K U1 p1.length E1 1 Ak p1){r:LI×LI}(hx:De p0 p1=some r)(w:World)(hK:∀e∈K,Ent.ok w e):CtL prog 303 [.slice U0 p0.length E0,.slice U1 p1.length E1] w fun v Ln=>∃(A0:OA) (c0:Nat) (A2:OA) (c2:Nat) (e0:Ent),v=.tuple #[.slice A0 r.1.length c0,.slice A2 r.2.length c2]/\Ln=[.r A0 r.1.length c0 3 1 (r.1.flatMap Ak),e0]/\Has (K++[e0]) A2 r.2.length c2 1 Ak r.2/\True:=(Adu p0 p1).h K _ _ ⟨_,_,_,_,rfl,ha0,ha1,trivial⟩ hx w hK
theorem Afd(p0:LI)(p1:LI){K:LE}{U0:OA}{E0:Nat}{U1:OA}{E1:Nat}(ha0:Has K U0 p0.length E0 1 Ak p0)(ha1:Has K U1 p1.length E1 1 Ak p1){r:LI}(hx:Pq p0 p1=some r)(w:World)(hK:∀e∈K,Ent.ok w e):CtL prog 319 [.slice U0 p0.length E0,.slice U1 p1.length E1] w fun v Ln=>∃(A0:OA) (c0:Nat) (e0:Ent),v=.slice A0 r.length c0/\Ln=[e0]/\Has (K++[e0]) A0 r.length c0 1 Ak r/\True:=by
 have ha0':=Has.up0 ha0;have ha1':=Has.up0 ha1;refine CtL.mk 19 func319 rfl ntmps319 kr rfl ?_;show T 19 _ [(0,.slice U0 p0.length E0),(1,.slice U1 p1.length E1)] _;unfold Pq at hx;refine Y5 ?_;obtain⟨j2,hj2,hx⟩:=Bbm hx;refine Amj (τ:=LI) (γ:=OA×Nat×Ent) (J:=j2) (out:=r) (fun s2 y2=>[(0,.slice y2.1 s2.length y2.2.1)]) (fun s2 y2=>[y2.2.2]++[.old w]) (fun s2 y2=>y2.2.2.low=0/\Has (K++[y2.2.2]) y2.1 s2.length y2.2.1 1 Ak s2/\True) ?_ ?_
 .intro s2 y2 hx0 hG0;obtain⟨lo57,hs0,-⟩:=hG0;subst hj2;refine Y7 ?_;obtain rfl:=oI hx0;exact Pr (rs:=[.tmp 4]) results319 (.tmp rfl (.nil)) (Ln:=[y2.2.2]) ⟨y2.1,y2.2.1,y2.2.2,rfl,rfl,Has.len' hs0,trivial⟩ (Bq lo57 Gg) (by exact .pick 0 rfl (.refl))
 .skip;refine Y ?_;obtain⟨t0,hl0,ho0⟩:=Bk hx;refine Ba 0 1 ?_;refine Lp (σ:=LI×LI) (γ:=OA×Nat×Ent×OA×Nat) hl0 (fun s0 y0=>[(0,.slice y0.1 s0.1.length y0.2.1),(1,.slice y0.2.2.2.1 s0.2.length y0.2.2.2.2)]) (fun s0 y0=>[y0.2.2.1]++[.old w]) (fun s0 y0=>y0.2.2.1.low=0/\Has (K++[y0.2.2.1]) y0.1 s0.1.length y0.2.1 1 Ak s0.1/\Has (K++[y0.2.2.1]) y0.2.2.2.1 s0.2.length y0.2.2.2.2 1 Ak s0.2/\True) (U0,E0,.r none 0 0 0 1 [],U1,E1) ((by exact⟨rfl,Has.len' ((Has.up (L:=(K++[.r none 0 0 0 1 []])) ha0' (SubE.app2 SubE.nil))),Has.len' ((Has.up (L:=(K++[.r none 0 0 0 1 []])) ha1' (SubE.app2 SubE.nil))),trivial⟩)) (by exact .pick 0 rfl (.refl)) ?_;intro s0 y0 hG1 x0 hx1 ht0;unfold Sg at hx1;obtain⟨lo38,hs1,hs2,-⟩:=hG1;refine Y4 ?_;refine Dg (Aap rfl 3 underlying42) rfl ?_;refine Y3 ?_;refine Ti hx1 (s:=9) rfl (fun h0 hx2=>?_) (fun h0 hx3=>?_)
  .refine Y8 ?_;obtain⟨r0,h1,hx4⟩:=Bk hx2;refine T_x (Ux rfl (fun w1 hw1=>Ace s0.1 s0.2 (Has.len' hs1) (Has.len' hs2) h1 w1 (Bd0 (K:=K) (K2:=[y0.2.2.1]) hK (by exact (sb 1)) (by exact (sb 0)) hw1)) rfl ?_);rintro _ _ hlo ⟨A1,c1,A2,c2,e1,rfl,rfl,hs3,-⟩;have lo53:=hlo e1 s_;refine Aai ?_;have hs4:Has (K++[y0.2.2.1,e1]) _ _ _ _ _ _:=Has.assoc hs3;(iterate 14 refine Y ?_);refine Axr (es:=[y0.2.2.1,e1]) (by exact .pick 2 rfl (.pick 1 rfl (.refl))) (Bq lo38 (Bq lo53 Gg)) ?_;exact Rp (s0.2,r0.2) (y0.2.2.2.1,y0.2.2.2.2,bun [y0.2.2.1,e1],A2,c2) hx4 ((by exact⟨rfl,Has.len' ((Has.up (L:=(K++[(bun [y0.2.2.1,e1])])) hs2 (SubE.app2 (SubE.consB (i:=0) (j:=0) rfl rfl SubE.nil)))),Has.len' ((Has.up (L:=(K++[(bun [y0.2.2.1,e1])])) hs4 (SubE.app2 (SubE.consB (i:=0) (j:=0) rfl rfl (SubE.consB (i:=0) (j:=1) rfl rfl SubE.nil))))),trivial⟩)) (by exact .pick 0 rfl (.drop 0 rfl (.refl)))
  .refine Y3 ?_;obtain rfl:=Zw ht0 hx3;refine Y2 ?_;exact Mt s0.1 (y0.1,y0.2.1,y0.2.2.1) ho0 ((by exact⟨lo38,Has.len' hs1,trivial⟩)) (by exact .pick 0 rfl (.refl))
instance(p0:LI)(p1:LI):ConB (Pq p0 p1) prog 319 (fun K vs=>∃U0 E0 U1 E1,vs=[.slice U0 p0.length E0,.slice U1 p1.length E1]/\Has K U0 p0.length E0 1 Ak p0/\Has K U1 p1.length E1 1 Ak p1/\True) (fun K r v Ln=>∃A0 c0 e,v=.slice A0 r.length c0/\Ln=[e]/\Has (K++[e]) A0 r.length c0 1 Ak r/\True):=⟨by
 rintro K _ r ⟨U0,E0,U1,E1,rfl,ha0,ha1,-⟩ hx w hK;exact CtL.bunB (Afd p0 p1 ha0 ha1 hx w hK) (by
  rintro _ _ w1 hw ⟨_,_,_,rfl,rfl,_,-⟩;exact⟨_,_,_,rfl,rfl,hZ hw,trivial⟩)⟩
end
end Go.Proofs.YthlkpgdfifnagaaGreat
