import Derived.Test.YthlkpgdfifnagaaGreatY1
set_option maxRecDepth 100000
set_option maxHeartbeats 1000000
namespace Go.Proofs.YthlkpgdfifnagaaGreat
open Go Go.RowKit Tryz
theorem Arb:Ol prog 123 [iq 0,iq 0,iq 0,iq 0,iq 0,iq 0,iq 0,iq 0,iq 0,iq 0]:=⟨_,zeroValue123,rfl⟩
instance:Ub prog 123 [iq 0,iq 0,iq 0,iq 0,iq 0,iq 0,iq 0,iq 0,iq 0,iq 0]:=⟨Arb⟩
theorem Arc:Qx prog 123 10:=.mk underlying123 rfl (show prog.info? 123=some t123 from by kernel_rfl) kr
instance:AggI prog 123 10:=⟨Arc⟩
theorem Akf:Hj prog 123 1 9:=.mk underlying123 rfl rfl (show prog.info? 3=some Tryz.t3 from by kernel_rfl) (show Tryz.t3.size=1 from by kernel_rfl) rfl
instance:Cd prog 123 1 9:=⟨Akf⟩
theorem Akg:Hj prog 123 0 0:=.mk underlying123 rfl rfl (show prog.info? 30=some t30 from by kernel_rfl) (show t30.size=9 from by kernel_rfl) rfl
instance:Cd prog 123 0 0:=⟨Akg⟩
theorem Hq(x0:Int)(x1:Int)(x2:Int)(x3:Int)(x4:Int)(x5:Int)(x6:Int)(x7:Int)(x8:Int)(x9:Int):Ui prog 123 [(0,.agg #[iq x0,iq x1,iq x2,iq x3,iq x4,iq x5,iq x6,iq x7,iq x8]),(1,iq x9)] [iq x0,iq x1,iq x2,iq x3,iq x4,iq x5,iq x6,iq x7,iq x8,iq x9]:=fun w=>kr
instance(x0:Int)(x1:Int)(x2:Int)(x3:Int)(x4:Int)(x5:Int)(x6:Int)(x7:Int)(x8:Int)(x9:Int):Kb prog 123 [(0,.agg #[iq x0,iq x1,iq x2,iq x3,iq x4,iq x5,iq x6,iq x7,iq x8]),(1,iq x9)] [iq x0,iq x1,iq x2,iq x3,iq x4,iq x5,iq x6,iq x7,iq x8,iq x9]:=⟨Hq _ _ _ _ _ _ _ _ _ _⟩
noncomputable def Ed(p0:List Int)(p1:Int):Int->Option (Sum Int (Sum Unit Int)):=fun s0=>
 if s0<(p0.length:Int) then (bnd (idx p0 s0) fun x0=>
 if p1=x0 then (some (.inr (.inr s0)))
 else (some (.inl (w64 (s0+1)))))
 else (some (.inr (.inl ())))
noncomputable def Jd(p0:List Int)(p1:Int):Option Int :=
 jn (fun (s2:Unit)=>
 some (-1))
 (fun j2=>bnd (lfix (Ed p0 p1) 0) fun t0=>
 (match t0 with
 | (.inl z0)=>j2 z0
 | (.inr z0)=>some z0
 ))
noncomputable def Dd(p0:List Int)(p1:Int):Option Bool :=
 bnd (Jd p0 p1) fun r1=>
 some (decide (0<=r1))
instance:UndI prog 121 (.map 3 123):=⟨underlying121⟩
structure Ay where
 p:Aa
 far:Int
def Eh(x:Ay):Value:=.agg #[iq x.p.Id,iq x.p.X,iq x.p.Y,iq x.p.Z.Lo,iq x.p.Z.Hi,iq x.p.Wide,iq x.p.Num,iq x.p.Of,iq x.p.Class,iq x.far]
theorem Zk(x y:Ay)(h:Eh x=Eh y):x=y:=by
 rcases x with⟨⟨_,_,_,⟨_,_⟩,_,_,_,_⟩,_⟩;rcases y with⟨⟨_,_,_,⟨_,_⟩,_,_,_,_⟩,_⟩;simp[Eh] at h;simp[h]
instance(x:Ay):UnfI Eh x (.agg #[iq x.p.Id,iq x.p.X,iq x.p.Y,iq x.p.Z.Lo,iq x.p.Z.Hi,iq x.p.Wide,iq x.p.Num,iq x.p.Of,iq x.p.Class,iq x.far]):=⟨rfl⟩
instance(x0:Int)(x1:Int)(x2:Int)(x3:Int)(x4:Int)(x5:Int)(x6:Int)(x7:Int)(x8:Int)(x9:Int):Ab7 Eh (.agg #[iq x0,iq x1,iq x2,iq x3,iq x4,iq x5,iq x6,iq x7,iq x8,iq x9]) (⟨⟨x0,x1,x2,⟨x3,x4⟩,x5,x6,x7,x8⟩,x9⟩):=⟨rfl⟩
instance:ValI prog 123 Eh ((⟨(⟨0,0,0,(⟨0,0⟩:Ax),0,0,0,0⟩:Aa),0⟩:Ay)):=⟨Zk,fun w=>kr⟩
noncomputable def Th(p2:List Aa)(p1:List Int)(r2:Aq × Int)(p3:Af):((List (Int × Ay)) × Int)->Option (Sum ((List (Int × Ay)) × Int) (List (Int × Ay))):=fun s0=>
 if s0.2<(p2.length:Int) then (jn (fun (s1:List (Int × Ay))=>
 some (.inl (s1,w64 (s0.2+1))))
 (fun j0=>bnd (idx p2 s0.2) fun x0=>
 bnd (Dd p1 x0.Id) fun r0=>
 if r0=true then (j0 s0.1)
 else (bnd (Vh r2.1 x0 p3) fun r1=>
 if r1.2.1=true then (gd ((-9223372036854775808<=r1.1/\r1.1<=9223372036854775807))<|
 bnd (some ((mget s0.1 r1.1).getD ((⟨(⟨0,0,0,(⟨0,0⟩:Ax),0,0,0,0⟩:Aa),0⟩:Ay)))) fun x1=>
 jn (fun (s2:Bool)=>
 if s2=true then (gd ((-9223372036854775808<=r1.1/\r1.1<=9223372036854775807))<|
 gd (s0.1.length<9223372036854775807)<|
 j0 (mput s0.1 r1.1 ((⟨x0,r1.2.2⟩:Ay))))
 else (j0 s0.1))
 (fun j1=>if ((mget s0.1 r1.1).isSome)=true then (if r1.2.2<x1.far then (j1 true)
 else (if r1.2.2=x1.far then (bnd (Rv x0 x1.p) fun r3=>
 j1 r3)
 else (j1 false)))
 else (j1 true)))
 else (j0 s0.1))))
 else (some (.inr s0.1))
noncomputable def Abo  : (List Int)->Option (Sum (List Int) (List Int)):=fun s0=>
 some (.inr s0)
noncomputable def Wn  : (List Int)->Int × Ay->Option (Sum (List Int) (List Int)):=fun s0 p158_=>
 gd ((s0.length+1)*8<=140737488355328)<|
 some (.inl (s0++[p158_.2.p.Id]))
noncomputable def Vq(p0:List Aa)(p1:List Int)(p2:List Aa)(p3:Af):Option (List Int × Int):=
 bnd (Da p0 p1) fun r2=>
 if r2.2=0 then (jn (fun (s7:List (Int × Ay))=>
 bnd (Adf p1) fun r0=>
 jn (fun (s0:List Int)=>
 gd (s0.length<=1000000)<|
 some (Ej s0,0))
 (fun j0=>Al6 Abo Wn s7 r0 fun t0=>
 j0 t0))
 (fun j7=>bnd (lfix (Th p2 p1 r2 p3) (([]:List (Int × Ay)),0)) fun t1=>
 j7 t1))
 else (some (([]:List Int),r2.2))
noncomputable def Rh(p0:List Aa)(r2:List Aa)(p1:Af):(List Int)->Option (Sum (List Int) (List Int)):=fun s0=>
 bnd (Vq p0 s0 r2 p1) fun r0=>
 jn (fun (s1:Bool)=>
 if s1=true then (some (.inr s0))
 else (some (.inl r0.1)))
 (fun j0=>if r0.2=0 then (j0 (decide ((r0.1.length:Int)=(s0.length:Int))))
 else (j0 true))
noncomputable def Me(p0:List Aa)(p1:Af):Option (List Int):=
 bnd (Eo p0 p1) fun r2=>
 bnd (Ud r2 p1) fun r9=>
 bnd (lfix (Rh p0 r2 p1) r9) fun t0=>
 some t0
noncomputable def Nt(p0:List Aa)(p1:Af):Option (List Int × Int):=
 bnd (Ob p0 p1) fun r2=>
 if r2=0 then (bnd (Me p0 p1) fun r8=>
 some (r8,0))
 else (some (([]:List Int),r2))
instance slices_Index___int_int__c(p0:List Int)(p1:Int):Con (Jd p0 p1) prog 148 (fun K vs=>∃ U0 E0,vs=[.slice U0 p0.length E0,iq p1]/\Has K U0 p0.length E0 1 Ag p0/\True) (fun _ r=>fun v Ln=>v = iq r/\Ln=[]/\True):=⟨by
 rintro K _ r ⟨U0,E0,rfl,ha0,-⟩ hx w hK;replace ha0:=Has.lo ha0 hK;unfold Jd at hx;refine CtS ntmps148 results148 ?_;try (refine pre ?_;intros;rename_i hx)
 refine Bl ?_;try (refine pre ?_;intros;rename_i hx)
 apply Jr (γ:=Unit) hx [] (fun s2 y2 f=>f) [999] (fun s2 y2 l=>l);exact kk
 ·intro s2 y2 hx;exact au
 ·intro _ hx;try (refine pre ?_;intros;rename_i hx)
  apply Lr (γ:=Unit) hx [0,1,7] (fun s0 y0 f=>(8,iq s0)::f) [999] (fun s0 y0 l=>l) ();exact kk;exact sk;intro s0 y0 x0 hx _;unfold Ed at hx;exact au⟩
instance Wo(p0:List Int)(p1:Int):Con (Dd p0 p1) prog 92 (fun K vs=>∃ U0 E0,vs=[.slice U0 p0.length E0,iq p1]/\Has K U0 p0.length E0 1 Ag p0/\True) (fun _ r=>fun v Ln=>v = .bool r/\Ln=[]/\True):=⟨by
 rintro K _ r ⟨U0,E0,rfl,ha0,-⟩ hx w hK;replace ha0:=Has.lo ha0 hK;unfold Dd at hx;refine CtS ntmps92 results92 ?_;exact au⟩
theorem Wg(p0:List Int)(p1:Int){K:List Ent}{U0:Option Addr}{E0:Nat}(ha0:Has K U0 p0.length E0 1 Ag p0){r:Bool}(hx:Dd p0 p1=some r)(w:World)(hK:∀ e∈K,Ent.ok w e):CtL prog 92 [.slice U0 p0.length E0,iq p1] w fun v Ln=>v = .bool r/\Ln=[]/\True:=(Wo p0 p1).h K _ _ ⟨_,_,rfl,ha0,trivial⟩ hx w hK
theorem Ak1(p0:List Aa)(p1:List Int)(p2:List Aa)(p3:Af){K:List Ent}{U0:Option Addr}{E0:Nat}{U1:Option Addr}{E1:Nat}{U2:Option Addr}{E2:Nat}(ha0:Has K U0 p0.length E0 9 Ai p0)(ha1:Has K U1 p1.length E1 1 Ag p1)(ha2:Has K U2 p2.length E2 9 Ai p2){r:List Int × Int}(hx:Vq p0 p1 p2 p3=some r)(w:World)(hK:∀ e∈K,Ent.ok w e):CtL prog 43 [.slice U0 p0.length E0,.slice U1 p1.length E1,.slice U2 p2.length E2,.agg #[iq p3.Cell,iq p3.Reach,iq p3.Slope,iq p3.Link,iq p3.Flat,iq p3.Tall,iq p3.High,iq p3.Low,iq p3.Brush,iq p3.Few]] w fun v Ln=>∃ (A0:Option Addr) (c0:Nat),v = .tuple #[.slice A0 r.1.length c0,iq r.2]/\Ln=[.r A0 r.1.length c0 3 1 (r.1.flatMap Ag)]/\True:=by
 have ha0':=Has.up0 ha0;have ha1':=Has.up0 ha1;have ha2':=Has.up0 ha2;refine CtL.mk 102 func43 rfl ntmps43 kr rfl ?_;show T 102 _ [(0,.slice U0 p0.length E0),(1,.slice U1 p1.length E1),(2,.slice U2 p2.length E2),(3,.agg #[iq p3.Cell,iq p3.Reach,iq p3.Slope,iq p3.Link,iq p3.Flat,iq p3.Tall,iq p3.High,iq p3.Low,iq p3.Brush,iq p3.Few])] _;unfold Vq at hx;refine Y2 ?_;refine T_x (Pn rfl rfl rfl (fun g1=>?_));refine Y8 ?_;obtain⟨r2,h3,hx4⟩:=An hx;refine T_x (Bv rfl (fun w1 hw1=>Ae2 p0 p1 (Has.len' ha0') (Has.len' ha1') h3 w1 (Qz (K:=K) (K2:=[]) hK (by exact (sb 1)) (by exact SubE.nil) hw1)) rfl ?_);rintro _ _ hlo ⟨A5,c6,A7,c8,A9,c1,rfl,rfl,-⟩;refine Aa9 ?_;refine Y3 ?_;refine T_x (Bu Bch rfl (fun g0=>?_));refine T_h (Az rfl rfl rfl (.here) (.put (.put (.put (.done)))) rfl (List.cons_ne_nil _ _) Aov.2 ?_);refine Y10 ?_;refine Wb (s:=30) rfl (fun h0=>?_) (fun h0=>?_)
 ·have hx0:=Ye h0 hx4;refine Y10 ?_;refine Bb 3 1 ?_;obtain rfl:=Option.some.inj hx0;exact Cz (rs:=[.tmp 8,.tmp 9]) results43 (.tmp rfl (.tmp rfl (.nil))) (Ln:=[.r none 0 0 3 1 ((([]:List Int)).flatMap Ag)]) ⟨none,0,rfl,rfl,trivial⟩ (Bm rfl Co) (by exact .pick 0 rfl (.drop 0 rfl (.drop 0 rfl (.drop 0 rfl (.drop 0 rfl (.drop 0 rfl (.refl)))))))
 ·have hx1:=Gp h0 hx4;refine Y5 ?_;refine T_x (Abx prog 3 Cl Eh rfl (fun g2=>?_));refine Y3 ?_;refine Tj (γ:=Unit) hx1 (fun s7 y7=>[(1,.slice U1 p1.length E1),(12,.map (some g2))]) (fun s7 y7=>[Ba prog 3 Cl Eh g2 s7]++[.old w]) (fun s7 y7=>True) (fun s7 y7 hx2 hG0=>?_) (fun j7 hx1=>?_)
  ·refine Y3 ?_;obtain⟨r0,h1,hx3⟩:=An hx2;refine T_x (Bv rfl (fun w1 hw1=>Af2 p1 (Has.len' ha1') h1 w1 (Qz (K:=K) (K2:=[]) hK (by exact (sb 1)) (by exact SubE.nil) hw1)) rfl ?_);rintro _ _ hlo ⟨A1,c2,rfl,rfl,-⟩;refine Jj ?_;refine Y3 ?_;refine Tj (γ:=Option Addr × Nat) hx3 (fun s0 y0=>[(20,.slice y0.1 s0.length y0.2)]) (fun s0 y0=>[.r y0.1 s0.length y0.2 3 1 (s0.flatMap Ag)]++[.old w]) (fun s0 y0=>True) (fun s0 y0 hx5 hG1=>?_) (fun j0 hx3=>?_)
   ·refine Y3 ?_;obtain⟨h2,hx6⟩:=Bo hx5;refine T_h (Asm s0 rfl h2 (.here) rfl ?_);refine Y10 ?_;have hn0:s0.length=(Ej s0).length:=(by rw[Dx]);refine Yb (.here) (e':=.r y0.1 ((Ej s0).length) y0.2 3 1 ((Ej s0).flatMap Ag)) (by first | (rw[<- hn0];done) | rfl) ?_;refine Aci (s:=8) (v':=.slice y0.1 ((Ej s0).length) y0.2) rfl (by have hn1:s0.length=(Ej s0).length:=(by rw[Dx]);first | (rw[<- hn1];done) | rfl) ?_;obtain rfl:=Option.some.inj hx6;exact Cz (rs:=[.tmp 8,.tmp 9]) results43 (.tmp rfl (.tmp rfl (.nil))) (Ln:=[.r y0.1 ((Ej s0).length) y0.2 3 1 ((Ej s0).flatMap Ag)]) ⟨y0.1,y0.2,rfl,rfl,trivial⟩ (Bm rfl Co) (by exact .pick 0 rfl (.refl))
   ·refine Y3 ?_;refine T_x (Ac2 key3 Sg underlying121 rfl (fun _=>.there (.here)) rfl (fun g3=>?_));refine Y3 ?_;refine Aip (σ:=List Int) (γ:=Option Addr × Nat × (List (Int × Ay)) × (Option (Int × Ay))) hx3 (fun y1=>y1.2.2.1) (fun s1 y1=>[(20,.slice y1.1 s1.length y1.2.1),(88,.pointer (some ⟨g3,0,none⟩))]) (fun s1 y1=>[.r y1.1 s1.length y1.2.1 3 1 (s1.flatMap Ag),rngE prog 3 Cl Eh g2 g3 s7 y1.2.2.1 y1.2.2.2]++[.old w]) (fun s1 y1=>True) (A1,c2,s7,(none:Option (Int × Ay))) rfl trivial (by exact .cons rfl (.cons rfl (.nil))) (by exact .pick 0 rfl (.pick 0 rfl (.refl))) ?_;intro s1 y1 hG2 hm0;replace hm0:MR _ _ y1.2.2.1 s1 r:=hm0;refine Y2 ?_;refine T_h (Afh key3 Sg Zk rfl (i:=1) (fun _ _=>.there (.here)) rfl (fun hn2=>?_) (fun p158_ hp0=>?_))
    ·obtain⟨x0,hx7,ht0⟩:=MR.noneK hm0 hn2;unfold Abo at hx7;refine Y7 ?_;have hk0:=Aki ht0 hx7;refine Aay (.there (.here)) ?_;refine Y2 ?_;exact Mt s1 (y1.1,y1.2.1) hk0 trivial (by exact .pick 0 rfl (.drop 0 rfl (.refl)))
    ·obtain⟨x0,hx7,ht0,hn3⟩:=MR.someK hm0 hp0;unfold Wn at hx7;refine Y10 ?_;refine As (Ac3 (kv:=iq p158_.1) (vv:=.agg #[iq p158_.2.p.Id,iq p158_.2.p.X,iq p158_.2.p.Y,iq p158_.2.p.Z.Lo,iq p158_.2.p.Z.Hi,iq p158_.2.p.Wide,iq p158_.2.p.Num,iq p158_.2.p.Of,iq p158_.2.p.Class,iq p158_.2.far]) rfl (i:=1) rfl rfl rfl) rfl ?_;refine Y ?_;refine T_x (Bu Arb rfl (fun g4=>?_));refine T_h (Az rfl rfl rfl (.here) (.put (.put (.put (.put (.put (.put (.put (.put (.put (.put (.done))))))))))) rfl (List.cons_ne_nil _ _) Arc.2 ?_);refine Y4 ?_;refine As (Be rfl Akg rfl) rfl ?_;refine As (Be rfl Adj rfl) rfl ?_;refine As (Bf rfl (i:=0) rfl rfl one3) rfl ?_;refine T_x (By rfl (Im _) rfl (fun g5=>?_));obtain⟨h4,hx8⟩:=Bo hx7;refine T_h (Jk Ag s1 [p158_.2.p.Id] rfl rfl rfl Adz (fun _=>rfl) (i':=0) rfl rfl rfl rfl h4 rfl (fun _ _=>.there (.there (.here))) (fun _ _=>.drop .refl) dD (fun A2 c3=>?_));refine Y3 ?_;exact Ys (s1++[p158_.2.p.Id]) (A2,c3,mdel y1.2.2.1 p158_.1,(some p158_:Option (Int × Ay))) hx8 hn3 hp0 rfl trivial (by exact .cons rfl (.cons rfl (.nil))) (by exact .pick 1 rfl (.pick 1 rfl (.drop 0 rfl (.refl))))
  ·refine Y3 ?_;refine As (Dn rfl 30 underlying41) rfl ?_;refine Y4 ?_;obtain⟨t0,hl0,ho0⟩:=An hx1;refine Lp (σ:=(List (Int × Ay)) × Int) (γ:=Unit) hl0 (fun s2 y2=>[(1,.slice U1 p1.length E1),(7,.pointer (some ⟨g1,0,none⟩)),(10,.pointer (some ⟨g0,0,none⟩)),(12,.map (some g2)),(33,.slice U2 p2.length E2),(34,iq (p2.length:Int)),(35,iq s2.2)]) (fun s2 y2=>[Ba prog 3 Cl Eh g2 s2.1,.m g0 26 [.slice A5 r2.1.V.length c6,.slice A7 r2.1.T.length c8,.slice A9 r2.1.Lines.length c1],.r A5 r2.1.V.length c6 108 4 (r2.1.V.flatMap Ak),.r A7 r2.1.T.length c8 101 3 (r2.1.T.flatMap Aw),.r A9 r2.1.Lines.length c1 103 2 (r2.1.Lines.flatMap Ar),.m g1 32 [iq p3.Cell,iq p3.Reach,iq p3.Slope,iq p3.Link,iq p3.Flat,iq p3.Tall,iq p3.High,iq p3.Low,iq p3.Brush,iq p3.Few]]++[.old w]) (fun s2 y2=>True) () trivial (by exact .pick 0 rfl (.pick 0 rfl (.pick 0 rfl (.pick 0 rfl (.pick 0 rfl (.pick 0 rfl (.refl))))))) ?_;intro s2 y2 hG3 x1 hx9 ht1;unfold Th at hx9;refine Y6 ?_;refine Ti hx9 (s:=36) rfl (fun h5 hx81=>?_) (fun h5 hx82=>?_)
   ·refine Y3 ?_;refine Tj (γ:=Unit) hx81 (fun s3 y3=>[(1,.slice U1 p1.length E1),(7,.pointer (some ⟨g1,0,none⟩)),(10,.pointer (some ⟨g0,0,none⟩)),(12,.map (some g2)),(33,.slice U2 p2.length E2),(34,iq (p2.length:Int)),(35,iq s2.2)]) (fun s3 y3=>[Ba prog 3 Cl Eh g2 s3,.m g0 26 [.slice A5 r2.1.V.length c6,.slice A7 r2.1.T.length c8,.slice A9 r2.1.Lines.length c1],.r A5 r2.1.V.length c6 108 4 (r2.1.V.flatMap Ak),.r A7 r2.1.T.length c8 101 3 (r2.1.T.flatMap Aw),.r A9 r2.1.Lines.length c1 103 2 (r2.1.Lines.flatMap Ar),.m g1 32 [iq p3.Cell,iq p3.Reach,iq p3.Slope,iq p3.Link,iq p3.Flat,iq p3.Tall,iq p3.High,iq p3.Low,iq p3.Brush,iq p3.Few]]++[.old w]) (fun s3 y3=>True) (fun s3 y3 hx10 hG4=>?_) (fun j1 hx81=>?_)
    ·refine Y4 ?_;exact Rp (s3,w64 (s2.2+1)) () hx10 trivial (by exact .pick 0 rfl (.pick 0 rfl (.pick 0 rfl (.pick 0 rfl (.pick 0 rfl (.pick 0 rfl (.refl)))))))
    ·refine Y3 ?_;obtain⟨x2,h6,hx85⟩:=An hx81;have hw0:=Has.low (E:=[]) ha2' hK;obtain⟨b0,o0,j2,hA0,hj0,hl1,hp1⟩:=Has.at_idx hw0 h6;refine As (Bt rfl rfl hA0 (j:=j2) hj0 hl1 Al5) rfl ?_;refine As (Di rfl hp1 (sb 6) rfl Ug) rfl ?_;refine T_x (Bu Akb rfl (fun g6=>?_));refine T_h (Az rfl rfl rfl (.here) (.put (.put (.put (.put (.put (.put (.put (.put (.put (.done)))))))))) rfl (List.cons_ne_nil _ _) Ug.2 ?_);refine Y6 ?_;refine As (Be rfl Adj rfl) rfl ?_;refine As (Bf rfl (i:=0) rfl rfl one3) rfl ?_;obtain⟨r1,h7,hx97⟩:=An hx85;refine Tc (fun w1 hw1=>Wg p1 x2.Id (Has.len' ha1') h7 w1 (Qz (K:=K) (K2:=[]) hK (by exact (sb 7)) (by exact SubE.nil) hw1)) ?_;refine Y2 ?_;refine Io (s:=42) rfl (fun h8=>?_) (fun h8=>?_)
     ·have hx99:=Gp h8 hx97;refine Y4 ?_;exact Mt s2.1 () hx99 trivial (by exact .pick 1 rfl (.pick 1 rfl (.pick 1 rfl (.pick 1 rfl (.pick 1 rfl (.pick 1 rfl (.drop 0 rfl (.refl))))))))
     ·have hx11:=Kd h8 hx97;refine Y5 ?_;refine As (Bp rfl (i:=2) rfl rfl Aov) rfl ?_;refine As (Bp rfl (i:=0) rfl rfl Ug) rfl ?_;refine As (Bp rfl (i:=6) rfl rfl Ahp) rfl ?_;refine Es (k:=3) rfl dD (fun _=>rfl) (fun hn4 hs0=>?_);refine Es (k:=4) rfl dD (fun _=>rfl) (fun hn5 hs1=>?_);refine Es (k:=5) rfl dD (fun _=>rfl) (fun hn6 hs2=>?_);obtain⟨r3,h9,hx12⟩:=An hx11;refine Tc (fun w1 hw1=>Akp r2.1 x2 p3 (Has.len' (Has.up (L:=([.r A5 r2.1.V.length c6 108 4 (r2.1.V.flatMap Ak),.r A7 r2.1.T.length c8 101 3 (r2.1.T.flatMap Aw),.r A9 r2.1.Lines.length c1 103 2 (r2.1.Lines.flatMap Ar)]:List Ent)) hs0 (sb 0))) (Has.len' (Has.up (L:=([.r A5 r2.1.V.length c6 108 4 (r2.1.V.flatMap Ak),.r A7 r2.1.T.length c8 101 3 (r2.1.T.flatMap Aw),.r A9 r2.1.Lines.length c1 103 2 (r2.1.Lines.flatMap Ar)]:List Ent)) hs1 (sb 1))) (Has.len' (Has.up (L:=([.r A5 r2.1.V.length c6 108 4 (r2.1.V.flatMap Ak),.r A7 r2.1.T.length c8 101 3 (r2.1.T.flatMap Aw),.r A9 r2.1.Lines.length c1 103 2 (r2.1.Lines.flatMap Ar)]:List Ent)) hs2 (sb 2))) h9 w1 (Wc (K:=([.r A5 r2.1.V.length c6 108 4 (r2.1.V.flatMap Ak),.r A7 r2.1.T.length c8 101 3 (r2.1.T.flatMap Aw),.r A9 r2.1.Lines.length c1 103 2 (r2.1.Lines.flatMap Ar)]:List Ent)) (by exact (SubE.cons2 (i:=3) rfl (SubE.cons2 (i:=4) rfl (sb 5)))) hw1)) ?_
      (iterate 16 refine Y ?_);refine Wa (s:=52) rfl (fun h10=>?_) (fun h10=>?_)
      ·have hx15:=Kd h10 hx12;refine Y4 ?_;exact Mt s2.1 () hx15 trivial (by exact .pick 1 rfl (.pick 1 rfl (.pick 1 rfl (.pick 1 rfl (.pick 1 rfl (.pick 1 rfl (.drop 0 rfl (.refl))))))))
      ·have hx16:=Gp h10 hx12;refine Y7 ?_;obtain⟨h11,hx17⟩:=Bo hx16;obtain⟨x3,h13,hx18⟩:=An hx17;refine As (Xs (x:=r3.1) (i:=1) (vv:=.agg #[iq x3.p.Id,iq x3.p.X,iq x3.p.Y,iq x3.p.Z.Lo,iq x3.p.Z.Hi,iq x3.p.Wide,iq x3.p.Num,iq x3.p.Of,iq x3.p.Class,iq x3.far]) key3 underlying121 (fun w=>kr) Sg rfl rfl rfl rfl Rj (isk3 r3.1 h11) h13 rfl) rfl ?_;refine Y3 ?_;refine T_x (Bu Arb rfl (fun g7=>?_));refine T_h (Az rfl rfl rfl (.here) (.put (.put (.put (.put (.put (.put (.put (.put (.put (.put (.done))))))))))) rfl (List.cons_ne_nil _ _) Arc.2 ?_);refine Y3 ?_;refine Tj (γ:=Unit) hx18 (fun s4 y4=>[(1,.slice U1 p1.length E1),(7,.pointer (some ⟨g1,0,none⟩)),(10,.pointer (some ⟨g0,0,none⟩)),(12,.map (some g2)),(14,.pointer (some ⟨g6,0,none⟩)),(15,iq r3.1),(17,iq r3.2.2),(33,.slice U2 p2.length E2),(34,iq (p2.length:Int)),(35,iq s2.2),(78,.bool s4)]) (fun s4 y4=>[.m g6 30 [iq x2.Id,iq x2.X,iq x2.Y,iq x2.Z.Lo,iq x2.Z.Hi,iq x2.Wide,iq x2.Num,iq x2.Of,iq x2.Class],Ba prog 3 Cl Eh g2 s2.1,.m g0 26 [.slice A5 r2.1.V.length c6,.slice A7 r2.1.T.length c8,.slice A9 r2.1.Lines.length c1],.r A5 r2.1.V.length c6 108 4 (r2.1.V.flatMap Ak),.r A7 r2.1.T.length c8 101 3 (r2.1.T.flatMap Aw),.r A9 r2.1.Lines.length c1 103 2 (r2.1.Lines.flatMap Ar),.m g1 32 [iq p3.Cell,iq p3.Reach,iq p3.Slope,iq p3.Link,iq p3.Flat,iq p3.Tall,iq p3.High,iq p3.Low,iq p3.Brush,iq p3.Few]]++[.old w]) (fun s4 y4=>True) (fun s4 y4 hx19 hG5=>?_) (fun j3 hx18=>?_)
       ·refine Io (s:=78) rfl (fun h14=>?_) (fun h14=>?_)
        ·have hx20:=Gp h14 hx19;refine Y4 ?_;refine As (Bp rfl (i:=0) rfl rfl Ug) rfl ?_;refine Y ?_;refine As (Ex rfl (Hq _ _ _ _ _ _ _ _ _ _)) rfl ?_;obtain⟨h15,hx21⟩:=Bo hx20;obtain⟨h16,hx22⟩:=Bo hx21;refine T_h (Ad8 (x:=r3.1) (y:=(⟨x2,r3.2.2⟩:Ay)) key3 Sg underlying121 rfl rfl rfl rfl rfl (.there (.here)) (isk3 r3.1 h15) h16 ?_);refine Y2 ?_;exact Mt (mput s2.1 r3.1 ((⟨x2,r3.2.2⟩:Ay))) () hx22 trivial (by exact .pick 1 rfl (.pick 1 rfl (.pick 1 rfl (.pick 1 rfl (.pick 1 rfl (.pick 1 rfl (.drop 0 rfl (.refl))))))))
        ·have hx23:=Kd h14 hx19;refine Y3 ?_;exact Mt s2.1 () hx23 trivial (by exact .pick 1 rfl (.pick 1 rfl (.pick 1 rfl (.pick 1 rfl (.pick 1 rfl (.pick 1 rfl (.drop 0 rfl (.refl))))))))
       ·refine Y4 ?_;refine Wa (s:=61) rfl (fun h17=>?_) (fun h17=>?_)
        ·have hx24:=Kd h17 hx18;(iterate 18 refine Y ?_);exact Mt true () hx24 trivial (by exact .pick 1 rfl (.pick 1 rfl (.pick 1 rfl (.pick 1 rfl (.pick 1 rfl (.pick 1 rfl (.pick 1 rfl (.drop 0 rfl (.refl)))))))))
        ·have hx25:=Gp h17 hx18;refine Y ?_;refine Pm rfl rfl rfl (Be rfl Akf rfl) rfl ?_;refine Pm rfl rfl rfl (Bf rfl (i:=0) rfl rfl one3) rfl ?_;refine Y3 ?_;refine Ti hx25 (s:=67) rfl (fun h18 hx26=>?_) (fun h18 hx27=>?_)
         ·refine Y12 ?_;exact Mt true () hx26 trivial (by exact .pick 1 rfl (.pick 1 rfl (.pick 1 rfl (.pick 1 rfl (.pick 1 rfl (.pick 1 rfl (.pick 1 rfl (.drop 0 rfl (.refl)))))))))
         ·refine Y ?_;refine Pm rfl rfl rfl (Be rfl Akf rfl) rfl ?_;refine Pm rfl rfl rfl (Bf rfl (i:=0) rfl rfl one3) rfl ?_;refine Y2 ?_;refine Ti hx27 (s:=72) rfl (fun h19 hx28=>?_) (fun h19 hx29=>?_)
          ·refine Pm rfl rfl rfl (Bp rfl (i:=1) rfl rfl Ug) rfl ?_;refine Pm rfl rfl rfl (Be rfl Akg rfl) rfl ?_;refine Pm rfl rfl rfl (Bp rfl (i:=0) rfl rfl Ug) rfl ?_;obtain⟨r4,h20,hx30⟩:=An hx28;refine T_xG rfl rfl rfl (Bv rfl (fun w1 hw1=>Acs x2 x3.p  h20 w1) rfl ?_);rintro _ _ hlo ⟨rfl,rfl,-⟩;refine Yg ?_;refine Y3 ?_;exact Mt r4 () hx30 trivial (by exact .pick 1 rfl (.pick 1 rfl (.pick 1 rfl (.pick 1 rfl (.pick 1 rfl (.pick 1 rfl (.pick 1 rfl (.drop 0 rfl (.refl)))))))))
          ·refine Y7 ?_;exact Mt false () hx29 trivial (by exact .pick 1 rfl (.pick 1 rfl (.pick 1 rfl (.pick 1 rfl (.pick 1 rfl (.pick 1 rfl (.pick 1 rfl (.drop 0 rfl (.refl)))))))))
   ·refine Y3 ?_;obtain rfl:=Gg ht1 hx82;refine Y2 ?_;exact Mt s2.1 () ho0 trivial (by exact .pick 0 rfl (.drop 0 rfl (.drop 0 rfl (.drop 0 rfl (.drop 0 rfl (.drop 0 rfl (.refl)))))))
theorem Aga(p0:List Aa)(p1:Af){K:List Ent}{U0:Option Addr}{E0:Nat}(ha0:Has K U0 p0.length E0 9 Ai p0){r:List Int}(hx:Me p0 p1=some r)(w:World)(hK:∀ e∈K,Ent.ok w e):CtL prog 49 [.slice U0 p0.length E0,.agg #[iq p1.Cell,iq p1.Reach,iq p1.Slope,iq p1.Link,iq p1.Flat,iq p1.Tall,iq p1.High,iq p1.Low,iq p1.Brush,iq p1.Few]] w fun v Ln=>∃ (A0:Option Addr) (c0:Nat),v = .slice A0 r.length c0/\Ln=[.r A0 r.length c0 3 1 (r.flatMap Ag)]/\True:=by
 have ha0':=Has.up0 ha0;refine CtL.mk 34 func49 rfl ntmps49 kr rfl ?_;show T 34 _ [(0,.slice U0 p0.length E0),(1,.agg #[iq p1.Cell,iq p1.Reach,iq p1.Slope,iq p1.Link,iq p1.Flat,iq p1.Tall,iq p1.High,iq p1.Low,iq p1.Brush,iq p1.Few])] _;unfold Me at hx;refine Y2 ?_;refine T_x (Pn rfl rfl rfl (fun g1=>?_));refine Y6 ?_;refine As (Bp rfl (i:=0) rfl rfl Ahp) rfl ?_;obtain⟨r2,h3,hx4⟩:=An hx;refine T_x (Bv rfl (fun w1 hw1=>Ws p0 p1 (Has.len' ha0') h3 w1 (Qz (K:=K) (K2:=[]) hK (by exact (sb 1)) (by exact SubE.nil) hw1)) rfl ?_);rintro _ _ hlo ⟨A5,c6,rfl,rfl,-⟩;refine Jj ?_;refine Y6 ?_;refine As (Bp rfl (i:=1) rfl rfl Ahp) rfl ?_;refine Es (k:=0) rfl dD (fun _=>rfl) (fun hn7 hs8=>?_);obtain⟨r9,h0,hx0⟩:=An hx4;refine T_x (Bv rfl (fun w1 hw1=>Acg r2 p1 (Has.len' hs8) h0 w1 (Wc (K:=([.r A5 r2.length c6 30 9 (r2.flatMap Ai)]:List Ent)) (by exact (sb 0)) hw1)) rfl ?_);rintro _ _ hlo ⟨A1,c1,rfl,rfl,-⟩;refine Jj ?_;refine Y4 ?_;obtain⟨t0,hl0,ho0⟩:=An hx0;refine Lp (σ:=List Int) (γ:=Option Addr × Nat) hl0 (fun s0 y0=>[(0,.slice U0 p0.length E0),(3,.pointer (some ⟨g1,0,none⟩)),(5,.slice A5 r2.length c6),(6,.slice y0.1 s0.length y0.2)]) (fun s0 y0=>[.r y0.1 s0.length y0.2 3 1 (s0.flatMap Ag),.r A5 r2.length c6 30 9 (r2.flatMap Ai),.m g1 32 [iq p1.Cell,iq p1.Reach,iq p1.Slope,iq p1.Link,iq p1.Flat,iq p1.Tall,iq p1.High,iq p1.Low,iq p1.Brush,iq p1.Few]]++[.old w]) (fun s0 y0=>True) (A1,c1) trivial (by exact .pick 0 rfl (.pick 0 rfl (.pick 0 rfl (.refl)))) ?_;intro s0 y0 hG0 x0 hx1 ht0;unfold Rh at hx1;refine Y6 ?_;refine As (Bp rfl (i:=2) rfl rfl Ahp) rfl ?_;refine Es (k:=0) rfl dD (fun _=>rfl) (fun hn0 hs0=>?_);refine Es (k:=1) rfl dD (fun _=>rfl) (fun hn1 hs1=>?_);obtain⟨r0,h1,hx2⟩:=An hx1;refine T_x (Bv rfl (fun w1 hw1=>Ak1 p0 s0 r2 p1 (Has.len' (Has.up (L:=(K++[.r y0.1 s0.length y0.2 3 1 (s0.flatMap Ag),.r A5 r2.length c6 30 9 (r2.flatMap Ai)])) ha0' (SubE.app2 SubE.nil))) (Has.len' (Has.up (L:=(K++[.r y0.1 s0.length y0.2 3 1 (s0.flatMap Ag),.r A5 r2.length c6 30 9 (r2.flatMap Ai)])) hs0 (SubE.appR2 (sb 0)))) (Has.len' (Has.up (L:=(K++[.r y0.1 s0.length y0.2 3 1 (s0.flatMap Ag),.r A5 r2.length c6 30 9 (r2.flatMap Ai)])) hs1 (SubE.appR2 (sb 1)))) h1 w1 (Qz (K:=K) (K2:=[.r y0.1 s0.length y0.2 3 1 (s0.flatMap Ag),.r A5 r2.length c6 30 9 (r2.flatMap Ai)]) hK (by exact (sb 3)) (by exact (SubE.cons2 (i:=0) rfl (sb 1))) hw1)) rfl ?_);rintro _ _ hlo ⟨A2,c2,rfl,rfl,-⟩;refine Jj ?_;refine Y8 ?_;refine Tj (γ:=Unit) hx2 (fun s1 y1=>[(0,.slice U0 p0.length E0),(3,.pointer (some ⟨g1,0,none⟩)),(5,.slice A5 r2.length c6),(6,.slice y0.1 s0.length y0.2),(7,.slice A2 r0.1.length c2),(31,.bool s1)]) (fun s1 y1=>[.r A2 r0.1.length c2 3 1 (r0.1.flatMap Ag),.r y0.1 s0.length y0.2 3 1 (s0.flatMap Ag),.r A5 r2.length c6 30 9 (r2.flatMap Ai),.m g1 32 [iq p1.Cell,iq p1.Reach,iq p1.Slope,iq p1.Link,iq p1.Flat,iq p1.Tall,iq p1.High,iq p1.Low,iq p1.Brush,iq p1.Few]]++[.old w]) (fun s1 y1=>True) (fun s1 y1 hx3 hG1=>?_) (fun j0 hx2=>?_)
 ·refine Io (s:=31) rfl (fun h2=>?_) (fun h2=>?_)
  ·have hx5:=Gp h2 hx3;refine Y10 ?_;obtain rfl:=Gg ht0 hx5;refine Y2 ?_;obtain rfl:=Option.some.inj ho0;exact Cz (rs:=[.tmp 4]) results49 (.tmp rfl (.nil)) (Ln:=[.r y0.1 s0.length y0.2 3 1 (s0.flatMap Ag)]) ⟨y0.1,y0.2,rfl,rfl,trivial⟩ (Bm rfl Co) (by exact .pick 1 rfl (.drop 0 rfl (.drop 0 rfl (.drop 0 rfl (.refl)))))
  ·have hx6:=Kd h2 hx3;refine Y8 ?_;exact Rp r0.1 (A2,c2) hx6 trivial (by exact .pick 0 rfl (.pick 1 rfl (.pick 1 rfl (.drop 0 rfl (.refl)))))
 ·refine Y4 ?_;refine Wb (s:=25) rfl (fun h4=>?_) (fun h4=>?_)
  ·have hx7:=Ye h4 hx2;refine Y7 ?_;exact Mt true () hx7 trivial (by exact .pick 0 rfl (.pick 0 rfl (.pick 0 rfl (.pick 0 rfl (.refl)))))
  ·have hx8:=Gp h4 hx2;refine Y ?_;refine Pm rfl rfl rfl (Dn rfl 3 underlying42) rfl ?_;refine Y ?_;refine Pm rfl rfl rfl (Dn rfl 3 underlying42) rfl ?_;refine Y3 ?_;exact Mt (decide ((r0.1.length:Int)=(s0.length:Int))) () hx8 trivial (by exact .pick 0 rfl (.pick 0 rfl (.pick 0 rfl (.pick 0 rfl (.refl)))))
instance label_groundOf_c(p0:List Aa)(p1:Af):Con (Me p0 p1) prog 49 (fun K vs=>∃ U0 E0,vs=[.slice U0 p0.length E0,.agg #[iq p1.Cell,iq p1.Reach,iq p1.Slope,iq p1.Link,iq p1.Flat,iq p1.Tall,iq p1.High,iq p1.Low,iq p1.Brush,iq p1.Few]]/\Has K U0 p0.length E0 9 Ai p0/\True) (fun _ r=>fun v Ln=>∃ A0 c0,v = .slice A0 r.length c0/\Ln=[.r A0 r.length c0 3 1 (r.flatMap Ag)]/\True):=⟨by
 rintro K _ r ⟨U0,E0,rfl,ha0,-⟩ hx w hK;exact Aga p0 p1 ha0 hx w hK⟩
instance label_Ground_c(p0:List Aa)(p1:Af):Con (Nt p0 p1) prog 19 (fun K vs=>∃ U0 E0,vs=[.slice U0 p0.length E0,.agg #[iq p1.Cell,iq p1.Reach,iq p1.Slope,iq p1.Link,iq p1.Flat,iq p1.Tall,iq p1.High,iq p1.Low,iq p1.Brush,iq p1.Few]]/\Has K U0 p0.length E0 9 Ai p0/\True) (fun _ r=>fun v Ln=>∃ A0 c0,v = .tuple #[.slice A0 r.1.length c0,iq r.2]/\Ln=[.r A0 r.1.length c0 3 1 (r.1.flatMap Ag)]/\True):=⟨by
 rintro K _ r ⟨U0,E0,rfl,ha0,-⟩ hx w hK;replace ha0:=Has.lo ha0 hK;unfold Nt at hx;refine CtS ntmps19 results19 ?_;exact au⟩
theorem Ay8  : Ui prog 28 [] [iq 0,iq 0]:=fun w=>kr
open Go.Maps (Keyed)
section
variable {κ υ:Type}
def MapK(K:List Ent)(P:Program)(k:TypeId)(ke:κ->Value)(ve:υ->Value)(g:Nat)(m:List (κ × υ)):Prop:=∀ w,(∀ e∈K,Ent.ok w e)->Aax P k ke ve g m w
variable {P:Program} {k:TypeId} {ke:κ->Value} {ve:υ->Value} {g:Nat} {m:List (κ × υ)} {K E:List Ent} {w:World}
theorem MapK.m0(h:Ba P k ke ve g m∈K):MapK K P k ke ve g m:=fun w hw=>Rj w (hw _ h)
variable {n:Nat} {fr:List (Nat × Value)} {L:List Ent} {dst:Option Tmp} {ty:TypeId} {pos:String} {after:Array Edge} {guard:Option (Nat × Bool)} {K':List Ent}
end
section
variable {P:Program} {n:Nat} {N:Act->World->Prop} {Q:Exit->Act->World->Prop} {fr:List (Nat × Value)} {L:List Ent}
end
end Go.Proofs.YthlkpgdfifnagaaGreat
namespace Go.Proofs.YthlkpgdfifnagaaGreat
open Go Go.RowKit Tryz
instance:Cd prog 139 2 13:=⟨.mk underlying139 rfl rfl (show prog.info? 136=some t136 from by kernel_rfl) (show t136.size=1 from by kernel_rfl) rfl⟩
instance:OneI prog 136:=⟨.mk underlying136 rfl (show prog.info? 136=some t136 from by kernel_rfl) kr⟩
instance:Cd prog 139 3 14:=⟨.mk underlying139 rfl rfl (show prog.info? 136=some t136 from by kernel_rfl) (show t136.size=1 from by kernel_rfl) rfl⟩
instance:Cd prog 139 1 10:=⟨.mk underlying139 rfl rfl (show prog.info? 26=some t26 from by kernel_rfl) (show t26.size=3 from by kernel_rfl) rfl⟩
instance:Cd prog 139 0 0:=⟨.mk underlying139 rfl rfl (show prog.info? 32=some t32 from by kernel_rfl) (show t32.size=10 from by kernel_rfl) rfl⟩
instance:Cd prog 139 4 15:=⟨.mk underlying139 rfl rfl (show prog.info? 136=some t136 from by kernel_rfl) (show t136.size=1 from by kernel_rfl) rfl⟩
structure S_label_classifier where
 r:Af
 m:Aq
 sunk:List (Int × Bool)
 ground:List (Int × Bool)
 roof:List (Int × Bool)
theorem Apm  : Gi prog 41 0 [] 30 []:=fun w=>kr
instance:Pq prog 41 0 [] 30 []:=⟨Apm⟩
instance:Cd prog 30 7 8:=⟨.mk underlying30 rfl rfl (show prog.info? 3=some Tryz.t3 from by kernel_rfl) (show Tryz.t3.size=1 from by kernel_rfl) rfl⟩
noncomputable def Abp(p0:List Aa):Option (List Aa):=gd (p0.length*72<=140737488355328) <| some p0
theorem Ae5(p0:List Aa){K:List Ent}{U0:Option Addr}{E0:Nat}(ha0:Has K U0 p0.length E0 9 Ai p0){r:List Aa}(hx:Abp p0=some r)(w:World)(hK:∀ e∈K,Ent.ok w e):
  CtL prog 59 [.slice U0 p0.length E0] w (fun v Ln=>∃ (A0:Option Addr) (c0:Nat),v = .slice A0 r.length c0/\Ln=[.r A0 r.length c0 30 9 (r.flatMap Ai)]/\True):=by
 obtain⟨hb,hx⟩:=Bo hx;obtain rfl:=Option.some.inj hx;have ha:Has [.old w] U0 p0.length E0 9 Ai p0:=Has.low (E:=[]) (by rw[List.append_nil];exact ha0) hK;refine CtL.mk 8 func59 rfl ntmps59 kr rfl ?_;show T 8 _ [(0,.slice U0 p0.length E0)] _;refine Y9 ?_;refine As (Agh underlying41 rfl rfl) rfl ?_;refine Y2 ?_;cases hA:U0 with
 | none=>
  subst hA;have h0:p0=[]:=by
   cases p0 with
   | nil=>rfl
   | cons x r=>obtain⟨b,o,h,_⟩:=ha.at_ (by simp);cases h
  subst h0;refine Y8 ?_;refine Bb 30 9 ?_;exact Cz (rs:=[.tmp 2]) results59 (.tmp rfl .nil) (Ln:=[.r none 0 0 30 9 []]) ⟨none,0,rfl,rfl,trivial⟩ (Bm rfl Co) (.pick 0 rfl (.pick 0 rfl .refl))
 | some a=>
  subst hA;refine Y5 ?_;refine T_x (By rfl Apm rfl (fun g5=>?_));refine Y ?_;refine T_mr (enc:=Ai) (sz:=9) (([]:List Aa)) (.here) rfl rfl (fun _=>rfl) dD ?_;refine T_h (Tq Ai ([]:List Aa) p0 rfl rfl Atd (fun _=>rfl) ha (sb 1) (fun _=>rfl) (by rw[List.length_nil,Nat.zero_add];exact hb) rfl (fun _ _=>.here) dD (fun A1 c1=>?_));refine Y4 ?_;exact Cz (rs:=[.tmp 2]) results59 (.tmp rfl .nil) (Ln:=[.r A1 p0.length c1 30 9 (p0.flatMap Ai)]) ⟨A1,c1,rfl,rfl,trivial⟩ (Bm rfl Co) (.pick 0 rfl (.pick 0 rfl .refl))
instance(p0:List Aa):Con (Abp p0) prog 59 (fun K vs=>∃ U0 E0,vs=[.slice U0 p0.length E0]/\Has K U0 p0.length E0 9 Ai p0/\True) (fun _ r=>fun v Ln=>∃ A0 c0,v = .slice A0 r.length c0/\Ln=[.r A0 r.length c0 30 9 (r.flatMap Ai)]/\True):=⟨by rintro K _ r ⟨A,c,rfl,ha,-⟩ hx w hK;exact Ae5 p0 ha hx w hK⟩
theorem Ay9:Ol prog 117 [.bool false,.slice none 0 0]:=⟨_,zeroValue117,rfl⟩
instance:Ub prog 117 [.bool false,.slice none 0 0]:=⟨Ay9⟩
theorem Wi(x0:Bool)(x1:Option Addr)(x2:Nat)(x3:Nat):Ui prog 117 [(0,.bool x0),(1,.slice x1 x2 x3)] [.bool x0,.slice x1 x2 x3]:=fun w=>kr
instance(x0:Bool)(x1:Option Addr)(x2:Nat)(x3:Nat):Kb prog 117 [(0,.bool x0),(1,.slice x1 x2 x3)] [.bool x0,.slice x1 x2 x3]:=⟨Wi _ _ _ _⟩
theorem Akh:Qx prog 117 2:=.mk underlying117 rfl (show prog.info? 117=some t117 from by kernel_rfl) kr
instance:AggI prog 117 2:=⟨Akh⟩
theorem Anx(x0:Bool)(x1:Option Addr)(x2:Nat)(x3:Nat):Aqz prog 117 [.bool x0,.slice x1 x2 x3] 1 (.slice x1 x2 x3):=fun w=>kr
noncomputable def La(p0:Ax):Option Bool :=
 jn (fun (s2:Bool)=>
 some s2)
 (fun j2=>if (-1152921504606846976)<=p0.Lo then (if p0.Lo<=p0.Hi then (j2 (decide (p0.Hi<=1152921504606846976)))
 else (j2 false))
 else (j2 false))
noncomputable def Vb(p0:Ax)(p1:Ax):Option (Int × Int):=
 jn (fun (s3:Bool)=>
 if s3=true then (some (0,2))
 else (some (max 0 (w64 ((max p0.Lo p1.Lo)-(min p0.Hi p1.Hi))),0)))
 (fun j3=>bnd (La p0) fun r3=>
 if r3=true then (bnd (La p1) fun r9=>
 j3 (!(r9)))
 else (j3 true))
noncomputable def Jy  : (Int × List Int)->Option (Sum (Int × List Int) (List Int)):=fun s0=>
 if 0<s0.1 then (gd ((s0.2.length+1)*8<=140737488355328)<|
 some (.inl (wu64 (Int.tdiv s0.1 65536),s0.2++[w64 (Int.tmod s0.1 65536)])))
 else (some (.inr s0.2))
noncomputable def Bh(p0:Int):Option Ah :=
 jn (fun (s3:Int)=>
 jn (fun (s6:List Int)=>
 some (⟨decide (p0<0),s6⟩:Ah))
 (fun j6=>bnd (lfix Jy (s3,([]:List Int))) fun t0=>
 j6 t0))
 (fun j3=>if p0<0 then (j3 (wu64 (-(wu64 p0))))
 else (j3 (wu64 p0)))
noncomputable def Qa(p0:List Int):Int->Option (Sum Int Int):=fun s0=>
 jn (fun (s7:Bool)=>
 if s7=true then (some (.inl (w64 (s0-1))))
 else (some (.inr s0)))
 (fun j7=>if 0<s0 then (bnd (idx p0 (w64 (s0-1))) fun x0=>
 j7 (decide (x0=0)))
 else (j7 false))
noncomputable def Br(p0:List Int):Option (List Int):=
 jn (fun (s3:Int)=>
 gd (0<=s3/\s3<=(p0.length:Int))<|
 some (subl p0 0 s3))
 (fun j3=>bnd (lfix (Qa p0) (p0.length:Int)) fun t0=>
 j3 t0)
theorem Abj{l r:List Int}(h:Br l=some r):∃ k,r=l.take k:=by
 unfold Br at h;simp only[jn] at h;obtain⟨n,_,h⟩:=An h;obtain⟨_,h⟩:=Bo h;obtain rfl:=Option.some.inj h;exact⟨_,Bcm _ _⟩
noncomputable def Mh(p0:List Int)(p1:List Int):Int->Option (Sum Int (Sum Unit Int)):=fun s0=>
 if 0<=s0 then (bnd (idx p0 s0) fun x0=>
 bnd (idx p1 s0) fun x1=>
 if x0=x1 then (some (.inl (w64 (s0-1))))
 else (bnd (idx p0 s0) fun x2=>
 bnd (idx p1 s0) fun x3=>
 if x2<x3 then (some (.inr (.inr (-1))))
 else (some (.inr (.inr 1)))))
 else (some (.inr (.inl ())))
noncomputable def Ee(p0:List Int)(p1:List Int):Option Int :=
 if (p0.length:Int)=(p1.length:Int) then (jn (fun (s8:Unit)=>
 some 0)
 (fun j8=>bnd (lfix (Mh p0 p1) (w64 ((p0.length:Int)-1))) fun t0=>
 (match t0 with
 | (.inl z0)=>j8 z0
 | (.inr z0)=>some z0
 )))
 else (if (p0.length:Int)<(p1.length:Int) then (some (-1))
 else (some 1))
noncomputable def Ih(p1:List Int)(p0:List Int):(List Int × Int × Int)->Option (Sum (List Int × Int × Int) (List Int)):=fun s0=>
 jn (fun (s1:Bool)=>
 if s1=true then (jn (fun (s2:Int)=>
 jn (fun (s3:Int)=>
 gd ((s0.1.length+1)*8<=140737488355328)<|
 some (.inl (s0.1++[Int.tmod s3 65536],w64 (Int.tdiv s3 65536),w64 (s0.2.2+1))))
 (fun j0=>if s0.2.2<(p1.length:Int) then (bnd (idx p1 s0.2.2) fun x0=>
 j0 (w64 (s2+x0)))
 else (j0 s2)))
 (fun j1=>if s0.2.2<(p0.length:Int) then (bnd (idx p0 s0.2.2) fun x1=>
 j1 (w64 (s0.2.1+x1)))
 else (j1 s0.2.1)))
 else (some (.inr s0.1)))
 (fun j2=>if s0.2.2<(p0.length:Int) then (j2 true)
 else (if s0.2.2<(p1.length:Int) then (j2 true)
 else (j2 (decide (0<s0.2.1)))))
noncomputable def Hg(p0:List Int)(p1:List Int):Option (List Int):=
 jn (fun (s4:List Int)=>
 bnd (Br s4) fun r0=>
 some r0)
 (fun j4=>bnd (lfix (Ih p1 p0) (([]:List Int),0,0)) fun t0=>
 j4 t0)
noncomputable def Ga(p0:List Int)(p1:List Int):(List Int × Int × Int)->Option (Sum (List Int × Int × Int) (List Int)):=fun s0=>
 if s0.2.2<(p0.length:Int) then (bnd (idx p0 s0.2.2) fun x0=>
 jn (fun (s1:Int)=>
 jn (fun (s2:Int × Int)=>
 gd ((s0.1.length+1)*8<=140737488355328)<|
 some (.inl (s0.1++[s2.2],s2.1,w64 (s0.2.2+1))))
 (fun j0=>if s1<0 then (j0 (1,w64 (s1+65536)))
 else (j0 (0,s1))))
 (fun j1=>if s0.2.2<(p1.length:Int) then (bnd (idx p1 s0.2.2) fun x1=>
 j1 (w64 ((w64 (x0-s0.2.1))-x1)))
 else (j1 (w64 (x0-s0.2.1)))))
 else (some (.inr s0.1))
noncomputable def Ei(p0:List Int)(p1:List Int):Option (List Int):=
 jn (fun (s4:List Int)=>
 bnd (Br s4) fun r0=>
 some r0)
 (fun j4=>bnd (lfix (Ga p0 p1) (([]:List Int),0,0)) fun t0=>
 j4 t0)
noncomputable def Hb(p1:List Int)(p0:List Int)(s0:List Int × Int):(List Int × Int × Int)->Option (Sum (List Int × Int × Int) (List Int × Int)):=fun s1=>
 if s1.2.2<(p1.length:Int) then (bnd (idx p0 s0.2) fun x0=>
 bnd (idx p1 s1.2.2) fun x1=>
 bnd (idx s1.1 (w64 (s0.2+s1.2.2))) fun x2=>
 bnd (idx s1.1 (w64 (s0.2+s1.2.2))) fun x3=>
 some (.inl (setI s1.1 (w64 (s0.2+s1.2.2)) (Int.tmod (w64 ((w64 ((w64 (x0*x1))+x2))+s1.2.1)) 65536),w64 (Int.tdiv (w64 ((w64 ((w64 (x0*x1))+x2))+s1.2.1)) 65536),w64 (s1.2.2+1))))
 else (some (.inr (s1.1,s1.2.1)))
noncomputable def Hc(p0:List Int)(p1:List Int):(List Int × Int)->Option (Sum (List Int × Int) (List Int)):=fun s0=>
 if s0.2<(p0.length:Int) then (jn (fun (s1:List Int × Int)=>
 bnd (idx s1.1 (w64 (s0.2+(p1.length:Int)))) fun x0=>
 some (.inl (setI s1.1 (w64 (s0.2+(p1.length:Int))) s1.2,w64 (s0.2+1))))
 (fun j0=>bnd (lfix (Hb p1 p0 s0) (s0.1,0,0)) fun t0=>
 j0 t0))
 else (some (.inr s0.1))
noncomputable def Ct(p0:List Int)(p1:List Int):Option (List Int):=
 gd ((0:Int)<=(w64 ((p0.length:Int)+(p1.length:Int)))/\8*Int.toNat (w64 ((p0.length:Int)+(p1.length:Int)))<=140737488355328)<|
 jn (fun (s3:List Int)=>
 bnd (Br s3) fun r0=>
 some r0)
 (fun j3=>bnd (lfix (Hc p0 p1) (List.replicate (Int.toNat (w64 ((p0.length:Int)+(p1.length:Int)))) (0:Int),0)) fun t0=>
 j3 t0)
noncomputable def Ok(p0:List Int)(p1:Int):(List Int × Int × Int)->Option (Sum (List Int × Int × Int) (List Int × Int)):=fun s0=>
 if 0<=s0.2.2 then (bnd (idx p0 s0.2.2) fun x0=>
 gd (p1≠0)<|
 bnd (idx s0.1 s0.2.2) fun x1=>
 gd (p1≠0)<|
 some (.inl (setI s0.1 s0.2.2 (w64 (Int.tdiv (w64 ((w64 (s0.2.1*65536))+x0)) p1)),Int.tmod (w64 ((w64 (s0.2.1*65536))+x0)) p1,w64 (s0.2.2-1))))
 else (some (.inr (s0.1,s0.2.1)))
noncomputable def Ew(p0:List Int)(p1:Int):Option (List Int × Int):=
 gd ((0:Int)<=(p0.length:Int)/\8*Int.toNat (p0.length:Int)<=140737488355328)<|
 jn (fun (s4:List Int × Int)=>
 bnd (Br s4.1) fun r0=>
 some (r0,s4.2))
 (fun j4=>bnd (lfix (Ok p0 p1) (List.replicate (Int.toNat (p0.length:Int)) (0:Int),0,w64 ((p0.length:Int)-1))) fun t0=>
 j4 t0)
noncomputable def Hr(r0:List Int)(r1:List Int):(Int × List Int)->Option (Sum (Int × List Int) (Int × List Int)):=fun s0=>
 bnd (Ee s0.2 r0) fun r2=>
 if 0<r2 then (bnd (Ei s0.2 r1) fun r3=>
 some (.inl (w64 (s0.1-1),r3)))
 else (some (.inr (s0.1,s0.2)))
noncomputable def Dv(r0:List Int)(r1:List Int):(List Int × List Int × Int)->Option (Sum (List Int × List Int × Int) (List Int × List Int)):=fun s0=>
 if 0<=s0.2.2 then (bnd (idx r0 s0.2.2) fun x0=>
 gd ((([x0]).length+s0.2.1.length)*8<=140737488355328)<|
 bnd (Br (([x0])++s0.2.1)) fun r2=>
 jn (fun (s1:Int)=>
 bnd (Br ([s1])) fun r3=>
 bnd (Ct r1 r3) fun r4=>
 jn (fun (s2:Int × List Int)=>
 bnd (Ei r2 s2.2) fun r5=>
 bnd (idx s0.1 s0.2.2) fun x1=>
 some (.inl (setI s0.1 s0.2.2 s2.1,r5,w64 (s0.2.2-1))))
 (fun j0=>bnd (lfix (Hr r2 r1) (s1,r4)) fun t0=>
 j0 t0))
 (fun j1=>if (r1.length:Int)<=(r2.length:Int) then (bnd (idx r2 (w64 ((r2.length:Int)-1))) fun x2=>
 jn (fun (s3:Int)=>
 bnd (idx r1 (w64 ((r1.length:Int)-1))) fun x3=>
 gd (x3≠0)<|
 if 65536<=(w64 (Int.tdiv s3 x3)) then (j1 65535)
 else (j1 (w64 (Int.tdiv s3 x3))))
 (fun j2=>if (r1.length:Int)<(r2.length:Int) then (bnd (idx r2 (w64 ((r2.length:Int)-2))) fun x4=>
 j2 (w64 ((w64 (x2*65536))+x4)))
 else (j2 x2)))
 else (j1 0)))
 else (some (.inr (s0.1,s0.2.1)))
noncomputable def Fj(p0:List Int)(p1:List Int):Option (List Int × List Int):=
 bnd (Ee p0 p1) fun r1=>
 if r1<0 then (some (([]:List Int),p0))
 else (if (p1.length:Int)=1 then (bnd (idx p1 0) fun x9=>
 bnd (Ew p0 x9) fun r0=>
 bnd (Bh r0.2) fun r2=>
 some (r0.1,r2.L))
 else (bnd (idx p1 (w64 ((p1.length:Int)-1))) fun x0=>
 gd ((w64 (x0+1))≠0)<|
 bnd (Ct p0 ([w64 (Int.tdiv 65536 (w64 (x0+1)))])) fun r3=>
 bnd (Ct p1 ([w64 (Int.tdiv 65536 (w64 (x0+1)))])) fun r4=>
 gd ((0:Int)<=(w64 ((w64 ((r3.length:Int)-(r4.length:Int)))+1))/\8*Int.toNat (w64 ((w64 ((r3.length:Int)-(r4.length:Int)))+1))<=140737488355328)<|
 gd (0<=(w64 ((w64 ((r3.length:Int)-(r4.length:Int)))+1))/\(w64 ((w64 ((r3.length:Int)-(r4.length:Int)))+1))<=(r3.length:Int))<|
 gd (((([]:List Int)).length+(subl r3 (w64 ((w64 ((r3.length:Int)-(r4.length:Int)))+1)) (r3.length:Int)).length)*8<=140737488355328)<|
 bnd (Br ((([]:List Int))++(subl r3 (w64 ((w64 ((r3.length:Int)-(r4.length:Int)))+1)) (r3.length:Int)))) fun r5=>
 jn (fun (s0:List Int × List Int)=>
 bnd (idx ([w64 (Int.tdiv 65536 (w64 (x0+1)))]) 0) fun x1=>
 bnd (Ew s0.2 x1) fun r6=>
 bnd (Br s0.1) fun r7=>
 some (r7,r6.1))
 (fun j0=>bnd (lfix (Dv r3 r4) (List.replicate (Int.toNat (w64 ((w64 ((r3.length:Int)-(r4.length:Int)))+1))) (0:Int),r5,w64 ((r3.length:Int)-(r4.length:Int)))) fun t0=>
 j0 t0)))
noncomputable def Ri  : (List Int × List Int)->Option (Sum (List Int × List Int) (List Int)):=fun s0=>
 if 0<(s0.2.length:Int) then (bnd (Fj s0.1 s0.2) fun r0=>
 some (.inl (s0.2,r0.2)))
 else (some (.inr s0.1))
noncomputable def Sc(p0:List Int)(p1:List Int):Option (List Int):=
 jn (fun (s2:List Int)=>
 some s2)
 (fun j2=>bnd (lfix Ri (p0,p1)) fun t0=>
 j2 t0)
instance lidarref01_Valid_c(p0:Ax):Con (La p0) prog 210 (fun _ vs=>vs=[.agg #[iq p0.Lo,iq p0.Hi]]) (fun _ r=>fun v Ln=>v = .bool r/\Ln=[]/\True):=⟨by
 rintro _ _ r rfl hx w hK;unfold La at hx;refine CtS ntmps210 results210 ?_;exact au⟩
instance lidarref01_Gap_c(p0:Ax)(p1:Ax):Con (Vb p0 p1) prog 143 (fun _ vs=>vs=[.agg #[iq p0.Lo,iq p0.Hi],.agg #[iq p1.Lo,iq p1.Hi]]) (fun _ r=>fun v Ln=>v = .tuple #[iq r.1,iq r.2]/\Ln=[]/\True):=⟨by
 rintro _ _ r rfl hx w hK;unfold Vb at hx;refine CtS ntmps143 results143 ?_;exact au⟩
instance Ae6(p0:Int):Con (Bh p0) prog 88 (fun _ vs=>vs=[iq p0]) (fun _ r=>fun v Ln=>∃ A0 c0,v = .agg #[.bool r.Neg,.slice A0 r.L.length c0]/\Ln=[.r A0 r.L.length c0 3 1 (r.L.flatMap Ag)]/\True):=⟨by
 rintro _ _ r rfl hx w hK;unfold Bh at hx;refine CtS ntmps88 results88 ?_;try (refine pre ?_;intros;rename_i hx)
 refine Bl ?_;try (refine pre ?_;intros;rename_i hx)
 refine Bl ?_;try (refine pre ?_;intros;rename_i hx)
 apply Jr (γ:=Unit) hx [0,2] (fun s3 y3 f=>(3,.int .u64 s3)::f) [0,999] (fun s3 y3 l=>l);exact kk
 ·intro s3 y3 hx;try (refine pre ?_;intros;rename_i hx)
  refine Bl ?_;try (refine pre ?_;intros;rename_i hx)
  apply Jr (γ:=Option Addr × Nat) hx [0,2] (fun s6 y6 f=>(4,.slice y6.1 s6.length y6.2)::f) [0,999] (fun s6 y6 l=>.r y6.1 s6.length y6.2 3 1 (s6.flatMap Ag)::l);exact kk
  ·intro s6 y6 hx;exact au
  ·intro _ hx;try (refine pre ?_;intros;rename_i hx)
   refine Bb 3 1 ?_;apply Lr (γ:=Option Addr × Nat) hx [0,2] (fun s0 y0 f=>(3,.int .u64 s0.1)::(4,.slice y0.1 s0.2.length y0.2)::f) [1,999] (fun s0 y0 l=>.r y0.1 s0.2.length y0.2 3 1 (s0.2.flatMap Ag)::l) (_,_);exact kk;exact sk;intro s0 y0 x0 hx _;unfold Jy at hx;exact au
 ·intro _ hx;exact au⟩
theorem Adu(p0:Int){r:Ah}(hx:Bh p0=some r)(w:World):CtL prog 88 [iq p0] w fun v Ln=>∃ (A0:Option Addr) (c0:Nat),v = .agg #[.bool r.Neg,.slice A0 r.L.length c0]/\Ln=[.r A0 r.L.length c0 3 1 (r.L.flatMap Ag)]/\True:=(Ae6 p0).h [] _ _ rfl hx w (fun _ h=>absurd h List.not_mem_nil)
theorem Ii(p0:List Int){K:List Ent}{U0:Option Addr}{E0:Nat}(ha0:Has K U0 p0.length E0 1 Ag p0){r:List Int}(hx:Br p0=some r)(w:World)(hK:∀ e∈K,Ent.ok w e):CtL prog 211 [.slice U0 p0.length E0] w fun v Ln=>v = .slice U0 r.length E0/\Ln=[]/\Has K U0 r.length E0 1 Ag r/\True:=by
 have ha0':=Has.up0 ha0;refine CtL.mk 21 func211 rfl ntmps211 kr rfl ?_;show T 21 _ [(0,.slice U0 p0.length E0)] _;unfold Br at hx;refine Y8 ?_;refine As (Dn rfl 3 underlying42) rfl ?_;refine Y3 ?_;refine Tj (γ:=Unit) hx (fun s3 y3=>[(0,.slice U0 p0.length E0),(3,iq s3)]) (fun s3 y3=>[]++[.old w]) (fun s3 y3=>True) (fun s3 y3 hx0 hG0=>?_) (fun j3 hx=>?_)
 ·refine Y4 ?_;obtain⟨h0,hx1⟩:=Bo hx0;have hs0:=Has.subH ha0' h0.1 h0.2;refine As (Am6 rfl rfl Rz h0.1 (by have:=Has.nc ha0';omega)) rfl ?_;refine Y4 ?_;refine Aci (s:=2) (v':=.slice U0 ((subl p0 0 s3).length) E0) rfl (by have hn0:(Int.toNat s3)=(subl p0 0 s3).length:=(Has.len hs0).symm;first | (rw[<- hn0];done) | rfl) ?_;obtain rfl:=Option.some.inj hx1;exact Cz (rs:=[.tmp 2]) results211 (.tmp rfl (.nil)) (Ln:=[]) ⟨rfl,rfl,Has.len' (Has.dn0 hs0),trivial⟩ Co (by exact .refl)
 ·refine Y ?_;obtain⟨t0,hl0,ho0⟩:=An hx;refine Lp (σ:=Int) (γ:=Unit) hl0 (fun s0 y0=>[(0,.slice U0 p0.length E0),(3,iq s0)]) (fun s0 y0=>[]++[.old w]) (fun s0 y0=>True) () trivial (by exact .refl) ?_;intro s0 y0 hG1 x0 hx2 ht0;unfold Qa at hx2;refine Y ?_;refine Tj (γ:=Unit) hx2 (fun s7 y7=>[(0,.slice U0 p0.length E0),(3,iq s0),(15,.bool s7)]) (fun s7 y7=>[]++[.old w]) (fun s7 y7=>True) (fun s7 y7 hx3 hG2=>?_) (fun j7 hx2=>?_)
  ·refine Io (s:=15) rfl (fun h1=>?_) (fun h1=>?_)
   ·have hx4:=Gp h1 hx3;refine Y10 ?_;exact Rp (w64 (s0-1)) () hx4 trivial (by exact .refl)
   ·have hx5:=Kd h1 hx3;refine Y3 ?_;obtain rfl:=Gg ht0 hx5;refine Y2 ?_;exact Mt s0 () ho0 trivial (by exact .refl)
  ·refine Y4 ?_;refine Ti hx2 (s:=8) rfl (fun h2 hx6=>?_) (fun h2 hx7=>?_)
   ·refine Y3 ?_;obtain⟨x1,h3,hx8⟩:=An hx6;have hw0:=Has.low (E:=[]) ha0' hK;obtain⟨b0,o0,j0,hA0,hj0,hl1,hp0⟩:=Has.at_idx hw0 h3;refine Pm rfl rfl rfl (Bt rfl rfl hA0 (j:=j0) hj0 hl1 Rz) rfl ?_;refine Pm rfl rfl rfl (Cx rfl hp0 (sb 0) rfl one3) rfl ?_;refine Y3 ?_;exact Mt (decide (x1=0)) () hx8 trivial (by exact .refl)
   ·refine Y8 ?_;exact Mt false () hx7 trivial (by exact .refl)
instance lidarref01_trim_c(p0:List Int):ConB (Br p0) prog 211 (fun K vs=>∃ U0 E0,vs=[.slice U0 p0.length E0]/\Has K U0 p0.length E0 1 Ag p0/\True) (fun K r=>fun v Ln=>∃ A0 c0 e,v = .slice A0 r.length c0/\Ln=[e]/\Has (K++[e]) A0 r.length c0 1 Ag r/\True):=⟨by
 rintro K _ r ⟨U0,E0,rfl,ha0,-⟩ hx w hK;exact CtL.bunB (Ii p0 ha0 hx w hK) (by
  rintro _ _ w1 hw ⟨rfl,rfl,_,-⟩;exact⟨_,_,_,rfl,rfl,hZ hw,trivial⟩)⟩
instance lidarref01_trimT(p0:List Int):TrI (Br p0) prog 211 Ag 1 p0:=⟨fun _ h=>⟨Abj h,fun _ _ _ hs w hK=>Ii p0 hs h w hK⟩⟩
instance Acx(p0:List Int)(p1:List Int):Con (Ee p0 p1) prog 213 (fun K vs=>∃ U0 E0 U1 E1,vs=[.slice U0 p0.length E0,.slice U1 p1.length E1]/\Has K U0 p0.length E0 1 Ag p0/\Has K U1 p1.length E1 1 Ag p1/\True) (fun _ r=>fun v Ln=>v = iq r/\Ln=[]/\True):=⟨by
 rintro K _ r ⟨U0,E0,U1,E1,rfl,ha0,ha1,-⟩ hx w hK;replace ha0:=Has.lo ha0 hK;replace ha1:=Has.lo ha1 hK;unfold Ee at hx;have:=dl 8 [0,0,0,1,0,0,0,1,0] [0,1,2,3,4,5,6,7,8];have:=dl 9 [0,0,0,1,0,0,0,1,0] [0,1,2,3,4,5,6,7,8];refine CtS ntmps213 results213 ?_;try (refine pre ?_;intros;rename_i hx)
 refine Cq2 (s:=10) hx rfl (fun _ hx=>?_) (fun _ hx=>?_)
 ·exact au
 ·try (refine pre ?_;intros;rename_i hx)
  apply Jr (γ:=Unit) hx [] (fun s8 y8 f=>f) [999] (fun s8 y8 l=>l);exact kk
  ·intro s8 y8 hx;exact au
  ·intro _ hx;try (refine pre ?_;intros;rename_i hx)
   apply Lr (γ:=Unit) hx [0,1] (fun s61 y61 f=>(5,iq s61)::f) [999] (fun s61 y61 l=>l) ();exact kk;exact sk;intro s61 y61 x61 hx _;unfold Mh at hx;exact au⟩
theorem Ve(p0:List Int)(p1:List Int){K:List Ent}{U0:Option Addr}{E0:Nat}{U1:Option Addr}{E1:Nat}(ha0:Has K U0 p0.length E0 1 Ag p0)(ha1:Has K U1 p1.length E1 1 Ag p1){r:Int}(hx:Ee p0 p1=some r)(w:World)(hK:∀ e∈K,Ent.ok w e):CtL prog 213 [.slice U0 p0.length E0,.slice U1 p1.length E1] w fun v Ln=>v = iq r/\Ln=[]/\True:=(Acx p0 p1).h K _ _ ⟨_,_,_,_,rfl,ha0,ha1,trivial⟩ hx w hK
instance Agb(p0:List Int)(p1:List Int):Con (Hg p0 p1) prog 212 (fun K vs=>∃ U0 E0 U1 E1,vs=[.slice U0 p0.length E0,.slice U1 p1.length E1]/\Has K U0 p0.length E0 1 Ag p0/\Has K U1 p1.length E1 1 Ag p1/\True) (fun _ r=>fun v Ln=>∃ A0 c0,v = .slice A0 r.length c0/\Ln=[.r A0 r.length c0 3 1 (r.flatMap Ag)]/\True):=⟨by
 rintro K _ r ⟨U0,E0,U1,E1,rfl,ha0,ha1,-⟩ hx w hK;replace ha0:=Has.lo ha0 hK;replace ha1:=Has.lo ha1 hK;unfold Hg at hx;refine CtS ntmps212 results212 ?_;try (refine pre ?_;intros;rename_i hx)
 refine Bl ?_;try (refine pre ?_;intros;rename_i hx)
 refine Bl ?_;try (refine pre ?_;intros;rename_i hx)
 refine Bl ?_;try (refine pre ?_;intros;rename_i hx)
 apply Jr (γ:=Option Addr × Nat) hx [] (fun s4 y4 f=>(5,.slice y4.1 s4.length y4.2)::f) [999] (fun s4 y4 l=>.r y4.1 s4.length y4.2 3 1 (s4.flatMap Ag)::l);exact kk
 ·intro s4 y4 hx;exact au
 ·intro _ hx;try (refine pre ?_;intros;rename_i hx)
  refine Bb 3 1 ?_;apply Lr (γ:=Option Addr × Nat) hx [0,1] (fun s0 y0 f=>(5,.slice y0.1 s0.1.length y0.2)::(6,iq s0.2.1)::(7,iq s0.2.2)::f) [999] (fun s0 y0 l=>.r y0.1 s0.1.length y0.2 3 1 (s0.1.flatMap Ag)::l) (_,_);exact kk;exact sk;intro s0 y0 x0 hx _;unfold Ih at hx;try (refine pre ?_;intros;rename_i hx)
  refine Bl ?_;try (refine pre ?_;intros;rename_i hx)
  apply Jr (γ:=Unit) hx [0,1,5,6,7] (fun s1 y1 f=>(22,.bool s1)::f) [0,999] (fun s1 y1 l=>l);exact kk
  ·intro s1 y1 hx;refine Cq3 (s:=22) hx rfl (fun _ hx=>?_) (fun _ hx=>?_)
   ·try (refine pre ?_;intros;rename_i hx)
    refine Bl ?_;try (refine pre ?_;intros;rename_i hx)
    refine Bl ?_;try (refine pre ?_;intros;rename_i hx)
    apply Jr (γ:=Unit) hx [0,1,5,7] (fun s2 y2 f=>(8,iq s2)::f) [0,999] (fun s2 y2 l=>l);exact kk
    ·intro s2 y2 hx;exact au
    ·intro _ hx;exact au
   ·exact au
  ·intro _ hx;exact au⟩
theorem Ae7(p0:List Int)(p1:List Int){K:List Ent}{U0:Option Addr}{E0:Nat}{U1:Option Addr}{E1:Nat}(ha0:Has K U0 p0.length E0 1 Ag p0)(ha1:Has K U1 p1.length E1 1 Ag p1){r:List Int}(hx:Hg p0 p1=some r)(w:World)(hK:∀ e∈K,Ent.ok w e):CtL prog 212 [.slice U0 p0.length E0,.slice U1 p1.length E1] w fun v Ln=>∃ (A0:Option Addr) (c0:Nat),v = .slice A0 r.length c0/\Ln=[.r A0 r.length c0 3 1 (r.flatMap Ag)]/\True:=(Agb p0 p1).h K _ _ ⟨_,_,_,_,rfl,ha0,ha1,trivial⟩ hx w hK
instance Agc(p0:List Int)(p1:List Int):Con (Ei p0 p1) prog 214 (fun K vs=>∃ U0 E0 U1 E1,vs=[.slice U0 p0.length E0,.slice U1 p1.length E1]/\Has K U0 p0.length E0 1 Ag p0/\Has K U1 p1.length E1 1 Ag p1/\True) (fun _ r=>fun v Ln=>∃ A0 c0,v = .slice A0 r.length c0/\Ln=[.r A0 r.length c0 3 1 (r.flatMap Ag)]/\True):=⟨by
 rintro K _ r ⟨U0,E0,U1,E1,rfl,ha0,ha1,-⟩ hx w hK;replace ha0:=Has.lo ha0 hK;replace ha1:=Has.lo ha1 hK;unfold Ei at hx;refine CtS ntmps214 results214 ?_;try (refine pre ?_;intros;rename_i hx)
 refine Bl ?_;try (refine pre ?_;intros;rename_i hx)
 refine Bl ?_;try (refine pre ?_;intros;rename_i hx)
 refine Bl ?_;try (refine pre ?_;intros;rename_i hx)
 apply Jr (γ:=Option Addr × Nat) hx [] (fun s4 y4 f=>(5,.slice y4.1 s4.length y4.2)::f) [999] (fun s4 y4 l=>.r y4.1 s4.length y4.2 3 1 (s4.flatMap Ag)::l);exact kk
 ·intro s4 y4 hx;exact au
 ·intro _ hx;try (refine pre ?_;intros;rename_i hx)
  refine Bb 3 1 ?_;apply Lr (γ:=Option Addr × Nat) hx [0,1] (fun s0 y0 f=>(5,.slice y0.1 s0.1.length y0.2)::(6,iq s0.2.1)::(7,iq s0.2.2)::f) [999] (fun s0 y0 l=>.r y0.1 s0.1.length y0.2 3 1 (s0.1.flatMap Ag)::l) (_,_);exact kk;exact sk;intro s0 y0 x0 hx _;unfold Ga at hx;try (refine pre ?_;intros;rename_i hx)
  refine Cq1 (s:=12) hx rfl (fun _ hx=>?_) (fun _ hx=>?_)
  ·try (refine pre ?_;intros;rename_i hx)
   apply Jr (γ:=Unit) hx [0,1,5,7] (fun s1 y1 f=>(8,iq s1)::f) [0,999] (fun s1 y1 l=>l);exact kk
   ·intro s1 y1 hx;exact au
   ·intro _ hx;exact au
  ·exact au⟩
theorem Yr(p0:List Int)(p1:List Int){K:List Ent}{U0:Option Addr}{E0:Nat}{U1:Option Addr}{E1:Nat}(ha0:Has K U0 p0.length E0 1 Ag p0)(ha1:Has K U1 p1.length E1 1 Ag p1){r:List Int}(hx:Ei p0 p1=some r)(w:World)(hK:∀ e∈K,Ent.ok w e):CtL prog 214 [.slice U0 p0.length E0,.slice U1 p1.length E1] w fun v Ln=>∃ (A0:Option Addr) (c0:Nat),v = .slice A0 r.length c0/\Ln=[.r A0 r.length c0 3 1 (r.flatMap Ag)]/\True:=(Agc p0 p1).h K _ _ ⟨_,_,_,_,rfl,ha0,ha1,trivial⟩ hx w hK
instance Ae8(p0:List Int)(p1:List Int):Con (Ct p0 p1) prog 144 (fun K vs=>∃ U0 E0 U1 E1,vs=[.slice U0 p0.length E0,.slice U1 p1.length E1]/\Has K U0 p0.length E0 1 Ag p0/\Has K U1 p1.length E1 1 Ag p1/\True) (fun _ r=>fun v Ln=>∃ A0 c0,v = .slice A0 r.length c0/\Ln=[.r A0 r.length c0 3 1 (r.flatMap Ag)]/\True):=⟨by
 rintro K _ r ⟨U0,E0,U1,E1,rfl,ha0,ha1,-⟩ hx w hK;replace ha0:=Has.lo ha0 hK;replace ha1:=Has.lo ha1 hK;unfold Ct at hx;have:=dl 9 [0,0,0,1,0,0,0,1,0,0,0,0,0,0,1,0,0,0,2] [0,1,2,3,4,5,6,7,8,9,10,11,12,13,14,15,16,17,18];refine CtS ntmps144 results144 ?_;try (refine pre ?_;intros;rename_i hx)
 apply Jr (γ:=Option Addr × Nat) hx [] (fun s3 y3 f=>(5,.slice y3.1 s3.length y3.2)::f) [999] (fun s3 y3 l=>.r y3.1 s3.length y3.2 3 1 (s3.flatMap Ag)::l);exact kk
 ·intro s3 y3 hx;exact au
 ·intro _ hx;try (refine pre ?_;intros;rename_i hx)
  apply Lr (γ:=Option Addr × Nat) hx [0,1] (fun s0 y0 f=>(5,.slice y0.1 s0.1.length y0.2)::(6,iq s0.2)::f) [999] (fun s0 y0 l=>.r y0.1 s0.1.length y0.2 3 1 (s0.1.flatMap Ag)::l) (_,_);exact kk;exact sk;intro s0 y0 x0 hx _;unfold Hc at hx;try (refine pre ?_;intros;rename_i hx)
  refine Cq1 (s:=19) hx rfl (fun _ hx=>?_) (fun _ hx=>?_)
  ·try (refine pre ?_;intros;rename_i hx)
   refine Bl ?_;try (refine pre ?_;intros;rename_i hx)
   refine Bl ?_;try (refine pre ?_;intros;rename_i hx)
   apply Jr (γ:=Option Addr × Nat) hx [0,1,6] (fun s1 y1 f=>(5,.slice y1.1 s1.1.length y1.2)::(7,iq s1.2)::f) [999] (fun s1 y1 l=>.r y1.1 s1.1.length y1.2 3 1 (s1.1.flatMap Ag)::l);exact kk
   ·intro s1 y1 hx;exact au
   ·intro _ hx;try (refine pre ?_;intros;rename_i hx)
    apply Lr (γ:=Option Addr × Nat) hx [0,1,6] (fun s2 y2 f=>(5,.slice y2.1 s2.1.length y2.2)::(7,iq s2.2.1)::(8,iq s2.2.2)::f) [999] (fun s2 y2 l=>.r y2.1 s2.1.length y2.2 3 1 (s2.1.flatMap Ag)::l) (_,_);exact kk;exact sk;intro s2 y2 x1 hx _;unfold Hb at hx;exact au
  ·exact au⟩
theorem Ss(p0:List Int)(p1:List Int){K:List Ent}{U0:Option Addr}{E0:Nat}{U1:Option Addr}{E1:Nat}(ha0:Has K U0 p0.length E0 1 Ag p0)(ha1:Has K U1 p1.length E1 1 Ag p1){r:List Int}(hx:Ct p0 p1=some r)(w:World)(hK:∀ e∈K,Ent.ok w e):CtL prog 144 [.slice U0 p0.length E0,.slice U1 p1.length E1] w fun v Ln=>∃ (A0:Option Addr) (c0:Nat),v = .slice A0 r.length c0/\Ln=[.r A0 r.length c0 3 1 (r.flatMap Ag)]/\True:=(Ae8 p0 p1).h K _ _ ⟨_,_,_,_,rfl,ha0,ha1,trivial⟩ hx w hK
instance Ae9(p0:List Int)(p1:Int):Con (Ew p0 p1) prog 320 (fun K vs=>∃ U0 E0,vs=[.slice U0 p0.length E0,iq p1]/\Has K U0 p0.length E0 1 Ag p0/\True) (fun _ r=>fun v Ln=>∃ A0 c0,v = .tuple #[.slice A0 r.1.length c0,iq r.2]/\Ln=[.r A0 r.1.length c0 3 1 (r.1.flatMap Ag)]/\True):=⟨by
 rintro K _ r ⟨U0,E0,rfl,ha0,-⟩ hx w hK;replace ha0:=Has.lo ha0 hK;unfold Ew at hx;refine CtS ntmps320 results320 ?_;try (refine pre ?_;intros;rename_i hx)
 refine Bl ?_;try (refine pre ?_;intros;rename_i hx)
 apply Jr (γ:=Option Addr × Nat) hx [] (fun s4 y4 f=>(6,.slice y4.1 s4.1.length y4.2)::(7,iq s4.2)::f) [999] (fun s4 y4 l=>.r y4.1 s4.1.length y4.2 3 1 (s4.1.flatMap Ag)::l);exact kk
 ·intro s4 y4 hx;exact au
 ·intro _ hx;try (refine pre ?_;intros;rename_i hx)
  apply Lr (γ:=Option Addr × Nat) hx [0,1] (fun s0 y0 f=>(6,.slice y0.1 s0.1.length y0.2)::(7,iq s0.2.1)::(8,iq s0.2.2)::f) [999] (fun s0 y0 l=>.r y0.1 s0.1.length y0.2 3 1 (s0.1.flatMap Ag)::l) (_,_);exact kk;exact sk;intro s0 y0 x0 hx _;unfold Ok at hx;exact au⟩
theorem Wz(p0:List Int)(p1:Int){K:List Ent}{U0:Option Addr}{E0:Nat}(ha0:Has K U0 p0.length E0 1 Ag p0){r:List Int × Int}(hx:Ew p0 p1=some r)(w:World)(hK:∀ e∈K,Ent.ok w e):CtL prog 320 [.slice U0 p0.length E0,iq p1] w fun v Ln=>∃ (A0:Option Addr) (c0:Nat),v = .tuple #[.slice A0 r.1.length c0,iq r.2]/\Ln=[.r A0 r.1.length c0 3 1 (r.1.flatMap Ag)]/\True:=(Ae9 p0 p1).h K _ _ ⟨_,_,rfl,ha0,trivial⟩ hx w hK
theorem Nu(p0:List Int)(p1:List Int){K:List Ent}{U0:Option Addr}{E0:Nat}{U1:Option Addr}{E1:Nat}(ha0:Has K U0 p0.length E0 1 Ag p0)(ha1:Has K U1 p1.length E1 1 Ag p1){r:List Int × List Int}(hx:Fj p0 p1=some r)(w:World)(hK:∀ e∈K,Ent.ok w e):CtL prog 303 [.slice U0 p0.length E0,.slice U1 p1.length E1] w fun v Ln=>∃ (A0:Option Addr) (c0:Nat) (A2:Option Addr) (c2:Nat) (e0:Ent),v = .tuple #[.slice A0 r.1.length c0,.slice A2 r.2.length c2]/\Ln=[.r A0 r.1.length c0 3 1 (r.1.flatMap Ag),e0]/\Has (K++[e0]) A2 r.2.length c2 1 Ag r.2/\True:=by
 have ha0':=Has.up0 ha0;have ha1':=Has.up0 ha1;refine CtL.mk 156 func303 rfl ntmps303 kr rfl ?_;show T 156 _ [(0,.slice U0 p0.length E0),(1,.slice U1 p1.length E1)] _;unfold Fj at hx;refine Y11 ?_;obtain⟨r1,h2,hx3⟩:=An hx;refine Tc (fun w1 hw1=>Ve p0 p1 (Has.len' ha0') (Has.len' ha1') h2 w1 (Qz (K:=K) (K2:=[]) hK (by exact (sb 0)) (by exact SubE.nil) hw1)) ?_;refine Y3 ?_;refine Ti hx3 (s:=22) rfl (fun h4 hx5=>?_) (fun h4 hx6=>?_)
 ·refine Y10 ?_;refine Bb 3 1 ?_;refine Bb 0 1 ?_;obtain rfl:=Option.some.inj hx5;exact Cz (rs:=[.tmp 4,.tmp 5]) results303 (.tmp rfl (.tmp rfl (.nil))) (Ln:=[.r none 0 0 3 1 ((([]:List Int)).flatMap Ag),.r none 0 0 0 1 []]) ⟨none,0,U0,E0,(.r none 0 0 0 1 []),rfl,rfl,Has.len' (Has.up (L:=(K++[.r none 0 0 0 1 []])) ha0' (SubE.app2 SubE.nil)),trivial⟩ (Bm rfl (Bm rfl Co)) (by exact .pick 1 rfl (.pick 0 rfl (.refl)))
 ·refine Y7 ?_;refine As (Dn rfl 3 underlying42) rfl ?_;refine Y3 ?_;refine Ti hx6 (s:=26) rfl (fun h7 hx8=>?_) (fun h7 hx0=>?_)
  ·refine Y5 ?_;obtain⟨x9,h0,hx1⟩:=An hx8;have hw0:=Has.low (E:=[]) ha1' hK;obtain⟨b0,o0,j0,hA0,hj0,hl0,hp0⟩:=Has.at_idx hw0 h0;refine As (Bt rfl rfl hA0 (j:=j0) hj0 hl0 Rz) rfl ?_;refine As (Cx rfl hp0 (sb 0) rfl one3) rfl ?_;obtain⟨r0,h1,hx2⟩:=An hx1;refine T_x (Bv rfl (fun w1 hw1=>Wz p0 x9 (Has.len' ha0') h1 w1 (Qz (K:=K) (K2:=[]) hK (by exact (sb 0)) (by exact SubE.nil) hw1)) rfl ?_);rintro _ _ hlo ⟨A1,c1,rfl,rfl,-⟩;refine Jj ?_;refine Y11 ?_;obtain⟨r2,h3,hx4⟩:=An hx2;refine T_x (Bv rfl (fun w1 hw1=>Adu r0.2  h3 w1) rfl ?_);rintro _ _ hlo ⟨A3,c3,rfl,rfl,-⟩;refine Jj ?_;refine As (Alr rfl (Anx _ _ _ _)) rfl ?_;refine Y6 ?_;refine Es (k:=0) rfl dD (fun _=>rfl) (fun hn0 hs0=>?_);obtain rfl:=Option.some.inj hx4;exact Cz (rs:=[.tmp 4,.tmp 5]) results303 (.tmp rfl (.tmp rfl (.nil))) (Ln:=[.r A1 r0.1.length c1 3 1 (r0.1.flatMap Ag),.r A3 r2.L.length c3 3 1 (r2.L.flatMap Ag)]) ⟨A1,c1,A3,c3,(.r A3 r2.L.length c3 3 1 (r2.L.flatMap Ag)),rfl,rfl,Has.len' (Has.up (L:=(K++[.r A3 r2.L.length c3 3 1 (r2.L.flatMap Ag)])) hs0 (SubE.appR2 (sb 0))),trivial⟩ (Bm rfl (Bm rfl Co)) (by exact .pick 1 rfl (.pick 0 rfl (.refl)))
  ·refine Y7 ?_;refine As (Dn rfl 3 underlying42) rfl ?_;refine Y ?_;obtain⟨x0,h5,hx7⟩:=An hx0;have hw2:=Has.low (E:=[]) ha1' hK;obtain⟨b1,o1,j1,hA1,hj1,hl1,hp1⟩:=Has.at_idx hw2 h5;refine As (Bt rfl rfl hA1 (j:=j1) hj1 hl1 Rz) rfl ?_;refine As (Cx rfl hp1 (sb 0) rfl one3) rfl ?_;refine Y ?_;obtain⟨h6,hx9⟩:=Bo hx7;refine As (Aes rfl rfl h6) rfl ?_;refine T_x (By rfl (Im _) rfl (fun g0=>?_));refine Y7 ?_;have hs1:Has [.m g0 3 [iq (w64 (Int.tdiv 65536 (w64 (x0+1))))]] (some ⟨g0,0,none⟩) 1 1 1 Ag [w64 (Int.tdiv 65536 (w64 (x0+1)))]:=Has.ofM (fun _ _=>rfl) rfl dD rfl;obtain⟨r3,h8,hx50⟩:=An hx9;refine T_x (Bv rfl (fun w1 hw1=>Ss p0 ([w64 (Int.tdiv 65536 (w64 (x0+1)))]) (Has.len' (Has.up (L:=(K++[.m g0 3 [iq (w64 (Int.tdiv 65536 (w64 (x0+1))))]])) ha0' (SubE.app2 SubE.nil))) (Has.len' (Has.up (L:=(K++[.m g0 3 [iq (w64 (Int.tdiv 65536 (w64 (x0+1))))]])) hs1 (SubE.appR2 (sb 0)))) h8 w1 (Qz (K:=K) (K2:=[.m g0 3 [iq (w64 (Int.tdiv 65536 (w64 (x0+1))))]]) hK (by exact (sb 1)) (by exact (sb 0)) hw1)) rfl ?_);rintro _ _ hlo ⟨A4,c4,rfl,rfl,-⟩;refine Jj ?_;refine Y2 ?_;have hs2:Has [.m g0 3 [iq (w64 (Int.tdiv 65536 (w64 (x0+1))))]] (some ⟨g0,0,none⟩) 1 1 1 Ag [w64 (Int.tdiv 65536 (w64 (x0+1)))]:=Has.ofM (fun _ _=>rfl) rfl dD rfl;obtain⟨r4,h9,hx56⟩:=An hx50;refine T_x (Bv rfl (fun w1 hw1=>Ss p1 ([w64 (Int.tdiv 65536 (w64 (x0+1)))]) (Has.len' (Has.up (L:=(K++[.m g0 3 [iq (w64 (Int.tdiv 65536 (w64 (x0+1))))]])) ha1' (SubE.app2 SubE.nil))) (Has.len' (Has.up (L:=(K++[.m g0 3 [iq (w64 (Int.tdiv 65536 (w64 (x0+1))))]])) hs2 (SubE.appR2 (sb 0)))) h9 w1 (Qz (K:=K) (K2:=[.m g0 3 [iq (w64 (Int.tdiv 65536 (w64 (x0+1))))]]) hK (by exact (sb 2)) (by exact (sb 1)) hw1)) rfl ?_);rintro _ _ hlo ⟨A5,c5,rfl,rfl,-⟩;refine Jj ?_;refine Y7 ?_;refine As (Dn rfl 3 underlying42) rfl ?_;refine Y ?_;refine As (Dn rfl 3 underlying42) rfl ?_;refine Y2 ?_;obtain⟨h60,hx61⟩:=Bo hx56;refine T_x (Ayg Ag 0 (z:=iq 0) rfl rfl rfl h60.1 underlying42 (show prog.info? 3=some Tryz.t3 from by kernel_rfl) kr rfl rfl kr (show 8*_<=_ from h60.2) dD rfl (fun A6=>?_));refine Y5 ?_;refine T_x (By rfl Ao5 rfl (fun g1=>?_));refine Y2 ?_;refine As (Dn rfl 3 underlying42) rfl ?_;refine Y ?_;refine As (Dn rfl 3 underlying42) rfl ?_;refine Y2 ?_;refine Es (k:=3) rfl dD (fun _=>rfl) (fun hn1 hs3=>?_);obtain⟨h66,hx67⟩:=Bo hx61;have hs4:=Has.subL hs3 h66.1 h66.2;refine As (Am5 rfl rfl Rz h66.1 h66.2) rfl ?_;refine T_mr (enc:=Ag) (sz:=1) (([]:List Int)) (.here) rfl rfl (fun _=>rfl) dD ?_;obtain⟨h68,hx69⟩:=Bo hx67;refine T_h (Tq Ag (([]:List Int)) (subl r3 (w64 ((w64 ((r3.length:Int)-(r4.length:Int)))+1)) (r3.length:Int)) rfl rfl Adz (fun _=>rfl) hs4 (sb 3) (fun _=>rfl) h68 rfl (fun _ _=>.here) dD (fun A7 c6=>?_));refine Es (k:=0) rfl dD (fun _=>rfl) (fun hn2 hs5=>?_);obtain⟨r5,h75,hx76⟩:=An hx69;refine T_x (Bv rfl (fun w1 hw1=>Ii ((([]:List Int))++(subl r3 (w64 ((w64 ((r3.length:Int)-(r4.length:Int)))+1)) (r3.length:Int))) (Has.len' hs5) h75 w1 (Wc (K:=([.r A7 (((([]:List Int))++(subl r3 (w64 ((w64 ((r3.length:Int)-(r4.length:Int)))+1)) (r3.length:Int))).length) c6 3 1 (((([]:List Int))++(subl r3 (w64 ((w64 ((r3.length:Int)-(r4.length:Int)))+1)) (r3.length:Int))).flatMap Ag)]:List Ent)) (by exact (sb 0)) hw1)) rfl ?_);rintro _ _ hlo ⟨rfl,rfl,hs6,-⟩;refine Yg ?_;refine Aij (r:=r5) (Abj h75) (.here) dD (fun _=>rfl) ?_;refine Y3 ?_;refine Tj (γ:=Option Addr × Nat × Option Addr × Nat) hx76 (fun s0 y0=>[(8,.slice (some ⟨g0,0,none⟩) 1 1),(11,.slice y0.1 s0.1.length y0.2.1),(12,.slice y0.2.2.1 s0.2.length y0.2.2.2)]) (fun s0 y0=>[.r y0.2.2.1 s0.2.length y0.2.2.2 3 1 (s0.2.flatMap Ag),.r y0.1 s0.1.length y0.2.1 3 1 (s0.1.flatMap Ag),.r (some ⟨g0,0,none⟩) 1 1 3 1 (([w64 (Int.tdiv 65536 (w64 (x0+1)))]).flatMap Ag)]++[.old w]) (fun s0 y0=>True) (fun s0 y0 hx10 hG0=>?_) (fun j2 hx76=>?_)
   ·refine Y4 ?_;obtain⟨x1,h11,hx12⟩:=An hx10;refine Acm (k:=2) rfl dD (fun _=>rfl) h11 (fun b2 j3 hA2 hj2 hl2 hm0 hp2=>?_);refine As (Bt rfl rfl hA2 (j:=j3) hj2 hl2 Rz) rfl ?_;refine As (Cx rfl hp2 (sb 2) rfl one3) rfl ?_;refine Es (k:=0) rfl dD (fun _=>rfl) (fun hn3 hs7=>?_);obtain⟨r6,h12,hx13⟩:=An hx12;refine T_x (Bv rfl (fun w1 hw1=>Wz s0.2 x1 (Has.len' hs7) h12 w1 (Wc (K:=([.r y0.2.2.1 s0.2.length y0.2.2.2 3 1 (s0.2.flatMap Ag)]:List Ent)) (by exact (sb 0)) hw1)) rfl ?_);rintro _ _ hlo ⟨A8,c7,rfl,rfl,-⟩;refine Jj ?_;refine Y10 ?_;refine Es (k:=2) rfl dD (fun _=>rfl) (fun hn4 hs8=>?_);obtain⟨r7,h13,hx14⟩:=An hx13;refine T_x (Bv rfl (fun w1 hw1=>Ii s0.1 (Has.len' hs8) h13 w1 (Wc (K:=([.r y0.1 s0.1.length y0.2.1 3 1 (s0.1.flatMap Ag)]:List Ent)) (by exact (sb 2)) hw1)) rfl ?_);rintro _ _ hlo ⟨rfl,rfl,hs9,-⟩;refine Yg ?_;refine Aij (r:=r7) (Abj h13) (.there (.there (.here))) dD (fun _=>rfl) ?_;refine Y6 ?_;refine Es (k:=0) rfl dD (fun _=>rfl) (fun hn5 hs10=>?_);obtain rfl:=Option.some.inj hx14;exact Cz (rs:=[.tmp 4,.tmp 5]) results303 (.tmp rfl (.tmp rfl (.nil))) (Ln:=[.r y0.1 r7.length y0.2.1 3 1 (r7.flatMap Ag),.r A8 r6.1.length c7 3 1 (r6.1.flatMap Ag)]) ⟨y0.1,y0.2.1,A8,c7,(.r A8 r6.1.length c7 3 1 (r6.1.flatMap Ag)),rfl,rfl,Has.len' (Has.up (L:=(K++[.r A8 r6.1.length c7 3 1 (r6.1.flatMap Ag)])) hs10 (SubE.appR2 (sb 0))),trivial⟩ (Bm rfl (Bm rfl Co)) (by exact .pick 2 rfl (.pick 0 rfl (.drop 0 rfl (.drop 0 rfl (.refl)))))
   ·refine Y3 ?_;refine As (Dn rfl 3 underlying42) rfl ?_;refine Y ?_;refine As (Dn rfl 3 underlying42) rfl ?_;refine Y5 ?_;refine T_mr (enc:=Ag) (sz:=1) ([w64 (Int.tdiv 65536 (w64 (x0+1)))]) (.there (.there (.there (.there (.here))))) rfl rfl (fun _=>rfl) (by show 1<=maxLen;decide) ?_;obtain⟨t0,hl3,ho0⟩:=An hx76;refine Lp (σ:=List Int × List Int × Int) (γ:=Option Addr × Nat × Option Addr × Nat) hl3 (fun s1 y1=>[(8,.slice (some ⟨g0,0,none⟩) 1 1),(9,.slice A4 r3.length c4),(10,.slice A5 r4.length c5),(11,.slice y1.1 s1.1.length y1.2.1),(12,.slice y1.2.2.1 s1.2.1.length y1.2.2.2),(13,iq s1.2.2)]) (fun s1 y1=>[.r y1.2.2.1 s1.2.1.length y1.2.2.2 3 1 (s1.2.1.flatMap Ag),.r y1.1 s1.1.length y1.2.1 3 1 (s1.1.flatMap Ag),.r A5 r4.length c5 3 1 (r4.flatMap Ag),.r A4 r3.length c4 3 1 (r3.flatMap Ag),.r (some ⟨g0,0,none⟩) 1 1 3 1 (([w64 (Int.tdiv 65536 (w64 (x0+1)))]).flatMap Ag)]++[.old w]) (fun s1 y1=>True) (A6,(List.replicate (Int.toNat (w64 ((w64 ((r3.length:Int)-(r4.length:Int)))+1))) (0:Int)).length,A7,c6) trivial (by exact .pick 0 rfl (.pick 0 rfl (.pick 0 rfl (.pick 0 rfl (.pick 0 rfl (.refl)))))) ?_;intro s1 y1 hG1 x2 hx15 ht0;unfold Dv at hx15;refine Y7 ?_;refine Ti hx15 (s:=78) rfl (fun h14 hx16=>?_) (fun h14 hx17=>?_)
    ·refine Y9 ?_;obtain⟨x3,h15,hx18⟩:=An hx16;refine Acm (k:=3) rfl dD (fun _=>rfl) h15 (fun b3 j4 hA3 hj3 hl4 hm1 hp3=>?_);refine As (Bt rfl rfl hA3 (j:=j4) hj3 hl4 Rz) rfl ?_;refine As (Cx rfl hp3 (sb 3) rfl one3) rfl ?_;refine T_x (By rfl (Im _) rfl (fun g2=>?_));refine Y ?_;refine T_mr (enc:=Ag) (sz:=1) ([x3]) (.here) rfl rfl (fun _=>rfl) (by show 1<=maxLen;decide) ?_;refine Es (k:=1) rfl dD (fun _=>rfl) (fun hn6 hs11=>?_);obtain⟨h16,hx19⟩:=Bo hx18;refine T_h (Tq Ag ([x3]) s1.2.1 rfl rfl Adz (fun _=>rfl) hs11 (sb 1) (fun _=>rfl) h16 rfl (fun _ _=>.here) dD (fun A9 c8=>?_));refine Es (k:=0) rfl dD (fun _=>rfl) (fun hn7 hs12=>?_);obtain⟨r8,h17,hx20⟩:=An hx19;refine T_x (Bv rfl (fun w1 hw1=>Ii (([x3])++s1.2.1) (Has.len' hs12) h17 w1 (Wc (K:=([.r A9 ((([x3])++s1.2.1).length) c8 3 1 ((([x3])++s1.2.1).flatMap Ag)]:List Ent)) (by exact (sb 0)) hw1)) rfl ?_);rintro _ _ hlo ⟨rfl,rfl,hs13,-⟩;refine Yg ?_;refine Aij (r:=r8) (Abj h17) (.here) dD (fun _=>rfl) ?_;refine Y8 ?_;refine Tj (γ:=Unit) hx20 (fun s2 y2=>[(8,.slice (some ⟨g0,0,none⟩) 1 1),(9,.slice A4 r3.length c4),(10,.slice A5 r4.length c5),(11,.slice y1.1 s1.1.length y1.2.1),(12,.slice A9 r8.length c8),(13,iq s1.2.2),(14,iq s2)]) (fun s2 y2=>[.r A9 r8.length c8 3 1 (r8.flatMap Ag),.r y1.1 s1.1.length y1.2.1 3 1 (s1.1.flatMap Ag),.r A5 r4.length c5 3 1 (r4.flatMap Ag),.r A4 r3.length c4 3 1 (r3.flatMap Ag),.r (some ⟨g0,0,none⟩) 1 1 3 1 (([w64 (Int.tdiv 65536 (w64 (x0+1)))]).flatMap Ag)]++[.old w]) (fun s2 y2=>True) (fun s2 y2 hx21 hG2=>?_) (fun j5 hx20=>?_)
     ·refine Y4 ?_;refine T_x (By rfl (Im _) rfl (fun g3=>?_));have hs14:Has [.m g3 3 [iq s2]] (some ⟨g3,0,none⟩) 1 1 1 Ag [s2]:=Has.ofM (fun _ _=>rfl) rfl dD rfl;obtain⟨r9,h18,hx23⟩:=An hx21;refine T_x (Bv rfl (fun w1 hw1=>Ii ([s2]) (Has.len' hs14) h18 w1 (Wc (K:=([.m g3 3 [iq s2]]:List Ent)) (by exact (sb 0)) hw1)) rfl ?_);rintro _ _ hlo ⟨rfl,rfl,hs15,-⟩;refine Yg ?_;refine Es (k:=3) rfl dD (fun _=>rfl) (fun hn8 hs16=>?_);obtain⟨r10,h19,hx24⟩:=An hx23;refine T_x (Bv rfl (fun w1 hw1=>Ss r4 r9 (Has.len' (Has.up (L:=([.r A5 r4.length c5 3 1 (r4.flatMap Ag),.m g3 3 [iq s2]]:List Ent)) hs16 (sb 0))) (Has.len' (Has.up (L:=([.r A5 r4.length c5 3 1 (r4.flatMap Ag),.m g3 3 [iq s2]]:List Ent)) hs15 (sb 1))) h19 w1 (Wc (K:=([.r A5 r4.length c5 3 1 (r4.flatMap Ag),.m g3 3 [iq s2]]:List Ent)) (by exact (SubE.cons2 (i:=3) rfl (sb 0))) hw1)) rfl ?_);rintro _ _ hlo ⟨A10,c9,rfl,rfl,-⟩;refine Jj ?_;refine Y3 ?_;refine Tj (γ:=Option Addr × Nat) hx24 (fun s3 y3=>[(8,.slice (some ⟨g0,0,none⟩) 1 1),(9,.slice A4 r3.length c4),(10,.slice A5 r4.length c5),(11,.slice y1.1 s1.1.length y1.2.1),(12,.slice A9 r8.length c8),(13,iq s1.2.2),(14,iq s3.1),(16,.slice y3.1 s3.2.length y3.2)]) (fun s3 y3=>[.r y3.1 s3.2.length y3.2 3 1 (s3.2.flatMap Ag),.r A9 r8.length c8 3 1 (r8.flatMap Ag),.r y1.1 s1.1.length y1.2.1 3 1 (s1.1.flatMap Ag),.r A5 r4.length c5 3 1 (r4.flatMap Ag),.r A4 r3.length c4 3 1 (r3.flatMap Ag),.r (some ⟨g0,0,none⟩) 1 1 3 1 (([w64 (Int.tdiv 65536 (w64 (x0+1)))]).flatMap Ag)]++[.old w]) (fun s3 y3=>True) (fun s3 y3 hx25 hG3=>?_) (fun j6 hx24=>?_)
      ·refine Y4 ?_;refine Es (k:=1) rfl dD (fun _=>rfl) (fun hn9 hs17=>?_);refine Es (k:=0) rfl dD (fun _=>rfl) (fun hn10 hs18=>?_);obtain⟨r11,h20,hx26⟩:=An hx25;refine T_x (Bv rfl (fun w1 hw1=>Yr r8 s3.2 (Has.len' (Has.up (L:=([.r A9 r8.length c8 3 1 (r8.flatMap Ag),.r y3.1 s3.2.length y3.2 3 1 (s3.2.flatMap Ag)]:List Ent)) hs17 (sb 0))) (Has.len' (Has.up (L:=([.r A9 r8.length c8 3 1 (r8.flatMap Ag),.r y3.1 s3.2.length y3.2 3 1 (s3.2.flatMap Ag)]:List Ent)) hs18 (sb 1))) h20 w1 (Wc (K:=([.r A9 r8.length c8 3 1 (r8.flatMap Ag),.r y3.1 s3.2.length y3.2 3 1 (s3.2.flatMap Ag)]:List Ent)) (by exact (SubE.cons2 (i:=1) rfl (sb 0))) hw1)) rfl ?_);rintro _ _ hlo ⟨A11,c10,rfl,rfl,-⟩;refine Jj ?_;refine Y7 ?_;obtain⟨x4,h22,hx28⟩:=An hx26;refine Acm (k:=3) rfl dD (fun _=>rfl) h22 (fun b4 j7 hA4 hj4 hl5 hm2 hp4=>?_);refine As (Bt rfl rfl hA4 (j:=j7) hj4 hl5 Rz) rfl ?_;refine T_h (Alq Ag s1.1 s1.2.2 s3.1 rfl rfl rfl (.there (.there (.there (.here)))) hA4 rfl hj4 hl5 (fun _=>rfl) dD rfl one3.2 ?_);refine Y8 ?_;have hn11:s1.1.length=(setI s1.1 s1.2.2 s3.1).length:=by simp[Jq,Vr,List.length_append] <;> omega
       refine Yb (.there (.there (.there (.here)))) (e':=.r y1.1 ((setI s1.1 s1.2.2 s3.1).length) y1.2.1 3 1 ((setI s1.1 s1.2.2 s3.1).flatMap Ag)) (by first | (rw[<- hn11];done) | rfl) ?_;refine Aci (s:=11) (v':=.slice y1.1 ((setI s1.1 s1.2.2 s3.1).length) y1.2.1) rfl (by have hn12:s1.1.length=(setI s1.1 s1.2.2 s3.1).length:=(by simp[Jq,Vr,List.length_append] <;> omega);first | (rw[<- hn12];done) | rfl) ?_;exact Rp (setI s1.1 s1.2.2 s3.1,r11,w64 (s1.2.2-1)) (y1.1,y1.2.1,A11,c10) hx28 trivial (by exact .pick 0 rfl (.pick 2 rfl (.pick 2 rfl (.pick 2 rfl (.pick 2 rfl (.drop 0 rfl (.drop 0 rfl (.refl))))))))
      ·refine Y ?_;obtain⟨t1,hl6,ho1⟩:=An hx24;refine Lp (σ:=Int × List Int) (γ:=Option Addr × Nat) hl6 (fun s4 y4=>[(8,.slice (some ⟨g0,0,none⟩) 1 1),(9,.slice A4 r3.length c4),(10,.slice A5 r4.length c5),(11,.slice y1.1 s1.1.length y1.2.1),(12,.slice A9 r8.length c8),(13,iq s1.2.2),(14,iq s4.1),(16,.slice y4.1 s4.2.length y4.2)]) (fun s4 y4=>[.r y4.1 s4.2.length y4.2 3 1 (s4.2.flatMap Ag),.r A9 r8.length c8 3 1 (r8.flatMap Ag),.r y1.1 s1.1.length y1.2.1 3 1 (s1.1.flatMap Ag),.r A5 r4.length c5 3 1 (r4.flatMap Ag),.r A4 r3.length c4 3 1 (r3.flatMap Ag),.r (some ⟨g0,0,none⟩) 1 1 3 1 (([w64 (Int.tdiv 65536 (w64 (x0+1)))]).flatMap Ag)]++[.old w]) (fun s4 y4=>True) (A10,c9) trivial (by exact .pick 0 rfl (.pick 1 rfl (.pick 1 rfl (.pick 1 rfl (.pick 1 rfl (.pick 1 rfl (.drop 0 rfl (.refl)))))))) ?_;intro s4 y4 hG4 x5 hx29 ht1;unfold Hr at hx29;refine Y5 ?_;refine Es (k:=0) rfl dD (fun _=>rfl) (fun hn13 hs19=>?_);refine Es (k:=1) rfl dD (fun _=>rfl) (fun hn14 hs20=>?_);obtain⟨r12,h23,hx30⟩:=An hx29;refine Tc (fun w1 hw1=>Ve s4.2 r8 (Has.len' (Has.up (L:=([.r y4.1 s4.2.length y4.2 3 1 (s4.2.flatMap Ag),.r A9 r8.length c8 3 1 (r8.flatMap Ag)]:List Ent)) hs19 (sb 0))) (Has.len' (Has.up (L:=([.r y4.1 s4.2.length y4.2 3 1 (s4.2.flatMap Ag),.r A9 r8.length c8 3 1 (r8.flatMap Ag)]:List Ent)) hs20 (sb 1))) h23 w1 (Wc (K:=([.r y4.1 s4.2.length y4.2 3 1 (s4.2.flatMap Ag),.r A9 r8.length c8 3 1 (r8.flatMap Ag)]:List Ent)) (by exact (SubE.cons2 (i:=0) rfl (sb 1))) hw1)) ?_;refine Y3 ?_;refine Ti hx30 (s:=132) rfl (fun h24 hx31=>?_) (fun h24 hx33=>?_)
       ·(iterate 14 refine Y ?_);refine Es (k:=0) rfl dD (fun _=>rfl) (fun hn15 hs21=>?_);refine Es (k:=3) rfl dD (fun _=>rfl) (fun hn16 hs22=>?_);obtain⟨r13,h25,hx34⟩:=An hx31;refine T_x (Bv rfl (fun w1 hw1=>Yr s4.2 r4 (Has.len' (Has.up (L:=([.r y4.1 s4.2.length y4.2 3 1 (s4.2.flatMap Ag),.r A5 r4.length c5 3 1 (r4.flatMap Ag)]:List Ent)) hs21 (sb 0))) (Has.len' (Has.up (L:=([.r y4.1 s4.2.length y4.2 3 1 (s4.2.flatMap Ag),.r A5 r4.length c5 3 1 (r4.flatMap Ag)]:List Ent)) hs22 (sb 1))) h25 w1 (Wc (K:=([.r y4.1 s4.2.length y4.2 3 1 (s4.2.flatMap Ag),.r A5 r4.length c5 3 1 (r4.flatMap Ag)]:List Ent)) (by exact (SubE.cons2 (i:=0) rfl (sb 3))) hw1)) rfl ?_);rintro _ _ hlo ⟨A12,c11,rfl,rfl,-⟩;refine Jj ?_;refine Y3 ?_;exact Rp (w64 (s4.1-1),r13) (A12,c11) hx34 trivial (by exact .pick 0 rfl (.pick 1 rfl (.pick 1 rfl (.pick 1 rfl (.pick 1 rfl (.pick 1 rfl (.drop 0 rfl (.refl))))))))
       ·refine Y3 ?_;obtain rfl:=Gg ht1 hx33;refine Y2 ?_;exact Mt (s4.1,s4.2) (y4.1,y4.2) ho1 trivial (by exact .pick 0 rfl (.pick 0 rfl (.pick 0 rfl (.pick 0 rfl (.pick 0 rfl (.pick 0 rfl (.refl)))))))
     ·refine Y3 ?_;refine As (Dn rfl 3 underlying42) rfl ?_;refine Y ?_;refine As (Dn rfl 3 underlying42) rfl ?_;refine Y3 ?_;refine Ti hx20 (s:=93) rfl (fun h27 hx36=>?_) (fun h27 hx37=>?_)
      ·refine Y5 ?_;refine As (Dn rfl 3 underlying42) rfl ?_;refine Y ?_;obtain⟨x6,h28,hx38⟩:=An hx36;refine Acm (k:=0) rfl dD (fun _=>rfl) h28 (fun b5 j8 hA5 hj5 hl7 hm3 hp5=>?_);refine As (Bt rfl rfl hA5 (j:=j8) hj5 hl7 Rz) rfl ?_;refine As (Cx rfl hp5 (sb 0) rfl one3) rfl ?_;refine Y3 ?_;refine Tj (γ:=Unit) hx38 (fun s5 y5=>[(8,.slice (some ⟨g0,0,none⟩) 1 1),(9,.slice A4 r3.length c4),(10,.slice A5 r4.length c5),(11,.slice y1.1 s1.1.length y1.2.1),(12,.slice A9 r8.length c8),(13,iq s1.2.2),(15,iq s5)]) (fun s5 y5=>[.r A9 r8.length c8 3 1 (r8.flatMap Ag),.r y1.1 s1.1.length y1.2.1 3 1 (s1.1.flatMap Ag),.r A5 r4.length c5 3 1 (r4.flatMap Ag),.r A4 r3.length c4 3 1 (r3.flatMap Ag),.r (some ⟨g0,0,none⟩) 1 1 3 1 (([w64 (Int.tdiv 65536 (w64 (x0+1)))]).flatMap Ag)]++[.old w]) (fun s5 y5=>True) (fun s5 y5 hx39 hG5=>?_) (fun j9 hx38=>?_)
       ·refine Y5 ?_;refine As (Dn rfl 3 underlying42) rfl ?_;refine Y ?_;obtain⟨x7,h29,hx40⟩:=An hx39;refine Acm (k:=2) rfl dD (fun _=>rfl) h29 (fun b6 j10 hA6 hj6 hl8 hm4 hp6=>?_);refine As (Bt rfl rfl hA6 (j:=j10) hj6 hl8 Rz) rfl ?_;refine As (Cx rfl hp6 (sb 2) rfl one3) rfl ?_;obtain⟨h30,hx41⟩:=Bo hx40;refine As (Aes rfl rfl h30) rfl ?_;refine Y9 ?_;refine Ti hx41 (s:=123) rfl (fun h31 hx42=>?_) (fun h31 hx43=>?_)
        ·refine Y4 ?_;exact Mt 65535 () hx42 trivial (by exact .pick 0 rfl (.pick 0 rfl (.pick 0 rfl (.pick 0 rfl (.pick 0 rfl (.refl))))))
        ·refine Y2 ?_;exact Mt (w64 (Int.tdiv s5 x7)) () hx43 trivial (by exact .pick 0 rfl (.pick 0 rfl (.pick 0 rfl (.pick 0 rfl (.pick 0 rfl (.refl))))))
       ·refine Y3 ?_;refine As (Dn rfl 3 underlying42) rfl ?_;refine Y ?_;refine As (Dn rfl 3 underlying42) rfl ?_;refine Y3 ?_;refine Ti hx38 (s:=104) rfl (fun h32 hx44=>?_) (fun h32 hx46=>?_)
        ·refine Y6 ?_;refine As (Dn rfl 3 underlying42) rfl ?_;refine Y ?_;obtain⟨x8,h33,hx47⟩:=An hx44;refine Acm (k:=0) rfl dD (fun _=>rfl) h33 (fun b7 j11 hA7 hj7 hl9 hm5 hp7=>?_);refine As (Bt rfl rfl hA7 (j:=j11) hj7 hl9 Rz) rfl ?_;refine As (Cx rfl hp7 (sb 0) rfl one3) rfl ?_;refine Y3 ?_;exact Mt (w64 ((w64 (x6*65536))+x8)) () hx47 trivial (by exact .pick 0 rfl (.pick 1 rfl (.pick 1 rfl (.pick 1 rfl (.pick 1 rfl (.drop 0 rfl (.refl)))))))
        ·refine Y2 ?_;exact Mt x6 () hx46 trivial (by exact .pick 0 rfl (.pick 1 rfl (.pick 1 rfl (.pick 1 rfl (.pick 1 rfl (.drop 0 rfl (.refl)))))))
      ·refine Y2 ?_;exact Mt 0 () hx37 trivial (by exact .pick 0 rfl (.pick 1 rfl (.pick 1 rfl (.pick 1 rfl (.pick 1 rfl (.drop 0 rfl (.refl)))))))
    ·refine Y3 ?_;obtain rfl:=Gg ht0 hx17;refine Y2 ?_;exact Mt (s1.1,s1.2.1) (y1.1,y1.2.1,y1.2.2.1,y1.2.2.2) ho0 trivial (by exact .pick 0 rfl (.pick 0 rfl (.pick 2 rfl (.drop 0 rfl (.drop 0 rfl (.refl))))))
theorem Agd(p0:List Int)(p1:List Int){K:List Ent}{U0:Option Addr}{E0:Nat}{U1:Option Addr}{E1:Nat}(ha0:Has K U0 p0.length E0 1 Ag p0)(ha1:Has K U1 p1.length E1 1 Ag p1){r:List Int}(hx:Sc p0 p1=some r)(w:World)(hK:∀ e∈K,Ent.ok w e):CtL prog 319 [.slice U0 p0.length E0,.slice U1 p1.length E1] w fun v Ln=>∃ (A0:Option Addr) (c0:Nat) (e0:Ent),v = .slice A0 r.length c0/\Ln=[e0]/\Has (K++[e0]) A0 r.length c0 1 Ag r/\True:=by
 have ha0':=Has.up0 ha0;have ha1':=Has.up0 ha1;refine CtL.mk 19 func319 rfl ntmps319 kr rfl ?_;show T 19 _ [(0,.slice U0 p0.length E0),(1,.slice U1 p1.length E1)] _;unfold Sc at hx;refine Y5 ?_;obtain⟨j2,hj2,hx⟩:=Adb hx;refine Aa8 (τ:=List Int) (γ:=Option Addr × Nat × Ent) (J:=j2) (out:=r) (fun s2 y2=>[(0,.slice y2.1 s2.length y2.2.1)]) (fun s2 y2=>[y2.2.2]++[.old w]) (fun s2 y2=>y2.2.2.low=0/\Has (K++[y2.2.2]) y2.1 s2.length y2.2.1 1 Ag s2/\True) ?_ ?_
 ·intro s2 y2 hx0 hG0;obtain⟨lo57,hs0,-⟩:=hG0;subst hj2;refine Y7 ?_;obtain rfl:=Option.some.inj hx0;exact Cz (rs:=[.tmp 4]) results319 (.tmp rfl (.nil)) (Ln:=[y2.2.2]) ⟨y2.1,y2.2.1,y2.2.2,rfl,rfl,Has.len' hs0,trivial⟩ (Bm lo57 Co) (by exact .pick 0 rfl (.refl))
 ·skip;refine Y ?_;obtain⟨t0,hl0,ho0⟩:=An hx;refine Bb 0 1 ?_;refine Lp (σ:=List Int × List Int) (γ:=Option Addr × Nat × Ent × Option Addr × Nat) hl0 (fun s0 y0=>[(0,.slice y0.1 s0.1.length y0.2.1),(1,.slice y0.2.2.2.1 s0.2.length y0.2.2.2.2)]) (fun s0 y0=>[y0.2.2.1]++[.old w]) (fun s0 y0=>y0.2.2.1.low=0/\Has (K++[y0.2.2.1]) y0.1 s0.1.length y0.2.1 1 Ag s0.1/\Has (K++[y0.2.2.1]) y0.2.2.2.1 s0.2.length y0.2.2.2.2 1 Ag s0.2/\True) (U0,E0,.r none 0 0 0 1 [],U1,E1) ((by exact⟨rfl,Has.len' ((Has.up (L:=(K++[.r none 0 0 0 1 []])) ha0' (SubE.app2 SubE.nil))),Has.len' ((Has.up (L:=(K++[.r none 0 0 0 1 []])) ha1' (SubE.app2 SubE.nil))),trivial⟩)) (by exact .pick 0 rfl (.refl)) ?_;intro s0 y0 hG1 x0 hx1 ht0;unfold Ri at hx1;obtain⟨lo38,hs1,hs2,-⟩:=hG1;refine Y4 ?_;refine As (Dn rfl 3 underlying42) rfl ?_;refine Y3 ?_;refine Ti hx1 (s:=9) rfl (fun h0 hx2=>?_) (fun h0 hx3=>?_)
  ·refine Y8 ?_;obtain⟨r0,h1,hx4⟩:=An hx2;refine T_x (Bv rfl (fun w1 hw1=>Nu s0.1 s0.2 (Has.len' hs1) (Has.len' hs2) h1 w1 (Qz (K:=K) (K2:=[y0.2.2.1]) hK (by exact (sb 1)) (by exact (sb 0)) hw1)) rfl ?_);rintro _ _ hlo ⟨A1,c1,A2,c2,e1,rfl,rfl,hs3,-⟩;have lo53:=hlo e1 (by simp);refine Zs ?_;have hs4:Has (K++[y0.2.2.1,e1]) _ _ _ _ _ _:=Has.assoc hs3;(iterate 14 refine Y ?_);refine Ayl (es:=[y0.2.2.1,e1]) (by exact .pick 2 rfl (.pick 1 rfl (.refl))) (Bm lo38 (Bm lo53 Co)) ?_;exact Rp (s0.2,r0.2) (y0.2.2.2.1,y0.2.2.2.2,bun [y0.2.2.1,e1],A2,c2) hx4 ((by exact⟨rfl,Has.len' ((Has.up (L:=(K++[(bun [y0.2.2.1,e1])])) hs2 (SubE.app2 (SubE.consB (i:=0) (j:=0) rfl rfl SubE.nil)))),Has.len' ((Has.up (L:=(K++[(bun [y0.2.2.1,e1])])) hs4 (SubE.app2 (SubE.consB (i:=0) (j:=0) rfl rfl (SubE.consB (i:=0) (j:=1) rfl rfl SubE.nil))))),trivial⟩)) (by exact .pick 0 rfl (.drop 0 rfl (.refl)))
  ·refine Y3 ?_;obtain rfl:=Gg ht0 hx3;refine Y2 ?_;exact Mt s0.1 (y0.1,y0.2.1,y0.2.2.1) ho0 ((by exact⟨lo38,Has.len' hs1,trivial⟩)) (by exact .pick 0 rfl (.refl))
end Go.Proofs.YthlkpgdfifnagaaGreat
