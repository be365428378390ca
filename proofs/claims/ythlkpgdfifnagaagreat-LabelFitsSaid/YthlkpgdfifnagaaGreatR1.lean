import Derived.Test.YthlkpgdfifnagaaGreatY1
set_option maxRecDepth 100000
set_option maxHeartbeats 1000000
namespace Go.Proofs.YthlkpgdfifnagaaGreat
open Go Go.RowKit Tryz
noncomputable section
theorem Aum:Rj prog 117 [.bool false,.slice none 0 0]:=⟨_,zeroValue117,rfl⟩
instance:Te prog 117 [.bool false,.slice none 0 0]:=⟨Aum⟩
theorem Uf(x0:Bool)(x1:Option Addr)(x2:Nat)(x3:Nat):Wv prog 117 [(0,.bool x0),(1,.slice x1 x2 x3)] [.bool x0,.slice x1 x2 x3]:=fun w=>kr
instance(x0:Bool)(x1:Option Addr)(x2:Nat)(x3:Nat):Le prog 117 [(0,.bool x0),(1,.slice x1 x2 x3)] [.bool x0,.slice x1 x2 x3]:=⟨Uf _ _ _ _⟩
theorem Agw:Rw prog 117 2:=.mk underlying117 rfl (show prog.info? 117=some t117 from by kernel_rfl) kr
instance:AggI prog 117 2:=⟨Agw⟩
theorem Ake(x0:Bool)(x1:Option Addr)(x2:Nat)(x3:Nat):Aog prog 117 [.bool x0,.slice x1 x2 x3] 1 (.slice x1 x2 x3):=fun w=>kr
theorem Aun  : Jw prog 42 0 [] 3 []:=fun w=>kr
def Kd(p0:Av):Option Bool :=
 jn (fun (s2:Bool)=>
 some s2)
 (fun j2=>if (-1152921504606846976)<=p0.Lo then (if p0.Lo<=p0.Hi then (j2 (decide (p0.Hi<=1152921504606846976)))
 else (j2 false))
 else (j2 false))
def Sq(p0:Av)(p1:Av):Option (Int × Int):=
 jn (fun (s3:Bool)=>
 if s3=true then (some (0,2))
 else (some (max 0 (w64 ((max p0.Lo p1.Lo)-(min p0.Hi p1.Hi))),0)))
 (fun j3=>bnd (Kd p0) fun r3=>
 if r3=true then (bnd (Kd p1) fun r9=>
 j3 (!(r9)))
 else (j3 true))
def Ji  : (Int × List Int)->Option (Sum (Int × List Int) (List Int)):=fun s0=>
 if 0<s0.1 then (gd ((s0.2.length+1)*8<=140737488355328)<|
 some (.inl (wu64 (Int.tdiv s0.1 65536),s0.2++[w64 (Int.tmod s0.1 65536)])))
 else (some (.inr s0.2))
def Be(p0:Int):Option Af :=
 jn (fun (s3:Int)=>
 jn (fun (s6:List Int)=>
 some (⟨decide (p0<0),s6⟩:Af))
 (fun j6=>bnd (lfix Ji (s3,([]:List Int))) fun t0=>
 j6 t0))
 (fun j3=>if p0<0 then (j3 (wu64 (-(wu64 p0))))
 else (j3 (wu64 p0)))
def Oj(p0:List Int):Int->Option (Sum Int Int):=fun s0=>
 jn (fun (s7:Bool)=>
 if s7=true then (some (.inl (w64 (s0-1))))
 else (some (.inr s0)))
 (fun j7=>if 0<s0 then (bnd (idx p0 (w64 (s0-1))) fun x0=>
 j7 (decide (x0=0)))
 else (j7 false))
def Bq(p0:List Int):Option (List Int):=
 jn (fun (s3:Int)=>
 gd (0<=s3/\s3<=(p0.length:Int))<|
 some (subl p0 0 s3))
 (fun j3=>bnd (lfix (Oj p0) (p0.length:Int)) fun t0=>
 j3 t0)
theorem Yl{l r:List Int}(h:Bq l=some r):∃ k,r=l.take k:=by
 unfold Bq at h;simp only[jn] at h;obtain⟨n,_,h⟩:=Au h;obtain⟨_,h⟩:=De h;obtain rfl:=Option.some.inj h;exact⟨_,Aqh _ _⟩
def Lk(p0:List Int)(p1:List Int):Int->Option (Sum Int (Sum Unit Int)):=fun s0=>
 if 0<=s0 then (bnd (idx p0 s0) fun x0=>
 bnd (idx p1 s0) fun x1=>
 if x0=x1 then (some (.inl (w64 (s0-1))))
 else (bnd (idx p0 s0) fun x2=>
 bnd (idx p1 s0) fun x3=>
 if x2<x3 then (some (.inr (.inr (-1))))
 else (some (.inr (.inr 1)))))
 else (some (.inr (.inl ())))
def Ec(p0:List Int)(p1:List Int):Option Int :=
 if (p0.length:Int)=(p1.length:Int) then (jn (fun (s8:Unit)=>
 some 0)
 (fun j8=>bnd (lfix (Lk p0 p1) (w64 ((p0.length:Int)-1))) fun t0=>
 (match t0 with
 | (.inl z0)=>j8 z0
 | (.inr z0)=>some z0
 )))
 else (if (p0.length:Int)<(p1.length:Int) then (some (-1))
 else (some 1))
def Hr(p1:List Int)(p0:List Int):(List Int × Int × Int)->Option (Sum (List Int × Int × Int) (List Int)):=fun s0=>
 jn (fun (s1:Bool)=>
 if s1=true then (jn (fun (s2:Int)=>
 jn (fun (s3:Int)=>
 gd ((s0.1.length+1)*8<=140737488355328)<|
 some (.inl (s0.1++[Int.tmod s3 65536],w64 (Int.tdiv s3 65536),w64 (s0.2.2+1))))
 (fun j0=>if s0.2.2<(p1.length:Int) then (bnd (idx p1 s0.2.2) fun x0=>
 j0 (w64 (s2+x0)))
 else (j0 s2)))
 (fun j1=>if s0.2.2<(p0.length:Int) then (bnd (idx p0 s0.2.2) fun x1=>
 j1 (w64 (s0.2.1+x1)))
 else (j1 s0.2.1)))
 else (some (.inr s0.1)))
 (fun j2=>if s0.2.2<(p0.length:Int) then (j2 true)
 else (if s0.2.2<(p1.length:Int) then (j2 true)
 else (j2 (decide (0<s0.2.1)))))
def Hc(p0:List Int)(p1:List Int):Option (List Int):=
 jn (fun (s4:List Int)=>
 bnd (Bq s4) fun r0=>
 some r0)
 (fun j4=>bnd (lfix (Hr p1 p0) (([]:List Int),0,0)) fun t0=>
 j4 t0)
def Fu(p0:List Int)(p1:List Int):(List Int × Int × Int)->Option (Sum (List Int × Int × Int) (List Int)):=fun s0=>
 if s0.2.2<(p0.length:Int) then (bnd (idx p0 s0.2.2) fun x0=>
 jn (fun (s1:Int)=>
 jn (fun (s2:Int × Int)=>
 gd ((s0.1.length+1)*8<=140737488355328)<|
 some (.inl (s0.1++[s2.2],s2.1,w64 (s0.2.2+1))))
 (fun j0=>if s1<0 then (j0 (1,w64 (s1+65536)))
 else (j0 (0,s1))))
 (fun j1=>if s0.2.2<(p1.length:Int) then (bnd (idx p1 s0.2.2) fun x1=>
 j1 (w64 ((w64 (x0-s0.2.1))-x1)))
 else (j1 (w64 (x0-s0.2.1)))))
 else (some (.inr s0.1))
def Eh(p0:List Int)(p1:List Int):Option (List Int):=
 jn (fun (s4:List Int)=>
 bnd (Bq s4) fun r0=>
 some r0)
 (fun j4=>bnd (lfix (Fu p0 p1) (([]:List Int),0,0)) fun t0=>
 j4 t0)
def Gt(p1:List Int)(p0:List Int)(s0:List Int × Int):(List Int × Int × Int)->Option (Sum (List Int × Int × Int) (List Int × Int)):=fun s1=>
 if s1.2.2<(p1.length:Int) then (bnd (idx p0 s0.2) fun x0=>
 bnd (idx p1 s1.2.2) fun x1=>
 bnd (idx s1.1 (w64 (s0.2+s1.2.2))) fun x2=>
 bnd (idx s1.1 (w64 (s0.2+s1.2.2))) fun x3=>
 some (.inl (setI s1.1 (w64 (s0.2+s1.2.2)) (Int.tmod (w64 ((w64 ((w64 (x0*x1))+x2))+s1.2.1)) 65536),w64 (Int.tdiv (w64 ((w64 ((w64 (x0*x1))+x2))+s1.2.1)) 65536),w64 (s1.2.2+1))))
 else (some (.inr (s1.1,s1.2.1)))
def Gu(p0:List Int)(p1:List Int):(List Int × Int)->Option (Sum (List Int × Int) (List Int)):=fun s0=>
 if s0.2<(p0.length:Int) then (jn (fun (s1:List Int × Int)=>
 bnd (idx s1.1 (w64 (s0.2+(p1.length:Int)))) fun x0=>
 some (.inl (setI s1.1 (w64 (s0.2+(p1.length:Int))) s1.2,w64 (s0.2+1))))
 (fun j0=>bnd (lfix (Gt p1 p0 s0) (s0.1,0,0)) fun t0=>
 j0 t0))
 else (some (.inr s0.1))
def Cq(p0:List Int)(p1:List Int):Option (List Int):=
 gd ((0:Int)<=(w64 ((p0.length:Int)+(p1.length:Int)))/\8*Int.toNat (w64 ((p0.length:Int)+(p1.length:Int)))<=140737488355328)<|
 jn (fun (s3:List Int)=>
 bnd (Bq s3) fun r0=>
 some r0)
 (fun j3=>bnd (lfix (Gu p0 p1) (List.replicate (Int.toNat (w64 ((p0.length:Int)+(p1.length:Int)))) (0:Int),0)) fun t0=>
 j3 t0)
def Ng(p0:List Int)(p1:Int):(List Int × Int × Int)->Option (Sum (List Int × Int × Int) (List Int × Int)):=fun s0=>
 if 0<=s0.2.2 then (bnd (idx p0 s0.2.2) fun x0=>
 gd (p1≠0)<|
 bnd (idx s0.1 s0.2.2) fun x1=>
 gd (p1≠0)<|
 some (.inl (setI s0.1 s0.2.2 (w64 (Int.tdiv (w64 ((w64 (s0.2.1*65536))+x0)) p1)),Int.tmod (w64 ((w64 (s0.2.1*65536))+x0)) p1,w64 (s0.2.2-1))))
 else (some (.inr (s0.1,s0.2.1)))
def En(p0:List Int)(p1:Int):Option (List Int × Int):=
 gd ((0:Int)<=(p0.length:Int)/\8*Int.toNat (p0.length:Int)<=140737488355328)<|
 jn (fun (s4:List Int × Int)=>
 bnd (Bq s4.1) fun r0=>
 some (r0,s4.2))
 (fun j4=>bnd (lfix (Ng p0 p1) (List.replicate (Int.toNat (p0.length:Int)) (0:Int),0,w64 ((p0.length:Int)-1))) fun t0=>
 j4 t0)
def Hh(r0:List Int)(r1:List Int):(Int × List Int)->Option (Sum (Int × List Int) (Int × List Int)):=fun s0=>
 bnd (Ec s0.2 r0) fun r2=>
 if 0<r2 then (bnd (Eh s0.2 r1) fun r3=>
 some (.inl (w64 (s0.1-1),r3)))
 else (some (.inr (s0.1,s0.2)))
def Dv(r0:List Int)(r1:List Int):(List Int × List Int × Int)->Option (Sum (List Int × List Int × Int) (List Int × List Int)):=fun s0=>
 if 0<=s0.2.2 then (bnd (idx r0 s0.2.2) fun x0=>
 gd ((([x0]).length+s0.2.1.length)*8<=140737488355328)<|
 bnd (Bq (([x0])++s0.2.1)) fun r2=>
 jn (fun (s1:Int)=>
 bnd (Bq ([s1])) fun r3=>
 bnd (Cq r1 r3) fun r4=>
 jn (fun (s2:Int × List Int)=>
 bnd (Eh r2 s2.2) fun r5=>
 bnd (idx s0.1 s0.2.2) fun x1=>
 some (.inl (setI s0.1 s0.2.2 s2.1,r5,w64 (s0.2.2-1))))
 (fun j0=>bnd (lfix (Hh r2 r1) (s1,r4)) fun t0=>
 j0 t0))
 (fun j1=>if (r1.length:Int)<=(r2.length:Int) then (bnd (idx r2 (w64 ((r2.length:Int)-1))) fun x2=>
 jn (fun (s3:Int)=>
 bnd (idx r1 (w64 ((r1.length:Int)-1))) fun x3=>
 gd (x3≠0)<|
 if 65536<=(w64 (Int.tdiv s3 x3)) then (j1 65535)
 else (j1 (w64 (Int.tdiv s3 x3))))
 (fun j2=>if (r1.length:Int)<(r2.length:Int) then (bnd (idx r2 (w64 ((r2.length:Int)-2))) fun x4=>
 j2 (w64 ((w64 (x2*65536))+x4)))
 else (j2 x2)))
 else (j1 0)))
 else (some (.inr (s0.1,s0.2.1)))
def Fd(p0:List Int)(p1:List Int):Option (List Int × List Int):=
 bnd (Ec p0 p1) fun r1=>
 if r1<0 then (some (([]:List Int),p0))
 else (if (p1.length:Int)=1 then (bnd (idx p1 0) fun x9=>
 bnd (En p0 x9) fun r0=>
 bnd (Be r0.2) fun r2=>
 some (r0.1,r2.L))
 else (bnd (idx p1 (w64 ((p1.length:Int)-1))) fun x0=>
 gd ((w64 (x0+1))≠0)<|
 bnd (Cq p0 ([w64 (Int.tdiv 65536 (w64 (x0+1)))])) fun r3=>
 bnd (Cq p1 ([w64 (Int.tdiv 65536 (w64 (x0+1)))])) fun r4=>
 gd ((0:Int)<=(w64 ((w64 ((r3.length:Int)-(r4.length:Int)))+1))/\8*Int.toNat (w64 ((w64 ((r3.length:Int)-(r4.length:Int)))+1))<=140737488355328)<|
 gd (0<=(w64 ((w64 ((r3.length:Int)-(r4.length:Int)))+1))/\(w64 ((w64 ((r3.length:Int)-(r4.length:Int)))+1))<=(r3.length:Int))<|
 gd (((([]:List Int)).length+(subl r3 (w64 ((w64 ((r3.length:Int)-(r4.length:Int)))+1)) (r3.length:Int)).length)*8<=140737488355328)<|
 bnd (Bq ((([]:List Int))++(subl r3 (w64 ((w64 ((r3.length:Int)-(r4.length:Int)))+1)) (r3.length:Int)))) fun r5=>
 jn (fun (s0:List Int × List Int)=>
 bnd (idx ([w64 (Int.tdiv 65536 (w64 (x0+1)))]) 0) fun x1=>
 bnd (En s0.2 x1) fun r6=>
 bnd (Bq s0.1) fun r7=>
 some (r7,r6.1))
 (fun j0=>bnd (lfix (Dv r3 r4) (List.replicate (Int.toNat (w64 ((w64 ((r3.length:Int)-(r4.length:Int)))+1))) (0:Int),r5,w64 ((r3.length:Int)-(r4.length:Int)))) fun t0=>
 j0 t0)))
def Py  : (List Int × List Int)->Option (Sum (List Int × List Int) (List Int)):=fun s0=>
 if 0<(s0.2.length:Int) then (bnd (Fd s0.1 s0.2) fun r0=>
 some (.inl (s0.2,r0.2)))
 else (some (.inr s0.1))
def Qi(p0:List Int)(p1:List Int):Option (List Int):=
 jn (fun (s2:List Int)=>
 some s2)
 (fun j2=>bnd (lfix Py (p0,p1)) fun t0=>
 j2 t0)
instance(p0:Av):Con (Kd p0) prog 210 (fun _ vs=>vs=[.agg #[iq p0.Lo,iq p0.Hi]]) (fun _ r=>fun v Ln=>v = .bool r/\Ln=[]/\True):=⟨by
 rintro _ _ r rfl hx w hK;unfold Kd at hx;refine CtS ntmps210 results210 ?_;exact au⟩
instance(p0:Av)(p1:Av):Con (Sq p0 p1) prog 143 (fun _ vs=>vs=[.agg #[iq p0.Lo,iq p0.Hi],.agg #[iq p1.Lo,iq p1.Hi]]) (fun _ r=>fun v Ln=>v = .tuple #[iq r.1,iq r.2]/\Ln=[]/\True):=⟨by
 rintro _ _ r rfl hx w hK;unfold Sq at hx;refine CtS ntmps143 results143 ?_;exact au⟩
instance Acm(p0:Int):Con (Be p0) prog 88 (fun _ vs=>vs=[iq p0]) (fun _ r=>fun v Ln=>∃ A0 c0,v = .agg #[.bool r.Neg,.slice A0 r.L.length c0]/\Ln=[.r A0 r.L.length c0 3 1 (r.L.flatMap Ah)]/\True):=⟨by
 rintro _ _ r rfl hx w hK;unfold Be at hx;refine CtS ntmps88 results88 ?_;try (refine pre ?_;intros;rename_i hx)
 refine Bf ?_;try (refine pre ?_;intros;rename_i hx)
 refine Bf ?_;try (refine pre ?_;intros;rename_i hx)
 apply Jr (γ:=Unit) hx [0,2] (fun s3 y3 f=>(3,.int .u64 s3)::f) [0,999] (fun s3 y3 l=>l);exact kk
 ·intro s3 y3 hx;try (refine pre ?_;intros;rename_i hx)
  refine Bf ?_;try (refine pre ?_;intros;rename_i hx)
  apply Jr (γ:=Option Addr × Nat) hx [0,2] (fun s6 y6 f=>(4,.slice y6.1 s6.length y6.2)::f) [0,999] (fun s6 y6 l=>.r y6.1 s6.length y6.2 3 1 (s6.flatMap Ah)::l);exact kk
  ·intro s6 y6 hx;exact au
  ·intro _ hx;try (refine pre ?_;intros;rename_i hx)
   refine Bh 3 1 ?_;apply Lr (γ:=Option Addr × Nat) hx [0,2] (fun s0 y0 f=>(3,.int .u64 s0.1)::(4,.slice y0.1 s0.2.length y0.2)::f) [1,999] (fun s0 y0 l=>.r y0.1 s0.2.length y0.2 3 1 (s0.2.flatMap Ah)::l) (_,_);exact kk;exact sk;intro s0 y0 x0 hx _;unfold Ji at hx;exact au
 ·intro _ hx;exact au⟩
theorem Abv(p0:Int){r:Af}(hx:Be p0=some r)(w:World):CtL prog 88 [iq p0] w fun v Ln=>∃ (A0:Option Addr) (c0:Nat),v = .agg #[.bool r.Neg,.slice A0 r.L.length c0]/\Ln=[.r A0 r.L.length c0 3 1 (r.L.flatMap Ah)]/\True:=(Acm p0).h [] _ _ rfl hx w (fun _ h=>absurd h List.not_mem_nil)
theorem Ht(p0:List Int){K:List Ent}{U0:Option Addr}{E0:Nat}(ha0:Has K U0 p0.length E0 1 Ah p0){r:List Int}(hx:Bq p0=some r)(w:World)(hK:∀ e∈K,Ent.ok w e):CtL prog 211 [.slice U0 p0.length E0] w fun v Ln=>v = .slice U0 r.length E0/\Ln=[]/\Has K U0 r.length E0 1 Ah r/\True:=by
 have ha0':=Has.up0 ha0;refine CtL.mk 21 func211 rfl ntmps211 kr rfl ?_;show T 21 _ [(0,.slice U0 p0.length E0)] _;unfold Bq at hx;refine Y8 ?_;refine Ay (If rfl 3 underlying42) rfl ?_;refine Y3 ?_;refine Tj (γ:=Unit) hx (fun s3 y3=>[(0,.slice U0 p0.length E0),(3,iq s3)]) (fun s3 y3=>[]++[.old w]) (fun s3 y3=>True) (fun s3 y3 hx0 hG0=>?_) (fun j3 hx=>?_)
 ·refine Y4 ?_;obtain⟨h0,hx1⟩:=De hx0;have hs0:=Has.subH ha0' h0.1 h0.2;refine Ay (Aqj rfl rfl Zl h0.1 (by have:=Has.nc ha0';omega)) rfl ?_;refine Y4 ?_;refine Aha (s:=2) (v':=.slice U0 ((subl p0 0 s3).length) E0) rfl (by have hn0:(Int.toNat s3)=(subl p0 0 s3).length:=(Has.len hs0).symm;first | (rw[<- hn0];done) | rfl) ?_;obtain rfl:=Option.some.inj hx1;exact Jc (rs:=[.tmp 2]) results211 (.tmp rfl (.nil)) (Ln:=[]) ⟨rfl,rfl,Has.len' (Has.dn0 hs0),trivial⟩ Fg (by exact .refl)
 ·refine Y ?_;obtain⟨t0,hl0,ho0⟩:=Au hx;refine Lp (σ:=Int) (γ:=Unit) hl0 (fun s0 y0=>[(0,.slice U0 p0.length E0),(3,iq s0)]) (fun s0 y0=>[]++[.old w]) (fun s0 y0=>True) () trivial (by exact .refl) ?_;intro s0 y0 hG1 x0 hx2 ht0;unfold Oj at hx2;refine Y ?_;refine Tj (γ:=Unit) hx2 (fun s7 y7=>[(0,.slice U0 p0.length E0),(3,iq s0),(15,.bool s7)]) (fun s7 y7=>[]++[.old w]) (fun s7 y7=>True) (fun s7 y7 hx3 hG2=>?_) (fun j7 hx2=>?_)
  ·refine Tz (s:=15) rfl (fun h1=>?_) (fun h1=>?_)
   ·have hx4:=Rg h1 hx3;refine Y10 ?_;exact Rp (w64 (s0-1)) () hx4 trivial (by exact .refl)
   ·have hx5:=Vt h1 hx3;refine Y3 ?_;obtain rfl:=Ua ht0 hx5;refine Y2 ?_;exact Mt s0 () ho0 trivial (by exact .refl)
  ·refine Y4 ?_;refine Ti hx2 (s:=8) rfl (fun h2 hx6=>?_) (fun h2 hx7=>?_)
   ·refine Y3 ?_;obtain⟨x1,h3,hx8⟩:=Au hx6;have hw0:=Has.low (E:=[]) ha0' hK;obtain⟨b0,o0,j0,hA0,hj0,hl1,hp0⟩:=Has.at_idx hw0 h3;refine Aa3 rfl rfl rfl (Iv rfl rfl hA0 (j:=j0) hj0 hl1 Zl) rfl ?_;refine Aa3 rfl rfl rfl (Ie rfl hp0 (sb 0) rfl one3) rfl ?_;refine Y3 ?_;exact Mt (decide (x1=0)) () hx8 trivial (by exact .refl)
   ·refine Y8 ?_;exact Mt false () hx7 trivial (by exact .refl)
instance(p0:List Int):ConB (Bq p0) prog 211 (fun K vs=>∃ U0 E0,vs=[.slice U0 p0.length E0]/\Has K U0 p0.length E0 1 Ah p0/\True) (fun K r=>fun v Ln=>∃ A0 c0 e,v = .slice A0 r.length c0/\Ln=[e]/\Has (K++[e]) A0 r.length c0 1 Ah r/\True):=⟨by
 rintro K _ r ⟨U0,E0,rfl,ha0,-⟩ hx w hK;exact CtL.bunB (Ht p0 ha0 hx w hK) (by
  rintro _ _ w1 hw ⟨rfl,rfl,_,-⟩;exact⟨_,_,_,rfl,rfl,hZ hw,trivial⟩)⟩
instance(p0:List Int):TrI (Bq p0) prog 211 Ah 1 p0:=⟨fun _ h=>⟨Yl h,fun _ _ _ hs w hK=>Ht p0 hs h w hK⟩⟩
instance Zz(p0:List Int)(p1:List Int):Con (Ec p0 p1) prog 213 (fun K vs=>∃ U0 E0 U1 E1,vs=[.slice U0 p0.length E0,.slice U1 p1.length E1]/\Has K U0 p0.length E0 1 Ah p0/\Has K U1 p1.length E1 1 Ah p1/\True) (fun _ r=>fun v Ln=>v = iq r/\Ln=[]/\True):=⟨by
 rintro K _ r ⟨U0,E0,U1,E1,rfl,ha0,ha1,-⟩ hx w hK;replace ha0:=Has.lo ha0 hK;replace ha1:=Has.lo ha1 hK;unfold Ec at hx;have:=dl 8 [0,0,0,1,0,0,0,1,0] [0,1,2,3,4,5,6,7,8];have:=dl 9 [0,0,0,1,0,0,0,1,0] [0,1,2,3,4,5,6,7,8];refine CtS ntmps213 results213 ?_;try (refine pre ?_;intros;rename_i hx)
 refine Cq2 (s:=10) hx rfl (fun _ hx=>?_) (fun _ hx=>?_)
 ·exact au
 ·try (refine pre ?_;intros;rename_i hx)
  apply Jr (γ:=Unit) hx [] (fun s8 y8 f=>f) [999] (fun s8 y8 l=>l);exact kk
  ·intro s8 y8 hx;exact au
  ·intro _ hx;try (refine pre ?_;intros;rename_i hx)
   apply Lr (γ:=Unit) hx [0,1] (fun s61 y61 f=>(5,iq s61)::f) [999] (fun s61 y61 l=>l) ();exact kk;exact sk;intro s61 y61 x61 hx _;unfold Lk at hx;exact au⟩
theorem Tk(p0:List Int)(p1:List Int){K:List Ent}{U0:Option Addr}{E0:Nat}{U1:Option Addr}{E1:Nat}(ha0:Has K U0 p0.length E0 1 Ah p0)(ha1:Has K U1 p1.length E1 1 Ah p1){r:Int}(hx:Ec p0 p1=some r)(w:World)(hK:∀ e∈K,Ent.ok w e):CtL prog 213 [.slice U0 p0.length E0,.slice U1 p1.length E1] w fun v Ln=>v = iq r/\Ln=[]/\True:=(Zz p0 p1).h K _ _ ⟨_,_,_,_,rfl,ha0,ha1,trivial⟩ hx w hK
instance Adf(p0:List Int)(p1:List Int):Con (Hc p0 p1) prog 212 (fun K vs=>∃ U0 E0 U1 E1,vs=[.slice U0 p0.length E0,.slice U1 p1.length E1]/\Has K U0 p0.length E0 1 Ah p0/\Has K U1 p1.length E1 1 Ah p1/\True) (fun _ r=>fun v Ln=>∃ A0 c0,v = .slice A0 r.length c0/\Ln=[.r A0 r.length c0 3 1 (r.flatMap Ah)]/\True):=⟨by
 rintro K _ r ⟨U0,E0,U1,E1,rfl,ha0,ha1,-⟩ hx w hK;replace ha0:=Has.lo ha0 hK;replace ha1:=Has.lo ha1 hK;unfold Hc at hx;refine CtS ntmps212 results212 ?_;try (refine pre ?_;intros;rename_i hx)
 refine Bf ?_;try (refine pre ?_;intros;rename_i hx)
 refine Bf ?_;try (refine pre ?_;intros;rename_i hx)
 refine Bf ?_;try (refine pre ?_;intros;rename_i hx)
 apply Jr (γ:=Option Addr × Nat) hx [] (fun s4 y4 f=>(5,.slice y4.1 s4.length y4.2)::f) [999] (fun s4 y4 l=>.r y4.1 s4.length y4.2 3 1 (s4.flatMap Ah)::l);exact kk
 ·intro s4 y4 hx;exact au
 ·intro _ hx;try (refine pre ?_;intros;rename_i hx)
  refine Bh 3 1 ?_;apply Lr (γ:=Option Addr × Nat) hx [0,1] (fun s0 y0 f=>(5,.slice y0.1 s0.1.length y0.2)::(6,iq s0.2.1)::(7,iq s0.2.2)::f) [999] (fun s0 y0 l=>.r y0.1 s0.1.length y0.2 3 1 (s0.1.flatMap Ah)::l) (_,_);exact kk;exact sk;intro s0 y0 x0 hx _;unfold Hr at hx;try (refine pre ?_;intros;rename_i hx)
  refine Bf ?_;try (refine pre ?_;intros;rename_i hx)
  apply Jr (γ:=Unit) hx [0,1,5,6,7] (fun s1 y1 f=>(22,.bool s1)::f) [0,999] (fun s1 y1 l=>l);exact kk
  ·intro s1 y1 hx;refine Cq3 (s:=22) hx rfl (fun _ hx=>?_) (fun _ hx=>?_)
   ·try (refine pre ?_;intros;rename_i hx)
    refine Bf ?_;try (refine pre ?_;intros;rename_i hx)
    refine Bf ?_;try (refine pre ?_;intros;rename_i hx)
    apply Jr (γ:=Unit) hx [0,1,5,7] (fun s2 y2 f=>(8,iq s2)::f) [0,999] (fun s2 y2 l=>l);exact kk
    ·intro s2 y2 hx;exact au
    ·intro _ hx;exact au
   ·exact au
  ·intro _ hx;exact au⟩
theorem Acn(p0:List Int)(p1:List Int){K:List Ent}{U0:Option Addr}{E0:Nat}{U1:Option Addr}{E1:Nat}(ha0:Has K U0 p0.length E0 1 Ah p0)(ha1:Has K U1 p1.length E1 1 Ah p1){r:List Int}(hx:Hc p0 p1=some r)(w:World)(hK:∀ e∈K,Ent.ok w e):CtL prog 212 [.slice U0 p0.length E0,.slice U1 p1.length E1] w fun v Ln=>∃ (A0:Option Addr) (c0:Nat),v = .slice A0 r.length c0/\Ln=[.r A0 r.length c0 3 1 (r.flatMap Ah)]/\True:=(Adf p0 p1).h K _ _ ⟨_,_,_,_,rfl,ha0,ha1,trivial⟩ hx w hK
instance Adg(p0:List Int)(p1:List Int):Con (Eh p0 p1) prog 214 (fun K vs=>∃ U0 E0 U1 E1,vs=[.slice U0 p0.length E0,.slice U1 p1.length E1]/\Has K U0 p0.length E0 1 Ah p0/\Has K U1 p1.length E1 1 Ah p1/\True) (fun _ r=>fun v Ln=>∃ A0 c0,v = .slice A0 r.length c0/\Ln=[.r A0 r.length c0 3 1 (r.flatMap Ah)]/\True):=⟨by
 rintro K _ r ⟨U0,E0,U1,E1,rfl,ha0,ha1,-⟩ hx w hK;replace ha0:=Has.lo ha0 hK;replace ha1:=Has.lo ha1 hK;unfold Eh at hx;refine CtS ntmps214 results214 ?_;try (refine pre ?_;intros;rename_i hx)
 refine Bf ?_;try (refine pre ?_;intros;rename_i hx)
 refine Bf ?_;try (refine pre ?_;intros;rename_i hx)
 refine Bf ?_;try (refine pre ?_;intros;rename_i hx)
 apply Jr (γ:=Option Addr × Nat) hx [] (fun s4 y4 f=>(5,.slice y4.1 s4.length y4.2)::f) [999] (fun s4 y4 l=>.r y4.1 s4.length y4.2 3 1 (s4.flatMap Ah)::l);exact kk
 ·intro s4 y4 hx;exact au
 ·intro _ hx;try (refine pre ?_;intros;rename_i hx)
  refine Bh 3 1 ?_;apply Lr (γ:=Option Addr × Nat) hx [0,1] (fun s0 y0 f=>(5,.slice y0.1 s0.1.length y0.2)::(6,iq s0.2.1)::(7,iq s0.2.2)::f) [999] (fun s0 y0 l=>.r y0.1 s0.1.length y0.2 3 1 (s0.1.flatMap Ah)::l) (_,_);exact kk;exact sk;intro s0 y0 x0 hx _;unfold Fu at hx;try (refine pre ?_;intros;rename_i hx)
  refine Cq1 (s:=12) hx rfl (fun _ hx=>?_) (fun _ hx=>?_)
  ·try (refine pre ?_;intros;rename_i hx)
   apply Jr (γ:=Unit) hx [0,1,5,7] (fun s1 y1 f=>(8,iq s1)::f) [0,999] (fun s1 y1 l=>l);exact kk
   ·intro s1 y1 hx;exact au
   ·intro _ hx;exact au
  ·exact au⟩
theorem Vn(p0:List Int)(p1:List Int){K:List Ent}{U0:Option Addr}{E0:Nat}{U1:Option Addr}{E1:Nat}(ha0:Has K U0 p0.length E0 1 Ah p0)(ha1:Has K U1 p1.length E1 1 Ah p1){r:List Int}(hx:Eh p0 p1=some r)(w:World)(hK:∀ e∈K,Ent.ok w e):CtL prog 214 [.slice U0 p0.length E0,.slice U1 p1.length E1] w fun v Ln=>∃ (A0:Option Addr) (c0:Nat),v = .slice A0 r.length c0/\Ln=[.r A0 r.length c0 3 1 (r.flatMap Ah)]/\True:=(Adg p0 p1).h K _ _ ⟨_,_,_,_,rfl,ha0,ha1,trivial⟩ hx w hK
instance Aco(p0:List Int)(p1:List Int):Con (Cq p0 p1) prog 144 (fun K vs=>∃ U0 E0 U1 E1,vs=[.slice U0 p0.length E0,.slice U1 p1.length E1]/\Has K U0 p0.length E0 1 Ah p0/\Has K U1 p1.length E1 1 Ah p1/\True) (fun _ r=>fun v Ln=>∃ A0 c0,v = .slice A0 r.length c0/\Ln=[.r A0 r.length c0 3 1 (r.flatMap Ah)]/\True):=⟨by
 rintro K _ r ⟨U0,E0,U1,E1,rfl,ha0,ha1,-⟩ hx w hK;replace ha0:=Has.lo ha0 hK;replace ha1:=Has.lo ha1 hK;unfold Cq at hx;have:=dl 9 [0,0,0,1,0,0,0,1,0,0,0,0,0,0,1,0,0,0,2] [0,1,2,3,4,5,6,7,8,9,10,11,12,13,14,15,16,17,18];refine CtS ntmps144 results144 ?_;try (refine pre ?_;intros;rename_i hx)
 apply Jr (γ:=Option Addr × Nat) hx [] (fun s3 y3 f=>(5,.slice y3.1 s3.length y3.2)::f) [999] (fun s3 y3 l=>.r y3.1 s3.length y3.2 3 1 (s3.flatMap Ah)::l);exact kk
 ·intro s3 y3 hx;exact au
 ·intro _ hx;try (refine pre ?_;intros;rename_i hx)
  apply Lr (γ:=Option Addr × Nat) hx [0,1] (fun s0 y0 f=>(5,.slice y0.1 s0.1.length y0.2)::(6,iq s0.2)::f) [999] (fun s0 y0 l=>.r y0.1 s0.1.length y0.2 3 1 (s0.1.flatMap Ah)::l) (_,_);exact kk;exact sk;intro s0 y0 x0 hx _;unfold Gu at hx;try (refine pre ?_;intros;rename_i hx)
  refine Cq1 (s:=19) hx rfl (fun _ hx=>?_) (fun _ hx=>?_)
  ·try (refine pre ?_;intros;rename_i hx)
   refine Bf ?_;try (refine pre ?_;intros;rename_i hx)
   refine Bf ?_;try (refine pre ?_;intros;rename_i hx)
   apply Jr (γ:=Option Addr × Nat) hx [0,1,6] (fun s1 y1 f=>(5,.slice y1.1 s1.1.length y1.2)::(7,iq s1.2)::f) [999] (fun s1 y1 l=>.r y1.1 s1.1.length y1.2 3 1 (s1.1.flatMap Ah)::l);exact kk
   ·intro s1 y1 hx;exact au
   ·intro _ hx;try (refine pre ?_;intros;rename_i hx)
    apply Lr (γ:=Option Addr × Nat) hx [0,1,6] (fun s2 y2 f=>(5,.slice y2.1 s2.1.length y2.2)::(7,iq s2.2.1)::(8,iq s2.2.2)::f) [999] (fun s2 y2 l=>.r y2.1 s2.1.length y2.2 3 1 (s2.1.flatMap Ah)::l) (_,_);exact kk;exact sk;intro s2 y2 x1 hx _;unfold Gt at hx;exact au
  ·exact au⟩
theorem Rh(p0:List Int)(p1:List Int){K:List Ent}{U0:Option Addr}{E0:Nat}{U1:Option Addr}{E1:Nat}(ha0:Has K U0 p0.length E0 1 Ah p0)(ha1:Has K U1 p1.length E1 1 Ah p1){r:List Int}(hx:Cq p0 p1=some r)(w:World)(hK:∀ e∈K,Ent.ok w e):CtL prog 144 [.slice U0 p0.length E0,.slice U1 p1.length E1] w fun v Ln=>∃ (A0:Option Addr) (c0:Nat),v = .slice A0 r.length c0/\Ln=[.r A0 r.length c0 3 1 (r.flatMap Ah)]/\True:=(Aco p0 p1).h K _ _ ⟨_,_,_,_,rfl,ha0,ha1,trivial⟩ hx w hK
instance Acp(p0:List Int)(p1:Int):Con (En p0 p1) prog 320 (fun K vs=>∃ U0 E0,vs=[.slice U0 p0.length E0,iq p1]/\Has K U0 p0.length E0 1 Ah p0/\True) (fun _ r=>fun v Ln=>∃ A0 c0,v = .tuple #[.slice A0 r.1.length c0,iq r.2]/\Ln=[.r A0 r.1.length c0 3 1 (r.1.flatMap Ah)]/\True):=⟨by
 rintro K _ r ⟨U0,E0,rfl,ha0,-⟩ hx w hK;replace ha0:=Has.lo ha0 hK;unfold En at hx;refine CtS ntmps320 results320 ?_;try (refine pre ?_;intros;rename_i hx)
 refine Bf ?_;try (refine pre ?_;intros;rename_i hx)
 apply Jr (γ:=Option Addr × Nat) hx [] (fun s4 y4 f=>(6,.slice y4.1 s4.1.length y4.2)::(7,iq s4.2)::f) [999] (fun s4 y4 l=>.r y4.1 s4.1.length y4.2 3 1 (s4.1.flatMap Ah)::l);exact kk
 ·intro s4 y4 hx;exact au
 ·intro _ hx;try (refine pre ?_;intros;rename_i hx)
  apply Lr (γ:=Option Addr × Nat) hx [0,1] (fun s0 y0 f=>(6,.slice y0.1 s0.1.length y0.2)::(7,iq s0.2.1)::(8,iq s0.2.2)::f) [999] (fun s0 y0 l=>.r y0.1 s0.1.length y0.2 3 1 (s0.1.flatMap Ah)::l) (_,_);exact kk;exact sk;intro s0 y0 x0 hx _;unfold Ng at hx;exact au⟩
theorem Ul(p0:List Int)(p1:Int){K:List Ent}{U0:Option Addr}{E0:Nat}(ha0:Has K U0 p0.length E0 1 Ah p0){r:List Int × Int}(hx:En p0 p1=some r)(w:World)(hK:∀ e∈K,Ent.ok w e):CtL prog 320 [.slice U0 p0.length E0,iq p1] w fun v Ln=>∃ (A0:Option Addr) (c0:Nat),v = .tuple #[.slice A0 r.1.length c0,iq r.2]/\Ln=[.r A0 r.1.length c0 3 1 (r.1.flatMap Ah)]/\True:=(Acp p0 p1).h K _ _ ⟨_,_,rfl,ha0,trivial⟩ hx w hK
theorem Mi(p0:List Int)(p1:List Int){K:List Ent}{U0:Option Addr}{E0:Nat}{U1:Option Addr}{E1:Nat}(ha0:Has K U0 p0.length E0 1 Ah p0)(ha1:Has K U1 p1.length E1 1 Ah p1){r:List Int × List Int}(hx:Fd p0 p1=some r)(w:World)(hK:∀ e∈K,Ent.ok w e):CtL prog 303 [.slice U0 p0.length E0,.slice U1 p1.length E1] w fun v Ln=>∃ (A0:Option Addr) (c0:Nat) (A2:Option Addr) (c2:Nat) (e0:Ent),v = .tuple #[.slice A0 r.1.length c0,.slice A2 r.2.length c2]/\Ln=[.r A0 r.1.length c0 3 1 (r.1.flatMap Ah),e0]/\Has (K++[e0]) A2 r.2.length c2 1 Ah r.2/\True:=by
 have ha0':=Has.up0 ha0;have ha1':=Has.up0 ha1;refine CtL.mk 156 func303 rfl ntmps303 kr rfl ?_;show T 156 _ [(0,.slice U0 p0.length E0),(1,.slice U1 p1.length E1)] _;unfold Fd at hx;refine Y11 ?_;obtain⟨r1,h2,hx3⟩:=Au hx;refine Tc (fun w1 hw1=>Tk p0 p1 (Has.len' ha0') (Has.len' ha1') h2 w1 (Xq (K:=K) (K2:=[]) hK (by exact (sb 0)) (by exact SubE.nil) hw1)) ?_;refine Y3 ?_;refine Ti hx3 (s:=22) rfl (fun h4 hx5=>?_) (fun h4 hx6=>?_)
 ·refine Y10 ?_;refine Bh 3 1 ?_;refine Bh 0 1 ?_;obtain rfl:=Option.some.inj hx5;exact Jc (rs:=[.tmp 4,.tmp 5]) results303 (.tmp rfl (.tmp rfl (.nil))) (Ln:=[.r none 0 0 3 1 ((([]:List Int)).flatMap Ah),.r none 0 0 0 1 []]) ⟨none,0,U0,E0,(.r none 0 0 0 1 []),rfl,rfl,Has.len' (Has.up (L:=(K++[.r none 0 0 0 1 []])) ha0' (SubE.app2 SubE.nil)),trivial⟩ (Br rfl (Br rfl Fg)) (by exact .pick 1 rfl (.pick 0 rfl (.refl)))
 ·refine Y7 ?_;refine Ay (If rfl 3 underlying42) rfl ?_;refine Y3 ?_;refine Ti hx6 (s:=26) rfl (fun h7 hx8=>?_) (fun h7 hx0=>?_)
  ·refine Y5 ?_;obtain⟨x9,h0,hx1⟩:=Au hx8;have hw0:=Has.low (E:=[]) ha1' hK;obtain⟨b0,o0,j0,hA0,hj0,hl0,hp0⟩:=Has.at_idx hw0 h0;refine Ay (Iv rfl rfl hA0 (j:=j0) hj0 hl0 Zl) rfl ?_;refine Ay (Ie rfl hp0 (sb 0) rfl one3) rfl ?_;obtain⟨r0,h1,hx2⟩:=Au hx1;refine T_x (Ch rfl (fun w1 hw1=>Ul p0 x9 (Has.len' ha0') h1 w1 (Xq (K:=K) (K2:=[]) hK (by exact (sb 0)) (by exact SubE.nil) hw1)) rfl ?_);rintro _ _ hlo ⟨A1,c1,rfl,rfl,-⟩;refine My ?_;refine Y11 ?_;obtain⟨r2,h3,hx4⟩:=Au hx2;refine T_x (Ch rfl (fun w1 hw1=>Abv r0.2  h3 w1) rfl ?_);rintro _ _ hlo ⟨A3,c3,rfl,rfl,-⟩;refine My ?_;refine Ay (Ai5 rfl (Ake _ _ _ _)) rfl ?_;refine Y6 ?_;refine Kv (k:=0) rfl dD (fun _=>rfl) (fun hn0 hs0=>?_);obtain rfl:=Option.some.inj hx4;exact Jc (rs:=[.tmp 4,.tmp 5]) results303 (.tmp rfl (.tmp rfl (.nil))) (Ln:=[.r A1 r0.1.length c1 3 1 (r0.1.flatMap Ah),.r A3 r2.L.length c3 3 1 (r2.L.flatMap Ah)]) ⟨A1,c1,A3,c3,(.r A3 r2.L.length c3 3 1 (r2.L.flatMap Ah)),rfl,rfl,Has.len' (Has.up (L:=(K++[.r A3 r2.L.length c3 3 1 (r2.L.flatMap Ah)])) hs0 (SubE.appR2 (sb 0))),trivial⟩ (Br rfl (Br rfl Fg)) (by exact .pick 1 rfl (.pick 0 rfl (.refl)))
  ·refine Y7 ?_;refine Ay (If rfl 3 underlying42) rfl ?_;refine Y ?_;obtain⟨x0,h5,hx7⟩:=Au hx0;have hw2:=Has.low (E:=[]) ha1' hK;obtain⟨b1,o1,j1,hA1,hj1,hl1,hp1⟩:=Has.at_idx hw2 h5;refine Ay (Iv rfl rfl hA1 (j:=j1) hj1 hl1 Zl) rfl ?_;refine Ay (Ie rfl hp1 (sb 0) rfl one3) rfl ?_;refine Y ?_;obtain⟨h6,hx9⟩:=De hx7;refine Ay (Acs rfl rfl h6) rfl ?_;refine T_x (Ck rfl (Oo _) rfl (fun g0=>?_));refine Y7 ?_;have hs1:Has [.m g0 3 [iq (w64 (Int.tdiv 65536 (w64 (x0+1))))]] (some ⟨g0,0,none⟩) 1 1 1 Ah [w64 (Int.tdiv 65536 (w64 (x0+1)))]:=Has.ofM (fun _ _=>rfl) rfl dD rfl;obtain⟨r3,h8,hx50⟩:=Au hx9;refine T_x (Ch rfl (fun w1 hw1=>Rh p0 ([w64 (Int.tdiv 65536 (w64 (x0+1)))]) (Has.len' (Has.up (L:=(K++[.m g0 3 [iq (w64 (Int.tdiv 65536 (w64 (x0+1))))]])) ha0' (SubE.app2 SubE.nil))) (Has.len' (Has.up (L:=(K++[.m g0 3 [iq (w64 (Int.tdiv 65536 (w64 (x0+1))))]])) hs1 (SubE.appR2 (sb 0)))) h8 w1 (Xq (K:=K) (K2:=[.m g0 3 [iq (w64 (Int.tdiv 65536 (w64 (x0+1))))]]) hK (by exact (sb 1)) (by exact (sb 0)) hw1)) rfl ?_);rintro _ _ hlo ⟨A4,c4,rfl,rfl,-⟩;refine My ?_;refine Y2 ?_;have hs2:Has [.m g0 3 [iq (w64 (Int.tdiv 65536 (w64 (x0+1))))]] (some ⟨g0,0,none⟩) 1 1 1 Ah [w64 (Int.tdiv 65536 (w64 (x0+1)))]:=Has.ofM (fun _ _=>rfl) rfl dD rfl;obtain⟨r4,h9,hx56⟩:=Au hx50;refine T_x (Ch rfl (fun w1 hw1=>Rh p1 ([w64 (Int.tdiv 65536 (w64 (x0+1)))]) (Has.len' (Has.up (L:=(K++[.m g0 3 [iq (w64 (Int.tdiv 65536 (w64 (x0+1))))]])) ha1' (SubE.app2 SubE.nil))) (Has.len' (Has.up (L:=(K++[.m g0 3 [iq (w64 (Int.tdiv 65536 (w64 (x0+1))))]])) hs2 (SubE.appR2 (sb 0)))) h9 w1 (Xq (K:=K) (K2:=[.m g0 3 [iq (w64 (Int.tdiv 65536 (w64 (x0+1))))]]) hK (by exact (sb 2)) (by exact (sb 1)) hw1)) rfl ?_);rintro _ _ hlo ⟨A5,c5,rfl,rfl,-⟩;refine My ?_;refine Y7 ?_;refine Ay (If rfl 3 underlying42) rfl ?_;refine Y ?_;refine Ay (If rfl 3 underlying42) rfl ?_;refine Y2 ?_;obtain⟨h60,hx61⟩:=De hx56;refine T_x (Au6 Ah 0 (z:=iq 0) rfl rfl rfl h60.1 underlying42 (show prog.info? 3=some Tryz.t3 from by kernel_rfl) kr rfl rfl kr (show 8*_<=_ from h60.2) dD rfl (fun A6=>?_));refine Y5 ?_;refine T_x (Ck rfl Aun rfl (fun g1=>?_));refine Y2 ?_;refine Ay (If rfl 3 underlying42) rfl ?_;refine Y ?_;refine Ay (If rfl 3 underlying42) rfl ?_;refine Y2 ?_;refine Kv (k:=3) rfl dD (fun _=>rfl) (fun hn1 hs3=>?_);obtain⟨h66,hx67⟩:=De hx61;have hs4:=Has.subL hs3 h66.1 h66.2;refine Ay (Akq rfl rfl Zl h66.1 h66.2) rfl ?_;refine T_mr (enc:=Ah) (sz:=1) (([]:List Int)) (.here) rfl rfl (fun _=>rfl) dD ?_;obtain⟨h68,hx69⟩:=De hx67;refine T_h (Acq Ah (([]:List Int)) (subl r3 (w64 ((w64 ((r3.length:Int)-(r4.length:Int)))+1)) (r3.length:Int)) rfl rfl Ane (fun _=>rfl) hs4 (sb 3) (fun _=>rfl) h68 rfl (fun _ _=>.here) dD (fun A7 c6=>?_));refine Kv (k:=0) rfl dD (fun _=>rfl) (fun hn2 hs5=>?_);obtain⟨r5,h75,hx76⟩:=Au hx69;refine T_x (Ch rfl (fun w1 hw1=>Ht ((([]:List Int))++(subl r3 (w64 ((w64 ((r3.length:Int)-(r4.length:Int)))+1)) (r3.length:Int))) (Has.len' hs5) h75 w1 (Um (K:=([.r A7 (((([]:List Int))++(subl r3 (w64 ((w64 ((r3.length:Int)-(r4.length:Int)))+1)) (r3.length:Int))).length) c6 3 1 (((([]:List Int))++(subl r3 (w64 ((w64 ((r3.length:Int)-(r4.length:Int)))+1)) (r3.length:Int))).flatMap Ah)]:List Ent)) (by exact (sb 0)) hw1)) rfl ?_);rintro _ _ hlo ⟨rfl,rfl,hs6,-⟩;refine Acw ?_;refine Af4 (r:=r5) (Yl h75) (.here) dD (fun _=>rfl) ?_;refine Y3 ?_;refine Tj (γ:=Option Addr × Nat × Option Addr × Nat) hx76 (fun s0 y0=>[(8,.slice (some ⟨g0,0,none⟩) 1 1),(11,.slice y0.1 s0.1.length y0.2.1),(12,.slice y0.2.2.1 s0.2.length y0.2.2.2)]) (fun s0 y0=>[.r y0.2.2.1 s0.2.length y0.2.2.2 3 1 (s0.2.flatMap Ah),.r y0.1 s0.1.length y0.2.1 3 1 (s0.1.flatMap Ah),.r (some ⟨g0,0,none⟩) 1 1 3 1 (([w64 (Int.tdiv 65536 (w64 (x0+1)))]).flatMap Ah)]++[.old w]) (fun s0 y0=>True) (fun s0 y0 hx10 hG0=>?_) (fun j2 hx76=>?_)
   ·refine Y4 ?_;obtain⟨x1,h11,hx12⟩:=Au hx10;refine Aaj (k:=2) rfl dD (fun _=>rfl) h11 (fun b2 j3 hA2 hj2 hl2 hm0 hp2=>?_);refine Ay (Iv rfl rfl hA2 (j:=j3) hj2 hl2 Zl) rfl ?_;refine Ay (Ie rfl hp2 (sb 2) rfl one3) rfl ?_;refine Kv (k:=0) rfl dD (fun _=>rfl) (fun hn3 hs7=>?_);obtain⟨r6,h12,hx13⟩:=Au hx12;refine T_x (Ch rfl (fun w1 hw1=>Ul s0.2 x1 (Has.len' hs7) h12 w1 (Um (K:=([.r y0.2.2.1 s0.2.length y0.2.2.2 3 1 (s0.2.flatMap Ah)]:List Ent)) (by exact (sb 0)) hw1)) rfl ?_);rintro _ _ hlo ⟨A8,c7,rfl,rfl,-⟩;refine My ?_;refine Y10 ?_;refine Kv (k:=2) rfl dD (fun _=>rfl) (fun hn4 hs8=>?_);obtain⟨r7,h13,hx14⟩:=Au hx13;refine T_x (Ch rfl (fun w1 hw1=>Ht s0.1 (Has.len' hs8) h13 w1 (Um (K:=([.r y0.1 s0.1.length y0.2.1 3 1 (s0.1.flatMap Ah)]:List Ent)) (by exact (sb 2)) hw1)) rfl ?_);rintro _ _ hlo ⟨rfl,rfl,hs9,-⟩;refine Acw ?_;refine Af4 (r:=r7) (Yl h13) (.there (.there (.here))) dD (fun _=>rfl) ?_;refine Y6 ?_;refine Kv (k:=0) rfl dD (fun _=>rfl) (fun hn5 hs10=>?_);obtain rfl:=Option.some.inj hx14;exact Jc (rs:=[.tmp 4,.tmp 5]) results303 (.tmp rfl (.tmp rfl (.nil))) (Ln:=[.r y0.1 r7.length y0.2.1 3 1 (r7.flatMap Ah),.r A8 r6.1.length c7 3 1 (r6.1.flatMap Ah)]) ⟨y0.1,y0.2.1,A8,c7,(.r A8 r6.1.length c7 3 1 (r6.1.flatMap Ah)),rfl,rfl,Has.len' (Has.up (L:=(K++[.r A8 r6.1.length c7 3 1 (r6.1.flatMap Ah)])) hs10 (SubE.appR2 (sb 0))),trivial⟩ (Br rfl (Br rfl Fg)) (by exact .pick 2 rfl (.pick 0 rfl (.drop 0 rfl (.drop 0 rfl (.refl)))))
   ·refine Y3 ?_;refine Ay (If rfl 3 underlying42) rfl ?_;refine Y ?_;refine Ay (If rfl 3 underlying42) rfl ?_;refine Y5 ?_;refine T_mr (enc:=Ah) (sz:=1) ([w64 (Int.tdiv 65536 (w64 (x0+1)))]) (.there (.there (.there (.there (.here))))) rfl rfl (fun _=>rfl) (by show 1<=maxLen;decide) ?_;obtain⟨t0,hl3,ho0⟩:=Au hx76;refine Lp (σ:=List Int × List Int × Int) (γ:=Option Addr × Nat × Option Addr × Nat) hl3 (fun s1 y1=>[(8,.slice (some ⟨g0,0,none⟩) 1 1),(9,.slice A4 r3.length c4),(10,.slice A5 r4.length c5),(11,.slice y1.1 s1.1.length y1.2.1),(12,.slice y1.2.2.1 s1.2.1.length y1.2.2.2),(13,iq s1.2.2)]) (fun s1 y1=>[.r y1.2.2.1 s1.2.1.length y1.2.2.2 3 1 (s1.2.1.flatMap Ah),.r y1.1 s1.1.length y1.2.1 3 1 (s1.1.flatMap Ah),.r A5 r4.length c5 3 1 (r4.flatMap Ah),.r A4 r3.length c4 3 1 (r3.flatMap Ah),.r (some ⟨g0,0,none⟩) 1 1 3 1 (([w64 (Int.tdiv 65536 (w64 (x0+1)))]).flatMap Ah)]++[.old w]) (fun s1 y1=>True) (A6,(List.replicate (Int.toNat (w64 ((w64 ((r3.length:Int)-(r4.length:Int)))+1))) (0:Int)).length,A7,c6) trivial (by exact .pick 0 rfl (.pick 0 rfl (.pick 0 rfl (.pick 0 rfl (.pick 0 rfl (.refl)))))) ?_;intro s1 y1 hG1 x2 hx15 ht0;unfold Dv at hx15;refine Y7 ?_;refine Ti hx15 (s:=78) rfl (fun h14 hx16=>?_) (fun h14 hx17=>?_)
    ·refine Y9 ?_;obtain⟨x3,h15,hx18⟩:=Au hx16;refine Aaj (k:=3) rfl dD (fun _=>rfl) h15 (fun b3 j4 hA3 hj3 hl4 hm1 hp3=>?_);refine Ay (Iv rfl rfl hA3 (j:=j4) hj3 hl4 Zl) rfl ?_;refine Ay (Ie rfl hp3 (sb 3) rfl one3) rfl ?_;refine T_x (Ck rfl (Oo _) rfl (fun g2=>?_));refine Y ?_;refine T_mr (enc:=Ah) (sz:=1) ([x3]) (.here) rfl rfl (fun _=>rfl) (by show 1<=maxLen;decide) ?_;refine Kv (k:=1) rfl dD (fun _=>rfl) (fun hn6 hs11=>?_);obtain⟨h16,hx19⟩:=De hx18;refine T_h (Acq Ah ([x3]) s1.2.1 rfl rfl Ane (fun _=>rfl) hs11 (sb 1) (fun _=>rfl) h16 rfl (fun _ _=>.here) dD (fun A9 c8=>?_));refine Kv (k:=0) rfl dD (fun _=>rfl) (fun hn7 hs12=>?_);obtain⟨r8,h17,hx20⟩:=Au hx19;refine T_x (Ch rfl (fun w1 hw1=>Ht (([x3])++s1.2.1) (Has.len' hs12) h17 w1 (Um (K:=([.r A9 ((([x3])++s1.2.1).length) c8 3 1 ((([x3])++s1.2.1).flatMap Ah)]:List Ent)) (by exact (sb 0)) hw1)) rfl ?_);rintro _ _ hlo ⟨rfl,rfl,hs13,-⟩;refine Acw ?_;refine Af4 (r:=r8) (Yl h17) (.here) dD (fun _=>rfl) ?_;refine Y8 ?_;refine Tj (γ:=Unit) hx20 (fun s2 y2=>[(8,.slice (some ⟨g0,0,none⟩) 1 1),(9,.slice A4 r3.length c4),(10,.slice A5 r4.length c5),(11,.slice y1.1 s1.1.length y1.2.1),(12,.slice A9 r8.length c8),(13,iq s1.2.2),(14,iq s2)]) (fun s2 y2=>[.r A9 r8.length c8 3 1 (r8.flatMap Ah),.r y1.1 s1.1.length y1.2.1 3 1 (s1.1.flatMap Ah),.r A5 r4.length c5 3 1 (r4.flatMap Ah),.r A4 r3.length c4 3 1 (r3.flatMap Ah),.r (some ⟨g0,0,none⟩) 1 1 3 1 (([w64 (Int.tdiv 65536 (w64 (x0+1)))]).flatMap Ah)]++[.old w]) (fun s2 y2=>True) (fun s2 y2 hx21 hG2=>?_) (fun j5 hx20=>?_)
     ·refine Y4 ?_;refine T_x (Ck rfl (Oo _) rfl (fun g3=>?_));have hs14:Has [.m g3 3 [iq s2]] (some ⟨g3,0,none⟩) 1 1 1 Ah [s2]:=Has.ofM (fun _ _=>rfl) rfl dD rfl;obtain⟨r9,h18,hx23⟩:=Au hx21;refine T_x (Ch rfl (fun w1 hw1=>Ht ([s2]) (Has.len' hs14) h18 w1 (Um (K:=([.m g3 3 [iq s2]]:List Ent)) (by exact (sb 0)) hw1)) rfl ?_);rintro _ _ hlo ⟨rfl,rfl,hs15,-⟩;refine Acw ?_;refine Kv (k:=3) rfl dD (fun _=>rfl) (fun hn8 hs16=>?_);obtain⟨r10,h19,hx24⟩:=Au hx23;refine T_x (Ch rfl (fun w1 hw1=>Rh r4 r9 (Has.len' (Has.up (L:=([.r A5 r4.length c5 3 1 (r4.flatMap Ah),.m g3 3 [iq s2]]:List Ent)) hs16 (sb 0))) (Has.len' (Has.up (L:=([.r A5 r4.length c5 3 1 (r4.flatMap Ah),.m g3 3 [iq s2]]:List Ent)) hs15 (sb 1))) h19 w1 (Um (K:=([.r A5 r4.length c5 3 1 (r4.flatMap Ah),.m g3 3 [iq s2]]:List Ent)) (by exact (SubE.cons2 (i:=3) rfl (sb 0))) hw1)) rfl ?_);rintro _ _ hlo ⟨A10,c9,rfl,rfl,-⟩;refine My ?_;refine Y3 ?_;refine Tj (γ:=Option Addr × Nat) hx24 (fun s3 y3=>[(8,.slice (some ⟨g0,0,none⟩) 1 1),(9,.slice A4 r3.length c4),(10,.slice A5 r4.length c5),(11,.slice y1.1 s1.1.length y1.2.1),(12,.slice A9 r8.length c8),(13,iq s1.2.2),(14,iq s3.1),(16,.slice y3.1 s3.2.length y3.2)]) (fun s3 y3=>[.r y3.1 s3.2.length y3.2 3 1 (s3.2.flatMap Ah),.r A9 r8.length c8 3 1 (r8.flatMap Ah),.r y1.1 s1.1.length y1.2.1 3 1 (s1.1.flatMap Ah),.r A5 r4.length c5 3 1 (r4.flatMap Ah),.r A4 r3.length c4 3 1 (r3.flatMap Ah),.r (some ⟨g0,0,none⟩) 1 1 3 1 (([w64 (Int.tdiv 65536 (w64 (x0+1)))]).flatMap Ah)]++[.old w]) (fun s3 y3=>True) (fun s3 y3 hx25 hG3=>?_) (fun j6 hx24=>?_)
      ·refine Y4 ?_;refine Kv (k:=1) rfl dD (fun _=>rfl) (fun hn9 hs17=>?_);refine Kv (k:=0) rfl dD (fun _=>rfl) (fun hn10 hs18=>?_);obtain⟨r11,h20,hx26⟩:=Au hx25;refine T_x (Ch rfl (fun w1 hw1=>Vn r8 s3.2 (Has.len' (Has.up (L:=([.r A9 r8.length c8 3 1 (r8.flatMap Ah),.r y3.1 s3.2.length y3.2 3 1 (s3.2.flatMap Ah)]:List Ent)) hs17 (sb 0))) (Has.len' (Has.up (L:=([.r A9 r8.length c8 3 1 (r8.flatMap Ah),.r y3.1 s3.2.length y3.2 3 1 (s3.2.flatMap Ah)]:List Ent)) hs18 (sb 1))) h20 w1 (Um (K:=([.r A9 r8.length c8 3 1 (r8.flatMap Ah),.r y3.1 s3.2.length y3.2 3 1 (s3.2.flatMap Ah)]:List Ent)) (by exact (SubE.cons2 (i:=1) rfl (sb 0))) hw1)) rfl ?_);rintro _ _ hlo ⟨A11,c10,rfl,rfl,-⟩;refine My ?_;refine Y7 ?_;obtain⟨x4,h22,hx28⟩:=Au hx26;refine Aaj (k:=3) rfl dD (fun _=>rfl) h22 (fun b4 j7 hA4 hj4 hl5 hm2 hp4=>?_);refine Ay (Iv rfl rfl hA4 (j:=j7) hj4 hl5 Zl) rfl ?_;refine T_h (Ajd Ah s1.1 s1.2.2 s3.1 rfl rfl rfl (.there (.there (.there (.here)))) hA4 rfl hj4 hl5 (fun _=>rfl) dD rfl one3.2 ?_);refine Y8 ?_;have hn11:s1.1.length=(setI s1.1 s1.2.2 s3.1).length:=by simp[Nr,Aba,List.length_append] <;> omega
       refine Afe (.there (.there (.there (.here)))) (e':=.r y1.1 ((setI s1.1 s1.2.2 s3.1).length) y1.2.1 3 1 ((setI s1.1 s1.2.2 s3.1).flatMap Ah)) (by first | (rw[<- hn11];done) | rfl) ?_;refine Aha (s:=11) (v':=.slice y1.1 ((setI s1.1 s1.2.2 s3.1).length) y1.2.1) rfl (by have hn12:s1.1.length=(setI s1.1 s1.2.2 s3.1).length:=(by simp[Nr,Aba,List.length_append] <;> omega);first | (rw[<- hn12];done) | rfl) ?_;exact Rp (setI s1.1 s1.2.2 s3.1,r11,w64 (s1.2.2-1)) (y1.1,y1.2.1,A11,c10) hx28 trivial (by exact .pick 0 rfl (.pick 2 rfl (.pick 2 rfl (.pick 2 rfl (.pick 2 rfl (.drop 0 rfl (.drop 0 rfl (.refl))))))))
      ·refine Y ?_;obtain⟨t1,hl6,ho1⟩:=Au hx24;refine Lp (σ:=Int × List Int) (γ:=Option Addr × Nat) hl6 (fun s4 y4=>[(8,.slice (some ⟨g0,0,none⟩) 1 1),(9,.slice A4 r3.length c4),(10,.slice A5 r4.length c5),(11,.slice y1.1 s1.1.length y1.2.1),(12,.slice A9 r8.length c8),(13,iq s1.2.2),(14,iq s4.1),(16,.slice y4.1 s4.2.length y4.2)]) (fun s4 y4=>[.r y4.1 s4.2.length y4.2 3 1 (s4.2.flatMap Ah),.r A9 r8.length c8 3 1 (r8.flatMap Ah),.r y1.1 s1.1.length y1.2.1 3 1 (s1.1.flatMap Ah),.r A5 r4.length c5 3 1 (r4.flatMap Ah),.r A4 r3.length c4 3 1 (r3.flatMap Ah),.r (some ⟨g0,0,none⟩) 1 1 3 1 (([w64 (Int.tdiv 65536 (w64 (x0+1)))]).flatMap Ah)]++[.old w]) (fun s4 y4=>True) (A10,c9) trivial (by exact .pick 0 rfl (.pick 1 rfl (.pick 1 rfl (.pick 1 rfl (.pick 1 rfl (.pick 1 rfl (.drop 0 rfl (.refl)))))))) ?_;intro s4 y4 hG4 x5 hx29 ht1;unfold Hh at hx29;refine Y5 ?_;refine Kv (k:=0) rfl dD (fun _=>rfl) (fun hn13 hs19=>?_);refine Kv (k:=1) rfl dD (fun _=>rfl) (fun hn14 hs20=>?_);obtain⟨r12,h23,hx30⟩:=Au hx29;refine Tc (fun w1 hw1=>Tk s4.2 r8 (Has.len' (Has.up (L:=([.r y4.1 s4.2.length y4.2 3 1 (s4.2.flatMap Ah),.r A9 r8.length c8 3 1 (r8.flatMap Ah)]:List Ent)) hs19 (sb 0))) (Has.len' (Has.up (L:=([.r y4.1 s4.2.length y4.2 3 1 (s4.2.flatMap Ah),.r A9 r8.length c8 3 1 (r8.flatMap Ah)]:List Ent)) hs20 (sb 1))) h23 w1 (Um (K:=([.r y4.1 s4.2.length y4.2 3 1 (s4.2.flatMap Ah),.r A9 r8.length c8 3 1 (r8.flatMap Ah)]:List Ent)) (by exact (SubE.cons2 (i:=0) rfl (sb 1))) hw1)) ?_;refine Y3 ?_;refine Ti hx30 (s:=132) rfl (fun h24 hx31=>?_) (fun h24 hx33=>?_)
       ·(iterate 14 refine Y ?_);refine Kv (k:=0) rfl dD (fun _=>rfl) (fun hn15 hs21=>?_);refine Kv (k:=3) rfl dD (fun _=>rfl) (fun hn16 hs22=>?_);obtain⟨r13,h25,hx34⟩:=Au hx31;refine T_x (Ch rfl (fun w1 hw1=>Vn s4.2 r4 (Has.len' (Has.up (L:=([.r y4.1 s4.2.length y4.2 3 1 (s4.2.flatMap Ah),.r A5 r4.length c5 3 1 (r4.flatMap Ah)]:List Ent)) hs21 (sb 0))) (Has.len' (Has.up (L:=([.r y4.1 s4.2.length y4.2 3 1 (s4.2.flatMap Ah),.r A5 r4.length c5 3 1 (r4.flatMap Ah)]:List Ent)) hs22 (sb 1))) h25 w1 (Um (K:=([.r y4.1 s4.2.length y4.2 3 1 (s4.2.flatMap Ah),.r A5 r4.length c5 3 1 (r4.flatMap Ah)]:List Ent)) (by exact (SubE.cons2 (i:=0) rfl (sb 3))) hw1)) rfl ?_);rintro _ _ hlo ⟨A12,c11,rfl,rfl,-⟩;refine My ?_;refine Y3 ?_;exact Rp (w64 (s4.1-1),r13) (A12,c11) hx34 trivial (by exact .pick 0 rfl (.pick 1 rfl (.pick 1 rfl (.pick 1 rfl (.pick 1 rfl (.pick 1 rfl (.drop 0 rfl (.refl))))))))
       ·refine Y3 ?_;obtain rfl:=Ua ht1 hx33;refine Y2 ?_;exact Mt (s4.1,s4.2) (y4.1,y4.2) ho1 trivial (by exact .pick 0 rfl (.pick 0 rfl (.pick 0 rfl (.pick 0 rfl (.pick 0 rfl (.pick 0 rfl (.refl)))))))
     ·refine Y3 ?_;refine Ay (If rfl 3 underlying42) rfl ?_;refine Y ?_;refine Ay (If rfl 3 underlying42) rfl ?_;refine Y3 ?_;refine Ti hx20 (s:=93) rfl (fun h27 hx36=>?_) (fun h27 hx37=>?_)
      ·refine Y5 ?_;refine Ay (If rfl 3 underlying42) rfl ?_;refine Y ?_;obtain⟨x6,h28,hx38⟩:=Au hx36;refine Aaj (k:=0) rfl dD (fun _=>rfl) h28 (fun b5 j8 hA5 hj5 hl7 hm3 hp5=>?_);refine Ay (Iv rfl rfl hA5 (j:=j8) hj5 hl7 Zl) rfl ?_;refine Ay (Ie rfl hp5 (sb 0) rfl one3) rfl ?_;refine Y3 ?_;refine Tj (γ:=Unit) hx38 (fun s5 y5=>[(8,.slice (some ⟨g0,0,none⟩) 1 1),(9,.slice A4 r3.length c4),(10,.slice A5 r4.length c5),(11,.slice y1.1 s1.1.length y1.2.1),(12,.slice A9 r8.length c8),(13,iq s1.2.2),(15,iq s5)]) (fun s5 y5=>[.r A9 r8.length c8 3 1 (r8.flatMap Ah),.r y1.1 s1.1.length y1.2.1 3 1 (s1.1.flatMap Ah),.r A5 r4.length c5 3 1 (r4.flatMap Ah),.r A4 r3.length c4 3 1 (r3.flatMap Ah),.r (some ⟨g0,0,none⟩) 1 1 3 1 (([w64 (Int.tdiv 65536 (w64 (x0+1)))]).flatMap Ah)]++[.old w]) (fun s5 y5=>True) (fun s5 y5 hx39 hG5=>?_) (fun j9 hx38=>?_)
       ·refine Y5 ?_;refine Ay (If rfl 3 underlying42) rfl ?_;refine Y ?_;obtain⟨x7,h29,hx40⟩:=Au hx39;refine Aaj (k:=2) rfl dD (fun _=>rfl) h29 (fun b6 j10 hA6 hj6 hl8 hm4 hp6=>?_);refine Ay (Iv rfl rfl hA6 (j:=j10) hj6 hl8 Zl) rfl ?_;refine Ay (Ie rfl hp6 (sb 2) rfl one3) rfl ?_;obtain⟨h30,hx41⟩:=De hx40;refine Ay (Acs rfl rfl h30) rfl ?_;refine Y9 ?_;refine Ti hx41 (s:=123) rfl (fun h31 hx42=>?_) (fun h31 hx43=>?_)
        ·refine Y4 ?_;exact Mt 65535 () hx42 trivial (by exact .pick 0 rfl (.pick 0 rfl (.pick 0 rfl (.pick 0 rfl (.pick 0 rfl (.refl))))))
        ·refine Y2 ?_;exact Mt (w64 (Int.tdiv s5 x7)) () hx43 trivial (by exact .pick 0 rfl (.pick 0 rfl (.pick 0 rfl (.pick 0 rfl (.pick 0 rfl (.refl))))))
       ·refine Y3 ?_;refine Ay (If rfl 3 underlying42) rfl ?_;refine Y ?_;refine Ay (If rfl 3 underlying42) rfl ?_;refine Y3 ?_;refine Ti hx38 (s:=104) rfl (fun h32 hx44=>?_) (fun h32 hx46=>?_)
        ·refine Y6 ?_;refine Ay (If rfl 3 underlying42) rfl ?_;refine Y ?_;obtain⟨x8,h33,hx47⟩:=Au hx44;refine Aaj (k:=0) rfl dD (fun _=>rfl) h33 (fun b7 j11 hA7 hj7 hl9 hm5 hp7=>?_);refine Ay (Iv rfl rfl hA7 (j:=j11) hj7 hl9 Zl) rfl ?_;refine Ay (Ie rfl hp7 (sb 0) rfl one3) rfl ?_;refine Y3 ?_;exact Mt (w64 ((w64 (x6*65536))+x8)) () hx47 trivial (by exact .pick 0 rfl (.pick 1 rfl (.pick 1 rfl (.pick 1 rfl (.pick 1 rfl (.drop 0 rfl (.refl)))))))
        ·refine Y2 ?_;exact Mt x6 () hx46 trivial (by exact .pick 0 rfl (.pick 1 rfl (.pick 1 rfl (.pick 1 rfl (.pick 1 rfl (.drop 0 rfl (.refl)))))))
      ·refine Y2 ?_;exact Mt 0 () hx37 trivial (by exact .pick 0 rfl (.pick 1 rfl (.pick 1 rfl (.pick 1 rfl (.pick 1 rfl (.drop 0 rfl (.refl)))))))
    ·refine Y3 ?_;obtain rfl:=Ua ht0 hx17;refine Y2 ?_;exact Mt (s1.1,s1.2.1) (y1.1,y1.2.1,y1.2.2.1,y1.2.2.2) ho0 trivial (by exact .pick 0 rfl (.pick 0 rfl (.pick 2 rfl (.drop 0 rfl (.drop 0 rfl (.refl))))))
theorem Adh(p0:List Int)(p1:List Int){K:List Ent}{U0:Option Addr}{E0:Nat}{U1:Option Addr}{E1:Nat}(ha0:Has K U0 p0.length E0 1 Ah p0)(ha1:Has K U1 p1.length E1 1 Ah p1){r:List Int}(hx:Qi p0 p1=some r)(w:World)(hK:∀ e∈K,Ent.ok w e):CtL prog 319 [.slice U0 p0.length E0,.slice U1 p1.length E1] w fun v Ln=>∃ (A0:Option Addr) (c0:Nat) (e0:Ent),v = .slice A0 r.length c0/\Ln=[e0]/\Has (K++[e0]) A0 r.length c0 1 Ah r/\True:=by
 have ha0':=Has.up0 ha0;have ha1':=Has.up0 ha1;refine CtL.mk 19 func319 rfl ntmps319 kr rfl ?_;show T 19 _ [(0,.slice U0 p0.length E0),(1,.slice U1 p1.length E1)] _;unfold Qi at hx;refine Y5 ?_;obtain⟨j2,hj2,hx⟩:=Ako hx;refine Aeh (τ:=List Int) (γ:=Option Addr × Nat × Ent) (J:=j2) (out:=r) (fun s2 y2=>[(0,.slice y2.1 s2.length y2.2.1)]) (fun s2 y2=>[y2.2.2]++[.old w]) (fun s2 y2=>y2.2.2.low=0/\Has (K++[y2.2.2]) y2.1 s2.length y2.2.1 1 Ah s2/\True) ?_ ?_
 ·intro s2 y2 hx0 hG0;obtain⟨lo57,hs0,-⟩:=hG0;subst hj2;refine Y7 ?_;obtain rfl:=Option.some.inj hx0;exact Jc (rs:=[.tmp 4]) results319 (.tmp rfl (.nil)) (Ln:=[y2.2.2]) ⟨y2.1,y2.2.1,y2.2.2,rfl,rfl,Has.len' hs0,trivial⟩ (Br lo57 Fg) (by exact .pick 0 rfl (.refl))
 ·skip;refine Y ?_;obtain⟨t0,hl0,ho0⟩:=Au hx;refine Bh 0 1 ?_;refine Lp (σ:=List Int × List Int) (γ:=Option Addr × Nat × Ent × Option Addr × Nat) hl0 (fun s0 y0=>[(0,.slice y0.1 s0.1.length y0.2.1),(1,.slice y0.2.2.2.1 s0.2.length y0.2.2.2.2)]) (fun s0 y0=>[y0.2.2.1]++[.old w]) (fun s0 y0=>y0.2.2.1.low=0/\Has (K++[y0.2.2.1]) y0.1 s0.1.length y0.2.1 1 Ah s0.1/\Has (K++[y0.2.2.1]) y0.2.2.2.1 s0.2.length y0.2.2.2.2 1 Ah s0.2/\True) (U0,E0,.r none 0 0 0 1 [],U1,E1) ((by exact⟨rfl,Has.len' ((Has.up (L:=(K++[.r none 0 0 0 1 []])) ha0' (SubE.app2 SubE.nil))),Has.len' ((Has.up (L:=(K++[.r none 0 0 0 1 []])) ha1' (SubE.app2 SubE.nil))),trivial⟩)) (by exact .pick 0 rfl (.refl)) ?_;intro s0 y0 hG1 x0 hx1 ht0;unfold Py at hx1;obtain⟨lo38,hs1,hs2,-⟩:=hG1;refine Y4 ?_;refine Ay (If rfl 3 underlying42) rfl ?_;refine Y3 ?_;refine Ti hx1 (s:=9) rfl (fun h0 hx2=>?_) (fun h0 hx3=>?_)
  ·refine Y8 ?_;obtain⟨r0,h1,hx4⟩:=Au hx2;refine T_x (Ch rfl (fun w1 hw1=>Mi s0.1 s0.2 (Has.len' hs1) (Has.len' hs2) h1 w1 (Xq (K:=K) (K2:=[y0.2.2.1]) hK (by exact (sb 1)) (by exact (sb 0)) hw1)) rfl ?_);rintro _ _ hlo ⟨A1,c1,A2,c2,e1,rfl,rfl,hs3,-⟩;have lo53:=hlo e1 s_;refine Xb ?_;have hs4:Has (K++[y0.2.2.1,e1]) _ _ _ _ _ _:=Has.assoc hs3;(iterate 14 refine Y ?_);refine Auq (es:=[y0.2.2.1,e1]) (by exact .pick 2 rfl (.pick 1 rfl (.refl))) (Br lo38 (Br lo53 Fg)) ?_;exact Rp (s0.2,r0.2) (y0.2.2.2.1,y0.2.2.2.2,bun [y0.2.2.1,e1],A2,c2) hx4 ((by exact⟨rfl,Has.len' ((Has.up (L:=(K++[(bun [y0.2.2.1,e1])])) hs2 (SubE.app2 (SubE.consB (i:=0) (j:=0) rfl rfl SubE.nil)))),Has.len' ((Has.up (L:=(K++[(bun [y0.2.2.1,e1])])) hs4 (SubE.app2 (SubE.consB (i:=0) (j:=0) rfl rfl (SubE.consB (i:=0) (j:=1) rfl rfl SubE.nil))))),trivial⟩)) (by exact .pick 0 rfl (.drop 0 rfl (.refl)))
  ·refine Y3 ?_;obtain rfl:=Ua ht0 hx3;refine Y2 ?_;exact Mt s0.1 (y0.1,y0.2.1,y0.2.2.1) ho0 ((by exact⟨lo38,Has.len' hs1,trivial⟩)) (by exact .pick 0 rfl (.refl))
end
end Go.Proofs.YthlkpgdfifnagaaGreat
