import Derived.Test.YthlkpgdfifnagaaGreatY8
set_option maxRecDepth 100000
set_option maxHeartbeats 1000000
namespace Go.Proofs.YthlkpgdfifnagaaGreat
open Go Go.RowKit Tryz
noncomputable section
theorem Ayz:Qw prog 117 [.bool false,.slice none 0 0]:=⟨_,zeroValue117,rfl⟩
instance:Ud prog 117 [.bool false,.slice none 0 0]:=⟨Ayz⟩
theorem Wm(x0:Bool)(x1:Option Addr)(x2:Nat)(x3:Nat):Vv prog 117 [(0,.bool x0),(1,.slice x1 x2 x3)] [.bool x0,.slice x1 x2 x3]:=fun w=>kr
instance(x0:Bool)(x1:Option Addr)(x2:Nat)(x3:Nat):Je prog 117 [(0,.bool x0),(1,.slice x1 x2 x3)] [.bool x0,.slice x1 x2 x3]:=⟨Wm _ _ _ _⟩
theorem Akh:Rj prog 117 2:=.mk underlying117 rfl (show prog.info? 117=some t117 from by kernel_rfl) kr
instance:AggI prog 117 2:=⟨Akh⟩
theorem Anq(x0:Bool)(x1:Option Addr)(x2:Nat)(x3:Nat):Aqq prog 117 [.bool x0,.slice x1 x2 x3] 1 (.slice x1 x2 x3):=fun w=>kr
def Kr(p0:Aw):Option Bool :=
 jn (fun (s2:Bool)=>
 some s2)
 (fun j2=>if (-1152921504606846976)<=p0.Lo then (if p0.Lo<=p0.Hi then (j2 (decide (p0.Hi<=1152921504606846976)))
 else (j2 false))
 else (j2 false))
def Vd(p0:Aw)(p1:Aw):Option (Int × Int):=
 jn (fun (s3:Bool)=>
 if s3=true then (some (0,2))
 else (some (max 0 (w64 ((max p0.Lo p1.Lo)-(min p0.Hi p1.Hi))),0)))
 (fun j3=>bnd (Kr p0) fun r3=>
 if r3=true then (bnd (Kr p1) fun r9=>
 j3 (!(r9)))
 else (j3 true))
def Jt  : (Int × List Int)->Option (Sum (Int × List Int) (List Int)):=fun s0=>
 if 0<s0.1 then (gd ((s0.2.length+1)*8<=140737488355328)<|
 some (.inl (wu64 (Int.tdiv s0.1 65536),s0.2++[w64 (Int.tmod s0.1 65536)])))
 else (some (.inr s0.2))
def Ic(p0:Int):Option Aj :=
 jn (fun (s3:Int)=>
 jn (fun (s6:List Int)=>
 some (⟨decide (p0<0),s6⟩:Aj))
 (fun j6=>bnd (lfix Jt (s3,([]:List Int))) fun t0=>
 j6 t0))
 (fun j3=>if p0<0 then (j3 (wu64 (-(wu64 p0))))
 else (j3 (wu64 p0)))
def Ps(p0:List Int):Int->Option (Sum Int Int):=fun s0=>
 jn (fun (s7:Bool)=>
 if s7=true then (some (.inl (w64 (s0-1))))
 else (some (.inr s0)))
 (fun j7=>if 0<s0 then (bnd (idx p0 (w64 (s0-1))) fun x0=>
 j7 (decide (x0=0)))
 else (j7 false))
def Bp(p0:List Int):Option (List Int):=
 jn (fun (s3:Int)=>
 gd (0<=s3/\s3<=(p0.length:Int))<|
 some (subl p0 0 s3))
 (fun j3=>bnd (lfix (Ps p0) (p0.length:Int)) fun t0=>
 j3 t0)
theorem Abe{l r:List Int}(h:Bp l=some r):∃ k,r=l.take k:=by
 unfold Bp at h;simp only[jn] at h;obtain⟨n,_,h⟩:=Ao h;obtain⟨_,h⟩:=Bv h;obtain rfl:=Option.some.inj h;exact⟨_,Bca _ _⟩
def Ly(p0:List Int)(p1:List Int):Int->Option (Sum Int (Sum Unit Int)):=fun s0=>
 if 0<=s0 then (bnd (idx p0 s0) fun x0=>
 bnd (idx p1 s0) fun x1=>
 if x0=x1 then (some (.inl (w64 (s0-1))))
 else (bnd (idx p0 s0) fun x2=>
 bnd (idx p1 s0) fun x3=>
 if x2<x3 then (some (.inr (.inr (-1))))
 else (some (.inr (.inr 1)))))
 else (some (.inr (.inl ())))
def Dz(p0:List Int)(p1:List Int):Option Int :=
 if (p0.length:Int)=(p1.length:Int) then (jn (fun (s8:Unit)=>
 some 0)
 (fun j8=>bnd (lfix (Ly p0 p1) (w64 ((p0.length:Int)-1))) fun t0=>
 (match t0 with
 | (.inl z0)=>j8 z0
 | (.inr z0)=>some z0
 )))
 else (if (p0.length:Int)<(p1.length:Int) then (some (-1))
 else (some 1))
def Ie(p1:List Int)(p0:List Int):(List Int × Int × Int)->Option (Sum (List Int × Int × Int) (List Int)):=fun s0=>
 jn (fun (s1:Bool)=>
 if s1=true then (jn (fun (s2:Int)=>
 jn (fun (s3:Int)=>
 gd ((s0.1.length+1)*8<=140737488355328)<|
 some (.inl (s0.1++[Int.tmod s3 65536],w64 (Int.tdiv s3 65536),w64 (s0.2.2+1))))
 (fun j0=>if s0.2.2<(p1.length:Int) then (bnd (idx p1 s0.2.2) fun x0=>
 j0 (w64 (s2+x0)))
 else (j0 s2)))
 (fun j1=>if s0.2.2<(p0.length:Int) then (bnd (idx p0 s0.2.2) fun x1=>
 j1 (w64 (s0.2.1+x1)))
 else (j1 s0.2.1)))
 else (some (.inr s0.1)))
 (fun j2=>if s0.2.2<(p0.length:Int) then (j2 true)
 else (if s0.2.2<(p1.length:Int) then (j2 true)
 else (j2 (decide (0<s0.2.1)))))
def Gz(p0:List Int)(p1:List Int):Option (List Int):=
 jn (fun (s4:List Int)=>
 bnd (Bp s4) fun r0=>
 some r0)
 (fun j4=>bnd (lfix (Ie p1 p0) (([]:List Int),0,0)) fun t0=>
 j4 t0)
def Fp(p0:List Int)(p1:List Int):(List Int × Int × Int)->Option (Sum (List Int × Int × Int) (List Int)):=fun s0=>
 if s0.2.2<(p0.length:Int) then (bnd (idx p0 s0.2.2) fun x0=>
 jn (fun (s1:Int)=>
 jn (fun (s2:Int × Int)=>
 gd ((s0.1.length+1)*8<=140737488355328)<|
 some (.inl (s0.1++[s2.2],s2.1,w64 (s0.2.2+1))))
 (fun j0=>if s1<0 then (j0 (1,w64 (s1+65536)))
 else (j0 (0,s1))))
 (fun j1=>if s0.2.2<(p1.length:Int) then (bnd (idx p1 s0.2.2) fun x1=>
 j1 (w64 ((w64 (x0-s0.2.1))-x1)))
 else (j1 (w64 (x0-s0.2.1)))))
 else (some (.inr s0.1))
def Ec(p0:List Int)(p1:List Int):Option (List Int):=
 jn (fun (s4:List Int)=>
 bnd (Bp s4) fun r0=>
 some r0)
 (fun j4=>bnd (lfix (Fp p0 p1) (([]:List Int),0,0)) fun t0=>
 j4 t0)
def Gu(p1:List Int)(p0:List Int)(s0:List Int × Int):(List Int × Int × Int)->Option (Sum (List Int × Int × Int) (List Int × Int)):=fun s1=>
 if s1.2.2<(p1.length:Int) then (bnd (idx p0 s0.2) fun x0=>
 bnd (idx p1 s1.2.2) fun x1=>
 bnd (idx s1.1 (w64 (s0.2+s1.2.2))) fun x2=>
 bnd (idx s1.1 (w64 (s0.2+s1.2.2))) fun x3=>
 some (.inl (setI s1.1 (w64 (s0.2+s1.2.2)) (Int.tmod (w64 ((w64 ((w64 (x0*x1))+x2))+s1.2.1)) 65536),w64 (Int.tdiv (w64 ((w64 ((w64 (x0*x1))+x2))+s1.2.1)) 65536),w64 (s1.2.2+1))))
 else (some (.inr (s1.1,s1.2.1)))
def Gv(p0:List Int)(p1:List Int):(List Int × Int)->Option (Sum (List Int × Int) (List Int)):=fun s0=>
 if s0.2<(p0.length:Int) then (jn (fun (s1:List Int × Int)=>
 bnd (idx s1.1 (w64 (s0.2+(p1.length:Int)))) fun x0=>
 some (.inl (setI s1.1 (w64 (s0.2+(p1.length:Int))) s1.2,w64 (s0.2+1))))
 (fun j0=>bnd (lfix (Gu p1 p0 s0) (s0.1,0,0)) fun t0=>
 j0 t0))
 else (some (.inr s0.1))
def Co(p0:List Int)(p1:List Int):Option (List Int):=
 gd ((0:Int)<=(w64 ((p0.length:Int)+(p1.length:Int)))/\8*Int.toNat (w64 ((p0.length:Int)+(p1.length:Int)))<=140737488355328)<|
 jn (fun (s3:List Int)=>
 bnd (Bp s3) fun r0=>
 some r0)
 (fun j3=>bnd (lfix (Gv p0 p1) (List.replicate (Int.toNat (w64 ((p0.length:Int)+(p1.length:Int)))) (0:Int),0)) fun t0=>
 j3 t0)
def Nz(p0:List Int)(p1:Int):(List Int × Int × Int)->Option (Sum (List Int × Int × Int) (List Int × Int)):=fun s0=>
 if 0<=s0.2.2 then (bnd (idx p0 s0.2.2) fun x0=>
 gd (p1≠0)<|
 bnd (idx s0.1 s0.2.2) fun x1=>
 gd (p1≠0)<|
 some (.inl (setI s0.1 s0.2.2 (w64 (Int.tdiv (w64 ((w64 (s0.2.1*65536))+x0)) p1)),Int.tmod (w64 ((w64 (s0.2.1*65536))+x0)) p1,w64 (s0.2.2-1))))
 else (some (.inr (s0.1,s0.2.1)))
def Em(p0:List Int)(p1:Int):Option (List Int × Int):=
 gd ((0:Int)<=(p0.length:Int)/\8*Int.toNat (p0.length:Int)<=140737488355328)<|
 jn (fun (s4:List Int × Int)=>
 bnd (Bp s4.1) fun r0=>
 some (r0,s4.2))
 (fun j4=>bnd (lfix (Nz p0 p1) (List.replicate (Int.toNat (p0.length:Int)) (0:Int),0,w64 ((p0.length:Int)-1))) fun t0=>
 j4 t0)
def Hl(r0:List Int)(r1:List Int):(Int × List Int)->Option (Sum (Int × List Int) (Int × List Int)):=fun s0=>
 bnd (Dz s0.2 r0) fun r2=>
 if 0<r2 then (bnd (Ec s0.2 r1) fun r3=>
 some (.inl (w64 (s0.1-1),r3)))
 else (some (.inr (s0.1,s0.2)))
def Do(r0:List Int)(r1:List Int):(List Int × List Int × Int)->Option (Sum (List Int × List Int × Int) (List Int × List Int)):=fun s0=>
 if 0<=s0.2.2 then (bnd (idx r0 s0.2.2) fun x0=>
 gd ((([x0]).length+s0.2.1.length)*8<=140737488355328)<|
 bnd (Bp (([x0])++s0.2.1)) fun r2=>
 jn (fun (s1:Int)=>
 bnd (Bp ([s1])) fun r3=>
 bnd (Co r1 r3) fun r4=>
 jn (fun (s2:Int × List Int)=>
 bnd (Ec r2 s2.2) fun r5=>
 bnd (idx s0.1 s0.2.2) fun x1=>
 some (.inl (setI s0.1 s0.2.2 s2.1,r5,w64 (s0.2.2-1))))
 (fun j0=>bnd (lfix (Hl r2 r1) (s1,r4)) fun t0=>
 j0 t0))
 (fun j1=>if (r1.length:Int)<=(r2.length:Int) then (bnd (idx r2 (w64 ((r2.length:Int)-1))) fun x2=>
 jn (fun (s3:Int)=>
 bnd (idx r1 (w64 ((r1.length:Int)-1))) fun x3=>
 gd (x3≠0)<|
 if 65536<=(w64 (Int.tdiv s3 x3)) then (j1 65535)
 else (j1 (w64 (Int.tdiv s3 x3))))
 (fun j2=>if (r1.length:Int)<(r2.length:Int) then (bnd (idx r2 (w64 ((r2.length:Int)-2))) fun x4=>
 j2 (w64 ((w64 (x2*65536))+x4)))
 else (j2 x2)))
 else (j1 0)))
 else (some (.inr (s0.1,s0.2.1)))
def Ez(p0:List Int)(p1:List Int):Option (List Int × List Int):=
 bnd (Dz p0 p1) fun r1=>
 if r1<0 then (some (([]:List Int),p0))
 else (if (p1.length:Int)=1 then (bnd (idx p1 0) fun x9=>
 bnd (Em p0 x9) fun r0=>
 bnd (Ic r0.2) fun r2=>
 some (r0.1,r2.L))
 else (bnd (idx p1 (w64 ((p1.length:Int)-1))) fun x0=>
 gd ((w64 (x0+1))≠0)<|
 bnd (Co p0 ([w64 (Int.tdiv 65536 (w64 (x0+1)))])) fun r3=>
 bnd (Co p1 ([w64 (Int.tdiv 65536 (w64 (x0+1)))])) fun r4=>
 gd ((0:Int)<=(w64 ((w64 ((r3.length:Int)-(r4.length:Int)))+1))/\8*Int.toNat (w64 ((w64 ((r3.length:Int)-(r4.length:Int)))+1))<=140737488355328)<|
 gd (0<=(w64 ((w64 ((r3.length:Int)-(r4.length:Int)))+1))/\(w64 ((w64 ((r3.length:Int)-(r4.length:Int)))+1))<=(r3.length:Int))<|
 gd (((([]:List Int)).length+(subl r3 (w64 ((w64 ((r3.length:Int)-(r4.length:Int)))+1)) (r3.length:Int)).length)*8<=140737488355328)<|
 bnd (Bp ((([]:List Int))++(subl r3 (w64 ((w64 ((r3.length:Int)-(r4.length:Int)))+1)) (r3.length:Int)))) fun r5=>
 jn (fun (s0:List Int × List Int)=>
 bnd (idx ([w64 (Int.tdiv 65536 (w64 (x0+1)))]) 0) fun x1=>
 bnd (Em s0.2 x1) fun r6=>
 bnd (Bp s0.1) fun r7=>
 some (r7,r6.1))
 (fun j0=>bnd (lfix (Do r3 r4) (List.replicate (Int.toNat (w64 ((w64 ((r3.length:Int)-(r4.length:Int)))+1))) (0:Int),r5,w64 ((r3.length:Int)-(r4.length:Int)))) fun t0=>
 j0 t0)))
def Rg  : (List Int × List Int)->Option (Sum (List Int × List Int) (List Int)):=fun s0=>
 if 0<(s0.2.length:Int) then (bnd (Ez s0.1 s0.2) fun r0=>
 some (.inl (s0.2,r0.2)))
 else (some (.inr s0.1))
def Se(p0:List Int)(p1:List Int):Option (List Int):=
 jn (fun (s2:List Int)=>
 some s2)
 (fun j2=>bnd (lfix Rg (p0,p1)) fun t0=>
 j2 t0)
instance(p0:Aw):Con (Kr p0) prog 210 (fun _ vs=>vs=[.agg #[iq p0.Lo,iq p0.Hi]]) (fun _ r=>fun v Ln=>v = .bool r/\Ln=[]/\True):=⟨by
 rintro _ _ r rfl hx w hK;unfold Kr at hx;refine CtS ntmps210 results210 ?_;exact au⟩
instance(p0:Aw)(p1:Aw):Con (Vd p0 p1) prog 143 (fun _ vs=>vs=[.agg #[iq p0.Lo,iq p0.Hi],.agg #[iq p1.Lo,iq p1.Hi]]) (fun _ r=>fun v Ln=>v = .tuple #[iq r.1,iq r.2]/\Ln=[]/\True):=⟨by
 rintro _ _ r rfl hx w hK;unfold Vd at hx;refine CtS ntmps143 results143 ?_;exact au⟩
instance Aev(p0:Int):Con (Ic p0) prog 88 (fun _ vs=>vs=[iq p0]) (fun _ r=>fun v Ln=>∃ A0 c0,v = .agg #[.bool r.Neg,.slice A0 r.L.length c0]/\Ln=[.r A0 r.L.length c0 3 1 (r.L.flatMap Af)]/\True):=⟨by
 rintro _ _ r rfl hx w hK;unfold Ic at hx;refine CtS ntmps88 results88 ?_;try (refine pre ?_;intros;rename_i hx)
 refine Bh ?_;try (refine pre ?_;intros;rename_i hx)
 refine Bh ?_;try (refine pre ?_;intros;rename_i hx)
 apply Jr (γ:=Unit) hx [0,2] (fun s3 y3 f=>(3,.int .u64 s3)::f) [0,999] (fun s3 y3 l=>l);exact kk
 ·intro s3 y3 hx;try (refine pre ?_;intros;rename_i hx)
  refine Bh ?_;try (refine pre ?_;intros;rename_i hx)
  apply Jr (γ:=Option Addr × Nat) hx [0,2] (fun s6 y6 f=>(4,.slice y6.1 s6.length y6.2)::f) [0,999] (fun s6 y6 l=>.r y6.1 s6.length y6.2 3 1 (s6.flatMap Af)::l);exact kk
  ·intro s6 y6 hx;exact au
  ·intro _ hx;try (refine pre ?_;intros;rename_i hx)
   refine Bi 3 1 ?_;apply Lr (γ:=Option Addr × Nat) hx [0,2] (fun s0 y0 f=>(3,.int .u64 s0.1)::(4,.slice y0.1 s0.2.length y0.2)::f) [1,999] (fun s0 y0 l=>.r y0.1 s0.2.length y0.2 3 1 (s0.2.flatMap Af)::l) (_,_);exact kk;exact sk;intro s0 y0 x0 hx _;unfold Jt at hx;exact au
 ·intro _ hx;exact au⟩
theorem Adn(p0:Int){r:Aj}(hx:Ic p0=some r)(w:World):CtL prog 88 [iq p0] w fun v Ln=>∃ (A0:Option Addr) (c0:Nat),v = .agg #[.bool r.Neg,.slice A0 r.L.length c0]/\Ln=[.r A0 r.L.length c0 3 1 (r.L.flatMap Af)]/\True:=(Aev p0).h [] _ _ rfl hx w (fun _ h=>absurd h List.not_mem_nil)
theorem If(p0:List Int){K:List Ent}{E0:Option Addr}{G0:Nat}(ha0:Has K E0 p0.length G0 1 Af p0){r:List Int}(hx:Bp p0=some r)(w:World)(hK:∀ e∈K,Ent.ok w e):CtL prog 211 [.slice E0 p0.length G0] w fun v Ln=>v = .slice E0 r.length G0/\Ln=[]/\Has K E0 r.length G0 1 Af r/\True:=by
 have ha0':=Has.up0 ha0;refine CtL.mk 21 func211 rfl ntmps211 kr rfl ?_;show T 21 _ [(0,.slice E0 p0.length G0)] _;unfold Bp at hx;refine Y8 ?_;refine At (Dn rfl 3 underlying42) rfl ?_;refine Y3 ?_;refine Tj (γ:=Unit) hx (fun s3 y3=>[(0,.slice E0 p0.length G0),(3,iq s3)]) (fun s3 y3=>[]++[.old w]) (fun s3 y3=>True) (fun s3 y3 hx0 hG0=>?_) (fun j3 hx=>?_)
 ·refine Y4 ?_;obtain⟨h0,hx1⟩:=Bv hx0;have hs0:=Has.subH ha0' h0.1 h0.2;refine At (Am2 rfl rfl Sa h0.1 (by have:=Has.nc ha0';omega)) rfl ?_;refine Y4 ?_;refine Ab8 (s:=2) (v':=.slice E0 ((subl p0 0 s3).length) G0) rfl (by have hn0:(Int.toNat s3)=(subl p0 0 s3).length:=(Has.len hs0).symm;first | (rw[<- hn0];done) | rfl) ?_;obtain rfl:=Option.some.inj hx1;exact Df (rs:=[.tmp 2]) results211 (.tmp rfl (.nil)) (Ln:=[]) ⟨rfl,rfl,Has.len' (Has.dn0 hs0),trivial⟩ Cr (by exact .refl)
 ·refine Y ?_;obtain⟨t0,hl0,ho0⟩:=Ao hx;refine Lp (σ:=Int) (γ:=Unit) hl0 (fun s0 y0=>[(0,.slice E0 p0.length G0),(3,iq s0)]) (fun s0 y0=>[]++[.old w]) (fun s0 y0=>True) () trivial (by exact .refl) ?_;intro s0 y0 hG1 x0 hx2 ht0;unfold Ps at hx2;refine Y ?_;refine Tj (γ:=Unit) hx2 (fun s7 y7=>[(0,.slice E0 p0.length G0),(3,iq s0),(15,.bool s7)]) (fun s7 y7=>[]++[.old w]) (fun s7 y7=>True) (fun s7 y7 hx3 hG2=>?_) (fun j7 hx2=>?_)
  ·refine Jv (s:=15) rfl (fun h1=>?_) (fun h1=>?_)
   ·have hx4:=Io h1 hx3;refine Y10 ?_;exact Rp (w64 (s0-1)) () hx4 trivial (by exact .refl)
   ·have hx5:=Nn h1 hx3;refine Y3 ?_;obtain rfl:=Ii ht0 hx5;refine Y2 ?_;exact Mt s0 () ho0 trivial (by exact .refl)
  ·refine Y4 ?_;refine Ti hx2 (s:=8) rfl (fun h2 hx6=>?_) (fun h2 hx7=>?_)
   ·refine Y3 ?_;obtain⟨x1,h3,hx8⟩:=Ao hx6;have hw0:=Has.low (E:=[]) ha0' hK;obtain⟨b0,o0,j0,hA0,hj0,hl1,hp0⟩:=Has.at_idx hw0 h3;refine Qv rfl rfl rfl (Bl rfl rfl hA0 (j:=j0) hj0 hl1 Sa) rfl ?_;refine Qv rfl rfl rfl (Ch rfl hp0 (sb 0) rfl one3) rfl ?_;refine Y3 ?_;exact Mt (decide (x1=0)) () hx8 trivial (by exact .refl)
   ·refine Y8 ?_;exact Mt false () hx7 trivial (by exact .refl)
instance(p0:List Int):ConB (Bp p0) prog 211 (fun K vs=>∃ E0 G0,vs=[.slice E0 p0.length G0]/\Has K E0 p0.length G0 1 Af p0/\True) (fun K r=>fun v Ln=>∃ A0 c0 e,v = .slice A0 r.length c0/\Ln=[e]/\Has (K++[e]) A0 r.length c0 1 Af r/\True):=⟨by
 rintro K _ r ⟨E0,G0,rfl,ha0,-⟩ hx w hK;exact CtL.bunB (If p0 ha0 hx w hK) (by
  rintro _ _ w1 hw ⟨rfl,rfl,_,-⟩;exact⟨_,_,_,rfl,rfl,hZ hw,trivial⟩)⟩
instance(p0:List Int):TrI (Bp p0) prog 211 Af 1 p0:=⟨fun _ h=>⟨Abe h,fun _ _ _ hs w hK=>If p0 hs h w hK⟩⟩
instance Acr(p0:List Int)(p1:List Int):Con (Dz p0 p1) prog 213 (fun K vs=>∃ E0 G0 E1 G1,vs=[.slice E0 p0.length G0,.slice E1 p1.length G1]/\Has K E0 p0.length G0 1 Af p0/\Has K E1 p1.length G1 1 Af p1/\True) (fun _ r=>fun v Ln=>v = iq r/\Ln=[]/\True):=⟨by
 rintro K _ r ⟨E0,G0,E1,G1,rfl,ha0,ha1,-⟩ hx w hK;replace ha0:=Has.lo ha0 hK;replace ha1:=Has.lo ha1 hK;unfold Dz at hx;have:=dl 8 [0,0,0,1,0,0,0,1,0] [0,1,2,3,4,5,6,7,8];have:=dl 9 [0,0,0,1,0,0,0,1,0] [0,1,2,3,4,5,6,7,8];refine CtS ntmps213 results213 ?_;try (refine pre ?_;intros;rename_i hx)
 refine Cq2 (s:=10) hx rfl (fun _ hx=>?_) (fun _ hx=>?_)
 ·exact au
 ·try (refine pre ?_;intros;rename_i hx)
  apply Jr (γ:=Unit) hx [] (fun s8 y8 f=>f) [999] (fun s8 y8 l=>l);exact kk
  ·intro s8 y8 hx;exact au
  ·intro _ hx;try (refine pre ?_;intros;rename_i hx)
   apply Lr (γ:=Unit) hx [0,1] (fun s61 y61 f=>(5,iq s61)::f) [999] (fun s61 y61 l=>l) ();exact kk;exact sk;intro s61 y61 x61 hx _;unfold Ly at hx;exact au⟩
theorem Vh(p0:List Int)(p1:List Int){K:List Ent}{E0:Option Addr}{G0:Nat}{E1:Option Addr}{G1:Nat}(ha0:Has K E0 p0.length G0 1 Af p0)(ha1:Has K E1 p1.length G1 1 Af p1){r:Int}(hx:Dz p0 p1=some r)(w:World)(hK:∀ e∈K,Ent.ok w e):CtL prog 213 [.slice E0 p0.length G0,.slice E1 p1.length G1] w fun v Ln=>v = iq r/\Ln=[]/\True:=(Acr p0 p1).h K _ _ ⟨_,_,_,_,rfl,ha0,ha1,trivial⟩ hx w hK
instance Af1(p0:List Int)(p1:List Int):Con (Gz p0 p1) prog 212 (fun K vs=>∃ E0 G0 E1 G1,vs=[.slice E0 p0.length G0,.slice E1 p1.length G1]/\Has K E0 p0.length G0 1 Af p0/\Has K E1 p1.length G1 1 Af p1/\True) (fun _ r=>fun v Ln=>∃ A0 c0,v = .slice A0 r.length c0/\Ln=[.r A0 r.length c0 3 1 (r.flatMap Af)]/\True):=⟨by
 rintro K _ r ⟨E0,G0,E1,G1,rfl,ha0,ha1,-⟩ hx w hK;replace ha0:=Has.lo ha0 hK;replace ha1:=Has.lo ha1 hK;unfold Gz at hx;refine CtS ntmps212 results212 ?_;try (refine pre ?_;intros;rename_i hx)
 refine Bh ?_;try (refine pre ?_;intros;rename_i hx)
 refine Bh ?_;try (refine pre ?_;intros;rename_i hx)
 refine Bh ?_;try (refine pre ?_;intros;rename_i hx)
 apply Jr (γ:=Option Addr × Nat) hx [] (fun s4 y4 f=>(5,.slice y4.1 s4.length y4.2)::f) [999] (fun s4 y4 l=>.r y4.1 s4.length y4.2 3 1 (s4.flatMap Af)::l);exact kk
 ·intro s4 y4 hx;exact au
 ·intro _ hx;try (refine pre ?_;intros;rename_i hx)
  refine Bi 3 1 ?_;apply Lr (γ:=Option Addr × Nat) hx [0,1] (fun s0 y0 f=>(5,.slice y0.1 s0.1.length y0.2)::(6,iq s0.2.1)::(7,iq s0.2.2)::f) [999] (fun s0 y0 l=>.r y0.1 s0.1.length y0.2 3 1 (s0.1.flatMap Af)::l) (_,_);exact kk;exact sk;intro s0 y0 x0 hx _;unfold Ie at hx;try (refine pre ?_;intros;rename_i hx)
  refine Bh ?_;try (refine pre ?_;intros;rename_i hx)
  apply Jr (γ:=Unit) hx [0,1,5,6,7] (fun s1 y1 f=>(22,.bool s1)::f) [0,999] (fun s1 y1 l=>l);exact kk
  ·intro s1 y1 hx;refine Cq3 (s:=22) hx rfl (fun _ hx=>?_) (fun _ hx=>?_)
   ·try (refine pre ?_;intros;rename_i hx)
    refine Bh ?_;try (refine pre ?_;intros;rename_i hx)
    refine Bh ?_;try (refine pre ?_;intros;rename_i hx)
    apply Jr (γ:=Unit) hx [0,1,5,7] (fun s2 y2 f=>(8,iq s2)::f) [0,999] (fun s2 y2 l=>l);exact kk
    ·intro s2 y2 hx;exact au
    ·intro _ hx;exact au
   ·exact au
  ·intro _ hx;exact au⟩
theorem Aew(p0:List Int)(p1:List Int){K:List Ent}{E0:Option Addr}{G0:Nat}{E1:Option Addr}{G1:Nat}(ha0:Has K E0 p0.length G0 1 Af p0)(ha1:Has K E1 p1.length G1 1 Af p1){r:List Int}(hx:Gz p0 p1=some r)(w:World)(hK:∀ e∈K,Ent.ok w e):CtL prog 212 [.slice E0 p0.length G0,.slice E1 p1.length G1] w fun v Ln=>∃ (A0:Option Addr) (c0:Nat),v = .slice A0 r.length c0/\Ln=[.r A0 r.length c0 3 1 (r.flatMap Af)]/\True:=(Af1 p0 p1).h K _ _ ⟨_,_,_,_,rfl,ha0,ha1,trivial⟩ hx w hK
instance Af2(p0:List Int)(p1:List Int):Con (Ec p0 p1) prog 214 (fun K vs=>∃ E0 G0 E1 G1,vs=[.slice E0 p0.length G0,.slice E1 p1.length G1]/\Has K E0 p0.length G0 1 Af p0/\Has K E1 p1.length G1 1 Af p1/\True) (fun _ r=>fun v Ln=>∃ A0 c0,v = .slice A0 r.length c0/\Ln=[.r A0 r.length c0 3 1 (r.flatMap Af)]/\True):=⟨by
 rintro K _ r ⟨E0,G0,E1,G1,rfl,ha0,ha1,-⟩ hx w hK;replace ha0:=Has.lo ha0 hK;replace ha1:=Has.lo ha1 hK;unfold Ec at hx;refine CtS ntmps214 results214 ?_;try (refine pre ?_;intros;rename_i hx)
 refine Bh ?_;try (refine pre ?_;intros;rename_i hx)
 refine Bh ?_;try (refine pre ?_;intros;rename_i hx)
 refine Bh ?_;try (refine pre ?_;intros;rename_i hx)
 apply Jr (γ:=Option Addr × Nat) hx [] (fun s4 y4 f=>(5,.slice y4.1 s4.length y4.2)::f) [999] (fun s4 y4 l=>.r y4.1 s4.length y4.2 3 1 (s4.flatMap Af)::l);exact kk
 ·intro s4 y4 hx;exact au
 ·intro _ hx;try (refine pre ?_;intros;rename_i hx)
  refine Bi 3 1 ?_;apply Lr (γ:=Option Addr × Nat) hx [0,1] (fun s0 y0 f=>(5,.slice y0.1 s0.1.length y0.2)::(6,iq s0.2.1)::(7,iq s0.2.2)::f) [999] (fun s0 y0 l=>.r y0.1 s0.1.length y0.2 3 1 (s0.1.flatMap Af)::l) (_,_);exact kk;exact sk;intro s0 y0 x0 hx _;unfold Fp at hx;try (refine pre ?_;intros;rename_i hx)
  refine Cq1 (s:=12) hx rfl (fun _ hx=>?_) (fun _ hx=>?_)
  ·try (refine pre ?_;intros;rename_i hx)
   apply Jr (γ:=Unit) hx [0,1,5,7] (fun s1 y1 f=>(8,iq s1)::f) [0,999] (fun s1 y1 l=>l);exact kk
   ·intro s1 y1 hx;exact au
   ·intro _ hx;exact au
  ·exact au⟩
theorem Yh(p0:List Int)(p1:List Int){K:List Ent}{E0:Option Addr}{G0:Nat}{E1:Option Addr}{G1:Nat}(ha0:Has K E0 p0.length G0 1 Af p0)(ha1:Has K E1 p1.length G1 1 Af p1){r:List Int}(hx:Ec p0 p1=some r)(w:World)(hK:∀ e∈K,Ent.ok w e):CtL prog 214 [.slice E0 p0.length G0,.slice E1 p1.length G1] w fun v Ln=>∃ (A0:Option Addr) (c0:Nat),v = .slice A0 r.length c0/\Ln=[.r A0 r.length c0 3 1 (r.flatMap Af)]/\True:=(Af2 p0 p1).h K _ _ ⟨_,_,_,_,rfl,ha0,ha1,trivial⟩ hx w hK
instance Aex(p0:List Int)(p1:List Int):Con (Co p0 p1) prog 144 (fun K vs=>∃ E0 G0 E1 G1,vs=[.slice E0 p0.length G0,.slice E1 p1.length G1]/\Has K E0 p0.length G0 1 Af p0/\Has K E1 p1.length G1 1 Af p1/\True) (fun _ r=>fun v Ln=>∃ A0 c0,v = .slice A0 r.length c0/\Ln=[.r A0 r.length c0 3 1 (r.flatMap Af)]/\True):=⟨by
 rintro K _ r ⟨E0,G0,E1,G1,rfl,ha0,ha1,-⟩ hx w hK;replace ha0:=Has.lo ha0 hK;replace ha1:=Has.lo ha1 hK;unfold Co at hx;have:=dl 9 [0,0,0,1,0,0,0,1,0,0,0,0,0,0,1,0,0,0,2] [0,1,2,3,4,5,6,7,8,9,10,11,12,13,14,15,16,17,18];refine CtS ntmps144 results144 ?_;try (refine pre ?_;intros;rename_i hx)
 apply Jr (γ:=Option Addr × Nat) hx [] (fun s3 y3 f=>(5,.slice y3.1 s3.length y3.2)::f) [999] (fun s3 y3 l=>.r y3.1 s3.length y3.2 3 1 (s3.flatMap Af)::l);exact kk
 ·intro s3 y3 hx;exact au
 ·intro _ hx;try (refine pre ?_;intros;rename_i hx)
  apply Lr (γ:=Option Addr × Nat) hx [0,1] (fun s0 y0 f=>(5,.slice y0.1 s0.1.length y0.2)::(6,iq s0.2)::f) [999] (fun s0 y0 l=>.r y0.1 s0.1.length y0.2 3 1 (s0.1.flatMap Af)::l) (_,_);exact kk;exact sk;intro s0 y0 x0 hx _;unfold Gv at hx;try (refine pre ?_;intros;rename_i hx)
  refine Cq1 (s:=19) hx rfl (fun _ hx=>?_) (fun _ hx=>?_)
  ·try (refine pre ?_;intros;rename_i hx)
   refine Bh ?_;try (refine pre ?_;intros;rename_i hx)
   refine Bh ?_;try (refine pre ?_;intros;rename_i hx)
   apply Jr (γ:=Option Addr × Nat) hx [0,1,6] (fun s1 y1 f=>(5,.slice y1.1 s1.1.length y1.2)::(7,iq s1.2)::f) [999] (fun s1 y1 l=>.r y1.1 s1.1.length y1.2 3 1 (s1.1.flatMap Af)::l);exact kk
   ·intro s1 y1 hx;exact au
   ·intro _ hx;try (refine pre ?_;intros;rename_i hx)
    apply Lr (γ:=Option Addr × Nat) hx [0,1,6] (fun s2 y2 f=>(5,.slice y2.1 s2.1.length y2.2)::(7,iq s2.2.1)::(8,iq s2.2.2)::f) [999] (fun s2 y2 l=>.r y2.1 s2.1.length y2.2 3 1 (s2.1.flatMap Af)::l) (_,_);exact kk;exact sk;intro s2 y2 x1 hx _;unfold Gu at hx;exact au
  ·exact au⟩
theorem Sv(p0:List Int)(p1:List Int){K:List Ent}{E0:Option Addr}{G0:Nat}{E1:Option Addr}{G1:Nat}(ha0:Has K E0 p0.length G0 1 Af p0)(ha1:Has K E1 p1.length G1 1 Af p1){r:List Int}(hx:Co p0 p1=some r)(w:World)(hK:∀ e∈K,Ent.ok w e):CtL prog 144 [.slice E0 p0.length G0,.slice E1 p1.length G1] w fun v Ln=>∃ (A0:Option Addr) (c0:Nat),v = .slice A0 r.length c0/\Ln=[.r A0 r.length c0 3 1 (r.flatMap Af)]/\True:=(Aex p0 p1).h K _ _ ⟨_,_,_,_,rfl,ha0,ha1,trivial⟩ hx w hK
instance Aey(p0:List Int)(p1:Int):Con (Em p0 p1) prog 320 (fun K vs=>∃ E0 G0,vs=[.slice E0 p0.length G0,iq p1]/\Has K E0 p0.length G0 1 Af p0/\True) (fun _ r=>fun v Ln=>∃ A0 c0,v = .tuple #[.slice A0 r.1.length c0,iq r.2]/\Ln=[.r A0 r.1.length c0 3 1 (r.1.flatMap Af)]/\True):=⟨by
 rintro K _ r ⟨E0,G0,rfl,ha0,-⟩ hx w hK;replace ha0:=Has.lo ha0 hK;unfold Em at hx;refine CtS ntmps320 results320 ?_;try (refine pre ?_;intros;rename_i hx)
 refine Bh ?_;try (refine pre ?_;intros;rename_i hx)
 apply Jr (γ:=Option Addr × Nat) hx [] (fun s4 y4 f=>(6,.slice y4.1 s4.1.length y4.2)::(7,iq s4.2)::f) [999] (fun s4 y4 l=>.r y4.1 s4.1.length y4.2 3 1 (s4.1.flatMap Af)::l);exact kk
 ·intro s4 y4 hx;exact au
 ·intro _ hx;try (refine pre ?_;intros;rename_i hx)
  apply Lr (γ:=Option Addr × Nat) hx [0,1] (fun s0 y0 f=>(6,.slice y0.1 s0.1.length y0.2)::(7,iq s0.2.1)::(8,iq s0.2.2)::f) [999] (fun s0 y0 l=>.r y0.1 s0.1.length y0.2 3 1 (s0.1.flatMap Af)::l) (_,_);exact kk;exact sk;intro s0 y0 x0 hx _;unfold Nz at hx;exact au⟩
theorem Xa(p0:List Int)(p1:Int){K:List Ent}{E0:Option Addr}{G0:Nat}(ha0:Has K E0 p0.length G0 1 Af p0){r:List Int × Int}(hx:Em p0 p1=some r)(w:World)(hK:∀ e∈K,Ent.ok w e):CtL prog 320 [.slice E0 p0.length G0,iq p1] w fun v Ln=>∃ (A0:Option Addr) (c0:Nat),v = .tuple #[.slice A0 r.1.length c0,iq r.2]/\Ln=[.r A0 r.1.length c0 3 1 (r.1.flatMap Af)]/\True:=(Aey p0 p1).h K _ _ ⟨_,_,rfl,ha0,trivial⟩ hx w hK
theorem Nh(p0:List Int)(p1:List Int){K:List Ent}{E0:Option Addr}{G0:Nat}{E1:Option Addr}{G1:Nat}(ha0:Has K E0 p0.length G0 1 Af p0)(ha1:Has K E1 p1.length G1 1 Af p1){r:List Int × List Int}(hx:Ez p0 p1=some r)(w:World)(hK:∀ e∈K,Ent.ok w e):CtL prog 303 [.slice E0 p0.length G0,.slice E1 p1.length G1] w fun v Ln=>∃ (A0:Option Addr) (c0:Nat) (A2:Option Addr) (c2:Nat) (e0:Ent),v = .tuple #[.slice A0 r.1.length c0,.slice A2 r.2.length c2]/\Ln=[.r A0 r.1.length c0 3 1 (r.1.flatMap Af),e0]/\Has (K++[e0]) A2 r.2.length c2 1 Af r.2/\True:=by
 have ha0':=Has.up0 ha0;have ha1':=Has.up0 ha1;refine CtL.mk 156 func303 rfl ntmps303 kr rfl ?_;show T 156 _ [(0,.slice E0 p0.length G0),(1,.slice E1 p1.length G1)] _;unfold Ez at hx;refine Y11 ?_;obtain⟨r1,h2,hx3⟩:=Ao hx;refine Tc (fun w1 hw1=>Vh p0 p1 (Has.len' ha0') (Has.len' ha1') h2 w1 (Ss (K:=K) (K2:=[]) hK (by exact (sb 0)) (by exact SubE.nil) hw1)) ?_;refine Y3 ?_;refine Ti hx3 (s:=22) rfl (fun h4 hx5=>?_) (fun h4 hx6=>?_)
 ·refine Y10 ?_;refine Bi 3 1 ?_;refine Bi 0 1 ?_;obtain rfl:=Option.some.inj hx5;exact Df (rs:=[.tmp 4,.tmp 5]) results303 (.tmp rfl (.tmp rfl (.nil))) (Ln:=[.r none 0 0 3 1 ((([]:List Int)).flatMap Af),.r none 0 0 0 1 []]) ⟨none,0,E0,G0,(.r none 0 0 0 1 []),rfl,rfl,Has.len' (Has.up (L:=(K++[.r none 0 0 0 1 []])) ha0' (SubE.app2 SubE.nil)),trivial⟩ (Bj rfl (Bj rfl Cr)) (by exact .pick 1 rfl (.pick 0 rfl (.refl)))
 ·refine Y7 ?_;refine At (Dn rfl 3 underlying42) rfl ?_;refine Y3 ?_;refine Ti hx6 (s:=26) rfl (fun h7 hx8=>?_) (fun h7 hx0=>?_)
  ·refine Y5 ?_;obtain⟨x9,h0,hx1⟩:=Ao hx8;have hw0:=Has.low (E:=[]) ha1' hK;obtain⟨b0,o0,j0,hA0,hj0,hl0,hp0⟩:=Has.at_idx hw0 h0;refine At (Bl rfl rfl hA0 (j:=j0) hj0 hl0 Sa) rfl ?_;refine At (Ch rfl hp0 (sb 0) rfl one3) rfl ?_;obtain⟨r0,h1,hx2⟩:=Ao hx1;refine T_x (Br rfl (fun w1 hw1=>Xa p0 x9 (Has.len' ha0') h1 w1 (Ss (K:=K) (K2:=[]) hK (by exact (sb 0)) (by exact SubE.nil) hw1)) rfl ?_);rintro _ _ hlo ⟨A1,c1,rfl,rfl,-⟩;refine Lz ?_;refine Y11 ?_;obtain⟨r2,h3,hx4⟩:=Ao hx2;refine T_x (Br rfl (fun w1 hw1=>Adn r0.2  h3 w1) rfl ?_);rintro _ _ hlo ⟨A3,c3,rfl,rfl,-⟩;refine Lz ?_;refine At (Alm rfl (Anq _ _ _ _)) rfl ?_;refine Y6 ?_;refine Gb (k:=0) rfl dD (fun _=>rfl) (fun hn0 hs0=>?_);obtain rfl:=Option.some.inj hx4;exact Df (rs:=[.tmp 4,.tmp 5]) results303 (.tmp rfl (.tmp rfl (.nil))) (Ln:=[.r A1 r0.1.length c1 3 1 (r0.1.flatMap Af),.r A3 r2.L.length c3 3 1 (r2.L.flatMap Af)]) ⟨A1,c1,A3,c3,(.r A3 r2.L.length c3 3 1 (r2.L.flatMap Af)),rfl,rfl,Has.len' (Has.up (L:=(K++[.r A3 r2.L.length c3 3 1 (r2.L.flatMap Af)])) hs0 (SubE.appR2 (sb 0))),trivial⟩ (Bj rfl (Bj rfl Cr)) (by exact .pick 1 rfl (.pick 0 rfl (.refl)))
  ·refine Y7 ?_;refine At (Dn rfl 3 underlying42) rfl ?_;refine Y ?_;obtain⟨x0,h5,hx7⟩:=Ao hx0;have hw2:=Has.low (E:=[]) ha1' hK;obtain⟨b1,o1,j1,hA1,hj1,hl1,hp1⟩:=Has.at_idx hw2 h5;refine At (Bl rfl rfl hA1 (j:=j1) hj1 hl1 Sa) rfl ?_;refine At (Ch rfl hp1 (sb 0) rfl one3) rfl ?_;refine Y ?_;obtain⟨h6,hx9⟩:=Bv hx7;refine At (Aef rfl rfl h6) rfl ?_;refine T_x (Bs rfl (Ju _) rfl (fun g0=>?_));refine Y7 ?_;have hs1:Has [.m g0 3 [iq (w64 (Int.tdiv 65536 (w64 (x0+1))))]] (some ⟨g0,0,none⟩) 1 1 1 Af [w64 (Int.tdiv 65536 (w64 (x0+1)))]:=Has.ofM (fun _ _=>rfl) rfl dD rfl;obtain⟨r3,h8,hx50⟩:=Ao hx9;refine T_x (Br rfl (fun w1 hw1=>Sv p0 ([w64 (Int.tdiv 65536 (w64 (x0+1)))]) (Has.len' (Has.up (L:=(K++[.m g0 3 [iq (w64 (Int.tdiv 65536 (w64 (x0+1))))]])) ha0' (SubE.app2 SubE.nil))) (Has.len' (Has.up (L:=(K++[.m g0 3 [iq (w64 (Int.tdiv 65536 (w64 (x0+1))))]])) hs1 (SubE.appR2 (sb 0)))) h8 w1 (Ss (K:=K) (K2:=[.m g0 3 [iq (w64 (Int.tdiv 65536 (w64 (x0+1))))]]) hK (by exact (sb 1)) (by exact (sb 0)) hw1)) rfl ?_);rintro _ _ hlo ⟨A4,c4,rfl,rfl,-⟩;refine Lz ?_;refine Y2 ?_;have hs2:Has [.m g0 3 [iq (w64 (Int.tdiv 65536 (w64 (x0+1))))]] (some ⟨g0,0,none⟩) 1 1 1 Af [w64 (Int.tdiv 65536 (w64 (x0+1)))]:=Has.ofM (fun _ _=>rfl) rfl dD rfl;obtain⟨r4,h9,hx56⟩:=Ao hx50;refine T_x (Br rfl (fun w1 hw1=>Sv p1 ([w64 (Int.tdiv 65536 (w64 (x0+1)))]) (Has.len' (Has.up (L:=(K++[.m g0 3 [iq (w64 (Int.tdiv 65536 (w64 (x0+1))))]])) ha1' (SubE.app2 SubE.nil))) (Has.len' (Has.up (L:=(K++[.m g0 3 [iq (w64 (Int.tdiv 65536 (w64 (x0+1))))]])) hs2 (SubE.appR2 (sb 0)))) h9 w1 (Ss (K:=K) (K2:=[.m g0 3 [iq (w64 (Int.tdiv 65536 (w64 (x0+1))))]]) hK (by exact (sb 2)) (by exact (sb 1)) hw1)) rfl ?_);rintro _ _ hlo ⟨A5,c5,rfl,rfl,-⟩;refine Lz ?_;refine Y7 ?_;refine At (Dn rfl 3 underlying42) rfl ?_;refine Y ?_;refine At (Dn rfl 3 underlying42) rfl ?_;refine Y2 ?_;obtain⟨h60,hx61⟩:=Bv hx56;refine T_x (Axi Af 0 (z:=iq 0) rfl rfl rfl h60.1 underlying42 (show prog.info? 3=some Tryz.t3 from by kernel_rfl) kr rfl rfl kr (show 8*_<=_ from h60.2) dD rfl (fun A6=>?_));refine Y5 ?_;refine T_x (Bs rfl Aoz rfl (fun g1=>?_));refine Y2 ?_;refine At (Dn rfl 3 underlying42) rfl ?_;refine Y ?_;refine At (Dn rfl 3 underlying42) rfl ?_;refine Y2 ?_;refine Gb (k:=3) rfl dD (fun _=>rfl) (fun hn1 hs3=>?_);obtain⟨h66,hx67⟩:=Bv hx61;have hs4:=Has.subL hs3 h66.1 h66.2;refine At (Am1 rfl rfl Sa h66.1 h66.2) rfl ?_;refine T_mr (enc:=Af) (sz:=1) (([]:List Int)) (.here) rfl rfl (fun _=>rfl) dD ?_;obtain⟨h68,hx69⟩:=Bv hx67;refine T_h (Vm Af (([]:List Int)) (subl r3 (w64 ((w64 ((r3.length:Int)-(r4.length:Int)))+1)) (r3.length:Int)) rfl rfl Afc (fun _=>rfl) hs4 (sb 3) (fun _=>rfl) h68 rfl (fun _ _=>.here) dD (fun A7 c6=>?_));refine Gb (k:=0) rfl dD (fun _=>rfl) (fun hn2 hs5=>?_);obtain⟨r5,h75,hx76⟩:=Ao hx69;refine T_x (Br rfl (fun w1 hw1=>If ((([]:List Int))++(subl r3 (w64 ((w64 ((r3.length:Int)-(r4.length:Int)))+1)) (r3.length:Int))) (Has.len' hs5) h75 w1 (Wd (K:=([.r A7 (((([]:List Int))++(subl r3 (w64 ((w64 ((r3.length:Int)-(r4.length:Int)))+1)) (r3.length:Int))).length) c6 3 1 (((([]:List Int))++(subl r3 (w64 ((w64 ((r3.length:Int)-(r4.length:Int)))+1)) (r3.length:Int))).flatMap Af)]:List Ent)) (by exact (sb 0)) hw1)) rfl ?_);rintro _ _ hlo ⟨rfl,rfl,hs6,-⟩;refine Ya ?_;refine Aic (r:=r5) (Abe h75) (.here) dD (fun _=>rfl) ?_;refine Y3 ?_;refine Tj (γ:=Option Addr × Nat × Option Addr × Nat) hx76 (fun s0 y0=>[(8,.slice (some ⟨g0,0,none⟩) 1 1),(11,.slice y0.1 s0.1.length y0.2.1),(12,.slice y0.2.2.1 s0.2.length y0.2.2.2)]) (fun s0 y0=>[.r y0.2.2.1 s0.2.length y0.2.2.2 3 1 (s0.2.flatMap Af),.r y0.1 s0.1.length y0.2.1 3 1 (s0.1.flatMap Af),.r (some ⟨g0,0,none⟩) 1 1 3 1 (([w64 (Int.tdiv 65536 (w64 (x0+1)))]).flatMap Af)]++[.old w]) (fun s0 y0=>True) (fun s0 y0 hx10 hG0=>?_) (fun j2 hx76=>?_)
   ·refine Y4 ?_;obtain⟨x1,h11,hx12⟩:=Ao hx10;refine Aa6 (k:=2) rfl dD (fun _=>rfl) h11 (fun b2 j3 hA2 hj2 hl2 hm0 hp2=>?_);refine At (Bl rfl rfl hA2 (j:=j3) hj2 hl2 Sa) rfl ?_;refine At (Ch rfl hp2 (sb 2) rfl one3) rfl ?_;refine Gb (k:=0) rfl dD (fun _=>rfl) (fun hn3 hs7=>?_);obtain⟨r6,h12,hx13⟩:=Ao hx12;refine T_x (Br rfl (fun w1 hw1=>Xa s0.2 x1 (Has.len' hs7) h12 w1 (Wd (K:=([.r y0.2.2.1 s0.2.length y0.2.2.2 3 1 (s0.2.flatMap Af)]:List Ent)) (by exact (sb 0)) hw1)) rfl ?_);rintro _ _ hlo ⟨A8,c7,rfl,rfl,-⟩;refine Lz ?_;refine Y10 ?_;refine Gb (k:=2) rfl dD (fun _=>rfl) (fun hn4 hs8=>?_);obtain⟨r7,h13,hx14⟩:=Ao hx13;refine T_x (Br rfl (fun w1 hw1=>If s0.1 (Has.len' hs8) h13 w1 (Wd (K:=([.r y0.1 s0.1.length y0.2.1 3 1 (s0.1.flatMap Af)]:List Ent)) (by exact (sb 2)) hw1)) rfl ?_);rintro _ _ hlo ⟨rfl,rfl,hs9,-⟩;refine Ya ?_;refine Aic (r:=r7) (Abe h13) (.there (.there (.here))) dD (fun _=>rfl) ?_;refine Y6 ?_;refine Gb (k:=0) rfl dD (fun _=>rfl) (fun hn5 hs10=>?_);obtain rfl:=Option.some.inj hx14;exact Df (rs:=[.tmp 4,.tmp 5]) results303 (.tmp rfl (.tmp rfl (.nil))) (Ln:=[.r y0.1 r7.length y0.2.1 3 1 (r7.flatMap Af),.r A8 r6.1.length c7 3 1 (r6.1.flatMap Af)]) ⟨y0.1,y0.2.1,A8,c7,(.r A8 r6.1.length c7 3 1 (r6.1.flatMap Af)),rfl,rfl,Has.len' (Has.up (L:=(K++[.r A8 r6.1.length c7 3 1 (r6.1.flatMap Af)])) hs10 (SubE.appR2 (sb 0))),trivial⟩ (Bj rfl (Bj rfl Cr)) (by exact .pick 2 rfl (.pick 0 rfl (.drop 0 rfl (.drop 0 rfl (.refl)))))
   ·refine Y3 ?_;refine At (Dn rfl 3 underlying42) rfl ?_;refine Y ?_;refine At (Dn rfl 3 underlying42) rfl ?_;refine Y5 ?_;refine T_mr (enc:=Af) (sz:=1) ([w64 (Int.tdiv 65536 (w64 (x0+1)))]) (.there (.there (.there (.there (.here))))) rfl rfl (fun _=>rfl) (by show 1<=maxLen;decide) ?_;obtain⟨t0,hl3,ho0⟩:=Ao hx76;refine Lp (σ:=List Int × List Int × Int) (γ:=Option Addr × Nat × Option Addr × Nat) hl3 (fun s1 y1=>[(8,.slice (some ⟨g0,0,none⟩) 1 1),(9,.slice A4 r3.length c4),(10,.slice A5 r4.length c5),(11,.slice y1.1 s1.1.length y1.2.1),(12,.slice y1.2.2.1 s1.2.1.length y1.2.2.2),(13,iq s1.2.2)]) (fun s1 y1=>[.r y1.2.2.1 s1.2.1.length y1.2.2.2 3 1 (s1.2.1.flatMap Af),.r y1.1 s1.1.length y1.2.1 3 1 (s1.1.flatMap Af),.r A5 r4.length c5 3 1 (r4.flatMap Af),.r A4 r3.length c4 3 1 (r3.flatMap Af),.r (some ⟨g0,0,none⟩) 1 1 3 1 (([w64 (Int.tdiv 65536 (w64 (x0+1)))]).flatMap Af)]++[.old w]) (fun s1 y1=>True) (A6,(List.replicate (Int.toNat (w64 ((w64 ((r3.length:Int)-(r4.length:Int)))+1))) (0:Int)).length,A7,c6) trivial (by exact .pick 0 rfl (.pick 0 rfl (.pick 0 rfl (.pick 0 rfl (.pick 0 rfl (.refl)))))) ?_;intro s1 y1 hG1 x2 hx15 ht0;unfold Do at hx15;refine Y7 ?_;refine Ti hx15 (s:=78) rfl (fun h14 hx16=>?_) (fun h14 hx17=>?_)
    ·refine Y9 ?_;obtain⟨x3,h15,hx18⟩:=Ao hx16;refine Aa6 (k:=3) rfl dD (fun _=>rfl) h15 (fun b3 j4 hA3 hj3 hl4 hm1 hp3=>?_);refine At (Bl rfl rfl hA3 (j:=j4) hj3 hl4 Sa) rfl ?_;refine At (Ch rfl hp3 (sb 3) rfl one3) rfl ?_;refine T_x (Bs rfl (Ju _) rfl (fun g2=>?_));refine Y ?_;refine T_mr (enc:=Af) (sz:=1) ([x3]) (.here) rfl rfl (fun _=>rfl) (by show 1<=maxLen;decide) ?_;refine Gb (k:=1) rfl dD (fun _=>rfl) (fun hn6 hs11=>?_);obtain⟨h16,hx19⟩:=Bv hx18;refine T_h (Vm Af ([x3]) s1.2.1 rfl rfl Afc (fun _=>rfl) hs11 (sb 1) (fun _=>rfl) h16 rfl (fun _ _=>.here) dD (fun A9 c8=>?_));refine Gb (k:=0) rfl dD (fun _=>rfl) (fun hn7 hs12=>?_);obtain⟨r8,h17,hx20⟩:=Ao hx19;refine T_x (Br rfl (fun w1 hw1=>If (([x3])++s1.2.1) (Has.len' hs12) h17 w1 (Wd (K:=([.r A9 ((([x3])++s1.2.1).length) c8 3 1 ((([x3])++s1.2.1).flatMap Af)]:List Ent)) (by exact (sb 0)) hw1)) rfl ?_);rintro _ _ hlo ⟨rfl,rfl,hs13,-⟩;refine Ya ?_;refine Aic (r:=r8) (Abe h17) (.here) dD (fun _=>rfl) ?_;refine Y8 ?_;refine Tj (γ:=Unit) hx20 (fun s2 y2=>[(8,.slice (some ⟨g0,0,none⟩) 1 1),(9,.slice A4 r3.length c4),(10,.slice A5 r4.length c5),(11,.slice y1.1 s1.1.length y1.2.1),(12,.slice A9 r8.length c8),(13,iq s1.2.2),(14,iq s2)]) (fun s2 y2=>[.r A9 r8.length c8 3 1 (r8.flatMap Af),.r y1.1 s1.1.length y1.2.1 3 1 (s1.1.flatMap Af),.r A5 r4.length c5 3 1 (r4.flatMap Af),.r A4 r3.length c4 3 1 (r3.flatMap Af),.r (some ⟨g0,0,none⟩) 1 1 3 1 (([w64 (Int.tdiv 65536 (w64 (x0+1)))]).flatMap Af)]++[.old w]) (fun s2 y2=>True) (fun s2 y2 hx21 hG2=>?_) (fun j5 hx20=>?_)
     ·refine Y4 ?_;refine T_x (Bs rfl (Ju _) rfl (fun g3=>?_));have hs14:Has [.m g3 3 [iq s2]] (some ⟨g3,0,none⟩) 1 1 1 Af [s2]:=Has.ofM (fun _ _=>rfl) rfl dD rfl;obtain⟨r9,h18,hx23⟩:=Ao hx21;refine T_x (Br rfl (fun w1 hw1=>If ([s2]) (Has.len' hs14) h18 w1 (Wd (K:=([.m g3 3 [iq s2]]:List Ent)) (by exact (sb 0)) hw1)) rfl ?_);rintro _ _ hlo ⟨rfl,rfl,hs15,-⟩;refine Ya ?_;refine Gb (k:=3) rfl dD (fun _=>rfl) (fun hn8 hs16=>?_);obtain⟨r10,h19,hx24⟩:=Ao hx23;refine T_x (Br rfl (fun w1 hw1=>Sv r4 r9 (Has.len' (Has.up (L:=([.r A5 r4.length c5 3 1 (r4.flatMap Af),.m g3 3 [iq s2]]:List Ent)) hs16 (sb 0))) (Has.len' (Has.up (L:=([.r A5 r4.length c5 3 1 (r4.flatMap Af),.m g3 3 [iq s2]]:List Ent)) hs15 (sb 1))) h19 w1 (Wd (K:=([.r A5 r4.length c5 3 1 (r4.flatMap Af),.m g3 3 [iq s2]]:List Ent)) (by exact (SubE.cons2 (i:=3) rfl (sb 0))) hw1)) rfl ?_);rintro _ _ hlo ⟨A10,c9,rfl,rfl,-⟩;refine Lz ?_;refine Y3 ?_;refine Tj (γ:=Option Addr × Nat) hx24 (fun s3 y3=>[(8,.slice (some ⟨g0,0,none⟩) 1 1),(9,.slice A4 r3.length c4),(10,.slice A5 r4.length c5),(11,.slice y1.1 s1.1.length y1.2.1),(12,.slice A9 r8.length c8),(13,iq s1.2.2),(14,iq s3.1),(16,.slice y3.1 s3.2.length y3.2)]) (fun s3 y3=>[.r y3.1 s3.2.length y3.2 3 1 (s3.2.flatMap Af),.r A9 r8.length c8 3 1 (r8.flatMap Af),.r y1.1 s1.1.length y1.2.1 3 1 (s1.1.flatMap Af),.r A5 r4.length c5 3 1 (r4.flatMap Af),.r A4 r3.length c4 3 1 (r3.flatMap Af),.r (some ⟨g0,0,none⟩) 1 1 3 1 (([w64 (Int.tdiv 65536 (w64 (x0+1)))]).flatMap Af)]++[.old w]) (fun s3 y3=>True) (fun s3 y3 hx25 hG3=>?_) (fun j6 hx24=>?_)
      ·refine Y4 ?_;refine Gb (k:=1) rfl dD (fun _=>rfl) (fun hn9 hs17=>?_);refine Gb (k:=0) rfl dD (fun _=>rfl) (fun hn10 hs18=>?_);obtain⟨r11,h20,hx26⟩:=Ao hx25;refine T_x (Br rfl (fun w1 hw1=>Yh r8 s3.2 (Has.len' (Has.up (L:=([.r A9 r8.length c8 3 1 (r8.flatMap Af),.r y3.1 s3.2.length y3.2 3 1 (s3.2.flatMap Af)]:List Ent)) hs17 (sb 0))) (Has.len' (Has.up (L:=([.r A9 r8.length c8 3 1 (r8.flatMap Af),.r y3.1 s3.2.length y3.2 3 1 (s3.2.flatMap Af)]:List Ent)) hs18 (sb 1))) h20 w1 (Wd (K:=([.r A9 r8.length c8 3 1 (r8.flatMap Af),.r y3.1 s3.2.length y3.2 3 1 (s3.2.flatMap Af)]:List Ent)) (by exact (SubE.cons2 (i:=1) rfl (sb 0))) hw1)) rfl ?_);rintro _ _ hlo ⟨A11,c10,rfl,rfl,-⟩;refine Lz ?_;refine Y7 ?_;obtain⟨x4,h22,hx28⟩:=Ao hx26;refine Aa6 (k:=3) rfl dD (fun _=>rfl) h22 (fun b4 j7 hA4 hj4 hl5 hm2 hp4=>?_);refine At (Bl rfl rfl hA4 (j:=j7) hj4 hl5 Sa) rfl ?_;refine T_h (All Af s1.1 s1.2.2 s3.1 rfl rfl rfl (.there (.there (.there (.here)))) hA4 rfl hj4 hl5 (fun _=>rfl) dD rfl one3.2 ?_);refine Y8 ?_;have hn11:s1.1.length=(setI s1.1 s1.2.2 s3.1).length:=by simp[Dr,Tm,List.length_append] <;> omega
       refine Wc (.there (.there (.there (.here)))) (e':=.r y1.1 ((setI s1.1 s1.2.2 s3.1).length) y1.2.1 3 1 ((setI s1.1 s1.2.2 s3.1).flatMap Af)) (by first | (rw[<- hn11];done) | rfl) ?_;refine Ab8 (s:=11) (v':=.slice y1.1 ((setI s1.1 s1.2.2 s3.1).length) y1.2.1) rfl (by have hn12:s1.1.length=(setI s1.1 s1.2.2 s3.1).length:=(by simp[Dr,Tm,List.length_append] <;> omega);first | (rw[<- hn12];done) | rfl) ?_;exact Rp (setI s1.1 s1.2.2 s3.1,r11,w64 (s1.2.2-1)) (y1.1,y1.2.1,A11,c10) hx28 trivial (by exact .pick 0 rfl (.pick 2 rfl (.pick 2 rfl (.pick 2 rfl (.pick 2 rfl (.drop 0 rfl (.drop 0 rfl (.refl))))))))
      ·refine Y ?_;obtain⟨t1,hl6,ho1⟩:=Ao hx24;refine Lp (σ:=Int × List Int) (γ:=Option Addr × Nat) hl6 (fun s4 y4=>[(8,.slice (some ⟨g0,0,none⟩) 1 1),(9,.slice A4 r3.length c4),(10,.slice A5 r4.length c5),(11,.slice y1.1 s1.1.length y1.2.1),(12,.slice A9 r8.length c8),(13,iq s1.2.2),(14,iq s4.1),(16,.slice y4.1 s4.2.length y4.2)]) (fun s4 y4=>[.r y4.1 s4.2.length y4.2 3 1 (s4.2.flatMap Af),.r A9 r8.length c8 3 1 (r8.flatMap Af),.r y1.1 s1.1.length y1.2.1 3 1 (s1.1.flatMap Af),.r A5 r4.length c5 3 1 (r4.flatMap Af),.r A4 r3.length c4 3 1 (r3.flatMap Af),.r (some ⟨g0,0,none⟩) 1 1 3 1 (([w64 (Int.tdiv 65536 (w64 (x0+1)))]).flatMap Af)]++[.old w]) (fun s4 y4=>True) (A10,c9) trivial (by exact .pick 0 rfl (.pick 1 rfl (.pick 1 rfl (.pick 1 rfl (.pick 1 rfl (.pick 1 rfl (.drop 0 rfl (.refl)))))))) ?_;intro s4 y4 hG4 x5 hx29 ht1;unfold Hl at hx29;refine Y5 ?_;refine Gb (k:=0) rfl dD (fun _=>rfl) (fun hn13 hs19=>?_);refine Gb (k:=1) rfl dD (fun _=>rfl) (fun hn14 hs20=>?_);obtain⟨r12,h23,hx30⟩:=Ao hx29;refine Tc (fun w1 hw1=>Vh s4.2 r8 (Has.len' (Has.up (L:=([.r y4.1 s4.2.length y4.2 3 1 (s4.2.flatMap Af),.r A9 r8.length c8 3 1 (r8.flatMap Af)]:List Ent)) hs19 (sb 0))) (Has.len' (Has.up (L:=([.r y4.1 s4.2.length y4.2 3 1 (s4.2.flatMap Af),.r A9 r8.length c8 3 1 (r8.flatMap Af)]:List Ent)) hs20 (sb 1))) h23 w1 (Wd (K:=([.r y4.1 s4.2.length y4.2 3 1 (s4.2.flatMap Af),.r A9 r8.length c8 3 1 (r8.flatMap Af)]:List Ent)) (by exact (SubE.cons2 (i:=0) rfl (sb 1))) hw1)) ?_;refine Y3 ?_;refine Ti hx30 (s:=132) rfl (fun h24 hx31=>?_) (fun h24 hx33=>?_)
       ·(iterate 14 refine Y ?_);refine Gb (k:=0) rfl dD (fun _=>rfl) (fun hn15 hs21=>?_);refine Gb (k:=3) rfl dD (fun _=>rfl) (fun hn16 hs22=>?_);obtain⟨r13,h25,hx34⟩:=Ao hx31;refine T_x (Br rfl (fun w1 hw1=>Yh s4.2 r4 (Has.len' (Has.up (L:=([.r y4.1 s4.2.length y4.2 3 1 (s4.2.flatMap Af),.r A5 r4.length c5 3 1 (r4.flatMap Af)]:List Ent)) hs21 (sb 0))) (Has.len' (Has.up (L:=([.r y4.1 s4.2.length y4.2 3 1 (s4.2.flatMap Af),.r A5 r4.length c5 3 1 (r4.flatMap Af)]:List Ent)) hs22 (sb 1))) h25 w1 (Wd (K:=([.r y4.1 s4.2.length y4.2 3 1 (s4.2.flatMap Af),.r A5 r4.length c5 3 1 (r4.flatMap Af)]:List Ent)) (by exact (SubE.cons2 (i:=0) rfl (sb 3))) hw1)) rfl ?_);rintro _ _ hlo ⟨A12,c11,rfl,rfl,-⟩;refine Lz ?_;refine Y3 ?_;exact Rp (w64 (s4.1-1),r13) (A12,c11) hx34 trivial (by exact .pick 0 rfl (.pick 1 rfl (.pick 1 rfl (.pick 1 rfl (.pick 1 rfl (.pick 1 rfl (.drop 0 rfl (.refl))))))))
       ·refine Y3 ?_;obtain rfl:=Ii ht1 hx33;refine Y2 ?_;exact Mt (s4.1,s4.2) (y4.1,y4.2) ho1 trivial (by exact .pick 0 rfl (.pick 0 rfl (.pick 0 rfl (.pick 0 rfl (.pick 0 rfl (.pick 0 rfl (.refl)))))))
     ·refine Y3 ?_;refine At (Dn rfl 3 underlying42) rfl ?_;refine Y ?_;refine At (Dn rfl 3 underlying42) rfl ?_;refine Y3 ?_;refine Ti hx20 (s:=93) rfl (fun h27 hx36=>?_) (fun h27 hx37=>?_)
      ·refine Y5 ?_;refine At (Dn rfl 3 underlying42) rfl ?_;refine Y ?_;obtain⟨x6,h28,hx38⟩:=Ao hx36;refine Aa6 (k:=0) rfl dD (fun _=>rfl) h28 (fun b5 j8 hA5 hj5 hl7 hm3 hp5=>?_);refine At (Bl rfl rfl hA5 (j:=j8) hj5 hl7 Sa) rfl ?_;refine At (Ch rfl hp5 (sb 0) rfl one3) rfl ?_;refine Y3 ?_;refine Tj (γ:=Unit) hx38 (fun s5 y5=>[(8,.slice (some ⟨g0,0,none⟩) 1 1),(9,.slice A4 r3.length c4),(10,.slice A5 r4.length c5),(11,.slice y1.1 s1.1.length y1.2.1),(12,.slice A9 r8.length c8),(13,iq s1.2.2),(15,iq s5)]) (fun s5 y5=>[.r A9 r8.length c8 3 1 (r8.flatMap Af),.r y1.1 s1.1.length y1.2.1 3 1 (s1.1.flatMap Af),.r A5 r4.length c5 3 1 (r4.flatMap Af),.r A4 r3.length c4 3 1 (r3.flatMap Af),.r (some ⟨g0,0,none⟩) 1 1 3 1 (([w64 (Int.tdiv 65536 (w64 (x0+1)))]).flatMap Af)]++[.old w]) (fun s5 y5=>True) (fun s5 y5 hx39 hG5=>?_) (fun j9 hx38=>?_)
       ·refine Y5 ?_;refine At (Dn rfl 3 underlying42) rfl ?_;refine Y ?_;obtain⟨x7,h29,hx40⟩:=Ao hx39;refine Aa6 (k:=2) rfl dD (fun _=>rfl) h29 (fun b6 j10 hA6 hj6 hl8 hm4 hp6=>?_);refine At (Bl rfl rfl hA6 (j:=j10) hj6 hl8 Sa) rfl ?_;refine At (Ch rfl hp6 (sb 2) rfl one3) rfl ?_;obtain⟨h30,hx41⟩:=Bv hx40;refine At (Aef rfl rfl h30) rfl ?_;refine Y9 ?_;refine Ti hx41 (s:=123) rfl (fun h31 hx42=>?_) (fun h31 hx43=>?_)
        ·refine Y4 ?_;exact Mt 65535 () hx42 trivial (by exact .pick 0 rfl (.pick 0 rfl (.pick 0 rfl (.pick 0 rfl (.pick 0 rfl (.refl))))))
        ·refine Y2 ?_;exact Mt (w64 (Int.tdiv s5 x7)) () hx43 trivial (by exact .pick 0 rfl (.pick 0 rfl (.pick 0 rfl (.pick 0 rfl (.pick 0 rfl (.refl))))))
       ·refine Y3 ?_;refine At (Dn rfl 3 underlying42) rfl ?_;refine Y ?_;refine At (Dn rfl 3 underlying42) rfl ?_;refine Y3 ?_;refine Ti hx38 (s:=104) rfl (fun h32 hx44=>?_) (fun h32 hx46=>?_)
        ·refine Y6 ?_;refine At (Dn rfl 3 underlying42) rfl ?_;refine Y ?_;obtain⟨x8,h33,hx47⟩:=Ao hx44;refine Aa6 (k:=0) rfl dD (fun _=>rfl) h33 (fun b7 j11 hA7 hj7 hl9 hm5 hp7=>?_);refine At (Bl rfl rfl hA7 (j:=j11) hj7 hl9 Sa) rfl ?_;refine At (Ch rfl hp7 (sb 0) rfl one3) rfl ?_;refine Y3 ?_;exact Mt (w64 ((w64 (x6*65536))+x8)) () hx47 trivial (by exact .pick 0 rfl (.pick 1 rfl (.pick 1 rfl (.pick 1 rfl (.pick 1 rfl (.drop 0 rfl (.refl)))))))
        ·refine Y2 ?_;exact Mt x6 () hx46 trivial (by exact .pick 0 rfl (.pick 1 rfl (.pick 1 rfl (.pick 1 rfl (.pick 1 rfl (.drop 0 rfl (.refl)))))))
      ·refine Y2 ?_;exact Mt 0 () hx37 trivial (by exact .pick 0 rfl (.pick 1 rfl (.pick 1 rfl (.pick 1 rfl (.pick 1 rfl (.drop 0 rfl (.refl)))))))
    ·refine Y3 ?_;obtain rfl:=Ii ht0 hx17;refine Y2 ?_;exact Mt (s1.1,s1.2.1) (y1.1,y1.2.1,y1.2.2.1,y1.2.2.2) ho0 trivial (by exact .pick 0 rfl (.pick 0 rfl (.pick 2 rfl (.drop 0 rfl (.drop 0 rfl (.refl))))))
theorem Af3(p0:List Int)(p1:List Int){K:List Ent}{E0:Option Addr}{G0:Nat}{E1:Option Addr}{G1:Nat}(ha0:Has K E0 p0.length G0 1 Af p0)(ha1:Has K E1 p1.length G1 1 Af p1){r:List Int}(hx:Se p0 p1=some r)(w:World)(hK:∀ e∈K,Ent.ok w e):CtL prog 319 [.slice E0 p0.length G0,.slice E1 p1.length G1] w fun v Ln=>∃ (A0:Option Addr) (c0:Nat) (e0:Ent),v = .slice A0 r.length c0/\Ln=[e0]/\Has (K++[e0]) A0 r.length c0 1 Af r/\True:=by
 have ha0':=Has.up0 ha0;have ha1':=Has.up0 ha1;refine CtL.mk 19 func319 rfl ntmps319 kr rfl ?_;show T 19 _ [(0,.slice E0 p0.length G0),(1,.slice E1 p1.length G1)] _;unfold Se at hx;refine Y5 ?_;obtain⟨j2,hj2,hx⟩:=Ac3 hx;refine Aa5 (τ:=List Int) (γ:=Option Addr × Nat × Ent) (J:=j2) (out:=r) (fun s2 y2=>[(0,.slice y2.1 s2.length y2.2.1)]) (fun s2 y2=>[y2.2.2]++[.old w]) (fun s2 y2=>y2.2.2.low=0/\Has (K++[y2.2.2]) y2.1 s2.length y2.2.1 1 Af s2/\True) ?_ ?_
 ·intro s2 y2 hx0 hG0;obtain⟨lo57,hs0,-⟩:=hG0;subst hj2;refine Y7 ?_;obtain rfl:=Option.some.inj hx0;exact Df (rs:=[.tmp 4]) results319 (.tmp rfl (.nil)) (Ln:=[y2.2.2]) ⟨y2.1,y2.2.1,y2.2.2,rfl,rfl,Has.len' hs0,trivial⟩ (Bj lo57 Cr) (by exact .pick 0 rfl (.refl))
 ·skip;refine Y ?_;obtain⟨t0,hl0,ho0⟩:=Ao hx;refine Bi 0 1 ?_;refine Lp (σ:=List Int × List Int) (γ:=Option Addr × Nat × Ent × Option Addr × Nat) hl0 (fun s0 y0=>[(0,.slice y0.1 s0.1.length y0.2.1),(1,.slice y0.2.2.2.1 s0.2.length y0.2.2.2.2)]) (fun s0 y0=>[y0.2.2.1]++[.old w]) (fun s0 y0=>y0.2.2.1.low=0/\Has (K++[y0.2.2.1]) y0.1 s0.1.length y0.2.1 1 Af s0.1/\Has (K++[y0.2.2.1]) y0.2.2.2.1 s0.2.length y0.2.2.2.2 1 Af s0.2/\True) (E0,G0,.r none 0 0 0 1 [],E1,G1) ((by exact⟨rfl,Has.len' ((Has.up (L:=(K++[.r none 0 0 0 1 []])) ha0' (SubE.app2 SubE.nil))),Has.len' ((Has.up (L:=(K++[.r none 0 0 0 1 []])) ha1' (SubE.app2 SubE.nil))),trivial⟩)) (by exact .pick 0 rfl (.refl)) ?_;intro s0 y0 hG1 x0 hx1 ht0;unfold Rg at hx1;obtain⟨lo38,hs1,hs2,-⟩:=hG1;refine Y4 ?_;refine At (Dn rfl 3 underlying42) rfl ?_;refine Y3 ?_;refine Ti hx1 (s:=9) rfl (fun h0 hx2=>?_) (fun h0 hx3=>?_)
  ·refine Y8 ?_;obtain⟨r0,h1,hx4⟩:=Ao hx2;refine T_x (Br rfl (fun w1 hw1=>Nh s0.1 s0.2 (Has.len' hs1) (Has.len' hs2) h1 w1 (Ss (K:=K) (K2:=[y0.2.2.1]) hK (by exact (sb 1)) (by exact (sb 0)) hw1)) rfl ?_);rintro _ _ hlo ⟨A1,c1,A2,c2,e1,rfl,rfl,hs3,-⟩;have lo53:=hlo e1 s_;refine Zc ?_;have hs4:Has (K++[y0.2.2.1,e1]) _ _ _ _ _ _:=Has.assoc hs3;(iterate 14 refine Y ?_);refine Axn (es:=[y0.2.2.1,e1]) (by exact .pick 2 rfl (.pick 1 rfl (.refl))) (Bj lo38 (Bj lo53 Cr)) ?_;exact Rp (s0.2,r0.2) (y0.2.2.2.1,y0.2.2.2.2,bun [y0.2.2.1,e1],A2,c2) hx4 ((by exact⟨rfl,Has.len' ((Has.up (L:=(K++[(bun [y0.2.2.1,e1])])) hs2 (SubE.app2 (SubE.consB (i:=0) (j:=0) rfl rfl SubE.nil)))),Has.len' ((Has.up (L:=(K++[(bun [y0.2.2.1,e1])])) hs4 (SubE.app2 (SubE.consB (i:=0) (j:=0) rfl rfl (SubE.consB (i:=0) (j:=1) rfl rfl SubE.nil))))),trivial⟩)) (by exact .pick 0 rfl (.drop 0 rfl (.refl)))
  ·refine Y3 ?_;obtain rfl:=Ii ht0 hx3;refine Y2 ?_;exact Mt s0.1 (y0.1,y0.2.1,y0.2.2.1) ho0 ((by exact⟨lo38,Has.len' hs1,trivial⟩)) (by exact .pick 0 rfl (.refl))
end
noncomputable section
theorem Ai2:Hb prog 117 0 0:=.mk underlying117 rfl rfl (show prog.info? 4=some Tryz.t4 from by kernel_rfl) (show Tryz.t4.size=1 from by kernel_rfl) rfl
instance:Bz prog 117 0 0:=⟨Ai2⟩
theorem Xs:Hb prog 117 1 1:=.mk underlying117 rfl rfl (show prog.info? 42=some t42 from by kernel_rfl) (show t42.size=1 from by kernel_rfl) rfl
instance:Bz prog 117 1 1:=⟨Xs⟩
instance:Je prog 117 [] [.bool false,.slice none 0 0]:=⟨fun w=>kr⟩
theorem Up:Qw prog 173 [.bool false,.slice none 0 0,.slice none 0 0]:=⟨_,zeroValue173,rfl⟩
instance:Ud prog 173 [.bool false,.slice none 0 0,.slice none 0 0]:=⟨Up⟩
theorem Za(x0:Bool)(x1:Option Addr)(x2:Nat)(x3:Nat)(x4:Option Addr)(x5:Nat)(x6:Nat):Vv prog 173 [(0,.agg #[.bool x0,.slice x1 x2 x3]),(1,.slice x4 x5 x6)] [.bool x0,.slice x1 x2 x3,.slice x4 x5 x6]:=fun w=>kr
instance(x0:Bool)(x1:Option Addr)(x2:Nat)(x3:Nat)(x4:Option Addr)(x5:Nat)(x6:Nat):Je prog 173 [(0,.agg #[.bool x0,.slice x1 x2 x3]),(1,.slice x4 x5 x6)] [.bool x0,.slice x1 x2 x3,.slice x4 x5 x6]:=⟨Za _ _ _ _ _ _ _⟩
theorem Cv:Rj prog 173 3:=.mk underlying173 rfl (show prog.info? 173=some t173 from by kernel_rfl) kr
instance:AggI prog 173 3:=⟨Cv⟩
instance:Bz prog 173 0 0:=⟨.mk underlying173 rfl rfl (show prog.info? 117=some t117 from by kernel_rfl) (show t117.size=2 from by kernel_rfl) rfl⟩
instance:Bz prog 173 1 2:=⟨.mk underlying173 rfl rfl (show prog.info? 42=some t42 from by kernel_rfl) (show t42.size=1 from by kernel_rfl) rfl⟩
instance(x0:Bool)(x1:Option Addr)(x2:Nat)(x3:Nat)(x4:Option Addr)(x5:Nat)(x6:Nat):Aso prog 173 [.bool x0,.slice x1 x2 x3,.slice x4 x5 x6] 0 (.agg #[.bool x0,.slice x1 x2 x3]):=⟨fun w=>kr⟩
theorem Ad6:Mr prog 177 173 3:=.mk underlying177 (show prog.info? 173=some t173 from by kernel_rfl) kr
instance:Ph prog 177 173 3:=⟨Ad6⟩
def Kw(p0:Aj)(p1:Aj):Option Aj :=
 if (p0.Neg == p1.Neg)=true then (bnd (Gz p0.L p1.L) fun r6=>
 some (⟨p0.Neg,r6⟩:Aj))
 else (bnd (Dz p0.L p1.L) fun r0=>
 if r0=0 then (some (⟨false,([]:List Int)⟩:Aj))
 else (if 0<r0 then (bnd (Ec p0.L p1.L) fun r1=>
 some (⟨p0.Neg,r1⟩:Aj))
 else (bnd (Ec p1.L p0.L) fun r2=>
 some (⟨p1.Neg,r2⟩:Aj))))
def Fq(p0:Aj):Option Aj :=
 jn (fun (s2:Bool)=>
 some (⟨s2,p0.L⟩:Aj))
 (fun j2=>if p0.Neg=true then (j2 false)
 else (j2 (decide (0<(p0.L.length:Int)))))
def Dd(p0:Aj)(p1:Aj):Option Aj :=
 bnd (Co p0.L p1.L) fun r4=>
 jn (fun (s3:Bool)=>
 some (⟨s3,r4⟩:Aj))
 (fun j3=>if (p0.Neg == p1.Neg)=true then (j3 false)
 else (j3 (decide (0<(r4.length:Int)))))
def Gm(p0:Aj):Option Int :=
 if (p0.L.length:Int)=0 then (some 0)
 else (if p0.Neg=true then (some (-1))
 else (some 1))
def Eg(p0:Aj):(Int × Int)->Option (Sum (Int × Int) Int):=fun s0=>
 if 0<=s0.2 then (bnd (idx p0.L s0.2) fun x0=>
 some (.inl (w64 ((w64 (s0.1*65536))+x0),w64 (s0.2-1))))
 else (some (.inr s0.1))
def Ji(p0:Aj):Option (Int × Bool):=
 jn (fun (s3:Bool)=>
 if s3=true then (some (0,false))
 else (jn (fun (s6:Int)=>
 jn (fun (s0:Bool)=>
 if s0=true then (some (0,false))
 else (jn (fun (s1:Int)=>
 some (s1,true))
 (fun j0=>if p0.Neg=true then (j0 (w64 (-s6)))
 else (j0 s6))))
 (fun j1=>if s6<0 then (j1 true)
 else (j1 (decide (4611686018427387904<s6)))))
 (fun j6=>bnd (lfix (Eg p0) (0,w64 ((p0.L.length:Int)-1))) fun t0=>
 j6 t0)))
 (fun j3=>if 4<(p0.L.length:Int) then (j3 true)
 else (if (p0.L.length:Int)=4 then (bnd (idx p0.L 3) fun x7=>
 j3 (decide (16384<x7)))
 else (j3 false)))
def Gn(p0:Aj)(p1:Aj):Option Aj :=
 bnd (Ez p0.L p1.L) fun r4=>
 if p0.Neg=true then (jn (fun (s6:List Int)=>
 some (⟨decide (0<(s6.length:Int)),s6⟩:Aj))
 (fun j6=>if 0<(r4.2.length:Int) then (bnd (Gz r4.1 ([1])) fun r0=>
 j6 r0)
 else (j6 r4.1)))
 else (some (⟨false,r4.1⟩:Aj))
def Dj(p0:Aj)(p1:Aj):Option Al :=
 bnd (Se p0.L p1.L) fun r4=>
 bnd (Ez p0.L r4) fun r0=>
 bnd (Ez p1.L r4) fun r1=>
 jn (fun (s5:Bool)=>
 some (⟨(⟨s5,r0.1⟩:Aj),r1.1⟩:Al))
 (fun j5=>if p0.Neg=true then (j5 (decide (0<(r0.1.length:Int))))
 else (j5 false))
def Ck(p0:Int):Option Al :=
 bnd (Ic p0) fun r2=>
 some (⟨r2,[1]⟩:Al)
def Cl(p0:Al)(p1:Al):Option Al :=
 bnd (Dd p0.N (⟨false,p1.D⟩:Aj)) fun r4=>
 bnd (Dd p1.N (⟨false,p0.D⟩:Aj)) fun r9=>
 bnd (Kw r4 r9) fun r0=>
 bnd (Co p0.D p1.D) fun r1=>
 bnd (Dj r0 (⟨false,r1⟩:Aj)) fun r2=>
 some r2
def Hm(p0:Al):Option Al :=
 bnd (Fq p0.N) fun r3=>
 some (⟨r3,p0.D⟩:Al)
def Cw(p0:Al)(p1:Al):Option Al :=
 bnd (Hm p1) fun r4=>
 bnd (Cl p0 r4) fun r0=>
 some r0
def Dl(p0:Al)(p1:Al):Option Al :=
 bnd (Dd p0.N p1.N) fun r4=>
 bnd (Co p0.D p1.D) fun r9=>
 bnd (Dj r4 (⟨false,r9⟩:Aj)) fun r0=>
 some r0
def Oc(p0:Al)(p1:Al):Option Al :=
 bnd (Dd p0.N (⟨false,p1.D⟩:Aj)) fun r4=>
 bnd (Dd p1.N (⟨false,p0.D⟩:Aj)) fun r9=>
 jn (fun (s3:Bool × List Int × List Int)=>
 some (⟨(⟨s3.1,s3.2.1⟩:Aj),s3.2.2⟩:Al))
 (fun j3=>if (r4.Neg == r9.Neg)=true then (bnd (Dj (⟨false,r4.L⟩:Aj) (⟨false,r9.L⟩:Aj)) fun r0=>
 j3 (r0.N.Neg,r0.N.L,r0.D))
 else (bnd (Dj (⟨decide (0<(r4.L.length:Int)),r4.L⟩:Aj) (⟨false,r9.L⟩:Aj)) fun r1=>
 j3 (r1.N.Neg,r1.N.L,r1.D)))
def Hn(p0:Al)(p1:Al):Option Int :=
 bnd (Cw p0 p1) fun r3=>
 bnd (Gm r3.N) fun r0=>
 some r0
def Fn(p0:Al):Option Aj :=
 bnd (Gn p0.N (⟨false,p0.D⟩:Aj)) fun r3=>
 some r3
def Ix(p0:Al):Option Aj :=
 bnd (Hm p0) fun r3=>
 bnd (Fn r3) fun r0=>
 bnd (Fq r0) fun r1=>
 some r1
def Kx(p0:Aj):Option (Int × Int):=
 bnd (Ji p0) fun r2=>
 jn (fun (s4:Bool)=>
 if s4=true then (some (0,3))
 else (some (r2.1,0)))
 (fun j4=>if r2.2=true then (if r2.1<(-1152921504606846976) then (j4 true)
 else (j4 (decide (1152921504606846976<r2.1))))
 else (j4 true))
def Aby(K:List Ent)(x:Al)(ys:List Value):Prop:=∃ (A0:Option Addr) (c0:Nat) (A1:Option Addr) (c1:Nat),ys=[.bool x.N.Neg,.slice A0 x.N.L.length c0,.slice A1 x.D.length c1]/\Has K A0 x.N.L.length c0 1 Af x.N.L/\Has K A1 x.D.length c1 1 Af x.D
instance:UndI prog 177 (.slice 173):=⟨underlying177⟩
def Fs(p0:List Al):(Bool × List Int × List Int × Bool × List Int × List Int × Int)->Option (Sum (Bool × List Int × List Int × Bool × List Int × List Int × Int) (Bool × List Int × List Int × Bool × List Int × List Int)):=fun s0=>
 if s0.2.2.2.2.2.2<(p0.length:Int) then (jn (fun (s1:Bool × List Int × List Int × Bool × List Int × List Int)=>
 some (.inl (s1.1,s1.2.1,s1.2.2.1,s1.2.2.2.1,s1.2.2.2.2.1,s1.2.2.2.2.2,w64 (s0.2.2.2.2.2.2+1))))
 (fun j0=>jn (fun (s2:Bool × List Int × List Int)=>
 bnd (idx p0 s0.2.2.2.2.2.2) fun x0=>
 bnd (Hn x0 (⟨(⟨s0.2.2.2.1,s0.2.2.2.2.1⟩:Aj),s0.2.2.2.2.2.1⟩:Al)) fun r0=>
 if 0<r0 then (bnd (idx p0 s0.2.2.2.2.2.2) fun x1=>
 j0 (s2.1,s2.2.1,s2.2.2,x1.N.Neg,x1.N.L,x1.D))
 else (j0 (s2.1,s2.2.1,s2.2.2,s0.2.2.2.1,s0.2.2.2.2.1,s0.2.2.2.2.2.1)))
 (fun j1=>bnd (idx p0 s0.2.2.2.2.2.2) fun x2=>
 bnd (Hn x2 (⟨(⟨s0.1,s0.2.1⟩:Aj),s0.2.2.1⟩:Al)) fun r1=>
 if r1<0 then (bnd (idx p0 s0.2.2.2.2.2.2) fun x3=>
 j1 (x3.N.Neg,x3.N.L,x3.D))
 else (j1 (s0.1,s0.2.1,s0.2.2.1)))))
 else (some (.inr (s0.1,s0.2.1,s0.2.2.1,s0.2.2.2.1,s0.2.2.2.2.1,s0.2.2.2.2.2.1)))
def Mu(p0:List Al):Option (Aw × Int):=
 jn (fun (s2:Bool × List Int × List Int × Bool × List Int × List Int)=>
 jn (fun (s3:Bool × List Int × List Int × Bool × List Int × List Int)=>
 bnd (Fn (⟨(⟨s3.1,s3.2.1⟩:Aj),s3.2.2.1⟩:Al)) fun r0=>
 bnd (Kx r0) fun r1=>
 bnd (Ix (⟨(⟨s3.2.2.2.1,s3.2.2.2.2.1⟩:Aj),s3.2.2.2.2.2⟩:Al)) fun r2=>
 bnd (Kx r2) fun r3=>
 jn (fun (s0:Bool)=>
 if s0=true then (some ((⟨0,0⟩:Aw),3))
 else (some ((⟨r1.1,r3.1⟩:Aw),0)))
 (fun j0=>if r1.2=0 then (j0 (!(decide (r3.2=0))))
 else (j0 true)))
 (fun j3=>bnd (lfix (Fs p0) (s2.1,s2.2.1,s2.2.2.1,s2.2.2.2.1,s2.2.2.2.2.1,s2.2.2.2.2.2,1)) fun t0=>
 j3 t0))
 (fun j2=>bnd (idx p0 0) fun x2=>
 bnd (idx p0 0) fun x0=>
 j2 (x2.N.Neg,x2.N.L,x2.D,x0.N.Neg,x0.N.L,x0.D))
instance(p0:Aj)(p1:Aj):Con (Kw p0 p1) prog 145 (fun K vs=>∃ E0 G0 E1 G1,vs=[.agg #[.bool p0.Neg,.slice E0 p0.L.length G0],.agg #[.bool p1.Neg,.slice E1 p1.L.length G1]]/\Has K E0 p0.L.length G0 1 Af p0.L/\Has K E1 p1.L.length G1 1 Af p1.L/\True) (fun _ r=>fun v Ln=>∃ A0 c0,v = .agg #[.bool r.Neg,.slice A0 r.L.length c0]/\Ln=[.r A0 r.L.length c0 3 1 (r.L.flatMap Af)]/\True):=⟨by
 rintro K _ r ⟨E0,G0,E1,G1,rfl,ha0,ha1,-⟩ hx w hK;replace ha0:=Has.lo ha0 hK;replace ha1:=Has.lo ha1 hK;unfold Kw at hx;have:=dl 2 [0,1,0,1,0,1,2,0,3] [0,1,2,3,4,5,6,7,8];have:=dl 7 [0,1,0,1,0,1,2,0,3] [0,1,2,3,4,5,6,7,8];have:=dl 8 [0,1,0,1,0,1,2,0,3] [0,1,2,3,4,5,6,7,8];refine CtS ntmps145 results145 ?_;exact au⟩
instance(p0:Aj):ConB (Fq p0) prog 146 (fun K vs=>∃ E0 G0,vs=[.agg #[.bool p0.Neg,.slice E0 p0.L.length G0]]/\Has K E0 p0.L.length G0 1 Af p0.L/\True) (fun K r=>fun v Ln=>∃ A0 c0 e,v = .agg #[.bool r.Neg,.slice A0 r.L.length c0]/\Ln=[e]/\Has (K++[e]) A0 r.L.length c0 1 Af r.L/\True):=⟨by
 rintro K _ r ⟨E0,G0,rfl,ha0,-⟩ hx w hK;unfold Fq at hx;refine CtS ntmps146 results146 ?_;exact au⟩
instance(p0:Aj)(p1:Aj):Con (Dd p0 p1) prog 89 (fun K vs=>∃ E0 G0 E1 G1,vs=[.agg #[.bool p0.Neg,.slice E0 p0.L.length G0],.agg #[.bool p1.Neg,.slice E1 p1.L.length G1]]/\Has K E0 p0.L.length G0 1 Af p0.L/\Has K E1 p1.L.length G1 1 Af p1.L/\True) (fun _ r=>fun v Ln=>∃ A0 c0,v = .agg #[.bool r.Neg,.slice A0 r.L.length c0]/\Ln=[.r A0 r.L.length c0 3 1 (r.L.flatMap Af)]/\True):=⟨by
 rintro K _ r ⟨E0,G0,E1,G1,rfl,ha0,ha1,-⟩ hx w hK;replace ha0:=Has.lo ha0 hK;replace ha1:=Has.lo ha1 hK;unfold Dd at hx;refine CtS ntmps89 results89 ?_;exact au⟩
instance(p0:Aj):Con (Gm p0) prog 147 (fun K vs=>∃ E0 G0,vs=[.agg #[.bool p0.Neg,.slice E0 p0.L.length G0]]/\Has K E0 p0.L.length G0 1 Af p0.L/\True) (fun _ r=>fun v Ln=>v = iq r/\Ln=[]/\True):=⟨by
 rintro K _ r ⟨E0,G0,rfl,ha0,-⟩ hx w hK;replace ha0:=Has.lo ha0 hK;unfold Gm at hx;refine CtS ntmps147 results147 ?_;exact au⟩
instance(p0:Aj):Con (Ji p0) prog 259 (fun K vs=>∃ E0 G0,vs=[.agg #[.bool p0.Neg,.slice E0 p0.L.length G0]]/\Has K E0 p0.L.length G0 1 Af p0.L/\True) (fun _ r=>fun v Ln=>v = .tuple #[iq r.1,.bool r.2]/\Ln=[]/\True):=⟨by
 rintro K _ r ⟨E0,G0,rfl,ha0,-⟩ hx w hK;replace ha0:=Has.lo ha0 hK;unfold Ji at hx;refine CtS ntmps259 results259 ?_;try (refine pre ?_;intros;rename_i hx)
 refine Bh ?_;try (refine pre ?_;intros;rename_i hx)
 refine Bh ?_;try (refine pre ?_;intros;rename_i hx)
 apply Jr (γ:=Unit) hx [1] (fun s3 y3 f=>(22,.bool s3)::f) [0,999] (fun s3 y3 l=>l);exact kk
 ·intro s3 y3 hx;refine Cq3 (s:=22) hx rfl (fun _ hx=>?_) (fun _ hx=>?_)
  ·exact au
  ·try (refine pre ?_;intros;rename_i hx)
   refine Bh ?_;try (refine pre ?_;intros;rename_i hx)
   apply Jr (γ:=Unit) hx [1] (fun s6 y6 f=>(4,iq s6)::f) [0,999] (fun s6 y6 l=>l);exact kk
   ·intro s6 y6 hx;exact au
   ·intro _ hx;try (refine pre ?_;intros;rename_i hx)
    apply Lr (γ:=Unit) hx [1] (fun s0 y0 f=>(4,iq s0.1)::(5,iq s0.2)::f) [0,999] (fun s0 y0 l=>l) ();exact kk;exact sk;intro s0 y0 x0 hx _;unfold Eg at hx;exact au
 ·intro _ hx;exact au⟩
theorem Aa0(p0:Aj)(p1:Aj){K:List Ent}{E0:Option Addr}{G0:Nat}{E1:Option Addr}{G1:Nat}(ha0:Has K E0 p0.L.length G0 1 Af p0.L)(ha1:Has K E1 p1.L.length G1 1 Af p1.L){r:Aj}(hx:Gn p0 p1=some r)(w:World)(hK:∀ e∈K,Ent.ok w e):CtL prog 260 [.agg #[.bool p0.Neg,.slice E0 p0.L.length G0],.agg #[.bool p1.Neg,.slice E1 p1.L.length G1]] w fun v Ln=>∃ (A0:Option Addr) (c0:Nat),v = .agg #[.bool r.Neg,.slice A0 r.L.length c0]/\Ln=[.r A0 r.L.length c0 3 1 (r.L.flatMap Af)]/\True:=by
 have ha0':=Has.up0 ha0;have ha1':=Has.up0 ha1;refine CtL.mk 31 func260 rfl ntmps260 kr rfl ?_;show T 31 _ [(0,.agg #[.bool p0.Neg,.slice E0 p0.L.length G0]),(1,.agg #[.bool p1.Neg,.slice E1 p1.L.length G1])] _;unfold Gn at hx;refine Y2 ?_;refine T_x (Pf rfl rfl rfl (fun g1=>?_));refine T_x (Pf rfl rfl rfl (fun g2=>?_));refine T_x (Bt Ayz rfl (fun g3=>?_));refine Y4 ?_;refine At (Bf rfl Xs rfl) rfl ?_;refine At (Bd rfl (i:=2) rfl rfl Ab6) rfl ?_;refine At (Bf rfl Xs rfl) rfl ?_;refine At (Bd rfl (i:=1) rfl rfl Ab6) rfl ?_;obtain⟨r4,h5,hx6⟩:=Ao hx;refine T_x (Br rfl (fun w1 hw1=>Nh p0.L p1.L (Has.len' ha0') (Has.len' ha1') h5 w1 (Ss (K:=K) (K2:=[]) hK (by exact (sb 3)) (by exact SubE.nil) hw1)) rfl ?_);rintro _ _ hlo ⟨A7,c8,A9,c1,e0,rfl,rfl,hs0,-⟩;have lo13:=hlo e0 s_;refine Zc ?_;have hs1:Has (K++[e0]) _ _ _ _ _ _:=Has.assoc hs0;refine Y10 ?_;refine At (Bf rfl Ai2 rfl) rfl ?_;refine At (Bd rfl (i:=4) rfl rfl one4) rfl ?_;refine Y3 ?_;refine Xw (s:=17) rfl (fun h0=>?_) (fun h0=>?_)
 ·have hx0:=Nn h0 hx6;refine Y4 ?_;refine At (En rfl (Wm _ _ _ _)) rfl ?_;refine T_h (Ay rfl rfl rfl (.there (.there (.here))) (.put (.put (.done))) rfl (List.cons_ne_nil _ _) Akh.2 ?_);refine Y4 ?_;obtain rfl:=Option.some.inj hx0;exact Df (rs:=[.cell 4 117]) results260 (.cell rfl (i:=2) rfl rfl Akh (.nil)) (Ln:=[.r A7 r4.1.length c8 3 1 (r4.1.flatMap Af)]) ⟨A7,c8,rfl,rfl,trivial⟩ (Bj rfl Cr) (by exact .pick 0 rfl (.drop 0 rfl (.drop 0 rfl (.drop 0 rfl (.drop 0 rfl (.refl))))))
 ·have hx1:=Io h0 hx6;refine Y3 ?_;refine Tj (γ:=Option Addr × Nat) hx1 (fun s6 y6=>[(4,.pointer (some ⟨g3,0,none⟩)),(5,.slice y6.1 s6.length y6.2)]) (fun s6 y6=>[.r y6.1 s6.length y6.2 3 1 (s6.flatMap Af),.m g3 117 [.bool false,.slice none 0 0]]++[.old w]) (fun s6 y6=>True) (fun s6 y6 hx2 hG0=>?_) (fun j6 hx1=>?_)
  ·refine Y3 ?_;refine At (Dn rfl 3 underlying42) rfl ?_;refine Y2 ?_;refine At (En rfl (Wm _ _ _ _)) rfl ?_;refine T_h (Ay rfl rfl rfl (.there (.here)) (.put (.put (.done))) rfl (List.cons_ne_nil _ _) Akh.2 ?_);refine Y3 ?_;obtain rfl:=Option.some.inj hx2;exact Df (rs:=[.cell 4 117]) results260 (.cell rfl (i:=1) rfl rfl Akh (.nil)) (Ln:=[.r y6.1 s6.length y6.2 3 1 (s6.flatMap Af)]) ⟨y6.1,y6.2,rfl,rfl,trivial⟩ (Bj rfl Cr) (by exact .pick 0 rfl (.drop 0 rfl (.refl)))
  ·refine Y3 ?_;refine At (Dn rfl 3 underlying42) rfl ?_;refine Y3 ?_;refine Ti hx1 (s:=22) rfl (fun h1 hx3=>?_) (fun h1 hx4=>?_)
   ·refine Y3 ?_;refine T_x (Bs rfl (Ju _) rfl (fun g0=>?_));refine Gb (k:=1) rfl dD (fun _=>rfl) (fun hn0 hs2=>?_);have hs3:Has [.m g0 3 [iq 1]] (some ⟨g0,0,none⟩) 1 1 1 Af [1]:=Has.ofM (fun _ _=>rfl) rfl dD rfl;obtain⟨r0,h2,hx5⟩:=Ao hx3;refine T_x (Br rfl (fun w1 hw1=>Aew r4.1 ([1]) (Has.len' (Has.up (L:=([.r A7 r4.1.length c8 3 1 (r4.1.flatMap Af),.m g0 3 [iq 1]]:List Ent)) hs2 (sb 0))) (Has.len' (Has.up (L:=([.r A7 r4.1.length c8 3 1 (r4.1.flatMap Af),.m g0 3 [iq 1]]:List Ent)) hs3 (sb 1))) h2 w1 (Wd (K:=([.r A7 r4.1.length c8 3 1 (r4.1.flatMap Af),.m g0 3 [iq 1]]:List Ent)) (by exact (SubE.cons2 (i:=1) rfl (sb 0))) hw1)) rfl ?_);rintro _ _ hlo ⟨A1,c2,rfl,rfl,-⟩;refine Lz ?_;refine Y2 ?_;exact Mt r0 (A1,c2) hx5 trivial (by exact .pick 0 rfl (.pick 3 rfl (.drop 0 rfl (.drop 0 rfl (.drop 0 rfl (.drop 0 rfl (.drop 0 rfl (.refl))))))))
   ·refine Y2 ?_;exact Mt r4.1 (A7,c8) hx4 trivial (by exact .pick 0 rfl (.pick 1 rfl (.drop 0 rfl (.drop 0 rfl (.drop 0 rfl (.refl))))))
instance(p0:Aj)(p1:Aj):Con (Gn p0 p1) prog 260 (fun K vs=>∃ E0 G0 E1 G1,vs=[.agg #[.bool p0.Neg,.slice E0 p0.L.length G0],.agg #[.bool p1.Neg,.slice E1 p1.L.length G1]]/\Has K E0 p0.L.length G0 1 Af p0.L/\Has K E1 p1.L.length G1 1 Af p1.L/\True) (fun _ r=>fun v Ln=>∃ A0 c0,v = .agg #[.bool r.Neg,.slice A0 r.L.length c0]/\Ln=[.r A0 r.L.length c0 3 1 (r.L.flatMap Af)]/\True):=⟨by
 rintro K _ r ⟨E0,G0,E1,G1,rfl,ha0,ha1,-⟩ hx w hK;exact Aa0 p0 p1 ha0 ha1 hx w hK⟩
theorem Ad7(p0:Aj)(p1:Aj){K:List Ent}{E0:Option Addr}{G0:Nat}{E1:Option Addr}{G1:Nat}(ha0:Has K E0 p0.L.length G0 1 Af p0.L)(ha1:Has K E1 p1.L.length G1 1 Af p1.L){r:Al}(hx:Dj p0 p1=some r)(w:World)(hK:∀ e∈K,Ent.ok w e):CtL prog 302 [.agg #[.bool p0.Neg,.slice E0 p0.L.length G0],.agg #[.bool p1.Neg,.slice E1 p1.L.length G1]] w fun v Ln=>∃ (A0:Option Addr) (c0:Nat) (A2:Option Addr) (c2:Nat),v = .agg #[.bool r.N.Neg,.slice A0 r.N.L.length c0,.slice A2 r.D.length c2]/\Ln=[.r A0 r.N.L.length c0 3 1 (r.N.L.flatMap Af),.r A2 r.D.length c2 3 1 (r.D.flatMap Af)]/\True:=by
 have ha0':=Has.up0 ha0;have ha1':=Has.up0 ha1;refine CtL.mk 40 func302 rfl ntmps302 kr rfl ?_;show T 40 _ [(0,.agg #[.bool p0.Neg,.slice E0 p0.L.length G0]),(1,.agg #[.bool p1.Neg,.slice E1 p1.L.length G1])] _;unfold Dj at hx;refine Y2 ?_;refine T_x (Pf rfl rfl rfl (fun g1=>?_));refine T_x (Pf rfl rfl rfl (fun g2=>?_));refine T_x (Bt Up rfl (fun g3=>?_));refine Y4 ?_;refine At (Bf rfl Xs rfl) rfl ?_;refine At (Bd rfl (i:=2) rfl rfl Ab6) rfl ?_;refine At (Bf rfl Xs rfl) rfl ?_;refine At (Bd rfl (i:=1) rfl rfl Ab6) rfl ?_;obtain⟨r4,h5,hx6⟩:=Ao hx;refine T_x (Br rfl (fun w1 hw1=>Af3 p0.L p1.L (Has.len' ha0') (Has.len' ha1') h5 w1 (Ss (K:=K) (K2:=[]) hK (by exact (sb 3)) (by exact SubE.nil) hw1)) rfl ?_);rintro _ _ hlo ⟨A7,c8,e9,rfl,rfl,hs0,-⟩;have lo11:=hlo e9 s_;refine Lz ?_;have hs1:Has (K++[e9]) _ _ _ _ _ _:=Has.assoc hs0;refine Y5 ?_;refine At (Bf rfl Xs rfl) rfl ?_;refine At (Bd rfl (i:=3) rfl rfl Ab6) rfl ?_;refine Y ?_;obtain⟨r0,h0,hx0⟩:=Ao hx6;refine T_x (Br rfl (fun w1 hw1=>Nh p0.L r4 (Has.len' (Has.up (L:=(K++[e9])) ha0' (SubE.app2 SubE.nil))) (Has.len' hs1) h0 w1 (Ss (K:=K) (K2:=[e9]) hK (by exact (sb 4)) (by exact (sb 0)) hw1)) rfl ?_);rintro _ _ hlo ⟨A1,c1,A3,c3,e0,rfl,rfl,hs2,-⟩;have lo22:=hlo e0 s_;refine Zc ?_;have hs3:Has (K++[e9,e0]) _ _ _ _ _ _:=Has.assoc hs2;refine Y9 ?_;refine At (Bf rfl Xs rfl) rfl ?_;refine At (Bd rfl (i:=4) rfl rfl Ab6) rfl ?_;refine Y ?_;obtain⟨r1,h1,hx1⟩:=Ao hx0;refine T_x (Br rfl (fun w1 hw1=>Nh p1.L r4 (Has.len' (Has.up (L:=(K++[e9])) ha1' (SubE.app2 SubE.nil))) (Has.len' hs1) h1 w1 (Ss (K:=K) (K2:=[e9]) hK (by exact (sb 6)) (by exact (sb 2)) hw1)) rfl ?_);rintro _ _ hlo ⟨A4,c4,A5,c5,e1,rfl,rfl,hs4,-⟩;have lo33:=hlo e1 s_;refine Zc ?_;have hs5:Has (K++[e9,e1]) _ _ _ _ _ _:=Has.assoc hs4;refine Y7 ?_;refine Tj (γ:=Unit) hx1 (fun s5 y5=>[(4,.pointer (some ⟨g3,0,none⟩))]) (fun s5 y5=>[.r A4 r1.1.length c4 3 1 (r1.1.flatMap Af),.r A1 r0.1.length c1 3 1 (r0.1.flatMap Af),.m g3 173 [.bool s5,.slice A1 r0.1.length c1,.slice A4 r1.1.length c4]]++[.old w]) (fun s5 y5=>True) (fun s5 y5 hx2 hG0=>?_) (fun j5 hx1=>?_)
 ·refine Y ?_;obtain rfl:=Option.some.inj hx2;exact Df (rs:=[.cell 4 173]) results302 (.cell rfl (i:=2) rfl rfl Cv (.nil)) (Ln:=[.r A1 r0.1.length c1 3 1 (r0.1.flatMap Af),.r A4 r1.1.length c4 3 1 (r1.1.flatMap Af)]) ⟨A1,c1,A4,c4,rfl,rfl,trivial⟩ (Bj rfl (Bj rfl Cr)) (by exact .pick 1 rfl (.pick 0 rfl (.drop 0 rfl (.refl))))
 ·refine Y ?_;refine At (Bf rfl Ai2 rfl) rfl ?_;refine At (Bd rfl (i:=7) rfl rfl one4) rfl ?_;refine Y ?_;refine Jv (s:=31) rfl (fun h2=>?_) (fun h2=>?_)
  ·have hx3:=Io h2 hx1;refine Y ?_;refine Qv rfl rfl rfl (Dn rfl 3 underlying42) rfl ?_;refine Y3 ?_;refine At (En rfl (Wm _ _ _ _)) rfl ?_;refine Y ?_;refine At (En rfl (Za _ _ _ _ _ _ _)) rfl ?_;refine T_h (Ay rfl rfl rfl (.there (.there (.there (.there (.there (.here)))))) (.put (.put (.put (.done)))) rfl (List.cons_ne_nil _ _) Cv.2 ?_);refine Y ?_;exact Mt (decide (0<(r0.1.length:Int))) () hx3 trivial (by exact .pick 0 rfl (.pick 1 rfl (.pick 3 rfl (.drop 0 rfl (.drop 0 rfl (.drop 0 rfl (.drop 0 rfl (.drop 0 rfl (.refl)))))))))
  ·have hx4:=Nn h2 hx1;refine Y5 ?_;refine At (En rfl (Wm _ _ _ _)) rfl ?_;refine Y ?_;refine At (En rfl (Za _ _ _ _ _ _ _)) rfl ?_;refine T_h (Ay rfl rfl rfl (.there (.there (.there (.there (.there (.here)))))) (.put (.put (.put (.done)))) rfl (List.cons_ne_nil _ _) Cv.2 ?_);refine Y ?_;exact Mt false () hx4 trivial (by exact .pick 0 rfl (.pick 1 rfl (.pick 3 rfl (.drop 0 rfl (.drop 0 rfl (.drop 0 rfl (.drop 0 rfl (.drop 0 rfl (.refl)))))))))
instance(p0:Aj)(p1:Aj):Con (Dj p0 p1) prog 302 (fun K vs=>∃ E0 G0 E1 G1,vs=[.agg #[.bool p0.Neg,.slice E0 p0.L.length G0],.agg #[.bool p1.Neg,.slice E1 p1.L.length G1]]/\Has K E0 p0.L.length G0 1 Af p0.L/\Has K E1 p1.L.length G1 1 Af p1.L/\True) (fun _ r=>fun v Ln=>∃ A0 c0 A2 c2,v = .agg #[.bool r.N.Neg,.slice A0 r.N.L.length c0,.slice A2 r.D.length c2]/\Ln=[.r A0 r.N.L.length c0 3 1 (r.N.L.flatMap Af),.r A2 r.D.length c2 3 1 (r.D.flatMap Af)]/\True):=⟨by
 rintro K _ r ⟨E0,G0,E1,G1,rfl,ha0,ha1,-⟩ hx w hK;exact Ad7 p0 p1 ha0 ha1 hx w hK⟩
instance(p0:Int):Con (Ck p0) prog 253 (fun _ vs=>vs=[iq p0]) (fun _ r=>fun v Ln=>∃ A0 c0 A2 c2,v = .agg #[.bool r.N.Neg,.slice A0 r.N.L.length c0,.slice A2 r.D.length c2]/\Ln=[.r A0 r.N.L.length c0 3 1 (r.N.L.flatMap Af),.r A2 r.D.length c2 3 1 (r.D.flatMap Af)]/\True):=⟨by
 rintro _ _ r rfl hx w hK;unfold Ck at hx;refine CtS ntmps253 results253 ?_;try (refine pre ?_;intros;rename_i hx)
 (with_reducible apply Aoj 5 (sz:=1));exact rfl;exact aT;exact inferInstance;exact dL;exact (fun _=>rfl);exact rfl;exact rfl;exact sA
 exact au⟩
instance(p0:Al)(p1:Al):Con (Cl p0 p1) prog 254 (fun K vs=>∃ E0 G0 E1 G1 E2 G2 E3 G3,vs=[.agg #[.bool p0.N.Neg,.slice E0 p0.N.L.length G0,.slice E1 p0.D.length G1],.agg #[.bool p1.N.Neg,.slice E2 p1.N.L.length G2,.slice E3 p1.D.length G3]]/\Has K E0 p0.N.L.length G0 1 Af p0.N.L/\Has K E1 p0.D.length G1 1 Af p0.D/\Has K E2 p1.N.L.length G2 1 Af p1.N.L/\Has K E3 p1.D.length G3 1 Af p1.D/\True) (fun _ r=>fun v Ln=>∃ A0 c0 A2 c2,v = .agg #[.bool r.N.Neg,.slice A0 r.N.L.length c0,.slice A2 r.D.length c2]/\Ln=[.r A0 r.N.L.length c0 3 1 (r.N.L.flatMap Af),.r A2 r.D.length c2 3 1 (r.D.flatMap Af)]/\True):=⟨by
 rintro K _ r ⟨E0,G0,E1,G1,E2,G2,E3,G3,rfl,ha0,ha1,ha2,ha3,-⟩ hx w hK;replace ha0:=Has.lo ha0 hK;replace ha1:=Has.lo ha1 hK;replace ha2:=Has.lo ha2 hK;replace ha3:=Has.lo ha3 hK;unfold Cl at hx;have:=dl 1 [0,1,0,1,0,2,0,1,0,1,0,2,2,0,1,0,1,2,0,2,3] [0,1,2,3,4,6,7,8,9,10,13,14,15,16,5,11,12,17,18,19,20];refine CtS ntmps254 results254 ?_;exact au⟩
instance(p0:Al):ConB (Hm p0) prog 261 (fun K vs=>∃ E0 G0 E1 G1,vs=[.agg #[.bool p0.N.Neg,.slice E0 p0.N.L.length G0,.slice E1 p0.D.length G1]]/\Has K E0 p0.N.L.length G0 1 Af p0.N.L/\Has K E1 p0.D.length G1 1 Af p0.D/\True) (fun K r=>fun v Ln=>∃ A0 c0 A2 c2 e,v = .agg #[.bool r.N.Neg,.slice A0 r.N.L.length c0,.slice A2 r.D.length c2]/\Ln=[e]/\Has (K++[e]) A0 r.N.L.length c0 1 Af r.N.L/\Has (K++[e]) A2 r.D.length c2 1 Af r.D/\True):=⟨by
 rintro K _ r ⟨E0,G0,E1,G1,rfl,ha0,ha1,-⟩ hx w hK;unfold Hm at hx;have:=dl 1 [0,1,2,0,1,0,3] [0,1,3,4,2,5,6];refine CtS ntmps261 results261 ?_;exact au⟩
instance(p0:Al)(p1:Al):Con (Cw p0 p1) prog 258 (fun K vs=>∃ E0 G0 E1 G1 E2 G2 E3 G3,vs=[.agg #[.bool p0.N.Neg,.slice E0 p0.N.L.length G0,.slice E1 p0.D.length G1],.agg #[.bool p1.N.Neg,.slice E2 p1.N.L.length G2,.slice E3 p1.D.length G3]]/\Has K E0 p0.N.L.length G0 1 Af p0.N.L/\Has K E1 p0.D.length G1 1 Af p0.D/\Has K E2 p1.N.L.length G2 1 Af p1.N.L/\Has K E3 p1.D.length G3 1 Af p1.D/\True) (fun _ r=>fun v Ln=>∃ A0 c0 A2 c2,v = .agg #[.bool r.N.Neg,.slice A0 r.N.L.length c0,.slice A2 r.D.length c2]/\Ln=[.r A0 r.N.L.length c0 3 1 (r.N.L.flatMap Af),.r A2 r.D.length c2 3 1 (r.D.flatMap Af)]/\True):=⟨by
 rintro K _ r ⟨E0,G0,E1,G1,E2,G2,E3,G3,rfl,ha0,ha1,ha2,ha3,-⟩ hx w hK;replace ha0:=Has.lo ha0 hK;replace ha1:=Has.lo ha1 hK;replace ha2:=Has.lo ha2 hK;replace ha3:=Has.lo ha3 hK;unfold Cw at hx;have:=dl 1 [1,1,2,2,3] [0,1,2,3,4];refine CtS ntmps258 results258 ?_;exact au⟩
instance(p0:Al)(p1:Al):Con (Dl p0 p1) prog 255 (fun K vs=>∃ E0 G0 E1 G1 E2 G2 E3 G3,vs=[.agg #[.bool p0.N.Neg,.slice E0 p0.N.L.length G0,.slice E1 p0.D.length G1],.agg #[.bool p1.N.Neg,.slice E2 p1.N.L.length G2,.slice E3 p1.D.length G3]]/\Has K E0 p0.N.L.length G0 1 Af p0.N.L/\Has K E1 p0.D.length G1 1 Af p0.D/\Has K E2 p1.N.L.length G2 1 Af p1.N.L/\Has K E3 p1.D.length G3 1 Af p1.D/\True) (fun _ r=>fun v Ln=>∃ A0 c0 A2 c2,v = .agg #[.bool r.N.Neg,.slice A0 r.N.L.length c0,.slice A2 r.D.length c2]/\Ln=[.r A0 r.N.L.length c0 3 1 (r.N.L.flatMap Af),.r A2 r.D.length c2 3 1 (r.D.flatMap Af)]/\True):=⟨by
 rintro K _ r ⟨E0,G0,E1,G1,E2,G2,E3,G3,rfl,ha0,ha1,ha2,ha3,-⟩ hx w hK;replace ha0:=Has.lo ha0 hK;replace ha1:=Has.lo ha1 hK;replace ha2:=Has.lo ha2 hK;replace ha3:=Has.lo ha3 hK;unfold Dl at hx;have:=dl 1 [0,1,0,1,2,0,1,0,1,2,0,2,3] [0,1,2,3,5,6,7,8,4,9,10,11,12];refine CtS ntmps255 results255 ?_;exact au⟩
instance(p0:Al)(p1:Al):Con (Oc p0 p1) prog 257 (fun K vs=>∃ E0 G0 E1 G1 E2 G2 E3 G3,vs=[.agg #[.bool p0.N.Neg,.slice E0 p0.N.L.length G0,.slice E1 p0.D.length G1],.agg #[.bool p1.N.Neg,.slice E2 p1.N.L.length G2,.slice E3 p1.D.length G3]]/\Has K E0 p0.N.L.length G0 1 Af p0.N.L/\Has K E1 p0.D.length G1 1 Af p0.D/\Has K E2 p1.N.L.length G2 1 Af p1.N.L/\Has K E3 p1.D.length G3 1 Af p1.D/\True) (fun _ r=>fun v Ln=>∃ A0 c0 A2 c2,v = .agg #[.bool r.N.Neg,.slice A0 r.N.L.length c0,.slice A2 r.D.length c2]/\Ln=[.r A0 r.N.L.length c0 3 1 (r.N.L.flatMap Af),.r A2 r.D.length c2 3 1 (r.D.flatMap Af)]/\True):=⟨by
 rintro K _ r ⟨E0,G0,E1,G1,E2,G2,E3,G3,rfl,ha0,ha1,ha2,ha3,-⟩ hx w hK;replace ha0:=Has.lo ha0 hK;replace ha1:=Has.lo ha1 hK;replace ha2:=Has.lo ha2 hK;replace ha3:=Has.lo ha3 hK;unfold Oc at hx;have:=dl 1 [0,1,0,1,0,2,0,1,0,1,0,2,4,4,3,3] [0,1,2,3,4,6,7,8,9,10,5,11,12,13,14,15] [12,13];refine CtS ntmps257 results257 ?_;exact au⟩
instance Ad8(p0:Al)(p1:Al):Con (Hn p0 p1) prog 206 (fun K vs=>∃ E0 G0 E1 G1 E2 G2 E3 G3,vs=[.agg #[.bool p0.N.Neg,.slice E0 p0.N.L.length G0,.slice E1 p0.D.length G1],.agg #[.bool p1.N.Neg,.slice E2 p1.N.L.length G2,.slice E3 p1.D.length G3]]/\Has K E0 p0.N.L.length G0 1 Af p0.N.L/\Has K E1 p0.D.length G1 1 Af p0.D/\Has K E2 p1.N.L.length G2 1 Af p1.N.L/\Has K E3 p1.D.length G3 1 Af p1.D/\True) (fun _ r=>fun v Ln=>v = iq r/\Ln=[]/\True):=⟨by
 rintro K _ r ⟨E0,G0,E1,G1,E2,G2,E3,G3,rfl,ha0,ha1,ha2,ha3,-⟩ hx w hK;replace ha0:=Has.lo ha0 hK;replace ha1:=Has.lo ha1 hK;replace ha2:=Has.lo ha2 hK;replace ha3:=Has.lo ha3 hK;unfold Hn at hx;refine CtS ntmps206 results206 ?_;exact au⟩
theorem Wt(p0:Al)(p1:Al){K:List Ent}{E0:Option Addr}{G0:Nat}{E1:Option Addr}{G1:Nat}{E2:Option Addr}{G2:Nat}{E3:Option Addr}{G3:Nat}(ha0:Has K E0 p0.N.L.length G0 1 Af p0.N.L)(ha1:Has K E1 p0.D.length G1 1 Af p0.D)(ha2:Has K E2 p1.N.L.length G2 1 Af p1.N.L)(ha3:Has K E3 p1.D.length G3 1 Af p1.D){r:Int}(hx:Hn p0 p1=some r)(w:World)(hK:∀ e∈K,Ent.ok w e):CtL prog 206 [.agg #[.bool p0.N.Neg,.slice E0 p0.N.L.length G0,.slice E1 p0.D.length G1],.agg #[.bool p1.N.Neg,.slice E2 p1.N.L.length G2,.slice E3 p1.D.length G3]] w fun v Ln=>v = iq r/\Ln=[]/\True:=(Ad8 p0 p1).h K _ _ ⟨_,_,_,_,_,_,_,_,rfl,ha0,ha1,ha2,ha3,trivial⟩ hx w hK
instance Abz(p0:Al):Con (Fn p0) prog 208 (fun K vs=>∃ E0 G0 E1 G1,vs=[.agg #[.bool p0.N.Neg,.slice E0 p0.N.L.length G0,.slice E1 p0.D.length G1]]/\Has K E0 p0.N.L.length G0 1 Af p0.N.L/\Has K E1 p0.D.length G1 1 Af p0.D/\True) (fun _ r=>fun v Ln=>∃ A0 c0,v = .agg #[.bool r.Neg,.slice A0 r.L.length c0]/\Ln=[.r A0 r.L.length c0 3 1 (r.L.flatMap Af)]/\True):=⟨by
 rintro K _ r ⟨E0,G0,E1,G1,rfl,ha0,ha1,-⟩ hx w hK;replace ha0:=Has.lo ha0 hK;replace ha1:=Has.lo ha1 hK;unfold Fn at hx;refine CtS ntmps208 results208 ?_;exact au⟩
theorem Abm(p0:Al){K:List Ent}{E0:Option Addr}{G0:Nat}{E1:Option Addr}{G1:Nat}(ha0:Has K E0 p0.N.L.length G0 1 Af p0.N.L)(ha1:Has K E1 p0.D.length G1 1 Af p0.D){r:Aj}(hx:Fn p0=some r)(w:World)(hK:∀ e∈K,Ent.ok w e):CtL prog 208 [.agg #[.bool p0.N.Neg,.slice E0 p0.N.L.length G0,.slice E1 p0.D.length G1]] w fun v Ln=>∃ (A0:Option Addr) (c0:Nat),v = .agg #[.bool r.Neg,.slice A0 r.L.length c0]/\Ln=[.r A0 r.L.length c0 3 1 (r.L.flatMap Af)]/\True:=(Abz p0).h K _ _ ⟨_,_,_,_,rfl,ha0,ha1,trivial⟩ hx w hK
instance Ade(p0:Al):ConB (Ix p0) prog 209 (fun K vs=>∃ E0 G0 E1 G1,vs=[.agg #[.bool p0.N.Neg,.slice E0 p0.N.L.length G0,.slice E1 p0.D.length G1]]/\Has K E0 p0.N.L.length G0 1 Af p0.N.L/\Has K E1 p0.D.length G1 1 Af p0.D/\True) (fun K r=>fun v Ln=>∃ A0 c0 e,v = .agg #[.bool r.Neg,.slice A0 r.L.length c0]/\Ln=[e]/\Has (K++[e]) A0 r.L.length c0 1 Af r.L/\True):=⟨by
 rintro K _ r ⟨E0,G0,E1,G1,rfl,ha0,ha1,-⟩ hx w hK;unfold Ix at hx;refine CtS ntmps209 results209 ?_;exact au⟩
theorem Ab0(p0:Al){K:List Ent}{E0:Option Addr}{G0:Nat}{E1:Option Addr}{G1:Nat}(ha0:Has K E0 p0.N.L.length G0 1 Af p0.N.L)(ha1:Has K E1 p0.D.length G1 1 Af p0.D){r:Aj}(hx:Ix p0=some r)(w:World)(hK:∀ e∈K,Ent.ok w e):CtL prog 209 [.agg #[.bool p0.N.Neg,.slice E0 p0.N.L.length G0,.slice E1 p0.D.length G1]] w fun v Ln=>∃ (A0:Option Addr) (c0:Nat) (e0:Ent),v = .agg #[.bool r.Neg,.slice A0 r.L.length c0]/\Ln=[e0]/\Has (K++[e0]) A0 r.L.length c0 1 Af r.L/\True:=CtL.pad 0 ((Ade p0).h K _ _ ⟨E0,G0,E1,G1,rfl,ha0,ha1,trivial⟩ hx w hK) (by rintro _ _ ⟨_,_,_,rfl,rfl,h0,-⟩;exact⟨_,_,_,rfl,rfl,h0.padN 0,trivial⟩)
instance Agg(p0:Aj):Con (Kx p0) prog 207 (fun K vs=>∃ E0 G0,vs=[.agg #[.bool p0.Neg,.slice E0 p0.L.length G0]]/\Has K E0 p0.L.length G0 1 Af p0.L/\True) (fun _ r=>fun v Ln=>v = .tuple #[iq r.1,iq r.2]/\Ln=[]/\True):=⟨by
 rintro K _ r ⟨E0,G0,rfl,ha0,-⟩ hx w hK;replace ha0:=Has.lo ha0 hK;unfold Kx at hx;refine CtS ntmps207 results207 ?_;exact au⟩
theorem Yo(p0:Aj){K:List Ent}{E0:Option Addr}{G0:Nat}(ha0:Has K E0 p0.L.length G0 1 Af p0.L){r:Int × Int}(hx:Kx p0=some r)(w:World)(hK:∀ e∈K,Ent.ok w e):CtL prog 207 [.agg #[.bool p0.Neg,.slice E0 p0.L.length G0]] w fun v Ln=>v = .tuple #[iq r.1,iq r.2]/\Ln=[]/\True:=(Agg p0).h K _ _ ⟨_,_,rfl,ha0,trivial⟩ hx w hK
theorem Ab1(p0:List Al){K:List Ent}{E0:Option Addr}{G0:Nat}(ha0:HasN K E0 p0.length G0 3 Aby p0){r:Aw × Int}(hx:Mu p0=some r)(w:World)(hK:∀ e∈K,Ent.ok w e):CtL prog 142 [.slice E0 p0.length G0] w fun v Ln=>v = .tuple #[.agg #[iq r.1.Lo,iq r.1.Hi],iq r.2]/\Ln=[]/\True:=by
 have ha0':=HasN.up0 ha0;refine CtL.mk 67 func142 rfl ntmps142 kr rfl ?_;show T 67 _ [(0,.slice E0 p0.length G0)] _;unfold Mu at hx;refine Y2 ?_;refine T_x (Bt Ao2 rfl (fun g1=>?_));refine Y3 ?_;obtain⟨j2,hj2,hx⟩:=Ac3 hx;refine Aa5 (τ:=Bool × List Int × List Int × Bool × List Int × List Int) (γ:=Nat × Option Addr × Nat × Option Addr × Nat × Nat × Option Addr × Nat × Option Addr × Nat) (J:=j2) (out:=r) (fun s2 y2=>[(0,.slice E0 p0.length G0),(2,.pointer (some ⟨g1,0,none⟩)),(4,.pointer (some ⟨y2.1,0,none⟩)),(5,.pointer (some ⟨y2.2.2.2.2.2.1,0,none⟩))]) (fun s2 y2=>[.m y2.2.2.2.2.2.1 173 [.bool s2.2.2.2.1,.slice y2.2.2.2.2.2.2.1 s2.2.2.2.2.1.length y2.2.2.2.2.2.2.2.1,.slice y2.2.2.2.2.2.2.2.2.1 s2.2.2.2.2.2.length y2.2.2.2.2.2.2.2.2.2],.m y2.1 173 [.bool s2.1,.slice y2.2.1 s2.2.1.length y2.2.2.1,.slice y2.2.2.2.1 s2.2.2.1.length y2.2.2.2.2.1],.m g1 28 [iq 0,iq 0]]++[.old w]) (fun s2 y2=>Has (K++[]) y2.2.1 s2.2.1.length y2.2.2.1 1 Af s2.2.1/\Has (K++[]) y2.2.2.2.1 s2.2.2.1.length y2.2.2.2.2.1 1 Af s2.2.2.1/\Has (K++[]) y2.2.2.2.2.2.2.1 s2.2.2.2.2.1.length y2.2.2.2.2.2.2.2.1 1 Af s2.2.2.2.2.1/\Has (K++[]) y2.2.2.2.2.2.2.2.2.1 s2.2.2.2.2.2.length y2.2.2.2.2.2.2.2.2.2 1 Af s2.2.2.2.2.2/\True) ?_ ?_
 ·intro s2 y2 hx0 hG0;obtain⟨hs0,hs1,hs2,hs3,-⟩:=hG0;subst hj2;obtain⟨j3,hj3,hx0⟩:=Ac3 hx0;refine Aa5 (τ:=Bool × List Int × List Int × Bool × List Int × List Int) (γ:=Option Addr × Nat × Option Addr × Nat × Option Addr × Nat × Option Addr × Nat) (J:=j3) (out:=r) (fun s3 y3=>[(2,.pointer (some ⟨g1,0,none⟩)),(4,.pointer (some ⟨y2.1,0,none⟩)),(5,.pointer (some ⟨y2.2.2.2.2.2.1,0,none⟩))]) (fun s3 y3=>[.m y2.2.2.2.2.2.1 173 [.bool s3.2.2.2.1,.slice y3.2.2.2.2.1 s3.2.2.2.2.1.length y3.2.2.2.2.2.1,.slice y3.2.2.2.2.2.2.1 s3.2.2.2.2.2.length y3.2.2.2.2.2.2.2],.m y2.1 173 [.bool s3.1,.slice y3.1 s3.2.1.length y3.2.1,.slice y3.2.2.1 s3.2.2.1.length y3.2.2.2.1],.m g1 28 [iq 0,iq 0]]++[.old w]) (fun s3 y3=>Has (K++[]) y3.1 s3.2.1.length y3.2.1 1 Af s3.2.1/\Has (K++[]) y3.2.2.1 s3.2.2.1.length y3.2.2.2.1 1 Af s3.2.2.1/\Has (K++[]) y3.2.2.2.2.1 s3.2.2.2.2.1.length y3.2.2.2.2.2.1 1 Af s3.2.2.2.2.1/\Has (K++[]) y3.2.2.2.2.2.2.1 s3.2.2.2.2.2.length y3.2.2.2.2.2.2.2 1 Af s3.2.2.2.2.2/\True) ?_ ?_
  ·intro s3 y3 hx1 hG1;obtain⟨hs4,hs5,hs6,hs7,-⟩:=hG1;subst hj3;refine Y2 ?_;refine At (Bo rfl (i:=1) rfl rfl Cv) rfl ?_;obtain⟨r0,h0,hx2⟩:=Ao hx1;refine T_x (Br rfl (fun w1 hw1=>Abm (⟨(⟨s3.1,s3.2.1⟩:Aj),s3.2.2.1⟩:Al) (Has.len' hs4) (Has.len' hs5) h0 w1 (Ss (K:=K) (K2:=[]) hK (by exact (sb 3)) (by exact SubE.nil) hw1)) rfl ?_);rintro _ _ hlo ⟨A0,c0,rfl,rfl,-⟩;refine Lz ?_;refine Gb (k:=0) rfl dD (fun _=>rfl) (fun hn0 hs8=>?_);obtain⟨r1,h1,hx3⟩:=Ao hx2;refine Tc (fun w1 hw1=>Yo r0 (Has.len' hs8) h1 w1 (Wd (K:=([.r A0 r0.L.length c0 3 1 (r0.L.flatMap Af)]:List Ent)) (by exact (sb 0)) hw1)) ?_;refine Y9 ?_;refine At (Bo rfl (i:=1) rfl rfl Cv) rfl ?_;obtain⟨r2,h2,hx4⟩:=Ao hx3;refine T_x (Br rfl (fun w1 hw1=>Ab0 (⟨(⟨s3.2.2.2.1,s3.2.2.2.2.1⟩:Aj),s3.2.2.2.2.2⟩:Al) (Has.len' hs6) (Has.len' hs7) h2 w1 (Ss (K:=K) (K2:=[]) hK (by exact (sb 4)) (by exact SubE.nil) hw1)) rfl ?_);rintro _ _ hlo ⟨A1,c1,e0,rfl,rfl,hs9,-⟩;have lo327:=hlo e0 s_;refine Lz ?_;have hs10:Has (K++[e0]) _ _ _ _ _ _:=Has.assoc hs9;obtain⟨r3,h4,hx5⟩:=Ao hx4;refine Tc (fun w1 hw1=>Yo r2 (Has.len' hs10) h4 w1 (Ss (K:=K) (K2:=[e0]) hK (by exact (sb 5)) (by exact (sb 0)) hw1)) ?_;refine Y8 ?_;refine Tj (γ:=Unit) hx5 (fun s0 y0=>[(2,.pointer (some ⟨g1,0,none⟩)),(7,iq r1.1),(9,iq r3.1),(62,.bool s0)]) (fun s0 y0=>[.m g1 28 [iq 0,iq 0]]++[.old w]) (fun s0 y0=>True) (fun s0 y0 hx6 hG2=>?_) (fun j0 hx5=>?_)
   ·refine Jv (s:=62) rfl (fun h5=>?_) (fun h5=>?_)
    ·have hx7:=Io h5 hx6;refine Y3 ?_;refine At (En rfl Aqw) rfl ?_;refine T_h (Ay rfl rfl rfl (.here) (.put (.put (.done))) rfl (List.cons_ne_nil _ _) Abk.2 ?_);refine Y5 ?_;obtain rfl:=Option.some.inj hx7;exact Df (rs:=[.cell 2 28,.tmp 3]) results142 (.cell rfl (i:=0) rfl rfl Abk (.tmp rfl (.nil))) (Ln:=[]) ⟨rfl,rfl,trivial⟩ Cr (by exact .drop 0 rfl (.refl))
    ·have hx8:=Nn h5 hx6;refine Y7 ?_;refine At (En rfl (Yb _ _)) rfl ?_;refine T_h (Ay rfl rfl rfl (.here) (.put (.put (.done))) rfl (List.cons_ne_nil _ _) Abk.2 ?_);refine Y4 ?_;obtain rfl:=Option.some.inj hx8;exact Df (rs:=[.cell 2 28,.tmp 3]) results142 (.cell rfl (i:=0) rfl rfl Abk (.tmp rfl (.nil))) (Ln:=[]) ⟨rfl,rfl,trivial⟩ Cr (by exact .drop 0 rfl (.refl))
   ·refine Y4 ?_;refine Xx (s:=59) rfl (fun h6=>?_) (fun h6=>?_)
    ·have hx9:=Yu h6 hx5;refine Y4 ?_;exact Mt true () hx9 trivial (by exact .pick 4 rfl (.drop 0 rfl (.drop 0 rfl (.drop 0 rfl (.drop 0 rfl (.refl))))))
    ·have hx10:=Io h6 hx5;refine Y4 ?_;exact Mt (!(decide (r3.2=0))) () hx10 trivial (by exact .pick 4 rfl (.drop 0 rfl (.drop 0 rfl (.drop 0 rfl (.drop 0 rfl (.refl))))))
  ·skip;refine Y6 ?_;obtain⟨t0,hl0,ho0⟩:=Ao hx0;refine Lp (σ:=Bool × List Int × List Int × Bool × List Int × List Int × Int) (γ:=Option Addr × Nat × Option Addr × Nat × Option Addr × Nat × Option Addr × Nat) hl0 (fun s1 y1=>[(0,.slice E0 p0.length G0),(2,.pointer (some ⟨g1,0,none⟩)),(4,.pointer (some ⟨y2.1,0,none⟩)),(5,.pointer (some ⟨y2.2.2.2.2.2.1,0,none⟩)),(6,iq s1.2.2.2.2.2.2)]) (fun s1 y1=>[.m y2.2.2.2.2.2.1 173 [.bool s1.2.2.2.1,.slice y1.2.2.2.2.1 s1.2.2.2.2.1.length y1.2.2.2.2.2.1,.slice y1.2.2.2.2.2.2.1 s1.2.2.2.2.2.1.length y1.2.2.2.2.2.2.2],.m y2.1 173 [.bool s1.1,.slice y1.1 s1.2.1.length y1.2.1,.slice y1.2.2.1 s1.2.2.1.length y1.2.2.2.1],.m g1 28 [iq 0,iq 0]]++[.old w]) (fun s1 y1=>Has (K++[]) y1.1 s1.2.1.length y1.2.1 1 Af s1.2.1/\Has (K++[]) y1.2.2.1 s1.2.2.1.length y1.2.2.2.1 1 Af s1.2.2.1/\Has (K++[]) y1.2.2.2.2.1 s1.2.2.2.2.1.length y1.2.2.2.2.2.1 1 Af s1.2.2.2.2.1/\Has (K++[]) y1.2.2.2.2.2.2.1 s1.2.2.2.2.2.1.length y1.2.2.2.2.2.2.2 1 Af s1.2.2.2.2.2.1/\True) (y2.2.1,y2.2.2.1,y2.2.2.2.1,y2.2.2.2.2.1,y2.2.2.2.2.2.2.1,y2.2.2.2.2.2.2.2.1,y2.2.2.2.2.2.2.2.2.1,y2.2.2.2.2.2.2.2.2.2) ((by exact⟨Has.len' hs0,Has.len' hs1,Has.len' hs2,Has.len' hs3,trivial⟩)) (by exact .pick 0 rfl (.pick 0 rfl (.pick 0 rfl (.refl)))) ?_
   intro s1 y1 hG3 x0 hx11 ht0;unfold Fs at hx11;obtain⟨hs11,hs12,hs13,hs14,-⟩:=hG3;refine Y5 ?_;refine At (Dn rfl 173 underlying177) rfl ?_;refine Y3 ?_;refine Ti hx11 (s:=20) rfl (fun h7 hx12=>?_) (fun h7 hx13=>?_)
   ·refine Y3 ?_;obtain⟨j1,hj0,hx12⟩:=Ac3 hx12;refine Aa5 (τ:=Bool × List Int × List Int × Bool × List Int × List Int) (γ:=Option Addr × Nat × Option Addr × Nat × Option Addr × Nat × Option Addr × Nat) (J:=j1) (out:=x0) (fun s4 y4=>[(0,.slice E0 p0.length G0),(2,.pointer (some ⟨g1,0,none⟩)),(4,.pointer (some ⟨y2.1,0,none⟩)),(5,.pointer (some ⟨y2.2.2.2.2.2.1,0,none⟩)),(6,iq s1.2.2.2.2.2.2)]) (fun s4 y4=>[.m y2.2.2.2.2.2.1 173 [.bool s4.2.2.2.1,.slice y4.2.2.2.2.1 s4.2.2.2.2.1.length y4.2.2.2.2.2.1,.slice y4.2.2.2.2.2.2.1 s4.2.2.2.2.2.length y4.2.2.2.2.2.2.2],.m y2.1 173 [.bool s4.1,.slice y4.1 s4.2.1.length y4.2.1,.slice y4.2.2.1 s4.2.2.1.length y4.2.2.2.1],.m g1 28 [iq 0,iq 0]]++[.old w]) (fun s4 y4=>Has (K++[]) y4.1 s4.2.1.length y4.2.1 1 Af s4.2.1/\Has (K++[]) y4.2.2.1 s4.2.2.1.length y4.2.2.2.1 1 Af s4.2.2.1/\Has (K++[]) y4.2.2.2.2.1 s4.2.2.2.2.1.length y4.2.2.2.2.2.1 1 Af s4.2.2.2.2.1/\Has (K++[]) y4.2.2.2.2.2.2.1 s4.2.2.2.2.2.length y4.2.2.2.2.2.2.2 1 Af s4.2.2.2.2.2/\True) ?_ ?_
    ·intro s4 y4 hx14 hG4;obtain⟨hs15,hs16,hs17,hs18,-⟩:=hG4;subst hj0;refine Y5 ?_;exact Rp (s4.1,s4.2.1,s4.2.2.1,s4.2.2.2.1,s4.2.2.2.2.1,s4.2.2.2.2.2,w64 (s1.2.2.2.2.2.2+1)) (y4.1,y4.2.1,y4.2.2.1,y4.2.2.2.1,y4.2.2.2.2.1,y4.2.2.2.2.2.1,y4.2.2.2.2.2.2.1,y4.2.2.2.2.2.2.2) hx14 ((by exact⟨Has.len' hs15,Has.len' hs16,Has.len' hs17,Has.len' hs18,trivial⟩)) (by exact .pick 0 rfl (.pick 0 rfl (.pick 0 rfl (.refl))))
    ·skip;refine Y ?_;obtain⟨j4,hj1,hx12⟩:=Ac3 hx12;refine Aa5 (τ:=Bool × List Int × List Int) (γ:=Option Addr × Nat × Option Addr × Nat) (J:=j4) (out:=x0) (fun s5 y5=>[(0,.slice E0 p0.length G0),(2,.pointer (some ⟨g1,0,none⟩)),(4,.pointer (some ⟨y2.1,0,none⟩)),(5,.pointer (some ⟨y2.2.2.2.2.2.1,0,none⟩)),(6,iq s1.2.2.2.2.2.2)]) (fun s5 y5=>[.m y2.2.2.2.2.2.1 173 [.bool s1.2.2.2.1,.slice y1.2.2.2.2.1 s1.2.2.2.2.1.length y1.2.2.2.2.2.1,.slice y1.2.2.2.2.2.2.1 s1.2.2.2.2.2.1.length y1.2.2.2.2.2.2.2],.m y2.1 173 [.bool s5.1,.slice y5.1 s5.2.1.length y5.2.1,.slice y5.2.2.1 s5.2.2.length y5.2.2.2],.m g1 28 [iq 0,iq 0]]++[.old w]) (fun s5 y5=>Has (K++[]) y5.1 s5.2.1.length y5.2.1 1 Af s5.2.1/\Has (K++[]) y5.2.2.1 s5.2.2.length y5.2.2.2 1 Af s5.2.2/\True) ?_ ?_
     ·intro s5 y5 hx15 hG5;obtain⟨hs19,hs20,-⟩:=hG5;subst hj1;refine Y ?_;refine T_dr [0,0,0,1,1,2,0] (.q 0 (.q 1 (.q 2 (.q 3 (.q 4 (.e 5 (.q 6 (.done)) (.stop))))))) mixed kr kr ?_;refine Y2 ?_;obtain⟨x1,h8,hx16⟩:=Ao hx15;obtain⟨b0,o0,j5,ys270,hA0,hj4,hl1,hp0,hr271⟩:=HasN.at_idx ha0' h8;obtain⟨A2,c2,A3,c3,rfl,hs21,hs22⟩:=hr271;have hp1:=Pt.low (E:=[]) hp0 hK;refine P_p rfl rfl (Bl rfl rfl hA0 (j:=j5) hj4 hl1 Ad6) rfl ?_;refine P_q rfl rfl (Db rfl hp1 (sb 3) rfl Cv) rfl ?_;refine P_q rfl rfl (Bo rfl (i:=0) rfl rfl Cv) rfl ?_;obtain⟨r4,h9,hx17⟩:=Ao hx16;refine Pc (fun w1 hw1=>Wt x1 (⟨(⟨s1.2.2.2.1,s1.2.2.2.2.1⟩:Aj),s1.2.2.2.2.2.1⟩:Al) (Has.len' hs21) (Has.len' hs22) (Has.len' hs13) (Has.len' hs14) h9 w1 (Ss (K:=K) (K2:=[]) hK (by exact (sb 3)) (by exact SubE.nil) hw1)) ?_;refine Y3 ?_;refine Ti hx17 (s:=40) rfl (fun h10 hx18=>?_) (fun h10 hx19=>?_)
      ·refine Y4 ?_;obtain⟨x3,h11,hx20⟩:=Ao hx18;obtain⟨b1,o1,j6,ys294,hA1,hj5,hl2,hp2,hr295⟩:=HasN.at_idx ha0' h11;obtain⟨A4,c4,A5,c5,rfl,hs23,hs24⟩:=hr295;have hp3:=Pt.low (E:=[]) hp2 hK;refine At (Bl rfl rfl hA1 (j:=j6) hj5 hl2 Ad6) rfl ?_;refine At (Db rfl hp3 (sb 3) rfl Cv) rfl ?_;refine T_h (Ay rfl rfl rfl (.here) (.put (.put (.put (.done)))) rfl (List.cons_ne_nil _ _) Cv.2 ?_);refine Y2 ?_;exact Mt (s5.1,s5.2.1,s5.2.2,x3.N.Neg,x3.N.L,x3.D) (y5.1,y5.2.1,y5.2.2.1,y5.2.2.2,A4,c4,A5,c5) hx20 ((by exact⟨Has.len' hs19,Has.len' hs20,Has.len' hs23,Has.len' hs24,trivial⟩)) (by exact .pick 0 rfl (.pick 0 rfl (.pick 0 rfl (.refl))))
      ·refine Y3 ?_;exact Mt (s5.1,s5.2.1,s5.2.2,s1.2.2.2.1,s1.2.2.2.2.1,s1.2.2.2.2.2.1) (y5.1,y5.2.1,y5.2.2.1,y5.2.2.2,y1.2.2.2.2.1,y1.2.2.2.2.2.1,y1.2.2.2.2.2.2.1,y1.2.2.2.2.2.2.2) hx19 ((by exact⟨Has.len' hs19,Has.len' hs20,Has.len' hs13,Has.len' hs14,trivial⟩)) (by exact .pick 0 rfl (.pick 0 rfl (.pick 0 rfl (.refl))))
     ·skip;refine Y ?_;refine T_dr [0,0,0,1,1,2,0] (.q 0 (.q 1 (.q 2 (.q 3 (.q 4 (.e 5 (.q 6 (.done)) (.stop))))))) mixed kr kr ?_;refine Y2 ?_;obtain⟨x4,h12,hx21⟩:=Ao hx12;obtain⟨b2,o2,j7,ys222,hA2,hj6,hl3,hp4,hr223⟩:=HasN.at_idx ha0' h12;obtain⟨A6,c6,A7,c7,rfl,hs25,hs26⟩:=hr223;have hp5:=Pt.low (E:=[]) hp4 hK;refine P_p rfl rfl (Bl rfl rfl hA2 (j:=j7) hj6 hl3 Ad6) rfl ?_;refine P_q rfl rfl (Db rfl hp5 (sb 3) rfl Cv) rfl ?_;refine P_q rfl rfl (Bo rfl (i:=1) rfl rfl Cv) rfl ?_;obtain⟨r5,h13,hx22⟩:=Ao hx21;refine Pc (fun w1 hw1=>Wt x4 (⟨(⟨s1.1,s1.2.1⟩:Aj),s1.2.2.1⟩:Al) (Has.len' hs25) (Has.len' hs26) (Has.len' hs11) (Has.len' hs12) h13 w1 (Ss (K:=K) (K2:=[]) hK (by exact (sb 3)) (by exact SubE.nil) hw1)) ?_;refine Y3 ?_;refine Ti hx22 (s:=29) rfl (fun h14 hx23=>?_) (fun h14 hx24=>?_)
      ·refine Y4 ?_;obtain⟨x5,h15,hx25⟩:=Ao hx23;obtain⟨b3,o3,j8,ys246,hA3,hj7,hl4,hp6,hr247⟩:=HasN.at_idx ha0' h15;obtain⟨A8,c8,A9,c9,rfl,hs27,hs28⟩:=hr247;have hp7:=Pt.low (E:=[]) hp6 hK;refine At (Bl rfl rfl hA3 (j:=j8) hj7 hl4 Ad6) rfl ?_;refine At (Db rfl hp7 (sb 3) rfl Cv) rfl ?_;refine T_h (Ay rfl rfl rfl (.there (.here)) (.put (.put (.put (.done)))) rfl (List.cons_ne_nil _ _) Cv.2 ?_);refine Y ?_;exact Mt (x5.N.Neg,x5.N.L,x5.D) (A8,c8,A9,c9) hx25 ((by exact⟨Has.len' hs27,Has.len' hs28,trivial⟩)) (by exact .pick 0 rfl (.pick 0 rfl (.pick 0 rfl (.refl))))
      ·refine Y2 ?_;exact Mt (s1.1,s1.2.1,s1.2.2.1) (y1.1,y1.2.1,y1.2.2.1,y1.2.2.2.1) hx24 ((by exact⟨Has.len' hs11,Has.len' hs12,trivial⟩)) (by exact .pick 0 rfl (.pick 0 rfl (.pick 0 rfl (.refl))))
   ·refine Y3 ?_;obtain rfl:=Ii ht0 hx13;refine Y2 ?_;exact Mt (s1.1,s1.2.1,s1.2.2.1,s1.2.2.2.1,s1.2.2.2.2.1,s1.2.2.2.2.2.1) (y1.1,y1.2.1,y1.2.2.1,y1.2.2.2.1,y1.2.2.2.2.1,y1.2.2.2.2.2.1,y1.2.2.2.2.2.2.1,y1.2.2.2.2.2.2.2) ho0 ((by exact⟨Has.len' hs11,Has.len' hs12,Has.len' hs13,Has.len' hs14,trivial⟩)) (by exact .pick 0 rfl (.pick 0 rfl (.pick 0 rfl (.refl))))
 ·skip;obtain⟨x2,h3,hx42⟩:=Ao hx;obtain⟨x6,h22,hx43⟩:=Ao hx42;refine T_dr [0,0,1,0,0,2,2,2,3,3] (.q 0 (.q 1 (.q 2 (.q 3 (.q 4 (.e 5 (.e 6 (.e 7 (.e 8 (.e 9 (.done) (.stop)) (.stop)) (.stop)) (.e 7 (.e 6 (.e 8 (.e 9 (.done) (.stop)) (.stop)) (.stop)) (.stop))) (.e 6 (.e 5 (.e 7 (.e 8 (.e 9 (.done) (.stop)) (.stop)) (.stop)) (.e 7 (.e 5 (.e 8 (.e 9 (.done) (.stop)) (.stop)) (.e 8 (.e 5 (.e 9 (.done) (.stop)) (.stop)) (.stop))) (.stop))) (.e 7 (.e 5 (.e 6 (.e 8 (.e 9 (.done) (.stop)) (.stop)) (.stop)) (.e 6 (.e 5 (.e 8 (.e 9 (.done) (.stop)) (.stop)) (.e 8 (.e 5 (.e 9 (.done) (.stop)) (.stop)) (.stop))) (.stop))) (.stop))))))))) mixed kr kr ?_;refine Y ?_;obtain⟨b4,o4,j9,ys57,hA4,hj8,hl5,hp8,hr58⟩:=HasN.at_idx ha0' h3;obtain⟨A51,c52,A54,c55,rfl,hs53,hs56⟩:=hr58;have hp9:=Pt.low (E:=[]) hp8 hK;refine P_p rfl rfl (Bl rfl rfl hA4 (j:=j9) hj8 hl5 Ad6) rfl ?_;refine P_q rfl rfl (Db rfl hp9 (sb 1) rfl Cv) rfl ?_;refine Y ?_;obtain⟨b5,o5,j62,ys73,hA5,hj9,hl6,hp66,hr74⟩:=HasN.at_idx ha0' h22;obtain⟨A67,c68,A70,c71,rfl,hs69,hs72⟩:=hr74;have hp75:=Pt.low (E:=[]) hp66 hK;refine P_p rfl rfl (Bl rfl rfl hA5 (j:=j62) hj9 hl6 Ad6) rfl ?_;refine P_x rfl (Dx (Db rfl hp75 (sb 1) rfl Cv) rfl ?_) ?_
  ·skip;refine P_x rfl (Bt Up rfl (fun g0=>?_)) ?_
   ·skip;refine P_x rfl (Bt Up rfl (fun g2=>?_)) ?_;rotate_left;exact Bg;refine P_h rfl rfl (Ay rfl rfl rfl (.there (.here)) (.put (.put (.put (.done)))) rfl (List.cons_ne_nil _ _) Cv.2 ?_) ?_;rotate_left;exact Bg;refine P_h rfl rfl (Ay rfl rfl rfl (.here) (.put (.put (.put (.done)))) rfl (List.cons_ne_nil _ _) Cv.2 ?_) ?_;rotate_left;exact Bg;refine Y ?_;exact Mt (x2.N.Neg,x2.N.L,x2.D,x6.N.Neg,x6.N.L,x6.D) (g0,A51,c52,A54,c55,g2,A67,c68,A70,c71) hx43 ((by exact⟨Has.len' hs53,Has.len' hs56,Has.len' hs69,Has.len' hs72,trivial⟩)) (by exact .pick 0 rfl (.pick 0 rfl (.pick 0 rfl (.refl))))
   ·skip;refine P_x rfl (Bt Up rfl (fun g3=>?_)) ?_;rotate_left;exact Bg;refine P_x rfl (Bt Up rfl (fun g4=>?_)) ?_;rotate_left;exact Bg;refine P_h rfl rfl (Ay rfl rfl rfl (.here) (.put (.put (.put (.done)))) rfl (List.cons_ne_nil _ _) Cv.2 ?_) ?_;rotate_left;exact Bg;refine P_h rfl rfl (Ay rfl rfl rfl (.there (.here)) (.put (.put (.put (.done)))) rfl (List.cons_ne_nil _ _) Cv.2 ?_) ?_;rotate_left;exact Bg;refine Y ?_;exact Mt (x2.N.Neg,x2.N.L,x2.D,x6.N.Neg,x6.N.L,x6.D) (g4,A51,c52,A54,c55,g3,A67,c68,A70,c71) hx43 ((by exact⟨Has.len' hs53,Has.len' hs56,Has.len' hs69,Has.len' hs72,trivial⟩)) (by exact .pick 1 rfl (.pick 0 rfl (.pick 0 rfl (.refl))))
  ·skip;refine P_x rfl (Bt Up rfl (fun g5=>?_)) ?_
   ·skip;refine P_x rfl (Dx (Db rfl hp75 (sb 2) rfl Cv) rfl ?_) ?_
    ·skip;refine P_x rfl (Bt Up rfl (fun g6=>?_)) ?_;rotate_left;exact Bg;refine P_h rfl rfl (Ay rfl rfl rfl (.there (.here)) (.put (.put (.put (.done)))) rfl (List.cons_ne_nil _ _) Cv.2 ?_) ?_;rotate_left;exact Bg;refine P_h rfl rfl (Ay rfl rfl rfl (.here) (.put (.put (.put (.done)))) rfl (List.cons_ne_nil _ _) Cv.2 ?_) ?_;rotate_left;exact Bg;refine Y ?_;exact Mt (x2.N.Neg,x2.N.L,x2.D,x6.N.Neg,x6.N.L,x6.D) (g5,A51,c52,A54,c55,g6,A67,c68,A70,c71) hx43 ((by exact⟨Has.len' hs53,Has.len' hs56,Has.len' hs69,Has.len' hs72,trivial⟩)) (by exact .pick 0 rfl (.pick 0 rfl (.pick 0 rfl (.refl))))
    ·skip;refine P_x rfl (Bt Up rfl (fun g7=>?_)) ?_;rotate_left;exact Bg;refine P_x rfl (Dx (Db rfl hp75 (sb 3) rfl Cv) rfl ?_) ?_
     ·skip;refine P_h rfl rfl (Ay rfl rfl rfl (.there (.here)) (.put (.put (.put (.done)))) rfl (List.cons_ne_nil _ _) Cv.2 ?_) ?_;rotate_left;exact Bg;refine P_h rfl rfl (Ay rfl rfl rfl (.here) (.put (.put (.put (.done)))) rfl (List.cons_ne_nil _ _) Cv.2 ?_) ?_;rotate_left;exact Bg;refine Y ?_;exact Mt (x2.N.Neg,x2.N.L,x2.D,x6.N.Neg,x6.N.L,x6.D) (g5,A51,c52,A54,c55,g7,A67,c68,A70,c71) hx43 ((by exact⟨Has.len' hs53,Has.len' hs56,Has.len' hs69,Has.len' hs72,trivial⟩)) (by exact .pick 0 rfl (.pick 0 rfl (.pick 0 rfl (.refl))))
     ·skip;refine P_h rfl rfl (Ay rfl rfl rfl (.there (.here)) (.put (.put (.put (.done)))) rfl (List.cons_ne_nil _ _) Cv.2 ?_) ?_;rotate_left;exact Bg;refine P_x rfl (Dx (Db rfl hp75 (sb 3) rfl Cv) rfl ?_) ?_;rotate_left;exact Bg;refine P_h rfl rfl (Ay rfl rfl rfl (.here) (.put (.put (.put (.done)))) rfl (List.cons_ne_nil _ _) Cv.2 ?_) ?_;rotate_left;exact Bg;refine Y ?_;exact Mt (x2.N.Neg,x2.N.L,x2.D,x6.N.Neg,x6.N.L,x6.D) (g5,A51,c52,A54,c55,g7,A67,c68,A70,c71) hx43 ((by exact⟨Has.len' hs53,Has.len' hs56,Has.len' hs69,Has.len' hs72,trivial⟩)) (by exact .pick 0 rfl (.pick 0 rfl (.pick 0 rfl (.refl))))
   ·skip;refine P_x rfl (Bt Up rfl (fun g8=>?_)) ?_;rotate_left;exact Bg;refine P_x rfl (Dx (Db rfl hp75 (sb 2) rfl Cv) rfl ?_) ?_
    ·skip;refine P_x rfl (Bt Up rfl (fun g9=>?_)) ?_;rotate_left;exact Bg;refine P_h rfl rfl (Ay rfl rfl rfl (.here) (.put (.put (.put (.done)))) rfl (List.cons_ne_nil _ _) Cv.2 ?_) ?_;rotate_left;exact Bg;refine P_h rfl rfl (Ay rfl rfl rfl (.there (.here)) (.put (.put (.put (.done)))) rfl (List.cons_ne_nil _ _) Cv.2 ?_) ?_;rotate_left;exact Bg;refine Y ?_;exact Mt (x2.N.Neg,x2.N.L,x2.D,x6.N.Neg,x6.N.L,x6.D) (g9,A51,c52,A54,c55,g8,A67,c68,A70,c71) hx43 ((by exact⟨Has.len' hs53,Has.len' hs56,Has.len' hs69,Has.len' hs72,trivial⟩)) (by exact .pick 1 rfl (.pick 0 rfl (.pick 0 rfl (.refl))))
    ·skip;refine P_x rfl (Bt Up rfl (fun g85=>?_)) ?_;rotate_left;exact Bg;refine P_x rfl (Dx (Db rfl hp75 (sb 3) rfl Cv) rfl ?_) ?_
     ·skip;refine P_h rfl rfl (Ay rfl rfl rfl (.here) (.put (.put (.put (.done)))) rfl (List.cons_ne_nil _ _) Cv.2 ?_) ?_;rotate_left;exact Bg;refine P_h rfl rfl (Ay rfl rfl rfl (.there (.here)) (.put (.put (.put (.done)))) rfl (List.cons_ne_nil _ _) Cv.2 ?_) ?_;rotate_left;exact Bg;refine Y ?_;exact Mt (x2.N.Neg,x2.N.L,x2.D,x6.N.Neg,x6.N.L,x6.D) (g85,A51,c52,A54,c55,g8,A67,c68,A70,c71) hx43 ((by exact⟨Has.len' hs53,Has.len' hs56,Has.len' hs69,Has.len' hs72,trivial⟩)) (by exact .pick 1 rfl (.pick 0 rfl (.pick 0 rfl (.refl))))
     ·skip;refine P_h rfl rfl (Ay rfl rfl rfl (.here) (.put (.put (.put (.done)))) rfl (List.cons_ne_nil _ _) Cv.2 ?_) ?_;rotate_left;exact Bg;refine P_x rfl (Dx (Db rfl hp75 (sb 3) rfl Cv) rfl ?_) ?_;rotate_left;exact Bg;refine P_h rfl rfl (Ay rfl rfl rfl (.there (.here)) (.put (.put (.put (.done)))) rfl (List.cons_ne_nil _ _) Cv.2 ?_) ?_;rotate_left;exact Bg;refine Y ?_;exact Mt (x2.N.Neg,x2.N.L,x2.D,x6.N.Neg,x6.N.L,x6.D) (g85,A51,c52,A54,c55,g8,A67,c68,A70,c71) hx43 ((by exact⟨Has.len' hs53,Has.len' hs56,Has.len' hs69,Has.len' hs72,trivial⟩)) (by exact .pick 1 rfl (.pick 0 rfl (.pick 0 rfl (.refl))))
end
end Go.Proofs.YthlkpgdfifnagaaGreat
