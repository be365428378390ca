import Derived.Test.YthlkpgdfifnagaaGreatL9
set_option maxRecDepth 100000
set_option maxHeartbeats 1000000
namespace Go.Proofs.YthlkpgdfifnagaaGreat
open Go Go.RowKit Tryz
noncomputable def Ih(p0:Aa)(p1:Aa)(p2:Aa):Option Bool :=
 jn (fun (s2:Bool)=>
 some s2)
 (fun j2=>bnd (Cf p0 p1 p2) fun r4=>
 if r4=0 then (if (min p0.X p1.X)<=p2.X then (if p2.X<=(max p0.X p1.X) then (if (min p0.Y p1.Y)<=p2.Y then (j2 (decide (p2.Y<=(max p0.Y p1.Y))))
 else (j2 false))
 else (j2 false))
 else (j2 false))
 else (j2 false))
noncomputable def Ep(p0:List Ac):Int->Option (Sum Int (Sum Unit Int)):=fun s0=>
 if s0<(p0.length:Int) then (bnd (idx p0 s0) fun x0=>
 bnd (Gr x0) fun r0=>
 if r0=true then (some (.inl (w64 (s0+1))))
 else (some (.inr (.inr 60))))
 else (some (.inr (.inl ())))
noncomputable def Gc(s0:Int)(p0:List Ac):Int->Option (Sum Int (Sum Unit Int)):=fun s1=>
 if s1<s0 then (jn (fun (s2:Bool)=>
 if s2=true then (some (.inr (.inr 61)))
 else (some (.inl (w64 (s1+1)))))
 (fun j0=>bnd (idx p0 s0) fun x0=>
 bnd (idx p0 s1) fun x1=>
 if x0.X=x1.X then (bnd (idx p0 s0) fun x2=>
 bnd (idx p0 s1) fun x3=>
 j0 (decide (x2.Y=x3.Y)))
 else (j0 false)))
 else (some (.inr (.inl ())))
noncomputable def Eb(p0:List Ac):Int->Option (Sum Int (Sum Unit Int)):=fun s0=>
 if s0<(p0.length:Int) then (jn (fun (s1:Unit)=>
 some (.inl (w64 (s0+1))))
 (fun j0=>bnd (lfix (Gc s0 p0) 0) fun t0=>
 (match t0 with
 | (.inl z0)=>j0 z0
 | (.inr z0)=>some (.inr (.inr z0))
 )))
 else (some (.inr (.inl ())))
noncomputable def Jp(p0:List Ac):Option Int :=
 if 1024<(p0.length:Int) then (some 2)
 else (jn (fun (s5:Unit)=>
 jn (fun (s0:Unit)=>
 some 0)
 (fun j0=>bnd (lfix (Eb p0) 0) fun t0=>
 (match t0 with
 | (.inl z0)=>j0 z0
 | (.inr z0)=>some z0
 )))
 (fun j5=>bnd (lfix (Ep p0) 0) fun t1=>
 (match t1 with
 | (.inl z1)=>j5 z1
 | (.inr z1)=>some z1
 )))
noncomputable def Nj(p0:List Ac):(Int × Int)->Option (Sum (Int × Int) Int):=fun s0=>
 if s0.2<(p0.length:Int) then (jn (fun (s1:Int)=>
 some (.inl (s1,w64 (s0.2+1))))
 (fun j0=>bnd (idx p0 s0.2) fun x0=>
 bnd (idx p0 s0.1) fun x1=>
 bnd (An x0) fun r0=>
 bnd (An x1) fun r1=>
 bnd (Ja r0 r1) fun r2=>
 if r2=true then (j0 s0.2)
 else (j0 s0.1)))
 else (some (.inr s0.1))
noncomputable def Od(p0:List Ac):Option Int :=
 jn (fun (s3:Int)=>
 some s3)
 (fun j3=>bnd (lfix (Nj p0) (0,0)) fun t0=>
 j3 t0)
noncomputable def Ow(p0:List Ac)(p1:Int)(p2:Bool):(Int × Int)->Option (Sum (Int × Int) Int):=fun s0=>
 if s0.2<(p0.length:Int) then (jn (fun (s1:Int)=>
 some (.inl (s1,w64 (s0.2+1))))
 (fun j0=>if s0.2=p1 then (j0 s0.1)
 else (if s0.1<0 then (j0 s0.2)
 else (bnd (idx p0 p1) fun x0=>
 bnd (idx p0 s0.1) fun x1=>
 bnd (idx p0 s0.2) fun x2=>
 bnd (An x0) fun r0=>
 bnd (An x1) fun r1=>
 bnd (An x2) fun r2=>
 bnd (Cf r0 r1 r2) fun r3=>
 jn (fun (s2:Bool)=>
 if s2=true then (j0 s0.2)
 else (j0 s0.1))
 (fun j1=>if r3<0 then (j1 true)
 else (if r3=0 then (bnd (Ih r0 r1 r2) fun r4=>
 j1 (!(r4 == p2)))
 else (j1 false)))))))
 else (some (.inr s0.1))
noncomputable def Po(p0:List Ac)(p1:Int)(p2:Bool):Option Int :=
 jn (fun (s3:Int)=>
 some s3)
 (fun j3=>bnd (lfix (Ow p0 p1 p2) (-1,0)) fun t0=>
 j3 t0)
noncomputable def Ox(p0:List Ac):Int->Option (Sum Int (Sum Unit Bool)):=fun s0=>
 if s0<(p0.length:Int) then (bnd (idx p0 0) fun x0=>
 bnd (idx p0 1) fun x1=>
 bnd (idx p0 s0) fun x2=>
 bnd (An x0) fun r0=>
 bnd (An x1) fun r1=>
 bnd (An x2) fun r2=>
 bnd (Cf r0 r1 r2) fun r3=>
 if r3=0 then (some (.inl (w64 (s0+1))))
 else (some (.inr (.inr false))))
 else (some (.inr (.inl ())))
noncomputable def Pp(p0:List Ac):Option Bool :=
 jn (fun (s2:Unit)=>
 some true)
 (fun j2=>bnd (lfix (Ox p0) 2) fun t0=>
 (match t0 with
 | (.inl z0)=>j2 z0
 | (.inr z0)=>some z0
 ))
instance(p0:Aa)(p1:Aa)(p2:Aa):Con (Ih p0 p1 p2) prog 242 (fun _ vs=>vs=[.agg #[iq p0.X,iq p0.Y],.agg #[iq p1.X,iq p1.Y],.agg #[iq p2.X,iq p2.Y]]) (fun _ r=>fun v Ln=>v = .bool r/\Ln=[]/\True):=⟨by
 rintro _ _ r rfl hx w hK;unfold Ih at hx;refine CtS ntmps242 results242 ?_;try (refine pre ?_;intros;rename_i hx)
 refine Bf ?_;try (refine pre ?_;intros;rename_i hx)
 apply Jr (γ:=Unit) hx [] (fun s2 y2 f=>(6,.bool s2)::f) [999] (fun s2 y2 l=>l);exact kk
 ·intro s2 y2 hx;exact au
 ·intro _ hx;try (refine pre ?_;intros;rename_i hx)
  refine Cq1 (s:=12) hx rfl (fun _ hx=>?_) (fun _ hx=>?_)
  ·exact au
  ·exact au⟩
instance(p0:List Ac):Con (Jp p0) prog 193 (fun K vs=>∃ U0 E0,vs=[.slice U0 p0.length E0]/\Has K U0 p0.length E0 4 Ai p0/\True) (fun _ r=>fun v Ln=>v = iq r/\Ln=[]/\True):=⟨by
 rintro K _ r ⟨U0,E0,rfl,ha0,-⟩ hx w hK;replace ha0:=Has.lo ha0 hK;unfold Jp at hx;have:=dl 15 [0,0,0,0,1,0,0,0,0,1,0,0,0,0,0,0,1,0,0,0,0,1,0,0] [0,1,2,3,4,5,6,7,8,9,10,11,12,13,14,15,16,17,18,19,20,21,22,23];refine CtS ntmps193 results193 ?_;try (refine pre ?_;intros;rename_i hx)
 refine Cq1 (s:=8) hx rfl (fun _ hx=>?_) (fun _ hx=>?_)
 ·exact au
 ·try (refine pre ?_;intros;rename_i hx)
  apply Jr (γ:=Unit) hx [0] (fun s5 y5 f=>f) [999] (fun s5 y5 l=>l);exact kk
  ·intro s5 y5 hx;apply Jr (γ:=Unit) hx [] (fun s19 y19 f=>f) [999] (fun s19 y19 l=>l);exact kk
   ·intro s19 y19 hx;exact au
   ·intro _ hx;try (refine pre ?_;intros;rename_i hx)
    apply Lr (γ:=Unit) hx [0,22] (fun s166 y166 f=>(23,iq s166)::f) [999] (fun s166 y166 l=>l) ();exact kk;exact sk;intro s166 y166 x166 hx _;unfold Eb at hx;try (refine pre ?_;intros;rename_i hx)
    refine Cq1 (s:=24) hx rfl (fun _ hx=>?_) (fun _ hx=>?_)
    ·try (refine pre ?_;intros;rename_i hx)
     apply Jr (γ:=Unit) hx [0,22,23] (fun s38 y38 f=>f) [999] (fun s38 y38 l=>l);exact kk
     ·intro s38 y38 hx;exact au
     ·intro _ hx;try (refine pre ?_;intros;rename_i hx)
      apply Lr (γ:=Unit) hx [0,4,22,23] (fun s226 y226 f=>(5,iq s226)::f) [999] (fun s226 y226 l=>l) ();exact kk;exact sk;intro s226 y226 x226 hx _;unfold Gc at hx;exact au
    ·exact au
  ·intro _ hx;try (refine pre ?_;intros;rename_i hx)
   apply Lr (γ:=Unit) hx [0,10] (fun s25 y25 f=>(11,iq s25)::f) [999] (fun s25 y25 l=>l) ();exact kk;exact sk;intro s25 y25 x25 hx _;unfold Ep at hx;exact au⟩
instance(p0:List Ac):Con (Od p0) prog 197 (fun K vs=>∃ U0 E0,vs=[.slice U0 p0.length E0]/\Has K U0 p0.length E0 4 Ai p0/\True) (fun _ r=>fun v Ln=>v = iq r/\Ln=[]/\True):=⟨by
 rintro K _ r ⟨U0,E0,rfl,ha0,-⟩ hx w hK;replace ha0:=Has.lo ha0 hK;unfold Od at hx;have:=dl 5 [0,0,0,1,2,0,0,0,1,2,2] [0,1,2,3,5,6,7,8,4,9,10];refine CtS ntmps197 results197 ?_;try (refine pre ?_;intros;rename_i hx)
 refine Bf ?_;try (refine pre ?_;intros;rename_i hx)
 refine Bf ?_;try (refine pre ?_;intros;rename_i hx)
 apply Jr (γ:=Unit) hx [] (fun s3 y3 f=>(3,iq s3)::f) [999] (fun s3 y3 l=>l);exact kk
 ·intro s3 y3 hx;exact au
 ·intro _ hx;try (refine pre ?_;intros;rename_i hx)
  apply Lr (γ:=Unit) hx [0,6] (fun s0 y0 f=>(3,iq s0.1)::(7,iq s0.2)::f) [999] (fun s0 y0 l=>l) ();exact kk;exact sk;intro s0 y0 x0 hx _;unfold Nj at hx;exact au⟩
instance(p0:List Ac)(p1:Int)(p2:Bool):Con (Po p0 p1 p2) prog 198 (fun K vs=>∃ U0 E0,vs=[.slice U0 p0.length E0,iq p1,.bool p2]/\Has K U0 p0.length E0 4 Ai p0/\True) (fun _ r=>fun v Ln=>v = iq r/\Ln=[]/\True):=⟨by
 rintro K _ r ⟨U0,E0,rfl,ha0,-⟩ hx w hK;replace ha0:=Has.lo ha0 hK;unfold Po at hx;have:=dl 8 [0,0,0,1,2,0,0,0,1,2,0,0,0,1,2,4,4,4,3,3,3] [0,1,2,3,5,6,7,8,10,11,12,13,4,9,14,15,16,17,18,19,20] [15,16,17];refine CtS ntmps198 results198 ?_;try (refine pre ?_;intros;rename_i hx)
 refine Bf ?_;try (refine pre ?_;intros;rename_i hx)
 refine Bf ?_;try (refine pre ?_;intros;rename_i hx)
 apply Jr (γ:=Unit) hx [] (fun s3 y3 f=>(7,iq s3)::f) [999] (fun s3 y3 l=>l);exact kk
 ·intro s3 y3 hx;exact au
 ·intro _ hx;try (refine pre ?_;intros;rename_i hx)
  apply Lr (γ:=Unit) hx [0,1,2,14] (fun s0 y0 f=>(7,iq s0.1)::(15,iq s0.2)::f) [999] (fun s0 y0 l=>l) ();exact kk;exact sk;intro s0 y0 x0 hx _;unfold Ow at hx;try (refine pre ?_;intros;rename_i hx)
  refine Cq1 (s:=16) hx rfl (fun _ hx=>?_) (fun _ hx=>?_)
  ·try (refine pre ?_;intros;rename_i hx)
   apply Jr (γ:=Unit) hx [0,1,2,14,15] (fun s1 y1 f=>(7,iq s1)::f) [999] (fun s1 y1 l=>l);exact kk
   ·intro s1 y1 hx;exact au
   ·intro _ hx;try (refine pre ?_;intros;rename_i hx)
    refine Cq1 (s:=20) hx rfl (fun _ hx=>?_) (fun _ hx=>?_)
    ·exact au
    ·try (refine pre ?_;intros;rename_i hx)
     refine Cq1 (s:=22) hx rfl (fun _ hx=>?_) (fun _ hx=>?_)
     ·exact au
     ·try (refine pre ?_;intros;rename_i hx)
      apply Jr (γ:=Unit) hx [0,1,2,7,8,14,15] (fun s2 y2 f=>(56,.bool s2)::f) [999] (fun s2 y2 l=>l);exact kk
      ·intro s2 y2 hx;exact au
      ·intro _ hx;exact au
  ·exact au⟩
instance(p0:List Ac):Con (Pp p0) prog 196 (fun K vs=>∃ U0 E0,vs=[.slice U0 p0.length E0]/\Has K U0 p0.length E0 4 Ai p0/\True) (fun _ r=>fun v Ln=>v = .bool r/\Ln=[]/\True):=⟨by
 rintro K _ r ⟨U0,E0,rfl,ha0,-⟩ hx w hK;replace ha0:=Has.lo ha0 hK;unfold Pp at hx;have:=dl 4 [0,0,1,2,0,0,1,2,0,0,0,1,2,2,0] [0,1,2,4,5,6,8,9,10,11,3,7,12,13,14];refine CtS ntmps196 results196 ?_;try (refine pre ?_;intros;rename_i hx)
 refine Bf ?_;try (refine pre ?_;intros;rename_i hx)
 apply Jr (γ:=Unit) hx [] (fun s2 y2 f=>f) [999] (fun s2 y2 l=>l);exact kk
 ·intro s2 y2 hx;exact au
 ·intro _ hx;try (refine pre ?_;intros;rename_i hx)
  apply Lr (γ:=Unit) hx [0] (fun s0 y0 f=>(3,iq s0)::f) [999] (fun s0 y0 l=>l) ();exact kk;exact sk;intro s0 y0 x0 hx _;unfold Ox at hx;exact au⟩
theorem Af1(x:Ac):Gr x=some (decide (Nx x)):=by
 unfold Gr An;rw[jn_d,Ad,Ar3,Ad]
 by_cases h:okP (⟨x.X,x.Y⟩:Aa)
 ·rw[decide_eq_true h,if_pos rfl]
  by_cases h1:-268435456<=x.Z.Lo
  ·rw[if_pos h1]
   by_cases h2:x.Z.Lo<=x.Z.Hi
   ·rw[if_pos h2];congr 1;rw[Bool.eq_iff_iff,decide_eq_true_eq,decide_eq_true_eq];exact⟨fun g=>⟨h,h1,h2,g⟩,fun g=>g.2.2.2⟩
   ·rw[if_neg h2,decide_eq_false (fun g:Nx x=>h2 g.2.2.1)]
  ·rw[if_neg h1,decide_eq_false (fun g:Nx x=>h1 g.2.1)]
 ·rw[decide_eq_false h,if_neg s_,decide_eq_false (fun g:Nx x=>h g.1)]
theorem Bar{v:List Ac}(c:v.length<=1024):lfix (Ep v) 0=some (if ((List.range v.length).any fun k=>!decide (Nx (v.getD k ⟨0,0,⟨0,0⟩⟩)))=true then .inr 60 else .inl ()):=by
 refine Sv v.length oo (fun k=>!decide (Nx (v.getD k ⟨0,0,⟨0,0⟩⟩))) (Ep v) () 60 (fun k hk=>?_) ?_
 ·unfold Ep;rw[if_pos oo,At hk,Ad,Af1,Ad,Bd oo];have e:v.getD k ⟨0,0,⟨0,0⟩⟩=v[k]:=by simp[hk]
  rw[e]
  by_cases g:Nx v[k]
  ·simp[g]
  ·simp[g]
 ·unfold Ep;rw[if_neg oo]
theorem Zn(v:List Ac):Jp v=some (Ny v):=by
 unfold Jp Ny
 by_cases c:1024<v.length
 ·rw[if_pos oo,if_pos c]
 ·rw[if_neg oo,if_neg c,jn_d];rw[Bar oo,Ad]
  ·by_cases h:∀ x∈v,Nx x
   ·rw[if_neg (fun g=>Agb.1 g h),if_neg (not_not_intro h)];dsimp only;rw[jn_d];have hin:∀ i (hi:i<v.length),lfix (Gc (i:Int) v) 0=some (if (List.range i).any (fun j=>decide (Ye v[i] (v.getD j ⟨0,0,⟨0,0⟩⟩))) then .inr 61 else .inl ()):=fun i hi=>by
     refine Sv i oo _ _ () 61 (fun k hk=>?_) ?_
     ·unfold Gc;have e:v.getD k ⟨0,0,⟨0,0⟩⟩=v[k]'oo:=by simp[show k<v.length by omega]
      rw[if_pos oo,jn_d,At hi,Ad,At (show k<v.length by omega),Ad,Bd oo,e];unfold Ye
      by_cases g1:v[i].X=v[k].X
      ·rw[if_pos g1,Ad,Ad]
       by_cases g2:v[i].Y=v[k].Y
       ·simp[g1,g2]
       ·simp[g2]
      ·rw[if_neg g1];simp[g1]
     ·unfold Gc;rw[if_neg oo]
    have hout:lfix (Eb v) 0=some (if ((List.range v.length).any fun i=>(List.range i).any fun j=>decide (Ye (v.getD i ⟨0,0,⟨0,0⟩⟩) (v.getD j ⟨0,0,⟨0,0⟩⟩)))=true then .inr 61 else .inl ()):=by
     refine Sv v.length oo (fun i=>(List.range i).any fun j=>decide (Ye (v.getD i ⟨0,0,⟨0,0⟩⟩) (v.getD j ⟨0,0,⟨0,0⟩⟩))) (Eb v) () 61 (fun i hi=>?_) ?_
     ·unfold Eb;have e:v.getD i ⟨0,0,⟨0,0⟩⟩=v[i]:=by simp[hi]
      rw[if_pos oo,jn_d,hin i hi,Ad,Bd oo,e]
      by_cases g:((List.range i).any fun j=>decide (Ye v[i] (v.getD j ⟨0,0,⟨0,0⟩⟩)))=true
      ·rw[if_pos g,if_pos g]
      ·rw[if_neg g,if_neg g]
     ·unfold Eb;rw[if_neg oo]
    rw[hout,Ad]
    ·have hd:((List.range v.length).any fun i=>(List.range i).any fun j=>decide (Ye (v.getD i ⟨0,0,⟨0,0⟩⟩) (v.getD j ⟨0,0,⟨0,0⟩⟩)))=true↔¬ Gy v:=by
      rw[<- Ak3,List.any_eq_true];constructor
      ·rintro⟨i,hi,hj⟩;rw[List.any_eq_true] at hj;obtain⟨j,hj,hs⟩:=hj;rw[List.mem_range] at hi hj;rw[decide_eq_true_eq] at hs;refine⟨i,j,hi,oo,hj,?_⟩;simpa[hi,show j<v.length by omega] using hs
      ·rintro⟨i,j,hi,hj,hji,hs⟩;refine⟨i,List.mem_range.2 hi,?_⟩;rw[List.any_eq_true];exact⟨j,List.mem_range.2 hji,by simpa[hi,hj] using hs⟩
     by_cases g:Gy v
     ·rw[if_neg (fun q=>hd.1 q g),if_neg (not_not_intro g)]
     ·rw[if_pos (hd.2 g),if_pos g]
   ·rw[if_pos (Agb.2 h),if_pos h]
def Box(p q k:Aa):Prop:=min p.X q.X<=k.X/\k.X<=max p.X q.X/\min p.Y q.Y<=k.Y/\k.Y<=max p.Y q.Y
instance(p q k:Aa):Decidable (Box p q k):=by unfold Box;infer_instance
def lexA:Int:=2147483648
theorem Bdp{p q:Aa}(hp:okP p)(hq:okP q):ph lexA 1 p<ph lexA 1 q↔befP p q:=by unfold ph lexA okP befP at *;omega
theorem mid{a b c d:Int}(h0:0<a)(h1:0<=b)(h2:b<=a)(h:a*c=d*b):(0<=d->0<=c/\c<=d)/\(d<=0->d<=c/\c<=0):=by
 constructor
 ·intro hd;have e1:=Int.mul_nonneg hd h1;have e2:=Int.mul_nonneg hd (show 0<=a-b by omega);refine⟨Uc h0 oo,?_⟩;have:0<=d-c:=Uc h0 (by rw[Int.mul_sub] at *;rw[Int.mul_comm a d];omega);omega
 ·intro hd;have e1:=Int.mul_nonneg (show 0<=-d by omega) h1;have e2:=Int.mul_nonneg (show 0<=-d by omega) (show 0<=a-b by omega);rw[Int.neg_mul] at e1 e2;rw[Int.mul_sub] at e2;constructor
  ·have:0<=c-d:=Uc h0 (by rw[Int.mul_sub,Int.mul_comm a d];omega);omega
  ·have:0<=-c:=Uc h0 (by rw[Int.mul_neg];omega);omega
theorem Ar4{p q k:Aa}(h:crs p q k=0)(h1:¬ befP k p)(h2:¬ befP q k):Box p q k:=by
 unfold befP at h1 h2;unfold crs at h;unfold Box
 by_cases e:p.X=q.X
 ·omega
 ·have:=mid (a:=q.X-p.X) (b:=k.X-p.X) (c:=k.Y-p.Y) (d:=q.Y-p.Y) oo oo oo oo;rcases Int.le_total 0 (q.Y-p.Y) with g | g
  ·have:=this.1 g;omega
  ·have:=this.2 g;omega
theorem Box.swap{p q k:Aa}(h:Box p q k):Box q p k:=by unfold Box at *;omega
theorem Bdq{p q k:Aa}(h:crs p q k=0)(h1:¬ befP q p)(h2:befP q k)(h3:¬ Bx p q):¬ Box p q k:=by
 intro hb;unfold befP Bx at *;unfold Box at hb;unfold crs at h
 by_cases e:p.X=q.X
 ·omega
 ·have hk:k.X=q.X:=oo;rw[hk] at h;have:(q.X-p.X)*(k.Y-q.Y)=0:=by grind
  rcases Int.mul_eq_zero.1 this with g | g <;> omega
variable {v:List Ac}
theorem Qv(hv:Cc v){i j:Int}(hi:inN v.length i)(hj:inN v.length j)(h:i≠j):¬ Bx (plV v i) (plV v j):=fun g=>h (hv.dist i j hi hj g)
theorem Aio(a b c:Aa):crs a c b = -crs a b c:=by unfold crs;grind
theorem Aft{p q r:Aa}(hp:okP p)(hq:okP q)(hr:okP r):Ih p q r=some (decide (crs p q r=0/\Box p q r)):=by
 unfold Ih;rw[jn_d,Rx hp hq hr,Ad];have e:Int.sign (crs p q r)=0↔crs p q r=0:=Int.sign_eq_zero_iff_zero
 by_cases h:crs p q r=0
 ·rw[if_pos (e.2 h)];unfold Box
  by_cases h1:min p.X q.X<=r.X
  ·rw[if_pos h1]
   by_cases h2:r.X<=max p.X q.X
   ·rw[if_pos h2]
    by_cases h3:min p.Y q.Y<=r.Y
    ·rw[if_pos h3];simp[h,h1,h2,h3]
    ·rw[if_neg h3];simp[h3]
   ·rw[if_neg h2];simp[h2]
  ·rw[if_neg h1];simp[h1]
 ·rw[if_neg (fun g=>h (e.1 g))];simp[h]
theorem Aip(p q:Aa):Ja p q=some (decide (befP p q)):=by
 unfold Ja befP;rw[jn_d]
 by_cases h1:p.X<q.X
 ·rw[if_pos h1];simp[h1]
 ·rw[if_neg h1]
  by_cases h2:p.X=q.X
  ·rw[if_pos h2];simp[h2]
  ·rw[if_neg h2];simp[h1,h2]
theorem Ar5(p:Aa):¬ befP p p:=by unfold befP;omega
theorem Yk{p q:Aa}(h:befP p q):¬ befP q p:=by unfold befP at *;omega
theorem Jg{i:Int}(hi:inN v.length i):∃ x,idx v i=some x/\(⟨x.X,x.Y⟩:Aa)=plV v i:=by
 obtain⟨k,hk,rfl,f⟩:=Jn (v:=v) (i:=i) hi;exact⟨v[k],f,by unfold plV;rw[f]⟩
theorem first_eq(hn:v.length<=1024){f:Int}(hf:inN v.length f)(low:∀ k,inN v.length k->k=f\/befP (plV v f) (plV v k)):Od v=some f:=by
 unfold inN at hf;unfold Od;rw[jn_d];have:=Bn (B:=Nj v) (fun s=>v.length-s.2.toNat) (fun s=>0<=s.2/\s.2<=(v.length:Int)/\inN v.length s.1/\(f<s.2->s.1=f)) (fun t=>t=f) (fun s hs=>by
  obtain⟨b,k⟩:=s;obtain⟨h1,h2,h3,h4⟩:=hs;simp only at h1 h2 h3 h4;unfold Nj;dsimp only
  by_cases hk:k<(v.length:Int)
  ·left;obtain⟨x,hx,px⟩:=Jg (v:=v) (i:=k) ⟨h1,hk⟩;obtain⟨y,hy,py⟩:=Jg (v:=v) (i:=b) h3;rw[if_pos hk,jn_d,hx,Ad,hy,Ad];unfold An;rw[Ad,Ad,px,py,Aip,Ad,As oo oo]
   by_cases c:befP (plV v k) (plV v b)
   ·rw[if_pos (decide_eq_true c)];refine⟨_,rfl,⟨by dsimp only;omega,by dsimp only;omega,⟨h1,hk⟩,fun g=>?_⟩,by dsimp only;omega⟩;dsimp only at g ⊢
    by_cases e:f<k
    ·rw[h4 e] at c;rcases low k ⟨h1,hk⟩ with e2 | e2
     ·exact e2
     ·exact absurd c (Yk e2)
    ·omega
   ·rw[if_neg (by simpa using c)];refine⟨_,rfl,⟨by dsimp only;omega,by dsimp only;omega,h3,fun g=>?_⟩,by dsimp only;omega⟩;dsimp only at g ⊢
    by_cases e:f<k
    ·exact h4 e
    ·have:k=f:=oo;rcases low b h3 with e2 | e2
     ·exact e2
     ·rw[this] at c;exact absurd e2 c
  ·right;rw[if_neg hk];exact⟨_,rfl,h4 oo⟩) (0,0) ⟨s_,s_,⟨s_,by simp only;omega⟩,fun g=>by simp only at g;omega⟩
 obtain⟨t,ht,rfl⟩:=this;rw[ht,Ad]
theorem Ar6(hv:Cc v)(hn:v.length<=1024):∃ b,Pp v=some b/\(b=true↔∀ k,2<=k->inN v.length k->crs (plV v 0) (plV v 1) (plV v k)=0):=by
 unfold Pp;rw[jn_d];have:=Bn (B:=Ox v) (fun s=>v.length-s.toNat) (fun s=>2<=s/\∀ k,2<=k->k<s->inN v.length k->crs (plV v 0) (plV v 1) (plV v k)=0)
  (fun t=>(t = .inl ()/\∀ k,2<=k->inN v.length k->crs (plV v 0) (plV v 1) (plV v k)=0)\/(t = .inr false/\¬ ∀ k,2<=k->inN v.length k->crs (plV v 0) (plV v 1) (plV v k)=0)) (fun s hs=>by
  obtain⟨h1,h2⟩:=hs;unfold Ox
  by_cases hk:s<(v.length:Int)
  ·have hs':inN v.length s:=⟨oo,hk⟩;have h0':inN v.length 0:=⟨oo,oo⟩;have h1':inN v.length 1:=⟨oo,oo⟩;obtain⟨x,hx,px⟩:=Jg (v:=v) h0';obtain⟨y,hy,py⟩:=Jg (v:=v) h1';obtain⟨z,hz,pz⟩:=Jg (v:=v) hs';rw[if_pos hk,hx,Ad,hy,Ad,hz,Ad];unfold An;rw[Ad,Ad,Ad,px,py,pz,Rx (hv.ok _ h0') (hv.ok _ h1') (hv.ok _ hs'),Ad,As oo oo];have s0:Int.sign (crs (plV v 0) (plV v 1) (plV v s))=0↔crs (plV v 0) (plV v 1) (plV v s)=0:=Int.sign_eq_zero_iff_zero
   by_cases c:crs (plV v 0) (plV v 1) (plV v s)=0
   ·left;rw[if_pos (s0.2 c)];refine⟨_,rfl,⟨oo,fun k k1 k2 k3=>?_⟩,oo⟩
    by_cases e:k=s
    ·rw[e];exact c
    ·exact h2 k k1 oo k3
   ·right;rw[if_neg (fun g=>c (s0.1 g))];exact⟨_,rfl,.inr ⟨rfl,fun g=>c (g s h1 hs')⟩⟩
  ·right;rw[if_neg hk];exact⟨_,rfl,.inl ⟨rfl,fun k k1 k2=>h2 k k1 (by have:=k2.2;omega) k2⟩⟩) 2 ⟨oo,fun k k1 k2=>oo⟩
 obtain⟨t,ht,g | g⟩:=this
 ·obtain⟨rfl,g⟩:=g;rw[ht,Ad];exact⟨true,rfl,fun _=>g,fun _=>rfl⟩
 ·obtain⟨rfl,g⟩:=g;rw[ht,Ad];exact⟨false,rfl,fun h=>(by cases h),fun h=>absurd h g⟩
end Go.Proofs.YthlkpgdfifnagaaGreat
namespace Go.Proofs.YthlkpgdfifnagaaGreat
open Go Go.RowKit Tryz
theorem Bdr(a0:Int)(a1:Int)(a2:Int)(a3:Int)(b0:Int)(b1:Int)(b2:Int)(b3:Int):∀ w,(Op.equalIn 10000 108 (.agg #[iq a0,iq a1,iq a2,iq a3]) (.agg #[iq b0,iq b1,iq b2,iq b3])).run prog w = .ok (((a0 == b0) && ((a1 == b1) && (((a2 == b2) && ((a3 == b3) && true)) && true)))) w :=
 EqF.struct underlying108 kr (.cons rfl (fun w=>kr) (fun w=>kr) (fun w=>run_equalIn_int w 9998 3 .i64 .i64 _ _ underlying3) (.cons rfl (fun w=>kr) (fun w=>kr) (fun w=>run_equalIn_int w 9998 3 .i64 .i64 _ _ underlying3) (.cons (a:=.agg #[iq a2,iq a3]) (b:=.agg #[iq b2,iq b3]) rfl (fun w=>kr) (fun w=>kr) (EqF.struct underlying28 kr (.cons rfl (fun w=>kr) (fun w=>kr) (fun w=>run_equalIn_int w 9997 3 .i64 .i64 _ _ underlying3) (.cons rfl (fun w=>kr) (fun w=>kr) (fun w=>run_equalIn_int w 9997 3 .i64 .i64 _ _ underlying3) EqF.nil))) EqF.nil)))
instance(a0:Int)(a1:Int)(a2:Int)(a3:Int)(b0:Int)(b1:Int)(b2:Int)(b3:Int):EqSI prog 108 [iq a0,iq a1,iq a2,iq a3] [iq b0,iq b1,iq b2,iq b3] (((a0 == b0) && ((a1 == b1) && (((a2 == b2) && ((a3 == b3) && true)) && true)))):=⟨Bdr _ _ _ _ _ _ _ _,kr⟩
noncomputable def Gs(p0:Ao)(p1:Ao):Int->Option (Sum Int (Sum Unit Bool)):=fun s0=>
 if s0<(p0.V.length:Int) then (bnd (idx p0.V s0) fun x0=>
 bnd (idx p1.V s0) fun x1=>
 if (((x0.X == x1.X) && ((x0.Y == x1.Y) && (((x0.Z.Lo == x1.Z.Lo) && ((x0.Z.Hi == x1.Z.Hi) && true)) && true))))=true then (some (.inl (w64 (s0+1))))
 else (some (.inr (.inr false))))
 else (some (.inr (.inl ())))
noncomputable def Gd(p0:Ao)(p1:Ao):Int->Option (Sum Int (Sum Unit Bool)):=fun s0=>
 if s0<(p0.T.length:Int) then (bnd (idx p0.T s0) fun x0=>
 bnd (idx p1.T s0) fun x1=>
 if (((x0.a0 == x1.a0) && ((x0.a1 == x1.a1) && ((x0.a2 == x1.a2) && true))))=true then (some (.inl (w64 (s0+1))))
 else (some (.inr (.inr false))))
 else (some (.inr (.inl ())))
noncomputable def Ge(p0:Ao)(p1:Ao):Int->Option (Sum Int (Sum Unit Bool)):=fun s0=>
 if s0<(p0.Lines.length:Int) then (bnd (idx p0.Lines s0) fun x0=>
 bnd (idx p1.Lines s0) fun x1=>
 if (((x0.a0 == x1.a0) && ((x0.a1 == x1.a1) && true)))=true then (some (.inl (w64 (s0+1))))
 else (some (.inr (.inr false))))
 else (some (.inr (.inl ())))
noncomputable def Jq(p0:Ao)(p1:Ao):Option Bool :=
 jn (fun (s3:Bool)=>
 if s3=true then (some false)
 else (jn (fun (s5:Unit)=>
 jn (fun (s0:Unit)=>
 jn (fun (s1:Unit)=>
 some true)
 (fun j0=>bnd (lfix (Ge p0 p1) 0) fun t0=>
 (match t0 with
 | (.inl z0)=>j0 z0
 | (.inr z0)=>some z0
 )))
 (fun j1=>bnd (lfix (Gd p0 p1) 0) fun t1=>
 (match t1 with
 | (.inl z1)=>j1 z1
 | (.inr z1)=>some z1
 )))
 (fun j5=>bnd (lfix (Gs p0 p1) 0) fun t2=>
 (match t2 with
 | (.inl z2)=>j5 z2
 | (.inr z2)=>some z2
 ))))
 (fun j3=>if (p0.V.length:Int)=(p1.V.length:Int) then (if (p0.T.length:Int)=(p1.T.length:Int) then (j3 (!(decide ((p0.Lines.length:Int)=(p1.Lines.length:Int)))))
 else (j3 true))
 else (j3 true))
instance(p0:Ao)(p1:Ao):Con (Jq p0 p1) prog 83 (fun K vs=>∃ U0 E0 U1 E1 U2 E2 U3 E3 U4 E4 U5 E5,vs=[.agg #[.slice U0 p0.V.length E0,.slice U1 p0.T.length E1,.slice U2 p0.Lines.length E2],.agg #[.slice U3 p1.V.length E3,.slice U4 p1.T.length E4,.slice U5 p1.Lines.length E5]]/\Has K U0 p0.V.length E0 4 Ai p0.V/\Has K U1 p0.T.length E1 3 Ax p0.T/\Has K U2 p0.Lines.length E2 2 Aq p0.Lines/\Has K U3 p1.V.length E3 4 Ai p1.V/\Has K U4 p1.T.length E4 3 Ax p1.T/\Has K U5 p1.Lines.length E5 2 Aq p1.Lines/\True) (fun _ r=>fun v Ln=>v = .bool r/\Ln=[]/\True):=⟨by
 rintro K _ r ⟨U0,E0,U1,E1,U2,E2,U3,E3,U4,E4,U5,E5,rfl,ha0,ha1,ha2,ha3,ha4,ha5,-⟩ hx w hK;replace ha0:=Has.lo ha0 hK;replace ha1:=Has.lo ha1 hK;replace ha2:=Has.lo ha2 hK;replace ha3:=Has.lo ha3 hK;replace ha4:=Has.lo ha4 hK;replace ha5:=Has.lo ha5 hK;unfold Jq at hx;have:=dl 6 [0,1,0,0,1,0,1,0,0,1,0] [0,1,2,3,4,5,6,7,8,9,10];have:=dl 12 [0,1,0,0,1,0,1,0,0,1,0] [0,1,2,3,4,5,6,7,8,9,10];have:=dl 18 [0,1,0,0,1,0,1,0,0,1,0] [0,1,2,3,4,5,6,7,8,9,10];refine CtS ntmps83 results83 ?_;try (refine pre ?_;intros;rename_i hx)
 refine Bf ?_;try (refine pre ?_;intros;rename_i hx)
 refine Bf ?_;try (refine pre ?_;intros;rename_i hx)
 apply Jr (γ:=Unit) hx [2,3] (fun s3 y3 f=>(32,.bool s3)::f) [0,1,999] (fun s3 y3 l=>l);exact kk
 ·intro s3 y3 hx;refine Cq3 (s:=32) hx rfl (fun _ hx=>?_) (fun _ hx=>?_)
  ·exact au
  ·try (refine pre ?_;intros;rename_i hx)
   apply Jr (γ:=Unit) hx [2,3] (fun s5 y5 f=>f) [0,1,999] (fun s5 y5 l=>l);exact kk
   ·intro s5 y5 hx;apply Jr (γ:=Unit) hx [2,3] (fun s0 y0 f=>f) [0,1,999] (fun s0 y0 l=>l);exact kk
    ·intro s0 y0 hx;apply Jr (γ:=Unit) hx [] (fun s1 y1 f=>f) [999] (fun s1 y1 l=>l);exact kk
     ·intro s1 y1 hx;exact au
     ·intro _ hx;try (refine pre ?_;intros;rename_i hx)
      apply Lr (γ:=Unit) hx [2,3,71] (fun s2 y2 f=>(72,iq s2)::f) [0,1,999] (fun s2 y2 l=>l) ();exact kk;exact sk;intro s2 y2 x0 hx _;unfold Ge at hx;exact au
    ·intro _ hx;try (refine pre ?_;intros;rename_i hx)
     apply Lr (γ:=Unit) hx [2,3,53] (fun s4 y4 f=>(54,iq s4)::f) [0,1,999] (fun s4 y4 l=>l) ();exact kk;exact sk;intro s4 y4 x1 hx _;unfold Gd at hx;exact au
   ·intro _ hx;try (refine pre ?_;intros;rename_i hx)
    apply Lr (γ:=Unit) hx [2,3,35] (fun s6 y6 f=>(36,iq s6)::f) [0,1,999] (fun s6 y6 l=>l) ();exact kk;exact sk;intro s6 y6 x2 hx _;unfold Gs at hx;exact au
 ·intro _ hx;exact au⟩
instance(x0:Int)(x1:Int):Qd prog 42 2 [(0,iq x0),(1,iq x1)] 3 [iq x0,iq x1]:=⟨fun w=>kr⟩
noncomputable def Ko(p0:Aa)(p1:Aa)(p2:Aa)(p3:Aa):Option Bool :=
 jn (fun (s2:Bool)=>
 some s2)
 (fun j2=>bnd (Cf p0 p1 p2) fun r5=>
 bnd (Cf p0 p1 p3) fun r8=>
 if (w64 (r5*r8))<0 then (bnd (Cf p2 p3 p0) fun r0=>
 bnd (Cf p2 p3 p1) fun r1=>
 j2 (decide ((w64 (r0*r1))<0)))
 else (j2 false))
noncomputable def Da(s0:Int)(p1:List Ab):Int->Option (Sum Int (Sum Unit Int)):=fun s1=>
 if s1<s0 then (jn (fun (s2:Bool)=>
 if s2=true then (some (.inr (.inr 62)))
 else (some (.inl (w64 (s1+1)))))
 (fun j0=>bnd (idx p1 s0) fun x0=>
 bnd (idx p1 s1) fun x1=>
 if (((x0.a0 == x1.a0) && ((x0.a1 == x1.a1) && true)))=true then (j0 true)
 else (bnd (idx p1 s0) fun x2=>
 bnd (idx p1 s1) fun x3=>
 if x2.a0=x3.a1 then (bnd (idx p1 s0) fun x4=>
 bnd (idx p1 s1) fun x5=>
 j0 (decide (x4.a1=x5.a0)))
 else (j0 false))))
 else (some (.inr (.inl ())))
noncomputable def Fq(p1:List Ab)(p0:List Ac):Int->Option (Sum Int (Sum Unit Int)):=fun s0=>
 if s0<(p1.length:Int) then (jn (fun (s1:Unit)=>
 some (.inl (w64 (s0+1))))
 (fun j0=>jn (fun (s2:Bool)=>
 if s2=true then (some (.inr (.inr 62)))
 else (bnd (lfix (Da s0 p1) 0) fun t0=>
 (match t0 with
 | (.inl z0)=>j0 z0
 | (.inr z0)=>some (.inr (.inr z0))
 )))
 (fun j1=>bnd (idx p1 s0) fun x0=>
 if x0.a0<0 then (j1 true)
 else (bnd (idx p1 s0) fun x1=>
 if (p0.length:Int)<=x1.a0 then (j1 true)
 else (bnd (idx p1 s0) fun x2=>
 if x2.a1<0 then (j1 true)
 else (bnd (idx p1 s0) fun x3=>
 if (p0.length:Int)<=x3.a1 then (j1 true)
 else (bnd (idx p1 s0) fun x4=>
 bnd (idx p1 s0) fun x5=>
 j1 (decide (x4.a0=x5.a1)))))))))
 else (some (.inr (.inl ())))
noncomputable def Co(p0:List Ac)(p1:List Ab)(s0:Int)(r0:Aa)(r1:Aa):Int->Option (Sum Int (Sum Unit Int)):=fun s1=>
 if s1<(p0.length:Int) then (jn (fun (s2:Bool)=>
 if s2=true then (some (.inr (.inr 63)))
 else (some (.inl (w64 (s1+1)))))
 (fun j0=>bnd (idx p1 s0) fun x0=>
 if s1=x0.a0 then (j0 false)
 else (bnd (idx p1 s0) fun x1=>
 if s1=x1.a1 then (j0 false)
 else (bnd (idx p0 s1) fun x2=>
 bnd (An x2) fun r2=>
 bnd (Ih r0 r1 r2) fun r3=>
 j0 r3))))
 else (some (.inr (.inl ())))
noncomputable def Cp(s0:Int)(p1:List Ab)(p0:List Ac)(r0:Aa)(r1:Aa):Int->Option (Sum Int (Sum Unit Int)):=fun s1=>
 if s1<s0 then (bnd (idx p1 s1) fun x0=>
 bnd (idx p0 x0.a0) fun x1=>
 bnd (idx p1 s1) fun x2=>
 bnd (idx p0 x2.a1) fun x3=>
 bnd (An x1) fun r2=>
 bnd (An x3) fun r3=>
 bnd (Ko r0 r1 r2 r3) fun r4=>
 if r4=true then (some (.inr (.inr 63)))
 else (some (.inl (w64 (s1+1)))))
 else (some (.inr (.inl ())))
noncomputable def Et(p1:List Ab)(p0:List Ac):Int->Option (Sum Int (Sum Unit Int)):=fun s0=>
 if s0<(p1.length:Int) then (jn (fun (s1:Unit)=>
 some (.inl (w64 (s0+1))))
 (fun j0=>bnd (idx p1 s0) fun x0=>
 bnd (idx p0 x0.a0) fun x1=>
 bnd (idx p1 s0) fun x2=>
 bnd (idx p0 x2.a1) fun x3=>
 bnd (An x1) fun r0=>
 bnd (An x3) fun r1=>
 jn (fun (s2:Unit)=>
 bnd (lfix (Cp s0 p1 p0 r0 r1) 0) fun t0=>
 (match t0 with
 | (.inl z0)=>j0 z0
 | (.inr z0)=>some (.inr (.inr z0))
 ))
 (fun j1=>bnd (lfix (Co p0 p1 s0 r0 r1) 0) fun t1=>
 (match t1 with
 | (.inl z1)=>j1 z1
 | (.inr z1)=>some (.inr (.inr z1))
 ))))
 else (some (.inr (.inl ())))
noncomputable def Ho(p0:List Ac)(p1:List Ab):Option Int :=
 jn (fun (s2:Unit)=>
 jn (fun (s0:Unit)=>
 some 0)
 (fun j0=>bnd (lfix (Et p1 p0) 0) fun t0=>
 (match t0 with
 | (.inl z0)=>j0 z0
 | (.inr z0)=>some z0
 )))
 (fun j2=>bnd (lfix (Fq p1 p0) 0) fun t1=>
 (match t1 with
 | (.inl z1)=>j2 z1
 | (.inr z1)=>some z1
 ))
noncomputable def Kq(p0:List Ac)(p1:List Ab):Option Int :=
 bnd (Jp p0) fun r1=>
 if r1=0 then (bnd (Ho p0 p1) fun r7=>
 some r7)
 else (some r1)
noncomputable def Lg(p1:List Ab)(p0:List Ac)(p2:Int)(p3:Int):Int->Option (Sum Int (Sum Unit Bool)):=fun s0=>
 if s0<(p1.length:Int) then (bnd (idx p1 s0) fun x0=>
 bnd (idx p0 p2) fun x1=>
 bnd (idx p0 p3) fun x2=>
 bnd (idx p0 x0.a0) fun x3=>
 bnd (idx p0 x0.a1) fun x4=>
 bnd (An x1) fun r0=>
 bnd (An x2) fun r1=>
 bnd (An x3) fun r2=>
 bnd (An x4) fun r3=>
 bnd (Ko r0 r1 r2 r3) fun r4=>
 if r4=true then (some (.inr (.inr false)))
 else (some (.inl (w64 (s0+1)))))
 else (some (.inr (.inl ())))
noncomputable def Mf(p0:List Ac)(p1:List Ab)(p2:Int)(p3:Int):Option Bool :=
 jn (fun (s2:Unit)=>
 some true)
 (fun j2=>bnd (lfix (Lg p1 p0 p2 p3) 0) fun t0=>
 (match t0 with
 | (.inl z0)=>j2 z0
 | (.inr z0)=>some z0
 ))
noncomputable def Lh(s0:List Int)(x0:Int):(Bool × Int)->Option (Sum (Bool × Int) Bool):=fun s1=>
 if s1.2<(s0.length:Int) then (jn (fun (s2:Bool)=>
 some (.inl (s2,w64 (s1.2+1))))
 (fun j0=>bnd (idx s0 s1.2) fun x1=>
 if s1.1=true then (j0 true)
 else (j0 (decide (x1=x0)))))
 else (some (.inr s1.1))
noncomputable def Li(p3:List Int)(p0:List Ac)(p1:Int)(s0:List Int):(Int × Int)->Option (Sum (Int × Int) Int):=fun s1=>
 if s1.2<(p3.length:Int) then (jn (fun (s2:Int)=>
 some (.inl (s2,w64 (s1.2+1))))
 (fun j0=>bnd (idx p3 s1.2) fun x0=>
 jn (fun (s3:Bool)=>
 jn (fun (s4:Bool)=>
 if s4=true then (j0 x0)
 else (j0 s1.1))
 (fun j1=>if s3=true then (j1 false)
 else (if s1.1<0 then (j1 true)
 else (bnd (idx p0 p1) fun x1=>
 bnd (idx p0 x0) fun x2=>
 bnd (idx p0 s1.1) fun x3=>
 bnd (An x1) fun r0=>
 bnd (An x2) fun r1=>
 bnd (An x3) fun r2=>
 bnd (Cf r0 r1 r2) fun r3=>
 j1 (decide (0<r3))))))
 (fun j2=>bnd (lfix (Lh s0 x0) (false,0)) fun t0=>
 j2 t0)))
 else (some (.inr s1.1))
noncomputable def Oy(p3:List Int)(p0:List Ac)(p1:Int):(List Int)->Option (Sum (List Int) (List Int)):=fun s0=>
 if (s0.length:Int)<(w64 ((p3.length:Int)+2)) then (jn (fun (s1:Int)=>
 gd ((s0.length+1)*8<=140737488355328)<|
 some (.inl (s0++[s1])))
 (fun j0=>bnd (lfix (Li p3 p0 p1 s0) (-1,0)) fun t0=>
 j0 t0))
 else (some (.inr s0))
noncomputable def Pq(p0:List Ac)(p1:Int)(p2:Int)(p3:List Int):Option (List Int):=
 jn (fun (s3:List Int)=>
 some s3)
 (fun j3=>bnd (lfix (Oy p3 p0 p1) ([p1,p2])) fun t0=>
 j3 t0)
noncomputable def Js(s0:List Int)(p0:List Ac):(Int × Int)->Option (Sum (Int × Int) Int):=fun s1=>
 if s1.2<(s0.length:Int) then (jn (fun (s2:Int)=>
 some (.inl (s2,w64 (s1.2+1))))
 (fun j0=>bnd (idx s0 s1.2) fun x0=>
 bnd (idx p0 x0) fun x1=>
 bnd (idx s0 s1.1) fun x2=>
 bnd (idx p0 x2) fun x3=>
 bnd (An x1) fun r0=>
 bnd (An x3) fun r1=>
 bnd (Ja r0 r1) fun r2=>
 if r2=true then (j0 s1.2)
 else (j0 s1.1)))
 else (some (.inr s1.1))
noncomputable def Ix(s0:List Int)(s1:Int):(List Int × Int)->Option (Sum (List Int × Int) (List Int)):=fun s2=>
 if s2.2<(s0.length:Int) then (jn (fun (s3:List Int)=>
 some (.inl (s3,w64 (s2.2+1))))
 (fun j0=>if s2.2=s1 then (j0 s2.1)
 else (bnd (idx s0 s2.2) fun x0=>
 gd ((s2.1.length+1)*8<=140737488355328)<|
 j0 (s2.1++[x0]))))
 else (some (.inr s2.1))
noncomputable def Ez(p2:Int)(p1:Int)(p0:List Ac):(List Int)->Option (Sum (List Int) (Sum (List Int) Int)):=fun s0=>
 if 3<(s0.length:Int) then (jn (fun (s1:Int)=>
 gd ((s0.length:Int)≠0)<|
 bnd (idx s0 (Int.tmod (w64 ((w64 (s1+(s0.length:Int)))-1)) (s0.length:Int))) fun x0=>
 gd ((s0.length:Int)≠0)<|
 bnd (idx s0 (Int.tmod (w64 (s1+1)) (s0.length:Int))) fun x1=>
 jn (fun (s2:Bool)=>
 if s2=true then (some (.inr (.inr x0)))
 else (jn (fun (s3:Bool)=>
 if s3=true then (some (.inr (.inr x1)))
 else (jn (fun (s4:List Int)=>
 some (.inl s4))
 (fun j0=>bnd (lfix (Ix s0 s1) (([]:List Int),0)) fun t0=>
 j0 t0)))
 (fun j1=>bnd (idx s0 s1) fun x2=>
 if x2=p2 then (j1 (decide (x0=p1)))
 else (j1 false))))
 (fun j2=>bnd (idx s0 s1) fun x3=>
 if x3=p1 then (j2 (decide (x1=p2)))
 else (j2 false)))
 (fun j3=>bnd (lfix (Js s0 p0) (0,0)) fun t1=>
 j3 t1))
 else (some (.inr (.inl s0)))
noncomputable def Df(s2:List Int)(p1:Int)(p2:Int):Int->Option (Sum Int (Sum Unit Int)):=fun s0=>
 if s0<(s2.length:Int) then (bnd (idx s2 s0) fun x0=>
 jn (fun (s1:Bool)=>
 if s1=true then (some (.inr (.inr x0)))
 else (some (.inl (w64 (s0+1)))))
 (fun j0=>if x0=p1 then (j0 false)
 else (j0 (!(decide (x0=p2))))))
 else (some (.inr (.inl ())))
noncomputable def Oe(p0:List Ac)(p1:Int)(p2:Int)(p3:List Int):Option Int :=
 jn (fun (s2:List Int)=>
 jn (fun (s0:Unit)=>
 some (-1))
 (fun j0=>bnd (lfix (Df s2 p1 p2) 0) fun t0=>
 (match t0 with
 | (.inl z0)=>j0 z0
 | (.inr z0)=>some z0
 )))
 (fun j2=>bnd (lfix (Ez p2 p1 p0) p3) fun t1=>
 (match t1 with
 | (.inl z1)=>j2 z1
 | (.inr z1)=>some z1
 ))
noncomputable def Lj(p0:List Ac)(p2:Int)(p3:Int)(p1:List Ab):(List Int × Int)->Option (Sum (List Int × Int) (List Int)):=fun s0=>
 if s0.2<(p0.length:Int) then (jn (fun (s1:List Int)=>
 some (.inl (s1,w64 (s0.2+1))))
 (fun j0=>jn (fun (s2:Bool)=>
 if s2=true then (j0 s0.1)
 else (if (s0.1.length:Int)=0 then (j0 ([s0.2]))
 else (bnd (idx p0 p2) fun x0=>
 bnd (idx p0 p3) fun x1=>
 bnd (idx s0.1 0) fun x2=>
 bnd (idx p0 x2) fun x3=>
 bnd (idx p0 s0.2) fun x4=>
 bnd (An x0) fun r0=>
 bnd (An x1) fun r1=>
 bnd (An x3) fun r2=>
 bnd (An x4) fun r3=>
 bnd (Mr r0 r1 r2 r3) fun r4=>
 if r4=1 then (j0 ([s0.2]))
 else (if r4=0 then (gd ((s0.1.length+1)*8<=140737488355328)<|
 j0 (s0.1++[s0.2]))
 else (j0 s0.1)))))
 (fun j1=>bnd (idx p0 p2) fun x5=>
 bnd (idx p0 p3) fun x6=>
 bnd (idx p0 s0.2) fun x7=>
 bnd (An x5) fun r5=>
 bnd (An x6) fun r6=>
 bnd (An x7) fun r7=>
 bnd (Cf r5 r6 r7) fun r8=>
 if r8<=0 then (j1 true)
 else (bnd (Mf p0 p1 p2 s0.2) fun r9=>
 if r9=true then (bnd (Mf p0 p1 p3 s0.2) fun r10=>
 j1 (!(r10)))
 else (j1 true)))))
 else (some (.inr s0.1))
noncomputable def Pr(p0:List Ac)(p1:List Ab)(p2:Int)(p3:Int):Option Int :=
 jn (fun (s3:List Int)=>
 if (s3.length:Int)=0 then (some (-1))
 else (bnd (Pq p0 p2 p3 s3) fun r0=>
 bnd (Oe p0 p2 p3 r0) fun r1=>
 some r1))
 (fun j3=>bnd (lfix (Lj p0 p2 p3 p1) (([]:List Int),0)) fun t0=>
 j3 t0)
instance(p0:Aa)(p1:Aa)(p2:Aa)(p3:Aa):Con (Ko p0 p1 p2 p3) prog 243 (fun _ vs=>vs=[.agg #[iq p0.X,iq p0.Y],.agg #[iq p1.X,iq p1.Y],.agg #[iq p2.X,iq p2.Y],.agg #[iq p3.X,iq p3.Y]]) (fun _ r=>fun v Ln=>v = .bool r/\Ln=[]/\True):=⟨by
 rintro _ _ r rfl hx w hK;unfold Ko at hx;have:=dl 1 [1,1,1,2,1,1,1,2,0,0,0,1,1,1,2,1,1,1,2,0,0,0,2] [0,1,2,4,5,6,3,7,8,9,10,11,12,13,15,16,17,14,18,19,20,21,22];refine CtS ntmps243 results243 ?_;exact au⟩
instance(p0:List Ac)(p1:List Ab):Con (Ho p0 p1) prog 194 (fun K vs=>∃ U0 E0 U1 E1,vs=[.slice U0 p0.length E0,.slice U1 p1.length E1]/\Has K U0 p0.length E0 4 Ai p0/\Has K U1 p1.length E1 2 Aq p1/\True) (fun _ r=>fun v Ln=>v = iq r/\Ln=[]/\True):=⟨by
 rintro K _ r ⟨U0,E0,U1,E1,rfl,ha0,ha1,-⟩ hx w hK;replace ha0:=Has.lo ha0 hK;replace ha1:=Has.lo ha1 hK;unfold Ho at hx;have:=dl 4 [0,0,0,0,1,0,0,0,0,0,0,1,0,0,0,0,0,0,0,0,0,1,0,0,0,0,0,0,0,1,0,0,0,0,0,0,0,0,0,1,0,0,0,0,1,0,0] [0,1,2,3,4,5,6,7,8,9,10,11,12,13,14,15,16,17,18,19,20,21,22,23,24,25,26,27,28,29,30,31,32,33,34,35,36,37,38,39,40,41,42,43,44,45,46];have:=dl 9 [0,0,0,1,0,0,0,1,0,0,0,0,0,0,1,0,0,0,0,1,0,0,0,0,0,0,1,0,0,0,0,1,0,0,0] [0,1,2,3,4,5,6,7,8,9,10,11,12,13,14,15,16,17,18,19,20,21,22,23,24,25,26,27,28,29,30,31,32,33,34];have:=dl 15 [0,0,0,0,0,1,0,1,2,0,0,0,0,0,1,0,1,2,4,4,3,3] [0,1,2,3,4,5,6,7,9,10,11,12,13,14,15,16,8,17,18,19,20,21] [18,19];have:=dl 19 [0,0,0,0,0,1,0,0,0,0,0,0,0,1,0,0,0,1,1,0,0,0,1,2,2,0] [0,1,2,3,4,5,6,7,8,9,10,11,12,13,14,15,16,17,18,19,20,21,22,23,24,25];have:=dl 25 [1,1,0,0,0,0,0,1,0,1,2,0,0,0,0,0,1,0,1,2,2] [0,1,2,3,4,5,6,7,8,9,11,12,13,14,15,16,17,18,10,19,20];refine CtS ntmps194 results194 ?_;try (refine pre ?_;intros;rename_i hx)
 refine Bf ?_;try (refine pre ?_;intros;rename_i hx)
 apply Jr (γ:=Unit) hx [0,1] (fun s2 y2 f=>f) [999] (fun s2 y2 l=>l);exact kk
 ·intro s2 y2 hx;apply Jr (γ:=Unit) hx [] (fun s0 y0 f=>f) [999] (fun s0 y0 l=>l);exact kk
  ·intro s0 y0 hx;exact au
  ·intro _ hx;try (refine pre ?_;intros;rename_i hx)
   apply Lr (γ:=Unit) hx [0,1,106] (fun s1 y1 f=>(107,iq s1)::f) [999] (fun s1 y1 l=>l) ();exact kk;exact sk;intro s1 y1 x0 hx _;unfold Et at hx;try (refine pre ?_;intros;rename_i hx)
   refine Cq1 (s:=108) hx rfl (fun _ hx=>?_) (fun _ hx=>?_)
   ·try (refine pre ?_;intros;rename_i hx)
    apply Jr (γ:=Unit) hx [0,1,106,107] (fun s3 y3 f=>f) [999] (fun s3 y3 l=>l);exact kk
    ·intro s3 y3 hx;exact au
    ·intro _ hx;try (refine pre ?_;intros;rename_i hx)
     apply Jr (γ:=Unit) hx [0,1,7,8,9,106,107] (fun s4 y4 f=>f) [0,1,999] (fun s4 y4 l=>l);exact kk
     ·intro s4 y4 hx;try (refine pre ?_;intros;rename_i hx)
      apply Lr (γ:=Unit) hx [0,1,7,8,9,106,107] (fun s5 y5 f=>(11,iq s5)::f) [0,1,999] (fun s5 y5 l=>l) ();exact kk;exact sk;intro s5 y5 x1 hx _;unfold Cp at hx;exact au
     ·intro _ hx;try (refine pre ?_;intros;rename_i hx)
      apply Lr (γ:=Unit) hx [0,1,7,8,9,106,107,129] (fun s6 y6 f=>(130,iq s6)::f) [0,1,999] (fun s6 y6 l=>l) ();exact kk;exact sk;intro s6 y6 x2 hx _;unfold Co at hx;try (refine pre ?_;intros;rename_i hx)
      refine Cq1 (s:=131) hx rfl (fun _ hx=>?_) (fun _ hx=>?_)
      ·try (refine pre ?_;intros;rename_i hx)
       refine Bf ?_;try (refine pre ?_;intros;rename_i hx)
       refine Bf ?_;try (refine pre ?_;intros;rename_i hx)
       apply Jr (γ:=Unit) hx [0,1,7,8,9,106,107,129,130] (fun s7 y7 f=>(158,.bool s7)::f) [0,1,999] (fun s7 y7 l=>l);exact kk
       ·intro s7 y7 hx;exact au
       ·intro _ hx;exact au
      ·exact au
   ·exact au
 ·intro _ hx;try (refine pre ?_;intros;rename_i hx)
  apply Lr (γ:=Unit) hx [0,1,13] (fun s8 y8 f=>(14,iq s8)::f) [999] (fun s8 y8 l=>l) ();exact kk;exact sk;intro s8 y8 x3 hx _;unfold Fq at hx;try (refine pre ?_;intros;rename_i hx)
  refine Cq1 (s:=15) hx rfl (fun _ hx=>?_) (fun _ hx=>?_)
  ·try (refine pre ?_;intros;rename_i hx)
   apply Jr (γ:=Unit) hx [0,1,13,14] (fun s9 y9 f=>f) [999] (fun s9 y9 l=>l);exact kk
   ·intro s9 y9 hx;exact au
   ·intro _ hx;try (refine pre ?_;intros;rename_i hx)
    refine Bf ?_;try (refine pre ?_;intros;rename_i hx)
    refine Bf ?_;try (refine pre ?_;intros;rename_i hx)
    apply Jr (γ:=Unit) hx [0,1,5,13,14] (fun s27 y27 f=>(63,.bool s27)::f) [999] (fun s27 y27 l=>l);exact kk
    ·intro s27 y27 hx;refine Cq3 (s:=63) hx rfl (fun _ hx=>?_) (fun _ hx=>?_)
     ·exact au
     ·try (refine pre ?_;intros;rename_i hx)
      apply Lr (γ:=Unit) hx [0,1,5,13,14] (fun s10 y10 f=>(6,iq s10)::f) [999] (fun s10 y10 l=>l) ();exact kk;exact sk;intro s10 y10 x4 hx _;unfold Da at hx;try (refine pre ?_;intros;rename_i hx)
      refine Cq1 (s:=66) hx rfl (fun _ hx=>?_) (fun _ hx=>?_)
      ·try (refine pre ?_;intros;rename_i hx)
       refine Bf ?_;try (refine pre ?_;intros;rename_i hx)
       apply Jr (γ:=Unit) hx [0,1,5,6,13,14] (fun s38 y38 f=>(103,.bool s38)::f) [999] (fun s38 y38 l=>l);exact kk
       ·intro s38 y38 hx;exact au
       ·intro _ hx;exact au
      ·exact au
    ·intro _ hx;exact au
  ·exact au⟩
instance(p0:List Ac)(p1:List Ab):Con (Kq p0 p1) prog 136 (fun K vs=>∃ U0 E0 U1 E1,vs=[.slice U0 p0.length E0,.slice U1 p1.length E1]/\Has K U0 p0.length E0 4 Ai p0/\Has K U1 p1.length E1 2 Aq p1/\True) (fun _ r=>fun v Ln=>v = iq r/\Ln=[]/\True):=⟨by
 rintro K _ r ⟨U0,E0,U1,E1,rfl,ha0,ha1,-⟩ hx w hK;replace ha0:=Has.lo ha0 hK;replace ha1:=Has.lo ha1 hK;unfold Kq at hx;refine CtS ntmps136 results136 ?_;exact au⟩
instance(p0:List Ac)(p1:List Ab)(p2:Int)(p3:Int):Con (Mf p0 p1 p2 p3) prog 245 (fun K vs=>∃ U0 E0 U1 E1,vs=[.slice U0 p0.length E0,.slice U1 p1.length E1,iq p2,iq p3]/\Has K U0 p0.length E0 4 Ai p0/\Has K U1 p1.length E1 2 Aq p1/\True) (fun _ r=>fun v Ln=>v = .bool r/\Ln=[]/\True):=⟨by
 rintro K _ r ⟨U0,E0,U1,E1,rfl,ha0,ha1,-⟩ hx w hK;replace ha0:=Has.lo ha0 hK;replace ha1:=Has.lo ha1 hK;unfold Mf at hx;have:=dl 4 [0,0,0,1,2,0,0,0,1,2,0,0,1,0,1,2,0,0,1,0,1,2,2] [0,1,2,3,5,6,7,8,10,11,12,13,14,16,17,18,19,20,4,9,15,21,22];refine CtS ntmps245 results245 ?_;try (refine pre ?_;intros;rename_i hx)
 refine Bf ?_;try (refine pre ?_;intros;rename_i hx)
 apply Jr (γ:=Unit) hx [] (fun s2 y2 f=>f) [999] (fun s2 y2 l=>l);exact kk
 ·intro s2 y2 hx;exact au
 ·intro _ hx;try (refine pre ?_;intros;rename_i hx)
  apply Lr (γ:=Unit) hx [0,2,3,11,12] (fun s0 y0 f=>(13,iq s0)::f) [999] (fun s0 y0 l=>l) ();exact kk;exact sk;intro s0 y0 x0 hx _;unfold Lg at hx;exact au⟩
instance(p0:List Ac)(p1:Int)(p2:Int)(p3:List Int):Con (Pq p0 p1 p2 p3) prog 248 (fun K vs=>∃ U0 E0 U1 E1,vs=[.slice U0 p0.length E0,iq p1,iq p2,.slice U1 p3.length E1]/\Has K U0 p0.length E0 4 Ai p0/\Has K U1 p3.length E1 1 Ah p3/\True) (fun _ r=>fun v Ln=>∃ A0 c0,v = .slice A0 r.length c0/\Ln=[.r A0 r.length c0 3 1 (r.flatMap Ah)]/\True):=⟨by
 rintro K _ r ⟨U0,E0,U1,E1,rfl,ha0,ha1,-⟩ hx w hK;replace ha0:=Has.lo ha0 hK;replace ha1:=Has.lo ha1 hK;unfold Pq at hx;have:=dl 13 [0,0,0,0,0,0,0,0,0,1,2,0,0,0,1,2,0,0,0,1,2,2,0,0,0] [0,1,2,3,4,5,6,7,8,9,11,12,13,14,16,17,18,19,10,15,20,21,22,23,24];refine CtS ntmps248 results248 ?_;try (refine pre ?_;intros;rename_i hx)
 refine Bf ?_;try (refine pre ?_;intros;rename_i hx)
 refine Bf ?_;try (refine pre ?_;intros;rename_i hx)
 apply Jr (γ:=Option Addr × Nat) hx [] (fun s3 y3 f=>(9,.slice y3.1 s3.length y3.2)::f) [999] (fun s3 y3 l=>.r y3.1 s3.length y3.2 3 1 (s3.flatMap Ah)::l);exact kk
 ·intro s3 y3 hx;exact au
 ·intro _ hx;try (refine pre ?_;intros;rename_i hx)
  (with_reducible apply Anu 18 (sz:=1));exact rfl;exact aT;exact inferInstance;exact dL;exact (fun _=>rfl);exact rfl;exact rfl;exact sA
  try (refine pre ?_;intros;rename_i hx)
  apply Lr (γ:=Option Addr × Nat) hx [0,1,3] (fun s0 y0 f=>(9,.slice y0.1 s0.length y0.2)::f) [999] (fun s0 y0 l=>.r y0.1 s0.length y0.2 3 1 (s0.flatMap Ah)::l) (_,_);exact kk;exact sk;intro s0 y0 x0 hx _;unfold Oy at hx;try (refine pre ?_;intros;rename_i hx)
  refine Cq1 (s:=24) hx rfl (fun _ hx=>?_) (fun _ hx=>?_)
  ·try (refine pre ?_;intros;rename_i hx)
   refine Bf ?_;try (refine pre ?_;intros;rename_i hx)
   apply Jr (γ:=Unit) hx [0,1,3,9] (fun s1 y1 f=>(10,iq s1)::f) [0,999] (fun s1 y1 l=>l);exact kk
   ·intro s1 y1 hx;exact au
   ·intro _ hx;try (refine pre ?_;intros;rename_i hx)
    apply Lr (γ:=Unit) hx [0,1,3,9,25,26] (fun s2 y2 f=>(10,iq s2.1)::(27,iq s2.2)::f) [0,999] (fun s2 y2 l=>l) ();exact kk;exact sk;intro s2 y2 x1 hx _;unfold Li at hx;try (refine pre ?_;intros;rename_i hx)
    refine Cq1 (s:=28) hx rfl (fun _ hx=>?_) (fun _ hx=>?_)
    ·try (refine pre ?_;intros;rename_i hx)
     apply Jr (γ:=Unit) hx [0,1,3,9,25,26,27] (fun s4 y4 f=>(10,iq s4)::f) [0,999] (fun s4 y4 l=>l);exact kk
     ·intro s4 y4 hx;exact au
     ·intro _ hx;try (refine pre ?_;intros;rename_i hx)
      refine Bf ?_;try (refine pre ?_;intros;rename_i hx)
      apply Jr (γ:=Unit) hx [0,1,3,9,10,12,25,26,27] (fun s5 y5 f=>(13,.bool s5)::f) [0,999] (fun s5 y5 l=>l);exact kk
      ·intro s5 y5 hx;apply Jr (γ:=Unit) hx [0,1,3,9,10,12,25,26,27] (fun s6 y6 f=>(68,.bool s6)::f) [0,999] (fun s6 y6 l=>l);exact kk
       ·intro s6 y6 hx;exact au
       ·intro _ hx;exact au
      ·intro _ hx;try (refine pre ?_;intros;rename_i hx)
       apply Lr (γ:=Unit) hx [0,1,3,9,10,12,25,26,27,31,32] (fun s7 y7 f=>(13,.bool s7.1)::(33,iq s7.2)::f) [0,999] (fun s7 y7 l=>l) ();exact kk;exact sk;intro s7 y7 x2 hx _;unfold Lh at hx;exact au
    ·exact au
  ·exact au⟩
instance(p0:List Ac)(p1:Int)(p2:Int)(p3:List Int):Con (Oe p0 p1 p2 p3) prog 247 (fun K vs=>∃ U0 E0 U1 E1,vs=[.slice U0 p0.length E0,iq p1,iq p2,.slice U1 p3.length E1]/\Has K U0 p0.length E0 4 Ai p0/\Has K U1 p3.length E1 1 Ah p3/\True) (fun _ r=>fun v Ln=>v = iq r/\Ln=[]/\True):=⟨by
 rintro K _ r ⟨U0,E0,U1,E1,rfl,ha0,ha1,-⟩ hx w hK;replace ha0:=Has.lo ha0 hK;replace ha1:=Has.lo ha1 hK;unfold Oe at hx;have:=dl 6 [0,0,0,0,1,0,1,2,0,0,0,0,1,0,1,2,2] [0,1,2,3,4,5,6,8,9,10,11,12,13,14,7,15,16];have:=dl 9 [0,0,0,0,0,0,0,0,0,0,1,0,0,0,0,0,0,0,1,2,2] [0,1,2,3,4,5,6,7,8,9,10,11,12,13,14,15,16,17,18,19,20];refine CtS ntmps247 results247 ?_;try (refine pre ?_;intros;rename_i hx)
 refine Bf ?_;try (refine pre ?_;intros;rename_i hx)
 apply JrG (γ:=Option Addr × Nat × Ent) hx [1,2] (fun s2 y2 f=>(3,.slice y2.1 s2.length y2.2.1)::f) [999] (fun s2 y2 l=>y2.2.2::l) (fun s2 y2=>Has ([.old w,y2.2.2]) y2.1 s2.length y2.2.1 1 Ah s2/\y2.2.2.low=0/\True);exact kk
 ·intro s2 y2 hx hG;obtain⟨_,_,-⟩:=hG;try (refine pre ?_;intros;rename_i hx)
  apply Jr (γ:=Unit) hx [] (fun s0 y0 f=>f) [999] (fun s0 y0 l=>l);exact kk
  ·intro s0 y0 hx;exact au
  ·intro _ hx;try (refine pre ?_;intros;rename_i hx)
   apply Lr (γ:=Unit) hx [1,2,104,105] (fun s1 y1 f=>(106,iq s1)::f) [0,999] (fun s1 y1 l=>l) ();exact kk;exact sk;intro s1 y1 x0 hx _;unfold Df at hx;exact au
 ·intro _ hx;try (refine pre ?_;intros;rename_i hx)
  refine Bh 0 1 ?_;apply LrG (γ:=Option Addr × Nat × Ent) hx [0,1,2] (fun s3 y3 f=>(3,.slice y3.1 s3.length y3.2.1)::f) [999] (fun s3 y3 l=>y3.2.2::l) (fun s3 y3=>Has ([.old w,y3.2.2]) y3.1 s3.length y3.2.1 1 Ah s3/\y3.2.2.low=0/\True) (_,_,_);exact kk;exact sF2;exact gG2;exact pK2;intro s3 y3 x1 hx _ hG;obtain⟨_,_,-⟩:=hG;unfold Ez at hx;try (refine pre ?_;intros;rename_i hx)
  refine Cq1 (s:=19) hx rfl (fun _ hx=>?_) (fun _ hx=>?_)
  ·try (refine pre ?_;intros;rename_i hx)
   refine Bf ?_;try (refine pre ?_;intros;rename_i hx)
   apply Jr (γ:=Unit) hx [0,1,2,3] (fun s4 y4 f=>(9,iq s4)::f) [0,999] (fun s4 y4 l=>l);exact kk
   ·intro s4 y4 hx;try (refine pre ?_;intros;rename_i hx)
    refine Bf ?_;try (refine pre ?_;intros;rename_i hx)
    apply Jr (γ:=Unit) hx [0,1,2,3,9,11,12] (fun s5 y5 f=>(73,.bool s5)::f) [0,999] (fun s5 y5 l=>l);exact kk
    ·intro s5 y5 hx;refine Cq3 (s:=73) hx rfl (fun _ hx=>?_) (fun _ hx=>?_)
     ·exact au
     ·try (refine pre ?_;intros;rename_i hx)
      refine Bf ?_;try (refine pre ?_;intros;rename_i hx)
      apply Jr (γ:=Unit) hx [0,1,2,3,9,12] (fun s6 y6 f=>(85,.bool s6)::f) [0,999] (fun s6 y6 l=>l);exact kk
      ·intro s6 y6 hx;refine Cq3 (s:=85) hx rfl (fun _ hx=>?_) (fun _ hx=>?_)
       ·exact au
       ·try (refine pre ?_;intros;rename_i hx)
        refine Bf ?_;try (refine pre ?_;intros;rename_i hx)
        apply Jr (γ:=Option Addr × Nat) hx [0,1,2] (fun s7 y7 f=>(13,.slice y7.1 s7.length y7.2)::f) [999] (fun s7 y7 l=>.r y7.1 s7.length y7.2 3 1 (s7.flatMap Ah)::l);exact kk
        ·intro s7 y7 hx;exact au
        ·intro _ hx;try (refine pre ?_;intros;rename_i hx)
         refine Bh 3 1 ?_;apply Lr (γ:=Option Addr × Nat) hx [0,1,2,3,9,88] (fun s8 y8 f=>(13,.slice y8.1 s8.1.length y8.2)::(89,iq s8.2)::f) [1,999] (fun s8 y8 l=>.r y8.1 s8.1.length y8.2 3 1 (s8.1.flatMap Ah)::l) (_,_);exact kk;exact sk;intro s8 y8 x2 hx _;unfold Ix at hx;exact au
      ·intro _ hx;exact au
    ·intro _ hx;exact au
   ·intro _ hx;try (refine pre ?_;intros;rename_i hx)
    apply Lr (γ:=Unit) hx [0,1,2,3,21] (fun s9 y9 f=>(9,iq s9.1)::(22,iq s9.2)::f) [0,999] (fun s9 y9 l=>l) ();exact kk;exact sk;intro s9 y9 x3 hx _;unfold Js at hx;exact au
  ·exact au⟩
instance(p0:List Ac)(p1:List Ab)(p2:Int)(p3:Int):Con (Pr p0 p1 p2 p3) prog 199 (fun K vs=>∃ U0 E0 U1 E1,vs=[.slice U0 p0.length E0,.slice U1 p1.length E1,iq p2,iq p3]/\Has K U0 p0.length E0 4 Ai p0/\Has K U1 p1.length E1 2 Aq p1/\True) (fun _ r=>fun v Ln=>v = iq r/\Ln=[]/\True):=⟨by
 rintro K _ r ⟨U0,E0,U1,E1,rfl,ha0,ha1,-⟩ hx w hK;replace ha0:=Has.lo ha0 hK;replace ha1:=Has.lo ha1 hK;unfold Pr at hx;have:=dl 5 [0,0,0,1,2,0,0,0,1,2,0,0,0,1,2,2,0,0,0,0,0,0,2,0,0,0,0,0,0,0,2,0,0] [0,1,2,3,5,6,7,8,10,11,12,13,4,9,14,15,16,17,18,19,20,21,22,23,24,25,26,27,28,29,30,31,32];have:=dl 8 [0,0,0,1,2,0,0,0,1,2,0,0,0,1,0,1,2,0,0,0,1,2,2] [0,1,2,3,5,6,7,8,10,11,12,13,14,15,17,18,19,20,4,9,16,21,22];refine CtS ntmps199 results199 ?_;try (refine pre ?_;intros;rename_i hx)
 refine Bf ?_;try (refine pre ?_;intros;rename_i hx)
 refine Bf ?_;try (refine pre ?_;intros;rename_i hx)
 apply Jr (γ:=Option Addr × Nat) hx [0,2,3] (fun s3 y3 f=>(9,.slice y3.1 s3.length y3.2)::f) [999] (fun s3 y3 l=>.r y3.1 s3.length y3.2 3 1 (s3.flatMap Ah)::l);exact kk
 ·intro s3 y3 hx;exact au
 ·intro _ hx;try (refine pre ?_;intros;rename_i hx)
  refine Bh 3 1 ?_;apply Lr (γ:=Option Addr × Nat) hx [0,1,2,3,12] (fun s0 y0 f=>(9,.slice y0.1 s0.1.length y0.2)::(13,iq s0.2)::f) [999] (fun s0 y0 l=>.r y0.1 s0.1.length y0.2 3 1 (s0.1.flatMap Ah)::l) (_,_);exact kk;exact sk;intro s0 y0 x0 hx _;unfold Lj at hx;try (refine pre ?_;intros;rename_i hx)
  refine Cq1 (s:=14) hx rfl (fun _ hx=>?_) (fun _ hx=>?_)
  ·try (refine pre ?_;intros;rename_i hx)
   apply Jr (γ:=Option Addr × Nat) hx [0,1,2,3,12,13] (fun s1 y1 f=>(9,.slice y1.1 s1.length y1.2)::f) [999] (fun s1 y1 l=>.r y1.1 s1.length y1.2 3 1 (s1.flatMap Ah)::l);exact kk
   ·intro s1 y1 hx;exact au
   ·intro _ hx;try (refine pre ?_;intros;rename_i hx)
    refine Bf ?_;try (refine pre ?_;intros;rename_i hx)
    refine Bf ?_;try (refine pre ?_;intros;rename_i hx)
    apply Jr (γ:=Unit) hx [0,1,2,3,9,10,12,13] (fun s2 y2 f=>(48,.bool s2)::f) [0,999] (fun s2 y2 l=>l);exact kk
    ·intro s2 y2 hx;refine Cq3 (s:=48) hx rfl (fun _ hx=>?_) (fun _ hx=>?_)
     ·exact au
     ·try (refine pre ?_;intros;rename_i hx)
      refine Cq1 (s:=51) hx rfl (fun _ hx=>?_) (fun _ hx=>?_)
      ·try (refine pre ?_;intros;rename_i hx)
       (with_reducible apply Anu 9 (sz:=1));exact rfl;exact aT;exact inferInstance;exact dL;exact (fun _=>rfl);exact rfl;exact rfl;exact sA
       exact au
      ·try (refine pre ?_;intros;rename_i hx)
       refine Cq1 (s:=77) hx rfl (fun _ hx=>?_) (fun _ hx=>?_)
       ·try (refine pre ?_;intros;rename_i hx)
        (with_reducible apply Anu 9 (sz:=1));exact rfl;exact aT;exact inferInstance;exact dL;exact (fun _=>rfl);exact rfl;exact rfl;exact sA
        exact au
       ·exact au
    ·intro _ hx;exact au
  ·exact au⟩
end Go.Proofs.YthlkpgdfifnagaaGreat
