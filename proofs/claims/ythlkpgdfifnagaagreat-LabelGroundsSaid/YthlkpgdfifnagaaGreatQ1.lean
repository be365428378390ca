import Derived.Test.YthlkpgdfifnagaaGreatEs
set_option maxRecDepth 100000
set_option maxHeartbeats 1000000
namespace Go.Proofs.YthlkpgdfifnagaaGreat
open Go Go.RowKit Tryz
noncomputable section
instance(x0:Int)(x1:Int):Pq prog 42 2 [(0,iq x0),(1,iq x1)] 3 [iq x0,iq x1]:=⟨fun w=>kr⟩
def Oc(p1:List Ac):Int->Option (Sum Int Unit):=fun s5=>
 if s5<(p1.length:Int) then none
 else (some (.inr ()))
def Mi(p1:List Ac):Int->Option (Sum Int Unit):=fun s0=>
 if s0<(p1.length:Int) then none
 else (some (.inr ()))
def Hp(p0:List Ad)(p1:List Ac):Option Int :=
 jn (fun (s2:Unit)=>
 jn (fun (s8:Unit)=>
 some 0)
 (fun j8=>bnd (lfix (Mi p1) 0) fun t0=>
 j8 t0))
 (fun j2=>bnd (lfix (Oc p1) 0) fun t5=>
 j2 t5)
def Si(p0:List Ad)(p1:List Ac):Option Int :=
 bnd (Jo p0) fun r1=>
 if r1=0 then (bnd (Hp p0 p1) fun r7=>
 some r7)
 else (some r1)
def Tu(p1:List Ac)(p0:List Ad)(p2:Int)(p3:Int):Unit->Option (Sum Unit Unit):=fun s0=>
 if 0<(p1.length:Int) then (bnd (idx p1 0) fun x0=>
 bnd (idx p0 p2) fun x1=>
 bnd (idx p0 p3) fun x2=>
 bnd (idx p0 x0.a0) fun x3=>
 bnd (idx p0 x0.a1) fun x4=>
 bnd (Au x1) fun r0=>
 bnd (Au x2) fun r1=>
 bnd (Au x3) fun r2=>
 bnd (Au x4) fun r3=>
 none)
 else (some (.inr ()))
def Mq(p0:List Ad)(p1:List Ac)(p2:Int)(p3:Int):Option Bool :=
 jn (fun (s2:Unit)=>
 some true)
 (fun j2=>bnd (lfix (Tu p1 p0 p2 p3) ()) fun t0=>
 j2 t0)
def Lx(s0:List Int)(x0:Int):(Bool × Int)->Option (Sum (Bool × Int) Bool):=fun s1=>
 if s1.2<(s0.length:Int) then (jn (fun (s2:Bool)=>
 some (.inl (s2,w64 (s1.2+1))))
 (fun j0=>bnd (idx s0 s1.2) fun x1=>
 if s1.1=true then (j0 true)
 else (j0 (decide (x1=x0)))))
 else (some (.inr s1.1))
def Ly(p3:List Int)(p0:List Ad)(p1:Int)(s0:List Int):(Int × Int)->Option (Sum (Int × Int) Int):=fun s1=>
 if s1.2<(p3.length:Int) then (jn (fun (s2:Int)=>
 some (.inl (s2,w64 (s1.2+1))))
 (fun j0=>bnd (idx p3 s1.2) fun x0=>
 jn (fun (s3:Bool)=>
 jn (fun (s4:Bool)=>
 if s4=true then (j0 x0)
 else (j0 s1.1))
 (fun j1=>if s3=true then (j1 false)
 else (if s1.1<0 then (j1 true)
 else (bnd (idx p0 p1) fun x1=>
 bnd (idx p0 x0) fun x2=>
 bnd (idx p0 s1.1) fun x3=>
 bnd (Au x1) fun r0=>
 bnd (Au x2) fun r1=>
 bnd (Au x3) fun r2=>
 bnd (Ef r0 r1 r2) fun r3=>
 j1 (decide (0<r3))))))
 (fun j2=>bnd (lfix (Lx s0 x0) (false,0)) fun t0=>
 j2 t0)))
 else (some (.inr s1.1))
def Py(p3:List Int)(p0:List Ad)(p1:Int):(List Int)->Option (Sum (List Int) (List Int)):=fun s0=>
 if (s0.length:Int)<(w64 ((p3.length:Int)+2)) then (jn (fun (s1:Int)=>
 gd ((s0.length+1)*8<=140737488355328)<|
 some (.inl (s0++[s1])))
 (fun j0=>bnd (lfix (Ly p3 p0 p1 s0) (-1,0)) fun t0=>
 j0 t0))
 else (some (.inr s0))
def Qk(p0:List Ad)(p1:Int)(p2:Int)(p3:List Int):Option (List Int):=
 jn (fun (s3:List Int)=>
 some s3)
 (fun j3=>bnd (lfix (Py p3 p0 p1) ([p1,p2])) fun t0=>
 j3 t0)
def Jw(s0:List Int)(p0:List Ad):(Int × Int)->Option (Sum (Int × Int) Int):=fun s1=>
 if s1.2<(s0.length:Int) then (jn (fun (s2:Int)=>
 some (.inl (s2,w64 (s1.2+1))))
 (fun j0=>bnd (idx s0 s1.2) fun x0=>
 bnd (idx p0 x0) fun x1=>
 bnd (idx s0 s1.1) fun x2=>
 bnd (idx p0 x2) fun x3=>
 bnd (Au x1) fun r0=>
 bnd (Au x3) fun r1=>
 bnd (Gn r0 r1) fun r2=>
 if r2=true then (j0 s1.2)
 else (j0 s1.1)))
 else (some (.inr s1.1))
def Iv(s0:List Int)(s1:Int):(List Int × Int)->Option (Sum (List Int × Int) (List Int)):=fun s2=>
 if s2.2<(s0.length:Int) then (jn (fun (s3:List Int)=>
 some (.inl (s3,w64 (s2.2+1))))
 (fun j0=>if s2.2=s1 then (j0 s2.1)
 else (bnd (idx s0 s2.2) fun x0=>
 gd ((s2.1.length+1)*8<=140737488355328)<|
 j0 (s2.1++[x0]))))
 else (some (.inr s2.1))
def Fh(p2:Int)(p1:Int)(p0:List Ad):(List Int)->Option (Sum (List Int) (Sum (List Int) Int)):=fun s0=>
 if 3<(s0.length:Int) then (jn (fun (s1:Int)=>
 gd ((s0.length:Int)≠0)<|
 bnd (idx s0 (Int.tmod (w64 ((w64 (s1+(s0.length:Int)))-1)) (s0.length:Int))) fun x0=>
 gd ((s0.length:Int)≠0)<|
 bnd (idx s0 (Int.tmod (w64 (s1+1)) (s0.length:Int))) fun x1=>
 jn (fun (s2:Bool)=>
 if s2=true then (some (.inr (.inr x0)))
 else (jn (fun (s3:Bool)=>
 if s3=true then (some (.inr (.inr x1)))
 else (jn (fun (s4:List Int)=>
 some (.inl s4))
 (fun j0=>bnd (lfix (Iv s0 s1) (([]:List Int),0)) fun t0=>
 j0 t0)))
 (fun j1=>bnd (idx s0 s1) fun x2=>
 if x2=p2 then (j1 (decide (x0=p1)))
 else (j1 false))))
 (fun j2=>bnd (idx s0 s1) fun x3=>
 if x3=p1 then (j2 (decide (x1=p2)))
 else (j2 false)))
 (fun j3=>bnd (lfix (Jw s0 p0) (0,0)) fun t1=>
 j3 t1))
 else (some (.inr (.inl s0)))
def Dg(s2:List Int)(p1:Int)(p2:Int):Int->Option (Sum Int (Sum Unit Int)):=fun s0=>
 if s0<(s2.length:Int) then (bnd (idx s2 s0) fun x0=>
 jn (fun (s1:Bool)=>
 if s1=true then (some (.inr (.inr x0)))
 else (some (.inl (w64 (s0+1)))))
 (fun j0=>if x0=p1 then (j0 false)
 else (j0 (!(decide (x0=p2))))))
 else (some (.inr (.inl ())))
def Kt(p0:List Ad)(p1:Int)(p2:Int)(p3:List Int):Option Int :=
 jn (fun (s2:List Int)=>
 jn (fun (s0:Unit)=>
 some (-1))
 (fun j0=>bnd (lfix (Dg s2 p1 p2) 0) fun t0=>
 (match t0 with
 | (.inl z0)=>j0 z0
 | (.inr z0)=>some z0
 )))
 (fun j2=>bnd (lfix (Fh p2 p1 p0) p3) fun t1=>
 (match t1 with
 | (.inl z1)=>j2 z1
 | (.inr z1)=>some z1
 ))
def Lz(p0:List Ad)(p2:Int)(p3:Int)(p1:List Ac):(List Int × Int)->Option (Sum (List Int × Int) (List Int)):=fun s0=>
 if s0.2<(p0.length:Int) then (jn (fun (s1:List Int)=>
 some (.inl (s1,w64 (s0.2+1))))
 (fun j0=>jn (fun (s2:Bool)=>
 if s2=true then (j0 s0.1)
 else (if (s0.1.length:Int)=0 then (j0 ([s0.2]))
 else (bnd (idx p0 p2) fun x0=>
 bnd (idx p0 p3) fun x1=>
 bnd (idx s0.1 0) fun x2=>
 bnd (idx p0 x2) fun x3=>
 bnd (idx p0 s0.2) fun x4=>
 bnd (Au x0) fun r0=>
 bnd (Au x1) fun r1=>
 bnd (Au x3) fun r2=>
 bnd (Au x4) fun r3=>
 bnd (Ng r0 r1 r2 r3) fun r4=>
 if r4=1 then (j0 ([s0.2]))
 else (if r4=0 then (gd ((s0.1.length+1)*8<=140737488355328)<|
 j0 (s0.1++[s0.2]))
 else (j0 s0.1)))))
 (fun j1=>bnd (idx p0 p2) fun x5=>
 bnd (idx p0 p3) fun x6=>
 bnd (idx p0 s0.2) fun x7=>
 bnd (Au x5) fun r5=>
 bnd (Au x6) fun r6=>
 bnd (Au x7) fun r7=>
 bnd (Ef r5 r6 r7) fun r8=>
 if r8<=0 then (j1 true)
 else (bnd (Mq p0 p1 p2 s0.2) fun r9=>
 if r9=true then (bnd (Mq p0 p1 p3 s0.2) fun r10=>
 j1 (!(r10)))
 else (j1 true)))))
 else (some (.inr s0.1))
def Ql(p0:List Ad)(p1:List Ac)(p2:Int)(p3:Int):Option Int :=
 jn (fun (s3:List Int)=>
 if (s3.length:Int)=0 then (some (-1))
 else (bnd (Qk p0 p2 p3 s3) fun r0=>
 bnd (Kt p0 p2 p3 r0) fun r1=>
 some r1))
 (fun j3=>bnd (lfix (Lz p0 p2 p3 p1) (([]:List Int),0)) fun t0=>
 j3 t0)
instance lidarref06_linesError_c(p0:List Ad)(p1:List Ac):Con (Hp p0 p1) prog 194 (fun K vs=>∃ U0 E0 U1 E1,vs=[.slice U0 p0.length E0,.slice U1 p1.length E1]/\Has K U0 p0.length E0 4 Ak p0/\Has K U1 p1.length E1 2 Ar p1/\True) (fun _ r=>fun v Ln=>v = iq r/\Ln=[]/\True):=⟨by
 rintro K _ r ⟨U0,E0,U1,E1,rfl,ha0,ha1,-⟩ hx w hK;replace ha0:=Has.lo ha0 hK;replace ha1:=Has.lo ha1 hK;unfold Hp at hx;refine CtS ntmps194 results194 ?_;try (refine pre ?_;intros;rename_i hx)
 refine Bl ?_;try (refine pre ?_;intros;rename_i hx)
 apply Jr (γ:=Unit) hx [0,1] (fun s2 y2 f=>f) [999] (fun s2 y2 l=>l);exact kk
 ·intro s2 y2 hx;apply Jr (γ:=Unit) hx [] (fun s8 y8 f=>f) [999] (fun s8 y8 l=>l);exact kk
  ·intro s8 y8 hx;exact au
  ·intro _ hx;try (refine pre ?_;intros;rename_i hx)
   apply Lr (γ:=Unit) hx [0,1,106] (fun s0 y0 f=>(107,iq s0)::f) [999] (fun s0 y0 l=>l) ();exact kk;exact sk;intro s0 y0 x0 hx _;unfold Mi at hx;exact au
 ·intro _ hx;try (refine pre ?_;intros;rename_i hx)
  apply Lr (γ:=Unit) hx [0,1,13] (fun s5 y5 f=>(14,iq s5)::f) [999] (fun s5 y5 l=>l) ();exact kk;exact sk;intro s5 y5 x5 hx _;unfold Oc at hx;exact au⟩
instance lidarref06_Wrong_c(p0:List Ad)(p1:List Ac):Con (Si p0 p1) prog 136 (fun K vs=>∃ U0 E0 U1 E1,vs=[.slice U0 p0.length E0,.slice U1 p1.length E1]/\Has K U0 p0.length E0 4 Ak p0/\Has K U1 p1.length E1 2 Ar p1/\True) (fun _ r=>fun v Ln=>v = iq r/\Ln=[]/\True):=⟨by
 rintro K _ r ⟨U0,E0,U1,E1,rfl,ha0,ha1,-⟩ hx w hK;replace ha0:=Has.lo ha0 hK;replace ha1:=Has.lo ha1 hK;unfold Si at hx;refine CtS ntmps136 results136 ?_;exact au⟩
instance lidarref06_seen_c(p0:List Ad)(p1:List Ac)(p2:Int)(p3:Int):Con (Mq p0 p1 p2 p3) prog 245 (fun K vs=>∃ U0 E0 U1 E1,vs=[.slice U0 p0.length E0,.slice U1 p1.length E1,iq p2,iq p3]/\Has K U0 p0.length E0 4 Ak p0/\Has K U1 p1.length E1 2 Ar p1/\True) (fun _ r=>fun v Ln=>v = .bool r/\Ln=[]/\True):=⟨by
 rintro K _ r ⟨U0,E0,U1,E1,rfl,ha0,ha1,-⟩ hx w hK;replace ha0:=Has.lo ha0 hK;replace ha1:=Has.lo ha1 hK;unfold Mq at hx;have:=dl 4 [0,0,0,1,2,0,0,0,1,2,0,0,1,0,1,2,0,0,1,0,1,2,2] [0,1,2,3,5,6,7,8,10,11,12,13,14,16,17,18,19,20,4,9,15,21,22];refine CtS ntmps245 results245 ?_;try (refine pre ?_;intros;rename_i hx)
 refine Bl ?_;try (refine pre ?_;intros;rename_i hx)
 apply Jr (γ:=Unit) hx [] (fun s2 y2 f=>f) [999] (fun s2 y2 l=>l);exact kk
 ·intro s2 y2 hx;exact au
 ·intro _ hx;try (refine pre ?_;intros;rename_i hx)
  apply Lr (γ:=Unit) hx [0,2,3,11,12,13] (fun s0 y0 f=>f) [999] (fun s0 y0 l=>l) ();exact kk;exact sk;intro s0 y0 x0 hx _;unfold Tu at hx;exact au⟩
instance lidarref06_ring_c(p0:List Ad)(p1:Int)(p2:Int)(p3:List Int):Con (Qk p0 p1 p2 p3) prog 248 (fun K vs=>∃ U0 E0 U1 E1,vs=[.slice U0 p0.length E0,iq p1,iq p2,.slice U1 p3.length E1]/\Has K U0 p0.length E0 4 Ak p0/\Has K U1 p3.length E1 1 Ag p3/\True) (fun _ r=>fun v Ln=>∃ A0 c0,v = .slice A0 r.length c0/\Ln=[.r A0 r.length c0 3 1 (r.flatMap Ag)]/\True):=⟨by
 rintro K _ r ⟨U0,E0,U1,E1,rfl,ha0,ha1,-⟩ hx w hK;replace ha0:=Has.lo ha0 hK;replace ha1:=Has.lo ha1 hK;unfold Qk at hx;have:=dl 13 [0,0,0,0,0,0,0,0,0,1,2,0,0,0,1,2,0,0,0,1,2,2,0,0,0] [0,1,2,3,4,5,6,7,8,9,11,12,13,14,16,17,18,19,10,15,20,21,22,23,24];refine CtS ntmps248 results248 ?_;try (refine pre ?_;intros;rename_i hx)
 refine Bl ?_;try (refine pre ?_;intros;rename_i hx)
 refine Bl ?_;try (refine pre ?_;intros;rename_i hx)
 apply Jr (γ:=Option Addr × Nat) hx [] (fun s3 y3 f=>(9,.slice y3.1 s3.length y3.2)::f) [999] (fun s3 y3 l=>.r y3.1 s3.length y3.2 3 1 (s3.flatMap Ag)::l);exact kk
 ·intro s3 y3 hx;exact au
 ·intro _ hx;try (refine pre ?_;intros;rename_i hx)
  (with_reducible apply Ali 18 (sz:=1));exact rfl;exact aT;exact inferInstance;exact dL;exact (fun _=>rfl);exact rfl;exact rfl;exact sA
  try (refine pre ?_;intros;rename_i hx)
  apply Lr (γ:=Option Addr × Nat) hx [0,1,3] (fun s0 y0 f=>(9,.slice y0.1 s0.length y0.2)::f) [999] (fun s0 y0 l=>.r y0.1 s0.length y0.2 3 1 (s0.flatMap Ag)::l) (_,_);exact kk;exact sk;intro s0 y0 x0 hx _;unfold Py at hx;try (refine pre ?_;intros;rename_i hx)
  refine Cq1 (s:=24) hx rfl (fun _ hx=>?_) (fun _ hx=>?_)
  ·try (refine pre ?_;intros;rename_i hx)
   refine Bl ?_;try (refine pre ?_;intros;rename_i hx)
   apply Jr (γ:=Unit) hx [0,1,3,9] (fun s1 y1 f=>(10,iq s1)::f) [0,999] (fun s1 y1 l=>l);exact kk
   ·intro s1 y1 hx;exact au
   ·intro _ hx;try (refine pre ?_;intros;rename_i hx)
    apply Lr (γ:=Unit) hx [0,1,3,9,25,26] (fun s2 y2 f=>(10,iq s2.1)::(27,iq s2.2)::f) [0,999] (fun s2 y2 l=>l) ();exact kk;exact sk;intro s2 y2 x1 hx _;unfold Ly at hx;try (refine pre ?_;intros;rename_i hx)
    refine Cq1 (s:=28) hx rfl (fun _ hx=>?_) (fun _ hx=>?_)
    ·try (refine pre ?_;intros;rename_i hx)
     apply Jr (γ:=Unit) hx [0,1,3,9,25,26,27] (fun s4 y4 f=>(10,iq s4)::f) [0,999] (fun s4 y4 l=>l);exact kk
     ·intro s4 y4 hx;exact au
     ·intro _ hx;try (refine pre ?_;intros;rename_i hx)
      refine Bl ?_;try (refine pre ?_;intros;rename_i hx)
      apply Jr (γ:=Unit) hx [0,1,3,9,10,12,25,26,27] (fun s5 y5 f=>(13,.bool s5)::f) [0,999] (fun s5 y5 l=>l);exact kk
      ·intro s5 y5 hx;apply Jr (γ:=Unit) hx [0,1,3,9,10,12,25,26,27] (fun s6 y6 f=>(68,.bool s6)::f) [0,999] (fun s6 y6 l=>l);exact kk
       ·intro s6 y6 hx;exact au
       ·intro _ hx;exact au
      ·intro _ hx;try (refine pre ?_;intros;rename_i hx)
       apply Lr (γ:=Unit) hx [0,1,3,9,10,12,25,26,27,31,32] (fun s7 y7 f=>(13,.bool s7.1)::(33,iq s7.2)::f) [0,999] (fun s7 y7 l=>l) ();exact kk;exact sk;intro s7 y7 x2 hx _;unfold Lx at hx;exact au
    ·exact au
  ·exact au⟩
theorem Adt(p0:List Ad)(p1:Int)(p2:Int)(p3:List Int){K:List Ent}{U0:Option Addr}{E0:Nat}{U1:Option Addr}{E1:Nat}(ha0:Has K U0 p0.length E0 4 Ak p0)(ha1:Has K U1 p3.length E1 1 Ag p3){r:Int}(hx:Kt p0 p1 p2 p3=some r)(w:World)(hK:∀ e∈K,Ent.ok w e):CtL prog 247 [.slice U0 p0.length E0,iq p1,iq p2,.slice U1 p3.length E1] w fun v Ln=>v = iq r/\Ln=[]/\True:=by
 have ha0':=Has.up0 ha0;have ha1':=Has.up0 ha1;refine CtL.mk 120 func247 rfl ntmps247 kr rfl ?_;show T 120 _ [(0,.slice U0 p0.length E0),(1,iq p1),(2,iq p2),(3,.slice U1 p3.length E1)] _;unfold Kt at hx;refine Y5 ?_;obtain⟨j2,hj2,hx⟩:=Adb hx;refine Aa8 (τ:=List Int) (γ:=Option Addr × Nat × Ent) (J:=j2) (out:=r) (fun s2 y2=>[(1,iq p1),(2,iq p2),(3,.slice y2.1 s2.length y2.2.1)]) (fun s2 y2=>[y2.2.2]++[.old w]) (fun s2 y2=>y2.2.2.low=0/\Has (K++[y2.2.2]) y2.1 s2.length y2.2.1 1 Ag s2/\True) ?_ ?_
 ·intro s2 y2 hx0 hG0;obtain⟨lo755,hs0,-⟩:=hG0;subst hj2;refine Tj (γ:=Unit) hx0 (fun s0 y0=>[]) (fun s0 y0=>[]++[.old w]) (fun s0 y0=>True) (fun s0 y0 hx1 hG1=>?_) (fun j0 hx0=>?_)
  ·refine Y6 ?_;obtain rfl:=Option.some.inj hx1;exact Cz (rs:=[.tmp 8]) results247 (.tmp rfl (.nil)) (Ln:=[]) ⟨rfl,rfl,trivial⟩ Co (by exact .refl)
  ·refine Y3 ?_;refine As (Dn rfl 3 underlying42) rfl ?_;refine Y4 ?_;obtain⟨t0,hl0,ho0⟩:=An hx0;refine Lp (σ:=Int) (γ:=Unit) hl0 (fun s1 y1=>[(1,iq p1),(2,iq p2),(104,.slice y2.1 s2.length y2.2.1),(105,iq (s2.length:Int)),(106,iq s1)]) (fun s1 y1=>[y2.2.2]++[.old w]) (fun s1 y1=>True) () trivial (by exact .pick 0 rfl (.refl)) ?_;intro s1 y1 hG2 x0 hx2 ht0;unfold Dg at hx2;refine Y6 ?_;refine Ti hx2 (s:=107) rfl (fun h0 hx3=>?_) (fun h0 hx4=>?_)
   ·refine Y7 ?_;obtain⟨x1,h1,hx5⟩:=An hx3;have hw0:=Has.low (E:=[y2.2.2]) hs0 hK;obtain⟨b0,o0,j1,hA0,hj0,hl1,hp0⟩:=Has.at_idx hw0 h1;refine As (Bt rfl rfl hA0 (j:=j1) hj0 hl1 Rz) rfl ?_;refine As (Cx rfl hp0 (SubE.cons2 (i:=1) rfl (sb 0)) rfl one3) rfl ?_;refine Y3 ?_;refine Tj (γ:=Unit) hx5 (fun s3 y3=>[(1,iq p1),(2,iq p2),(16,iq x1),(104,.slice y2.1 s2.length y2.2.1),(105,iq (s2.length:Int)),(106,iq s1),(117,.bool s3)]) (fun s3 y3=>[y2.2.2]++[.old w]) (fun s3 y3=>True) (fun s3 y3 hx6 hG3=>?_) (fun j3 hx5=>?_)
    ·refine Io (s:=117) rfl (fun h2=>?_) (fun h2=>?_)
     ·have hx7:=Gp h2 hx6;refine Y10 ?_;obtain rfl:=Gg ht0 hx7;refine Y3 ?_;obtain rfl:=Option.some.inj ho0;exact Cz (rs:=[.tmp 8]) results247 (.tmp rfl (.nil)) (Ln:=[]) ⟨rfl,rfl,trivial⟩ Co (by exact .drop 0 rfl (.refl))
     ·have hx8:=Kd h2 hx6;refine Y8 ?_;exact Rp (w64 (s1+1)) () hx8 trivial (by exact .pick 0 rfl (.refl))
    ·refine Y5 ?_;refine Wb (s:=113) rfl (fun h3=>?_) (fun h3=>?_)
     ·have hx9:=Ye h3 hx5;refine Y5 ?_;exact Mt (!(decide (x1=p2))) () hx9 trivial (by exact .pick 0 rfl (.refl))
     ·have hx10:=Gp h3 hx5;refine Y5 ?_;exact Mt false () hx10 trivial (by exact .pick 0 rfl (.refl))
   ·refine Y3 ?_;obtain rfl:=Gg ht0 hx4;refine Y2 ?_;exact Mt () () ho0 trivial (by exact .drop 0 rfl (.refl))
 ·skip;refine Y ?_;obtain⟨t1,hl2,ho1⟩:=An hx;refine Bb 0 1 ?_;refine Lp (σ:=List Int) (γ:=Option Addr × Nat × Ent) hl2 (fun s4 y4=>[(0,.slice U0 p0.length E0),(1,iq p1),(2,iq p2),(3,.slice y4.1 s4.length y4.2.1)]) (fun s4 y4=>[y4.2.2]++[.old w]) (fun s4 y4=>y4.2.2.low=0/\Has (K++[y4.2.2]) y4.1 s4.length y4.2.1 1 Ag s4/\True) (U1,E1,.r none 0 0 0 1 []) ((by exact⟨rfl,Has.len' ((Has.up (L:=(K++[.r none 0 0 0 1 []])) ha1' (SubE.app2 SubE.nil))),trivial⟩)) (by exact .pick 0 rfl (.refl)) ?_;intro s4 y4 hG4 x2 hx11 ht1;unfold Fh at hx11;obtain⟨lo502,hs1,-⟩:=hG4;refine Y4 ?_;refine As (Dn rfl 3 underlying42) rfl ?_;refine Y3 ?_;refine Ti hx11 (s:=19) rfl (fun h4 hx12=>?_) (fun h4 hx13=>?_)
  ·refine Y9 ?_;refine Tj (γ:=Unit) hx12 (fun s5 y5=>[(0,.slice U0 p0.length E0),(1,iq p1),(2,iq p2),(3,.slice y4.1 s4.length y4.2.1),(9,iq s5)]) (fun s5 y5=>[y4.2.2]++[.old w]) (fun s5 y5=>True) (fun s5 y5 hx14 hG5=>?_) (fun j4 hx12=>?_)
   ·refine Y ?_;refine T_dr [0,0,0,0,0,0,0,0,0,0,1,0,0,0,0,0,0,0,1,2,2] (.q 0 (.q 1 (.q 2 (.q 3 (.q 4 (.q 5 (.q 6 (.q 7 (.q 8 (.q 9 (.q 10 (.q 11 (.q 12 (.q 13 (.q 14 (.q 15 (.q 16 (.q 17 (.q 18 (.e 19 (.e 20 (.done) (.stop)) (.stop))))))))))))))))))))) mixed kr kr ?_;refine Y3 ?_;refine P_p rfl rfl (Dn rfl 3 underlying42) rfl ?_;refine Y3 ?_;refine P_p rfl rfl (Dn rfl 3 underlying42) rfl ?_;obtain⟨h5,hx15⟩:=Bo hx14;refine P_p rfl rfl (Ame rfl rfl h5) rfl ?_;obtain⟨x3,h6,hx16⟩:=An hx15;have hw2:=Has.low (E:=[y4.2.2]) hs1 hK;obtain⟨b1,o1,j5,hA1,hj1,hl3,hp1⟩:=Has.at_idx hw2 h6;refine P_p rfl rfl (Bt rfl rfl hA1 (j:=j5) hj1 hl3 Rz) rfl ?_;refine P_q rfl rfl (Cx rfl hp1 (SubE.cons2 (i:=1) rfl (sb 0)) rfl one3) rfl ?_;refine Y4 ?_;refine P_p rfl rfl (Dn rfl 3 underlying42) rfl ?_;obtain⟨h7,hx17⟩:=Bo hx16;refine P_p rfl rfl (Ame rfl rfl h7) rfl ?_;obtain⟨x4,h8,hx18⟩:=An hx17;have hw3:=Has.low (E:=[y4.2.2]) hs1 hK;obtain⟨b2,o2,j6,hA2,hj3,hl4,hp2⟩:=Has.at_idx hw3 h8;refine P_p rfl rfl (Bt rfl rfl hA2 (j:=j6) hj3 hl4 Rz) rfl ?_;refine P_q rfl rfl (Cx rfl hp2 (SubE.cons2 (i:=1) rfl (sb 0)) rfl one3) rfl ?_;refine P_x rfl (Ec (Ek rfl) rfl ?_) ?_;rotate_left;exact Bj;refine P_x rfl (Ec (Ek rfl) rfl ?_) ?_
    rotate_left;exact Bj;refine Y3 ?_;refine Tj (γ:=Unit) hx18 (fun s6 y6=>[(0,.slice U0 p0.length E0),(1,iq p1),(2,iq p2),(3,.slice y4.1 s4.length y4.2.1),(9,iq s5),(11,iq x3),(12,iq x4),(73,.bool s6)]) (fun s6 y6=>[y4.2.2]++[.old w]) (fun s6 y6=>True) (fun s6 y6 hx19 hG6=>?_) (fun j7 hx18=>?_)
    ·refine Io (s:=73) rfl (fun h9=>?_) (fun h9=>?_)
     ·have hx20:=Gp h9 hx19;refine Y10 ?_;obtain rfl:=Gg ht1 hx20;refine Y3 ?_;obtain rfl:=Option.some.inj ho1;exact Cz (rs:=[.tmp 8]) results247 (.tmp rfl (.nil)) (Ln:=[]) ⟨rfl,rfl,trivial⟩ Co (by exact .drop 0 rfl (.refl))
     ·have hx21:=Kd h9 hx19;refine Y4 ?_;refine Tj (γ:=Unit) hx21 (fun s7 y7=>[(0,.slice U0 p0.length E0),(1,iq p1),(2,iq p2),(3,.slice y4.1 s4.length y4.2.1),(9,iq s5),(12,iq x4),(85,.bool s7)]) (fun s7 y7=>[y4.2.2]++[.old w]) (fun s7 y7=>True) (fun s7 y7 hx22 hG7=>?_) (fun j8 hx21=>?_)
      ·refine Io (s:=85) rfl (fun h10=>?_) (fun h10=>?_)
       ·have hx23:=Gp h10 hx22;refine Y10 ?_;obtain rfl:=Gg ht1 hx23;refine Y3 ?_;obtain rfl:=Option.some.inj ho1;exact Cz (rs:=[.tmp 8]) results247 (.tmp rfl (.nil)) (Ln:=[]) ⟨rfl,rfl,trivial⟩ Co (by exact .drop 0 rfl (.refl))
       ·have hx24:=Kd h10 hx22;refine Y8 ?_;refine Tj (γ:=Option Addr × Nat) hx24 (fun s8 y8=>[(0,.slice U0 p0.length E0),(1,iq p1),(2,iq p2),(13,.slice y8.1 s8.length y8.2)]) (fun s8 y8=>[.r y8.1 s8.length y8.2 3 1 (s8.flatMap Ag)]++[.old w]) (fun s8 y8=>True) (fun s8 y8 hx25 hG8=>?_) (fun j9 hx24=>?_)
        ·refine Y5 ?_;refine Es (k:=0) rfl dD (fun _=>rfl) (fun hn0 hs2=>?_);exact Rp s8 (y8.1,y8.2,.r y8.1 s8.length y8.2 3 1 (s8.flatMap Ag)) hx25 ((by exact⟨rfl,Has.len' ((Has.up (L:=(K++[.r y8.1 s8.length y8.2 3 1 (s8.flatMap Ag)])) hs2 (SubE.appR2 (sb 0)))),trivial⟩)) (by exact .pick 0 rfl (.refl))
        ·refine Y3 ?_;refine As (Dn rfl 3 underlying42) rfl ?_;refine Y4 ?_;obtain⟨t2,hl5,ho2⟩:=An hx24;refine Bb 3 1 ?_;have hn1:0=(([]:List Int)).length:=by simp[Jq,Vr,List.length_append] <;> omega
         refine Yb (.here) (e':=.r none ((([]:List Int)).length) 0 3 1 ((([]:List Int)).flatMap Ag)) (by first | (rw[<- hn1];done) | rfl) ?_;refine Lp (σ:=List Int × Int) (γ:=Option Addr × Nat) hl5 (fun s9 y9=>[(0,.slice U0 p0.length E0),(1,iq p1),(2,iq p2),(3,.slice y4.1 s4.length y4.2.1),(9,iq s5),(13,.slice y9.1 s9.1.length y9.2),(88,iq (s4.length:Int)),(89,iq s9.2)]) (fun s9 y9=>[.r y9.1 s9.1.length y9.2 3 1 (s9.1.flatMap Ag),y4.2.2]++[.old w]) (fun s9 y9=>True) (none,0) trivial (by exact .pick 0 rfl (.pick 0 rfl (.refl))) ?_;intro s9 y9 hG9 x5 hx26 ht2;unfold Iv at hx26;refine Y6 ?_;refine Ti hx26 (s:=90) rfl (fun h11 hx27=>?_) (fun h11 hx28=>?_)
         ·refine Y3 ?_;refine Tj (γ:=Option Addr × Nat) hx27 (fun s10 y10=>[(0,.slice U0 p0.length E0),(1,iq p1),(2,iq p2),(3,.slice y4.1 s4.length y4.2.1),(9,iq s5),(13,.slice y10.1 s10.length y10.2),(88,iq (s4.length:Int)),(89,iq s9.2)]) (fun s10 y10=>[.r y10.1 s10.length y10.2 3 1 (s10.flatMap Ag),y4.2.2]++[.old w]) (fun s10 y10=>True) (fun s10 y10 hx29 hG10=>?_) (fun j10 hx27=>?_)
          ·refine Y4 ?_;exact Rp (s10,w64 (s9.2+1)) (y10.1,y10.2) hx29 trivial (by exact .pick 0 rfl (.pick 0 rfl (.refl)))
          ·(iterate 14 refine Y ?_);refine Wb (s:=94) rfl (fun h12=>?_) (fun h12=>?_)
           ·have hx30:=Ye h12 hx27;refine Y5 ?_;obtain⟨x6,h13,hx31⟩:=An hx30;have hw4:=Has.low (E:=[y4.2.2]) hs1 hK;obtain⟨b3,o3,j11,hA3,hj4,hl6,hp3⟩:=Has.at_idx hw4 h13;refine As (Bt rfl rfl hA3 (j:=j11) hj4 hl6 Rz) rfl ?_;refine As (Cx rfl hp3 (SubE.cons2 (i:=2) rfl (sb 1)) rfl one3) rfl ?_;refine T_x (By rfl (Im _) rfl (fun g0=>?_));obtain⟨h14,hx32⟩:=Bo hx31;refine T_h (Jk Ag s9.1 [x6] rfl rfl rfl Adz (fun _=>rfl) (i':=0) rfl rfl rfl rfl h14 rfl (fun _ _=>.there (.here)) (fun _ _=>.drop .refl) dD (fun A0 c0=>?_));refine Y3 ?_;exact Mt (s9.1++[x6]) (A0,c0) hx32 trivial (by exact .pick 0 rfl (.pick 0 rfl (.refl)))
           ·have hx33:=Gp h12 hx27;refine Y3 ?_;exact Mt s9.1 (y9.1,y9.2) hx33 trivial (by exact .pick 0 rfl (.pick 0 rfl (.refl)))
         ·refine Y3 ?_;obtain rfl:=Gg ht2 hx28;refine Y2 ?_;exact Mt s9.1 (y9.1,y9.2) ho2 trivial (by exact .pick 0 rfl (.drop 0 rfl (.refl)))
      ·refine Y3 ?_;obtain⟨x7,h15,hx34⟩:=An hx21;have hw5:=Has.low (E:=[y4.2.2]) hs1 hK;obtain⟨b4,o4,j12,hA4,hj5,hl7,hp4⟩:=Has.at_idx hw5 h15;refine As (Bt rfl rfl hA4 (j:=j12) hj5 hl7 Rz) rfl ?_;refine As (Cx rfl hp4 (SubE.cons2 (i:=1) rfl (sb 0)) rfl one3) rfl ?_;refine Y3 ?_;refine Ti hx34 (s:=81) rfl (fun h16 hx35=>?_) (fun h16 hx36=>?_)
       ·refine Y5 ?_;exact Mt (decide (x3=p1)) () hx35 trivial (by exact .pick 0 rfl (.refl))
       ·refine Y5 ?_;exact Mt false () hx36 trivial (by exact .pick 0 rfl (.refl))
    ·refine Y3 ?_;obtain⟨x8,h17,hx37⟩:=An hx18;have hw6:=Has.low (E:=[y4.2.2]) hs1 hK;obtain⟨b5,o5,j13,hA5,hj6,hl8,hp5⟩:=Has.at_idx hw6 h17;refine As (Bt rfl rfl hA5 (j:=j13) hj6 hl8 Rz) rfl ?_;refine As (Cx rfl hp5 (SubE.cons2 (i:=1) rfl (sb 0)) rfl one3) rfl ?_;refine Y3 ?_;refine Ti hx37 (s:=69) rfl (fun h18 hx38=>?_) (fun h18 hx39=>?_)
     ·refine Y5 ?_;exact Mt (decide (x4=p2)) () hx38 trivial (by exact .pick 0 rfl (.refl))
     ·refine Y5 ?_;exact Mt false () hx39 trivial (by exact .pick 0 rfl (.refl))
   ·refine Y3 ?_;refine As (Dn rfl 3 underlying42) rfl ?_;refine Y4 ?_;obtain⟨t3,hl9,ho3⟩:=An hx12;refine Lp (σ:=Int × Int) (γ:=Unit) hl9 (fun s11 y11=>[(0,.slice U0 p0.length E0),(1,iq p1),(2,iq p2),(3,.slice y4.1 s4.length y4.2.1),(9,iq s11.1),(21,iq (s4.length:Int)),(22,iq s11.2)]) (fun s11 y11=>[y4.2.2]++[.old w]) (fun s11 y11=>True) () trivial (by exact .pick 0 rfl (.refl)) ?_;intro s11 y11 hG11 x9 hx40 ht3;unfold Jw at hx40;refine Y6 ?_;refine Ti hx40 (s:=23) rfl (fun h19 hx41=>?_) (fun h19 hx42=>?_)
    ·refine Y3 ?_;refine Tj (γ:=Unit) hx41 (fun s85 y85=>[(0,.slice U0 p0.length E0),(1,iq p1),(2,iq p2),(3,.slice y4.1 s4.length y4.2.1),(9,iq s85),(21,iq (s4.length:Int)),(22,iq s11.2)]) (fun s85 y85=>[y4.2.2]++[.old w]) (fun s85 y85=>True) (fun s85 y85 hx43 hG12=>?_) (fun j85 hx41=>?_)
     ·refine Y4 ?_;exact Rp (s85,w64 (s11.2+1)) () hx43 trivial (by exact .pick 0 rfl (.refl))
     ·refine Y8 ?_;refine T_dr [0,0,0,0,1,0,1,2,0,0,0,0,1,0,1,2,2] (.q 0 (.q 1 (.q 2 (.q 3 (.q 4 (.q 5 (.q 6 (.q 8 (.q 9 (.q 10 (.q 11 (.q 12 (.q 13 (.q 14 (.e 7 (.e 15 (.e 16 (.done) (.stop)) (.stop)) (.stop)))))))))))))))) mixed kr kr ?_;refine Y3 ?_;obtain⟨x10,h20,hx44⟩:=An hx41;have hw7:=Has.low (E:=[y4.2.2]) hs1 hK;obtain⟨b6,o6,j14,hA6,hj7,hl10,hp6⟩:=Has.at_idx hw7 h20;refine P_p rfl rfl (Bt rfl rfl hA6 (j:=j14) hj7 hl10 Rz) rfl ?_;refine P_q rfl rfl (Cx rfl hp6 (SubE.cons2 (i:=1) rfl (sb 0)) rfl one3) rfl ?_;obtain⟨x11,h21,hx45⟩:=An hx44;refine P_il (Has.low (E:=[]) ha0' hK) h21 Ww Ae3 (sb 1) (fun b7 o7=>?_);refine Y3 ?_;obtain⟨x12,h22,hx46⟩:=An hx45;have hw8:=Has.low (E:=[y4.2.2]) hs1 hK;obtain⟨b8,o8,j15,hA7,hj8,hl11,hp7⟩:=Has.at_idx hw8 h22;refine P_p rfl rfl (Bt rfl rfl hA7 (j:=j15) hj8 hl11 Rz) rfl ?_;refine P_q rfl rfl (Cx rfl hp7 (SubE.cons2 (i:=1) rfl (sb 0)) rfl one3) rfl ?_;obtain⟨x13,h23,hx47⟩:=An hx46;refine P_il (Has.low (E:=[]) ha0' hK) h23 Ww Ae3 (sb 1) (fun b9 o9=>?_);obtain⟨r0,h24,hx48⟩:=An hx47;refine Pc (fun w1 hw1=>Wu x11  h24 w1) ?_;obtain⟨r1,h25,hx49⟩:=An hx48;refine Pc (fun w1 hw1=>Wu x13  h25 w1) ?_;obtain⟨r2,h26,hx50⟩:=An hx49;refine Pc (fun w1 hw1=>Ach r0 r1  h26 w1) ?_;refine Y2 ?_;refine Io (s:=41) rfl (fun h27=>?_) (fun h27=>?_)
      ·have hx51:=Gp h27 hx50;refine Y6 ?_;exact Mt s11.2 () hx51 trivial (by exact .pick 0 rfl (.refl))
      ·have hx52:=Kd h27 hx50;refine Y3 ?_;exact Mt s11.1 () hx52 trivial (by exact .pick 0 rfl (.refl))
    ·refine Y3 ?_;obtain rfl:=Gg ht3 hx42;refine Y2 ?_;exact Mt s11.1 () ho3 trivial (by exact .pick 0 rfl (.refl))
  ·refine Y3 ?_;obtain rfl:=Gg ht1 hx13;refine Y2 ?_;exact Mt s4 (y4.1,y4.2.1,y4.2.2) ho1 ((by exact⟨lo502,Has.len' hs1,trivial⟩)) (by exact .pick 0 rfl (.refl))
instance lidarref06_third_c(p0:List Ad)(p1:Int)(p2:Int)(p3:List Int):Con (Kt p0 p1 p2 p3) prog 247 (fun K vs=>∃ U0 E0 U1 E1,vs=[.slice U0 p0.length E0,iq p1,iq p2,.slice U1 p3.length E1]/\Has K U0 p0.length E0 4 Ak p0/\Has K U1 p3.length E1 1 Ag p3/\True) (fun _ r=>fun v Ln=>v = iq r/\Ln=[]/\True):=⟨by
 rintro K _ r ⟨U0,E0,U1,E1,rfl,ha0,ha1,-⟩ hx w hK;exact Adt p0 p1 p2 p3 ha0 ha1 hx w hK⟩
instance lidarref06_apex_c(p0:List Ad)(p1:List Ac)(p2:Int)(p3:Int):Con (Ql p0 p1 p2 p3) prog 199 (fun K vs=>∃ U0 E0 U1 E1,vs=[.slice U0 p0.length E0,.slice U1 p1.length E1,iq p2,iq p3]/\Has K U0 p0.length E0 4 Ak p0/\Has K U1 p1.length E1 2 Ar p1/\True) (fun _ r=>fun v Ln=>v = iq r/\Ln=[]/\True):=⟨by
 rintro K _ r ⟨U0,E0,U1,E1,rfl,ha0,ha1,-⟩ hx w hK;replace ha0:=Has.lo ha0 hK;replace ha1:=Has.lo ha1 hK;unfold Ql at hx;have:=dl 5 [0,0,0,1,2,0,0,0,1,2,0,0,0,1,2,2,0,0,0,0,0,0,2,0,0,0,0,0,0,0,2,0,0] [0,1,2,3,5,6,7,8,10,11,12,13,4,9,14,15,16,17,18,19,20,21,22,23,24,25,26,27,28,29,30,31,32];have:=dl 8 [0,0,0,1,2,0,0,0,1,2,0,0,0,1,0,1,2,0,0,0,1,2,2] [0,1,2,3,5,6,7,8,10,11,12,13,14,15,17,18,19,20,4,9,16,21,22];refine CtS ntmps199 results199 ?_;try (refine pre ?_;intros;rename_i hx)
 refine Bl ?_;try (refine pre ?_;intros;rename_i hx)
 refine Bl ?_;try (refine pre ?_;intros;rename_i hx)
 apply Jr (γ:=Option Addr × Nat) hx [0,2,3] (fun s3 y3 f=>(9,.slice y3.1 s3.length y3.2)::f) [999] (fun s3 y3 l=>.r y3.1 s3.length y3.2 3 1 (s3.flatMap Ag)::l);exact kk
 ·intro s3 y3 hx;exact au
 ·intro _ hx;try (refine pre ?_;intros;rename_i hx)
  refine Bb 3 1 ?_;apply Lr (γ:=Option Addr × Nat) hx [0,1,2,3,12] (fun s0 y0 f=>(9,.slice y0.1 s0.1.length y0.2)::(13,iq s0.2)::f) [999] (fun s0 y0 l=>.r y0.1 s0.1.length y0.2 3 1 (s0.1.flatMap Ag)::l) (_,_);exact kk;exact sk;intro s0 y0 x0 hx _;unfold Lz at hx;try (refine pre ?_;intros;rename_i hx)
  refine Cq1 (s:=14) hx rfl (fun _ hx=>?_) (fun _ hx=>?_)
  ·try (refine pre ?_;intros;rename_i hx)
   apply Jr (γ:=Option Addr × Nat) hx [0,1,2,3,12,13] (fun s1 y1 f=>(9,.slice y1.1 s1.length y1.2)::f) [999] (fun s1 y1 l=>.r y1.1 s1.length y1.2 3 1 (s1.flatMap Ag)::l);exact kk
   ·intro s1 y1 hx;exact au
   ·intro _ hx;try (refine pre ?_;intros;rename_i hx)
    refine Bl ?_;try (refine pre ?_;intros;rename_i hx)
    refine Bl ?_;try (refine pre ?_;intros;rename_i hx)
    apply Jr (γ:=Unit) hx [0,1,2,3,9,10,12,13] (fun s2 y2 f=>(48,.bool s2)::f) [0,999] (fun s2 y2 l=>l);exact kk
    ·intro s2 y2 hx;refine Cq3 (s:=48) hx rfl (fun _ hx=>?_) (fun _ hx=>?_)
     ·exact au
     ·try (refine pre ?_;intros;rename_i hx)
      refine Cq1 (s:=51) hx rfl (fun _ hx=>?_) (fun _ hx=>?_)
      ·try (refine pre ?_;intros;rename_i hx)
       (with_reducible apply Ali 9 (sz:=1));exact rfl;exact aT;exact inferInstance;exact dL;exact (fun _=>rfl);exact rfl;exact rfl;exact sA
       exact au
      ·try (refine pre ?_;intros;rename_i hx)
       refine Cq1 (s:=77) hx rfl (fun _ hx=>?_) (fun _ hx=>?_)
       ·try (refine pre ?_;intros;rename_i hx)
        (with_reducible apply Ali 9 (sz:=1));exact rfl;exact aT;exact inferInstance;exact dL;exact (fun _=>rfl);exact rfl;exact rfl;exact sA
        exact au
       ·exact au
    ·intro _ hx;exact au
  ·exact au⟩
theorem Ae1:Ol prog 101 [iq 0,iq 0,iq 0]:=⟨_,zeroValue101,rfl⟩
instance:Ub prog 101 [iq 0,iq 0,iq 0]:=⟨Ae1⟩
instance(x0:Int)(x1:Int)(x2:Int)(x3:Int):Pq prog 22 1 [(0,.agg #[iq x0,iq x1,iq x2,iq x3])] 108 [iq x0,iq x1,iq x2,iq x3]:=⟨fun w=>kr⟩
def Ig(p0:Aj)(p1:Aj):Int->Option (Sum Int (Sum Unit Bool)):=fun s0=>
 if s0<3 then (bnd (idx [p0.a0,p0.a1,p0.a2] s0) fun x0=>
 bnd (idx [p1.a0,p1.a1,p1.a2] s0) fun x1=>
 if x0=x1 then (some (.inl (w64 (s0+1))))
 else (bnd (idx [p0.a0,p0.a1,p0.a2] s0) fun x2=>
 bnd (idx [p1.a0,p1.a1,p1.a2] s0) fun x3=>
 some (.inr (.inr (decide (x2<x3))))))
 else (some (.inr (.inl ())))
def Qm(p0:Aj)(p1:Aj):Option Bool :=
 jn (fun (s2:Unit)=>
 some false)
 (fun j2=>bnd (lfix (Ig p0 p1) 0) fun t0=>
 (match t0 with
 | (.inl z0)=>j2 z0
 | (.inr z0)=>some z0
 ))
def Iw  : (List Aj × Int)->Option (Sum (List Aj × Int) (List Aj)):=fun s0=>
 jn (fun (s1:Bool)=>
 if s1=true then (bnd (idx s0.1 (w64 (s0.2-1))) fun x0=>
 bnd (idx s0.1 s0.2) fun x1=>
 bnd (idx s0.1 s0.2) fun x2=>
 bnd (idx (setI s0.1 s0.2 x0) (w64 (s0.2-1))) fun x3=>
 some (.inl (setI (setI s0.1 s0.2 x0) (w64 (s0.2-1)) x1,w64 (s0.2-1))))
 else (some (.inr s0.1)))
 (fun j0=>if 0<s0.2 then (bnd (idx s0.1 s0.2) fun x4=>
 bnd (idx s0.1 (w64 (s0.2-1))) fun x5=>
 bnd (Qm x4 x5) fun r0=>
 j0 r0)
 else (j0 false))
def Ix(p0:List Aj):(List Aj × Int)->Option (Sum (List Aj × Int) (List Aj)):=fun s0=>
 if s0.2<(p0.length:Int) then (jn (fun (s1:List Aj)=>
 some (.inl (s1,w64 (s0.2+1))))
 (fun j0=>bnd (lfix Iw (s0.1,s0.2)) fun t0=>
 j0 t0))
 else (some (.inr s0.1))
def Nq(p0:List Aj):Option (List Aj):=
 jn (fun (s2:List Aj)=>
 some s2)
 (fun j2=>bnd (lfix (Ix p0) (p0,0)) fun t0=>
 j2 t0)
def Gd  : (Int × Int × Int)->Option (Sum (Int × Int × Int) (Int × Int × Int)):=fun s0=>
 jn (fun (s6:Bool)=>
 if s6=true then (some (.inl (s0.2.1,s0.2.2,s0.1)))
 else (some (.inr (s0.1,s0.2.1,s0.2.2))))
 (fun j6=>if s0.2.1<s0.1 then (j6 true)
 else (j6 (decide (s0.2.2<s0.1))))
def Nr(p0:Aj):Option Aj :=
 jn (fun (s2:Int × Int × Int)=>
 some (⟨s2.1,s2.2.1,s2.2.2⟩:Aj))
 (fun j2=>bnd (lfix Gd (p0.a0,p0.a1,p0.a2)) fun t0=>
 j2 t0)
def Wm(p0:Ac)(p1:Ac):Option Bool :=
 jn (fun (s2:Bool)=>
 some s2)
 (fun j2=>if p0.a0<p1.a0 then (j2 true)
 else (if p0.a0=p1.a0 then (j2 (decide (p0.a1<p1.a1)))
 else (j2 false)))
def Qv(p0:List Ac):(List Ac × Int)->Option (Sum (List Ac × Int) (List Ac)):=fun s0=>
 if s0.2<(p0.length:Int) then (bnd (idx p0 s0.2) fun x0=>
 bnd (idx p0 s0.2) fun x1=>
 bnd (idx p0 s0.2) fun x2=>
 bnd (idx p0 s0.2) fun x3=>
 gd ((s0.1.length+1)*16<=140737488355328)<|
 some (.inl (s0.1++[(⟨min x0.a0 x1.a1,max x2.a0 x3.a1⟩:Ac)],w64 (s0.2+1))))
 else (some (.inr s0.1))
def Uy  : (List Ac × Int)->Option (Sum (List Ac × Int) (List Ac)):=fun s0=>
 jn (fun (s1:Bool)=>
 if s1=true then (bnd (idx s0.1 (w64 (s0.2-1))) fun x0=>
 bnd (idx s0.1 s0.2) fun x1=>
 bnd (idx s0.1 s0.2) fun x2=>
 bnd (idx (setI s0.1 s0.2 x0) (w64 (s0.2-1))) fun x3=>
 some (.inl (setI (setI s0.1 s0.2 x0) (w64 (s0.2-1)) x1,w64 (s0.2-1))))
 else (some (.inr s0.1)))
 (fun j0=>if 0<s0.2 then (bnd (idx s0.1 s0.2) fun x4=>
 bnd (idx s0.1 (w64 (s0.2-1))) fun x5=>
 bnd (Wm x4 x5) fun r0=>
 j0 r0)
 else (j0 false))
def Qw(s3:List Ac):(List Ac × Int)->Option (Sum (List Ac × Int) (List Ac)):=fun s0=>
 if s0.2<(s3.length:Int) then (jn (fun (s1:List Ac)=>
 some (.inl (s1,w64 (s0.2+1))))
 (fun j0=>bnd (lfix Uy (s0.1,s0.2)) fun t0=>
 j0 t0))
 else (some (.inr s0.1))
def Mb(p0:List Ac):Option (List Ac):=
 jn (fun (s3:List Ac)=>
 jn (fun (s0:List Ac)=>
 some s0)
 (fun j0=>bnd (lfix (Qw s3) (s3,0)) fun t0=>
 j0 t0))
 (fun j3=>bnd (lfix (Qv p0) (([]:List Ac),0)) fun t1=>
 j3 t1)
def Cw(r0:Aj)(s0:List Ac × (List (Ac × Bool)) × List Aj):(List Ac × (List (Ac × Bool)) × Int)->Option (Sum (List Ac × (List (Ac × Bool)) × Int) (List Ac × (List (Ac × Bool)) × List Aj)):=fun s1=>
 if s1.2.2<3 then (bnd (idx [r0.a0,r0.a1,r0.a2] s1.2.2) fun x0=>
 bnd (idx [r0.a0,r0.a1,r0.a2] (Int.tmod (w64 (s1.2.2+1)) 3)) fun x1=>
 gd ((-9223372036854775808<=x0/\x0<=9223372036854775807)/\(-9223372036854775808<=x1/\x1<=9223372036854775807))<|
 gd (s1.2.1.length<9223372036854775807)<|
 gd ((s1.1.length+1)*16<=140737488355328)<|
 some (.inl (s1.1++[(⟨x1,x0⟩:Ac)],mput s1.2.1 ((⟨x0,x1⟩:Ac)) true,w64 (s1.2.2+1))))
 else (some (.inr (s1.1,s1.2.1,s0.2.2++[r0])))
def Ge(p0:List Ad)(p1:List Ac):(List Ac × (List (Ac × Bool)) × List Aj)->Option (Sum (List Ac × (List (Ac × Bool)) × List Aj) (List Aj)):=fun s0=>
 if 0<(s0.1.length:Int) then (bnd (idx s0.1 (w64 ((s0.1.length:Int)-1))) fun x0=>
 gd (0<=(w64 ((s0.1.length:Int)-1))/\(w64 ((s0.1.length:Int)-1))<=(s0.1.length:Int))<|
 gd ((-9223372036854775808<=x0.a0/\x0.a0<=9223372036854775807)/\(-9223372036854775808<=x0.a1/\x0.a1<=9223372036854775807))<|
 bnd (some ((mget s0.2.1 x0).getD false)) fun x1=>
 if x1=true then (some (.inl (List.take (Int.toNat (w64 ((s0.1.length:Int)-1))) s0.1,s0.2.1,s0.2.2)))
 else (bnd (Ql p0 p1 x0.a0 x0.a1) fun r0=>
 if r0<0 then (gd ((-9223372036854775808<=x0.a0/\x0.a0<=9223372036854775807)/\(-9223372036854775808<=x0.a1/\x0.a1<=9223372036854775807))<|
 gd (s0.2.1.length<9223372036854775807)<|
 some (.inl (List.take (Int.toNat (w64 ((s0.1.length:Int)-1))) s0.1,mput s0.2.1 x0 true,s0.2.2)))
 else (bnd (Nr (⟨x0.a0,x0.a1,r0⟩:Aj)) fun r1=>
 gd ((s0.2.2.length+1)*24<=140737488355328)<|
 bnd (lfix (Cw r1 s0) (List.take (Int.toNat (w64 ((s0.1.length:Int)-1))) s0.1,s0.2.1,0)) fun t0=>
 some (.inl t0))))
 else (some (.inr s0.2.2))
def Iy(p0:List Ad)(p1:List Ac):Option (List Aj):=
 jn (fun (s3:Bool)=>
 if s3=true then (some ([]:List Aj))
 else (bnd (Ov p0) fun r0=>
 bnd (Qb p0 r0 false) fun r1=>
 jn (fun (s9:List Aj)=>
 bnd (Nq s9) fun r2=>
 some r2)
 (fun j9=>bnd (lfix (Ge p0 p1) ([(⟨r0,r1⟩:Ac)],([]:List (Ac × Bool)),([]:List Aj))) fun t0=>
 j9 t0)))
 (fun j3=>if (p0.length:Int)<3 then (j3 true)
 else (bnd (Qc p0) fun r4=>
 j3 r4))
def Jx(p0:List Ad):(List Ad × Int)->Option (Sum (List Ad × Int) (List Ad)):=fun s0=>
 if s0.2<(p0.length:Int) then (bnd (idx p0 s0.2) fun x0=>
 gd ((s0.1.length+1)*32<=140737488355328)<|
 some (.inl (s0.1++[x0],w64 (s0.2+1))))
 else (some (.inr s0.1))
def Ku(p0:List Ad)(p1:List Ac):Option (Aq × Int):=
 bnd (Si p0 p1) fun r2=>
 if r2=0 then (jn (fun (s7:List Ad)=>
 bnd (Mb p1) fun r0=>
 bnd (Iy p0 r0) fun r1=>
 some ((⟨s7,r1,r0⟩:Aq),0))
 (fun j7=>bnd (lfix (Jx p0) (([]:List Ad),0)) fun t0=>
 j7 t0))
 else (some ((⟨([]:List Ad),([]:List Aj),([]:List Ac)⟩:Aq),r2))
instance lidarref06_less_c(p0:Aj)(p1:Aj):Con (Qm p0 p1) prog 249 (fun _ vs=>vs=[.agg #[iq p0.a0,iq p0.a1,iq p0.a2],.agg #[iq p1.a0,iq p1.a1,iq p1.a2]]) (fun _ r=>fun v Ln=>v = .bool r/\Ln=[]/\True):=⟨by
 rintro _ _ r rfl hx w hK;unfold Qm at hx;have:=dl 4 [0,0,1,0,0,1,0] [0,1,2,3,4,5,6];have:=dl 5 [0,0,1,0,0,1,0,2] [0,1,2,3,4,5,6,7];refine CtS ntmps249 results249 ?_;try (refine pre ?_;intros;rename_i hx)
 refine Bl ?_;try (refine pre ?_;intros;rename_i hx)
 apply Jr (γ:=Unit) hx [] (fun s2 y2 f=>f) [999] (fun s2 y2 l=>l);exact kk
 ·intro s2 y2 hx;exact au
 ·intro _ hx;try (refine pre ?_;intros;rename_i hx)
  apply Lr (γ:=Unit) hx [2,3] (fun s0 y0 f=>(6,iq s0)::f) [0,1,999] (fun s0 y0 l=>l) ();exact kk;exact sk;intro s0 y0 x0 hx _;unfold Ig at hx;exact au⟩
instance lidarref06_sorted_c(p0:List Aj):ConK (Nq p0) prog 201 (fun ug0 ug1 ug2 B0_0 d0_0 ua0 uc0 vs Lp=>vs=[.slice B0_0 p0.length d0_0]/\Lp=[.r B0_0 p0.length d0_0 101 3 (p0.flatMap Aw)]/\ug0=0/\ug1=0/\ug2=0/\ua0=none/\uc0=0/\True) (fun B0_0 d0_0 ua0 uc0 K K2=>True) (fun ug0 ug1 ug2 B0_0 d0_0 ua0 uc0 K r=>fun v Ln=>∃ A0 c0,v = .slice A0 r.length c0/\Ln=[.r A0 r.length c0 101 3 (r.flatMap Aw)]/\True):=⟨by
 rintro _ _ _ B0_0 d0_0 _ _ K K2 _ _ r ⟨rfl,rfl,rfl,rfl,rfl,rfl,rfl,-⟩ ⟨-⟩ hx;unfold Nq at hx;have:=dl 5 [0,0,0,0,0,0,1,0,0,0,0,1,2,0] [0,1,2,3,4,5,6,7,8,9,10,11,12,13];have:=dl 7 [0,0,0,0,0,0,0,0,0,1,0,0,0,1,0,3,0,3] [0,1,2,3,4,5,6,7,8,9,10,11,12,13,14,15,16,17];refine CtSK ntmps201 results201 ?_;intro Lf hKf;have hKg:=hKf.r;replace hKf:=hKf.l;refine Jj ?_;try (refine pre ?_;intros;rename_i hx)
 refine Bl ?_;try (refine pre ?_;intros;rename_i hx)
 apply Jr (γ:=Option Addr × Nat) hx [] (fun s2 y2 f=>(0,.slice y2.1 s2.length y2.2)::f) [1001] (fun s2 y2 l=>.r y2.1 s2.length y2.2 101 3 (s2.flatMap Aw)::l);exact kk
 ·intro s2 y2 hx;exact au
 ·intro _ hx;try (refine pre ?_;intros;rename_i hx)
  apply Lr (γ:=Option Addr × Nat) hx [6] (fun s0 y0 f=>(0,.slice y0.1 s0.1.length y0.2)::(7,iq s0.2)::f) [1001] (fun s0 y0 l=>.r y0.1 s0.1.length y0.2 101 3 (s0.1.flatMap Aw)::l) (_,_);exact kk;exact sk;intro s0 y0 x0 hx _;unfold Ix at hx;try (refine pre ?_;intros;rename_i hx)
  refine Cq1 (s:=8) hx rfl (fun _ hx=>?_) (fun _ hx=>?_)
  ·try (refine pre ?_;intros;rename_i hx)
   apply Jr (γ:=Option Addr × Nat) hx [6,7] (fun s1 y1 f=>(0,.slice y1.1 s1.length y1.2)::f) [1001] (fun s1 y1 l=>.r y1.1 s1.length y1.2 101 3 (s1.flatMap Aw)::l);exact kk
   ·intro s1 y1 hx;exact au
   ·intro _ hx;try (refine pre ?_;intros;rename_i hx)
    apply Lr (γ:=Option Addr × Nat) hx [6,7] (fun s3 y3 f=>(0,.slice y3.1 s3.1.length y3.2)::(4,iq s3.2)::f) [1001] (fun s3 y3 l=>.r y3.1 s3.1.length y3.2 101 3 (s3.1.flatMap Aw)::l) (_,_);exact kk;exact sk;intro s3 y3 x1 hx _;unfold Iw at hx;try (refine pre ?_;intros;rename_i hx)
    refine Bl ?_;try (refine pre ?_;intros;rename_i hx)
    apply Jr (γ:=Unit) hx [0,4,6,7] (fun s4 y4 f=>(24,.bool s4)::f) [0,1001] (fun s4 y4 l=>l);exact kk
    ·intro s4 y4 hx;exact au
    ·intro _ hx;exact au
  ·exact au⟩
instance lidarref06_turned_c(p0:Aj):Con (Nr p0) prog 200 (fun _ vs=>vs=[.agg #[iq p0.a0,iq p0.a1,iq p0.a2]]) (fun _ r=>fun v Ln=>v = .agg #[iq r.a0,iq r.a1,iq r.a2]/\Ln=[]/\True):=⟨by
 rintro _ _ r rfl hx w hK;unfold Nr at hx;refine CtS ntmps200 results200 ?_;try (refine pre ?_;intros;rename_i hx)
 refine Bl ?_;try (refine pre ?_;intros;rename_i hx)
 apply Jr (γ:=Nat) hx [2] (fun s2 y2 f=>(1,.pointer (some ⟨y2,0,none⟩))::f) [0,999] (fun s2 y2 l=>.m y2 101 [iq s2.1,iq s2.2.1,iq s2.2.2]::l);exact kk
 ·intro s2 y2 hx;exact au
 ·intro _ hx;try (refine pre ?_;intros;rename_i hx)
  apply Lr (γ:=Nat) hx [2] (fun s0 y0 f=>(1,.pointer (some ⟨y0,0,none⟩))::f) [0,999] (fun s0 y0 l=>.m y0 101 [iq s0.1,iq s0.2.1,iq s0.2.2]::l) _;exact kk;exact sk;intro s0 y0 x0 hx _;unfold Gd at hx;exact au⟩
instance lidarref06_Less_c(p0:Ac)(p1:Ac):Con (Wm p0 p1) prog 195 (fun _ vs=>vs=[.agg #[iq p0.a0,iq p0.a1],.agg #[iq p1.a0,iq p1.a1]]) (fun _ r=>fun v Ln=>v = .bool r/\Ln=[]/\True):=⟨by
 rintro _ _ r rfl hx w hK;unfold Wm at hx;refine CtS ntmps195 results195 ?_;exact au⟩
instance lidarref06_ordered_c(p0:List Ac):Con (Mb p0) prog 137 (fun K vs=>∃ U0 E0,vs=[.slice U0 p0.length E0]/\Has K U0 p0.length E0 2 Ar p0/\True) (fun _ r=>fun v Ln=>∃ A0 c0,v = .slice A0 r.length c0/\Ln=[.r A0 r.length c0 103 2 (r.flatMap Ar)]/\True):=⟨by
 rintro K _ r ⟨U0,E0,rfl,ha0,-⟩ hx w hK;replace ha0:=Has.lo ha0 hK;unfold Mb at hx;have:=dl 5 [0,0,0,0,0,1,0,0,0,0,1,0,0,0,0,0,1,0,0,0,0,1,0,0,2,3,2] [0,1,2,3,4,5,6,7,8,9,10,11,12,13,14,15,16,17,18,19,20,21,22,23,24,25,26];have:=dl 11 [0,0,0,0,0,0,1,0,0,0,0,1,2,0] [0,1,2,3,4,5,6,7,8,9,10,11,12,13];have:=dl 13 [0,0,0,0,0,0,0,0,0,1,0,0,0,1,0,3,0,3] [0,1,2,3,4,5,6,7,8,9,10,11,12,13,14,15,16,17];refine CtS ntmps137 results137 ?_;try (refine pre ?_;intros;rename_i hx)
 refine Bl ?_;try (refine pre ?_;intros;rename_i hx)
 refine Bl ?_;try (refine pre ?_;intros;rename_i hx)
 apply Jr (γ:=Option Addr × Nat) hx [] (fun s3 y3 f=>(3,.slice y3.1 s3.length y3.2)::f) [999] (fun s3 y3 l=>.r y3.1 s3.length y3.2 103 2 (s3.flatMap Ar)::l);exact kk
 ·intro s3 y3 hx;apply Jr (γ:=Option Addr × Nat) hx [] (fun s0 y0 f=>(3,.slice y0.1 s0.length y0.2)::f) [999] (fun s0 y0 l=>.r y0.1 s0.length y0.2 103 2 (s0.flatMap Ar)::l);exact kk
  ·intro s0 y0 hx;exact au
  ·intro _ hx;try (refine pre ?_;intros;rename_i hx)
   apply Lr (γ:=Option Addr × Nat) hx [40] (fun s1 y1 f=>(3,.slice y1.1 s1.1.length y1.2)::(41,iq s1.2)::f) [999] (fun s1 y1 l=>.r y1.1 s1.1.length y1.2 103 2 (s1.1.flatMap Ar)::l) (_,_);exact kk;exact sk;intro s1 y1 x0 hx _;unfold Qw at hx;try (refine pre ?_;intros;rename_i hx)
   refine Cq1 (s:=42) hx rfl (fun _ hx=>?_) (fun _ hx=>?_)
   ·try (refine pre ?_;intros;rename_i hx)
    apply Jr (γ:=Option Addr × Nat) hx [40,41] (fun s2 y2 f=>(3,.slice y2.1 s2.length y2.2)::f) [999] (fun s2 y2 l=>.r y2.1 s2.length y2.2 103 2 (s2.flatMap Ar)::l);exact kk
    ·intro s2 y2 hx;exact au
    ·intro _ hx;try (refine pre ?_;intros;rename_i hx)
     apply Lr (γ:=Option Addr × Nat) hx [40,41] (fun s4 y4 f=>(3,.slice y4.1 s4.1.length y4.2)::(6,iq s4.2)::f) [999] (fun s4 y4 l=>.r y4.1 s4.1.length y4.2 103 2 (s4.1.flatMap Ar)::l) (_,_);exact kk;exact sk;intro s4 y4 x1 hx _;unfold Uy at hx;try (refine pre ?_;intros;rename_i hx)
     refine Bl ?_;try (refine pre ?_;intros;rename_i hx)
     apply Jr (γ:=Unit) hx [3,6,40,41] (fun s5 y5 f=>(58,.bool s5)::f) [0,999] (fun s5 y5 l=>l);exact kk
     ·intro s5 y5 hx;exact au
     ·intro _ hx;exact au
   ·exact au
 ·intro _ hx;try (refine pre ?_;intros;rename_i hx)
  refine Bb 103 2 ?_;apply Lr (γ:=Option Addr × Nat) hx [0,8] (fun s6 y6 f=>(3,.slice y6.1 s6.1.length y6.2)::(9,iq s6.2)::f) [999] (fun s6 y6 l=>.r y6.1 s6.1.length y6.2 103 2 (s6.1.flatMap Ar)::l) (_,_);exact kk;exact sk;intro s6 y6 x2 hx _;unfold Qv at hx;exact au⟩
instance lidarref06_triangles_c(p0:List Ad)(p1:List Ac):Con (Iy p0 p1) prog 138 (fun K vs=>∃ U0 E0 U1 E1,vs=[.slice U0 p0.length E0,.slice U1 p1.length E1]/\Has K U0 p0.length E0 4 Ak p0/\Has K U1 p1.length E1 2 Ar p1/\True) (fun _ r=>fun v Ln=>∃ A0 c0,v = .slice A0 r.length c0/\Ln=[.r A0 r.length c0 101 3 (r.flatMap Aw)]/\True):=⟨by
 rintro K _ r ⟨U0,E0,U1,E1,rfl,ha0,ha1,-⟩ hx w hK;replace ha0:=Has.lo ha0 hK;replace ha1:=Has.lo ha1 hK;unfold Iy at hx;have:=dl 19 [0,0,1,0,0,0,0,1,2,2] [0,1,2,3,4,5,6,7,8,9];refine CtS ntmps138 results138 ?_;try (refine pre ?_;intros;rename_i hx)
 refine Bl ?_;try (refine pre ?_;intros;rename_i hx)
 refine Bl ?_;try (refine pre ?_;intros;rename_i hx)
 apply Jr (γ:=Unit) hx [0,1] (fun s3 y3 f=>(21,.bool s3)::f) [999] (fun s3 y3 l=>l);exact kk
 ·intro s3 y3 hx;refine Cq3 (s:=21) hx rfl (fun _ hx=>?_) (fun _ hx=>?_)
  ·exact au
  ·try (refine pre ?_;intros;rename_i hx)
   refine Bl ?_;try (refine pre ?_;intros;rename_i hx)
   refine Bl ?_;try (refine pre ?_;intros;rename_i hx)
   apply Jr (γ:=Option Addr × Nat) hx [] (fun s9 y9 f=>(8,.slice y9.1 s9.length y9.2)::f) [999] (fun s9 y9 l=>.r y9.1 s9.length y9.2 101 3 (s9.flatMap Aw)::l);exact kk
   ·intro s9 y9 hx;exact au
   ·intro _ hx;try (refine pre ?_;intros;rename_i hx)
    (with_reducible apply Ali 29 (sz:=2));exact rfl;exact aT;exact inferInstance;exact dL;exact (fun _=>rfl);exact rfl;exact rfl;exact sA
    try (refine pre ?_;intros;rename_i hx)
    refine Bb 101 3 ?_;apply Lr (γ:=Option Addr × Nat × Option Addr × Nat × Nat) hx [0,1] (fun s0 y0 f=>(6,.slice y0.1 s0.1.length y0.2.1)::(7,.map (some y0.2.2.2.2))::(8,.slice y0.2.2.1 s0.2.2.length y0.2.2.2.1)::f) [999] (fun s0 y0 l=>.r y0.2.2.1 s0.2.2.length y0.2.2.2.1 101 3 (s0.2.2.flatMap Aw)::Ba prog 103 Ao Ce y0.2.2.2.2 s0.2.1 :: .r y0.1 s0.1.length y0.2.1 103 2 (s0.1.flatMap Ar)::l) (_,_,_,_,_);exact kk;exact sk;intro s0 y0 x0 hx _;unfold Ge at hx;try (refine pre ?_;intros;rename_i hx)
    refine Cq1e (s:=33) hx rfl cQ (fun _ hx=>?_) (fun _ hx=>?_)
    ·try (refine pre ?_;intros;rename_i hx)
     refine Cq3 (s:=47) hx rfl (fun _ hx=>?_) (fun _ hx=>?_)
     ·try (refine pre ?_;intros;rename_i hx)
      (with_reducible apply Xz 6);exact rfl;exact aT;(with_reducible assumption);exact rfl;exact (fun _=>rfl);exact sA
      exact au
     ·try (refine pre ?_;intros;rename_i hx)
      refine Cq1e (s:=56) hx rfl cQ (fun _ hx=>?_) (fun _ hx=>?_)
      ·try (refine pre ?_;intros;rename_i hx)
       (with_reducible apply Xz 6);exact rfl;exact aT;(with_reducible assumption);exact rfl;exact (fun _=>rfl);exact sA
       exact au
      ·try (refine pre ?_;intros;rename_i hx)
       (with_reducible apply Xz 6);exact rfl;exact aT;(with_reducible assumption);exact rfl;exact (fun _=>rfl);exact sA
       try (refine pre ?_;intros;rename_i hx)
       apply Lr (γ:=Option Addr × Nat × Nat) hx [0,1,8,11] (fun s1 y1 f=>(6,.slice y1.1 s1.1.length y1.2.1)::(7,.map (some y1.2.2))::(70,iq s1.2.2)::f) [0,2,999] (fun s1 y1 l=>.r y1.1 s1.1.length y1.2.1 103 2 (s1.1.flatMap Ar)::Ba prog 103 Ao Ce y1.2.2 s1.2.1::l) (_,_,_);exact kk;exact sk;intro s1 y1 x1 hx _;unfold Cw at hx;exact au
    ·exact au
 ·intro _ hx;exact au⟩
instance lidarref06_Build_c(p0:List Ad)(p1:List Ac):Con (Ku p0 p1) prog 82 (fun K vs=>∃ U0 E0 U1 E1,vs=[.slice U0 p0.length E0,.slice U1 p1.length E1]/\Has K U0 p0.length E0 4 Ak p0/\Has K U1 p1.length E1 2 Ar p1/\True) (fun _ r=>fun v Ln=>∃ A0 c0 A2 c2 A4 c4,v = .tuple #[.agg #[.slice A0 r.1.V.length c0,.slice A2 r.1.T.length c2,.slice A4 r.1.Lines.length c4],iq r.2]/\Ln=[.r A0 r.1.V.length c0 108 4 (r.1.V.flatMap Ak),.r A2 r.1.T.length c2 101 3 (r.1.T.flatMap Aw),.r A4 r.1.Lines.length c4 103 2 (r.1.Lines.flatMap Ar)]/\True):=⟨by
 rintro K _ r ⟨U0,E0,U1,E1,rfl,ha0,ha1,-⟩ hx w hK;replace ha0:=Has.lo ha0 hK;replace ha1:=Has.lo ha1 hK;unfold Ku at hx;refine CtS ntmps82 results82 ?_;try (refine pre ?_;intros;rename_i hx)
 refine Cq2 (s:=14) hx rfl (fun _ hx=>?_) (fun _ hx=>?_)
 ·exact au
 ·try (refine pre ?_;intros;rename_i hx)
  refine Bl ?_;try (refine pre ?_;intros;rename_i hx)
  apply Jr (γ:=Option Addr × Nat) hx [0,1,4] (fun s7 y7 f=>(7,.slice y7.1 s7.length y7.2)::f) [0,999] (fun s7 y7 l=>.r y7.1 s7.length y7.2 108 4 (s7.flatMap Ak)::l);exact kk
  ·intro s7 y7 hx;exact au
  ·intro _ hx;try (refine pre ?_;intros;rename_i hx)
   refine Bb 108 4 ?_;apply Lr (γ:=Option Addr × Nat) hx [0,1,4,18] (fun s0 y0 f=>(7,.slice y0.1 s0.1.length y0.2)::(19,iq s0.2)::f) [1,999] (fun s0 y0 l=>.r y0.1 s0.1.length y0.2 108 4 (s0.1.flatMap Ak)::l) (_,_);exact kk;exact sk;intro s0 y0 x0 hx _;unfold Jx at hx;exact au⟩
instance(x0:Int)(x1:Int)(x2:Int)(x3:Int):Kb prog 108 [(0,iq x0),(1,iq x1),(2,.agg #[iq x2,iq x3])] [iq x0,iq x1,iq x2,iq x3]:=⟨fun w=>kr⟩
instance:UndI prog 186 (.map 3 30):=⟨underlying186⟩
instance:MkI prog 41 30 9 72 Ai ((⟨0,0,0,(⟨0,0⟩:Ax),0,0,0,0⟩:Aa)):=⟨t30,.agg #[iq 0,iq 0,iq 0,iq 0,iq 0,iq 0,iq 0,iq 0,iq 0],underlying41,kr,kr,rfl,kr,kr⟩
instance srtI_60_153:SrtI prog 60 153 Ai 9 (fun l=>(ptIn l)) Vz (fun x=>.agg #[iq x.Id,iq x.X,iq x.Y,iq x.Z.Lo,iq x.Z.Hi,iq x.Wide,iq x.Num,iq x.Of,iq x.Class]):=⟨⟨_,func60,rfl,rfl⟩,fun l hb hp A m c t w hok hcm=>Aqv l hb hp w hok hcm ⟨_,func153,rfl,rfl⟩,fun _ W x y px py=>⟨[.agg #[iq x.Id,iq x.X,iq x.Y,iq x.Z.Lo,iq x.Z.Hi,iq x.Wide,iq x.Num,iq x.Of,iq x.Class],.agg #[iq y.Id,iq y.X,iq y.Y,iq y.Z.Lo,iq y.Z.Hi,iq y.Wide,iq y.Num,iq y.Of,iq y.Class]],rfl,Afy x y (Aqu px py) W⟩⟩
def Qn(p0:List Aa):((List (Int × Aa)) × Int)->Option (Sum ((List (Int × Aa)) × Int) (List (Int × Aa))):=fun s0=>
 if s0.2<(p0.length:Int) then (bnd (idx p0 s0.2) fun x0=>
 gd ((-9223372036854775808<=x0.Id/\x0.Id<=9223372036854775807))<|
 gd (s0.1.length<9223372036854775807)<|
 some (.inl (mput s0.1 x0.Id x0,w64 (s0.2+1))))
 else (some (.inr s0.1))
def Mr(p1:List Int):((List (Int × Aa)) × List Aa × Int)->Option (Sum ((List (Int × Aa)) × List Aa × Int) (Sum (List Aa) (List Aa × Bool))):=fun s0=>
 if s0.2.2<(p1.length:Int) then (bnd (idx p1 s0.2.2) fun x0=>
 gd ((-9223372036854775808<=x0/\x0<=9223372036854775807))<|
 bnd (some ((mget s0.1 x0).getD ((⟨0,0,0,(⟨0,0⟩:Ax),0,0,0,0⟩:Aa)))) fun x1=>
 if ((mget s0.1 x0).isSome)=true then (gd ((-9223372036854775808<=x0/\x0<=9223372036854775807))<|
 gd ((s0.2.1.length+1)*72<=140737488355328)<|
 some (.inl (mdel s0.1 x0,s0.2.1++[x1],w64 (s0.2.2+1))))
 else (some (.inr (.inr (([]:List Aa),false)))))
 else (some (.inr (.inl s0.2.1)))
def Uz(p0:List Aa)(p1:List Int):Option (List Aa × Bool):=
 jn (fun (s3:List (Int × Aa))=>
 gd ((0:Int)<=(p1.length:Int)/\72*Int.toNat (p1.length:Int)<=140737488355328)<|
 jn (fun (s0:List Aa)=>
 gd (s0.length<=1000000000/\(∀ x∈s0,(ptIn s0) x))<|
 some (Bi Vz s0,true))
 (fun j0=>bnd (lfix (Mr p1) (s3,([]:List Aa),0)) fun t0=>
 (match t0 with
 | (.inl z0)=>j0 z0
 | (.inr z0)=>some z0
 )))
 (fun j3=>bnd (lfix (Qn p0) (([]:List (Int × Aa)),0)) fun t1=>
 j3 t1)
instance:MkI prog 22 108 4 32 Ak ((⟨0,0,(⟨0,0⟩:Ax)⟩:Ad)):=⟨t108,.agg #[iq 0,iq 0,iq 0,iq 0],underlying22,kr,kr,rfl,kr,kr⟩
def Rx(p0:List Aa):(List Ad × Int)->Option (Sum (List Ad × Int) (List Ad)):=fun s0=>
 if s0.2<(p0.length:Int) then (bnd (idx p0 s0.2) fun x0=>
 gd ((s0.1.length+1)*32<=140737488355328)<|
 some (.inl (s0.1++[(⟨x0.X,x0.Y,x0.Z⟩:Ad)],w64 (s0.2+1))))
 else (some (.inr s0.1))
def Ry(p0:List Aa):Option (Aq × Int):=
 gd ((0:Int)<=(p0.length:Int)/\32*Int.toNat (p0.length:Int)<=140737488355328)<|
 jn (fun (s3:List Ad)=>
 bnd (Rr s3 ([]:List Ac)) fun r0=>
 if r0.2=0 then (some (r0.1,0))
 else (some ((⟨([]:List Ad),([]:List Aj),([]:List Ac)⟩:Aq),11)))
 (fun j3=>bnd (lfix (Rx p0) (([]:List Ad),0)) fun t0=>
 j3 t0)
def Da(p0:List Aa)(p1:List Int):Option (Aq × Int):=
 bnd (Uz p0 p1) fun r2=>
 if r2.2=true then (bnd (Ry r2.1) fun r0=>
 some (r0.1,r0.2))
 else (some ((⟨([]:List Ad),([]:List Aj),([]:List Ac)⟩:Aq),2))
instance label_chosen_c(p0:List Aa)(p1:List Int):Con (Uz p0 p1) prog 102 (fun K vs=>∃ U0 E0 U1 E1,vs=[.slice U0 p0.length E0,.slice U1 p1.length E1]/\Has K U0 p0.length E0 9 Ai p0/\Has K U1 p1.length E1 1 Ag p1/\True) (fun _ r=>fun v Ln=>∃ A0 c0,v = .tuple #[.slice A0 r.1.length c0,.bool r.2]/\Ln=[.r A0 r.1.length c0 30 9 (r.1.flatMap Ai)]/\True):=⟨by
 rintro K _ r ⟨U0,E0,U1,E1,rfl,ha0,ha1,-⟩ hx w hK;replace ha0:=Has.lo ha0 hK;replace ha1:=Has.lo ha1 hK;unfold Uz at hx;refine CtS ntmps102 results102 ?_;try (refine pre ?_;intros;rename_i hx)
 refine Bl ?_;try (refine pre ?_;intros;rename_i hx)
 refine Bl ?_;try (refine pre ?_;intros;rename_i hx)
 apply Jr (γ:=Nat) hx [1] (fun s3 y3 f=>(6,.map (some y3))::f) [999] (fun s3 y3 l=>Ba prog 3 Cl Ci y3 s3::l);exact kk
 ·intro s3 y3 hx;try (refine pre ?_;intros;rename_i hx)
  apply Jr (γ:=Option Addr × Nat) hx [] (fun s0 y0 f=>(9,.slice y0.1 s0.length y0.2)::f) [999] (fun s0 y0 l=>.r y0.1 s0.length y0.2 30 9 (s0.flatMap Ai)::l);exact kk
  ·intro s0 y0 hx;exact au
  ·intro _ hx;try (refine pre ?_;intros;rename_i hx)
   apply Lr (γ:=Option Addr × Nat × Nat) hx [31,32] (fun s1 y1 f=>(6,.map (some y1.2.2))::(9,.slice y1.1 s1.2.1.length y1.2.1)::(33,iq s1.2.2)::f) [999] (fun s1 y1 l=>.r y1.1 s1.2.1.length y1.2.1 30 9 (s1.2.1.flatMap Ai)::Ba prog 3 Cl Ci y1.2.2 s1.1::l) (_,_,_);exact kk;exact sk;intro s1 y1 x0 hx _;unfold Mr at hx;exact au
 ·intro _ hx;try (refine pre ?_;intros;rename_i hx)
  apply Lr (γ:=Nat) hx [1,17,18] (fun s2 y2 f=>(6,.map (some y2))::(19,iq s2.2)::f) [999] (fun s2 y2 l=>Ba prog 3 Cl Ci y2 s2.1::l) _;exact kk;exact sk;intro s2 y2 x1 hx _;unfold Qn at hx;exact au⟩
instance label_build_c(p0:List Aa):Con (Ry p0) prog 103 (fun K vs=>∃ U0 E0,vs=[.slice U0 p0.length E0]/\Has K U0 p0.length E0 9 Ai p0/\True) (fun _ r=>fun v Ln=>∃ A0 c0 A2 c2 A4 c4,v = .tuple #[.agg #[.slice A0 r.1.V.length c0,.slice A2 r.1.T.length c2,.slice A4 r.1.Lines.length c4],iq r.2]/\Ln=[.r A0 r.1.V.length c0 108 4 (r.1.V.flatMap Ak),.r A2 r.1.T.length c2 101 3 (r.1.T.flatMap Aw),.r A4 r.1.Lines.length c4 103 2 (r.1.Lines.flatMap Ar)]/\True):=⟨by
 rintro K _ r ⟨U0,E0,rfl,ha0,-⟩ hx w hK;replace ha0:=Has.lo ha0 hK;unfold Ry at hx;refine CtS ntmps103 results103 ?_;try (refine pre ?_;intros;rename_i hx)
 apply Jr (γ:=Option Addr × Nat) hx [2] (fun s3 y3 f=>(4,.slice y3.1 s3.length y3.2)::f) [1,999] (fun s3 y3 l=>.r y3.1 s3.length y3.2 108 4 (s3.flatMap Ak)::l);exact kk
 ·intro s3 y3 hx;exact au
 ·intro _ hx;try (refine pre ?_;intros;rename_i hx)
  apply Lr (γ:=Option Addr × Nat) hx [2,12,13] (fun s29 y29 f=>(4,.slice y29.1 s29.1.length y29.2)::(14,iq s29.2)::f) [1,999] (fun s29 y29 l=>.r y29.1 s29.1.length y29.2 108 4 (s29.1.flatMap Ak)::l) (_,_);exact kk;exact sk;intro s29 y29 x29 hx _;unfold Rx at hx;exact au⟩
instance Af6(p0:List Aa)(p1:List Int):Con (Da p0 p1) prog 51 (fun K vs=>∃ U0 E0 U1 E1,vs=[.slice U0 p0.length E0,.slice U1 p1.length E1]/\Has K U0 p0.length E0 9 Ai p0/\Has K U1 p1.length E1 1 Ag p1/\True) (fun _ r=>fun v Ln=>∃ A0 c0 A2 c2 A4 c4,v = .tuple #[.agg #[.slice A0 r.1.V.length c0,.slice A2 r.1.T.length c2,.slice A4 r.1.Lines.length c4],iq r.2]/\Ln=[.r A0 r.1.V.length c0 108 4 (r.1.V.flatMap Ak),.r A2 r.1.T.length c2 101 3 (r.1.T.flatMap Aw),.r A4 r.1.Lines.length c4 103 2 (r.1.Lines.flatMap Ar)]/\True):=⟨by
 rintro K _ r ⟨U0,E0,U1,E1,rfl,ha0,ha1,-⟩ hx w hK;replace ha0:=Has.lo ha0 hK;replace ha1:=Has.lo ha1 hK;unfold Da at hx;refine CtS ntmps51 results51 ?_;exact au⟩
theorem Ae2(p0:List Aa)(p1:List Int){K:List Ent}{U0:Option Addr}{E0:Nat}{U1:Option Addr}{E1:Nat}(ha0:Has K U0 p0.length E0 9 Ai p0)(ha1:Has K U1 p1.length E1 1 Ag p1){r:Aq × Int}(hx:Da p0 p1=some r)(w:World)(hK:∀ e∈K,Ent.ok w e):CtL prog 51 [.slice U0 p0.length E0,.slice U1 p1.length E1] w fun v Ln=>∃ (A0:Option Addr) (c0:Nat) (A2:Option Addr) (c2:Nat) (A4:Option Addr) (c4:Nat),v = .tuple #[.agg #[.slice A0 r.1.V.length c0,.slice A2 r.1.T.length c2,.slice A4 r.1.Lines.length c4],iq r.2]/\Ln=[.r A0 r.1.V.length c0 108 4 (r.1.V.flatMap Ak),.r A2 r.1.T.length c2 101 3 (r.1.T.flatMap Aw),.r A4 r.1.Lines.length c4 103 2 (r.1.Lines.flatMap Ar)]/\True:=(Af6 p0 p1).h K _ _ ⟨_,_,_,_,rfl,ha0,ha1,trivial⟩ hx w hK
end
end Go.Proofs.YthlkpgdfifnagaaGreat
