/- Walks of the program, with their plain functions: inputs, comparators. -/
import Derived.Test.YtgfiafnelibjgaaGreatD1
namespace Go.Proofs.YtgfiafnelibjgaaGreat
open Go Go.RowKit
theorem Pq:Jq Tryz.prog 22 43 4:=.mk Tryz.underlying22 (show Tryz.prog.info? 43=some Tryz.t43 from by kernel_rfl) (by kernel_rfl)
instance:Mh Tryz.prog 22 43 4:=⟨Pq⟩
theorem Asq:Nb Tryz.prog 43 [.int .i64 (0),.int .i64 (0),.int .i64 (0),.int .i64 (0)]:=⟨_,Tryz.zeroValue43,rfl⟩
instance:Wn Tryz.prog 43 [.int .i64 (0),.int .i64 (0),.int .i64 (0),.int .i64 (0)]:=⟨Asq⟩
theorem Iv:Jq Tryz.prog 23 48 2:=.mk Tryz.underlying23 (show Tryz.prog.info? 48=some Tryz.t48 from by kernel_rfl) (by kernel_rfl)
instance:Mh Tryz.prog 23 48 2:=⟨Iv⟩
theorem Qp:Jq Tryz.prog 59 3 1:=.mk Tryz.underlying59 (show Tryz.prog.info? 3=some Tryz.t3 from by kernel_rfl) (by kernel_rfl)
instance:Mh Tryz.prog 59 3 1:=⟨Qp⟩
theorem Auy:Ack Tryz.prog 35 3 1:=.mk Tryz.underlying35 (show Tryz.prog.info? 3=some Tryz.t3 from by kernel_rfl) (by kernel_rfl)
instance:ArrI Tryz.prog 35 3 1:=⟨Auy⟩
theorem Yw:Oi Tryz.prog 22:=.mk Tryz.underlying22 rfl (show Tryz.prog.info? 22=some Tryz.t22 from by kernel_rfl) (by kernel_rfl)
instance:OneI Tryz.prog 22:=⟨Yw⟩
instance:UndI Tryz.prog 22 (.slice 43):=⟨Tryz.underlying22⟩
theorem Ahi:laidOutB Tryz.prog=true:=by kernel_rfl
theorem At1:(match Tryz.prog.underlying 38 with | some (.array _ _) | some (.struct _)=>true | _=>false)=true:=by kernel_rfl
set_option maxRecDepth 100000 in
theorem Auz:Maps.Keyed Tryz.prog 38:=Maps.Keyed.of_law (deep_law_laid Ahi (m:=3) (by omega) (of_decide_eq_true (by kernel_rfl)) (by kernel_rfl) At1)
theorem Au0 (x:Ac) (h:(-9223372036854775808≤x.X∧x.X≤9223372036854775807)∧(-9223372036854775808≤x.Y∧x.Y≤9223372036854775807)):(keyOf Tryz.prog 38 (Ml x)).isSome=true:=by
 refine Ah8 (cs:=[.int .i64 (x.X),.int .i64 (x.Y)]) (d:=340) (by kernel_rfl) Tryz.underlying38 (by kernel_rfl) (by kernel_rfl) (by kernel_rfl) (fun f hf=>?_)
 simp only [List.mem_cons,List.not_mem_nil,or_false] at hf
 rcases hf with rfl | rfl
 ·exact ⟨.i64,x.X,Tryz.underlying3,by kernel_rfl,Ae2 h.1⟩
 ·exact ⟨.i64,x.Y,Tryz.underlying3,by kernel_rfl,Ae2 h.2⟩
instance:KeyI Tryz.prog 38 Ml (fun x=>(-9223372036854775808≤x.X∧x.X≤9223372036854775807)∧(-9223372036854775808≤x.Y∧x.Y≤9223372036854775807)):=⟨Auz,Xx,Au0⟩
instance:UndI Tryz.prog 171 (.map 38 4):=⟨Tryz.underlying171⟩
def Ay (x:Bool):Value:=.bool (x)
theorem Aiy (x y:Bool) (h:Ay x=Ay y):x=y:=by simpa [Ay] using h
instance (x:Bool):UnfI Ay x (.bool (x)):=⟨rfl⟩
instance (x0:Bool):Ys Ay (.bool (x0)) (x0):=⟨rfl⟩
instance:ValI Tryz.prog 4 Ay false:=⟨Aiy,fun w=>by kernel_rfl⟩
noncomputable def Il (p0:List Ab):Int→Option (Sum Int (Sum Unit Int)):=fun s0 =>
 if s0 < ((((p0).length:Nat):Int)) then (bnd (idx p0 s0) fun x0 =>
 bnd (Rt (⟨x0.X,x0.Y,(⟨x0.Z.Lo,x0.Z.Hi⟩:Al)⟩:Ab)) fun r0 =>
 if r0=true then (some (.inl (w64 (s0+1))))
 else (some (.inr (.inr (60)))))
 else (some (.inr (.inl ())))
noncomputable def Lg (p0:List Ab):((List (Ac × Bool)) × Int)→Option (Sum ((List (Ac × Bool)) × Int) (Sum Unit Int)):=fun s0 =>
 if s0.2 < ((((p0).length:Nat):Int)) then (bnd (idx p0 s0.2) fun x0 =>
 bnd (Ez (⟨x0.X,x0.Y,(⟨x0.Z.Lo,x0.Z.Hi⟩:Al)⟩:Ab)) fun r0 =>
 gd ((-9223372036854775808≤r0.X∧r0.X≤9223372036854775807)∧(-9223372036854775808≤r0.Y∧r0.Y≤9223372036854775807)) <|
 bnd (some ((mget s0.1 r0).getD false)) fun x1 =>
 if x1=true then (some (.inr (.inr (61))))
 else (bnd (Ez (⟨x0.X,x0.Y,(⟨x0.Z.Lo,x0.Z.Hi⟩:Al)⟩:Ab)) fun r1 =>
 gd ((-9223372036854775808≤r1.X∧r1.X≤9223372036854775807)∧(-9223372036854775808≤r1.Y∧r1.Y≤9223372036854775807)) <|
 gd ((s0.1).length < 9223372036854775807) <|
 some (.inl (mput s0.1 r1 true,w64 (s0.2+1)))))
 else (some (.inr (.inl ())))
noncomputable def Kw (p0:List Ab):Option Int :=
 if 1024 < ((((p0).length:Nat):Int)) then (some 2)
 else (jn (fun (s5:Unit) =>
 jn (fun (s0:Unit) =>
 some 0)
 (fun j0=>bnd (lfix (Lg p0) (([]:List (Ac × Bool)),0)) fun t0 =>
 (match t0 with
 | (.inl z0)=>j0 z0
 | (.inr (z0))=>some z0
 )))
 (fun j5=>bnd (lfix (Il p0) 0) fun t1 =>
 (match t1 with
 | (.inl z1)=>j5 z1
 | (.inr (z1))=>some z1
 )))
def Ah (x:Ab):List Value:=[.int .i64 (x.X),.int .i64 (x.Y),.int .i64 (x.Z.Lo),.int .i64 (x.Z.Hi)]
instance (x0:Int) (x1:Int) (x2:Int) (x3:Int):DecI Ah [.int .i64 (x0),.int .i64 (x1),.int .i64 (x2),.int .i64 (x3)] (⟨x0,x1,⟨x2,x3⟩⟩):=⟨rfl⟩
instance:EncI 43 Ah:=⟨trivial⟩
noncomputable def Gz (p0:Ac) (p1:Ac) (p2:Ac):Option Bool :=
 jn (fun (s2:Bool) =>
 some s2)
 (fun j2=>bnd (Gq p0 p1 p2) fun r4 =>
 if r4=0 then (if ((((p2.X) == (p0.X)) && (((p2.Y) == (p0.Y)) && true)))=true then (j2 false)
 else (if ((((p2.X) == (p1.X)) && (((p2.Y) == (p1.Y)) && true)))=true then (j2 false)
 else (bnd (Ej p0 p2) fun r0 =>
 bnd (Ej p1 p2) fun r1 =>
 j2 (!((r0) == (r1))))))
 else (j2 false))
noncomputable def Sh (p0:Ac) (p1:Ac) (p2:Ac) (p3:Ac):Option Bool :=
 jn (fun (s3:Bool) =>
 if s3=true then (some true)
 else (jn (fun (s5:Bool) =>
 some s5)
 (fun j5=>bnd (Gq p0 p1 p2) fun r0 =>
 bnd (Gq p0 p1 p3) fun r1 =>
 if (w64 (r0*r1)) < 0 then (bnd (Gq p2 p3 p0) fun r2 =>
 bnd (Gq p2 p3 p1) fun r3 =>
 j5 (decide ((w64 (r2*r3)) < 0)))
 else (j5 false))))
 (fun j3=>bnd (Gz p0 p1 p2) fun r5 =>
 if r5=true then (j3 true)
 else (bnd (Gz p0 p1 p3) fun r4 =>
 if r4=true then (j3 true)
 else (bnd (Gz p2 p3 p0) fun r6 =>
 if r6=true then (j3 true)
 else (bnd (Gz p2 p3 p1) fun r7 =>
 j3 r7))))
noncomputable def Ha (p0:List Ab) (p1:Aa) (p2:Aa):Option Bool :=
 jn (fun (s3:Bool) =>
 if s3=true then (some false)
 else (bnd (idx p0 p1.a0) fun x0 =>
 bnd (idx p0 p1.a1) fun x1 =>
 bnd (idx p0 p2.a0) fun x2 =>
 bnd (idx p0 p2.a1) fun x3 =>
 bnd (Ez (⟨x0.X,x0.Y,(⟨x0.Z.Lo,x0.Z.Hi⟩:Al)⟩:Ab)) fun r0 =>
 bnd (Ez (⟨x1.X,x1.Y,(⟨x1.Z.Lo,x1.Z.Hi⟩:Al)⟩:Ab)) fun r1 =>
 bnd (Ez (⟨x2.X,x2.Y,(⟨x2.Z.Lo,x2.Z.Hi⟩:Al)⟩:Ab)) fun r2 =>
 bnd (Ez (⟨x3.X,x3.Y,(⟨x3.Z.Lo,x3.Z.Hi⟩:Al)⟩:Ab)) fun r3 =>
 bnd (Sh r0 r1 r2 r3) fun r4 =>
 some r4))
 (fun j3=>if p1.a0=p2.a0 then (j3 true)
 else (if p1.a0=p2.a1 then (j3 true)
 else (if p1.a1=p2.a0 then (j3 true)
 else (j3 (decide (p1.a1=p2.a1))))))
def Af (x:Aa):Value:=.agg #[.int .i64 (x.a0),.int .i64 (x.a1)]
theorem Az (x y:Aa) (h:Af x=Af y):x=y:=by
 rcases x with ⟨_,_⟩;rcases y with ⟨_,_⟩;simp [Af] at h;simp [h]
instance (x:Aa):UnfI Af x (.agg #[.int .i64 (x.a0),.int .i64 (x.a1)]):=⟨rfl⟩
instance (x0:Int) (x1:Int):Ys Af (.agg #[.int .i64 (x0),.int .i64 (x1)]) (⟨x0,x1⟩):=⟨rfl⟩
instance:ValI Tryz.prog 48 Af ((⟨0,0⟩:Aa)):=⟨Az,fun w=>by kernel_rfl⟩
theorem At2:(match Tryz.prog.underlying 48 with | some (.array _ _) | some (.struct _)=>true | _=>false)=true:=by kernel_rfl
set_option maxRecDepth 100000 in
theorem Ku:Maps.Keyed Tryz.prog 48:=Maps.Keyed.of_law (deep_law_laid Ahi (m:=3) (by omega) (of_decide_eq_true (by kernel_rfl)) (by kernel_rfl) At2)
theorem Oc (x:Aa) (h:(-9223372036854775808≤x.a0∧x.a0≤9223372036854775807)∧(-9223372036854775808≤x.a1∧x.a1≤9223372036854775807)):(keyOf Tryz.prog 48 (Af x)).isSome=true:=by
 refine Alu (zs:=[x.a0,x.a1]) (d:=340) (by kernel_rfl) Tryz.underlying48 (by kernel_rfl) rfl Tryz.underlying3 (by kernel_rfl) (by kernel_rfl) (fun z hz=>?_)
 simp only [List.mem_cons,List.not_mem_nil,or_false] at hz
 rcases hz with rfl | rfl
 ·exact Ae2 h.1
 ·exact Ae2 h.2
instance:KeyI Tryz.prog 48 Af (fun x=>(-9223372036854775808≤x.a0∧x.a0≤9223372036854775807)∧(-9223372036854775808≤x.a1∧x.a1≤9223372036854775807)):=⟨Ku,Az,Oc⟩
instance:UndI Tryz.prog 101 (.map 48 4):=⟨Tryz.underlying101⟩
instance:UndI Tryz.prog 23 (.slice 48):=⟨Tryz.underlying23⟩
def Ak (x:Aa):List Value:=[.int .i64 (x.a0),.int .i64 (x.a1)]
instance (x0:Int) (x1:Int):DecI Ak [.int .i64 (x0),.int .i64 (x1)] (⟨x0,x1⟩):=⟨rfl⟩
instance:EncI 48 Ak:=⟨trivial⟩
noncomputable def Iw (p1:List Aa) (p0:List Ab):((List (Aa × Bool)) × Int)→Option (Sum ((List (Aa × Bool)) × Int) (Sum Unit Int)):=fun s0 =>
 if s0.2 < ((((p1).length:Nat):Int)) then (bnd (idx p1 s0.2) fun x0 =>
 jn (fun (s1:Bool) =>
 if s1=true then (some (.inr (.inr (62))))
 else (bnd (Ff x0.a0 x0.a1) fun r0 =>
 gd ((-9223372036854775808≤r0.a0∧r0.a0≤9223372036854775807)∧(-9223372036854775808≤r0.a1∧r0.a1≤9223372036854775807)) <|
 gd ((s0.1).length < 9223372036854775807) <|
 some (.inl (mput s0.1 r0 true,w64 (s0.2+1)))))
 (fun j0=>if x0.a0 < 0 then (j0 true)
 else (if x0.a1 < 0 then (j0 true)
 else (if ((((p0).length:Nat):Int))≤x0.a0 then (j0 true)
 else (if ((((p0).length:Nat):Int))≤x0.a1 then (j0 true)
 else (if x0.a0=x0.a1 then (j0 true)
 else (bnd (Ff x0.a0 x0.a1) fun r1 =>
 gd ((-9223372036854775808≤r1.a0∧r1.a0≤9223372036854775807)∧(-9223372036854775808≤r1.a1∧r1.a1≤9223372036854775807)) <|
 bnd (some ((mget s0.1 r1).getD false)) fun x1 =>
 j0 x1)))))))
 else (some (.inr (.inl ())))
noncomputable def Eh (p0:List Ab) (x0:Aa):Int→Option (Sum Int (Sum Unit Int)):=fun s0 =>
 if s0 < ((((p0).length:Nat):Int)) then (bnd (idx p0 s0) fun x1 =>
 bnd (idx p0 x0.a0) fun x2 =>
 bnd (idx p0 x0.a1) fun x3 =>
 bnd (Ez (⟨x2.X,x2.Y,(⟨x2.Z.Lo,x2.Z.Hi⟩:Al)⟩:Ab)) fun r0 =>
 bnd (Ez (⟨x3.X,x3.Y,(⟨x3.Z.Lo,x3.Z.Hi⟩:Al)⟩:Ab)) fun r1 =>
 bnd (Ez (⟨x1.X,x1.Y,(⟨x1.Z.Lo,x1.Z.Hi⟩:Al)⟩:Ab)) fun r2 =>
 bnd (Gz r0 r1 r2) fun r3 =>
 if r3=true then (some (.inr (.inr (63))))
 else (some (.inl (w64 (s0+1)))))
 else (some (.inr (.inl ())))
noncomputable def Ga (s0:Int) (p0:List Ab) (x0:Aa):((List Aa) × Int)→Option (Sum ((List Aa) × Int) (Sum Unit Int)):=fun s1 =>
 if s1.2 < (((Int.toNat s0:Nat):Int)) then (bnd (idx s1.1 s1.2) fun x1 =>
 bnd (Ha p0 x1 x0) fun r0 =>
 if r0=true then (some (.inr (.inr (63))))
 else (some (.inl (s1.1,w64 (s1.2+1)))))
 else (some (.inr (.inl ())))
noncomputable def Hq (p1:List Aa) (p0:List Ab):Int→Option (Sum Int (Sum Unit Int)):=fun s0 =>
 if s0 < ((((p1).length:Nat):Int)) then (jn (fun (s1:Unit) =>
 some (.inl (w64 (s0+1))))
 (fun j0=>bnd (idx p1 s0) fun x0 =>
 jn (fun (s2:Unit) =>
 gd (0≤s0∧s0≤(((p1).length:Nat):Int)) <|
 bnd (lfix (Ga s0 p0 x0) (subl p1 0 s0,0)) fun t0 =>
 (match t0 with
 | (.inl z0)=>j0 z0
 | (.inr (z0))=>some (.inr (.inr (z0)))
 ))
 (fun j1=>bnd (lfix (Eh p0 x0) 0) fun t1 =>
 (match t1 with
 | (.inl z1)=>j1 z1
 | (.inr (z1))=>some (.inr (.inr (z1)))
 ))))
 else (some (.inr (.inl ())))
noncomputable def Jd (p0:List Ab) (p1:List Aa):Option Int :=
 jn (fun (s3:Unit) =>
 jn (fun (s0:Unit) =>
 some 0)
 (fun j0=>bnd (lfix (Hq p1 p0) 0) fun t0 =>
 (match t0 with
 | (.inl z0)=>j0 z0
 | (.inr (z0))=>some z0
 )))
 (fun j3=>bnd (lfix (Iw p1 p0) (([]:List (Aa × Bool)),0)) fun t1 =>
 (match t1 with
 | (.inl z1)=>j3 z1
 | (.inr (z1))=>some z1
 ))
noncomputable def Ly (p0:Int):Option Bool :=
 some (!(decide (p0=p0)))
noncomputable def Jz (p0:Int) (p1:Int):Option Int :=
 bnd (Ly p0) fun r1 =>
 bnd (Ly p1) fun r4 =>
 if r1=true then (if r4=true then (some 0)
 else (some (-1)))
 else (if r4=true then (some 1)
 else (if p0 < p1 then (some (-1))
 else (if p1 < p0 then (some 1)
 else (some 0))))
instance:UndI Tryz.prog 59 (.slice 3):=⟨Tryz.underlying59⟩
noncomputable def Br (p0:List Int) (p1:List Int):Int→Option (Sum Int (Sum Unit Int)):=fun s0 =>
 if s0 < ((((p0).length:Nat):Int)) then (bnd (idx p0 s0) fun x0 =>
 if ((((p1).length:Nat):Int))≤s0 then (some (.inr (.inr (1))))
 else (bnd (idx p1 s0) fun x1 =>
 bnd (Jz x0 x1) fun r0 =>
 if r0=0 then (some (.inl (w64 (s0+1))))
 else (some (.inr (.inr (r0))))))
 else (some (.inr (.inl ())))
noncomputable def Gf (p0:List Int) (p1:List Int):Option Int :=
 jn (fun (s2:Unit) =>
 if ((((p0).length:Nat):Int)) < ((((p1).length:Nat):Int)) then (some (-1))
 else (some 0))
 (fun j2=>bnd (lfix (Br p0 p1) 0) fun t0 =>
 (match t0 with
 | (.inl z0)=>j2 z0
 | (.inr (z0))=>some z0
 ))
def Dm (x:Int):List Value:=[.int .i64 (x)]
instance (x0:Int):DecI Dm [.int .i64 (x0)] (x0):=⟨rfl⟩
instance:EncI 3 Dm:=⟨trivial⟩
structure Ai where
 a0:Int
 a1:Int
 a2:Int
noncomputable def Ew (p0:Ai) (p1:Ai):Option Int :=
 bnd (Gf ([p0.a0,p0.a1,p0.a2]) ([p1.a0,p1.a1,p1.a2])) fun r5 =>
 some r5
noncomputable def Pv (p0:Int) (p1:Int) (p2:List Ab):Option Int :=
 bnd (idx p2 p0) fun x1 =>
 bnd (idx p2 p1) fun x0 =>
 bnd (Ez (⟨x1.X,x1.Y,(⟨x1.Z.Lo,x1.Z.Hi⟩:Al)⟩:Ab)) fun r0 =>
 bnd (Ez (⟨x0.X,x0.Y,(⟨x0.Z.Lo,x0.Z.Hi⟩:Al)⟩:Ab)) fun r1 =>
 bnd (Ej r0 r1) fun r2 =>
 if r2=true then (some (-1))
 else (bnd (idx p2 p1) fun x2 =>
 bnd (idx p2 p0) fun x3 =>
 bnd (Ez (⟨x2.X,x2.Y,(⟨x2.Z.Lo,x2.Z.Hi⟩:Al)⟩:Ab)) fun r3 =>
 bnd (Ez (⟨x3.X,x3.Y,(⟨x3.Z.Lo,x3.Z.Hi⟩:Al)⟩:Ab)) fun r4 =>
 bnd (Ej r3 r4) fun r5 =>
 if r5=true then (some 1)
 else (some 0))
def Cf (x:Ai):List Value:=[.int .i64 (x.a0),.int .i64 (x.a1),.int .i64 (x.a2)]
instance (x0:Int) (x1:Int) (x2:Int):DecI Cf [.int .i64 (x0),.int .i64 (x1),.int .i64 (x2)] (⟨x0,x1,x2⟩):=⟨rfl⟩
instance:EncI 35 Cf:=⟨trivial⟩
set_option maxHeartbeats 1000000 in
set_option maxRecDepth 100000 in
instance Abd (p0:List Ab):Con (Kw p0) Tryz.prog 53 (fun K vs=>∃ (A0_0:Option Addr) (c0_0:Nat),vs=[.slice (A0_0) ((p0).length) (c0_0)]∧Has K A0_0 (p0).length c0_0 4 Ah (p0)∧True) (fun _ r=>fun v Ln=>v = .int .i64 (r)∧Ln=[]∧True):=⟨by
 rintro K _ r ⟨A0_0,c0_0,rfl,ha0,-⟩ hx w hK;replace ha0:=Has.lo ha0 hK;unfold Kw at hx;refine CtS Tryz.ntmps53 Tryz.results53 ?_;refine pre ?_;intros;rename_i hx
 refine Cq1 (s:=10) hx rfl (fun _ hx=>?_) (fun _ hx=>?_)
 ·exact au
 ·refine pre ?_;intros;rename_i hx
  apply Jr (γ:=Unit) hx [0] (fun s5 y5 f=>f) [999] (fun s5 y5 l=>l);exact kk
  ·intro s5 y5 hx;refine pre ?_;intros;rename_i hx
   refine Ka ?_;refine pre ?_;intros;rename_i hx
   apply Jr (γ:=Unit) hx [] (fun s0 y0 f=>f) [999] (fun s0 y0 l=>l);exact kk
   ·intro s0 y0 hx;exact au
   ·intro _ hx;refine pre ?_;intros;rename_i hx
    apply Lr (γ:=(Nat)) hx [22,23] (fun s1 y1 f=>(5,.map (some y1))::(24,.int .i64 (s1.2))::f) [999] (fun s1 y1 l=>Aq Tryz.prog 38 Ml Ay y1 (s1.1)::l) _;exact kk;exact sk;intro s1 y1 x0 hx _;unfold Lg at hx
    exact au
  ·intro _ hx;refine pre ?_;intros;rename_i hx
   apply Lr (γ:=Unit) hx [0,11,12] (fun s2 y2 f=>(13,.int .i64 (s2))::f) [999] (fun s2 y2 l=>l) ();exact kk;exact sk;intro s2 y2 x1 hx _;unfold Il at hx
   exact au⟩
theorem Aad (p0:List Ab) {K:List Ent} {A0_0:Option Addr} {c0_0:Nat} (ha0:Has K A0_0 (p0).length c0_0 4 Ah (p0)) {r:Int} (hx:Kw p0=some r) (w:World) (hK:∀ e∈K,Ent.ok w e):CtL Tryz.prog 53 [.slice (A0_0) ((p0).length) (c0_0)] w fun v Ln=>v = .int .i64 (r)∧Ln=[]∧True:=(Abd p0).h K _ _ ⟨_,_,rfl,ha0,trivial⟩ hx w hK
set_option maxHeartbeats 1000000 in
set_option maxRecDepth 100000 in
instance Adi (p0:Ac) (p1:Ac) (p2:Ac):Con (Gz p0 p1 p2) Tryz.prog 112 (fun _ vs=>vs=[.agg #[.int .i64 (p0.X),.int .i64 (p0.Y)],.agg #[.int .i64 (p1.X),.int .i64 (p1.Y)],.agg #[.int .i64 (p2.X),.int .i64 (p2.Y)]]) (fun _ r=>fun v Ln=>v = .bool (r)∧Ln=[]∧True):=⟨by
 rintro _ _ r rfl hx w hK;unfold Gz at hx;have:=dl 1 [1,1,1,2,0,0,1,1,0,0,0,1,1,0,0,0,1,1,2,1,1,2,0,0,2] [0,1,2,3,4,5,6,7,8,9,10,11,12,13,14,15,16,17,19,20,18,21,22,23,24];refine CtS Tryz.ntmps112 Tryz.results112 ?_;exact au⟩
theorem Abe (p0:Ac) (p1:Ac) (p2:Ac)  {r:Bool} (hx:Gz p0 p1 p2=some r) (w:World):CtL Tryz.prog 112 [.agg #[.int .i64 (p0.X),.int .i64 (p0.Y)],.agg #[.int .i64 (p1.X),.int .i64 (p1.Y)],.agg #[.int .i64 (p2.X),.int .i64 (p2.Y)]] w fun v Ln=>v = .bool (r)∧Ln=[]∧True:=(Adi p0 p1 p2).h [] _ _ rfl hx w (fun _ h=>absurd h List.not_mem_nil)
set_option maxHeartbeats 1000000 in
set_option maxRecDepth 100000 in
instance mesh_meet_c (p0:Ac) (p1:Ac) (p2:Ac) (p3:Ac):Con (Sh p0 p1 p2 p3) Tryz.prog 179 (fun _ vs=>vs=[.agg #[.int .i64 (p0.X),.int .i64 (p0.Y)],.agg #[.int .i64 (p1.X),.int .i64 (p1.Y)],.agg #[.int .i64 (p2.X),.int .i64 (p2.Y)],.agg #[.int .i64 (p3.X),.int .i64 (p3.Y)]]) (fun _ r=>fun v Ln=>v = .bool (r)∧Ln=[]∧True):=⟨by
 rintro _ _ r rfl hx w hK;unfold Sh at hx;have:=dl 3 [1,1,1,2,1,1,1,2,0,0,0,1,1,1,2,1,1,1,2,0,0,0,2] [0,1,2,4,5,6,3,7,8,9,10,11,12,13,15,16,17,14,18,19,20,21,22];refine CtS Tryz.ntmps179 Tryz.results179 ?_;refine pre ?_;intros;rename_i hx
 refine Ka ?_;refine pre ?_;intros;rename_i hx
 refine Ka ?_;refine pre ?_;intros;rename_i hx
 apply Jr (γ:=Unit) hx [4,5,6,7] (fun s3 y3 f=>(30,.bool (s3))::f) [0,1,2,3,999] (fun s3 y3 l=>l);exact kk
 ·intro s3 y3 hx;exact au
 ·intro _ hx;exact au⟩
set_option maxHeartbeats 1000000 in
set_option maxRecDepth 100000 in
instance Abf (p0:List Ab) (p1:Aa) (p2:Aa):Con (Ha p0 p1 p2) Tryz.prog 113 (fun K vs=>∃ (A0_0:Option Addr) (c0_0:Nat),vs=[.slice (A0_0) ((p0).length) (c0_0),.agg #[.int .i64 (p1.a0),.int .i64 (p1.a1)],.agg #[.int .i64 (p2.a0),.int .i64 (p2.a1)]]∧Has K A0_0 (p0).length c0_0 4 Ah (p0)∧True) (fun _ r=>fun v Ln=>v = .bool (r)∧Ln=[]∧True):=⟨by
 rintro K _ r ⟨A0_0,c0_0,rfl,ha0,-⟩ hx w hK;replace ha0:=Has.lo ha0 hK;unfold Ha at hx;have:=dl 3 [0,0,1,0,1,2,0,0,1,0,1,2,0,0,1,0,1,2,0,0,1,0,1,2,2,2] [0,1,2,3,4,6,7,8,9,10,12,13,14,15,16,18,19,20,21,22,5,11,17,23,24,25];refine CtS Tryz.ntmps113 Tryz.results113 ?_;refine pre ?_;intros;rename_i hx
 refine Ka ?_;refine pre ?_;intros;rename_i hx
 refine Ka ?_;refine pre ?_;intros;rename_i hx
 apply Jr (γ:=Unit) hx [0,4,5] (fun s3 y3 f=>(32,.bool (s3))::f) [0,1,999] (fun s3 y3 l=>l);exact kk
 ·intro s3 y3 hx;exact au
 ·intro _ hx;exact au⟩
theorem Ou (p0:List Ab) (p1:Aa) (p2:Aa) {K:List Ent} {A0_0:Option Addr} {c0_0:Nat} (ha0:Has K A0_0 (p0).length c0_0 4 Ah (p0)) {r:Bool} (hx:Ha p0 p1 p2=some r) (w:World) (hK:∀ e∈K,Ent.ok w e):CtL Tryz.prog 113 [.slice (A0_0) ((p0).length) (c0_0),.agg #[.int .i64 (p1.a0),.int .i64 (p1.a1)],.agg #[.int .i64 (p2.a0),.int .i64 (p2.a1)]] w fun v Ln=>v = .bool (r)∧Ln=[]∧True:=(Abf p0 p1 p2).h K _ _ ⟨_,_,rfl,ha0,trivial⟩ hx w hK
set_option maxRecDepth 100000 in
theorem Qq (p0:List Ab) (p1:List Aa) {K:List Ent} {A0_0:Option Addr} {c0_0:Nat} {A0_1:Option Addr} {c0_1:Nat} (ha0:Has K A0_0 p0.length c0_0 4 Ah (p0)) (ha1:Has K A0_1 p1.length c0_1 2 Ak (p1)) {r:Int} (hx:Jd p0 p1=some r) (w:World) (hK:∀ e∈K,Ent.ok w e):CtL Tryz.prog 54 [.slice (A0_0) (p0.length) (c0_0),.slice (A0_1) (p1.length) (c0_1)] w fun v Ln=>v = .int .i64 (r)∧Ln=[]∧True:=by
 have ha0':=Has.up0 ha0;have ha1':=Has.up0 ha1;refine CtL.mk 109 Tryz.func54 rfl Tryz.ntmps54 (by kernel_rfl) rfl ?_;show T 109 _ [(0,.slice (A0_0) (p0.length) (c0_0)),(1,.slice (A0_1) (p1.length) (c0_1))] _;unfold Jd at hx;refine Y7 ?_;refine T_x (Rd Tryz.prog 48 Af Ay rfl (fun g1=>?_));refine Y3 ?_;refine Tj (γ:=Unit) hx (fun s3 y3=>[(0,.slice (A0_0) (p0.length) (c0_0)),(1,.slice (A0_1) (p1.length) (c0_1))]) (fun s3 y3=>[]++[.old w]) (fun s3 y3=>True) (fun s3 y3 hx0 hG0=>?_) (fun j3 hx=>?_)
 ·refine Tj (γ:=Unit) hx0 (fun s0 y0=>[]) (fun s0 y0=>[]++[.old w]) (fun s0 y0=>True) (fun s0 y0 hx1 hG1=>?_) (fun j0 hx0=>?_)
  ·refine Y6 ?_;obtain rfl:=Option.some.inj hx1;exact Di (rs:=[.tmp 4]) Tryz.results54 (.tmp rfl (.nil)) (Ln:=[]) ⟨rfl,rfl,trivial⟩ (Ec) (by exact .refl)
  ·refine Y3 ?_;refine Ao (Dj rfl 48 Tryz.underlying23) rfl ?_;refine Y4 ?_;obtain ⟨t0,hl0,ho0⟩:=Ag hx0;refine Lp (σ:=Int) (γ:=Unit) hl0 (fun s1 y1=>[(0,.slice (A0_0) (p0.length) (c0_0)),(1,.slice (A0_1) (p1.length) (c0_1)),(66,.slice (A0_1) (p1.length) (c0_1)),(67,.int .i64 (((p1.length:Nat):Int))),(68,.int .i64 (s1))]) (fun s1 y1=>[]++[.old w]) (fun s1 y1=>True) () trivial (by exact .refl) ?_;intro s1 y1 hG2 x0 hx2 ht0;unfold Hq at hx2;refine Y6 ?_;refine Ti hx2 (s:=69) rfl (fun h0 hx3=>?_) (fun h0 hx4=>?_)
   ·refine Y3 ?_;refine Tj (γ:=Unit) hx3 (fun s2 y2=>[(0,.slice (A0_0) (p0.length) (c0_0)),(1,.slice (A0_1) (p1.length) (c0_1)),(66,.slice (A0_1) (p1.length) (c0_1)),(67,.int .i64 (((p1.length:Nat):Int))),(68,.int .i64 (s1))]) (fun s2 y2=>[]++[.old w]) (fun s2 y2=>True) (fun s2 y2 hx5 hG3=>?_) (fun j1 hx3=>?_)
    ·refine Y4 ?_;exact Rp (w64 (s1+1)) () hx5 trivial (by exact .refl)
    ·refine Y4 ?_;obtain ⟨x1,h1,hx6⟩:=Ag hx3;have hw0:=Has.low (E:=[]) ha1' hK;obtain ⟨b0,o0,j2,hA0,hj0,hl1,hp0⟩:=Has.at_idx hw0 h1;refine Ao (Bc rfl rfl hA0 (j:=j2) hj0 hl1 Iv) rfl ?_;refine Ao (Fe rfl hp0 (sb 0) rfl Fo) rfl ?_;refine T_x (Eb Qw rfl (fun g0=>?_));refine Y ?_;refine T_h (Cj rfl rfl rfl (.here) (.put (.put (.done))) rfl (List.cons_ne_nil _ _) Fo.2 ?_);refine Y2 ?_;refine Tj (γ:=Unit) hx6 (fun s4 y4=>[(0,.slice (A0_0) (p0.length) (c0_0)),(1,.slice (A0_1) (p1.length) (c0_1)),(8,.int .i64 (s1)),(9,.pointer (some ⟨g0,0,none⟩)),(66,.slice (A0_1) (p1.length) (c0_1)),(67,.int .i64 (((p1.length:Nat):Int))),(68,.int .i64 (s1))]) (fun s4 y4=>[.m g0 48 [.int .i64 (x1.a0),.int .i64 (x1.a1)]]++[.old w]) (fun s4 y4=>True) (fun s4 y4 hx7 hG4=>?_) (fun j4 hx6=>?_)
     ·refine Y4 ?_;obtain ⟨h2,hx8⟩:=Bp hx7;have hs0:=Has.subH ha1' h2.1 h2.2;refine Ao (Yq rfl rfl Iv h2.1 (by have:=Has.nc ha1';omega)) rfl ?_;refine Ao (Dj rfl 48 Tryz.underlying23) rfl ?_;refine Y4 ?_;obtain ⟨t1,hl2,ho1⟩:=Ag hx8;refine Jv (s:=97) (v':=.slice (A0_1) ((subl p1 0 s1).length) (c0_1)) rfl (by have hn0:(Int.toNat s1)=(subl p1 0 s1).length:=(Has.len hs0).symm;first | (rw [← hn0];done) | rfl) ?_;refine Lp (σ:=(List Aa) × Int) (γ:=(Option Addr) × Nat) hl2 (fun s5 y5=>[(0,.slice (A0_0) (p0.length) (c0_0)),(1,.slice (A0_1) (p1.length) (c0_1)),(9,.pointer (some ⟨g0,0,none⟩)),(66,.slice (A0_1) (p1.length) (c0_1)),(67,.int .i64 (((p1.length:Nat):Int))),(68,.int .i64 (s1)),(97,.slice (y5.1) (s5.1.length) (y5.2)),(98,.int .i64 (((Int.toNat s1:Nat):Int))),(99,.int .i64 (s5.2))]) (fun s5 y5=>[.m g0 48 [.int .i64 (x1.a0),.int .i64 (x1.a1)]]++[.old w]) (fun s5 y5=>Has (K++[]) (y5.1) (s5.1.length) (y5.2) 2 Ak (s5.1)∧True) (A0_1,c0_1) ((by exact ⟨Has.len' hs0,trivial⟩)) (by exact .pick 0 rfl (.refl)) ?_;intro s5 y5 hG5 x2 hx9 ht1;unfold Ga at hx9;obtain ⟨hs1,-⟩:=hG5;refine Y6 ?_;refine Ti hx9 (s:=100) rfl (fun h3 hx10=>?_) (fun h3 hx11=>?_)
      ·refine Y7 ?_;obtain ⟨x3,h4,hx12⟩:=Ag hx10;have hw2:=Has.low (E:=[]) hs1 hK;obtain ⟨b1,o1,j5,hA1,hj1,hl3,hp1⟩:=Has.at_idx hw2 h4;refine Ao (Bc rfl rfl hA1 (j:=j5) hj1 hl3 Iv) rfl ?_;refine Ao (Fe rfl hp1 (sb 1) rfl Fo) rfl ?_;refine T_x (Eb Qw rfl (fun g2=>?_));refine T_h (Cj rfl rfl rfl (.here) (.put (.put (.done))) rfl (List.cons_ne_nil _ _) Fo.2 ?_);refine Y5 ?_;refine Ao (Ba rfl (i:=0) rfl rfl Fo) rfl ?_;refine Ao (Ba rfl (i:=1) rfl rfl Fo) rfl ?_;obtain ⟨r0,h5,hx13⟩:=Ag hx12;refine Tc (fun w1 hw1=>Ou p0 x3 x1 (Has.len' ha0') h5 w1 (Tp (K:=K) (K2:=[]) hK (by exact (sb 2)) (by exact (SubE.nil)) hw1)) ?_;refine Y2 ?_;refine Do (s:=106) rfl (fun h6=>?_) (fun h6=>?_)
       ·have hx14:=Df h6 hx13;refine Y9 ?_;obtain rfl:=Ck ht1 hx14;refine Y4 ?_;obtain rfl:=Ck ht0 ho1;refine Y3 ?_;obtain rfl:=Option.some.inj ho0;exact Di (rs:=[.tmp 4]) Tryz.results54 (.tmp rfl (.nil)) (Ln:=[]) ⟨rfl,rfl,trivial⟩ (Ec) (by exact .drop 0 rfl (.drop 0 rfl (.refl)))
       ·have hx15:=Dw h6 hx13;refine Y8 ?_;exact Rp (s5.1,w64 (s5.2+1)) (y5.1,y5.2) hx15 ((by exact ⟨Has.len' hs1,trivial⟩)) (by exact .pick 1 rfl (.drop 0 rfl (.refl)))
      ·refine Y3 ?_;obtain rfl:=Ck ht1 hx11;refine Y3 ?_;exact Mt () () ho1 trivial (by exact .drop 0 rfl (.refl))
     ·refine Y3 ?_;refine Ao (Dj rfl 43 Tryz.underlying22) rfl ?_;refine Y4 ?_;obtain ⟨t2,hl4,ho2⟩:=Ag hx6;refine Lp (σ:=Int) (γ:=Unit) hl4 (fun s6 y6=>[(0,.slice (A0_0) (p0.length) (c0_0)),(1,.slice (A0_1) (p1.length) (c0_1)),(8,.int .i64 (s1)),(9,.pointer (some ⟨g0,0,none⟩)),(66,.slice (A0_1) (p1.length) (c0_1)),(67,.int .i64 (((p1.length:Nat):Int))),(68,.int .i64 (s1)),(73,.slice (A0_0) (p0.length) (c0_0)),(74,.int .i64 (((p0.length:Nat):Int))),(75,.int .i64 (s6))]) (fun s6 y6=>[.m g0 48 [.int .i64 (x1.a0),.int .i64 (x1.a1)]]++[.old w]) (fun s6 y6=>True) () trivial (by exact .pick 0 rfl (.refl)) ?_;intro s6 y6 hG6 x4 hx16 ht2;unfold Eh at hx16;refine Y6 ?_;refine Ti hx16 (s:=76) rfl (fun h7 hx17=>?_) (fun h7 hx18=>?_)
      ·refine Y7 ?_;obtain ⟨x5,h8,hx19⟩:=Ag hx17;have hw3:=Has.low (E:=[]) ha0' hK;obtain ⟨b2,o2,j6,hA2,hj2,hl5,hp2⟩:=Has.at_idx hw3 h8;refine Ao (Bc rfl rfl hA2 (j:=j6) hj2 hl5 Pq) rfl ?_;refine Ao (Fe rfl hp2 (sb 1) rfl Oe) rfl ?_;refine T_x (Eb Asq rfl (fun g3=>?_));refine T_h (Cj rfl rfl rfl (.here) (.put (.put (.put (.put (.done))))) rfl (List.cons_ne_nil _ _) Oe.2 ?_);refine Y3 ?_;refine T_dr [0,0,1,0,1,2,0,0,1,0,1,2,1,2,2] (.q 0 (.q 1 (.q 2 (.q 3 (.q 4 (.q 6 (.q 7 (.q 8 (.q 9 (.q 10 (.q 12 (.e 5 (.e 11 (.e 13 (.e 14 (.done) (.stop)) (.stop)) (.stop)) (.stop))))))))))))) mixed (by kernel_rfl) (by kernel_rfl) ?_;refine Y ?_;refine P_p rfl rfl (Ar rfl rfl Cd (by decide) (by decide) rfl) rfl ?_;refine P_q rfl rfl (Au rfl (i:=1) rfl rfl one3) rfl ?_;obtain ⟨x6,h9,hx20⟩:=Ag hx19;refine P_il (Has.low (E:=[]) ha0' hK) h9 Pq Oe (sb 2) (fun b3 o3=>?_);refine Y ?_;refine P_p rfl rfl (Ar rfl rfl Cd (by decide) (by decide) rfl) rfl ?_;refine P_q rfl rfl (Au rfl (i:=1) rfl rfl one3) rfl ?_;obtain ⟨x7,h10,hx21⟩:=Ag hx20;refine P_il (Has.low (E:=[]) ha0' hK) h10 Pq Oe (sb 2) (fun b4 o4=>?_);refine P_q rfl rfl (Ba rfl (i:=0) rfl rfl Oe) rfl ?_;obtain ⟨r1,h11,hx22⟩:=Ag hx21;refine Pc (fun w1 hw1=>Lj (⟨x6.X,x6.Y,(⟨x6.Z.Lo,x6.Z.Hi⟩:Al)⟩:Ab)  h11 w1) ?_
       obtain ⟨r2,h12,hx23⟩:=Ag hx22;refine Pc (fun w1 hw1=>Lj (⟨x7.X,x7.Y,(⟨x7.Z.Lo,x7.Z.Hi⟩:Al)⟩:Ab)  h12 w1) ?_;obtain ⟨r3,h13,hx24⟩:=Ag hx23;refine Pc (fun w1 hw1=>Lj (⟨x5.X,x5.Y,(⟨x5.Z.Lo,x5.Z.Hi⟩:Al)⟩:Ab)  h13 w1) ?_;obtain ⟨r4,h14,hx25⟩:=Ag hx24;refine Pc (fun w1 hw1=>Abe r1 r2 r3  h14 w1) ?_;refine Y2 ?_;refine Do (s:=93) rfl (fun h15=>?_) (fun h15=>?_)
       ·have hx26:=Df h15 hx25;refine Y9 ?_;obtain rfl:=Ck ht2 hx26;refine Y5 ?_;obtain rfl:=Ck ht0 ho2;refine Y3 ?_;obtain rfl:=Option.some.inj ho0;exact Di (rs:=[.tmp 4]) Tryz.results54 (.tmp rfl (.nil)) (Ln:=[]) ⟨rfl,rfl,trivial⟩ (Ec) (by exact .drop 0 rfl (.drop 0 rfl (.refl)))
       ·have hx27:=Dw h15 hx25;refine Y8 ?_;exact Rp (w64 (s6+1)) () hx27 trivial (by exact .pick 1 rfl (.drop 0 rfl (.refl)))
      ·refine Y3 ?_;obtain rfl:=Ck ht2 hx18;refine Y2 ?_;exact Mt () () ho2 trivial (by exact .pick 0 rfl (.refl))
   ·refine Y3 ?_;obtain rfl:=Ck ht0 hx4;refine Y2 ?_;exact Mt () () ho0 trivial (by exact .refl)
 ·refine Y3 ?_;refine Ao (Dj rfl 48 Tryz.underlying23) rfl ?_;refine Y4 ?_;obtain ⟨t3,hl6,ho3⟩:=Ag hx;refine Lp (σ:=(List (Aa × Bool)) × Int) (γ:=Unit) hl6 (fun s7 y7=>[(0,.slice (A0_0) (p0.length) (c0_0)),(1,.slice (A0_1) (p1.length) (c0_1)),(5,.map (some g1)),(15,.slice (A0_1) (p1.length) (c0_1)),(16,.int .i64 (((p1.length:Nat):Int))),(17,.int .i64 (s7.2))]) (fun s7 y7=>[Aq Tryz.prog 48 Af Ay g1 (s7.1)]++[.old w]) (fun s7 y7=>True) () trivial (by exact .pick 0 rfl (.refl)) ?_;intro s7 y7 hG7 x8 hx53 ht3;unfold Iw at hx53;refine Y6 ?_;refine Ti hx53 (s:=18) rfl (fun h54 hx55=>?_) (fun h54 hx56=>?_)
  ·refine Y7 ?_;obtain ⟨x9,h58,hx59⟩:=Ag hx55;have hw4:=Has.low (E:=[]) ha1' hK;obtain ⟨b5,o5,j7,hA3,hj3,hl7,hp3⟩:=Has.at_idx hw4 h58;refine Ao (Bc rfl rfl hA3 (j:=j7) hj3 hl7 Iv) rfl ?_;refine Ao (Fe rfl hp3 (sb 1) rfl Fo) rfl ?_;refine T_x (Eb Qw rfl (fun g4=>?_));refine T_h (Cj rfl rfl rfl (.here) (.put (.put (.done))) rfl (List.cons_ne_nil _ _) Fo.2 ?_);refine Y3 ?_;refine Tj (γ:=Unit) hx59 (fun s8 y8=>[(0,.slice (A0_0) (p0.length) (c0_0)),(1,.slice (A0_1) (p1.length) (c0_1)),(5,.map (some g1)),(7,.pointer (some ⟨g4,0,none⟩)),(15,.slice (A0_1) (p1.length) (c0_1)),(16,.int .i64 (((p1.length:Nat):Int))),(17,.int .i64 (s7.2)),(58,.bool (s8))]) (fun s8 y8=>[.m g4 48 [.int .i64 (x9.a0),.int .i64 (x9.a1)],Aq Tryz.prog 48 Af Ay g1 (s7.1)]++[.old w]) (fun s8 y8=>True) (fun s8 y8 hx92 hG8=>?_) (fun j8 hx59=>?_)
   ·refine Do (s:=58) rfl (fun h94=>?_) (fun h94=>?_)
    ·have hx95:=Df h94 hx92;refine Y10 ?_;obtain rfl:=Ck ht3 hx95;refine Y3 ?_;obtain rfl:=Option.some.inj ho3;exact Di (rs:=[.tmp 4]) Tryz.results54 (.tmp rfl (.nil)) (Ln:=[]) ⟨rfl,rfl,trivial⟩ (Ec) (by exact .drop 0 rfl (.drop 0 rfl (.refl)))
    ·have hx96:=Dw h94 hx92;refine Y5 ?_;refine Ao (Ar rfl rfl Cd (by decide) (by decide) rfl) rfl ?_;refine Ao (Au rfl (i:=0) rfl rfl one3) rfl ?_;refine Ao (Ar rfl rfl Cd (by decide) (by decide) rfl) rfl ?_;refine Ao (Au rfl (i:=0) rfl rfl one3) rfl ?_;obtain ⟨r5,h98,hx99⟩:=Ag hx96;refine Tc (fun w1 hw1=>Ht x9.a0 x9.a1  h98 w1) ?_;obtain ⟨h16,hx28⟩:=Bp hx99;obtain ⟨h17,hx29⟩:=Bp hx28;refine T_h (Oo (x:=r5) (y:=true) Ku Az Tryz.underlying101 rfl rfl rfl rfl rfl (.there (.here)) (Oc r5 h16) h17 ?_);refine Y7 ?_;exact Rp (mput s7.1 r5 true,w64 (s7.2+1)) () hx29 trivial (by exact .pick 1 rfl (.drop 0 rfl (.refl)))
   ·refine Y ?_;refine Ao (Ar rfl rfl Cd (by decide) (by decide) rfl) rfl ?_;refine Ao (Au rfl (i:=0) rfl rfl one3) rfl ?_;refine Y2 ?_;refine Ti hx59 (s:=24) rfl (fun h69 hx70=>?_) (fun h69 hx71=>?_)
    ·(iterate 35 refine Y ?_);exact Mt true () hx70 trivial (by exact .pick 0 rfl (.pick 0 rfl (.refl)))
    ·refine Ex rfl rfl rfl (Ar rfl rfl Cd (by decide) (by decide) rfl) rfl ?_;refine Ex rfl rfl rfl (Au rfl (i:=0) rfl rfl one3) rfl ?_;refine Y3 ?_;refine Ti hx71 (s:=29) rfl (fun h72 hx73=>?_) (fun h72 hx74=>?_)
     ·(iterate 30 refine Y ?_);exact Mt true () hx73 trivial (by exact .pick 0 rfl (.pick 0 rfl (.refl)))
     ·refine Ex rfl rfl rfl (Ar rfl rfl Cd (by decide) (by decide) rfl) rfl ?_;refine Ex rfl rfl rfl (Au rfl (i:=0) rfl rfl one3) rfl ?_;refine Y ?_;refine Ex rfl rfl rfl (Dj rfl 43 Tryz.underlying22) rfl ?_;refine Y3 ?_;refine Ti hx74 (s:=36) rfl (fun h75 hx76=>?_) (fun h75 hx77=>?_)
      ·(iterate 23 refine Y ?_);exact Mt true () hx76 trivial (by exact .pick 0 rfl (.pick 0 rfl (.refl)))
      ·refine Ex rfl rfl rfl (Ar rfl rfl Cd (by decide) (by decide) rfl) rfl ?_;refine Ex rfl rfl rfl (Au rfl (i:=0) rfl rfl one3) rfl ?_;refine Y ?_;refine Ex rfl rfl rfl (Dj rfl 43 Tryz.underlying22) rfl ?_;refine Y3 ?_;refine Ti hx77 (s:=43) rfl (fun h78 hx79=>?_) (fun h78 hx80=>?_)
       ·(iterate 16 refine Y ?_);exact Mt true () hx79 trivial (by exact .pick 0 rfl (.pick 0 rfl (.refl)))
       ·refine Ex rfl rfl rfl (Ar rfl rfl Cd (by decide) (by decide) rfl) rfl ?_;refine Ex rfl rfl rfl (Au rfl (i:=0) rfl rfl one3) rfl ?_;refine Ex rfl rfl rfl (Ar rfl rfl Cd (by decide) (by decide) rfl) rfl ?_;refine Ex rfl rfl rfl (Au rfl (i:=0) rfl rfl one3) rfl ?_;refine Y3 ?_;refine Ti hx80 (s:=50) rfl (fun h81 hx82=>?_) (fun h81 hx83=>?_)
        ·refine Y9 ?_;exact Mt true () hx82 trivial (by exact .pick 0 rfl (.pick 0 rfl (.refl)))
        ·refine Y ?_;refine Ex rfl rfl rfl (Ar rfl rfl Cd (by decide) (by decide) rfl) rfl ?_;refine Ex rfl rfl rfl (Au rfl (i:=0) rfl rfl one3) rfl ?_;refine Ex rfl rfl rfl (Ar rfl rfl Cd (by decide) (by decide) rfl) rfl ?_;refine Ex rfl rfl rfl (Au rfl (i:=0) rfl rfl one3) rfl ?_;obtain ⟨r6,h85,hx86⟩:=Ag hx83;refine T_xG rfl rfl rfl (Bt rfl (fun w1 hw1=>Ht x9.a0 x9.a1  h85 w1) rfl ?_);rintro _ _ hlo ⟨rfl,rfl,-⟩;refine Eu ?_;obtain ⟨h87,hx88⟩:=Bp hx86;obtain ⟨x89,h90,hx91⟩:=Ag hx88;refine Ex rfl rfl rfl (Ux (x:=r6) (i:=1) (vv:=.bool (x89)) Ku Tryz.underlying101 (fun w=>by kernel_rfl) Az rfl rfl rfl rfl Gd (Oc r6 h87) h90 rfl) rfl ?_;refine Y2 ?_;exact Mt x89 () hx91 trivial (by exact .pick 0 rfl (.pick 0 rfl (.refl)))
  ·refine Y3 ?_;obtain rfl:=Ck ht3 hx56;refine Y2 ?_;exact Mt () () ho3 trivial (by exact .drop 0 rfl (.refl))
set_option maxHeartbeats 1000000 in
set_option maxRecDepth 100000 in
instance mesh_lineErrors_c (p0:List Ab) (p1:List Aa):Con (Jd p0 p1) Tryz.prog 54 (fun K vs=>∃ (A0_0:Option Addr) (c0_0:Nat) (A0_1:Option Addr) (c0_1:Nat),vs=[.slice (A0_0) ((p0).length) (c0_0),.slice (A0_1) ((p1).length) (c0_1)]∧Has K A0_0 (p0).length c0_0 4 Ah (p0)∧Has K A0_1 (p1).length c0_1 2 Ak (p1)∧True) (fun _ r=>fun v Ln=>v = .int .i64 (r)∧Ln=[]∧True):=⟨by
 rintro K _ r ⟨A0_0,c0_0,A0_1,c0_1,rfl,ha0,ha1,-⟩ hx w hK;exact Qq p0 p1 ha0 ha1 hx w hK⟩
set_option maxRecDepth 100000 in
instance cmp_isNaN_int__c (p0:Int):Con (Ly p0) Tryz.prog 259 (fun _ vs=>vs=[.int .i64 (p0)]) (fun _ r=>fun v Ln=>v = .bool (r)∧Ln=[]∧True):=⟨by
 rintro _ _ r rfl hx w hK;unfold Ly at hx;refine CtS Tryz.ntmps259 Tryz.results259 ?_;exact au⟩
set_option maxHeartbeats 1000000 in
set_option maxRecDepth 100000 in
instance cmp_Compare_int__c (p0:Int) (p1:Int):Con (Jz p0 p1) Tryz.prog 184 (fun _ vs=>vs=[.int .i64 (p0),.int .i64 (p1)]) (fun _ r=>fun v Ln=>v = .int .i64 (r)∧Ln=[]∧True):=⟨by
 rintro _ _ r rfl hx w hK;unfold Jz at hx;refine CtS Tryz.ntmps184 Tryz.results184 ?_;exact au⟩
set_option maxHeartbeats 1000000 in
set_option maxRecDepth 100000 in
instance slices_Compare___int_int__c (p0:List Int) (p1:List Int):Con (Gf p0 p1) Tryz.prog 126 (fun K vs=>∃ (A0_0:Option Addr) (c0_0:Nat) (A0_1:Option Addr) (c0_1:Nat),vs=[.slice (A0_0) ((p0).length) (c0_0),.slice (A0_1) ((p1).length) (c0_1)]∧Has K A0_0 (p0).length c0_0 1 Dm (p0)∧Has K A0_1 (p1).length c0_1 1 Dm (p1)∧True) (fun _ r=>fun v Ln=>v = .int .i64 (r)∧Ln=[]∧True):=⟨by
 rintro K _ r ⟨A0_0,c0_0,A0_1,c0_1,rfl,ha0,ha1,-⟩ hx w hK;replace ha0:=Has.lo ha0 hK;replace ha1:=Has.lo ha1 hK;unfold Gf at hx;refine CtS Tryz.ntmps126 Tryz.results126 ?_;refine pre ?_;intros;rename_i hx
 refine Ka ?_;refine pre ?_;intros;rename_i hx
 apply Jr (γ:=Unit) hx [0,1] (fun s2 y2 f=>f) [999] (fun s2 y2 l=>l);exact kk
 ·intro s2 y2 hx;exact au
 ·intro _ hx;refine pre ?_;intros;rename_i hx
  apply Lr (γ:=Unit) hx [0,1,9,10] (fun s0 y0 f=>(11,.int .i64 (s0))::f) [999] (fun s0 y0 l=>l) ();exact kk;exact sk;intro s0 y0 x0 hx _;unfold Br at hx
  exact au⟩
set_option maxRecDepth 100000 in
instance Qr (p0:Ai) (p1:Ai):Con (Ew p0 p1) Tryz.prog 125 (fun _ vs=>vs=[.agg #[.int .i64 (p0.a0),.int .i64 (p0.a1),.int .i64 (p0.a2)],.agg #[.int .i64 (p1.a0),.int .i64 (p1.a1),.int .i64 (p1.a2)]]) (fun _ r=>fun v Ln=>v = .int .i64 (r)∧Ln=[]∧True):=⟨by
 rintro _ _ r rfl hx w hK;unfold Ew at hx;have:=dl 1 [0,0,2,2] [0,1,2,3];refine CtS Tryz.ntmps125 Tryz.results125 ?_;exact au⟩
theorem Pw (p0:Ai) (p1:Ai)  {r:Int} (hx:Ew p0 p1=some r) (w:World):CtL Tryz.prog 125 [.agg #[.int .i64 (p0.a0),.int .i64 (p0.a1),.int .i64 (p0.a2)],.agg #[.int .i64 (p1.a0),.int .i64 (p1.a1),.int .i64 (p1.a2)]] w fun v Ln=>v = .int .i64 (r)∧Ln=[]∧True:=(Qr p0 p1).h [] _ _ rfl hx w (fun _ h=>absurd h List.not_mem_nil)
set_option maxRecDepth 100000 in
theorem Abg (p0:Int) (p1:Int) (p2:List Ab) {K:List Ent} {A0_0:Option Addr} {c0_0:Nat} (ha0:Has K A0_0 p2.length c0_0 4 Ah (p2)) {g0_2:Nat} (hp2:Pt K g0_2 0 [.slice (A0_0) (p2.length) (c0_0)]) {r:Int} (hx:Pv p0 p1 p2=some r) (w:World) (hK:∀ e∈K,Ent.ok w e):CtL Tryz.prog 119 [.int .i64 (p0),.int .i64 (p1),.pointer (some ⟨g0_2,0,none⟩)] w fun v Ln=>v = .int .i64 (r)∧Ln=[]∧True:=by
 have ha0':=Has.up0 ha0;have hp2':=Pt.low (E:=[]) (Pt.up0 hp2) hK;refine CtL.mk 28 Tryz.func119 rfl Tryz.ntmps119 (by kernel_rfl) rfl ?_;show T 28 _ [(0,.int .i64 (p0)),(1,.int .i64 (p1)),(2,.pointer (some ⟨g0_2,0,none⟩))] _;unfold Pv at hx;refine Y7 ?_;refine T_dr [1,0,0,1,2,1,0,0,1,2,2] (.q 0 (.q 1 (.q 2 (.q 3 (.q 5 (.q 6 (.q 7 (.q 8 (.e 4 (.e 9 (.e 10 (.done) (.stop)) (.stop)) (.stop)))))))))) mixed (by kernel_rfl) (by kernel_rfl) ?_;refine P_q rfl rfl (De rfl hp2' (sb 0) rfl Yw) rfl ?_;refine Y ?_;obtain ⟨x1,h2,hx3⟩:=Ag hx;refine P_il (Has.low (E:=[]) ha0' hK) h2 Pq Oe (sb 0) (fun b4 o5=>?_);refine P_q rfl rfl (De rfl hp2' (sb 0) rfl Yw) rfl ?_;refine Y ?_;obtain ⟨x0,h0,hx0⟩:=Ag hx3;refine P_il (Has.low (E:=[]) ha0' hK) h0 Pq Oe (sb 0) (fun b0 o0=>?_);obtain ⟨r0,h1,hx1⟩:=Ag hx0;refine Pc (fun w1 hw1=>Lj (⟨x1.X,x1.Y,(⟨x1.Z.Lo,x1.Z.Hi⟩:Al)⟩:Ab)  h1 w1) ?_;obtain ⟨r1,h3,hx2⟩:=Ag hx1;refine Pc (fun w1 hw1=>Lj (⟨x0.X,x0.Y,(⟨x0.Z.Lo,x0.Z.Hi⟩:Al)⟩:Ab)  h3 w1) ?_;obtain ⟨r2,h4,hx4⟩:=Ag hx2;refine Pc (fun w1 hw1=>Uc r0 r1  h4 w1) ?_;refine Y2 ?_;refine Do (s:=16) rfl (fun h5=>?_) (fun h5=>?_)
 ·have hx5:=Df h5 hx4;refine Y8 ?_;obtain rfl:=Option.some.inj hx5;exact Di (rs:=[.tmp 5]) Tryz.results119 (.tmp rfl (.nil)) (Ln:=[]) ⟨rfl,rfl,trivial⟩ (Ec) (by exact .refl)
 ·have hx6:=Dw h5 hx4;refine Y5 ?_;refine T_dr [1,0,0,1,2,1,0,0,1,2,2] (.q 0 (.q 1 (.q 2 (.q 3 (.q 5 (.q 6 (.q 7 (.q 8 (.e 4 (.e 9 (.e 10 (.done) (.stop)) (.stop)) (.stop)))))))))) mixed (by kernel_rfl) (by kernel_rfl) ?_;refine P_q rfl rfl (De rfl hp2' (sb 0) rfl Yw) rfl ?_;refine Y ?_;obtain ⟨x2,h6,hx7⟩:=Ag hx6;refine P_il (Has.low (E:=[]) ha0' hK) h6 Pq Oe (sb 0) (fun b1 o1=>?_);refine P_q rfl rfl (De rfl hp2' (sb 0) rfl Yw) rfl ?_;refine Y ?_;obtain ⟨x3,h7,hx8⟩:=Ag hx7;refine P_il (Has.low (E:=[]) ha0' hK) h7 Pq Oe (sb 0) (fun b2 o2=>?_);obtain ⟨r3,h8,hx9⟩:=Ag hx8;refine Pc (fun w1 hw1=>Lj (⟨x2.X,x2.Y,(⟨x2.Z.Lo,x2.Z.Hi⟩:Al)⟩:Ab)  h8 w1) ?_;obtain ⟨r4,h9,hx62⟩:=Ag hx9;refine Pc (fun w1 hw1=>Lj (⟨x3.X,x3.Y,(⟨x3.Z.Lo,x3.Z.Hi⟩:Al)⟩:Ab)  h9 w1) ?_;obtain ⟨r5,h64,hx65⟩:=Ag hx62;refine Pc (fun w1 hw1=>Uc r3 r4  h64 w1) ?_;refine Y2 ?_;refine Do (s:=27) rfl (fun h66=>?_) (fun h66=>?_)
  ·have hx67:=Df h66 hx65;refine Y8 ?_;obtain rfl:=Option.some.inj hx67;exact Di (rs:=[.tmp 5]) Tryz.results119 (.tmp rfl (.nil)) (Ln:=[]) ⟨rfl,rfl,trivial⟩ (Ec) (by exact .refl)
  ·have hx68:=Dw h66 hx65;refine Y9 ?_;obtain rfl:=Option.some.inj hx68;exact Di (rs:=[.tmp 5]) Tryz.results119 (.tmp rfl (.nil)) (Ln:=[]) ⟨rfl,rfl,trivial⟩ (Ec) (by exact .refl)
end Go.Proofs.YtgfiafnelibjgaaGreat
