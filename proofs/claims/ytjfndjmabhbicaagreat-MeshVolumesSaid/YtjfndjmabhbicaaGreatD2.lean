/- Walks of the program, with their plain functions: inputs, comparators. -/
import Derived.Test.YtjfndjmabhbicaaGreatD1
namespace Go.Proofs.YtjfndjmabhbicaaGreat
open Go Go.RowKit
theorem Aep:Kh Tryz.prog 22 70 4:=.mk Tryz.underlying22 (show Tryz.prog.info? 70=some Tryz.t70 from by kernel_rfl) (by kernel_rfl)
instance:Mj Tryz.prog 22 70 4:=⟨Aep⟩
theorem Ba0:Md Tryz.prog 70 [.int .i64 (0),.int .i64 (0),.int .i64 (0),.int .i64 (0)]:=⟨_,Tryz.zeroValue70,rfl⟩
instance:Tg Tryz.prog 70 [.int .i64 (0),.int .i64 (0),.int .i64 (0),.int .i64 (0)]:=⟨Ba0⟩
theorem Anf:Kh Tryz.prog 23 62 2:=.mk Tryz.underlying23 (show Tryz.prog.info? 62=some Tryz.t62 from by kernel_rfl) (by kernel_rfl)
instance:Mj Tryz.prog 23 62 2:=⟨Anf⟩
theorem Ws:Kh Tryz.prog 48 3 1:=.mk Tryz.underlying48 (show Tryz.prog.info? 3=some Tryz.t3 from by kernel_rfl) (by kernel_rfl)
instance:Mj Tryz.prog 48 3 1:=⟨Ws⟩
theorem Ba1:Acs Tryz.prog 94 3 1:=.mk Tryz.underlying94 (show Tryz.prog.info? 3=some Tryz.t3 from by kernel_rfl) (by kernel_rfl)
instance:ArrI Tryz.prog 94 3 1:=⟨Ba1⟩
theorem Acp:Qe Tryz.prog 22:=.mk Tryz.underlying22 rfl (show Tryz.prog.info? 22=some Tryz.t22 from by kernel_rfl) (by kernel_rfl)
instance:OneI Tryz.prog 22:=⟨Acp⟩
instance:UndI Tryz.prog 22 (.slice 70):=⟨Tryz.underlying22⟩
theorem Ajp:laidOutB Tryz.prog=true:=by kernel_rfl
theorem Ax9:(match Tryz.prog.underlying 73 with | some (.array _ _) | some (.struct _)=>true | _=>false)=true:=by kernel_rfl
set_option maxRecDepth 100000 in
theorem Ba2:Maps.Keyed Tryz.prog 73:=Maps.Keyed.of_law (deep_law_laid Ajp (m:=3) (by omega) (of_decide_eq_true (by kernel_rfl)) (by kernel_rfl) Ax9)
theorem Ba3 (x:Ac) (h:(-9223372036854775808<=x.X/\x.X<=9223372036854775807)/\(-9223372036854775808<=x.Y/\x.Y<=9223372036854775807)):(keyOf Tryz.prog 73 (Pm x)).isSome=true:=by
 refine Als (cs:=[.int .i64 (x.X),.int .i64 (x.Y)]) (d:=341) (by kernel_rfl) Tryz.underlying73 (by kernel_rfl) (by kernel_rfl) (by kernel_rfl) (fun f hf=>?_)
 simp only[List.mem_cons,List.not_mem_nil,or_false] at hf
 rcases hf with rfl | rfl
 ·exact ⟨.i64,x.X,Tryz.underlying3,by kernel_rfl,Ah7 h.1⟩
 ·exact ⟨.i64,x.Y,Tryz.underlying3,by kernel_rfl,Ah7 h.2⟩
instance:KeyI Tryz.prog 73 Pm (fun x=>(-9223372036854775808<=x.X/\x.X<=9223372036854775807)/\(-9223372036854775808<=x.Y/\x.Y<=9223372036854775807)):=⟨Ba2,Aat,Ba3⟩
instance:UndI Tryz.prog 220 (.map 73 4):=⟨Tryz.underlying220⟩
def Bh (x:Bool):Value:=.bool (x)
theorem Alo (x y:Bool) (h:Bh x=Bh y):x=y:=by simpa[Bh] using h
instance (x:Bool):UnfI Bh x (.bool (x)):=⟨rfl⟩
instance (x0:Bool):Abn Bh (.bool (x0)) (x0):=⟨rfl⟩
instance:ValI Tryz.prog 4 Bh false:=⟨Alo,fun w=>by kernel_rfl⟩
noncomputable def Jl (p0:List Ab):Int->Option (Sum Int (Sum Unit Int)):=fun s0=>
 if s0 < ((((p0).length:Nat):Int)) then (bnd (idx p0 s0) fun x0=>
 bnd (Uo (⟨x0.X,x0.Y,(⟨x0.Z.Lo,x0.Z.Hi⟩:Al)⟩:Ab)) fun r0=>
 if r0=true then (some (.inl (w64 (s0+1))))
 else (some (.inr (.inr (60)))))
 else (some (.inr (.inl ())))
noncomputable def Od (p0:List Ab):((List (Ac × Bool)) × Int)->Option (Sum ((List (Ac × Bool)) × Int) (Sum Unit Int)):=fun s0=>
 if s0.2 < ((((p0).length:Nat):Int)) then (bnd (idx p0 s0.2) fun x0=>
 bnd (Cu (⟨x0.X,x0.Y,(⟨x0.Z.Lo,x0.Z.Hi⟩:Al)⟩:Ab)) fun r0=>
 gd ((-9223372036854775808<=r0.X/\r0.X<=9223372036854775807)/\(-9223372036854775808<=r0.Y/\r0.Y<=9223372036854775807)) <|
 bnd (some ((mget s0.1 r0).getD false)) fun x1=>
 if x1=true then (some (.inr (.inr (61))))
 else (bnd (Cu (⟨x0.X,x0.Y,(⟨x0.Z.Lo,x0.Z.Hi⟩:Al)⟩:Ab)) fun r1=>
 gd ((-9223372036854775808<=r1.X/\r1.X<=9223372036854775807)/\(-9223372036854775808<=r1.Y/\r1.Y<=9223372036854775807)) <|
 gd ((s0.1).length < 9223372036854775807) <|
 some (.inl (mput s0.1 r1 true,w64 (s0.2+1)))))
 else (some (.inr (.inl ())))
noncomputable def Pn (p0:List Ab):Option Int :=
 if 1024 < ((((p0).length:Nat):Int)) then (some 2)
 else (jn (fun (s5:Unit)=>
 jn (fun (s0:Unit)=>
 some 0)
 (fun j0=>bnd (lfix (Od p0) (([]:List (Ac × Bool)),0)) fun t0=>
 (match t0 with
 | (.inl z0)=>j0 z0
 | (.inr (z0))=>some z0
 )))
 (fun j5=>bnd (lfix (Jl p0) 0) fun t1=>
 (match t1 with
 | (.inl z1)=>j5 z1
 | (.inr (z1))=>some z1
 )))
def Ah (x:Ab):List Value:=[.int .i64 (x.X),.int .i64 (x.Y),.int .i64 (x.Z.Lo),.int .i64 (x.Z.Hi)]
instance (x0:Int) (x1:Int) (x2:Int) (x3:Int):DecI Ah [.int .i64 (x0),.int .i64 (x1),.int .i64 (x2),.int .i64 (x3)] (⟨x0,x1,⟨x2,x3⟩⟩):=⟨rfl⟩
instance:EncI 70 Ah:=⟨trivial⟩
noncomputable def Ix (p0:Ac) (p1:Ac) (p2:Ac):Option Bool :=
 jn (fun (s2:Bool)=>
 some s2)
 (fun j2=>bnd (Ib p0 p1 p2) fun r4=>
 if r4=0 then (if ((((p2.X) == (p0.X)) && (((p2.Y) == (p0.Y)) && true)))=true then (j2 false)
 else (if ((((p2.X) == (p1.X)) && (((p2.Y) == (p1.Y)) && true)))=true then (j2 false)
 else (bnd (Eo p0 p2) fun r0=>
 bnd (Eo p1 p2) fun r1=>
 j2 (!((r0) == (r1))))))
 else (j2 false))
noncomputable def Uv (p0:Ac) (p1:Ac) (p2:Ac) (p3:Ac):Option Bool :=
 jn (fun (s3:Bool)=>
 if s3=true then (some true)
 else (jn (fun (s5:Bool)=>
 some s5)
 (fun j5=>bnd (Ib p0 p1 p2) fun r0=>
 bnd (Ib p0 p1 p3) fun r1=>
 if (w64 (r0*r1)) < 0 then (bnd (Ib p2 p3 p0) fun r2=>
 bnd (Ib p2 p3 p1) fun r3=>
 j5 (decide ((w64 (r2*r3)) < 0)))
 else (j5 false))))
 (fun j3=>bnd (Ix p0 p1 p2) fun r5=>
 if r5=true then (j3 true)
 else (bnd (Ix p0 p1 p3) fun r4=>
 if r4=true then (j3 true)
 else (bnd (Ix p2 p3 p0) fun r6=>
 if r6=true then (j3 true)
 else (bnd (Ix p2 p3 p1) fun r7=>
 j3 r7))))
noncomputable def Hq (p0:List Ab) (p1:Aa) (p2:Aa):Option Bool :=
 jn (fun (s3:Bool)=>
 if s3=true then (some false)
 else (bnd (idx p0 p1.a0) fun x0=>
 bnd (idx p0 p1.a1) fun x1=>
 bnd (idx p0 p2.a0) fun x2=>
 bnd (idx p0 p2.a1) fun x3=>
 bnd (Cu (⟨x0.X,x0.Y,(⟨x0.Z.Lo,x0.Z.Hi⟩:Al)⟩:Ab)) fun r0=>
 bnd (Cu (⟨x1.X,x1.Y,(⟨x1.Z.Lo,x1.Z.Hi⟩:Al)⟩:Ab)) fun r1=>
 bnd (Cu (⟨x2.X,x2.Y,(⟨x2.Z.Lo,x2.Z.Hi⟩:Al)⟩:Ab)) fun r2=>
 bnd (Cu (⟨x3.X,x3.Y,(⟨x3.Z.Lo,x3.Z.Hi⟩:Al)⟩:Ab)) fun r3=>
 bnd (Uv r0 r1 r2 r3) fun r4=>
 some r4))
 (fun j3=>if p1.a0=p2.a0 then (j3 true)
 else (if p1.a0=p2.a1 then (j3 true)
 else (if p1.a1=p2.a0 then (j3 true)
 else (j3 (decide (p1.a1=p2.a1))))))
def Af (x:Aa):Value:=.agg #[.int .i64 (x.a0),.int .i64 (x.a1)]
theorem Cv (x y:Aa) (h:Af x=Af y):x=y:=by
 rcases x with ⟨_,_⟩;rcases y with ⟨_,_⟩;simp[Af] at h;simp[h]
instance (x:Aa):UnfI Af x (.agg #[.int .i64 (x.a0),.int .i64 (x.a1)]):=⟨rfl⟩
instance (x0:Int) (x1:Int):Abn Af (.agg #[.int .i64 (x0),.int .i64 (x1)]) (⟨x0,x1⟩):=⟨rfl⟩
instance:ValI Tryz.prog 62 Af ((⟨0,0⟩:Aa)):=⟨Cv,fun w=>by kernel_rfl⟩
theorem Aya:(match Tryz.prog.underlying 62 with | some (.array _ _) | some (.struct _)=>true | _=>false)=true:=by kernel_rfl
set_option maxRecDepth 100000 in
theorem Wt:Maps.Keyed Tryz.prog 62:=Maps.Keyed.of_law (deep_law_laid Ajp (m:=3) (by omega) (of_decide_eq_true (by kernel_rfl)) (by kernel_rfl) Aya)
theorem Agr (x:Aa) (h:(-9223372036854775808<=x.a0/\x.a0<=9223372036854775807)/\(-9223372036854775808<=x.a1/\x.a1<=9223372036854775807)):(keyOf Tryz.prog 62 (Af x)).isSome=true:=by
 refine Apt (zs:=[x.a0,x.a1]) (d:=341) (by kernel_rfl) Tryz.underlying62 (by kernel_rfl) rfl Tryz.underlying3 (by kernel_rfl) (by kernel_rfl) (fun z hz=>?_)
 simp only[List.mem_cons,List.not_mem_nil,or_false] at hz
 rcases hz with rfl | rfl
 ·exact Ah7 h.1
 ·exact Ah7 h.2
instance:KeyI Tryz.prog 62 Af (fun x=>(-9223372036854775808<=x.a0/\x.a0<=9223372036854775807)/\(-9223372036854775808<=x.a1/\x.a1<=9223372036854775807)):=⟨Wt,Cv,Agr⟩
instance:UndI Tryz.prog 106 (.map 62 4):=⟨Tryz.underlying106⟩
instance:UndI Tryz.prog 23 (.slice 62):=⟨Tryz.underlying23⟩
def Ak (x:Aa):List Value:=[.int .i64 (x.a0),.int .i64 (x.a1)]
instance (x0:Int) (x1:Int):DecI Ak [.int .i64 (x0),.int .i64 (x1)] (⟨x0,x1⟩):=⟨rfl⟩
instance:EncI 62 Ak:=⟨trivial⟩
noncomputable def Jv (p1:List Aa) (p0:List Ab):((List (Aa × Bool)) × Int)->Option (Sum ((List (Aa × Bool)) × Int) (Sum Unit Int)):=fun s0=>
 if s0.2 < ((((p1).length:Nat):Int)) then (bnd (idx p1 s0.2) fun x0=>
 jn (fun (s1:Bool)=>
 if s1=true then (some (.inr (.inr (62))))
 else (bnd (Fh x0.a0 x0.a1) fun r0=>
 gd ((-9223372036854775808<=r0.a0/\r0.a0<=9223372036854775807)/\(-9223372036854775808<=r0.a1/\r0.a1<=9223372036854775807)) <|
 gd ((s0.1).length < 9223372036854775807) <|
 some (.inl (mput s0.1 r0 true,w64 (s0.2+1)))))
 (fun j0=>if x0.a0 < 0 then (j0 true)
 else (if x0.a1 < 0 then (j0 true)
 else (if ((((p0).length:Nat):Int))<=x0.a0 then (j0 true)
 else (if ((((p0).length:Nat):Int))<=x0.a1 then (j0 true)
 else (if x0.a0=x0.a1 then (j0 true)
 else (bnd (Fh x0.a0 x0.a1) fun r1=>
 gd ((-9223372036854775808<=r1.a0/\r1.a0<=9223372036854775807)/\(-9223372036854775808<=r1.a1/\r1.a1<=9223372036854775807)) <|
 bnd (some ((mget s0.1 r1).getD false)) fun x1=>
 j0 x1)))))))
 else (some (.inr (.inl ())))
noncomputable def Em (p0:List Ab) (x0:Aa):Int->Option (Sum Int (Sum Unit Int)):=fun s0=>
 if s0 < ((((p0).length:Nat):Int)) then (bnd (idx p0 s0) fun x1=>
 bnd (idx p0 x0.a0) fun x2=>
 bnd (idx p0 x0.a1) fun x3=>
 bnd (Cu (⟨x2.X,x2.Y,(⟨x2.Z.Lo,x2.Z.Hi⟩:Al)⟩:Ab)) fun r0=>
 bnd (Cu (⟨x3.X,x3.Y,(⟨x3.Z.Lo,x3.Z.Hi⟩:Al)⟩:Ab)) fun r1=>
 bnd (Cu (⟨x1.X,x1.Y,(⟨x1.Z.Lo,x1.Z.Hi⟩:Al)⟩:Ab)) fun r2=>
 bnd (Ix r0 r1 r2) fun r3=>
 if r3=true then (some (.inr (.inr (63))))
 else (some (.inl (w64 (s0+1)))))
 else (some (.inr (.inl ())))
noncomputable def Gj (s0:Int) (p0:List Ab) (x0:Aa):((List Aa) × Int)->Option (Sum ((List Aa) × Int) (Sum Unit Int)):=fun s1=>
 if s1.2 < (((Int.toNat s0:Nat):Int)) then (bnd (idx s1.1 s1.2) fun x1=>
 bnd (Hq p0 x1 x0) fun r0=>
 if r0=true then (some (.inr (.inr (63))))
 else (some (.inl (s1.1,w64 (s1.2+1)))))
 else (some (.inr (.inl ())))
noncomputable def Io (p1:List Aa) (p0:List Ab):Int->Option (Sum Int (Sum Unit Int)):=fun s0=>
 if s0 < ((((p1).length:Nat):Int)) then (jn (fun (s1:Unit)=>
 some (.inl (w64 (s0+1))))
 (fun j0=>bnd (idx p1 s0) fun x0=>
 jn (fun (s2:Unit)=>
 gd (0<=s0/\s0<=(((p1).length:Nat):Int)) <|
 bnd (lfix (Gj s0 p0 x0) (subl p1 0 s0,0)) fun t0=>
 (match t0 with
 | (.inl z0)=>j0 z0
 | (.inr (z0))=>some (.inr (.inr (z0)))
 ))
 (fun j1=>bnd (lfix (Em p0 x0) 0) fun t1=>
 (match t1 with
 | (.inl z1)=>j1 z1
 | (.inr (z1))=>some (.inr (.inr (z1)))
 ))))
 else (some (.inr (.inl ())))
noncomputable def Ni (p0:List Ab) (p1:List Aa):Option Int :=
 jn (fun (s3:Unit)=>
 jn (fun (s0:Unit)=>
 some 0)
 (fun j0=>bnd (lfix (Io p1 p0) 0) fun t0=>
 (match t0 with
 | (.inl z0)=>j0 z0
 | (.inr (z0))=>some z0
 )))
 (fun j3=>bnd (lfix (Jv p1 p0) (([]:List (Aa × Bool)),0)) fun t1=>
 (match t1 with
 | (.inl z1)=>j3 z1
 | (.inr (z1))=>some z1
 ))
noncomputable def Oo (p0:Int):Option Bool :=
 some (!(decide (p0=p0)))
noncomputable def Me (p0:Int) (p1:Int):Option Int :=
 bnd (Oo p0) fun r1=>
 bnd (Oo p1) fun r4=>
 if r1=true then (if r4=true then (some 0)
 else (some (-1)))
 else (if r4=true then (some 1)
 else (if p0 < p1 then (some (-1))
 else (if p1 < p0 then (some 1)
 else (some 0))))
instance:UndI Tryz.prog 48 (.slice 3):=⟨Tryz.underlying48⟩
noncomputable def Bq (p0:List Int) (p1:List Int):Int->Option (Sum Int (Sum Unit Int)):=fun s0=>
 if s0 < ((((p0).length:Nat):Int)) then (bnd (idx p0 s0) fun x0=>
 if ((((p1).length:Nat):Int))<=s0 then (some (.inr (.inr (1))))
 else (bnd (idx p1 s0) fun x1=>
 bnd (Me x0 x1) fun r0=>
 if r0=0 then (some (.inl (w64 (s0+1))))
 else (some (.inr (.inr (r0))))))
 else (some (.inr (.inl ())))
noncomputable def Gt (p0:List Int) (p1:List Int):Option Int :=
 jn (fun (s2:Unit)=>
 if ((((p0).length:Nat):Int)) < ((((p1).length:Nat):Int)) then (some (-1))
 else (some 0))
 (fun j2=>bnd (lfix (Bq p0 p1) 0) fun t0=>
 (match t0 with
 | (.inl z0)=>j2 z0
 | (.inr (z0))=>some z0
 ))
def Aq (x:Int):List Value:=[.int .i64 (x)]
instance (x0:Int):DecI Aq [.int .i64 (x0)] (x0):=⟨rfl⟩
instance:EncI 3 Aq:=⟨trivial⟩
structure Ae where
 a0:Int
 a1:Int
 a2:Int
noncomputable def Ez (p0:Ae) (p1:Ae):Option Int :=
 bnd (Gt ([p0.a0,p0.a1,p0.a2]) ([p1.a0,p1.a1,p1.a2])) fun r5=>
 some r5
noncomputable def So (p0:Int) (p1:Int) (p2:List Ab):Option Int :=
 bnd (idx p2 p0) fun x1=>
 bnd (idx p2 p1) fun x0=>
 bnd (Cu (⟨x1.X,x1.Y,(⟨x1.Z.Lo,x1.Z.Hi⟩:Al)⟩:Ab)) fun r0=>
 bnd (Cu (⟨x0.X,x0.Y,(⟨x0.Z.Lo,x0.Z.Hi⟩:Al)⟩:Ab)) fun r1=>
 bnd (Eo r0 r1) fun r2=>
 if r2=true then (some (-1))
 else (bnd (idx p2 p1) fun x2=>
 bnd (idx p2 p0) fun x3=>
 bnd (Cu (⟨x2.X,x2.Y,(⟨x2.Z.Lo,x2.Z.Hi⟩:Al)⟩:Ab)) fun r3=>
 bnd (Cu (⟨x3.X,x3.Y,(⟨x3.Z.Lo,x3.Z.Hi⟩:Al)⟩:Ab)) fun r4=>
 bnd (Eo r3 r4) fun r5=>
 if r5=true then (some 1)
 else (some 0))
def Bc (x:Ae):List Value:=[.int .i64 (x.a0),.int .i64 (x.a1),.int .i64 (x.a2)]
instance (x0:Int) (x1:Int) (x2:Int):DecI Bc [.int .i64 (x0),.int .i64 (x1),.int .i64 (x2)] (⟨x0,x1,x2⟩):=⟨rfl⟩
instance:EncI 94 Bc:=⟨trivial⟩
set_option maxHeartbeats 1000000 in
set_option maxRecDepth 100000 in
instance mesh_vertices_c (p0:List Ab):Con (Pn p0) Tryz.prog 101 (fun K vs=>∃ (A0_0:Option Addr) (c0_0:Nat),vs=[.slice (A0_0) ((p0).length) (c0_0)]/\Has K A0_0 (p0).length c0_0 4 Ah (p0)/\True) (fun _ r=>fun v Ln=>v = .int .i64 (r)/\Ln=[]/\True):=⟨by
 rintro K _ r ⟨A0_0,c0_0,rfl,ha0,-⟩ hx w hK;replace ha0:=Has.lo ha0 hK;unfold Pn at hx;refine CtS Tryz.ntmps101 Tryz.results101 ?_;try (refine pre ?_;intros;rename_i hx)
 refine Cq1 (s:=10) hx rfl (fun _ hx=>?_) (fun _ hx=>?_)
 ·exact au
 ·try (refine pre ?_;intros;rename_i hx)
  apply Jr (γ:=Unit) hx [0] (fun s5 y5 f=>f) [999] (fun s5 y5 l=>l);exact kk
  ·intro s5 y5 hx;try (refine pre ?_;intros;rename_i hx)
   refine Bn ?_;try (refine pre ?_;intros;rename_i hx)
   apply Jr (γ:=Unit) hx [] (fun s0 y0 f=>f) [999] (fun s0 y0 l=>l);exact kk
   ·intro s0 y0 hx;exact au
   ·intro _ hx;try (refine pre ?_;intros;rename_i hx)
    apply Lr (γ:=(Nat)) hx [22,23] (fun s1 y1 f=>(5,.map (some y1))::(24,.int .i64 (s1.2))::f) [999] (fun s1 y1 l=>Aw Tryz.prog 73 Pm Bh y1 (s1.1)::l) _;exact kk;exact sk;intro s1 y1 x0 hx _;unfold Od at hx
    exact au
  ·intro _ hx;try (refine pre ?_;intros;rename_i hx)
   apply Lr (γ:=Unit) hx [0,11,12] (fun s2 y2 f=>(13,.int .i64 (s2))::f) [999] (fun s2 y2 l=>l) ();exact kk;exact sk;intro s2 y2 x1 hx _;unfold Jl at hx
   exact au⟩
set_option maxHeartbeats 1000000 in
set_option maxRecDepth 100000 in
instance mesh_between_c (p0:Ac) (p1:Ac) (p2:Ac):Con (Ix p0 p1 p2) Tryz.prog 157 (fun _ vs=>vs=[.agg #[.int .i64 (p0.X),.int .i64 (p0.Y)],.agg #[.int .i64 (p1.X),.int .i64 (p1.Y)],.agg #[.int .i64 (p2.X),.int .i64 (p2.Y)]]) (fun _ r=>fun v Ln=>v = .bool (r)/\Ln=[]/\True):=⟨by
 rintro _ _ r rfl hx w hK;unfold Ix at hx;have:=dl 1 [1,1,1,2,0,0,1,1,0,0,0,1,1,0,0,0,1,1,2,1,1,2,0,0,2] [0,1,2,3,4,5,6,7,8,9,10,11,12,13,14,15,16,17,19,20,18,21,22,23,24];refine CtS Tryz.ntmps157 Tryz.results157 ?_;exact au⟩
set_option maxHeartbeats 1000000 in
set_option maxRecDepth 100000 in
instance mesh_meet_c (p0:Ac) (p1:Ac) (p2:Ac) (p3:Ac):Con (Uv p0 p1 p2 p3) Tryz.prog 237 (fun _ vs=>vs=[.agg #[.int .i64 (p0.X),.int .i64 (p0.Y)],.agg #[.int .i64 (p1.X),.int .i64 (p1.Y)],.agg #[.int .i64 (p2.X),.int .i64 (p2.Y)],.agg #[.int .i64 (p3.X),.int .i64 (p3.Y)]]) (fun _ r=>fun v Ln=>v = .bool (r)/\Ln=[]/\True):=⟨by
 rintro _ _ r rfl hx w hK;unfold Uv at hx;have:=dl 3 [1,1,1,2,1,1,1,2,0,0,0,1,1,1,2,1,1,1,2,0,0,0,2] [0,1,2,4,5,6,3,7,8,9,10,11,12,13,15,16,17,14,18,19,20,21,22];refine CtS Tryz.ntmps237 Tryz.results237 ?_;try (refine pre ?_;intros;rename_i hx)
 refine Bn ?_;try (refine pre ?_;intros;rename_i hx)
 refine Bn ?_;try (refine pre ?_;intros;rename_i hx)
 apply Jr (γ:=Unit) hx [4,5,6,7] (fun s3 y3 f=>(30,.bool (s3))::f) [0,1,2,3,999] (fun s3 y3 l=>l);exact kk
 ·intro s3 y3 hx;exact au
 ·intro _ hx;exact au⟩
set_option maxHeartbeats 1000000 in
set_option maxRecDepth 100000 in
instance Adh (p0:List Ab) (p1:Aa) (p2:Aa):Con (Hq p0 p1 p2) Tryz.prog 165 (fun K vs=>∃ (A0_0:Option Addr) (c0_0:Nat),vs=[.slice (A0_0) ((p0).length) (c0_0),.agg #[.int .i64 (p1.a0),.int .i64 (p1.a1)],.agg #[.int .i64 (p2.a0),.int .i64 (p2.a1)]]/\Has K A0_0 (p0).length c0_0 4 Ah (p0)/\True) (fun _ r=>fun v Ln=>v = .bool (r)/\Ln=[]/\True):=⟨by
 rintro K _ r ⟨A0_0,c0_0,rfl,ha0,-⟩ hx w hK;replace ha0:=Has.lo ha0 hK;unfold Hq at hx;have:=dl 3 [0,0,1,0,1,2,0,0,1,0,1,2,0,0,1,0,1,2,0,0,1,0,1,2,2,2] [0,1,2,3,4,6,7,8,9,10,12,13,14,15,16,18,19,20,21,22,5,11,17,23,24,25];refine CtS Tryz.ntmps165 Tryz.results165 ?_;try (refine pre ?_;intros;rename_i hx)
 refine Bn ?_;try (refine pre ?_;intros;rename_i hx)
 refine Bn ?_;try (refine pre ?_;intros;rename_i hx)
 apply Jr (γ:=Unit) hx [0,4,5] (fun s3 y3 f=>(32,.bool (s3))::f) [0,1,999] (fun s3 y3 l=>l);exact kk
 ·intro s3 y3 hx;exact au
 ·intro _ hx;exact au⟩
theorem Uw (p0:List Ab) (p1:Aa) (p2:Aa) {K:List Ent} {A0_0:Option Addr} {c0_0:Nat} (ha0:Has K A0_0 (p0).length c0_0 4 Ah (p0)) {r:Bool} (hx:Hq p0 p1 p2=some r) (w:World) (hK:∀ e∈K,Ent.ok w e):CtL Tryz.prog 165 [.slice (A0_0) ((p0).length) (c0_0),.agg #[.int .i64 (p1.a0),.int .i64 (p1.a1)],.agg #[.int .i64 (p2.a0),.int .i64 (p2.a1)]] w fun v Ln=>v = .bool (r)/\Ln=[]/\True:=(Adh p0 p1 p2).h K _ _ ⟨_,_,rfl,ha0,trivial⟩ hx w hK
set_option maxHeartbeats 1000000 in
set_option maxRecDepth 100000 in
instance mesh_lineErrors_c (p0:List Ab) (p1:List Aa):Con (Ni p0 p1) Tryz.prog 102 (fun K vs=>∃ (A0_0:Option Addr) (c0_0:Nat) (A0_1:Option Addr) (c0_1:Nat),vs=[.slice (A0_0) ((p0).length) (c0_0),.slice (A0_1) ((p1).length) (c0_1)]/\Has K A0_0 (p0).length c0_0 4 Ah (p0)/\Has K A0_1 (p1).length c0_1 2 Ak (p1)/\True) (fun _ r=>fun v Ln=>v = .int .i64 (r)/\Ln=[]/\True):=⟨by
 rintro K _ r ⟨A0_0,c0_0,A0_1,c0_1,rfl,ha0,ha1,-⟩ hx w hK;replace ha0:=Has.lo ha0 hK;replace ha1:=Has.lo ha1 hK;unfold Ni at hx;have:=dl 15 [0,0,1,0,1,2,0,0,1,0,1,2,1,2,2] [0,1,2,3,4,6,7,8,9,10,12,5,11,13,14];refine CtS Tryz.ntmps102 Tryz.results102 ?_;try (refine pre ?_;intros;rename_i hx)
 refine Bn ?_;try (refine pre ?_;intros;rename_i hx)
 refine Bn ?_;try (refine pre ?_;intros;rename_i hx)
 apply Jr (γ:=Unit) hx [0,1] (fun s3 y3 f=>f) [999] (fun s3 y3 l=>l);exact kk
 ·intro s3 y3 hx;apply Jr (γ:=Unit) hx [] (fun s0 y0 f=>f) [999] (fun s0 y0 l=>l);exact kk
  ·intro s0 y0 hx;exact au
  ·intro _ hx;try (refine pre ?_;intros;rename_i hx)
   apply Lr (γ:=Unit) hx [0,1,66,67] (fun s1 y1 f=>(68,.int .i64 (s1))::f) [999] (fun s1 y1 l=>l) ();exact kk;exact sk;intro s1 y1 x0 hx _;unfold Io at hx
   try (refine pre ?_;intros;rename_i hx)
   refine Cq1e (s:=69) hx rfl cQ (fun _ hx=>?_) (fun _ hx=>?_)
   ·try (refine pre ?_;intros;rename_i hx)
    apply Jr (γ:=Unit) hx [0,1,66,67,68] (fun s2 y2 f=>f) [999] (fun s2 y2 l=>l);exact kk
    ·intro s2 y2 hx;exact au
    ·intro _ hx;try (refine pre ?_;intros;rename_i hx)
     apply Jr (γ:=Unit) hx [0,1,8,9,66,67,68] (fun s4 y4 f=>f) [0,999] (fun s4 y4 l=>l);exact kk
     ·intro s4 y4 hx;try (refine pre ?_;intros;rename_i hx)
      apply LrG (γ:=(Option Addr) × Nat) hx [0,1,9,66,67,68,98] (fun s5 y5 f=>(97,.slice (y5.1) ((s5.1).length) (y5.2))::(99,.int .i64 (s5.2))::f) [0,999] (fun s5 y5 l=>l) (fun s5 y5=>Has [.old w] (y5.1) ((s5.1).length) (y5.2) 2 Ak (s5.1)/\True) (_,_);exact kk;exact sF2;exact gG;exact pK2;intro s5 y5 x1 hx _ hG;obtain ⟨_,-⟩:=hG;unfold Gj at hx
      exact au
     ·intro _ hx;try (refine pre ?_;intros;rename_i hx)
      apply Lr (γ:=Unit) hx [0,1,8,9,66,67,68,73,74] (fun s6 y6 f=>(75,.int .i64 (s6))::f) [0,999] (fun s6 y6 l=>l) ();exact kk;exact sk;intro s6 y6 x2 hx _;unfold Em at hx
      exact au
   ·exact au
 ·intro _ hx;try (refine pre ?_;intros;rename_i hx)
  apply Lr (γ:=(Nat)) hx [0,1,15,16] (fun s7 y7 f=>(5,.map (some y7))::(17,.int .i64 (s7.2))::f) [999] (fun s7 y7 l=>Aw Tryz.prog 62 Af Bh y7 (s7.1)::l) _;exact kk;exact sk;intro s7 y7 x3 hx _;unfold Jv at hx
  try (refine pre ?_;intros;rename_i hx)
  refine Cq1e (s:=18) hx rfl cQ (fun _ hx=>?_) (fun _ hx=>?_)
  ·try (refine pre ?_;intros;rename_i hx)
   refine Bn ?_;try (refine pre ?_;intros;rename_i hx)
   apply Jr (γ:=Unit) hx [0,1,5,7,15,16,17] (fun s8 y8 f=>(58,.bool (s8))::f) [0,1,999] (fun s8 y8 l=>l);exact kk
   ·intro s8 y8 hx;exact au
   ·intro _ hx;try (refine pre ?_;intros;rename_i hx)
    refine Cq1e (s:=24) hx rfl cQ (fun _ hx=>?_) (fun _ hx=>?_)
    ·exact au
    ·exact au
  ·exact au⟩
set_option maxRecDepth 100000 in
instance cmp_isNaN_int__c (p0:Int):Con (Oo p0) Tryz.prog 262 (fun _ vs=>vs=[.int .i64 (p0)]) (fun _ r=>fun v Ln=>v = .bool (r)/\Ln=[]/\True):=⟨by
 rintro _ _ r rfl hx w hK;unfold Oo at hx;refine CtS Tryz.ntmps262 Tryz.results262 ?_;exact au⟩
set_option maxHeartbeats 1000000 in
set_option maxRecDepth 100000 in
instance cmp_Compare_int__c (p0:Int) (p1:Int):Con (Me p0 p1) Tryz.prog 242 (fun _ vs=>vs=[.int .i64 (p0),.int .i64 (p1)]) (fun _ r=>fun v Ln=>v = .int .i64 (r)/\Ln=[]/\True):=⟨by
 rintro _ _ r rfl hx w hK;unfold Me at hx;refine CtS Tryz.ntmps242 Tryz.results242 ?_;exact au⟩
set_option maxHeartbeats 1000000 in
set_option maxRecDepth 100000 in
instance slices_Compare___int_int__c (p0:List Int) (p1:List Int):Con (Gt p0 p1) Tryz.prog 178 (fun K vs=>∃ (A0_0:Option Addr) (c0_0:Nat) (A0_1:Option Addr) (c0_1:Nat),vs=[.slice (A0_0) ((p0).length) (c0_0),.slice (A0_1) ((p1).length) (c0_1)]/\Has K A0_0 (p0).length c0_0 1 Aq (p0)/\Has K A0_1 (p1).length c0_1 1 Aq (p1)/\True) (fun _ r=>fun v Ln=>v = .int .i64 (r)/\Ln=[]/\True):=⟨by
 rintro K _ r ⟨A0_0,c0_0,A0_1,c0_1,rfl,ha0,ha1,-⟩ hx w hK;replace ha0:=Has.lo ha0 hK;replace ha1:=Has.lo ha1 hK;unfold Gt at hx;refine CtS Tryz.ntmps178 Tryz.results178 ?_;try (refine pre ?_;intros;rename_i hx)
 refine Bn ?_;try (refine pre ?_;intros;rename_i hx)
 apply Jr (γ:=Unit) hx [0,1] (fun s2 y2 f=>f) [999] (fun s2 y2 l=>l);exact kk
 ·intro s2 y2 hx;exact au
 ·intro _ hx;try (refine pre ?_;intros;rename_i hx)
  apply Lr (γ:=Unit) hx [0,1,9,10] (fun s0 y0 f=>(11,.int .i64 (s0))::f) [999] (fun s0 y0 l=>l) ();exact kk;exact sk;intro s0 y0 x0 hx _;unfold Bq at hx
  exact au⟩
set_option maxRecDepth 100000 in
instance Sz (p0:Ae) (p1:Ae):Con (Ez p0 p1) Tryz.prog 177 (fun _ vs=>vs=[.agg #[.int .i64 (p0.a0),.int .i64 (p0.a1),.int .i64 (p0.a2)],.agg #[.int .i64 (p1.a0),.int .i64 (p1.a1),.int .i64 (p1.a2)]]) (fun _ r=>fun v Ln=>v = .int .i64 (r)/\Ln=[]/\True):=⟨by
 rintro _ _ r rfl hx w hK;unfold Ez at hx;have:=dl 1 [0,0,2,2] [0,1,2,3];refine CtS Tryz.ntmps177 Tryz.results177 ?_;exact au⟩
theorem Oe (p0:Ae) (p1:Ae)  {r:Int} (hx:Ez p0 p1=some r) (w:World):CtL Tryz.prog 177 [.agg #[.int .i64 (p0.a0),.int .i64 (p0.a1),.int .i64 (p0.a2)],.agg #[.int .i64 (p1.a0),.int .i64 (p1.a1),.int .i64 (p1.a2)]] w fun v Ln=>v = .int .i64 (r)/\Ln=[]/\True:=(Sz p0 p1).h [] _ _ rfl hx w (fun _ h=>absurd h List.not_mem_nil)
set_option maxRecDepth 100000 in
theorem Adi (p0:Int) (p1:Int) (p2:List Ab) {K:List Ent} {A0_0:Option Addr} {c0_0:Nat} (ha0:Has K A0_0 p2.length c0_0 4 Ah (p2)) {g0_2:Nat} (hp2:Pt K g0_2 0 [.slice (A0_0) (p2.length) (c0_0)]) {r:Int} (hx:So p0 p1 p2=some r) (w:World) (hK:∀ e∈K,Ent.ok w e):CtL Tryz.prog 171 [.int .i64 (p0),.int .i64 (p1),.pointer (some ⟨g0_2,0,none⟩)] w fun v Ln=>v = .int .i64 (r)/\Ln=[]/\True:=by
 have ha0':=Has.up0 ha0;have hp2':=Pt.low (E:=[]) (Pt.up0 hp2) hK;refine CtL.mk 28 Tryz.func171 rfl Tryz.ntmps171 (by kernel_rfl) rfl ?_;show T 28 _ [(0,.int .i64 (p0)),(1,.int .i64 (p1)),(2,.pointer (some ⟨g0_2,0,none⟩))] _;unfold So at hx;refine Y7 ?_;refine T_dr [1,0,0,1,2,1,0,0,1,2,2] (.q 0 (.q 1 (.q 2 (.q 3 (.q 5 (.q 6 (.q 7 (.q 8 (.e 4 (.e 9 (.e 10 (.done) (.stop)) (.stop)) (.stop)))))))))) mixed (by kernel_rfl) (by kernel_rfl) ?_;refine P_q rfl rfl (Dy rfl hp2' (sb 0) rfl Acp) rfl ?_;refine Y ?_;obtain ⟨x1,h2,hx3⟩:=Ar hx;refine P_il (Has.low (E:=[]) ha0' hK) h2 Aep Adx (sb 0) (fun b4 o5=>?_);refine P_q rfl rfl (Dy rfl hp2' (sb 0) rfl Acp) rfl ?_;refine Y ?_;obtain ⟨x0,h0,hx0⟩:=Ar hx3;refine P_il (Has.low (E:=[]) ha0' hK) h0 Aep Adx (sb 0) (fun b0 o0=>?_);obtain ⟨r0,h1,hx1⟩:=Ar hx0;refine Pc (fun w1 hw1=>Vp (⟨x1.X,x1.Y,(⟨x1.Z.Lo,x1.Z.Hi⟩:Al)⟩:Ab)  h1 w1) ?_;obtain ⟨r1,h3,hx2⟩:=Ar hx1;refine Pc (fun w1 hw1=>Vp (⟨x0.X,x0.Y,(⟨x0.Z.Lo,x0.Z.Hi⟩:Al)⟩:Ab)  h3 w1) ?_;obtain ⟨r2,h4,hx4⟩:=Ar hx2;refine Pc (fun w1 hw1=>Xb r0 r1  h4 w1) ?_;refine Y2 ?_;refine Hr (s:=16) rfl (fun h5=>?_) (fun h5=>?_)
 ·have hx5:=Jx h5 hx4;refine Y8 ?_;obtain rfl:=Option.some.inj hx5;exact Hc (rs:=[.tmp 5]) Tryz.results171 (.tmp rfl (.nil)) (Ln:=[]) ⟨rfl,rfl,trivial⟩ (Gn) (by exact .refl)
 ·have hx6:=Mg h5 hx4;refine Y5 ?_;refine T_dr [1,0,0,1,2,1,0,0,1,2,2] (.q 0 (.q 1 (.q 2 (.q 3 (.q 5 (.q 6 (.q 7 (.q 8 (.e 4 (.e 9 (.e 10 (.done) (.stop)) (.stop)) (.stop)))))))))) mixed (by kernel_rfl) (by kernel_rfl) ?_;refine P_q rfl rfl (Dy rfl hp2' (sb 0) rfl Acp) rfl ?_;refine Y ?_;obtain ⟨x2,h6,hx7⟩:=Ar hx6;refine P_il (Has.low (E:=[]) ha0' hK) h6 Aep Adx (sb 0) (fun b1 o1=>?_);refine P_q rfl rfl (Dy rfl hp2' (sb 0) rfl Acp) rfl ?_;refine Y ?_;obtain ⟨x3,h7,hx8⟩:=Ar hx7;refine P_il (Has.low (E:=[]) ha0' hK) h7 Aep Adx (sb 0) (fun b2 o2=>?_);obtain ⟨r3,h8,hx9⟩:=Ar hx8;refine Pc (fun w1 hw1=>Vp (⟨x2.X,x2.Y,(⟨x2.Z.Lo,x2.Z.Hi⟩:Al)⟩:Ab)  h8 w1) ?_;obtain ⟨r4,h9,hx62⟩:=Ar hx9;refine Pc (fun w1 hw1=>Vp (⟨x3.X,x3.Y,(⟨x3.Z.Lo,x3.Z.Hi⟩:Al)⟩:Ab)  h9 w1) ?_;obtain ⟨r5,h64,hx65⟩:=Ar hx62;refine Pc (fun w1 hw1=>Xb r3 r4  h64 w1) ?_;refine Y2 ?_;refine Hr (s:=27) rfl (fun h66=>?_) (fun h66=>?_)
  ·have hx67:=Jx h66 hx65;refine Y8 ?_;obtain rfl:=Option.some.inj hx67;exact Hc (rs:=[.tmp 5]) Tryz.results171 (.tmp rfl (.nil)) (Ln:=[]) ⟨rfl,rfl,trivial⟩ (Gn) (by exact .refl)
  ·have hx68:=Mg h66 hx65;refine Y9 ?_;obtain rfl:=Option.some.inj hx68;exact Hc (rs:=[.tmp 5]) Tryz.results171 (.tmp rfl (.nil)) (Ln:=[]) ⟨rfl,rfl,trivial⟩ (Gn) (by exact .refl)
end Go.Proofs.YtjfndjmabhbicaaGreat
