/- Walks of the program, with their plain functions: the references on lines and triangles. -/
import Derived.Test.YtgfiafnelibjgaaGreatE1b
import Derived.Test.YtgfiafnelibjgaaGreatEs
namespace Go.Proofs.YtgfiafnelibjgaaGreat
open Go Go.RowKit
theorem Uk (x0:Int) (x1:Int):Ei Tryz.prog 59 2 [(0,.int .i64 x0),(1,.int .i64 x1)] 3 [.int .i64 x0,.int .i64 x1]:=fun w=>by kernel_rfl
instance (x0:Int) (x1:Int):Nu Tryz.prog 59 2 [(0,.int .i64 x0),(1,.int .i64 x1)] 3 [.int .i64 x0,.int .i64 x1]:=⟨Uk _ _⟩
noncomputable def Ho (p0:Ac) (p1:Ac) (p2:Ac) (p3:Ac):Option Bool :=
 jn (fun (s2:Bool) =>
 some s2)
 (fun j2=>bnd (Cx p0 p1 p2) fun r5 =>
 bnd (Cx p0 p1 p3) fun r8 =>
 if (w64 (r5*r8)) < 0 then (bnd (Cx p2 p3 p0) fun r0 =>
 bnd (Cx p2 p3 p1) fun r1 =>
 j2 (decide ((w64 (r0*r1)) < 0)))
 else (j2 false))
noncomputable def Dm (s0:Int) (p1:List Aa):Int→Option (Sum Int (Sum Unit Int)):=fun s1 =>
 if s1 < s0 then (jn (fun (s2:Bool) =>
 if s2=true then (some (.inr (.inr (62))))
 else (some (.inl (w64 (s1+1)))))
 (fun j0=>bnd (idx p1 s0) fun x0 =>
 bnd (idx p1 s1) fun x1 =>
 if ((((x0.a0) == (x1.a0)) && (((x0.a1) == (x1.a1)) && true)))=true then (j0 true)
 else (bnd (idx p1 s0) fun x2 =>
 bnd (idx p1 s1) fun x3 =>
 if x2.a0=x3.a1 then (bnd (idx p1 s0) fun x4 =>
 bnd (idx p1 s1) fun x5 =>
 j0 (decide (x4.a1=x5.a0)))
 else (j0 false))))
 else (some (.inr (.inl ())))
noncomputable def Fn (p1:List Aa) (p0:List Ab):Int→Option (Sum Int (Sum Unit Int)):=fun s0 =>
 if s0 < ((((p1).length:Nat):Int)) then (jn (fun (s1:Unit) =>
 some (.inl (w64 (s0+1))))
 (fun j0=>jn (fun (s2:Bool) =>
 if s2=true then (some (.inr (.inr (62))))
 else (bnd (lfix (Dm s0 p1) 0) fun t0 =>
 (match t0 with
 | (.inl z0)=>j0 z0
 | (.inr (z0))=>some (.inr (.inr (z0)))
 )))
 (fun j1=>bnd (idx p1 s0) fun x0 =>
 if x0.a0 < 0 then (j1 true)
 else (bnd (idx p1 s0) fun x1 =>
 if ((((p0).length:Nat):Int))≤x1.a0 then (j1 true)
 else (bnd (idx p1 s0) fun x2 =>
 if x2.a1 < 0 then (j1 true)
 else (bnd (idx p1 s0) fun x3 =>
 if ((((p0).length:Nat):Int))≤x3.a1 then (j1 true)
 else (bnd (idx p1 s0) fun x4 =>
 bnd (idx p1 s0) fun x5 =>
 j1 (decide (x4.a0=x5.a1)))))))))
 else (some (.inr (.inl ())))
noncomputable def Dg (p0:List Ab) (p1:List Aa) (s0:Int) (s1:Int × Int × Int × Int):Int→Option (Sum Int (Sum Unit Int)):=fun s2 =>
 if s2 < ((((p0).length:Nat):Int)) then (jn (fun (s3:Bool) =>
 if s3=true then (some (.inr (.inr (63))))
 else (some (.inl (w64 (s2+1)))))
 (fun j0=>bnd (idx p1 s0) fun x0 =>
 if s2=x0.a0 then (j0 false)
 else (bnd (idx p1 s0) fun x1 =>
 if s2=x1.a1 then (j0 false)
 else (bnd (idx p0 s2) fun x2 =>
 bnd (Ao (⟨x2.X,x2.Y,(⟨x2.Z.Lo,x2.Z.Hi⟩:Ak)⟩:Ab)) fun r0 =>
 bnd (Fu (⟨s1.1,s1.2.1⟩:Ac) (⟨s1.2.2.1,s1.2.2.2⟩:Ac) r0) fun r1 =>
 j0 r1))))
 else (some (.inr (.inl ())))
noncomputable def Dh (s0:Int) (p1:List Aa) (p0:List Ab) (s1:Int × Int × Int × Int):Int→Option (Sum Int (Sum Unit Int)):=fun s2 =>
 if s2 < s0 then (bnd (idx p1 s2) fun x0 =>
 bnd (idx p0 x0.a0) fun x1 =>
 bnd (idx p1 s2) fun x2 =>
 bnd (idx p0 x2.a1) fun x3 =>
 bnd (Ao (⟨x1.X,x1.Y,(⟨x1.Z.Lo,x1.Z.Hi⟩:Ak)⟩:Ab)) fun r0 =>
 bnd (Ao (⟨x3.X,x3.Y,(⟨x3.Z.Lo,x3.Z.Hi⟩:Ak)⟩:Ab)) fun r1 =>
 bnd (Ho (⟨s1.1,s1.2.1⟩:Ac) (⟨s1.2.2.1,s1.2.2.2⟩:Ac) r0 r1) fun r2 =>
 if r2=true then (some (.inr (.inr (63))))
 else (some (.inl (w64 (s2+1)))))
 else (some (.inr (.inl ())))
noncomputable def Ez (p1:List Aa) (p0:List Ab):Int→Option (Sum Int (Sum Unit Int)):=fun s0 =>
 if s0 < ((((p1).length:Nat):Int)) then (jn (fun (s1:Unit) =>
 some (.inl (w64 (s0+1))))
 (fun j0=>jn (fun (s2:Int × Int × Int × Int) =>
 jn (fun (s3:Unit) =>
 bnd (lfix (Dh s0 p1 p0 s2) 0) fun t0 =>
 (match t0 with
 | (.inl z0)=>j0 z0
 | (.inr (z0))=>some (.inr (.inr (z0)))
 ))
 (fun j1=>bnd (lfix (Dg p0 p1 s0 s2) 0) fun t1 =>
 (match t1 with
 | (.inl z1)=>j1 z1
 | (.inr (z1))=>some (.inr (.inr (z1)))
 )))
 (fun j2=>bnd (idx p1 s0) fun x0 =>
 bnd (idx p0 x0.a0) fun x1 =>
 bnd (idx p1 s0) fun x2 =>
 bnd (idx p0 x2.a1) fun x3 =>
 bnd (Ao (⟨x1.X,x1.Y,(⟨x1.Z.Lo,x1.Z.Hi⟩:Ak)⟩:Ab)) fun r0 =>
 bnd (Ao (⟨x3.X,x3.Y,(⟨x3.Z.Lo,x3.Z.Hi⟩:Ak)⟩:Ab)) fun r1 =>
 j2 (r0.X,r0.Y,r1.X,r1.Y))))
 else (some (.inr (.inl ())))
noncomputable def Fi (p0:List Ab) (p1:List Aa):Option Int :=
 jn (fun (s2:Unit) =>
 jn (fun (s0:Unit) =>
 some 0)
 (fun j0=>bnd (lfix (Ez p1 p0) 0) fun t0 =>
 (match t0 with
 | (.inl z0)=>j0 z0
 | (.inr (z0))=>some z0
 )))
 (fun j2=>bnd (lfix (Fn p1 p0) 0) fun t1 =>
 (match t1 with
 | (.inl z1)=>j2 z1
 | (.inr (z1))=>some z1
 ))
noncomputable def Jn (p0:List Ab) (p1:List Aa):Option Int :=
 bnd (Iq p0) fun r1 =>
 if r1=0 then (bnd (Fi p0 p1) fun r7 =>
 some r7)
 else (some r1)
noncomputable def Jz (p1:List Aa) (p0:List Ab) (p2:Int) (p3:Int):Int→Option (Sum Int (Sum Unit Bool)):=fun s0 =>
 if s0 < ((((p1).length:Nat):Int)) then (bnd (idx p1 s0) fun x0 =>
 bnd (idx p0 p2) fun x1 =>
 bnd (idx p0 p3) fun x2 =>
 bnd (idx p0 x0.a0) fun x3 =>
 bnd (idx p0 x0.a1) fun x4 =>
 bnd (Ao (⟨x1.X,x1.Y,(⟨x1.Z.Lo,x1.Z.Hi⟩:Ak)⟩:Ab)) fun r0 =>
 bnd (Ao (⟨x2.X,x2.Y,(⟨x2.Z.Lo,x2.Z.Hi⟩:Ak)⟩:Ab)) fun r1 =>
 bnd (Ao (⟨x3.X,x3.Y,(⟨x3.Z.Lo,x3.Z.Hi⟩:Ak)⟩:Ab)) fun r2 =>
 bnd (Ao (⟨x4.X,x4.Y,(⟨x4.Z.Lo,x4.Z.Hi⟩:Ak)⟩:Ab)) fun r3 =>
 bnd (Ho r0 r1 r2 r3) fun r4 =>
 if r4=true then (some (.inr (.inr (false))))
 else (some (.inl (w64 (s0+1)))))
 else (some (.inr (.inl ())))
noncomputable def Im (p0:List Ab) (p1:List Aa) (p2:Int) (p3:Int):Option Bool :=
 jn (fun (s2:Unit) =>
 some true)
 (fun j2=>bnd (lfix (Jz p1 p0 p2 p3) 0) fun t0 =>
 (match t0 with
 | (.inl z0)=>j2 z0
 | (.inr (z0))=>some z0
 ))
noncomputable def Ka (s0:List Int) (x0:Int):(Bool × Int)→Option (Sum (Bool × Int) Bool):=fun s1 =>
 if s1.2 < ((((s0).length:Nat):Int)) then (jn (fun (s2:Bool) =>
 some (.inl (s2,w64 (s1.2+1))))
 (fun j0=>bnd (idx s0 s1.2) fun x1 =>
 if s1.1=true then (j0 true)
 else (j0 (decide (x1=x0)))))
 else (some (.inr s1.1))
noncomputable def Kb (p3:List Int) (p0:List Ab) (p1:Int) (s0:List Int):(Int × Int)→Option (Sum (Int × Int) Int):=fun s1 =>
 if s1.2 < ((((p3).length:Nat):Int)) then (jn (fun (s2:Int) =>
 some (.inl (s2,w64 (s1.2+1))))
 (fun j0=>bnd (idx p3 s1.2) fun x0 =>
 jn (fun (s3:Bool) =>
 jn (fun (s4:Bool) =>
 if s4=true then (j0 x0)
 else (j0 s1.1))
 (fun j1=>if s3=true then (j1 false)
 else (if s1.1 < 0 then (j1 true)
 else (bnd (idx p0 p1) fun x1 =>
 bnd (idx p0 x0) fun x2 =>
 bnd (idx p0 s1.1) fun x3 =>
 bnd (Ao (⟨x1.X,x1.Y,(⟨x1.Z.Lo,x1.Z.Hi⟩:Ak)⟩:Ab)) fun r0 =>
 bnd (Ao (⟨x2.X,x2.Y,(⟨x2.Z.Lo,x2.Z.Hi⟩:Ak)⟩:Ab)) fun r1 =>
 bnd (Ao (⟨x3.X,x3.Y,(⟨x3.Z.Lo,x3.Z.Hi⟩:Ak)⟩:Ab)) fun r2 =>
 bnd (Cx r0 r1 r2) fun r3 =>
 j1 (decide (0 < r3))))))
 (fun j2=>bnd (lfix (Ka s0 x0) (false,0)) fun t0 =>
 j2 t0)))
 else (some (.inr s1.1))
noncomputable def Mn (p3:List Int) (p0:List Ab) (p1:Int):(List Int)→Option (Sum (List Int) (List Int)):=fun s0 =>
 if ((((s0).length:Nat):Int)) < (w64 (((((p3).length:Nat):Int))+2)) then (jn (fun (s1:Int) =>
 gd (((s0).length+1)*8≤140737488355328) <|
 some (.inl (s0++[s1])))
 (fun j0=>bnd (lfix (Kb p3 p0 p1 s0) (-1,0)) fun t0 =>
 j0 t0))
 else (some (.inr s0))
noncomputable def Ku (p0:List Ab) (p1:Int) (p2:Int) (p3:List Int):Option (List Int) :=
 jn (fun (s3:List Int) =>
 some s3)
 (fun j3=>bnd (lfix (Mn p3 p0 p1) ([p1,p2])) fun t0 =>
 j3 t0)
noncomputable def It (s0:List Int) (p0:List Ab):(Int × Int)→Option (Sum (Int × Int) Int):=fun s1 =>
 if s1.2 < ((((s0).length:Nat):Int)) then (jn (fun (s2:Int) =>
 some (.inl (s2,w64 (s1.2+1))))
 (fun j0=>bnd (idx s0 s1.2) fun x0 =>
 bnd (idx p0 x0) fun x1 =>
 bnd (idx s0 s1.1) fun x2 =>
 bnd (idx p0 x2) fun x3 =>
 bnd (Ao (⟨x1.X,x1.Y,(⟨x1.Z.Lo,x1.Z.Hi⟩:Ak)⟩:Ab)) fun r0 =>
 bnd (Ao (⟨x3.X,x3.Y,(⟨x3.Z.Lo,x3.Z.Hi⟩:Ak)⟩:Ab)) fun r1 =>
 bnd (Gi r0 r1) fun r2 =>
 if r2=true then (j0 s1.2)
 else (j0 s1.1)))
 else (some (.inr s1.1))
noncomputable def Ib (s0:List Int) (s1:Int):((List Int) × Int)→Option (Sum ((List Int) × Int) (List Int)):=fun s2 =>
 if s2.2 < ((((s0).length:Nat):Int)) then (jn (fun (s3:List Int) =>
 some (.inl (s3,w64 (s2.2+1))))
 (fun j0=>if s2.2=s1 then (j0 s2.1)
 else (bnd (idx s0 s2.2) fun x0 =>
 gd (((s2.1).length+1)*8≤140737488355328) <|
 j0 (s2.1++[x0]))))
 else (some (.inr s2.1))
noncomputable def Fc (p2:Int) (p1:Int) (p0:List Ab):(List Int)→Option (Sum (List Int) (Sum (List Int) Int)):=fun s0 =>
 if 3 < ((((s0).length:Nat):Int)) then (jn (fun (s1:Int) =>
 gd (((((s0).length:Nat):Int))≠0) <|
 bnd (idx s0 (Int.tmod (w64 ((w64 (s1+((((s0).length:Nat):Int))))-1)) ((((s0).length:Nat):Int)))) fun x0 =>
 gd (((((s0).length:Nat):Int))≠0) <|
 bnd (idx s0 (Int.tmod (w64 (s1+1)) ((((s0).length:Nat):Int)))) fun x1 =>
 jn (fun (s2:Bool) =>
 if s2=true then (some (.inr (.inr (x0))))
 else (jn (fun (s3:Bool) =>
 if s3=true then (some (.inr (.inr (x1))))
 else (jn (fun (s4:List Int) =>
 some (.inl s4))
 (fun j0=>bnd (lfix (Ib s0 s1) (([]:List Int),0)) fun t0 =>
 j0 t0)))
 (fun j1=>bnd (idx s0 s1) fun x2 =>
 if x2=p2 then (j1 (decide (x0=p1)))
 else (j1 false))))
 (fun j2=>bnd (idx s0 s1) fun x3 =>
 if x3=p1 then (j2 (decide (x1=p2)))
 else (j2 false)))
 (fun j3=>bnd (lfix (It s0 p0) (0,0)) fun t1 =>
 j3 t1))
 else (some (.inr (.inl s0)))
noncomputable def Dz (s2:List Int) (p1:Int) (p2:Int):Int→Option (Sum Int (Sum Unit Int)):=fun s0 =>
 if s0 < ((((s2).length:Nat):Int)) then (bnd (idx s2 s0) fun x0 =>
 jn (fun (s1:Bool) =>
 if s1=true then (some (.inr (.inr (x0))))
 else (some (.inl (w64 (s0+1)))))
 (fun j0=>if x0=p1 then (j0 false)
 else (j0 (!(decide (x0=p2))))))
 else (some (.inr (.inl ())))
noncomputable def Jo (p0:List Ab) (p1:Int) (p2:Int) (p3:List Int):Option Int :=
 jn (fun (s2:List Int) =>
 jn (fun (s0:Unit) =>
 some (-1))
 (fun j0=>bnd (lfix (Dz s2 p1 p2) 0) fun t0 =>
 (match t0 with
 | (.inl z0)=>j0 z0
 | (.inr (z0))=>some z0
 )))
 (fun j2=>bnd (lfix (Fc p2 p1 p0) p3) fun t1 =>
 (match t1 with
 | (.inl z1)=>j2 z1
 | (.inr (z1))=>some z1
 ))
noncomputable def Kc (p0:List Ab) (p2:Int) (p3:Int) (p1:List Aa):((List Int) × Int)→Option (Sum ((List Int) × Int) (List Int)):=fun s0 =>
 if s0.2 < ((((p0).length:Nat):Int)) then (jn (fun (s1:List Int) =>
 some (.inl (s1,w64 (s0.2+1))))
 (fun j0=>jn (fun (s2:Bool) =>
 if s2=true then (j0 s0.1)
 else (if ((((s0.1).length:Nat):Int))=0 then (j0 ([s0.2]))
 else (bnd (idx p0 p2) fun x0 =>
 bnd (idx p0 p3) fun x1 =>
 bnd (idx s0.1 0) fun x2 =>
 bnd (idx p0 x2) fun x3 =>
 bnd (idx p0 s0.2) fun x4 =>
 bnd (Ao (⟨x0.X,x0.Y,(⟨x0.Z.Lo,x0.Z.Hi⟩:Ak)⟩:Ab)) fun r0 =>
 bnd (Ao (⟨x1.X,x1.Y,(⟨x1.Z.Lo,x1.Z.Hi⟩:Ak)⟩:Ab)) fun r1 =>
 bnd (Ao (⟨x3.X,x3.Y,(⟨x3.Z.Lo,x3.Z.Hi⟩:Ak)⟩:Ab)) fun r2 =>
 bnd (Ao (⟨x4.X,x4.Y,(⟨x4.Z.Lo,x4.Z.Hi⟩:Ak)⟩:Ab)) fun r3 =>
 bnd (Id r0 r1 r2 r3) fun r4 =>
 if r4=1 then (j0 ([s0.2]))
 else (if r4=0 then (gd (((s0.1).length+1)*8≤140737488355328) <|
 j0 (s0.1++[s0.2]))
 else (j0 s0.1)))))
 (fun j1=>bnd (idx p0 p2) fun x5 =>
 bnd (idx p0 p3) fun x6 =>
 bnd (idx p0 s0.2) fun x7 =>
 bnd (Ao (⟨x5.X,x5.Y,(⟨x5.Z.Lo,x5.Z.Hi⟩:Ak)⟩:Ab)) fun r5 =>
 bnd (Ao (⟨x6.X,x6.Y,(⟨x6.Z.Lo,x6.Z.Hi⟩:Ak)⟩:Ab)) fun r6 =>
 bnd (Ao (⟨x7.X,x7.Y,(⟨x7.Z.Lo,x7.Z.Hi⟩:Ak)⟩:Ab)) fun r7 =>
 bnd (Cx r5 r6 r7) fun r8 =>
 if r8≤0 then (j1 true)
 else (bnd (Im p0 p1 p2 s0.2) fun r9 =>
 if r9=true then (bnd (Im p0 p1 p3 s0.2) fun r10 =>
 j1 (!(r10)))
 else (j1 true)))))
 else (some (.inr s0.1))
noncomputable def Kv (p0:List Ab) (p1:List Aa) (p2:Int) (p3:Int):Option Int :=
 jn (fun (s3:List Int) =>
 if ((((s3).length:Nat):Int))=0 then (some (-1))
 else (bnd (Ku p0 p2 p3 s3) fun r0 =>
 bnd (Jo p0 p2 p3 r0) fun r1 =>
 some r1))
 (fun j3=>bnd (lfix (Kc p0 p2 p3 p1) (([]:List Int),0)) fun t0 =>
 j3 t0)
set_option maxHeartbeats 1000000 in
set_option maxRecDepth 100000 in
instance Zp (p0:Ac) (p1:Ac) (p2:Ac) (p3:Ac):Con (Ho p0 p1 p2 p3) Tryz.prog 109 (fun _ vs=>vs=[.agg #[.int .i64 (p0.X),.int .i64 (p0.Y)],.agg #[.int .i64 (p1.X),.int .i64 (p1.Y)],.agg #[.int .i64 (p2.X),.int .i64 (p2.Y)],.agg #[.int .i64 (p3.X),.int .i64 (p3.Y)]]) (fun _ r=>fun v Ln=>v = .bool (r)∧Ln=[]∧True):=⟨by
 rintro _ _ r rfl hx w hK;unfold Ho at hx;have:=dl 1 [1,1,1,2,1,1,1,2,0,0,0,1,1,1,2,1,1,1,2,0,0,0,2] [0,1,2,4,5,6,3,7,8,9,10,11,12,13,15,16,17,14,18,19,20,21,22];refine CtS Tryz.ntmps109 Tryz.results109 ?_;exact au⟩
theorem Yf (p0:Ac) (p1:Ac) (p2:Ac) (p3:Ac)  {r:Bool} (hx:Ho p0 p1 p2 p3=some r) (w:World):CtL Tryz.prog 109 [.agg #[.int .i64 (p0.X),.int .i64 (p0.Y)],.agg #[.int .i64 (p1.X),.int .i64 (p1.Y)],.agg #[.int .i64 (p2.X),.int .i64 (p2.Y)],.agg #[.int .i64 (p3.X),.int .i64 (p3.Y)]] w fun v Ln=>v = .bool (r)∧Ln=[]∧True:=(Zp p0 p1 p2 p3).h [] _ _ rfl hx w (fun _ h=>absurd h List.not_mem_nil)
set_option maxHeartbeats 1000000 in
set_option maxRecDepth 100000 in
theorem Tn (p0:List Ab) (p1:List Aa) {K:List Ent} {A0_0:Option Addr} {c0_0:Nat} {A0_1:Option Addr} {c0_1:Nat} (ha0:Has K A0_0 p0.length c0_0 4 Ae (p0)) (ha1:Has K A0_1 p1.length c0_1 2 Ag (p1)) {r:Int} (hx:Fi p0 p1=some r) (w:World) (hK:∀ e∈K,Ent.ok w e):CtL Tryz.prog 52 [.slice (A0_0) (p0.length) (c0_0),.slice (A0_1) (p1.length) (c0_1)] w fun v Ln=>v = .int .i64 (r)∧Ln=[]∧True:=by
 have ha0':=Has.up0 ha0;have ha1':=Has.up0 ha1;refine CtL.mk 187 Tryz.func52 rfl Tryz.ntmps52 (by kernel_rfl) rfl ?_;show T 187 _ [(0,.slice (A0_0) (p0.length) (c0_0)),(1,.slice (A0_1) (p1.length) (c0_1))] _;unfold Fi at hx;refine Y5 ?_;refine Tj (γ:=Unit) hx (fun s2 y2=>[(0,.slice (A0_0) (p0.length) (c0_0)),(1,.slice (A0_1) (p1.length) (c0_1))]) (fun s2 y2=>[]++[.old w]) (fun s2 y2=>True) (fun s2 y2 hx0 hG0=>?_) (fun j2 hx=>?_)
 ·refine Tj (γ:=Unit) hx0 (fun s0 y0=>[]) (fun s0 y0=>[]++[.old w]) (fun s0 y0=>True) (fun s0 y0 hx1 hG1=>?_) (fun j0 hx0=>?_)
  ·refine Y6 ?_;obtain rfl:=Option.some.inj hx1;exact Cu (rs:=[.tmp 4]) Tryz.results52 (.tmp rfl (.nil)) (Ln:=[]) ⟨rfl,rfl,trivial⟩ (Dk) (by exact .refl)
  ·refine Y3 ?_;refine Al (Bx rfl 48 Tryz.underlying23) rfl ?_;refine Y4 ?_;obtain ⟨t0,hl0,ho0⟩:=Ad hx0;refine Lp (σ:=Int) (γ:=Unit) hl0 (fun s1 y1=>[(0,.slice (A0_0) (p0.length) (c0_0)),(1,.slice (A0_1) (p1.length) (c0_1)),(106,.int .i64 (((p1.length:Nat):Int))),(107,.int .i64 (s1))]) (fun s1 y1=>[]++[.old w]) (fun s1 y1=>True) () trivial (by exact .refl) ?_;intro s1 y1 hG2 x0 hx2 ht0;unfold Ez at hx2;refine Y6 ?_;refine Ti hx2 (s:=108) rfl (fun h0 hx3=>?_) (fun h0 hx4=>?_)
   ·refine Y3 ?_;refine Tj (γ:=Unit) hx3 (fun s3 y3=>[(0,.slice (A0_0) (p0.length) (c0_0)),(1,.slice (A0_1) (p1.length) (c0_1)),(106,.int .i64 (((p1.length:Nat):Int))),(107,.int .i64 (s1))]) (fun s3 y3=>[]++[.old w]) (fun s3 y3=>True) (fun s3 y3 hx5 hG3=>?_) (fun j1 hx3=>?_)
    ·refine Y4 ?_;exact Rp (w64 (s1+1)) () hx5 trivial (by exact .refl)
    ·refine Y7 ?_;refine Tj (γ:=Nat × Nat) hx3 (fun s4 y4=>[(0,.slice (A0_0) (p0.length) (c0_0)),(1,.slice (A0_1) (p1.length) (c0_1)),(7,.int .i64 (s1)),(8,.pointer (some ⟨y4.1,0,none⟩)),(9,.pointer (some ⟨y4.2,0,none⟩)),(106,.int .i64 (((p1.length:Nat):Int))),(107,.int .i64 (s1))]) (fun s4 y4=>[.m y4.2 38 [.int .i64 (s4.2.2.1),.int .i64 (s4.2.2.2)],.m y4.1 38 [.int .i64 (s4.1),.int .i64 (s4.2.1)]]++[.old w]) (fun s4 y4=>True) (fun s4 y4 hx6 hG4=>?_) (fun j3 hx3=>?_)
     ·refine Tj (γ:=Unit) hx6 (fun s5 y5=>[(0,.slice (A0_0) (p0.length) (c0_0)),(1,.slice (A0_1) (p1.length) (c0_1)),(7,.int .i64 (s1)),(8,.pointer (some ⟨y4.1,0,none⟩)),(9,.pointer (some ⟨y4.2,0,none⟩)),(106,.int .i64 (((p1.length:Nat):Int))),(107,.int .i64 (s1))]) (fun s5 y5=>[.m y4.2 38 [.int .i64 (s4.2.2.1),.int .i64 (s4.2.2.2)],.m y4.1 38 [.int .i64 (s4.1),.int .i64 (s4.2.1)]]++[.old w]) (fun s5 y5=>True) (fun s5 y5 hx7 hG5=>?_) (fun j4 hx6=>?_)
      ·refine Y6 ?_;obtain ⟨t1,hl1,ho1⟩:=Ad hx7;refine Lp (σ:=Int) (γ:=Unit) hl1 (fun s6 y6=>[(0,.slice (A0_0) (p0.length) (c0_0)),(1,.slice (A0_1) (p1.length) (c0_1)),(7,.int .i64 (s1)),(8,.pointer (some ⟨y4.1,0,none⟩)),(9,.pointer (some ⟨y4.2,0,none⟩)),(11,.int .i64 (s6)),(106,.int .i64 (((p1.length:Nat):Int))),(107,.int .i64 (s1))]) (fun s6 y6=>[.m y4.2 38 [.int .i64 (s4.2.2.1),.int .i64 (s4.2.2.2)],.m y4.1 38 [.int .i64 (s4.1),.int .i64 (s4.2.1)]]++[.old w]) (fun s6 y6=>True) () trivial (by exact .pick 0 rfl (.pick 0 rfl (.refl))) ?_;intro s6 y6 hG6 x1 hx8 ht1;unfold Dh at hx8;refine Y8 ?_;refine Ti hx8 (s:=162) rfl (fun h1 hx9=>?_) (fun h1 hx10=>?_)
       ·refine Y6 ?_;refine T_dr [1,1,0,0,0,0,0,1,0,1,2,0,0,0,0,0,1,0,1,2,2] (.q 0 (.q 1 (.q 2 (.q 3 (.q 4 (.q 5 (.q 6 (.q 7 (.q 8 (.q 9 (.q 11 (.q 12 (.q 13 (.q 14 (.q 15 (.q 16 (.q 17 (.q 18 (.e 10 (.e 19 (.e 20 (.done) (.stop)) (.stop)) (.stop)))))))))))))))))))) mixed (by kernel_rfl) (by kernel_rfl) ?_;refine P_q rfl rfl (Cy rfl (i:=1) rfl rfl Wd) rfl ?_;refine P_q rfl rfl (Cy rfl (i:=0) rfl rfl Wd) rfl ?_;refine Y3 ?_;obtain ⟨x2,h2,hx11⟩:=Ad hx9;have hw0:=Has.low (E:=[]) ha1' hK;obtain ⟨b0,o0,j5,hA0,hj0,hl2,hp0⟩:=Has.at_idx hw0 h2;refine P_p rfl rfl (Ay rfl rfl hA0 (j:=j5) hj0 hl2 Fa) rfl ?_;refine P_p rfl rfl (Aq rfl rfl By (by decide) (by decide) rfl) rfl ?_;refine P_q rfl rfl (Do (d:=0) rfl hp0 (sb 2) rfl one3) rfl ?_;obtain ⟨x3,h3,hx12⟩:=Ad hx11;refine P_il (Has.low (E:=[]) ha0' hK) h3 Jf Kg (sb 2) (fun b1 o1=>?_);refine Y3 ?_;obtain ⟨x4,h4,hx13⟩:=Ad hx12;have hw2:=Has.low (E:=[]) ha1' hK;obtain ⟨b2,o2,j6,hA1,hj1,hl3,hp1⟩:=Has.at_idx hw2 h4;refine P_p rfl rfl (Ay rfl rfl hA1 (j:=j6) hj1 hl3 Fa) rfl ?_;refine P_p rfl rfl (Aq rfl rfl By (by decide) (by decide) rfl) rfl ?_;refine P_q rfl rfl (Do (d:=1) rfl hp1 (sb 2) rfl one3) rfl ?_;obtain ⟨x5,h5,hx14⟩:=Ad hx13
        refine P_il (Has.low (E:=[]) ha0' hK) h5 Jf Kg (sb 2) (fun b3 o3=>?_);obtain ⟨r0,h6,hx15⟩:=Ad hx14;refine Pc (fun w1 hw1=>Bl (⟨x3.X,x3.Y,(⟨x3.Z.Lo,x3.Z.Hi⟩:Ak)⟩:Ab)  h6 w1) ?_;obtain ⟨r1,h7,hx16⟩:=Ad hx15;refine Pc (fun w1 hw1=>Bl (⟨x5.X,x5.Y,(⟨x5.Z.Lo,x5.Z.Hi⟩:Ak)⟩:Ab)  h7 w1) ?_;obtain ⟨r2,h8,hx17⟩:=Ad hx16;refine Pc (fun w1 hw1=>Yf (⟨s4.1,s4.2.1⟩:Ac) (⟨s4.2.2.1,s4.2.2.2⟩:Ac) r0 r1  h8 w1) ?_;refine Y2 ?_;refine Da (s:=185) rfl (fun h9=>?_) (fun h9=>?_)
        ·have hx18:=Dd h9 hx17;refine Y9 ?_;obtain rfl:=Bm ht1 hx18;refine Y4 ?_;obtain rfl:=Bm ht0 ho1;refine Y3 ?_;obtain rfl:=Option.some.inj ho0;exact Cu (rs:=[.tmp 4]) Tryz.results52 (.tmp rfl (.nil)) (Ln:=[]) ⟨rfl,rfl,trivial⟩ (Dk) (by exact .drop 0 rfl (.drop 0 rfl (.refl)))
        ·have hx19:=Dr h9 hx17;refine Y9 ?_;exact Rp (w64 (s6+1)) () hx19 trivial (by exact .pick 0 rfl (.pick 0 rfl (.refl)))
       ·refine Y3 ?_;obtain rfl:=Bm ht1 hx10;refine Y3 ?_;exact Mt () () ho1 trivial (by exact .drop 0 rfl (.drop 0 rfl (.refl)))
      ·refine Y3 ?_;refine Al (Bx rfl 43 Tryz.underlying22) rfl ?_;refine Y4 ?_;obtain ⟨t2,hl4,ho2⟩:=Ad hx6;refine Lp (σ:=Int) (γ:=Unit) hl4 (fun s7 y7=>[(0,.slice (A0_0) (p0.length) (c0_0)),(1,.slice (A0_1) (p1.length) (c0_1)),(7,.int .i64 (s1)),(8,.pointer (some ⟨y4.1,0,none⟩)),(9,.pointer (some ⟨y4.2,0,none⟩)),(106,.int .i64 (((p1.length:Nat):Int))),(107,.int .i64 (s1)),(129,.int .i64 (((p0.length:Nat):Int))),(130,.int .i64 (s7))]) (fun s7 y7=>[.m y4.2 38 [.int .i64 (s4.2.2.1),.int .i64 (s4.2.2.2)],.m y4.1 38 [.int .i64 (s4.1),.int .i64 (s4.2.1)]]++[.old w]) (fun s7 y7=>True) () trivial (by exact .pick 0 rfl (.pick 0 rfl (.refl))) ?_;intro s7 y7 hG7 x6 hx20 ht2;unfold Dg at hx20;refine Y6 ?_;refine Ti hx20 (s:=131) rfl (fun h10 hx21=>?_) (fun h10 hx22=>?_)
       ·refine Y11 ?_;refine Tj (γ:=Unit) hx21 (fun s8 y8=>[(0,.slice (A0_0) (p0.length) (c0_0)),(1,.slice (A0_1) (p1.length) (c0_1)),(7,.int .i64 (s1)),(8,.pointer (some ⟨y4.1,0,none⟩)),(9,.pointer (some ⟨y4.2,0,none⟩)),(106,.int .i64 (((p1.length:Nat):Int))),(107,.int .i64 (s1)),(129,.int .i64 (((p0.length:Nat):Int))),(130,.int .i64 (s7)),(158,.bool (s8))]) (fun s8 y8=>[.m y4.2 38 [.int .i64 (s4.2.2.1),.int .i64 (s4.2.2.2)],.m y4.1 38 [.int .i64 (s4.1),.int .i64 (s4.2.1)]]++[.old w]) (fun s8 y8=>True) (fun s8 y8 hx23 hG8=>?_) (fun j7 hx21=>?_)
        ·refine Da (s:=158) rfl (fun h11=>?_) (fun h11=>?_)
         ·have hx24:=Dd h11 hx23;refine Y9 ?_;obtain rfl:=Bm ht2 hx24;refine Y5 ?_;obtain rfl:=Bm ht0 ho2;refine Y3 ?_;obtain rfl:=Option.some.inj ho0;exact Cu (rs:=[.tmp 4]) Tryz.results52 (.tmp rfl (.nil)) (Ln:=[]) ⟨rfl,rfl,trivial⟩ (Dk) (by exact .drop 0 rfl (.drop 0 rfl (.refl)))
         ·have hx25:=Dr h11 hx23;refine Y8 ?_;exact Rp (w64 (s7+1)) () hx25 trivial (by exact .pick 0 rfl (.pick 0 rfl (.refl)))
        ·refine T_dr [0,0,0,0,0,1,0,0,0,0,0,0,0,1,0,0,0,1,1,0,0,0,1,2,2,0] (.q 0 (.q 1 (.q 2 (.q 3 (.q 4 (.q 5 (.q 6 (.q 7 (.q 8 (.q 9 (.q 10 (.q 11 (.q 12 (.q 13 (.q 14 (.q 15 (.q 16 (.q 17 (.q 18 (.q 19 (.q 20 (.q 21 (.q 22 (.e 23 (.e 24 (.q 25 (.done)) (.stop)) (.stop))))))))))))))))))))))))) mixed (by kernel_rfl) (by kernel_rfl) ?_;refine Y3 ?_;obtain ⟨x7,h12,hx26⟩:=Ad hx21;have hw3:=Has.low (E:=[]) ha1' hK;obtain ⟨b4,o4,j8,hA2,hj2,hl5,hp2⟩:=Has.at_idx hw3 h12;refine P_p rfl rfl (Ay rfl rfl hA2 (j:=j8) hj2 hl5 Fa) rfl ?_;refine P_p rfl rfl (Aq rfl rfl By (by decide) (by decide) rfl) rfl ?_;refine P_q rfl rfl (Do (d:=0) rfl hp2 (sb 2) rfl one3) rfl ?_;refine Y2 ?_;refine Ms (s:=140) rfl (fun h13=>?_) (fun h13=>?_)
         ·have hx27:=Pb h13 hx26;refine Y3 ?_;obtain ⟨x8,h14,hx28⟩:=Ad hx27;have hw4:=Has.low (E:=[]) ha1' hK;obtain ⟨b5,o5,j9,hA3,hj3,hl6,hp3⟩:=Has.at_idx hw4 h14;refine P_pG rfl rfl rfl rfl rfl (Ay rfl rfl hA3 (j:=j9) hj3 hl6 Fa) rfl ?_;refine P_pG rfl rfl rfl rfl rfl (Aq rfl rfl By (by decide) (by decide) rfl) rfl ?_;refine P_qG rfl rfl rfl rfl rfl (Do (d:=1) rfl hp3 (sb 2) rfl one3) rfl ?_;refine Y3 ?_;refine Ms (s:=149) rfl (fun h15=>?_) (fun h15=>?_)
          ·have hx29:=Pb h15 hx28;refine P_qG rfl rfl rfl rfl rfl (Cy rfl (i:=1) rfl rfl Wd) rfl ?_;refine P_qG rfl rfl rfl rfl rfl (Cy rfl (i:=0) rfl rfl Wd) rfl ?_;refine Y2 ?_;obtain ⟨x9,h16,hx30⟩:=Ad hx29;have hw5:=Has.low (E:=[]) ha0' hK;obtain ⟨b6,o6,j10,hA4,hj4,hl7,hp4⟩:=Has.at_idx hw5 h16;refine P_pG rfl rfl rfl rfl rfl (Ay rfl rfl hA4 (j:=j10) hj4 hl7 Jf) rfl ?_;refine P_qG rfl rfl rfl rfl rfl (Cg rfl hp4 (sb 2) rfl Kg) rfl ?_;obtain ⟨r3,h17,hx31⟩:=Ad hx30;refine P_xG rfl rfl rfl rfl (Bk rfl (fun w1 hw1=>Bl (⟨x9.X,x9.Y,(⟨x9.Z.Lo,x9.Z.Hi⟩:Ak)⟩:Ab)  h17 w1) rfl ?_) ?_;rotate_left;exact Az;rintro _ _ hlo ⟨rfl,rfl,-⟩;refine Ee ?_;obtain ⟨r4,h18,hx32⟩:=Ad hx31;refine P_xG rfl rfl rfl rfl (Bk rfl (fun w1 hw1=>Vw (⟨s4.1,s4.2.1⟩:Ac) (⟨s4.2.2.1,s4.2.2.2⟩:Ac) r3  h18 w1) rfl ?_) ?_;rotate_left;exact Az;rintro _ _ hlo ⟨rfl,rfl,-⟩;refine Ee ?_;refine Y2 ?_;exact Mt r4 () hx32 trivial (by exact .pick 0 rfl (.pick 0 rfl (.refl)))
          ·have hx33:=Dd h15 hx28;refine Y6 ?_;refine Dv rfl rfl rfl rfl rfl rfl ?_ ?_;rotate_left;exact Az;refine Dv rfl rfl rfl rfl rfl rfl ?_ ?_;rotate_left;exact Az;refine Y2 ?_;exact Mt false () hx33 trivial (by exact .pick 0 rfl (.pick 0 rfl (.refl)))
         ·have hx34:=Dd h13 hx26;(iterate 15 refine Y ?_);refine Dv rfl rfl rfl rfl rfl rfl ?_ ?_;rotate_left;exact Az;refine Dv rfl rfl rfl rfl rfl rfl ?_ ?_;rotate_left;exact Az;refine Y2 ?_;exact Mt false () hx34 trivial (by exact .pick 0 rfl (.pick 0 rfl (.refl)))
       ·refine Y3 ?_;obtain rfl:=Bm ht2 hx22;refine Y2 ?_;exact Mt () () ho2 trivial (by exact .pick 0 rfl (.pick 0 rfl (.refl)))
     ·obtain ⟨x10,h19,hx35⟩:=Ad hx3;obtain ⟨x11,h20,hx36⟩:=Ad hx35;obtain ⟨x12,h21,hx37⟩:=Ad hx36;obtain ⟨x13,h22,hx38⟩:=Ad hx37;obtain ⟨r5,h23,hx39⟩:=Ad hx38;obtain ⟨r6,h24,hx40⟩:=Ad hx39;refine T_dr [0,0,0,0,0,1,0,1,2,0,0,0,0,0,1,0,1,2,2,2,3,3] (.q 0 (.q 1 (.q 2 (.q 3 (.q 4 (.q 5 (.q 6 (.q 7 (.q 9 (.q 10 (.q 11 (.q 12 (.q 13 (.q 14 (.q 15 (.q 16 (.e 8 (.e 17 (.e 18 (.e 19 (.e 20 (.e 21 (.done) (.stop)) (.stop)) (.stop)) (.e 19 (.e 18 (.e 20 (.e 21 (.done) (.stop)) (.stop)) (.stop)) (.stop))) (.e 18 (.e 17 (.e 19 (.e 20 (.e 21 (.done) (.stop)) (.stop)) (.stop)) (.e 19 (.e 17 (.e 20 (.e 21 (.done) (.stop)) (.stop)) (.stop)) (.stop))) (.e 19 (.e 17 (.e 18 (.e 20 (.e 21 (.done) (.stop)) (.stop)) (.stop)) (.e 18 (.e 17 (.e 20 (.e 21 (.done) (.stop)) (.stop)) (.stop)) (.stop))) (.stop)))) (.e 18 (.e 8 (.e 17 (.e 19 (.e 20 (.e 21 (.done) (.stop)) (.stop)) (.stop)) (.e 19 (.e 17 (.e 20 (.e 21 (.done) (.stop)) (.stop)) (.stop)) (.stop))) (.e 19 (.e 8 (.e 17 (.e 20 (.e 21 (.done) (.stop)) (.stop)) (.stop)) (.stop)) (.stop))) (.e 19 (.e 8 (.e 17 (.e 18 (.e 20 (.e 21 (.done) (.stop)) (.stop)) (.stop)) (.e 18 (.e 17 (.e 20 (.e 21 (.done) (.stop)) (.stop)) (.stop)) (.stop))) (.e 18 (.e 8 (.e 17 (.e 20 (.e 21 (.done) (.stop)) (.stop)) (.stop)) (.stop)) (.stop))) (.stop)))))))))))))))))))) mixed (by kernel_rfl) (by kernel_rfl) ?_;refine Y3 ?_;have hw6:=Has.low (E:=[]) ha1' hK;obtain ⟨b7,o7,j11,hA5,hj5,hl8,hp5⟩:=Has.at_idx hw6 h19
      refine P_p rfl rfl (Ay rfl rfl hA5 (j:=j11) hj5 hl8 Fa) rfl ?_;refine P_p rfl rfl (Aq rfl rfl By (by decide) (by decide) rfl) rfl ?_;refine P_q rfl rfl (Do (d:=0) rfl hp5 (sb 0) rfl one3) rfl ?_;refine P_il (Has.low (E:=[]) ha0' hK) h20 Jf Kg (sb 0) (fun b8 o8=>?_);refine Y3 ?_;have hw7:=Has.low (E:=[]) ha1' hK;obtain ⟨b9,o9,j12,hA6,hj6,hl9,hp6⟩:=Has.at_idx hw7 h21;refine P_p rfl rfl (Ay rfl rfl hA6 (j:=j12) hj6 hl9 Fa) rfl ?_;refine P_p rfl rfl (Aq rfl rfl By (by decide) (by decide) rfl) rfl ?_;refine P_q rfl rfl (Do (d:=1) rfl hp6 (sb 0) rfl one3) rfl ?_;refine P_il (Has.low (E:=[]) ha0' hK) h22 Jf Kg (sb 0) (fun b10 o10=>?_)
      repeat'
       first
       | (with_reducible exact Az)
       | ((with_reducible refine P_at 8 ?_);refine P_x rfl (Bk rfl (fun w1 hw1=>Bl (⟨x11.X,x11.Y,(⟨x11.Z.Lo,x11.Z.Hi⟩:Ak)⟩:Ab)  h23 w1) rfl ?_) ?_)
       | ((with_reducible refine P_at 17 ?_);refine P_x rfl (Bk rfl (fun w1 hw1=>Bl (⟨x13.X,x13.Y,(⟨x13.Z.Lo,x13.Z.Hi⟩:Ak)⟩:Ab)  h24 w1) rfl ?_) ?_)
       | ((with_reducible refine P_at 18 ?_);refine P_x rfl (Dq Akm rfl (fun g=>?_)) ?_)
       | ((with_reducible refine P_at 19 ?_);refine P_x rfl (Dq Akm rfl (fun g=>?_)) ?_)
       | ((with_reducible refine P_at 20 ?_);refine P_h rfl rfl (Bt rfl rfl rfl (.there (.here)) (.put (.put (.done))) rfl (List.cons_ne_nil _ _) Wd.2 ?_) ?_)
       | ((with_reducible refine P_at 21 ?_);refine P_h rfl rfl (Bt rfl rfl rfl (.here) (.put (.put (.done))) rfl (List.cons_ne_nil _ _) Wd.2 ?_) ?_)
       | ((with_reducible refine Apn ?_);exact Ajr (r5.X,r5.Y,r6.X,r6.Y) (_,_) hx40 trivial (by repeat (first | exact .nil | refine .cons rfl ?_)) (by repeat (first | exact .refl | refine .pick 0 rfl ?_ | refine .pick 1 rfl ?_ | refine .pick 2 rfl ?_ | refine .pick 3 rfl ?_ | refine .pick 4 rfl ?_ | refine .pick 5 rfl ?_ | refine .pick 6 rfl ?_ | refine .pick 7 rfl ?_)))
       | ((with_reducible refine P_at 20 ?_);refine P_h rfl rfl (Bt rfl rfl rfl (.here) (.put (.put (.done))) rfl (List.cons_ne_nil _ _) Wd.2 ?_) ?_)
       | ((with_reducible refine P_at 21 ?_);refine P_h rfl rfl (Bt rfl rfl rfl (.there (.here)) (.put (.put (.done))) rfl (List.cons_ne_nil _ _) Wd.2 ?_) ?_)
       | (rintro _ _ hlo ⟨rfl,rfl,-⟩;refine Ee ?_)
   ·refine Y3 ?_;obtain rfl:=Bm ht0 hx4;refine Y2 ?_;exact Mt () () ho0 trivial (by exact .refl)
 ·refine Y3 ?_;refine Al (Bx rfl 48 Tryz.underlying23) rfl ?_;refine Y4 ?_;obtain ⟨t3,hl10,ho3⟩:=Ad hx;refine Lp (σ:=Int) (γ:=Unit) hl10 (fun s9 y9=>[(0,.slice (A0_0) (p0.length) (c0_0)),(1,.slice (A0_1) (p1.length) (c0_1)),(13,.int .i64 (((p1.length:Nat):Int))),(14,.int .i64 (s9))]) (fun s9 y9=>[]++[.old w]) (fun s9 y9=>True) () trivial (by exact .refl) ?_;intro s9 y9 hG9 x14 hx41 ht3;unfold Fn at hx41;refine Y6 ?_;refine Ti hx41 (s:=15) rfl (fun h25 hx42=>?_) (fun h25 hx43=>?_)
  ·refine Y3 ?_;refine Tj (γ:=Unit) hx42 (fun s24 y24=>[(0,.slice (A0_0) (p0.length) (c0_0)),(1,.slice (A0_1) (p1.length) (c0_1)),(13,.int .i64 (((p1.length:Nat):Int))),(14,.int .i64 (s9))]) (fun s24 y24=>[]++[.old w]) (fun s24 y24=>True) (fun s24 y24 hx44 hG10=>?_) (fun j24 hx42=>?_)
   ·refine Y4 ?_;exact Rp (w64 (s9+1)) () hx44 trivial (by exact .refl)
   ·refine Y8 ?_;refine Tj (γ:=Unit) hx42 (fun s27 y27=>[(0,.slice (A0_0) (p0.length) (c0_0)),(1,.slice (A0_1) (p1.length) (c0_1)),(5,.int .i64 (s9)),(13,.int .i64 (((p1.length:Nat):Int))),(14,.int .i64 (s9)),(63,.bool (s27))]) (fun s27 y27=>[]++[.old w]) (fun s27 y27=>True) (fun s27 y27 hx45 hG11=>?_) (fun j27 hx42=>?_)
    ·refine Da (s:=63) rfl (fun h26=>?_) (fun h26=>?_)
     ·have hx46:=Dd h26 hx45;refine Y10 ?_;obtain rfl:=Bm ht3 hx46;refine Y3 ?_;obtain rfl:=Option.some.inj ho3;exact Cu (rs:=[.tmp 4]) Tryz.results52 (.tmp rfl (.nil)) (Ln:=[]) ⟨rfl,rfl,trivial⟩ (Dk) (by exact .refl)
     ·have hx47:=Dr h26 hx45;refine Y9 ?_;obtain ⟨t4,hl11,ho4⟩:=Ad hx47;refine Lp (σ:=Int) (γ:=Unit) hl11 (fun s10 y10=>[(0,.slice (A0_0) (p0.length) (c0_0)),(1,.slice (A0_1) (p1.length) (c0_1)),(5,.int .i64 (s9)),(6,.int .i64 (s10)),(13,.int .i64 (((p1.length:Nat):Int))),(14,.int .i64 (s9))]) (fun s10 y10=>[]++[.old w]) (fun s10 y10=>True) () trivial (by exact .refl) ?_;intro s10 y10 hG12 x15 hx48 ht4;unfold Dm at hx48;refine Y8 ?_;refine Ti hx48 (s:=66) rfl (fun h27 hx49=>?_) (fun h27 hx50=>?_)
      ·refine Y5 ?_;refine Tj (γ:=Unit) hx49 (fun s38 y38=>[(0,.slice (A0_0) (p0.length) (c0_0)),(1,.slice (A0_1) (p1.length) (c0_1)),(5,.int .i64 (s9)),(6,.int .i64 (s10)),(13,.int .i64 (((p1.length:Nat):Int))),(14,.int .i64 (s9)),(103,.bool (s38))]) (fun s38 y38=>[]++[.old w]) (fun s38 y38=>True) (fun s38 y38 hx51 hG13=>?_) (fun j38 hx49=>?_)
       ·refine Da (s:=103) rfl (fun h28=>?_) (fun h28=>?_)
        ·have hx52:=Dd h28 hx51;refine Y9 ?_;obtain rfl:=Bm ht4 hx52;refine Y4 ?_;obtain rfl:=Bm ht3 ho4;refine Y3 ?_;obtain rfl:=Option.some.inj ho3;exact Cu (rs:=[.tmp 4]) Tryz.results52 (.tmp rfl (.nil)) (Ln:=[]) ⟨rfl,rfl,trivial⟩ (Dk) (by exact .refl)
        ·have hx53:=Dr h28 hx51;refine Y9 ?_;exact Rp (w64 (s10+1)) () hx53 trivial (by exact .refl)
       ·refine T_dr [0,0,0,1,0,0,0,1,0,0,0,0,0,0,1,0,0,0,0,1,0,0,0,0,0,0,1,0,0,0,0,1,0,0,0] (.q 0 (.q 1 (.q 2 (.q 3 (.q 4 (.q 5 (.q 6 (.q 7 (.q 8 (.q 9 (.q 10 (.q 11 (.q 12 (.q 13 (.q 14 (.q 15 (.q 16 (.q 17 (.q 18 (.q 19 (.q 20 (.q 21 (.q 22 (.q 23 (.q 24 (.q 25 (.q 26 (.q 27 (.q 28 (.q 29 (.q 30 (.q 31 (.q 32 (.q 33 (.q 34 (.done)))))))))))))))))))))))))))))))))))) mixed (by kernel_rfl) (by kernel_rfl) ?_;refine Y2 ?_;obtain ⟨x16,h29,hx54⟩:=Ad hx49;refine P_il (Has.low (E:=[]) ha1' hK) h29 Fa Ds (sb 0) (fun b11 o11=>?_);refine Y2 ?_;obtain ⟨x17,h30,hx55⟩:=Ad hx54;refine P_il (Has.low (E:=[]) ha1' hK) h30 Fa Ds (sb 0) (fun b12 o12=>?_);refine P_p rfl rfl (Ak5 rfl rfl (by kernel_rfl) (As2 _ _ _ _)) rfl ?_;refine Y ?_;refine Da (s:=78) rfl (fun h31=>?_) (fun h31=>?_)
        ·have hx56:=Dd h31 hx55;(iterate 26 refine Y ?_);exact Mt true () hx56 trivial (by exact .refl)
        ·have hx57:=Dr h31 hx55;refine Y2 ?_;obtain ⟨x18,h32,hx58⟩:=Ad hx57;have hw8:=Has.low (E:=[]) ha1' hK;obtain ⟨b13,o13,j13,hA7,hj7,hl12,hp7⟩:=Has.at_idx hw8 h32;refine P_pG rfl rfl rfl rfl rfl (Ay rfl rfl hA7 (j:=j13) hj7 hl12 Fa) rfl ?_;refine P_pG rfl rfl rfl rfl rfl (Aq rfl rfl By (by decide) (by decide) rfl) rfl ?_;refine P_qG rfl rfl rfl rfl rfl (Do (d:=0) rfl hp7 (sb 0) rfl one3) rfl ?_;refine Y2 ?_;obtain ⟨x19,h33,hx59⟩:=Ad hx58;have hw9:=Has.low (E:=[]) ha1' hK;obtain ⟨b14,o14,j14,hA8,hj8,hl13,hp8⟩:=Has.at_idx hw9 h33;refine P_pG rfl rfl rfl rfl rfl (Ay rfl rfl hA8 (j:=j14) hj8 hl13 Fa) rfl ?_;refine P_pG rfl rfl rfl rfl rfl (Aq rfl rfl By (by decide) (by decide) rfl) rfl ?_;refine P_qG rfl rfl rfl rfl rfl (Do (d:=1) rfl hp8 (sb 0) rfl one3) rfl ?_;refine Y2 ?_;refine Ti hx59 (s:=90) rfl (fun h34 hx60=>?_) (fun h34 hx61=>?_)
         ·refine Y2 ?_;obtain ⟨x20,h35,hx62⟩:=Ad hx60;have hw10:=Has.low (E:=[]) ha1' hK;obtain ⟨b15,o15,j15,hA9,hj9,hl14,hp9⟩:=Has.at_idx hw10 h35;refine P_pG rfl rfl rfl rfl rfl (Ay rfl rfl hA9 (j:=j15) hj9 hl14 Fa) rfl ?_;refine P_pG rfl rfl rfl rfl rfl (Aq rfl rfl By (by decide) (by decide) rfl) rfl ?_;refine P_qG rfl rfl rfl rfl rfl (Do (d:=1) rfl hp9 (sb 0) rfl one3) rfl ?_;refine Y2 ?_;obtain ⟨x21,h36,hx63⟩:=Ad hx62;have hw11:=Has.low (E:=[]) ha1' hK;obtain ⟨b16,o16,j16,hA10,hj10,hl15,hp10⟩:=Has.at_idx hw11 h36;refine P_pG rfl rfl rfl rfl rfl (Ay rfl rfl hA10 (j:=j16) hj10 hl15 Fa) rfl ?_;refine P_pG rfl rfl rfl rfl rfl (Aq rfl rfl By (by decide) (by decide) rfl) rfl ?_;refine P_qG rfl rfl rfl rfl rfl (Do (d:=0) rfl hp10 (sb 0) rfl one3) rfl ?_;refine Y4 ?_;exact Mt (decide (x20.a1=x21.a0)) () hx63 trivial (by exact .refl)
         ·(iterate 14 refine Y ?_);exact Mt false () hx61 trivial (by exact .refl)
      ·refine Y3 ?_;obtain rfl:=Bm ht4 hx50;refine Y3 ?_;exact Mt () () ho4 trivial (by exact .refl)
    ·refine T_dr [0,0,0,0,1,0,0,0,0,0,0,1,0,0,0,0,0,0,0,0,0,1,0,0,0,0,0,0,0,1,0,0,0,0,0,0,0,0,0,1,0,0,0,0,1,0,0] (.q 0 (.q 1 (.q 2 (.q 3 (.q 4 (.q 5 (.q 6 (.q 7 (.q 8 (.q 9 (.q 10 (.q 11 (.q 12 (.q 13 (.q 14 (.q 15 (.q 16 (.q 17 (.q 18 (.q 19 (.q 20 (.q 21 (.q 22 (.q 23 (.q 24 (.q 25 (.q 26 (.q 27 (.q 28 (.q 29 (.q 30 (.q 31 (.q 32 (.q 33 (.q 34 (.q 35 (.q 36 (.q 37 (.q 38 (.q 39 (.q 40 (.q 41 (.q 42 (.q 43 (.q 44 (.q 45 (.q 46 (.done)))))))))))))))))))))))))))))))))))))))))))))))) mixed (by kernel_rfl) (by kernel_rfl) ?_;refine Y2 ?_;obtain ⟨x22,h37,hx64⟩:=Ad hx42;have hw12:=Has.low (E:=[]) ha1' hK;obtain ⟨b17,o17,j17,hA11,hj11,hl16,hp11⟩:=Has.at_idx hw12 h37;refine P_p rfl rfl (Ay rfl rfl hA11 (j:=j17) hj11 hl16 Fa) rfl ?_;refine P_p rfl rfl (Aq rfl rfl By (by decide) (by decide) rfl) rfl ?_;refine P_q rfl rfl (Do (d:=0) rfl hp11 (sb 0) rfl one3) rfl ?_;refine Y2 ?_;refine Ti hx64 (s:=23) rfl (fun h38 hx65=>?_) (fun h38 hx66=>?_)
     ·(iterate 41 refine Y ?_);exact Mt true () hx65 trivial (by exact .refl)
     ·refine Y2 ?_;obtain ⟨x23,h39,hx67⟩:=Ad hx66;have hw13:=Has.low (E:=[]) ha1' hK;obtain ⟨b18,o18,j18,hA12,hj12,hl17,hp12⟩:=Has.at_idx hw13 h39;refine P_pG rfl rfl rfl rfl rfl (Ay rfl rfl hA12 (j:=j18) hj12 hl17 Fa) rfl ?_;refine P_pG rfl rfl rfl rfl rfl (Aq rfl rfl By (by decide) (by decide) rfl) rfl ?_;refine P_qG rfl rfl rfl rfl rfl (Do (d:=0) rfl hp12 (sb 0) rfl one3) rfl ?_;refine Y ?_;refine P_pG rfl rfl rfl rfl rfl (Bx rfl 43 Tryz.underlying22) rfl ?_;refine Y3 ?_;refine Ti hx67 (s:=33) rfl (fun h40 hx68=>?_) (fun h40 hx69=>?_)
      ·(iterate 31 refine Y ?_);exact Mt true () hx68 trivial (by exact .refl)
      ·refine Y2 ?_;obtain ⟨x24,h41,hx70⟩:=Ad hx69;have hw14:=Has.low (E:=[]) ha1' hK;obtain ⟨b19,o19,j19,hA13,hj13,hl18,hp13⟩:=Has.at_idx hw14 h41;refine P_pG rfl rfl rfl rfl rfl (Ay rfl rfl hA13 (j:=j19) hj13 hl18 Fa) rfl ?_;refine P_pG rfl rfl rfl rfl rfl (Aq rfl rfl By (by decide) (by decide) rfl) rfl ?_;refine P_qG rfl rfl rfl rfl rfl (Do (d:=1) rfl hp13 (sb 0) rfl one3) rfl ?_;refine Y3 ?_;refine Ti hx70 (s:=41) rfl (fun h42 hx71=>?_) (fun h42 hx72=>?_)
       ·(iterate 23 refine Y ?_);exact Mt true () hx71 trivial (by exact .refl)
       ·refine Y2 ?_;obtain ⟨x25,h43,hx73⟩:=Ad hx72;have hw15:=Has.low (E:=[]) ha1' hK;obtain ⟨b20,o20,j20,hA14,hj14,hl19,hp14⟩:=Has.at_idx hw15 h43;refine P_pG rfl rfl rfl rfl rfl (Ay rfl rfl hA14 (j:=j20) hj14 hl19 Fa) rfl ?_;refine P_pG rfl rfl rfl rfl rfl (Aq rfl rfl By (by decide) (by decide) rfl) rfl ?_;refine P_qG rfl rfl rfl rfl rfl (Do (d:=1) rfl hp14 (sb 0) rfl one3) rfl ?_;refine Y ?_;refine P_pG rfl rfl rfl rfl rfl (Bx rfl 43 Tryz.underlying22) rfl ?_;refine Y3 ?_;refine Ti hx73 (s:=51) rfl (fun h44 hx74=>?_) (fun h44 hx75=>?_)
        ·(iterate 13 refine Y ?_);exact Mt true () hx74 trivial (by exact .refl)
        ·refine Y2 ?_;obtain ⟨x26,h45,hx76⟩:=Ad hx75;have hw16:=Has.low (E:=[]) ha1' hK;obtain ⟨b21,o21,j21,hA15,hj15,hl20,hp15⟩:=Has.at_idx hw16 h45;refine P_pG rfl rfl rfl rfl rfl (Ay rfl rfl hA15 (j:=j21) hj15 hl20 Fa) rfl ?_;refine P_pG rfl rfl rfl rfl rfl (Aq rfl rfl By (by decide) (by decide) rfl) rfl ?_;refine P_qG rfl rfl rfl rfl rfl (Do (d:=0) rfl hp15 (sb 0) rfl one3) rfl ?_;refine Y2 ?_;obtain ⟨x27,h46,hx77⟩:=Ad hx76;have hw17:=Has.low (E:=[]) ha1' hK;obtain ⟨b22,o22,j22,hA16,hj16,hl21,hp16⟩:=Has.at_idx hw17 h46;refine P_pG rfl rfl rfl rfl rfl (Ay rfl rfl hA16 (j:=j22) hj16 hl21 Fa) rfl ?_;refine P_pG rfl rfl rfl rfl rfl (Aq rfl rfl By (by decide) (by decide) rfl) rfl ?_;refine P_qG rfl rfl rfl rfl rfl (Do (d:=1) rfl hp16 (sb 0) rfl one3) rfl ?_;refine Y3 ?_;exact Mt (decide (x26.a0=x27.a1)) () hx77 trivial (by exact .refl)
  ·refine Y3 ?_;obtain rfl:=Bm ht3 hx43;refine Y2 ?_;exact Mt () () ho3 trivial (by exact .refl)
set_option maxHeartbeats 8000000 in
set_option maxRecDepth 100000 in
instance lidarref06_linesError_c (p0:List Ab) (p1:List Aa):Con (Fi p0 p1) Tryz.prog 52 (fun K vs=>∃ (A0_0:Option Addr) (c0_0:Nat) (A0_1:Option Addr) (c0_1:Nat),vs=[.slice (A0_0) ((p0).length) (c0_0),.slice (A0_1) ((p1).length) (c0_1)]∧Has K A0_0 (p0).length c0_0 4 Ae (p0)∧Has K A0_1 (p1).length c0_1 2 Ag (p1)∧True) (fun _ r=>fun v Ln=>v = .int .i64 (r)∧Ln=[]∧True):=⟨by
 rintro K _ r ⟨A0_0,c0_0,A0_1,c0_1,rfl,ha0,ha1,-⟩ hx w hK;exact Tn p0 p1 ha0 ha1 hx w hK⟩
set_option maxRecDepth 100000 in
instance lidarref06_Wrong_c (p0:List Ab) (p1:List Aa):Con (Jn p0 p1) Tryz.prog 10 (fun K vs=>∃ (A0_0:Option Addr) (c0_0:Nat) (A0_1:Option Addr) (c0_1:Nat),vs=[.slice (A0_0) ((p0).length) (c0_0),.slice (A0_1) ((p1).length) (c0_1)]∧Has K A0_0 (p0).length c0_0 4 Ae (p0)∧Has K A0_1 (p1).length c0_1 2 Ag (p1)∧True) (fun _ r=>fun v Ln=>v = .int .i64 (r)∧Ln=[]∧True):=⟨by
 rintro K _ r ⟨A0_0,c0_0,A0_1,c0_1,rfl,ha0,ha1,-⟩ hx w hK;replace ha0:=Has.lo ha0 hK;replace ha1:=Has.lo ha1 hK;unfold Jn at hx;refine CtS Tryz.ntmps10 Tryz.results10 ?_;exact au⟩
set_option maxHeartbeats 1000000 in
set_option maxRecDepth 100000 in
instance Aaz (p0:List Ab) (p1:List Aa) (p2:Int) (p3:Int):Con (Im p0 p1 p2 p3) Tryz.prog 185 (fun K vs=>∃ (A0_0:Option Addr) (c0_0:Nat) (A0_1:Option Addr) (c0_1:Nat),vs=[.slice (A0_0) ((p0).length) (c0_0),.slice (A0_1) ((p1).length) (c0_1),.int .i64 (p2),.int .i64 (p3)]∧Has K A0_0 (p0).length c0_0 4 Ae (p0)∧Has K A0_1 (p1).length c0_1 2 Ag (p1)∧True) (fun _ r=>fun v Ln=>v = .bool (r)∧Ln=[]∧True):=⟨by
 rintro K _ r ⟨A0_0,c0_0,A0_1,c0_1,rfl,ha0,ha1,-⟩ hx w hK;replace ha0:=Has.lo ha0 hK;replace ha1:=Has.lo ha1 hK;unfold Im at hx;have:=dl 4 [0,0,0,1,2,0,0,0,1,2,0,0,1,0,1,2,0,0,1,0,1,2,2] [0,1,2,3,5,6,7,8,10,11,12,13,14,16,17,18,19,20,4,9,15,21,22];refine CtS Tryz.ntmps185 Tryz.results185 ?_;refine pre ?_;intros;rename_i hx
 refine Lz ?_;refine pre ?_;intros;rename_i hx
 apply Jr (γ:=Unit) hx [] (fun s2 y2 f=>f) [999] (fun s2 y2 l=>l);exact kk
 ·intro s2 y2 hx;exact au
 ·intro _ hx;refine pre ?_;intros;rename_i hx
  apply Lr (γ:=Unit) hx [0,2,3,11,12] (fun s0 y0 f=>(13,.int .i64 (s0))::f) [999] (fun s0 y0 l=>l) ();exact kk;exact sk;intro s0 y0 x0 hx _;unfold Jz at hx
  exact au⟩
theorem Sf (p0:List Ab) (p1:List Aa) (p2:Int) (p3:Int) {K:List Ent} {A0_0:Option Addr} {c0_0:Nat} {A0_1:Option Addr} {c0_1:Nat} (ha0:Has K A0_0 (p0).length c0_0 4 Ae (p0)) (ha1:Has K A0_1 (p1).length c0_1 2 Ag (p1)) {r:Bool} (hx:Im p0 p1 p2 p3=some r) (w:World) (hK:∀ e∈K,Ent.ok w e):CtL Tryz.prog 185 [.slice (A0_0) ((p0).length) (c0_0),.slice (A0_1) ((p1).length) (c0_1),.int .i64 (p2),.int .i64 (p3)] w fun v Ln=>v = .bool (r)∧Ln=[]∧True:=(Aaz p0 p1 p2 p3).h K _ _ ⟨_,_,_,_,rfl,ha0,ha1,trivial⟩ hx w hK
set_option maxRecDepth 100000 in
theorem Sg (p0:List Ab) (p1:Int) (p2:Int) (p3:List Int) {K:List Ent} {A0_0:Option Addr} {c0_0:Nat} {A0_1:Option Addr} {c0_1:Nat} (ha0:Has K A0_0 p0.length c0_0 4 Ae (p0)) (ha1:Has K A0_1 p3.length c0_1 1 Bu (p3)) {r:List Int} (hx:Ku p0 p1 p2 p3=some r) (w:World) (hK:∀ e∈K,Ent.ok w e):CtL Tryz.prog 187 [.slice (A0_0) (p0.length) (c0_0),.int .i64 (p1),.int .i64 (p2),.slice (A0_1) (p3.length) (c0_1)] w fun v Ln=>∃ (A0:Option Addr) (c0:Nat),v = .slice (A0) (r.length) (c0)∧Ln=[.r A0 r.length c0 3 1 (r.flatMap Bu)]∧True:=by
 have ha0':=Has.up0 ha0;have ha1':=Has.up0 ha1;refine CtL.mk 76 Tryz.func187 rfl Tryz.ntmps187 (by kernel_rfl) rfl ?_;show T 76 _ [(0,.slice (A0_0) (p0.length) (c0_0)),(1,.int .i64 (p1)),(2,.int .i64 (p2)),(3,.slice (A0_1) (p3.length) (c0_1))] _;unfold Ku at hx;refine Y9 ?_;refine T_x (Bg rfl (Uk _ _) rfl (fun g1=>?_));refine Y3 ?_;refine Tj (γ:=(Option Addr) × Nat) hx (fun s3 y3=>[(9,.slice (y3.1) (s3.length) (y3.2))]) (fun s3 y3=>[.r (y3.1) (s3.length) (y3.2) 3 1 (s3.flatMap Bu)]++[.old w]) (fun s3 y3=>True) (fun s3 y3 hx0 hG0=>?_) (fun j3 hx=>?_)
 ·refine Y7 ?_;obtain rfl:=Option.some.inj hx0;exact Cu (rs:=[.tmp 8]) Tryz.results187 (.tmp rfl (.nil)) (Ln:=[.r (y3.1) (s3.length) (y3.2) 3 1 (s3.flatMap Bu)]) ⟨y3.1,y3.2,rfl,rfl,trivial⟩ (Bi rfl (Dk)) (by exact .pick 0 rfl (.refl))
 ·refine Y ?_;refine T_mr (enc:=Bu) (sz:=1) ([p1,p2]) (.here) rfl rfl (fun _=>rfl) (by show 2≤maxLen;decide) ?_;obtain ⟨t0,hl0,ho0⟩:=Ad hx
  have hn0:2=([p1,p2]).length:=by simp [Bj,Bz,List.length_append] <;> omega
  refine He (.here) (e':=.r (some ⟨g1,0,none⟩) (([p1,p2]).length) (2) 3 1 (([p1,p2]).flatMap Bu)) (by first | (rw [← hn0];done) | rfl) ?_;refine Hy (s:=9) (v':=.slice (some ⟨g1,0,none⟩) (([p1,p2]).length) (2)) rfl (by have hn1:(2)=([p1,p2]).length:=(by simp [Bj,Bz,List.length_append] <;> omega);first | (rw [← hn1];done) | rfl) ?_;refine Lp (σ:=List Int) (γ:=(Option Addr) × Nat) hl0 (fun s0 y0=>[(0,.slice (A0_0) (p0.length) (c0_0)),(1,.int .i64 (p1)),(3,.slice (A0_1) (p3.length) (c0_1)),(9,.slice (y0.1) (s0.length) (y0.2))]) (fun s0 y0=>[.r (y0.1) (s0.length) (y0.2) 3 1 (s0.flatMap Bu)]++[.old w]) (fun s0 y0=>True) (some ⟨g1,0,none⟩,2) trivial (by exact .pick 0 rfl (.refl)) ?_;intro s0 y0 hG1 x0 hx1 ht0;unfold Mn at hx1;refine Y4 ?_;refine Al (Bx rfl 3 Tryz.underlying59) rfl ?_;refine Y ?_;refine Al (Bx rfl 3 Tryz.underlying59) rfl ?_;refine Y4 ?_;refine Ti hx1 (s:=24) rfl (fun h0 hx2=>?_) (fun h0 hx3=>?_)
  ·refine Y9 ?_;refine Tj (γ:=Unit) hx2 (fun s1 y1=>[(0,.slice (A0_0) (p0.length) (c0_0)),(1,.int .i64 (p1)),(3,.slice (A0_1) (p3.length) (c0_1)),(9,.slice (y0.1) (s0.length) (y0.2)),(10,.int .i64 (s1))]) (fun s1 y1=>[.r (y0.1) (s0.length) (y0.2) 3 1 (s0.flatMap Bu)]++[.old w]) (fun s1 y1=>True) (fun s1 y1 hx4 hG2=>?_) (fun j0 hx2=>?_)
   ·refine Y3 ?_;refine T_x (Bg rfl (Mf _) rfl (fun g0=>?_));obtain ⟨h1,hx5⟩:=Be hx4;refine T_h (Df Bu (s0) [s1] rfl rfl rfl Ahy (fun _=>rfl) (i':=0) rfl rfl rfl rfl h1 rfl (fun _ _=>.there (.here)) (fun _ _=>.drop .refl) (by decide) (fun A1 c1=>?_));refine Y3 ?_;exact Rp (s0++[s1]) (A1,c1) hx5 trivial (by exact .pick 0 rfl (.refl))
   ·refine Y3 ?_;refine Al (Bx rfl 3 Tryz.underlying59) rfl ?_;refine Y4 ?_;obtain ⟨t1,hl1,ho1⟩:=Ad hx2;refine Lp (σ:=Int × Int) (γ:=Unit) hl1 (fun s2 y2=>[(0,.slice (A0_0) (p0.length) (c0_0)),(1,.int .i64 (p1)),(3,.slice (A0_1) (p3.length) (c0_1)),(9,.slice (y0.1) (s0.length) (y0.2)),(10,.int .i64 (s2.1)),(25,.slice (A0_1) (p3.length) (c0_1)),(26,.int .i64 (((p3.length:Nat):Int))),(27,.int .i64 (s2.2))]) (fun s2 y2=>[.r (y0.1) (s0.length) (y0.2) 3 1 (s0.flatMap Bu)]++[.old w]) (fun s2 y2=>True) () trivial (by exact .pick 0 rfl (.refl)) ?_;intro s2 y2 hG3 x1 hx6 ht1;unfold Kb at hx6;refine Y6 ?_;refine Ti hx6 (s:=28) rfl (fun h2 hx7=>?_) (fun h2 hx8=>?_)
    ·refine Y3 ?_;refine Tj (γ:=Unit) hx7 (fun s4 y4=>[(0,.slice (A0_0) (p0.length) (c0_0)),(1,.int .i64 (p1)),(3,.slice (A0_1) (p3.length) (c0_1)),(9,.slice (y0.1) (s0.length) (y0.2)),(10,.int .i64 (s4)),(25,.slice (A0_1) (p3.length) (c0_1)),(26,.int .i64 (((p3.length:Nat):Int))),(27,.int .i64 (s2.2))]) (fun s4 y4=>[.r (y0.1) (s0.length) (y0.2) 3 1 (s0.flatMap Bu)]++[.old w]) (fun s4 y4=>True) (fun s4 y4 hx9 hG4=>?_) (fun j1 hx7=>?_)
     ·refine Y4 ?_;exact Rp (s4,w64 (s2.2+1)) () hx9 trivial (by exact .pick 0 rfl (.refl))
     ·refine Y3 ?_;obtain ⟨x2,h3,hx10⟩:=Ad hx7;have hw0:=Has.low (E:=[]) ha1' hK;obtain ⟨b0,o0,j2,hA0,hj0,hl2,hp0⟩:=Has.at_idx hw0 h3;refine Al (Ay rfl rfl hA0 (j:=j2) hj0 hl2 Ly) rfl ?_;refine Al (Ch rfl hp0 (sb 1) rfl one3) rfl ?_;refine Y8 ?_;refine Tj (γ:=Unit) hx10 (fun s5 y5=>[(0,.slice (A0_0) (p0.length) (c0_0)),(1,.int .i64 (p1)),(3,.slice (A0_1) (p3.length) (c0_1)),(9,.slice (y0.1) (s0.length) (y0.2)),(10,.int .i64 (s2.1)),(12,.int .i64 (x2)),(13,.bool (s5)),(25,.slice (A0_1) (p3.length) (c0_1)),(26,.int .i64 (((p3.length:Nat):Int))),(27,.int .i64 (s2.2))]) (fun s5 y5=>[.r (y0.1) (s0.length) (y0.2) 3 1 (s0.flatMap Bu)]++[.old w]) (fun s5 y5=>True) (fun s5 y5 hx11 hG5=>?_) (fun j4 hx10=>?_)
      ·refine Tj (γ:=Unit) hx11 (fun s6 y6=>[(0,.slice (A0_0) (p0.length) (c0_0)),(1,.int .i64 (p1)),(3,.slice (A0_1) (p3.length) (c0_1)),(9,.slice (y0.1) (s0.length) (y0.2)),(10,.int .i64 (s2.1)),(12,.int .i64 (x2)),(25,.slice (A0_1) (p3.length) (c0_1)),(26,.int .i64 (((p3.length:Nat):Int))),(27,.int .i64 (s2.2)),(68,.bool (s6))]) (fun s6 y6=>[.r (y0.1) (s0.length) (y0.2) 3 1 (s0.flatMap Bu)]++[.old w]) (fun s6 y6=>True) (fun s6 y6 hx12 hG6=>?_) (fun j5 hx11=>?_)
       ·refine Da (s:=68) rfl (fun h4=>?_) (fun h4=>?_)
        ·have hx13:=Dd h4 hx12;refine Y6 ?_;exact Mt x2 () hx13 trivial (by exact .pick 0 rfl (.refl))
        ·have hx14:=Dr h4 hx12;refine Y3 ?_;exact Mt s2.1 () hx14 trivial (by exact .pick 0 rfl (.refl))
       ·refine T_dr [0,0,0,0,0,0,0,0,0,1,2,0,0,0,1,2,0,0,0,1,2,2,0,0,0] (.q 0 (.q 1 (.q 2 (.q 3 (.q 4 (.q 5 (.q 6 (.q 7 (.q 8 (.q 9 (.q 11 (.q 12 (.q 13 (.q 14 (.q 16 (.q 17 (.q 18 (.q 19 (.e 10 (.e 15 (.e 20 (.e 21 (.q 22 (.q 23 (.q 24 (.done)))) (.stop)) (.stop)) (.stop)) (.stop)))))))))))))))))))) mixed (by kernel_rfl) (by kernel_rfl) ?_;refine Y3 ?_;refine Od (s:=46) rfl (fun h5=>?_) (fun h5=>?_)
        ·have hx15:=Dr h5 hx11;refine Y3 ?_;refine Ti hx15 (s:=49) rfl (fun h6 hx16=>?_) (fun h6 hx17=>?_)
         ·refine Y12 ?_;refine Dv rfl rfl rfl rfl rfl rfl ?_ ?_;rotate_left;exact Az;refine Dv rfl rfl rfl rfl rfl rfl ?_ ?_;rotate_left;exact Az;refine Dv rfl rfl rfl rfl rfl rfl ?_ ?_;rotate_left;exact Az;refine Dv rfl rfl rfl rfl rfl rfl ?_ ?_;rotate_left;exact Az;refine Y4 ?_;exact Mt true () hx16 trivial (by exact .pick 0 rfl (.refl))
         ·refine Y2 ?_;obtain ⟨x3,h7,hx18⟩:=Ad hx17;have hw2:=Has.low (E:=[]) ha0' hK;obtain ⟨b1,o1,j6,hA1,hj1,hl3,hp1⟩:=Has.at_idx hw2 h7;refine P_pG rfl rfl rfl rfl rfl (Ay rfl rfl hA1 (j:=j6) hj1 hl3 Jf) rfl ?_;refine P_qG rfl rfl rfl rfl rfl (Cg rfl hp1 (sb 1) rfl Kg) rfl ?_;refine Y2 ?_;obtain ⟨x4,h8,hx19⟩:=Ad hx18;have hw3:=Has.low (E:=[]) ha0' hK;obtain ⟨b2,o2,j7,hA2,hj2,hl4,hp2⟩:=Has.at_idx hw3 h8;refine P_pG rfl rfl rfl rfl rfl (Ay rfl rfl hA2 (j:=j7) hj2 hl4 Jf) rfl ?_;refine P_qG rfl rfl rfl rfl rfl (Cg rfl hp2 (sb 1) rfl Kg) rfl ?_;refine Y2 ?_;obtain ⟨x5,h9,hx20⟩:=Ad hx19;have hw4:=Has.low (E:=[]) ha0' hK;obtain ⟨b3,o3,j8,hA3,hj3,hl5,hp3⟩:=Has.at_idx hw4 h9;refine P_pG rfl rfl rfl rfl rfl (Ay rfl rfl hA3 (j:=j8) hj3 hl5 Jf) rfl ?_;refine P_qG rfl rfl rfl rfl rfl (Cg rfl hp3 (sb 1) rfl Kg) rfl ?_;obtain ⟨r0,h10,hx21⟩:=Ad hx20;refine P_xG rfl rfl rfl rfl (Bk rfl (fun w1 hw1=>Bl (⟨x3.X,x3.Y,(⟨x3.Z.Lo,x3.Z.Hi⟩:Ak)⟩:Ab)  h10 w1) rfl ?_) ?_;rotate_left;exact Az;rintro _ _ hlo ⟨rfl,rfl,-⟩;refine Ee ?_;obtain ⟨r1,h11,hx22⟩:=Ad hx21;refine P_xG rfl rfl rfl rfl (Bk rfl (fun w1 hw1=>Bl (⟨x4.X,x4.Y,(⟨x4.Z.Lo,x4.Z.Hi⟩:Ak)⟩:Ab)  h11 w1) rfl ?_) ?_
          rotate_left;exact Az;rintro _ _ hlo ⟨rfl,rfl,-⟩;refine Ee ?_;obtain ⟨r2,h12,hx23⟩:=Ad hx22;refine P_xG rfl rfl rfl rfl (Bk rfl (fun w1 hw1=>Bl (⟨x5.X,x5.Y,(⟨x5.Z.Lo,x5.Z.Hi⟩:Ak)⟩:Ab)  h12 w1) rfl ?_) ?_;rotate_left;exact Az;rintro _ _ hlo ⟨rfl,rfl,-⟩;refine Ee ?_;obtain ⟨r3,h13,hx24⟩:=Ad hx23;refine P_xG rfl rfl rfl rfl (Bk rfl (fun w1 hw1=>Rt r0 r1 r2  h13 w1) rfl ?_) ?_;rotate_left;exact Az;rintro _ _ hlo ⟨rfl,rfl,-⟩;refine Ee ?_;refine Y4 ?_;exact Mt (decide (0 < r3)) () hx24 trivial (by exact .pick 0 rfl (.refl))
        ·have hx25:=Dd h5 hx11;(iterate 15 refine Y ?_);refine Aaj rfl rfl rfl rfl rfl ?_ ?_;rotate_left;exact Az;refine Aaj rfl rfl rfl rfl rfl ?_ ?_;rotate_left;exact Az;refine Aaj rfl rfl rfl rfl rfl ?_ ?_;rotate_left;exact Az;refine Aaj rfl rfl rfl rfl rfl ?_ ?_;rotate_left;exact Az;refine Y4 ?_;exact Mt false () hx25 trivial (by exact .pick 0 rfl (.refl))
      ·refine Y3 ?_;refine Al (Bx rfl 3 Tryz.underlying59) rfl ?_;refine Y4 ?_;obtain ⟨t2,hl6,ho2⟩:=Ad hx10;refine Lp (σ:=Bool × Int) (γ:=Unit) hl6 (fun s7 y7=>[(0,.slice (A0_0) (p0.length) (c0_0)),(1,.int .i64 (p1)),(3,.slice (A0_1) (p3.length) (c0_1)),(9,.slice (y0.1) (s0.length) (y0.2)),(10,.int .i64 (s2.1)),(12,.int .i64 (x2)),(13,.bool (s7.1)),(25,.slice (A0_1) (p3.length) (c0_1)),(26,.int .i64 (((p3.length:Nat):Int))),(27,.int .i64 (s2.2)),(31,.slice (y0.1) (s0.length) (y0.2)),(32,.int .i64 (((s0.length:Nat):Int))),(33,.int .i64 (s7.2))]) (fun s7 y7=>[.r (y0.1) (s0.length) (y0.2) 3 1 (s0.flatMap Bu)]++[.old w]) (fun s7 y7=>True) () trivial (by exact .pick 0 rfl (.refl)) ?_;intro s7 y7 hG7 x6 hx26 ht2;unfold Ka at hx26;refine Y6 ?_;refine Ti hx26 (s:=34) rfl (fun h14 hx27=>?_) (fun h14 hx28=>?_)
       ·refine Y3 ?_;refine Tj (γ:=Unit) hx27 (fun s8 y8=>[(0,.slice (A0_0) (p0.length) (c0_0)),(1,.int .i64 (p1)),(3,.slice (A0_1) (p3.length) (c0_1)),(9,.slice (y0.1) (s0.length) (y0.2)),(10,.int .i64 (s2.1)),(12,.int .i64 (x2)),(13,.bool (s8)),(25,.slice (A0_1) (p3.length) (c0_1)),(26,.int .i64 (((p3.length:Nat):Int))),(27,.int .i64 (s2.2)),(31,.slice (y0.1) (s0.length) (y0.2)),(32,.int .i64 (((s0.length:Nat):Int))),(33,.int .i64 (s7.2))]) (fun s8 y8=>[.r (y0.1) (s0.length) (y0.2) 3 1 (s0.flatMap Bu)]++[.old w]) (fun s8 y8=>True) (fun s8 y8 hx29 hG8=>?_) (fun j9 hx27=>?_)
        ·refine Y4 ?_;exact Rp (s8,w64 (s7.2+1)) () hx29 trivial (by exact .pick 0 rfl (.refl))
        ·refine Y3 ?_;obtain ⟨x7,h15,hx30⟩:=Ad hx27;refine Lg (k:=0) rfl (by decide) (fun _=>rfl) h15 (fun b4 j10 hA4 hj4 hl7 hm0 hp4=>?_);refine Al (Ay rfl rfl hA4 (j:=j10) hj4 hl7 Ly) rfl ?_;refine Al (Ch rfl hp4 (sb 0) rfl one3) rfl ?_;refine Y6 ?_;refine Da (s:=38) rfl (fun h16=>?_) (fun h16=>?_)
         ·have hx31:=Dd h16 hx30;refine Y7 ?_;exact Mt true () hx31 trivial (by exact .pick 0 rfl (.refl))
         ·have hx32:=Dr h16 hx30;refine Y7 ?_;exact Mt (decide (x7=x2)) () hx32 trivial (by exact .pick 0 rfl (.refl))
       ·refine Y3 ?_;obtain rfl:=Bm ht2 hx28;refine Y2 ?_;exact Mt s7.1 () ho2 trivial (by exact .pick 0 rfl (.refl))
    ·refine Y3 ?_;obtain rfl:=Bm ht1 hx8;refine Y2 ?_;exact Mt s2.1 () ho1 trivial (by exact .pick 0 rfl (.refl))
  ·refine Y3 ?_;obtain rfl:=Bm ht0 hx3;refine Y2 ?_;exact Mt s0 (y0.1,y0.2) ho0 trivial (by exact .pick 0 rfl (.refl))
set_option maxHeartbeats 1000000 in
set_option maxRecDepth 100000 in
instance lidarref06_ring_c (p0:List Ab) (p1:Int) (p2:Int) (p3:List Int):Con (Ku p0 p1 p2 p3) Tryz.prog 187 (fun K vs=>∃ (A0_0:Option Addr) (c0_0:Nat) (A0_1:Option Addr) (c0_1:Nat),vs=[.slice (A0_0) ((p0).length) (c0_0),.int .i64 (p1),.int .i64 (p2),.slice (A0_1) ((p3).length) (c0_1)]∧Has K A0_0 (p0).length c0_0 4 Ae (p0)∧Has K A0_1 (p3).length c0_1 1 Bu (p3)∧True) (fun _ r=>fun v Ln=>∃ (A0:Option Addr) (c0:Nat),v = .slice (A0) ((r).length) (c0)∧Ln=[.r A0 (r).length c0 3 1 ((r).flatMap Bu)]∧True):=⟨by
 rintro K _ r ⟨A0_0,c0_0,A0_1,c0_1,rfl,ha0,ha1,-⟩ hx w hK;exact Sg p0 p1 p2 p3 ha0 ha1 hx w hK⟩
set_option maxRecDepth 100000 in
theorem Rc (p0:List Ab) (p1:Int) (p2:Int) (p3:List Int) {K:List Ent} {A0_0:Option Addr} {c0_0:Nat} {A0_1:Option Addr} {c0_1:Nat} (ha0:Has K A0_0 p0.length c0_0 4 Ae (p0)) (ha1:Has K A0_1 p3.length c0_1 1 Bu (p3)) {r:Int} (hx:Jo p0 p1 p2 p3=some r) (w:World) (hK:∀ e∈K,Ent.ok w e):CtL Tryz.prog 186 [.slice (A0_0) (p0.length) (c0_0),.int .i64 (p1),.int .i64 (p2),.slice (A0_1) (p3.length) (c0_1)] w fun v Ln=>v = .int .i64 (r)∧Ln=[]∧True:=by
 have ha0':=Has.up0 ha0;have ha1':=Has.up0 ha1;refine CtL.mk 120 Tryz.func186 rfl Tryz.ntmps186 (by kernel_rfl) rfl ?_;show T 120 _ [(0,.slice (A0_0) (p0.length) (c0_0)),(1,.int .i64 (p1)),(2,.int .i64 (p2)),(3,.slice (A0_1) (p3.length) (c0_1))] _;unfold Jo at hx;refine Y5 ?_;obtain ⟨j2,hj2,hx⟩:=Pu hx;refine Qi (τ:=List Int) (γ:=(Option Addr) × Nat × Ent) (J:=j2) (out:=r) (fun s2 y2=>[(1,.int .i64 (p1)),(2,.int .i64 (p2)),(3,.slice (y2.1) (s2.length) (y2.2.1))]) (fun s2 y2=>[y2.2.2]++[.old w]) (fun s2 y2=>y2.2.2.low=0∧Has (K++[y2.2.2]) (y2.1) (s2.length) (y2.2.1) 1 Bu (s2)∧True) ?_ ?_
 ·intro s2 y2 hx0 hG0;obtain ⟨lo755,hs0,-⟩:=hG0;subst hj2;refine Tj (γ:=Unit) hx0 (fun s0 y0=>[]) (fun s0 y0=>[]++[.old w]) (fun s0 y0=>True) (fun s0 y0 hx1 hG1=>?_) (fun j0 hx0=>?_)
  ·refine Y6 ?_;obtain rfl:=Option.some.inj hx1;exact Cu (rs:=[.tmp 8]) Tryz.results186 (.tmp rfl (.nil)) (Ln:=[]) ⟨rfl,rfl,trivial⟩ (Dk) (by exact .refl)
  ·refine Y3 ?_;refine Al (Bx rfl 3 Tryz.underlying59) rfl ?_;refine Y4 ?_;obtain ⟨t0,hl0,ho0⟩:=Ad hx0;refine Lp (σ:=Int) (γ:=Unit) hl0 (fun s1 y1=>[(1,.int .i64 (p1)),(2,.int .i64 (p2)),(104,.slice (y2.1) (s2.length) (y2.2.1)),(105,.int .i64 (((s2.length:Nat):Int))),(106,.int .i64 (s1))]) (fun s1 y1=>[y2.2.2]++[.old w]) (fun s1 y1=>True) () trivial (by exact .pick 0 rfl (.refl)) ?_;intro s1 y1 hG2 x0 hx2 ht0;unfold Dz at hx2;refine Y6 ?_;refine Ti hx2 (s:=107) rfl (fun h0 hx3=>?_) (fun h0 hx4=>?_)
   ·refine Y7 ?_;obtain ⟨x1,h1,hx5⟩:=Ad hx3;have hw0:=Has.low (E:=[y2.2.2]) hs0 hK;obtain ⟨b0,o0,j1,hA0,hj0,hl1,hp0⟩:=Has.at_idx hw0 h1;refine Al (Ay rfl rfl hA0 (j:=j1) hj0 hl1 Ly) rfl ?_;refine Al (Ch rfl hp0 (SubE.cons2 (i:=1) rfl (sb 0)) rfl one3) rfl ?_;refine Y3 ?_;refine Tj (γ:=Unit) hx5 (fun s3 y3=>[(1,.int .i64 (p1)),(2,.int .i64 (p2)),(16,.int .i64 (x1)),(104,.slice (y2.1) (s2.length) (y2.2.1)),(105,.int .i64 (((s2.length:Nat):Int))),(106,.int .i64 (s1)),(117,.bool (s3))]) (fun s3 y3=>[y2.2.2]++[.old w]) (fun s3 y3=>True) (fun s3 y3 hx6 hG3=>?_) (fun j3 hx5=>?_)
    ·refine Da (s:=117) rfl (fun h2=>?_) (fun h2=>?_)
     ·have hx7:=Dd h2 hx6;refine Y10 ?_;obtain rfl:=Bm ht0 hx7;refine Y3 ?_;obtain rfl:=Option.some.inj ho0;exact Cu (rs:=[.tmp 8]) Tryz.results186 (.tmp rfl (.nil)) (Ln:=[]) ⟨rfl,rfl,trivial⟩ (Dk) (by exact .drop 0 rfl (.refl))
     ·have hx8:=Dr h2 hx6;refine Y8 ?_;exact Rp (w64 (s1+1)) () hx8 trivial (by exact .pick 0 rfl (.refl))
    ·refine Y5 ?_;refine Ms (s:=113) rfl (fun h3=>?_) (fun h3=>?_)
     ·have hx9:=Pb h3 hx5;refine Y5 ?_;exact Mt (!(decide (x1=p2))) () hx9 trivial (by exact .pick 0 rfl (.refl))
     ·have hx10:=Dd h3 hx5;refine Y5 ?_;exact Mt false () hx10 trivial (by exact .pick 0 rfl (.refl))
   ·refine Y3 ?_;obtain rfl:=Bm ht0 hx4;refine Y2 ?_;exact Mt () () ho0 trivial (by exact .drop 0 rfl (.refl))
 ·skip;refine Y ?_;obtain ⟨t1,hl2,ho1⟩:=Ad hx;refine Bb 0 1 ?_;refine Lp (σ:=List Int) (γ:=(Option Addr) × Nat × Ent) hl2 (fun s4 y4=>[(0,.slice (A0_0) (p0.length) (c0_0)),(1,.int .i64 (p1)),(2,.int .i64 (p2)),(3,.slice (y4.1) (s4.length) (y4.2.1))]) (fun s4 y4=>[y4.2.2]++[.old w]) (fun s4 y4=>y4.2.2.low=0∧Has (K++[y4.2.2]) (y4.1) (s4.length) (y4.2.1) 1 Bu (s4)∧True) (A0_1,c0_1,.r none 0 0 0 1 []) ((by exact ⟨rfl,Has.len' ((Has.up (L:=(K++[.r none 0 0 0 1 []])) ha1' (SubE.app2 SubE.nil))),trivial⟩)) (by exact .pick 0 rfl (.refl)) ?_;intro s4 y4 hG4 x2 hx11 ht1;unfold Fc at hx11;obtain ⟨lo502,hs1,-⟩:=hG4;refine Y4 ?_;refine Al (Bx rfl 3 Tryz.underlying59) rfl ?_;refine Y3 ?_;refine Ti hx11 (s:=19) rfl (fun h4 hx12=>?_) (fun h4 hx13=>?_)
  ·refine Y9 ?_;refine Tj (γ:=Unit) hx12 (fun s5 y5=>[(0,.slice (A0_0) (p0.length) (c0_0)),(1,.int .i64 (p1)),(2,.int .i64 (p2)),(3,.slice (y4.1) (s4.length) (y4.2.1)),(9,.int .i64 (s5))]) (fun s5 y5=>[y4.2.2]++[.old w]) (fun s5 y5=>True) (fun s5 y5 hx14 hG5=>?_) (fun j4 hx12=>?_)
   ·refine Y ?_;refine T_dr [0,0,0,0,0,0,0,0,0,0,1,0,0,0,0,0,0,0,1,2,2] (.q 0 (.q 1 (.q 2 (.q 3 (.q 4 (.q 5 (.q 6 (.q 7 (.q 8 (.q 9 (.q 10 (.q 11 (.q 12 (.q 13 (.q 14 (.q 15 (.q 16 (.q 17 (.q 18 (.e 19 (.e 20 (.done) (.stop)) (.stop))))))))))))))))))))) mixed (by kernel_rfl) (by kernel_rfl) ?_;refine Y3 ?_;refine P_p rfl rfl (Bx rfl 3 Tryz.underlying59) rfl ?_;refine Y3 ?_;refine P_p rfl rfl (Bx rfl 3 Tryz.underlying59) rfl ?_;obtain ⟨h5,hx15⟩:=Be hx14;refine P_p rfl rfl (Ae0 rfl rfl h5) rfl ?_;obtain ⟨x3,h6,hx16⟩:=Ad hx15;have hw2:=Has.low (E:=[y4.2.2]) hs1 hK;obtain ⟨b1,o1,j5,hA1,hj1,hl3,hp1⟩:=Has.at_idx hw2 h6;refine P_p rfl rfl (Ay rfl rfl hA1 (j:=j5) hj1 hl3 Ly) rfl ?_;refine P_q rfl rfl (Ch rfl hp1 (SubE.cons2 (i:=1) rfl (sb 0)) rfl one3) rfl ?_;refine Y4 ?_;refine P_p rfl rfl (Bx rfl 3 Tryz.underlying59) rfl ?_;obtain ⟨h7,hx17⟩:=Be hx16;refine P_p rfl rfl (Ae0 rfl rfl h7) rfl ?_;obtain ⟨x4,h8,hx18⟩:=Ad hx17;have hw3:=Has.low (E:=[y4.2.2]) hs1 hK;obtain ⟨b2,o2,j6,hA2,hj3,hl4,hp2⟩:=Has.at_idx hw3 h8;refine P_p rfl rfl (Ay rfl rfl hA2 (j:=j6) hj3 hl4 Ly) rfl ?_;refine P_q rfl rfl (Ch rfl hp2 (SubE.cons2 (i:=1) rfl (sb 0)) rfl one3) rfl ?_;refine P_x rfl (Gu (Dn rfl) rfl ?_) ?_;rotate_left;exact Az;refine P_x rfl (Gu (Dn rfl) rfl ?_) ?_
    rotate_left;exact Az;refine Y3 ?_;refine Tj (γ:=Unit) hx18 (fun s6 y6=>[(0,.slice (A0_0) (p0.length) (c0_0)),(1,.int .i64 (p1)),(2,.int .i64 (p2)),(3,.slice (y4.1) (s4.length) (y4.2.1)),(9,.int .i64 (s5)),(11,.int .i64 (x3)),(12,.int .i64 (x4)),(73,.bool (s6))]) (fun s6 y6=>[y4.2.2]++[.old w]) (fun s6 y6=>True) (fun s6 y6 hx19 hG6=>?_) (fun j7 hx18=>?_)
    ·refine Da (s:=73) rfl (fun h9=>?_) (fun h9=>?_)
     ·have hx20:=Dd h9 hx19;refine Y10 ?_;obtain rfl:=Bm ht1 hx20;refine Y3 ?_;obtain rfl:=Option.some.inj ho1;exact Cu (rs:=[.tmp 8]) Tryz.results186 (.tmp rfl (.nil)) (Ln:=[]) ⟨rfl,rfl,trivial⟩ (Dk) (by exact .drop 0 rfl (.refl))
     ·have hx21:=Dr h9 hx19;refine Y4 ?_;refine Tj (γ:=Unit) hx21 (fun s7 y7=>[(0,.slice (A0_0) (p0.length) (c0_0)),(1,.int .i64 (p1)),(2,.int .i64 (p2)),(3,.slice (y4.1) (s4.length) (y4.2.1)),(9,.int .i64 (s5)),(12,.int .i64 (x4)),(85,.bool (s7))]) (fun s7 y7=>[y4.2.2]++[.old w]) (fun s7 y7=>True) (fun s7 y7 hx22 hG7=>?_) (fun j8 hx21=>?_)
      ·refine Da (s:=85) rfl (fun h10=>?_) (fun h10=>?_)
       ·have hx23:=Dd h10 hx22;refine Y10 ?_;obtain rfl:=Bm ht1 hx23;refine Y3 ?_;obtain rfl:=Option.some.inj ho1;exact Cu (rs:=[.tmp 8]) Tryz.results186 (.tmp rfl (.nil)) (Ln:=[]) ⟨rfl,rfl,trivial⟩ (Dk) (by exact .drop 0 rfl (.refl))
       ·have hx24:=Dr h10 hx22;refine Y8 ?_;refine Tj (γ:=(Option Addr) × Nat) hx24 (fun s8 y8=>[(0,.slice (A0_0) (p0.length) (c0_0)),(1,.int .i64 (p1)),(2,.int .i64 (p2)),(13,.slice (y8.1) (s8.length) (y8.2))]) (fun s8 y8=>[.r (y8.1) (s8.length) (y8.2) 3 1 (s8.flatMap Bu)]++[.old w]) (fun s8 y8=>True) (fun s8 y8 hx25 hG8=>?_) (fun j9 hx24=>?_)
        ·refine Y5 ?_;refine Ou (k:=0) rfl (by decide) (fun _=>rfl) (fun hn0 hs2=>?_);exact Rp s8 (y8.1,y8.2,.r (y8.1) (s8.length) (y8.2) 3 1 (s8.flatMap Bu)) hx25 ((by exact ⟨rfl,Has.len' ((Has.up (L:=(K++[.r (y8.1) (s8.length) (y8.2) 3 1 (s8.flatMap Bu)])) hs2 (SubE.appR2 (sb 0)))),trivial⟩)) (by exact .pick 0 rfl (.refl))
        ·refine Y3 ?_;refine Al (Bx rfl 3 Tryz.underlying59) rfl ?_;refine Y4 ?_;obtain ⟨t2,hl5,ho2⟩:=Ad hx24;refine Bb 3 1 ?_
         have hn1:0=(([]:List Int)).length:=by simp [Bj,Bz,List.length_append] <;> omega
         refine He (.here) (e':=.r (none) ((([]:List Int)).length) (0) 3 1 ((([]:List Int)).flatMap Bu)) (by first | (rw [← hn1];done) | rfl) ?_;refine Lp (σ:=(List Int) × Int) (γ:=(Option Addr) × Nat) hl5 (fun s9 y9=>[(0,.slice (A0_0) (p0.length) (c0_0)),(1,.int .i64 (p1)),(2,.int .i64 (p2)),(3,.slice (y4.1) (s4.length) (y4.2.1)),(9,.int .i64 (s5)),(13,.slice (y9.1) (s9.1.length) (y9.2)),(88,.int .i64 (((s4.length:Nat):Int))),(89,.int .i64 (s9.2))]) (fun s9 y9=>[.r (y9.1) (s9.1.length) (y9.2) 3 1 (s9.1.flatMap Bu),y4.2.2]++[.old w]) (fun s9 y9=>True) (none,0) trivial (by exact .pick 0 rfl (.pick 0 rfl (.refl))) ?_;intro s9 y9 hG9 x5 hx26 ht2;unfold Ib at hx26;refine Y6 ?_;refine Ti hx26 (s:=90) rfl (fun h11 hx27=>?_) (fun h11 hx28=>?_)
         ·refine Y3 ?_;refine Tj (γ:=(Option Addr) × Nat) hx27 (fun s10 y10=>[(0,.slice (A0_0) (p0.length) (c0_0)),(1,.int .i64 (p1)),(2,.int .i64 (p2)),(3,.slice (y4.1) (s4.length) (y4.2.1)),(9,.int .i64 (s5)),(13,.slice (y10.1) (s10.length) (y10.2)),(88,.int .i64 (((s4.length:Nat):Int))),(89,.int .i64 (s9.2))]) (fun s10 y10=>[.r (y10.1) (s10.length) (y10.2) 3 1 (s10.flatMap Bu),y4.2.2]++[.old w]) (fun s10 y10=>True) (fun s10 y10 hx29 hG10=>?_) (fun j10 hx27=>?_)
          ·refine Y4 ?_;exact Rp (s10,w64 (s9.2+1)) (y10.1,y10.2) hx29 trivial (by exact .pick 0 rfl (.pick 0 rfl (.refl)))
          ·(iterate 14 refine Y ?_);refine Ms (s:=94) rfl (fun h12=>?_) (fun h12=>?_)
           ·have hx30:=Pb h12 hx27;refine Y5 ?_;obtain ⟨x6,h13,hx31⟩:=Ad hx30;have hw4:=Has.low (E:=[y4.2.2]) hs1 hK;obtain ⟨b3,o3,j11,hA3,hj4,hl6,hp3⟩:=Has.at_idx hw4 h13;refine Al (Ay rfl rfl hA3 (j:=j11) hj4 hl6 Ly) rfl ?_;refine Al (Ch rfl hp3 (SubE.cons2 (i:=2) rfl (sb 1)) rfl one3) rfl ?_;refine T_x (Bg rfl (Mf _) rfl (fun g0=>?_));obtain ⟨h14,hx32⟩:=Be hx31;refine T_h (Df Bu (s9.1) [x6] rfl rfl rfl Ahy (fun _=>rfl) (i':=0) rfl rfl rfl rfl h14 rfl (fun _ _=>.there (.here)) (fun _ _=>.drop .refl) (by decide) (fun A0 c0=>?_));refine Y3 ?_;exact Mt (s9.1++[x6]) (A0,c0) hx32 trivial (by exact .pick 0 rfl (.pick 0 rfl (.refl)))
           ·have hx33:=Dd h12 hx27;refine Y3 ?_;exact Mt s9.1 (y9.1,y9.2) hx33 trivial (by exact .pick 0 rfl (.pick 0 rfl (.refl)))
         ·refine Y3 ?_;obtain rfl:=Bm ht2 hx28;refine Y2 ?_;exact Mt s9.1 (y9.1,y9.2) ho2 trivial (by exact .pick 0 rfl (.drop 0 rfl (.refl)))
      ·refine Y3 ?_;obtain ⟨x7,h15,hx34⟩:=Ad hx21;have hw5:=Has.low (E:=[y4.2.2]) hs1 hK;obtain ⟨b4,o4,j12,hA4,hj5,hl7,hp4⟩:=Has.at_idx hw5 h15;refine Al (Ay rfl rfl hA4 (j:=j12) hj5 hl7 Ly) rfl ?_;refine Al (Ch rfl hp4 (SubE.cons2 (i:=1) rfl (sb 0)) rfl one3) rfl ?_;refine Y3 ?_;refine Ti hx34 (s:=81) rfl (fun h16 hx35=>?_) (fun h16 hx36=>?_)
       ·refine Y5 ?_;exact Mt (decide (x3=p1)) () hx35 trivial (by exact .pick 0 rfl (.refl))
       ·refine Y5 ?_;exact Mt false () hx36 trivial (by exact .pick 0 rfl (.refl))
    ·refine Y3 ?_;obtain ⟨x8,h17,hx37⟩:=Ad hx18;have hw6:=Has.low (E:=[y4.2.2]) hs1 hK;obtain ⟨b5,o5,j13,hA5,hj6,hl8,hp5⟩:=Has.at_idx hw6 h17;refine Al (Ay rfl rfl hA5 (j:=j13) hj6 hl8 Ly) rfl ?_;refine Al (Ch rfl hp5 (SubE.cons2 (i:=1) rfl (sb 0)) rfl one3) rfl ?_;refine Y3 ?_;refine Ti hx37 (s:=69) rfl (fun h18 hx38=>?_) (fun h18 hx39=>?_)
     ·refine Y5 ?_;exact Mt (decide (x4=p2)) () hx38 trivial (by exact .pick 0 rfl (.refl))
     ·refine Y5 ?_;exact Mt false () hx39 trivial (by exact .pick 0 rfl (.refl))
   ·refine Y3 ?_;refine Al (Bx rfl 3 Tryz.underlying59) rfl ?_;refine Y4 ?_;obtain ⟨t3,hl9,ho3⟩:=Ad hx12;refine Lp (σ:=Int × Int) (γ:=Unit) hl9 (fun s11 y11=>[(0,.slice (A0_0) (p0.length) (c0_0)),(1,.int .i64 (p1)),(2,.int .i64 (p2)),(3,.slice (y4.1) (s4.length) (y4.2.1)),(9,.int .i64 (s11.1)),(21,.int .i64 (((s4.length:Nat):Int))),(22,.int .i64 (s11.2))]) (fun s11 y11=>[y4.2.2]++[.old w]) (fun s11 y11=>True) () trivial (by exact .pick 0 rfl (.refl)) ?_;intro s11 y11 hG11 x9 hx40 ht3;unfold It at hx40;refine Y6 ?_;refine Ti hx40 (s:=23) rfl (fun h19 hx41=>?_) (fun h19 hx42=>?_)
    ·refine Y3 ?_;refine Tj (γ:=Unit) hx41 (fun s85 y85=>[(0,.slice (A0_0) (p0.length) (c0_0)),(1,.int .i64 (p1)),(2,.int .i64 (p2)),(3,.slice (y4.1) (s4.length) (y4.2.1)),(9,.int .i64 (s85)),(21,.int .i64 (((s4.length:Nat):Int))),(22,.int .i64 (s11.2))]) (fun s85 y85=>[y4.2.2]++[.old w]) (fun s85 y85=>True) (fun s85 y85 hx43 hG12=>?_) (fun j85 hx41=>?_)
     ·refine Y4 ?_;exact Rp (s85,w64 (s11.2+1)) () hx43 trivial (by exact .pick 0 rfl (.refl))
     ·refine Y8 ?_;refine T_dr [0,0,0,0,1,0,1,2,0,0,0,0,1,0,1,2,2] (.q 0 (.q 1 (.q 2 (.q 3 (.q 4 (.q 5 (.q 6 (.q 8 (.q 9 (.q 10 (.q 11 (.q 12 (.q 13 (.q 14 (.e 7 (.e 15 (.e 16 (.done) (.stop)) (.stop)) (.stop)))))))))))))))) mixed (by kernel_rfl) (by kernel_rfl) ?_;refine Y3 ?_;obtain ⟨x10,h20,hx44⟩:=Ad hx41;have hw7:=Has.low (E:=[y4.2.2]) hs1 hK;obtain ⟨b6,o6,j14,hA6,hj7,hl10,hp6⟩:=Has.at_idx hw7 h20;refine P_p rfl rfl (Ay rfl rfl hA6 (j:=j14) hj7 hl10 Ly) rfl ?_;refine P_q rfl rfl (Ch rfl hp6 (SubE.cons2 (i:=1) rfl (sb 0)) rfl one3) rfl ?_;obtain ⟨x11,h21,hx45⟩:=Ad hx44;refine P_il (Has.low (E:=[]) ha0' hK) h21 Jf Kg (sb 1) (fun b7 o7=>?_);refine Y3 ?_;obtain ⟨x12,h22,hx46⟩:=Ad hx45;have hw8:=Has.low (E:=[y4.2.2]) hs1 hK;obtain ⟨b8,o8,j15,hA7,hj8,hl11,hp7⟩:=Has.at_idx hw8 h22;refine P_p rfl rfl (Ay rfl rfl hA7 (j:=j15) hj8 hl11 Ly) rfl ?_;refine P_q rfl rfl (Ch rfl hp7 (SubE.cons2 (i:=1) rfl (sb 0)) rfl one3) rfl ?_;obtain ⟨x13,h23,hx47⟩:=Ad hx46;refine P_il (Has.low (E:=[]) ha0' hK) h23 Jf Kg (sb 1) (fun b9 o9=>?_);obtain ⟨r0,h24,hx48⟩:=Ad hx47;refine Pc (fun w1 hw1=>Bl (⟨x11.X,x11.Y,(⟨x11.Z.Lo,x11.Z.Hi⟩:Ak)⟩:Ab)  h24 w1) ?_;obtain ⟨r1,h25,hx49⟩:=Ad hx48;refine Pc (fun w1 hw1=>Bl (⟨x13.X,x13.Y,(⟨x13.Z.Lo,x13.Z.Hi⟩:Ak)⟩:Ab)  h25 w1) ?_
      obtain ⟨r2,h26,hx50⟩:=Ad hx49;refine Pc (fun w1 hw1=>Wb r0 r1  h26 w1) ?_;refine Y2 ?_;refine Da (s:=41) rfl (fun h27=>?_) (fun h27=>?_)
      ·have hx51:=Dd h27 hx50;refine Y6 ?_;exact Mt s11.2 () hx51 trivial (by exact .pick 0 rfl (.refl))
      ·have hx52:=Dr h27 hx50;refine Y3 ?_;exact Mt s11.1 () hx52 trivial (by exact .pick 0 rfl (.refl))
    ·refine Y3 ?_;obtain rfl:=Bm ht3 hx42;refine Y2 ?_;exact Mt s11.1 () ho3 trivial (by exact .pick 0 rfl (.refl))
  ·refine Y3 ?_;obtain rfl:=Bm ht1 hx13;refine Y2 ?_;exact Mt s4 (y4.1,y4.2.1,y4.2.2) ho1 ((by exact ⟨lo502,Has.len' hs1,trivial⟩)) (by exact .pick 0 rfl (.refl))
set_option maxHeartbeats 1000000 in
set_option maxRecDepth 100000 in
instance lidarref06_third_c (p0:List Ab) (p1:Int) (p2:Int) (p3:List Int):Con (Jo p0 p1 p2 p3) Tryz.prog 186 (fun K vs=>∃ (A0_0:Option Addr) (c0_0:Nat) (A0_1:Option Addr) (c0_1:Nat),vs=[.slice (A0_0) ((p0).length) (c0_0),.int .i64 (p1),.int .i64 (p2),.slice (A0_1) ((p3).length) (c0_1)]∧Has K A0_0 (p0).length c0_0 4 Ae (p0)∧Has K A0_1 (p3).length c0_1 1 Bu (p3)∧True) (fun _ r=>fun v Ln=>v = .int .i64 (r)∧Ln=[]∧True):=⟨by
 rintro K _ r ⟨A0_0,c0_0,A0_1,c0_1,rfl,ha0,ha1,-⟩ hx w hK;exact Rc p0 p1 p2 p3 ha0 ha1 hx w hK⟩
set_option maxRecDepth 100000 in
theorem Sh (p0:List Ab) (p1:List Aa) (p2:Int) (p3:Int) {K:List Ent} {A0_0:Option Addr} {c0_0:Nat} {A0_1:Option Addr} {c0_1:Nat} (ha0:Has K A0_0 p0.length c0_0 4 Ae (p0)) (ha1:Has K A0_1 p1.length c0_1 2 Ag (p1)) {r:Int} (hx:Kv p0 p1 p2 p3=some r) (w:World) (hK:∀ e∈K,Ent.ok w e):CtL Tryz.prog 133 [.slice (A0_0) (p0.length) (c0_0),.slice (A0_1) (p1.length) (c0_1),.int .i64 (p2),.int .i64 (p3)] w fun v Ln=>v = .int .i64 (r)∧Ln=[]∧True:=by
 have ha0':=Has.up0 ha0;have ha1':=Has.up0 ha1;refine CtL.mk 100 Tryz.func133 rfl Tryz.ntmps133 (by kernel_rfl) rfl ?_;show T 100 _ [(0,.slice (A0_0) (p0.length) (c0_0)),(1,.slice (A0_1) (p1.length) (c0_1)),(2,.int .i64 (p2)),(3,.int .i64 (p3))] _;unfold Kv at hx;refine Y10 ?_;refine Tj (γ:=(Option Addr) × Nat) hx (fun s3 y3=>[(0,.slice (A0_0) (p0.length) (c0_0)),(2,.int .i64 (p2)),(3,.int .i64 (p3)),(9,.slice (y3.1) (s3.length) (y3.2))]) (fun s3 y3=>[.r (y3.1) (s3.length) (y3.2) 3 1 (s3.flatMap Bu)]++[.old w]) (fun s3 y3=>True) (fun s3 y3 hx0 hG0=>?_) (fun j3 hx=>?_)
 ·refine Y4 ?_;refine Al (Bx rfl 3 Tryz.underlying59) rfl ?_;refine Y3 ?_;refine Ti hx0 (s:=90) rfl (fun h0 hx1=>?_) (fun h0 hx2=>?_)
  ·refine Y8 ?_;obtain rfl:=Option.some.inj hx1;exact Cu (rs:=[.tmp 8]) Tryz.results133 (.tmp rfl (.nil)) (Ln:=[]) ⟨rfl,rfl,trivial⟩ (Dk) (by exact .drop 0 rfl (.refl))
  ·refine Y12 ?_;refine Ou (k:=0) rfl (by decide) (fun _=>rfl) (fun hn0 hs0=>?_);obtain ⟨r0,h1,hx3⟩:=Ad hx2;refine T_x (Bk rfl (fun w1 hw1=>Sg p0 p2 p3 s3 (Has.len' (Has.up (L:=(K++[.r (y3.1) (s3.length) (y3.2) 3 1 (s3.flatMap Bu)])) ha0' (SubE.app2 SubE.nil))) (Has.len' (Has.up (L:=(K++[.r (y3.1) (s3.length) (y3.2) 3 1 (s3.flatMap Bu)])) hs0 (SubE.appR2 (sb 0)))) h1 w1 (Mu (K:=K) (K2:=[.r (y3.1) (s3.length) (y3.2) 3 1 (s3.flatMap Bu)]) hK (by exact (sb 1)) (by exact (sb 0)) hw1)) rfl ?_);rintro _ _ hlo ⟨A0,c0,rfl,rfl,-⟩;refine Kh ?_;refine Ou (k:=0) rfl (by decide) (fun _=>rfl) (fun hn1 hs1=>?_);obtain ⟨r1,h2,hx4⟩:=Ad hx3;refine Tc (fun w1 hw1=>Rc p0 p2 p3 r0 (Has.len' (Has.up (L:=(K++[.r (A0) (r0.length) (c0) 3 1 (r0.flatMap Bu)])) ha0' (SubE.app2 SubE.nil))) (Has.len' (Has.up (L:=(K++[.r (A0) (r0.length) (c0) 3 1 (r0.flatMap Bu)])) hs1 (SubE.appR2 (sb 0)))) h2 w1 (Mu (K:=K) (K2:=[.r (A0) (r0.length) (c0) 3 1 (r0.flatMap Bu)]) hK (by exact (sb 2)) (by exact (sb 0)) hw1)) ?_;refine Y4 ?_;obtain rfl:=Option.some.inj hx4;exact Cu (rs:=[.tmp 8]) Tryz.results133 (.tmp rfl (.nil)) (Ln:=[]) ⟨rfl,rfl,trivial⟩ (Dk) (by exact .drop 0 rfl (.drop 0 rfl (.refl)))
 ·refine Y3 ?_;refine Al (Bx rfl 43 Tryz.underlying22) rfl ?_;refine Y4 ?_;obtain ⟨t0,hl0,ho0⟩:=Ad hx;refine Bb 3 1 ?_
  have hn2:0=(([]:List Int)).length:=by simp [Bj,Bz,List.length_append] <;> omega
  refine He (.here) (e':=.r (none) ((([]:List Int)).length) (0) 3 1 ((([]:List Int)).flatMap Bu)) (by first | (rw [← hn2];done) | rfl) ?_;refine Lp (σ:=(List Int) × Int) (γ:=(Option Addr) × Nat) hl0 (fun s0 y0=>[(0,.slice (A0_0) (p0.length) (c0_0)),(1,.slice (A0_1) (p1.length) (c0_1)),(2,.int .i64 (p2)),(3,.int .i64 (p3)),(9,.slice (y0.1) (s0.1.length) (y0.2)),(12,.int .i64 (((p0.length:Nat):Int))),(13,.int .i64 (s0.2))]) (fun s0 y0=>[.r (y0.1) (s0.1.length) (y0.2) 3 1 (s0.1.flatMap Bu)]++[.old w]) (fun s0 y0=>True) (none,0) trivial (by exact .pick 0 rfl (.refl)) ?_;intro s0 y0 hG1 x0 hx5 ht0;unfold Kc at hx5;refine Y6 ?_;refine Ti hx5 (s:=14) rfl (fun h3 hx6=>?_) (fun h3 hx7=>?_)
  ·refine Y3 ?_;refine Tj (γ:=(Option Addr) × Nat) hx6 (fun s1 y1=>[(0,.slice (A0_0) (p0.length) (c0_0)),(1,.slice (A0_1) (p1.length) (c0_1)),(2,.int .i64 (p2)),(3,.int .i64 (p3)),(9,.slice (y1.1) (s1.length) (y1.2)),(12,.int .i64 (((p0.length:Nat):Int))),(13,.int .i64 (s0.2))]) (fun s1 y1=>[.r (y1.1) (s1.length) (y1.2) 3 1 (s1.flatMap Bu)]++[.old w]) (fun s1 y1=>True) (fun s1 y1 hx8 hG2=>?_) (fun j0 hx6=>?_)
   ·refine Y4 ?_;exact Rp (s1,w64 (s0.2+1)) (y1.1,y1.2) hx8 trivial (by exact .pick 0 rfl (.refl))
   ·refine Y8 ?_;refine Tj (γ:=Unit) hx6 (fun s2 y2=>[(0,.slice (A0_0) (p0.length) (c0_0)),(1,.slice (A0_1) (p1.length) (c0_1)),(2,.int .i64 (p2)),(3,.int .i64 (p3)),(9,.slice (y0.1) (s0.1.length) (y0.2)),(10,.int .i64 (s0.2)),(12,.int .i64 (((p0.length:Nat):Int))),(13,.int .i64 (s0.2)),(48,.bool (s2))]) (fun s2 y2=>[.r (y0.1) (s0.1.length) (y0.2) 3 1 (s0.1.flatMap Bu)]++[.old w]) (fun s2 y2=>True) (fun s2 y2 hx9 hG3=>?_) (fun j1 hx6=>?_)
    ·refine Da (s:=48) rfl (fun h4=>?_) (fun h4=>?_)
     ·have hx10:=Dd h4 hx9;refine Y4 ?_;exact Mt s0.1 (y0.1,y0.2) hx10 trivial (by exact .pick 0 rfl (.refl))
     ·have hx11:=Dr h4 hx9;refine Y7 ?_;refine Al (Bx rfl 3 Tryz.underlying59) rfl ?_;refine Y3 ?_;refine Ti hx11 (s:=51) rfl (fun h5 hx12=>?_) (fun h5 hx13=>?_)
      ·refine Y4 ?_;refine T_x (Bg rfl (Mf _) rfl (fun g0=>?_));refine Y6 ?_;refine T_mr (enc:=Bu) (sz:=1) ([s0.2]) (.here) rfl rfl (fun _=>rfl) (by show 1≤maxLen;decide) ?_
       have hn3:1=([s0.2]).length:=by simp [Bj,Bz,List.length_append] <;> omega
       refine He (.here) (e':=.r (some ⟨g0,0,none⟩) (([s0.2]).length) (1) 3 1 (([s0.2]).flatMap Bu)) (by first | (rw [← hn3];done) | rfl) ?_;refine Hy (s:=9) (v':=.slice (some ⟨g0,0,none⟩) (([s0.2]).length) (1)) rfl (by have hn4:(1)=([s0.2]).length:=(by simp [Bj,Bz,List.length_append] <;> omega);first | (rw [← hn4];done) | rfl) ?_;exact Mt ([s0.2]) (some ⟨g0,0,none⟩,1) hx12 trivial (by exact .pick 0 rfl (.drop 0 rfl (.refl)))
      ·refine Y4 ?_;refine T_dr [0,0,0,1,2,0,0,0,1,2,0,0,0,1,0,1,2,0,0,0,1,2,2] (.q 0 (.q 1 (.q 2 (.q 3 (.q 5 (.q 6 (.q 7 (.q 8 (.q 10 (.q 11 (.q 12 (.q 13 (.q 14 (.q 15 (.q 17 (.q 18 (.q 19 (.q 20 (.e 4 (.e 9 (.e 16 (.e 21 (.e 22 (.done) (.stop)) (.stop)) (.stop)) (.stop)) (.stop)))))))))))))))))))) mixed (by kernel_rfl) (by kernel_rfl) ?_;refine Y2 ?_;obtain ⟨x1,h6,hx14⟩:=Ad hx13;refine P_il (Has.low (E:=[]) ha0' hK) h6 Jf Kg (sb 1) (fun b0 o0=>?_);refine Y2 ?_;obtain ⟨x2,h7,hx15⟩:=Ad hx14;refine P_il (Has.low (E:=[]) ha0' hK) h7 Jf Kg (sb 1) (fun b1 o1=>?_);refine Y2 ?_;obtain ⟨x3,h8,hx16⟩:=Ad hx15;refine Lg (k:=0) rfl (by decide) (fun _=>rfl) h8 (fun b2 j2 hA0 hj0 hl1 hm0 hp0=>?_);refine P_p rfl rfl (Ay rfl rfl hA0 (j:=j2) hj0 hl1 Ly) rfl ?_;refine P_q rfl rfl (Ch rfl hp0 (sb 0) rfl one3) rfl ?_;obtain ⟨x4,h9,hx17⟩:=Ad hx16;refine P_il (Has.low (E:=[]) ha0' hK) h9 Jf Kg (sb 1) (fun b3 o2=>?_);refine Y2 ?_;obtain ⟨x5,h10,hx18⟩:=Ad hx17;refine P_il (Has.low (E:=[]) ha0' hK) h10 Jf Kg (sb 1) (fun b4 o3=>?_);obtain ⟨r2,h11,hx19⟩:=Ad hx18;refine Pc (fun w1 hw1=>Bl (⟨x1.X,x1.Y,(⟨x1.Z.Lo,x1.Z.Hi⟩:Ak)⟩:Ab)  h11 w1) ?_;obtain ⟨r3,h12,hx20⟩:=Ad hx19;refine Pc (fun w1 hw1=>Bl (⟨x2.X,x2.Y,(⟨x2.Z.Lo,x2.Z.Hi⟩:Ak)⟩:Ab)  h12 w1) ?_
       obtain ⟨r4,h13,hx21⟩:=Ad hx20;refine Pc (fun w1 hw1=>Bl (⟨x4.X,x4.Y,(⟨x4.Z.Lo,x4.Z.Hi⟩:Ak)⟩:Ab)  h13 w1) ?_;obtain ⟨r5,h14,hx22⟩:=Ad hx21;refine Pc (fun w1 hw1=>Bl (⟨x5.X,x5.Y,(⟨x5.Z.Lo,x5.Z.Hi⟩:Ak)⟩:Ab)  h14 w1) ?_;obtain ⟨r6,h15,hx23⟩:=Ad hx22;refine Pc (fun w1 hw1=>Wc r2 r3 r4 r5  h15 w1) ?_;refine Y9 ?_;refine Ti hx23 (s:=77) rfl (fun h16 hx24=>?_) (fun h16 hx25=>?_)
       ·refine Y3 ?_;refine T_x (Bg rfl (Mf _) rfl (fun g1=>?_));refine Y4 ?_;refine T_mr (enc:=Bu) (sz:=1) ([s0.2]) (.here) rfl rfl (fun _=>rfl) (by show 1≤maxLen;decide) ?_
        have hn5:1=([s0.2]).length:=by simp [Bj,Bz,List.length_append] <;> omega
        refine He (.here) (e':=.r (some ⟨g1,0,none⟩) (([s0.2]).length) (1) 3 1 (([s0.2]).flatMap Bu)) (by first | (rw [← hn5];done) | rfl) ?_;refine Hy (s:=9) (v':=.slice (some ⟨g1,0,none⟩) (([s0.2]).length) (1)) rfl (by have hn6:(1)=([s0.2]).length:=(by simp [Bj,Bz,List.length_append] <;> omega);first | (rw [← hn6];done) | rfl) ?_;exact Mt ([s0.2]) (some ⟨g1,0,none⟩,1) hx24 trivial (by exact .pick 0 rfl (.drop 0 rfl (.refl)))
       ·refine Y7 ?_;refine Ti hx25 (s:=81) rfl (fun h17 hx26=>?_) (fun h17 hx27=>?_)
        ·refine Y4 ?_;refine T_x (Bg rfl (Mf _) rfl (fun g2=>?_));obtain ⟨h18,hx28⟩:=Be hx26;refine T_h (Df Bu (s0.1) [s0.2] rfl rfl rfl Ahy (fun _=>rfl) (i':=0) rfl rfl rfl rfl h18 rfl (fun _ _=>.there (.here)) (fun _ _=>.drop .refl) (by decide) (fun A1 c1=>?_));refine Y4 ?_;exact Mt (s0.1++[s0.2]) (A1,c1) hx28 trivial (by exact .pick 0 rfl (.refl))
        ·refine Y4 ?_;exact Mt s0.1 (y0.1,y0.2) hx27 trivial (by exact .pick 0 rfl (.refl))
    ·refine T_dr [0,0,0,1,2,0,0,0,1,2,0,0,0,1,2,2,0,0,0,0,0,0,2,0,0,0,0,0,0,0,2,0,0] (.q 0 (.q 1 (.q 2 (.q 3 (.q 5 (.q 6 (.q 7 (.q 8 (.q 10 (.q 11 (.q 12 (.q 13 (.e 4 (.e 9 (.e 14 (.e 15 (.q 16 (.q 17 (.q 18 (.q 19 (.q 20 (.q 21 (.e 22 (.q 23 (.q 24 (.q 25 (.q 26 (.q 27 (.q 28 (.q 29 (.e 30 (.q 31 (.q 32 (.done))) (.stop))))))))) (.stop)))))))) (.stop)) (.stop)) (.stop)) (.stop)))))))))))))) mixed (by kernel_rfl) (by kernel_rfl) ?_;refine Y2 ?_;obtain ⟨x6,h19,hx29⟩:=Ad hx6;refine P_il (Has.low (E:=[]) ha0' hK) h19 Jf Kg (sb 1) (fun b5 o4=>?_);refine Y2 ?_;obtain ⟨x7,h20,hx30⟩:=Ad hx29;refine P_il (Has.low (E:=[]) ha0' hK) h20 Jf Kg (sb 1) (fun b6 o5=>?_);refine Y2 ?_;obtain ⟨x8,h21,hx31⟩:=Ad hx30;refine P_il (Has.low (E:=[]) ha0' hK) h21 Jf Kg (sb 1) (fun b7 o6=>?_);obtain ⟨r7,h22,hx32⟩:=Ad hx31;refine Pc (fun w1 hw1=>Bl (⟨x6.X,x6.Y,(⟨x6.Z.Lo,x6.Z.Hi⟩:Ak)⟩:Ab)  h22 w1) ?_;obtain ⟨r8,h23,hx33⟩:=Ad hx32;refine Pc (fun w1 hw1=>Bl (⟨x7.X,x7.Y,(⟨x7.Z.Lo,x7.Z.Hi⟩:Ak)⟩:Ab)  h23 w1) ?_;obtain ⟨r9,h24,hx34⟩:=Ad hx33;refine Pc (fun w1 hw1=>Bl (⟨x8.X,x8.Y,(⟨x8.Z.Lo,x8.Z.Hi⟩:Ak)⟩:Ab)  h24 w1) ?_;obtain ⟨r10,h25,hx35⟩:=Ad hx34;refine Pc (fun w1 hw1=>Rt r7 r8 r9  h25 w1) ?_
     refine Y2 ?_;refine Ti hx35 (s:=33) rfl (fun h26 hx36=>?_) (fun h26 hx37=>?_)
     ·refine Y4 ?_;refine Dv rfl rfl rfl rfl rfl rfl ?_ ?_;rotate_left;exact Az;refine Y7 ?_;refine Dv rfl rfl rfl rfl rfl rfl ?_ ?_;rotate_left;exact Az;refine Y3 ?_;exact Mt true () hx36 trivial (by exact .pick 0 rfl (.refl))
     ·refine Y4 ?_;obtain ⟨r11,h27,hx38⟩:=Ad hx37;refine P_xG rfl rfl rfl rfl (Bk rfl (fun w1 hw1=>Sf p0 p1 p2 s0.2 (Has.len' ha0') (Has.len' ha1') h27 w1 (Mu (K:=K) (K2:=[]) hK (by exact (sb 1)) (by exact (SubE.nil)) hw1)) rfl ?_) ?_;rotate_left;exact Az;rintro _ _ hlo ⟨rfl,rfl,-⟩;refine Ee ?_;refine Y3 ?_;refine Od (s:=41) rfl (fun h28=>?_) (fun h28=>?_)
      ·have hx39:=Dr h28 hx38;refine Y4 ?_;refine Dv rfl rfl rfl rfl rfl rfl ?_ ?_;rotate_left;exact Az;refine Y3 ?_;exact Mt true () hx39 trivial (by exact .pick 0 rfl (.refl))
      ·have hx40:=Dd h28 hx38;refine Y4 ?_;obtain ⟨r12,h29,hx41⟩:=Ad hx40;refine P_xG rfl rfl rfl rfl (Bk rfl (fun w1 hw1=>Sf p0 p1 p3 s0.2 (Has.len' ha0') (Has.len' ha1') h29 w1 (Mu (K:=K) (K2:=[]) hK (by exact (sb 1)) (by exact (SubE.nil)) hw1)) rfl ?_) ?_;rotate_left;exact Az;rintro _ _ hlo ⟨rfl,rfl,-⟩;refine Ee ?_;refine Y3 ?_;exact Mt (!(r12)) () hx41 trivial (by exact .pick 0 rfl (.refl))
  ·refine Y3 ?_;obtain rfl:=Bm ht0 hx7;refine Y2 ?_;exact Mt s0.1 (y0.1,y0.2) ho0 trivial (by exact .pick 0 rfl (.refl))
set_option maxHeartbeats 1000000 in
set_option maxRecDepth 100000 in
instance lidarref06_apex_c (p0:List Ab) (p1:List Aa) (p2:Int) (p3:Int):Con (Kv p0 p1 p2 p3) Tryz.prog 133 (fun K vs=>∃ (A0_0:Option Addr) (c0_0:Nat) (A0_1:Option Addr) (c0_1:Nat),vs=[.slice (A0_0) ((p0).length) (c0_0),.slice (A0_1) ((p1).length) (c0_1),.int .i64 (p2),.int .i64 (p3)]∧Has K A0_0 (p0).length c0_0 4 Ae (p0)∧Has K A0_1 (p1).length c0_1 2 Ag (p1)∧True) (fun _ r=>fun v Ln=>v = .int .i64 (r)∧Ln=[]∧True):=⟨by
 rintro K _ r ⟨A0_0,c0_0,A0_1,c0_1,rfl,ha0,ha1,-⟩ hx w hK;exact Sh p0 p1 p2 p3 ha0 ha1 hx w hK⟩
end Go.Proofs.YtgfiafnelibjgaaGreat
