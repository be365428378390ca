import Derived.Test.YtlejkgngmjchdaaGreatEs
set_option maxRecDepth 100000
set_option maxHeartbeats 1000000
namespace Go.Proofs.YtlejkgngmjchdaaGreat
noncomputable section
section
open Go Go.RowKit
theorem Xg(x0:Int)(x1:Int):Ot Tryz.prog 58 2 [(0,.int .i64 x0),(1,.int .i64 x1)] 3 [.int .i64 x0,.int .i64 x1]:=fun w=>kr
instance(x0:Int)(x1:Int):Kg Tryz.prog 58 2 [(0,.int .i64 x0),(1,.int .i64 x1)] 3 [.int .i64 x0,.int .i64 x1]:=⟨Xg _ _⟩
def Ky(p0:Ad)(p1:Ad)(p2:Ad)(p3:Ad):Option Bool :=
 jn (fun (s2:Bool)=>
 some s2)
 (fun j2=>bnd (Cm p0 p1 p2) fun r5=>
 bnd (Cm p0 p1 p3) fun r8=>
 if (w64 (r5*r8))<0 then (bnd (Cm p2 p3 p0) fun r0=>
 bnd (Cm p2 p3 p1) fun r1=>
 j2 (decide ((w64 (r0*r1))<0)))
 else (j2 false))
def Dd(s0:Int)(p1:List Ab):Int->Option (Sum Int (Sum Unit Int)):=fun s1=>
 if s1<s0 then (jn (fun (s2:Bool)=>
 if s2=true then (some (.inr (.inr 62)))
 else (some (.inl (w64 (s1+1)))))
 (fun j0=>bnd (idx p1 s0) fun x0=>
 bnd (idx p1 s1) fun x1=>
 if (((x0.a0==x1.a0)&&((x0.a1==x1.a1)&&true)))=true then (j0 true)
 else (bnd (idx p1 s0) fun x2=>
 bnd (idx p1 s1) fun x3=>
 if x2.a0=x3.a1 then (bnd (idx p1 s0) fun x4=>
 bnd (idx p1 s1) fun x5=>
 j0 (decide (x4.a1=x5.a0)))
 else (j0 false))))
 else (some (.inr (.inl ())))
def Fu(p1:List Ab)(p0:List Aa):Int->Option (Sum Int (Sum Unit Int)):=fun s0=>
 if s0<(p1.length:Int) then (jn (fun (s1:Unit)=>
 some (.inl (w64 (s0+1))))
 (fun j0=>jn (fun (s2:Bool)=>
 if s2=true then (some (.inr (.inr 62)))
 else (bnd (lfix (Dd s0 p1) 0) fun t0=>
 (match t0 with
 |(.inl z0)=>j0 z0
 |(.inr z0)=>some (.inr (.inr z0))
 )))
 (fun j1=>bnd (idx p1 s0) fun x0=>
 if x0.a0<0 then (j1 true)
 else (bnd (idx p1 s0) fun x1=>
 if (p0.length:Int)<=x1.a0 then (j1 true)
 else (bnd (idx p1 s0) fun x2=>
 if x2.a1<0 then (j1 true)
 else (bnd (idx p1 s0) fun x3=>
 if (p0.length:Int)<=x3.a1 then (j1 true)
 else (bnd (idx p1 s0) fun x4=>
 bnd (idx p1 s0) fun x5=>
 j1 (decide (x4.a0=x5.a1)))))))))
 else (some (.inr (.inl ())))
def Cu(p0:List Aa)(p1:List Ab)(s0:Int)(r0:Ad)(r1:Ad):Int->Option (Sum Int (Sum Unit Int)):=fun s1=>
 if s1<(p0.length:Int) then (jn (fun (s2:Bool)=>
 if s2=true then (some (.inr (.inr 63)))
 else (some (.inl (w64 (s1+1)))))
 (fun j0=>bnd (idx p1 s0) fun x0=>
 if s1=x0.a0 then (j0 false)
 else (bnd (idx p1 s0) fun x1=>
 if s1=x1.a1 then (j0 false)
 else (bnd (idx p0 s1) fun x2=>
 bnd (Am (⟨x2.X,x2.Y,(⟨x2.Z.Lo,x2.Z.Hi⟩:Af)⟩:Aa)) fun r2=>
 bnd (Iu r0 r1 r2) fun r3=>
 j0 r3))))
 else (some (.inr (.inl ())))
def Cv(s0:Int)(p1:List Ab)(p0:List Aa)(r0:Ad)(r1:Ad):Int->Option (Sum Int (Sum Unit Int)):=fun s1=>
 if s1<s0 then (bnd (idx p1 s1) fun x0=>
 bnd (idx p0 x0.a0) fun x1=>
 bnd (idx p1 s1) fun x2=>
 bnd (idx p0 x2.a1) fun x3=>
 bnd (Am (⟨x1.X,x1.Y,(⟨x1.Z.Lo,x1.Z.Hi⟩:Af)⟩:Aa)) fun r2=>
 bnd (Am (⟨x3.X,x3.Y,(⟨x3.Z.Lo,x3.Z.Hi⟩:Af)⟩:Aa)) fun r3=>
 bnd (Ky r0 r1 r2 r3) fun r4=>
 if r4=true then (some (.inr (.inr 63)))
 else (some (.inl (w64 (s1+1)))))
 else (some (.inr (.inl ())))
def Ey(p1:List Ab)(p0:List Aa):Int->Option (Sum Int (Sum Unit Int)):=fun s0=>
 if s0<(p1.length:Int) then (jn (fun (s1:Unit)=>
 some (.inl (w64 (s0+1))))
 (fun j0=>bnd (idx p1 s0) fun x0=>
 bnd (idx p0 x0.a0) fun x1=>
 bnd (idx p1 s0) fun x2=>
 bnd (idx p0 x2.a1) fun x3=>
 bnd (Am (⟨x1.X,x1.Y,(⟨x1.Z.Lo,x1.Z.Hi⟩:Af)⟩:Aa)) fun r0=>
 bnd (Am (⟨x3.X,x3.Y,(⟨x3.Z.Lo,x3.Z.Hi⟩:Af)⟩:Aa)) fun r1=>
 jn (fun (s2:Unit)=>
 bnd (lfix (Cv s0 p1 p0 r0 r1) 0) fun t0=>
 (match t0 with
 |(.inl z0)=>j0 z0
 |(.inr z0)=>some (.inr (.inr z0))
 ))
 (fun j1=>bnd (lfix (Cu p0 p1 s0 r0 r1) 0) fun t1=>
 (match t1 with
 |(.inl z1)=>j1 z1
 |(.inr z1)=>some (.inr (.inr z1))
 ))))
 else (some (.inr (.inl ())))
def Ib(p0:List Aa)(p1:List Ab):Option Int :=
 jn (fun (s2:Unit)=>
 jn (fun (s0:Unit)=>
 some 0)
 (fun j0=>bnd (lfix (Ey p1 p0) 0) fun t0=>
 (match t0 with
 |(.inl z0)=>j0 z0
 |(.inr z0)=>some z0
 )))
 (fun j2=>bnd (lfix (Fu p1 p0) 0) fun t1=>
 (match t1 with
 |(.inl z1)=>j2 z1
 |(.inr z1)=>some z1
 ))
def Kz(p0:List Aa)(p1:List Ab):Option Int :=
 bnd (Jz p0) fun r1=>
 if r1=0 then (bnd (Ib p0 p1) fun r7=>
 some r7)
 else (some r1)
def Lt(p1:List Ab)(p0:List Aa)(p2:Int)(p3:Int):Int->Option (Sum Int (Sum Unit Bool)):=fun s0=>
 if s0<(p1.length:Int) then (bnd (idx p1 s0) fun x0=>
 bnd (idx p0 p2) fun x1=>
 bnd (idx p0 p3) fun x2=>
 bnd (idx p0 x0.a0) fun x3=>
 bnd (idx p0 x0.a1) fun x4=>
 bnd (Am (⟨x1.X,x1.Y,(⟨x1.Z.Lo,x1.Z.Hi⟩:Af)⟩:Aa)) fun r0=>
 bnd (Am (⟨x2.X,x2.Y,(⟨x2.Z.Lo,x2.Z.Hi⟩:Af)⟩:Aa)) fun r1=>
 bnd (Am (⟨x3.X,x3.Y,(⟨x3.Z.Lo,x3.Z.Hi⟩:Af)⟩:Aa)) fun r2=>
 bnd (Am (⟨x4.X,x4.Y,(⟨x4.Z.Lo,x4.Z.Hi⟩:Af)⟩:Aa)) fun r3=>
 bnd (Ky r0 r1 r2 r3) fun r4=>
 if r4=true then (some (.inr (.inr false)))
 else (some (.inl (w64 (s0+1)))))
 else (some (.inr (.inl ())))
def Mm(p0:List Aa)(p1:List Ab)(p2:Int)(p3:Int):Option Bool :=
 jn (fun (s2:Unit)=>
 some true)
 (fun j2=>bnd (lfix (Lt p1 p0 p2 p3) 0) fun t0=>
 (match t0 with
 |(.inl z0)=>j2 z0
 |(.inr z0)=>some z0
 ))
def Lu(s0:LI)(x0:Int):(Bool×Int)->Option (Sum (Bool×Int) Bool):=fun s1=>
 if s1.2<(s0.length:Int) then (jn (fun (s2:Bool)=>
 some (.inl (s2,w64 (s1.2+1))))
 (fun j0=>bnd (idx s0 s1.2) fun x1=>
 if s1.1=true then (j0 true)
 else (j0 (decide (x1=x0)))))
 else (some (.inr s1.1))
def Lv(p3:LI)(p0:List Aa)(p1:Int)(s0:LI):(Int×Int)->Option (Sum (Int×Int) Int):=fun s1=>
 if s1.2<(p3.length:Int) then (jn (fun (s2:Int)=>
 some (.inl (s2,w64 (s1.2+1))))
 (fun j0=>bnd (idx p3 s1.2) fun x0=>
 jn (fun (s3:Bool)=>
 jn (fun (s4:Bool)=>
 if s4=true then (j0 x0)
 else (j0 s1.1))
 (fun j1=>if s3=true then (j1 false)
 else (if s1.1<0 then (j1 true)
 else (bnd (idx p0 p1) fun x1=>
 bnd (idx p0 x0) fun x2=>
 bnd (idx p0 s1.1) fun x3=>
 bnd (Am (⟨x1.X,x1.Y,(⟨x1.Z.Lo,x1.Z.Hi⟩:Af)⟩:Aa)) fun r0=>
 bnd (Am (⟨x2.X,x2.Y,(⟨x2.Z.Lo,x2.Z.Hi⟩:Af)⟩:Aa)) fun r1=>
 bnd (Am (⟨x3.X,x3.Y,(⟨x3.Z.Lo,x3.Z.Hi⟩:Af)⟩:Aa)) fun r2=>
 bnd (Cm r0 r1 r2) fun r3=>
 j1 (decide (0<r3))))))
 (fun j2=>bnd (lfix (Lu s0 x0) (false,0)) fun t0=>
 j2 t0)))
 else (some (.inr s1.1))
def Oo(p3:LI)(p0:List Aa)(p1:Int):LI->Option (Sum LI LI):=fun s0=>
 if (s0.length:Int)<(w64 ((p3.length:Int)+2)) then (jn (fun (s1:Int)=>
 gd ((s0.length+1)*8<=140737488355328)<|
 some (.inl (s0++[s1])))
 (fun j0=>bnd (lfix (Lv p3 p0 p1 s0) (-1,0)) fun t0=>
 j0 t0))
 else (some (.inr s0))
def Pg(p0:List Aa)(p1:Int)(p2:Int)(p3:LI):Option LI:=
 jn (fun (s3:LI)=>
 some s3)
 (fun j3=>bnd (lfix (Oo p3 p0 p1) ([p1,p2])) fun t0=>
 j3 t0)
def Jw(s0:LI)(p0:List Aa):(Int×Int)->Option (Sum (Int×Int) Int):=fun s1=>
 if s1.2<(s0.length:Int) then (jn (fun (s2:Int)=>
 some (.inl (s2,w64 (s1.2+1))))
 (fun j0=>bnd (idx s0 s1.2) fun x0=>
 bnd (idx p0 x0) fun x1=>
 bnd (idx s0 s1.1) fun x2=>
 bnd (idx p0 x2) fun x3=>
 bnd (Am (⟨x1.X,x1.Y,(⟨x1.Z.Lo,x1.Z.Hi⟩:Af)⟩:Aa)) fun r0=>
 bnd (Am (⟨x3.X,x3.Y,(⟨x3.Z.Lo,x3.Z.Hi⟩:Af)⟩:Aa)) fun r1=>
 bnd (Jl r0 r1) fun r2=>
 if r2=true then (j0 s1.2)
 else (j0 s1.1)))
 else (some (.inr s1.1))
def Ji(s0:LI)(s1:Int):(LI×Int)->Option (Sum (LI×Int) LI):=fun s2=>
 if s2.2<(s0.length:Int) then (jn (fun (s3:LI)=>
 some (.inl (s3,w64 (s2.2+1))))
 (fun j0=>if s2.2=s1 then (j0 s2.1)
 else (bnd (idx s0 s2.2) fun x0=>
 gd ((s2.1.length+1)*8<=140737488355328)<|
 j0 (s2.1++[x0]))))
 else (some (.inr s2.1))
def Ff(p2:Int)(p1:Int)(p0:List Aa):LI->Option (Sum LI (Sum LI Int)):=fun s0=>
 if 3<(s0.length:Int) then (jn (fun (s1:Int)=>
 gd ((s0.length:Int)≠0)<|
 bnd (idx s0 (Int.tmod (w64 ((w64 (s1+(s0.length:Int)))-1)) (s0.length:Int))) fun x0=>
 gd ((s0.length:Int)≠0)<|
 bnd (idx s0 (Int.tmod (w64 (s1+1)) (s0.length:Int))) fun x1=>
 jn (fun (s2:Bool)=>
 if s2=true then (some (.inr (.inr x0)))
 else (jn (fun (s3:Bool)=>
 if s3=true then (some (.inr (.inr x1)))
 else (jn (fun (s4:LI)=>
 some (.inl s4))
 (fun j0=>bnd (lfix (Ji s0 s1) (([]:LI),0)) fun t0=>
 j0 t0)))
 (fun j1=>bnd (idx s0 s1) fun x2=>
 if x2=p2 then (j1 (decide (x0=p1)))
 else (j1 false))))
 (fun j2=>bnd (idx s0 s1) fun x3=>
 if x3=p1 then (j2 (decide (x1=p2)))
 else (j2 false)))
 (fun j3=>bnd (lfix (Jw s0 p0) (0,0)) fun t1=>
 j3 t1))
 else (some (.inr (.inl s0)))
def Dl(s2:LI)(p1:Int)(p2:Int):Int->Option (Sum Int (Sum Unit Int)):=fun s0=>
 if s0<(s2.length:Int) then (bnd (idx s2 s0) fun x0=>
 jn (fun (s1:Bool)=>
 if s1=true then (some (.inr (.inr x0)))
 else (some (.inl (w64 (s0+1)))))
 (fun j0=>if x0=p1 then (j0 false)
 else (j0 (!(decide (x0=p2))))))
 else (some (.inr (.inl ())))
def Nt(p0:List Aa)(p1:Int)(p2:Int)(p3:LI):Option Int :=
 jn (fun (s2:LI)=>
 jn (fun (s0:Unit)=>
 some (-1))
 (fun j0=>bnd (lfix (Dl s2 p1 p2) 0) fun t0=>
 (match t0 with
 |(.inl z0)=>j0 z0
 |(.inr z0)=>some z0
 )))
 (fun j2=>bnd (lfix (Ff p2 p1 p0) p3) fun t1=>
 (match t1 with
 |(.inl z1)=>j2 z1
 |(.inr z1)=>some z1
 ))
def Lw(p0:List Aa)(p2:Int)(p3:Int)(p1:List Ab):(LI×Int)->Option (Sum (LI×Int) LI):=fun s0=>
 if s0.2<(p0.length:Int) then (jn (fun (s1:LI)=>
 some (.inl (s1,w64 (s0.2+1))))
 (fun j0=>jn (fun (s2:Bool)=>
 if s2=true then (j0 s0.1)
 else (if (s0.1.length:Int)=0 then (j0 ([s0.2]))
 else (bnd (idx p0 p2) fun x0=>
 bnd (idx p0 p3) fun x1=>
 bnd (idx s0.1 0) fun x2=>
 bnd (idx p0 x2) fun x3=>
 bnd (idx p0 s0.2) fun x4=>
 bnd (Am (⟨x0.X,x0.Y,(⟨x0.Z.Lo,x0.Z.Hi⟩:Af)⟩:Aa)) fun r0=>
 bnd (Am (⟨x1.X,x1.Y,(⟨x1.Z.Lo,x1.Z.Hi⟩:Af)⟩:Aa)) fun r1=>
 bnd (Am (⟨x3.X,x3.Y,(⟨x3.Z.Lo,x3.Z.Hi⟩:Af)⟩:Aa)) fun r2=>
 bnd (Am (⟨x4.X,x4.Y,(⟨x4.Z.Lo,x4.Z.Hi⟩:Af)⟩:Aa)) fun r3=>
 bnd (Mu r0 r1 r2 r3) fun r4=>
 if r4=1 then (j0 ([s0.2]))
 else (if r4=0 then (gd ((s0.1.length+1)*8<=140737488355328)<|
 j0 (s0.1++[s0.2]))
 else (j0 s0.1)))))
 (fun j1=>bnd (idx p0 p2) fun x5=>
 bnd (idx p0 p3) fun x6=>
 bnd (idx p0 s0.2) fun x7=>
 bnd (Am (⟨x5.X,x5.Y,(⟨x5.Z.Lo,x5.Z.Hi⟩:Af)⟩:Aa)) fun r5=>
 bnd (Am (⟨x6.X,x6.Y,(⟨x6.Z.Lo,x6.Z.Hi⟩:Af)⟩:Aa)) fun r6=>
 bnd (Am (⟨x7.X,x7.Y,(⟨x7.Z.Lo,x7.Z.Hi⟩:Af)⟩:Aa)) fun r7=>
 bnd (Cm r5 r6 r7) fun r8=>
 if r8<=0 then (j1 true)
 else (bnd (Mm p0 p1 p2 s0.2) fun r9=>
 if r9=true then (bnd (Mm p0 p1 p3 s0.2) fun r10=>
 j1 (!(r10)))
 else (j1 true)))))
 else (some (.inr s0.1))
def Ph(p0:List Aa)(p1:List Ab)(p2:Int)(p3:Int):Option Int :=
 jn (fun (s3:LI)=>
 if (s3.length:Int)=0 then (some (-1))
 else (bnd (Pg p0 p2 p3 s3) fun r0=>
 bnd (Nt p0 p2 p3 r0) fun r1=>
 some r1))
 (fun j3=>bnd (lfix (Lw p0 p2 p3 p1) (([]:LI),0)) fun t0=>
 j3 t0)
instance(p0:Ad)(p1:Ad)(p2:Ad)(p3:Ad):Con (Ky p0 p1 p2 p3) Tryz.prog 224 (fun _ vs=>vs=[.agg #[.int .i64 p0.X,.int .i64 p0.Y],.agg #[.int .i64 p1.X,.int .i64 p1.Y],.agg #[.int .i64 p2.X,.int .i64 p2.Y],.agg #[.int .i64 p3.X,.int .i64 p3.Y]]) (fun _ r v Ln=>v=.bool r/\Ln=[]/\True):=⟨by
 rintro _ _ r rfl hx w hK;unfold Ky at hx;have:=dl 1 [1,1,1,2,1,1,1,2,0,0,0,1,1,1,2,1,1,1,2,0,0,0,2] [0,1,2,4,5,6,3,7,8,9,10,11,12,13,15,16,17,14,18,19,20,21,22];refine CtS Tryz.ntmps224 Tryz.results224 ?_;exact au⟩
instance(p0:List Aa)(p1:List Ab):Con (Ib p0 p1) Tryz.prog 137 (fun K vs=>∃E0 G0 E1 G1,vs=[.slice E0 p0.length G0,.slice E1 p1.length G1]/\Has K E0 p0.length G0 4 Ai p0/\Has K E1 p1.length G1 2 Ar p1/\True) (fun _ r v Ln=>v=.int .i64 r/\Ln=[]/\True):=⟨by
 rintro K _ r ⟨E0,G0,E1,G1,rfl,ha0,ha1,-⟩ hx w hK;replace ha0:=ha0.lo hK;replace ha1:=ha1.lo hK;unfold Ib at hx;have:=dl 4 [0,0,0,0,1,0,0,0,0,0,0,1,0,0,0,0,0,0,0,0,0,1,0,0,0,0,0,0,0,1,0,0,0,0,0,0,0,0,0,1,0,0,0,0,1,0,0] [0,1,2,3,4,5,6,7,8,9,10,11,12,13,14,15,16,17,18,19,20,21,22,23,24,25,26,27,28,29,30,31,32,33,34,35,36,37,38,39,40,41,42,43,44,45,46];have:=dl 9 [0,0,0,1,0,0,0,1,0,0,0,0,0,0,1,0,0,0,0,1,0,0,0,0,0,0,1,0,0,0,0,1,0,0,0] [0,1,2,3,4,5,6,7,8,9,10,11,12,13,14,15,16,17,18,19,20,21,22,23,24,25,26,27,28,29,30,31,32,33,34];have:=dl 15 [0,0,0,0,0,1,0,1,2,0,0,0,0,0,1,0,1,2,4,4,3,3] [0,1,2,3,4,5,6,7,9,10,11,12,13,14,15,16,8,17,18,19,20,21] [18,19];have:=dl 19 [0,0,0,0,0,1,0,0,0,0,0,0,0,1,0,0,0,1,1,0,0,0,1,2,2,0] [0,1,2,3,4,5,6,7,8,9,10,11,12,13,14,15,16,17,18,19,20,21,22,23,24,25];have:=dl 25 [1,1,0,0,0,0,0,1,0,1,2,0,0,0,0,0,1,0,1,2,2] [0,1,2,3,4,5,6,7,8,9,11,12,13,14,15,16,17,18,10,19,20];refine CtS Tryz.ntmps137 Tryz.results137 ?_;refine pq ?_;intros;rename_i hx
 refine pA ?_;intros;rename_i hx
 apply Jr (γ:=Unit) hx [0,1] (fun s2 y2 f=>f) [999] (fun s2 y2 l=>l);exact kk
 .intro s2 y2 hx;apply Jr (γ:=Unit) hx [] (fun s0 y0 f=>f) [999] (fun s0 y0 l=>l);exact kk
  .exact aI
  .refine pI ?_;intros;rename_i hx
   apply Lr (γ:=Unit) hx [0,1,106] (fun s1 y1 f=>(107,.int .i64 s1)::f) [999] (fun s1 y1 l=>l) ();exact kk;exact sk;intro s1 y1 x0 hx _;unfold Ey at hx;refine pq ?_;intros;rename_i hx
   refine Cq1 (s:=108) hx rfl ?_ ?_
   .refine pI ?_;intros;rename_i hx
    apply Jr (γ:=Unit) hx [0,1,106,107] (fun s3 y3 f=>f) [999] (fun s3 y3 l=>l);exact kk
    .exact aI
    .refine pI ?_;intros;rename_i hx
     apply Jr (γ:=Unit) hx [0,1,7,8,9,106,107] (fun s4 y4 f=>f) [0,1,999] (fun s4 y4 l=>l);exact kk
     .intro s4 y4 hx;refine pq ?_;intros;rename_i hx
      apply Lr (γ:=Unit) hx [0,1,7,8,9,106,107] (fun s5 y5 f=>(11,.int .i64 s5)::f) [0,1,999] (fun s5 y5 l=>l) ();exact kk;exact sk;intro s5 y5 x1 hx _;unfold Cv at hx;exact au
     .refine pI ?_;intros;rename_i hx
      apply Lr (γ:=Unit) hx [0,1,7,8,9,106,107,129] (fun s6 y6 f=>(130,.int .i64 s6)::f) [0,1,999] (fun s6 y6 l=>l) ();exact kk;exact sk;intro s6 y6 x2 hx _;unfold Cu at hx;refine pq ?_;intros;rename_i hx
      refine Cq1 (s:=131) hx rfl ?_ ?_
      .refine pI ?_;intros;rename_i hx
       refine pA ?_;intros;rename_i hx
       refine pA ?_;intros;rename_i hx
       apply Jr (γ:=Unit) hx [0,1,7,8,9,106,107,129,130] (fun s7 y7 f=>(158,.bool s7)::f) [0,1,999] (fun s7 y7 l=>l);exact kk
       .exact aI
       .exact aI
      .exact aI
   .exact aI
 .refine pI ?_;intros;rename_i hx
  apply Lr (γ:=Unit) hx [0,1,13] (fun s8 y8 f=>(14,.int .i64 s8)::f) [999] (fun s8 y8 l=>l) ();exact kk;exact sk;intro s8 y8 x3 hx _;unfold Fu at hx;refine pq ?_;intros;rename_i hx
  refine Cq1 (s:=15) hx rfl ?_ ?_
  .refine pI ?_;intros;rename_i hx
   apply Jr (γ:=Unit) hx [0,1,13,14] (fun s9 y9 f=>f) [999] (fun s9 y9 l=>l);exact kk
   .exact aI
   .refine pI ?_;intros;rename_i hx
    refine pA ?_;intros;rename_i hx
    refine pA ?_;intros;rename_i hx
    apply Jr (γ:=Unit) hx [0,1,5,13,14] (fun s27 y27 f=>(63,.bool s27)::f) [999] (fun s27 y27 l=>l);exact kk
    .intro s27 y27 hx;refine Cq3 (s:=63) hx rfl ?_ ?_
     .exact aI
     .refine pI ?_;intros;rename_i hx
      apply Lr (γ:=Unit) hx [0,1,5,13,14] (fun s10 y10 f=>(6,.int .i64 s10)::f) [999] (fun s10 y10 l=>l) ();exact kk;exact sk;intro s10 y10 x4 hx _;unfold Dd at hx;refine pq ?_;intros;rename_i hx
      refine Cq1 (s:=66) hx rfl ?_ ?_
      .refine pI ?_;intros;rename_i hx
       refine pA ?_;intros;rename_i hx
       apply Jr (γ:=Unit) hx [0,1,5,6,13,14] (fun s38 y38 f=>(103,.bool s38)::f) [999] (fun s38 y38 l=>l);exact kk
       .exact aI
       .exact aI
      .exact aI
    .exact aI
  .exact aI⟩
instance(p0:List Aa)(p1:List Ab):Con (Kz p0 p1) Tryz.prog 58 (fun K vs=>∃E0 G0 E1 G1,vs=[.slice E0 p0.length G0,.slice E1 p1.length G1]/\Has K E0 p0.length G0 4 Ai p0/\Has K E1 p1.length G1 2 Ar p1/\True) (fun _ r v Ln=>v=.int .i64 r/\Ln=[]/\True):=⟨by
 rintro K _ r ⟨E0,G0,E1,G1,rfl,ha0,ha1,-⟩ hx w hK;replace ha0:=ha0.lo hK;replace ha1:=ha1.lo hK;unfold Kz at hx;refine CtS Tryz.ntmps58 Tryz.results58 ?_;exact au⟩
instance(p0:List Aa)(p1:List Ab)(p2:Int)(p3:Int):Con (Mm p0 p1 p2 p3) Tryz.prog 226 (fun K vs=>∃E0 G0 E1 G1,vs=[.slice E0 p0.length G0,.slice E1 p1.length G1,.int .i64 p2,.int .i64 p3]/\Has K E0 p0.length G0 4 Ai p0/\Has K E1 p1.length G1 2 Ar p1/\True) (fun _ r v Ln=>v=.bool r/\Ln=[]/\True):=⟨by
 rintro K _ r ⟨E0,G0,E1,G1,rfl,ha0,ha1,-⟩ hx w hK;replace ha0:=ha0.lo hK;replace ha1:=ha1.lo hK;unfold Mm at hx;have:=dl 4 [0,0,0,1,2,0,0,0,1,2,0,0,1,0,1,2,0,0,1,0,1,2,2] [0,1,2,3,5,6,7,8,10,11,12,13,14,16,17,18,19,20,4,9,15,21,22];refine CtS Tryz.ntmps226 Tryz.results226 ?_;refine pq ?_;intros;rename_i hx
 refine pA ?_;intros;rename_i hx
 apply Jr (γ:=Unit) hx [] (fun s2 y2 f=>f) [999] (fun s2 y2 l=>l);exact kk
 .exact aI
 .refine pI ?_;intros;rename_i hx
  apply Lr (γ:=Unit) hx [0,2,3,11,12] (fun s0 y0 f=>(13,.int .i64 s0)::f) [999] (fun s0 y0 l=>l) ();exact kk;exact sk;intro s0 y0 x0 hx _;unfold Lt at hx;exact au⟩
instance(p0:List Aa)(p1:Int)(p2:Int)(p3:LI):Con (Pg p0 p1 p2 p3) Tryz.prog 229 (fun K vs=>∃E0 G0 E1 G1,vs=[.slice E0 p0.length G0,.int .i64 p1,.int .i64 p2,.slice E1 p3.length G1]/\Has K E0 p0.length G0 4 Ai p0/\Has K E1 p3.length G1 1 Ao p3/\True) (fun _ r v Ln=>∃A0 c0,v=.slice A0 r.length c0/\Ln=[.r A0 r.length c0 3 1 (r.flatMap Ao)]/\True):=⟨by
 rintro K _ r ⟨E0,G0,E1,G1,rfl,ha0,ha1,-⟩ hx w hK;replace ha0:=ha0.lo hK;replace ha1:=ha1.lo hK;unfold Pg at hx;have:=dl 13 [0,0,0,0,0,0,0,0,0,1,2,0,0,0,1,2,0,0,0,1,2,2,0,0,0] [0,1,2,3,4,5,6,7,8,9,11,12,13,14,16,17,18,19,10,15,20,21,22,23,24];refine CtS Tryz.ntmps229 Tryz.results229 ?_;refine pq ?_;intros;rename_i hx
 refine pA ?_;intros;rename_i hx
 refine pA ?_;intros;rename_i hx
 apply Jr (γ:=OA×Nat) hx [] (fun s3 y3 f=>(9,.slice y3.1 s3.length y3.2)::f) [999] (fun s3 y3 l=>.r y3.1 s3.length y3.2 3 1 (s3.flatMap Ao)::l);exact kk
 .exact aI
 .refine pI ?_;intros;rename_i hx
  (with_reducible apply Ack 18 (sz:=1));exact rfl;exact aT;exact iI;exact dL;exact (fun _=>rfl);exact rfl;exact rfl;exact sA
  refine pq ?_;intros;rename_i hx
  apply Lr (γ:=OA×Nat) hx [0,1,3] (fun s0 y0 f=>(9,.slice y0.1 s0.length y0.2)::f) [999] (fun s0 y0 l=>.r y0.1 s0.length y0.2 3 1 (s0.flatMap Ao)::l) (_,_);exact kk;exact sk;intro s0 y0 x0 hx _;unfold Oo at hx;refine pq ?_;intros;rename_i hx
  refine Cq1 (s:=24) hx rfl ?_ ?_
  .refine pI ?_;intros;rename_i hx
   refine pA ?_;intros;rename_i hx
   apply Jr (γ:=Unit) hx [0,1,3,9] (fun s1 y1 f=>(10,.int .i64 s1)::f) [0,999] (fun s1 y1 l=>l);exact kk
   .exact aI
   .refine pI ?_;intros;rename_i hx
    apply Lr (γ:=Unit) hx [0,1,3,9,25,26] (fun s2 y2 f=>(10,.int .i64 s2.1)::(27,.int .i64 s2.2)::f) [0,999] (fun s2 y2 l=>l) ();exact kk;exact sk;intro s2 y2 x1 hx _;unfold Lv at hx;refine pq ?_;intros;rename_i hx
    refine Cq1 (s:=28) hx rfl ?_ ?_
    .refine pI ?_;intros;rename_i hx
     apply Jr (γ:=Unit) hx [0,1,3,9,25,26,27] (fun s4 y4 f=>(10,.int .i64 s4)::f) [0,999] (fun s4 y4 l=>l);exact kk
     .exact aI
     .refine pI ?_;intros;rename_i hx
      refine pA ?_;intros;rename_i hx
      apply Jr (γ:=Unit) hx [0,1,3,9,10,12,25,26,27] (fun s5 y5 f=>(13,.bool s5)::f) [0,999] (fun s5 y5 l=>l);exact kk
      .intro s5 y5 hx;apply Jr (γ:=Unit) hx [0,1,3,9,10,12,25,26,27] (fun s6 y6 f=>(68,.bool s6)::f) [0,999] (fun s6 y6 l=>l);exact kk
       .exact aI
       .exact aI
      .refine pI ?_;intros;rename_i hx
       apply Lr (γ:=Unit) hx [0,1,3,9,10,12,25,26,27,31,32] (fun s7 y7 f=>(13,.bool s7.1)::(33,.int .i64 s7.2)::f) [0,999] (fun s7 y7 l=>l) ();exact kk;exact sk;intro s7 y7 x2 hx _;unfold Lu at hx;exact au
    .exact aI
  .exact aI⟩
instance(p0:List Aa)(p1:Int)(p2:Int)(p3:LI):Con (Nt p0 p1 p2 p3) Tryz.prog 228 (fun K vs=>∃E0 G0 E1 G1,vs=[.slice E0 p0.length G0,.int .i64 p1,.int .i64 p2,.slice E1 p3.length G1]/\Has K E0 p0.length G0 4 Ai p0/\Has K E1 p3.length G1 1 Ao p3/\True) (fun _ r v Ln=>v=.int .i64 r/\Ln=[]/\True):=⟨by
 rintro K _ r ⟨E0,G0,E1,G1,rfl,ha0,ha1,-⟩ hx w hK;replace ha0:=ha0.lo hK;replace ha1:=ha1.lo hK;unfold Nt at hx;have:=dl 6 [0,0,0,0,1,0,1,2,0,0,0,0,1,0,1,2,2] [0,1,2,3,4,5,6,8,9,10,11,12,13,14,7,15,16];have:=dl 9 [0,0,0,0,0,0,0,0,0,0,1,0,0,0,0,0,0,0,1,2,2] [0,1,2,3,4,5,6,7,8,9,10,11,12,13,14,15,16,17,18,19,20];refine CtS Tryz.ntmps228 Tryz.results228 ?_;refine pq ?_;intros;rename_i hx
 refine pA ?_;intros;rename_i hx
 apply JrG (γ:=OA×Nat×Ent) hx [1,2] (fun s2 y2 f=>(3,.slice y2.1 s2.length y2.2.1)::f) [999] (fun s2 y2 l=>y2.2.2::l) (fun s2 y2=>Has ([.old w,y2.2.2]) y2.1 s2.length y2.2.1 1 Ao s2/\y2.2.2.low=0/\True);exact kk
 .intro s2 y2 hx hG;obtain⟨_,_,-⟩:=hG;refine pq ?_;intros;rename_i hx
  apply Jr (γ:=Unit) hx [] (fun s0 y0 f=>f) [999] (fun s0 y0 l=>l);exact kk
  .exact aI
  .refine pI ?_;intros;rename_i hx
   apply Lr (γ:=Unit) hx [1,2,104,105] (fun s1 y1 f=>(106,.int .i64 s1)::f) [0,999] (fun s1 y1 l=>l) ();exact kk;exact sk;intro s1 y1 x0 hx _;unfold Dl at hx;exact au
 .refine pI ?_;intros;rename_i hx
  refine Bf 0 1 ?_;apply LrG (γ:=OA×Nat×Ent) hx [0,1,2] (fun s3 y3 f=>(3,.slice y3.1 s3.length y3.2.1)::f) [999] (fun s3 y3 l=>y3.2.2::l) (fun s3 y3=>Has ([.old w,y3.2.2]) y3.1 s3.length y3.2.1 1 Ao s3/\y3.2.2.low=0/\True) (_,_,_);exact kk;exact sF2;exact gG2;exact pK2;intro s3 y3 x1 hx _ hG;obtain⟨_,_,-⟩:=hG;unfold Ff at hx;refine pq ?_;intros;rename_i hx
  refine Cq1 (s:=19) hx rfl ?_ ?_
  .refine pI ?_;intros;rename_i hx
   refine pA ?_;intros;rename_i hx
   apply Jr (γ:=Unit) hx [0,1,2,3] (fun s4 y4 f=>(9,.int .i64 s4)::f) [0,999] (fun s4 y4 l=>l);exact kk
   .intro s4 y4 hx;refine pq ?_;intros;rename_i hx
    refine pA ?_;intros;rename_i hx
    apply Jr (γ:=Unit) hx [0,1,2,3,9,11,12] (fun s5 y5 f=>(73,.bool s5)::f) [0,999] (fun s5 y5 l=>l);exact kk
    .intro s5 y5 hx;refine Cq3 (s:=73) hx rfl ?_ ?_
     .exact aI
     .refine pI ?_;intros;rename_i hx
      refine pA ?_;intros;rename_i hx
      apply Jr (γ:=Unit) hx [0,1,2,3,9,12] (fun s6 y6 f=>(85,.bool s6)::f) [0,999] (fun s6 y6 l=>l);exact kk
      .intro s6 y6 hx;refine Cq3 (s:=85) hx rfl ?_ ?_
       .exact aI
       .refine pI ?_;intros;rename_i hx
        refine pA ?_;intros;rename_i hx
        apply Jr (γ:=OA×Nat) hx [0,1,2] (fun s7 y7 f=>(13,.slice y7.1 s7.length y7.2)::f) [999] (fun s7 y7 l=>.r y7.1 s7.length y7.2 3 1 (s7.flatMap Ao)::l);exact kk
        .exact aI
        .refine pI ?_;intros;rename_i hx
         refine Bf 3 1 ?_;apply Lr (γ:=OA×Nat) hx [0,1,2,3,9,88] (fun s8 y8 f=>(13,.slice y8.1 s8.1.length y8.2)::(89,.int .i64 s8.2)::f) [1,999] (fun s8 y8 l=>.r y8.1 s8.1.length y8.2 3 1 (s8.1.flatMap Ao)::l) (_,_);exact kk;exact sk;intro s8 y8 x2 hx _;unfold Ji at hx;exact au
      .exact aI
    .exact aI
   .refine pI ?_;intros;rename_i hx
    apply Lr (γ:=Unit) hx [0,1,2,3,21] (fun s9 y9 f=>(9,.int .i64 s9.1)::(22,.int .i64 s9.2)::f) [0,999] (fun s9 y9 l=>l) ();exact kk;exact sk;intro s9 y9 x3 hx _;unfold Jw at hx;exact au
  .exact aI⟩
instance(p0:List Aa)(p1:List Ab)(p2:Int)(p3:Int):Con (Ph p0 p1 p2 p3) Tryz.prog 141 (fun K vs=>∃E0 G0 E1 G1,vs=[.slice E0 p0.length G0,.slice E1 p1.length G1,.int .i64 p2,.int .i64 p3]/\Has K E0 p0.length G0 4 Ai p0/\Has K E1 p1.length G1 2 Ar p1/\True) (fun _ r v Ln=>v=.int .i64 r/\Ln=[]/\True):=⟨by
 rintro K _ r ⟨E0,G0,E1,G1,rfl,ha0,ha1,-⟩ hx w hK;replace ha0:=ha0.lo hK;replace ha1:=ha1.lo hK;unfold Ph at hx;have:=dl 5 [0,0,0,1,2,0,0,0,1,2,0,0,0,1,2,2,0,0,0,0,0,0,2,0,0,0,0,0,0,0,2,0,0] [0,1,2,3,5,6,7,8,10,11,12,13,4,9,14,15,16,17,18,19,20,21,22,23,24,25,26,27,28,29,30,31,32];have:=dl 8 [0,0,0,1,2,0,0,0,1,2,0,0,0,1,0,1,2,0,0,0,1,2,2] [0,1,2,3,5,6,7,8,10,11,12,13,14,15,17,18,19,20,4,9,16,21,22];refine CtS Tryz.ntmps141 Tryz.results141 ?_;refine pq ?_;intros;rename_i hx
 refine pA ?_;intros;rename_i hx
 refine pA ?_;intros;rename_i hx
 apply Jr (γ:=OA×Nat) hx [0,2,3] (fun s3 y3 f=>(9,.slice y3.1 s3.length y3.2)::f) [999] (fun s3 y3 l=>.r y3.1 s3.length y3.2 3 1 (s3.flatMap Ao)::l);exact kk
 .exact aI
 .refine pI ?_;intros;rename_i hx
  refine Bf 3 1 ?_;apply Lr (γ:=OA×Nat) hx [0,1,2,3,12] (fun s0 y0 f=>(9,.slice y0.1 s0.1.length y0.2)::(13,.int .i64 s0.2)::f) [999] (fun s0 y0 l=>.r y0.1 s0.1.length y0.2 3 1 (s0.1.flatMap Ao)::l) (_,_);exact kk;exact sk;intro s0 y0 x0 hx _;unfold Lw at hx;refine pq ?_;intros;rename_i hx
  refine Cq1 (s:=14) hx rfl ?_ ?_
  .refine pI ?_;intros;rename_i hx
   apply Jr (γ:=OA×Nat) hx [0,1,2,3,12,13] (fun s1 y1 f=>(9,.slice y1.1 s1.length y1.2)::f) [999] (fun s1 y1 l=>.r y1.1 s1.length y1.2 3 1 (s1.flatMap Ao)::l);exact kk
   .exact aI
   .refine pI ?_;intros;rename_i hx
    refine pA ?_;intros;rename_i hx
    refine pA ?_;intros;rename_i hx
    apply Jr (γ:=Unit) hx [0,1,2,3,9,10,12,13] (fun s2 y2 f=>(48,.bool s2)::f) [0,999] (fun s2 y2 l=>l);exact kk
    .intro s2 y2 hx;refine Cq3 (s:=48) hx rfl ?_ ?_
     .exact aI
     .refine pI ?_;intros;rename_i hx
      refine Cq1 (s:=51) hx rfl ?_ ?_
      .refine pI ?_;intros;rename_i hx
       (with_reducible apply Ack 9 (sz:=1));exact rfl;exact aT;exact iI;exact dL;exact (fun _=>rfl);exact rfl;exact rfl;exact sA
       exact au
      .refine pI ?_;intros;rename_i hx
       refine Cq1 (s:=77) hx rfl ?_ ?_
       .refine pI ?_;intros;rename_i hx
        (with_reducible apply Ack 9 (sz:=1));exact rfl;exact aT;exact iI;exact dL;exact (fun _=>rfl);exact rfl;exact rfl;exact sA
        exact au
       .exact aI
    .exact aI
  .exact aI⟩
end
section
theorem Al6{m:Nat}{r:Nat->Nat}(hr:∀t,r t<m):∃B T,(∀t,T<=t->B<=r t)/\∀T',∃t,T'<=t/\r t=B:=by
 have key:∀n,(∃T,∀t,T<=t->n<=r t)\/∃B T,(∀t,T<=t->B<=r t)/\∀T',∃t,T'<=t/\r t=B:=by
  intro n
  induction n with
  |zero=>exact .inl ⟨0,fun t _=>Nat.zero_le _⟩
  |succ n ih=>
   rcases ih with⟨T,hT⟩|h
   .by_cases c:∀T',∃t,T'<=t/\r t=n
    .exact .inr ⟨n,T,hT,c⟩
    .left;obtain⟨T',h'⟩:=Classical.not_forall.1 c;refine⟨max T T',fun t ht=>?_⟩;have h1:=hT t oo;have h2:r t≠n:=fun e=>h' ⟨t,oo,e⟩
     omega
   .exact .inr h
 rcases key m with⟨T,hT⟩|h
 .have:=hT T (nL _);have:=hr T;omega
 .exact h
theorem Bak{m : Nat}{s r : Nat -> Nat}(hw : ∀ t i, i<m -> ∃ t', t <= t' /\ t'<t + m /\ s t' = i)(hu : ∀ t t', t<t' -> t'<t + m -> s t ≠ s t')(hr : ∀ t, r t<m)(hc : ∀ t, r (t + 1) = r t \/ (s t = r t /\ r (t + 1) + 1 = r t) \/ (s t = r t + 1 /\ r (t + 1) = r t + 1)):
    ∃T B, (∀t, T <= t->B <= r t) /\ ∃t, T <= t /\ r t=B /\ s t=B /\ r (t+1)=B:=by
  obtain⟨B, T, h1, h2⟩ := Al6 hr;refine⟨T, B, h1, ?_⟩;have fin : ∀ t, T <= t -> r t = B -> s t = B -> r (t + 1) = B := fun t ht e1 e2 => by
    have:=h1 (t+1) oo;rcases hc t with g|g|g <;> omega
  by_cases c:∃T1, T <= T1 /\ ∀t, T1 <= t->r t=B
  · obtain⟨T1, h3, h4⟩:=c;have hB:B<m:=by have:=hr T1;have:=h4 T1 (nL _);omega
    obtain⟨t, g1, g2, g3⟩:=hw T1 B hB;exact⟨t, by omega, h4 t g1, g3, fin t oo (h4 t g1) g3⟩
  · -- it leaves and comes back
    obtain⟨t0, h3, h4⟩:=h2 T;have hB:B<m:=by have:=hr t0;omega
    have leaves : ∃ t, T <= t /\ r t ≠ B := by
      refine Classical.byContradiction fun h => c ⟨T, nL _, fun t ht => ?_⟩
      exact Classical.byContradiction fun e => h ⟨t, ht, e⟩
    obtain⟨ta, ha1, ha2⟩ := leaves;obtain⟨tb, hb1, hb2⟩ := h2 ta;have first : ∀ n, (∀ k, k <= n -> r (ta + k) ≠ B) \/ ∃ t, ta <= t /\ r t ≠ B /\ r (t + 1) = B := by
      intro n
      induction n with
      | zero => exact .inl fun k hk => by have : k = 0 := by omega
                                          subst this;exact ha2
      | succ n ih=>
        rcases ih with h|h
        · by_cases e:r (ta+(n+1))=B
          · exact .inr ⟨ta+n, by omega, h n (nL _), e⟩
          · exact .inl fun k hk => by
              by_cases g:k=n+1
              · rw[g];exact e
              · exact h k oo
        · exact .inr h
    rcases first (tb - ta) with h|⟨t1, g1, g2, g3⟩
    · exact absurd (by rw[show ta+(tb - ta)=tb by omega];exact hb2) (h (tb - ta) (nL _))
    · have hge:=h1 t1 oo;have hs:s t1=B+1:=by rcases hc t1 with g|g|g <;> omega
      obtain⟨t2, k1, k2, k3⟩ := hw (t1 + 1) B hB;have low : ∀ n, (∀ k, k<n -> s (t1 + 1 + k) ≠ B) \/ ∃ k, k<n /\ s (t1 + 1 + k) = B /\ ∀ k', k'<k -> s (t1 + 1 + k') ≠ B := by
        intro n
        induction n with
        |zero => exact .inl fun k hk => by omega
        | succ n ih=>
          rcases ih with h|⟨k, h5, h6, h7⟩
          · by_cases e:s (t1+1+n)=B
            · exact .inr ⟨n, by omega, e, h⟩
            · exact .inl fun k hk => by
                by_cases g:k=n
                · rw[g];exact e
                · exact h k oo
          · exact .inr ⟨k, by omega, h6, h7⟩
      rcases low m with h|⟨k, q1, q2, q3⟩
      · exact absurd (by rw[show t1+1+(t2 - (t1+1))=t2 by omega];exact k3) (h (t2 - (t1+1)) oo)
      · -- up to then nothing changes
        have hk : k + 1<m := by
          obtain⟨t3, x1, x2, x3⟩:=hw t1 B hB;have x4:t3 ≠ t1:=fun e => by rw[e] at x3;omega
          have x5:¬(t3 - (t1+1)<k):= fun g => q3 _ g (by rw[show t1+1+(t3 - (t1+1))=t3 by omega];exact x3)
          omega
        have stay : ∀ n, n <= k -> r (t1 + 1 + n) = B := by
          intro n
          induction n with
          |zero => intro _;exact g3
          | succ n ih=>
            intro hn;have e:=ih oo;have n1:=q3 n oo;have n2:s (t1+1+n) ≠ B+1:=fun g => hu t1 (t1+1+n) oo oo (by rw[hs, g])
            have:=hc (t1+1+n);rw[show t1+1+(n+1)=t1+1+n+1 by omega];rcases this with g|g|g <;> omega
        exact⟨t1+1+k, by omega, stay k (nL _), q2, fin _ oo (stay k (nL _)) q2⟩
structure Path(m:Nat)(j:Nat->Nat):Prop where
 start:j 0=0
 step:∀i,i+1<m->j (i+1)=j i\/j (i+1)=j i+1
theorem Path.mono{m : Nat}{j : Nat -> Nat}(h : Path m j): ∀ a b, a <= b -> b<m -> j a <= j b := by
  intro a b
  induction b with
  | zero => intro h1 _;have : a = 0 := by omega
            subst this;exact nL _
  | succ b ih=>
    intro h1 h2
    by_cases e:a=b+1
    · subst e;exact nL _
    · have:=ih oo oo;have:=h.step b h2;omega
theorem Path.le{m:Nat}{j:Nat->Nat}(h:Path m j):∀i,i<m->j i<=i:=by
 intro i
 induction i with
 |zero=>intro _;rw[h.start];exact nL _
 |succ i ih=>
  intro hi;have:=ih oo;have:=h.step i hi;omega
def cop(j:Nat->Nat)(i:Nat):Nat:=i-j i
theorem Path.other{m:Nat}{j:Nat->Nat}(h:Path m j):Path m (cop j):=by
 refine⟨by unfold cop;omega,fun i hi=>?_⟩;have h1:=h.step i hi;have h2:=h.le i oo;have h3:=h.le (i+1) hi;unfold cop;omega
def Move(m:Nat)(j j':Nat->Nat)(i:Nat):Prop :=
 (∀k,k≠i->j' k=j k)/\(j' i=j i\/(0<i/\i+1<m/\j (i-1)=j i/\j (i+1)=j i+1/\j' i=j i+1)\/(0<i/\i+1<m/\j (i-1)+1=j i/\j (i+1)=j i/\j' i+1=j i))
theorem Move.other{m:Nat}{j j':Nat->Nat}{i:Nat}(hj:Path m j)(hi:i<m)(h:Move m j j' i):Move m (cop j) (cop j') i:=by
 obtain⟨h1,h2⟩:=h;have l1:=hj.le i hi;refine⟨fun k hk=>by unfold cop;rw[h1 k hk],?_⟩;rcases h2 with g|⟨g1,g2,g3,g4,g5⟩|⟨g1,g2,g3,g4,g5⟩
 .exact .inl (by unfold cop;rw[g])
 .have l2:=hj.le (i-1) oo;have l3:=hj.le (i+1) g2;refine .inr (.inr ⟨g1,g2,?_,?_,?_⟩) <;> (unfold cop;omega)
 .have l2:=hj.le (i-1) oo;have l3:=hj.le (i+1) g2;refine .inr (.inl ⟨g1,g2,?_,?_,?_⟩) <;> (unfold cop;omega)
def Last(m:Nat)(j:Nat->Nat)(x i:Nat):Prop:=i<m/\j i=x/\∀k,i<k->k<m->j k≠x
theorem Last.unique{m:Nat}{j:Nat->Nat}{x i i':Nat}(h:Last m j x i)(h':Last m j x i'):i=i':=by
 rcases Nat.lt_trichotomy i i' with g|g|g
 .exact absurd h'.2.1 (h.2.2 i' g h'.1)
 .exact g
 .exact absurd h.2.1 (h'.2.2 i g h.1)
theorem Aql{m:Nat}{j:Nat->Nat}{x i:Nat}(hi:i<m)(hx:j i=x):∃k,Last m j x k:=by
 have key:∀n i,m-i=n->i<m->j i=x->∃k,Last m j x k:=by
  intro n
  induction n using Nat.strongRecOn with
  |ind n ih=>
   intro i hn hi hx
   by_cases c:∃k,i<k/\k<m/\j k=x
   .obtain⟨k,h1,h2,h3⟩:=c;exact ih (m-k) oo k rfl h2 h3
   .exact⟨i,hi,hx,fun k h1 h2 h3=>c ⟨k,h1,h2,h3⟩⟩
 exact key _ i rfl hi hx
theorem Ain{m:Nat}{j j':Nat->Nat}{i x r r':Nat}(hj:Path m j)(hm:Move m j j' i)(hr:Last m j x r)(hr':Last m j' x r'):
  r'=r\/(i=r/\r'+1=r)\/(i=r+1/\r'=r+1):=by
 obtain⟨h1,h2⟩:=hm;rcases h2 with g|⟨g1,g2,g3,g4,g5⟩|⟨g1,g2,g3,g4,g5⟩
 ·left;have e:j'=j:=by
   funext k
   by_cases hk:k=i
   .rw[hk];exact g
   .exact h1 k hk
  subst e;exact hr'.unique hr
 .by_cases c:i=r
  ·-- it goes away from x
   right;left;refine⟨c,?_⟩;have e:Last m j' x (r-1):=by
    refine⟨by have:=hr.1;omega,?_,fun k hk hk2 e=>?_⟩
    .rw[h1 (r-1) oo,<-hr.2.1,<-c];exact g3
    .by_cases hk3:k=i
     .rw[hk3,g5,c,hr.2.1] at e;omega
     .rw[h1 k hk3] at e;exact hr.2.2 k oo hk2 e
   have:=hr'.unique e;omega
  .left;refine hr'.unique ⟨hr.1,by rw[h1 r (fun e=>c e.symm)];exact hr.2.1,fun k hk hk2 e=>?_⟩
   by_cases hk3:k=i
   .rw[hk3] at hk e;rw[g5] at e;have:j (i+1)=x:=oo;exact hr.2.2 (i+1) oo g2 this
   .rw[h1 k hk3] at e;exact hr.2.2 k hk hk2 e
 .by_cases c:i=r+1
  .right;right;refine⟨c,hr'.unique ?_⟩;have e1:j (i-1)=x:=by rw[c];exact hr.2.1
   refine⟨oo,by rw[<-c];omega,fun k hk hk2 e=>?_⟩;rw[h1 k oo] at e;exact hr.2.2 k oo hk2 e
  .left;refine hr'.unique ⟨hr.1,?_,fun k hk hk2 e=>?_⟩
   .by_cases hk3:r=i
    .exfalso;have:j (i+1)=x:=by rw[g4,<-hk3];exact hr.2.1
     exact hr.2.2 (i+1) oo g2 this
    .rw[h1 r hk3];exact hr.2.1
   .by_cases hk3:k=i
    .rw[hk3] at hk e;have e1:j (i-1)=x:=oo
     by_cases hk4:r=i-1
     .omega
     .exact hr.2.2 (i-1) oo oo e1
    .rw[h1 k hk3] at e;exact hr.2.2 k hk hk2 e
theorem Bcf{m:Nat}{s:Nat->Nat}{j:Nat->Nat->Nat}{CU CL:Nat->Prop}(hw:∀t i,i<m->∃t',t<=t'/\t'<t+m/\s t'=i)(hu:∀t t',t<t'->t'<t+m->s t≠s t')(hs:∀t,s t<m)(hp:∀t,Path m (j t))(hmv:∀t,Move m (j t) (j (t+1)) (s t))(hU:∀x,CU x->∀t,∃i,i<m/\j t i=x)(hL:∀y,CL y->∀t,∃i,i<m/\cop (j t) i=y)(gU:∀x t i,CU x->Last m (j t) x i->s t=i->j (t+1) i=j t i->∃y,CL y/\y<cop (j t) i)(gL:∀y t i,CL y->Last m (cop (j t)) y i->s t=i->j (t+1) i=j t i->∃x,CU x/\x<j t i)(hex:∃x,CU x):False:=by
 have least:∀{C:Nat->Prop},(∃x,C x)->∃x,C x/\∀y,C y->x<=y:=fun {C} h=>by
  obtain⟨x,hx⟩:=h;have key:∀n x,x=n->C x->∃x,C x/\∀y,C y->x<=y:=by
   intro n
   induction n using Nat.strongRecOn with
   |ind n ih=>
    intro x hn hx
    by_cases c:∃y,C y/\y<x
    .obtain⟨y,h1,h2⟩:=c;exact ih y oo y rfl h1
    ·exact⟨x,hx,fun y hy=>by
      by_cases g:x<=y
      .exact g
      .exact absurd ⟨y,hy,oo⟩ c⟩
  exact key x x rfl hx
 obtain⟨x,hx,hx2⟩:=least hex;have ex:∀t,∃i,Last m (j t) x i:=fun t=>by
  obtain⟨i,h1,h2⟩:=hU x hx t;exact Aql h1 h2
 have hrs:∀t,Last m (j t) x (Classical.choose (ex t)):=fun t=>Classical.choose_spec (ex t)
 generalize hr:(fun t=>Classical.choose (ex t))=r at *;have hrs:∀t,Last m (j t) x (r t):=fun t=>by rw[<-hr];exact hrs t
 obtain⟨T,B,b1,t,b2,b3,b4,b5⟩:=Bak hw hu (fun t=>(hrs t).1) (fun t=>Ain (hp t) (hmv t) (hrs t) (hrs (t+1)));have still:j (t+1) B=j t B:=by
  have l1:=hrs t;have l2:=hrs (t+1);rw[b3] at l1;rw[b5] at l2;rw[l1.2.1,l2.2.1]
 obtain⟨y0,y1,y2⟩:=gU x t B hx (by have:=hrs t;rwa [b3] at this) b4 still;have hxB:j t B=x:=by have:=(hrs t).2.1;rwa [b3] at this
 obtain⟨y,hy,hy2⟩:=least ⟨y0,y1⟩;have hyB:y<B-x:=by
  have:=hy2 y0 y1;unfold cop at y2;rw[hxB] at y2;omega
 have ey:∀t,∃i,Last m (cop (j (T+t))) y i:=fun t=>by
  obtain⟨i,h1,h2⟩:=hL y hy (T+t);exact Aql h1 h2
 have hqs:∀t,Last m (cop (j (T+t))) y (Classical.choose (ey t)):=fun t=>Classical.choose_spec (ey t)
 generalize hq:(fun t=>Classical.choose (ey t))=q at *;have hqs:∀t,Last m (cop (j (T+t))) y (q t):=fun t=>by rw[<-hq];exact hqs t
 have ahead:∀t,j (T+t) (q t)<=x:=fun t=>by
  have h1:=b1 (T+t) oo;have h2:=hrs (T+t);have h3:=hqs t;have h4:cop (j (T+t)) (r (T+t))=r (T+t)-x:=by unfold cop;rw[h2.2.1]
  have h5:q t<=r (T+t):=by
   refine Classical.byContradiction fun g=>?_
   have:=(hp (T+t)).other.mono (r (T+t)) (q t) oo h3.1;rw[h4,h3.2.1] at this;omega
  have:=(hp (T+t)).mono (q t) (r (T+t)) h5 h2.1;rw[h2.2.1] at this;exact this
 obtain⟨T',B',c1,t',c2,c3,c4,c5⟩:=Bak (s:=fun t=>s (T+t)) (r:=q) (m:=m)
  (fun t i hi=>by
   obtain⟨t',h1,h2,h3⟩:=hw (T+t) i hi;exact⟨t'-T,oo,oo,by rw[show T+(t'-T)=t' by omega];exact h3⟩)
  (fun t t' h1 h2=>hu (T+t) (T+t') oo oo) (fun t=>(hqs t).1)
  (fun t=>Ain (hp (T+t)).other (Move.other (hp (T+t)) (hs _) (hmv (T+t))) (hqs t) (hqs (t+1)))
 have l1:=hqs t';have l2:=hqs (t'+1);rw[c3] at l1;rw[c5] at l2;have still':j (T+t'+1) B'=j (T+t') B':=by
  have e1:=l1.2.1;have e2:cop (j (T+t'+1)) B'=y:=l2.2.1;have e3:=(hp (T+t')).le B' l1.1;have e4:=(hp (T+t'+1)).le B' l1.1;unfold cop at e1 e2;omega
 obtain⟨x',x1,x2⟩:=gL y (T+t') B' hy l1 c4 still';have:=hx2 x' x1;have:=ahead t';rw[c3] at this;omega
theorem Aj6(A B s p q r:Ad):(crs A B p-crs A B s)*crs s q r+(crs A B q-crs A B s)*crs s r p+(crs A B r-crs A B s)*crs s p q=0:=by unfold crs;grind
theorem Aqm{A B s p q r:Ad}(h1:0<crs s p q)(h2:0<crs s q r)(hp:crs A B s<crs A B p)(hq:crs A B s<crs A B q)(hr:crs A B s<=crs A B r):0<crs s p r:=by
 have h:=Aj6 A B s p q r;rw[Bl s p r] at h;have m1:=Int.mul_pos (oo:0<crs A B p-crs A B s) h2;have m2:=Int.mul_nonneg (oo:0<=crs A B r-crs A B s) (Int.le_of_lt h1);have m3:(crs A B q-crs A B s) * -crs s p r = -((crs A B q-crs A B s)*crs s p r):=Int.mul_neg _ _;exact Cs (x:=crs A B q-crs A B s) oo oo
theorem Agr{A B s p q r:Ad}(h1:0<crs s p q)(h2:0<crs s q r)(hp:crs A B p<crs A B s)(hq:crs A B q<crs A B s)(hr:crs A B r<=crs A B s):0<crs s p r:=by
 have h:=Aj6 A B s p q r;rw[Bl s p r] at h;have m1:=Int.mul_pos (oo:0<crs A B s-crs A B p) h2;have m2:=Int.mul_nonneg (oo:0<=crs A B s-crs A B r) (Int.le_of_lt h1);have m3:(crs A B q-crs A B s) * -crs s p r=(crs A B s-crs A B q)*crs s p r:=by grind
 have m4:(crs A B p-crs A B s)*crs s q r = -((crs A B s-crs A B p)*crs s q r):=by grind
 have m5:(crs A B r-crs A B s)*crs s p q = -((crs A B s-crs A B r)*crs s p q):=by grind
 exact Cs (x:=crs A B s-crs A B q) oo oo
theorem Aqn{A B u w k l:Ad}(hw:crs A B w<0)(hk0:0<=crs A B k)(hl0:0<=crs A B l)(hu:0<crs A B u)(t1:0<crs u w k)(t2:0<crs w u l)(hl:crs A B l<crs A B u)(hk:crs A B k<=crs A B u):
  0<crs k u l/\0<crs l w k:=by
 constructor
 ·-- around u: l,w,k,all Yu
  have:=Agr (A:=A) (B:=B) (s:=u) (p:=l) (q:=w) (r:=k) (by rw[Au];exact t2) t1 hl oo hk;rw[<-Au] at this;rw[<-Au] at this;exact this
 ·-- around w: k,u,l,all above
  have:=Aqm (A:=A) (B:=B) (s:=w) (p:=k) (q:=u) (r:=l) (by rw[<-Au];rw[<-Au];exact t1) t2 oo oo oo;rw[<-Au] at this;rw[<-Au] at this;exact this
theorem Awr{A B u w w' k:Ad}(hw:crs A B w<0)(hw':crs A B w'<0)(hk0:0<=crs A B k)(hu:0<crs A B u)(t1:0<crs u w k)(t2:0<crs u w' w)(hk:crs A B k<=crs A B u):
  0<crs k u w'/\(crs w' w k<=0->crs A B w'<crs A B w):=by
 constructor
 .have:=Agr (A:=A) (B:=B) (s:=u) (p:=w') (q:=w) (r:=k) t2 t1 oo oo hk;rw[<-Au] at this;rw[<-Au] at this;exact this
 .intro h;refine Classical.byContradiction fun g=>?_
  have:=Aqm (A:=A) (B:=B) (s:=w) (p:=k) (q:=u) (r:=w') (by rw[<-Au];rw[<-Au];exact t1) (by rw[<-Au];exact t2) oo oo oo;rw[<-Au] at this;rw[<-Au] at this;omega
variable {P:Int->Ad}{V:Int->Prop}{ap:Ap}{a b:Int}
structure Eo(P:Int->Ad)(ap:Ap)(a b:Int)(m:Nat)(u w:Nat->Int):Prop where
 up:∀i,i<m->0<crs (P a) (P b) (P (u i))
 lo:∀i,i<m->crs (P a) (P b) (P (w i))<0
 first:0<m->ap (w 0) (u 0)=some a
 last:∀i,i+1=m->ap (u i) (w i)=some b
 next:∀i,i+1<m->(u (i+1)=u i/\ap (u i) (w i)=some (w (i+1)))\/(w (i+1)=w i/\ap (u i) (w i)=some (u (i+1)))
section
variable {m:Nat}{u w:Nat->Int}
theorem Aio:crs (P a) (P b) (P b)=0:=Bq _ _
theorem Aip:crs (P a) (P b) (P a)=0:=Bx _ _
theorem Eo.ne(h:Eo P ap a b m u w){i j:Nat}(hi:i<m)(hj:j<m):u i≠w j:=fun e=>by
 have h1:=h.up i hi;have h2:=h.lo j hj;rw[e] at h1;omega
theorem Eo.inj(h:Eo P ap a b m u w):∀i j,i<j->j<m->¬(u i=u j/\w i=w j):=by
 have key:∀n i j,m-j=n->i<j->j<m->¬(u i=u j/\w i=w j):=by
  intro n
  induction n using Nat.strongRecOn with
  |ind n ih=>
   intro i j hn hij hj ⟨e1,e2⟩
   by_cases c:j+1=m
   .have h1:=h.last j c;rw[<-e1,<-e2] at h1;rcases h.next i oo with⟨g1,g2⟩|⟨g1,g2⟩
    .rw[h1] at g2;have:=h.lo (i+1) oo;rw[<-oI g2,Aio] at this;omega
    .rw[h1] at g2;have:=h.up (i+1) oo;rw[<-oI g2,Aio] at this;omega
   .refine ih (m-(j+1)) oo (i+1) (j+1) rfl oo oo ?_;rcases h.next i oo with⟨g1,g2⟩|⟨g1,g2⟩ <;> rcases h.next j oo with⟨k1,k2⟩|⟨k1,k2⟩
    .rw[e1,e2,k2] at g2;exact⟨by rw[g1,k1,e1],(oI g2).symm⟩
    .rw[e1,e2,k2] at g2;exact absurd (oI g2) (h.ne oo oo)
    .rw[e1,e2,k2] at g2;exact absurd (oI g2).symm (h.ne oo oo)
    .rw[e1,e2,k2] at g2;exact⟨(oI g2).symm,by rw[g1,k1,e2]⟩
 intro i j;exact key _ i j rfl
theorem Eo.prev(h:Eo P ap a b m u w)(ht:Tri P V ap){i:Nat}(hi:i+1<m):(u (i+1)=u i/\ap (w (i+1)) (u (i+1))=some (w i))\/(w (i+1)=w i/\ap (w (i+1)) (u (i+1))=some (u i)):=by
 rcases h.next i hi with⟨g1,g2⟩|⟨g1,g2⟩
 .left;refine⟨g1,?_⟩;rw[g1];exact ht.rot2 g2
 .right;refine⟨g1,?_⟩;rw[g1];exact ht.rot _ _ _ g2
end
theorem Aa0{i j k l:Int}(q:Quad P V ap i j k l):Ef ap i j k l i l=some k/\Ef ap i j k l l k=some i/\Ef ap i j k l k i=some l/\Ef ap i j k l j k=some l/\Ef ap i j k l k l=some j/\Ef ap i j k l l j=some k:=by
 obtain⟨n1,n2,n3,n4,n5,n6⟩:=q.ne;unfold Ef;refine⟨?_,?_,?_,?_,?_,?_⟩ <;> grind
theorem Aiq{i j k l x y:Int}(h1:¬(x=i/\y=l))(h2:¬(x=l/\y=k))(h3:¬(x=k/\y=i))(h4:¬(x=j/\y=k))(h5:¬(x=k/\y=l))(h6:¬(x=l/\y=j))(h7:¬(x=i/\y=j))(h8:¬(x=j/\y=i)):Ef ap i j k l x y=ap x y:=by
 unfold Ef;rw[iN h1,iN h2,iN h3,iN h4,iN h5,iN h6,iN h7,iN h8]
def cutF(i:Nat)(f:Nat->Int)(k:Nat):Int:=if k<i then f k else f (k+1)
def setF(i:Nat)(x:Int)(f:Nat->Int)(k:Nat):Int:=if k=i then x else f k
end
section
open Go Go.RowKit
variable {P:Int->Ad}{V:Int->Prop}{ap:Ap}{a b:Int}{m:Nat}{u w:Nat->Int}
def Bcg(a:Int)(u w:Nat->Int)(i:Nat)(l:Int):Prop:=(i=0/\l=a)\/(0<i/\u i=u (i-1)/\l=w (i-1))\/(0<i/\w i=w (i-1)/\l=u (i-1))
def Azd(b:Int)(m:Nat)(u w:Nat->Int)(i:Nat)(k:Int):Prop:=(i+1=m/\k=b)\/(i+1<m/\u (i+1)=u i/\k=w (i+1))\/(i+1<m/\w (i+1)=w i/\k=u (i+1))
theorem Eo.left(h:Eo P ap a b m u w)(ht:Tri P V ap){i:Nat}(hi:i<m){l:Int}(hl:ap (w i) (u i)=some l):Bcg a u w i l:=by
 by_cases c:i=0
 .subst c;rw[h.first hi] at hl;exact .inl ⟨rfl,(oI hl).symm⟩
 .obtain⟨j,rfl⟩:∃j,i=j+1:=⟨i-1,oo⟩;rcases h.prev ht hi with⟨g1,g2⟩|⟨g1,g2⟩ <;> rw[hl] at g2
  .exact .inr (.inl ⟨oo,g1,oI g2⟩)
  .exact .inr (.inr ⟨oo,g1,oI g2⟩)
theorem Eo.right(h:Eo P ap a b m u w){i:Nat}(hi:i<m){k:Int}(hk:ap (u i) (w i)=some k):Azd b m u w i k:=by
 by_cases c:i+1=m
 .rw[h.last i c] at hk;exact .inl ⟨c,(oI hk).symm⟩
 .rcases h.next i oo with⟨g1,g2⟩|⟨g1,g2⟩ <;> rw[hk] at g2
  .exact .inr (.inl ⟨oo,g1,oI g2⟩)
  .exact .inr (.inr ⟨oo,g1,oI g2⟩)
section
variable {i:Nat}{k l:Int}
theorem Eo.keepR(h:Eo P ap a b m u w)(hi:i<m)(q:Quad P V ap (u i) (w i) k l){j:Nat}(hj:j<m)(n1:j≠i)(n2:j+1≠i):Ef ap (u i) (w i) k l (u j) (w j)=ap (u j) (w j):=by
 have hl:=h.left q.tri hi q.hl;have fr:=q.fresh;have some_:ap (u j) (w j)≠none:=by
  by_cases c:j+1=m
  .rw[h.last j c];simp
  .rcases h.next j oo with⟨_,g⟩|⟨_,g⟩ <;> (rw[g];simp)
 refine Aiq (fun e=>?_) (fun e=>?_) (fun e=>?_) (fun e=>?_) (fun e=>?_) (fun e=>?_) (fun e=>?_) (fun e=>?_)
 ·-- (u i,l)
  rcases hl with⟨g1,g2⟩|⟨g1,g2,g3⟩|⟨g1,g2,g3⟩
  .have:=h.lo j hj;rw[e.2,g2,Aip] at this;omega
  .have e1:u j=u (i-1)/\w j=w (i-1):=⟨by rw[e.1,g2],by rw[e.2,g3]⟩;rcases Nat.lt_trichotomy j (i-1) with c|c|c
   .exact h.inj j (i-1) c oo e1
   .omega
   .exact h.inj (i-1) j c hj ⟨e1.1.symm,e1.2.symm⟩
  .exact h.ne (i:=i-1) (j:=j) oo hj (by rw[e.2,g3])
 .rw[e.1,e.2] at some_;exact some_ fr.2
 .exact h.ne (i:=i) (j:=j) hi hj e.2.symm
 .exact h.ne (i:=j) (j:=i) hj hi e.1
 .rw[e.1,e.2] at some_;exact some_ fr.1
 ·-- (l,w i)
  rcases hl with⟨g1,g2⟩|⟨g1,g2,g3⟩|⟨g1,g2,g3⟩
  .have:=h.up j hj;rw[e.1,g2,Aip] at this;omega
  .exact h.ne (i:=j) (j:=i-1) hj oo (by rw[e.1,g3])
  .have e1:u j=u (i-1)/\w j=w (i-1):=⟨by rw[e.1,g3],by rw[e.2,g2]⟩;rcases Nat.lt_trichotomy j (i-1) with c|c|c
   .exact h.inj j (i-1) c oo e1
   .omega
   .exact h.inj (i-1) j c hj ⟨e1.1.symm,e1.2.symm⟩
 .rcases Nat.lt_trichotomy j i with c|c|c
  .exact h.inj j i c hi e
  .exact n1 c
  .exact h.inj i j c hj ⟨e.1.symm,e.2.symm⟩
 .exact h.ne (i:=j) (j:=i) hj hi e.1
theorem Eo.keepL(h:Eo P ap a b m u w)(hi:i<m)(q:Quad P V ap (u i) (w i) k l)(h0:0<i):Ef ap (u i) (w i) k l (w 0) (u 0)=some a:=by
 have hk:=h.right hi q.hk;have fr:=q.fresh;have hf:=h.first oo;rw[Aiq,hf]
 .exact fun e=>h.ne (i:=i) (j:=0) hi oo e.1.symm
 .intro e;rw[e.1,e.2,fr.2] at hf;cases hf
 ·-- (k,u i)
  intro e;rcases hk with⟨g1,g2⟩|⟨g1,g2,g3⟩|⟨g1,g2,g3⟩
  .have:=h.lo 0 oo;rw[e.1,g2,Aio] at this;omega
  .exact h.inj 0 (i+1) oo g1 ⟨by rw[e.2,g2],by rw[e.1,g3]⟩
  .exact h.ne (i:=i+1) (j:=0) g1 oo (by rw[e.1,g3])
 ·-- (w i,k)
  intro e;rcases hk with⟨g1,g2⟩|⟨g1,g2,g3⟩|⟨g1,g2,g3⟩
  .have:=h.up 0 oo;rw[e.2,g2,Aio] at this;omega
  .exact h.ne (i:=0) (j:=i+1) oo g1 (by rw[e.2,g3])
  .exact h.inj 0 (i+1) oo g1 ⟨by rw[e.2,g3],by rw[e.1,g2]⟩
 .intro e;rw[e.1,e.2,fr.1] at hf;cases hf
 .exact fun e=>h.ne (i:=0) (j:=i) oo hi e.2
 .exact fun e=>h.ne (i:=i) (j:=0) hi oo e.1.symm
 .exact fun e=>h.inj 0 i h0 hi ⟨e.2,e.1⟩
theorem Eo.cut(h:Eo P ap a b m u w)(hi:i<m)(q:Quad P V ap (u i) (w i) k l)(hc:(i=0\/i+1=m)\/(0<i/\i+1<m/\((u i=u (i-1)/\u (i+1)=u i)\/(w i=w (i-1)/\w (i+1)=w i)))):
  Eo P (Ef ap (u i) (w i) k l) a b (m-1) (cutF i u) (cutF i w):=by
 have hl:=h.left q.tri hi q.hl;have hk:=h.right hi q.hk;obtain⟨v1,v2,v3,v4,v5,v6⟩:=Aa0 q;have at_:∀(f:Nat->Int) t,t<i->cutF i f t=f t:=fun f t ht=>iP ht
 have at':∀(f:Nat->Int) t,¬t<i->cutF i f t=f (t+1):=fun f t ht=>iN ht
 refine⟨fun t ht=>?_,fun t ht=>?_,fun h0=>?_,fun t ht=>?_,fun t ht=>?_⟩
 .by_cases c:t<i
  .rw[at_ _ _ c];exact h.up t oo
  .rw[at' _ _ c];exact h.up (t+1) oo
 .by_cases c:t<i
  .rw[at_ _ _ c];exact h.lo t oo
  .rw[at' _ _ c];exact h.lo (t+1) oo
 .by_cases c:i=0
  ·rw[at' _ _ oo,at' _ _ oo];have ha:l=a:=by
    rcases hl with⟨_,g⟩|⟨g,_⟩|⟨g,_⟩
    .exact g
    .omega
    .omega
   subst c;rcases hk with⟨g1,g2⟩|⟨g1,g2,g3⟩|⟨g1,g2,g3⟩
   .omega
   .rw[show (0+1:Nat)=1 from rfl] at *;rw[<-g3,g2,v3,ha]
   .rw[show (0+1:Nat)=1 from rfl] at *;rw[<-g3,g2,v4,ha]
  .rw[at_ _ _ oo,at_ _ _ oo];exact h.keepL hi q oo
 .by_cases c:i+1=m
  ·have hb:k=b:=by
    rcases hk with⟨_,g⟩|⟨g,_⟩|⟨g,_⟩
    .exact g
    .omega
    .omega
   have ht':t=i-1:=oo;rw[at_ _ _ oo,at_ _ _ oo,ht'];rcases hl with⟨g1,g2⟩|⟨g1,g2,g3⟩|⟨g1,g2,g3⟩
   .omega
   .rw[<-g2,<-g3,v1,hb]
   .rw[<-g3,<-g2,v6,hb]
  .rw[at' _ _ oo,at' _ _ oo,h.keepR hi q oo oo oo];exact h.last (t+1) oo
 .by_cases c:t+1<i
  .rw[at_ _ _ (oo:t<i),at_ _ _ (oo:t<i),at_ _ _ c,at_ _ _ c,h.keepR hi q oo oo oo];exact h.next t oo
  .by_cases c2:t+1=i
   .have ht':t=i-1:=oo;rw[at_ _ _ (oo:t<i),at_ _ _ (oo:t<i),at' _ _ (oo:¬t+1<i),at' _ _ (oo:¬t+1<i)];have e1:t+1+1=i+1:=oo;rw[e1,ht'];rcases hc with (g|g)|⟨g1,g2,⟨g3,g4⟩|⟨g3,g4⟩⟩
    .omega
    .omega
    ·left;have el:l=w (i-1):=by
      rcases hl with⟨g,_⟩|⟨_,_,g⟩|⟨_,g,g'⟩
      .omega
      .exact g
      .exact absurd ⟨g3.symm,g.symm⟩ (h.inj (i-1) i oo hi)
     have ek:k=w (i+1):=by
      rcases hk with⟨g,_⟩|⟨_,_,g⟩|⟨_,g,g'⟩
      .omega
      .exact g
      .exact absurd ⟨g4.symm,g.symm⟩ (h.inj i (i+1) oo g2)
     exact⟨by rw[g4,g3],by rw[<-g3,<-el,v1,ek]⟩
    ·right;have el:l=u (i-1):=by
      rcases hl with⟨g,_⟩|⟨_,g,g'⟩|⟨_,_,g⟩
      .omega
      .exact absurd ⟨g.symm,g3.symm⟩ (h.inj (i-1) i oo hi)
      .exact g
     have ek:k=u (i+1):=by
      rcases hk with⟨g,_⟩|⟨_,g,g'⟩|⟨_,_,g⟩
      .omega
      .exact absurd ⟨g.symm,g4.symm⟩ (h.inj i (i+1) oo g2)
      .exact g
     exact⟨by rw[g4,g3],by rw[<-g3,<-el,v6,ek]⟩
   .rw[at' _ _ (oo:¬t<i),at' _ _ (oo:¬t<i),at' _ _ (oo:¬t+1<i),at' _ _ (oo:¬t+1<i),h.keepR hi q oo oo oo];exact h.next (t+1) oo
theorem Eo.turnU(h:Eo P ap a b m u w)(hi:i<m)(q:Quad P V ap (u i) (w i) k l)(h0:0<i)(h1:i+1<m)(hu:u i=u (i-1))(hw:w (i+1)=w i):
  k=u (i+1)/\l=w (i-1)/\Eo P (Ef ap (u i) (w i) k l) a b m (setF i k u) (setF i l w):=by
 have hl:=h.left q.tri hi q.hl;have hk:=h.right hi q.hk;obtain⟨v1,v2,v3,v4,v5,v6⟩:=Aa0 q;have el:l=w (i-1):=by
  rcases hl with⟨g,_⟩|⟨_,_,g⟩|⟨_,g,g'⟩
  .omega
  .exact g
  .exact absurd ⟨hu.symm,g.symm⟩ (h.inj (i-1) i oo hi)
 have ek:k=u (i+1):=by
  rcases hk with⟨g,_⟩|⟨_,g,g'⟩|⟨_,_,g⟩
  .omega
  .exact absurd ⟨g.symm,hw.symm⟩ (h.inj i (i+1) oo h1)
  .exact g
 have at_:∀(x:Int) (f:Nat->Int) t,t≠i->setF i x f t=f t:=fun x f t ht=>iN ht
 have at':∀(x:Int) (f:Nat->Int),setF i x f i=x:=fun x f=>iP rfl
 refine⟨ek,el,fun t ht=>?_,fun t ht=>?_,fun _=>?_,fun t ht=>?_,fun t ht=>?_⟩
 .by_cases c:t=i
  .rw[c,at',ek];exact h.up (i+1) h1
  .rw[at_ _ _ _ c];exact h.up t ht
 .by_cases c:t=i
  .rw[c,at',el];exact h.lo (i-1) oo
  .rw[at_ _ _ _ c];exact h.lo t ht
 .rw[at_ _ _ _ oo,at_ _ _ _ oo];exact h.keepL hi q h0
 .rw[at_ _ _ _ oo,at_ _ _ _ oo,h.keepR hi q oo oo oo];exact h.last t ht
 .by_cases c:t=i
  .left;rw[c,at',at',at_ _ _ _ oo,at_ _ _ _ oo,v5,hw];exact⟨ek.symm,rfl⟩
  .by_cases c2:t+1=i
   .right;have ht':t=i-1:=oo;rw[c2,at',at',at_ _ _ _ c,at_ _ _ _ c,ht',<-hu,<-el,v1];exact⟨rfl,rfl⟩
   .rw[at_ _ _ _ c,at_ _ _ _ c,at_ _ _ _ c2,at_ _ _ _ c2,h.keepR hi q oo c c2];exact h.next t ht
theorem Eo.turnL(h:Eo P ap a b m u w)(hi:i<m)(q:Quad P V ap (u i) (w i) k l)(h0:0<i)(h1:i+1<m)(hw:w i=w (i-1))(hu:u (i+1)=u i):
  k=w (i+1)/\l=u (i-1)/\Eo P (Ef ap (u i) (w i) k l) a b m (setF i l u) (setF i k w):=by
 have hl:=h.left q.tri hi q.hl;have hk:=h.right hi q.hk;obtain⟨v1,v2,v3,v4,v5,v6⟩:=Aa0 q;have el:l=u (i-1):=by
  rcases hl with⟨g,_⟩|⟨_,g,g'⟩|⟨_,_,g⟩
  .omega
  .exact absurd ⟨g.symm,hw.symm⟩ (h.inj (i-1) i oo hi)
  .exact g
 have ek:k=w (i+1):=by
  rcases hk with⟨g,_⟩|⟨_,_,g⟩|⟨_,g,g'⟩
  .omega
  .exact g
  .exact absurd ⟨hu.symm,g.symm⟩ (h.inj i (i+1) oo h1)
 have at_:∀(x:Int) (f:Nat->Int) t,t≠i->setF i x f t=f t:=fun x f t ht=>iN ht
 have at':∀(x:Int) (f:Nat->Int),setF i x f i=x:=fun x f=>iP rfl
 refine⟨ek,el,fun t ht=>?_,fun t ht=>?_,fun _=>?_,fun t ht=>?_,fun t ht=>?_⟩
 .by_cases c:t=i
  .rw[c,at',el];exact h.up (i-1) oo
  .rw[at_ _ _ _ c];exact h.up t ht
 .by_cases c:t=i
  .rw[c,at',ek];exact h.lo (i+1) h1
  .rw[at_ _ _ _ c];exact h.lo t ht
 .rw[at_ _ _ _ oo,at_ _ _ _ oo];exact h.keepL hi q h0
 .rw[at_ _ _ _ oo,at_ _ _ _ oo,h.keepR hi q oo oo oo];exact h.last t ht
 .by_cases c:t=i
  .right;rw[c,at',at',at_ _ _ _ oo,at_ _ _ _ oo,v2,hu];exact⟨ek.symm,rfl⟩
  .by_cases c2:t+1=i
   .left;have ht':t=i-1:=oo;rw[c2,at',at',at_ _ _ _ c,at_ _ _ _ c,ht',<-hw,<-el,v6];exact⟨rfl,rfl⟩
   .rw[at_ _ _ _ c,at_ _ _ _ c,at_ _ _ _ c2,at_ _ _ _ c2,h.keepR hi q oo c c2];exact h.next t ht
end
end
end
end Go.Proofs.YtlejkgngmjchdaaGreat
