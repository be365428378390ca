import Derived.Test.YtlejkgngmjchdaaGreatD5
set_option maxRecDepth 100000
set_option maxHeartbeats 1000000
namespace Go.Proofs.YtlejkgngmjchdaaGreat
open Go Go.RowKit Tryz List
noncomputable section
section
instance:Lj prog 23 122 3:=⟨.mk underlying23 (kr:prog.info? 122=some t122) kr⟩
instance:AggI prog 122 3:=⟨.arr underlying122 (kr:prog.info? 122=some t122) kr⟩
theorem Bau(a0:Int)(a1:Int)(a2:Int)(b0:Int)(b1:Int)(b2:Int):∀w,(Op.equalIn 10000 122 (.agg #[.int .i64 a0,.int .i64 a1,.int .i64 a2]) (.agg #[.int .i64 b0,.int .i64 b1,.int .i64 b2])).run prog w=.ok (((a0==b0)&&((a1==b1)&&((a2==b2)&&true)))) w :=
 EqI.array (c:=1) underlying122 (kr:prog.info? 3=some Tryz.t3) kr (.cons (fun w=>kr) (fun w=>kr) (fun w=>run_equalIn_int w 9998 3 .i64 .i64 _ _ underlying3) (.cons (fun w=>kr) (fun w=>kr) (fun w=>run_equalIn_int w 9998 3 .i64 .i64 _ _ underlying3) (.cons (fun w=>kr) (fun w=>kr) (fun w=>run_equalIn_int w 9998 3 .i64 .i64 _ _ underlying3) EqI.nil)))
instance(a0:Int)(a1:Int)(a2:Int)(b0:Int)(b1:Int)(b2:Int):EqSI prog 122 [.int .i64 a0,.int .i64 a1,.int .i64 a2] [.int .i64 b0,.int .i64 b1,.int .i64 b2] (((a0==b0)&&((a1==b1)&&((a2==b2)&&true)))):=⟨Bau _ _ _ _ _ _,kr⟩
theorem Bcy(a0:Int)(a1:Int)(b0:Int)(b1:Int):∀w,(Op.equalIn 10000 99 (.agg #[.int .i64 a0,.int .i64 a1]) (.agg #[.int .i64 b0,.int .i64 b1])).run prog w=.ok (((a0==b0)&&((a1==b1)&&true))) w :=
 EqI.array (c:=1) underlying99 (kr:prog.info? 3=some Tryz.t3) kr (.cons (fun w=>kr) (fun w=>kr) (fun w=>run_equalIn_int w 9998 3 .i64 .i64 _ _ underlying3) (.cons (fun w=>kr) (fun w=>kr) (fun w=>run_equalIn_int w 9998 3 .i64 .i64 _ _ underlying3) EqI.nil))
instance(a0:Int)(a1:Int)(b0:Int)(b1:Int):EqSI prog 99 [.int .i64 a0,.int .i64 a1] [.int .i64 b0,.int .i64 b1] (((a0==b0)&&((a1==b1)&&true))):=⟨Bcy _ _ _ _,kr⟩
instance:Dz prog 26 0 0:=⟨.mk underlying26 rfl rfl (kr:prog.info? 22=some Tryz.t22) (kr:Tryz.t22.size=1) rfl⟩
instance:Dz prog 26 2 2:=⟨.mk underlying26 rfl rfl (kr:prog.info? 24=some t24) (kr:t24.size=1) rfl⟩
instance:OneI prog 24:=⟨.mk underlying24 rfl (kr:prog.info? 24=some t24) kr⟩
instance:Dz prog 26 1 1:=⟨.mk underlying26 rfl rfl (kr:prog.info? 23=some t23) (kr:t23.size=1) rfl⟩
instance:OneI prog 23:=⟨.mk underlying23 rfl (kr:prog.info? 23=some t23) kr⟩
instance:Sd prog 329 [.int .i64 0,.int .i64 0,.int .i64 0]:=⟨⟨_,zeroValue329,rfl⟩⟩
instance:Dz prog 329 0 0:=⟨.mk underlying329 rfl rfl (kr:prog.info? 3=some Tryz.t3) (kr:Tryz.t3.size=1) rfl⟩
instance:Dz prog 329 1 1:=⟨.mk underlying329 rfl rfl (kr:prog.info? 3=some Tryz.t3) (kr:Tryz.t3.size=1) rfl⟩
instance:Dz prog 329 2 2:=⟨.mk underlying329 rfl rfl (kr:prog.info? 3=some Tryz.t3) (kr:Tryz.t3.size=1) rfl⟩
instance(x0:Int)(x1:Int)(x2:Int):Jg prog 329 [(0,.int .i64 x0),(1,.int .i64 x1),(2,.int .i64 x2)] [.int .i64 x0,.int .i64 x1,.int .i64 x2]:=⟨fun w=>kr⟩
instance:AggI prog 329 3:=⟨.mk underlying329 rfl (kr:prog.info? 329=some t329) kr⟩
instance:UndI prog 23 (.slice 122):=⟨underlying23⟩
def Bi(p0:List Ah)(p1:List Ah):Int->Option (Sum Int (Sum Unit Bool)):=fun s0=>
 if s0<(p0.length:Int) then (bnd (idx p0 s0) fun x0=>
 bnd (idx p1 s0) fun x1=>
 if (((x0.a0==x1.a0)&&((x0.a1==x1.a1)&&((x0.a2==x1.a2)&&true))))=true then (some (.inl (w64 (s0+1))))
 else (some (.inr (.inr false))))
 else (some (.inr (.inl ())))
def Ca(p0:List Ah)(p1:List Ah):Option Bool :=
 if (p0.length:Int)=(p1.length:Int) then (jn (fun (s5:Unit)=>
 some true)
 (fun j5=>bnd (lfix (Bi p0 p1) 0) fun t0=>
 (match t0 with
 |(.inl z0)=>j5 z0
 |(.inr z0)=>some z0
 )))
 else (some false)
def Bj(p0:List Ab)(p1:List Ab):Int->Option (Sum Int (Sum Unit Bool)):=fun s0=>
 if s0<(p0.length:Int) then (bnd (idx p0 s0) fun x0=>
 bnd (idx p1 s0) fun x1=>
 if (((x0.a0==x1.a0)&&((x0.a1==x1.a1)&&true)))=true then (some (.inl (w64 (s0+1))))
 else (some (.inr (.inr false))))
 else (some (.inr (.inl ())))
def Cb(p0:List Ab)(p1:List Ab):Option Bool :=
 if (p0.length:Int)=(p1.length:Int) then (jn (fun (s5:Unit)=>
 some true)
 (fun j5=>bnd (lfix (Bj p0 p1) 0) fun t0=>
 (match t0 with
 |(.inl z0)=>j5 z0
 |(.inr z0)=>some z0
 )))
 else (some false)
def Rx(p0:Aw):Option Int :=
 bnd (Me p0.V p0.Lines) fun r2=>
 jn (fun (s4:Bool)=>
 if s4=true then (some 64)
 else (some 0))
 (fun j4=>if r2.2=0 then (bnd (Ca r2.1.T p0.T) fun r0=>
 if r0=true then (bnd (Cb r2.1.Lines p0.Lines) fun r1=>
 j4 (!(r1)))
 else (j4 true))
 else (j4 true))
def Am(p0:Aa):Option Ad :=
 some (⟨p0.X,p0.Y⟩:Ad)
def Fn(p0:Ad):Option Bool :=
 jn (fun (s2:Bool)=>
 some s2)
 (fun j2=>if (-268435456)<=p0.X then (if p0.X<=268435456 then (if (-268435456)<=p0.Y then (j2 (decide (p0.Y<=268435456)))
 else (j2 false))
 else (j2 false))
 else (j2 false))
def Ha(p0:Aa):Option Bool :=
 jn (fun (s2:Bool)=>
 some s2)
 (fun j2=>bnd (Am (⟨p0.X,p0.Y,(⟨p0.Z.Lo,p0.Z.Hi⟩:Af)⟩:Aa)) fun r2=>
 bnd (Fn r2) fun r5=>
 if r5=true then (if (-268435456)<=p0.Z.Lo then (if p0.Z.Lo<=p0.Z.Hi then (j2 (decide (p0.Z.Hi<=268435456)))
 else (j2 false))
 else (j2 false))
 else (j2 false))
def Jl(p0:Ad)(p1:Ad):Option Bool :=
 jn (fun (s2:Bool)=>
 some s2)
 (fun j2=>if p0.X<p1.X then (j2 true)
 else (if p0.X=p1.X then (j2 (decide (p0.Y<p1.Y)))
 else (j2 false)))
def Qr(p0:Ad)(p1:Ad)(p2:Ad):Option Int :=
 some (w64 ((w64 ((w64 (p1.X-p0.X))*(w64 (p2.Y-p0.Y))))-(w64 ((w64 (p1.Y-p0.Y))*(w64 (p2.X-p0.X))))))
def Jo(p0:Int):Option Int :=
 if p0<0 then (some (-1))
 else (if 0<p0 then (some 1)
 else (some 0))
def Cm(p0:Ad)(p1:Ad)(p2:Ad):Option Int :=
 bnd (Qr p0 p1 p2) fun r4=>
 bnd (Jo r4) fun r7=>
 some r7
structure Cx where
 high:Int
 middle:Int
 low:Int
def Fc(p0:Cx)(p1:Int)(p2:Int):Option Cx :=
 some (⟨w64 (p0.high+(w64 ((shr_ .i64 p1 30)*(shr_ .i64 p2 30)))),w64 ((w64 (p0.middle+(w64 ((shr_ .i64 p1 30)*(Rs .i64 p2 1073741823)))))+(w64 ((Rs .i64 p1 1073741823)*(shr_ .i64 p2 30)))),w64 (p0.low+(w64 ((Rs .i64 p1 1073741823)*(Rs .i64 p2 1073741823))))⟩:Cx)
def Jf(p0:Cx):Option Int :=
 if (w64 (p0.high+(shr_ .i64 (w64 (p0.middle+(shr_ .i64 p0.low 30))) 30)))=0 then (bnd (Jo (w64 ((Rs .i64 (w64 (p0.middle+(shr_ .i64 p0.low 30))) 1073741823)+(Rs .i64 p0.low 1073741823)))) fun r8=>
 some r8)
 else (bnd (Jo (w64 (p0.high+(shr_ .i64 (w64 (p0.middle+(shr_ .i64 p0.low 30))) 30)))) fun r4=>
 some r4)
def Mu(p0:Ad)(p1:Ad)(p2:Ad)(p3:Ad):Option Int :=
 bnd (Fc (⟨0,0,0⟩:Cx) (w64 ((w64 ((w64 (p0.X-p3.X))*(w64 (p0.X-p3.X))))+(w64 ((w64 (p0.Y-p3.Y))*(w64 (p0.Y-p3.Y)))))) (w64 ((w64 ((w64 (p1.X-p3.X))*(w64 (p2.Y-p3.Y))))-(w64 ((w64 (p1.Y-p3.Y))*(w64 (p2.X-p3.X))))))) fun r6=>
 bnd (Fc r6 (w64 ((w64 ((w64 (p1.X-p3.X))*(w64 (p1.X-p3.X))))+(w64 ((w64 (p1.Y-p3.Y))*(w64 (p1.Y-p3.Y)))))) (w64 ((w64 ((w64 (p2.X-p3.X))*(w64 (p0.Y-p3.Y))))-(w64 ((w64 (p2.Y-p3.Y))*(w64 (p0.X-p3.X))))))) fun r9=>
 bnd (Fc r9 (w64 ((w64 ((w64 (p2.X-p3.X))*(w64 (p2.X-p3.X))))+(w64 ((w64 (p2.Y-p3.Y))*(w64 (p2.Y-p3.Y)))))) (w64 ((w64 ((w64 (p0.X-p3.X))*(w64 (p1.Y-p3.Y))))-(w64 ((w64 (p0.Y-p3.Y))*(w64 (p1.X-p3.X))))))) fun r0=>
 bnd (Jf r0) fun r1=>
 some r1
instance(p0:List Ah)(p1:List Ah):Con (Ca p0 p1) prog 113 (fun K vs=>∃E0 G0 E1 G1,vs=[.slice E0 p0.length G0,.slice E1 p1.length G1]/\Has K E0 p0.length G0 3 Bg p0/\Has K E1 p1.length G1 3 Bg p1/\True) (fun _ r v Ln=>v=.bool r/\Ln=[]/\True):=⟨by
 rintro K _ r ⟨E0,G0,E1,G1,rfl,ha0,ha1,-⟩ hx w hK;replace ha0:=ha0.lo hK;replace ha1:=ha1.lo hK;unfold Ca at hx;have:=dl 6 [0,0,0,1,0,0,0,1,0] [0,1,2,3,4,5,6,7,8];refine CtS ntmps113 results113 ?_;refine pq ?_;intros;rename_i hx
 refine Cq2 (s:=10) hx rfl ?_ ?_
 .exact aI
 .refine pI ?_;intros;rename_i hx
  apply Jr (γ:=Unit) hx [] (fun s5 y5 f=>f) [999] (fun s5 y5 l=>l);exact kk
  .exact aI
  .refine pI ?_;intros;rename_i hx
   apply Lr (γ:=Unit) hx [0,1,12] (fun s33 y33 f=>(13,.int .i64 s33)::f) [999] (fun s33 y33 l=>l) ();exact kk;exact sk;intro s33 y33 x33 hx _;unfold Bi at hx;exact au⟩
instance(p0:List Ab)(p1:List Ab):Con (Cb p0 p1) prog 114 (fun K vs=>∃E0 G0 E1 G1,vs=[.slice E0 p0.length G0,.slice E1 p1.length G1]/\Has K E0 p0.length G0 2 Ar p0/\Has K E1 p1.length G1 2 Ar p1/\True) (fun _ r v Ln=>v=.bool r/\Ln=[]/\True):=⟨by
 rintro K _ r ⟨E0,G0,E1,G1,rfl,ha0,ha1,-⟩ hx w hK;replace ha0:=ha0.lo hK;replace ha1:=ha1.lo hK;unfold Cb at hx;have:=dl 6 [0,0,0,1,0,0,0,1,0] [0,1,2,3,4,5,6,7,8];refine CtS ntmps114 results114 ?_;refine pq ?_;intros;rename_i hx
 refine Cq2 (s:=10) hx rfl ?_ ?_
 .exact aI
 .refine pI ?_;intros;rename_i hx
  apply Jr (γ:=Unit) hx [] (fun s5 y5 f=>f) [999] (fun s5 y5 l=>l);exact kk
  .exact aI
  .refine pI ?_;intros;rename_i hx
   apply Lr (γ:=Unit) hx [0,1,12] (fun s33 y33 f=>(13,.int .i64 s33)::f) [999] (fun s33 y33 l=>l) ();exact kk;exact sk;intro s33 y33 x33 hx _;unfold Bj at hx;exact au⟩
instance(p0:Aw):Con (Rx p0) prog 49 (fun K vs=>∃E0 G0 E1 G1 E2 G2,vs=[.agg #[.slice E0 p0.V.length G0,.slice E1 p0.T.length G1,.slice E2 p0.Lines.length G2]]/\Has K E0 p0.V.length G0 4 Ai p0.V/\Has K E1 p0.T.length G1 3 Bg p0.T/\Has K E2 p0.Lines.length G2 2 Ar p0.Lines/\True) (fun _ r v Ln=>v=.int .i64 r/\Ln=[]/\True):=⟨by
 rintro K _ r ⟨E0,G0,E1,G1,E2,G2,rfl,ha0,ha1,ha2,-⟩ hx w hK;replace ha0:=ha0.lo hK;replace ha1:=ha1.lo hK;replace ha2:=ha2.lo hK;unfold Rx at hx;refine CtS ntmps49 results49 ?_;refine pq ?_;intros;rename_i hx
 refine pA ?_;intros;rename_i hx
 apply Jr (γ:=Unit) hx [] (fun s4 y4 f=>(30,.bool s4)::f) [999] (fun s4 y4 l=>l);exact kk
 .exact aI
 .exact aI⟩
instance(p0:Aa):Con (Am p0) prog 78 (fun _ vs=>vs=[.agg #[.int .i64 p0.X,.int .i64 p0.Y,.int .i64 p0.Z.Lo,.int .i64 p0.Z.Hi]]) (fun _ r v Ln=>v=.agg #[.int .i64 r.X,.int .i64 r.Y]/\Ln=[]/\True):=⟨by
 rintro _ _ r rfl hx w hK;unfold Am at hx;refine CtS ntmps78 results78 ?_;exact au⟩
instance(p0:Ad):Con (Fn p0) prog 29 (fun _ vs=>vs=[.agg #[.int .i64 p0.X,.int .i64 p0.Y]]) (fun _ r v Ln=>v=.bool r/\Ln=[]/\True):=⟨by
 rintro _ _ r rfl hx w hK;unfold Fn at hx;refine CtS ntmps29 results29 ?_;exact au⟩
instance(p0:Aa):Con (Ha p0) prog 223 (fun _ vs=>vs=[.agg #[.int .i64 p0.X,.int .i64 p0.Y,.int .i64 p0.Z.Lo,.int .i64 p0.Z.Hi]]) (fun _ r v Ln=>v=.bool r/\Ln=[]/\True):=⟨by
 rintro _ _ r rfl hx w hK;unfold Ha at hx;refine CtS ntmps223 results223 ?_;exact au⟩
instance(p0:Ad)(p1:Ad):Con (Jl p0 p1) prog 225 (fun _ vs=>vs=[.agg #[.int .i64 p0.X,.int .i64 p0.Y],.agg #[.int .i64 p1.X,.int .i64 p1.Y]]) (fun _ r v Ln=>v=.bool r/\Ln=[]/\True):=⟨by
 rintro _ _ r rfl hx w hK;unfold Jl at hx;refine CtS ntmps225 results225 ?_;exact au⟩
instance(p0:Ad)(p1:Ad)(p2:Ad):Con (Qr p0 p1 p2) prog 232 (fun _ vs=>vs=[.agg #[.int .i64 p0.X,.int .i64 p0.Y],.agg #[.int .i64 p1.X,.int .i64 p1.Y],.agg #[.int .i64 p2.X,.int .i64 p2.Y]]) (fun _ r v Ln=>v=.int .i64 r/\Ln=[]/\True):=⟨by
 rintro _ _ r rfl hx w hK;unfold Qr at hx;refine CtS ntmps232 results232 ?_;exact au⟩
instance(p0:Int):Con (Jo p0) prog 231 (fun _ vs=>vs=[.int .i64 p0]) (fun _ r v Ln=>v=.int .i64 r/\Ln=[]/\True):=⟨by
 rintro _ _ r rfl hx w hK;unfold Jo at hx;refine CtS ntmps231 results231 ?_;exact au⟩
instance(p0:Ad)(p1:Ad)(p2:Ad):Con (Cm p0 p1 p2) prog 148 (fun _ vs=>vs=[.agg #[.int .i64 p0.X,.int .i64 p0.Y],.agg #[.int .i64 p1.X,.int .i64 p1.Y],.agg #[.int .i64 p2.X,.int .i64 p2.Y]]) (fun _ r v Ln=>v=.int .i64 r/\Ln=[]/\True):=⟨by
 rintro _ _ r rfl hx w hK;unfold Cm at hx;refine CtS ntmps148 results148 ?_;exact au⟩
instance(p0:Cx)(p1:Int)(p2:Int):Con (Fc p0 p1 p2) prog 286 (fun _ vs=>vs=[.agg #[.int .i64 p0.high,.int .i64 p0.middle,.int .i64 p0.low],.int .i64 p1,.int .i64 p2]) (fun _ r v Ln=>v=.agg #[.int .i64 r.high,.int .i64 r.middle,.int .i64 r.low]/\Ln=[]/\True):=⟨by
 rintro _ _ r rfl hx w hK;unfold Fc at hx;refine CtS ntmps286 results286 ?_;exact au⟩
instance(p0:Cx):Con (Jf p0) prog 287 (fun _ vs=>vs=[.agg #[.int .i64 p0.high,.int .i64 p0.middle,.int .i64 p0.low]]) (fun _ r v Ln=>v=.int .i64 r/\Ln=[]/\True):=⟨by
 rintro _ _ r rfl hx w hK;unfold Jf at hx;refine CtS ntmps287 results287 ?_;exact au⟩
instance(p0:Ad)(p1:Ad)(p2:Ad)(p3:Ad):Con (Mu p0 p1 p2 p3) prog 227 (fun _ vs=>vs=[.agg #[.int .i64 p0.X,.int .i64 p0.Y],.agg #[.int .i64 p1.X,.int .i64 p1.Y],.agg #[.int .i64 p2.X,.int .i64 p2.Y],.agg #[.int .i64 p3.X,.int .i64 p3.Y]]) (fun _ r v Ln=>v=.int .i64 r/\Ln=[]/\True):=⟨by
 rintro _ _ r rfl hx w hK;unfold Mu at hx;have:=dl 1 [0,1,0,1,0,0,1,0,1,0,0,1,0,1,0,0,1,0,1,0,0,1,0,1,0,0,1,0,1,0,2,2,2,2,2,2] [0,1,2,3,4,5,6,7,8,9,10,11,12,13,14,15,16,17,18,19,20,21,22,23,24,25,26,27,28,29,30,31,32,33,34,35];refine CtS ntmps227 results227 ?_;exact au⟩
theorem Atx(a:Int):shr_ .i64 a 30=a/1073741824:=by
 unfold shr_;rw[show (2:Int)^(min (30:Int).toNat IntKind.i64.bits)=1073741824 from by decide,Int.fdiv_eq_ediv_of_nonneg _ oo]
theorem Aty(a:Int):Rs .i64 a 1073741823=a%1073741824:=by
 unfold Rs;have h1:(BitVec.ofInt 64 1073741823).toNat=2^30-1:=dD;have h2:(BitVec.ofInt 64 a).toNat=(a%18446744073709551616).toNat:=by simp[BitVec.toNat_ofInt]
 have h3:(BitVec.ofInt IntKind.i64.bits a &&& BitVec.ofInt IntKind.i64.bits 1073741823).toNat=(a%1073741824).toNat:=by
  show (BitVec.ofInt 64 a &&& BitVec.ofInt 64 1073741823).toNat=_;rw[BitVec.toNat_and,h1,Nat.and_two_pow_sub_one_eq_mod,h2];omega
 rw[h3];show IntKind.wrap .i64 _=_;rw[IntKind.wrap_i64];omega
def wval(w:Cx):Int:=w.high*1152921504606846976+w.middle*1073741824+w.low
structure Anc(w:Cx)(n z:Int):Prop where
 val:wval w=z
 high:-(n*288230376151711744)<=w.high/\w.high<=n*288230376151711744
 middle:-(n*1152921504606846976)<=w.middle/\w.middle<=n*1152921504606846976
 low:0<=w.low/\w.low<=n*1152921504606846976
theorem Afv{w:Cx}{n z a b:Int}(h:Anc w n z)(hn0:0<=n)(hn:n<=2)(ha1:-576460752303423488<=a)(ha2:a<=576460752303423488)(hb1:-576460752303423488<=b)(hb2:b<=576460752303423488):
  ∃w',Fc w a b=some w'/\Anc w' (n+1) (z+a*b):=by
 obtain⟨h0,h1,h2,h3⟩:=h;unfold Fc;rw[Atx,Atx,Aty,Aty];have ea:a=a/1073741824*1073741824+a%1073741824:=oo;have eb:b=b/1073741824*1073741824+b%1073741824:=oo;have A1:-536870912<=a/1073741824/\a/1073741824<=536870912:=oo;have B1:-536870912<=b/1073741824/\b/1073741824<=536870912:=oo;have A0:0<=a%1073741824/\a%1073741824<=1073741824:=oo;have B0:0<=b%1073741824/\b%1073741824<=1073741824:=oo;generalize a/1073741824=a1 at *;generalize b/1073741824=b1 at *;generalize a%1073741824=a0 at *;generalize b%1073741824=b0 at *;have p1:=mulB (x:=a1) (y:=b1) (M:=536870912) (N:=536870912) oo oo oo oo oo;have p2:=mulB (x:=a1) (y:=b0) (M:=536870912) (N:=1073741824) oo oo oo oo oo;have p3:=mulB (x:=a0) (y:=b1) (M:=1073741824) (N:=536870912) oo oo oo oo oo;have p4:=mulB (x:=a0) (y:=b0) (M:=1073741824) (N:=1073741824) oo oo oo oo oo;have p5:0<=a0*b0:=Int.mul_nonneg A0.1 B0.1;have e:a*b=a1*b1*1152921504606846976+(a1*b0+a0*b1)*1073741824+a0*b0:=by
  rw[ea,eb];grind
 rw[Av (x:=a1*b1) oo oo,Av (x:=a1*b0) oo oo,Av (x:=a0*b1) oo oo,Av (x:=a0*b0) oo oo,
  Av (x:=w.high+a1*b1) oo oo,Av (x:=w.middle+a1*b0) oo oo,Av oo oo,Av oo oo]
 refine⟨_,rfl,?_,?_,?_,?_⟩
 .unfold wval at h0⊢;simp only;omega
 .simp only;omega
 .simp only;omega
 .simp only;omega
theorem Afw(z:Int):Jo z=some (Int.sign z):=by
 unfold Jo
 by_cases h:z<0
 .rw[iP h,Int.sign_eq_neg_one_of_neg h]
 .rw[iN h]
  by_cases h2:0<z
  .rw[iP h2,Int.sign_eq_one_of_pos h2]
  .rw[iN h2,show z=0 by omega];rfl
theorem Arl{w:Cx}{z:Int}(h:Anc w 3 z):Jf w=some (Int.sign z):=by
 obtain⟨h0,h1,h2,h3⟩:=h;unfold Jf;simp only[Atx,Aty];have e1:w.low=w.low/1073741824*1073741824+w.low%1073741824:=oo;rw[Av (x:=w.middle+w.low/1073741824) oo oo];have e2:w.middle+w.low/1073741824=(w.middle+w.low/1073741824)/1073741824*1073741824+(w.middle+w.low/1073741824)%1073741824:=oo;unfold wval at h0;have l0:0<=w.low%1073741824/\w.low%1073741824<1073741824:=oo;have m0:0<=(w.middle+w.low/1073741824)%1073741824/\(w.middle+w.low/1073741824)%1073741824<1073741824:=oo;have hb:-4611686018427387904<=w.high+(w.middle+w.low/1073741824)/1073741824/\w.high+(w.middle+w.low/1073741824)/1073741824<=4611686018427387904:=oo;have hz:z=(w.high+(w.middle+w.low/1073741824)/1073741824)*1152921504606846976+(w.middle+w.low/1073741824)%1073741824*1073741824+w.low%1073741824:=oo;clear e1 e2 h0 h1 h2 h3;rw[Av (x:=w.high+(w.middle+w.low/1073741824)/1073741824) oo oo];generalize w.high+(w.middle+w.low/1073741824)/1073741824=H at *;generalize (w.middle+w.low/1073741824)%1073741824=M at *;generalize w.low%1073741824=L at *
 by_cases c:H=0
 .rw[iP c,Av oo oo,Afw,Ac];congr 1
  by_cases c2:M+L=0
  .rw[c2,show z=0 by omega]
  .rw[Int.sign_eq_one_of_pos oo,Int.sign_eq_one_of_pos oo]
 .rw[iN c,Afw,Ac];congr 1
  by_cases c2:H<0
  .rw[Int.sign_eq_neg_one_of_neg c2,Int.sign_eq_neg_one_of_neg oo]
  .rw[Int.sign_eq_one_of_pos oo,Int.sign_eq_one_of_pos oo]
theorem Arm{a b c:Ad}(ha:okP a)(hb:okP b)(hc:okP c):Qr a b c=some (crs a b c):=Sw ha hb hc
theorem Rd{a b c:Ad}(ha:okP a)(hb:okP b)(hc:okP c):Cm a b c=some (Int.sign (crs a b c)):=by
 unfold Cm;rw[Arm ha hb hc,Ac,Afw,Ac]
theorem And{a b c d:Ad}(ha:okP a)(hb:okP b)(hc:okP c)(hd:okP d):Mu a b c d=some (Int.sign (inC a b c d)):=by
 have l1:=Abw ha hd;have l2:=Abw hb hd;have l3:=Abw hc hd;have c1:=Il hd hb hc;have c2:=Il hd hc ha;have c3:=Il hd ha hb;obtain⟨w1,e1,i1⟩:=Afv (w:=⟨0,0,0⟩) (n:=0) (z:=0) (a:=lft a d) (b:=crs d b c) ⟨rfl,s_,s_,s_⟩ oo oo oo oo oo oo;obtain⟨w2,e2,i2⟩:=Afv (a:=lft b d) (b:=crs d c a) i1 oo oo oo oo oo oo;obtain⟨w3,e3,i3⟩:=Afv (a:=lft c d) (b:=crs d a b) i2 oo oo oo oo oo oo;have x1:w64 (w64 (w64 (a.X-d.X)*w64 (a.X-d.X))+w64 (w64 (a.Y-d.Y)*w64 (a.Y-d.Y)))=lft a d:=oI (Aas ha hd);have x2:w64 (w64 (w64 (b.X-d.X)*w64 (b.X-d.X))+w64 (w64 (b.Y-d.Y)*w64 (b.Y-d.Y)))=lft b d:=oI (Aas hb hd);have x3:w64 (w64 (w64 (c.X-d.X)*w64 (c.X-d.X))+w64 (w64 (c.Y-d.Y)*w64 (c.Y-d.Y)))=lft c d:=oI (Aas hc hd);have y1:w64 (w64 (w64 (b.X-d.X)*w64 (c.Y-d.Y))-w64 (w64 (b.Y-d.Y)*w64 (c.X-d.X)))=crs d b c:=oI (Sw hd hb hc);have y2:w64 (w64 (w64 (c.X-d.X)*w64 (a.Y-d.Y))-w64 (w64 (c.Y-d.Y)*w64 (a.X-d.X)))=crs d c a:=oI (Sw hd hc ha);have y3:w64 (w64 (w64 (a.X-d.X)*w64 (b.Y-d.Y))-w64 (w64 (a.Y-d.Y)*w64 (b.X-d.X)))=crs d a b:=oI (Sw hd ha hb);unfold Mu;simp only[x1,x2,x3,y1,y2,y3,e1,Ac,e2,e3];rw[Arl (sV i3),Ac];simp[inC]
def befP(p q:Ad):Prop:=p.X<q.X\/p.X=q.X/\p.Y<q.Y
instance(p q:Ad):Decidable (befP p q):=by unfold befP;infer_instance
def Bz(p q:Ad):Prop:=p.X=q.X/\p.Y=q.Y
instance(p q:Ad):Decidable (Bz p q):=by unfold Bz;infer_instance
theorem Ach{p q:Ad}(h:Bz p q):p=q:=by
 obtain⟨x,y⟩:=p;obtain⟨x',y'⟩:=q;obtain⟨h1,h2⟩:=h;simp only at h1 h2;rw[h1,h2]
def Nh(a b:Ad):Ad:=if befP b a then b else a
theorem Atz(a b:Ad):Fm a b=some (decide (befP a b)):=by
 unfold Fm jn befP;simp only
 by_cases h1:a.X<b.X
 .simp[h1]
 .by_cases h2:a.X=b.X
  .simp[h2]
  .simp[h1,h2]
theorem Ai8(a:Ad):Fn a=some (decide (okP a)):=by
 unfold Fn;rw[jn_d]
 by_cases h1:-268435456<=a.X
 .rw[iP h1]
  by_cases h2:a.X<=268435456
  .rw[iP h2]
   by_cases h3:-268435456<=a.Y
   .rw[iP h3]
    by_cases h4:a.Y<=268435456
    .rw[dT h4,dT (show okP a by unfold okP;omega)]
    .rw[dF h4,dF (show ¬okP a by unfold okP;omega)]
   .rw[iN h3,dF (show ¬okP a by unfold okP;omega)]
  .rw[iN h2,dF (show ¬okP a by unfold okP;omega)]
 .rw[iN h1,dF (show ¬okP a by unfold okP;omega)]
theorem Ane(B:(Int × Int × Int)->Option (Sum (Int × Int × Int) (Int × Int)))(p q r:Ad)(hB:∀ x y i,B (x,y,i)=if i<3 then bnd (idx [p,q,r] i) fun z=>some (.inl ((Nh ⟨x,y⟩ z).X,(Nh ⟨x,y⟩ z).Y,w64 (i+1))) else some (.inr (x,y)))(x y:Int):
  lfix B (x,y,0)=some ((Nh (Nh (Nh ⟨x,y⟩ p) q) r).X,(Nh (Nh (Nh ⟨x,y⟩ p) q) r).Y):=by
 have w1:w64 (0+1)=1:=Av oo oo;have w2:w64 (1+1)=2:=Av oo oo;have w3:w64 (2+1)=3:=Av oo oo;have i0:idx [p,q,r] 0=some p:=rfl;have i1:idx [p,q,r] 1=some q:=rfl;have i2:idx [p,q,r] 2=some r:=rfl;rw[Ax,hB,iP oo,i0,Ac,w1];simp only;rw[Ax,hB,iP oo,i1,Ac,w2];simp only;rw[Ax,hB,iP oo,i2,Ac,w3];simp only;rw[Ax,hB,iN oo]
theorem Arn{a b c d:Ad}(h1:¬ Bz a c)(h2:¬ Bz a d)(h3:¬ Bz b c)(h4:¬ Bz b d):
  (Bz (Nh (Nh (Nh a b) c) d) c\/Bz (Nh (Nh (Nh a b) c) d) d)↔((befP c a/\befP c b)\/(befP d a/\befP d b)):=by
 have key:∀p q:Ad,(befP q p/\Nh p q=q)\/(¬befP q p/\Nh p q=p):=fun p q=>by
  unfold Nh
  by_cases h:befP q p
  .exact .inl ⟨h,iP h⟩
  .exact .inr ⟨h,iN h⟩
 rcases key a b with⟨k1,e1⟩|⟨k1,e1⟩ <;> rw[e1]
 .rcases key b c with⟨k2,e2⟩|⟨k2,e2⟩ <;> rw[e2]
  .rcases key c d with⟨k3,e3⟩|⟨k3,e3⟩ <;> rw[e3] <;> unfold Bz befP at * <;> omega
  .rcases key b d with⟨k3,e3⟩|⟨k3,e3⟩ <;> rw[e3] <;> unfold Bz befP at * <;> omega
 .rcases key a c with⟨k2,e2⟩|⟨k2,e2⟩ <;> rw[e2]
  .rcases key c d with⟨k3,e3⟩|⟨k3,e3⟩ <;> rw[e3] <;> unfold Bz befP at * <;> omega
  .rcases key a d with⟨k3,e3⟩|⟨k3,e3⟩ <;> rw[e3] <;> unfold Bz befP at * <;> omega
def legP(a b c d:Ad):Prop:=Int.sign (crs a b c)*Int.sign (inC a b c d)<0\/Int.sign (crs a b c)*Int.sign (inC a b c d)=0/\((befP c a/\befP c b)\/(befP d a/\befP d b))
instance(a b c d:Ad):Decidable (legP a b c d):=by unfold legP;infer_instance
theorem Sc(a c:Ad):crs a c c=0:=by unfold crs;grind
theorem Bx(a b:Ad):crs a b a=0:=by unfold crs;grind
theorem Bq(a b:Ad):crs a b b=0:=by unfold crs;grind
theorem Wu(a b:Ad):crs a a b=0:=by unfold crs;grind
theorem Bb(a b c:Ad):crs b a c = -crs a b c:=by unfold crs;grind
theorem Au(a b c:Ad):crs b c a=crs a b c:=by unfold crs;grind
theorem At0{a b c d:Ad}(ha:okP a)(hb:okP b)(hc:okP c)(hd:okP d)(h1:¬Bz a c)(h2:¬Bz a d)(h3:¬Bz b c)(h4:¬Bz b d):Tq a b c d=some (decide (legP a b c d)):=by
 unfold Tq;rw[Ar2,iP ⟨ha,hb,hc,hd⟩,Ac];have e:(if crs a b c=0 then ((0:Int),(12:Int)) else (Int.sign (crs a b c)*Int.sign (inC a b c d),0)).1=Int.sign (crs a b c)*Int.sign (inC a b c d):=by
  split
  .rename_i h;rw[h];simp
  .rfl
 rw[e]
 by_cases h0:Int.sign (crs a b c)*Int.sign (inC a b c d)=0
 .rw[iP h0,jn_d,Ane _ b c d (fun x y i=>?_),Ac]
  .dsimp only;rw[jn_d];have hl:=Arn h1 h2 h3 h4
   by_cases hcc:Bz (Nh (Nh (Nh a b) c) d) c
   .have:legP a b c d:=.inr ⟨h0,hl.1 (.inl hcc)⟩;rw[iP (by simpa[Bz] using hcc),dT this]
   .rw[iN (by simpa[Bz] using hcc)];congr 1;rw[Bool.eq_iff_iff];simp only[Bool.and_true,Bool.and_eq_true,beq_iff_eq,dQ];unfold legP;constructor
    .intro h;exact .inr ⟨h0,hl.1 (.inr h)⟩
    .rintro (h|⟨_,h⟩)
     .omega
     .exact (hl.2 h).resolve_left hcc
  .unfold Wq;simp only;split
   .refine congrArg (bnd _) (funext fun z=>?_);rw[Atz,Ac];unfold Nh
    by_cases hb:befP z ⟨x,y⟩
    .rw[iP (sV hb),iP hb]
    .rw[iN (sV hb),iN hb]
   .rfl
 .rw[iN h0];congr 1;rw[Bool.eq_iff_iff];simp only[dQ];unfold legP;constructor
  .intro h;exact .inl h
  .rintro (h|⟨h,_⟩)
   .exact h
   .exact absurd h h0
theorem Adl{x y:Int}:Int.sign x*Int.sign y = -1↔(x<0/\0<y)\/(0<x/\y<0):=by
 rcases Int.lt_trichotomy x 0 with h|h|h <;> rcases Int.lt_trichotomy y 0 with h'|h'|h'
 all_goals first
  |(rw[Int.sign_eq_neg_one_of_neg h];try rw[Int.sign_eq_neg_one_of_neg h'])
  |(rw[Int.sign_eq_one_of_pos h];try rw[Int.sign_eq_neg_one_of_neg h'])
  |(rw[h])
 all_goals try rw[Int.sign_eq_one_of_pos h']
 all_goals try rw[h']
 all_goals simp
 all_goals omega
theorem Wb{x y:Int}:w64 (Int.sign x*Int.sign y)=Int.sign x*Int.sign y:=by
 apply Av
 .rcases Int.sign_trichotomy x with h|h|h <;> rcases Int.sign_trichotomy y with h'|h'|h' <;> simp[h,h']
 .rcases Int.sign_trichotomy x with h|h|h <;> rcases Int.sign_trichotomy y with h'|h'|h' <;> simp[h,h']
theorem Ai9{x y:Int}:0<=Int.sign x*Int.sign y↔¬Int.sign x*Int.sign y = -1:=by
 rcases Int.sign_trichotomy x with h|h|h <;> rcases Int.sign_trichotomy y with h'|h'|h' <;> simp[h,h']
theorem Aja{a b c d:Ad}(h:Int.sign (crs a b c)*Int.sign (crs a b d) = -1):¬Bz a c/\¬Bz a d/\¬Bz b c/\¬Bz b d:=by
 rw[Adl] at h;refine⟨fun e=>?_,fun e=>?_,fun e=>?_,fun e=>?_⟩ <;> (have:=Ach e;subst this;simp only[Sc,Bx,Bq] at h;omega)
def Dt(ha hb hc hd:Int)(a b c d:Ad):Int:=ha*crs b c d+hb*crs c a d+hc*crs a b d-hd*crs a b c
def plt(ha hb hc:Int)(a b c x:Ad):Int:=ha*crs b c x+hb*crs c a x+hc*crs a b x
def sq(p:Ad):Int:=p.X*p.X+p.Y*p.Y
theorem Bav(a b c d:Ad):inC a b c d=Dt (sq a) (sq b) (sq c) (sq d) a b c d:=by unfold inC Dt lft sq crs;grind
theorem Afx(ha hb hc hd:Int)(a b c d:Ad):Dt ha hb hc hd a b c d=plt ha hb hc a b c d-hd*crs a b c:=rfl
theorem Qe(a b c d:Ad):crs a b c=crs b c d+crs c a d+crs a b d:=by unfold crs;grind
theorem Ajb(a b c q r u:Ad):crs b c u*crs q r a+crs c a u*crs q r b+crs a b u*crs q r c=crs a b c*crs q r u:=by unfold crs;grind
theorem Abu(hp hq hr:Int)(a b c p q r u:Ad):crs b c u*plt hp hq hr p q r a+crs c a u*plt hp hq hr p q r b+crs a b u*plt hp hq hr p q r c=crs a b c*plt hp hq hr p q r u:=by
 have h1:=Ajb a b c q r u;have h2:=Ajb a b c r p u;have h3:=Ajb a b c p q u;unfold plt;grind
theorem Tm(ha hb hc hd:Int)(a b c d x:Ad):plt hb ha hd b a d x*crs a b c-plt ha hb hc a b c x*crs b a d=Dt ha hb hc hd a b c d*crs a b x:=by
 unfold plt Dt crs;grind
theorem Ax7(ha hb hc hd:Int)(a b c d:Ad):Dt hb ha hc hd b a c d = -Dt ha hb hc hd a b c d:=by unfold Dt crs;grind
theorem Baw(ha hb hc hd:Int)(a b c d:Ad):Dt hb hc ha hd b c a d=Dt ha hb hc hd a b c d:=by unfold Dt crs;grind
theorem Ak6(ha hb hc hd:Int)(a b c d:Ad):Dt ha hb hd hc a b d c = -Dt ha hb hc hd a b c d:=by unfold Dt crs;grind
theorem Aci(ha hb hc:Int)(a b c x:Ad):plt hb hc ha b c a x=plt ha hb hc a b c x:=by unfold plt;grind
theorem At1(ha hb hc:Int)(a b c:Ad):plt ha hb hc a b c a=ha*crs a b c:=by unfold plt crs;grind
theorem Apd(ha hb hc:Int)(a b c:Ad):plt ha hb hc a b c b=hb*crs a b c:=by unfold plt crs;grind
theorem Ape(ha hb hc:Int)(a b c:Ad):plt ha hb hc a b c c=hc*crs a b c:=by unfold plt crs;grind
theorem Bax(a b c d:Ad):inC a b c d=lft a b*crs b c d+lft c b*crs a b d-lft d b*crs a b c:=by unfold inC lft crs;grind
theorem Ajc{p q:Ad}(h:¬Bz p q):0<lft p q:=by
 unfold lft;have h1:0<=(p.X-q.X)*(p.X-q.X):=by rw[<-Int.natAbs_mul_self];omega
 have h2:0<=(p.Y-q.Y)*(p.Y-q.Y):=by rw[<-Int.natAbs_mul_self];omega
 by_cases hx:p.X=q.X
 .have hy:p.Y-q.Y≠0:=fun e=>h ⟨hx,oo⟩
  have:0<(p.Y-q.Y)*(p.Y-q.Y):=by
   rcases Int.lt_or_gt_of_ne hy with g|g
   .exact Int.mul_pos_of_neg_of_neg g g
   .exact Int.mul_pos g g
  omega
 ·have hx':p.X-q.X≠0:=oo;have:0<(p.X-q.X)*(p.X-q.X):=by
   rcases Int.lt_or_gt_of_ne hx' with g|g
   .exact Int.mul_pos_of_neg_of_neg g g
   .exact Int.mul_pos g g
  omega
theorem Xy(p q:Ad):0<=lft p q:=by
 unfold lft;have h1:0<=(p.X-q.X)*(p.X-q.X):=by rw[<-Int.natAbs_mul_self];omega
 have h2:0<=(p.Y-q.Y)*(p.Y-q.Y):=by rw[<-Int.natAbs_mul_self];omega
 omega
theorem Afy{a b c d:Ad}(h1:0<crs a b c)(h2:crs a b d<0)(h3:crs b c d<=0):inC a b c d<0:=by
 have hd:¬Bz d b:=fun e=>by
  have:=Ach e;subst this;simp only[Bq] at h2;omega
 rw[Bax];have e1:lft a b*crs b c d<=0:=Int.mul_nonpos_of_nonneg_of_nonpos (Xy a b) h3;have e2:lft c b*crs a b d<=0:=Int.mul_nonpos_of_nonneg_of_nonpos (Xy c b) oo;have e3:0<lft d b*crs a b c:=Int.mul_pos (Ajc hd) h1;omega
theorem Zk{a b c d:Ad}(h1:0<crs a b c)(h2:crs a b d<0)(h3:crs c a d<=0):inC a b c d<0:=by
 have e:inC a b c d=lft b a*crs c a d+lft c a*crs a b d-lft d a*crs a b c:=by unfold inC lft crs;grind
 have hd:¬Bz d a:=fun e=>by
  have:=Ach e;subst this;simp only[Bx] at h2;omega
 rw[e];have e1:lft b a*crs c a d<=0:=Int.mul_nonpos_of_nonneg_of_nonpos (Xy b a) h3;have e2:lft c a*crs a b d<=0:=Int.mul_nonpos_of_nonneg_of_nonpos (Xy c a) oo;have e3:0<lft d a*crs a b c:=Int.mul_pos (Ajc hd) h1;omega
def ph(α β:Int)(p:Ad):Int:=α*p.X+β*p.Y
theorem Bcz(α β:Int)(a b c d:Ad):(ph α β b-ph α β a)*crs a c d+(ph α β c-ph α β a)*crs a d b+(ph α β d-ph α β a)*crs a b c=0:=by unfold ph crs;grind
section
variable {α β:Int}
theorem Afz{x y:Int}(hx:0<x)(h:0<x*y):0<y:=by
 rcases Int.lt_trichotomy y 0 with g|g|g
 .have:=Int.mul_neg_of_pos_of_neg hx g;omega
 .subst g;simp at h
 .exact g
theorem Tv{x y:Int}(hx:0<x)(h:0<=x*y):0<=y:=by
 rcases Int.lt_or_le y 0 with g|g
 .have:=Int.mul_neg_of_pos_of_neg hx g;omega
 .exact g
end
section
variable (P:Int->Ad)(α β:Int)
def Sup(D:LI)(a b:Int):Prop:=ph α β (P a)<ph α β (P b)/\∀k∈D,0<crs (P a) (P b) (P k)\/(crs (P a) (P b) (P k)=0/\ph α β (P a)<=ph α β (P k)/\ph α β (P k)<=ph α β (P b))
def Az3(Q:Int->Int->Prop):LI->Prop
 |b::a::r=>Q a b/\Az3 Q (a::r)
 |_=>True
structure ChainC(f:Int)(D s:LI):Prop where
 sub:∀x∈s,x∈D
 edge:Az3 (Sup P α β D) s
 bot:∃r,s=r++[f]
 low:∀k∈D,k=f\/ph α β (P f)<ph α β (P k)
variable {P α β}
end
theorem Xz{a b c x y z:Int}(hx:0<x)(hy:0<y)(hz:0<z)(h1:a*y<b*x)(h2:b*z<c*y):a*z<c*x:=by
 have h3:=Int.mul_lt_mul_of_pos_right h1 hz;have h4:=Int.mul_lt_mul_of_pos_right h2 hx;have h5:y*(a*z)<y*(c*x):=by
  have e1:y*(a*z)=a*y*z:=by grind
  have e2:b*x*z=b*z*x:=by grind
  have e3:y*(c*x)=c*y*x:=by grind
  rw[e1,e3];rw[e2] at h3;exact Int.lt_trans h3 h4
 exact Int.lt_of_mul_lt_mul_left h5 (Int.le_of_lt hy)
theorem Wv{α:Type}{p q:α->Bool}{x:α}:∀{l:List α},(∀y∈l,p y=true->q y=true)->x∈l->q x=true->p x=false->l.countP p<l.countP q
 |[],_,hx,_,_=>by cases hx
 |y::r,h',hx,hq,hp=>by
  have h:=h' y mS;have h2:∀z∈r,p z=true->q z=true:=fun z hz=>h' z (mO _ hz)
  have hle:r.countP p<=r.countP q:=countP_mono_left h2;rw[countP_cons,countP_cons];rcases mem_cons.1 hx with rfl|hx
  .rw[hq,hp];simp;omega
  .have:=Wv h2 hx hq hp
   by_cases c:p y=true
   .rw[iP c,iP (h c)];omega
   .rw[iN c];split <;> omega
def c3(a b p q r:Ad):Int:=crs a b p+crs a b q+crs a b r
def p3(ha hb hc:Int)(a b c p q r:Ad):Int:=plt ha hb hc a b c p+plt ha hb hc a b c q+plt ha hb hc a b c r
theorem Aro(ha hb hc hd:Int)(a b c d p q r:Ad):p3 hb ha hd b a d p q r*crs a b c-p3 ha hb hc a b c p q r*crs b a d=Dt ha hb hc hd a b c d*c3 a b p q r:=by
 have h1:=Tm ha hb hc hd a b c d p;have h2:=Tm ha hb hc hd a b c d q;have h3:=Tm ha hb hc hd a b c d r;unfold p3 c3;grind
theorem At2(ha hb hc:Int)(a b c p q r:Ad):p3 hb hc ha b c a p q r=p3 ha hb hc a b c p q r:=by unfold p3;rw[Aci ha hb hc a b c p,Aci ha hb hc a b c q,Aci ha hb hc a b c r]
abbrev T3:=Int×Int×Int
variable {P:Int->Ad}{H:Int->Int}
def Ww(P:Int->Ad)(t:T3):Int:=crs (P t.1) (P t.2.1) (P t.2.2)
def hgt3(P:Int->Ad)(H:Int->Int)(t:T3)(p q r:Ad):Int:=p3 (H t.1) (H t.2.1) (H t.2.2) (P t.1) (P t.2.1) (P t.2.2) p q r
def Yu(P:Int->Ad)(H:Int->Int)(p q r:Ad)(t s:T3):Prop:=hgt3 P H t p q r*Ww P s<hgt3 P H s p q r*Ww P t
instance(p q r:Ad)(t s:T3):Decidable (Yu P H p q r t s):=by unfold Yu;infer_instance
def DH(P:Int->Ad)(H:Int->Int)(a b c d:Int):Int:=Dt (H a) (H b) (H c) (H d) (P a) (P b) (P c) (P d)
structure Adm(P:Int->Ad)(X:List T3):Prop where
 rot:∀a b c,(a,b,c)∈X->(b,c,a)∈X
 ccw:∀a b c,(a,b,c)∈X->0<crs (P a) (P b) (P c)
theorem walk{X:List T3}(hX:Adm P X)(p q r:Ad)(step:∀ a b c,(a,b,c)∈X->c3 (P a) (P b) p q r<0->∃ d,(b,a,d)∈X/\DH P H a b c d<0):
  ∀t∈X,∃s∈X,0<=c3 (P s.1) (P s.2.1) p q r/\0<=c3 (P s.2.1) (P s.2.2) p q r/\0<=c3 (P s.2.2) (P s.1) p q r/\(s=t\/Yu P H p q r t s):=by
 have key:∀(n:Nat) (t:T3),t∈X->X.countP (fun s=>decide (Yu P H p q r t s))=n->∃s∈X,0<=c3 (P s.1) (P s.2.1) p q r/\0<=c3 (P s.2.1) (P s.2.2) p q r/\0<=c3 (P s.2.2) (P s.1) p q r/\(s=t\/Yu P H p q r t s):=by
  intro n
  induction n using Nat.strongRecOn with
  |ind n ih=>
   intro t ht hn;have go:∀ t':T3,t'∈X->hgt3 P H t' p q r=hgt3 P H t p q r->Ww P t'=Ww P t->c3 (P t'.1) (P t'.2.1) p q r<0 ->
     ∃s∈X,0<=c3 (P s.1) (P s.2.1) p q r/\0<=c3 (P s.2.1) (P s.2.2) p q r/\0<=c3 (P s.2.2) (P s.1) p q r/\(s=t\/Yu P H p q r t s):=by
    rintro⟨a,b,c⟩ h1 h2 h3 h4;obtain⟨d,h5,h6⟩:=step a b c h1 h4;have hb:Yu P H p q r t (b,a,d):=by
     unfold Yu;rw[<-h2,<-h3];have e:=Aro (H a) (H b) (H c) (H d) (P a) (P b) (P c) (P d) p q r;have:0<Dt (H a) (H b) (H c) (H d) (P a) (P b) (P c) (P d)*c3 (P a) (P b) p q r:=Int.mul_pos_of_neg_of_neg h6 h4;show p3 _ _ _ _ _ _ p q r*crs _ _ _<p3 _ _ _ _ _ _ p q r*crs _ _ _;simp only;omega
    have hpos:∀u∈X,0<Ww P u:=fun u hu=>hX.ccw u.1 u.2.1 u.2.2 hu
    have hlt:X.countP (fun s=>decide (Yu P H p q r (b,a,d) s))<n:=by
     rw[<-hn];refine Wv (x:=(b,a,d)) (fun y hy hb2=>?_) h5 (sV hb) (by simp[Yu]);rw[dQ] at hb2⊢;exact Xz (hpos t ht) (hpos _ h5) (hpos y hy) hb hb2
    obtain⟨s,k1,k2,k3,k4,k5⟩:=ih _ hlt (b,a,d) h5 rfl;refine⟨s,k1,k2,k3,k4,.inr ?_⟩;rcases k5 with rfl|k5
    .exact hb
    .exact Xz (hpos t ht) (hpos _ h5) (hpos s k1) hb k5
   obtain⟨a,b,c⟩:=t
   by_cases g1:c3 (P a) (P b) p q r<0
   .exact go (a,b,c) ht rfl rfl g1
   .by_cases g2:c3 (P b) (P c) p q r<0
    .exact go (b,c,a) (hX.rot _ _ _ ht) (At2 _ _ _ _ _ _ _ _ _) (Au _ _ _) g2
    .by_cases g3:c3 (P c) (P a) p q r<0
     .exact go (c,a,b) (hX.rot _ _ _ (hX.rot _ _ _ ht)) (by unfold hgt3;rw[<-At2]) (by unfold Ww;rw[<-Au]) g3
     .exact⟨(a,b,c),ht,by simp only;omega,by simp only;omega,by simp only;omega,.inl rfl⟩
 exact fun t ht=>key _ t ht rfl
end
section
variable {P:Int->Ad}{H:Int->Int}{V:Int->Prop}
theorem Adn{a b c d:Int}(hd:d≠a->d≠b->d≠c->DH P H a b c d<0):plt (H a) (H b) (H c) (P a) (P b) (P c) (P d)<=H d*crs (P a) (P b) (P c)/\(d≠a->d≠b->d≠c->plt (H a) (H b) (H c) (P a) (P b) (P c) (P d)<H d*crs (P a) (P b) (P c)):=by
 have key:d≠a->d≠b->d≠c->plt (H a) (H b) (H c) (P a) (P b) (P c) (P d)<H d*crs (P a) (P b) (P c):=fun h1 h2 h3=>by
  have:=hd h1 h2 h3;unfold DH at this;rw[Afx] at this;omega
 refine⟨?_,key⟩
 by_cases h1:d=a
 .subst h1;rw[At1];exact Int.le_refl _
 .by_cases h2:d=b
  .subst h2;rw[Apd];exact Int.le_refl _
  .by_cases h3:d=c
   .subst h3;rw[Ape];exact Int.le_refl _
   .exact Int.le_of_lt (key h1 h2 h3)
theorem global{X:List T3}(hX:Adm P X)(emp:∀ a b c,(a,b,c)∈X->∀ d,V d->d≠a->d≠b->d≠c->crs (P a) (P b) (P d)<0\/crs (P b) (P c) (P d)<0\/crs (P c) (P a) (P d)<0)(leg:∀ a b c,(a,b,c)∈X->∀ d,V d->crs (P a) (P b) (P d)<0->∃ e,(b,a,e)∈X/\DH P H a b c e<0):
  ∀a b c,(a,b,c)∈X->∀d,V d->d≠a->d≠b->d≠c->DH P H a b c d<0:=by
 intro a b c ht d hd h1 h2 h3;have c3d:∀x y,c3 x y (P d) (P d) (P d)=3*crs x y (P d):=fun x y=>by unfold c3;omega
 obtain⟨⟨x,y,z⟩,hs,g1,g2,g3,g4⟩:=walk (H:=H) hX (P d) (P d) (P d) (fun a b c h hc=>leg a b c h d hd (by rw[c3d] at hc;omega)) (a,b,c) ht;simp only[c3d] at g1 g2 g3;rcases g4 with e|hb
 .cases e
  rcases emp a b c ht d hd h1 h2 h3 with h|h|h <;> omega
 ·have hτ:=hX.ccw _ _ _ ht;have hσ:=hX.ccw _ _ _ hs;have hp:plt (H x) (H y) (H z) (P x) (P y) (P z) (P d)=H d*crs (P x) (P y) (P z):=by
   by_cases k1:d=x
   .subst k1;rw[At1]
   .by_cases k2:d=y
    .subst k2;rw[Apd]
    .by_cases k3:d=z
     .subst k3;rw[Ape]
     .rcases emp x y z hs d hd k1 k2 k3 with h|h|h <;> omega
  unfold Yu hgt3 Ww p3 at hb;simp only[hp] at hb;have h4:(plt (H a) (H b) (H c) (P a) (P b) (P c) (P d)*3)*crs (P x) (P y) (P z)<(H d*crs (P a) (P b) (P c)*3)*crs (P x) (P y) (P z):=by
   have e1:(plt (H a) (H b) (H c) (P a) (P b) (P c) (P d)*3)*crs (P x) (P y) (P z)=(plt (H a) (H b) (H c) (P a) (P b) (P c) (P d)+plt (H a) (H b) (H c) (P a) (P b) (P c) (P d)+plt (H a) (H b) (H c) (P a) (P b) (P c) (P d))*crs (P x) (P y) (P z):=by grind
   have e2:(H d*crs (P a) (P b) (P c)*3)*crs (P x) (P y) (P z)=(H d*crs (P x) (P y) (P z)+H d*crs (P x) (P y) (P z)+H d*crs (P x) (P y) (P z))*crs (P a) (P b) (P c):=by grind
   rw[e1,e2];exact hb
  have h5:=Int.lt_of_mul_lt_mul_right h4 (Int.le_of_lt hσ);unfold DH;rw[Afx];omega
theorem Ya{a b c:Int}(h:crs (P a) (P b) (P c)≠0):a≠b/\b≠c/\c≠a:=by
 refine⟨fun e=>?_,fun e=>?_,fun e=>?_⟩
 .subst e;exact h (Wu _ _)
 .subst e;exact h (Bq _ _)
 .subst e;exact h (Bx _ _)
theorem Anf{X:List T3}(hX:Adm P X)(hV:∀a b c,(a,b,c)∈X->V a/\V b/\V c)(empX:∀a b c,(a,b,c)∈X->∀d,V d->d≠a->d≠b->d≠c->DH P H a b c d<0)(step:∀a b c,(a,b,c)∈X->∀d,V d->crs (P a) (P b) (P d)<0->∃e,(b,a,e)∈X)(hne:X≠[]){p q r:Int}(hp:V p)(hq:V q)(hr:V r)(hs:0<crs (P p) (P q) (P r))(hemp:∀d,V d->d≠p->d≠q->d≠r->DH P H p q r d<0):(p,q,r)∈X:=by
 obtain⟨t0,ht0⟩:=exists_mem_of_ne_nil X hne;obtain⟨⟨a,b,c⟩,ht,g1,g2,g3,_⟩:=walk (H:=H) hX (P p) (P q) (P r) (fun a b c h hc=>by
  have hτ:=hX.ccw _ _ _ h;obtain⟨e,he⟩:∃e,(b,a,e)∈X:=by
   unfold c3 at hc
   by_cases k1:crs (P a) (P b) (P p)<0
   .exact step a b c h p hp k1
   .by_cases k2:crs (P a) (P b) (P q)<0
    .exact step a b c h q hq k2
    .exact step a b c h r hr oo
  refine⟨e,he,empX a b c h e (hV _ _ _ he).2.2 ?_ ?_ ?_⟩
  .exact (Ya (P:=P) (a:=b) (b:=a) (c:=e) (by have:=hX.ccw _ _ _ he;omega)).2.1.symm
  .exact (Ya (P:=P) (a:=b) (b:=a) (c:=e) (by have:=hX.ccw _ _ _ he;omega)).2.2
  .intro k;subst k;have h1:=hX.ccw _ _ _ he;rw[Bb] at h1;omega) t0 ht0
 simp only at g1 g2 g3;have hτ:=hX.ccw _ _ _ ht;obtain⟨va,vb,vc⟩:=hV _ _ _ ht;have P1:=Adn (P:=P) (H:=H) (empX a b c ht p hp);have P2:=Adn (P:=P) (H:=H) (empX a b c ht q hq);have P3:=Adn (P:=P) (H:=H) (empX a b c ht r hr);have Q1:=(Adn (P:=P) (H:=H) (hemp a va)).1;have Q2:=(Adn (P:=P) (H:=H) (hemp b vb)).1;have Q3:=(Adn (P:=P) (H:=H) (hemp c vc)).1;have e1:c3 (P b) (P c) (P p) (P q) (P r)*plt (H p) (H q) (H r) (P p) (P q) (P r) (P a)+c3 (P c) (P a) (P p) (P q) (P r)*plt (H p) (H q) (H r) (P p) (P q) (P r) (P b)+c3 (P a) (P b) (P p) (P q) (P r)*plt (H p) (H q) (H r) (P p) (P q) (P r) (P c)
   = crs (P a) (P b) (P c)*((H p+H q+H r)*crs (P p) (P q) (P r)):=by
  have i1:=Abu (H p) (H q) (H r) (P a) (P b) (P c) (P p) (P q) (P r) (P p);have i2:=Abu (H p) (H q) (H r) (P a) (P b) (P c) (P p) (P q) (P r) (P q);have i3:=Abu (H p) (H q) (H r) (P a) (P b) (P c) (P p) (P q) (P r) (P r);rw[At1] at i1;rw[Apd] at i2;rw[Ape] at i3;unfold c3;grind
 have e2:plt (H a) (H b) (H c) (P a) (P b) (P c) (P p)+plt (H a) (H b) (H c) (P a) (P b) (P c) (P q)+plt (H a) (H b) (H c) (P a) (P b) (P c) (P r)=H a*c3 (P b) (P c) (P p) (P q) (P r)+H b*c3 (P c) (P a) (P p) (P q) (P r)+H c*c3 (P a) (P b) (P p) (P q) (P r):=by unfold plt c3;grind
 have m1:=Int.mul_le_mul_of_nonneg_left Q1 g2;have m2:=Int.mul_le_mul_of_nonneg_left Q2 g3;have m3:=Int.mul_le_mul_of_nonneg_left Q3 g1;generalize hF:plt (H a) (H b) (H c) (P a) (P b) (P c) (P p)+plt (H a) (H b) (H c) (P a) (P b) (P c) (P q)+plt (H a) (H b) (H c) (P a) (P b) (P c) (P r)=F at *;have hge:(H p+H q+H r)*crs (P a) (P b) (P c)<=F:=by
  have:crs (P p) (P q) (P r)*((H p+H q+H r)*crs (P a) (P b) (P c))<=crs (P p) (P q) (P r)*F:=by
   have e3:crs (P p) (P q) (P r)*F=c3 (P b) (P c) (P p) (P q) (P r)*(H a*crs (P p) (P q) (P r))+c3 (P c) (P a) (P p) (P q) (P r)*(H b*crs (P p) (P q) (P r))+c3 (P a) (P b) (P p) (P q) (P r)*(H c*crs (P p) (P q) (P r)):=by rw[e2];grind
   have e4:crs (P p) (P q) (P r)*((H p+H q+H r)*crs (P a) (P b) (P c))=crs (P a) (P b) (P c)*((H p+H q+H r)*crs (P p) (P q) (P r)):=by grind
   rw[e3,e4];omega
  exact Int.le_of_mul_le_mul_left this hs
 have hsum:(H p+H q+H r)*crs (P a) (P b) (P c)=H p*crs (P a) (P b) (P c)+H q*crs (P a) (P b) (P c)+H r*crs (P a) (P b) (P c):=by grind
 have in1:p=a\/p=b\/p=c:=by
  by_cases k1:p=a
  .exact .inl k1
  .by_cases k2:p=b
   .exact .inr (.inl k2)
   .by_cases k3:p=c
    .exact .inr (.inr k3)
    .have:=P1.2 k1 k2 k3;omega
 have in2:q=a\/q=b\/q=c:=by
  by_cases k1:q=a
  .exact .inl k1
  .by_cases k2:q=b
   .exact .inr (.inl k2)
   .by_cases k3:q=c
    .exact .inr (.inr k3)
    .have:=P2.2 k1 k2 k3;omega
 have in3:r=a\/r=b\/r=c:=by
  by_cases k1:r=a
  .exact .inl k1
  .by_cases k2:r=b
   .exact .inr (.inl k2)
   .by_cases k3:r=c
    .exact .inr (.inr k3)
    .have:=P3.2 k1 k2 k3;omega
 obtain⟨d1,d2,d3⟩:=Ya (P:=P) (a:=p) (b:=q) (c:=r) oo;have o1:crs (P b) (P a) (P c) = -crs (P a) (P b) (P c):=Bb _ _ _;have o2:crs (P a) (P c) (P b) = -crs (P a) (P b) (P c):=by unfold crs;grind
 have o3:crs (P c) (P b) (P a) = -crs (P a) (P b) (P c):=by rw[Bb,Au]
 rcases in1 with rfl|rfl|rfl <;> rcases in2 with rfl|rfl|rfl <;> rcases in3 with rfl|rfl|rfl
 all_goals first
  |exact absurd rfl d1
  |exact absurd rfl d2
  |exact absurd rfl d3
  |exact ht
  |exact hX.rot _ _ _ ht
  |exact hX.rot _ _ _ (hX.rot _ _ _ ht)
  |omega
end
section
theorem Ty(s a b c d:Ad):crs s a b*crs s c d-crs s a c*crs s b d+crs s a d*crs s b c=0:=by unfold crs;grind
theorem Cs{x y:Int}(h:0<x*y)(hx:0<x):0<y:=by
 rcases Int.lt_or_le 0 y with g|g
 .exact g
 .have:=Int.mul_nonpos_of_nonneg_of_nonpos (Int.le_of_lt hx) g;omega
theorem Oj{x y:Int}(h:0<=x*y)(hx:0<x):0<=y:=by
 rcases Int.lt_or_le y 0 with g|g
 .have:=Int.mul_neg_of_pos_of_neg hx g;omega
 .exact g
theorem Bl(s a b:Ad):crs s b a = -crs s a b:=by unfold crs;grind
theorem Zl{s a b l i:Ad}(h1:0<crs s a l)(h2:0<crs s l b)(h3:0<crs s a b)(h4:0<crs s a i)(h5:0<crs s i l):0<crs s i b:=by
 have h:=Ty s a l i b;rw[Bl s i l] at h;have e1:0<crs s a i*crs s l b:=Int.mul_pos h4 h2;have e2:0<crs s a b*crs s i l:=Int.mul_pos h3 h5;have e3:crs s a b * -crs s i l = -(crs s a b*crs s i l):=Int.mul_neg _ _;exact Cs (x:=crs s a l) oo h1
theorem Ajd{s a b l j:Ad}(h1:0<crs s a l)(h2:0<crs s l b)(h3:0<crs s a b)(h4:0<crs s j b)(h5:0<crs s l j):0<crs s a j:=by
 have h:=Ty s a j l b;have e1:0<crs s a l*crs s j b:=Int.mul_pos h1 h4;have e2:0<crs s a b*crs s l j:=Int.mul_pos h3 h5;have e3:crs s a b*crs s j l = -(crs s a b*crs s l j):=by rw[Bl s l j,Int.mul_neg]
 exact Cs (x:=crs s l b) (by rw[Int.mul_comm];omega) h2
theorem Af0{s j m l w:Ad}(h0:crs s j m=0)(h1:0<crs s j l)(h2:0<crs s m l)(h3:0<crs s m w):0<crs s j w:=by
 have h:=Ty s j l m w;rw[h0,Bl s m l] at h;have e1:0<crs s j l*crs s m w:=Int.mul_pos h1 h3;have e2:crs s j w * -crs s m l = -(crs s m l*crs s j w):=by rw[Int.mul_neg,Int.mul_comm]
 exact Cs (x:=crs s m l) oo h2
theorem Arp{s j m l w:Ad}(h0:crs s j m=0)(h1:0<crs s l j)(h2:0<crs s l m)(h3:0<crs s w m):0<crs s w j:=by
 have h:=Ty s l j w m;have e0:crs s j m=0:=h0;have e1:0<crs s l j*crs s w m:=Int.mul_pos h1 h3;have e2:crs s l m*crs s j w = -(crs s l m*crs s w j):=by rw[Bl s w j,Int.mul_neg]
 rw[e0,Int.mul_zero] at h;exact Cs (x:=crs s l m) oo h2
theorem At3{s a i b j:Ad}(h0:crs s a i=0)(h1:0<crs s a b)(h2:0<crs s i b)(h3:0<crs s i j)(h4:0<crs s a j):
  (0<=crs a b i/\0<=crs b s i)\/(0<=crs i j a/\0<=crs j s a):=by
 have hp:=Ty s a b i j;rw[h0,Bl s i b] at hp;have s1:=Qe s a b i;have s2:=Qe s i j a;have r1:crs b s i=crs s i b:=by unfold crs;grind
 have r2:crs j s a=crs s a j:=by unfold crs;grind
 have r3:crs s i a=0:=by rw[Bl,h0];rfl
 by_cases c:crs s i b<=crs s a b
 .left;omega
 ·right;have:crs s a j<=crs s i j:=by
   rcases Int.lt_or_le (crs s i j) (crs s a j) with g|g
   .have e1:=Int.mul_lt_mul_of_pos_left g h1;have e2:=Int.mul_lt_mul_of_pos_right (oo:crs s a b<crs s i b) h4;have e3:crs s a j * -crs s i b = -(crs s i b*crs s a j):=by rw[Int.mul_neg,Int.mul_comm]
    have e4:crs s a b*crs s a j=crs s a b*crs s a j:=rfl;omega
   .exact g
  omega
theorem Ax8{s a i b j:Ad}(h0:crs s a i=0)(h1:0<crs s b a)(h2:0<crs s b i)(h3:0<crs s j i)(h4:0<crs s j a):
  (0<=crs b a i/\0<=crs s b i)\/(0<=crs j i a/\0<=crs s j a):=by
 have hp:=Ty s b a j i;rw[h0,Bl s j a,Int.mul_zero] at hp;have s1:=Qe s b a i;have s2:=Qe s j i a;have r1:crs a s i=0:=by rw[Bb,h0];rfl
 have r2:crs i s a=0:=by rw[Bb,Bl,h0];rfl
 by_cases c:crs s b i<=crs s b a
 .left;omega
 ·right;have:crs s j a<=crs s j i:=by
   rcases Int.lt_or_le (crs s j i) (crs s j a) with g|g
   .have e1:=Int.mul_lt_mul_of_pos_left g h1;have e2:=Int.mul_lt_mul_of_pos_right (oo:crs s b a<crs s b i) h4;have e3:crs s b i * -crs s j a = -(crs s b i*crs s j a):=Int.mul_neg _ _;omega
   .exact g
  omega
abbrev Ap:=Int->Int->Option Int
structure Tri(P:Int->Ad)(V:Int->Prop)(ap:Ap):Prop where
 rot:∀i j k,ap i j=some k->ap j k=some i
 ccw:∀i j k,ap i j=some k->V i/\V j/\V k/\0<crs (P i) (P j) (P k)
 emp:∀i j k,ap i j=some k->∀d,V d->d≠i->d≠j->d≠k->crs (P i) (P j) (P d)<0\/crs (P j) (P k) (P d)<0\/crs (P k) (P i) (P d)<0
 cone:∀s a b m,ap s a=some b->(ap s m≠none\/ap m s≠none)->¬(0<crs (P s) (P a) (P m)/\0<crs (P s) (P m) (P b))
variable {P:Int->Ad}{H:Int->Int}{V:Int->Prop}{ap:Ap}
theorem Tri.rot2(h:Tri P V ap){i j k}(hk:ap i j=some k):ap k i=some j:=h.rot _ _ _ (h.rot _ _ _ hk)
theorem Tri.ne(h:Tri P V ap){i j k}(hk:ap i j=some k):i≠j/\j≠k/\k≠i:=Ya (P:=P) (by have:=(h.ccw _ _ _ hk).2.2.2;omega)
theorem Tri.nbr(h:Tri P V ap){s m}(hm:ap s m≠none\/ap m s≠none):(∃w,ap s m=some w)\/∃w,ap s w=some m:=by
 rcases hm with hm|hm
 .obtain⟨w,hw⟩:=Option.ne_none_iff_exists'.1 hm;exact .inl ⟨w,hw⟩
 .obtain⟨w,hw⟩:=Option.ne_none_iff_exists'.1 hm;exact .inr ⟨w,h.rot _ _ _ hw⟩
theorem Tri.cones(h:Tri P V ap){s a b i j:Int}{l:Ad}(h1:ap s a=some b)(h2:ap s i=some j)(g1:0<crs (P s) (P a) l)(g2:0<crs (P s) l (P b))(g3:0<crs (P s) (P i) l)(g4:0<crs (P s) l (P j)):a=i:=by
 obtain⟨vs,va,vb,cab⟩:=h.ccw _ _ _ h1;obtain⟨_,vi,vj,cij⟩:=h.ccw _ _ _ h2;rcases Int.lt_trichotomy (crs (P s) (P a) (P i)) 0 with c|c|c
 .have c':0<crs (P s) (P i) (P a):=by rw[Bl];omega
  exact absurd ⟨c',Zl g3 g4 cij c' g1⟩ (h.cone s i j a h2 (.inl (by rw[h1];simp)))
 .by_cases e:a=i
  .exact e
  .exfalso;have n1:=h.ne h1;have n2:=h.ne h2;have k1:0<crs (P s) (P i) (P b):=Af0 (l:=l) (by rw[Bl,c];rfl) g3 g1 cab;have k2:0<crs (P s) (P a) (P j):=Af0 (l:=l) c g1 g3 cij;rcases At3 c cab k1 cij k2 with⟨q1,q2⟩|⟨q1,q2⟩
   .by_cases e2:i=b
    .subst e2;omega
    .rcases h.emp s a b h1 i vi oo oo e2 with g|g|g <;> omega
   .by_cases e2:a=j
    .subst e2;rw[Bl] at cij;omega
    .have:crs (P s) (P i) (P a)=0:=by rw[Bl,c];rfl
     rcases h.emp s i j h2 a va oo oo e2 with g|g|g <;> omega
 .exact absurd ⟨c,Zl g1 g2 cab c g3⟩ (h.cone s a b i h1 (.inl (by rw[h2];simp)))
end
end
end Go.Proofs.YtlejkgngmjchdaaGreat
