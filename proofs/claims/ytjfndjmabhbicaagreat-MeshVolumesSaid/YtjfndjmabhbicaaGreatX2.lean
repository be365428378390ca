/- Walks of the program, with their plain functions: volumes. -/
import Derived.Test.YtjfndjmabhbicaaGreatX1
namespace Go.Proofs.YtjfndjmabhbicaaGreat
open Go Go.RowKit
theorem Atx:Kh Tryz.prog 157 45 3:=.mk Tryz.underlying157 (show Tryz.prog.info? 45=some Tryz.t45 from by kernel_rfl) (by kernel_rfl)
instance:Mj Tryz.prog 157 45 3:=⟨Atx⟩
theorem Pi (x0:Bool) (x1:Option Addr) (x2:Nat) (x3:Nat) (x4:Option Addr) (x5:Nat) (x6:Nat) (x7:Bool) (x8:Option Addr) (x9:Nat) (x10:Nat) (x11:Option Addr) (x12:Nat) (x13:Nat):De Tryz.prog 157 2 [(0,.agg #[.bool x0,.slice x1 x2 x3,.slice x4 x5 x6]),(1,.agg #[.bool x7,.slice x8 x9 x10,.slice x11 x12 x13])] 45 [.bool x0,.slice x1 x2 x3,.slice x4 x5 x6,.bool x7,.slice x8 x9 x10,.slice x11 x12 x13]:=fun w=>by kernel_rfl
instance (x0:Bool) (x1:Option Addr) (x2:Nat) (x3:Nat) (x4:Option Addr) (x5:Nat) (x6:Nat) (x7:Bool) (x8:Option Addr) (x9:Nat) (x10:Nat) (x11:Option Addr) (x12:Nat) (x13:Nat):Of Tryz.prog 157 2 [(0,.agg #[.bool x0,.slice x1 x2 x3,.slice x4 x5 x6]),(1,.agg #[.bool x7,.slice x8 x9 x10,.slice x11 x12 x13])] 45 [.bool x0,.slice x1 x2 x3,.slice x4 x5 x6,.bool x7,.slice x8 x9 x10,.slice x11 x12 x13]:=⟨Pi _ _ _ _ _ _ _ _ _ _ _ _ _ _⟩
theorem Azu:Md Tryz.prog 120 [.int .i64 (0),.int .i64 (0),.int .i64 (0),.int .i64 (0),.int .i64 (0),.int .i64 (0),.int .i64 (0),.int .i64 (0),.int .i64 (0),.int .i64 (0),.int .i64 (0),.int .i64 (0)]:=⟨_,Tryz.zeroValue120,rfl⟩
instance:Tg Tryz.prog 120 [.int .i64 (0),.int .i64 (0),.int .i64 (0),.int .i64 (0),.int .i64 (0),.int .i64 (0),.int .i64 (0),.int .i64 (0),.int .i64 (0),.int .i64 (0),.int .i64 (0),.int .i64 (0)]:=⟨Azu⟩
theorem Kk (x0:Int) (x1:Int) (x2:Int) (x3:Int) (x4:Int) (x5:Int) (x6:Int) (x7:Int) (x8:Int) (x9:Int) (x10:Int) (x11:Int):Gs Tryz.prog 120 [(0,.agg #[.int .i64 x0,.int .i64 x1,.int .i64 x2,.int .i64 x3]),(1,.agg #[.int .i64 x4,.int .i64 x5,.int .i64 x6,.int .i64 x7]),(2,.agg #[.int .i64 x8,.int .i64 x9,.int .i64 x10,.int .i64 x11])] [.int .i64 x0,.int .i64 x1,.int .i64 x2,.int .i64 x3,.int .i64 x4,.int .i64 x5,.int .i64 x6,.int .i64 x7,.int .i64 x8,.int .i64 x9,.int .i64 x10,.int .i64 x11]:=fun w=>by kernel_rfl
instance (x0:Int) (x1:Int) (x2:Int) (x3:Int) (x4:Int) (x5:Int) (x6:Int) (x7:Int) (x8:Int) (x9:Int) (x10:Int) (x11:Int):Lk Tryz.prog 120 [(0,.agg #[.int .i64 x0,.int .i64 x1,.int .i64 x2,.int .i64 x3]),(1,.agg #[.int .i64 x4,.int .i64 x5,.int .i64 x6,.int .i64 x7]),(2,.agg #[.int .i64 x8,.int .i64 x9,.int .i64 x10,.int .i64 x11])] [.int .i64 x0,.int .i64 x1,.int .i64 x2,.int .i64 x3,.int .i64 x4,.int .i64 x5,.int .i64 x6,.int .i64 x7,.int .i64 x8,.int .i64 x9,.int .i64 x10,.int .i64 x11]:=⟨Kk _ _ _ _ _ _ _ _ _ _ _ _⟩
theorem Azv:Nf Tryz.prog 120 12:=.arr Tryz.underlying120 (show Tryz.prog.info? 120=some Tryz.t120 from by kernel_rfl) (by kernel_rfl)
instance:AggI Tryz.prog 120 12:=⟨Azv⟩
theorem Azw:Acs Tryz.prog 120 3 4:=.mk Tryz.underlying120 (show Tryz.prog.info? 70=some Tryz.t70 from by kernel_rfl) (by kernel_rfl)
instance:ArrI Tryz.prog 120 3 4:=⟨Azw⟩
theorem Azx:Md Tryz.prog 117 []:=⟨_,Tryz.zeroValue117,rfl⟩
instance:Tg Tryz.prog 117 []:=⟨Azx⟩
theorem Azy:Nf Tryz.prog 117 0:=.mk Tryz.underlying117 rfl (show Tryz.prog.info? 117=some Tryz.t117 from by kernel_rfl) (by kernel_rfl)
instance:AggI Tryz.prog 117 0:=⟨Azy⟩
instance:UndI Tryz.prog 157 (.slice 45):=⟨Tryz.underlying157⟩
def Yw (K:List Ent) (x:As) (ys:List Value):Prop:=∃ (A0:Option Addr) (c0:Nat) (A1:Option Addr) (c1:Nat),ys=[.bool (x.Neg),.slice (A0) ((x.Num).length) (c0),.slice (A1) ((x.Den).length) (c1)]/\Has K A0 (x.Num).length c0 1 Ao (x.Num)/\Has K A1 (x.Den).length c1 1 Ao (x.Den)
noncomputable def Es (p0:List As):Int->Option (Sum Int (Sum Unit Bool)):=fun s0=>
 if s0 < ((((p0).length:Nat):Int)) then (bnd (idx p0 s0) fun x0=>
 bnd (Mn x0) fun r0=>
 if r0=true then (some (.inr (.inr (true))))
 else (some (.inl (w64 (s0+1)))))
 else (some (.inr (.inl ())))
noncomputable def Ke (p0:List As):Option Bool :=
 jn (fun (s2:Unit)=>
 some false)
 (fun j2=>bnd (lfix (Es p0) 0) fun t0=>
 (match t0 with
 | (.inl z0)=>j2 z0
 | (.inr (z0))=>some z0
 ))
noncomputable def Ps (p0:Int):Option As :=
 bnd (Ji p0) fun r2=>
 bnd (Hv r2) fun r0=>
 some r0.1
noncomputable def Vh (p0:As) (p1:As):Option (As × Int) :=
 bnd (Ke ([p0,p1])) fun r6=>
 if r6=true then (some ((⟨false,([]:List Int),([]:List Int)⟩:As),1))
 else (bnd (Qp p0) fun r0=>
 bnd (Qp p1) fun r1=>
 bnd (Fv r0 r1) fun r2=>
 bnd (Hv r2) fun r3=>
 some (r3.1,r3.2))
noncomputable def Vi (p0:As) (p1:As):Option (As × Int) :=
 bnd (Ke ([p0,p1])) fun r6=>
 if r6=true then (some ((⟨false,([]:List Int),([]:List Int)⟩:As),1))
 else (bnd (Qp p0) fun r0=>
 bnd (Qp p1) fun r1=>
 bnd (Dv r0 r1) fun r2=>
 bnd (Hv r2) fun r3=>
 some (r3.1,r3.2))
structure Ua where
 a0:Ab
 a1:Ab
 a2:Ab
noncomputable def Pf (p0:Bj) (p1:Ae):Option Ua :=
 bnd (idx p0.V p1.a0) fun x4=>
 bnd (idx p0.V p1.a1) fun x0=>
 bnd (idx p0.V p1.a2) fun x1=>
 some (⟨(⟨x4.X,x4.Y,(⟨x4.Z.Lo,x4.Z.Hi⟩:Al)⟩:Ab),(⟨x0.X,x0.Y,(⟨x0.Z.Lo,x0.Z.Hi⟩:Al)⟩:Ab),(⟨x1.X,x1.Y,(⟨x1.Z.Lo,x1.Z.Hi⟩:Al)⟩:Ab)⟩:Ua)
structure Dj where
noncomputable def Nt (p0:Dj) (p1:As) (p2:As):Option As :=
 bnd (Vh p1 p2) fun r5=>
 some r5.1
noncomputable def Nu (p0:Dj) (p1:As) (p2:As):Option As :=
 bnd (Vi p1 p2) fun r5=>
 some r5.1
noncomputable def Ll (p0:Dj) (p1:Int):Option As :=
 bnd (Ps p1) fun r3=>
 some r3
noncomputable def Ss (p0:Ac) (p1:Ac) (p2:Ac):Option Int :=
 some (w64 ((w64 ((w64 (p1.X-p0.X))*(w64 (p2.Y-p0.Y))))-(w64 ((w64 (p1.Y-p0.Y))*(w64 (p2.X-p0.X))))))
noncomputable def Qw (p0:Bj):(Int × Int)->Option (Sum (Int × Int) Int):=fun s0=>
 if s0.2 < ((((p0.T).length:Nat):Int)) then (bnd (idx p0.T s0.2) fun x0=>
 bnd (Pf p0 x0) fun r0=>
 bnd (Cu (⟨r0.a0.X,r0.a0.Y,(⟨r0.a0.Z.Lo,r0.a0.Z.Hi⟩:Al)⟩:Ab)) fun r1=>
 bnd (Cu (⟨r0.a1.X,r0.a1.Y,(⟨r0.a1.Z.Lo,r0.a1.Z.Hi⟩:Al)⟩:Ab)) fun r2=>
 bnd (Cu (⟨r0.a2.X,r0.a2.Y,(⟨r0.a2.Z.Lo,r0.a2.Z.Hi⟩:Al)⟩:Ab)) fun r3=>
 bnd (Ss r1 r2 r3) fun r4=>
 some (.inl (w64 (s0.1+r4),w64 (s0.2+1))))
 else (some (.inr s0.1))
noncomputable def Vj (p0:Bj):Option (Int × Int) :=
 bnd (Mr p0) fun r2=>
 if r2=0 then (jn (fun (s7:Int)=>
 some (s7,0))
 (fun j7=>bnd (lfix (Qw p0) (0,0)) fun t0=>
 j7 t0))
 else (some (0,r2))
noncomputable def Ox (p0:Bj) (p1:Int):(Bool × (List Int) × (List Int) × Bool × (List Int) × (List Int) × Int)->Option (Sum (Bool × (List Int) × (List Int) × Bool × (List Int) × (List Int) × Int) (Bool × (List Int) × (List Int) × Bool × (List Int) × (List Int))):=fun s0=>
 if s0.2.2.2.2.2.2 < ((((p0.T).length:Nat):Int)) then (bnd (idx p0.T s0.2.2.2.2.2.2) fun x0=>
 bnd (Pf p0 x0) fun r0=>
 bnd (Cu (⟨r0.a0.X,r0.a0.Y,(⟨r0.a0.Z.Lo,r0.a0.Z.Hi⟩:Al)⟩:Ab)) fun r1=>
 bnd (Cu (⟨r0.a1.X,r0.a1.Y,(⟨r0.a1.Z.Lo,r0.a1.Z.Hi⟩:Al)⟩:Ab)) fun r2=>
 bnd (Cu (⟨r0.a2.X,r0.a2.Y,(⟨r0.a2.Z.Lo,r0.a2.Z.Hi⟩:Al)⟩:Ab)) fun r3=>
 bnd (Ss r1 r2 r3) fun r4=>
 bnd (Ll (⟨⟩:Dj) r4) fun r5=>
 bnd (Ll (⟨⟩:Dj) (w64 ((w64 ((w64 (r0.a0.Z.Lo+r0.a1.Z.Lo))+r0.a2.Z.Lo))-(w64 (3*p1))))) fun r6=>
 bnd (Nu (⟨⟩:Dj) r5 r6) fun r7=>
 bnd (Nt (⟨⟩:Dj) (⟨s0.1,s0.2.1,s0.2.2.1⟩:As) r7) fun r8=>
 bnd (Ll (⟨⟩:Dj) (w64 ((w64 ((w64 (r0.a0.Z.Hi+r0.a1.Z.Hi))+r0.a2.Z.Hi))-(w64 (3*p1))))) fun r9=>
 bnd (Nu (⟨⟩:Dj) r5 r9) fun r10=>
 bnd (Nt (⟨⟩:Dj) (⟨s0.2.2.2.1,s0.2.2.2.2.1,s0.2.2.2.2.2.1⟩:As) r10) fun r11=>
 some (.inl (r8.Neg,r8.Num,r8.Den,r11.Neg,r11.Num,r11.Den,w64 (s0.2.2.2.2.2.2+1))))
 else (some (.inr (s0.1,s0.2.1,s0.2.2.1,s0.2.2.2.1,s0.2.2.2.2.1,s0.2.2.2.2.2.1)))
noncomputable def Mo (p0:Bj) (p1:Int):Option (As × As × Int) :=
 bnd (Mr p0) fun r4=>
 if r4=0 then (jn (fun (s7:Bool)=>
 if s7=true then (some ((⟨false,([]:List Int),([]:List Int)⟩:As),(⟨false,([]:List Int),([]:List Int)⟩:As),2))
 else (jn (fun (s0:Bool × (List Int) × (List Int) × Bool × (List Int) × (List Int))=>
 some ((⟨s0.1,s0.2.1,s0.2.2.1⟩:As),(⟨s0.2.2.2.1,s0.2.2.2.2.1,s0.2.2.2.2.2⟩:As),0))
 (fun j0=>bnd (lfix (Ox p0 p1) (false,([]:List Int),([]:List Int),false,([]:List Int),([]:List Int),0)) fun t0=>
 j0 t0)))
 (fun j7=>if p1 < (-268435456) then (j7 true)
 else (j7 (decide (268435456 < p1)))))
 else (some ((⟨false,([]:List Int),([]:List Int)⟩:As),(⟨false,([]:List Int),([]:List Int)⟩:As),r4))
set_option maxRecDepth 100000 in
theorem Qx (p0:List As) {K:List Ent} {A0_0:Option Addr} {c0_0:Nat} (ha0:HasN K A0_0 p0.length c0_0 3 Yw (p0)) {r:Bool} (hx:Ke p0=some r) (w:World) (hK:∀ e∈K,Ent.ok w e):CtL Tryz.prog 141 [.slice (A0_0) (p0.length) (c0_0)] w fun v Ln=>v = .bool (r)/\Ln=[]/\True:=by
 have ha0':=HasN.up0 ha0;refine CtL.mk 14 Tryz.func141 rfl Tryz.ntmps141 (by kernel_rfl) rfl ?_;show T 14 _ [(0,.slice (A0_0) (p0.length) (c0_0))] _;unfold Ke at hx;refine Y5 ?_;refine Tj (γ:=Unit) hx (fun s2 y2=>[]) (fun s2 y2=>[]++[.old w]) (fun s2 y2=>True) (fun s2 y2 hx0 hG0=>?_) (fun j2 hx=>?_)
 ·refine Y6 ?_;obtain rfl:=Option.some.inj hx0;exact Hc (rs:=[.tmp 2]) Tryz.results141 (.tmp rfl (.nil)) (Ln:=[]) ⟨rfl,rfl,trivial⟩ (Gn) (by exact .refl)
 ·refine Y3 ?_;refine Ba (Jq rfl 45 Tryz.underlying157) rfl ?_;refine Y4 ?_;obtain ⟨t0,hl0,ho0⟩:=Ar hx;refine Lp (σ:=Int) (γ:=Unit) hl0 (fun s0 y0=>[(5,.slice (A0_0) (p0.length) (c0_0)),(6,.int .i64 (((p0.length:Nat):Int))),(7,.int .i64 (s0))]) (fun s0 y0=>[]++[.old w]) (fun s0 y0=>True) () trivial (by exact .refl) ?_;intro s0 y0 hG1 x0 hx1 ht0;unfold Es at hx1;refine Y6 ?_;refine Ti hx1 (s:=8) rfl (fun h0 hx2=>?_) (fun h0 hx3=>?_)
  ·refine Y7 ?_;obtain ⟨x1,h1,hx4⟩:=Ar hx2;obtain ⟨b0,o0,j0,ys51,hA0,hj0,hl1,hp0,hr52⟩:=HasN.at_idx ha0' h1;obtain ⟨A0,c0,A1,c1,rfl,hs0,hs1⟩:=hr52;have hp1:=Pt.low (E:=[]) hp0 hK;refine Ba (Fw rfl rfl hA0 (j:=j0) hj0 hl1 Atx) rfl ?_;refine Ba (Sv rfl hp1 (sb 0) rfl Lz) rfl ?_;refine T_x (Kz Aee rfl (fun g0=>?_));refine T_h (Fm rfl rfl rfl (.here) (.put (.put (.put (.done)))) rfl (List.cons_ne_nil _ _) Lz.2 ?_);refine Y4 ?_;refine Ba (Ew rfl (i:=0) rfl rfl Lz) rfl ?_;obtain ⟨r0,h2,hx5⟩:=Ar hx4;refine Tc (fun w1 hw1=>Aef x1 (Has.len' hs0) (Has.len' hs1) h2 w1 (Qj (K:=K) (K2:=[]) hK (by exact (sb 1)) (by exact (SubE.nil)) hw1)) ?_;refine Y2 ?_;refine Hr (s:=12) rfl (fun h3=>?_) (fun h3=>?_)
   ·have hx6:=Jx h3 hx5;refine Y9 ?_;obtain rfl:=Lc ht0 hx6;refine Y3 ?_;obtain rfl:=Option.some.inj ho0;exact Hc (rs:=[.tmp 2]) Tryz.results141 (.tmp rfl (.nil)) (Ln:=[]) ⟨rfl,rfl,trivial⟩ (Gn) (by exact .drop 0 rfl (.refl))
   ·have hx7:=Mg h3 hx5;refine Y8 ?_;exact Rp (w64 (s0+1)) () hx7 trivial (by exact .drop 0 rfl (.refl))
  ·refine Y3 ?_;obtain rfl:=Lc ht0 hx3;refine Y2 ?_;exact Mt () () ho0 trivial (by exact .refl)
set_option maxHeartbeats 1000000 in
set_option maxRecDepth 100000 in
instance exact_anyLarge_c (p0:List As):Con (Ke p0) Tryz.prog 141 (fun K vs=>∃ (A0_0:Option Addr) (c0_0:Nat),vs=[.slice (A0_0) ((p0).length) (c0_0)]/\HasN K A0_0 (p0).length c0_0 3 Yw (p0)/\True) (fun _ r=>fun v Ln=>v = .bool (r)/\Ln=[]/\True):=⟨by
 rintro K _ r ⟨A0_0,c0_0,rfl,ha0,-⟩ hx w hK;exact Qx p0 ha0 hx w hK⟩
set_option maxRecDepth 100000 in
instance exact_FromInt_c (p0:Int):Con (Ps p0) Tryz.prog 81 (fun _ vs=>vs=[.int .i64 (p0)]) (fun _ r=>fun v Ln=>∃ (A0:Option Addr) (c0:Nat) (A2:Option Addr) (c2:Nat),v = .agg #[.bool (r.Neg),.slice (A0) ((r.Num).length) (c0),.slice (A2) ((r.Den).length) (c2)]/\Ln=[.r A0 (r.Num).length c0 245 1 ((r.Num).flatMap Ao),.r A2 (r.Den).length c2 245 1 ((r.Den).flatMap Ao)]/\True):=⟨by
 rintro _ _ r rfl hx w hK;unfold Ps at hx;refine CtS Tryz.ntmps81 Tryz.results81 ?_;exact au⟩
set_option maxRecDepth 100000 in
theorem Aiv (p0:As) (p1:As) {K:List Ent} {A0_0:Option Addr} {c0_0:Nat} {A0_1:Option Addr} {c0_1:Nat} {A0_2:Option Addr} {c0_2:Nat} {A0_3:Option Addr} {c0_3:Nat} (ha0:Has K A0_0 p0.Num.length c0_0 1 Ao (p0.Num)) (ha1:Has K A0_1 p0.Den.length c0_1 1 Ao (p0.Den)) (ha2:Has K A0_2 p1.Num.length c0_2 1 Ao (p1.Num)) (ha3:Has K A0_3 p1.Den.length c0_3 1 Ao (p1.Den)) {r:As × Int} (hx:Vh p0 p1=some r) (w:World) (hK:∀ e∈K,Ent.ok w e):CtL Tryz.prog 124 [.agg #[.bool (p0.Neg),.slice (A0_0) (p0.Num.length) (c0_0),.slice (A0_1) (p0.Den.length) (c0_1)],.agg #[.bool (p1.Neg),.slice (A0_2) (p1.Num.length) (c0_2),.slice (A0_3) (p1.Den.length) (c0_3)]] w fun v Ln=>∃ (A0:Option Addr) (c0:Nat) (A2:Option Addr) (c2:Nat),v = .tuple #[.agg #[.bool (r.1.Neg),.slice (A0) (r.1.Num.length) (c0),.slice (A2) (r.1.Den.length) (c2)],.int .i64 (r.2)]/\Ln=[.r A0 r.1.Num.length c0 245 1 (r.1.Num.flatMap Ao),.r A2 r.1.Den.length c2 245 1 (r.1.Den.flatMap Ao)]/\True:=by
 have ha0':=Has.up0 ha0;have ha1':=Has.up0 ha1;have ha2':=Has.up0 ha2;have ha3':=Has.up0 ha3;refine CtL.mk 19 Tryz.func124 rfl Tryz.ntmps124 (by kernel_rfl) rfl ?_;show T 19 _ [(0,.agg #[.bool (p0.Neg),.slice (A0_0) (p0.Num.length) (c0_0),.slice (A0_1) (p0.Den.length) (c0_1)]),(1,.agg #[.bool (p1.Neg),.slice (A0_2) (p1.Num.length) (c0_2),.slice (A0_3) (p1.Den.length) (c0_3)])] _;unfold Vh at hx;refine Y2 ?_;refine T_x (Ui rfl rfl rfl (fun g1=>?_));refine T_x (Ui rfl rfl rfl (fun g2=>?_));refine T_x (Kz Aee rfl (fun g3=>?_));refine Y6 ?_;refine Ba (Ew rfl (i:=2) rfl rfl Lz) rfl ?_;refine Ba (Ew rfl (i:=1) rfl rfl Lz) rfl ?_;refine T_x (Di rfl (Pi _ _ _ _ _ _ _ _ _ _ _ _ _ _) rfl (fun g4=>?_))
 have hs5:HasN (K++[.m g4 45 [.bool (p0.Neg),.slice (A0_0) (p0.Num.length) (c0_0),.slice (A0_1) (p0.Den.length) (c0_1),.bool (p1.Neg),.slice (A0_2) (p1.Num.length) (c0_2),.slice (A0_3) (p1.Den.length) (c0_3)]]) (some ⟨g4,0,none⟩) 2 2 3 Yw [p0,p1]:=⟨[[.bool (p0.Neg),.slice (A0_0) (p0.Num.length) (c0_0),.slice (A0_1) (p0.Den.length) (c0_1)],[.bool (p1.Neg),.slice (A0_2) (p1.Num.length) (c0_2),.slice (A0_3) (p1.Den.length) (c0_3)]],Has.up (L:=(K++[.m g4 45 [.bool (p0.Neg),.slice (A0_0) (p0.Num.length) (c0_0),.slice (A0_1) (p0.Den.length) (c0_1),.bool (p1.Neg),.slice (A0_2) (p1.Num.length) (c0_2),.slice (A0_3) (p1.Den.length) (c0_3)]])) (Has.ofM (fun x hx=>by simp at hx;rcases hx with rfl | rfl <;> rfl) rfl (by decide) rfl:Has [.m g4 45 [.bool (p0.Neg),.slice (A0_0) (p0.Num.length) (c0_0),.slice (A0_1) (p0.Den.length) (c0_1),.bool (p1.Neg),.slice (A0_2) (p1.Num.length) (c0_2),.slice (A0_3) (p1.Den.length) (c0_3)]] (some ⟨g4,0,none⟩) 2 2 3 raw [[.bool (p0.Neg),.slice (A0_0) (p0.Num.length) (c0_0),.slice (A0_1) (p0.Den.length) (c0_1)],[.bool (p1.Neg),.slice (A0_2) (p1.Num.length) (c0_2),.slice (A0_3) (p1.Den.length) (c0_3)]]) (SubE.appR2 (sb 0)),rfl,fun i h h'=>match i,h,h' with | 0,_,_=>⟨A0_0,c0_0,A0_1,c0_1,rfl,Has.len' (Has.up (L:=(K++[.m g4 45 [.bool (p0.Neg),.slice (A0_0) (p0.Num.length) (c0_0),.slice (A0_1) (p0.Den.length) (c0_1),.bool (p1.Neg),.slice (A0_2) (p1.Num.length) (c0_2),.slice (A0_3) (p1.Den.length) (c0_3)]])) ha0' (SubE.app2 SubE.nil)),Has.len' (Has.up (L:=(K++[.m g4 45 [.bool (p0.Neg),.slice (A0_0) (p0.Num.length) (c0_0),.slice (A0_1) (p0.Den.length) (c0_1),.bool (p1.Neg),.slice (A0_2) (p1.Num.length) (c0_2),.slice (A0_3) (p1.Den.length) (c0_3)]])) ha1' (SubE.app2 SubE.nil))⟩ | 1,_,_=>⟨A0_2,c0_2,A0_3,c0_3,rfl,Has.len' (Has.up (L:=(K++[.m g4 45 [.bool (p0.Neg),.slice (A0_0) (p0.Num.length) (c0_0),.slice (A0_1) (p0.Den.length) (c0_1),.bool (p1.Neg),.slice (A0_2) (p1.Num.length) (c0_2),.slice (A0_3) (p1.Den.length) (c0_3)]])) ha2' (SubE.app2 SubE.nil)),Has.len' (Has.up (L:=(K++[.m g4 45 [.bool (p0.Neg),.slice (A0_0) (p0.Num.length) (c0_0),.slice (A0_1) (p0.Den.length) (c0_1),.bool (p1.Neg),.slice (A0_2) (p1.Num.length) (c0_2),.slice (A0_3) (p1.Den.length) (c0_3)]])) ha3' (SubE.app2 SubE.nil))⟩ | j+2,h,_=>absurd h (by simp)⟩
 obtain ⟨r6,h7,hx8⟩:=Ar hx;refine Tc (fun w1 hw1=>Qx ([p0,p1]) (HasN.len' hs5) h7 w1 (Qj (K:=K) (K2:=[.m g4 45 [.bool (p0.Neg),.slice (A0_0) (p0.Num.length) (c0_0),.slice (A0_1) (p0.Den.length) (c0_1),.bool (p1.Neg),.slice (A0_2) (p1.Num.length) (c0_2),.slice (A0_3) (p1.Den.length) (c0_3)]]) hK (by exact (sb 4)) (by exact (sb 0)) hw1)) ?_;refine Y2 ?_;refine Hr (s:=9) rfl (fun h9=>?_) (fun h9=>?_)
 ·have hx0:=Jx h9 hx8;refine Y3 ?_;refine Ba (Js rfl (Ahv)) rfl ?_;refine T_h (Fm rfl rfl rfl (.there (.here)) (.put (.put (.put (.done)))) rfl (List.cons_ne_nil _ _) Lz.2 ?_);refine Y5 ?_;refine Az 245 1 ?_;refine Az 245 1 ?_;obtain rfl:=Option.some.inj hx0;exact Hc (rs:=[.cell 4 45,.tmp 5]) Tryz.results124 (.cell rfl (i:=3) rfl rfl Lz (.tmp rfl (.nil))) (Ln:=[.r (none) (0) (0) 245 1 ((([]:List Int)).flatMap Ao),.r (none) (0) (0) 245 1 ((([]:List Int)).flatMap Ao)]) ⟨none,0,none,0,rfl,rfl,trivial⟩ (By rfl (By rfl (Gn))) (by exact .pick 1 rfl (.pick 0 rfl (.drop 0 rfl (.drop 0 rfl (.drop 0 rfl (.drop 0 rfl (.refl)))))))
 ·have hx1:=Mg h9 hx8;refine Y4 ?_;refine T_dr [1,2,1,2,2,2,0,0,3,2] (.q 0 (.q 2 (.e 1 (.e 3 (.e 4 (.e 5 (.q 6 (.q 7 (.e 8 (.e 9 (.done) (.stop)) (.stop)))) (.stop)) (.stop)) (.stop)) (.stop)))) mixed (by kernel_rfl) (by kernel_rfl) ?_;refine P_q rfl rfl (Ew rfl (i:=3) rfl rfl Lz) rfl ?_;refine P_q rfl rfl (Ew rfl (i:=2) rfl rfl Lz) rfl ?_;obtain ⟨r0,h0,hx2⟩:=Ar hx1;refine P_x rfl (Ei rfl (fun w1 hw1=>Tu p0 (Has.len' ha0') (Has.len' ha1') h0 w1 (Qj (K:=K) (K2:=[]) hK (by exact (sb 4)) (by exact (SubE.nil)) hw1)) rfl ?_) ?_;rotate_left;exact Ct;rintro _ _ hlo ⟨A1,c1,A3,c3,e0,e1,e2,e3,e4,e5,rfl,rfl,hs0,hs1,-⟩;have lo27:=hlo e0 (by simp);have lo28:=hlo e1 (by simp);have lo29:=hlo e2 (by simp);have lo30:=hlo e3 (by simp);have lo31:=hlo e4 (by simp);have lo32:=hlo e5 (by simp);refine Ab7 ?_;have hs2:Has (K++[e0,e1,e2,e3,e4,e5]) _ _ _ _ _ _:=Has.assoc hs0;have hs3:Has (K++[e0,e1,e2,e3,e4,e5]) _ _ _ _ _ _:=Has.assoc hs1;obtain ⟨r1,h1,hx3⟩:=Ar hx2;refine P_x rfl (Ei rfl (fun w1 hw1=>Tu p1 (Has.len' ha2') (Has.len' ha3') h1 w1 (Qj (K:=K) (K2:=[]) hK (by exact (sb 10)) (by exact (SubE.nil)) hw1)) rfl ?_) ?_;rotate_left;exact Ct;rintro _ _ hlo ⟨A4,c4,A5,c5,e6,e7,e8,e9,e46,e47,rfl,rfl,hs4,hs6,-⟩;have lo50:=hlo e6 (by simp);have lo51:=hlo e7 (by simp)
  have lo52:=hlo e8 (by simp);have lo53:=hlo e9 (by simp);have lo54:=hlo e46 (by simp);have lo55:=hlo e47 (by simp);refine Ab7 ?_;have hs7:Has (K++[e6,e7,e8,e9,e46,e47]) _ _ _ _ _ _:=Has.assoc hs4;have hs8:Has (K++[e6,e7,e8,e9,e46,e47]) _ _ _ _ _ _:=Has.assoc hs6;obtain ⟨r2,h2,hx4⟩:=Ar hx3;refine P_x rfl (Ei rfl (fun w1 hw1=>Abt r0 r1 (Has.len' (Has.up (L:=(K++[e0,e1,e2,e3,e4,e5,e6,e7,e8,e9,e46,e47])) hs2 (SubE.app2 (SubE.cons2 (i:=0) rfl (SubE.cons2 (i:=1) rfl (SubE.cons2 (i:=2) rfl (SubE.cons2 (i:=3) rfl (SubE.cons2 (i:=4) rfl (sb 5))))))))) (Has.len' (Has.up (L:=(K++[e0,e1,e2,e3,e4,e5,e6,e7,e8,e9,e46,e47])) hs3 (SubE.app2 (SubE.cons2 (i:=0) rfl (SubE.cons2 (i:=1) rfl (SubE.cons2 (i:=2) rfl (SubE.cons2 (i:=3) rfl (SubE.cons2 (i:=4) rfl (sb 5))))))))) (Has.len' (Has.up (L:=(K++[e0,e1,e2,e3,e4,e5,e6,e7,e8,e9,e46,e47])) hs7 (SubE.app2 (SubE.cons2 (i:=6) rfl (SubE.cons2 (i:=7) rfl (SubE.cons2 (i:=8) rfl (SubE.cons2 (i:=9) rfl (SubE.cons2 (i:=10) rfl (sb 11))))))))) (Has.len' (Has.up (L:=(K++[e0,e1,e2,e3,e4,e5,e6,e7,e8,e9,e46,e47])) hs8 (SubE.app2 (SubE.cons2 (i:=6) rfl (SubE.cons2 (i:=7) rfl (SubE.cons2 (i:=8) rfl (SubE.cons2 (i:=9) rfl (SubE.cons2 (i:=10) rfl (sb 11))))))))) h2 w1 (Qj (K:=K) (K2:=[e0,e1,e2,e3,e4,e5,e6,e7,e8,e9,e46,e47]) hK (by exact (sb 16)) (by exact (SubE.cons2 (i:=6) rfl (SubE.cons2 (i:=7) rfl (SubE.cons2 (i:=8) rfl (SubE.cons2 (i:=9) rfl (SubE.cons2 (i:=10) rfl (SubE.cons2 (i:=11) rfl (SubE.cons2 (i:=0) rfl (SubE.cons2 (i:=1) rfl (SubE.cons2 (i:=2) rfl (SubE.cons2 (i:=3) rfl (SubE.cons2 (i:=4) rfl (sb 5))))))))))))) hw1)) rfl ?_) ?_
  rotate_left;exact Ct;rintro _ _ hlo ⟨A6,c6,A7,c7,e65,e66,e67,e68,rfl,rfl,hs9,hs70,-⟩;have lo71:=hlo e65 (by simp);have lo72:=hlo e66 (by simp);have lo73:=hlo e67 (by simp);have lo74:=hlo e68 (by simp);refine Ae1 ?_;have hs75:Has (K++[e0,e1,e2,e3,e4,e5,e6,e7,e8,e9,e46,e47,e65,e66,e67,e68]) _ _ _ _ _ _:=Has.assoc hs9;have hs76:Has (K++[e0,e1,e2,e3,e4,e5,e6,e7,e8,e9,e46,e47,e65,e66,e67,e68]) _ _ _ _ _ _:=Has.assoc hs70;obtain ⟨r3,h3,hx5⟩:=Ar hx4
  refine P_x rfl (Ei rfl (fun w1 hw1=>Qq r2 (Has.len' hs75) (Has.len' hs76) h3 w1 (Qj (K:=K) (K2:=[e0,e1,e2,e3,e4,e5,e6,e7,e8,e9,e46,e47,e65,e66,e67,e68]) hK (by exact (sb 20)) (by exact (SubE.cons2 (i:=10) rfl (SubE.cons2 (i:=11) rfl (SubE.cons2 (i:=12) rfl (SubE.cons2 (i:=13) rfl (SubE.cons2 (i:=14) rfl (SubE.cons2 (i:=15) rfl (SubE.cons2 (i:=4) rfl (SubE.cons2 (i:=5) rfl (SubE.cons2 (i:=6) rfl (SubE.cons2 (i:=7) rfl (SubE.cons2 (i:=8) rfl (SubE.cons2 (i:=9) rfl (SubE.cons2 (i:=0) rfl (SubE.cons2 (i:=1) rfl (SubE.cons2 (i:=2) rfl (sb 3))))))))))))))))) hw1)) rfl ?_) ?_
  rotate_left;exact Ct;rintro _ _ hlo ⟨A8,c8,A9,c9,rfl,rfl,-⟩;refine Td ?_;refine Y2 ?_;refine P_h rfl rfl (Fm rfl rfl rfl (.there (.there (.there (.there (.there (.there (.there (.there (.there (.there (.there (.there (.there (.there (.there (.there (.there (.there (.there (.here)))))))))))))))))))) (.put (.put (.put (.done)))) rfl (List.cons_ne_nil _ _) Lz.2 ?_) ?_;rotate_left;exact Ct;refine P_x rfl (Pk (Fi rfl) rfl ?_) ?_;rotate_left;exact Ct;refine Y3 ?_;obtain rfl:=Option.some.inj hx5;exact Hc (rs:=[.cell 4 45,.tmp 5]) Tryz.results124 (.cell rfl (i:=19) rfl rfl Lz (.tmp rfl (.nil))) (Ln:=[.r (A8) (r3.1.Num.length) (c8) 245 1 (r3.1.Num.flatMap Ao),.r (A9) (r3.1.Den.length) (c9) 245 1 (r3.1.Den.flatMap Ao)]) ⟨A8,c8,A9,c9,rfl,rfl,trivial⟩ (By rfl (By rfl (Gn))) (by exact .pick 0 rfl (.pick 0 rfl (.drop 0 rfl (.drop 0 rfl (.drop 0 rfl (.drop 0 rfl (.drop 0 rfl (.drop 0 rfl (.drop 0 rfl (.drop 0 rfl (.drop 0 rfl (.drop 0 rfl (.drop 0 rfl (.drop 0 rfl (.drop 0 rfl (.drop 0 rfl (.drop 0 rfl (.drop 0 rfl (.drop 0 rfl (.drop 0 rfl (.drop 0 rfl (.drop 0 rfl (.refl)))))))))))))))))))))))
set_option maxHeartbeats 1000000 in
set_option maxRecDepth 100000 in
instance exact_Add_c (p0:As) (p1:As):Con (Vh p0 p1) Tryz.prog 124 (fun K vs=>∃ (A0_0:Option Addr) (c0_0:Nat) (A0_1:Option Addr) (c0_1:Nat) (A0_2:Option Addr) (c0_2:Nat) (A0_3:Option Addr) (c0_3:Nat),vs=[.agg #[.bool (p0.Neg),.slice (A0_0) ((p0.Num).length) (c0_0),.slice (A0_1) ((p0.Den).length) (c0_1)],.agg #[.bool (p1.Neg),.slice (A0_2) ((p1.Num).length) (c0_2),.slice (A0_3) ((p1.Den).length) (c0_3)]]/\Has K A0_0 (p0.Num).length c0_0 1 Ao (p0.Num)/\Has K A0_1 (p0.Den).length c0_1 1 Ao (p0.Den)/\Has K A0_2 (p1.Num).length c0_2 1 Ao (p1.Num)/\Has K A0_3 (p1.Den).length c0_3 1 Ao (p1.Den)/\True) (fun _ r=>fun v Ln=>∃ (A0:Option Addr) (c0:Nat) (A2:Option Addr) (c2:Nat),v = .tuple #[.agg #[.bool (r.1.Neg),.slice (A0) ((r.1.Num).length) (c0),.slice (A2) ((r.1.Den).length) (c2)],.int .i64 (r.2)]/\Ln=[.r A0 (r.1.Num).length c0 245 1 ((r.1.Num).flatMap Ao),.r A2 (r.1.Den).length c2 245 1 ((r.1.Den).flatMap Ao)]/\True):=⟨by
 rintro K _ r ⟨A0_0,c0_0,A0_1,c0_1,A0_2,c0_2,A0_3,c0_3,rfl,ha0,ha1,ha2,ha3,-⟩ hx w hK;exact Aiv p0 p1 ha0 ha1 ha2 ha3 hx w hK⟩
set_option maxRecDepth 100000 in
theorem Aiw (p0:As) (p1:As) {K:List Ent} {A0_0:Option Addr} {c0_0:Nat} {A0_1:Option Addr} {c0_1:Nat} {A0_2:Option Addr} {c0_2:Nat} {A0_3:Option Addr} {c0_3:Nat} (ha0:Has K A0_0 p0.Num.length c0_0 1 Ao (p0.Num)) (ha1:Has K A0_1 p0.Den.length c0_1 1 Ao (p0.Den)) (ha2:Has K A0_2 p1.Num.length c0_2 1 Ao (p1.Num)) (ha3:Has K A0_3 p1.Den.length c0_3 1 Ao (p1.Den)) {r:As × Int} (hx:Vi p0 p1=some r) (w:World) (hK:∀ e∈K,Ent.ok w e):CtL Tryz.prog 125 [.agg #[.bool (p0.Neg),.slice (A0_0) (p0.Num.length) (c0_0),.slice (A0_1) (p0.Den.length) (c0_1)],.agg #[.bool (p1.Neg),.slice (A0_2) (p1.Num.length) (c0_2),.slice (A0_3) (p1.Den.length) (c0_3)]] w fun v Ln=>∃ (A0:Option Addr) (c0:Nat) (A2:Option Addr) (c2:Nat),v = .tuple #[.agg #[.bool (r.1.Neg),.slice (A0) (r.1.Num.length) (c0),.slice (A2) (r.1.Den.length) (c2)],.int .i64 (r.2)]/\Ln=[.r A0 r.1.Num.length c0 245 1 (r.1.Num.flatMap Ao),.r A2 r.1.Den.length c2 245 1 (r.1.Den.flatMap Ao)]/\True:=by
 have ha0':=Has.up0 ha0;have ha1':=Has.up0 ha1;have ha2':=Has.up0 ha2;have ha3':=Has.up0 ha3;refine CtL.mk 19 Tryz.func125 rfl Tryz.ntmps125 (by kernel_rfl) rfl ?_;show T 19 _ [(0,.agg #[.bool (p0.Neg),.slice (A0_0) (p0.Num.length) (c0_0),.slice (A0_1) (p0.Den.length) (c0_1)]),(1,.agg #[.bool (p1.Neg),.slice (A0_2) (p1.Num.length) (c0_2),.slice (A0_3) (p1.Den.length) (c0_3)])] _;unfold Vi at hx;refine Y2 ?_;refine T_x (Ui rfl rfl rfl (fun g1=>?_));refine T_x (Ui rfl rfl rfl (fun g2=>?_));refine T_x (Kz Aee rfl (fun g3=>?_));refine Y6 ?_;refine Ba (Ew rfl (i:=2) rfl rfl Lz) rfl ?_;refine Ba (Ew rfl (i:=1) rfl rfl Lz) rfl ?_;refine T_x (Di rfl (Pi _ _ _ _ _ _ _ _ _ _ _ _ _ _) rfl (fun g4=>?_))
 have hs5:HasN (K++[.m g4 45 [.bool (p0.Neg),.slice (A0_0) (p0.Num.length) (c0_0),.slice (A0_1) (p0.Den.length) (c0_1),.bool (p1.Neg),.slice (A0_2) (p1.Num.length) (c0_2),.slice (A0_3) (p1.Den.length) (c0_3)]]) (some ⟨g4,0,none⟩) 2 2 3 Yw [p0,p1]:=⟨[[.bool (p0.Neg),.slice (A0_0) (p0.Num.length) (c0_0),.slice (A0_1) (p0.Den.length) (c0_1)],[.bool (p1.Neg),.slice (A0_2) (p1.Num.length) (c0_2),.slice (A0_3) (p1.Den.length) (c0_3)]],Has.up (L:=(K++[.m g4 45 [.bool (p0.Neg),.slice (A0_0) (p0.Num.length) (c0_0),.slice (A0_1) (p0.Den.length) (c0_1),.bool (p1.Neg),.slice (A0_2) (p1.Num.length) (c0_2),.slice (A0_3) (p1.Den.length) (c0_3)]])) (Has.ofM (fun x hx=>by simp at hx;rcases hx with rfl | rfl <;> rfl) rfl (by decide) rfl:Has [.m g4 45 [.bool (p0.Neg),.slice (A0_0) (p0.Num.length) (c0_0),.slice (A0_1) (p0.Den.length) (c0_1),.bool (p1.Neg),.slice (A0_2) (p1.Num.length) (c0_2),.slice (A0_3) (p1.Den.length) (c0_3)]] (some ⟨g4,0,none⟩) 2 2 3 raw [[.bool (p0.Neg),.slice (A0_0) (p0.Num.length) (c0_0),.slice (A0_1) (p0.Den.length) (c0_1)],[.bool (p1.Neg),.slice (A0_2) (p1.Num.length) (c0_2),.slice (A0_3) (p1.Den.length) (c0_3)]]) (SubE.appR2 (sb 0)),rfl,fun i h h'=>match i,h,h' with | 0,_,_=>⟨A0_0,c0_0,A0_1,c0_1,rfl,Has.len' (Has.up (L:=(K++[.m g4 45 [.bool (p0.Neg),.slice (A0_0) (p0.Num.length) (c0_0),.slice (A0_1) (p0.Den.length) (c0_1),.bool (p1.Neg),.slice (A0_2) (p1.Num.length) (c0_2),.slice (A0_3) (p1.Den.length) (c0_3)]])) ha0' (SubE.app2 SubE.nil)),Has.len' (Has.up (L:=(K++[.m g4 45 [.bool (p0.Neg),.slice (A0_0) (p0.Num.length) (c0_0),.slice (A0_1) (p0.Den.length) (c0_1),.bool (p1.Neg),.slice (A0_2) (p1.Num.length) (c0_2),.slice (A0_3) (p1.Den.length) (c0_3)]])) ha1' (SubE.app2 SubE.nil))⟩ | 1,_,_=>⟨A0_2,c0_2,A0_3,c0_3,rfl,Has.len' (Has.up (L:=(K++[.m g4 45 [.bool (p0.Neg),.slice (A0_0) (p0.Num.length) (c0_0),.slice (A0_1) (p0.Den.length) (c0_1),.bool (p1.Neg),.slice (A0_2) (p1.Num.length) (c0_2),.slice (A0_3) (p1.Den.length) (c0_3)]])) ha2' (SubE.app2 SubE.nil)),Has.len' (Has.up (L:=(K++[.m g4 45 [.bool (p0.Neg),.slice (A0_0) (p0.Num.length) (c0_0),.slice (A0_1) (p0.Den.length) (c0_1),.bool (p1.Neg),.slice (A0_2) (p1.Num.length) (c0_2),.slice (A0_3) (p1.Den.length) (c0_3)]])) ha3' (SubE.app2 SubE.nil))⟩ | j+2,h,_=>absurd h (by simp)⟩
 obtain ⟨r6,h7,hx8⟩:=Ar hx;refine Tc (fun w1 hw1=>Qx ([p0,p1]) (HasN.len' hs5) h7 w1 (Qj (K:=K) (K2:=[.m g4 45 [.bool (p0.Neg),.slice (A0_0) (p0.Num.length) (c0_0),.slice (A0_1) (p0.Den.length) (c0_1),.bool (p1.Neg),.slice (A0_2) (p1.Num.length) (c0_2),.slice (A0_3) (p1.Den.length) (c0_3)]]) hK (by exact (sb 4)) (by exact (sb 0)) hw1)) ?_;refine Y2 ?_;refine Hr (s:=9) rfl (fun h9=>?_) (fun h9=>?_)
 ·have hx0:=Jx h9 hx8;refine Y3 ?_;refine Ba (Js rfl (Ahv)) rfl ?_;refine T_h (Fm rfl rfl rfl (.there (.here)) (.put (.put (.put (.done)))) rfl (List.cons_ne_nil _ _) Lz.2 ?_);refine Y5 ?_;refine Az 245 1 ?_;refine Az 245 1 ?_;obtain rfl:=Option.some.inj hx0;exact Hc (rs:=[.cell 4 45,.tmp 5]) Tryz.results125 (.cell rfl (i:=3) rfl rfl Lz (.tmp rfl (.nil))) (Ln:=[.r (none) (0) (0) 245 1 ((([]:List Int)).flatMap Ao),.r (none) (0) (0) 245 1 ((([]:List Int)).flatMap Ao)]) ⟨none,0,none,0,rfl,rfl,trivial⟩ (By rfl (By rfl (Gn))) (by exact .pick 1 rfl (.pick 0 rfl (.drop 0 rfl (.drop 0 rfl (.drop 0 rfl (.drop 0 rfl (.refl)))))))
 ·have hx1:=Mg h9 hx8;refine Y4 ?_;refine T_dr [1,2,1,2,2,2,0,0,3,2] (.q 0 (.q 2 (.e 1 (.e 3 (.e 4 (.e 5 (.q 6 (.q 7 (.e 8 (.e 9 (.done) (.stop)) (.stop)))) (.stop)) (.stop)) (.stop)) (.stop)))) mixed (by kernel_rfl) (by kernel_rfl) ?_;refine P_q rfl rfl (Ew rfl (i:=3) rfl rfl Lz) rfl ?_;refine P_q rfl rfl (Ew rfl (i:=2) rfl rfl Lz) rfl ?_;obtain ⟨r0,h0,hx2⟩:=Ar hx1;refine P_x rfl (Ei rfl (fun w1 hw1=>Tu p0 (Has.len' ha0') (Has.len' ha1') h0 w1 (Qj (K:=K) (K2:=[]) hK (by exact (sb 4)) (by exact (SubE.nil)) hw1)) rfl ?_) ?_;rotate_left;exact Ct;rintro _ _ hlo ⟨A1,c1,A3,c3,e0,e1,e2,e3,e4,e5,rfl,rfl,hs0,hs1,-⟩;have lo27:=hlo e0 (by simp);have lo28:=hlo e1 (by simp);have lo29:=hlo e2 (by simp);have lo30:=hlo e3 (by simp);have lo31:=hlo e4 (by simp);have lo32:=hlo e5 (by simp);refine Ab7 ?_;have hs2:Has (K++[e0,e1,e2,e3,e4,e5]) _ _ _ _ _ _:=Has.assoc hs0;have hs3:Has (K++[e0,e1,e2,e3,e4,e5]) _ _ _ _ _ _:=Has.assoc hs1;obtain ⟨r1,h1,hx3⟩:=Ar hx2;refine P_x rfl (Ei rfl (fun w1 hw1=>Tu p1 (Has.len' ha2') (Has.len' ha3') h1 w1 (Qj (K:=K) (K2:=[]) hK (by exact (sb 10)) (by exact (SubE.nil)) hw1)) rfl ?_) ?_;rotate_left;exact Ct;rintro _ _ hlo ⟨A4,c4,A5,c5,e6,e7,e8,e9,e46,e47,rfl,rfl,hs4,hs6,-⟩;have lo50:=hlo e6 (by simp);have lo51:=hlo e7 (by simp)
  have lo52:=hlo e8 (by simp);have lo53:=hlo e9 (by simp);have lo54:=hlo e46 (by simp);have lo55:=hlo e47 (by simp);refine Ab7 ?_;have hs7:Has (K++[e6,e7,e8,e9,e46,e47]) _ _ _ _ _ _:=Has.assoc hs4;have hs8:Has (K++[e6,e7,e8,e9,e46,e47]) _ _ _ _ _ _:=Has.assoc hs6;obtain ⟨r2,h2,hx4⟩:=Ar hx3;refine P_x rfl (Ei rfl (fun w1 hw1=>Abs r0 r1 (Has.len' (Has.up (L:=(K++[e0,e1,e2,e3,e4,e5,e6,e7,e8,e9,e46,e47])) hs2 (SubE.app2 (SubE.cons2 (i:=0) rfl (SubE.cons2 (i:=1) rfl (SubE.cons2 (i:=2) rfl (SubE.cons2 (i:=3) rfl (SubE.cons2 (i:=4) rfl (sb 5))))))))) (Has.len' (Has.up (L:=(K++[e0,e1,e2,e3,e4,e5,e6,e7,e8,e9,e46,e47])) hs3 (SubE.app2 (SubE.cons2 (i:=0) rfl (SubE.cons2 (i:=1) rfl (SubE.cons2 (i:=2) rfl (SubE.cons2 (i:=3) rfl (SubE.cons2 (i:=4) rfl (sb 5))))))))) (Has.len' (Has.up (L:=(K++[e0,e1,e2,e3,e4,e5,e6,e7,e8,e9,e46,e47])) hs7 (SubE.app2 (SubE.cons2 (i:=6) rfl (SubE.cons2 (i:=7) rfl (SubE.cons2 (i:=8) rfl (SubE.cons2 (i:=9) rfl (SubE.cons2 (i:=10) rfl (sb 11))))))))) (Has.len' (Has.up (L:=(K++[e0,e1,e2,e3,e4,e5,e6,e7,e8,e9,e46,e47])) hs8 (SubE.app2 (SubE.cons2 (i:=6) rfl (SubE.cons2 (i:=7) rfl (SubE.cons2 (i:=8) rfl (SubE.cons2 (i:=9) rfl (SubE.cons2 (i:=10) rfl (sb 11))))))))) h2 w1 (Qj (K:=K) (K2:=[e0,e1,e2,e3,e4,e5,e6,e7,e8,e9,e46,e47]) hK (by exact (sb 16)) (by exact (SubE.cons2 (i:=6) rfl (SubE.cons2 (i:=7) rfl (SubE.cons2 (i:=8) rfl (SubE.cons2 (i:=9) rfl (SubE.cons2 (i:=10) rfl (SubE.cons2 (i:=11) rfl (SubE.cons2 (i:=0) rfl (SubE.cons2 (i:=1) rfl (SubE.cons2 (i:=2) rfl (SubE.cons2 (i:=3) rfl (SubE.cons2 (i:=4) rfl (sb 5))))))))))))) hw1)) rfl ?_) ?_
  rotate_left;exact Ct;rintro _ _ hlo ⟨A6,c6,A7,c7,e65,e66,rfl,rfl,hs9,hs68,-⟩;have lo69:=hlo e65 (by simp);have lo70:=hlo e66 (by simp);refine Td ?_;have hs71:Has (K++[e0,e1,e2,e3,e4,e5,e6,e7,e8,e9,e46,e47,e65,e66]) _ _ _ _ _ _:=Has.assoc hs9;have hs72:Has (K++[e0,e1,e2,e3,e4,e5,e6,e7,e8,e9,e46,e47,e65,e66]) _ _ _ _ _ _:=Has.assoc hs68;obtain ⟨r3,h3,hx5⟩:=Ar hx4
  refine P_x rfl (Ei rfl (fun w1 hw1=>Qq r2 (Has.len' hs71) (Has.len' hs72) h3 w1 (Qj (K:=K) (K2:=[e0,e1,e2,e3,e4,e5,e6,e7,e8,e9,e46,e47,e65,e66]) hK (by exact (sb 18)) (by exact (SubE.cons2 (i:=8) rfl (SubE.cons2 (i:=9) rfl (SubE.cons2 (i:=10) rfl (SubE.cons2 (i:=11) rfl (SubE.cons2 (i:=12) rfl (SubE.cons2 (i:=13) rfl (SubE.cons2 (i:=2) rfl (SubE.cons2 (i:=3) rfl (SubE.cons2 (i:=4) rfl (SubE.cons2 (i:=5) rfl (SubE.cons2 (i:=6) rfl (SubE.cons2 (i:=7) rfl (SubE.cons2 (i:=0) rfl (sb 1))))))))))))))) hw1)) rfl ?_) ?_
  rotate_left;exact Ct;rintro _ _ hlo ⟨A8,c8,A9,c9,rfl,rfl,-⟩;refine Td ?_;refine Y2 ?_;refine P_h rfl rfl (Fm rfl rfl rfl (.there (.there (.there (.there (.there (.there (.there (.there (.there (.there (.there (.there (.there (.there (.there (.there (.there (.here)))))))))))))))))) (.put (.put (.put (.done)))) rfl (List.cons_ne_nil _ _) Lz.2 ?_) ?_;rotate_left;exact Ct;refine P_x rfl (Pk (Fi rfl) rfl ?_) ?_;rotate_left;exact Ct;refine Y3 ?_;obtain rfl:=Option.some.inj hx5;exact Hc (rs:=[.cell 4 45,.tmp 5]) Tryz.results125 (.cell rfl (i:=17) rfl rfl Lz (.tmp rfl (.nil))) (Ln:=[.r (A8) (r3.1.Num.length) (c8) 245 1 (r3.1.Num.flatMap Ao),.r (A9) (r3.1.Den.length) (c9) 245 1 (r3.1.Den.flatMap Ao)]) ⟨A8,c8,A9,c9,rfl,rfl,trivial⟩ (By rfl (By rfl (Gn))) (by exact .pick 0 rfl (.pick 0 rfl (.drop 0 rfl (.drop 0 rfl (.drop 0 rfl (.drop 0 rfl (.drop 0 rfl (.drop 0 rfl (.drop 0 rfl (.drop 0 rfl (.drop 0 rfl (.drop 0 rfl (.drop 0 rfl (.drop 0 rfl (.drop 0 rfl (.drop 0 rfl (.drop 0 rfl (.drop 0 rfl (.drop 0 rfl (.drop 0 rfl (.refl)))))))))))))))))))))
set_option maxHeartbeats 1000000 in
set_option maxRecDepth 100000 in
instance exact_Mul_c (p0:As) (p1:As):Con (Vi p0 p1) Tryz.prog 125 (fun K vs=>∃ (A0_0:Option Addr) (c0_0:Nat) (A0_1:Option Addr) (c0_1:Nat) (A0_2:Option Addr) (c0_2:Nat) (A0_3:Option Addr) (c0_3:Nat),vs=[.agg #[.bool (p0.Neg),.slice (A0_0) ((p0.Num).length) (c0_0),.slice (A0_1) ((p0.Den).length) (c0_1)],.agg #[.bool (p1.Neg),.slice (A0_2) ((p1.Num).length) (c0_2),.slice (A0_3) ((p1.Den).length) (c0_3)]]/\Has K A0_0 (p0.Num).length c0_0 1 Ao (p0.Num)/\Has K A0_1 (p0.Den).length c0_1 1 Ao (p0.Den)/\Has K A0_2 (p1.Num).length c0_2 1 Ao (p1.Num)/\Has K A0_3 (p1.Den).length c0_3 1 Ao (p1.Den)/\True) (fun _ r=>fun v Ln=>∃ (A0:Option Addr) (c0:Nat) (A2:Option Addr) (c2:Nat),v = .tuple #[.agg #[.bool (r.1.Neg),.slice (A0) ((r.1.Num).length) (c0),.slice (A2) ((r.1.Den).length) (c2)],.int .i64 (r.2)]/\Ln=[.r A0 (r.1.Num).length c0 245 1 ((r.1.Num).flatMap Ao),.r A2 (r.1.Den).length c2 245 1 ((r.1.Den).flatMap Ao)]/\True):=⟨by
 rintro K _ r ⟨A0_0,c0_0,A0_1,c0_1,A0_2,c0_2,A0_3,c0_3,rfl,ha0,ha1,ha2,ha3,-⟩ hx w hK;exact Aiw p0 p1 ha0 ha1 ha2 ha3 hx w hK⟩
set_option maxRecDepth 100000 in
instance mesh_corners_c (p0:Bj) (p1:Ae):Con (Pf p0 p1) Tryz.prog 61 (fun K vs=>∃ (A0_0:Option Addr) (c0_0:Nat) (A0_1:Option Addr) (c0_1:Nat) (A0_2:Option Addr) (c0_2:Nat),vs=[.agg #[.slice (A0_0) ((p0.V).length) (c0_0),.slice (A0_1) ((p0.T).length) (c0_1),.slice (A0_2) ((p0.Lines).length) (c0_2)],.agg #[.int .i64 (p1.a0),.int .i64 (p1.a1),.int .i64 (p1.a2)]]/\Has K A0_0 (p0.V).length c0_0 4 Ah (p0.V)/\Has K A0_1 (p0.T).length c0_1 3 Bc (p0.T)/\Has K A0_2 (p0.Lines).length c0_2 2 Ak (p0.Lines)/\True) (fun _ r=>fun v Ln=>v = .agg #[.int .i64 (r.a0.X),.int .i64 (r.a0.Y),.int .i64 (r.a0.Z.Lo),.int .i64 (r.a0.Z.Hi),.int .i64 (r.a1.X),.int .i64 (r.a1.Y),.int .i64 (r.a1.Z.Lo),.int .i64 (r.a1.Z.Hi),.int .i64 (r.a2.X),.int .i64 (r.a2.Y),.int .i64 (r.a2.Z.Lo),.int .i64 (r.a2.Z.Hi)]/\Ln=[]/\True):=⟨by
 rintro K _ r ⟨A0_0,c0_0,A0_1,c0_1,A0_2,c0_2,rfl,ha0,ha1,ha2,-⟩ hx w hK;replace ha0:=Has.lo ha0 hK;replace ha1:=Has.lo ha1 hK;replace ha2:=Has.lo ha2 hK;unfold Pf at hx;have:=dl 1 [0,1,0,1,0,1,0,1,0,1,0,1,0,1,0,1,0,1,0,3] [0,1,2,3,4,5,6,7,8,9,10,11,12,13,14,15,16,17,18,19];refine CtS Tryz.ntmps61 Tryz.results61 ?_;exact au⟩
set_option maxRecDepth 100000 in
instance mesh_calc_add_c (p0:Dj) (p1:As) (p2:As):Con (Nt p0 p1 p2) Tryz.prog 60 (fun K vs=>∃ (A0_0:Option Addr) (c0_0:Nat) (A0_1:Option Addr) (c0_1:Nat) (A0_2:Option Addr) (c0_2:Nat) (A0_3:Option Addr) (c0_3:Nat),vs=[.agg #[],.agg #[.bool (p1.Neg),.slice (A0_0) ((p1.Num).length) (c0_0),.slice (A0_1) ((p1.Den).length) (c0_1)],.agg #[.bool (p2.Neg),.slice (A0_2) ((p2.Num).length) (c0_2),.slice (A0_3) ((p2.Den).length) (c0_3)]]/\Has K A0_0 (p1.Num).length c0_0 1 Ao (p1.Num)/\Has K A0_1 (p1.Den).length c0_1 1 Ao (p1.Den)/\Has K A0_2 (p2.Num).length c0_2 1 Ao (p2.Num)/\Has K A0_3 (p2.Den).length c0_3 1 Ao (p2.Den)/\True) (fun _ r=>fun v Ln=>∃ (A0:Option Addr) (c0:Nat) (A2:Option Addr) (c2:Nat),v = .agg #[.bool (r.Neg),.slice (A0) ((r.Num).length) (c0),.slice (A2) ((r.Den).length) (c2)]/\Ln=[.r A0 (r.Num).length c0 245 1 ((r.Num).flatMap Ao),.r A2 (r.Den).length c2 245 1 ((r.Den).flatMap Ao)]/\True):=⟨by
 rintro K _ r ⟨A0_0,c0_0,A0_1,c0_1,A0_2,c0_2,A0_3,c0_3,rfl,ha0,ha1,ha2,ha3,-⟩ hx w hK;replace ha0:=Has.lo ha0 hK;replace ha1:=Has.lo ha1 hK;replace ha2:=Has.lo ha2 hK;replace ha3:=Has.lo ha3 hK;unfold Nt at hx;refine CtS Tryz.ntmps60 Tryz.results60 ?_;exact au⟩
set_option maxRecDepth 100000 in
instance mesh_calc_mul_c (p0:Dj) (p1:As) (p2:As):Con (Nu p0 p1 p2) Tryz.prog 65 (fun K vs=>∃ (A0_0:Option Addr) (c0_0:Nat) (A0_1:Option Addr) (c0_1:Nat) (A0_2:Option Addr) (c0_2:Nat) (A0_3:Option Addr) (c0_3:Nat),vs=[.agg #[],.agg #[.bool (p1.Neg),.slice (A0_0) ((p1.Num).length) (c0_0),.slice (A0_1) ((p1.Den).length) (c0_1)],.agg #[.bool (p2.Neg),.slice (A0_2) ((p2.Num).length) (c0_2),.slice (A0_3) ((p2.Den).length) (c0_3)]]/\Has K A0_0 (p1.Num).length c0_0 1 Ao (p1.Num)/\Has K A0_1 (p1.Den).length c0_1 1 Ao (p1.Den)/\Has K A0_2 (p2.Num).length c0_2 1 Ao (p2.Num)/\Has K A0_3 (p2.Den).length c0_3 1 Ao (p2.Den)/\True) (fun _ r=>fun v Ln=>∃ (A0:Option Addr) (c0:Nat) (A2:Option Addr) (c2:Nat),v = .agg #[.bool (r.Neg),.slice (A0) ((r.Num).length) (c0),.slice (A2) ((r.Den).length) (c2)]/\Ln=[.r A0 (r.Num).length c0 245 1 ((r.Num).flatMap Ao),.r A2 (r.Den).length c2 245 1 ((r.Den).flatMap Ao)]/\True):=⟨by
 rintro K _ r ⟨A0_0,c0_0,A0_1,c0_1,A0_2,c0_2,A0_3,c0_3,rfl,ha0,ha1,ha2,ha3,-⟩ hx w hK;replace ha0:=Has.lo ha0 hK;replace ha1:=Has.lo ha1 hK;replace ha2:=Has.lo ha2 hK;replace ha3:=Has.lo ha3 hK;unfold Nu at hx;refine CtS Tryz.ntmps65 Tryz.results65 ?_;exact au⟩
set_option maxRecDepth 100000 in
instance mesh_calc_num_c (p0:Dj) (p1:Int):Con (Ll p0 p1) Tryz.prog 62 (fun _ vs=>vs=[.agg #[],.int .i64 (p1)]) (fun _ r=>fun v Ln=>∃ (A0:Option Addr) (c0:Nat) (A2:Option Addr) (c2:Nat),v = .agg #[.bool (r.Neg),.slice (A0) ((r.Num).length) (c0),.slice (A2) ((r.Den).length) (c2)]/\Ln=[.r A0 (r.Num).length c0 245 1 ((r.Num).flatMap Ao),.r A2 (r.Den).length c2 245 1 ((r.Den).flatMap Ao)]/\True):=⟨by
 rintro _ _ r rfl hx w hK;unfold Ll at hx;refine CtS Tryz.ntmps62 Tryz.results62 ?_;exact au⟩
set_option maxRecDepth 100000 in
instance mesh_area_c (p0:Ac) (p1:Ac) (p2:Ac):Con (Ss p0 p1 p2) Tryz.prog 63 (fun _ vs=>vs=[.agg #[.int .i64 (p0.X),.int .i64 (p0.Y)],.agg #[.int .i64 (p1.X),.int .i64 (p1.Y)],.agg #[.int .i64 (p2.X),.int .i64 (p2.Y)]]) (fun _ r=>fun v Ln=>v = .int .i64 (r)/\Ln=[]/\True):=⟨by
 rintro _ _ r rfl hx w hK;unfold Ss at hx;refine CtS Tryz.ntmps63 Tryz.results63 ?_;exact au⟩
set_option maxHeartbeats 1000000 in
set_option maxRecDepth 100000 in
instance mesh_Area_c (p0:Bj):Con (Vj p0) Tryz.prog 19 (fun K vs=>∃ (A0_0:Option Addr) (c0_0:Nat) (A0_1:Option Addr) (c0_1:Nat) (A0_2:Option Addr) (c0_2:Nat),vs=[.agg #[.slice (A0_0) ((p0.V).length) (c0_0),.slice (A0_1) ((p0.T).length) (c0_1),.slice (A0_2) ((p0.Lines).length) (c0_2)]]/\Has K A0_0 (p0.V).length c0_0 4 Ah (p0.V)/\Has K A0_1 (p0.T).length c0_1 3 Bc (p0.T)/\Has K A0_2 (p0.Lines).length c0_2 2 Ak (p0.Lines)/\True) (fun _ r=>fun v Ln=>v = .tuple #[.int .i64 (r.1),.int .i64 (r.2)]/\Ln=[]/\True):=⟨by
 rintro K _ r ⟨A0_0,c0_0,A0_1,c0_1,A0_2,c0_2,rfl,ha0,ha1,ha2,-⟩ hx w hK;replace ha0:=Has.lo ha0 hK;replace ha1:=Has.lo ha1 hK;replace ha2:=Has.lo ha2 hK;unfold Vj at hx;have:=dl 9 [0,0,1,2,0,1,2,0,1,2,2,0,2] [0,1,2,4,5,7,8,3,6,9,10,11,12];refine CtS Tryz.ntmps19 Tryz.results19 ?_;try (refine pre ?_;intros;rename_i hx)
 refine Cq2 (s:=12) hx rfl (fun _ hx=>?_) (fun _ hx=>?_)
 ·exact au
 ·try (refine pre ?_;intros;rename_i hx)
  refine Bn ?_;try (refine pre ?_;intros;rename_i hx)
  apply Jr (γ:=Unit) hx [] (fun s7 y7 f=>(5,.int .i64 (s7))::f) [999] (fun s7 y7 l=>l);exact kk
  ·intro s7 y7 hx;exact au
  ·intro _ hx;try (refine pre ?_;intros;rename_i hx)
   apply Lr (γ:=Unit) hx [1,15,16] (fun s0 y0 f=>(5,.int .i64 (s0.1))::(17,.int .i64 (s0.2))::f) [0,999] (fun s0 y0 l=>l) ();exact kk;exact sk;intro s0 y0 x0 hx _;unfold Qw at hx
   exact au⟩
set_option maxHeartbeats 8000000 in
set_option maxRecDepth 100000 in
instance mesh_Volume_c (p0:Bj) (p1:Int):Con (Mo p0 p1) Tryz.prog 15 (fun K vs=>∃ (A0_0:Option Addr) (c0_0:Nat) (A0_1:Option Addr) (c0_1:Nat) (A0_2:Option Addr) (c0_2:Nat),vs=[.agg #[.slice (A0_0) ((p0.V).length) (c0_0),.slice (A0_1) ((p0.T).length) (c0_1),.slice (A0_2) ((p0.Lines).length) (c0_2)],.int .i64 (p1)]/\Has K A0_0 (p0.V).length c0_0 4 Ah (p0.V)/\Has K A0_1 (p0.T).length c0_1 3 Bc (p0.T)/\Has K A0_2 (p0.Lines).length c0_2 2 Ak (p0.Lines)/\True) (fun _ r=>fun v Ln=>∃ (A0:Option Addr) (c0:Nat) (A2:Option Addr) (c2:Nat) (A4:Option Addr) (c4:Nat) (A6:Option Addr) (c6:Nat),v = .tuple #[.agg #[.bool (r.1.Neg),.slice (A0) ((r.1.Num).length) (c0),.slice (A2) ((r.1.Den).length) (c2)],.agg #[.bool (r.2.1.Neg),.slice (A4) ((r.2.1.Num).length) (c4),.slice (A6) ((r.2.1.Den).length) (c6)],.int .i64 (r.2.2)]/\Ln=[.r A0 (r.1.Num).length c0 245 1 ((r.1.Num).flatMap Ao),.r A2 (r.1.Den).length c2 245 1 ((r.1.Den).flatMap Ao),.r A4 (r.2.1.Num).length c4 245 1 ((r.2.1.Num).flatMap Ao),.r A6 (r.2.1.Den).length c6 245 1 ((r.2.1.Den).flatMap Ao)]/\True):=⟨by
 rintro K _ r ⟨A0_0,c0_0,A0_1,c0_1,A0_2,c0_2,rfl,ha0,ha1,ha2,-⟩ hx w hK;replace ha0:=Has.lo ha0 hK;replace ha1:=Has.lo ha1 hK;replace ha2:=Has.lo ha2 hK;unfold Mo at hx;have:=dl 12 [1,0,1,2,0,1,2,0,1,2,2,2,4,3] [0,1,2,4,5,7,8,3,6,9,10,11,12,13] [12];have:=dl 15 [0,1,1,1,1,1,0,2,2,3,3] [0,1,2,3,4,5,6,7,8,9,10];have:=dl 16 [0,1,1,1,1,1,0,2,2,3,3] [0,1,2,3,4,5,6,7,8,9,10];refine CtS Tryz.ntmps15 Tryz.results15 ?_;try (refine pre ?_;intros;rename_i hx)
 refine Cq2 (s:=19) hx rfl (fun _ hx=>?_) (fun _ hx=>?_)
 ·exact au
 ·try (refine pre ?_;intros;rename_i hx)
  refine Bn ?_;try (refine pre ?_;intros;rename_i hx)
  apply Jr (γ:=Unit) hx [1,2,4,5] (fun s7 y7 f=>(28,.bool (s7))::f) [0,1,2,999] (fun s7 y7 l=>l);exact kk
  ·intro s7 y7 hx;refine Cq3 (s:=28) hx rfl (fun _ hx=>?_) (fun _ hx=>?_)
   ·exact au
   ·try (refine pre ?_;intros;rename_i hx)
    refine Bn ?_;try (refine pre ?_;intros;rename_i hx)
    refine Bn ?_;try (refine pre ?_;intros;rename_i hx)
    apply Jr (γ:=(Option Addr) × (Nat) × (Option Addr) × (Nat) × (Option Addr) × (Nat) × (Option Addr) × (Nat) × (Nat) × (Nat)) hx [] (fun s0 y0 f=>(4,.pointer (some ⟨(y0.2.2.2.2.2.2.2.2.2),0,none⟩))::(5,.pointer (some ⟨(y0.2.2.2.2.2.2.2.2.1),0,none⟩))::f) [999] (fun s0 y0 l=>.r (y0.1) ((s0.2.1).length) (y0.2.1) 245 1 ((s0.2.1).flatMap Ao) :: .r (y0.2.2.1) ((s0.2.2.1).length) (y0.2.2.2.1) 245 1 ((s0.2.2.1).flatMap Ao) :: .r (y0.2.2.2.2.1) ((s0.2.2.2.2.1).length) (y0.2.2.2.2.2.1) 245 1 ((s0.2.2.2.2.1).flatMap Ao) :: .r (y0.2.2.2.2.2.2.1) ((s0.2.2.2.2.2).length) (y0.2.2.2.2.2.2.2.1) 245 1 ((s0.2.2.2.2.2).flatMap Ao) :: .m (y0.2.2.2.2.2.2.2.2.1) 45 [.bool (s0.2.2.2.1),.slice (y0.2.2.2.2.1) ((s0.2.2.2.2.1).length) (y0.2.2.2.2.2.1),.slice (y0.2.2.2.2.2.2.1) ((s0.2.2.2.2.2).length) (y0.2.2.2.2.2.2.2.1)] :: .m (y0.2.2.2.2.2.2.2.2.2) 45 [.bool (s0.1),.slice (y0.1) ((s0.2.1).length) (y0.2.1),.slice (y0.2.2.1) ((s0.2.2.1).length) (y0.2.2.2.1)]::l);exact kk
    ·intro s0 y0 hx;try (refine pre ?_;intros;rename_i hx)
     (with_reducible apply Aol 5 [1,1,3,3,2] [[],[],[0],[0,1,2],[0,1,2,3]] [1] (.q 0 (.q 1 (.e 2 (.e 3 (.e 4 (.done) (.stop)) (.stop)) (.stop)))));exact rfl;exact aT;exact mixed;kernel_rfl;kernel_rfl;refine P_q rfl rfl (by exact evB) rfl ?_;refine P_r rfl rfl (by exact evB) rfl ?_;refine P_hR rfl rfl (Qv rfl rfl rfl rfl sA sP rfl rfl ?_) ?_;rotate_left;exact Ct;refine Aiz (fun w hw=>SubE.ok sU w hw) ?_;refine P_hL rfl rfl rfl (Qv rfl rfl rfl rfl sA sP rfl rfl ?_) ?_;rotate_left;exact Ct;refine P_x rfl (Pk (Fi rfl) rfl ?_) ?_;rotate_left;exact Ct;refine Aft ?_
     exact au
    ·intro _ hx;try (refine pre ?_;intros;rename_i hx)
     refine Az 245 1 ?_
     refine Az 245 1 ?_
     refine Az 245 1 ?_
     refine Az 245 1 ?_
     apply Lr (γ:=(Option Addr) × (Nat) × (Option Addr) × (Nat) × (Option Addr) × (Nat) × (Option Addr) × (Nat) × (Nat) × (Nat)) hx [1,2,8,9,32,33] (fun s1 y1 f=>(4,.pointer (some ⟨(y1.2.2.2.2.2.2.2.2.2),0,none⟩))::(5,.pointer (some ⟨(y1.2.2.2.2.2.2.2.2.1),0,none⟩))::(34,.int .i64 (s1.2.2.2.2.2.2))::f) [4,7,999] (fun s1 y1 l=>.r (y1.1) ((s1.2.1).length) (y1.2.1) 245 1 ((s1.2.1).flatMap Ao) :: .r (y1.2.2.1) ((s1.2.2.1).length) (y1.2.2.2.1) 245 1 ((s1.2.2.1).flatMap Ao) :: .r (y1.2.2.2.2.1) ((s1.2.2.2.2.1).length) (y1.2.2.2.2.2.1) 245 1 ((s1.2.2.2.2.1).flatMap Ao) :: .r (y1.2.2.2.2.2.2.1) ((s1.2.2.2.2.2.1).length) (y1.2.2.2.2.2.2.2.1) 245 1 ((s1.2.2.2.2.2.1).flatMap Ao) :: .m (y1.2.2.2.2.2.2.2.2.1) 45 [.bool (s1.2.2.2.1),.slice (y1.2.2.2.2.1) ((s1.2.2.2.2.1).length) (y1.2.2.2.2.2.1),.slice (y1.2.2.2.2.2.2.1) ((s1.2.2.2.2.2.1).length) (y1.2.2.2.2.2.2.2.1)] :: .m (y1.2.2.2.2.2.2.2.2.2) 45 [.bool (s1.1),.slice (y1.1) ((s1.2.1).length) (y1.2.1),.slice (y1.2.2.1) ((s1.2.2.1).length) (y1.2.2.2.1)]::l) (_,_,_,_,_,_,_,_,_,_);exact kk;exact sk;intro s1 y1 x0 hx _;unfold Ox at hx
     try (refine pre ?_;intros;rename_i hx)
     refine Cq1 (s:=35) hx rfl (fun _ hx=>?_) (fun _ hx=>?_)
     ·exact au
     ·exact au
  ·intro _ hx;exact au⟩
end Go.Proofs.YtjfndjmabhbicaaGreat
