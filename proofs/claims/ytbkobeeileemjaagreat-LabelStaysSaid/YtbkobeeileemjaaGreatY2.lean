/- Walks of the program, with their plain functions: growing. -/
import Derived.Test.YtbkobeeileemjaaGreatY1
namespace Go.Proofs.YtbkobeeileemjaaGreat
open Go Go.RowKit
set_option maxRecDepth 100000
set_option maxHeartbeats 1000000
theorem Alq  : Cx Tryz.prog 48 0 [] 3 []:=fun w=>by kernel_rfl
instance:Hl Tryz.prog 48 0 [] 3 []:=⟨Alq⟩
theorem Anl:Jd Tryz.prog 175 [.int .i64 (0),.int .i64 (0),.int .i64 (0),.int .i64 (0),.int .i64 (0),.int .i64 (0),.int .i64 (0),.int .i64 (0),.int .i64 (0),.int .i64 (0)]:=⟨_,Tryz.zeroValue175,rfl⟩
instance:Sn Tryz.prog 175 [.int .i64 (0),.int .i64 (0),.int .i64 (0),.int .i64 (0),.int .i64 (0),.int .i64 (0),.int .i64 (0),.int .i64 (0),.int .i64 (0),.int .i64 (0)]:=⟨Anl⟩
theorem Anm:Nh Tryz.prog 175 10:=.mk Tryz.underlying175 rfl (show Tryz.prog.info? 175=some Tryz.t175 from by kernel_rfl) (by kernel_rfl)
instance:AggI Tryz.prog 175 10:=⟨Anm⟩
theorem Agl:Ca Tryz.prog 175 1 9:=.mk Tryz.underlying175 rfl rfl (show Tryz.prog.info? 3=some Tryz.t3 from by kernel_rfl) (show Tryz.t3.size=1 from by kernel_rfl) rfl
instance:Cs Tryz.prog 175 1 9:=⟨Agl⟩
theorem Agm:Ca Tryz.prog 175 0 0:=.mk Tryz.underlying175 rfl rfl (show Tryz.prog.info? 66=some Tryz.t66 from by kernel_rfl) (show Tryz.t66.size=9 from by kernel_rfl) rfl
instance:Cs Tryz.prog 175 0 0:=⟨Agm⟩
theorem Gf (x0:Int) (x1:Int) (x2:Int) (x3:Int) (x4:Int) (x5:Int) (x6:Int) (x7:Int) (x8:Int) (x9:Int):Gd Tryz.prog 175 [(0,.agg #[.int .i64 x0,.int .i64 x1,.int .i64 x2,.int .i64 x3,.int .i64 x4,.int .i64 x5,.int .i64 x6,.int .i64 x7,.int .i64 x8]),(1,.int .i64 x9)] [.int .i64 x0,.int .i64 x1,.int .i64 x2,.int .i64 x3,.int .i64 x4,.int .i64 x5,.int .i64 x6,.int .i64 x7,.int .i64 x8,.int .i64 x9]:=fun w=>by kernel_rfl
instance (x0:Int) (x1:Int) (x2:Int) (x3:Int) (x4:Int) (x5:Int) (x6:Int) (x7:Int) (x8:Int) (x9:Int):Kb Tryz.prog 175 [(0,.agg #[.int .i64 x0,.int .i64 x1,.int .i64 x2,.int .i64 x3,.int .i64 x4,.int .i64 x5,.int .i64 x6,.int .i64 x7,.int .i64 x8]),(1,.int .i64 x9)] [.int .i64 x0,.int .i64 x1,.int .i64 x2,.int .i64 x3,.int .i64 x4,.int .i64 x5,.int .i64 x6,.int .i64 x7,.int .i64 x8,.int .i64 x9]:=⟨Gf _ _ _ _ _ _ _ _ _ _⟩
noncomputable def Eh (p0:List Int) (p1:Int):Int→Option (Sum Int (Sum Unit Int)):=fun s0 =>
 if s0 < ((((p0).length:Nat):Int)) then (bnd (idx p0 s0) fun x0 =>
 if p1=x0 then (some (.inr (.inr (s0))))
 else (some (.inl (w64 (s0+1)))))
 else (some (.inr (.inl ())))
noncomputable def Gs (p0:List Int) (p1:Int):Option Int :=
 jn (fun (_:Unit) =>
 some (-1))
 (fun j2=>bnd (lfix (Eh p0 p1) 0) fun t0 =>
 (match t0 with
 | (.inl z0)=>j2 z0
 | (.inr (z0))=>some z0
 ))
noncomputable def Df (p0:List Int) (p1:Int):Option Bool :=
 bnd (Gs p0 p1) fun r1 =>
 some (decide (0≤r1))
noncomputable def Wp (p0:List Int):Option (List Int):=gd (p0.length*8≤140737488355328) <| some p0
theorem Ab9 (p0:List Int) {K:List Ent} {A0_0:Option Addr} {c0_0:Nat} (ha0:Has K A0_0 p0.length c0_0 1 Bd p0) {r:List Int} (hx:Wp p0=some r) (w:World) (hK:∀ e∈K,Ent.ok w e) :
  CtL Tryz.prog 139 [.slice A0_0 p0.length c0_0] w (fun v Ln=>∃ (A0:Option Addr) (c0:Nat),v = .slice A0 r.length c0∧Ln=[.r A0 r.length c0 3 1 (r.flatMap Bd)]∧True):=by
 obtain ⟨hb,hx⟩:=Bh hx;obtain rfl:=Option.some.inj hx;have ha:Has [.old w] A0_0 p0.length c0_0 1 Bd p0:=Has.low (E:=[]) (by rw [List.append_nil];exact ha0) hK;refine CtL.mk 8 Tryz.func139 rfl Tryz.ntmps139 (by kernel_rfl) rfl ?_;show T 8 _ [(0,.slice A0_0 p0.length c0_0)] _;refine Y9 ?_;refine Aj (Aee Tryz.underlying48 rfl rfl) rfl ?_;refine Y2 ?_
 cases hA:A0_0 with
 | none =>
  subst hA
  have h0:p0=[]:=by
   cases p0 with
   | nil=>rfl
   | cons x r=>obtain ⟨b,o,h,_⟩:=ha.at_ (by simp);cases h
  subst h0;refine Y8 ?_;refine Bt 3 1 ?_;exact Bq (rs:=[.tmp 2]) Tryz.results139 (.tmp rfl .nil) (Ln:=[.r none 0 0 3 1 []]) ⟨none,0,rfl,rfl,trivial⟩ (Ba rfl Bw) (.pick 0 rfl (.pick 0 rfl .refl))
 | some a =>
  subst hA;refine Y5 ?_;refine T_x (Bv rfl (Alq) rfl (fun g5=>?_));refine Y ?_;refine T_mr (enc:=Bd) (sz:=1) (([]:List Int)) (.here) rfl rfl (fun _=>rfl) (by decide) ?_;refine T_h (Abe Bd ([]:List Int) p0 rfl rfl Age (fun _=>rfl) ha (sb 1) (fun _=>rfl) (by rw [List.length_nil,Nat.zero_add];exact hb) rfl (fun _ _=>.here) (by decide) (fun A1 c1=>?_));refine Y4 ?_;exact Bq (rs:=[.tmp 2]) Tryz.results139 (.tmp rfl .nil) (Ln:=[.r A1 p0.length c1 3 1 (p0.flatMap Bd)]) ⟨A1,c1,rfl,rfl,trivial⟩ (Ba rfl Bw) (.pick 0 rfl (.pick 0 rfl .refl))

instance:UndI Tryz.prog 173 (.map 3 175):=⟨Tryz.underlying173⟩
structure Bm where
 p:Aa
 far:Int
def El (x:Bm):Value:=.agg #[.int .i64 (x.p.Id),.int .i64 (x.p.X),.int .i64 (x.p.Y),.int .i64 (x.p.Z.Lo),.int .i64 (x.p.Z.Hi),.int .i64 (x.p.Wide),.int .i64 (x.p.Num),.int .i64 (x.p.Of),.int .i64 (x.p.Class),.int .i64 (x.far)]
theorem Vi (x y:Bm) (h:El x=El y):x=y:=by
 rcases x with ⟨⟨_,_,_,⟨_,_⟩,_,_,_,_⟩,_⟩;rcases y with ⟨⟨_,_,_,⟨_,_⟩,_,_,_,_⟩,_⟩;simp [El] at h;simp [h]
instance (x:Bm):UnfI El x (.agg #[.int .i64 (x.p.Id),.int .i64 (x.p.X),.int .i64 (x.p.Y),.int .i64 (x.p.Z.Lo),.int .i64 (x.p.Z.Hi),.int .i64 (x.p.Wide),.int .i64 (x.p.Num),.int .i64 (x.p.Of),.int .i64 (x.p.Class),.int .i64 (x.far)]):=⟨rfl⟩
instance (x0:Int) (x1:Int) (x2:Int) (x3:Int) (x4:Int) (x5:Int) (x6:Int) (x7:Int) (x8:Int) (x9:Int):Zi El (.agg #[.int .i64 (x0),.int .i64 (x1),.int .i64 (x2),.int .i64 (x3),.int .i64 (x4),.int .i64 (x5),.int .i64 (x6),.int .i64 (x7),.int .i64 (x8),.int .i64 (x9)]) (⟨⟨x0,x1,x2,⟨x3,x4⟩,x5,x6,x7,x8⟩,x9⟩):=⟨rfl⟩
instance:ValI Tryz.prog 175 El ((⟨(⟨0,0,0,(⟨0,0⟩:Br),0,0,0,0⟩:Aa),0⟩:Bm)):=⟨Vi,fun w=>by kernel_rfl⟩
noncomputable def Oz (p2:List Aa) (p1:List Int) (r2:Bg × Int) (p3:Ag):((List (Int × Bm)) × Int)→Option (Sum ((List (Int × Bm)) × Int) (List (Int × Bm))):=fun s0 =>
 if s0.2 < ((((p2).length:Nat):Int)) then (jn (fun (s1:List (Int × Bm)) =>
 some (.inl (s1,w64 (s0.2+1))))
 (fun j0=>bnd (idx p2 s0.2) fun x0 =>
 bnd (Df p1 x0.Id) fun r0 =>
 if r0=true then (j0 s0.1)
 else (bnd (Rv r2.1 x0 p3) fun r1 =>
 if r1.2.1=true then (gd ((-9223372036854775808≤r1.1∧r1.1≤9223372036854775807)) <|
 bnd (some ((mget s0.1 r1.1).getD ((⟨(⟨0,0,0,(⟨0,0⟩:Br),0,0,0,0⟩:Aa),0⟩:Bm)))) fun x1 =>
 jn (fun (s2:Bool) =>
 if s2=true then (gd ((-9223372036854775808≤r1.1∧r1.1≤9223372036854775807)) <|
 gd ((s0.1).length < 9223372036854775807) <|
 j0 (mput s0.1 r1.1 ((⟨x0,r1.2.2⟩:Bm))))
 else (j0 s0.1))
 (fun j1=>if ((mget s0.1 r1.1).isSome)=true then (if r1.2.2 < x1.far then (j1 true)
 else (if r1.2.2=x1.far then (bnd (Nr x0 x1.p) fun r3 =>
 j1 r3)
 else (j1 false)))
 else (j1 true)))
 else (j0 s0.1))))
 else (some (.inr s0.1))
noncomputable def Yj  : (List Int)→Option (Sum (List Int) (List Int)):=fun s0 =>
 some (.inr s0)
noncomputable def Sx  : (List Int)→Int × Bm→Option (Sum (List Int) (List Int)):=fun s0 p158_ =>
 gd (((s0).length+1)*8≤140737488355328) <|
 some (.inl (s0++[p158_.2.p.Id]))
noncomputable def Rl (p0:List Aa) (p1:List Int) (p2:List Aa) (p3:Ag):Option ((List Int) × Int) :=
 bnd (Fh p0 p1) fun r2 =>
 if r2.2=0 then (jn (fun (s7:List (Int × Bm)) =>
 bnd (Wp p1) fun r0 =>
 jn (fun (s0:List Int) =>
 gd ((s0).length≤1000000) <|
 some (Dr s0,0))
 (fun j0=>Ai8 (Yj) (Sx) s7 r0 fun t0 =>
 j0 t0))
 (fun j7=>bnd (lfix (Oz p2 p1 r2 p3) (([]:List (Int × Bm)),0)) fun t1 =>
 j7 t1))
 else (some (([]:List Int),r2.2))
noncomputable def Mx (p0:List Aa) (r2:List Aa) (p1:Ag):(List Int)→Option (Sum (List Int) (List Int)):=fun s0 =>
 bnd (Rl p0 s0 r2 p1) fun r0 =>
 jn (fun (s1:Bool) =>
 if s1=true then (some (.inr s0))
 else (some (.inl r0.1)))
 (fun j0=>if r0.2=0 then (j0 (decide (((((r0.1).length:Nat):Int))=((((s0).length:Nat):Int)))))
 else (j0 true))
noncomputable def Im (p0:List Aa) (p1:Ag):Option (List Int) :=
 bnd (Eo p0 p1) fun r2 =>
 bnd (Px r2 p1) fun r9 =>
 bnd (lfix (Mx p0 r2 p1) r9) fun t0 =>
 some t0
instance slices_Index___int_int__c (p0:List Int) (p1:Int):Con (Gs p0 p1) Tryz.prog 209 (fun K vs=>∃ (A0_0:Option Addr) (c0_0:Nat),vs=[.slice (A0_0) ((p0).length) (c0_0),.int .i64 (p1)]∧Has K A0_0 (p0).length c0_0 1 Bd (p0)∧True) (fun _ r=>fun v Ln=>v = .int .i64 (r)∧Ln=[]∧True):=⟨by
 rintro K _ r ⟨A0_0,c0_0,rfl,ha0,-⟩ hx w hK;replace ha0:=Has.lo ha0 hK;unfold Gs at hx;refine CtS Tryz.ntmps209 Tryz.results209 ?_;refine pre ?_;intros;rename_i hx
 refine Lw ?_;refine pre ?_;intros;rename_i hx
 apply Jr (γ:=Unit) hx [] (fun s2 y2 f=>f) [999] (fun s2 y2 l=>l);exact kk
 ·intro s2 y2 hx;exact au
 ·intro _ hx;refine pre ?_;intros;rename_i hx
  apply Lr (γ:=Unit) hx [0,1,7] (fun s0 y0 f=>(8,.int .i64 (s0))::f) [999] (fun s0 y0 l=>l) ();exact kk;exact sk;intro s0 y0 x0 hx _;unfold Eh at hx
  exact au⟩
instance Sy (p0:List Int) (p1:Int):Con (Df p0 p1) Tryz.prog 137 (fun K vs=>∃ (A0_0:Option Addr) (c0_0:Nat),vs=[.slice (A0_0) ((p0).length) (c0_0),.int .i64 (p1)]∧Has K A0_0 (p0).length c0_0 1 Bd (p0)∧True) (fun _ r=>fun v Ln=>v = .bool (r)∧Ln=[]∧True):=⟨by
 rintro K _ r ⟨A0_0,c0_0,rfl,ha0,-⟩ hx w hK;replace ha0:=Has.lo ha0 hK;unfold Df at hx;refine CtS Tryz.ntmps137 Tryz.results137 ?_;exact au⟩
theorem Li (p0:List Int) (p1:Int) {K:List Ent} {A0_0:Option Addr} {c0_0:Nat} (ha0:Has K A0_0 (p0).length c0_0 1 Bd (p0)) {r:Bool} (hx:Df p0 p1=some r) (w:World) (hK:∀ e∈K,Ent.ok w e):CtL Tryz.prog 137 [.slice (A0_0) ((p0).length) (c0_0),.int .i64 (p1)] w fun v Ln=>v = .bool (r)∧Ln=[]∧True:=(Sy p0 p1).h K _ _ ⟨_,_,rfl,ha0,trivial⟩ hx w hK
theorem Aa4 (p0:List Aa) (p1:List Int) (p2:List Aa) (p3:Ag) {K:List Ent} {A0_0:Option Addr} {c0_0:Nat} {A0_1:Option Addr} {c0_1:Nat} {A0_2:Option Addr} {c0_2:Nat} (ha0:Has K A0_0 p0.length c0_0 9 Af (p0)) (ha1:Has K A0_1 p1.length c0_1 1 Bd (p1)) (ha2:Has K A0_2 p2.length c0_2 9 Af (p2)) {r:(List Int) × Int} (hx:Rl p0 p1 p2 p3=some r) (w:World) (hK:∀ e∈K,Ent.ok w e):CtL Tryz.prog 67 [.slice (A0_0) (p0.length) (c0_0),.slice (A0_1) (p1.length) (c0_1),.slice (A0_2) (p2.length) (c0_2),.agg #[.int .i64 (p3.Cell),.int .i64 (p3.Reach),.int .i64 (p3.Slope),.int .i64 (p3.Link),.int .i64 (p3.Flat),.int .i64 (p3.Tall),.int .i64 (p3.High),.int .i64 (p3.Low),.int .i64 (p3.Brush),.int .i64 (p3.Few)]] w fun v Ln=>∃ (A0:Option Addr) (c0:Nat),v = .tuple #[.slice (A0) (r.1.length) (c0),.int .i64 (r.2)]∧Ln=[.r A0 r.1.length c0 3 1 (r.1.flatMap Bd)]∧True:=by
 have ha0':=Has.up0 ha0;have ha1':=Has.up0 ha1;have ha2':=Has.up0 ha2;refine CtL.mk 102 Tryz.func67 rfl Tryz.ntmps67 (by kernel_rfl) rfl ?_;show T 102 _ [(0,.slice (A0_0) (p0.length) (c0_0)),(1,.slice (A0_1) (p1.length) (c0_1)),(2,.slice (A0_2) (p2.length) (c0_2)),(3,.agg #[.int .i64 (p3.Cell),.int .i64 (p3.Reach),.int .i64 (p3.Slope),.int .i64 (p3.Link),.int .i64 (p3.Flat),.int .i64 (p3.Tall),.int .i64 (p3.High),.int .i64 (p3.Low),.int .i64 (p3.Brush),.int .i64 (p3.Few)])] _;unfold Rl at hx;refine Y2 ?_;refine T_x (Dy rfl rfl rfl (fun g1=>?_));refine Y8 ?_;obtain ⟨r2,h3,hx4⟩:=Ad hx;refine T_x (Au rfl (fun w1 hw1=>Uz (K:=(K++[])) p0 p1 (Has.len' ha0') (Has.len' ha1') h3 w1 (oP hK hw1)) rfl ?_);rintro _ _ hlo ⟨A5,c6,A7,c8,A9,c1,rfl,rfl,-⟩;refine Lu ?_;refine Y3 ?_;refine T_x (Bj Amc rfl (fun g0=>?_));refine T_h (Ay rfl rfl rfl (.here) (.put (.put (.put (.done)))) rfl (List.cons_ne_nil _ _) Rg.2 ?_);refine Y10 ?_;refine Hf (s:=30) rfl (fun h0=>?_) (fun h0=>?_)
 ·have hx0:=Ne h0 hx4;refine Y10 ?_;refine Bt 3 1 ?_;obtain rfl:=Option.some.inj hx0;exact Bq (rs:=[.tmp 8,.tmp 9]) Tryz.results67 (.tmp rfl (.tmp rfl (.nil))) (Ln:=[.r (none) (0) (0) 3 1 ((([]:List Int)).flatMap Bd)]) ⟨none,0,rfl,rfl,trivial⟩ (Ba rfl (Bw)) (by exact .pick 0 rfl (.drop 0 rfl (.drop 0 rfl (.drop 0 rfl (.drop 0 rfl (.drop 0 rfl (.refl)))))))
 ·have hx1:=Cp h0 hx4;refine Y5 ?_;refine T_x (Sm Tryz.prog 3 Bx El rfl (fun g2=>?_));refine Y3 ?_;refine Tj (γ:=Unit) hx1 (fun s7 y7=>[(1,.slice (A0_1) (p1.length) (c0_1)),(12,.map (some g2))]) (fun s7 y7=>[Bc Tryz.prog 3 Bx El g2 (s7)]++[.old w]) (fun s7 y7=>True) (fun s7 y7 hx2 hG0=>?_) (fun j7 hx1=>?_)
  ·refine Y3 ?_;obtain ⟨r0,h1,hx3⟩:=Ad hx2;refine T_x (Au rfl (fun w1 hw1=>Ab9 (K:=(K++[])) p1 (Has.len' ha1') h1 w1 (oP hK hw1)) rfl ?_);rintro _ _ hlo ⟨A1,c2,rfl,rfl,-⟩;refine Do ?_;refine Y3 ?_;refine Tj (γ:=(Option Addr) × Nat) hx3 (fun s0 y0=>[(20,.slice (y0.1) (s0.length) (y0.2))]) (fun s0 y0=>[.r (y0.1) (s0.length) (y0.2) 3 1 (s0.flatMap Bd)]++[.old w]) (fun s0 y0=>True) (fun s0 y0 hx5 hG1=>?_) (fun j0 hx3=>?_)
   ·refine Y3 ?_;obtain ⟨h2,hx6⟩:=Bh hx5;refine T_h (Ajs (s0) rfl h2 (.here) rfl ?_);refine Y10 ?_;have hn0:s0.length=(Dr s0).length:=(by rw [Ua]);refine En (.here) (e':=.r (y0.1) ((Dr s0).length) (y0.2) 3 1 ((Dr s0).flatMap Bd)) (by first | (rw [← hn0];done) | rfl) ?_;refine Ec (s:=8) (v':=.slice (y0.1) ((Dr s0).length) (y0.2)) rfl (by have hn1:(s0.length)=(Dr s0).length:=(by rw [Ua]);first | (rw [← hn1];done) | rfl) ?_;obtain rfl:=Option.some.inj hx6;exact Bq (rs:=[.tmp 8,.tmp 9]) Tryz.results67 (.tmp rfl (.tmp rfl (.nil))) (Ln:=[.r (y0.1) ((Dr s0).length) (y0.2) 3 1 ((Dr s0).flatMap Bd)]) ⟨y0.1,y0.2,rfl,rfl,trivial⟩ (Ba rfl (Bw)) (by exact .pick 0 rfl (.refl))
   ·refine Y3 ?_;refine T_x (Aan key3 Fw Tryz.underlying173 rfl (fun _=>.there (.here)) rfl (fun g3=>?_));refine Y3 ?_;refine Af6 (σ:=List Int) (γ:=(Option Addr) × Nat × (List (Int × Bm)) × (Option (Int × Bm))) hx3 (fun y1=>y1.2.2.1) (fun s1 y1=>[(20,.slice (y1.1) (s1.length) (y1.2.1)),(88,.pointer (some ⟨g3,0,none⟩))]) (fun s1 y1=>[.r (y1.1) (s1.length) (y1.2.1) 3 1 (s1.flatMap Bd),rngE Tryz.prog 3 Bx El g2 g3 (s7) (y1.2.2.1) (y1.2.2.2)]++[.old w]) (fun s1 y1=>True) (A1,c2,s7,(none:Option (Int × Bm))) rfl trivial (by exact .cons rfl (.cons rfl (.nil))) (by exact .pick 0 rfl (.pick 0 rfl (.refl))) ?_;intro s1 y1 hG2 hm0
    replace hm0:MR _ _ y1.2.2.1 s1 r:=hm0
    refine Y2 ?_;refine T_h (Ace key3 Fw Vi rfl (i:=1) (fun _ _=>.there (.here)) rfl (fun hn2=>?_) (fun p158_ hp0=>?_))
    ·obtain ⟨x0,hx7,ht0⟩:=MR.noneK hm0 hn2;unfold Yj at hx7;refine Y7 ?_;have hk0:=Ad6 ht0 hx7;refine Xr (.there (.here)) ?_;refine Y2 ?_;exact Mu s1 (y1.1,y1.2.1) hk0 trivial
    ·obtain ⟨x0,hx7,ht0,hn3⟩:=MR.someK hm0 hp0;unfold Sx at hx7;refine Y10 ?_;refine Aj (Aao (kv:=.int .i64 (p158_.1)) (vv:=.agg #[.int .i64 (p158_.2.p.Id),.int .i64 (p158_.2.p.X),.int .i64 (p158_.2.p.Y),.int .i64 (p158_.2.p.Z.Lo),.int .i64 (p158_.2.p.Z.Hi),.int .i64 (p158_.2.p.Wide),.int .i64 (p158_.2.p.Num),.int .i64 (p158_.2.p.Of),.int .i64 (p158_.2.p.Class),.int .i64 (p158_.2.far)]) rfl (i:=1) rfl rfl rfl) rfl ?_;refine Y ?_;refine T_x (Bj Anl rfl (fun g4=>?_));refine T_h (Ay rfl rfl rfl (.here) (.put (.put (.put (.put (.put (.put (.put (.put (.put (.put (.done))))))))))) rfl (List.cons_ne_nil _ _) Anm.2 ?_);refine Y4 ?_;refine Aj (Ao rfl Agm rfl) rfl ?_;refine Aj (Ao rfl My rfl) rfl ?_;refine Aj (Aq rfl (i:=0) rfl rfl one3) rfl ?_;refine T_x (Bv rfl (Oe _) rfl (fun g5=>?_));obtain ⟨h4,hx8⟩:=Bh hx7;refine T_h (Dv Bd (s1) [p158_.2.p.Id] rfl rfl rfl Age (fun _=>rfl) (i':=0) rfl rfl rfl rfl h4 rfl (fun _ _=>.there (.there (.here))) (fun _ _=>.drop .refl) (by decide) (fun A2 c3=>?_));refine Y3 ?_;exact Uw (s1++[p158_.2.p.Id]) (A2,c3,mdel y1.2.2.1 p158_.1,(some p158_:Option (Int × Bm))) hx8 hn3 hp0 rfl trivial (by exact .cons rfl (.cons rfl (.nil))) (by exact .pick 1 rfl (.pick 1 rfl (.drop 0 rfl (.refl))))
  ·refine Y3 ?_;refine Aj (Cb rfl 66 Tryz.underlying47) rfl ?_;refine Y4 ?_;obtain ⟨t0,hl0,ho0⟩:=Ad hx1;refine Lp (σ:=(List (Int × Bm)) × Int) (γ:=Unit) hl0 (fun s2 y2=>[(1,.slice (A0_1) (p1.length) (c0_1)),(7,.pointer (some ⟨g1,0,none⟩)),(10,.pointer (some ⟨g0,0,none⟩)),(12,.map (some g2)),(33,.slice (A0_2) (p2.length) (c0_2)),(34,.int .i64 (((p2.length:Nat):Int))),(35,.int .i64 (s2.2))]) (fun s2 y2=>[Bc Tryz.prog 3 Bx El g2 (s2.1),.m g0 40 [.slice (A5) (r2.1.V.length) (c6),.slice (A7) (r2.1.T.length) (c8),.slice (A9) (r2.1.Lines.length) (c1)],.r (A5) (r2.1.V.length) (c6) 34 4 (r2.1.V.flatMap Al),.r (A7) (r2.1.T.length) (c8) 26 3 (r2.1.T.flatMap Bi),.r (A9) (r2.1.Lines.length) (c1) 97 2 (r2.1.Lines.flatMap Av),.m g1 54 [.int .i64 (p3.Cell),.int .i64 (p3.Reach),.int .i64 (p3.Slope),.int .i64 (p3.Link),.int .i64 (p3.Flat),.int .i64 (p3.Tall),.int .i64 (p3.High),.int .i64 (p3.Low),.int .i64 (p3.Brush),.int .i64 (p3.Few)]]++[.old w]) (fun s2 y2=>True) () trivial (by exact .pick 0 rfl (.pick 0 rfl (.pick 0 rfl (.pick 0 rfl (.pick 0 rfl (.pick 0 rfl (.refl))))))) ?_;intro s2 y2 hG3 x1 hx9 ht1;unfold Oz at hx9;refine Y6 ?_;refine Ti hx9 (s:=36) rfl (fun h5 hx81=>?_) (fun h5 hx82=>?_)
   ·refine Y3 ?_;refine Tj (γ:=Unit) hx81 (fun s3 y3=>[(1,.slice (A0_1) (p1.length) (c0_1)),(7,.pointer (some ⟨g1,0,none⟩)),(10,.pointer (some ⟨g0,0,none⟩)),(12,.map (some g2)),(33,.slice (A0_2) (p2.length) (c0_2)),(34,.int .i64 (((p2.length:Nat):Int))),(35,.int .i64 (s2.2))]) (fun s3 y3=>[Bc Tryz.prog 3 Bx El g2 (s3),.m g0 40 [.slice (A5) (r2.1.V.length) (c6),.slice (A7) (r2.1.T.length) (c8),.slice (A9) (r2.1.Lines.length) (c1)],.r (A5) (r2.1.V.length) (c6) 34 4 (r2.1.V.flatMap Al),.r (A7) (r2.1.T.length) (c8) 26 3 (r2.1.T.flatMap Bi),.r (A9) (r2.1.Lines.length) (c1) 97 2 (r2.1.Lines.flatMap Av),.m g1 54 [.int .i64 (p3.Cell),.int .i64 (p3.Reach),.int .i64 (p3.Slope),.int .i64 (p3.Link),.int .i64 (p3.Flat),.int .i64 (p3.Tall),.int .i64 (p3.High),.int .i64 (p3.Low),.int .i64 (p3.Brush),.int .i64 (p3.Few)]]++[.old w]) (fun s3 y3=>True) (fun s3 y3 hx10 hG4=>?_) (fun j1 hx81=>?_)
    ·refine Y4 ?_;exact Ru (s3,w64 (s2.2+1)) () hx10 trivial
    ·refine Y3 ?_;obtain ⟨x2,h6,hx85⟩:=Ad hx81;have hw0:=Has.low (E:=[]) ha2' hK;obtain ⟨b0,o0,j2,hA0,hj0,hl1,hp1⟩:=Has.at_idx hw0 h6;refine Aj (Be rfl rfl hA0 (j:=j2) hj0 hl1 Qm) rfl ?_;refine Aj (Co rfl hp1 (sb 6) rfl Cy) rfl ?_;refine T_x (Bj Mz rfl (fun g6=>?_));refine T_h (Ay rfl rfl rfl (.here) (.put (.put (.put (.put (.put (.put (.put (.put (.put (.done)))))))))) rfl (List.cons_ne_nil _ _) Cy.2 ?_);refine Y6 ?_;refine Aj (Ao rfl My rfl) rfl ?_;refine Aj (Aq rfl (i:=0) rfl rfl one3) rfl ?_;obtain ⟨r1,h7,hx97⟩:=Ad hx85;refine Tc (fun w1 hw1=>Li (K:=(K++[])) p1 x2.Id (Has.len' ha1') h7 w1 (oP hK hw1)) ?_;refine Y2 ?_;refine Dm (s:=42) rfl (fun h8=>?_) (fun h8=>?_)
     ·have hx99:=Cp h8 hx97;refine Y4 ?_;exact Mu s2.1 () hx99 trivial
     ·have hx11:=Db h8 hx97;refine Y5 ?_;refine Aj (Az rfl (i:=2) rfl rfl Rg) rfl ?_;refine Aj (Az rfl (i:=0) rfl rfl Cy) rfl ?_;refine Aj (Az rfl (i:=6) rfl rfl Om) rfl ?_;refine Cw (k:=3) rfl (by decide) (fun _=>rfl) (fun hn4 hs0=>?_);refine Cw (k:=4) rfl (by decide) (fun _=>rfl) (fun hn5 hs1=>?_);refine Cw (k:=5) rfl (by decide) (fun _=>rfl) (fun hn6 hs2=>?_);obtain ⟨r3,h9,hx12⟩:=Ad hx11;refine Tc (fun w1 hw1=>Ah7 (K:=([.r (A5) (r2.1.V.length) (c6) 34 4 (r2.1.V.flatMap Al),.r (A7) (r2.1.T.length) (c8) 26 3 (r2.1.T.flatMap Bi),.r (A9) (r2.1.Lines.length) (c1) 97 2 (r2.1.Lines.flatMap Av)]:List Ent)) r2.1 x2 p3 (Has.len' (Hu hs0)) (Has.len' (Hu hs1)) (Has.len' (Hu hs2)) h9 w1 (oA hw1)) ?_
      (iterate 16 refine Y ?_);refine Fm (s:=52) rfl (fun h10=>?_) (fun h10=>?_)
      ·have hx15:=Db h10 hx12;refine Y4 ?_;exact Mu s2.1 () hx15 trivial
      ·have hx16:=Cp h10 hx12;refine Y7 ?_;obtain ⟨h11,hx17⟩:=Bh hx16;obtain ⟨x3,h13,hx18⟩:=Ad hx17;refine Aj (Ka (x:=r3.1) (i:=1) (vv:=.agg #[.int .i64 (x3.p.Id),.int .i64 (x3.p.X),.int .i64 (x3.p.Y),.int .i64 (x3.p.Z.Lo),.int .i64 (x3.p.Z.Hi),.int .i64 (x3.p.Wide),.int .i64 (x3.p.Num),.int .i64 (x3.p.Of),.int .i64 (x3.p.Class),.int .i64 (x3.far)]) key3 Tryz.underlying173 (fun w=>by kernel_rfl) Fw rfl rfl rfl rfl Ez (isk3 r3.1 h11) h13 rfl) rfl ?_;refine Y3 ?_;refine T_x (Bj Anl rfl (fun g7=>?_));refine T_h (Ay rfl rfl rfl (.here) (.put (.put (.put (.put (.put (.put (.put (.put (.put (.put (.done))))))))))) rfl (List.cons_ne_nil _ _) Anm.2 ?_);refine Y3 ?_;refine Tj (γ:=Unit) hx18 (fun s4 y4=>[(1,.slice (A0_1) (p1.length) (c0_1)),(7,.pointer (some ⟨g1,0,none⟩)),(10,.pointer (some ⟨g0,0,none⟩)),(12,.map (some g2)),(14,.pointer (some ⟨g6,0,none⟩)),(15,.int .i64 (r3.1)),(17,.int .i64 (r3.2.2)),(33,.slice (A0_2) (p2.length) (c0_2)),(34,.int .i64 (((p2.length:Nat):Int))),(35,.int .i64 (s2.2)),(78,.bool (s4))]) (fun s4 y4=>[.m g6 66 [.int .i64 (x2.Id),.int .i64 (x2.X),.int .i64 (x2.Y),.int .i64 (x2.Z.Lo),.int .i64 (x2.Z.Hi),.int .i64 (x2.Wide),.int .i64 (x2.Num),.int .i64 (x2.Of),.int .i64 (x2.Class)],Bc Tryz.prog 3 Bx El g2 (s2.1),.m g0 40 [.slice (A5) (r2.1.V.length) (c6),.slice (A7) (r2.1.T.length) (c8),.slice (A9) (r2.1.Lines.length) (c1)],.r (A5) (r2.1.V.length) (c6) 34 4 (r2.1.V.flatMap Al),.r (A7) (r2.1.T.length) (c8) 26 3 (r2.1.T.flatMap Bi),.r (A9) (r2.1.Lines.length) (c1) 97 2 (r2.1.Lines.flatMap Av),.m g1 54 [.int .i64 (p3.Cell),.int .i64 (p3.Reach),.int .i64 (p3.Slope),.int .i64 (p3.Link),.int .i64 (p3.Flat),.int .i64 (p3.Tall),.int .i64 (p3.High),.int .i64 (p3.Low),.int .i64 (p3.Brush),.int .i64 (p3.Few)]]++[.old w]) (fun s4 y4=>True) (fun s4 y4 hx19 hG5=>?_) (fun j3 hx18=>?_)
       ·refine Dm (s:=78) rfl (fun h14=>?_) (fun h14=>?_)
        ·have hx20:=Cp h14 hx19;refine Y4 ?_;refine Aj (Az rfl (i:=0) rfl rfl Cy) rfl ?_;refine Y ?_;refine Aj (Ct rfl (Gf _ _ _ _ _ _ _ _ _ _)) rfl ?_;obtain ⟨h15,hx21⟩:=Bh hx20;obtain ⟨h16,hx22⟩:=Bh hx21;refine T_h (Nn (x:=r3.1) (y:=(⟨x2,r3.2.2⟩:Bm)) key3 Fw Tryz.underlying173 rfl rfl rfl rfl rfl (.there (.here)) (isk3 r3.1 h15) h16 ?_);refine Y2 ?_;exact Mu (mput s2.1 r3.1 ((⟨x2,r3.2.2⟩:Bm))) () hx22 trivial
        ·have hx23:=Db h14 hx19;refine Y3 ?_;exact Mu s2.1 () hx23 trivial
       ·refine Y4 ?_;refine Fm (s:=61) rfl (fun h17=>?_) (fun h17=>?_)
        ·have hx24:=Db h17 hx18;(iterate 18 refine Y ?_);exact Mu true () hx24 trivial
        ·have hx25:=Cp h17 hx18;refine Y ?_;refine Dd rfl rfl rfl (Ao rfl Agl rfl) rfl ?_;refine Dd rfl rfl rfl (Aq rfl (i:=0) rfl rfl one3) rfl ?_;refine Y3 ?_;refine Ti hx25 (s:=67) rfl (fun h18 hx26=>?_) (fun h18 hx27=>?_)
         ·refine Y12 ?_;exact Mu true () hx26 trivial
         ·refine Y ?_;refine Dd rfl rfl rfl (Ao rfl Agl rfl) rfl ?_;refine Dd rfl rfl rfl (Aq rfl (i:=0) rfl rfl one3) rfl ?_;refine Y2 ?_;refine Ti hx27 (s:=72) rfl (fun h19 hx28=>?_) (fun h19 hx29=>?_)
          ·refine Dd rfl rfl rfl (Az rfl (i:=1) rfl rfl Cy) rfl ?_;refine Dd rfl rfl rfl (Ao rfl Agm rfl) rfl ?_;refine Dd rfl rfl rfl (Az rfl (i:=0) rfl rfl Cy) rfl ?_;obtain ⟨r4,h20,hx30⟩:=Ad hx28;refine T_xG rfl rfl rfl (Au rfl (fun w1 hw1=>Zn x2 x3.p  h20 w1) rfl ?_);rintro _ _ hlo ⟨rfl,rfl,-⟩;refine Dh ?_;refine Y3 ?_;exact Mu r4 () hx30 trivial
          ·refine Y7 ?_;exact Mu false () hx29 trivial
   ·refine Y3 ?_;obtain rfl:=Cq ht1 hx82;refine Y2 ?_;exact Mu s2.1 () ho0 trivial
instance label_grow_c (p0:List Aa) (p1:List Int) (p2:List Aa) (p3:Ag):Con (Rl p0 p1 p2 p3) Tryz.prog 67 (fun K vs=>∃ (A0_0:Option Addr) (c0_0:Nat) (A0_1:Option Addr) (c0_1:Nat) (A0_2:Option Addr) (c0_2:Nat),vs=[.slice (A0_0) ((p0).length) (c0_0),.slice (A0_1) ((p1).length) (c0_1),.slice (A0_2) ((p2).length) (c0_2),.agg #[.int .i64 (p3.Cell),.int .i64 (p3.Reach),.int .i64 (p3.Slope),.int .i64 (p3.Link),.int .i64 (p3.Flat),.int .i64 (p3.Tall),.int .i64 (p3.High),.int .i64 (p3.Low),.int .i64 (p3.Brush),.int .i64 (p3.Few)]]∧Has K A0_0 (p0).length c0_0 9 Af (p0)∧Has K A0_1 (p1).length c0_1 1 Bd (p1)∧Has K A0_2 (p2).length c0_2 9 Af (p2)∧True) (fun _ r=>fun v Ln=>∃ (A0:Option Addr) (c0:Nat),v = .tuple #[.slice (A0) ((r.1).length) (c0),.int .i64 (r.2)]∧Ln=[.r A0 (r.1).length c0 3 1 ((r.1).flatMap Bd)]∧True):=⟨by
 rintro K _ r ⟨A0_0,c0_0,A0_1,c0_1,A0_2,c0_2,rfl,ha0,ha1,ha2,-⟩ hx w hK;exact Aa4 p0 p1 p2 p3 ha0 ha1 ha2 hx w hK⟩
theorem Vj (p0:List Aa) (p1:Ag) {K:List Ent} {A0_0:Option Addr} {c0_0:Nat} (ha0:Has K A0_0 p0.length c0_0 9 Af (p0)) {r:List Int} (hx:Im p0 p1=some r) (w:World) (hK:∀ e∈K,Ent.ok w e):CtL Tryz.prog 72 [.slice (A0_0) (p0.length) (c0_0),.agg #[.int .i64 (p1.Cell),.int .i64 (p1.Reach),.int .i64 (p1.Slope),.int .i64 (p1.Link),.int .i64 (p1.Flat),.int .i64 (p1.Tall),.int .i64 (p1.High),.int .i64 (p1.Low),.int .i64 (p1.Brush),.int .i64 (p1.Few)]] w fun v Ln=>∃ (A0:Option Addr) (c0:Nat),v = .slice (A0) (r.length) (c0)∧Ln=[.r A0 r.length c0 3 1 (r.flatMap Bd)]∧True:=by
 have ha0':=Has.up0 ha0;refine CtL.mk 34 Tryz.func72 rfl Tryz.ntmps72 (by kernel_rfl) rfl ?_;show T 34 _ [(0,.slice (A0_0) (p0.length) (c0_0)),(1,.agg #[.int .i64 (p1.Cell),.int .i64 (p1.Reach),.int .i64 (p1.Slope),.int .i64 (p1.Link),.int .i64 (p1.Flat),.int .i64 (p1.Tall),.int .i64 (p1.High),.int .i64 (p1.Low),.int .i64 (p1.Brush),.int .i64 (p1.Few)])] _;unfold Im at hx;refine Y2 ?_;refine T_x (Dy rfl rfl rfl (fun g1=>?_));refine Y6 ?_;refine Aj (Az rfl (i:=0) rfl rfl Om) rfl ?_;obtain ⟨r2,h3,hx4⟩:=Ad hx;refine T_x (Au rfl (fun w1 hw1=>Th (K:=(K++[])) p0 p1 (Has.len' ha0') h3 w1 (oP hK hw1)) rfl ?_);rintro _ _ hlo ⟨A5,c6,rfl,rfl,-⟩;refine Do ?_;refine Y6 ?_;refine Aj (Az rfl (i:=1) rfl rfl Om) rfl ?_;refine Cw (k:=0) rfl (by decide) (fun _=>rfl) (fun hn7 hs8=>?_);obtain ⟨r9,h0,hx0⟩:=Ad hx4;refine T_x (Au rfl (fun w1 hw1=>Yz (K:=([.r (A5) (r2.length) (c6) 66 9 (r2.flatMap Af)]:List Ent)) r2 p1 (Has.len' hs8) h0 w1 (oA hw1)) rfl ?_);rintro _ _ hlo ⟨A1,c1,rfl,rfl,-⟩;refine Do ?_;refine Y4 ?_;obtain ⟨t0,hl0,ho0⟩:=Ad hx0;refine Lp (σ:=List Int) (γ:=(Option Addr) × Nat) hl0 (fun s0 y0=>[(0,.slice (A0_0) (p0.length) (c0_0)),(3,.pointer (some ⟨g1,0,none⟩)),(5,.slice (A5) (r2.length) (c6)),(6,.slice (y0.1) (s0.length) (y0.2))]) (fun s0 y0=>[.r (y0.1) (s0.length) (y0.2) 3 1 (s0.flatMap Bd),.r (A5) (r2.length) (c6) 66 9 (r2.flatMap Af),.m g1 54 [.int .i64 (p1.Cell),.int .i64 (p1.Reach),.int .i64 (p1.Slope),.int .i64 (p1.Link),.int .i64 (p1.Flat),.int .i64 (p1.Tall),.int .i64 (p1.High),.int .i64 (p1.Low),.int .i64 (p1.Brush),.int .i64 (p1.Few)]]++[.old w]) (fun s0 y0=>True) (A1,c1) trivial (by exact .pick 0 rfl (.pick 0 rfl (.pick 0 rfl (.refl)))) ?_
 intro s0 y0 hG0 x0 hx1 ht0;unfold Mx at hx1;refine Y6 ?_;refine Aj (Az rfl (i:=2) rfl rfl Om) rfl ?_;refine Cw (k:=0) rfl (by decide) (fun _=>rfl) (fun hn0 hs0=>?_);refine Cw (k:=1) rfl (by decide) (fun _=>rfl) (fun hn1 hs1=>?_);obtain ⟨r0,h1,hx2⟩:=Ad hx1;refine T_x (Au rfl (fun w1 hw1=>Aa4 (K:=(K++[.r (y0.1) (s0.length) (y0.2) 3 1 (s0.flatMap Bd),.r (A5) (r2.length) (c6) 66 9 (r2.flatMap Af)])) p0 s0 r2 p1 (Has.len' (Hu ha0')) (Has.len' (Hu hs0)) (Has.len' (Hu hs1)) h1 w1 (oP hK hw1)) rfl ?_);rintro _ _ hlo ⟨A2,c2,rfl,rfl,-⟩;refine Do ?_;refine Y8 ?_;refine Tj (γ:=Unit) hx2 (fun s1 y1=>[(0,.slice (A0_0) (p0.length) (c0_0)),(3,.pointer (some ⟨g1,0,none⟩)),(5,.slice (A5) (r2.length) (c6)),(6,.slice (y0.1) (s0.length) (y0.2)),(7,.slice (A2) (r0.1.length) (c2)),(31,.bool (s1))]) (fun s1 y1=>[.r (A2) (r0.1.length) (c2) 3 1 (r0.1.flatMap Bd),.r (y0.1) (s0.length) (y0.2) 3 1 (s0.flatMap Bd),.r (A5) (r2.length) (c6) 66 9 (r2.flatMap Af),.m g1 54 [.int .i64 (p1.Cell),.int .i64 (p1.Reach),.int .i64 (p1.Slope),.int .i64 (p1.Link),.int .i64 (p1.Flat),.int .i64 (p1.Tall),.int .i64 (p1.High),.int .i64 (p1.Low),.int .i64 (p1.Brush),.int .i64 (p1.Few)]]++[.old w]) (fun s1 y1=>True) (fun s1 y1 hx3 hG1=>?_) (fun j0 hx2=>?_)
 ·refine Dm (s:=31) rfl (fun h2=>?_) (fun h2=>?_)
  ·have hx5:=Cp h2 hx3;refine Y10 ?_;obtain rfl:=Cq ht0 hx5;refine Y2 ?_;obtain rfl:=Option.some.inj ho0;exact Bq (rs:=[.tmp 4]) Tryz.results72 (.tmp rfl (.nil)) (Ln:=[.r (y0.1) (s0.length) (y0.2) 3 1 (s0.flatMap Bd)]) ⟨y0.1,y0.2,rfl,rfl,trivial⟩ (Ba rfl (Bw)) (by exact .pick 1 rfl (.drop 0 rfl (.drop 0 rfl (.drop 0 rfl (.refl)))))
  ·have hx6:=Db h2 hx3;refine Y8 ?_;exact Ru r0.1 (A2,c2) hx6 trivial
 ·refine Y4 ?_;refine Hf (s:=25) rfl (fun h4=>?_) (fun h4=>?_)
  ·have hx7:=Ne h4 hx2;refine Y7 ?_;exact Mu true () hx7 trivial
  ·have hx8:=Cp h4 hx2;refine Y ?_;refine Dd rfl rfl rfl (Cb rfl 3 Tryz.underlying48) rfl ?_;refine Y ?_;refine Dd rfl rfl rfl (Cb rfl 3 Tryz.underlying48) rfl ?_;refine Y3 ?_;exact Mu (decide ((((r0.1.length:Nat):Int))=(((s0.length:Nat):Int)))) () hx8 trivial
instance label_groundOf_c (p0:List Aa) (p1:Ag):Con (Im p0 p1) Tryz.prog 72 (fun K vs=>∃ (A0_0:Option Addr) (c0_0:Nat),vs=[.slice (A0_0) ((p0).length) (c0_0),.agg #[.int .i64 (p1.Cell),.int .i64 (p1.Reach),.int .i64 (p1.Slope),.int .i64 (p1.Link),.int .i64 (p1.Flat),.int .i64 (p1.Tall),.int .i64 (p1.High),.int .i64 (p1.Low),.int .i64 (p1.Brush),.int .i64 (p1.Few)]]∧Has K A0_0 (p0).length c0_0 9 Af (p0)∧True) (fun _ r=>fun v Ln=>∃ (A0:Option Addr) (c0:Nat),v = .slice (A0) ((r).length) (c0)∧Ln=[.r A0 (r).length c0 3 1 ((r).flatMap Bd)]∧True):=⟨by
 rintro K _ r ⟨A0_0,c0_0,rfl,ha0,-⟩ hx w hK;exact Vj p0 p1 ha0 hx w hK⟩
end Go.Proofs.YtbkobeeileemjaaGreat
