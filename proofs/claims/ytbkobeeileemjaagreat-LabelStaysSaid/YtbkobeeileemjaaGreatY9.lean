/- Walks of the program, with their plain functions: LabelStays. -/
import Derived.Test.YtbkobeeileemjaaGreatY8
namespace Go.Proofs.YtbkobeeileemjaaGreat
open Go Go.RowKit
set_option maxRecDepth 100000
set_option maxHeartbeats 1000000
theorem Js (x0:Int) (x1:Int) (x2:Int) (x3:Int) (x4:Int) (x5:Int):Cx Tryz.prog 48 6 [(0,.int .i64 x0),(1,.int .i64 x1),(2,.int .i64 x2),(3,.int .i64 x3),(4,.int .i64 x4),(5,.int .i64 x5)] 3 [.int .i64 x0,.int .i64 x1,.int .i64 x2,.int .i64 x3,.int .i64 x4,.int .i64 x5]:=fun w=>by kernel_rfl
instance (x0:Int) (x1:Int) (x2:Int) (x3:Int) (x4:Int) (x5:Int):Hl Tryz.prog 48 6 [(0,.int .i64 x0),(1,.int .i64 x1),(2,.int .i64 x2),(3,.int .i64 x3),(4,.int .i64 x4),(5,.int .i64 x5)] 3 [.int .i64 x0,.int .i64 x1,.int .i64 x2,.int .i64 x3,.int .i64 x4,.int .i64 x5]:=⟨Js _ _ _ _ _ _⟩
theorem Aoz:Ca Tryz.prog 80 0 0:=.mk Tryz.underlying80 rfl rfl (show Tryz.prog.info? 47=some Tryz.t47 from by kernel_rfl) (show Tryz.t47.size=1 from by kernel_rfl) rfl
instance:Cs Tryz.prog 80 0 0:=⟨Aoz⟩
theorem Ao0:Ca Tryz.prog 80 1 1:=.mk Tryz.underlying80 rfl rfl (show Tryz.prog.info? 54=some Tryz.t54 from by kernel_rfl) (show Tryz.t54.size=10 from by kernel_rfl) rfl
instance:Cs Tryz.prog 80 1 1:=⟨Ao0⟩
theorem Ao1:Ca Tryz.prog 80 2 11:=.mk Tryz.underlying80 rfl rfl (show Tryz.prog.info? 73=some Tryz.t73 from by kernel_rfl) (show Tryz.t73.size=1 from by kernel_rfl) rfl
instance:Cs Tryz.prog 80 2 11:=⟨Ao1⟩
theorem Axy:Lg Tryz.prog 73:=.mk Tryz.underlying73 rfl (show Tryz.prog.info? 73=some Tryz.t73 from by kernel_rfl) (by kernel_rfl)
instance:OneI Tryz.prog 73:=⟨Axy⟩
theorem Ao2:Ca Tryz.prog 80 3 12:=.mk Tryz.underlying80 rfl rfl (show Tryz.prog.info? 5=some Tryz.t5 from by kernel_rfl) (show Tryz.t5.size=1 from by kernel_rfl) rfl
instance:Cs Tryz.prog 80 3 12:=⟨Ao2⟩
theorem one5:Lg Tryz.prog 5:=.mk Tryz.underlying5 rfl (show Tryz.prog.info? 5=some Tryz.t5 from by kernel_rfl) (by kernel_rfl)
instance:OneI Tryz.prog 5:=⟨one5⟩
theorem Ao3:Ca Tryz.prog 80 4 13:=.mk Tryz.underlying80 rfl rfl (show Tryz.prog.info? 5=some Tryz.t5 from by kernel_rfl) (show Tryz.t5.size=1 from by kernel_rfl) rfl
instance:Cs Tryz.prog 80 4 13:=⟨Ao3⟩
theorem Axz:Jd Tryz.prog 54 [.int .i64 (0),.int .i64 (0),.int .i64 (0),.int .i64 (0),.int .i64 (0),.int .i64 (0),.int .i64 (0),.int .i64 (0),.int .i64 (0),.int .i64 (0)]:=⟨_,Tryz.zeroValue54,rfl⟩
instance:Sn Tryz.prog 54 [.int .i64 (0),.int .i64 (0),.int .i64 (0),.int .i64 (0),.int .i64 (0),.int .i64 (0),.int .i64 (0),.int .i64 (0),.int .i64 (0),.int .i64 (0)]:=⟨Axz⟩
theorem Alk  : Cx Tryz.prog 73 0 [] 84 []:=fun w=>by kernel_rfl
instance:Hl Tryz.prog 73 0 [] 84 []:=⟨Alk⟩
theorem Ast:Sz Tryz.prog 73 84 4 48:=⟨Tryz.underlying73,⟨Tryz.t84,.agg #[.int .i64 (0),.slice (none) (0) (0),.int .i64 (0),.int .i64 (0)],by kernel_rfl,by kernel_rfl,by kernel_rfl,by kernel_rfl,rfl⟩,by decide⟩
instance:Zh Tryz.prog 73 84 4 48:=⟨Ast⟩
theorem Yv (x0:Int) (x1:Int):Gd Tryz.prog 84 [(0,.int .i64 x0),(3,.int .i64 x1)] [.int .i64 x0,.slice (none) (0) (0),.int .i64 (0),.int .i64 x1]:=fun w=>by kernel_rfl
instance (x0:Int) (x1:Int):Kb Tryz.prog 84 [(0,.int .i64 x0),(3,.int .i64 x1)] [.int .i64 x0,.slice (none) (0) (0),.int .i64 (0),.int .i64 x1]:=⟨Yv _ _⟩
theorem Sh (x0:Int) (x1:Option Addr) (x2:Nat) (x3:Nat) (x4:Int) (x5:Int):Cx Tryz.prog 73 1 [(0,.agg #[.int .i64 x0,.slice x1 x2 x3,.int .i64 x4,.int .i64 x5])] 84 [.int .i64 x0,.slice x1 x2 x3,.int .i64 x4,.int .i64 x5]:=fun w=>by kernel_rfl
instance (x0:Int) (x1:Option Addr) (x2:Nat) (x3:Nat) (x4:Int) (x5:Int):Hl Tryz.prog 73 1 [(0,.agg #[.int .i64 x0,.slice x1 x2 x3,.int .i64 x4,.int .i64 x5])] 84 [.int .i64 x0,.slice x1 x2 x3,.int .i64 x4,.int .i64 x5]:=⟨Sh _ _ _ _ _ _⟩
theorem Ax0 (a0:Int) (a1:Int) (a2:Int) (a3:Int) (a4:Int) (a5:Int) (a6:Int) (a7:Int) (a8:Int) (b0:Int) (b1:Int) (b2:Int) (b3:Int) (b4:Int) (b5:Int) (b6:Int) (b7:Int) (b8:Int):∀ w,(Op.equalIn 10000 66 (.agg #[.int .i64 (a0),.int .i64 (a1),.int .i64 (a2),.int .i64 (a3),.int .i64 (a4),.int .i64 (a5),.int .i64 (a6),.int .i64 (a7),.int .i64 (a8)]) (.agg #[.int .i64 (b0),.int .i64 (b1),.int .i64 (b2),.int .i64 (b3),.int .i64 (b4),.int .i64 (b5),.int .i64 (b6),.int .i64 (b7),.int .i64 (b8)])).run Tryz.prog w = .ok ((((a0) == (b0)) && (((a1) == (b1)) && (((a2) == (b2)) && ((((a3) == (b3)) && (((a4) == (b4)) && true)) && (((a5) == (b5)) && (((a6) == (b6)) && (((a7) == (b7)) && (((a8) == (b8)) && true))))))))) w :=
 EqF.struct Tryz.underlying66 (by kernel_rfl) (.cons rfl (fun w=>by kernel_rfl) (fun w=>by kernel_rfl) (fun w=>run_equalIn_int w 9998 3 .i64 .i64 _ _ Tryz.underlying3) (.cons rfl (fun w=>by kernel_rfl) (fun w=>by kernel_rfl) (fun w=>run_equalIn_int w 9998 3 .i64 .i64 _ _ Tryz.underlying3) (.cons rfl (fun w=>by kernel_rfl) (fun w=>by kernel_rfl) (fun w=>run_equalIn_int w 9998 3 .i64 .i64 _ _ Tryz.underlying3) (.cons (a:=.agg #[.int .i64 (a3),.int .i64 (a4)]) (b:=.agg #[.int .i64 (b3),.int .i64 (b4)]) rfl (fun w=>by kernel_rfl) (fun w=>by kernel_rfl) (EqF.struct Tryz.underlying32 (by kernel_rfl) (.cons rfl (fun w=>by kernel_rfl) (fun w=>by kernel_rfl) (fun w=>run_equalIn_int w 9997 3 .i64 .i64 _ _ Tryz.underlying3) (.cons rfl (fun w=>by kernel_rfl) (fun w=>by kernel_rfl) (fun w=>run_equalIn_int w 9997 3 .i64 .i64 _ _ Tryz.underlying3) (EqF.nil)))) (.cons rfl (fun w=>by kernel_rfl) (fun w=>by kernel_rfl) (fun w=>run_equalIn_int w 9998 3 .i64 .i64 _ _ Tryz.underlying3) (.cons rfl (fun w=>by kernel_rfl) (fun w=>by kernel_rfl) (fun w=>run_equalIn_int w 9998 3 .i64 .i64 _ _ Tryz.underlying3) (.cons rfl (fun w=>by kernel_rfl) (fun w=>by kernel_rfl) (fun w=>run_equalIn_int w 9998 3 .i64 .i64 _ _ Tryz.underlying3) (.cons rfl (fun w=>by kernel_rfl) (fun w=>by kernel_rfl) (fun w=>run_equalIn_int w 9998 3 .i64 .i64 _ _ Tryz.underlying3) (EqF.nil)))))))))
instance (a0:Int) (a1:Int) (a2:Int) (a3:Int) (a4:Int) (a5:Int) (a6:Int) (a7:Int) (a8:Int) (b0:Int) (b1:Int) (b2:Int) (b3:Int) (b4:Int) (b5:Int) (b6:Int) (b7:Int) (b8:Int):EqSI Tryz.prog 66 [.int .i64 (a0),.int .i64 (a1),.int .i64 (a2),.int .i64 (a3),.int .i64 (a4),.int .i64 (a5),.int .i64 (a6),.int .i64 (a7),.int .i64 (a8)] [.int .i64 (b0),.int .i64 (b1),.int .i64 (b2),.int .i64 (b3),.int .i64 (b4),.int .i64 (b5),.int .i64 (b6),.int .i64 (b7),.int .i64 (b8)] ((((a0) == (b0)) && (((a1) == (b1)) && (((a2) == (b2)) && ((((a3) == (b3)) && (((a4) == (b4)) && true)) && (((a5) == (b5)) && (((a6) == (b6)) && (((a7) == (b7)) && (((a8) == (b8)) && true))))))))):=⟨Ax0 _ _ _ _ _ _ _ _ _ _ _ _ _ _ _ _ _ _,by kernel_rfl⟩
noncomputable def Hc (p0:List Bb):Int→Option (Sum Int (Sum Unit Bool)):=fun s0 =>
 if s0 < ((((p0).length:Nat):Int)) then (bnd (idx p0 s0) fun x0 =>
 if 200 < ((((x0.Ring).length:Nat):Int)) then (some (.inr (.inr (true))))
 else (some (.inl (w64 (s0+1)))))
 else (some (.inr (.inl ())))
noncomputable def Hz (p0:List Bb):Option Bool :=
 if 100 < ((((p0).length:Nat):Int)) then (some true)
 else (jn (fun (s5:Unit) =>
 some false)
 (fun j5=>bnd (lfix (Hc p0) 0) fun t0 =>
 (match t0 with
 | (.inl z0)=>j5 z0
 | (.inr (z0))=>some z0
 )))
noncomputable def Fj (p0:Int):Option Int :=
 bnd (idx ([0,1,2,5,6,7]) (Int.tmod p0 6)) fun x2 =>
 some x2
structure Dl where
 L:List Aa
 R:Ag
 Edits:List Bb
 At:Int
 To:Int
noncomputable def Dj (r0:(List Aa) × Int) (x0:Aa) (p0:Dl) (r1:(List Aa) × Int):(Bool × Int)→Option (Sum (Bool × Int) (Sum Bool Bool)):=fun s0 =>
 if s0.2 < ((((r0.1).length:Nat):Int)) then (jn (fun (s1:Int × Int × Int × Int × Int × Int × Int × Int × Int × Int × Int × Int × Int × Int × Int × Int × Int × Int) =>
 jn (fun (s2:Bool × Int) =>
 jn (fun (s3:Bool) =>
 if s3=true then (some (.inr (.inr (false))))
 else (some (.inl (s2.1,w64 (s0.2+1)))))
 (fun j0=>if ((((s1.1) == (s1.2.2.2.2.2.2.2.2.2.1)) && (((s1.2.1) == (s1.2.2.2.2.2.2.2.2.2.2.1)) && (((s1.2.2.1) == (s1.2.2.2.2.2.2.2.2.2.2.2.1)) && ((((s1.2.2.2.1) == (s1.2.2.2.2.2.2.2.2.2.2.2.2.1)) && (((s1.2.2.2.2.1) == (s1.2.2.2.2.2.2.2.2.2.2.2.2.2.1)) && true)) && (((s1.2.2.2.2.2.1) == (s1.2.2.2.2.2.2.2.2.2.2.2.2.2.2.1)) && (((s1.2.2.2.2.2.2.1) == (s1.2.2.2.2.2.2.2.2.2.2.2.2.2.2.2.1)) && (((s1.2.2.2.2.2.2.2.1) == (s1.2.2.2.2.2.2.2.2.2.2.2.2.2.2.2.2.1)) && (((s2.2) == (s1.2.2.2.2.2.2.2.2.2.2.2.2.2.2.2.2.2)) && true)))))))))=true then (if 0 < s0.2 then (bnd (idx r0.1 (w64 (s0.2-1))) fun x1 =>
 j0 (decide (s1.2.2.2.2.2.2.2.2.2.1≤x1.Id)))
 else (j0 false))
 else (j0 true)))
 (fun j1=>if s1.2.2.2.2.2.2.2.2.2.1=x0.Id then (bnd (Fj p0.To) fun r2 =>
 j1 (true,r2))
 else (j1 (s0.1,s1.2.2.2.2.2.2.2.2.1))))
 (fun j2=>bnd (idx r1.1 s0.2) fun x2 =>
 bnd (idx r0.1 s0.2) fun x3 =>
 j2 (x2.Id,x2.X,x2.Y,x2.Z.Lo,x2.Z.Hi,x2.Wide,x2.Num,x2.Of,x2.Class,x3.Id,x3.X,x3.Y,x3.Z.Lo,x3.Z.Hi,x3.Wide,x3.Num,x3.Of,x3.Class)))
 else (some (.inr (.inl s0.1)))
noncomputable def Ge (p0:Dl):Option Bool :=
 jn (fun (s4:Bool) =>
 if s4=true then (bnd (Er) fun r0 =>
 some r0)
 else (gd (((((p0.L).length:Nat):Int))≠0) <|
 bnd (idx p0.L (Int.tmod (w64 (p0.At)) ((((p0.L).length:Nat):Int)))) fun x0 =>
 bnd (Ny p0.L p0.R p0.Edits) fun r1 =>
 gd (((([]:List Bb)).length+(p0.Edits).length)*48≤140737488355328) <|
 bnd (Fj p0.To) fun r2 =>
 gd ((((([]:List Bb))++p0.Edits).length+1)*48≤140737488355328) <|
 bnd (Ny p0.L p0.R (((([]:List Bb))++p0.Edits)++[(⟨x0.Id,([]:List Ab),0,r2⟩:Bb)])) fun r4 =>
 if r1.2=0 then (jn (fun (s0:Bool) =>
 if s0=true then (some false)
 else (jn (fun (s1:Bool) =>
 jn (fun (s2:Bool) =>
 some s2)
 (fun j0=>if s1=true then (bnd (Er) fun r5 =>
 j0 r5)
 else (j0 false)))
 (fun j1=>bnd (lfix (Dj r4 x0 p0 r1) (false,0)) fun t0 =>
 (match t0 with
 | (.inl z0)=>j1 z0
 | (.inr (z0))=>some z0
 ))))
 (fun j2=>if r4.2=0 then (if ((((r1.1).length:Nat):Int))=((((p0.L).length:Nat):Int)) then (j2 (!(decide (((((r4.1).length:Nat):Int))=((((p0.L).length:Nat):Int))))))
 else (j2 true))
 else (j2 true)))
 else (jn (fun (s3:Bool) =>
 some s3)
 (fun j3=>if r1.2=73 then (if r4.2=73 then (bnd (Er) fun r6 =>
 j3 r6)
 else (j3 false))
 else (j3 false)))))
 (fun j4=>bnd (Jp p0.L p0.R 10) fun r3 =>
 if r3=true then (if ((((p0.L).length:Nat):Int))=0 then (j4 true)
 else (bnd (Hz p0.Edits) fun r7 =>
 if r7=true then (j4 true)
 else (j4 (decide (64≤((((p0.Edits).length:Nat):Int)))))))
 else (j4 true))
theorem Tf (p0:List Bb) {K:List Ent} {A0_0:Option Addr} {c0_0:Nat} (ha0:HasN K A0_0 p0.length c0_0 4 Dk (p0)) {r:Bool} (hx:Hz p0=some r) (w:World) (hK:∀ e∈K,Ent.ok w e):CtL Tryz.prog 43 [.slice (A0_0) (p0.length) (c0_0)] w fun v Ln=>v = .bool (r)∧Ln=[]∧True:=by
 have ha0':=HasN.up0 ha0;refine CtL.mk 20 Tryz.func43 rfl Tryz.ntmps43 (by kernel_rfl) rfl ?_;show T 20 _ [(0,.slice (A0_0) (p0.length) (c0_0))] _;unfold Hz at hx;refine Y9 ?_;refine Aj (Cb rfl 84 Tryz.underlying73) rfl ?_;refine Y3 ?_;refine Ti hx (s:=6) rfl (fun h1 hx2=>?_) (fun h1 hx3=>?_)
 ·refine Y8 ?_;obtain rfl:=Option.some.inj hx2;exact Bq (rs:=[.tmp 2]) Tryz.results43 (.tmp rfl (.nil)) (Ln:=[]) ⟨rfl,rfl,trivial⟩ (Bw) (by exact .refl)
 ·refine Y3 ?_;refine Tj (γ:=Unit) hx3 (fun s5 y5=>[]) (fun s5 y5=>[]++[.old w]) (fun s5 y5=>True) (fun s5 y5 hx0 hG0=>?_) (fun j5 hx3=>?_)
  ·refine Y6 ?_;obtain rfl:=Option.some.inj hx0;exact Bq (rs:=[.tmp 2]) Tryz.results43 (.tmp rfl (.nil)) (Ln:=[]) ⟨rfl,rfl,trivial⟩ (Bw) (by exact .refl)
  ·refine Y6 ?_;obtain ⟨t0,hl0,ho0⟩:=Ad hx3;refine Lp (σ:=Int) (γ:=Unit) hl0 (fun s0 y0=>[(0,.slice (A0_0) (p0.length) (c0_0)),(3,.int .i64 (s0))]) (fun s0 y0=>[]++[.old w]) (fun s0 y0=>True) () trivial (by exact .refl) ?_;intro s0 y0 hG1 x0 hx1 ht0;unfold Hc at hx1;refine Y5 ?_;refine Aj (Cb rfl 84 Tryz.underlying73) rfl ?_;refine Y3 ?_;refine Ti hx1 (s:=10) rfl (fun h0 hx4=>?_) (fun h0 hx5=>?_)
   ·refine Y9 ?_;obtain ⟨x1,h2,hx6⟩:=Ad hx4;obtain ⟨b0,o0,j0,ys44,hA0,hj0,hl1,hp0,hr45⟩:=HasN.at_idx ha0' h2;obtain ⟨A0,c0,rfl,hs0⟩:=hr45;have hp1:=Pt.low (E:=[]) hp0 hK;refine Aj (Be rfl rfl hA0 (j:=j0) hj0 hl1 Aqb) rfl ?_;refine Aj (Ao rfl Af7 rfl) rfl ?_;refine Aj (De (d:=1) rfl hp1 (sb 0) rfl Aqc) rfl ?_;refine Aj (Cb rfl 28 Tryz.underlying82) rfl ?_;refine Y3 ?_;refine Ti hx6 (s:=19) rfl (fun h3 hx7=>?_) (fun h3 hx8=>?_)
    ·refine Y9 ?_;obtain rfl:=Cq ht0 hx7;refine Y3 ?_;obtain rfl:=Option.some.inj ho0;exact Bq (rs:=[.tmp 2]) Tryz.results43 (.tmp rfl (.nil)) (Ln:=[]) ⟨rfl,rfl,trivial⟩ (Bw) (by exact .refl)
    ·refine Y9 ?_;exact Rp (w64 (s0+1)) () hx8 trivial (by exact .refl)
   ·refine Y3 ?_;obtain rfl:=Cq ht0 hx5;refine Y2 ?_;exact Mt () () ho0 trivial (by exact .refl)
instance lidarlaw07_large_c (p0:List Bb):Con (Hz p0) Tryz.prog 43 (fun K vs=>∃ (A0_0:Option Addr) (c0_0:Nat),vs=[.slice (A0_0) ((p0).length) (c0_0)]∧HasN K A0_0 (p0).length c0_0 4 Dk (p0)∧True) (fun _ r=>fun v Ln=>v = .bool (r)∧Ln=[]∧True):=⟨by
 rintro K _ r ⟨A0_0,c0_0,rfl,ha0,-⟩ hx w hK;exact Tf p0 ha0 hx w hK⟩
theorem Ot (p0:Int)  {r:Int} (hx:Fj p0=some r) (w:World):CtL Tryz.prog 47 [.int .u8 (p0)] w fun v Ln=>v = .int .i64 (r)∧Ln=[]∧True:=by
 refine CtL.mk 8 Tryz.func47 rfl Tryz.ntmps47 (by kernel_rfl) rfl ?_;show T 8 _ [(0,.int .u8 (p0))] _;unfold Fj at hx;refine Y7 ?_;refine T_x (Bv rfl (Js _ _ _ _ _ _) rfl (fun g1=>?_));refine Y ?_;refine Aj (Aef rfl rfl (by decide)) rfl ?_;refine T_mr (enc:=Bd) (sz:=1) ([0,1,2,5,6,7]) (.here) rfl rfl (fun _=>rfl) (by show 6≤maxLen;decide) ?_;obtain ⟨x2,h3,hx4⟩:=Ad hx;refine Fu (k:=0) rfl (by decide) (fun _=>rfl) h3 (fun b5 j7 hA8 hj9 hl0 hm0 hp0=>?_);refine Aj (Be rfl rfl hA8 (j:=j7) hj9 hl0 Jq) rfl ?_;refine Aj (Ce rfl hp0 (sb 0) rfl one3) rfl ?_;refine Y4 ?_;obtain rfl:=Option.some.inj hx4;exact Bq (rs:=[.tmp 2]) Tryz.results47 (.tmp rfl (.nil)) (Ln:=[]) ⟨rfl,rfl,trivial⟩ (Bw) (by exact .drop 0 rfl (.refl))
instance lidarlaw07_class_c (p0:Int):Con (Fj p0) Tryz.prog 47 (fun _ vs=>vs=[.int .u8 (p0)]) (fun _ r=>fun v Ln=>v = .int .i64 (r)∧Ln=[]∧True):=⟨by
 rintro _ _ r rfl hx w hK;exact Ot p0 hx w⟩
theorem Ox (p0:Dl) {K:List Ent} {A0_0:Option Addr} {c0_0:Nat} {A0_1:Option Addr} {c0_1:Nat} (ha0:Has K A0_0 p0.L.length c0_0 9 Af (p0.L)) (ha1:HasN K A0_1 p0.Edits.length c0_1 4 Dk (p0.Edits)) {r:Bool} (hx:Ge p0=some r) (w:World) (hK:∀ e∈K,Ent.ok w e):CtL Tryz.prog 13 [.agg #[.slice (A0_0) (p0.L.length) (c0_0),.int .i64 (p0.R.Cell),.int .i64 (p0.R.Reach),.int .i64 (p0.R.Slope),.int .i64 (p0.R.Link),.int .i64 (p0.R.Flat),.int .i64 (p0.R.Tall),.int .i64 (p0.R.High),.int .i64 (p0.R.Low),.int .i64 (p0.R.Brush),.int .i64 (p0.R.Few),.slice (A0_1) (p0.Edits.length) (c0_1),.int .u8 (p0.At),.int .u8 (p0.To)]] w fun v Ln=>v = .bool (r)∧Ln=[]∧True:=by
 have ha0':=Has.up0 ha0;have ha1':=HasN.up0 ha1;refine CtL.mk 147 Tryz.func13 rfl Tryz.ntmps13 (by kernel_rfl) rfl ?_;show T 147 _ [(0,.agg #[.slice (A0_0) (p0.L.length) (c0_0),.int .i64 (p0.R.Cell),.int .i64 (p0.R.Reach),.int .i64 (p0.R.Slope),.int .i64 (p0.R.Link),.int .i64 (p0.R.Flat),.int .i64 (p0.R.Tall),.int .i64 (p0.R.High),.int .i64 (p0.R.Low),.int .i64 (p0.R.Brush),.int .i64 (p0.R.Few),.slice (A0_1) (p0.Edits.length) (c0_1),.int .u8 (p0.At),.int .u8 (p0.To)])] _;unfold Ge at hx;refine Y2 ?_;refine T_x (Dy rfl rfl rfl (fun g1=>?_));refine Y4 ?_;refine Apx [0,1,0,1,0,1,0,1,0,1,2,2,3,2,2,2] [[],[0],[],[2],[],[4],[],[6],[],[8],[],[0,1,10],[0,1,2,3,10,11],[0,1,2,3,4,5,10,11,12],[0,1,2,3,4,5,6,7,10,11,12,13],[0,1,2,3,4,5,6,7,8,9,10,11,12,13,14]] [5,7,9] ([.m g1 80 [.slice (A0_0) (p0.L.length) (c0_0),.int .i64 (p0.R.Cell),.int .i64 (p0.R.Reach),.int .i64 (p0.R.Slope),.int .i64 (p0.R.Link),.int .i64 (p0.R.Flat),.int .i64 (p0.R.Tall),.int .i64 (p0.R.High),.int .i64 (p0.R.Low),.int .i64 (p0.R.Brush),.int .i64 (p0.R.Few),.slice (A0_1) (p0.Edits.length) (c0_1),.int .u8 (p0.At),.int .u8 (p0.To)]]) (.q 0 (.q 1 (.q 2 (.q 3 (.q 4 (.q 5 (.q 6 (.q 7 (.q 8 (.q 9 (.e 10 (.e 11 (.e 12 (.e 13 (.e 14 (.e 15 (.done) (.stop)) (.stop)) (.stop)) (.stop)) (.stop)) (.stop)))))))))))) mixed (by kernel_rfl) (by kernel_rfl) (fun w hw=>SubE.ok (by exact ((sb 0))) w hw) ?_
 refine P_p rfl rfl (Ao rfl Aoz rfl) rfl ?_;refine P_q rfl rfl (Aq rfl (i:=0) rfl rfl Ajh) rfl ?_;refine P_p rfl rfl (Ao rfl Ao0 rfl) rfl ?_;refine P_q rfl rfl (Az rfl (i:=0) rfl rfl Om) rfl ?_;refine P_p rfl rfl (Ao rfl Ao1 rfl) rfl ?_;refine P_r rfl rfl (Aq rfl (i:=0) rfl rfl Axy) rfl ?_;refine P_p rfl rfl (Ao rfl Ao2 rfl) rfl ?_;refine P_r rfl rfl (Aq rfl (i:=0) rfl rfl one5) rfl ?_;refine P_p rfl rfl (Ao rfl Ao3 rfl) rfl ?_;refine P_r rfl rfl (Aq rfl (i:=0) rfl rfl one5) rfl ?_;refine P_x rfl (Bj Axz rfl (fun g2=>?_)) Am;refine P_x rfl (Cl (Cc rfl) rfl ?_) Am;refine P_hR rfl rfl (Ay rfl rfl rfl (.here) (.put (.put (.put (.put (.put (.put (.put (.put (.put (.put (.done))))))))))) rfl (List.cons_ne_nil _ _) Om.2 ?_) Am;refine Akp (fun w hw=>SubE.ok (by exact ((sb 1))) w hw) ?_;refine P_x rfl (Cl (Cc rfl) rfl ?_) Am;refine P_x rfl (Cl (Cc rfl) rfl ?_) Am;refine P_x rfl (Cl (Cc rfl) rfl ?_) Am;refine Y3 ?_;refine Tj (γ:=Unit) hx (fun s4 y4=>[(3,.slice (A0_0) (p0.L.length) (c0_0)),(4,.pointer (some ⟨g2,0,none⟩)),(5,.slice (A0_1) (p0.Edits.length) (c0_1)),(6,.int .u8 (p0.At)),(7,.int .u8 (p0.To)),(44,.bool (s4))]) (fun s4 y4=>[.m g2 54 [.int .i64 (p0.R.Cell),.int .i64 (p0.R.Reach),.int .i64 (p0.R.Slope),.int .i64 (p0.R.Link),.int .i64 (p0.R.Flat),.int .i64 (p0.R.Tall),.int .i64 (p0.R.High),.int .i64 (p0.R.Low),.int .i64 (p0.R.Brush),.int .i64 (p0.R.Few)]]++[.old w]) (fun s4 y4=>True) (fun s4 y4 hx0 hG0=>?_) (fun j4 hx=>?_)
 ·refine Dm (s:=44) rfl (fun h0=>?_) (fun h0=>?_)
  ·have hx1:=Cp h0 hx0;refine Y3 ?_;obtain ⟨r0,h1,hx2⟩:=Ad hx1;refine Tc (fun w1 hw1=>Ov  h1 w1) ?_;refine Y5 ?_;obtain rfl:=Option.some.inj hx2;exact Bq (rs:=[.tmp 2]) Tryz.results13 (.tmp rfl (.nil)) (Ln:=[]) ⟨rfl,rfl,trivial⟩ (Bw) (by exact .drop 0 rfl (.refl))
  ·have hx3:=Db h0 hx0;refine Y7 ?_;refine Aj (Zd rfl (by kernel_rfl) Tryz.underlying3) rfl ?_;refine Y ?_;refine Aj (Cb rfl 66 Tryz.underlying47) rfl ?_;obtain ⟨h2,hx4⟩:=Bh hx3;refine Aj (Aef rfl rfl h2) rfl ?_;obtain ⟨x0,h3,hx6⟩:=Ad hx4;have hw0:=Has.low (E:=[]) ha0' hK;obtain ⟨b0,o0,j0,hA0,hj0,hl0,hp0⟩:=Has.at_idx hw0 h3;refine Aj (Be rfl rfl hA0 (j:=j0) hj0 hl0 Qm) rfl ?_;refine Aj (Ao rfl My rfl) rfl ?_;refine Aj (De (d:=0) rfl hp0 (sb 1) rfl one3) rfl ?_;refine Y6 ?_;refine Aj (Az rfl (i:=0) rfl rfl Om) rfl ?_;refine Y ?_;obtain ⟨r1,h5,hx9⟩:=Ad hx6;refine T_x (Au rfl (fun w1 hw1=>Uy (K:=(K++[])) p0.L p0.R p0.Edits (Has.len' ha0') (HasN.len' ha1') h5 w1 (oP hK hw1)) rfl ?_);rintro _ _ hlo ⟨A0,c0,rfl,rfl,-⟩;refine Do ?_;refine Y8 ?_;refine Apx [0,1,2,0,3,0,0,2,0,2,3,2,0,0,0,2,2] [[],[],[],[],[2,3],[],[],[2,3,4,6],[2,3,4,5,6,7],[2,3,4,5,6,7,8],[2,3,4,5,6,7,8,9],[0,1,2,3,4,5,6,7,8,9,10],[0,1,2,3,4,5,6,7,8,9,10,11],[0,1,2,3,4,5,6,7,8,9,10,11,12],[0,1,2,3,4,5,6,7,8,9,10,11,12],[0,1,2,3,4,5,6,7,8,9,10,11,12,13],[0,1,2,3,4,5,6,7,8,9,10,11,12,13,14,15]] [1] ([.m g2 54 [.int .i64 (p0.R.Cell),.int .i64 (p0.R.Reach),.int .i64 (p0.R.Slope),.int .i64 (p0.R.Link),.int .i64 (p0.R.Flat),.int .i64 (p0.R.Tall),.int .i64 (p0.R.High),.int .i64 (p0.R.Low),.int .i64 (p0.R.Brush),.int .i64 (p0.R.Few)]]) (.q 0 (.q 1 (.q 3 (.q 5 (.q 6 (.e 2 (.e 4 (.e 7 (.q 8 (.e 9 (.e 10 (.e 11 (.q 12 (.q 13 (.q 14 (.e 15 (.e 16 (.done) (.stop)) (.stop))))) (.stop)) (.stop)) (.stop))) (.stop)) (.stop)) (.stop))))))) mixed (by kernel_rfl) (by kernel_rfl) (fun w hw=>SubE.ok (by exact ((sb 1))) w hw) ?_
   refine Y ?_;refine P_r rfl rfl (Az rfl (i:=0) rfl rfl Om) rfl ?_;refine Y3 ?_;refine P_x rfl (Bv rfl (Alk) rfl (fun g0=>?_)) Am;refine T_mr (enc:=Rq (sz:=4)) (sz:=4) ([]:List (Vec 4)) (.here) rfl rfl (fun x=>x.2) (by decide) ?_;obtain ⟨h7,hs0,hr47⟩:=HasN.toRowN ha1';have hw2:=Has.low (E:=[]) hs0 hK;have hr49:RowN (K++[]) Dk ((([]:List (Vec 4)))++h7) ((([]:List Bb))++p0.Edits):=RowN.app RowN.nil (RowN.up (R:=Dk) (L:=(K++[])) Pi hr47 (SubE.app2 SubE.nil));obtain ⟨h8,hx51⟩:=Bh hx9;refine P_hR rfl rfl (Am8 Rq (([]:List (Vec 4))) h7 rfl rfl Ast (fun x=>x.2) hw2 (sb 3) (RowN.one hr47 (fun h=>by obtain ⟨_,_,rfl,_⟩:=h;rfl)) (by have:=RowN.len (RowN.nil (K:=[]) (R:=Dk) (sz:=4));have:=RowN.len hr47;simp only [List.length_nil] at *;omega) rfl (fun _ _=>.here) (by decide) (fun A1 c1=>?_)) Am;refine Akp (fun w hw=>SubE.ok (by exact ((sb 2))) w hw) ?_;obtain ⟨r2,h55,hx56⟩:=Ad hx51;refine Pc (fun w1 hw1=>Ot p0.To  h55 w1) ?_;refine P_p rfl rfl (Ct rfl (Yv _ _)) rfl ?_;refine P_x rfl (Bv rfl (Sh _ _ _ _ _ _) rfl (fun g3=>?_)) Am;have hr58:RowN (K++[]) Dk (((([]:List (Vec 4)))++h7)++[(⟨[.int .i64 (x0.Id),.slice (none) (0) (0),.int .i64 (0),.int .i64 (r2)],rfl⟩:Vec 4)]) (((([]:List Bb))++p0.Edits)++[(⟨x0.Id,([]:List Ab),0,r2⟩:Bb)]):=RowN.snoc (RowN.up (R:=Dk) (L:=(K++[])) Pi hr49 (SubE.app2 SubE.nil)) ⟨none,0,rfl,Has.nil⟩
   obtain ⟨h59,hx60⟩:=Bh hx56;refine P_hR rfl rfl (Dv Rq ((([]:List (Vec 4)))++h7) [(⟨[.int .i64 (x0.Id),.slice (none) (0) (0),.int .i64 (0),.int .i64 (r2)],rfl⟩:Vec 4)] rfl rfl rfl Ast (fun x=>x.2) (i':=0) rfl rfl rfl rfl (by have:=RowN.len (hr49);have:=h59;simp only [List.length_singleton,List.length_nil] at *;omega) rfl (fun _ _=>.there (.here)) (fun _ _=>.drop .refl) (by decide) (fun A2 c2=>?_)) Am;refine Akp (fun w hw=>SubE.ok (by exact ((sb 2))) w hw) ?_;have hn0:(((([]:List (Vec 4)))++h7)++[(⟨[.int .i64 (x0.Id),.slice (none) (0) (0),.int .i64 (0),.int .i64 (r2)],rfl⟩:Vec 4)]).length=(((([]:List Bb))++p0.Edits)++[(⟨x0.Id,([]:List Ab),0,r2⟩:Bb)]).length:=RowN.len hr58;refine En (.here) (e':=.r (A2) ((((([]:List Bb))++p0.Edits)++[(⟨x0.Id,([]:List Ab),0,r2⟩:Bb)]).length) (c2) 84 4 ((((([]:List (Vec 4)))++h7)++[(⟨[.int .i64 (x0.Id),.slice (none) (0) (0),.int .i64 (0),.int .i64 (r2)],rfl⟩:Vec 4)]).flatMap Rq)) (by first | (rw [← hn0];done) | rfl) ?_;refine Ec (s:=73) (v':=.slice (A2) ((((([]:List Bb))++p0.Edits)++[(⟨x0.Id,([]:List Ab),0,r2⟩:Bb)]).length) (c2)) rfl (by have hn1:((((([]:List (Vec 4)))++h7)++[(⟨[.int .i64 (x0.Id),.slice (none) (0) (0),.int .i64 (0),.int .i64 (r2)],rfl⟩:Vec 4)]).length)=(((([]:List Bb))++p0.Edits)++[(⟨x0.Id,([]:List Ab),0,r2⟩:Bb)]).length:=(RowN.len hr58);first | (rw [← hn1];done) | rfl) ?_
   refine Cw (k:=0) rfl (by decide) (fun x=>x.2) (fun hn2 hs1=>?_);have hs2:HasN (K++[.r (A2) ((((([]:List Bb))++p0.Edits)++[(⟨x0.Id,([]:List Ab),0,r2⟩:Bb)]).length) (c2) 84 4 ((((([]:List (Vec 4)))++h7)++[(⟨[.int .i64 (x0.Id),.slice (none) (0) (0),.int .i64 (0),.int .i64 (r2)],rfl⟩:Vec 4)]).flatMap Rq)]) _ _ _ _ _ _:=HasN.ofRowN (Has.up (L:=(K++[.r (A2) ((((([]:List Bb))++p0.Edits)++[(⟨x0.Id,([]:List Ab),0,r2⟩:Bb)]).length) (c2) 84 4 ((((([]:List (Vec 4)))++h7)++[(⟨[.int .i64 (x0.Id),.slice (none) (0) (0),.int .i64 (0),.int .i64 (r2)],rfl⟩:Vec 4)]).flatMap Rq)])) hs1 (SubE.appR2 (sb 0))) (RowN.up (R:=Dk) (L:=(K++[.r (A2) ((((([]:List Bb))++p0.Edits)++[(⟨x0.Id,([]:List Ab),0,r2⟩:Bb)]).length) (c2) 84 4 ((((([]:List (Vec 4)))++h7)++[(⟨[.int .i64 (x0.Id),.slice (none) (0) (0),.int .i64 (0),.int .i64 (r2)],rfl⟩:Vec 4)]).flatMap Rq)])) Pi hr58 (SubE.app2 SubE.nil));obtain ⟨r4,h69,hx70⟩:=Ad hx60;refine P_x rfl (Au rfl (fun w1 hw1=>Uy (K:=(K++[.r (A2) ((((([]:List Bb))++p0.Edits)++[(⟨x0.Id,([]:List Ab),0,r2⟩:Bb)]).length) (c2) 84 4 ((((([]:List (Vec 4)))++h7)++[(⟨[.int .i64 (x0.Id),.slice (none) (0) (0),.int .i64 (0),.int .i64 (r2)],rfl⟩:Vec 4)]).flatMap Rq)])) p0.L p0.R (((([]:List Bb))++p0.Edits)++[(⟨x0.Id,([]:List Ab),0,r2⟩:Bb)]) (Has.len' (Hu ha0')) (HasN.len' hs2) h69 w1 (oP hK hw1)) rfl ?_) Am;rintro _ _ hlo ⟨A3,c3,rfl,rfl,-⟩;refine Do ?_;refine Y3 ?_;refine P_x rfl (Cl (Cc rfl) rfl ?_) Am;refine P_x rfl (Cl (Cc rfl) rfl ?_) Am;refine Y9 ?_;refine Hf (s:=78) rfl (fun h73=>?_) (fun h73=>?_)
   ·have hx74:=Ne h73 hx70;refine Y ?_;refine Tj (γ:=Unit) hx74 (fun s0 y0=>[(2,.bool (s0))]) (fun s0 y0=>[]++[.old w]) (fun s0 y0=>True) (fun s0 y0 hx84 hG1=>?_) (fun j1 hx74=>?_)
    ·refine Y2 ?_;obtain rfl:=Option.some.inj hx84;exact Bq (rs:=[.tmp 2]) Tryz.results13 (.tmp rfl (.nil)) (Ln:=[]) ⟨rfl,rfl,trivial⟩ (Bw) (by exact .refl)
    ·refine Y4 ?_;refine Ti hx74 (s:=81) rfl (fun h75 hx76=>?_) (fun h75 hx83=>?_)
     ·refine Y4 ?_;refine Ti hx76 (s:=85) rfl (fun h77 hx78=>?_) (fun h77 hx82=>?_)
      ·obtain ⟨r5,h80,hx81⟩:=Ad hx78;refine T_xG rfl rfl rfl (Au rfl (fun w1 hw1=>Ov  h80 w1) rfl ?_);rintro _ _ hlo ⟨rfl,rfl,-⟩;refine Dh ?_;refine Y3 ?_;exact Mt r5 () hx81 trivial (by exact .drop 0 rfl (.drop 0 rfl (.drop 0 rfl (.drop 0 rfl (.refl)))))
      ·refine Y4 ?_;exact Mt false () hx82 trivial (by exact .drop 0 rfl (.drop 0 rfl (.drop 0 rfl (.drop 0 rfl (.refl)))))
     ·refine Y8 ?_;exact Mt false () hx83 trivial (by exact .drop 0 rfl (.drop 0 rfl (.drop 0 rfl (.drop 0 rfl (.refl)))))
   ·have hx86:=Cp h73 hx70;refine Y4 ?_;refine Tj (γ:=Unit) hx86 (fun s1 y1=>[(7,.int .u8 (p0.To)),(8,.int .i64 (x0.Id)),(9,.slice (A0) (r1.1.length) (c0)),(11,.slice (A3) (r4.1.length) (c3)),(103,.bool (s1))]) (fun s1 y1=>[.r (A3) (r4.1.length) (c3) 66 9 (r4.1.flatMap Af),.r (A0) (r1.1.length) (c0) 66 9 (r1.1.flatMap Af)]++[.old w]) (fun s1 y1=>True) (fun s1 y1 hx93 hG2=>?_) (fun j2 hx86=>?_)
    ·refine Dm (s:=103) rfl (fun h95=>?_) (fun h95=>?_)
     ·have hx96:=Cp h95 hx93;refine Y8 ?_;obtain rfl:=Option.some.inj hx96;exact Bq (rs:=[.tmp 2]) Tryz.results13 (.tmp rfl (.nil)) (Ln:=[]) ⟨rfl,rfl,trivial⟩ (Bw) (by exact .drop 0 rfl (.drop 0 rfl (.refl)))
     ·have hx97:=Db h95 hx93;refine Y8 ?_;refine Tj (γ:=Unit) hx97 (fun s2 y2=>[(13,.bool (s2))]) (fun s2 y2=>[]++[.old w]) (fun s2 y2=>True) (fun s2 y2 hx12 hG3=>?_) (fun j3 hx97=>?_)
      ·refine Tj (γ:=Unit) hx12 (fun s3 y3=>[(2,.bool (s3))]) (fun s3 y3=>[]++[.old w]) (fun s3 y3=>True) (fun s3 y3 hx13 hG4=>?_) (fun j5 hx12=>?_)
       ·refine Y ?_;obtain rfl:=Option.some.inj hx13;exact Bq (rs:=[.tmp 2]) Tryz.results13 (.tmp rfl (.nil)) (Ln:=[]) ⟨rfl,rfl,trivial⟩ (Bw) (by exact .refl)
       ·refine Y3 ?_;refine Dm (s:=144) rfl (fun h10=>?_) (fun h10=>?_)
        ·have hx15:=Cp h10 hx12;obtain ⟨r6,h11,hx19⟩:=Ad hx15;refine T_xG rfl rfl rfl (Au rfl (fun w1 hw1=>Ov  h11 w1) rfl ?_);rintro _ _ hlo ⟨rfl,rfl,-⟩;refine Dh ?_;refine Y3 ?_;exact Mt r6 () hx19 trivial (by exact .refl)
        ·have hx20:=Db h10 hx12;refine Y4 ?_;exact Mt false () hx20 trivial (by exact .refl)
      ·refine Y6 ?_;obtain ⟨t0,hl1,ho0⟩:=Ad hx97;refine Lp (σ:=Bool × Int) (γ:=Unit) hl1 (fun s5 y5=>[(7,.int .u8 (p0.To)),(8,.int .i64 (x0.Id)),(9,.slice (A0) (r1.1.length) (c0)),(11,.slice (A3) (r4.1.length) (c3)),(13,.bool (s5.1)),(14,.int .i64 (s5.2))]) (fun s5 y5=>[.r (A3) (r4.1.length) (c3) 66 9 (r4.1.flatMap Af),.r (A0) (r1.1.length) (c0) 66 9 (r1.1.flatMap Af)]++[.old w]) (fun s5 y5=>True) () trivial (by exact .pick 0 rfl (.pick 0 rfl (.refl))) ?_;intro s5 y5 hG5 x1 hx22 ht0;unfold Dj at hx22;refine Y5 ?_;refine Aj (Cb rfl 66 Tryz.underlying47) rfl ?_;refine Y3 ?_;refine Ti hx22 (s:=107) rfl (fun h12 hx23=>?_) (fun h12 hx26=>?_)
       ·refine Y5 ?_;refine Tj (γ:=Nat × Nat) hx23 (fun s6 y6=>[(7,.int .u8 (p0.To)),(8,.int .i64 (x0.Id)),(9,.slice (A0) (r1.1.length) (c0)),(11,.slice (A3) (r4.1.length) (c3)),(13,.bool (s5.1)),(14,.int .i64 (s5.2)),(15,.pointer (some ⟨y6.1,0,none⟩)),(16,.pointer (some ⟨y6.2,0,none⟩))]) (fun s6 y6=>[.m y6.2 66 [.int .i64 (s6.2.2.2.2.2.2.2.2.2.1),.int .i64 (s6.2.2.2.2.2.2.2.2.2.2.1),.int .i64 (s6.2.2.2.2.2.2.2.2.2.2.2.1),.int .i64 (s6.2.2.2.2.2.2.2.2.2.2.2.2.1),.int .i64 (s6.2.2.2.2.2.2.2.2.2.2.2.2.2.1),.int .i64 (s6.2.2.2.2.2.2.2.2.2.2.2.2.2.2.1),.int .i64 (s6.2.2.2.2.2.2.2.2.2.2.2.2.2.2.2.1),.int .i64 (s6.2.2.2.2.2.2.2.2.2.2.2.2.2.2.2.2.1),.int .i64 (s6.2.2.2.2.2.2.2.2.2.2.2.2.2.2.2.2.2)],.m y6.1 66 [.int .i64 (s6.1),.int .i64 (s6.2.1),.int .i64 (s6.2.2.1),.int .i64 (s6.2.2.2.1),.int .i64 (s6.2.2.2.2.1),.int .i64 (s6.2.2.2.2.2.1),.int .i64 (s6.2.2.2.2.2.2.1),.int .i64 (s6.2.2.2.2.2.2.2.1),.int .i64 (s6.2.2.2.2.2.2.2.2.1)],.r (A3) (r4.1.length) (c3) 66 9 (r4.1.flatMap Af),.r (A0) (r1.1.length) (c0) 66 9 (r1.1.flatMap Af)]++[.old w]) (fun s6 y6=>True) (fun s6 y6 hx28 hG6=>?_) (fun j6 hx23=>?_)
        ·refine Tj (γ:=Unit) hx28 (fun s7 y7=>[(7,.int .u8 (p0.To)),(8,.int .i64 (x0.Id)),(9,.slice (A0) (r1.1.length) (c0)),(11,.slice (A3) (r4.1.length) (c3)),(13,.bool (s7.1)),(14,.int .i64 (s5.2)),(15,.pointer (some ⟨y6.1,0,none⟩)),(16,.pointer (some ⟨y6.2,0,none⟩))]) (fun s7 y7=>[.m y6.2 66 [.int .i64 (s6.2.2.2.2.2.2.2.2.2.1),.int .i64 (s6.2.2.2.2.2.2.2.2.2.2.1),.int .i64 (s6.2.2.2.2.2.2.2.2.2.2.2.1),.int .i64 (s6.2.2.2.2.2.2.2.2.2.2.2.2.1),.int .i64 (s6.2.2.2.2.2.2.2.2.2.2.2.2.2.1),.int .i64 (s6.2.2.2.2.2.2.2.2.2.2.2.2.2.2.1),.int .i64 (s6.2.2.2.2.2.2.2.2.2.2.2.2.2.2.2.1),.int .i64 (s6.2.2.2.2.2.2.2.2.2.2.2.2.2.2.2.2.1),.int .i64 (s6.2.2.2.2.2.2.2.2.2.2.2.2.2.2.2.2.2)],.m y6.1 66 [.int .i64 (s6.1),.int .i64 (s6.2.1),.int .i64 (s6.2.2.1),.int .i64 (s6.2.2.2.1),.int .i64 (s6.2.2.2.2.1),.int .i64 (s6.2.2.2.2.2.1),.int .i64 (s6.2.2.2.2.2.2.1),.int .i64 (s6.2.2.2.2.2.2.2.1),.int .i64 (s7.2)],.r (A3) (r4.1.length) (c3) 66 9 (r4.1.flatMap Af),.r (A0) (r1.1.length) (c0) 66 9 (r1.1.flatMap Af)]++[.old w]) (fun s7 y7=>True) (fun s7 y7 hx29 hG7=>?_) (fun j7 hx28=>?_)
         ·refine Tj (γ:=Unit) hx29 (fun s8 y8=>[(7,.int .u8 (p0.To)),(8,.int .i64 (x0.Id)),(9,.slice (A0) (r1.1.length) (c0)),(11,.slice (A3) (r4.1.length) (c3)),(13,.bool (s7.1)),(14,.int .i64 (s5.2)),(142,.bool (s8))]) (fun s8 y8=>[.r (A3) (r4.1.length) (c3) 66 9 (r4.1.flatMap Af),.r (A0) (r1.1.length) (c0) 66 9 (r1.1.flatMap Af)]++[.old w]) (fun s8 y8=>True) (fun s8 y8 hx31 hG8=>?_) (fun j8 hx29=>?_)
          ·refine Dm (s:=142) rfl (fun h14=>?_) (fun h14=>?_)
           ·have hx32:=Cp h14 hx31;refine Y9 ?_;obtain rfl:=Cq ht0 hx32;refine Y3 ?_;obtain rfl:=Option.some.inj ho0;exact Bq (rs:=[.tmp 2]) Tryz.results13 (.tmp rfl (.nil)) (Ln:=[]) ⟨rfl,rfl,trivial⟩ (Bw) (by exact .drop 0 rfl (.drop 0 rfl (.refl)))
           ·have hx33:=Db h14 hx31;refine Y9 ?_;exact Ru (s7.1,w64 (s5.2+1)) () hx33 trivial
          ·refine T_dr [1,1,0,0,0,0,0,0,0,0,0,0,1,0,1,0,0,0] (.q 0 (.q 1 (.q 2 (.q 3 (.q 4 (.q 5 (.q 6 (.q 7 (.q 8 (.q 9 (.q 10 (.q 11 (.q 12 (.q 13 (.q 14 (.q 15 (.q 16 (.q 17 (.done))))))))))))))))))) mixed (by kernel_rfl) (by kernel_rfl) ?_;refine P_q rfl rfl (Az rfl (i:=1) rfl rfl Cy) rfl ?_;refine P_q rfl rfl (Az rfl (i:=0) rfl rfl Cy) rfl ?_;refine P_p rfl rfl (Ap7 rfl rfl (by kernel_rfl) (Ax0 _ _ _ _ _ _ _ _ _ _ _ _ _ _ _ _ _ _)) rfl ?_;refine Y ?_;refine Fm (s:=128) rfl (fun h16=>?_) (fun h16=>?_)
           ·have hx34:=Db h16 hx29;(iterate 15 refine Y ?_);exact Mu true () hx34 trivial
           ·have hx35:=Cp h16 hx29;refine Y3 ?_;refine Ti hx35 (s:=131) rfl (fun h17 hx36=>?_) (fun h17 hx37=>?_)
            ·refine Y3 ?_;obtain ⟨x2,h18,hx38⟩:=Ad hx36;refine Fu (k:=2) rfl (by decide) (fun _=>rfl) h18 (fun b1 j9 hA1 hj1 hl2 hm0 hp1=>?_);refine P_pG rfl rfl rfl rfl rfl (Be rfl rfl hA1 (j:=j9) hj1 hl2 Qm) rfl ?_;refine P_pG rfl rfl rfl rfl rfl (Ao rfl My rfl) rfl ?_;refine P_qG rfl rfl rfl rfl rfl (De (d:=0) rfl hp1 (sb 2) rfl one3) rfl ?_;refine P_pG rfl rfl rfl rfl rfl (Ao rfl My rfl) rfl ?_;refine P_qG rfl rfl rfl rfl rfl (Aq rfl (i:=0) rfl rfl one3) rfl ?_;refine Y4 ?_;exact Mu (decide (s6.2.2.2.2.2.2.2.2.2.1≤x2.Id)) () hx38 trivial
            ·refine Y12 ?_;exact Mu false () hx37 trivial
         ·refine Y2 ?_;refine Aj (Ao rfl My rfl) rfl ?_;refine Aj (Aq rfl (i:=0) rfl rfl one3) rfl ?_;refine Y4 ?_;refine Ti hx28 (s:=121) rfl (fun h19 hx39=>?_) (fun h19 hx40=>?_)
          ·refine Y8 ?_;obtain ⟨r7,h21,hx42⟩:=Ad hx39;refine Tc (fun w1 hw1=>Ot p0.To  h21 w1) ?_;refine Aj (Ao rfl Aku rfl) rfl ?_;refine T_h (Ay rfl rfl rfl (.there (.here)) (.skip (.skip (.skip (.skip (.skip (.skip (.skip (.skip (.put (.done)))))))))) rfl (List.cons_ne_nil _ _) one3.2 ?_);refine Y ?_;exact Mu (true,r7) () hx42 trivial
          ·refine Y2 ?_;exact Mu (s5.1,s6.2.2.2.2.2.2.2.2.1) () hx40 trivial
        ·obtain ⟨x3,h22,hx43⟩:=Ad hx23;obtain ⟨x4,h24,hx44⟩:=Ad hx43;refine T_dr [0,0,0,1,0,0,0,2,2,2,3,3] (.q 0 (.q 1 (.q 2 (.q 3 (.q 4 (.q 5 (.q 6 (.e 7 (.e 8 (.e 9 (.e 10 (.e 11 (.done) (.stop)) (.stop)) (.stop)) (.e 9 (.e 8 (.e 10 (.e 11 (.done) (.stop)) (.stop)) (.stop)) (.stop))) (.e 8 (.e 7 (.e 9 (.e 10 (.e 11 (.done) (.stop)) (.stop)) (.stop)) (.e 9 (.e 7 (.e 10 (.e 11 (.done) (.stop)) (.stop)) (.e 10 (.e 7 (.e 11 (.done) (.stop)) (.stop)) (.stop))) (.stop))) (.e 9 (.e 7 (.e 8 (.e 10 (.e 11 (.done) (.stop)) (.stop)) (.stop)) (.e 8 (.e 7 (.e 10 (.e 11 (.done) (.stop)) (.stop)) (.e 10 (.e 7 (.e 11 (.done) (.stop)) (.stop)) (.stop))) (.stop))) (.stop))))))))))) mixed (by kernel_rfl) (by kernel_rfl) ?_;refine Y2 ?_;refine Fu (k:=1) rfl (by decide) (fun _=>rfl) h22 (fun b2 j10 hA2 hj2 hl3 hm1 hp2=>?_);refine P_p rfl rfl (Be rfl rfl hA2 (j:=j10) hj2 hl3 Qm) rfl ?_;refine P_q rfl rfl (Co rfl hp2 (sb 1) rfl Cy) rfl ?_;refine Y2 ?_;refine Fu (k:=0) rfl (by decide) (fun _=>rfl) h24 (fun b3 j12 hA3 hj3 hl4 hm2 hp3=>?_);refine P_p rfl rfl (Be rfl rfl hA3 (j:=j12) hj3 hl4 Qm) rfl ?_;refine P_x rfl (Cl (Co rfl hp3 (sb 0) rfl Cy) rfl ?_) ?_
         ·skip;refine P_x rfl (Bj Mz rfl (fun g4=>?_)) ?_
          ·skip;refine P_x rfl (Bj Mz rfl (fun g5=>?_)) Am;refine P_h rfl rfl (Ay rfl rfl rfl (.there (.here)) (.put (.put (.put (.put (.put (.put (.put (.put (.put (.done)))))))))) rfl (List.cons_ne_nil _ _) Cy.2 ?_) Am;refine P_h rfl rfl (Ay rfl rfl rfl (.here) (.put (.put (.put (.put (.put (.put (.put (.put (.put (.done)))))))))) rfl (List.cons_ne_nil _ _) Cy.2 ?_) Am;refine Y ?_;exact Mu (x3.Id,x3.X,x3.Y,x3.Z.Lo,x3.Z.Hi,x3.Wide,x3.Num,x3.Of,x3.Class,x4.Id,x4.X,x4.Y,x4.Z.Lo,x4.Z.Hi,x4.Wide,x4.Num,x4.Of,x4.Class) (g4,g5) hx44 trivial
          ·skip;refine P_x rfl (Bj Mz rfl (fun g6=>?_)) Am;refine P_x rfl (Bj Mz rfl (fun g7=>?_)) Am;refine P_h rfl rfl (Ay rfl rfl rfl (.here) (.put (.put (.put (.put (.put (.put (.put (.put (.put (.done)))))))))) rfl (List.cons_ne_nil _ _) Cy.2 ?_) Am;refine P_h rfl rfl (Ay rfl rfl rfl (.there (.here)) (.put (.put (.put (.put (.put (.put (.put (.put (.put (.done)))))))))) rfl (List.cons_ne_nil _ _) Cy.2 ?_) Am;refine Y ?_;exact Mu (x3.Id,x3.X,x3.Y,x3.Z.Lo,x3.Z.Hi,x3.Wide,x3.Num,x3.Of,x3.Class,x4.Id,x4.X,x4.Y,x4.Z.Lo,x4.Z.Hi,x4.Wide,x4.Num,x4.Of,x4.Class) (g7,g6) hx44 trivial
         ·skip;refine P_x rfl (Bj Mz rfl (fun g8=>?_)) ?_
          ·skip;refine P_x rfl (Cl (Co rfl hp3 (sb 1) rfl Cy) rfl ?_) ?_
           ·skip;refine P_x rfl (Bj Mz rfl (fun g9=>?_)) Am;refine P_h rfl rfl (Ay rfl rfl rfl (.there (.here)) (.put (.put (.put (.put (.put (.put (.put (.put (.put (.done)))))))))) rfl (List.cons_ne_nil _ _) Cy.2 ?_) Am;refine P_h rfl rfl (Ay rfl rfl rfl (.here) (.put (.put (.put (.put (.put (.put (.put (.put (.put (.done)))))))))) rfl (List.cons_ne_nil _ _) Cy.2 ?_) Am;refine Y ?_;exact Mu (x3.Id,x3.X,x3.Y,x3.Z.Lo,x3.Z.Hi,x3.Wide,x3.Num,x3.Of,x3.Class,x4.Id,x4.X,x4.Y,x4.Z.Lo,x4.Z.Hi,x4.Wide,x4.Num,x4.Of,x4.Class) (g8,g9) hx44 trivial
           ·skip;refine P_x rfl (Bj Mz rfl (fun g10=>?_)) Am;refine P_x rfl (Cl (Co rfl hp3 (sb 2) rfl Cy) rfl ?_) ?_
            ·skip;refine P_h rfl rfl (Ay rfl rfl rfl (.there (.here)) (.put (.put (.put (.put (.put (.put (.put (.put (.put (.done)))))))))) rfl (List.cons_ne_nil _ _) Cy.2 ?_) Am;refine P_h rfl rfl (Ay rfl rfl rfl (.here) (.put (.put (.put (.put (.put (.put (.put (.put (.put (.done)))))))))) rfl (List.cons_ne_nil _ _) Cy.2 ?_) Am;refine Y ?_;exact Mu (x3.Id,x3.X,x3.Y,x3.Z.Lo,x3.Z.Hi,x3.Wide,x3.Num,x3.Of,x3.Class,x4.Id,x4.X,x4.Y,x4.Z.Lo,x4.Z.Hi,x4.Wide,x4.Num,x4.Of,x4.Class) (g8,g10) hx44 trivial
            ·skip;refine P_h rfl rfl (Ay rfl rfl rfl (.there (.here)) (.put (.put (.put (.put (.put (.put (.put (.put (.put (.done)))))))))) rfl (List.cons_ne_nil _ _) Cy.2 ?_) Am;refine P_x rfl (Cl (Co rfl hp3 (sb 2) rfl Cy) rfl ?_) Am;refine P_h rfl rfl (Ay rfl rfl rfl (.here) (.put (.put (.put (.put (.put (.put (.put (.put (.put (.done)))))))))) rfl (List.cons_ne_nil _ _) Cy.2 ?_) Am;refine Y ?_;exact Mu (x3.Id,x3.X,x3.Y,x3.Z.Lo,x3.Z.Hi,x3.Wide,x3.Num,x3.Of,x3.Class,x4.Id,x4.X,x4.Y,x4.Z.Lo,x4.Z.Hi,x4.Wide,x4.Num,x4.Of,x4.Class) (g8,g10) hx44 trivial
          ·skip;refine P_x rfl (Bj Mz rfl (fun g11=>?_)) Am;refine P_x rfl (Cl (Co rfl hp3 (sb 1) rfl Cy) rfl ?_) ?_
           ·skip;refine P_x rfl (Bj Mz rfl (fun g12=>?_)) Am;refine P_h rfl rfl (Ay rfl rfl rfl (.here) (.put (.put (.put (.put (.put (.put (.put (.put (.put (.done)))))))))) rfl (List.cons_ne_nil _ _) Cy.2 ?_) Am;refine P_h rfl rfl (Ay rfl rfl rfl (.there (.here)) (.put (.put (.put (.put (.put (.put (.put (.put (.put (.done)))))))))) rfl (List.cons_ne_nil _ _) Cy.2 ?_) Am;refine Y ?_;exact Mu (x3.Id,x3.X,x3.Y,x3.Z.Lo,x3.Z.Hi,x3.Wide,x3.Num,x3.Of,x3.Class,x4.Id,x4.X,x4.Y,x4.Z.Lo,x4.Z.Hi,x4.Wide,x4.Num,x4.Of,x4.Class) (g12,g11) hx44 trivial
           ·skip;refine P_x rfl (Bj Mz rfl (fun g13=>?_)) Am;refine P_x rfl (Cl (Co rfl hp3 (sb 2) rfl Cy) rfl ?_) ?_
            ·skip;refine P_h rfl rfl (Ay rfl rfl rfl (.here) (.put (.put (.put (.put (.put (.put (.put (.put (.put (.done)))))))))) rfl (List.cons_ne_nil _ _) Cy.2 ?_) Am;refine P_h rfl rfl (Ay rfl rfl rfl (.there (.here)) (.put (.put (.put (.put (.put (.put (.put (.put (.put (.done)))))))))) rfl (List.cons_ne_nil _ _) Cy.2 ?_) Am;refine Y ?_;exact Mu (x3.Id,x3.X,x3.Y,x3.Z.Lo,x3.Z.Hi,x3.Wide,x3.Num,x3.Of,x3.Class,x4.Id,x4.X,x4.Y,x4.Z.Lo,x4.Z.Hi,x4.Wide,x4.Num,x4.Of,x4.Class) (g13,g11) hx44 trivial
            ·skip;refine P_h rfl rfl (Ay rfl rfl rfl (.here) (.put (.put (.put (.put (.put (.put (.put (.put (.put (.done)))))))))) rfl (List.cons_ne_nil _ _) Cy.2 ?_) Am;refine P_x rfl (Cl (Co rfl hp3 (sb 2) rfl Cy) rfl ?_) Am;refine P_h rfl rfl (Ay rfl rfl rfl (.there (.here)) (.put (.put (.put (.put (.put (.put (.put (.put (.put (.done)))))))))) rfl (List.cons_ne_nil _ _) Cy.2 ?_) Am;refine Y ?_;exact Mu (x3.Id,x3.X,x3.Y,x3.Z.Lo,x3.Z.Hi,x3.Wide,x3.Num,x3.Of,x3.Class,x4.Id,x4.X,x4.Y,x4.Z.Lo,x4.Z.Hi,x4.Wide,x4.Num,x4.Of,x4.Class) (g13,g11) hx44 trivial
       ·refine Y3 ?_;obtain rfl:=Cq ht0 hx26;refine Y2 ?_;exact Mt s5.1 () ho0 trivial (by exact .drop 0 rfl (.drop 0 rfl (.refl)))
    ·refine Y4 ?_;refine Hf (s:=90) rfl (fun h87=>?_) (fun h87=>?_)
     ·have hx88:=Ne h87 hx86;(iterate 14 refine Y ?_);exact Mu true () hx88 trivial
     ·have hx89:=Cp h87 hx86;refine Y ?_;refine Dd rfl rfl rfl (Cb rfl 66 Tryz.underlying47) rfl ?_;refine Y ?_;refine Dd rfl rfl rfl (Cb rfl 66 Tryz.underlying47) rfl ?_;refine Y3 ?_;refine Hf (s:=97) rfl (fun h90=>?_) (fun h90=>?_)
      ·have hx91:=Ne h90 hx89;refine Y7 ?_;exact Mu true () hx91 trivial
      ·have hx92:=Cp h90 hx89;refine Y ?_;refine Dd rfl rfl rfl (Cb rfl 66 Tryz.underlying47) rfl ?_;refine Y ?_;refine Dd rfl rfl rfl (Cb rfl 66 Tryz.underlying47) rfl ?_;refine Y3 ?_;exact Mu (!(decide ((((r4.1.length:Nat):Int))=(((p0.L.length:Nat):Int))))) () hx92 trivial
 ·refine Y2 ?_;refine Aj (Az rfl (i:=0) rfl rfl Om) rfl ?_;obtain ⟨r3,h4,hx5⟩:=Ad hx;refine Tc (fun w1 hw1=>Ab1 (K:=(K++[])) p0.L p0.R 10 (Has.len' ha0') h4 w1 (oP hK hw1)) ?_;refine Y2 ?_;refine Fm (s:=31) rfl (fun h6=>?_) (fun h6=>?_)
  ·have hx7:=Db h6 hx5;(iterate 14 refine Y ?_);exact Mu true () hx7 trivial
  ·have hx8:=Cp h6 hx5;refine Y ?_;refine Dd rfl rfl rfl (Cb rfl 66 Tryz.underlying47) rfl ?_;refine Y3 ?_;refine Ti hx8 (s:=36) rfl (fun h9 hx10=>?_) (fun h9 hx11=>?_)
   ·refine Y9 ?_;exact Mu true () hx10 trivial
   ·refine Y ?_;obtain ⟨r8,h13,hx14⟩:=Ad hx11;refine T_xG rfl rfl rfl (Au rfl (fun w1 hw1=>Tf (K:=(K++[])) p0.Edits (HasN.len' ha1') h13 w1 (oP hK hw1)) rfl ?_);rintro _ _ hlo ⟨rfl,rfl,-⟩;refine Dh ?_;refine Y2 ?_;refine Dm (s:=40) rfl (fun h15=>?_) (fun h15=>?_)
    ·have hx16:=Cp h15 hx14;refine Y5 ?_;exact Mu true () hx16 trivial
    ·have hx17:=Db h15 hx14;refine Y ?_;refine Dd rfl rfl rfl (Cb rfl 84 Tryz.underlying73) rfl ?_;refine Y3 ?_;exact Mu (decide (64≤(((p0.Edits.length:Nat):Int)))) () hx17 trivial
instance lidarlaw07_LabelStays_c (p0:Dl):Con (Ge p0) Tryz.prog 13 (fun K vs=>∃ (A0_0:Option Addr) (c0_0:Nat) (A0_1:Option Addr) (c0_1:Nat),vs=[.agg #[.slice (A0_0) ((p0.L).length) (c0_0),.int .i64 (p0.R.Cell),.int .i64 (p0.R.Reach),.int .i64 (p0.R.Slope),.int .i64 (p0.R.Link),.int .i64 (p0.R.Flat),.int .i64 (p0.R.Tall),.int .i64 (p0.R.High),.int .i64 (p0.R.Low),.int .i64 (p0.R.Brush),.int .i64 (p0.R.Few),.slice (A0_1) ((p0.Edits).length) (c0_1),.int .u8 (p0.At),.int .u8 (p0.To)]]∧Has K A0_0 (p0.L).length c0_0 9 Af (p0.L)∧HasN K A0_1 (p0.Edits).length c0_1 4 Dk (p0.Edits)∧True) (fun _ r=>fun v Ln=>v = .bool (r)∧Ln=[]∧True):=⟨by
 rintro K _ r ⟨A0_0,c0_0,A0_1,c0_1,rfl,ha0,ha1,-⟩ hx w hK;exact Ox p0 ha0 ha1 hx w hK⟩
end Go.Proofs.YtbkobeeileemjaaGreat
