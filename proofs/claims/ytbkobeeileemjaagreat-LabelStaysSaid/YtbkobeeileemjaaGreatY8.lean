/- Walks of the program, with their plain functions: labels. -/
import Derived.Test.YtbkobeeileemjaaGreatH10
namespace Go.Proofs.YtbkobeeileemjaaGreat
open Go Go.RowKit
set_option maxRecDepth 100000
set_option maxHeartbeats 1000000
theorem Aqb:Jb Tryz.prog 73 84 4:=.mk Tryz.underlying73 (show Tryz.prog.info? 84=some Tryz.t84 from by kernel_rfl) (by kernel_rfl)
instance:Mq Tryz.prog 73 84 4:=⟨Aqb⟩
theorem Ai9:Nh Tryz.prog 84 4:=.mk Tryz.underlying84 rfl (show Tryz.prog.info? 84=some Tryz.t84 from by kernel_rfl) (by kernel_rfl)
instance:AggI Tryz.prog 84 4:=⟨Ai9⟩
theorem Ava:Jd Tryz.prog 84 [.int .i64 (0),.slice (none) (0) (0),.int .i64 (0),.int .i64 (0)]:=⟨_,Tryz.zeroValue84,rfl⟩
instance:Sn Tryz.prog 84 [.int .i64 (0),.slice (none) (0) (0),.int .i64 (0),.int .i64 (0)]:=⟨Ava⟩
theorem Af7:Ca Tryz.prog 84 1 1:=.mk Tryz.underlying84 rfl rfl (show Tryz.prog.info? 82=some Tryz.t82 from by kernel_rfl) (show Tryz.t82.size=1 from by kernel_rfl) rfl
instance:Cs Tryz.prog 84 1 1:=⟨Af7⟩
theorem Aqc:Lg Tryz.prog 82:=.mk Tryz.underlying82 rfl (show Tryz.prog.info? 82=some Tryz.t82 from by kernel_rfl) (by kernel_rfl)
instance:OneI Tryz.prog 82:=⟨Aqc⟩
theorem Af8:Ca Tryz.prog 84 3 3:=.mk Tryz.underlying84 rfl rfl (show Tryz.prog.info? 3=some Tryz.t3 from by kernel_rfl) (show Tryz.t3.size=1 from by kernel_rfl) rfl
instance:Cs Tryz.prog 84 3 3:=⟨Af8⟩
theorem Adb:Ca Tryz.prog 84 2 2:=.mk Tryz.underlying84 rfl rfl (show Tryz.prog.info? 3=some Tryz.t3 from by kernel_rfl) (show Tryz.t3.size=1 from by kernel_rfl) rfl
instance:Cs Tryz.prog 84 2 2:=⟨Adb⟩
theorem Axe:Ca Tryz.prog 84 0 0:=.mk Tryz.underlying84 rfl rfl (show Tryz.prog.info? 3=some Tryz.t3 from by kernel_rfl) (show Tryz.t3.size=1 from by kernel_rfl) rfl
instance:Cs Tryz.prog 84 0 0:=⟨Axe⟩
theorem Amy  : Cx Tryz.prog 47 0 [] 66 []:=fun w=>by kernel_rfl
instance:Hl Tryz.prog 47 0 [] 66 []:=⟨Amy⟩
theorem Aku:Ca Tryz.prog 66 7 8:=.mk Tryz.underlying66 rfl rfl (show Tryz.prog.info? 3=some Tryz.t3 from by kernel_rfl) (show Tryz.t3.size=1 from by kernel_rfl) rfl
instance:Cs Tryz.prog 66 7 8:=⟨Aku⟩
noncomputable def Gp (p0:Int):Option Bool :=
 jn (fun (s4:Bool) =>
 if s4=true then (some true)
 else (some false))
 (fun j4=>if p0=0 then (j4 true)
 else (if p0=1 then (j4 true)
 else (if p0=2 then (j4 true)
 else (if p0=5 then (j4 true)
 else (if p0=6 then (j4 true)
 else (j4 (decide (p0=7))))))))
structure Bb where
 Id:Int
 Ring:List Ab
 From:Int
 To:Int
instance:UndI Tryz.prog 73 (.slice 84):=⟨Tryz.underlying73⟩
def Dk (K:List Ent) (x:Bb) (ys:List Value):Prop:=∃ (A0:Option Addr) (c0:Nat),ys=[.int .i64 (x.Id),.slice (A0) ((x.Ring).length) (c0),.int .i64 (x.From),.int .i64 (x.To)]∧Has K A0 (x.Ring).length c0 2 Ej (x.Ring)
theorem Pi {K L:List Ent} {x:Bb} {ys:List Value} (hK:SubE K L) (h:Dk K x ys):Dk L x ys:=by
 obtain ⟨A0,c0,h0,h1⟩:=h
 exact ⟨A0,c0,h0,Has.up h1 hK⟩
noncomputable def Hg (p0:List Bb):Int→Option (Sum Int (Sum Unit Int)):=fun s0 =>
 if s0 < ((((p0).length:Nat):Int)) then (bnd (idx p0 s0) fun x0 =>
 jn (fun (s1:Bool) =>
 if s1=true then (some (.inr (.inr (73))))
 else (some (.inl (w64 (s0+1)))))
 (fun j0=>if 0 < ((((x0.Ring).length:Nat):Int)) then (bnd (Gx x0.Ring) fun r0 =>
 if r0=true then (bnd (Gp x0.To) fun r1 =>
 if r1=true then (if 0 < ((((x0.Ring).length:Nat):Int)) then (if x0.From=(-1) then (j0 false)
 else (bnd (Gp x0.From) fun r2 =>
 j0 (!(r2))))
 else (j0 false))
 else (j0 true))
 else (j0 true))
 else (bnd (Gp x0.To) fun r3 =>
 if r3=true then (if 0 < ((((x0.Ring).length:Nat):Int)) then (if x0.From=(-1) then (j0 false)
 else (bnd (Gp x0.From) fun r4 =>
 j0 (!(r4))))
 else (j0 false))
 else (j0 true))))
 else (some (.inr (.inl ())))
noncomputable def If (p0:List Bb):Option Int :=
 if 64 < ((((p0).length:Nat):Int)) then (some 2)
 else (jn (fun (s5:Unit) =>
 some 0)
 (fun j5=>bnd (lfix (Hg p0) 0) fun t0 =>
 (match t0 with
 | (.inl z0)=>j5 z0
 | (.inr (z0))=>some z0
 )))
noncomputable def Mn (p0:Bb) (p1:Aa) (p2:Int):Option Bool :=
 if ((((p0.Ring).length:Nat):Int))=0 then (some (decide (p0.Id=p1.Id)))
 else (jn (fun (s5:Bool) =>
 some s5)
 (fun j5=>if p0.From=(-1) then (bnd (Ck p1) fun r8 =>
 bnd (Ll p0.Ring r8) fun r0 =>
 j5 r0)
 else (if p0.From=p2 then (bnd (Ck p1) fun r1 =>
 bnd (Ll p0.Ring r1) fun r2 =>
 j5 r2)
 else (j5 false))))
noncomputable def Td (p0:List Aa):Option (List Aa):=gd (p0.length*72≤140737488355328) <| some p0
theorem Abx (p0:List Aa) {K:List Ent} {A0_0:Option Addr} {c0_0:Nat} (ha0:Has K A0_0 p0.length c0_0 9 Af p0) {r:List Aa} (hx:Td p0=some r) (w:World) (hK:∀ e∈K,Ent.ok w e) :
  CtL Tryz.prog 91 [.slice A0_0 p0.length c0_0] w (fun v Ln=>∃ (A0:Option Addr) (c0:Nat),v = .slice A0 r.length c0∧Ln=[.r A0 r.length c0 66 9 (r.flatMap Af)]∧True):=by
 obtain ⟨hb,hx⟩:=Bh hx;obtain rfl:=Option.some.inj hx;have ha:Has [.old w] A0_0 p0.length c0_0 9 Af p0:=Has.low (E:=[]) (by rw [List.append_nil];exact ha0) hK;refine CtL.mk 8 Tryz.func91 rfl Tryz.ntmps91 (by kernel_rfl) rfl ?_;show T 8 _ [(0,.slice A0_0 p0.length c0_0)] _;refine Y9 ?_;refine Aj (Aee Tryz.underlying47 rfl rfl) rfl ?_;refine Y2 ?_
 cases hA:A0_0 with
 | none =>
  subst hA
  have h0:p0=[]:=by
   cases p0 with
   | nil=>rfl
   | cons x r=>obtain ⟨b,o,h,_⟩:=ha.at_ (by simp);cases h
  subst h0;refine Y8 ?_;refine Bt 66 9 ?_;exact Bq (rs:=[.tmp 2]) Tryz.results91 (.tmp rfl .nil) (Ln:=[.r none 0 0 66 9 []]) ⟨none,0,rfl,rfl,trivial⟩ (Ba rfl Bw) (.pick 0 rfl (.pick 0 rfl .refl))
 | some a =>
  subst hA;refine Y5 ?_;refine T_x (Bv rfl (Amy) rfl (fun g5=>?_));refine Y ?_;refine T_mr (enc:=Af) (sz:=9) (([]:List Aa)) (.here) rfl rfl (fun _=>rfl) (by decide) ?_;refine T_h (Abe Af ([]:List Aa) p0 rfl rfl Ag0 (fun _=>rfl) ha (sb 1) (fun _=>rfl) (by rw [List.length_nil,Nat.zero_add];exact hb) rfl (fun _ _=>.here) (by decide) (fun A1 c1=>?_));refine Y4 ?_;exact Bq (rs:=[.tmp 2]) Tryz.results91 (.tmp rfl .nil) (Ln:=[.r A1 p0.length c1 66 9 (p0.flatMap Af)]) ⟨A1,c1,rfl,rfl,trivial⟩ (Ba rfl Bw) (.pick 0 rfl (.pick 0 rfl .refl))

noncomputable def Gm (p2:List Bb) (s0:(List Int) × Int) (x0:Aa):((List Int) × Int)→Option (Sum ((List Int) × Int) (List Int)):=fun s1 =>
 if s1.2 < ((((p2).length:Nat):Int)) then (jn (fun (s2:List Int) =>
 some (.inl (s2,w64 (s1.2+1))))
 (fun j0=>bnd (idx p2 s1.2) fun x1 =>
 bnd (idx s1.1 s0.2) fun x2 =>
 bnd (Mn x1 x0 x2) fun r0 =>
 if r0=true then (bnd (idx s1.1 s0.2) fun x3 =>
 j0 (setI s1.1 s0.2 x1.To))
 else (j0 s1.1)))
 else (some (.inr s1.1))
noncomputable def Ja (p0:List Aa) (p2:List Bb):((List Int) × Int)→Option (Sum ((List Int) × Int) (List Int)):=fun s0 =>
 if s0.2 < ((((p0).length:Nat):Int)) then (jn (fun (s1:List Int) =>
 some (.inl (s1,w64 (s0.2+1))))
 (fun j0=>bnd (idx p0 s0.2) fun x0 =>
 bnd (lfix (Gm p2 s0 x0) (s0.1,0)) fun t0 =>
 j0 t0))
 else (some (.inr s0.1))
noncomputable def Jn (p0:List Aa) (p1:List Int) (p2:List Bb):Option (List Int) :=
 bnd (Wp p1) fun r1 =>
 jn (fun (s3:List Int) =>
 some s3)
 (fun j3=>bnd (lfix (Ja p0 p2) (r1,0)) fun t0 =>
 j3 t0)
noncomputable def Pg (p0:Aa) (p1:Aa):Option Int :=
 some (w64 (p0.Id-p1.Id))
theorem Ar8 {l:List Aa} {x y:Aa} (hx:ptIn l x) (hy:ptIn l y):Pg x y=some (Bn x y):=by
 have h1:=hx.2.2 x hx.1
 have h2:=hy.2.2 y hy.1
 unfold Pg Bn
 rw [Bp (by omega) (by omega)]
noncomputable def Mb (r0:List Int):((List Aa) × Int)→Option (Sum ((List Aa) × Int) (List Aa)):=fun s0 =>
 if s0.2 < ((((r0).length:Nat):Int)) then (bnd (idx r0 s0.2) fun x0 =>
 bnd (idx s0.1 s0.2) fun x1 =>
 some (.inl (setI s0.1 s0.2 ((⟨x1.Id,x1.X,x1.Y,x1.Z,x1.Wide,x1.Num,x1.Of,x0⟩:Aa)),w64 (s0.2+1))))
 else (some (.inr s0.1))
noncomputable def Ny (p0:List Aa) (p1:Ag) (p2:List Bb):Option ((List Aa) × Int) :=
 bnd (Kd p0 p1) fun r2 =>
 if r2=0 then (bnd (If p2) fun r8 =>
 if r8=0 then (bnd (Td p0) fun r0 =>
 gd ((r0).length≤1000000000∧(∀ x∈r0,(ptIn r0) x)) <|
 jn (fun (s0:List Aa) =>
 some (s0,0))
 (fun j0=>bnd (Gq (Ar Bn r0) p1) fun r1 =>
 bnd (Jn (Ar Bn r0) r1 p2) fun r3 =>
 bnd (lfix (Mb r3) (Ar Bn r0,0)) fun t0 =>
 j0 t0))
 else (some (([]:List Aa),r8)))
 else (some (([]:List Aa),r2))
instance Afq (p0:Int):Con (Gp p0) Tryz.prog 170 (fun _ vs=>vs=[.int .i64 (p0)]) (fun _ r=>fun v Ln=>v = .bool (r)∧Ln=[]∧True):=⟨by
 rintro _ _ r rfl hx w hK;unfold Gp at hx;refine CtS Tryz.ntmps170 Tryz.results170 ?_;refine pre ?_;intros;rename_i hx
 refine Lw ?_;refine pre ?_;intros;rename_i hx
 refine Lw ?_;refine pre ?_;intros;rename_i hx
 refine Lw ?_;refine pre ?_;intros;rename_i hx
 apply Jr (γ:=Unit) hx [] (fun s4 y4 f=>(4,.bool (s4))::f) [999] (fun s4 y4 l=>l);exact kk
 ·intro s4 y4 hx;exact au
 ·intro _ hx;exact au⟩
theorem Ok (p0:Int)  {r:Bool} (hx:Gp p0=some r) (w:World):CtL Tryz.prog 170 [.int .i64 (p0)] w fun v Ln=>v = .bool (r)∧Ln=[]∧True:=(Afq p0).h [] _ _ rfl hx w (fun _ h=>absurd h List.not_mem_nil)
theorem Tl (p0:List Bb) {K:List Ent} {A0_0:Option Addr} {c0_0:Nat} (ha0:HasN K A0_0 p0.length c0_0 4 Dk (p0)) {r:Int} (hx:If p0=some r) (w:World) (hK:∀ e∈K,Ent.ok w e):CtL Tryz.prog 90 [.slice (A0_0) (p0.length) (c0_0)] w fun v Ln=>v = .int .i64 (r)∧Ln=[]∧True:=by
 have ha0':=HasN.up0 ha0;refine CtL.mk 47 Tryz.func90 rfl Tryz.ntmps90 (by kernel_rfl) rfl ?_;show T 47 _ [(0,.slice (A0_0) (p0.length) (c0_0))] _;unfold If at hx;refine Y9 ?_;refine Aj (Cb rfl 84 Tryz.underlying73) rfl ?_;refine Y3 ?_;refine Ti hx (s:=8) rfl (fun h1 hx2=>?_) (fun h1 hx3=>?_)
 ·refine Y8 ?_;obtain rfl:=Option.some.inj hx2;exact Bq (rs:=[.tmp 2]) Tryz.results90 (.tmp rfl (.nil)) (Ln:=[]) ⟨rfl,rfl,trivial⟩ (Bw) (by exact .refl)
 ·refine Y3 ?_;refine Tj (γ:=Unit) hx3 (fun s5 y5=>[]) (fun s5 y5=>[]++[.old w]) (fun s5 y5=>True) (fun s5 y5 hx0 hG0=>?_) (fun j5 hx3=>?_)
  ·refine Y6 ?_;obtain rfl:=Option.some.inj hx0;exact Bq (rs:=[.tmp 2]) Tryz.results90 (.tmp rfl (.nil)) (Ln:=[]) ⟨rfl,rfl,trivial⟩ (Bw) (by exact .refl)
  ·refine Y3 ?_;refine Aj (Cb rfl 84 Tryz.underlying73) rfl ?_;refine Y4 ?_;obtain ⟨t0,hl0,ho0⟩:=Ad hx3;refine Lp (σ:=Int) (γ:=Unit) hl0 (fun s0 y0=>[(9,.slice (A0_0) (p0.length) (c0_0)),(10,.int .i64 (((p0.length:Nat):Int))),(11,.int .i64 (s0))]) (fun s0 y0=>[]++[.old w]) (fun s0 y0=>True) () trivial (by exact .refl) ?_;intro s0 y0 hG1 x0 hx1 ht0;unfold Hg at hx1;refine Y6 ?_;refine Ti hx1 (s:=12) rfl (fun h0 hx4=>?_) (fun h0 hx5=>?_)
   ·refine Y7 ?_;obtain ⟨x1,h2,hx6⟩:=Ad hx4;obtain ⟨b0,o0,j0,ys86,hA0,hj0,hl1,hp0,hr87⟩:=HasN.at_idx ha0' h2;obtain ⟨A0,c0,rfl,hs0⟩:=hr87;have hp1:=Pt.low (E:=[]) hp0 hK;refine Aj (Be rfl rfl hA0 (j:=j0) hj0 hl1 Aqb) rfl ?_;refine Aj (Co rfl hp1 (sb 0) rfl Ai9) rfl ?_;refine T_x (Bj Ava rfl (fun g0=>?_));refine T_h (Ay rfl rfl rfl (.here) (.put (.put (.put (.put (.done))))) rfl (List.cons_ne_nil _ _) Ai9.2 ?_);refine Y4 ?_;refine Aj (Ao rfl Af7 rfl) rfl ?_;refine Aj (Aq rfl (i:=0) rfl rfl Aqc) rfl ?_;refine Aj (Cb rfl 28 Tryz.underlying82) rfl ?_;refine Y4 ?_;refine Tj (γ:=Unit) hx6 (fun s1 y1=>[(9,.slice (A0_0) (p0.length) (c0_0)),(10,.int .i64 (((p0.length:Nat):Int))),(11,.int .i64 (s0)),(45,.bool (s1))]) (fun s1 y1=>[]++[.old w]) (fun s1 y1=>True) (fun s1 y1 hx7 hG2=>?_) (fun j1 hx6=>?_)
    ·refine Dm (s:=45) rfl (fun h3=>?_) (fun h3=>?_)
     ·have hx8:=Cp h3 hx7;refine Y9 ?_;obtain rfl:=Cq ht0 hx8;refine Y3 ?_;obtain rfl:=Option.some.inj ho0;exact Bq (rs:=[.tmp 2]) Tryz.results90 (.tmp rfl (.nil)) (Ln:=[]) ⟨rfl,rfl,trivial⟩ (Bw) (by exact .refl)
     ·have hx9:=Db h3 hx7;refine Y8 ?_;exact Rp (w64 (s0+1)) () hx9 trivial (by exact .refl)
    ·refine Y3 ?_;refine Ti hx6 (s:=20) rfl (fun h4 hx91=>?_) (fun h4 hx10=>?_)
     ·refine Dd rfl rfl rfl (Ao rfl Af7 rfl) rfl ?_;refine Dd rfl rfl rfl (Aq rfl (i:=0) rfl rfl Aqc) rfl ?_;obtain ⟨r0,h5,hx94⟩:=Ad hx91;refine T_xG rfl rfl rfl (Au rfl (fun w1 hw1=>Abm (K:=(K++[])) x1.Ring (Has.len' hs0) h5 w1 (oP hK hw1)) rfl ?_);rintro _ _ hlo ⟨rfl,rfl,-⟩;refine Dh ?_;refine Y3 ?_;refine Fm (s:=26) rfl (fun h6=>?_) (fun h6=>?_)
      ·have hx96:=Db h6 hx94;(iterate 20 refine Y ?_);exact Mt true () hx96 trivial (by exact .drop 0 rfl (.refl))
      ·have hx97:=Cp h6 hx94;refine Dd rfl rfl rfl (Ao rfl Af8 rfl) rfl ?_;refine Dd rfl rfl rfl (Aq rfl (i:=0) rfl rfl one3) rfl ?_;obtain ⟨r1,h7,hx11⟩:=Ad hx97;refine T_xG rfl rfl rfl (Au rfl (fun w1 hw1=>Ok x1.To  h7 w1) rfl ?_);rintro _ _ hlo ⟨rfl,rfl,-⟩;refine Dh ?_;refine Y3 ?_;refine Fm (s:=32) rfl (fun h8=>?_) (fun h8=>?_)
       ·have hx12:=Db h8 hx11;(iterate 14 refine Y ?_);exact Mt true () hx12 trivial (by exact .drop 0 rfl (.refl))
       ·have hx13:=Cp h8 hx11;refine Y2 ?_;refine Ti hx13 (s:=34) rfl (fun h9 hx14=>?_) (fun h9 hx15=>?_)
        ·refine Dd rfl rfl rfl (Ao rfl Adb rfl) rfl ?_;refine Dd rfl rfl rfl (Aq rfl (i:=0) rfl rfl one3) rfl ?_;refine Y3 ?_;refine Hf (s:=39) rfl (fun h10=>?_) (fun h10=>?_)
         ·have hx16:=Ne h10 hx14;refine Dd rfl rfl rfl (Ao rfl Adb rfl) rfl ?_;refine Dd rfl rfl rfl (Aq rfl (i:=0) rfl rfl one3) rfl ?_;obtain ⟨r2,h11,hx17⟩:=Ad hx16;refine T_xG rfl rfl rfl (Au rfl (fun w1 hw1=>Ok x1.From  h11 w1) rfl ?_);rintro _ _ hlo ⟨rfl,rfl,-⟩;refine Dh ?_;refine Y4 ?_;exact Mt (!(r2)) () hx17 trivial (by exact .drop 0 rfl (.refl))
         ·have hx18:=Cp h10 hx14;refine Y7 ?_;exact Mt false () hx18 trivial (by exact .drop 0 rfl (.refl))
        ·refine Y12 ?_;exact Mt false () hx15 trivial (by exact .drop 0 rfl (.refl))
     ·refine Y6 ?_;refine Dd rfl rfl rfl (Ao rfl Af8 rfl) rfl ?_;refine Dd rfl rfl rfl (Aq rfl (i:=0) rfl rfl one3) rfl ?_;obtain ⟨r3,h12,hx19⟩:=Ad hx10;refine T_xG rfl rfl rfl (Au rfl (fun w1 hw1=>Ok x1.To  h12 w1) rfl ?_);rintro _ _ hlo ⟨rfl,rfl,-⟩;refine Dh ?_;refine Y3 ?_;refine Fm (s:=32) rfl (fun h13=>?_) (fun h13=>?_)
      ·have hx20:=Db h13 hx19;(iterate 14 refine Y ?_);exact Mt true () hx20 trivial (by exact .drop 0 rfl (.refl))
      ·have hx21:=Cp h13 hx19;refine Y2 ?_;refine Ti hx21 (s:=34) rfl (fun h14 hx22=>?_) (fun h14 hx23=>?_)
       ·refine Dd rfl rfl rfl (Ao rfl Adb rfl) rfl ?_;refine Dd rfl rfl rfl (Aq rfl (i:=0) rfl rfl one3) rfl ?_;refine Y3 ?_;refine Hf (s:=39) rfl (fun h15=>?_) (fun h15=>?_)
        ·have hx24:=Ne h15 hx22;refine Dd rfl rfl rfl (Ao rfl Adb rfl) rfl ?_;refine Dd rfl rfl rfl (Aq rfl (i:=0) rfl rfl one3) rfl ?_;obtain ⟨r4,h16,hx25⟩:=Ad hx24;refine T_xG rfl rfl rfl (Au rfl (fun w1 hw1=>Ok x1.From  h16 w1) rfl ?_);rintro _ _ hlo ⟨rfl,rfl,-⟩;refine Dh ?_;refine Y4 ?_;exact Mt (!(r4)) () hx25 trivial (by exact .drop 0 rfl (.refl))
        ·have hx26:=Cp h15 hx22;refine Y7 ?_;exact Mt false () hx26 trivial (by exact .drop 0 rfl (.refl))
       ·refine Y12 ?_;exact Mt false () hx23 trivial (by exact .drop 0 rfl (.refl))
   ·refine Y3 ?_;obtain rfl:=Cq ht0 hx5;refine Y2 ?_;exact Mt () () ho0 trivial (by exact .refl)
instance label_validEdits_c (p0:List Bb):Con (If p0) Tryz.prog 90 (fun K vs=>∃ (A0_0:Option Addr) (c0_0:Nat),vs=[.slice (A0_0) ((p0).length) (c0_0)]∧HasN K A0_0 (p0).length c0_0 4 Dk (p0)∧True) (fun _ r=>fun v Ln=>v = .int .i64 (r)∧Ln=[]∧True):=⟨by
 rintro K _ r ⟨A0_0,c0_0,rfl,ha0,-⟩ hx w hK;exact Tl p0 ha0 hx w hK⟩
instance Afr (p0:Bb) (p1:Aa) (p2:Int):Con (Mn p0 p1 p2) Tryz.prog 173 (fun K vs=>∃ (A0_0:Option Addr) (c0_0:Nat),vs=[.agg #[.int .i64 (p0.Id),.slice (A0_0) ((p0.Ring).length) (c0_0),.int .i64 (p0.From),.int .i64 (p0.To)],.agg #[.int .i64 (p1.Id),.int .i64 (p1.X),.int .i64 (p1.Y),.int .i64 (p1.Z.Lo),.int .i64 (p1.Z.Hi),.int .i64 (p1.Wide),.int .i64 (p1.Num),.int .i64 (p1.Of),.int .i64 (p1.Class)],.int .i64 (p2)]∧Has K A0_0 (p0.Ring).length c0_0 2 Ej (p0.Ring)∧True) (fun _ r=>fun v Ln=>v = .bool (r)∧Ln=[]∧True):=⟨by
 rintro K _ r ⟨A0_0,c0_0,rfl,ha0,-⟩ hx w hK;replace ha0:=Has.lo ha0 hK;unfold Mn at hx;have:=dl 3 [0,1,0,0,0,1,0,0,0,0,0,1,1,2,2,0,2] [0,1,2,3,4,5,6,7,8,9,10,11,12,13,14,15,16];refine CtS Tryz.ntmps173 Tryz.results173 ?_;exact au⟩
theorem Ad8 (p0:Bb) (p1:Aa) (p2:Int) {K:List Ent} {A0_0:Option Addr} {c0_0:Nat} (ha0:Has K A0_0 (p0.Ring).length c0_0 2 Ej (p0.Ring)) {r:Bool} (hx:Mn p0 p1 p2=some r) (w:World) (hK:∀ e∈K,Ent.ok w e):CtL Tryz.prog 173 [.agg #[.int .i64 (p0.Id),.slice (A0_0) ((p0.Ring).length) (c0_0),.int .i64 (p0.From),.int .i64 (p0.To)],.agg #[.int .i64 (p1.Id),.int .i64 (p1.X),.int .i64 (p1.Y),.int .i64 (p1.Z.Lo),.int .i64 (p1.Z.Hi),.int .i64 (p1.Wide),.int .i64 (p1.Num),.int .i64 (p1.Of),.int .i64 (p1.Class)],.int .i64 (p2)] w fun v Ln=>v = .bool (r)∧Ln=[]∧True:=(Afr p0 p1 p2).h K _ _ ⟨_,_,rfl,ha0,trivial⟩ hx w hK
theorem Ux (p0:List Aa) (p1:List Int) (p2:List Bb) {K:List Ent} {A0_0:Option Addr} {c0_0:Nat} {A0_1:Option Addr} {c0_1:Nat} {A0_2:Option Addr} {c0_2:Nat} (ha0:Has K A0_0 p0.length c0_0 9 Af (p0)) (ha1:Has K A0_1 p1.length c0_1 1 Bd (p1)) (ha2:HasN K A0_2 p2.length c0_2 4 Dk (p2)) {r:List Int} (hx:Jn p0 p1 p2=some r) (w:World) (hK:∀ e∈K,Ent.ok w e):CtL Tryz.prog 94 [.slice (A0_0) (p0.length) (c0_0),.slice (A0_1) (p1.length) (c0_1),.slice (A0_2) (p2.length) (c0_2)] w fun v Ln=>∃ (A0:Option Addr) (c0:Nat),v = .slice (A0) (r.length) (c0)∧Ln=[.r A0 r.length c0 3 1 (r.flatMap Bd)]∧True:=by
 have ha0':=Has.up0 ha0;have ha1':=Has.up0 ha1;have ha2':=HasN.up0 ha2;refine CtL.mk 42 Tryz.func94 rfl Tryz.ntmps94 (by kernel_rfl) rfl ?_;show T 42 _ [(0,.slice (A0_0) (p0.length) (c0_0)),(1,.slice (A0_1) (p1.length) (c0_1)),(2,.slice (A0_2) (p2.length) (c0_2))] _;unfold Jn at hx;refine Y8 ?_;obtain ⟨r1,h2,hx3⟩:=Ad hx;refine T_x (Au rfl (fun w1 hw1=>Ab9 (K:=(K++[])) p1 (Has.len' ha1') h2 w1 (oP hK hw1)) rfl ?_);rintro _ _ hlo ⟨A4,c5,rfl,rfl,-⟩;refine Do ?_;refine Y3 ?_;refine Tj (γ:=(Option Addr) × Nat) hx3 (fun s3 y3=>[(7,.slice (y3.1) (s3.length) (y3.2))]) (fun s3 y3=>[.r (y3.1) (s3.length) (y3.2) 3 1 (s3.flatMap Bd)]++[.old w]) (fun s3 y3=>True) (fun s3 y3 hx0 hG0=>?_) (fun j3 hx3=>?_)
 ·refine Y7 ?_;obtain rfl:=Option.some.inj hx0;exact Bq (rs:=[.tmp 6]) Tryz.results94 (.tmp rfl (.nil)) (Ln:=[.r (y3.1) (s3.length) (y3.2) 3 1 (s3.flatMap Bd)]) ⟨y3.1,y3.2,rfl,rfl,trivial⟩ (Ba rfl (Bw)) (by exact .pick 0 rfl (.refl))
 ·refine Y3 ?_;refine Aj (Cb rfl 66 Tryz.underlying47) rfl ?_;refine Y4 ?_;obtain ⟨t0,hl0,ho0⟩:=Ad hx3;refine Lp (σ:=(List Int) × Int) (γ:=(Option Addr) × Nat) hl0 (fun s0 y0=>[(2,.slice (A0_2) (p2.length) (c0_2)),(7,.slice (y0.1) (s0.1.length) (y0.2)),(14,.slice (A0_0) (p0.length) (c0_0)),(15,.int .i64 (((p0.length:Nat):Int))),(16,.int .i64 (s0.2))]) (fun s0 y0=>[.r (y0.1) (s0.1.length) (y0.2) 3 1 (s0.1.flatMap Bd)]++[.old w]) (fun s0 y0=>True) (A4,c5) trivial (by exact .pick 0 rfl (.refl)) ?_;intro s0 y0 hG1 x0 hx1 ht0;unfold Ja at hx1;refine Y6 ?_;refine Ti hx1 (s:=17) rfl (fun h0 hx2=>?_) (fun h0 hx4=>?_)
  ·refine Y3 ?_;refine Tj (γ:=(Option Addr) × Nat) hx2 (fun s1 y1=>[(2,.slice (A0_2) (p2.length) (c0_2)),(7,.slice (y1.1) (s1.length) (y1.2)),(14,.slice (A0_0) (p0.length) (c0_0)),(15,.int .i64 (((p0.length:Nat):Int))),(16,.int .i64 (s0.2))]) (fun s1 y1=>[.r (y1.1) (s1.length) (y1.2) 3 1 (s1.flatMap Bd)]++[.old w]) (fun s1 y1=>True) (fun s1 y1 hx5 hG2=>?_) (fun j0 hx2=>?_)
   ·refine Y4 ?_;exact Ru (s1,w64 (s0.2+1)) (y1.1,y1.2) hx5 trivial
   ·refine Y4 ?_;obtain ⟨x1,h1,hx6⟩:=Ad hx2;have hw0:=Has.low (E:=[]) ha0' hK;obtain ⟨b0,o0,j1,hA0,hj0,hl1,hp0⟩:=Has.at_idx hw0 h1;refine Aj (Be rfl rfl hA0 (j:=j1) hj0 hl1 Qm) rfl ?_;refine Aj (Co rfl hp0 (sb 1) rfl Cy) rfl ?_;refine T_x (Bj Mz rfl (fun g0=>?_));refine Y ?_;refine T_h (Ay rfl rfl rfl (.here) (.put (.put (.put (.put (.put (.put (.put (.put (.put (.done)))))))))) rfl (List.cons_ne_nil _ _) Cy.2 ?_);refine Y5 ?_;refine Aj (Cb rfl 84 Tryz.underlying73) rfl ?_;refine Y4 ?_;obtain ⟨t1,hl2,ho1⟩:=Ad hx6;refine Lp (σ:=(List Int) × Int) (γ:=(Option Addr) × Nat) hl2 (fun s2 y2=>[(2,.slice (A0_2) (p2.length) (c0_2)),(7,.slice (y2.1) (s2.1.length) (y2.2)),(8,.int .i64 (s0.2)),(9,.pointer (some ⟨g0,0,none⟩)),(14,.slice (A0_0) (p0.length) (c0_0)),(15,.int .i64 (((p0.length:Nat):Int))),(16,.int .i64 (s0.2)),(21,.slice (A0_2) (p2.length) (c0_2)),(22,.int .i64 (((p2.length:Nat):Int))),(23,.int .i64 (s2.2))]) (fun s2 y2=>[.m g0 66 [.int .i64 (x1.Id),.int .i64 (x1.X),.int .i64 (x1.Y),.int .i64 (x1.Z.Lo),.int .i64 (x1.Z.Hi),.int .i64 (x1.Wide),.int .i64 (x1.Num),.int .i64 (x1.Of),.int .i64 (x1.Class)],.r (y2.1) (s2.1.length) (y2.2) 3 1 (s2.1.flatMap Bd)]++[.old w]) (fun s2 y2=>True) (y0.1,y0.2) trivial (by exact .pick 0 rfl (.pick 0 rfl (.refl))) ?_
    intro s2 y2 hG3 x2 hx7 ht1;unfold Gm at hx7;refine Y6 ?_;refine Ti hx7 (s:=24) rfl (fun h3 hx8=>?_) (fun h3 hx9=>?_)
    ·refine Y3 ?_;refine Tj (γ:=(Option Addr) × Nat) hx8 (fun s4 y4=>[(2,.slice (A0_2) (p2.length) (c0_2)),(7,.slice (y4.1) (s4.length) (y4.2)),(8,.int .i64 (s0.2)),(9,.pointer (some ⟨g0,0,none⟩)),(14,.slice (A0_0) (p0.length) (c0_0)),(15,.int .i64 (((p0.length:Nat):Int))),(16,.int .i64 (s0.2)),(21,.slice (A0_2) (p2.length) (c0_2)),(22,.int .i64 (((p2.length:Nat):Int))),(23,.int .i64 (s2.2))]) (fun s4 y4=>[.m g0 66 [.int .i64 (x1.Id),.int .i64 (x1.X),.int .i64 (x1.Y),.int .i64 (x1.Z.Lo),.int .i64 (x1.Z.Hi),.int .i64 (x1.Wide),.int .i64 (x1.Num),.int .i64 (x1.Of),.int .i64 (x1.Class)],.r (y4.1) (s4.length) (y4.2) 3 1 (s4.flatMap Bd)]++[.old w]) (fun s4 y4=>True) (fun s4 y4 hx10 hG4=>?_) (fun j2 hx8=>?_)
     ·refine Y4 ?_;exact Ru (s4,w64 (s2.2+1)) (y4.1,y4.2) hx10 trivial
     ·refine Y3 ?_;obtain ⟨x3,h4,hx11⟩:=Ad hx8;obtain ⟨b1,o1,j4,ys216,hA1,hj1,hl3,hp1,hr217⟩:=HasN.at_idx ha2' h4;obtain ⟨A1,c1,rfl,hs0⟩:=hr217;have hp2:=Pt.low (E:=[]) hp1 hK;refine Aj (Be rfl rfl hA1 (j:=j4) hj1 hl3 Aqb) rfl ?_;refine Aj (Co rfl hp2 (sb 2) rfl Ai9) rfl ?_;refine T_x (Bj Ava rfl (fun g1=>?_));refine T_h (Ay rfl rfl rfl (.here) (.put (.put (.put (.put (.done))))) rfl (List.cons_ne_nil _ _) Ai9.2 ?_);refine Y3 ?_;refine T_dr [1,1,0,0,0,1,2] (.q 0 (.q 1 (.q 2 (.q 3 (.q 4 (.q 5 (.e 6 (.done) (.stop)))))))) mixed (by kernel_rfl) (by kernel_rfl) ?_;refine P_q rfl rfl (Az rfl (i:=0) rfl rfl Ai9) rfl ?_;refine P_q rfl rfl (Az rfl (i:=1) rfl rfl Cy) rfl ?_;refine Y2 ?_;obtain ⟨x4,h5,hx12⟩:=Ad hx11;refine Fu (k:=2) rfl (by decide) (fun _=>rfl) h5 (fun b2 j5 hA2 hj2 hl4 hm0 hp3=>?_);refine P_p rfl rfl (Be rfl rfl hA2 (j:=j5) hj2 hl4 Jq) rfl ?_;refine P_q rfl rfl (Ce rfl hp3 (sb 2) rfl one3) rfl ?_;obtain ⟨r0,h6,hx13⟩:=Ad hx12;refine Pc (fun w1 hw1=>Ad8 (K:=(K++[])) x3 x1 x4 (Has.len' hs0) h6 w1 (oP hK hw1)) ?_;refine Y2 ?_;refine Dm (s:=33) rfl (fun h7=>?_) (fun h7=>?_)
      ·have hx14:=Cp h7 hx13;refine Y4 ?_;refine Aj (Ao rfl Af8 rfl) rfl ?_;refine Aj (Aq rfl (i:=0) rfl rfl one3) rfl ?_;obtain ⟨x5,h8,hx15⟩:=Ad hx14;refine Fu (k:=2) rfl (by decide) (fun _=>rfl) h8 (fun b3 j6 hA3 hj3 hl5 hm1 hp4=>?_);refine Aj (Be rfl rfl hA3 (j:=j6) hj3 hl5 Jq) rfl ?_;refine T_h (Mm Bd (s2.1) (s0.2) (x3.To) rfl rfl rfl (.there (.there (.here))) hA3 rfl hj3 hl5 (fun _=>rfl) (by decide) rfl one3.2 ?_);refine Y2 ?_
       have hn0:s2.1.length=(setI s2.1 s0.2 x3.To).length:=by simp [Bo,Ch,List.length_append] <;> omega
       refine En (.there (.there (.here))) (e':=.r (y2.1) ((setI s2.1 s0.2 x3.To).length) (y2.2) 3 1 ((setI s2.1 s0.2 x3.To).flatMap Bd)) (by first | (rw [← hn0];done) | rfl) ?_;refine Ec (s:=7) (v':=.slice (y2.1) ((setI s2.1 s0.2 x3.To).length) (y2.2)) rfl (by have hn1:(s2.1.length)=(setI s2.1 s0.2 x3.To).length:=(by simp [Bo,Ch,List.length_append] <;> omega);first | (rw [← hn1];done) | rfl) ?_;exact Mu (setI s2.1 s0.2 x3.To) (y2.1,y2.2) hx15 trivial
      ·have hx16:=Db h7 hx13;refine Y3 ?_;exact Mu s2.1 (y2.1,y2.2) hx16 trivial
    ·refine Y3 ?_;obtain rfl:=Cq ht1 hx9;refine Y3 ?_;exact Mu s2.1 (y2.1,y2.2) ho1 trivial
  ·refine Y3 ?_;obtain rfl:=Cq ht0 hx4;refine Y2 ?_;exact Mu s0.1 (y0.1,y0.2) ho0 trivial
instance label_corrected_c (p0:List Aa) (p1:List Int) (p2:List Bb):Con (Jn p0 p1 p2) Tryz.prog 94 (fun K vs=>∃ (A0_0:Option Addr) (c0_0:Nat) (A0_1:Option Addr) (c0_1:Nat) (A0_2:Option Addr) (c0_2:Nat),vs=[.slice (A0_0) ((p0).length) (c0_0),.slice (A0_1) ((p1).length) (c0_1),.slice (A0_2) ((p2).length) (c0_2)]∧Has K A0_0 (p0).length c0_0 9 Af (p0)∧Has K A0_1 (p1).length c0_1 1 Bd (p1)∧HasN K A0_2 (p2).length c0_2 4 Dk (p2)∧True) (fun _ r=>fun v Ln=>∃ (A0:Option Addr) (c0:Nat),v = .slice (A0) ((r).length) (c0)∧Ln=[.r A0 (r).length c0 3 1 ((r).flatMap Bd)]∧True):=⟨by
 rintro K _ r ⟨A0_0,c0_0,A0_1,c0_1,A0_2,c0_2,rfl,ha0,ha1,ha2,-⟩ hx w hK;exact Ux p0 p1 p2 ha0 ha1 ha2 hx w hK⟩
instance Afs (p0:Aa) (p1:Aa):Con (Pg p0 p1) Tryz.prog 93 (fun _ vs=>vs=[.agg #[.int .i64 (p0.Id),.int .i64 (p0.X),.int .i64 (p0.Y),.int .i64 (p0.Z.Lo),.int .i64 (p0.Z.Hi),.int .i64 (p0.Wide),.int .i64 (p0.Num),.int .i64 (p0.Of),.int .i64 (p0.Class)],.agg #[.int .i64 (p1.Id),.int .i64 (p1.X),.int .i64 (p1.Y),.int .i64 (p1.Z.Lo),.int .i64 (p1.Z.Hi),.int .i64 (p1.Wide),.int .i64 (p1.Num),.int .i64 (p1.Of),.int .i64 (p1.Class)]]) (fun _ r=>fun v Ln=>v = .int .i64 (r)∧Ln=[]∧True):=⟨by
 rintro _ _ r rfl hx w hK;unfold Pg at hx;refine CtS Tryz.ntmps93 Tryz.results93 ?_;exact au⟩
theorem Ad9 (p0:Aa) (p1:Aa)  {r:Int} (hx:Pg p0 p1=some r) (w:World):CtL Tryz.prog 93 [.agg #[.int .i64 (p0.Id),.int .i64 (p0.X),.int .i64 (p0.Y),.int .i64 (p0.Z.Lo),.int .i64 (p0.Z.Hi),.int .i64 (p0.Wide),.int .i64 (p0.Num),.int .i64 (p0.Of),.int .i64 (p0.Class)],.agg #[.int .i64 (p1.Id),.int .i64 (p1.X),.int .i64 (p1.Y),.int .i64 (p1.Z.Lo),.int .i64 (p1.Z.Hi),.int .i64 (p1.Wide),.int .i64 (p1.Num),.int .i64 (p1.Of),.int .i64 (p1.Class)]] w fun v Ln=>v = .int .i64 (r)∧Ln=[]∧True:=(Afs p0 p1).h [] _ _ rfl hx w (fun _ h=>absurd h List.not_mem_nil)
theorem Uy (p0:List Aa) (p1:Ag) (p2:List Bb) {K:List Ent} {A0_0:Option Addr} {c0_0:Nat} {A0_1:Option Addr} {c0_1:Nat} (ha0:Has K A0_0 p0.length c0_0 9 Af (p0)) (ha1:HasN K A0_1 p2.length c0_1 4 Dk (p2)) {r:(List Aa) × Int} (hx:Ny p0 p1 p2=some r) (w:World) (hK:∀ e∈K,Ent.ok w e):CtL Tryz.prog 44 [.slice (A0_0) (p0.length) (c0_0),.agg #[.int .i64 (p1.Cell),.int .i64 (p1.Reach),.int .i64 (p1.Slope),.int .i64 (p1.Link),.int .i64 (p1.Flat),.int .i64 (p1.Tall),.int .i64 (p1.High),.int .i64 (p1.Low),.int .i64 (p1.Brush),.int .i64 (p1.Few)],.slice (A0_1) (p2.length) (c0_1)] w fun v Ln=>∃ (A0:Option Addr) (c0:Nat),v = .tuple #[.slice (A0) (r.1.length) (c0),.int .i64 (r.2)]∧Ln=[.r A0 r.1.length c0 66 9 (r.1.flatMap Af)]∧True:=by
 have ha0':=Has.up0 ha0;have ha1':=HasN.up0 ha1;refine CtL.mk 47 Tryz.func44 rfl Tryz.ntmps44 (by kernel_rfl) rfl ?_;show T 47 _ [(0,.slice (A0_0) (p0.length) (c0_0)),(1,.agg #[.int .i64 (p1.Cell),.int .i64 (p1.Reach),.int .i64 (p1.Slope),.int .i64 (p1.Link),.int .i64 (p1.Flat),.int .i64 (p1.Tall),.int .i64 (p1.High),.int .i64 (p1.Low),.int .i64 (p1.Brush),.int .i64 (p1.Few)]),(2,.slice (A0_1) (p2.length) (c0_1))] _;unfold Ny at hx;refine Y2 ?_;refine T_x (Dy rfl rfl rfl (fun g1=>?_));refine Y8 ?_;refine Aj (Az rfl (i:=0) rfl rfl Om) rfl ?_;obtain ⟨r2,h3,hx4⟩:=Ad hx;refine Tc (fun w1 hw1=>Wu (K:=(K++[])) p0 p1 (Has.len' ha0') h3 w1 (oP hK hw1)) ?_;refine Y9 ?_;refine Hf (s:=17) rfl (fun h5=>?_) (fun h5=>?_)
 ·have hx6:=Ne h5 hx4;refine Y10 ?_;refine Bt 66 9 ?_;obtain rfl:=Option.some.inj hx6;exact Bq (rs:=[.tmp 6,.tmp 7]) Tryz.results44 (.tmp rfl (.tmp rfl (.nil))) (Ln:=[.r (none) (0) (0) 66 9 ((([]:List Aa)).flatMap Af)]) ⟨none,0,rfl,rfl,trivial⟩ (Ba rfl (Bw)) (by exact .pick 0 rfl (.drop 0 rfl (.refl)))
 ·have hx7:=Cp h5 hx4;refine Y7 ?_;obtain ⟨r8,h9,hx0⟩:=Ad hx7;refine Tc (fun w1 hw1=>Tl (K:=(K++[])) p2 (HasN.len' ha1') h9 w1 (oP hK hw1)) ?_;refine Y9 ?_;refine Hf (s:=22) rfl (fun h0=>?_) (fun h0=>?_)
  ·have hx1:=Ne h0 hx0;refine Y10 ?_;refine Bt 66 9 ?_;obtain rfl:=Option.some.inj hx1;exact Bq (rs:=[.tmp 6,.tmp 7]) Tryz.results44 (.tmp rfl (.tmp rfl (.nil))) (Ln:=[.r (none) (0) (0) 66 9 ((([]:List Aa)).flatMap Af)]) ⟨none,0,rfl,rfl,trivial⟩ (Ba rfl (Bw)) (by exact .pick 0 rfl (.drop 0 rfl (.refl)))
  ·have hx2:=Cp h0 hx0;refine Y6 ?_;obtain ⟨r0,h1,hx3⟩:=Ad hx2;refine T_x (Au rfl (fun w1 hw1=>Abx (K:=(K++[])) p0 (Has.len' ha0') h1 w1 (oP hK hw1)) rfl ?_);rintro _ _ hlo ⟨A1,c1,rfl,rfl,-⟩;refine Do ?_;refine Y6 ?_;obtain ⟨h2,hx5⟩:=Bh hx3;refine T_h (St (p:=(ptIn r0)) (arg:=fun x=>.agg #[.int .i64 (x.Id),.int .i64 (x.X),.int .i64 (x.Y),.int .i64 (x.Z.Lo),.int .i64 (x.Z.Hi),.int .i64 (x.Wide),.int .i64 (x.Num),.int .i64 (x.Of),.int .i64 (x.Class)]) (cf:=Bn) r0 (by exact ⟨_,Tryz.func92,rfl,rfl⟩) (fun w hok hcm=>Aby r0 h2.1 h2.2 w hok hcm ⟨_,Tryz.func93,rfl,rfl⟩) (fun ys=>[.r (A1) (r0.length) (c1) 66 9 ys,.m g1 54 [.int .i64 (p1.Cell),.int .i64 (p1.Reach),.int .i64 (p1.Slope),.int .i64 (p1.Link),.int .i64 (p1.Flat),.int .i64 (p1.Tall),.int .i64 (p1.High),.int .i64 (p1.Low),.int .i64 (p1.Brush),.int .i64 (p1.Few)]]++[.old w]) (fun ys=>by exact .here) (fun ys W hW x y px py=>⟨[.agg #[.int .i64 (x.Id),.int .i64 (x.X),.int .i64 (x.Y),.int .i64 (x.Z.Lo),.int .i64 (x.Z.Hi),.int .i64 (x.Wide),.int .i64 (x.Num),.int .i64 (x.Of),.int .i64 (x.Class)],.agg #[.int .i64 (y.Id),.int .i64 (y.X),.int .i64 (y.Y),.int .i64 (y.Z.Lo),.int .i64 (y.Z.Hi),.int .i64 (y.Wide),.int .i64 (y.Num),.int .i64 (y.Of),.int .i64 (y.Class)]],rfl,Ad9 x y  (Ar8 px py) W⟩) rfl rfl rfl ?_)
   refine Y2 ?_;refine Tj (γ:=(Option Addr) × Nat) hx5 (fun s0 y0=>[(10,.slice (y0.1) (s0.length) (y0.2))]) (fun s0 y0=>[.r (y0.1) (s0.length) (y0.2) 66 9 (s0.flatMap Af)]++[.old w]) (fun s0 y0=>True) (fun s0 y0 hx8 hG0=>?_) (fun j0 hx5=>?_)
   ·refine Y8 ?_;obtain rfl:=Option.some.inj hx8;exact Bq (rs:=[.tmp 6,.tmp 7]) Tryz.results44 (.tmp rfl (.tmp rfl (.nil))) (Ln:=[.r (y0.1) (s0.length) (y0.2) 66 9 (s0.flatMap Af)]) ⟨y0.1,y0.2,rfl,rfl,trivial⟩ (Ba rfl (Bw)) (by exact .pick 0 rfl (.refl))
   ·refine Y4 ?_;refine Aj (Az rfl (i:=1) rfl rfl Om) rfl ?_;have hn0:r0.length=(Ar Bn r0).length:=(by rw [Dg]);refine En (.here) (e':=.r (A1) ((Ar Bn r0).length) (c1) 66 9 ((Ar Bn r0).flatMap Af)) (by first | (rw [← hn0];done) | rfl) ?_;refine Ec (s:=25) (v':=.slice (A1) ((Ar Bn r0).length) (c1)) rfl (by have hn1:(r0.length)=(Ar Bn r0).length:=(by rw [Dg]);first | (rw [← hn1];done) | rfl) ?_;refine Ec (s:=10) (v':=.slice (A1) ((Ar Bn r0).length) (c1)) rfl (by have hn2:(r0.length)=(Ar Bn r0).length:=(by rw [Dg]);first | (rw [← hn2];done) | rfl) ?_;refine Ec (s:=26) (v':=.slice (A1) ((Ar Bn r0).length) (c1)) rfl (by have hn3:(r0.length)=(Ar Bn r0).length:=(by rw [Dg]);first | (rw [← hn3];done) | rfl) ?_;refine Ec (s:=28) (v':=.slice (A1) ((Ar Bn r0).length) (c1)) rfl (by have hn4:(r0.length)=(Ar Bn r0).length:=(by rw [Dg]);first | (rw [← hn4];done) | rfl) ?_;refine Ec (s:=29) (v':=.slice (A1) ((Ar Bn r0).length) (c1)) rfl (by have hn5:(r0.length)=(Ar Bn r0).length:=(by rw [Dg]);first | (rw [← hn5];done) | rfl) ?_;refine Cw (k:=0) rfl (by decide) (fun _=>rfl) (fun hn6 hs0=>?_);obtain ⟨r1,h4,hx9⟩:=Ad hx5;refine T_x (Au rfl (fun w1 hw1=>Vm (K:=([.r (A1) ((Ar Bn r0).length) (c1) 66 9 ((Ar Bn r0).flatMap Af)]:List Ent)) (Ar Bn r0) p1 (Has.len' hs0) h4 w1 (oA hw1)) rfl ?_)
    rintro _ _ hlo ⟨A2,c2,rfl,rfl,-⟩;refine Do ?_;refine Y ?_;refine Cw (k:=1) rfl (by decide) (fun _=>rfl) (fun hn7 hs1=>?_);refine Cw (k:=0) rfl (by decide) (fun _=>rfl) (fun hn8 hs2=>?_);obtain ⟨r3,h6,hx40⟩:=Ad hx9;refine T_x (Au rfl (fun w1 hw1=>Ux (K:=(K++[.r (A1) ((Ar Bn r0).length) (c1) 66 9 ((Ar Bn r0).flatMap Af),.r (A2) (r1.length) (c2) 3 1 (r1.flatMap Bd)])) (Ar Bn r0) r1 p2 (Has.len' (Hu hs1)) (Has.len' (Hu hs2)) (HasN.len' (HasN.up (R:=Dk) (L:=(K++[.r (A1) ((Ar Bn r0).length) (c1) 66 9 ((Ar Bn r0).flatMap Af),.r (A2) (r1.length) (c2) 3 1 (r1.flatMap Bd)])) Pi ha1' (SubE.app2 SubE.nil))) h6 w1 (oP hK hw1)) rfl ?_);rintro _ _ hlo ⟨A3,c3,rfl,rfl,-⟩;refine Do ?_;refine Aj (Cb rfl 3 Tryz.underlying48) rfl ?_;refine Y4 ?_;obtain ⟨t0,hl0,ho0⟩:=Ad hx40;refine Lp (σ:=(List Aa) × Int) (γ:=(Option Addr) × Nat) hl0 (fun s1 y1=>[(10,.slice (y1.1) (s1.1.length) (y1.2)),(33,.slice (A3) (r3.length) (c3)),(34,.int .i64 (((r3.length:Nat):Int))),(35,.int .i64 (s1.2))]) (fun s1 y1=>[.r (A3) (r3.length) (c3) 3 1 (r3.flatMap Bd),.r (y1.1) (s1.1.length) (y1.2) 66 9 (s1.1.flatMap Af)]++[.old w]) (fun s1 y1=>True) (A1,c1) trivial (by exact .pick 0 rfl (.pick 1 rfl (.drop 0 rfl (.drop 0 rfl (.refl))))) ?_
    intro s1 y1 hG1 x0 hx69 ht0;unfold Mb at hx69;refine Y6 ?_;refine Ti hx69 (s:=36) rfl (fun h7 hx71=>?_) (fun h7 hx72=>?_)
    ·refine Y8 ?_;obtain ⟨x1,h8,hx75⟩:=Ad hx71;refine Fu (k:=0) rfl (by decide) (fun _=>rfl) h8 (fun b0 j1 hA0 hj0 hl1 hm0 hp0=>?_);refine Aj (Be rfl rfl hA0 (j:=j1) hj0 hl1 Jq) rfl ?_;refine Aj (Ce rfl hp0 (sb 0) rfl one3) rfl ?_;refine Y8 ?_;obtain ⟨x2,h85,hx86⟩:=Ad hx75;refine Fu (k:=1) rfl (by decide) (fun _=>rfl) h85 (fun b1 j2 hA1 hj1 hl2 hm1 hp1=>?_);refine Aj (Be rfl rfl hA1 (j:=j2) hj1 hl2 Qm) rfl ?_;refine Aj (Ao rfl Aku rfl) rfl ?_;refine T_h (Asm Af (s1.1) (s1.2) (x2) ((⟨x2.Id,x2.X,x2.Y,x2.Z,x2.Wide,x2.Num,x2.Of,x1⟩:Aa)) 8 rfl rfl rfl (.there (.here)) hA1 rfl hj1 hl2 (fun _=>rfl) (by decide) h85 rfl rfl one3.2 ?_);refine Y7 ?_
     have hn9:s1.1.length=(setI s1.1 s1.2 ((⟨x2.Id,x2.X,x2.Y,x2.Z,x2.Wide,x2.Num,x2.Of,x1⟩:Aa))).length:=by simp [Bo,Ch,List.length_append] <;> omega
     refine En (.there (.here)) (e':=.r (y1.1) ((setI s1.1 s1.2 ((⟨x2.Id,x2.X,x2.Y,x2.Z,x2.Wide,x2.Num,x2.Of,x1⟩:Aa))).length) (y1.2) 66 9 ((setI s1.1 s1.2 ((⟨x2.Id,x2.X,x2.Y,x2.Z,x2.Wide,x2.Num,x2.Of,x1⟩:Aa))).flatMap Af)) (by first | (rw [← hn9];done) | rfl) ?_;refine Ec (s:=10) (v':=.slice (y1.1) ((setI s1.1 s1.2 ((⟨x2.Id,x2.X,x2.Y,x2.Z,x2.Wide,x2.Num,x2.Of,x1⟩:Aa))).length) (y1.2)) rfl (by have hn96:(s1.1.length)=(setI s1.1 s1.2 ((⟨x2.Id,x2.X,x2.Y,x2.Z,x2.Wide,x2.Num,x2.Of,x1⟩:Aa))).length:=(by simp [Bo,Ch,List.length_append] <;> omega);first | (rw [← hn96];done) | rfl) ?_;exact Ru (setI s1.1 s1.2 ((⟨x2.Id,x2.X,x2.Y,x2.Z,x2.Wide,x2.Num,x2.Of,x1⟩:Aa)),w64 (s1.2+1)) (y1.1,y1.2) hx86 trivial
    ·refine Y3 ?_;obtain rfl:=Cq ht0 hx72;refine Y2 ?_;exact Mu s1.1 (y1.1,y1.2) ho0 trivial
instance label_Label_c (p0:List Aa) (p1:Ag) (p2:List Bb):Con (Ny p0 p1 p2) Tryz.prog 44 (fun K vs=>∃ (A0_0:Option Addr) (c0_0:Nat) (A0_1:Option Addr) (c0_1:Nat),vs=[.slice (A0_0) ((p0).length) (c0_0),.agg #[.int .i64 (p1.Cell),.int .i64 (p1.Reach),.int .i64 (p1.Slope),.int .i64 (p1.Link),.int .i64 (p1.Flat),.int .i64 (p1.Tall),.int .i64 (p1.High),.int .i64 (p1.Low),.int .i64 (p1.Brush),.int .i64 (p1.Few)],.slice (A0_1) ((p2).length) (c0_1)]∧Has K A0_0 (p0).length c0_0 9 Af (p0)∧HasN K A0_1 (p2).length c0_1 4 Dk (p2)∧True) (fun _ r=>fun v Ln=>∃ (A0:Option Addr) (c0:Nat),v = .tuple #[.slice (A0) ((r.1).length) (c0),.int .i64 (r.2)]∧Ln=[.r A0 (r.1).length c0 66 9 ((r.1).flatMap Af)]∧True):=⟨by
 rintro K _ r ⟨A0_0,c0_0,A0_1,c0_1,rfl,ha0,ha1,-⟩ hx w hK;exact Uy p0 p1 p2 ha0 ha1 hx w hK⟩
end Go.Proofs.YtbkobeeileemjaaGreat
