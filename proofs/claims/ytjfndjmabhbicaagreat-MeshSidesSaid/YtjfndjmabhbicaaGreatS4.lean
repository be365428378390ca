/- Walks of the program, with their plain functions: the reference's sides. -/
import Derived.Test.YtjfndjmabhbicaaGreatS3
namespace Go.Proofs.YtjfndjmabhbicaaGreat
open Go Go.RowKit
theorem Ahq:Kc Tryz.prog 148 4 1:=.mk Tryz.underlying148 (show Tryz.prog.info? 4=some Tryz.t4 from by kernel_rfl) (by kernel_rfl)
instance:Ly Tryz.prog 148 4 1:=⟨Ahq⟩
noncomputable def Fd (p0:Aw):Option Int :=
 bnd (Bx p0.V p0.Lines) fun r2 =>
 jn (fun (s4:Bool) =>
 if s4=true then (some 64)
 else (some 0))
 (fun j4=>if r2.2=0 then (bnd (Hr p0 r2.1) fun r0 =>
 j4 (!(r0)))
 else (j4 true))
noncomputable def Ee (p0:List Ae) (s0:(List Aa) × (List (Aa × Bool)) × Int):((List Aa) × (List (Aa × Bool)) × Int)->Option (Sum ((List Aa) × (List (Aa × Bool)) × Int) ((List Aa) × (List (Aa × Bool)))):=fun s1 =>
 if s1.2.2 < 3 then (jn (fun (s2:(List Aa) × (List (Aa × Bool))) =>
 some (.inl (s2.1,s2.2,w64 (s1.2.2+1))))
 (fun j0=>bnd (idx p0 s0.2.2) fun x0 =>
 bnd (idx [x0.a0,x0.a1,x0.a2] s1.2.2) fun x1 =>
 bnd (idx p0 s0.2.2) fun x2 =>
 bnd (idx [x2.a0,x2.a1,x2.a2] (Int.tmod (w64 (s1.2.2+1)) 3)) fun x3 =>
 gd ((-9223372036854775808<=(min x1 x3)/\(min x1 x3)<=9223372036854775807)/\(-9223372036854775808<=(max x1 x3)/\(max x1 x3)<=9223372036854775807)) <|
 bnd (some ((mget s1.2.1 ((⟨min x1 x3,max x1 x3⟩:Aa))).getD false)) fun x4 =>
 if x4=true then (j0 (s1.1,s1.2.1))
 else (gd ((-9223372036854775808<=(min x1 x3)/\(min x1 x3)<=9223372036854775807)/\(-9223372036854775808<=(max x1 x3)/\(max x1 x3)<=9223372036854775807)) <|
 gd ((s1.2.1).length < 9223372036854775807) <|
 gd (((s1.1).length+1)*16<=140737488355328) <|
 j0 (s1.1++[(⟨min x1 x3,max x1 x3⟩:Aa)],mput s1.2.1 ((⟨min x1 x3,max x1 x3⟩:Aa)) true))))
 else (some (.inr (s1.1,s1.2.1)))
noncomputable def Hy (p0:List Ae):((List Aa) × (List (Aa × Bool)) × Int)->Option (Sum ((List Aa) × (List (Aa × Bool)) × Int) (List Aa)):=fun s0 =>
 if s0.2.2 < ((((p0).length:Nat):Int)) then (jn (fun (s1:(List Aa) × (List (Aa × Bool))) =>
 some (.inl (s1.1,s1.2,w64 (s0.2.2+1))))
 (fun j0=>bnd (lfix (Ee p0 s0) (s0.1,s0.2.1,0)) fun t0 =>
 j0 t0))
 else (some (.inr s0.1))
noncomputable def Fe (p0:List Ae):Option (List Aa) :=
 jn (fun (s4:List Aa) =>
 bnd (Ex s4) fun r0 =>
 some r0)
 (fun j4=>bnd (lfix (Hy p0) (([]:List Aa),([]:List (Aa × Bool)),0)) fun t0 =>
 j4 t0)
noncomputable def Lb (p0:Aw):Option ((List Aa) × Int) :=
 bnd (Fd p0) fun r2 =>
 if r2=0 then (bnd (Fe p0.T) fun r8 =>
 some (r8,0))
 else (some (([]:List Aa),64))
def Pj (x:Bool):List Value:=[.bool (x)]
instance (x0:Bool):DecI Pj [.bool (x0)] (x0):=⟨rfl⟩
instance:EncI 4 Pj:=⟨trivial⟩
instance:MkI Tryz.prog 148 4 1 1 Pj false:=⟨Tryz.t4,.bool (false),Tryz.underlying148,by kernel_rfl,by kernel_rfl,rfl,by kernel_rfl,by kernel_rfl⟩
instance:UndI Tryz.prog 148 (.slice 4):=⟨Tryz.underlying148⟩
noncomputable def Hg (r0:List Aa) (p1:Int):((List Bool) × Int)->Option (Sum ((List Bool) × Int) (List Bool)):=fun s0 =>
 if s0.2 < ((((r0).length:Nat):Int)) then (jn (fun (s1:List Bool) =>
 some (.inl (s1,w64 (s0.2+1))))
 (fun j0=>bnd (idx r0 s0.2) fun x0 =>
 jn (fun (s2:List Bool) =>
 if x0.a1=p1 then (bnd (idx s2 x0.a0) fun x1 =>
 j0 (setI s2 x0.a0 true))
 else (j0 s2))
 (fun j1=>if x0.a0=p1 then (bnd (idx s0.1 x0.a1) fun x2 =>
 j1 (setI s0.1 x0.a1 true))
 else (j1 s0.1))))
 else (some (.inr s0.1))
noncomputable def Gn (s9:List Bool):((List Int) × Int)->Option (Sum ((List Int) × Int) (List Int)):=fun s0 =>
 if s0.2 < ((((s9).length:Nat):Int)) then (jn (fun (s1:List Int) =>
 some (.inl (s1,w64 (s0.2+1))))
 (fun j0=>bnd (idx s9 s0.2) fun x0 =>
 if x0=true then (gd (((s0.1).length+1)*8<=140737488355328) <|
 j0 (s0.1++[s0.2]))
 else (j0 s0.1)))
 else (some (.inr s0.1))
noncomputable def Eh (p0:Aw) (p1:Int):Option ((List Int) × Int) :=
 bnd (Fd p0) fun r2 =>
 if r2=0 then (jn (fun (s6:Bool) =>
 if s6=true then (some (([]:List Int),2))
 else (gd ((0:Int)<=((((p0.V).length:Nat):Int))/\1*Int.toNat ((((p0.V).length:Nat):Int))<=140737488355328) <|
 jn (fun (s9:List Bool) =>
 jn (fun (s0:List Int) =>
 some (s0,0))
 (fun j0=>bnd (lfix (Gn s9) (([]:List Int),0)) fun t0 =>
 j0 t0))
 (fun j9=>bnd (Fe p0.T) fun r0 =>
 bnd (lfix (Hg r0 p1) (List.replicate (Int.toNat ((((p0.V).length:Nat):Int))) (false:Bool),0)) fun t1 =>
 j9 t1)))
 (fun j6=>if p1 < 0 then (j6 true)
 else (j6 (decide (((((p0.V).length:Nat):Int))<=p1)))))
 else (some (([]:List Int),64))
noncomputable def Gp (p0:List Ab):(Int × Int)->Option (Sum (Int × Int) Int):=fun s0 =>
 if s0.2 < ((((p0).length:Nat):Int)) then (jn (fun (s1:Int) =>
 some (.inl (s1,w64 (s0.2+1))))
 (fun j0=>bnd (idx p0 s0.1) fun x0 =>
 bnd (idx p0 s0.2) fun x1 =>
 bnd (Aj (⟨x0.X,x0.Y,(⟨x0.Z.Lo,x0.Z.Hi⟩:Ak)⟩:Ab)) fun r0 =>
 bnd (Aj (⟨x1.X,x1.Y,(⟨x1.Z.Lo,x1.Z.Hi⟩:Ak)⟩:Ab)) fun r1 =>
 bnd (Eg r0 r1) fun r2 =>
 if r2=true then (j0 s0.2)
 else (j0 s0.1)))
 else (some (.inr s0.1))
noncomputable def Ca (r0:Int) (p0:List Ab):((List Int) × Int)->Option (Sum ((List Int) × Int) (List Int)):=fun s0 =>
 if s0.2=r0 then (some (.inr s0.1))
 else (gd (((s0.1).length+1)*8<=140737488355328) <|
 bnd (Es p0 s0.2 true) fun r1 =>
 some (.inl (s0.1++[s0.2],r1)))
noncomputable def Dd (p0:List Ab):Option ((List Int) × Int) :=
 bnd (Ga p0) fun r1 =>
 if r1=0 then (if ((((p0).length:Nat):Int))=0 then (some (([]:List Int),0))
 else (bnd (Is p0) fun r0 =>
 bnd (Jx p0) fun r2 =>
 if r2=true then (jn (fun (s0:Int) =>
 if s0=r0 then (some ([r0],0))
 else (some ([r0,s0],0)))
 (fun j0=>bnd (lfix (Gp p0) (r0,0)) fun t0 =>
 j0 t0))
 else (jn (fun (s1:List Int) =>
 some (s1,0))
 (fun j1=>bnd (Es p0 r0 true) fun r3 =>
 bnd (lfix (Ca r0 p0) ([r0],r3)) fun t1 =>
 j1 t1))))
 else (some (([]:List Int),r1))
set_option maxHeartbeats 1000000 in
set_option maxRecDepth 100000 in
instance Za (p0:Aw):Con (Fd p0) Tryz.prog 37 (fun K vs=>∃ (A0_0:Option Addr) (c0_0:Nat) (A0_1:Option Addr) (c0_1:Nat) (A0_2:Option Addr) (c0_2:Nat),vs=[.agg #[.slice (A0_0) ((p0.V).length) (c0_0),.slice (A0_1) ((p0.T).length) (c0_1),.slice (A0_2) ((p0.Lines).length) (c0_2)]]/\Has K A0_0 (p0.V).length c0_0 4 Ah (p0.V)/\Has K A0_1 (p0.T).length c0_1 3 Aq (p0.T)/\Has K A0_2 (p0.Lines).length c0_2 2 Ai (p0.Lines)/\True) (fun _ r=>fun v Ln=>v = .int .i64 (r)/\Ln=[]/\True):=⟨by
 rintro K _ r ⟨A0_0,c0_0,A0_1,c0_1,A0_2,c0_2,rfl,ha0,ha1,ha2,-⟩ hx w hK;replace ha0:=Has.lo ha0 hK;replace ha1:=Has.lo ha1 hK;replace ha2:=Has.lo ha2 hK;unfold Fd at hx;refine CtS Tryz.ntmps37 Tryz.results37 ?_;exact au⟩
theorem Xu (p0:Aw) {K:List Ent} {A0_0:Option Addr} {c0_0:Nat} {A0_1:Option Addr} {c0_1:Nat} {A0_2:Option Addr} {c0_2:Nat} (ha0:Has K A0_0 (p0.V).length c0_0 4 Ah (p0.V)) (ha1:Has K A0_1 (p0.T).length c0_1 3 Aq (p0.T)) (ha2:Has K A0_2 (p0.Lines).length c0_2 2 Ai (p0.Lines)) {r:Int} (hx:Fd p0=some r) (w:World) (hK:∀ e∈K,Ent.ok w e):CtL Tryz.prog 37 [.agg #[.slice (A0_0) ((p0.V).length) (c0_0),.slice (A0_1) ((p0.T).length) (c0_1),.slice (A0_2) ((p0.Lines).length) (c0_2)]] w fun v Ln=>v = .int .i64 (r)/\Ln=[]/\True:=(Za p0).h K _ _ ⟨_,_,_,_,_,_,rfl,ha0,ha1,ha2,trivial⟩ hx w hK
set_option maxRecDepth 100000 in
theorem Qt (p0:List Ae) {K:List Ent} {A0_0:Option Addr} {c0_0:Nat} (ha0:Has K A0_0 p0.length c0_0 3 Aq (p0)) {r:List Aa} (hx:Fe p0=some r) (w:World) (hK:∀ e∈K,Ent.ok w e):CtL Tryz.prog 55 [.slice (A0_0) (p0.length) (c0_0)] w fun v Ln=>∃ (A0:Option Addr) (c0:Nat),v = .slice (A0) (r.length) (c0)/\Ln=[.r A0 r.length c0 62 2 (r.flatMap Ai)]/\True:=by
 have ha0':=Has.up0 ha0;refine CtL.mk 54 Tryz.func55 rfl Tryz.ntmps55 (by kernel_rfl) rfl ?_;show T 54 _ [(0,.slice (A0_0) (p0.length) (c0_0))] _;unfold Fe at hx;refine Y12 ?_;refine T_x (Abx Tryz.prog 62 Af Az rfl (fun g1=>?_));refine Y3 ?_;refine Tj (γ:=(Option Addr) × Nat) hx (fun s4 y4=>[(3,.slice (y4.1) (s4.length) (y4.2))]) (fun s4 y4=>[.r (y4.1) (s4.length) (y4.2) 62 2 (s4.flatMap Ai)]++[.old w]) (fun s4 y4=>True) (fun s4 y4 hx0 hG0=>?_) (fun j4 hx=>?_)
 ·refine Y3 ?_;refine Akw (k:=0) rfl (by decide) (fun _=>rfl) (fun hn0 hs0=>?_);obtain ⟨r0,h0,hx1⟩:=Am hx0;refine T_x (Oz rfl (fun w1 hw1=>Pr s4 (Has.len' hs0) h0 w1 (Amp (K:=([.r (y4.1) (s4.length) (y4.2) 62 2 (s4.flatMap Ai)]:List Ent)) (by exact (sb 0)) hw1)) rfl ?_);rintro _ _ hlo ⟨A1,c1,rfl,rfl,-⟩;refine Pd ?_;refine Y4 ?_;obtain rfl:=Option.some.inj hx1;exact Ls (rs:=[.tmp 2]) Tryz.results55 (.tmp rfl (.nil)) (Ln:=[.r (A1) (r0.length) (c1) 62 2 (r0.flatMap Ai)]) ⟨A1,c1,rfl,rfl,trivial⟩ (Eu rfl (Kw)) (by exact .pick 0 rfl (.drop 0 rfl (.refl)))
 ·refine Y3 ?_;refine Ax (Kj rfl 94 Tryz.underlying30) rfl ?_;refine Y4 ?_;obtain ⟨t0,hl0,ho0⟩:=Am hx;refine Ba 62 2 ?_
  have hn1:0=(([]:List Aa)).length:=by simp [Cc,Jl,List.length_append] <;> omega
  refine Oq (.here) (e':=.r (none) ((([]:List Aa)).length) (0) 62 2 ((([]:List Aa)).flatMap Ai)) (by first | (rw [<- hn1];done) | rfl) ?_;refine Lp (σ:=(List Aa) × (List (Aa × Bool)) × Int) (γ:=(Option Addr) × Nat) hl0 (fun s0 y0=>[(0,.slice (A0_0) (p0.length) (c0_0)),(3,.slice (y0.1) (s0.1.length) (y0.2)),(4,.map (some g1)),(12,.int .i64 (((p0.length:Nat):Int))),(13,.int .i64 (s0.2.2))]) (fun s0 y0=>[.r (y0.1) (s0.1.length) (y0.2) 62 2 (s0.1.flatMap Ai),Ao Tryz.prog 62 Af Az g1 (s0.2.1)]++[.old w]) (fun s0 y0=>True) (none,0) trivial (by exact .pick 0 rfl (.pick 0 rfl (.refl))) ?_;intro s0 y0 hG1 x0 hx2 ht0;unfold Hy at hx2;refine Y6 ?_;refine Ti hx2 (s:=14) rfl (fun h1 hx3=>?_) (fun h1 hx4=>?_)
  ·refine Y3 ?_;refine Tj (γ:=(Option Addr) × Nat) hx3 (fun s1 y1=>[(0,.slice (A0_0) (p0.length) (c0_0)),(3,.slice (y1.1) (s1.1.length) (y1.2)),(4,.map (some g1)),(12,.int .i64 (((p0.length:Nat):Int))),(13,.int .i64 (s0.2.2))]) (fun s1 y1=>[.r (y1.1) (s1.1.length) (y1.2) 62 2 (s1.1.flatMap Ai),Ao Tryz.prog 62 Af Az g1 (s1.2)]++[.old w]) (fun s1 y1=>True) (fun s1 y1 hx5 hG2=>?_) (fun j0 hx3=>?_)
   ·refine Y4 ?_;exact Rp (s1.1,s1.2,w64 (s0.2.2+1)) (y1.1,y1.2) hx5 trivial (by exact .pick 0 rfl (.pick 0 rfl (.refl)))
   ·(iterate 13 refine Y ?_);obtain ⟨t1,hl1,ho1⟩:=Am hx3;refine Lp (σ:=(List Aa) × (List (Aa × Bool)) × Int) (γ:=(Option Addr) × Nat) hl1 (fun s2 y2=>[(0,.slice (A0_0) (p0.length) (c0_0)),(3,.slice (y2.1) (s2.1.length) (y2.2)),(4,.map (some g1)),(5,.int .i64 (s0.2.2)),(12,.int .i64 (((p0.length:Nat):Int))),(13,.int .i64 (s0.2.2)),(16,.int .i64 (s2.2.2))]) (fun s2 y2=>[.r (y2.1) (s2.1.length) (y2.2) 62 2 (s2.1.flatMap Ai),Ao Tryz.prog 62 Af Az g1 (s2.2.1)]++[.old w]) (fun s2 y2=>True) (y0.1,y0.2) trivial (by exact .pick 0 rfl (.pick 0 rfl (.refl))) ?_;intro s2 y2 hG3 x1 hx6 ht1;unfold Ee at hx6;refine Y6 ?_;refine Ti hx6 (s:=17) rfl (fun h2 hx7=>?_) (fun h2 hx8=>?_)
    ·refine Y3 ?_;refine Tj (γ:=(Option Addr) × Nat) hx7 (fun s3 y3=>[(0,.slice (A0_0) (p0.length) (c0_0)),(3,.slice (y3.1) (s3.1.length) (y3.2)),(4,.map (some g1)),(5,.int .i64 (s0.2.2)),(12,.int .i64 (((p0.length:Nat):Int))),(13,.int .i64 (s0.2.2)),(16,.int .i64 (s2.2.2))]) (fun s3 y3=>[.r (y3.1) (s3.1.length) (y3.2) 62 2 (s3.1.flatMap Ai),Ao Tryz.prog 62 Af Az g1 (s3.2)]++[.old w]) (fun s3 y3=>True) (fun s3 y3 hx9 hG4=>?_) (fun j1 hx7=>?_)
     ·refine Y4 ?_;exact Rp (s3.1,s3.2,w64 (s2.2.2+1)) (y3.1,y3.2) hx9 trivial (by exact .pick 0 rfl (.pick 0 rfl (.refl)))
     ·refine Y8 ?_;refine T_dr [0,0,0,0,0,1,0,0,0,0,0,0,0,1,2,2] (.q 0 (.q 1 (.q 2 (.q 3 (.q 4 (.q 5 (.q 6 (.q 7 (.q 8 (.q 9 (.q 10 (.q 11 (.q 12 (.q 13 (.e 14 (.e 15 (.done) (.stop)) (.stop)))))))))))))))) mixed (by kernel_rfl) (by kernel_rfl) ?_;refine Y3 ?_;obtain ⟨x2,h3,hx10⟩:=Am hx7;have hw0:=Has.low (E:=[]) ha0' hK;obtain ⟨b0,o0,j2,hA0,hj0,hl2,hp0⟩:=Has.at_idx hw0 h3;refine P_p rfl rfl (Bp rfl rfl hA0 (j:=j2) hj0 hl2 Zy) rfl ?_;obtain ⟨x3,h4,hx11⟩:=Am hx10;have hp1:=Pt.atX (kd:=.i64) (ys:=[x2.a0,x2.a1,x2.a2]) hp0 h4;refine P_p rfl rfl (Bh rfl rfl Aqj (Rc h4).1 (Rc h4).2 rfl) rfl ?_;refine P_q rfl rfl (Fy rfl hp1 (sb 2) rfl one3) rfl ?_;refine Y4 ?_;refine P_p rfl rfl (Ade rfl rfl (by decide)) rfl ?_;obtain ⟨x4,h5,hx12⟩:=Am hx11;have hw2:=Has.low (E:=[]) ha0' hK;obtain ⟨b1,o1,j3,hA1,hj1,hl3,hp2⟩:=Has.at_idx hw2 h5;refine P_p rfl rfl (Bp rfl rfl hA1 (j:=j3) hj1 hl3 Zy) rfl ?_;obtain ⟨x5,h6,hx13⟩:=Am hx12;have hp3:=Pt.atX (kd:=.i64) (ys:=[x4.a0,x4.a1,x4.a2]) hp2 h6;refine P_p rfl rfl (Bh rfl rfl Aqj (Rc h6).1 (Rc h6).2 rfl) rfl ?_;refine P_q rfl rfl (Fy rfl hp3 (sb 2) rfl one3) rfl ?_;refine P_x rfl (Pm (Ip rfl) rfl ?_) ?_;rotate_left;exact Jj;refine P_x rfl (Pm (Ip rfl) rfl ?_) ?_
      rotate_left;exact Jj;refine Y6 ?_;refine Ax (Acp rfl rfl) rfl ?_;refine Y2 ?_;refine Ax (Acq rfl rfl) rfl ?_;refine Ax (Qf rfl (Iw _ _)) rfl ?_;refine T_x (Nw Xv rfl (fun g0=>?_));refine T_h (Ny rfl rfl rfl (.here) (.put (.put (.done))) rfl (List.cons_ne_nil _ _) Ie.2 ?_);refine Y5 ?_;refine Ax (Hq rfl (i:=0) rfl rfl Ie) rfl ?_;obtain ⟨h7,hx14⟩:=Co hx13;obtain ⟨x6,h8,hx15⟩:=Am hx14;refine Ax (Zv (x:=(⟨min x3 x5,max x3 x5⟩:Aa)) (i:=2) (vv:=.bool (x6)) Sj Tryz.underlying106 (fun w=>by kernel_rfl) Bz rfl rfl rfl rfl Na (Abw ((⟨min x3 x5,max x3 x5⟩:Aa)) h7) h8 rfl) rfl ?_;refine Y3 ?_;refine We (s:=43) rfl (fun h9=>?_) (fun h9=>?_)
      ·have hx16:=Mn h9 hx15;refine Y4 ?_;refine Ax (Hq rfl (i:=0) rfl rfl Ie) rfl ?_;obtain ⟨h10,hx17⟩:=Co hx16;obtain ⟨h11,hx18⟩:=Co hx17;refine T_h (Yo (x:=(⟨min x3 x5,max x3 x5⟩:Aa)) (y:=true) Sj Bz Tryz.underlying106 rfl rfl rfl rfl rfl (.there (.there (.here))) (Abw ((⟨min x3 x5,max x3 x5⟩:Aa)) h10) h11 ?_);refine Y4 ?_;refine Ax (Hq rfl (i:=0) rfl rfl Ie) rfl ?_;refine T_x (Cj rfl (Fc _ _) rfl (fun g2=>?_));obtain ⟨h12,hx19⟩:=Co hx18;refine T_h (Ec Ai (s2.1) [(⟨min x3 x5,max x3 x5⟩:Aa)] rfl rfl rfl Ab9 (fun _=>rfl) (i':=0) rfl rfl rfl rfl h12 rfl (fun _ _=>.there (.there (.here))) (fun _ _=>.drop .refl) (by decide) (fun A2 c2=>?_));refine Y3 ?_;exact Mt (s2.1++[(⟨min x3 x5,max x3 x5⟩:Aa)],mput s2.2.1 ((⟨min x3 x5,max x3 x5⟩:Aa)) true) (A2,c2) hx19 trivial (by exact .pick 1 rfl (.pick 1 rfl (.drop 0 rfl (.refl))))
      ·have hx20:=Jc h9 hx15;refine Y3 ?_;exact Mt (s2.1,s2.2.1) (y2.1,y2.2) hx20 trivial (by exact .pick 1 rfl (.pick 1 rfl (.drop 0 rfl (.refl))))
    ·refine Y3 ?_;obtain rfl:=Hl ht1 hx8;refine Y3 ?_;exact Mt (s2.1,s2.2.1) (y2.1,y2.2) ho1 trivial (by exact .pick 0 rfl (.pick 0 rfl (.refl)))
  ·refine Y3 ?_;obtain rfl:=Hl ht0 hx4;refine Y2 ?_;exact Mt s0.1 (y0.1,y0.2) ho0 trivial (by exact .pick 0 rfl (.drop 0 rfl (.refl)))
set_option maxHeartbeats 1000000 in
set_option maxRecDepth 100000 in
instance lidarref06_sides_c (p0:List Ae):Con (Fe p0) Tryz.prog 55 (fun K vs=>∃ (A0_0:Option Addr) (c0_0:Nat),vs=[.slice (A0_0) ((p0).length) (c0_0)]/\Has K A0_0 (p0).length c0_0 3 Aq (p0)/\True) (fun _ r=>fun v Ln=>∃ (A0:Option Addr) (c0:Nat),v = .slice (A0) ((r).length) (c0)/\Ln=[.r A0 (r).length c0 62 2 ((r).flatMap Ai)]/\True):=⟨by
 rintro K _ r ⟨A0_0,c0_0,rfl,ha0,-⟩ hx w hK;exact Qt p0 ha0 hx w hK⟩
set_option maxRecDepth 100000 in
instance lidarref06_Sides_c (p0:Aw):Con (Lb p0) Tryz.prog 24 (fun K vs=>∃ (A0_0:Option Addr) (c0_0:Nat) (A0_1:Option Addr) (c0_1:Nat) (A0_2:Option Addr) (c0_2:Nat),vs=[.agg #[.slice (A0_0) ((p0.V).length) (c0_0),.slice (A0_1) ((p0.T).length) (c0_1),.slice (A0_2) ((p0.Lines).length) (c0_2)]]/\Has K A0_0 (p0.V).length c0_0 4 Ah (p0.V)/\Has K A0_1 (p0.T).length c0_1 3 Aq (p0.T)/\Has K A0_2 (p0.Lines).length c0_2 2 Ai (p0.Lines)/\True) (fun _ r=>fun v Ln=>∃ (A0:Option Addr) (c0:Nat),v = .tuple #[.slice (A0) ((r.1).length) (c0),.int .i64 (r.2)]/\Ln=[.r A0 (r.1).length c0 62 2 ((r.1).flatMap Ai)]/\True):=⟨by
 rintro K _ r ⟨A0_0,c0_0,A0_1,c0_1,A0_2,c0_2,rfl,ha0,ha1,ha2,-⟩ hx w hK;replace ha0:=Has.lo ha0 hK;replace ha1:=Has.lo ha1 hK;replace ha2:=Has.lo ha2 hK;unfold Lb at hx;refine CtS Tryz.ntmps24 Tryz.results24 ?_;exact au⟩
set_option maxRecDepth 100000 in
theorem Wk (p0:Aw) (p1:Int) {K:List Ent} {A0_0:Option Addr} {c0_0:Nat} {A0_1:Option Addr} {c0_1:Nat} {A0_2:Option Addr} {c0_2:Nat} (ha0:Has K A0_0 p0.V.length c0_0 4 Ah (p0.V)) (ha1:Has K A0_1 p0.T.length c0_1 3 Aq (p0.T)) (ha2:Has K A0_2 p0.Lines.length c0_2 2 Ai (p0.Lines)) {r:(List Int) × Int} (hx:Eh p0 p1=some r) (w:World) (hK:∀ e∈K,Ent.ok w e):CtL Tryz.prog 33 [.agg #[.slice (A0_0) (p0.V.length) (c0_0),.slice (A0_1) (p0.T.length) (c0_1),.slice (A0_2) (p0.Lines.length) (c0_2)],.int .i64 (p1)] w fun v Ln=>∃ (A0:Option Addr) (c0:Nat),v = .tuple #[.slice (A0) (r.1.length) (c0),.int .i64 (r.2)]/\Ln=[.r A0 r.1.length c0 3 1 (r.1.flatMap Bq)]/\True:=by
 have ha0':=Has.up0 ha0;have ha1':=Has.up0 ha1;have ha2':=Has.up0 ha2;refine CtL.mk 67 Tryz.func33 rfl Tryz.ntmps33 (by kernel_rfl) rfl ?_;show T 67 _ [(0,.agg #[.slice (A0_0) (p0.V.length) (c0_0),.slice (A0_1) (p0.T.length) (c0_1),.slice (A0_2) (p0.Lines.length) (c0_2)]),(1,.int .i64 (p1))] _;unfold Eh at hx;refine Y2 ?_;refine T_x (Yl rfl rfl rfl (fun g1=>?_));refine Y7 ?_;refine Ax (Hq rfl (i:=0) rfl rfl Amz) rfl ?_;obtain ⟨r2,h3,hx4⟩:=Am hx;refine Tc (fun w1 hw1=>Xu p0 (Has.len' ha0') (Has.len' ha1') (Has.len' ha2') h3 w1 (Ajc (K:=K) (K2:=[]) hK (by exact (sb 1)) (by exact (SubE.nil)) hw1)) ?_;refine Y3 ?_;refine Wf (s:=13) rfl (fun h5=>?_) (fun h5=>?_)
 ·have hx6:=Tv h5 hx4;refine Y9 ?_;refine Ba 3 1 ?_;obtain rfl:=Option.some.inj hx6;exact Ls (rs:=[.tmp 4,.tmp 5]) Tryz.results33 (.tmp rfl (.tmp rfl (.nil))) (Ln:=[.r (none) (0) (0) 3 1 ((([]:List Int)).flatMap Bq)]) ⟨none,0,rfl,rfl,trivial⟩ (Eu rfl (Kw)) (by exact .pick 0 rfl (.drop 0 rfl (.refl)))
 ·have hx7:=Jc h5 hx4;refine Y4 ?_;refine Tj (γ:=Unit) hx7 (fun s6 y6=>[(1,.int .i64 (p1)),(2,.pointer (some ⟨g1,0,none⟩)),(22,.bool (s6))]) (fun s6 y6=>[.m g1 32 [.slice (A0_0) (p0.V.length) (c0_0),.slice (A0_1) (p0.T.length) (c0_1),.slice (A0_2) (p0.Lines.length) (c0_2)]]++[.old w]) (fun s6 y6=>True) (fun s6 y6 hx0 hG0=>?_) (fun j6 hx7=>?_)
  ·refine Jm (s:=22) rfl (fun h0=>?_) (fun h0=>?_)
   ·have hx1:=Jc h0 hx0;refine Y9 ?_;refine Ba 3 1 ?_;obtain rfl:=Option.some.inj hx1;exact Ls (rs:=[.tmp 4,.tmp 5]) Tryz.results33 (.tmp rfl (.tmp rfl (.nil))) (Ln:=[.r (none) (0) (0) 3 1 ((([]:List Int)).flatMap Bq)]) ⟨none,0,rfl,rfl,trivial⟩ (Eu rfl (Kw)) (by exact .pick 0 rfl (.drop 0 rfl (.refl)))
   ·have hx2:=Mn h0 hx0;refine Y5 ?_;refine Ax (Iy rfl Acx rfl) rfl ?_;refine Ax (Bg rfl (i:=0) rfl rfl Vt) rfl ?_;refine Ax (Kj rfl 70 Tryz.underlying22) rfl ?_;obtain ⟨h1,hx3⟩:=Co hx2;refine T_x (Aq9 Pj (false) (z:=.bool (false)) rfl rfl rfl h1.1 Tryz.underlying148 (show Tryz.prog.info? 4=some Tryz.t4 from by kernel_rfl) (by kernel_rfl) rfl rfl (by kernel_rfl) (show 1*_<=_ from h1.2) (by decide) rfl (fun A1=>?_));refine Y3 ?_;refine Tj (γ:=(Option Addr) × Nat) hx3 (fun s9 y9=>[(6,.slice (y9.1) (s9.length) (y9.2))]) (fun s9 y9=>[.r (y9.1) (s9.length) (y9.2) 4 1 (s9.flatMap Pj)]++[.old w]) (fun s9 y9=>True) (fun s9 y9 hx5 hG1=>?_) (fun j9 hx3=>?_)
    ·refine Y5 ?_;refine Tj (γ:=(Option Addr) × Nat) hx5 (fun s0 y0=>[(9,.slice (y0.1) (s0.length) (y0.2))]) (fun s0 y0=>[.r (y0.1) (s0.length) (y0.2) 3 1 (s0.flatMap Bq)]++[.old w]) (fun s0 y0=>True) (fun s0 y0 hx8 hG2=>?_) (fun j0 hx5=>?_)
     ·refine Y8 ?_;obtain rfl:=Option.some.inj hx8;exact Ls (rs:=[.tmp 4,.tmp 5]) Tryz.results33 (.tmp rfl (.tmp rfl (.nil))) (Ln:=[.r (y0.1) (s0.length) (y0.2) 3 1 (s0.flatMap Bq)]) ⟨y0.1,y0.2,rfl,rfl,trivial⟩ (Eu rfl (Kw)) (by exact .pick 0 rfl (.refl))
     ·refine Y3 ?_;refine Ax (Kj rfl 4 Tryz.underlying148) rfl ?_;refine Y4 ?_;obtain ⟨t0,hl0,ho0⟩:=Am hx5;refine Ba 3 1 ?_
      have hn0:0=(([]:List Int)).length:=by simp [Cc,Jl,List.length_append] <;> omega
      refine Oq (.here) (e':=.r (none) ((([]:List Int)).length) (0) 3 1 ((([]:List Int)).flatMap Bq)) (by first | (rw [<- hn0];done) | rfl) ?_;refine Lp (σ:=(List Int) × Int) (γ:=(Option Addr) × Nat) hl0 (fun s1 y1=>[(6,.slice (y9.1) (s9.length) (y9.2)),(9,.slice (y1.1) (s1.1.length) (y1.2)),(53,.int .i64 (((s9.length:Nat):Int))),(54,.int .i64 (s1.2))]) (fun s1 y1=>[.r (y1.1) (s1.1.length) (y1.2) 3 1 (s1.1.flatMap Bq),.r (y9.1) (s9.length) (y9.2) 4 1 (s9.flatMap Pj)]++[.old w]) (fun s1 y1=>True) (none,0) trivial (by exact .pick 0 rfl (.pick 0 rfl (.refl))) ?_;intro s1 y1 hG3 x0 hx12 ht0;unfold Gn at hx12;refine Y6 ?_;refine Ti hx12 (s:=55) rfl (fun h2 hx13=>?_) (fun h2 hx16=>?_)
      ·refine Y3 ?_;refine Tj (γ:=(Option Addr) × Nat) hx13 (fun s2 y2=>[(6,.slice (y9.1) (s9.length) (y9.2)),(9,.slice (y2.1) (s2.length) (y2.2)),(53,.int .i64 (((s9.length:Nat):Int))),(54,.int .i64 (s1.2))]) (fun s2 y2=>[.r (y2.1) (s2.length) (y2.2) 3 1 (s2.flatMap Bq),.r (y9.1) (s9.length) (y9.2) 4 1 (s9.flatMap Pj)]++[.old w]) (fun s2 y2=>True) (fun s2 y2 hx17 hG4=>?_) (fun j1 hx13=>?_)
       ·refine Y4 ?_;exact Rp (s2,w64 (s1.2+1)) (y2.1,y2.2) hx17 trivial (by exact .pick 0 rfl (.pick 0 rfl (.refl)))
       ·refine Y11 ?_;obtain ⟨x1,h4,hx19⟩:=Am hx13;refine Mm (k:=1) rfl (by decide) (fun _=>rfl) h4 (fun b0 j2 hA0 hj0 hl1 hm0 hp0=>?_);refine Ax (Bp rfl rfl hA0 (j:=j2) hj0 hl1 Ahq) rfl ?_;refine Ax (Fy rfl hp0 (sb 1) rfl one4) rfl ?_;refine Y2 ?_;refine Jm (s:=60) rfl (fun h6=>?_) (fun h6=>?_)
        ·have hx20:=Jc h6 hx19;refine Y4 ?_;refine T_x (Cj rfl (Nl _) rfl (fun g0=>?_));obtain ⟨h7,hx22⟩:=Co hx20;refine T_h (Ec Bq (s1.1) [s1.2] rfl rfl rfl Af4 (fun _=>rfl) (i':=0) rfl rfl rfl rfl h7 rfl (fun _ _=>.there (.here)) (fun _ _=>.drop .refl) (by decide) (fun A2 c1=>?_));refine Y3 ?_;exact Mt (s1.1++[s1.2]) (A2,c1) hx22 trivial (by exact .pick 0 rfl (.pick 0 rfl (.refl)))
        ·have hx23:=Mn h6 hx19;refine Y3 ?_;exact Mt s1.1 (y1.1,y1.2) hx23 trivial (by exact .pick 0 rfl (.pick 0 rfl (.refl)))
      ·refine Y3 ?_;obtain rfl:=Hl ht0 hx16;refine Y2 ?_;exact Mt s1.1 (y1.1,y1.2) ho0 trivial (by exact .pick 0 rfl (.drop 0 rfl (.refl)))
    ·refine Y2 ?_;refine Ax (Iy rfl Al5 rfl) rfl ?_;refine Ax (Bg rfl (i:=1) rfl rfl Avh) rfl ?_;obtain ⟨r0,h9,hx21⟩:=Am hx3;refine T_x (Oz rfl (fun w1 hw1=>Qt p0.T (Has.len' ha1') h9 w1 (Ajc (K:=K) (K2:=[]) hK (by exact (sb 2)) (by exact (SubE.nil)) hw1)) rfl ?_);rintro _ _ hlo ⟨A3,c2,rfl,rfl,-⟩;refine Pd ?_;refine Ax (Kj rfl 62 Tryz.underlying23) rfl ?_;refine Y4 ?_;obtain ⟨t1,hl2,ho1⟩:=Am hx21;refine Lp (σ:=(List Bool) × Int) (γ:=(Option Addr) × Nat) hl2 (fun s3 y3=>[(1,.int .i64 (p1)),(6,.slice (y3.1) (s3.1.length) (y3.2)),(29,.slice (A3) (r0.length) (c2)),(30,.int .i64 (((r0.length:Nat):Int))),(31,.int .i64 (s3.2))]) (fun s3 y3=>[.r (A3) (r0.length) (c2) 62 2 (r0.flatMap Ai),.r (y3.1) (s3.1.length) (y3.2) 4 1 (s3.1.flatMap Pj)]++[.old w]) (fun s3 y3=>True) (A1,(List.replicate (Int.toNat (((p0.V.length:Nat):Int))) (false:Bool)).length) trivial (by exact .pick 0 rfl (.pick 0 rfl (.drop 0 rfl (.refl)))) ?_;intro s3 y3 hG5 x2 hx76 ht1;unfold Hg at hx76;refine Y6 ?_;refine Ti hx76 (s:=32) rfl (fun h77 hx78=>?_) (fun h77 hx79=>?_)
     ·refine Y3 ?_;refine Tj (γ:=(Option Addr) × Nat) hx78 (fun s4 y4=>[(1,.int .i64 (p1)),(6,.slice (y4.1) (s4.length) (y4.2)),(29,.slice (A3) (r0.length) (c2)),(30,.int .i64 (((r0.length:Nat):Int))),(31,.int .i64 (s3.2))]) (fun s4 y4=>[.r (A3) (r0.length) (c2) 62 2 (r0.flatMap Ai),.r (y4.1) (s4.length) (y4.2) 4 1 (s4.flatMap Pj)]++[.old w]) (fun s4 y4=>True) (fun s4 y4 hx24 hG6=>?_) (fun j3 hx78=>?_)
      ·refine Y4 ?_;exact Rp (s4,w64 (s3.2+1)) (y4.1,y4.2) hx24 trivial (by exact .pick 0 rfl (.pick 0 rfl (.refl)))
      ·refine Y3 ?_;obtain ⟨x3,h81,hx82⟩:=Am hx78;refine Mm (k:=0) rfl (by decide) (fun _=>rfl) h81 (fun b1 j4 hA1 hj1 hl3 hm1 hp1=>?_);refine Ax (Bp rfl rfl hA1 (j:=j4) hj1 hl3 Qq) rfl ?_;refine Ax (Fm rfl hp1 (sb 0) rfl Ie) rfl ?_;refine T_x (Nw Xv rfl (fun g2=>?_));refine T_h (Ny rfl rfl rfl (.here) (.put (.put (.done))) rfl (List.cons_ne_nil _ _) Ie.2 ?_);refine Y2 ?_;refine Tj (γ:=(Option Addr) × Nat) hx82 (fun s5 y5=>[(1,.int .i64 (p1)),(6,.slice (y5.1) (s5.length) (y5.2)),(8,.pointer (some ⟨g2,0,none⟩)),(29,.slice (A3) (r0.length) (c2)),(30,.int .i64 (((r0.length:Nat):Int))),(31,.int .i64 (s3.2))]) (fun s5 y5=>[.m g2 62 [.int .i64 (x3.a0),.int .i64 (x3.a1)],.r (A3) (r0.length) (c2) 62 2 (r0.flatMap Ai),.r (y5.1) (s5.length) (y5.2) 4 1 (s5.flatMap Pj)]++[.old w]) (fun s5 y5=>True) (fun s5 y5 hx25 hG7=>?_) (fun j5 hx82=>?_)
       ·refine Y2 ?_;refine Ax (Bh rfl rfl If (by decide) (by decide) rfl) rfl ?_;refine Ax (Bg rfl (i:=0) rfl rfl one3) rfl ?_;refine Y4 ?_;refine Ti hx25 (s:=46) rfl (fun h10 hx26=>?_) (fun h10 hx27=>?_)
        ·refine Y3 ?_;refine Ax (Bh rfl rfl If (by decide) (by decide) rfl) rfl ?_;refine Ax (Bg rfl (i:=0) rfl rfl one3) rfl ?_;obtain ⟨x4,h11,hx28⟩:=Am hx26;refine Mm (k:=2) rfl (by decide) (fun _=>rfl) h11 (fun b2 j7 hA2 hj2 hl4 hm2 hp2=>?_);refine Ax (Bp rfl rfl hA2 (j:=j7) hj2 hl4 Ahq) rfl ?_;refine T_h (Py Pj (s5) (x3.a0) (true) rfl rfl rfl (.there (.there (.here))) hA2 rfl hj2 hl4 (fun _=>rfl) (by decide) rfl one4.2 ?_);refine Y2 ?_
         have hn1:s5.length=(setI s5 x3.a0 true).length:=by simp [Cc,Jl,List.length_append] <;> omega
         refine Oq (.there (.there (.here))) (e':=.r (y5.1) ((setI s5 x3.a0 true).length) (y5.2) 4 1 ((setI s5 x3.a0 true).flatMap Pj)) (by first | (rw [<- hn1];done) | rfl) ?_;refine Sx (s:=6) (v':=.slice (y5.1) ((setI s5 x3.a0 true).length) (y5.2)) rfl (by have hn2:(s5.length)=(setI s5 x3.a0 true).length:=(by simp [Cc,Jl,List.length_append] <;> omega);first | (rw [<- hn2];done) | rfl) ?_;exact Mt (setI s5 x3.a0 true) (y5.1,y5.2) hx28 trivial (by exact .pick 1 rfl (.pick 1 rfl (.drop 0 rfl (.refl))))
        ·refine Y3 ?_;exact Mt s5 (y5.1,y5.2) hx27 trivial (by exact .pick 1 rfl (.pick 1 rfl (.drop 0 rfl (.refl))))
       ·refine Y2 ?_;refine Ax (Bh rfl rfl If (by decide) (by decide) rfl) rfl ?_;refine Ax (Bg rfl (i:=0) rfl rfl one3) rfl ?_;refine Y4 ?_;refine Ti hx82 (s:=38) rfl (fun h92 hx93=>?_) (fun h92 hx29=>?_)
        ·refine Y3 ?_;refine Ax (Bh rfl rfl If (by decide) (by decide) rfl) rfl ?_;refine Ax (Bg rfl (i:=0) rfl rfl one3) rfl ?_;obtain ⟨x5,h95,hx96⟩:=Am hx93;refine Mm (k:=2) rfl (by decide) (fun _=>rfl) h95 (fun b3 j8 hA3 hj3 hl5 hm3 hp3=>?_);refine Ax (Bp rfl rfl hA3 (j:=j8) hj3 hl5 Ahq) rfl ?_;refine T_h (Py Pj (s3.1) (x3.a1) (true) rfl rfl rfl (.there (.there (.here))) hA3 rfl hj3 hl5 (fun _=>rfl) (by decide) rfl one4.2 ?_);refine Y ?_
         have hn3:s3.1.length=(setI s3.1 x3.a1 true).length:=by simp [Cc,Jl,List.length_append] <;> omega
         refine Oq (.there (.there (.here))) (e':=.r (y3.1) ((setI s3.1 x3.a1 true).length) (y3.2) 4 1 ((setI s3.1 x3.a1 true).flatMap Pj)) (by first | (rw [<- hn3];done) | rfl) ?_;refine Sx (s:=6) (v':=.slice (y3.1) ((setI s3.1 x3.a1 true).length) (y3.2)) rfl (by have hn4:(s3.1.length)=(setI s3.1 x3.a1 true).length:=(by simp [Cc,Jl,List.length_append] <;> omega);first | (rw [<- hn4];done) | rfl) ?_;exact Mt (setI s3.1 x3.a1 true) (y3.1,y3.2) hx96 trivial (by exact .pick 0 rfl (.pick 0 rfl (.pick 0 rfl (.refl))))
        ·refine Y2 ?_;exact Mt s3.1 (y3.1,y3.2) hx29 trivial (by exact .pick 0 rfl (.pick 0 rfl (.pick 0 rfl (.refl))))
     ·refine Y3 ?_;obtain rfl:=Hl ht1 hx79;refine Y2 ?_;exact Mt s3.1 (y3.1,y3.2) ho1 trivial (by exact .pick 1 rfl (.drop 0 rfl (.refl)))
  ·refine Y4 ?_;refine Ti hx7 (s:=16) rfl (fun h8 hx9=>?_) (fun h8 hx10=>?_)
   ·refine Y7 ?_;exact Mt true () hx9 trivial (by exact .pick 0 rfl (.refl))
   ·refine Y ?_;refine Rm rfl rfl rfl (Iy rfl Acx rfl) rfl ?_;refine Rm rfl rfl rfl (Bg rfl (i:=0) rfl rfl Vt) rfl ?_;refine Rm rfl rfl rfl (Kj rfl 70 Tryz.underlying22) rfl ?_;refine Y3 ?_;exact Mt (decide ((((p0.V.length:Nat):Int))<=p1)) () hx10 trivial (by exact .pick 0 rfl (.refl))
set_option maxHeartbeats 1000000 in
set_option maxRecDepth 100000 in
instance lidarref06_Around_c (p0:Aw) (p1:Int):Con (Eh p0 p1) Tryz.prog 33 (fun K vs=>∃ (A0_0:Option Addr) (c0_0:Nat) (A0_1:Option Addr) (c0_1:Nat) (A0_2:Option Addr) (c0_2:Nat),vs=[.agg #[.slice (A0_0) ((p0.V).length) (c0_0),.slice (A0_1) ((p0.T).length) (c0_1),.slice (A0_2) ((p0.Lines).length) (c0_2)],.int .i64 (p1)]/\Has K A0_0 (p0.V).length c0_0 4 Ah (p0.V)/\Has K A0_1 (p0.T).length c0_1 3 Aq (p0.T)/\Has K A0_2 (p0.Lines).length c0_2 2 Ai (p0.Lines)/\True) (fun _ r=>fun v Ln=>∃ (A0:Option Addr) (c0:Nat),v = .tuple #[.slice (A0) ((r.1).length) (c0),.int .i64 (r.2)]/\Ln=[.r A0 (r.1).length c0 3 1 ((r.1).flatMap Bq)]/\True):=⟨by
 rintro K _ r ⟨A0_0,c0_0,A0_1,c0_1,A0_2,c0_2,rfl,ha0,ha1,ha2,-⟩ hx w hK;exact Wk p0 p1 ha0 ha1 ha2 hx w hK⟩
set_option maxHeartbeats 1000000 in
set_option maxRecDepth 100000 in
instance lidarref06_Border_c (p0:List Ab):Con (Dd p0) Tryz.prog 89 (fun K vs=>∃ (A0_0:Option Addr) (c0_0:Nat),vs=[.slice (A0_0) ((p0).length) (c0_0)]/\Has K A0_0 (p0).length c0_0 4 Ah (p0)/\True) (fun _ r=>fun v Ln=>∃ (A0:Option Addr) (c0:Nat),v = .tuple #[.slice (A0) ((r.1).length) (c0),.int .i64 (r.2)]/\Ln=[.r A0 (r.1).length c0 3 1 ((r.1).flatMap Bq)]/\True):=⟨by
 rintro K _ r ⟨A0_0,c0_0,rfl,ha0,-⟩ hx w hK;replace ha0:=Has.lo ha0 hK;unfold Dd at hx;have:=dl 12 [0,0,0,1,2,0,0,0,1,2,2] [0,1,2,3,5,6,7,8,4,9,10];refine CtS Tryz.ntmps89 Tryz.results89 ?_;try (refine pre ?_;intros;rename_i hx)
 refine Cq2 (s:=13) hx rfl (fun _ hx=>?_) (fun _ hx=>?_)
 ·exact au
 ·try (refine pre ?_;intros;rename_i hx)
  refine Cq1 (s:=17) hx rfl (fun _ hx=>?_) (fun _ hx=>?_)
  ·exact au
  ·try (refine pre ?_;intros;rename_i hx)
   refine Cq3 (s:=21) hx rfl (fun _ hx=>?_) (fun _ hx=>?_)
   ·try (refine pre ?_;intros;rename_i hx)
    refine Bw ?_;try (refine pre ?_;intros;rename_i hx)
    apply Jr (γ:=Unit) hx [5] (fun s0 y0 f=>(6,.int .i64 (s0))::f) [999] (fun s0 y0 l=>l);exact kk
    ·intro s0 y0 hx;try (refine pre ?_;intros;rename_i hx)
     refine Cq1 (s:=43) hx rfl (fun _ hx=>?_) (fun _ hx=>?_)
     ·try (refine pre ?_;intros;rename_i hx)
      (with_reducible apply Aen 45 (sz:=1));exact rfl;exact aT;exact inferInstance;exact dL;exact (fun _=>rfl);exact rfl;exact rfl;exact sA
      exact au
     ·try (refine pre ?_;intros;rename_i hx)
      (with_reducible apply Aen 48 (sz:=1));exact rfl;exact aT;exact inferInstance;exact dL;exact (fun _=>rfl);exact rfl;exact rfl;exact sA
      exact au
    ·intro _ hx;try (refine pre ?_;intros;rename_i hx)
     apply Lr (γ:=Unit) hx [0,5,24] (fun s1 y1 f=>(6,.int .i64 (s1.1))::(25,.int .i64 (s1.2))::f) [999] (fun s1 y1 l=>l) ();exact kk;exact sk;intro s1 y1 x0 hx _;unfold Gp at hx
     exact au
   ·try (refine pre ?_;intros;rename_i hx)
    refine Bw ?_;try (refine pre ?_;intros;rename_i hx)
    apply Jr (γ:=(Option Addr) × Nat) hx [] (fun s2 y2 f=>(8,.slice (y2.1) ((s2).length) (y2.2))::f) [999] (fun s2 y2 l=>.r (y2.1) ((s2).length) (y2.2) 3 1 ((s2).flatMap Bq)::l);exact kk
    ·intro s2 y2 hx;exact au
    ·intro _ hx;try (refine pre ?_;intros;rename_i hx)
     (with_reducible apply Aen 50 (sz:=1));exact rfl;exact aT;exact inferInstance;exact dL;exact (fun _=>rfl);exact rfl;exact rfl;exact sA
     try (refine pre ?_;intros;rename_i hx)
     apply Lr (γ:=(Option Addr) × Nat) hx [0,5] (fun s3 y3 f=>(8,.slice (y3.1) ((s3.1).length) (y3.2))::(9,.int .i64 (s3.2))::f) [999] (fun s3 y3 l=>.r (y3.1) ((s3.1).length) (y3.2) 3 1 ((s3.1).flatMap Bq)::l) (_,_);exact kk;exact sk;intro s3 y3 x1 hx _;unfold Ca at hx
     exact au⟩
end Go.Proofs.YtjfndjmabhbicaaGreat
