/- Walks of the program, with their plain functions: points. -/
import Derived.Test.YtbkobeeileemjaaGreatJ2h
import Derived.Test.YtbkobeeileemjaaGreatFlow11
namespace Go.Proofs.YtbkobeeileemjaaGreat
open Go Go.RowKit

noncomputable def Mu (p0:List Aa):((List Aa) × Int)→Option (Sum ((List Aa) × Int) (List Aa)):=fun s0 =>
 if s0.2 < ((((p0).length:Nat):Int)) then (jn (fun (s1:List Aa) =>
 some (.inl (s1,w64 (s0.2+1))))
 (fun j0=>bnd (idx p0 s0.2) fun x0 =>
 if x0.Num=x0.Of then (gd (((s0.1).length+1)*72≤140737488355328) <|
 j0 (s0.1++[x0]))
 else (j0 s0.1)))
 else (some (.inr s0.1))
noncomputable def Rk (p0:List Aa):Option (List Aa) :=
 jn (fun (s3:List Aa) =>
 bnd (Uz Fk s3) fun r0 =>
 some r0)
 (fun j3=>bnd (lfix (Mu p0) (([]:List Aa),0)) fun t0 =>
 j3 t0)
noncomputable def Ke (p0:List Aa) (p1:Bi):Option (List Aa) :=
 bnd (Qb p0 p1) fun r2 =>
 bnd (Rk r2.1) fun r0 =>
 some r0
noncomputable def Mv (p0:List Aa) (p1:Bi):Option ((List Int) × Int) :=
 bnd (Oh p0 p1) fun r2 =>
 if r2=0 then (bnd (Ke p0 p1) fun r8 =>
 bnd (Tx r8 p1) fun r0 =>
 some (r0,0))
 else (some (([]:List Int),r2))
set_option maxRecDepth 100000 in
theorem Ad3 (p0:List Aa) {K:List Ent} {A0_0:Option Addr} {c0_0:Nat} (ha0:Has K A0_0 p0.length c0_0 9 Ao (p0)) {r:List Aa} (hx:Rk p0=some r) (w:World) (hK:∀ e∈K,Ent.ok w e):CtL Tryz.prog 81 [.slice (A0_0) (p0.length) (c0_0)] w fun v Ln=>∃ (A0:Option Addr) (c0:Nat),v = .slice (A0) (r.length) (c0)∧Ln=[.r A0 r.length c0 66 9 (r.flatMap Ao)]∧True:=by
 have ha0':=Has.up0 ha0;refine CtL.mk 25 Tryz.func81 rfl Tryz.ntmps81 (by kernel_rfl) rfl ?_;show T 25 _ [(0,.slice (A0_0) (p0.length) (c0_0))] _;unfold Rk at hx;refine Y10 ?_;refine Tj (γ:=(Option Addr) × Nat) hx (fun s3 y3=>[(3,.slice (y3.1) (s3.length) (y3.2))]) (fun s3 y3=>[.r (y3.1) (s3.length) (y3.2) 66 9 (s3.flatMap Ao)]++[.old w]) (fun s3 y3=>True) (fun s3 y3 hx0 hG0=>?_) (fun j3 hx=>?_)
 ·refine Y3 ?_;refine T_x (Aw rfl (fun w1 _=>Ac1 (y3.1) (s3.length) (y3.2) 156 [] w1) rfl ?_);rintro _ _ hlo ⟨g0,g1,rfl,rfl⟩;refine Ih ?_;refine Dh (k:=2) rfl (by decide) (fun _=>rfl) (fun hn0 hs0=>?_);obtain ⟨r0,h0,hx1⟩:=Ac hx0;refine T_x (Aw rfl (fun w1 hw1=>Ajn Fk s3 (Has.up (L:=([.r (y3.1) (s3.length) (y3.2) 66 9 (s3.flatMap Ao),.m g0 47 [.slice (y3.1) (s3.length) (y3.2)],.m g1 186 [.func (.func 156) #[] #[]]]:List Ent)) hs0 (sb 0)) (Pt.m0 (.tail _ (.head _))) (Pt.m0 (.tail _ (.tail _ (.head _)))) (An6.up (K:=[]) SubE.nil) h0 w1 (Dr (K:=([.r (y3.1) (s3.length) (y3.2) 66 9 (s3.flatMap Ao),.m g0 47 [.slice (y3.1) (s3.length) (y3.2)],.m g1 186 [.func (.func 156) #[] #[]]]:List Ent)) (by exact (SubE.cons2 (i:=2) rfl (SubE.cons2 (i:=1) rfl (sb 0)))) hw1)) rfl ?_);rintro _ _ hlo ⟨A1,c1,rfl,rfl⟩;refine Fw ?_;refine Y4 ?_;obtain rfl:=Option.some.inj hx1;exact Av (rs:=[.tmp 2]) Tryz.results81 (.tmp rfl (.nil)) (Ln:=[.r (A1) (r0.length) (c1) 66 9 (r0.flatMap Ao)]) ⟨A1,c1,rfl,rfl,trivial⟩ (Ay rfl (Ax)) (by exact .pick 0 rfl (.drop 0 rfl (.drop 0 rfl (.drop 0 rfl (.refl)))))
 ·refine Y3 ?_;refine Af (Bf rfl 66 Tryz.underlying47) rfl ?_;refine Y4 ?_;obtain ⟨t0,hl0,ho0⟩:=Ac hx;refine Cr 66 9 ?_
  have hn1:0=(([]:List Aa)).length:=by simp [Bq,Ca,List.length_append] <;> omega
  refine Ds (.here) (e':=.r (none) ((([]:List Aa)).length) (0) 66 9 ((([]:List Aa)).flatMap Ao)) (by first | (rw [← hn1];done) | rfl) ?_;refine Lp (σ:=(List Aa) × Int) (γ:=(Option Addr) × Nat) hl0 (fun s0 y0=>[(3,.slice (y0.1) (s0.1.length) (y0.2)),(6,.slice (A0_0) (p0.length) (c0_0)),(7,.int .i64 (((p0.length:Nat):Int))),(8,.int .i64 (s0.2))]) (fun s0 y0=>[.r (y0.1) (s0.1.length) (y0.2) 66 9 (s0.1.flatMap Ao)]++[.old w]) (fun s0 y0=>True) (none,0) trivial (by exact .pick 0 rfl (.refl)) ?_;intro s0 y0 hG1 x0 hx2 ht0;unfold Mu at hx2;refine Y6 ?_;refine Ti hx2 (s:=9) rfl (fun h1 hx3=>?_) (fun h1 hx4=>?_)
  ·refine Y3 ?_;refine Tj (γ:=(Option Addr) × Nat) hx3 (fun s1 y1=>[(3,.slice (y1.1) (s1.length) (y1.2)),(6,.slice (A0_0) (p0.length) (c0_0)),(7,.int .i64 (((p0.length:Nat):Int))),(8,.int .i64 (s0.2))]) (fun s1 y1=>[.r (y1.1) (s1.length) (y1.2) 66 9 (s1.flatMap Ao)]++[.old w]) (fun s1 y1=>True) (fun s1 y1 hx5 hG2=>?_) (fun j0 hx3=>?_)
   ·refine Y4 ?_;exact Rp (s1,w64 (s0.2+1)) (y1.1,y1.2) hx5 trivial (by exact .pick 0 rfl (.refl))
   ·refine Y3 ?_;obtain ⟨x1,h2,hx6⟩:=Ac hx3;have hw0:=Has.low (E:=[]) ha0' hK;obtain ⟨b0,o0,j1,hA0,hj0,hl1,hp0⟩:=Has.at_idx hw0 h2;refine Af (Az rfl rfl hA0 (j:=j1) hj0 hl1 Na) rfl ?_;refine Af (Cg rfl hp0 (sb 1) rfl Fc) rfl ?_;refine T_x (Bp Xn rfl (fun g2=>?_));refine T_h (Bc rfl rfl rfl (.here) (.put (.put (.put (.put (.put (.put (.put (.put (.put (.done)))))))))) rfl (List.cons_ne_nil _ _) Fc.2 ?_);refine Y4 ?_;refine Af (Ah rfl Agt rfl) rfl ?_;refine Af (Ag rfl (i:=0) rfl rfl one3) rfl ?_;refine Af (Ah rfl Abb rfl) rfl ?_;refine Af (Ag rfl (i:=0) rfl rfl one3) rfl ?_;refine Y3 ?_;refine Ti hx6 (s:=16) rfl (fun h3 hx7=>?_) (fun h3 hx8=>?_)
    ·refine Y3 ?_;refine Af (Au rfl (i:=0) rfl rfl Fc) rfl ?_;refine T_x (Bk rfl (Cf _ _ _ _ _ _ _ _ _) rfl (fun g3=>?_));obtain ⟨h4,hx9⟩:=Bj hx7;refine T_h (Dd Ao (s0.1) [x1] rfl rfl rfl Aeh (fun _=>rfl) (i':=0) rfl rfl rfl rfl h4 rfl (fun _ _=>.there (.there (.here))) (fun _ _=>.drop .refl) (by decide) (fun A2 c2=>?_));refine Y3 ?_;exact Mt (s0.1++[x1]) (A2,c2) hx9 trivial (by exact .pick 1 rfl (.drop 0 rfl (.refl)))
    ·refine Y3 ?_;exact Mt s0.1 (y0.1,y0.2) hx8 trivial (by exact .pick 1 rfl (.drop 0 rfl (.refl)))
  ·refine Y3 ?_;obtain rfl:=Bd ht0 hx4;refine Y2 ?_;exact Mt s0.1 (y0.1,y0.2) ho0 trivial (by exact .pick 0 rfl (.refl))
set_option maxRecDepth 100000 in
theorem Yx (p0:List Aa) (p1:Bi) {K:List Ent} {A0_0:Option Addr} {c0_0:Nat} (ha0:Has K A0_0 p0.length c0_0 9 Ao (p0)) {r:List Aa} (hx:Ke p0 p1=some r) (w:World) (hK:∀ e∈K,Ent.ok w e):CtL Tryz.prog 68 [.slice (A0_0) (p0.length) (c0_0),.agg #[.int .i64 (p1.Cell),.int .i64 (p1.Reach),.int .i64 (p1.Slope),.int .i64 (p1.Link),.int .i64 (p1.Flat),.int .i64 (p1.Tall),.int .i64 (p1.High),.int .i64 (p1.Low),.int .i64 (p1.Brush),.int .i64 (p1.Few)]] w fun v Ln=>∃ (A0:Option Addr) (c0:Nat),v = .slice (A0) (r.length) (c0)∧Ln=[.r A0 r.length c0 66 9 (r.flatMap Ao)]∧True:=by
 have ha0':=Has.up0 ha0;refine CtL.mk 15 Tryz.func68 rfl Tryz.ntmps68 (by kernel_rfl) rfl ?_;show T 15 _ [(0,.slice (A0_0) (p0.length) (c0_0)),(1,.agg #[.int .i64 (p1.Cell),.int .i64 (p1.Reach),.int .i64 (p1.Slope),.int .i64 (p1.Link),.int .i64 (p1.Flat),.int .i64 (p1.Tall),.int .i64 (p1.High),.int .i64 (p1.Low),.int .i64 (p1.Brush),.int .i64 (p1.Few)])] _;unfold Ke at hx;refine Y2 ?_;refine T_x (Bl rfl rfl rfl (fun g1=>?_));refine Y6 ?_;refine Af (Au rfl (i:=0) rfl rfl Af6) rfl ?_;obtain ⟨r2,h3,hx4⟩:=Ac hx;refine T_x (Aw rfl (fun w1 hw1=>Adc p0 p1 (Has.len' ha0') h3 w1 (Dz (K:=K) (K2:=[]) hK (by exact (sb 1)) (by exact (SubE.nil)) hw1)) rfl ?_);rintro _ _ hlo ⟨A5,c6,A7,c8,rfl,rfl,-⟩;refine Ih ?_;refine Y10 ?_;refine Dh (k:=0) rfl (by decide) (fun _=>rfl) (fun hn9 hs0=>?_);obtain ⟨r0,h0,hx0⟩:=Ac hx4;refine T_x (Aw rfl (fun w1 hw1=>Ad3 r2.1 (Has.len' hs0) h0 w1 (Dr (K:=([.r (A5) (r2.1.length) (c6) 66 9 (r2.1.flatMap Ao)]:List Ent)) (by exact (sb 0)) hw1)) rfl ?_);rintro _ _ hlo ⟨A1,c1,rfl,rfl,-⟩;refine Fw ?_;refine Y4 ?_;obtain rfl:=Option.some.inj hx0;exact Av (rs:=[.tmp 4]) Tryz.results68 (.tmp rfl (.nil)) (Ln:=[.r (A1) (r0.length) (c1) 66 9 (r0.flatMap Ao)]) ⟨A1,c1,rfl,rfl,trivial⟩ (Ay rfl (Ax)) (by exact .pick 0 rfl (.drop 0 rfl (.drop 0 rfl (.drop 0 rfl (.refl)))))
set_option maxRecDepth 100000 in
theorem Ad4 (p0:List Aa) (p1:Bi) {K:List Ent} {A0_0:Option Addr} {c0_0:Nat} (ha0:Has K A0_0 p0.length c0_0 9 Ao (p0)) {r:(List Int) × Int} (hx:Mv p0 p1=some r) (w:World) (hK:∀ e∈K,Ent.ok w e):CtL Tryz.prog 34 [.slice (A0_0) (p0.length) (c0_0),.agg #[.int .i64 (p1.Cell),.int .i64 (p1.Reach),.int .i64 (p1.Slope),.int .i64 (p1.Link),.int .i64 (p1.Flat),.int .i64 (p1.Tall),.int .i64 (p1.High),.int .i64 (p1.Low),.int .i64 (p1.Brush),.int .i64 (p1.Few)]] w fun v Ln=>∃ (A0:Option Addr) (c0:Nat),v = .tuple #[.slice (A0) (r.1.length) (c0),.int .i64 (r.2)]∧Ln=[.r A0 r.1.length c0 3 1 (r.1.flatMap Bs)]∧True:=by
 have ha0':=Has.up0 ha0;refine CtL.mk 18 Tryz.func34 rfl Tryz.ntmps34 (by kernel_rfl) rfl ?_;show T 18 _ [(0,.slice (A0_0) (p0.length) (c0_0)),(1,.agg #[.int .i64 (p1.Cell),.int .i64 (p1.Reach),.int .i64 (p1.Slope),.int .i64 (p1.Link),.int .i64 (p1.Flat),.int .i64 (p1.Tall),.int .i64 (p1.High),.int .i64 (p1.Low),.int .i64 (p1.Brush),.int .i64 (p1.Few)])] _;unfold Mv at hx;refine Y2 ?_;refine T_x (Bl rfl rfl rfl (fun g1=>?_));refine Y8 ?_;refine Af (Au rfl (i:=0) rfl rfl Af6) rfl ?_;obtain ⟨r2,h3,hx4⟩:=Ac hx;refine Tc (fun w1 hw1=>Acf p0 p1 (Has.len' ha0') h3 w1 (Dz (K:=K) (K2:=[]) hK (by exact (sb 1)) (by exact (SubE.nil)) hw1)) ?_;refine Y9 ?_;refine Fb (s:=11) rfl (fun h5=>?_) (fun h5=>?_)
 ·have hx6:=Pr h5 hx4;refine Y10 ?_;refine Cr 3 1 ?_;obtain rfl:=Option.some.inj hx6;exact Av (rs:=[.tmp 4,.tmp 5]) Tryz.results34 (.tmp rfl (.tmp rfl (.nil))) (Ln:=[.r (none) (0) (0) 3 1 ((([]:List Int)).flatMap Bs)]) ⟨none,0,rfl,rfl,trivial⟩ (Ay rfl (Ax)) (by exact .pick 0 rfl (.drop 0 rfl (.refl)))
 ·have hx7:=Bx h5 hx4;refine Y4 ?_;refine T_dr [0,1,2,1,2,2,2] (.q 0 (.q 1 (.q 3 (.e 2 (.e 4 (.e 5 (.e 6 (.done) (.stop)) (.stop)) (.stop)) (.stop))))) mixed (by kernel_rfl) (by kernel_rfl) ?_;refine Y ?_;refine P_q rfl rfl (Au rfl (i:=0) rfl rfl Af6) rfl ?_;refine P_q rfl rfl (Au rfl (i:=0) rfl rfl Af6) rfl ?_;obtain ⟨r8,h9,hx0⟩:=Ac hx7;refine P_x rfl (Aw rfl (fun w1 hw1=>Yx p0 p1 (Has.len' ha0') h9 w1 (Dz (K:=K) (K2:=[]) hK (by exact (sb 1)) (by exact (SubE.nil)) hw1)) rfl ?_) ?_;rotate_left;exact Bb;rintro _ _ hlo ⟨A1,c1,rfl,rfl,-⟩;refine Fw ?_;refine Dh (k:=0) rfl (by decide) (fun _=>rfl) (fun hn0 hs0=>?_);obtain ⟨r0,h0,hx1⟩:=Ac hx0;refine P_x rfl (Aw rfl (fun w1 hw1=>Ael r8 p1 (Has.len' hs0) h0 w1 (Dr (K:=([.r (A1) (r8.length) (c1) 66 9 (r8.flatMap Ao)]:List Ent)) (by exact (sb 0)) hw1)) rfl ?_) ?_;rotate_left;exact Bb;rintro _ _ hlo ⟨A2,c2,rfl,rfl,-⟩;refine Fw ?_;refine P_x rfl (Ec (Ce rfl) rfl ?_) ?_;rotate_left;exact Bb;refine P_x rfl (Ec (Ce rfl) rfl ?_) ?_;rotate_left;exact Bb;refine Y3 ?_;obtain rfl:=Option.some.inj hx1;exact Av (rs:=[.tmp 4,.tmp 5]) Tryz.results34 (.tmp rfl (.tmp rfl (.nil))) (Ln:=[.r (A2) (r0.length) (c2) 3 1 (r0.flatMap Bs)]) ⟨A2,c2,rfl,rfl,trivial⟩ (Ay rfl (Ax)) (by exact .pick 0 rfl (.drop 0 rfl (.drop 0 rfl (.refl))))
end Go.Proofs.YtbkobeeileemjaaGreat
