/- Walks of the program, with their plain functions: MeshInserts. -/
import Derived.Test.YtgfiafnelibjgaaGreatE4
import Derived.Test.YtgfiafnelibjgaaGreatFlow26
import Derived.Test.YtgfiafnelibjgaaGreatZ2
import Derived.Test.YtgfiafnelibjgaaGreatFlow2
import Derived.Test.YtgfiafnelibjgaaGreatRows
import Derived.ProofKit
import Derived.OpenShut
import Derived.ShutString
import Derived.ChangeOld
import Derived.Below
import Derived.Carry
import Derived.ChangeArms
import Derived.Deep.Slices
namespace Go.Proofs.YtgfiafnelibjgaaGreat
open Go Go.RowKit
theorem Arb:Ft Tryz.prog 25 0 0:=.mk Tryz.underlying25 rfl rfl (show Tryz.prog.info? 22=some Tryz.t22 from by kernel_rfl) (show Tryz.t22.size=1 from by kernel_rfl) rfl
instance:Kj Tryz.prog 25 0 0:=⟨Arb⟩
theorem Arc:Ft Tryz.prog 25 1 1:=.mk Tryz.underlying25 rfl rfl (show Tryz.prog.info? 23=some Tryz.t23 from by kernel_rfl) (show Tryz.t23.size=1 from by kernel_rfl) rfl
instance:Kj Tryz.prog 25 1 1:=⟨Arc⟩
theorem Atr  : Mo Tryz.prog 43 [] [.int .i64 (0),.int .i64 (0),.int .i64 (0),.int .i64 (0)]:=fun w=>by kernel_rfl
instance:Py Tryz.prog 43 [] [.int .i64 (0),.int .i64 (0),.int .i64 (0),.int .i64 (0)]:=⟨Atr⟩
theorem Ai3 (x0:Int):Mo Tryz.prog 43 [(0,.int .i64 x0)] [.int .i64 x0,.int .i64 (0),.int .i64 (0),.int .i64 (0)]:=fun w=>by kernel_rfl
instance (x0:Int):Py Tryz.prog 43 [(0,.int .i64 x0)] [.int .i64 x0,.int .i64 (0),.int .i64 (0),.int .i64 (0)]:=⟨Ai3 _⟩
theorem Ai4 (x0:Int):Mo Tryz.prog 43 [(1,.int .i64 x0)] [.int .i64 (0),.int .i64 x0,.int .i64 (0),.int .i64 (0)]:=fun w=>by kernel_rfl
instance (x0:Int):Py Tryz.prog 43 [(1,.int .i64 x0)] [.int .i64 (0),.int .i64 x0,.int .i64 (0),.int .i64 (0)]:=⟨Ai4 _⟩
theorem Adi (x0:Int) (x1:Int):Mo Tryz.prog 43 [(0,.int .i64 x0),(1,.int .i64 x1)] [.int .i64 x0,.int .i64 x1,.int .i64 (0),.int .i64 (0)]:=fun w=>by kernel_rfl
instance (x0:Int) (x1:Int):Py Tryz.prog 43 [(0,.int .i64 x0),(1,.int .i64 x1)] [.int .i64 x0,.int .i64 x1,.int .i64 (0),.int .i64 (0)]:=⟨Adi _ _⟩
theorem Gf (x0:Int) (x1:Int) (x2:Int) (x3:Int) (x4:Int) (x5:Int) (x6:Int) (x7:Int) (x8:Int) (x9:Int) (x10:Int) (x11:Int) (x12:Int) (x13:Int) (x14:Int) (x15:Int):Ei Tryz.prog 22 4 [(0,.agg #[.int .i64 x0,.int .i64 x1,.int .i64 x2,.int .i64 x3]),(1,.agg #[.int .i64 x4,.int .i64 x5,.int .i64 x6,.int .i64 x7]),(2,.agg #[.int .i64 x8,.int .i64 x9,.int .i64 x10,.int .i64 x11]),(3,.agg #[.int .i64 x12,.int .i64 x13,.int .i64 x14,.int .i64 x15])] 43 [.int .i64 x0,.int .i64 x1,.int .i64 x2,.int .i64 x3,.int .i64 x4,.int .i64 x5,.int .i64 x6,.int .i64 x7,.int .i64 x8,.int .i64 x9,.int .i64 x10,.int .i64 x11,.int .i64 x12,.int .i64 x13,.int .i64 x14,.int .i64 x15]:=fun w=>by kernel_rfl
instance (x0:Int) (x1:Int) (x2:Int) (x3:Int) (x4:Int) (x5:Int) (x6:Int) (x7:Int) (x8:Int) (x9:Int) (x10:Int) (x11:Int) (x12:Int) (x13:Int) (x14:Int) (x15:Int):Nu Tryz.prog 22 4 [(0,.agg #[.int .i64 x0,.int .i64 x1,.int .i64 x2,.int .i64 x3]),(1,.agg #[.int .i64 x4,.int .i64 x5,.int .i64 x6,.int .i64 x7]),(2,.agg #[.int .i64 x8,.int .i64 x9,.int .i64 x10,.int .i64 x11]),(3,.agg #[.int .i64 x12,.int .i64 x13,.int .i64 x14,.int .i64 x15])] 43 [.int .i64 x0,.int .i64 x1,.int .i64 x2,.int .i64 x3,.int .i64 x4,.int .i64 x5,.int .i64 x6,.int .i64 x7,.int .i64 x8,.int .i64 x9,.int .i64 x10,.int .i64 x11,.int .i64 x12,.int .i64 x13,.int .i64 x14,.int .i64 x15]:=⟨Gf _ _ _ _ _ _ _ _ _ _ _ _ _ _ _ _⟩
theorem Avc:Pf Tryz.prog 25 2:=.mk Tryz.underlying25 rfl (show Tryz.prog.info? 25=some Tryz.t25 from by kernel_rfl) (by kernel_rfl)
instance:AggI Tryz.prog 25 2:=⟨Avc⟩
structure En where
 V:List Ab
 Lines:List Aa
noncomputable def Oi (p0:En) (p1:Int) (p2:Int):Option Bool :=
 jn (fun (s2:Bool) =>
 some s2)
 (fun j2=>if p1 < ((((p0.V).length:Nat):Int)) then (j2 true)
 else (j2 (decide (p2 < ((((p0.Lines).length:Nat):Int))))))
noncomputable def Gc  : Option Bool :=
 bnd (Cv ([(⟨0,0,(⟨0,0⟩:Ak)⟩:Ab),(⟨2,0,(⟨0,0⟩:Ak)⟩:Ab),(⟨0,2,(⟨0,0⟩:Ak)⟩:Ab),(⟨2,2,(⟨0,0⟩:Ak)⟩:Ab)]) ([]:List Aa)) fun r3 =>
 jn (fun (s3:Bool) =>
 some s3)
 (fun j3=>if r3.2=0 then (if ((((r3.1.T).length:Nat):Int))=2 then (bnd (idx r3.1.T 0) fun x0 =>
 if ((((x0.a0) == (0)) && (((x0.a1) == (1)) && (((x0.a2) == (2)) && true))))=true then (bnd (idx r3.1.T 1) fun x1 =>
 j3 (((x1.a0) == (1)) && (((x1.a1) == (3)) && (((x1.a2) == (2)) && true))))
 else (j3 false))
 else (j3 false))
 else (j3 false))
noncomputable def Gj (p0:En) (p1:Ab) (p2:Int):Option Bool :=
 bnd (Oi p0 20 8) fun r3 =>
 if r3=true then (bnd (Gc) fun r8 =>
 some r8)
 else (bnd (Bd p0.V p0.Lines) fun r0 =>
 if r0.2=0 then (bnd (Oy r0.1 (⟨p1.X,p1.Y,(⟨p1.Z.Lo,p1.Z.Hi⟩:Ak)⟩:Ab)) fun r1 =>
 bnd (Ie r0.1 (⟨p1.X,p1.Y,(⟨p1.Z.Lo,p1.Z.Hi⟩:Ak)⟩:Ab)) fun r2 =>
 bnd (Hx r0.1 p2) fun r4 =>
 bnd (Eg r0.1 p2) fun r5 =>
 jn (fun (s0:Bool) =>
 if s0=true then (some false)
 else (if r1.2=0 then (bnd (Hx r1.1 (((r0.1.V).length:Nat):Int)) fun r6 =>
 jn (fun (s1:Bool) =>
 some s1)
 (fun j0=>if r6.2=0 then (bnd (De r6.1 r0.1) fun r7 =>
 if r7=true then (bnd (Gc) fun r9 =>
 j0 r9)
 else (j0 false))
 else (j0 false)))
 else (bnd (Gc) fun r10 =>
 some r10)))
 (fun j1=>if r1.2=r2.2 then (bnd (De r1.1 r2.1) fun r11 =>
 if r11=true then (if r4.2=r5.2 then (bnd (De r4.1 r5.1) fun r13 =>
 j1 (!(r13)))
 else (j1 true))
 else (j1 true))
 else (j1 true)))
 else (bnd (Gc) fun r24 =>
 some r24))
set_option maxRecDepth 100000 in
instance lidarlaw06_Wide_c (p0:En) (p1:Int) (p2:Int):Con (Oi p0 p1 p2) Tryz.prog 9 (fun K vs=>∃ (A0_0:Option Addr) (c0_0:Nat) (A0_1:Option Addr) (c0_1:Nat),vs=[.agg #[.slice (A0_0) ((p0.V).length) (c0_0),.slice (A0_1) ((p0.Lines).length) (c0_1)],.int .i64 (p1),.int .i64 (p2)]∧Has K A0_0 (p0.V).length c0_0 4 Ae (p0.V)∧Has K A0_1 (p0.Lines).length c0_1 2 Ag (p0.Lines)∧True) (fun _ r=>fun v Ln=>v = .bool (r)∧Ln=[]∧True):=⟨by
 rintro K _ r ⟨A0_0,c0_0,A0_1,c0_1,rfl,ha0,ha1,-⟩ hx w hK;replace ha0:=Has.lo ha0 hK;replace ha1:=Has.lo ha1 hK;unfold Oi at hx;refine CtS Tryz.ntmps9 Tryz.results9 ?_;exact au⟩
set_option maxHeartbeats 1000000 in
set_option maxRecDepth 100000 in
instance lidarlaw06_awake_c  : Con (Gc) Tryz.prog 11 (fun _ vs=>vs=[]) (fun _ r=>fun v Ln=>v = .bool (r)∧Ln=[]∧True):=⟨by
 rintro _ _ r rfl hx w hK;unfold Gc at hx;refine CtS Tryz.ntmps11 Tryz.results11 ?_;exact au⟩
set_option maxHeartbeats 1000000 in
set_option maxRecDepth 100000 in
instance Tg (p0:En) (p1:Ab) (p2:Int):Con (Gj p0 p1 p2) Tryz.prog 4 (fun K vs=>∃ (A0_0:Option Addr) (c0_0:Nat) (A0_1:Option Addr) (c0_1:Nat),vs=[.agg #[.slice (A0_0) ((p0.V).length) (c0_0),.slice (A0_1) ((p0.Lines).length) (c0_1)],.agg #[.int .i64 (p1.X),.int .i64 (p1.Y),.int .i64 (p1.Z.Lo),.int .i64 (p1.Z.Hi)],.int .i64 (p2)]∧Has K A0_0 (p0.V).length c0_0 4 Ae (p0.V)∧Has K A0_1 (p0.Lines).length c0_1 2 Ag (p0.Lines)∧True) (fun _ r=>fun v Ln=>v = .bool (r)∧Ln=[]∧True):=⟨by
 rintro K _ r ⟨A0_0,c0_0,A0_1,c0_1,rfl,ha0,ha1,-⟩ hx w hK;replace ha0:=Has.lo ha0 hK;replace ha1:=Has.lo ha1 hK;unfold Gj at hx;refine CtS Tryz.ntmps4 Tryz.results4 ?_;refine pre ?_;intros;rename_i hx
 refine Cq3 (s:=18) hx rfl (fun _ hx=>?_) (fun _ hx=>?_)
 ·exact au
 ·refine pre ?_;intros;rename_i hx
  refine Cq2 (s:=29) hx rfl (fun _ hx=>?_) (fun _ hx=>?_)
  ·exact au
  ·refine pre ?_;intros;rename_i hx
   refine Lz ?_;refine pre ?_;intros;rename_i hx
   apply Jr (γ:=Unit) hx [7,8,9] (fun s0 y0 f=>(74,.bool (s0))::f) [12,13,14,15,16,17,18,19,999] (fun s0 y0 l=>l);exact kk
   ·intro s0 y0 hx;exact au
   ·intro _ hx;exact au⟩
theorem Sn (p0:En) (p1:Ab) (p2:Int) {K:List Ent} {A0_0:Option Addr} {c0_0:Nat} {A0_1:Option Addr} {c0_1:Nat} (ha0:Has K A0_0 (p0.V).length c0_0 4 Ae (p0.V)) (ha1:Has K A0_1 (p0.Lines).length c0_1 2 Ag (p0.Lines)) {r:Bool} (hx:Gj p0 p1 p2=some r) (w:World) (hK:∀ e∈K,Ent.ok w e):CtL Tryz.prog 4 [.agg #[.slice (A0_0) ((p0.V).length) (c0_0),.slice (A0_1) ((p0.Lines).length) (c0_1)],.agg #[.int .i64 (p1.X),.int .i64 (p1.Y),.int .i64 (p1.Z.Lo),.int .i64 (p1.Z.Hi)],.int .i64 (p2)] w fun v Ln=>v = .bool (r)∧Ln=[]∧True:=(Tg p0 p1 p2).h K _ _ ⟨_,_,_,_,rfl,ha0,ha1,trivial⟩ hx w hK
end Go.Proofs.YtgfiafnelibjgaaGreat
/- Meshes with lines: what is built twice is the same; the square; MeshBuilds. -/
namespace Go.Proofs.YtgfiafnelibjgaaGreat
open Go Go.RowKit
section
variable {v:List Ab} {l:List Aa} {m:Mp} {T:List Aj}
theorem Ox:Ke v l=0↔Lin1 v l∧Lin2 v l:=by
 unfold Ke
 by_cases c1:Lin1 v l
 ·rw [if_pos c1]
  by_cases c2:Lin2 v l
  ·rw [if_pos c2];exact ⟨fun _=>⟨c1,c2⟩,fun _=>rfl⟩
  ·rw [if_neg c2];exact ⟨fun h=>(by cases h),fun h=>absurd h.2 c2⟩
 ·rw [if_neg c1];exact ⟨fun h=>(by cases h),fun h=>absurd h.1 c1⟩
theorem Ats {s:Aa} (h:s.a0≤s.a1):prL s=s:=by
 obtain ⟨x,y⟩:=s
 unfold prL pr2
 dsimp only at h ⊢
 rw [Int.min_eq_left h,Int.max_eq_right h]
theorem Ard {L:List Aa} (h:∀ s∈L,s.a0≤s.a1):L.map prL=L:=by
 induction L with
 | nil=>rfl
 | cons x r ih=>rw [List.map_cons,Ats (h x (by simp)),ih (fun s hs=>h s (by simp [hs]))]
/-- The lines of a mesh are lines of an input, in order. -/
theorem Abx (hv:Cs v) (hn:v.length≤1024) (h:Ke v l=0):Ke v (Aw cmp2 (l.map prL))=0∧Aw cmp2 ((Aw cmp2 (l.map prL)).map prL)=Aw cmp2 (l.map prL)∧(Aw cmp2 (l.map prL)).length=l.length:=by
 obtain ⟨h1,h2⟩:=Ox.1 h
 have hL:=Xd hv h1 h2
 have hm:=Ard (fun s hs=>(hL.ok s hs).2)
 have sm:∀ s∈Aw cmp2 (l.map prL),Ki s:=fun s hs=>by
  obtain ⟨⟨k1,k2,_⟩,_⟩:=hL.ok s hs
  exact Xr hn k1 k2
 have sm':∀ s∈l.map prL,Ki s:=fun s hs=>sm s (Gn.2 hs)
 refine ⟨Ox.2 ⟨⟨fun s hs=>(hL.ok s hs).1,by rw [hm];exact hL.nd⟩,fun s hs k hk g=>?_,?_⟩,?_,by rw [(Dy _ _).length_eq,List.length_map]⟩
 ·exact hL.free s hs k hk (fun e=>g.2.1 (by rw [e];exact ⟨rfl,rfl⟩)) (fun e=>g.2.2 (by rw [e];exact ⟨rfl,rfl⟩)) g.1
 ·exact List.Pairwise.imp_of_mem (fun {a b} ha hb hne=>hL.apart a ha b hb hne) hL.nd
 ·rw [hm]
  exact Ty tot2 (fun s hs=>sm s (Gn.1 hs)) (Jc tot2 sm) (Jc tot2 sm') (Dy _ _)
theorem Al3 {T:List Aj} (h:T.length≤100000000):Dw T T=some true:=by
 have e:lfix (Cm T T) 0=some (.inl ()):=by
  rw [Wn (β:=Unit) (γ:=Bool) T (fun _=>true) (Cm T T) () false (fun j hj=>?_) ?_]
  ·simp
  ·unfold Cm
   rw [if_neg (by omega)]
  ·unfold Cm
   rw [if_pos (by omega),Bh hj,Af,Af,if_pos (by simp),if_pos rfl,Bw (by omega)]
 unfold Dw
 rw [if_pos rfl,jn_d,e,Af]
theorem Al4 {L:List Aa} (h:L.length≤100000000):Dx L L=some true:=by
 have e:lfix (Co L L) 0=some (.inl ()):=by
  rw [Wn (β:=Unit) (γ:=Bool) L (fun _=>true) (Co L L) () false (fun j hj=>?_) ?_]
  ·simp
  ·unfold Co
   rw [if_neg (by omega)]
  ·unfold Co
   rw [if_pos (by omega),Bh hj,Af,Af,if_pos (by simp),if_pos rfl,Bw (by omega)]
 unfold Dx
 rw [if_pos rfl,jn_d,e,Af]
theorem Aby {m:Av} (h1:m.V.length≤100000000) (h2:m.T.length≤100000000) (h3:m.Lines.length≤100000000):De m m=some true:=by
 have e1:lfix (Eu m m) 0=some (.inl ()):=by
  rw [Wn (β:=Unit) (γ:=Bool) m.V (fun _=>true) (Eu m m) () false (fun j hj=>?_) ?_]
  ·simp
  ·unfold Eu
   rw [if_neg (by omega)]
  ·unfold Eu
   rw [if_pos (by omega),Bh hj,Af,Af,if_pos (by simp),if_pos rfl,Bw (by omega)]
 have e2:lfix (Ek m m) 0=some (.inl ()):=by
  rw [Wn (β:=Unit) (γ:=Bool) m.T (fun _=>true) (Ek m m) () false (fun j hj=>?_) ?_]
  ·simp
  ·unfold Ek
   rw [if_neg (by omega)]
  ·unfold Ek
   rw [if_pos (by omega),Bh hj,Af,Af,if_pos (by simp),if_pos rfl,Bw (by omega)]
 have e3:lfix (El m m) 0=some (.inl ()):=by
  rw [Wn (β:=Unit) (γ:=Bool) m.Lines (fun _=>true) (El m m) () false (fun j hj=>?_) ?_]
  ·simp
  ·unfold El
   rw [if_neg (by omega)]
  ·unfold El
   rw [if_pos (by omega),Bh hj,Af,Af,if_pos (by simp),if_pos rfl,Bw (by omega)]
 unfold De
 rw [jn_d,if_pos rfl,if_pos rfl,decide_eq_true rfl]
 dsimp only
 rw [if_neg (by simp),jn_d,e1,Af]
 dsimp only
 rw [jn_d,e2,Af]
 dsimp only
 rw [jn_d,e3,Af]
theorem Aa2.len (hn:v.length≤1024) {L:List Aa} (hM:Mesh v L m) (h:Aa2 v m T):T.length≤1048576:=by
 have hsq:=Yl hn
 have:=Acm hM.tri (fun t ht=>(h.mem t).1 ht) h.nd
 omega
/-- What Build returns is a mesh that Check takes. -/
theorem Abz (h:Iz v=0) (hl:l.length≤1000000) (h1:Ke v l=0) :
  ∃ T,Cv v l=some (⟨v,T,Aw cmp2 (l.map prL)⟩,0)∧Bd v l=some (⟨v,T,Aw cmp2 (l.map prL)⟩,0)∧T.length≤1048576∧Nd ⟨v,T,Aw cmp2 (l.map prL)⟩=some 0∧Cv v (Aw cmp2 (l.map prL))=some (⟨v,T,Aw cmp2 (l.map prL)⟩,0)∧Bd v (Aw cmp2 (l.map prL))=some (⟨v,T,Aw cmp2 (l.map prL)⟩,0)∧((Xf v∧T=[])∨(¬ Xf v∧∃ m,Mesh v (Aw cmp2 (l.map prL)) m∧Aa2 v m T)):=by
 obtain ⟨hn,_,hv⟩:=Ff h
 obtain ⟨g1,g2,g3⟩:=Abx hv hn h1
 obtain ⟨T,e1,e2,e3,e4⟩:=Vs h hl h1
 obtain ⟨T',f1,f2,f3,_⟩:=Vs (l:=Aw cmp2 (l.map prL)) h (by omega) g1
 rw [g2] at f1 f2 f3
 have:T'=T:=Option.some.inj (f3.symm.trans e3)
 subst this
 have hT:T'.length≤1048576:=by
  rcases e4 with ⟨_,rfl⟩ | ⟨_,m,hM,hT⟩
  ·simp
  ·exact hT.len hn hM
 refine ⟨T',e1,e2,hT,?_,f1,f2,e4⟩
 unfold Nd
 dsimp only
 rw [f1,Af,jn_d]
 dsimp only
 rw [if_pos rfl,Al3 (by omega),Af,if_pos rfl,Al4 (by omega),Af]
 rfl
theorem Ai5 (h:Iz v≠0):Cv v l=some (⟨[],[],[]⟩,Iz v):=by
 unfold Cv
 rw [Wi,Af,if_neg h]
/-! ### the square -/
theorem Ai6:Ke v []=0:=Ox.2 ⟨⟨fun s hs=>(by cases hs),List.Pairwise.nil⟩,fun s hs=>(by cases hs),List.Pairwise.nil⟩
theorem Ai7:Cv sqv []=some (⟨sqv,[⟨0,1,2⟩,⟨1,3,2⟩],[]⟩,0):=by
 obtain ⟨_,_,hv⟩:=Ff Atf
 have hE:=Ox.1 (Ai6 (v:=sqv))
 obtain ⟨T,h1,h2⟩:=Acn Atf (l:=[]) (by simp) hE.1 hE.2
 have e:Aw cmp2 (([]:List Aa).map prL)=[]:=by simp [Aw]
 rw [e] at h1 h2
 rcases h2 with ⟨f,_⟩ | ⟨_,m,hM,rfl⟩
 ·have:=f 0 1 2 (in4.2 (by simp)) (in4.2 (by simp)) (in4.2 (by simp))
  exact absurd this (by decide)
 ·have hd:=Aht hv hM.map hM.tri hM.cov (fun i j k l hk hl=>(hM.leg i j k l hk hl).resolve_left (by simp)) hM.ne
  rw [h1,(Ara hM.map hd).unique Aqw]
theorem Adj:Gc=some true:=by
 unfold Gc
 refine Eq.trans (congrArg (fun z=>bnd z _) Ai7) ?_
 show bnd (some _) _=_
 rw [Af,jn_d]
 rfl
end
end Go.Proofs.YtgfiafnelibjgaaGreat
/- Inserting and removing: the program's and the reference's. -/
namespace Go.Proofs.YtgfiafnelibjgaaGreat
open Go Go.RowKit
section
variable {v:List Ab} {l L:List Aa} {T:List Aj}
/-- An index behind the one that goes away. -/
def decI (i x:Int):Int:=if i < x then x-1 else x
def decS (i:Int) (s:Aa):Aa:=⟨decI i s.a0,decI i s.a1⟩
def inI (i:Int) (s:Aa):Prop:=s.a0=i∨s.a1=i
instance (i:Int) (s:Aa):Decidable (inI i s):=by unfold inI;infer_instance
theorem Aad {i a:Int} (h0:0≤a) (h1:a≤1000000000) (hi:0≤i):i < a→w64 (a-1)=a-1:=fun h=>Bo (by omega) (by omega)
theorem An0 {i a b:Int} (hi:0≤i) (ha:0≤a∧a≤1000000000) (hb:0≤b∧b≤1000000000):lfix (Fq i) (a,b,0)=some (decI i a,decI i b):=by
 refine Vn (fun k=>if k=0 then (a,b,0) else if k=1 then (decI i a,b,1) else (decI i a,decI i b,2)) (decI i a,decI i b) 2 (fun k hk=>?_) ?_
 ·have:k=0∨k=1:=by omega
  rcases this with rfl | rfl
  ·show Fq i (a,b,0)=some (.inl (decI i a,b,1))
   unfold Fq
   dsimp only
   rw [if_pos (by omega),jn_d,show idx [a,b] (0:Int)=some a from rfl,Af]
   by_cases c:i < a
   ·rw [if_pos c,Af,Af,Aad ha.1 ha.2 hi c]
    unfold ifx decI
    rw [if_pos rfl,if_neg (by omega),if_pos c]
    rfl
   ·rw [if_neg c]
    unfold decI
    rw [if_neg c]
    rfl
  ·show Fq i (decI i a,b,1)=some (.inl (decI i a,decI i b,2))
   unfold Fq
   dsimp only
   rw [if_pos (by omega),jn_d,show idx [decI i a,b] (1:Int)=some b from rfl,Af]
   by_cases c:i < b
   ·rw [if_pos c,Af,Af,Aad hb.1 hb.2 hi c]
    unfold ifx
    rw [if_pos rfl,if_neg (by omega)]
    unfold decI
    rw [if_pos c]
    rfl
   ·rw [if_neg c]
    unfold decI
    rw [if_neg c]
    rfl
 ·show Fq i (decI i a,decI i b,2)=some (.inr (decI i a,decI i b))
  unfold Fq
  dsimp only
  rw [if_neg (by omega)]
/-- What the loop over the lines gives. -/
def RmL (i:Int) (L:List Aa) (t:Sum (List Aa) (Av × Int)):Prop:=((∀ s∈L,¬ inI i s)∧t = .inl (L.map (decS i)))∨((∃ s∈L,inI i s)∧t = .inr (⟨[],[],[]⟩,62))
theorem RmL.unique {i:Int} {L:List Aa} {t u} (h:RmL i L t) (k:RmL i L u):t=u:=by
 rcases h with ⟨h,rfl⟩ | ⟨⟨s,h1,h2⟩,rfl⟩ <;> rcases k with ⟨k,rfl⟩ | ⟨⟨s',k1,k2⟩,rfl⟩
 ·rfl
 ·exact absurd k2 (h s' k1)
 ·exact absurd h2 (k s h1)
 ·rfl
def smL (L:List Aa):Prop:=∀ s∈L,(0≤s.a0∧s.a0≤1000000000)∧(0≤s.a1∧s.a1≤1000000000)
theorem Are {p:Av} {i:Int} (hi:0≤i) (hl:p.Lines.length≤1000000) (hs:smL p.Lines):∃ t,lfix (Po p i) ([],0)=some t∧RmL i p.Lines t:=by
 refine Ct (fun s=>p.Lines.length-s.2.toNat)
  (fun s=>∃ k:Nat,s=((p.Lines.take k).map (decS i),(k:Int))∧k≤p.Lines.length∧∀ s∈p.Lines.take k,¬ inI i s)
  (RmL i p.Lines) ?_ ([],0) ⟨0,by simp,by omega,by simp⟩
 rintro s ⟨k,rfl,hk,hno⟩
 unfold Po
 dsimp only
 by_cases hlt:k < p.Lines.length
 ·rw [if_pos (by omega),Bh hlt,Af,jn_d]
  have hm:p.Lines[k]∈p.Lines:=List.getElem_mem hlt
  obtain ⟨g1,g2⟩:=hs _ hm
  by_cases c:inI i p.Lines[k]
  ·right
   refine ⟨_,?_,.inr ⟨⟨_,hm,c⟩,rfl⟩⟩
   rcases c with c | c
   ·rw [if_pos c]
    dsimp only
    rw [if_pos rfl]
   ·by_cases c0:p.Lines[k].a0=i
    ·rw [if_pos c0]
     dsimp only
     rw [if_pos rfl]
    ·rw [if_neg c0,decide_eq_true c]
     dsimp only
     rw [if_pos rfl]
  ·left
   refine ⟨((p.Lines.take (k+1)).map (decS i),((k+1:Nat):Int)),?_,⟨k+1,rfl,by omega,fun s hs'=>?_⟩,by simp;omega⟩
   ·rw [if_neg (fun e=>c (.inl e)),decide_eq_false (fun e=>c (.inr e))]
    dsimp only
    rw [if_neg (by simp),jn_d,An0 hi g1 g2,Af]
    dsimp only
    rw [gd_t (by simp;omega),Bw (by omega),Cc hlt,List.map_append]
    rfl
   ·rw [Cc hlt] at hs'
    rcases List.mem_append.1 hs' with hs' | hs'
    ·exact hno s hs'
    ·rw [List.mem_singleton] at hs';subst hs';exact c
 ·obtain rfl:k=p.Lines.length:=by omega
  right
  rw [if_neg (by omega)]
  rw [List.take_length] at hno ⊢
  exact ⟨_,rfl,.inl ⟨hno,rfl⟩⟩
theorem Arf {i a b:Int} (hi:0≤i) (ha:0≤a∧a≤1000000000) (hb:0≤b∧b≤1000000000):∃ t,lfix (Cz i) (a,b,0)=some t∧((¬ (a=i∨b=i)∧t = .inl (decI i a,decI i b))∨((a=i∨b=i)∧t = .inr (⟨[],[],[]⟩,62))):=by
 have s0:Cz i (a,b,0)=if a=i then some (.inr (.inr (⟨[],[],[]⟩,62))) else some (.inl (decI i a,b,1)):=by
  unfold Cz
  dsimp only
  rw [if_pos (by omega),jn_d,show idx [a,b] (0:Int)=some a from rfl,Af]
  by_cases e:a=i
  ·rw [if_pos e,if_pos e]
  ·rw [if_neg e,if_neg e,Af]
   by_cases c:i < a
   ·rw [if_pos c,Af,Af,Aad ha.1 ha.2 hi c]
    unfold ifx decI
    rw [if_pos rfl,if_neg (by omega),if_pos c]
    rfl
   ·rw [if_neg c]
    unfold decI
    rw [if_neg c]
    rfl
 have s1:Cz i (decI i a,b,1)=if b=i then some (.inr (.inr (⟨[],[],[]⟩,62))) else some (.inl (decI i a,decI i b,2)):=by
  unfold Cz
  dsimp only
  rw [if_pos (by omega),jn_d,show idx [decI i a,b] (1:Int)=some b from rfl,Af]
  by_cases e:b=i
  ·rw [if_pos e,if_pos e]
  ·rw [if_neg e,if_neg e,Af]
   by_cases c:i < b
   ·rw [if_pos c,Af,Af,Aad hb.1 hb.2 hi c]
    unfold ifx
    rw [if_pos rfl,if_neg (by omega)]
    unfold decI
    rw [if_pos c]
    rfl
   ·rw [if_neg c]
    unfold decI
    rw [if_neg c]
    rfl
 have s2:Cz i (decI i a,decI i b,2)=some (.inr (.inl (decI i a,decI i b))):=by
  unfold Cz
  dsimp only
  rw [if_neg (by omega)]
 by_cases e0:a=i
 ·rw [Cb,s0,if_pos e0]
  exact ⟨_,rfl,.inr ⟨.inl e0,rfl⟩⟩
 ·rw [Cb,s0,if_neg e0]
  dsimp only
  by_cases e1:b=i
  ·rw [Cb,s1,if_pos e1]
   exact ⟨_,rfl,.inr ⟨.inr e1,rfl⟩⟩
  ·rw [Cb,s1,if_neg e1]
   dsimp only
   rw [Cb,s2]
   exact ⟨_,rfl,.inl ⟨by omega,rfl⟩⟩
theorem Att {p:Av} {i:Int} (hi:0≤i) (hl:p.Lines.length≤1000000) (hs:smL p.Lines):∃ t,lfix (Kz p i) ([],0)=some t∧RmL i p.Lines t:=by
 refine Ct (fun s=>p.Lines.length-s.2.toNat)
  (fun s=>∃ k:Nat,s=((p.Lines.take k).map (decS i),(k:Int))∧k≤p.Lines.length∧∀ s∈p.Lines.take k,¬ inI i s)
  (RmL i p.Lines) ?_ ([],0) ⟨0,by simp,by omega,by simp⟩
 rintro s ⟨k,rfl,hk,hno⟩
 unfold Kz
 dsimp only
 by_cases hlt:k < p.Lines.length
 ·rw [if_pos (by omega),Bh hlt,Af,jn_d]
  have hm:p.Lines[k]∈p.Lines:=List.getElem_mem hlt
  obtain ⟨g1,g2⟩:=hs _ hm
  obtain ⟨t,t1,t2⟩:=Arf hi g1 g2
  rw [t1,Af]
  rcases t2 with ⟨c,rfl⟩ | ⟨c,rfl⟩
  ·left
   refine ⟨((p.Lines.take (k+1)).map (decS i),((k+1:Nat):Int)),?_,⟨k+1,rfl,by omega,fun s hs'=>?_⟩,by simp;omega⟩
   ·dsimp only
    rw [gd_t (by simp;omega),Bw (by omega),Cc hlt,List.map_append]
    rfl
   ·rw [Cc hlt] at hs'
    rcases List.mem_append.1 hs' with hs' | hs'
    ·exact hno s hs'
    ·rw [List.mem_singleton] at hs';subst hs';exact c
  ·right
   exact ⟨_,rfl,.inr ⟨⟨_,hm,c⟩,rfl⟩⟩
 ·obtain rfl:k=p.Lines.length:=by omega
  right
  rw [if_neg (by omega)]
  rw [List.take_length] at hno ⊢
  exact ⟨_,rfl,.inl ⟨hno,rfl⟩⟩
/-- What Build gives is small, or nothing. -/
def okR (r:Av × Int):Prop:=r.1.V.length≤100000000∧r.1.T.length≤100000000∧r.1.Lines.length≤100000000
theorem Zb (hl:l.length≤1000000):∃ r,Cv v l=some r∧Bd v l=some r∧okR r∧(r.2=0→Iz v=0∧Ke v l=0):=by
 by_cases h:Iz v=0
 ·by_cases h1:Ke v l=0
  ·obtain ⟨T,e1,e2,e3,_⟩:=Abz h hl h1
   refine ⟨_,e1,e2,⟨?_,?_,?_⟩,fun _=>⟨h,h1⟩⟩
   ·have:=(Ff h).1;dsimp only;omega
   ·dsimp only;omega
   ·dsimp only;rw [(Dy _ _).length_eq,List.length_map];omega
  ·exact ⟨_,Akf h hl h1,Ae4 hl h h1,⟨by simp,by simp,by simp⟩,fun e=>absurd e h1⟩
 ·exact ⟨_,Ai5 h,Ae8 _ h,⟨by simp,by simp,by simp⟩,fun e=>absurd e h⟩
theorem okR.me {r:Av × Int} (h:okR r):De r.1 r.1=some true:=Aby h.1 h.2.1 h.2.2
/-- A mesh that Build has built. -/
structure Made (v:List Ab) (L:List Aa) (T:List Aj):Prop where
 ve:Iz v=0
 le:Ke v L=0
 len:L.length≤1000000
 ord:Aw cmp2 (L.map prL)=L
 tl:T.length≤1048576
 chk:Nd ⟨v,T,L⟩=some 0
 bld:Cv v L=some (⟨v,T,L⟩,0)
 ref:Bd v L=some (⟨v,T,L⟩,0)
theorem made (h:Iz v=0) (hl:l.length≤1000000) (h1:Ke v l=0):∃ T,Cv v l=some (⟨v,T,Aw cmp2 (l.map prL)⟩,0)∧Bd v l=some (⟨v,T,Aw cmp2 (l.map prL)⟩,0)∧Made v (Aw cmp2 (l.map prL)) T:=by
 obtain ⟨hn,_,hv⟩:=Ff h
 obtain ⟨g1,g2,g3⟩:=Abx hv hn h1
 obtain ⟨T,e1,e2,e3,e4,e5,e6,_⟩:=Abz h hl h1
 exact ⟨T,e1,e2,h,g1,by omega,g2,e3,e4,e5,e6⟩
theorem Made.me (h:Made v L T):De ⟨v,T,L⟩ ⟨v,T,L⟩=some true:=by
 have:=(Ff h.ve).1
 exact Aby (by dsimp only;omega) (by have:=h.tl;dsimp only;omega) (by have:=h.len;dsimp only;omega)
theorem Made.rchk (h:Made v L T):Hl ⟨v,T,L⟩=some 0:=by
 unfold Hl
 dsimp only
 rw [h.ref,Af,jn_d]
 dsimp only
 rw [if_pos rfl,h.me,Af]
 rfl
theorem Made.small (h:Made v L T):smL L:=fun s hs=>by
 have hn:=(Ff h.ve).1
 have hL:=Ox.1 h.le
 obtain ⟨⟨k1,k2,_⟩,_⟩:=(Xd (Ff h.ve).2.2 hL.1 hL.2).ok s (by rw [h.ord];exact hs)
 unfold inN at k1 k2
 exact ⟨⟨by omega,by omega⟩,by omega,by omega⟩
/-- Inserting. -/
theorem Made.insert (h:Made v L T) (x:Ab):Oy ⟨v,T,L⟩ x=Cv (v++[x]) L∧Ie ⟨v,T,L⟩ x=Bd (v++[x]) L:=by
 have hn:=(Ff h.ve).1
 constructor
 ·unfold Oy
  dsimp only
  rw [h.chk,Af,if_pos rfl,jn_d]
  unfold Fz
  rw [gd_t (by omega),Af,gd_t (by omega)]
  cases Cv (v++[x]) L with
  | none=>rfl
  | some r=>rfl
 ·unfold Ie
  dsimp only
  rw [h.rchk,Af,if_pos rfl,gd_t (by simp;omega),gd_t (by simp;omega)]
  show bnd (Bd (v++[x]) L) _=_
  cases Bd (v++[x]) L with
  | none=>rfl
  | some r=>rfl
theorem Made.remove (h:Made v L T) (i:Int) (hi:0≤i) (hi2:i < (v.length:Int)):∃ t,RmL i L t∧Hx ⟨v,T,L⟩ i=(match t with | .inl z=>Cv (delI v i) z | .inr z=>some z)∧Eg ⟨v,T,L⟩ i=(match t with | .inl z=>Bd (delI v i) z | .inr z=>some z):=by
 have hn:=(Ff h.ve).1
 obtain ⟨t,t1,t2⟩:=Are (p:=⟨v,T,L⟩) hi h.len h.small
 obtain ⟨u,u1,u2⟩:=Att (p:=⟨v,T,L⟩) hi h.len h.small
 obtain rfl:=t2.unique u2
 refine ⟨t,t2,?_,?_⟩
 ·unfold Hx
  dsimp only
  rw [h.chk,Af,if_pos rfl,jn_d,if_neg (by omega),decide_eq_false (by omega)]
  dsimp only
  rw [if_neg (by simp),jn_d,t1,Af]
  cases t with
  | inr z=>rfl
  | inl z =>
   dsimp only
   unfold Fz
   rw [gd_t (by omega),Af,gd_t ⟨⟨hi,Bo (by omega) (by omega)⟩,by omega⟩]
   cases Cv (delI v i) z with
   | none=>rfl
   | some r=>rfl
 ·have hw:w64 (i+1)=i+1:=Bo (by omega) (by omega)
  have hd:(([]:List Ab)++subl v 0 i)++subl v (i+1) ((v.length:Nat):Int)=delI v i:=by
   unfold subl delI
   rw [List.nil_append,Int.toNat_natCast,List.take_length,Int.toNat_zero,List.drop_zero,show (i+1).toNat=i.toNat+1 by omega]
  have hlen:(delI v i).length≤v.length:=by rw [Aiz hi (by omega)];omega
  have hl1:(subl v 0 i).length≤v.length:=by rw [As3,List.length_take];omega
  unfold Eg
  dsimp only
  rw [h.rchk,Af,if_pos rfl,jn_d,if_neg (by omega),decide_eq_false (by omega)]
  dsimp only
  rw [if_neg (by simp),gd_t (by omega),hw,gd_t (by omega),gd_t (by simp only [List.length_nil];omega),gd_t (by rw [← List.length_append,hd];omega),jn_d,u1,Af]
  cases t with
  | inr z=>rfl
  | inl z =>
   dsimp only
   rw [hd]
   cases Bd (delI v i) z with
   | none=>rfl
   | some r=>rfl
theorem Made.remove_out (h:Made v L T) (i:Int) (hi:¬ (0≤i∧i < (v.length:Int))):Hx ⟨v,T,L⟩ i=some (⟨[],[],[]⟩,2)∧Eg ⟨v,T,L⟩ i=some (⟨[],[],[]⟩,2):=by
 constructor
 ·unfold Hx
  dsimp only
  rw [h.chk,Af,if_pos rfl,jn_d]
  by_cases c:i < 0
  ·rw [if_pos c]
   dsimp only
   rw [if_pos rfl]
  ·rw [if_neg c,decide_eq_true (by omega)]
   dsimp only
   rw [if_pos rfl]
 ·unfold Eg
  dsimp only
  rw [h.rchk,Af,if_pos rfl,jn_d]
  by_cases c:i < 0
  ·rw [if_pos c]
   dsimp only
   rw [if_pos rfl]
  ·rw [if_neg c,decide_eq_true (by omega)]
   dsimp only
   rw [if_pos rfl]
/-- Removing is the same in the program and in the reference. -/
theorem Made.remove_same (h:Made v L T) (i:Int):∃ r,Hx ⟨v,T,L⟩ i=some r∧Eg ⟨v,T,L⟩ i=some r∧okR r:=by
 by_cases c:0≤i∧i < (v.length:Int)
 ·obtain ⟨t,t1,t2,t3⟩:=h.remove i c.1 c.2
  rw [t2,t3]
  rcases t1 with ⟨_,rfl⟩ | ⟨_,rfl⟩
  ·obtain ⟨r,r1,r2,r3,_⟩:=Zb (v:=delI v i) (l:=L.map (decS i)) (by rw [List.length_map];exact h.len)
   exact ⟨r,r1,r2,r3⟩
  ·exact ⟨_,rfl,rfl,by simp,by simp,by simp⟩
 ·obtain ⟨h1,h2⟩:=h.remove_out i c
  exact ⟨_,h1,h2,by simp,by simp,by simp⟩
/-- What was inserted is removed. -/
theorem Made.back (h:Made v L T) {x:Ab} {T':List Aj} (h':Made (v++[x]) L T'):Hx ⟨v++[x],T',L⟩ (v.length:Int)=some (⟨v,T,L⟩,0):=by
 have hL:=Ox.1 h.le
 have hok:∀ s∈L,okL v s:=fun s hs=>((Xd (Ff h.ve).2.2 hL.1 hL.2).ok s (by rw [h.ord];exact hs)).1
 obtain ⟨t,t1,t2,_⟩:=h'.remove (v.length:Int) (by omega) (by simp;omega)
 rw [t2]
 have hno:∀ s∈L,¬ inI (v.length:Int) s:=fun s hs=>by
  obtain ⟨k1,k2,_⟩:=hok s hs
  unfold inN at k1 k2
  unfold inI
  omega
 rcases t1 with ⟨_,rfl⟩ | ⟨⟨s,h1,h2⟩,_⟩
 ·have e1:L.map (decS (v.length:Int))=L:=by
   have:∀ s∈L,decS (v.length:Int) s=s:=fun s hs=>by
    obtain ⟨k1,k2,_⟩:=hok s hs
    unfold inN at k1 k2
    unfold decS decI
    rw [if_neg (by omega),if_neg (by omega)]
   rw [List.map_congr_left this,List.map_id']
  have e2:delI (v++[x]) (v.length:Int)=v:=by
   unfold delI
   rw [Int.toNat_natCast,List.take_left,List.drop_of_length_le (by simp),List.append_nil]
  dsimp only
  rw [e1,e2,h.bld]
 ·exact absurd h2 (hno s h1)
end
end Go.Proofs.YtgfiafnelibjgaaGreat
/- MeshInserts. -/
namespace Go.Proofs.YtgfiafnelibjgaaGreat
open Go Go.RowKit
theorem Adk (p:En) (x:Ab) (i:Int):Gj p x i=some true:=by
 unfold Gj Oi
 rw [jn_d]
 by_cases c:20 < ((p.V.length:Nat):Int)
 ·rw [if_pos c,Af,if_pos rfl,Adj,Af]
 ·rw [if_neg c,Af]
  by_cases c2:8 < ((p.Lines.length:Nat):Int)
  ·rw [decide_eq_true c2,if_pos rfl,Adj,Af]
  ·rw [decide_eq_false c2,if_neg (by simp)]
   have hl:p.Lines.length≤1000000:=by omega
   obtain ⟨r,r1,r2,r3,r4⟩:=Zb (v:=p.V) hl
   by_cases e:r.2=0
   ·obtain ⟨h,h1⟩:=r4 e
    obtain ⟨T,e1,e2,hM⟩:=made h hl h1
    obtain ⟨i1,i2⟩:=hM.insert x
    obtain ⟨q,q1,q2,q3,q4⟩:=Zb (v:=p.V++[x]) (l:=Aw cmp2 (p.Lines.map prL)) hM.len
    obtain ⟨u,u1,u2,u3⟩:=hM.remove_same i
    have hx:(⟨x.X,x.Y,⟨x.Z.Lo,x.Z.Hi⟩⟩:Ab)=x:=rfl
    rw [e2,Af,if_pos rfl,hx,i1,q1,Af,i2,q2,Af,u1,Af,u2,Af,jn_d,if_pos rfl,q3.me,Af,if_pos rfl,if_pos rfl,u3.me,Af]
    dsimp only
    rw [if_neg (by simp)]
    by_cases eq:q.2=0
    ·obtain ⟨g,g1⟩:=q4 eq
     obtain ⟨T',f1,f2,hM'⟩:=made g hM.len g1
     rw [hM.ord] at f1 hM'
     obtain rfl:q=_:=Option.some.inj (q1.symm.trans f1)
     rw [if_pos rfl,hM.back hM',Af,jn_d]
     dsimp only
     rw [if_pos rfl,hM.me,Af,if_pos rfl,Adj,Af]
    ·rw [if_neg eq,Adj,Af]
   ·rw [r2,Af,if_neg e,Adj,Af]
end Go.Proofs.YtgfiafnelibjgaaGreat
/- What the arguments of a law are, read off the way a law's claim is told of them: lists, structs. -/
namespace Go.Proofs.YtgfiafnelibjgaaGreat
open Go.ChangeShapes Go.WideShapes Go.ChangeAt Go.RowKit

theorem own2:ownKnob Tryz.prog.godebug=none:=by kernel_rfl
theorem Adl:laidOutB Tryz.prog=true:=by kernel_rfl
def rI64 (z:Int):Prop:=-9223372036854775808≤z∧z≤9223372036854775807
theorem Af9 {cs:List Value} {o:Nat} (h:cs.length=o):cs.drop o=[]:=by rw [← h,List.drop_length]
theorem Re {cs X R:List Value} {o k o':Nat} (h1:(cs.drop o).take k=X) (h2:cs.drop o'=R) (ho:o'=o+k):cs.drop o=X++R:=by
 subst ho;rw [← h1,← h2,← List.drop_drop,List.take_append_drop]
section
variable {H:Type} {enc:TypeId × Value→H} {w:World} {base:Nat} {spare:Nat→Bool} {held:Bool} {P:Program}
theorem Atu {t:TypeId} (ht:P.underlying t=some (.int .i64)) {fuel:Nat} {cs:List Value} {x:DataW H × List MemPlace} (h:DataW.trod enc P w base spare held fuel t cs=some x):∃ z:Int,cs=[.int .i64 z]∧rI64 z:=by
 obtain ⟨n,hc,_,hw⟩:=DataW.trod_int ht h
 refine ⟨n,hc,?_⟩
 have h1:IntKind.i64.min = -9223372036854775808:=rfl
 have h2:IntKind.i64.max=9223372036854775807:=rfl
 simp only [Lit.wf,Bool.and_eq_true,decide_eq_true_eq] at hw
 unfold rI64;omega
theorem Ahu {α:Type} {en:α→List Value} {okα:α→Prop} {t e:TypeId} {sz:Nat} (ht:P.underlying t=some (.slice e)) (hsz:P.cellsOf e=sz) (hp:0 < sz)
  (hel:∀ {fuel:Nat} {cs:List Value} {x:DataW H × List MemPlace},DataW.trod enc P w base spare held fuel e cs=some x→∃ v,cs=en v∧okα v)
  {fuel:Nat} {cs:List Value} {x:DataW H × List MemPlace} (h:DataW.trod enc P w base spare held fuel t cs=some x) :
  ∃ (v:List α) (A:Option Addr) (c:Nat),cs=[.slice A v.length c]∧Has [.old w] A v.length c sz en v∧∀ z∈v,okα z:=by
 rcases Go.Deep.open_slice ht h with ⟨rfl,_⟩ | ⟨a,len,cap,m,n,D,Pl,rfl,hb,hl,hm,hmm,_,hx⟩
 ·exact ⟨[],none,0,rfl,Has.nil,fun z hz=>by simp at hz⟩
 ·have hle:len≤m:=by rw [hmm];split <;> omega
  have key:∀ k,k≤len→∃ v:List α,v.length=k∧(∀ z∈v,okα z)∧∀ i (hi:i < v.length),w.cells? base (a.add (i*sz)) sz=some (en v[i]):=by
   intro k
   induction k with
   | zero=>intro _;exact ⟨[],rfl,fun z hz=>by simp at hz,fun i hi=>by simp at hi⟩
   | succ k ih =>
    intro hk
    obtain ⟨v,h1,h2,h3⟩:=ih (by omega)
    obtain ⟨cs',h4,h5⟩:=hx k (by omega)
    obtain ⟨z,rfl,hz⟩:=hel h5
    rw [hsz] at h4
    refine ⟨v++[z],by simp [h1],fun y hy=>?_,fun i hi=>?_⟩
    ·rcases List.mem_append.1 hy with hy | hy
     ·exact h2 y hy
     ·simp at hy;subst hy;exact hz
    ·simp at hi
     rcases Nat.lt_or_ge i v.length with hlt | hge
     ·rw [List.getElem_append_left hlt];exact h3 i hlt
     ·have:i=k:=by omega
      subst this
      rw [List.getElem_append_right hge]
      simp [h1];exact h4
  obtain ⟨v,h1,h2,h3⟩:=key len (Nat.le_refl _)
  subst h1
  have hesz:∀ z∈v,(en z).length=sz:=by
   intro z hz
   obtain ⟨i,hi,rfl⟩:=List.getElem_of_mem hz
   exact (World.cells?_some (h3 i hi)).2.1
  have hsl:Sl w (some a) v.length cap sz en v:=by
   refine ⟨rfl,hl,hm,hesz,fun hn=>?_⟩
   have hsp:a.spot=none:=by
    have h4:=(World.cells?_some (h3 0 hn)).2.2 0 hp
    have h5:(en v[0])[0]? = some ((en v[0])[0]'(by rw [hesz _ (List.getElem_mem hn)];exact hp)):=List.getElem?_eq_getElem _
    rw [h5] at h4
    simp only [Nat.zero_mul,Addr.add,if_true] at h4
    unfold World.cell? at h4
    split at h4
    ·split at h4
     ·cases h4
     ·rename_i hs;simpa using hs
    ·cases h4
   obtain ⟨b,o,sp⟩:=a
   have hsp:sp=none:=hsp
   subst hsp
   refine ⟨b,o,rfl,fun i hi j u hu=>?_⟩
   have hj:j < sz:=by rw [← hesz _ (List.getElem_mem hi)];exact (List.getElem?_eq_some_iff.1 hu).1
   have h4:=(World.cells?_some (h3 i hi)).2.2 j hj
   rw [hu,Addr.add_lit,Addr.add_lit] at h4
   exact h4
  exact ⟨v,some a,cap,rfl,hsl.has,h2⟩
end
theorem Avd (w:World):∀ e∈[Ent.old w],Ent.ok w e:=fun e he=>by simp at he;subst he;exact ⟨Below.refl _ _,Nat.le_refl _⟩
end Go.Proofs.YtgfiafnelibjgaaGreat
