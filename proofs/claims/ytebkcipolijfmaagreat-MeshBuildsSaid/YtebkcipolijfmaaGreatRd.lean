/- The mesh of the square, for the layouts with lines. -/
import Derived.Test.YtebkcipolijfmaaGreatE1b
import Derived.Test.YtebkcipolijfmaaGreatE3
import Derived.Test.YtebkcipolijfmaaGreatU21
import Derived.Test.YtebkcipolijfmaaGreatZ1
import Derived.Test.YtebkcipolijfmaaGreatFlow2
import Derived.Test.YtebkcipolijfmaaGreatRows
import Derived.ProofKit
import Derived.OpenShut
import Derived.ShutString
import Derived.ChangeOld
import Derived.Below
import Derived.Carry
import Derived.ChangeArms
import Derived.Deep.Slices
namespace Go.Proofs.YtebkcipolijfmaaGreat
open Go Go.RowKit
def sqv:List Ab:=[⟨0,0,⟨0,0⟩⟩,⟨2,0,⟨0,0⟩⟩,⟨0,2,⟨0,0⟩⟩,⟨2,2,⟨0,0⟩⟩]
theorem Ar0:Km sqv=0:=by
 unfold Km sqv Ft Sb Ld okP pP
 simp
theorem Akj:∀ a∈([0,1,2,3]:List Int),∀ b∈([0,1,2,3]:List Int),∀ c∈([0,1,2,3]:List Int),
  ((a < b∧a < c∧0 < crs (plV sqv a) (plV sqv b) (plV sqv c)∧∀ d∈([0,1,2,3]:List Int),d≠a→d≠b→d≠c→DH (plV sqv) (hV sqv) a b c d < 0)↔((a=0∧b=1∧c=2)∨(a=1∧b=3∧c=2))):=by
 decide +kernel
theorem in4 {i:Int}:inN sqv.length i↔i∈([0,1,2,3]:List Int):=by
 unfold inN sqv
 simp
 omega
theorem Aoa:Ahx sqv [⟨0,1,2⟩,⟨1,3,2⟩]:=by
 refine ⟨by simp [cmp3,cmpI],by simp,fun t=>?_⟩
 obtain ⟨a,b,c⟩:=t
 have key:∀ a b c,Del sqv a b c↔a∈([0,1,2,3]:List Int)∧b∈([0,1,2,3]:List Int)∧c∈([0,1,2,3]:List Int)∧0 < crs (plV sqv a) (plV sqv b) (plV sqv c)∧∀ d∈([0,1,2,3]:List Int),d≠a→d≠b→d≠c→DH (plV sqv) (hV sqv) a b c d < 0:=fun a b c=>by
  unfold Del
  simp only [in4]
 dsimp only
 rw [key]
 constructor
 ·intro h
  have e:(a=0∧b=1∧c=2)∨(a=1∧b=3∧c=2):=by simpa using h
  have ha:a∈([0,1,2,3]:List Int):=by rcases e with ⟨rfl,_,_⟩ | ⟨rfl,_,_⟩ <;> simp
  have hb:b∈([0,1,2,3]:List Int):=by rcases e with ⟨_,rfl,_⟩ | ⟨_,rfl,_⟩ <;> simp
  have hc:c∈([0,1,2,3]:List Int):=by rcases e with ⟨_,_,rfl⟩ | ⟨_,_,rfl⟩ <;> simp
  obtain ⟨h1,h2,h3,h4⟩:=(Akj a ha b hb c hc).2 e
  exact ⟨h1,h2,ha,hb,hc,h3,h4⟩
 ·rintro ⟨h1,h2,ha,hb,hc,h3,h4⟩
  have e:=(Akj a ha b hb c hc).1 ⟨h1,h2,h3,h4⟩
  simpa using e
end Go.Proofs.YtebkcipolijfmaaGreat
/- Walks of the program, with their plain functions: MeshBuilds. -/
namespace Go.Proofs.YtebkcipolijfmaaGreat
open Go Go.RowKit
theorem Aqu:Fh Tryz.prog 25 0 0:=.mk Tryz.underlying25 rfl rfl (show Tryz.prog.info? 22=some Tryz.t22 from by kernel_rfl) (show Tryz.t22.size=1 from by kernel_rfl) rfl
instance:Jo Tryz.prog 25 0 0:=⟨Aqu⟩
theorem Aqv:Fh Tryz.prog 25 1 1:=.mk Tryz.underlying25 rfl rfl (show Tryz.prog.info? 23=some Tryz.t23 from by kernel_rfl) (show Tryz.t23.size=1 from by kernel_rfl) rfl
instance:Jo Tryz.prog 25 1 1:=⟨Aqv⟩
theorem As0  : Le Tryz.prog 43 [] [.int .i64 (0),.int .i64 (0),.int .i64 (0),.int .i64 (0)]:=fun w=>by kernel_rfl
instance:Oz Tryz.prog 43 [] [.int .i64 (0),.int .i64 (0),.int .i64 (0),.int .i64 (0)]:=⟨As0⟩
theorem Aif (x0:Int):Le Tryz.prog 43 [(0,.int .i64 x0)] [.int .i64 x0,.int .i64 (0),.int .i64 (0),.int .i64 (0)]:=fun w=>by kernel_rfl
instance (x0:Int):Oz Tryz.prog 43 [(0,.int .i64 x0)] [.int .i64 x0,.int .i64 (0),.int .i64 (0),.int .i64 (0)]:=⟨Aif _⟩
theorem Aig (x0:Int):Le Tryz.prog 43 [(1,.int .i64 x0)] [.int .i64 (0),.int .i64 x0,.int .i64 (0),.int .i64 (0)]:=fun w=>by kernel_rfl
instance (x0:Int):Oz Tryz.prog 43 [(1,.int .i64 x0)] [.int .i64 (0),.int .i64 x0,.int .i64 (0),.int .i64 (0)]:=⟨Aig _⟩
theorem Adh (x0:Int) (x1:Int):Le Tryz.prog 43 [(0,.int .i64 x0),(1,.int .i64 x1)] [.int .i64 x0,.int .i64 x1,.int .i64 (0),.int .i64 (0)]:=fun w=>by kernel_rfl
instance (x0:Int) (x1:Int):Oz Tryz.prog 43 [(0,.int .i64 x0),(1,.int .i64 x1)] [.int .i64 x0,.int .i64 x1,.int .i64 (0),.int .i64 (0)]:=⟨Adh _ _⟩
theorem Fu (x0:Int) (x1:Int) (x2:Int) (x3:Int) (x4:Int) (x5:Int) (x6:Int) (x7:Int) (x8:Int) (x9:Int) (x10:Int) (x11:Int) (x12:Int) (x13:Int) (x14:Int) (x15:Int):Dx Tryz.prog 22 4 [(0,.agg #[.int .i64 x0,.int .i64 x1,.int .i64 x2,.int .i64 x3]),(1,.agg #[.int .i64 x4,.int .i64 x5,.int .i64 x6,.int .i64 x7]),(2,.agg #[.int .i64 x8,.int .i64 x9,.int .i64 x10,.int .i64 x11]),(3,.agg #[.int .i64 x12,.int .i64 x13,.int .i64 x14,.int .i64 x15])] 43 [.int .i64 x0,.int .i64 x1,.int .i64 x2,.int .i64 x3,.int .i64 x4,.int .i64 x5,.int .i64 x6,.int .i64 x7,.int .i64 x8,.int .i64 x9,.int .i64 x10,.int .i64 x11,.int .i64 x12,.int .i64 x13,.int .i64 x14,.int .i64 x15]:=fun w=>by kernel_rfl
instance (x0:Int) (x1:Int) (x2:Int) (x3:Int) (x4:Int) (x5:Int) (x6:Int) (x7:Int) (x8:Int) (x9:Int) (x10:Int) (x11:Int) (x12:Int) (x13:Int) (x14:Int) (x15:Int):Mz Tryz.prog 22 4 [(0,.agg #[.int .i64 x0,.int .i64 x1,.int .i64 x2,.int .i64 x3]),(1,.agg #[.int .i64 x4,.int .i64 x5,.int .i64 x6,.int .i64 x7]),(2,.agg #[.int .i64 x8,.int .i64 x9,.int .i64 x10,.int .i64 x11]),(3,.agg #[.int .i64 x12,.int .i64 x13,.int .i64 x14,.int .i64 x15])] 43 [.int .i64 x0,.int .i64 x1,.int .i64 x2,.int .i64 x3,.int .i64 x4,.int .i64 x5,.int .i64 x6,.int .i64 x7,.int .i64 x8,.int .i64 x9,.int .i64 x10,.int .i64 x11,.int .i64 x12,.int .i64 x13,.int .i64 x14,.int .i64 x15]:=⟨Fu _ _ _ _ _ _ _ _ _ _ _ _ _ _ _ _⟩
theorem Aub:Oa Tryz.prog 25 2:=.mk Tryz.underlying25 rfl (show Tryz.prog.info? 25=some Tryz.t25 from by kernel_rfl) (by kernel_rfl)
instance:AggI Tryz.prog 25 2:=⟨Aub⟩
structure Eg where
 V:List Ab
 Lines:List Aa
noncomputable def Nr (p0:Eg) (p1:Int) (p2:Int):Option Bool :=
 jn (fun (s2:Bool) =>
 some s2)
 (fun j2=>if p1 < ((((p0.V).length:Nat):Int)) then (j2 true)
 else (j2 (decide (p2 < ((((p0.Lines).length:Nat):Int))))))
noncomputable def Gy  : Option Bool :=
 bnd (Ew ([(⟨0,0,(⟨0,0⟩:Ak)⟩:Ab),(⟨2,0,(⟨0,0⟩:Ak)⟩:Ab),(⟨0,2,(⟨0,0⟩:Ak)⟩:Ab),(⟨2,2,(⟨0,0⟩:Ak)⟩:Ab)]) ([]:List Aa)) fun r3 =>
 jn (fun (s3:Bool) =>
 some s3)
 (fun j3=>if r3.2=0 then (if ((((r3.1.T).length:Nat):Int))=2 then (bnd (idx r3.1.T 0) fun x0 =>
 if ((((x0.a0) == (0)) && (((x0.a1) == (1)) && (((x0.a2) == (2)) && true))))=true then (bnd (idx r3.1.T 1) fun x1 =>
 j3 (((x1.a0) == (1)) && (((x1.a1) == (3)) && (((x1.a2) == (2)) && true))))
 else (j3 false))
 else (j3 false))
 else (j3 false))
noncomputable def Gm (p0:Eg):Option Bool :=
 bnd (Nr p0 30 12) fun r2 =>
 if r2=true then (bnd (Gy) fun r7 =>
 some r7)
 else (bnd (Ew p0.V p0.Lines) fun r0 =>
 bnd (Ct p0.V p0.Lines) fun r1 =>
 jn (fun (s8:Bool) =>
 if s8=true then (some false)
 else (jn (fun (s0:Bool) =>
 some s0)
 (fun j0=>if r0.2=0 then (bnd (Rn r0.1) fun r3 =>
 if r3=0 then (bnd (Gy) fun r4 =>
 j0 r4)
 else (j0 false))
 else (bnd (Gy) fun r5 =>
 j0 r5))))
 (fun j8=>if r0.2=r1.2 then (bnd (Gf r0.1 r1.1) fun r6 =>
 j8 (!(r6)))
 else (j8 true)))
set_option maxRecDepth 100000 in
instance lidarlaw06_Wide_c (p0:Eg) (p1:Int) (p2:Int):Con (Nr p0 p1 p2) Tryz.prog 9 (fun K vs=>∃ (A0_0:Option Addr) (c0_0:Nat) (A0_1:Option Addr) (c0_1:Nat),vs=[.agg #[.slice (A0_0) ((p0.V).length) (c0_0),.slice (A0_1) ((p0.Lines).length) (c0_1)],.int .i64 (p1),.int .i64 (p2)]∧Has K A0_0 (p0.V).length c0_0 4 Aj (p0.V)∧Has K A0_1 (p0.Lines).length c0_1 2 Ai (p0.Lines)∧True) (fun _ r=>fun v Ln=>v = .bool (r)∧Ln=[]∧True):=⟨by
 rintro K _ r ⟨A0_0,c0_0,A0_1,c0_1,rfl,ha0,ha1,-⟩ hx w hK;replace ha0:=Has.lo ha0 hK;replace ha1:=Has.lo ha1 hK;unfold Nr at hx;refine CtS Tryz.ntmps9 Tryz.results9 ?_;exact au⟩
set_option maxHeartbeats 1000000 in
set_option maxRecDepth 100000 in
instance lidarlaw06_awake_c  : Con (Gy) Tryz.prog 11 (fun _ vs=>vs=[]) (fun _ r=>fun v Ln=>v = .bool (r)∧Ln=[]∧True):=⟨by
 rintro _ _ r rfl hx w hK;unfold Gy at hx;refine CtS Tryz.ntmps11 Tryz.results11 ?_;exact au⟩
set_option maxHeartbeats 1000000 in
set_option maxRecDepth 100000 in
instance Te (p0:Eg):Con (Gm p0) Tryz.prog 4 (fun K vs=>∃ (A0_0:Option Addr) (c0_0:Nat) (A0_1:Option Addr) (c0_1:Nat),vs=[.agg #[.slice (A0_0) ((p0.V).length) (c0_0),.slice (A0_1) ((p0.Lines).length) (c0_1)]]∧Has K A0_0 (p0.V).length c0_0 4 Aj (p0.V)∧Has K A0_1 (p0.Lines).length c0_1 2 Ai (p0.Lines)∧True) (fun _ r=>fun v Ln=>v = .bool (r)∧Ln=[]∧True):=⟨by
 rintro K _ r ⟨A0_0,c0_0,A0_1,c0_1,rfl,ha0,ha1,-⟩ hx w hK;replace ha0:=Has.lo ha0 hK;replace ha1:=Has.lo ha1 hK;unfold Gm at hx;refine CtS Tryz.ntmps4 Tryz.results4 ?_;refine pre ?_;intros;rename_i hx
 refine Cq3 (s:=8) hx rfl (fun _ hx=>?_) (fun _ hx=>?_)
 ·exact au
 ·refine pre ?_;intros;rename_i hx
  refine Lc ?_;refine pre ?_;intros;rename_i hx
  apply Jr (γ:=Unit) hx [3,4] (fun s8 y8 f=>(34,.bool (s8))::f) [4,5,6,7,999] (fun s8 y8 l=>l);exact kk
  ·intro s8 y8 hx;exact au
  ·intro _ hx;exact au⟩
theorem Sm (p0:Eg) {K:List Ent} {A0_0:Option Addr} {c0_0:Nat} {A0_1:Option Addr} {c0_1:Nat} (ha0:Has K A0_0 (p0.V).length c0_0 4 Aj (p0.V)) (ha1:Has K A0_1 (p0.Lines).length c0_1 2 Ai (p0.Lines)) {r:Bool} (hx:Gm p0=some r) (w:World) (hK:∀ e∈K,Ent.ok w e):CtL Tryz.prog 4 [.agg #[.slice (A0_0) ((p0.V).length) (c0_0),.slice (A0_1) ((p0.Lines).length) (c0_1)]] w fun v Ln=>v = .bool (r)∧Ln=[]∧True:=(Te p0).h K _ _ ⟨_,_,_,_,rfl,ha0,ha1,trivial⟩ hx w hK
end Go.Proofs.YtebkcipolijfmaaGreat
/- Meshes with lines: what is built twice is the same; the square; MeshBuilds. -/
namespace Go.Proofs.YtebkcipolijfmaaGreat
open Go Go.RowKit
section
variable {v:List Ab} {l:List Aa} {m:Mp} {T:List Ah}
theorem Rz:Kx v l=0↔Lin1 v l∧Lin2 v l:=by
 unfold Kx
 by_cases c1:Lin1 v l
 ·rw [if_pos c1]
  by_cases c2:Lin2 v l
  ·rw [if_pos c2];exact ⟨fun _=>⟨c1,c2⟩,fun _=>rfl⟩
  ·rw [if_neg c2];exact ⟨fun h=>(by cases h),fun h=>absurd h.2 c2⟩
 ·rw [if_neg c1];exact ⟨fun h=>(by cases h),fun h=>absurd h.1 c1⟩
theorem As1 {s:Aa} (h:s.a0≤s.a1):prL s=s:=by
 obtain ⟨x,y⟩:=s
 unfold prL pr2
 dsimp only at h ⊢
 rw [Int.min_eq_left h,Int.max_eq_right h]
theorem Aqw {L:List Aa} (h:∀ s∈L,s.a0≤s.a1):L.map prL=L:=by
 induction L with
 | nil=>rfl
 | cons x r ih=>rw [List.map_cons,As1 (h x (by simp)),ih (fun s hs=>h s (by simp [hs]))]
/-- The lines of a mesh are lines of an input, in order. -/
theorem Ahc (hv:Cj v) (hn:v.length≤1024) (h:Kx v l=0):Kx v (Au cmp2 (l.map prL))=0∧Au cmp2 ((Au cmp2 (l.map prL)).map prL)=Au cmp2 (l.map prL)∧(Au cmp2 (l.map prL)).length=l.length:=by
 obtain ⟨h1,h2⟩:=Rz.1 h
 have hL:=Adl hv h1 h2
 have hm:=Aqw (fun s hs=>(hL.ok s hs).2)
 have sm:∀ s∈Au cmp2 (l.map prL),Jp s:=fun s hs=>by
  obtain ⟨⟨k1,k2,_⟩,_⟩:=hL.ok s hs
  exact Wo hn k1 k2
 have sm':∀ s∈l.map prL,Jp s:=fun s hs=>sm s (Fy.2 hs)
 refine ⟨Rz.2 ⟨⟨fun s hs=>(hL.ok s hs).1,by rw [hm];exact hL.nd⟩,fun s hs k hk g=>?_,?_⟩,?_,by rw [(Di _ _).length_eq,List.length_map]⟩
 ·exact hL.free s hs k hk (fun e=>g.2.1 (by rw [e];exact ⟨rfl,rfl⟩)) (fun e=>g.2.2 (by rw [e];exact ⟨rfl,rfl⟩)) g.1
 ·exact List.Pairwise.imp_of_mem (fun {a b} ha hb hne=>hL.apart a ha b hb hne) hL.nd
 ·rw [hm]
  exact Tf tot2 (fun s hs=>sm s (Fy.1 hs)) (Ip tot2 sm) (Ip tot2 sm') (Di _ _)
theorem Alp {T:List Ah} (h:T.length≤100000000):Dj T T=some true:=by
 have e:lfix (Cg T T) 0=some (.inl ()):=by
  rw [Vp (β:=Unit) (γ:=Bool) T (fun _=>true) (Cg T T) () false (fun j hj=>?_) ?_]
  ·simp
  ·unfold Cg
   rw [if_neg (by omega)]
  ·unfold Cg
   rw [if_pos (by omega),Bc hj,Ae,Ae,if_pos (by simp),if_pos rfl,Br (by omega)]
 unfold Dj
 rw [if_pos rfl,jn_d,e,Ae]
theorem Alq {L:List Aa} (h:L.length≤100000000):Dk L L=some true:=by
 have e:lfix (Ch L L) 0=some (.inl ()):=by
  rw [Vp (β:=Unit) (γ:=Bool) L (fun _=>true) (Ch L L) () false (fun j hj=>?_) ?_]
  ·simp
  ·unfold Ch
   rw [if_neg (by omega)]
  ·unfold Ch
   rw [if_pos (by omega),Bc hj,Ae,Ae,if_pos (by simp),if_pos rfl,Br (by omega)]
 unfold Dk
 rw [if_pos rfl,jn_d,e,Ae]
theorem Abk {m:Cx} (h1:m.V.length≤100000000) (h2:m.T.length≤100000000) (h3:m.Lines.length≤100000000):Gf m m=some true:=by
 have e1:lfix (Em m m) 0=some (.inl ()):=by
  rw [Vp (β:=Unit) (γ:=Bool) m.V (fun _=>true) (Em m m) () false (fun j hj=>?_) ?_]
  ·simp
  ·unfold Em
   rw [if_neg (by omega)]
  ·unfold Em
   rw [if_pos (by omega),Bc hj,Ae,Ae,if_pos (by simp),if_pos rfl,Br (by omega)]
 have e2:lfix (Dy m m) 0=some (.inl ()):=by
  rw [Vp (β:=Unit) (γ:=Bool) m.T (fun _=>true) (Dy m m) () false (fun j hj=>?_) ?_]
  ·simp
  ·unfold Dy
   rw [if_neg (by omega)]
  ·unfold Dy
   rw [if_pos (by omega),Bc hj,Ae,Ae,if_pos (by simp),if_pos rfl,Br (by omega)]
 have e3:lfix (Dz m m) 0=some (.inl ()):=by
  rw [Vp (β:=Unit) (γ:=Bool) m.Lines (fun _=>true) (Dz m m) () false (fun j hj=>?_) ?_]
  ·simp
  ·unfold Dz
   rw [if_neg (by omega)]
  ·unfold Dz
   rw [if_pos (by omega),Bc hj,Ae,Ae,if_pos (by simp),if_pos rfl,Br (by omega)]
 unfold Gf
 rw [jn_d,if_pos rfl,if_pos rfl,decide_eq_true rfl]
 dsimp only
 rw [if_neg (by simp),jn_d,e1,Ae]
 dsimp only
 rw [jn_d,e2,Ae]
 dsimp only
 rw [jn_d,e3,Ae]
theorem Yz.len (hn:v.length≤1024) {L:List Aa} (hM:Mesh v L m) (h:Yz v m T):T.length≤1048576:=by
 have hsq:=Xk hn
 have:=Abm hM.tri (fun t ht=>(h.mem t).1 ht) h.nd
 omega
/-- What Build returns is a mesh that Check takes. -/
theorem Ahd (h:Km v=0) (hl:l.length≤1000000) (h1:Kx v l=0) :
  ∃ T,Ew v l=some (⟨v,T,Au cmp2 (l.map prL)⟩,0)∧Ct v l=some (⟨v,T,Au cmp2 (l.map prL)⟩,0)∧T.length≤1048576∧Rn ⟨v,T,Au cmp2 (l.map prL)⟩=some 0∧Ew v (Au cmp2 (l.map prL))=some (⟨v,T,Au cmp2 (l.map prL)⟩,0)∧Ct v (Au cmp2 (l.map prL))=some (⟨v,T,Au cmp2 (l.map prL)⟩,0)∧((Vh v∧T=[])∨(¬ Vh v∧∃ m,Mesh v (Au cmp2 (l.map prL)) m∧Yz v m T)):=by
 obtain ⟨hn,_,hv⟩:=Og h
 obtain ⟨g1,g2,g3⟩:=Ahc hv hn h1
 obtain ⟨T,e1,e2,e3,e4⟩:=Us h hl h1
 obtain ⟨T',f1,f2,f3,_⟩:=Us (l:=Au cmp2 (l.map prL)) h (by omega) g1
 rw [g2] at f1 f2 f3
 have:T'=T:=Option.some.inj (f3.symm.trans e3)
 subst this
 have hT:T'.length≤1048576:=by
  rcases e4 with ⟨_,rfl⟩ | ⟨_,m,hM,hT⟩
  ·simp
  ·exact hT.len hn hM
 refine ⟨T',e1,e2,hT,?_,f1,f2,e4⟩
 unfold Rn
 dsimp only
 rw [f1,Ae,jn_d]
 dsimp only
 rw [if_pos rfl,Alp (by omega),Ae,if_pos rfl,Alq (by omega),Ae]
 rfl
theorem Aih (h:Km v≠0):Ew v l=some (⟨[],[],[]⟩,Km v):=by
 unfold Ew
 rw [Wb,Ae,if_neg h]
/-! ### the square -/
theorem Aii:Kx v []=0:=Rz.2 ⟨⟨fun s hs=>(by cases hs),List.Pairwise.nil⟩,fun s hs=>(by cases hs),List.Pairwise.nil⟩
theorem Aij:Ew sqv []=some (⟨sqv,[⟨0,1,2⟩,⟨1,3,2⟩],[]⟩,0):=by
 obtain ⟨_,_,hv⟩:=Og Ar0
 have hE:=Rz.1 (Aii (v:=sqv))
 obtain ⟨T,h1,h2⟩:=Abl Ar0 (l:=[]) (by simp) hE.1 hE.2
 have e:Au cmp2 (([]:List Aa).map prL)=[]:=by simp [Au]
 rw [e] at h1 h2
 rcases h2 with ⟨f,_⟩ | ⟨_,m,hM,rfl⟩
 ·have:=f 0 1 2 (in4.2 (by simp)) (in4.2 (by simp)) (in4.2 (by simp))
  exact absurd this (by decide)
 ·have hd:=Ahy hv hM.map hM.tri hM.cov (fun i j k l hk hl=>(hM.leg i j k l hk hl).resolve_left (by simp)) hM.ne
  rw [h1,(Ars hM.map hd).unique Aoa]
theorem Adi:Gy=some true:=by
 unfold Gy
 refine Eq.trans (congrArg (fun z=>bnd z _) Aij) ?_
 show bnd (some _) _=_
 rw [Ae,jn_d]
 rfl
theorem Aeg (p:Eg):Gm p=some true:=by
 unfold Gm Nr
 rw [jn_d]
 by_cases c:30 < ((p.V.length:Nat):Int)
 ·rw [if_pos c,Ae,if_pos rfl,Adi,Ae]
 ·rw [if_neg c,Ae]
  by_cases c2:12 < ((p.Lines.length:Nat):Int)
  ·rw [decide_eq_true c2,if_pos rfl,Adi,Ae]
  ·rw [decide_eq_false c2,if_neg (by simp)]
   have hl:p.Lines.length≤1000000:=by omega
   have nil:Gf ⟨[],[],[]⟩ ⟨[],[],[]⟩=some true:=Abk (by simp) (by simp) (by simp)
   by_cases h:Km p.V=0
   ·by_cases h1:Kx p.V p.Lines=0
    ·obtain ⟨T,e1,e2,e3,e4,_⟩:=Ahd h hl h1
     have hlen:(Au cmp2 (p.Lines.map prL)).length=p.Lines.length:=by rw [(Di _ _).length_eq,List.length_map]
     rw [e1,Ae,e2,Ae,jn_d]
     dsimp only
     rw [if_pos rfl,Abk (by dsimp only;omega) (by dsimp only;omega) (by dsimp only;omega),Ae]
     try dsimp only
     rw [if_neg (by simp),jn_d,if_pos rfl,e4,Ae,if_pos rfl,Adi,Ae]
    ·rw [Aip h hl h1,Ae,Aco hl h h1,Ae,jn_d]
     dsimp only
     rw [if_pos rfl,nil,Ae]
     try dsimp only
     rw [if_neg (by simp),jn_d,if_neg h1,Adi,Ae]
   ·rw [Aih h,Ae,Aec _ h,Ae,jn_d]
    dsimp only
    rw [if_pos rfl,nil,Ae]
    try dsimp only
    rw [if_neg (by simp),jn_d,if_neg h,Adi,Ae]
end
end Go.Proofs.YtebkcipolijfmaaGreat
/- What the arguments of a law are, read off the way a law's claim is told of them: lists, structs. -/
namespace Go.Proofs.YtebkcipolijfmaaGreat
open Go.ChangeShapes Go.WideShapes Go.ChangeAt Go.RowKit

theorem own2:ownKnob Tryz.prog.godebug=none:=by kernel_rfl
theorem Aob:laidOutB Tryz.prog=true:=by kernel_rfl
def rI64 (z:Int):Prop:=-9223372036854775808≤z∧z≤9223372036854775807
theorem Afu {cs:List Value} {o:Nat} (h:cs.length=o):cs.drop o=[]:=by rw [← h,List.drop_length]
theorem Qi {cs X R:List Value} {o k o':Nat} (h1:(cs.drop o).take k=X) (h2:cs.drop o'=R) (ho:o'=o+k):cs.drop o=X++R:=by
 subst ho;rw [← h1,← h2,← List.drop_drop,List.take_append_drop]
section
variable {H:Type} {enc:TypeId × Value→H} {w:World} {base:Nat} {spare:Nat→Bool} {held:Bool} {P:Program}
theorem As2 {t:TypeId} (ht:P.underlying t=some (.int .i64)) {fuel:Nat} {cs:List Value} {x:DataW H × List MemPlace} (h:DataW.trod enc P w base spare held fuel t cs=some x):∃ z:Int,cs=[.int .i64 z]∧rI64 z:=by
 obtain ⟨n,hc,_,hw⟩:=DataW.trod_int ht h
 refine ⟨n,hc,?_⟩
 have h1:IntKind.i64.min = -9223372036854775808:=rfl
 have h2:IntKind.i64.max=9223372036854775807:=rfl
 simp only [Lit.wf,Bool.and_eq_true,decide_eq_true_eq] at hw
 unfold rI64;omega
theorem Ahe {α:Type} {en:α→List Value} {okα:α→Prop} {t e:TypeId} {sz:Nat} (ht:P.underlying t=some (.slice e)) (hsz:P.cellsOf e=sz) (hp:0 < sz)
  (hel:∀ {fuel:Nat} {cs:List Value} {x:DataW H × List MemPlace},DataW.trod enc P w base spare held fuel e cs=some x→∃ v,cs=en v∧okα v)
  {fuel:Nat} {cs:List Value} {x:DataW H × List MemPlace} (h:DataW.trod enc P w base spare held fuel t cs=some x) :
  ∃ (v:List α) (A:Option Addr) (c:Nat),cs=[.slice A v.length c]∧Has [.old w] A v.length c sz en v∧∀ z∈v,okα z:=by
 rcases Go.Deep.open_slice ht h with ⟨rfl,_⟩ | ⟨a,len,cap,m,n,D,Pl,rfl,hb,hl,hm,hmm,_,hx⟩
 ·exact ⟨[],none,0,rfl,Has.nil,fun z hz=>by simp at hz⟩
 ·have hle:len≤m:=by rw [hmm];split <;> omega
  have key:∀ k,k≤len→∃ v:List α,v.length=k∧(∀ z∈v,okα z)∧∀ i (hi:i < v.length),w.cells? base (a.add (i*sz)) sz=some (en v[i]):=by
   intro k
   induction k with
   | zero=>intro _;exact ⟨[],rfl,fun z hz=>by simp at hz,fun i hi=>by simp at hi⟩
   | succ k ih =>
    intro hk
    obtain ⟨v,h1,h2,h3⟩:=ih (by omega)
    obtain ⟨cs',h4,h5⟩:=hx k (by omega)
    obtain ⟨z,rfl,hz⟩:=hel h5
    rw [hsz] at h4
    refine ⟨v++[z],by simp [h1],fun y hy=>?_,fun i hi=>?_⟩
    ·rcases List.mem_append.1 hy with hy | hy
     ·exact h2 y hy
     ·simp at hy;subst hy;exact hz
    ·simp at hi
     rcases Nat.lt_or_ge i v.length with hlt | hge
     ·rw [List.getElem_append_left hlt];exact h3 i hlt
     ·have:i=k:=by omega
      subst this
      rw [List.getElem_append_right hge]
      simp [h1];exact h4
  obtain ⟨v,h1,h2,h3⟩:=key len (Nat.le_refl _)
  subst h1
  have hesz:∀ z∈v,(en z).length=sz:=by
   intro z hz
   obtain ⟨i,hi,rfl⟩:=List.getElem_of_mem hz
   exact (World.cells?_some (h3 i hi)).2.1
  have hsl:Sl w (some a) v.length cap sz en v:=by
   refine ⟨rfl,hl,hm,hesz,fun hn=>?_⟩
   have hsp:a.spot=none:=by
    have h4:=(World.cells?_some (h3 0 hn)).2.2 0 hp
    have h5:(en v[0])[0]? = some ((en v[0])[0]'(by rw [hesz _ (List.getElem_mem hn)];exact hp)):=List.getElem?_eq_getElem _
    rw [h5] at h4
    simp only [Nat.zero_mul,Addr.add,if_true] at h4
    unfold World.cell? at h4
    split at h4
    ·split at h4
     ·cases h4
     ·rename_i hs;simpa using hs
    ·cases h4
   obtain ⟨b,o,sp⟩:=a
   have hsp:sp=none:=hsp
   subst hsp
   refine ⟨b,o,rfl,fun i hi j u hu=>?_⟩
   have hj:j < sz:=by rw [← hesz _ (List.getElem_mem hi)];exact (List.getElem?_eq_some_iff.1 hu).1
   have h4:=(World.cells?_some (h3 i hi)).2.2 j hj
   rw [hu,Addr.add_lit,Addr.add_lit] at h4
   exact h4
  exact ⟨v,some a,cap,rfl,hsl.has,h2⟩
end
theorem Auc (w:World):∀ e∈[Ent.old w],Ent.ok w e:=fun e he=>by simp at he;subst he;exact ⟨Below.refl _ _,Nat.le_refl _⟩
end Go.Proofs.YtebkcipolijfmaaGreat
