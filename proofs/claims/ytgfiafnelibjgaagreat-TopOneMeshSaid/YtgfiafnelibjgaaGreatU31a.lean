/- Walks of the program, with their plain functions: MeshInserts. -/
import Derived.Test.YtgfiafnelibjgaaGreatE4
import Derived.Test.YtgfiafnelibjgaaGreatFlow26
import Derived.Test.YtgfiafnelibjgaaGreatZ1
namespace Go.Proofs.YtgfiafnelibjgaaGreat
open Go Go.RowKit
theorem Xx:Fe Tryz.prog 25 0 0:=.mk Tryz.underlying25 rfl rfl (show Tryz.prog.info? 22=some Tryz.t22 from by kernel_rfl) (show Tryz.t22.size=1 from by kernel_rfl) rfl
instance:Iy Tryz.prog 25 0 0:=⟨Xx⟩
theorem Vl:Fe Tryz.prog 25 1 1:=.mk Tryz.underlying25 rfl rfl (show Tryz.prog.info? 23=some Tryz.t23 from by kernel_rfl) (show Tryz.t23.size=1 from by kernel_rfl) rfl
instance:Iy Tryz.prog 25 1 1:=⟨Vl⟩
theorem Asf  : Km Tryz.prog 43 [] [.int .i64 (0),.int .i64 (0),.int .i64 (0),.int .i64 (0)]:=fun w=>by kernel_rfl
instance:Nt Tryz.prog 43 [] [.int .i64 (0),.int .i64 (0),.int .i64 (0),.int .i64 (0)]:=⟨Asf⟩
theorem Ahr (x0:Int):Km Tryz.prog 43 [(0,.int .i64 x0)] [.int .i64 x0,.int .i64 (0),.int .i64 (0),.int .i64 (0)]:=fun w=>by kernel_rfl
instance (x0:Int):Nt Tryz.prog 43 [(0,.int .i64 x0)] [.int .i64 x0,.int .i64 (0),.int .i64 (0),.int .i64 (0)]:=⟨Ahr _⟩
theorem Ahs (x0:Int):Km Tryz.prog 43 [(1,.int .i64 x0)] [.int .i64 (0),.int .i64 x0,.int .i64 (0),.int .i64 (0)]:=fun w=>by kernel_rfl
instance (x0:Int):Nt Tryz.prog 43 [(1,.int .i64 x0)] [.int .i64 (0),.int .i64 x0,.int .i64 (0),.int .i64 (0)]:=⟨Ahs _⟩
theorem Acj (x0:Int) (x1:Int):Km Tryz.prog 43 [(0,.int .i64 x0),(1,.int .i64 x1)] [.int .i64 x0,.int .i64 x1,.int .i64 (0),.int .i64 (0)]:=fun w=>by kernel_rfl
instance (x0:Int) (x1:Int):Nt Tryz.prog 43 [(0,.int .i64 x0),(1,.int .i64 x1)] [.int .i64 x0,.int .i64 x1,.int .i64 (0),.int .i64 (0)]:=⟨Acj _ _⟩
theorem Fu (x0:Int) (x1:Int) (x2:Int) (x3:Int) (x4:Int) (x5:Int) (x6:Int) (x7:Int) (x8:Int) (x9:Int) (x10:Int) (x11:Int) (x12:Int) (x13:Int) (x14:Int) (x15:Int):Dn Tryz.prog 22 4 [(0,.agg #[.int .i64 x0,.int .i64 x1,.int .i64 x2,.int .i64 x3]),(1,.agg #[.int .i64 x4,.int .i64 x5,.int .i64 x6,.int .i64 x7]),(2,.agg #[.int .i64 x8,.int .i64 x9,.int .i64 x10,.int .i64 x11]),(3,.agg #[.int .i64 x12,.int .i64 x13,.int .i64 x14,.int .i64 x15])] 43 [.int .i64 x0,.int .i64 x1,.int .i64 x2,.int .i64 x3,.int .i64 x4,.int .i64 x5,.int .i64 x6,.int .i64 x7,.int .i64 x8,.int .i64 x9,.int .i64 x10,.int .i64 x11,.int .i64 x12,.int .i64 x13,.int .i64 x14,.int .i64 x15]:=fun w=>by kernel_rfl
instance (x0:Int) (x1:Int) (x2:Int) (x3:Int) (x4:Int) (x5:Int) (x6:Int) (x7:Int) (x8:Int) (x9:Int) (x10:Int) (x11:Int) (x12:Int) (x13:Int) (x14:Int) (x15:Int):Lv Tryz.prog 22 4 [(0,.agg #[.int .i64 x0,.int .i64 x1,.int .i64 x2,.int .i64 x3]),(1,.agg #[.int .i64 x4,.int .i64 x5,.int .i64 x6,.int .i64 x7]),(2,.agg #[.int .i64 x8,.int .i64 x9,.int .i64 x10,.int .i64 x11]),(3,.agg #[.int .i64 x12,.int .i64 x13,.int .i64 x14,.int .i64 x15])] 43 [.int .i64 x0,.int .i64 x1,.int .i64 x2,.int .i64 x3,.int .i64 x4,.int .i64 x5,.int .i64 x6,.int .i64 x7,.int .i64 x8,.int .i64 x9,.int .i64 x10,.int .i64 x11,.int .i64 x12,.int .i64 x13,.int .i64 x14,.int .i64 x15]:=⟨Fu _ _ _ _ _ _ _ _ _ _ _ _ _ _ _ _⟩
theorem Arc:Na Tryz.prog 25 2:=.mk Tryz.underlying25 rfl (show Tryz.prog.info? 25=some Tryz.t25 from by kernel_rfl) (by kernel_rfl)
instance:AggI Tryz.prog 25 2:=⟨Arc⟩
structure By where
 V:List Ab
 Lines:List Aa
noncomputable def Kr (p0:By) (p1:Int) (p2:Int):Option Bool :=
 jn (fun (s2:Bool) =>
 some s2)
 (fun j2=>if p1 < ((((p0.V).length:Nat):Int)) then (j2 true)
 else (j2 (decide (p2 < ((((p0.Lines).length:Nat):Int))))))
set_option maxRecDepth 100000 in
instance Xy (p0:By) (p1:Int) (p2:Int):Con (Kr p0 p1 p2) Tryz.prog 9 (fun K vs=>∃ (A0_0:Option Addr) (c0_0:Nat) (A0_1:Option Addr) (c0_1:Nat),vs=[.agg #[.slice (A0_0) ((p0.V).length) (c0_0),.slice (A0_1) ((p0.Lines).length) (c0_1)],.int .i64 (p1),.int .i64 (p2)]∧Has K A0_0 (p0.V).length c0_0 4 Ad (p0.V)∧Has K A0_1 (p0.Lines).length c0_1 2 Af (p0.Lines)∧True) (fun _ r=>fun v Ln=>v = .bool (r)∧Ln=[]∧True):=⟨by
 rintro K _ r ⟨A0_0,c0_0,A0_1,c0_1,rfl,ha0,ha1,-⟩ hx w hK;replace ha0:=Has.lo ha0 hK;replace ha1:=Has.lo ha1 hK;unfold Kr at hx;refine CtS Tryz.ntmps9 Tryz.results9 ?_;exact au⟩
theorem Wu (p0:By) (p1:Int) (p2:Int) {K:List Ent} {A0_0:Option Addr} {c0_0:Nat} {A0_1:Option Addr} {c0_1:Nat} (ha0:Has K A0_0 (p0.V).length c0_0 4 Ad (p0.V)) (ha1:Has K A0_1 (p0.Lines).length c0_1 2 Af (p0.Lines)) {r:Bool} (hx:Kr p0 p1 p2=some r) (w:World) (hK:∀ e∈K,Ent.ok w e):CtL Tryz.prog 9 [.agg #[.slice (A0_0) ((p0.V).length) (c0_0),.slice (A0_1) ((p0.Lines).length) (c0_1)],.int .i64 (p1),.int .i64 (p2)] w fun v Ln=>v = .bool (r)∧Ln=[]∧True:=(Xy p0 p1 p2).h K _ _ ⟨_,_,_,_,rfl,ha0,ha1,trivial⟩ hx w hK
end Go.Proofs.YtgfiafnelibjgaaGreat
/- Meshes with lines: what is built twice is the same; the square; MeshBuilds. -/
namespace Go.Proofs.YtgfiafnelibjgaaGreat
open Go Go.RowKit
section
variable {v:List Ab} {l:List Aa} {m:Mp} {T:List Aj}
theorem Fn:Iz v l=0↔Lin1 v l∧Lin2 v l:=by
 unfold Iz
 by_cases c1:Lin1 v l
 ·rw [if_pos c1]
  by_cases c2:Lin2 v l
  ·rw [if_pos c2];exact ⟨fun _=>⟨c1,c2⟩,fun _=>rfl⟩
  ·rw [if_neg c2];exact ⟨fun h=>(by cases h),fun h=>absurd h.2 c2⟩
 ·rw [if_neg c1];exact ⟨fun h=>(by cases h),fun h=>absurd h.1 c1⟩
theorem Asg {s:Aa} (h:s.a0≤s.a1):prL s=s:=by
 obtain ⟨x,y⟩:=s
 unfold prL pr2
 dsimp only at h ⊢
 rw [Int.min_eq_left h,Int.max_eq_right h]
theorem Ajg {L:List Aa} (h:∀ s∈L,s.a0≤s.a1):L.map prL=L:=by
 induction L with
 | nil=>rfl
 | cons x r ih=>rw [List.map_cons,Asg (h x (by simp)),ih (fun s hs=>h s (by simp [hs]))]
/-- The lines of a mesh are lines of an input, in order. -/
theorem Up (hv:Cg v) (hn:v.length≤1024) (h:Iz v l=0):Iz v (Av cmp2 (l.map prL))=0∧Av cmp2 ((Av cmp2 (l.map prL)).map prL)=Av cmp2 (l.map prL)∧(Av cmp2 (l.map prL)).length=l.length:=by
 obtain ⟨h1,h2⟩:=Fn.1 h
 have hL:=Pb hv h1 h2
 have hm:=Ajg (fun s hs=>(hL.ok s hs).2)
 have sm:∀ s∈Av cmp2 (l.map prL),Ix s:=fun s hs=>by
  obtain ⟨⟨k1,k2,_⟩,_⟩:=hL.ok s hs
  exact Vj hn k1 k2
 have sm':∀ s∈l.map prL,Ix s:=fun s hs=>sm s (Dh.2 hs)
 refine ⟨Fn.2 ⟨⟨fun s hs=>(hL.ok s hs).1,by rw [hm];exact hL.nd⟩,fun s hs k hk g=>?_,?_⟩,?_,by rw [(Eo _ _).length_eq,List.length_map]⟩
 ·exact hL.free s hs k hk (fun e=>g.2.1 (by rw [e];exact ⟨rfl,rfl⟩)) (fun e=>g.2.2 (by rw [e];exact ⟨rfl,rfl⟩)) g.1
 ·exact List.Pairwise.imp_of_mem (fun {a b} ha hb hne=>hL.apart a ha b hb hne) hL.nd
 ·rw [hm]
  exact Vi tot2 (fun s hs=>sm s (Dh.1 hs)) (Jm tot2 sm) (Jm tot2 sm') (Eo _ _)
theorem Ak6 {T:List Aj} (h:T.length≤100000000):Cz T T=some true:=by
 have e:lfix (Cc T T) 0=some (.inl ()):=by
  rw [Qo (β:=Unit) (γ:=Bool) T (fun _=>true) (Cc T T) () false (fun j hj=>?_) ?_]
  ·simp
  ·unfold Cc
   rw [if_neg (by omega)]
  ·unfold Cc
   rw [if_pos (by omega),Bg hj,Ai,Ai,if_pos (by simp),if_pos rfl,Bj (by omega)]
 unfold Cz
 rw [if_pos rfl,jn_d,e,Ai]
theorem Ak7 {L:List Aa} (h:L.length≤100000000):Da L L=some true:=by
 have e:lfix (Cd L L) 0=some (.inl ()):=by
  rw [Qo (β:=Unit) (γ:=Bool) L (fun _=>true) (Cd L L) () false (fun j hj=>?_) ?_]
  ·simp
  ·unfold Cd
   rw [if_neg (by omega)]
  ·unfold Cd
   rw [if_pos (by omega),Bg hj,Ai,Ai,if_pos (by simp),if_pos rfl,Bj (by omega)]
 unfold Da
 rw [if_pos rfl,jn_d,e,Ai]
theorem Agh {m:Ax} (h1:m.V.length≤100000000) (h2:m.T.length≤100000000) (h3:m.Lines.length≤100000000):Dk m m=some true:=by
 have e1:lfix (Ee m m) 0=some (.inl ()):=by
  rw [Qo (β:=Unit) (γ:=Bool) m.V (fun _=>true) (Ee m m) () false (fun j hj=>?_) ?_]
  ·simp
  ·unfold Ee
   rw [if_neg (by omega)]
  ·unfold Ee
   rw [if_pos (by omega),Bg hj,Ai,Ai,if_pos (by simp),if_pos rfl,Bj (by omega)]
 have e2:lfix (Dr m m) 0=some (.inl ()):=by
  rw [Qo (β:=Unit) (γ:=Bool) m.T (fun _=>true) (Dr m m) () false (fun j hj=>?_) ?_]
  ·simp
  ·unfold Dr
   rw [if_neg (by omega)]
  ·unfold Dr
   rw [if_pos (by omega),Bg hj,Ai,Ai,if_pos (by simp),if_pos rfl,Bj (by omega)]
 have e3:lfix (Ds m m) 0=some (.inl ()):=by
  rw [Qo (β:=Unit) (γ:=Bool) m.Lines (fun _=>true) (Ds m m) () false (fun j hj=>?_) ?_]
  ·simp
  ·unfold Ds
   rw [if_neg (by omega)]
  ·unfold Ds
   rw [if_pos (by omega),Bg hj,Ai,Ai,if_pos (by simp),if_pos rfl,Bj (by omega)]
 unfold Dk
 rw [jn_d,if_pos rfl,if_pos rfl,decide_eq_true rfl]
 dsimp only
 rw [if_neg (by simp),jn_d,e1,Ai]
 dsimp only
 rw [jn_d,e2,Ai]
 dsimp only
 rw [jn_d,e3,Ai]
theorem Tt.len (hn:v.length≤1024) {L:List Aa} (hM:Mesh v L m) (h:Tt v m T):T.length≤1048576:=by
 have hsq:=Xv hn
 have:=Aax hM.tri (fun t ht=>(h.mem t).1 ht) h.nd
 omega
/-! ### the square -/
theorem Wv:Iz v []=0:=Fn.2 ⟨⟨fun s hs=>(by cases hs),List.Pairwise.nil⟩,fun s hs=>(by cases hs),List.Pairwise.nil⟩
theorem Aht:Bw sqv []=some (⟨sqv,[⟨0,1,2⟩,⟨1,3,2⟩],[]⟩,0):=by
 obtain ⟨_,_,hv⟩:=Dy Arl
 have hE:=Fn.1 (Wv (v:=sqv))
 obtain ⟨T,h1,h2⟩:=Aau Arl (l:=[]) (by simp) hE.1 hE.2
 have e:Av cmp2 (([]:List Aa).map prL)=[]:=by simp [Av]
 rw [e] at h1 h2
 rcases h2 with ⟨f,_⟩ | ⟨_,m,hM,rfl⟩
 ·have:=f 0 1 2 (in4.2 (by simp)) (in4.2 (by simp)) (in4.2 (by simp))
  exact absurd this (by decide)
 ·have hd:=Af7 hv hM.map hM.tri hM.cov (fun i j k l hk hl=>(hM.leg i j k l hk hl).resolve_left (by simp)) hM.ne
  rw [h1,(Ap5 hM.map hd).unique Ao3]
end
end Go.Proofs.YtgfiafnelibjgaaGreat
/- Inserting and removing: the program's loop over the lines. -/
namespace Go.Proofs.YtgfiafnelibjgaaGreat
open Go Go.RowKit
section
variable {v:List Ab} {l L:List Aa} {T:List Aj}
/-- An index behind the one that goes away. -/
def decI (i x:Int):Int:=if i < x then x-1 else x
def decS (i:Int) (s:Aa):Aa:=⟨decI i s.a0,decI i s.a1⟩
def inI (i:Int) (s:Aa):Prop:=s.a0=i∨s.a1=i
instance (i:Int) (s:Aa):Decidable (inI i s):=by unfold inI;infer_instance
theorem Agi {i a:Int} (h0:0≤a) (h1:a≤1000000000) (hi:0≤i):i < a→w64 (a-1)=a-1:=fun h=>Dl (by omega) (by omega)
theorem Ani {i a b:Int} (hi:0≤i) (ha:0≤a∧a≤1000000000) (hb:0≤b∧b≤1000000000):lfix (Fc i) (a,b,0)=some (decI i a,decI i b):=by
 refine Tn (fun k=>if k=0 then (a,b,0) else if k=1 then (decI i a,b,1) else (decI i a,decI i b,2)) (decI i a,decI i b) 2 (fun k hk=>?_) ?_
 ·have:k=0∨k=1:=by omega
  rcases this with rfl | rfl
  ·show Fc i (a,b,0)=some (.inl (decI i a,b,1))
   unfold Fc
   dsimp only
   rw [if_pos (by omega),jn_d,show idx [a,b] (0:Int)=some a from rfl,Ai]
   by_cases c:i < a
   ·rw [if_pos c,Ai,Ai,Agi ha.1 ha.2 hi c]
    unfold ifx decI
    rw [if_pos rfl,if_neg (by omega),if_pos c]
    rfl
   ·rw [if_neg c]
    unfold decI
    rw [if_neg c]
    rfl
  ·show Fc i (decI i a,b,1)=some (.inl (decI i a,decI i b,2))
   unfold Fc
   dsimp only
   rw [if_pos (by omega),jn_d,show idx [decI i a,b] (1:Int)=some b from rfl,Ai]
   by_cases c:i < b
   ·rw [if_pos c,Ai,Ai,Agi hb.1 hb.2 hi c]
    unfold ifx
    rw [if_pos rfl,if_neg (by omega)]
    unfold decI
    rw [if_pos c]
    rfl
   ·rw [if_neg c]
    unfold decI
    rw [if_neg c]
    rfl
 ·show Fc i (decI i a,decI i b,2)=some (.inr (decI i a,decI i b))
  unfold Fc
  dsimp only
  rw [if_neg (by omega)]
/-- What the loop over the lines gives. -/
def RmL (i:Int) (L:List Aa) (t:Sum (List Aa) (Ax × Int)):Prop:=((∀ s∈L,¬ inI i s)∧t = .inl (L.map (decS i)))∨((∃ s∈L,inI i s)∧t = .inr (⟨[],[],[]⟩,62))
theorem RmL.unique {i:Int} {L:List Aa} {t u} (h:RmL i L t) (k:RmL i L u):t=u:=by
 rcases h with ⟨h,rfl⟩ | ⟨⟨s,h1,h2⟩,rfl⟩ <;> rcases k with ⟨k,rfl⟩ | ⟨⟨s',k1,k2⟩,rfl⟩
 ·rfl
 ·exact absurd k2 (h s' k1)
 ·exact absurd h2 (k s h1)
 ·rfl
def smL (L:List Aa):Prop:=∀ s∈L,(0≤s.a0∧s.a0≤1000000000)∧(0≤s.a1∧s.a1≤1000000000)
theorem Aqb {p:Ax} {i:Int} (hi:0≤i) (hl:p.Lines.length≤1000000) (hs:smL p.Lines):∃ t,lfix (Nj p i) ([],0)=some t∧RmL i p.Lines t:=by
 refine Dw (fun s=>p.Lines.length-s.2.toNat)
  (fun s=>∃ k:Nat,s=((p.Lines.take k).map (decS i),(k:Int))∧k≤p.Lines.length∧∀ s∈p.Lines.take k,¬ inI i s)
  (RmL i p.Lines) ?_ ([],0) ⟨0,by simp,by omega,by simp⟩
 rintro s ⟨k,rfl,hk,hno⟩
 unfold Nj
 dsimp only
 by_cases hlt:k < p.Lines.length
 ·rw [if_pos (by omega),Bg hlt,Ai,jn_d]
  have hm:p.Lines[k]∈p.Lines:=List.getElem_mem hlt
  obtain ⟨g1,g2⟩:=hs _ hm
  by_cases c:inI i p.Lines[k]
  ·right
   refine ⟨_,?_,.inr ⟨⟨_,hm,c⟩,rfl⟩⟩
   rcases c with c | c
   ·rw [if_pos c]
    dsimp only
    rw [if_pos rfl]
   ·by_cases c0:p.Lines[k].a0=i
    ·rw [if_pos c0]
     dsimp only
     rw [if_pos rfl]
    ·rw [if_neg c0,decide_eq_true c]
     dsimp only
     rw [if_pos rfl]
  ·left
   refine ⟨((p.Lines.take (k+1)).map (decS i),((k+1:Nat):Int)),?_,⟨k+1,rfl,by omega,fun s hs'=>?_⟩,by simp;omega⟩
   ·rw [if_neg (fun e=>c (.inl e)),decide_eq_false (fun e=>c (.inr e))]
    dsimp only
    rw [if_neg (by simp),jn_d,Ani hi g1 g2,Ai]
    dsimp only
    rw [gd_t (by simp;omega),Bj (by omega),Bt hlt,List.map_append]
    rfl
   ·rw [Bt hlt] at hs'
    rcases List.mem_append.1 hs' with hs' | hs'
    ·exact hno s hs'
    ·rw [List.mem_singleton] at hs';subst hs';exact c
 ·obtain rfl:k=p.Lines.length:=by omega
  right
  rw [if_neg (by omega)]
  rw [List.take_length] at hno ⊢
  exact ⟨_,rfl,.inl ⟨hno,rfl⟩⟩
end
end Go.Proofs.YtgfiafnelibjgaaGreat
