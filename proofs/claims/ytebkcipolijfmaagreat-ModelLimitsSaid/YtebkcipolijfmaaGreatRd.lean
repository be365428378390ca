/- The statement ModelLimits, plainly. -/
import Derived.Test.YtebkcipolijfmaaGreatUA
import Derived.Test.YtebkcipolijfmaaGreatUB
import Derived.Test.YtebkcipolijfmaaGreatFlow3
import Derived.Test.YtebkcipolijfmaaGreatRows
import Derived.ProofKit
import Derived.OpenShut
import Derived.ShutString
import Derived.ChangeOld
import Derived.Below
import Derived.Carry
import Derived.ChangeArms
import Derived.Deep.Slices
namespace Go.Proofs.YtebkcipolijfmaaGreat
open Go Go.RowKit
/-! ### mesh.Check of any mesh -/
theorem Aq5 (l r:List Aq) (hl:l.length≤1000000000):∃ b,Di l r=some b∧(b=true→l=r):=by
 haveI:DecidableEq Aq:=fun _ _=>Classical.propDecidable _
 unfold Di
 by_cases h:l.length=r.length
 ·rw [if_pos (by omega),jn_d,Xn (β:=Unit) (γ:=Bool) l.length hl (fun k=>!decide (l.getD k ⟨0,0,0⟩=r.getD k ⟨0,0,0⟩)) (Cy l r) () false (fun k hk=>?_) ?_,Ah]
  ·by_cases h1:((List.range l.length).any fun k=>!decide (l.getD k ⟨0,0,0⟩=r.getD k ⟨0,0,0⟩))=true
   ·rw [if_pos h1]
    exact ⟨false,rfl,fun g=>by cases g⟩
   ·rw [if_neg h1]
    refine ⟨true,rfl,fun _=>List.ext_getElem h fun k h2 h3=>Classical.byContradiction fun g=>h1 ?_⟩
    rw [List.any_eq_true]
    exact ⟨k,List.mem_range.2 h2,by simp [h2,h3,g]⟩
  ·unfold Cy
   rw [if_neg (by omega)]
  ·unfold Cy
   have hk':k < r.length:=by omega
   rw [if_pos (by omega),Cf hk,Ah,Cf hk',Ah,Cq (by omega)]
   have e1:l.getD k ⟨0,0,0⟩=l[k]:=by simp [hk]
   have e2:r.getD k ⟨0,0,0⟩=r[k]:=by simp [hk']
   rw [e1,e2]
   generalize l[k]=x
   generalize r[k]=y
   obtain ⟨x0,x1,x2⟩:=x
   obtain ⟨y0,y1,y2⟩:=y
   simp only [Aq.mk.injEq]
   by_cases g:x0=y0∧x1=y1∧x2=y2
   ·rw [if_pos (by obtain ⟨a,b,c⟩:=g;simp [a,b,c]),if_neg (by simp [g])]
   ·rw [if_neg (by simp;omega),if_pos (by simp;omega)]
 ·rw [if_neg (by omega)]
  exact ⟨_,rfl,fun h=>by cases h⟩
theorem Aq6 (l r:List Aa) (hl:l.length≤1000000000):∃ b,Dj l r=some b∧(b=true→l=r):=by
 haveI:DecidableEq Aa:=fun _ _=>Classical.propDecidable _
 unfold Dj
 by_cases h:l.length=r.length
 ·rw [if_pos (by omega),jn_d,Xn (β:=Unit) (γ:=Bool) l.length hl (fun k=>!decide (l.getD k ⟨0,0⟩=r.getD k ⟨0,0⟩)) (Cz l r) () false (fun k hk=>?_) ?_,Ah]
  ·by_cases h1:((List.range l.length).any fun k=>!decide (l.getD k ⟨0,0⟩=r.getD k ⟨0,0⟩))=true
   ·rw [if_pos h1]
    exact ⟨false,rfl,fun g=>by cases g⟩
   ·rw [if_neg h1]
    refine ⟨true,rfl,fun _=>List.ext_getElem h fun k h2 h3=>Classical.byContradiction fun g=>h1 ?_⟩
    rw [List.any_eq_true]
    exact ⟨k,List.mem_range.2 h2,by simp [h2,h3,g]⟩
  ·unfold Cz
   rw [if_neg (by omega)]
  ·unfold Cz
   have hk':k < r.length:=by omega
   rw [if_pos (by omega),Cf hk,Ah,Cf hk',Ah,Cq (by omega)]
   have e1:l.getD k ⟨0,0⟩=l[k]:=by simp [hk]
   have e2:r.getD k ⟨0,0⟩=r[k]:=by simp [hk']
   rw [e1,e2]
   generalize l[k]=x
   generalize r[k]=y
   obtain ⟨x0,x1⟩:=x
   obtain ⟨y0,y1⟩:=y
   simp only [Aa.mk.injEq]
   by_cases g:x0=y0∧x1=y1
   ·rw [if_pos (by obtain ⟨a,b⟩:=g;simp [a,b]),if_neg (by simp [g])]
   ·rw [if_neg (by simp;omega),if_pos (by simp;omega)]
 ·rw [if_neg (by omega)]
  exact ⟨_,rfl,fun h=>by cases h⟩
theorem Aq7 {v:List Ab} {L:List Aa} {m:Mp} (hn:v.length≤1024) (hok:∀ x∈v,Oy x) (h:Mesh v L m):Msh ⟨v,Bg cmp3 (m.flatMap triF),L⟩:=by
 have hf:∀ q,(triF q).length≤1:=fun q=>by unfold triF;split <;> simp
 have hl1:=Ew hf m
 have hl2:=h.map.len
 have hl3:=Ys hn
 refine ⟨hn,hok,?_,fun t ht=>?_⟩
 ·show (Bg cmp3 (m.flatMap triF)).length≤_
  rw [(Ff _ _).length_eq]
  omega
 ·rw [Ki,List.mem_flatMap] at ht
  obtain ⟨⟨⟨a,b⟩,c⟩,hq,ht⟩:=ht
  unfold triF at ht
  split at ht
  ·rw [List.mem_singleton] at ht
   subst ht
   exact h.tri.ccw a b c (Ob h.map.ok hq)
  ·cases ht
theorem Aku {v:List Ab} (lines:List Aa) (h:Vu v≠0):Kj v lines=some (⟨[],[],[]⟩,Vu v):=by
 unfold Kj
 rw [Xq,Ah,if_neg h]
/-- What mesh.Check returns of any mesh. -/
theorem Aoi (m:Bu) (hl:m.Lines.length≤1000000):∃ e,Nf m=some e∧(e=0∨e=64)∧(e=0→Msh m):=by
 unfold Nf
 by_cases h:Vu m.V=0
 ·obtain ⟨hn,hok,hv⟩:=Xp h
  by_cases h1:Vl m.V m.Lines=0
  ·have l1:Lin1 m.V m.Lines:=Classical.byContradiction fun g=>by unfold Vl at h1;rw [if_neg g] at h1;omega
   have l2:Lin2 m.V m.Lines:=Classical.byContradiction fun g=>by unfold Vl at h1;rw [if_pos l1,if_neg g] at h1;omega
   obtain ⟨T,hb,hT⟩:=Ajm h hl l1 l2
   have hm:∀ L,Msh ⟨m.V,T,L⟩:=fun L=>by
    rcases hT with ⟨_,rfl⟩ | ⟨_,mp,hM,rfl⟩
    ·exact ⟨hn,hok,by simp,fun t ht=>by cases ht⟩
    ·have:=Aq7 hn hok hM
     exact ⟨this.n,this.ok,this.len,this.t⟩
   have hTl:T.length≤1000000000:=by
    rcases hT with ⟨_,rfl⟩ | ⟨_,mp,hM,rfl⟩
    ·simp
    ·have hf:∀ q,(triF q).length≤1:=fun q=>by unfold triF;split <;> simp
     have hl1:=Ew hf mp
     have hl2:=hM.map.len
     have hl3:=Ys hn
     rw [(Ff _ _).length_eq]
     omega
   obtain ⟨b1,q1,q2⟩:=Aq5 T m.T hTl
   obtain ⟨b2,q3,q4⟩:=Aq6 (Bg cmp2 (m.Lines.map prL)) m.Lines (by rw [(Ff _ _).length_eq];simp;omega)
   rw [hb,Ah,jn_d,if_pos rfl]
   dsimp only
   rw [q1,Ah]
   cases b1 with
   | false=>exact ⟨64,by simp,.inr rfl,fun g=>by cases g⟩
   | true =>
    rw [if_pos rfl,q3,Ah]
    cases b2 with
    | false=>exact ⟨64,by simp,.inr rfl,fun g=>by cases g⟩
    | true =>
     refine ⟨0,by simp,.inl rfl,fun _=>?_⟩
     have e:=q2 rfl
     have:=hm m.Lines
     rw [e] at this
     exact this
  ·rw [Aky h hl h1,Ah,jn_d]
   dsimp only
   rw [if_neg h1]
   exact ⟨64,by simp,.inr rfl,fun g=>by cases g⟩
 ·rw [Aku _ h,Ah,jn_d]
  dsimp only
  rw [if_neg h]
  exact ⟨64,by simp,.inr rfl,fun g=>by cases g⟩
/-! ### model.Render -/
def Am1 (a b:Ac):Int:=(a.X-b.X)*(a.X-b.X)+(a.Y-b.Y)*(a.Y-b.Y)
def Acu (v:List Ab) (t:Aq) (limit:Int):Bool:=decide (limit*limit < Am1 (plV v t.a0) (plV v t.a1)∨limit*limit < Am1 (plV v t.a1) (plV v t.a2)∨limit*limit < Am1 (plV v t.a2) (plV v t.a0))
def Sr (m:Bu) (at_:Ac) (limit:Int):Az:=match locT m.V m.T at_ with
 | none=>⟨true,⟨0,0⟩⟩
 | some i=>match idx m.T (i:Int) with
  | none=>⟨true,⟨0,0⟩⟩
  | some t=>if Acu m.V t limit=true then ⟨true,⟨0,0⟩⟩ else ⟨false,bndT m.V at_ t⟩
theorem Am2 {a b:Int} (h0:0≤a) (h:a≤b):a*a≤b*b:=Int.mul_le_mul h h h0 (by omega)
theorem Aoj (m:Bu) (at_:Ac) {a b:Int} (h0:0≤a) (h:a≤b) (hv:(Sr m at_ a).Void=false):Sr m at_ b=Sr m at_ a:=by
 have hs:=Am2 h0 h
 unfold Sr at *
 revert hv
 cases locT m.V m.T at_ with
 | none=>intro _;rfl
 | some i =>
  dsimp only
  cases idx m.T (i:Int) with
  | none=>intro _;rfl
  | some t =>
   dsimp only
   intro hv
   by_cases c:Acu m.V t a=true
   ·rw [if_pos c] at hv;cases hv
   ·have c2:¬ Acu m.V t b=true:=by
     unfold Acu at *
     rw [decide_eq_true_eq] at *
     omega
    rw [if_neg c,if_neg c2]
section
variable {m:Bu} (h:Msh m)
include h
theorem Ats {i:Nat} (hi:i < m.T.length) {limit:Int} (l0:0≤limit) (l1:limit≤1073741824):Nn m (i:Int) limit=some (Acu m.V m.T[i] limit):=by
 obtain ⟨h0,h1,h2,_⟩:=h.t _ (List.getElem_mem hi)
 have q0:=(Vr h.ok h0).1
 have q1:=(Vr h.ok h1).1
 have q2:=(Vr h.ok h2).1
 have e01:=Ab2 q0 q1
 have e12:=Ab2 q1 q2
 have e20:=Ab2 q2 q0
 have hsq:=Am2 l0 l1
 have hsq0:=Int.mul_nonneg l0 l0
 unfold Nn Acu Am1
 rw [Zy h hi,Ah]
 dsimp only
 rw [show Fa ⟨(plV m.V m.T[i].a0).X,(plV m.V m.T[i].a0).Y⟩ ⟨(plV m.V m.T[i].a1).X,(plV m.V m.T[i].a1).Y⟩=_ from e01.1,Ah,Bs (by omega) (by omega),
  show Fa ⟨(plV m.V m.T[i].a1).X,(plV m.V m.T[i].a1).Y⟩ ⟨(plV m.V m.T[i].a2).X,(plV m.V m.T[i].a2).Y⟩=_ from e12.1,Ah,
  show Fa ⟨(plV m.V m.T[i].a2).X,(plV m.V m.T[i].a2).Y⟩ ⟨(plV m.V m.T[i].a0).X,(plV m.V m.T[i].a0).Y⟩=_ from e20.1,Ah]
 split
 ·rename_i c;rw [decide_eq_true (.inl c)]
 ·rename_i c
  split
  ·rename_i c2;rw [decide_eq_true (.inr (.inl c2))]
  ·rename_i c2
   split
   ·rename_i c3;rw [decide_eq_true (.inr (.inr c3))]
   ·rename_i c3
    rw [decide_eq_false]
    rintro (g | g | g)
    ·exact c g
    ·exact c2 g
    ·exact c3 g
def Ss (f:Bj) (i:Int):Ac:=⟨f.X0+i % f.NX*f.Step,f.Y0+i / f.NX*f.Step⟩
omit h in
theorem Att {f:Bj} (hf:Fi f=true) {i:Int} (h0:0≤i) (h1:i < f.NX*f.NY):okP (Ss f i):=by
 have hg:=Ad0 hf
 simp only [Fi,Kx,Bool.and_eq_true,decide_eq_true_eq] at hf
 obtain ⟨⟨_,hx⟩,hy⟩:=hf
 obtain ⟨hst,hnx,hny,hx0,hy0⟩:=hg
 have m0:0≤i % f.NX∧i % f.NX≤f.NX-1:=⟨Int.emod_nonneg _ (by omega),by have:=Int.emod_lt_of_pos i (show 0 < f.NX by omega);omega⟩
 have d0:0≤i / f.NX∧i / f.NX≤f.NY-1:=⟨Int.ediv_nonneg h0 (by omega),by
  have:=Int.ediv_lt_of_lt_mul (show 0 < f.NX by omega) (show i < f.NY*f.NX by rw [Int.mul_comm];exact h1)
  omega⟩
 have a1:=Int.mul_nonneg m0.1 (show 0≤f.Step by omega)
 have a2:=Int.mul_le_mul_of_nonneg_right m0.2 (show 0≤f.Step by omega)
 have a3:=Int.mul_nonneg d0.1 (show 0≤f.Step by omega)
 have a4:=Int.mul_le_mul_of_nonneg_right d0.2 (show 0≤f.Step by omega)
 unfold okP Ss
 dsimp only
 generalize i % f.NX*f.Step=x at *
 generalize i / f.NX*f.Step=y at *
 generalize (f.NX-1)*f.Step=X at *
 generalize (f.NY-1)*f.Step=Y at *
 omega
theorem Age (hc:Nf m=some 0) {f:Bj} (hf:Fi f=true) {limit:Int} (l0:0≤limit) (l1:limit≤1073741824) :
  Id m f limit=some (⟨f,(List.range (f.NX*f.NY).toNat).map fun (k:Nat)=>Sr m (Ss f (k:Int)) limit⟩,0):=by
 obtain ⟨p1,p2,p3⟩:=Uz (g:=⟨f,[]⟩) hf
 dsimp only at p1 p2 p3
 have L:lfix (Jp f m limit) ([],0)=some ((List.range (f.NX*f.NY).toNat).map fun (k:Nat)=>Sr m (Ss f (k:Int)) limit):=by
  refine Ae0 (f.NX*f.NY).toNat (fun (k:Nat)=>Sr m (Ss f (k:Int)) limit) (Jp f m limit) (fun j hj acc hacc=>?_) (fun acc hacc=>?_)
  ·have hok:=Att hf (i:=(j:Int)) (by omega) (by omega)
   unfold Jp
   dsimp only
   rw [p1,if_pos (by omega),Al6 (Ad0 hf) (by omega) (by omega),Ah,jn_d]
   show (bnd (Je m (Ss f (j:Int))) _)=_
   rw [Aou h hok,Ah,jn_d,Cq (by omega)]
   unfold Sr
   cases hl:locT m.V m.T (Ss f (j:Int)) with
   | none =>
    dsimp only
    rw [if_neg (by omega)]
    try dsimp only
    rw [if_neg (by simp),gd_t (by omega)]
   | some i =>
    have hl':=hl
    unfold locT at hl'
    obtain ⟨hi,hcv,_⟩:=List.findIdx?_eq_some_iff_getElem.1 hl'
    have h0:0≤((i:Nat):Int):=by omega
    dsimp only
    rw [if_pos h0,Ats h hi l0 l1,Ah,Cf hi]
    dsimp only
    by_cases c:Acu m.V m.T[i] limit=true
    ·rw [if_neg (by rw [c];simp),if_pos c,gd_t (by omega)]
    ·have c':Acu m.V m.T[i] limit=false:=by simpa using c
     rw [if_pos (by rw [c'];rfl),if_neg c,show Jf m (i:Int) ⟨f.X0+(j:Int) % f.NX*f.Step,f.Y0+(j:Int) / f.NX*f.Step⟩=_ from Aov h hok hi hcv,Ah]
     try dsimp only
     rw [gd_t (by omega)]
     try rfl
  ·unfold Jp
   dsimp only
   rw [p1,if_neg (by omega)]
 unfold Id
 rw [hc,Ah,if_pos rfl,Wm,Ah,if_pos hf,Xv,Ah,if_pos (by simp;omega),jn_d,L,Ah]
end
theorem Aew {m:Bu} (hc:Nf m=some 64) (f:Bj) (limit:Int):Id m f limit=some (⟨⟨0,0,0,0,0⟩,[]⟩,64):=by
 unfold Id
 rw [hc,Ah,if_neg (by decide)]
theorem Am3 {x:Int} (h0:0≤x) (h1:x≤4294967295):0≤Int.tmod (w64 x) 1073741824∧Int.tmod (w64 x) 1073741824≤1073741824:=by
 rw [Bs (by omega) (by omega),Int.tmod_eq_emod_of_nonneg h0]
 omega
theorem Aex (p:Ei) (hL:0≤p.Low∧p.Low≤4294967295) (hH:0≤p.High∧p.High≤4294967295):Fn p=some true:=by
 have fin:(bnd Ef fun r29=>some r29)=some true:=by rw [Aix,Ah]
 unfold Fn
 rw [jn_d,jn_d]
 by_cases c1:(12:Int) < ((p.M.V.length:Nat):Int)
 ·rw [if_pos c1];exact fin
 rw [if_neg c1]
 by_cases c2:(40:Int) < ((p.M.T.length:Nat):Int)
 ·rw [if_pos c2];exact fin
 rw [if_neg c2]
 by_cases c3:(20:Int) < ((p.M.Lines.length:Nat):Int)
 ·rw [if_pos c3];exact fin
 rw [if_neg c3,Aal,Ah]
 by_cases c40:¬ Fi p.F=true
 ·rw [if_neg c40];exact fin
 have c4:=Decidable.not_not.1 c40
 obtain ⟨p1,p2,p3⟩:=Uz (g:=⟨p.F,[]⟩) c4
 dsimp only at p1 p2 p3
 rw [if_pos c4,p1]
 by_cases c5:(40:Int) < p.F.NX*p.F.NY
 ·rw [decide_eq_true c5];exact fin
 rw [decide_eq_false c5]
 dsimp only
 rw [if_neg (by simp)]
 obtain ⟨a0,a1⟩:=Am3 hL.1 hL.2
 obtain ⟨b0,b1⟩:=Am3 hH.1 hH.2
 generalize Int.tmod (w64 p.Low) 1073741824=x at *
 generalize Int.tmod (w64 p.High) 1073741824=y at *
 obtain ⟨e,he,h64,hmsh⟩:=Aoi p.M (by omega)
 rcases h64 with rfl | rfl
 ·have hm:=hmsh rfl
  rw [Age hm he c4 (limit:=min x y) (by omega) (by omega),Ah,Age hm he c4 (limit:=max x y) (by omega) (by omega),Ah,jn_d]
  dsimp only
  rw [if_pos rfl,if_pos rfl,if_neg (by simp),if_pos rfl,jn_d]
  have hl1:(((List.range (p.F.NX*p.F.NY).toNat).map fun (k:Nat)=>Sr p.M (Ss p.F (k:Int)) (min x y)).length:Int)=p.F.NX*p.F.NY:=by simp;omega
  have hl2:(((List.range (p.F.NX*p.F.NY).toNat).map fun (k:Nat)=>Sr p.M (Ss p.F (k:Int)) (max x y)).length:Int)=p.F.NX*p.F.NY:=by simp;omega
  rw [hl1,hl2,if_pos rfl,if_pos rfl,if_pos (by simp)]
  have L:lfix (Dz (⟨p.F,(List.range (p.F.NX*p.F.NY).toNat).map fun (k:Nat)=>Sr p.M (Ss p.F (k:Int)) (min x y)⟩,0) (⟨p.F,(List.range (p.F.NX*p.F.NY).toNat).map fun (k:Nat)=>Sr p.M (Ss p.F (k:Int)) (max x y)⟩,0)) 0=some (.inl ()):=by
   rw [Xn (β:=Unit) (γ:=Bool) (p.F.NX*p.F.NY).toNat (by omega) (fun _=>false) _ () false (fun k hk=>?_) ?_]
   ·rw [if_neg (by simp)]
   ·unfold Dz
    dsimp only
    rw [hl1,if_neg (by omega)]
   ·have h1:k < ((List.range (p.F.NX*p.F.NY).toNat).map fun (k:Nat)=>Sr p.M (Ss p.F (k:Int)) (min x y)).length:=by simpa using hk
    have h2:k < ((List.range (p.F.NX*p.F.NY).toNat).map fun (k:Nat)=>Sr p.M (Ss p.F (k:Int)) (max x y)).length:=by simpa using hk
    unfold Dz
    dsimp only
    rw [hl1,if_pos (by omega),jn_d,Cf h1,Ah,List.getElem_map,List.getElem_range]
    by_cases cv:(Sr p.M (Ss p.F (k:Int)) (min x y)).Void=true
    ·rw [if_pos cv]
     dsimp only
     rw [if_neg (by simp),if_neg (by simp),Cq (by omega)]
    ·rw [if_neg cv,Ah,Cf h2,Ah,List.getElem_map,List.getElem_range,Aoj p.M (Ss p.F (k:Int)) (a:=min x y) (b:=max x y) (by omega) (by omega) (by simpa using cv)]
     dsimp only
     rw [if_neg (by simp),if_neg (by simp),Cq (by omega)]
  dsimp only
  rw [if_neg (by simp),jn_d,L,Ah]
  exact fin
 ·rw [Aew he,Ah,Aew he,Ah,jn_d]
  dsimp only
  rw [if_pos rfl,if_neg (by decide)]
  try dsimp only
  rw [if_neg (by decide),if_neg (by decide),jn_d]
  try dsimp only
  rw [if_pos (by simp),if_pos (by simp),Aix,Ah]
end Go.Proofs.YtebkcipolijfmaaGreat
/- What the arguments of a law are, read off the way a law's claim is told of them: lists, structs. -/
namespace Go.Proofs.YtebkcipolijfmaaGreat
open Go.ChangeShapes Go.WideShapes Go.ChangeAt Go.RowKit

theorem own2:ownKnob Tryz.prog.godebug=none:=by kernel_rfl
theorem Aq8:laidOutB Tryz.prog=true:=by kernel_rfl
def rI64 (z:Int):Prop:=-9223372036854775808≤z∧z≤9223372036854775807
def rU32 (z:Int):Prop:=0≤z∧z≤4294967295
theorem Zr {cs:List Value} {o:Nat} (h:cs.length=o):cs.drop o=[]:=by rw [← h,List.drop_length]
theorem Gd {cs X R:List Value} {o k o':Nat} (h1:(cs.drop o).take k=X) (h2:cs.drop o'=R) (ho:o'=o+k):cs.drop o=X++R:=by
 subst ho;rw [← h1,← h2,← List.drop_drop,List.take_append_drop]
section
variable {H:Type} {enc:TypeId × Value→H} {w:World} {base:Nat} {spare:Nat→Bool} {held:Bool} {P:Program}
theorem Avv {t:TypeId} (ht:P.underlying t=some (.int .i64)) {fuel:Nat} {cs:List Value} {x:DataW H × List MemPlace} (h:DataW.trod enc P w base spare held fuel t cs=some x):∃ z:Int,cs=[.int .i64 z]∧rI64 z:=by
 obtain ⟨n,hc,_,hw⟩:=DataW.trod_int ht h
 refine ⟨n,hc,?_⟩
 have h1:IntKind.i64.min = -9223372036854775808:=rfl
 have h2:IntKind.i64.max=9223372036854775807:=rfl
 simp only [Lit.wf,Bool.and_eq_true,decide_eq_true_eq] at hw
 unfold rI64;omega
theorem Avw {t:TypeId} (ht:P.underlying t=some (.int .u32)) {fuel:Nat} {cs:List Value} {x:DataW H × List MemPlace} (h:DataW.trod enc P w base spare held fuel t cs=some x):∃ z:Int,cs=[.int .u32 z]∧rU32 z:=by
 obtain ⟨n,hc,_,hw⟩:=DataW.trod_int ht h
 refine ⟨n,hc,?_⟩
 have h1:IntKind.u32.min=0:=rfl
 have h2:IntKind.u32.max=4294967295:=rfl
 simp only [Lit.wf,Bool.and_eq_true,decide_eq_true_eq] at hw
 unfold rU32;omega
theorem Aey {α:Type} {en:α→List Value} {okα:α→Prop} {t e:TypeId} {sz:Nat} (ht:P.underlying t=some (.slice e)) (hsz:P.cellsOf e=sz) (hp:0 < sz)
  (hel:∀ {fuel:Nat} {cs:List Value} {x:DataW H × List MemPlace},DataW.trod enc P w base spare held fuel e cs=some x→∃ v,cs=en v∧okα v)
  {fuel:Nat} {cs:List Value} {x:DataW H × List MemPlace} (h:DataW.trod enc P w base spare held fuel t cs=some x) :
  ∃ (v:List α) (A:Option Addr) (c:Nat),cs=[.slice A v.length c]∧Has [.old w] A v.length c sz en v∧∀ z∈v,okα z:=by
 rcases Go.Deep.open_slice ht h with ⟨rfl,_⟩ | ⟨a,len,cap,m,n,D,Pl,rfl,hb,hl,hm,hmm,_,hx⟩
 ·exact ⟨[],none,0,rfl,Has.nil,fun z hz=>by simp at hz⟩
 ·have hle:len≤m:=by rw [hmm];split <;> omega
  have key:∀ k,k≤len→∃ v:List α,v.length=k∧(∀ z∈v,okα z)∧∀ i (hi:i < v.length),w.cells? base (a.add (i*sz)) sz=some (en v[i]):=by
   intro k
   induction k with
   | zero=>intro _;exact ⟨[],rfl,fun z hz=>by simp at hz,fun i hi=>by simp at hi⟩
   | succ k ih =>
    intro hk
    obtain ⟨v,h1,h2,h3⟩:=ih (by omega)
    obtain ⟨cs',h4,h5⟩:=hx k (by omega)
    obtain ⟨z,rfl,hz⟩:=hel h5
    rw [hsz] at h4
    refine ⟨v++[z],by simp [h1],fun y hy=>?_,fun i hi=>?_⟩
    ·rcases List.mem_append.1 hy with hy | hy
     ·exact h2 y hy
     ·simp at hy;subst hy;exact hz
    ·simp at hi
     rcases Nat.lt_or_ge i v.length with hlt | hge
     ·rw [List.getElem_append_left hlt];exact h3 i hlt
     ·have:i=k:=by omega
      subst this
      rw [List.getElem_append_right hge]
      simp [h1];exact h4
  obtain ⟨v,h1,h2,h3⟩:=key len (Nat.le_refl _)
  subst h1
  have hesz:∀ z∈v,(en z).length=sz:=by
   intro z hz
   obtain ⟨i,hi,rfl⟩:=List.getElem_of_mem hz
   exact (World.cells?_some (h3 i hi)).2.1
  have hsl:Sl w (some a) v.length cap sz en v:=by
   refine ⟨rfl,hl,hm,hesz,fun hn=>?_⟩
   have hsp:a.spot=none:=by
    have h4:=(World.cells?_some (h3 0 hn)).2.2 0 hp
    have h5:(en v[0])[0]? = some ((en v[0])[0]'(by rw [hesz _ (List.getElem_mem hn)];exact hp)):=List.getElem?_eq_getElem _
    rw [h5] at h4
    simp only [Nat.zero_mul,Addr.add,if_true] at h4
    unfold World.cell? at h4
    split at h4
    ·split at h4
     ·cases h4
     ·rename_i hs;simpa using hs
    ·cases h4
   obtain ⟨b,o,sp⟩:=a
   have hsp:sp=none:=hsp
   subst hsp
   refine ⟨b,o,rfl,fun i hi j u hu=>?_⟩
   have hj:j < sz:=by rw [← hesz _ (List.getElem_mem hi)];exact (List.getElem?_eq_some_iff.1 hu).1
   have h4:=(World.cells?_some (h3 i hi)).2.2 j hj
   rw [hu,Addr.add_lit,Addr.add_lit] at h4
   exact h4
  exact ⟨v,some a,cap,rfl,hsl.has,h2⟩
end
theorem Aw6 (w:World):∀ e∈[Ent.old w],Ent.ok w e:=fun e he=>by simp at he;subst he;exact ⟨Below.refl _ _,Nat.le_refl _⟩
end Go.Proofs.YtebkcipolijfmaaGreat
