/- Meshes looked up, plainly: where a place lies, the span of the heights there, whether a point fits. -/
import Derived.Test.YtbkobeeileemjaaGreatL2
import Derived.Test.YtbkobeeileemjaaGreatB1
import Derived.Test.YtbkobeeileemjaaGreatI8
import Derived.Test.YtbkobeeileemjaaGreatY2
namespace Go.Proofs.YtbkobeeileemjaaGreat
open Go Go.RowKit
theorem Ap5 (a b c p:Ab):crs b c p+crs c a p+crs a b p=crs a b c:=by unfold crs;grind
theorem Ap6 {w0 w1 w2:Int} (n0:0≤w0) (n1:0≤w1) (n2:0≤w2) (hA:w0+w1+w2≤2305843009213693952) (h0:0 < w0+w1+w2) {p:Aw}
  (k0:-1099511627776≤p.a0∧p.a0≤1099511627776) (k1:-1099511627776≤p.a1∧p.a1≤1099511627776) (k2:-1099511627776≤p.a2∧p.a2≤1099511627776) :
  Hp ⟨w0,w1,w2⟩ p=some ((w0*p.a0+w1*p.a1+w2*p.a2) / (w0+w1+w2),-((-(w0*p.a0+w1*p.a1+w2*p.a2)) / (w0+w1+w2))):=by
 obtain ⟨m0,rfl⟩:=Int.eq_ofNat_of_zero_le n0
 obtain ⟨m1,rfl⟩:=Int.eq_ofNat_of_zero_le n1
 obtain ⟨m2,rfl⟩:=Int.eq_ofNat_of_zero_le n2
 obtain ⟨b,hb⟩:∃ b,min (min p.a0 p.a1) p.a2=b:=⟨_,rfl⟩
 obtain ⟨d0,e0⟩:∃ d:Nat,p.a0=b+d:=⟨(p.a0-b).toNat,by omega⟩
 obtain ⟨d1,e1⟩:∃ d:Nat,p.a1=b+d:=⟨(p.a1-b).toNat,by omega⟩
 obtain ⟨d2,e2⟩:∃ d:Nat,p.a2=b+d:=⟨(p.a2-b).toNat,by omega⟩
 have h:=Axr (m0:=m0) (m1:=m1) (m2:=m2) (d0:=d0) (d1:=d1) (d2:=d2) (b:=b) (p:=p) (by omega) (by omega) (by omega) (by omega) (by omega) (by omega) (by omega) hb e0 e1 e2
 rw [h]
 have hS:(m0:Int)*p.a0+(m1:Int)*p.a1+(m2:Int)*p.a2=((m0*d0+m1*d1+m2*d2:Nat):Int)+b*((m0+m1+m2:Nat):Int):=by
  rw [e0,e1,e2];push_cast;grind
 have hA2:(m0:Int)+(m1:Int)+(m2:Int)=((m0+m1+m2:Nat):Int):=by push_cast;rfl
 rw [hS,hA2]
 have hpos:0 < m0+m1+m2:=by omega
 clear hS hA2 h e0 e1 e2 hb n0 n1 n2 hA h0 k0 k1 k2
 generalize m0*d0+m1*d1+m2*d2=N at *
 generalize m0+m1+m2=A at *
 have q1:=Nat.div_add_mod N A
 have q2:=Nat.mod_lt N hpos
 generalize N / A=q at *
 generalize N % A=r at *
 have q3:(N:Int)=(A:Int)*(q:Int)+(r:Int):=by rw [← q1];push_cast;rfl
 have l1:((N:Int)+b*(A:Int)) / (A:Int)=b+(q:Int):=X.ediv_of (r:=(r:Int)) (by omega) (by rw [q3];grind) (by omega) (by omega)
 by_cases hr:0 < r
 ·have l2:(-((N:Int)+b*(A:Int))) / (A:Int) = -(b+(q:Int)+1):=X.ediv_of (r:=(A:Int)-(r:Int)) (by omega) (by rw [q3];grind) (by omega) (by omega)
  rw [l1,l2,if_pos hr,Int.neg_neg]
 ·have l2:(-((N:Int)+b*(A:Int))) / (A:Int) = -(b+(q:Int)):=X.ediv_of (r:=0) (by omega) (by rw [q3,show r=0 by omega];grind) (by omega) (by omega)
  rw [l1,l2,if_neg hr,Int.neg_neg,Int.add_zero]
/-- The height of a vertex. -/
def zV (v:List Ae) (i:Int):Br:=match idx v i with
 | some x=>x.Z
 | none=>⟨0,0⟩
def covT (v:List Ae) (at_:Ab) (t:Aw):Bool:=decide (0≤crs (plV v t.a0) (plV v t.a1) at_∧0≤crs (plV v t.a1) (plV v t.a2) at_∧0≤crs (plV v t.a2) (plV v t.a0) at_)
def Ae6 (v:List Ae) (t:Aw):Int:=crs (plV v t.a0) (plV v t.a1) (plV v t.a2)
/-- The sum of the heights of the corners by their weights. -/
def wsum (v:List Ae) (at_:Ab) (t:Aw) (f:Br→Int):Int :=
 crs (plV v t.a1) (plV v t.a2) at_*f (zV v t.a0)+crs (plV v t.a2) (plV v t.a0) at_*f (zV v t.a1)+crs (plV v t.a0) (plV v t.a1) at_*f (zV v t.a2)
def bndT (v:List Ae) (at_:Ab) (t:Aw):Br:=⟨wsum v at_ t (·.Lo) / Ae6 v t,-((-(wsum v at_ t (·.Hi))) / Ae6 v t)⟩
/-- The first triangle in which a place lies. -/
def locT (v:List Ae) (T:List Aw) (at_:Ab):Option Nat:=T.findIdx? (covT v at_)
def gapI (a b:Br):Int:=max (max 0 (a.Lo-b.Hi)) (b.Lo-a.Hi)
def Ty (v:List Ae) (r:Ag) (p:Aa) (k:Int):Bool :=
 decide (gapI p.Z (zV v k)*gapI p.Z (zV v k)*1000000≤r.Slope*r.Slope*((p.X-(plV v k).X)*(p.X-(plV v k).X)+(p.Y-(plV v k).Y)*(p.Y-(plV v k).Y)))
def fitV (v:List Ae) (T:List Aw) (r:Ag) (p:Aa):Int × Bool × Int:=match locT v T (X.plF p) with
 | none=>(-1,false,0)
 | some i=>match idx T (i:Int) with
  | none=>(-1,false,0)
  | some t =>
   if r.Reach < gapI p.Z (bndT v (X.plF p) t) then ((i:Int),false,0) else
   if Ty v r p t.a0=true∧Ty v r p t.a1=true∧Ty v r p t.a2=true then ((i:Int),true,gapI p.Z (bndT v (X.plF p) t)) else ((i:Int),false,0)
end Go.Proofs.YtbkobeeileemjaaGreat
/- Meshes looked up: what the program's functions return. -/
namespace Go.Proofs.YtbkobeeileemjaaGreat
open Go Go.RowKit
/-- A loop that stops at the first place where a test holds. -/
theorem Ai4 {α:Type} (l:List α) (p:α→Bool) (B:Int→Option (Sum Int (Sum Unit Int)))
  (h1:∀ (j:Nat) (h:j < l.length),B j=if p l[j]=true then some (.inr (.inr (j:Int))) else some (.inl ((j+1:Nat):Int))) (h2:B l.length=some (.inr (.inl ()))) :
  lfix B 0=some (match l.findIdx? p with | some i=>.inr (i:Int) | none=>.inl ()):=by
 have key:∀ (m k:Nat),k≤l.length→l.length-k=m→(∀ j (hj:j < l.length),j < k→p l[j]=false)→lfix B k=some (match l.findIdx? p with | some i=>.inr (i:Int) | none=>.inl ()):=by
  intro m
  induction m with
  | zero =>
   intro k hk hm hf
   obtain rfl:k=l.length:=by omega
   rw [Dq,h2]
   have:l.findIdx? p=none:=by
    rw [List.findIdx?_eq_none_iff]
    intro x hx
    obtain ⟨j,hj,rfl⟩:=List.getElem_of_mem hx
    exact hf j hj hj
   rw [this]
  | succ m ih =>
   intro k hk hm hf
   have hlt:k < l.length:=by omega
   rw [Dq,h1 k hlt]
   by_cases hp:p l[k]=true
   ·rw [if_pos hp]
    have:l.findIdx? p=some k:=by
     rw [List.findIdx?_eq_some_iff_getElem]
     exact ⟨hlt,hp,fun j hj=>by rw [hf j (by omega) hj];simp⟩
    rw [this]
   ·rw [if_neg hp]
    refine ih (k+1) (by omega) (by omega) fun j hj hjk=>?_
    by_cases e:j=k
    ·subst e;exact Bool.eq_false_iff.2 hp
    ·exact hf j hj (by omega)
 exact key l.length 0 (Nat.zero_le _) rfl (fun j _ h=>absurd h (by omega))
theorem Ae7 {l:List Int} (hl:l.length≤1000000) (n:Int):Df l n=some (decide (n∈l)):=by
 unfold Df Gs
 rw [jn_d,Ai4 l (fun x=>decide (n=x)) (Eh l n) (fun j hj=>?_) ?_,Ah]
 ·cases e:l.findIdx? (fun x=>decide (n=x)) with
  | none =>
   dsimp only
   rw [List.findIdx?_eq_none_iff] at e
   rw [Ah]
   have:n ∉ l:=fun h=>by simpa using e n h
   simp [this]
  | some i =>
   dsimp only
   rw [List.findIdx?_eq_some_iff_getElem] at e
   obtain ⟨hi,h,_⟩:=e
   rw [Ah]
   have:n∈l:=by
    rw [decide_eq_true_eq] at h
    rw [h]
    exact List.getElem_mem hi
   simp [this]
 ·unfold Eh
  rw [if_neg (by omega)]
 ·unfold Eh
  rw [if_pos (by omega),Bf hj,Ah,w1 hj (by omega)]
  simp only [decide_eq_true_eq]
/-! ### meshes -/
/-- A mesh whose vertices are valid and whose triangles turn to the left. -/
structure Msh (m:Bg):Prop where
 n:m.V.length≤1024
 ok:∀ x∈m.V,Nx x
 len:m.T.length≤1152921504606846976
 t:∀ t∈m.T,inN m.V.length t.a0∧inN m.V.length t.a1∧inN m.V.length t.a2∧0 < Ae6 m.V t
theorem Qw {n:Nat} {i:Int} (h:inN n i):∃ k:Nat,i=(k:Int)∧k < n:=⟨i.toNat,by unfold inN at h;omega,by unfold inN at h;omega⟩
theorem Amp {v:List Ae} {k:Nat} (hk:k < v.length):zV v (k:Int)=v[k].Z:=by unfold zV;rw [Bf hk]
theorem Wm {v:List Ae} (h:∀ x∈v,Nx x) {i:Int} (hi:inN v.length i):okP (plV v i)∧-268435456≤(zV v i).Lo∧(zV v i).Lo≤(zV v i).Hi∧(zV v i).Hi≤268435456:=by
 obtain ⟨k,rfl,hk⟩:=Qw hi
 rw [Zx hk,Amp hk]
 exact h _ (List.getElem_mem hk)
theorem Ud {a b c:Ab} (ha:okP a) (hb:okP b) (hc:okP c):Fd a b c=some (crs a b c):=by
 have h0:=Od ha hb hc
 unfold okP at ha hb hc
 have h1:=mulB (x:=b.X-a.X) (y:=c.Y-a.Y) (M:=536870912) (N:=536870912) (by omega) (by omega) (by omega) (by omega) (by omega)
 have h2:=mulB (x:=b.Y-a.Y) (y:=c.X-a.X) (M:=536870912) (N:=536870912) (by omega) (by omega) (by omega) (by omega) (by omega)
 unfold Fd
 unfold crs at h0 ⊢
 rw [Bp (x:=b.X-a.X) (by omega) (by omega),Bp (x:=c.Y-a.Y) (by omega) (by omega),Bp (x:=b.Y-a.Y) (by omega) (by omega),Bp (x:=c.X-a.X) (by omega) (by omega),
  Bp (x:=(b.X-a.X)*(c.Y-a.Y)) (by omega) (by omega),Bp (x:=(b.Y-a.Y)*(c.X-a.X)) (by omega) (by omega),Bp (by omega) (by omega)]
theorem Ar2 {a b:Ab} (ha:okP a) (hb:okP b):Iu a b=some ((a.X-b.X)*(a.X-b.X)+(a.Y-b.Y)*(a.Y-b.Y))∧0≤(a.X-b.X)*(a.X-b.X)+(a.Y-b.Y)*(a.Y-b.Y)∧(a.X-b.X)*(a.X-b.X)+(a.Y-b.Y)*(a.Y-b.Y)≤576460752303423488:=by
 unfold okP at ha hb
 obtain ⟨a1,a2,a3,a4⟩:=X.sq_w (a:=a.X) (b:=b.X) (by omega) (by omega)
 obtain ⟨b1,b2,b3,b4⟩:=X.sq_w (a:=a.Y) (b:=b.Y) (by omega) (by omega)
 refine ⟨?_,by omega,by omega⟩
 unfold Iu
 rw [a1,b1,a2,b2,Bp (by omega) (by omega)]
section
variable {m:Bg} (h:Msh m)
include h
theorem Ahj {i:Nat} (hi:i < m.T.length):Gv m (i:Int)=some ⟨plV m.V m.T[i].a0,plV m.V m.T[i].a1,plV m.V m.T[i].a2⟩:=by
 obtain ⟨h0,h1,h2,_⟩:=h.t _ (List.getElem_mem hi)
 obtain ⟨a,ea,ha⟩:=Qw h0
 obtain ⟨b,eb,hb⟩:=Qw h1
 obtain ⟨c,ec,hc⟩:=Qw h2
 unfold Gv Ho
 rw [Bf hi,Ah,ea,eb,ec,Bf ha,Ah,Ah,Bf hb,Ah,Ah,Bf hc,Ah,Ah,Zx ha,Zx hb,Zx hc]
 rfl
theorem Ai5 {p:Ab} (hp:okP p):Kx m p=some (match locT m.V m.T p with | some i=>(i:Int) | none=>-1):=by
 unfold Kx
 have hl:=h.len
 rw [jn_d,Ai4 m.T (covT m.V p) (Ju m p) (fun j hj=>?_) ?_,Ah]
 ·unfold locT
  cases m.T.findIdx? (covT m.V p) <;> rfl
 ·unfold Ju
  rw [if_neg (by omega)]
 ·obtain ⟨h0,h1,h2,_⟩:=h.t _ (List.getElem_mem hj)
  have q0:=(Wm h.ok h0).1
  have q1:=(Wm h.ok h1).1
  have q2:=(Wm h.ok h2).1
  unfold Ju
  rw [if_pos (by omega),Ahj h hj,Ah,jn_d,Bs (by omega)]
  dsimp only
  rw [Ud q0 q1 hp,Ah]
  unfold covT
  by_cases c1:0≤crs (plV m.V m.T[j].a0) (plV m.V m.T[j].a1) p
  ·rw [if_pos c1,Ud q1 q2 hp,Ah]
   by_cases c2:0≤crs (plV m.V m.T[j].a1) (plV m.V m.T[j].a2) p
   ·rw [if_pos c2,Ud q2 q0 hp,Ah]
    by_cases c3:0≤crs (plV m.V m.T[j].a2) (plV m.V m.T[j].a0) p
    ·simp [c1,c2,c3]
    ·simp [c1,c2,c3]
   ·rw [if_neg c2,if_neg (by simp),if_neg (by simp [c2])]
  ·rw [if_neg c1,if_neg (by simp),if_neg (by simp [c1])]
theorem Ai6 {p:Ab} (hp:okP p) {i:Nat} (hi:i < m.T.length) (hc:covT m.V p m.T[i]=true):Ir m (i:Int) p=some (bndT m.V p m.T[i]):=by
 obtain ⟨h0,h1,h2,hpos⟩:=h.t _ (List.getElem_mem hi)
 obtain ⟨q0,z0⟩:=Wm h.ok h0
 obtain ⟨q1,z1⟩:=Wm h.ok h1
 obtain ⟨q2,z2⟩:=Wm h.ok h2
 have hs:=Ap5 (plV m.V m.T[i].a0) (plV m.V m.T[i].a1) (plV m.V m.T[i].a2) p
 have hb:=Od q0 q1 q2
 unfold Ae6 at hpos
 unfold covT at hc
 rw [decide_eq_true_eq] at hc
 obtain ⟨a,ea,ha⟩:=Qw h0
 obtain ⟨b,eb,hb'⟩:=Qw h1
 obtain ⟨c,ec,hc'⟩:=Qw h2
 unfold Ir
 rw [Ahj h hi,Ah,jn_d]
 dsimp only
 rw [Ud q1 q2 hp,Ah,Ud q2 q0 hp,Ah,Ud q0 q1 hp,Ah,Bf hi,Ah,jn_d,ea,Bf ha,Ah,Ah]
 dsimp only
 rw [jn_d,eb,Bf hb',Ah,Ah]
 dsimp only
 rw [jn_d,ec,Bf hc',Ah,Ah]
 dsimp only
 rw [← ea,← eb,← ec]
 have ga:zV m.V m.T[i].a0=m.V[a].Z:=by rw [ea,Amp ha]
 have gb:zV m.V m.T[i].a1=m.V[b].Z:=by rw [eb,Amp hb']
 have gc:zV m.V m.T[i].a2=m.V[c].Z:=by rw [ec,Amp hc']
 rw [ga] at z0
 rw [gb] at z1
 rw [gc] at z2
 rw [Ap6 (by omega) (by omega) (by omega) (by omega) (by omega) (by dsimp only;omega) (by dsimp only;omega) (by dsimp only;omega),Ah,
  Ap6 (by omega) (by omega) (by omega) (by omega) (by omega) (by dsimp only;omega) (by dsimp only;omega) (by dsimp only;omega),Ah]
 unfold bndT wsum Ae6
 rw [ga,gb,gc,hs]
/-- The span of the heights at a place lies within the heights. -/
theorem Amq {p:Ab} {t:Aw} (ht:t∈m.T) (hc:covT m.V p t=true):-268435456≤(bndT m.V p t).Lo∧(bndT m.V p t).Lo≤(bndT m.V p t).Hi∧(bndT m.V p t).Hi≤268435456:=by
 obtain ⟨h0,h1,h2,hpos⟩:=h.t _ ht
 obtain ⟨q0,z0⟩:=Wm h.ok h0
 obtain ⟨q1,z1⟩:=Wm h.ok h1
 obtain ⟨q2,z2⟩:=Wm h.ok h2
 have hs:=Ap5 (plV m.V t.a0) (plV m.V t.a1) (plV m.V t.a2) p
 unfold Ae6 at hpos
 unfold covT at hc
 rw [decide_eq_true_eq] at hc
 unfold bndT wsum Ae6
 dsimp only
 rw [← hs]
 rw [← hs] at hpos
 obtain ⟨n0,n1,n2⟩:=hc
 generalize crs (plV m.V t.a1) (plV m.V t.a2) p=w0 at *
 generalize crs (plV m.V t.a2) (plV m.V t.a0) p=w1 at *
 generalize crs (plV m.V t.a0) (plV m.V t.a1) p=w2 at *
 generalize zV m.V t.a0=s0 at *
 generalize zV m.V t.a1=s1 at *
 generalize zV m.V t.a2=s2 at *
 have a0:=Int.mul_le_mul_of_nonneg_left (show -268435456≤s0.Lo by omega) n1
 have a1:=Int.mul_le_mul_of_nonneg_left (show -268435456≤s1.Lo by omega) n2
 have a2:=Int.mul_le_mul_of_nonneg_left (show -268435456≤s2.Lo by omega) n0
 have b0:=Int.mul_le_mul_of_nonneg_left (show s0.Hi≤268435456 by omega) n1
 have b1:=Int.mul_le_mul_of_nonneg_left (show s1.Hi≤268435456 by omega) n2
 have b2:=Int.mul_le_mul_of_nonneg_left (show s2.Hi≤268435456 by omega) n0
 have c0:=Int.mul_le_mul_of_nonneg_left (show s0.Lo≤s0.Hi by omega) n1
 have c1:=Int.mul_le_mul_of_nonneg_left (show s1.Lo≤s1.Hi by omega) n2
 have c2:=Int.mul_le_mul_of_nonneg_left (show s2.Lo≤s2.Hi by omega) n0
 generalize w0*s0.Lo=x0 at *
 generalize w1*s1.Lo=x1 at *
 generalize w2*s2.Lo=x2 at *
 generalize w0*s0.Hi=y0 at *
 generalize w1*s1.Hi=y1 at *
 generalize w2*s2.Hi=y2 at *
 generalize hA:w0+w1+w2=A at *
 have e1:-268435456≤(x0+x1+x2) / A:=Int.le_ediv_of_mul_le hpos (by omega)
 have e2:-268435456≤(-(y0+y1+y2)) / A:=Int.le_ediv_of_mul_le hpos (by omega)
 have g1:=Int.mul_ediv_self_le (x:=x0+x1+x2) (k:=A) (by omega)
 have g2:=Int.mul_ediv_self_le (x:=-(y0+y1+y2)) (k:=A) (by omega)
 refine ⟨e1,?_,by omega⟩
 refine Int.not_lt.1 fun hlt=>?_
 have g3:=Int.mul_le_mul_of_nonneg_left (show -((-(y0+y1+y2)) / A)+1≤(x0+x1+x2) / A by omega) (show 0≤A by omega)
 rw [Int.mul_add,Int.mul_neg,Int.mul_one] at g3
 omega
end
end Go.Proofs.YtbkobeeileemjaaGreat
/- Growing: what the program's functions return. -/
namespace Go.Proofs.YtbkobeeileemjaaGreat
open Go Go.RowKit
theorem Ad3 (p:Aa):Ck p=some (X.plF p):=rfl
theorem Abu {p:Aa} (hp:X.okPt p=true):okP (X.plF p):=by
 have:=X.okPt_rng hp
 unfold okP X.plF
 dsimp only
 omega
theorem Aoh {a b:Br} (ha:-268435456≤a.Lo∧a.Lo≤a.Hi∧a.Hi≤268435456) (hb:-268435456≤b.Lo∧b.Lo≤b.Hi∧b.Hi≤268435456):Qc a b=some (gapI a b)∧0≤gapI a b∧gapI a b≤536870912:=by
 unfold Qc gapI
 rw [Bp (x:=a.Lo-b.Hi) (by omega) (by omega),Bp (x:=b.Lo-a.Hi) (by omega) (by omega)]
 exact ⟨rfl,by omega,by omega⟩
theorem Au4 {g q s:Int} (h1:0≤g) (h2:g < 4294967296) (h3:0≤s) (h4:s < 4294967296) (h5:0≤q) (h6:q < 18446744073709551616):Og g q s=some (decide (g*g*1000000≤s*s*q)):=by
 obtain ⟨a,rfl⟩:=Int.eq_ofNat_of_zero_le h1
 obtain ⟨b,rfl⟩:=Int.eq_ofNat_of_zero_le h3
 obtain ⟨c,rfl⟩:=Int.eq_ofNat_of_zero_le h5
 rw [At3 (by omega) (by omega) (by omega)]
 congr 1
 rw [Bool.eq_iff_iff,decide_eq_true_eq,decide_eq_true_eq,
  show (a:Int)*(a:Int)*1000000=((a*a*1000000:Nat):Int) by rw [Int.natCast_mul,Int.natCast_mul];rfl,
  show (b:Int)*(b:Int)*(c:Int)=((b*b*c:Nat):Int) by rw [Int.natCast_mul,Int.natCast_mul]]
 exact Int.ofNat_le.symm
section
variable {m:Bg} (h:Msh m) {p:Aa} (hp:X.okPt p=true) {r:Ag} (hr:X.okRules r=true)
include h hp hr
theorem Ar3 {t:Aw} (ht:t∈m.T) (i:Int) {j:Nat} (hj:j < [t.a0,t.a1,t.a2].length) :
  Mg t m p r i (j:Int)=if Ty m.V r p [t.a0,t.a1,t.a2][j]=true then some (.inl ((j+1:Nat):Int)) else some (.inr (.inr (i,false,0))):=by
 obtain ⟨h0,h1,h2,_⟩:=h.t _ ht
 have hk:inN m.V.length [t.a0,t.a1,t.a2][j]:=by
  have:[t.a0,t.a1,t.a2][j]∈[t.a0,t.a1,t.a2]:=List.getElem_mem hj
  simp only [List.mem_cons,List.not_mem_nil,or_false] at this
  rcases this with e | e | e <;> rw [e] <;> assumption
 have hj3:j < 3:=hj
 have hrr:=X.okRules_rng hr
 have hpp:=X.okPt_rng hp
 unfold Mg
 rw [if_pos (by omega),Bf hj,Ah,Bs (by omega)]
 unfold Ty
 generalize [t.a0,t.a1,t.a2][j]=k at *
 have hz:=Wm h.ok hk
 obtain ⟨n,rfl,hn⟩:=Qw hk
 rw [Amp hn,Zx hn] at hz ⊢
 obtain ⟨g1,g2,g3⟩:=Aoh (a:=p.Z) (b:=m.V[n].Z) (by omega) hz.2
 obtain ⟨q1,q2,q3⟩:=Ar2 (Abu hp) hz.1
 have sp:Ho m.V[n]=some (pP m.V[n]):=rfl
 rw [Bf hn,Ah,g1,Ah,Ad3,Ah,sp,Ah,q1,Ah,Au4 g2 (by omega) (by omega) (by omega) q2 (by omega),Ah]
 rfl
theorem Aw1:Rv m p r=some (fitV m.V m.T r p):=by
 have hpp:=X.okPt_rng hp
 have hq:=Abu hp
 unfold Rv
 rw [Ad3,Ah,Ai5 h hq,Ah]
 unfold fitV
 cases e:locT m.V m.T (X.plF p) with
 | none=>rfl
 | some i =>
  dsimp only
  have e':=e
  unfold locT at e'
  rw [List.findIdx?_eq_some_iff_getElem] at e'
  obtain ⟨hi,hc,_⟩:=e'
  have hb:=Amq h (List.getElem_mem hi) hc
  rw [if_neg (by omega),Ah,Ai6 h hq hi hc,Ah,(Aoh (a:=p.Z) (by omega) hb).1,Ah,Bf hi]
  dsimp only
  by_cases c:r.Reach < gapI p.Z (bndT m.V (X.plF p) m.T[i])
  ·rw [if_pos c,if_pos c]
  ·rw [if_neg c,if_neg c,jn_d,Ah,Xa [m.T[i].a0,m.T[i].a1,m.T[i].a2] (Ty m.V r p) (Mg m.T[i] m p r (i:Int)) () ((i:Int),false,0) (fun j hj=>Ar3 h hp hr (List.getElem_mem hi) _ hj) ?_,Ah]
   ·by_cases c2:Ty m.V r p m.T[i].a0=true∧Ty m.V r p m.T[i].a1=true∧Ty m.V r p m.T[i].a2=true
    ·rw [if_pos c2,if_pos (by simp [c2])]
    ·rw [if_neg c2,if_neg (by simpa using c2)]
   ·unfold Mg
    rw [if_neg (by simp)]
omit hp hr in
theorem Au5:-1≤(fitV m.V m.T r p).1∧(fitV m.V m.T r p).1 < 2305843009213693952:=by
 have hl:=h.len
 unfold fitV
 cases e:locT m.V m.T (X.plF p) with
 | none=>dsimp only;omega
 | some i =>
  have e':=e
  unfold locT at e'
  rw [List.findIdx?_eq_some_iff_getElem] at e'
  obtain ⟨hi,hc,_⟩:=e'
  dsimp only
  rw [Bf hi]
  dsimp only
  split
  ·dsimp only;omega
  ·split <;> (dsimp only;omega)
end
/-! ### the mesh of the ground -/
theorem Ar4 {n:Nat} {T:List Aw} (hnd:T.Nodup) (h:∀ t∈T,inN n t.a0∧inN n t.a1∧inN n t.a2):T.length≤n*n*n:=by
 have h1:(T.map fun t=>((t.a0.toNat*n+t.a1.toNat)*n+t.a2.toNat)).Nodup:=by
  unfold List.Nodup
  rw [List.pairwise_map]
  refine List.Pairwise.imp_of_mem ?_ hnd
  intro x y hx hy hne e
  obtain ⟨x0,x1,x2⟩:=h x hx
  obtain ⟨y0,y1,y2⟩:=h y hy
  unfold inN at x0 x1 x2 y0 y1 y2
  have e2:x.a2.toNat=y.a2.toNat:=by
   have:=congrArg (· % n) e
   simp only [Nat.mul_add_mod_self_right] at this
   rwa [Nat.mod_eq_of_lt (by omega),Nat.mod_eq_of_lt (by omega)] at this
  have e':x.a0.toNat*n+x.a1.toNat=y.a0.toNat*n+y.a1.toNat:=by
   rw [e2] at e
   exact Nat.eq_of_mul_eq_mul_right (show 0 < n by omega) (by omega)
  have e1:x.a1.toNat=y.a1.toNat:=by
   have:=congrArg (· % n) e'
   simp only [Nat.mul_add_mod_self_right] at this
   rwa [Nat.mod_eq_of_lt (by omega),Nat.mod_eq_of_lt (by omega)] at this
  have e0:x.a0.toNat=y.a0.toNat:=by
   rw [e1] at e'
   exact Nat.eq_of_mul_eq_mul_right (show 0 < n by omega) (by omega)
  apply hne
  obtain ⟨xa,xb,xc⟩:=x
  obtain ⟨ya,yb,yc⟩:=y
  simp only at *
  rw [show xa=ya by omega,show xb=yb by omega,show xc=yc by omega]
 have:=Fn (m:=List.range (n*n*n)) h1 fun x hx=>by
  obtain ⟨t,ht,rfl⟩:=List.mem_map.1 hx
  obtain ⟨t0,t1,t2⟩:=h t ht
  unfold inN at t0 t1 t2
  rw [List.mem_range]
  have a1:=Nat.mul_le_mul_right n (show t.a0.toNat+1≤n by omega)
  have a2:=Nat.mul_le_mul_right n (show t.a0.toNat*n+t.a1.toNat+1≤n*n by rw [Nat.add_mul] at a1;omega)
  rw [Nat.add_mul,Nat.one_mul] at a2
  omega
 rwa [List.length_map,List.length_range] at this
theorem Au6 {L:List Aa} (hL:X.Fit L):∀ x∈vxL L,Nx x:=fun x hx=>by
 unfold vxL at hx
 obtain ⟨p,hp,rfl⟩:=List.mem_map.1 hx
 have:=X.okPt_rng (hL.ok p hp)
 unfold Nx okP pP
 dsimp only
 omega
theorem Ai7 {L:List Aa} (hL:X.Fit L):∃ r:Bg × Int,Ob L=some r∧((r.2=0∧Tb L∧r.1.V=vxL L∧r.1.Lines=[]∧Aa9 (vxL L) r.1.T)∨(r=(⟨[],[],[]⟩,11)∧¬ Tb L)):=by
 have hn:=hL.n
 unfold Ob
 rw [gd_t (by omega),jn_d,Aog hn,Ah]
 dsimp only
 rcases Ar1 hL with ⟨e,ha⟩ | ⟨e,ha⟩
 ·obtain ⟨T,t1,t3⟩:=Au0 e
  rw [t1,Ah]
  dsimp only
  rw [if_pos rfl]
  exact ⟨_,rfl,.inl ⟨rfl,ha,rfl,rfl,t3⟩⟩
 ·rw [Ary [] (by omega),Ah]
  dsimp only
  rw [if_neg (by omega)]
  exact ⟨_,rfl,.inr ⟨rfl,ha⟩⟩
theorem Au7 {L:List Aa} (hL:X.Fit L) {m:Bg} (hv:m.V=vxL L) (ht:Aa9 (vxL L) m.T):Msh m:=by
 have hn:=hL.n
 have hlen:m.V.length≤1024:=by rw [hv];unfold vxL;rw [List.length_map];exact hn
 have hin:∀ t∈m.T,inN m.V.length t.a0∧inN m.V.length t.a1∧inN m.V.length t.a2∧0 < Ae6 m.V t:=fun t h=>by
  rw [hv]
  obtain ⟨_,_,d0,d1,d2,d3,_⟩:=(ht.mem t).1 h
  exact ⟨d0,d1,d2,d3⟩
 refine ⟨hlen,by rw [hv];exact Au6 hL,?_,hin⟩
 have:=Ar4 ht.nd (fun t h=>⟨(hin t h).1,(hin t h).2.1,(hin t h).2.2.1⟩)
 have h1:=Nat.mul_le_mul hlen hlen
 have h2:=Nat.mul_le_mul h1 hlen
 omega
end Go.Proofs.YtbkobeeileemjaaGreat
/- Growing: one round, and all rounds. -/
namespace Go.Proofs.YtbkobeeileemjaaGreat
open Go Go.RowKit Go.Sort
/-- Candidates, as the program finds them. -/
structure Ctx (l:List Aa) (r:Ag) (C:List Aa):Prop where
 val:X.validL l=true
 rul:X.okRules r=true
 few:l.length≤300
 perm:C.Perm (X.candL l r)
/-- Ids of candidates, each once. -/
structure GOk (C:List Aa) (g:List Int):Prop where
 nd:g.Nodup
 src:∀ i∈g,∃ p∈C,p.Id=i
theorem Fit.pick {l:List Aa} {ids:List Int} (hl:X.Fit l):X.Fit (Ac8 l ids):=(Fit.sel hl).perm (Ei _ _).symm
section
variable {l:List Aa} {r:Ag} {C:List Aa} (hc:Ctx l r C)
include hc
theorem Ctx.fit:X.Fit C:=(X.Fit.cand hc.val).perm hc.perm.symm
theorem Ctx.bot {p:Aa} (hp:p∈C):p∈X.candL l r:=hc.perm.mem_iff.1 hp
theorem Ctx.dry {p:Aa} (hp:p∈C):p∈l∧X.sunkB l r p=false∧p.Num=p.Of:=by
 have h1:=(X.mem_bot.1 (hc.bot hp)).1
 unfold X.lastL X.dryL at h1
 rw [List.mem_filter,List.mem_filter] at h1
 exact ⟨h1.1.1,by simpa using h1.1.2,by simpa using h1.2⟩
theorem Ctx.apart {p q:Aa} (hp:p∈C) (hq:q∈C) (hx:p.X=q.X) (hy:p.Y=q.Y):p=q:=by
 obtain ⟨p1,p2⟩:=X.mem_bot.1 (hc.bot hp)
 obtain ⟨q1,q2⟩:=X.mem_bot.1 (hc.bot hq)
 have e:X.plF p=X.plF q:=by unfold X.plF;rw [hx,hy]
 exact X.id_inj hc.fit.id hp hq (X.lowB_total (q2 p p1 e) (p2 q q1 e.symm))
theorem Ctx.len:C.length≤300:=by
 classical
 have h1:=Fn (l:=C) (m:=l) (X.nodup_of_ids hc.fit.id) (fun x hx=>(hc.dry hx).1)
 have:=hc.few
 omega
variable {g:List Int} (hg:GOk C g)
include hg
omit hc in
theorem GOk.len:g.length≤C.length:=by
 have:=Fn (l:=g) (m:=C.map (·.Id)) hg.nd (fun i hi=>by
  obtain ⟨p,hp,rfl⟩:=hg.src i hi
  exact List.mem_map_of_mem hp)
 rwa [List.length_map] at this
theorem GOk.sel:Ahi l g:=⟨hg.nd,fun i hi=>by
 obtain ⟨p,hp,e⟩:=hg.src i hi
 exact ⟨p,(hc.dry hp).1,e⟩⟩
theorem GOk.rng {i:Int} (hi:i∈g):-9223372036854775808≤i∧i≤9223372036854775807:=by
 obtain ⟨p,hp,rfl⟩:=hg.src i hi
 have:=X.okPt_rng (hc.fit.ok p hp)
 omega
theorem GOk.pick {p:Aa} (hp:p∈Ac8 l g):p∈C∧p.Id∈g:=by
 have h1:p∈selL l g:=Iq.1 hp
 unfold selL at h1
 rw [List.mem_filter,decide_eq_true_eq] at h1
 obtain ⟨c,hc1,e⟩:=hg.src _ h1.2
 rw [X.id_inj (X.Fit.of hc.val).id h1.1 (hc.dry hc1).1 e.symm]
 exact ⟨hc1,by rw [e];exact h1.2⟩
theorem GOk.apart:Tb (Ac8 l g):=by
 have hf:=(Fit.pick (ids:=g) (X.Fit.of hc.val)).id
 rw [List.Nodup,List.pairwise_map] at hf
 unfold Tb
 refine List.Pairwise.imp_of_mem ?_ hf
 intro a b ha hb hne e
 exact hne (congrArg (·.Id) (hc.apart (GOk.pick hc hg ha).1 (GOk.pick hc hg hb).1 e.1 e.2))
theorem Aw2:∃ m:Bg,Fh l g=some (m,0)∧m.V=vxL (Ac8 l g)∧m.Lines=[]∧Aa9 (vxL (Ac8 l g)) m.T∧Msh m:=by
 have h1:=GOk.len hg
 have h2:=hc.len
 have hf:=Fit.pick (ids:=g) (X.Fit.of hc.val)
 obtain ⟨x,e,⟨e0,_,e1,e2,e3⟩ | ⟨_,e0⟩⟩:=Ai7 hf
 ·refine ⟨x.1,?_,e1,e2,e3,Au7 hf e1 e3⟩
  unfold Fh
  rw [Ar0 (X.Fit.of hc.val) (by omega) (fun i hi=>GOk.rng hc hg hi),Ah,if_pos (GOk.sel hc hg)]
  dsimp only
  rw [if_pos rfl,e,Ah,e0]
 ·exact absurd (GOk.apart hc hg) e0
end
/-- The mesh of the points with these Ids. -/
noncomputable def Nd (l:List Aa) (g:List Int):Bg:=match Fh l g with
 | some r=>r.1
 | none=>⟨[],[],[]⟩
noncomputable def gFit (l:List Aa) (r:Ag) (g:List Int):FitF:=fitV (Nd l g).V (Nd l g).T r
section
variable {l:List Aa} {r:Ag} {C:List Aa} (hc:Ctx l r C) {g:List Int} (hg:GOk C g)
include hc hg
theorem Ahk:Fh l g=some (Nd l g,0)∧(Nd l g).V=vxL (Ac8 l g)∧(Nd l g).Lines=[]∧Aa9 (vxL (Ac8 l g)) (Nd l g).T∧Msh (Nd l g):=by
 obtain ⟨m,e,h⟩:=Aw2 hc hg
 have:Nd l g=m:=by unfold Nd;rw [e]
 rw [this]
 exact ⟨e,h⟩
omit hc hg in
theorem Amr {C':List Aa} {b:List (Int × Bm)} (h:Wf g (gFit l r g) C' b):b.length≤C'.length:=by
 classical
 have h1:(b.map (·.2.p)).Nodup:=by
  unfold List.Nodup
  rw [List.pairwise_map]
  refine List.Pairwise.imp_of_mem ?_ h.map
  intro q q' hq hq' hne e
  have a1:=(h.src q hq).2.2
  have a2:=(h.src q' hq').2.2
  rw [e,a2] at a1
  exact hne (Prod.mk.inj a1).1.symm
 have:=Fn (m:=C') h1 fun x hx=>by
  obtain ⟨q,hq,rfl⟩:=List.mem_map.1 hx
  exact (h.src q hq).1
 rwa [List.length_map] at this
theorem Ar5:lfix (Oz C g (Nd l g,0) r) (([]:List (Int × Bm)),0)=some (Aez g (gFit l r g) C):=by
 obtain ⟨_,_,_,_,hm⟩:=Ahk hc hg
 have hlen:=hc.len
 have hgl:=GOk.len hg
 have:=Du (B:=Oz C g (Nd l g,0) r) (fun s=>C.length-s.2.toNat) (fun s=>∃ k:Nat,k≤C.length∧s=((C.take k).foldl (Acv g (gFit l r g)) [],(k:Int))) (fun t=>t=Aez g (gFit l r g) C) (fun s hs=>by
  obtain ⟨k,hk,rfl⟩:=hs
  have hb:=Ag6 (g:=g) (F:=gFit l r g) (C:=C) k
  have hbl:=Amr hb
  rw [List.length_take] at hbl
  unfold Oz
  dsimp only
  by_cases hk2:k < C.length
  ·left
   refine ⟨((C.take (k+1)).foldl (Acv g (gFit l r g)) [],((k+1:Nat):Int)),?_,⟨k+1,hk2,rfl⟩,by dsimp only;omega⟩
   rw [List.take_succ_eq_append_getElem hk2,List.foldl_append]
   generalize (C.take k).foldl (Acv g (gFit l r g)) []=b at *
   rw [if_pos (by omega),jn_d,Bf hk2,Ah,Ae7 (by omega),Ah,Bs (by omega)]
   have hp:=hc.fit.ok _ (List.getElem_mem hk2)
   have hf:=Aw1 hm hp hc.rul
   have hfr:=Au5 (p:=C[k]) (r:=r) hm
   show _=some (Sum.inl (Acv g (gFit l r g) b C[k],((k+1:Nat):Int)))
   unfold Acv
   by_cases c1:C[k].Id∈g
   ·rw [if_pos (by simpa using c1),if_pos (.inl c1)]
   ·rw [if_neg (by simpa using c1),hf,Ah]
    unfold gFit
    generalize fitV (Nd l g).V (Nd l g).T r C[k]=f at *
    by_cases c2:f.2.1=true
    ·rw [if_pos c2,gd_t (by omega),Ah,jn_d,if_neg (show ¬ (C[k].Id∈g∨f.2.1=false) by rw [c2];simpa using c1),gd_t (by omega),gd_t (by omega)]
     cases e:mget b f.1 with
     | none=>simp
     | some o =>
      simp only [Option.isSome_some,if_true,Option.getD_some]
      by_cases c3:f.2.2 < o.far
      ·rw [if_pos c3,if_pos (.inl c3)]
       try simp
      ·rw [if_neg c3]
       by_cases c4:f.2.2=o.far
       ·rw [if_pos c4,X.lower_eq,Ah]
        by_cases c5:X.lowB C[k] o.p=true
        ·rw [if_pos c5,if_pos (.inr ⟨c4,c5⟩)]
        ·rw [if_neg c5,if_neg (fun h=>h.elim c3 (fun h=>c5 h.2))]
       ·rw [if_neg c4,if_neg (by simp),if_neg (fun h=>h.elim c3 (fun h=>c4 h.1))]
    ·rw [if_neg c2,if_pos (.inr (by simpa using c2))]
  ·right
   rw [if_neg (by omega)]
   have:k=C.length:=by omega
   subst this
   exact ⟨_,rfl,by rw [List.take_length];rfl⟩) (([]:List (Int × Bm)),0) ⟨0,by omega,rfl⟩
 obtain ⟨t,ht,rfl⟩:=this
 exact ht
/-- One round of growing. -/
theorem Aw3:Rl l g C r=some (Vp g (gFit l r g) C,0):=by
 obtain ⟨hs,_⟩:=Ahk hc hg
 have hlen:=hc.len
 have hgl:=GOk.len hg
 have hbl:=Amr (Acw g (gFit l r g) C)
 unfold Rl
 rw [hs,Ah]
 dsimp only
 rw [if_pos rfl,jn_d,Ar5 hc hg,Ah]
 dsimp only
 unfold Wp
 rw [gd_t (by omega),Ah,jn_d]
 refine Anx (Acw g (gFit l r g) C).map g (fun q=>[q.2.p.Id]) (fun q=>by simp) (fun s=>rfl) (fun s q hq hlt=>?_) (fun w hw=>?_)
 ·unfold Sx
  rw [gd_t (by omega)]
 ·rw [← List.map_eq_flatMap] at hw
  have:=hw.length_eq
  rw [List.length_map] at this
  dsimp only
  rw [gd_t (by rw [List.length_append];omega)]
  unfold Vp adds
  rw [X.sortI_perm (hw.append_left g)]
theorem Aw4:GOk C (Vp g (gFit l r g) C):=⟨Al9 hg.nd hc.fit.id,fun _ hi=>Arm hg.src hi⟩
end
/-- What is known of the ground: it is grown from the seeds, and no candidate fits it. -/
structure Grnd (l:List Aa) (r:Ag) (C:List Aa) (g:List Int):Prop where
 ok:GOk C g
 srt:g.Pairwise (·≤·)
 seed:∀ i∈X.seedL l r,i∈g
 again:Vp g (gFit l r g) C=g
 stop:Aez g (gFit l r g) C=[]
theorem Azj {l:List Aa} {r:Ag} (hl:X.validL l=true) (hr:X.okRules r=true) (hn:l.length≤300):∃ C,Eo l r=some C∧Ctx l r C:=by
 obtain ⟨C,h1,h2⟩:=X.cand_eq hl hr
 exact ⟨C,h2,hl,hr,hn,h1⟩
section
variable {l:List Aa} {r:Ag} {C:List Aa} (hc:Ctx l r C)
include hc
theorem Aw5:Px C r=some (X.seedL l r):=by
 rw [X.seeds_eq hc.fit hc.rul]
 unfold X.seedL
 rw [X.sortI_perm ((X.bot_perm (X.nodup_of_ids hc.fit.id) hc.perm).map _)]
theorem Aw6:GOk C (X.seedL l r):=by
 have hf:=X.Fit.cand (l:=l) (r:=r) hc.val
 have hb:X.Fit (X.bot (X.ceF r.Cell) (X.candL l r)):=hf.filter _
 refine ⟨(X.perm_sortI _).nodup_iff.2 hb.id,fun i hi=>?_⟩
 obtain ⟨p,hp,rfl⟩:=List.mem_map.1 ((X.perm_sortI _).mem_iff.1 hi)
 exact ⟨p,hc.perm.mem_iff.2 (X.mem_bot.1 hp).1,rfl⟩
theorem Ams (hC:Eo l r=some C):∃ g,Im l r=some g∧Grnd l r C g:=by
 have:=Du (B:=Mx l C r) (fun g=>C.length-g.length) (fun g=>GOk C g∧g.Pairwise (·≤·)∧∀ i∈X.seedL l r,i∈g) (fun g=>Grnd l r C g) (fun g hs=>by
  obtain ⟨h1,h2,h3⟩:=hs
  have h4:=Aw4 hc h1
  unfold Mx
  rw [Aw3 hc h1,Ah,jn_d]
  dsimp only
  rw [if_pos rfl]
  by_cases e:(Vp g (gFit l r g) C).length=g.length
  ·right
   obtain ⟨e1,e2⟩:=An0 h2 e
   rw [if_pos (decide_eq_true (by omega))]
   exact ⟨g,rfl,h1,h2,h3,e1,e2⟩
  ·left
   rw [if_neg (by rw [decide_eq_true_eq];omega)]
   have l1:=GOk.len h4
   have l2:=Aix (g:=g) (F:=gFit l r g) (C:=C)
   exact ⟨_,rfl,⟨h4,Akf,fun i hi=>Arn (h3 i hi)⟩,by omega⟩) (X.seedL l r) ⟨Aw6 hc,X.sorted_sortI _,fun i hi=>hi⟩
 obtain ⟨g,e,h⟩:=this
 refine ⟨g,?_,h⟩
 unfold Im
 rw [hC,Ah,Aw5 hc,Ah,e,Ah]
/-- There is ground where there are seeds. -/
theorem Grnd.pos {g:List Int} (h:Grnd l r C g):0 < g.length↔0 < (X.seedL l r).length:=by
 constructor
 ·intro h0
  obtain ⟨i,hi⟩:=List.exists_mem_of_length_pos h0
  obtain ⟨p,hp,_⟩:=h.ok.src i hi
  have:X.bot (X.ceF r.Cell) (X.candL l r)≠[]:=Ay4 (List.ne_nil_of_mem (hc.bot hp))
  unfold X.seedL
  rw [(X.perm_sortI _).length_eq,List.length_map]
  exact List.length_pos_iff.2 this
 ·intro h0
  obtain ⟨i,hi⟩:=List.exists_mem_of_length_pos h0
  exact List.length_pos_of_mem (h.seed i hi)
end
end Go.Proofs.YtbkobeeileemjaaGreat
/- Walks of the program, with their plain functions: LabelFixed. -/
namespace Go.Proofs.YtbkobeeileemjaaGreat
open Go Go.RowKit

end Go.Proofs.YtbkobeeileemjaaGreat
/- Walks of the program, with their plain functions: LabelRefuses. -/
namespace Go.Proofs.YtbkobeeileemjaaGreat
open Go Go.RowKit
theorem Bag (a0:Int) (a1:Int) (a2:Int) (b0:Int) (b1:Int) (b2:Int):∀ w,(Op.equalIn 10000 26 (.agg #[.int .i64 (a0),.int .i64 (a1),.int .i64 (a2)]) (.agg #[.int .i64 (b0),.int .i64 (b1),.int .i64 (b2)])).run Tryz.prog w = .ok ((((a0) == (b0)) && (((a1) == (b1)) && (((a2) == (b2)) && true)))) w :=
 EqI.array (c:=1) Tryz.underlying26 (show Tryz.prog.info? 3=some Tryz.t3 from by kernel_rfl) (by kernel_rfl) (.cons (fun w=>by kernel_rfl) (fun w=>by kernel_rfl) (fun w=>run_equalIn_int w 9998 3 .i64 .i64 _ _ Tryz.underlying3) (.cons (fun w=>by kernel_rfl) (fun w=>by kernel_rfl) (fun w=>run_equalIn_int w 9998 3 .i64 .i64 _ _ Tryz.underlying3) (.cons (fun w=>by kernel_rfl) (fun w=>by kernel_rfl) (fun w=>run_equalIn_int w 9998 3 .i64 .i64 _ _ Tryz.underlying3) (EqI.nil))))
instance (a0:Int) (a1:Int) (a2:Int) (b0:Int) (b1:Int) (b2:Int):EqSI Tryz.prog 26 [.int .i64 (a0),.int .i64 (a1),.int .i64 (a2)] [.int .i64 (b0),.int .i64 (b1),.int .i64 (b2)] ((((a0) == (b0)) && (((a1) == (b1)) && (((a2) == (b2)) && true)))):=⟨Bag _ _ _ _ _ _,by kernel_rfl⟩
theorem Bah (a0:Int) (a1:Int) (b0:Int) (b1:Int):∀ w,(Op.equalIn 10000 97 (.agg #[.int .i64 (a0),.int .i64 (a1)]) (.agg #[.int .i64 (b0),.int .i64 (b1)])).run Tryz.prog w = .ok ((((a0) == (b0)) && (((a1) == (b1)) && true))) w :=
 EqI.array (c:=1) Tryz.underlying97 (show Tryz.prog.info? 3=some Tryz.t3 from by kernel_rfl) (by kernel_rfl) (.cons (fun w=>by kernel_rfl) (fun w=>by kernel_rfl) (fun w=>run_equalIn_int w 9998 3 .i64 .i64 _ _ Tryz.underlying3) (.cons (fun w=>by kernel_rfl) (fun w=>by kernel_rfl) (fun w=>run_equalIn_int w 9998 3 .i64 .i64 _ _ Tryz.underlying3) (EqI.nil)))
instance (a0:Int) (a1:Int) (b0:Int) (b1:Int):EqSI Tryz.prog 97 [.int .i64 (a0),.int .i64 (a1)] [.int .i64 (b0),.int .i64 (b1)] ((((a0) == (b0)) && (((a1) == (b1)) && true))):=⟨Bah _ _ _ _,by kernel_rfl⟩
theorem Aw7:Ca Tryz.prog 40 2 2:=.mk Tryz.underlying40 rfl rfl (show Tryz.prog.info? 23=some Tryz.t23 from by kernel_rfl) (show Tryz.t23.size=1 from by kernel_rfl) rfl
instance:Cs Tryz.prog 40 2 2:=⟨Aw7⟩
theorem Bai:Lg Tryz.prog 23:=.mk Tryz.underlying23 rfl (show Tryz.prog.info? 23=some Tryz.t23 from by kernel_rfl) (by kernel_rfl)
instance:OneI Tryz.prog 23:=⟨Bai⟩
end Go.Proofs.YtbkobeeileemjaaGreat
/- LabelWithin, LabelPoints in plain Lean. -/
namespace Go.Proofs.YtbkobeeileemjaaGreat.X
open Go Go.RowKit
end Go.Proofs.YtbkobeeileemjaaGreat.X
/- LabelFixed. -/
namespace Go.Proofs.YtbkobeeileemjaaGreat
open Go Go.RowKit Go.Sort
def Ad4 (l:List Aa) (r:Ag) (n:Nat):Prop:=l.length≤n∧X.validL l=true∧X.okRules r=true
instance (l:List Aa) (r:Ag) (n:Nat):Decidable (Ad4 l r n):=by unfold Ad4;infer_instance
theorem Aw8 (l:List Aa) (r:Ag) (n:Nat):Jp l r (n:Int)=some (decide (Ad4 l r n)):=by
 unfold Jp
 rw [jn_d]
 by_cases c:l.length≤n
 ·rw [if_pos (by omega),X.rvalid_eq,Ah]
  by_cases c2:X.validL l=true
  ·rw [if_pos c2,X.rrules_eq,Ah]
   congr 1
   rw [Bool.eq_iff_iff,decide_eq_true_eq]
   exact ⟨fun h=>⟨c,c2,h⟩,fun h=>h.2.2⟩
  ·rw [if_neg c2,decide_eq_false (fun h:Ad4 l r n=>c2 h.2.1)]
 ·rw [if_neg (by omega),decide_eq_false (fun h:Ad4 l r n=>c h.1)]
section
variable {l:List Aa} {r:Ag} {C:List Aa} (hc:Ctx l r C) {g:List Int} (hg:Grnd l r C g)
include hc
end
end Go.Proofs.YtbkobeeileemjaaGreat
/- LabelRefuses. -/
namespace Go.Proofs.YtbkobeeileemjaaGreat
open Go Go.RowKit Go.Sort
section
variable {l:List Aa} {r:Ag} {C:List Aa} (hc:Ctx l r C)
include hc
end
end Go.Proofs.YtbkobeeileemjaaGreat
