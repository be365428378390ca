/- M1 M0 V1 V2 V3 V4 V5 V6 in one. -/
import Derived.Test.YtbkobeeileemjaaGreatZK
import Derived.Test.YtbkobeeileemjaaGreatLL
import Derived.Test.YtbkobeeileemjaaGreatE2
import Derived.Test.YtbkobeeileemjaaGreatE3
/- Convex chains along a direction. -/
namespace Go.Proofs.YtbkobeeileemjaaGreat
open Go Go.RowKit
def ph (α β:Int) (p:Ad):Int:=α*p.X+β*p.Y
theorem Aru (α β:Int) (a b c d:Ad):(ph α β b-ph α β a)*crs a c d+(ph α β c-ph α β a)*crs a d b+(ph α β d-ph α β a)*crs a b c=0:=by unfold ph crs;grind
section
variable {α β:Int}
theorem Aah {x y:Int} (hx:0 < x) (h:0 < x*y):0 < y:=by
 rcases Int.lt_trichotomy y 0 with g | g | g
 ·have:=Int.mul_neg_of_pos_of_neg hx g;omega
 ·subst g;simp at h
 ·exact g
theorem Rg {x y:Int} (hx:0 < x) (h:0≤x*y):0≤y:=by
 rcases Int.lt_or_le y 0 with g | g
 ·have:=Int.mul_neg_of_pos_of_neg hx g;omega
 ·exact g
end
section
variable (P:Int→Ad) (α β:Int)
/-- All places of the list lie left of the edge or on it. -/
def Sup (D:List Int) (a b:Int):Prop:=ph α β (P a) < ph α β (P b)∧∀ k∈D,0 < crs (P a) (P b) (P k)∨(crs (P a) (P b) (P k)=0∧ph α β (P a)≤ph α β (P k)∧ph α β (P k)≤ph α β (P b))
/-- The chain (the top first) has edges of that kind alone. -/
def Arv (Q:Int→Int→Prop):List Int→Prop
 | b::a::r=>Q a b∧Arv Q (a::r)
 | _=>True
/-- A chain over the places that came so far. -/
structure ChainC (f:Int) (D s:List Int):Prop where
 sub:∀ x∈s,x∈D
 edge:Arv (Sup P α β D) s
 bot:∃ r,s=r++[f]
 low:∀ k∈D,k=f∨ph α β (P f) < ph α β (P k)
variable {P α β}
end
end Go.Proofs.YtbkobeeileemjaaGreat
/- Boxes, the order of places, the reference's scans: what the texts on the reference's mesh share with those on hulls (of M3, M4, M6). -/
namespace Go.Proofs.YtbkobeeileemjaaGreat
open Go Go.RowKit
/-- In the box of two places. -/
def Box (p q k:Ad):Prop:=min p.X q.X≤k.X∧k.X≤max p.X q.X∧min p.Y q.Y≤k.Y∧k.Y≤max p.Y q.Y
instance (p q k:Ad):Decidable (Box p q k):=by unfold Box;infer_instance
def lexA:Int:=2147483648
theorem Ajr {p q:Ad} (hp:okP p) (hq:okP q):ph lexA 1 p < ph lexA 1 q↔befP p q:=by unfold ph lexA okP befP at *;omega
theorem mid {a b c d:Int} (h0:0 < a) (h1:0≤b) (h2:b≤a) (h:a*c=d*b):(0≤d→0≤c∧c≤d)∧(d≤0→d≤c∧c≤0):=by
 constructor
 ·intro hd
  have e1:=Int.mul_nonneg hd h1
  have e2:=Int.mul_nonneg hd (show 0≤a-b by omega)
  refine ⟨Rg h0 (by omega),?_⟩
  have:0≤d-c:=Rg h0 (by rw [Int.mul_sub] at *;rw [Int.mul_comm a d];omega)
  omega
 ·intro hd
  have e1:=Int.mul_nonneg (show 0≤-d by omega) h1
  have e2:=Int.mul_nonneg (show 0≤-d by omega) (show 0≤a-b by omega)
  rw [Int.neg_mul] at e1 e2
  rw [Int.mul_sub] at e2
  constructor
  ·have:0≤c-d:=Rg h0 (by rw [Int.mul_sub,Int.mul_comm a d];omega)
   omega
  ·have:0≤-c:=Rg h0 (by rw [Int.mul_neg];omega)
   omega
theorem Aqr {p q k:Ad} (h:crs p q k=0) (h1:¬ befP k p) (h2:¬ befP q k):Box p q k:=by
 unfold befP at h1 h2
 unfold crs at h
 unfold Box
 by_cases e:p.X=q.X
 ·omega
 ·have:=mid (a:=q.X-p.X) (b:=k.X-p.X) (c:=k.Y-p.Y) (d:=q.Y-p.Y) (by omega) (by omega) (by omega) (by omega)
  rcases Int.le_total 0 (q.Y-p.Y) with g | g
  ·have:=this.1 g;omega
  ·have:=this.2 g;omega
theorem Box.swap {p q k:Ad} (h:Box p q k):Box q p k:=by unfold Box at *;omega
theorem Asj {p q k:Ad} (h:crs p q k=0) (h1:¬ befP q p) (h2:befP q k) (h3:¬ Dk p q):¬ Box p q k:=by
 intro hb
 unfold befP Dk at *
 unfold Box at hb
 unfold crs at h
 by_cases e:p.X=q.X
 ·omega
 ·have hk:k.X=q.X:=by omega
  rw [hk] at h
  have:(q.X-p.X)*(k.Y-q.Y)=0:=by grind
  rcases Int.mul_eq_zero.1 this with g | g <;> omega
variable {v:List Ae}
theorem Vc (hv:Gb v) {i j:Int} (hi:inN v.length i) (hj:inN v.length j) (h:i≠j):¬ Dk (plV v i) (plV v j):=fun g=>h (hv.dist i j hi hj g)
theorem Abl (a b c:Ad):crs a c b = -crs a b c:=by unfold crs;grind
theorem Aij {p q r:Ad} (hp:okP p) (hq:okP q) (hr:okP r):Io p q r=some (decide (crs p q r=0∧Box p q r)):=by
 unfold Io
 rw [jn_d,Xz hp hq hr,Ai]
 have e:Int.sign (crs p q r)=0↔crs p q r=0:=Int.sign_eq_zero_iff_zero
 by_cases h:crs p q r=0
 ·rw [if_pos (e.2 h)]
  unfold Box
  by_cases h1:min p.X q.X≤r.X
  ·rw [if_pos h1]
   by_cases h2:r.X≤max p.X q.X
   ·rw [if_pos h2]
    by_cases h3:min p.Y q.Y≤r.Y
    ·rw [if_pos h3];simp [h,h1,h2,h3]
    ·rw [if_neg h3];simp [h3]
   ·rw [if_neg h2];simp [h2]
  ·rw [if_neg h1];simp [h1]
 ·rw [if_neg (fun g=>h (e.1 g))];simp [h]
theorem Aex (p q:Ad):Gq p q=some (decide (befP p q)):=by
 unfold Gq befP
 rw [jn_d]
 by_cases h1:p.X < q.X
 ·rw [if_pos h1];simp [h1]
 ·rw [if_neg h1]
  by_cases h2:p.X=q.X
  ·rw [if_pos h2];simp [h2]
  ·rw [if_neg h2];simp [h1,h2]
theorem Ak9 (p:Ad):¬ befP p p:=by unfold befP;omega
theorem Abm {p q:Ad} (h:befP p q):¬ befP q p:=by unfold befP at *;omega
theorem Ne {i:Int} (hi:inN v.length i):∃ x,idx v i=some x∧(⟨x.X,x.Y⟩:Ad)=plV v i:=by
 obtain ⟨k,hk,rfl,f⟩:=Ip (v:=v) (i:=i) hi
 exact ⟨v[k],f,by unfold plV;rw [f]⟩
theorem first_eq (hn:v.length≤1024) {f:Int} (hf:inN v.length f) (low:∀ k,inN v.length k→k=f∨befP (plV v f) (plV v k)):Kt v=some f:=by
 unfold inN at hf
 unfold Kt
 rw [jn_d]
 have:=Cu (B:=Kb v) (fun s=>v.length-s.2.toNat) (fun s=>0≤s.2∧s.2≤(v.length:Int)∧inN v.length s.1∧(f < s.2→s.1=f)) (fun t=>t=f) (fun s hs=>by
  obtain ⟨b,k⟩:=s
  obtain ⟨h1,h2,h3,h4⟩:=hs
  simp only at h1 h2 h3 h4
  unfold Kb
  dsimp only
  by_cases hk:k < (v.length:Int)
  ·left
   obtain ⟨x,hx,px⟩:=Ne (v:=v) (i:=k) ⟨h1,hk⟩
   obtain ⟨y,hy,py⟩:=Ne (v:=v) (i:=b) h3
   rw [if_pos hk,jn_d,hx,Ai,hy,Ai]
   unfold Be
   rw [Ai,Ai,px,py,Aex,Ai,Bw (by omega) (by omega)]
   by_cases c:befP (plV v k) (plV v b)
   ·rw [if_pos (decide_eq_true c)]
    refine ⟨_,rfl,⟨by dsimp only;omega,by dsimp only;omega,⟨h1,hk⟩,fun g=>?_⟩,by dsimp only;omega⟩
    dsimp only at g ⊢
    by_cases e:f < k
    ·rw [h4 e] at c
     rcases low k ⟨h1,hk⟩ with e2 | e2
     ·exact e2
     ·exact absurd c (Abm e2)
    ·omega
   ·rw [if_neg (by simpa using c)]
    refine ⟨_,rfl,⟨by dsimp only;omega,by dsimp only;omega,h3,fun g=>?_⟩,by dsimp only;omega⟩
    dsimp only at g ⊢
    by_cases e:f < k
    ·exact h4 e
    ·have:k=f:=by omega
     rcases low b h3 with e2 | e2
     ·exact e2
     ·rw [this] at c;exact absurd e2 c
  ·right
   rw [if_neg hk]
   exact ⟨_,rfl,h4 (by omega)⟩) (0,0) ⟨by simp,by simp,⟨by simp,by simp only;omega⟩,fun g=>by simp only at g;omega⟩
 obtain ⟨t,ht,rfl⟩:=this
 rw [ht,Ai]
theorem Aqs (hv:Gb v) (hn:v.length≤1024):∃ b,Ly v=some b∧(b=true↔∀ k,2≤k→inN v.length k→crs (plV v 0) (plV v 1) (plV v k)=0):=by
 unfold Ly
 rw [jn_d]
 have:=Cu (B:=Lh v) (fun s=>v.length-s.toNat) (fun s=>2≤s∧∀ k,2≤k→k < s→inN v.length k→crs (plV v 0) (plV v 1) (plV v k)=0)
  (fun t=>(t = .inl ()∧∀ k,2≤k→inN v.length k→crs (plV v 0) (plV v 1) (plV v k)=0)∨(t = .inr false∧¬ ∀ k,2≤k→inN v.length k→crs (plV v 0) (plV v 1) (plV v k)=0)) (fun s hs=>by
  obtain ⟨h1,h2⟩:=hs
  unfold Lh
  by_cases hk:s < (v.length:Int)
  ·have hs':inN v.length s:=⟨by omega,hk⟩
   have h0':inN v.length 0:=⟨by omega,by omega⟩
   have h1':inN v.length 1:=⟨by omega,by omega⟩
   obtain ⟨x,hx,px⟩:=Ne (v:=v) h0'
   obtain ⟨y,hy,py⟩:=Ne (v:=v) h1'
   obtain ⟨z,hz,pz⟩:=Ne (v:=v) hs'
   rw [if_pos hk,hx,Ai,hy,Ai,hz,Ai]
   unfold Be
   rw [Ai,Ai,Ai,px,py,pz,Xz (hv.ok _ h0') (hv.ok _ h1') (hv.ok _ hs'),Ai,Bw (by omega) (by omega)]
   have s0:Int.sign (crs (plV v 0) (plV v 1) (plV v s))=0↔crs (plV v 0) (plV v 1) (plV v s)=0:=Int.sign_eq_zero_iff_zero
   by_cases c:crs (plV v 0) (plV v 1) (plV v s)=0
   ·left
    rw [if_pos (s0.2 c)]
    refine ⟨_,rfl,⟨by omega,fun k k1 k2 k3=>?_⟩,by omega⟩
    by_cases e:k=s
    ·rw [e];exact c
    ·exact h2 k k1 (by omega) k3
   ·right
    rw [if_neg (fun g=>c (s0.1 g))]
    exact ⟨_,rfl,.inr ⟨rfl,fun g=>c (g s h1 hs')⟩⟩
  ·right
   rw [if_neg hk]
   exact ⟨_,rfl,.inl ⟨rfl,fun k k1 k2=>h2 k k1 (by have:=k2.2;omega) k2⟩⟩) 2 ⟨by omega,fun k k1 k2=>by omega⟩
 obtain ⟨t,ht,g | g⟩:=this
 ·obtain ⟨rfl,g⟩:=g
  rw [ht,Ai]
  exact ⟨true,rfl,fun _=>g,fun _=>rfl⟩
 ·obtain ⟨rfl,g⟩:=g
  rw [ht,Ai]
  exact ⟨false,rfl,fun h=>(by cases h),fun h=>absurd h g⟩
end Go.Proofs.YtbkobeeileemjaaGreat
/- The reference's apex: the triangle to the left of a side whose circle is the least; ties by the first place. -/
namespace Go.Proofs.YtbkobeeileemjaaGreat
open Go Go.RowKit
variable {v:List Ae}
/-- The third corner of the triangle to the left of a side, if there is one. -/
def Top (v:List Ae) (a b c:Int):Prop:=inN v.length c∧0 < crs (plV v a) (plV v b) (plV v c)∧∀ d,inN v.length d→0 < crs (plV v a) (plV v b) (plV v d)→d≠c→DH (plV v) (hV v) a b c d < 0
theorem Aqt (a b c d:Int):DH (plV v) (hV v) a b d c = -DH (plV v) (hV v) a b c d:=Ai3 _ _ _ _ _ _ _ _
theorem Top.unique {a b c d:Int} (h:Top v a b c) (k:Top v a b d):c=d:=by
 by_cases e:c=d
 ·exact e
 ·have h1:=h.2.2 d k.1 k.2.1 (fun g=>e g.symm)
  have h2:=k.2.2 c h.1 h.2.1 e
  rw [Aqt] at h2
  omega
theorem Del.top {a b c:Int} (h:Del v a b c):Top v a b c:=by
 obtain ⟨h1,h2,h3,h4,h5⟩:=h
 refine ⟨h3,h4,fun d hd hp hne=>h5 d hd (fun e=>?_) (fun e=>?_) hne⟩
 ·subst e;rw [Fh] at hp;omega
 ·subst e;rw [De] at hp;omega
theorem Del.unique {a b c d:Int} (h:Del v a b c) (k:Del v a b d):c=d:=h.top.unique k.top
/-- Across a side of a triangle. -/
theorem Top.across {a b c e:Int} (h:Del v a b c) (k:Top v b a e):Del v b a e:=by
 obtain ⟨h1,h2,h3,h4,h5⟩:=h
 obtain ⟨k1,k2,k3⟩:=k
 refine ⟨h2,h1,k1,k2,fun d hd n1 n2 n3=>?_⟩
 by_cases hp:0 < crs (plV v b) (plV v a) (plV v d)
 ·exact k3 d hd hp n3
 have hx:0≤crs (plV v a) (plV v b) (plV v d):=by rw [Df] at hp;omega
 have he:crs (plV v a) (plV v b) (plV v e) < 0:=by rw [Df] at k2;omega
 have hne:e≠c:=fun g=>by rw [g] at he;omega
 have hea:e≠a:=fun g=>by rw [g,Fh] at he;omega
 have heb:e≠b:=fun g=>by rw [g,De] at he;omega
 have hD:=h5 e k1 hea heb hne
 obtain ⟨p1,p2⟩:=Aan (P:=plV v) (H:=hV v) (a:=a) (b:=b) (c:=c) (d:=d) (h5 d hd)
 have key:=Wf (hV v a) (hV v b) (hV v c) (hV v e) (plV v a) (plV v b) (plV v c) (plV v e) (plV v d)
 unfold DH at hD ⊢
 rw [Ae7]
 generalize plt (hV v b) (hV v a) (hV v e) (plV v b) (plV v a) (plV v e) (plV v d)=L at *
 generalize plt (hV v a) (hV v b) (hV v c) (plV v a) (plV v b) (plV v c) (plV v d)=M at *
 generalize Dt (hV v a) (hV v b) (hV v c) (hV v e) (plV v a) (plV v b) (plV v c) (plV v e)=D at *
 have hlt:M*crs (plV v b) (plV v a) (plV v e)+D*crs (plV v a) (plV v b) (plV v d) < hV v d*crs (plV v a) (plV v b) (plV v c)*crs (plV v b) (plV v a) (plV v e):=by
  by_cases g:d=c
  ·subst g
   have e1:=Int.mul_le_mul_of_nonneg_right p1 (Int.le_of_lt k2)
   have e2:=Int.mul_neg_of_neg_of_pos hD h4
   omega
  ·have e1:=Int.mul_lt_mul_of_pos_right (p2 n2 n1 g) k2
   have e2:=Int.mul_nonpos_of_nonpos_of_nonneg (Int.le_of_lt hD) hx
   omega
 have e3:(L-hV v d*crs (plV v b) (plV v a) (plV v e))*crs (plV v a) (plV v b) (plV v c) < 0:=by
  have:(L-hV v d*crs (plV v b) (plV v a) (plV v e))*crs (plV v a) (plV v b) (plV v c)=L*crs (plV v a) (plV v b) (plV v c)-hV v d*crs (plV v a) (plV v b) (plV v c)*crs (plV v b) (plV v a) (plV v e):=by grind
  omega
 rcases Int.lt_or_le (L-hV v d*crs (plV v b) (plV v a) (plV v e)) 0 with g | g
 ·exact g
 ·have:=Int.mul_nonneg g (Int.le_of_lt h4);omega
/-- At a side of the hull. -/
theorem Top.hull {a b c:Int} (hv:Gb v) (ha:inN v.length a) (hb:inN v.length b) (hl:∀ d,inN v.length d→0≤crs (plV v a) (plV v b) (plV v d))
  (ho:∀ d,inN v.length d→d≠a→d≠b→crs (plV v a) (plV v b) (plV v d)=0→∀ x,0 < crs (plV v a) (plV v b) x→crs (plV v b) x (plV v d) < 0) (k:Top v a b c):Del v a b c:=by
 obtain ⟨k1,k2,k3⟩:=k
 refine ⟨ha,hb,k1,k2,fun d hd n1 n2 n3=>?_⟩
 by_cases hp:0 < crs (plV v a) (plV v b) (plV v d)
 ·exact k3 d hd hp n3
 have h0:crs (plV v a) (plV v b) (plV v d)=0:=by have:=hl d hd;omega
 rw [← Aao]
 exact Yo hv b c a d hb k1 ha hd (by rw [Co];exact k2) (ho d hd n1 n2 h0 _ k2) (.inr (by omega))
/-! ### circles through two places -/
def dtp (a b x:Ad):Int:=(x.X-a.X)*(x.X-b.X)+(x.Y-a.Y)*(x.Y-b.Y)
theorem Wc (a b c d:Ad):inC a b c d=dtp a b c*crs a b d-dtp a b d*crs a b c:=by unfold inC dtp lft crs;grind
theorem Ag5 {a b c d e:Ad} (hc:0 < crs a b c) (hd:0 < crs a b d) (he:0 < crs a b e) (h1:0 < inC a b c d) (h2:inC a b c e≤0):inC a b d e < 0:=by
 rw [Wc] at *
 -- dtp d / crs d < dtp c / crs c <= dtp e / crs e
 have e1:dtp a b d*crs a b c < dtp a b c*crs a b d:=by omega
 have e2:dtp a b c*crs a b e≤dtp a b e*crs a b c:=by omega
 have m1:=Int.mul_lt_mul_of_pos_right e1 he
 have m2:=Int.mul_le_mul_of_nonneg_right e2 (Int.le_of_lt hd)
 have m3:(dtp a b d*crs a b e)*crs a b c < (dtp a b e*crs a b d)*crs a b c:=by
  have r1:(dtp a b d*crs a b e)*crs a b c=dtp a b d*crs a b c*crs a b e:=by grind
  have r2:dtp a b c*crs a b d*crs a b e=dtp a b c*crs a b e*crs a b d:=by grind
  have r3:(dtp a b e*crs a b d)*crs a b c=dtp a b e*crs a b c*crs a b d:=by grind
  omega
 have:=Int.lt_of_mul_lt_mul_right m3 (Int.le_of_lt hc)
 omega
theorem Aik {a b c d e:Ad} (hc:0 < crs a b c) (h1:inC a b c d=0):inC a b c e*crs a b d=inC a b d e*crs a b c:=by
 rw [Wc a b c e,Wc a b d e]
 rw [Wc] at h1
 have e1:dtp a b c*crs a b d=dtp a b d*crs a b c:=by omega
 have r1:(dtp a b c*crs a b e-dtp a b e*crs a b c)*crs a b d=dtp a b c*crs a b d*crs a b e-dtp a b e*crs a b c*crs a b d:=by grind
 rw [r1,e1]
 grind
theorem Yk {a b c d e:Ad} (hc:0 < crs a b c) (hd:0 < crs a b d) (h1:inC a b c d=0):(inC a b c e < 0→inC a b d e < 0)∧(inC a b c e=0→inC a b d e=0):=by
 have h:=Aik (e:=e) hc h1
 constructor
 ·intro g
  rcases Int.lt_or_le (inC a b d e) 0 with k | k
  ·exact k
  ·have e1:=Int.mul_nonneg k (Int.le_of_lt hc)
   have e2:=Int.mul_neg_of_neg_of_pos g hd
   omega
 ·intro g
  rw [g,Int.zero_mul] at h
  rcases Int.mul_eq_zero.1 h.symm with k | k
  ·exact k
  ·omega
/-- Two places on one ray from a, on one circle through a and b. -/
theorem Ajs {a b c d:Ad} (hc:0 < crs a b c) (hd:0 < crs a b d) (h0:inC a b c d=0) (h1:crs a c d=0):Dk c d:=by
 have hca:¬ Dk c a:=fun e=>by have:=Abv e;subst this;rw [Fh] at hc;omega
 have L1:=Ahg hca
 have e0:lft c a*crs a b d=lft d a*crs a b c:=by
  have:inC a b c d=lft b a*crs c a d+lft c a*crs a b d-lft d a*crs a b c:=by unfold inC lft crs;grind
  rw [h0,Df,h1] at this
  simp only [Int.neg_zero,Int.mul_zero,Int.zero_add] at this
  omega
 have ex:crs a b c*(d.X-a.X)=crs a b d*(c.X-a.X):=by
  have:crs a b c*(d.X-a.X)-crs a b d*(c.X-a.X) = -(b.X-a.X)*crs a c d:=by unfold crs;grind
  rw [h1,Int.mul_zero] at this
  omega
 have ey:crs a b c*(d.Y-a.Y)=crs a b d*(c.Y-a.Y):=by
  have:crs a b c*(d.Y-a.Y)-crs a b d*(c.Y-a.Y) = -(b.Y-a.Y)*crs a c d:=by unfold crs;grind
  rw [h1,Int.mul_zero] at this
  omega
 generalize hk1:crs a b c=k1 at *
 generalize hk2:crs a b d=k2 at *
 have e2:k1*(k1*lft d a)=k2*(k2*lft c a):=by
  unfold lft
  have x2:(k1*(d.X-a.X))*(k1*(d.X-a.X))=(k2*(c.X-a.X))*(k2*(c.X-a.X)):=by rw [ex]
  have y2:(k1*(d.Y-a.Y))*(k1*(d.Y-a.Y))=(k2*(c.Y-a.Y))*(k2*(c.Y-a.Y)):=by rw [ey]
  grind
 have e3:(lft c a*k2)*(k1-k2)=0:=by
  have:k1*(k1*lft d a)=k1*(lft c a*k2):=by rw [e0,Int.mul_comm k1 (lft d a)]
  grind
 have e4:k1=k2:=by
  rcases Int.mul_eq_zero.1 e3 with g | g
  ·rcases Int.mul_eq_zero.1 g with g | g <;> omega
  ·omega
 subst e4
 have gx:=Int.eq_of_mul_eq_mul_left (by omega) ex
 have gy:=Int.eq_of_mul_eq_mul_left (by omega) ey
 unfold Dk
 omega
/-- On a circle: in order around a, in order around b. -/
theorem Aoh {a b c d:Ad} (hc:0 < crs a b c) (h0:inC a b c d=0) (h1:0 < crs a c d) (hd:0 < crs a b d):0 < crs b c d:=by
 rcases Int.lt_or_le 0 (crs b c d) with g | g
 ·exact g
 ·have:=Ya (a:=c) (b:=a) (c:=b) (d:=d) (by rw [← Co];exact hc) (by rw [Df];omega) g
  rw [← Adu,h0] at this
  omega
end Go.Proofs.YtbkobeeileemjaaGreat
/- The reference's apex: the best places, their order around a, and who cuts off whom. -/
namespace Go.Proofs.YtbkobeeileemjaaGreat
open Go Go.RowKit
variable {v:List Ae} {a b:Int}
/-- The best ones of the places before k. -/
structure Best (v:List Ae) (a b k:Int) (s:List Int):Prop where
 mem:∀ c∈s,inN v.length c∧c < k∧0 < crs (plV v a) (plV v b) (plV v c)
 none:s=[]→∀ d,inN v.length d→d < k→crs (plV v a) (plV v b) (plV v d)≤0
 top:∀ c∈s,∀ d,inN v.length d→d < k→0 < crs (plV v a) (plV v b) (plV v d)→(inC (plV v a) (plV v b) (plV v c) (plV v d) < 0∧d ∉ s)∨(inC (plV v a) (plV v b) (plV v c) (plV v d)=0∧d∈s)
 nd:s.Nodup
theorem Best.nil:Best v a b 0 []:=⟨fun c h=>(by cases h),fun _ d hd h=>by unfold inN at hd;omega,fun c h=>(by cases h),List.nodup_nil⟩
theorem Best.skip {k:Int} {s:List Int} (h:Best v a b k s) (hk:crs (plV v a) (plV v b) (plV v k)≤0):Best v a b (k+1) s:=by
 refine ⟨fun c hc=>?_,fun e d hd hl=>?_,fun c hc d hd hl hp=>?_,h.nd⟩
 ·obtain ⟨h1,h2,h3⟩:=h.mem c hc
  exact ⟨h1,by omega,h3⟩
 ·by_cases g:d=k
  ·subst g;exact hk
  ·exact h.none e d hd (by omega)
 ·by_cases g:d=k
  ·subst g;omega
  ·exact h.top c hc d hd (by omega) hp
theorem Ail (a b c:Ad):inC a b c c=0:=by unfold inC lft crs;grind
theorem Best.one {k:Int} (hk:inN v.length k) (hp:0 < crs (plV v a) (plV v b) (plV v k)) (ho:∀ d,inN v.length d→d < k→0 < crs (plV v a) (plV v b) (plV v d)→inC (plV v a) (plV v b) (plV v k) (plV v d) < 0):Best v a b (k+1) [k]:=by
 refine ⟨fun c hc=>?_,fun e=>(by cases e),fun c hc d hd hl hq=>?_,by simp⟩
 ·rw [List.mem_singleton] at hc
  subst hc
  exact ⟨hk,by omega,hp⟩
 ·rw [List.mem_singleton] at hc
  subst hc
  by_cases g:d=c
  ·subst g;exact .inr ⟨Ail _ _ _,List.mem_singleton.2 rfl⟩
  ·exact .inl ⟨ho d hd (by omega) hq,by simpa using g⟩
theorem Best.first {k:Int} (h:Best v a b k []) (hk:inN v.length k) (hp:0 < crs (plV v a) (plV v b) (plV v k)):Best v a b (k+1) [k] :=
 Best.one hk hp fun d hd hl hq=>by have:=h.none rfl d hd hl;omega
theorem Best.better {k c:Int} {s:List Int} (h:Best v a b k s) (hk:inN v.length k) (hp:0 < crs (plV v a) (plV v b) (plV v k)) (hc:c∈s) (hi:0 < inC (plV v a) (plV v b) (plV v c) (plV v k)):Best v a b (k+1) [k] :=
 Best.one hk hp fun d hd hl hq=>Ag5 (h.mem c hc).2.2 hp hq hi (by rcases h.top c hc d hd hl hq with g | g <;> omega)
theorem Best.worse {k c:Int} {s:List Int} (h:Best v a b k s) (hc:c∈s) (hi:inC (plV v a) (plV v b) (plV v c) (plV v k) < 0):Best v a b (k+1) s:=by
 refine ⟨fun x hx=>?_,fun e=>(by rw [e] at hc;cases hc),fun x hx d hd hl hp=>?_,h.nd⟩
 ·obtain ⟨h1,h2,h3⟩:=h.mem x hx
  exact ⟨h1,by omega,h3⟩
 ·by_cases g:d=k
  ·subst g
   refine .inl ⟨?_,fun e=>?_⟩
   ·obtain ⟨h1,h2,h3⟩:=h.mem x hx
    obtain ⟨q1,q2,q3⟩:=h.mem c hc
    have h0:inC (plV v a) (plV v b) (plV v c) (plV v x)=0:=by
     rcases h.top c hc x h1 h2 h3 with g | g
     ·exact absurd hx g.2
     ·exact g.1
    exact (Yk q3 h3 h0).1 hi
   ·have:=(h.mem d e).2.1;omega
  ·exact h.top x hx d hd (by omega) hp
theorem Best.tie {k c:Int} {s:List Int} (h:Best v a b k s) (hk:inN v.length k) (hp:0 < crs (plV v a) (plV v b) (plV v k)) (hc:c∈s) (hi:inC (plV v a) (plV v b) (plV v c) (plV v k)=0):Best v a b (k+1) (s++[k]):=by
 have same:∀ x∈s,inC (plV v a) (plV v b) (plV v x) (plV v k)=0:=fun x hx=>by
  obtain ⟨h1,h2,h3⟩:=h.mem x hx
  obtain ⟨q1,q2,q3⟩:=h.mem c hc
  have h0:inC (plV v a) (plV v b) (plV v c) (plV v x)=0:=by
   rcases h.top c hc x h1 h2 h3 with g | g
   ·exact absurd hx g.2
   ·exact g.1
  exact (Yk q3 h3 h0).2 hi
 refine ⟨fun x hx=>?_,fun e=>(by simp at e),fun x hx d hd hl hq=>?_,?_⟩
 ·rcases List.mem_append.1 hx with hx | hx
  ·obtain ⟨h1,h2,h3⟩:=h.mem x hx
   exact ⟨h1,by omega,h3⟩
  ·rw [List.mem_singleton] at hx
   subst hx
   exact ⟨hk,by omega,hp⟩
 ·by_cases g:d=k
  ·subst g
   refine .inr ⟨?_,by simp⟩
   rcases List.mem_append.1 hx with hx | hx
   ·exact same x hx
   ·rw [List.mem_singleton] at hx
    subst hx
    exact Ail _ _ _
  ·have hnk:d ∉ [k]:=by simpa using g
   rcases List.mem_append.1 hx with hx | hx
   ·rcases h.top x hx d hd (by omega) hq with ⟨g1,g2⟩ | ⟨g1,g2⟩
    ·exact .inl ⟨g1,fun e=>(List.mem_append.1 e).elim g2 hnk⟩
    ·exact .inr ⟨g1,List.mem_append.2 (.inl g2)⟩
   ·rw [List.mem_singleton] at hx
    subst hx
    obtain ⟨q1,q2,q3⟩:=h.mem c hc
    rcases h.top c hc d hd (by omega) hq with ⟨g1,g2⟩ | ⟨g1,g2⟩
    ·exact .inl ⟨(Yk q3 hp hi).1 g1,fun e=>(List.mem_append.1 e).elim g2 hnk⟩
    ·exact .inr ⟨(Yk q3 hp hi).2 g1,List.mem_append.2 (.inl g2)⟩
 ·rw [List.nodup_append]
  refine ⟨h.nd,by simp,fun x hx y hy e=>?_⟩
  rw [List.mem_singleton] at hy
  subst hy
  subst e
  have:=(h.mem x hx).2.1
  omega
/-- Places to the left of a-b, on one circle with a and b. -/
structure Circ (v:List Ae) (a b:Int) (l:List Int):Prop where
 mem:∀ c∈l,inN v.length c∧0 < crs (plV v a) (plV v b) (plV v c)
 on:∀ c∈l,∀ d∈l,inC (plV v a) (plV v b) (plV v c) (plV v d)=0
 nd:l.Nodup
theorem Best.circ {k:Int} {s:List Int} (h:Best v a b k s):Circ v a b s :=
 ⟨fun c hc=>⟨(h.mem c hc).1,(h.mem c hc).2.2⟩,fun c hc d hd=>by
  obtain ⟨h1,h2,h3⟩:=h.mem d hd
  rcases h.top c hc d h1 h2 h3 with g | g
  ·exact absurd hd g.2
  ·exact g.1,h.nd⟩
theorem Circ.sub {l l':List Int} (h:Circ v a b l) (hs:∀ x∈l',x∈l) (hn:l'.Nodup):Circ v a b l':=⟨fun c hc=>h.mem c (hs c hc),fun c hc d hd=>h.on c (hs c hc) d (hs d hd),hn⟩
theorem Circ.ne0 {l:List Int} (hv:Gb v) (h:Circ v a b l) {c d:Int} (hc:c∈l) (hd:d∈l) (hne:c≠d):crs (plV v a) (plV v c) (plV v d)≠0:=fun e=>by
 obtain ⟨c1,c2⟩:=h.mem c hc
 obtain ⟨d1,d2⟩:=h.mem d hd
 exact hne (hv.dist c d c1 d1 (Ajs c2 d2 (h.on c hc d hd) e))
theorem Circ.trans {l:List Int} (h:Circ v a b l) {c d e:Int} (hc:c∈l) (hd:d∈l) (he:e∈l) (h1:0 < crs (plV v a) (plV v c) (plV v d)) (h2:0 < crs (plV v a) (plV v d) (plV v e)):0 < crs (plV v a) (plV v c) (plV v e):=by
 have p:=Rt (plV v a) (plV v b) (plV v c) (plV v d) (plV v e)
 have e1:=Int.mul_pos (h.mem c hc).2 h2
 have e2:=Int.mul_pos (h.mem e he).2 h1
 refine Po (x:=crs (plV v a) (plV v b) (plV v d)) ?_ (h.mem d hd).2
 omega
/-- .. in their order around a. -/
structure Ring (v:List Ae) (a b:Int) (l:List Int):Prop where
 circ:Circ v a b l
 ord:l.Pairwise fun x y=>0 < crs (plV v a) (plV v x) (plV v y)
/-- The answer for a ring. -/
def Ans (v:List Ae) (a b:Int) (l:List Int) (c:Int):Prop:=c∈l∧∀ d∈l,d≠c→DH (plV v) (hV v) a b c d < 0
section
variable (hv:Gb v) (ha:inN v.length a) (hb:inN v.length b) {l:List Int}
include hv ha hb
theorem Ring.ans_a {c:Int} {l:List Int} (h:Ring v a b (l++[c])) (hab:befP (plV v a) (plV v b)) (hf:∀ x∈l++[c],befP (plV v a) (plV v x)):Ans v a b (l++[c]) c:=by
 have hc:c∈l++[c]:=by simp
 refine ⟨hc,fun d hd hne=>?_⟩
 obtain ⟨c1,c2⟩:=h.circ.mem c hc
 obtain ⟨d1,d2⟩:=h.circ.mem d hd
 have hdl:d∈l:=by
  rcases List.mem_append.1 hd with g | g
  ·exact g
  ·exact absurd (List.mem_singleton.1 g) hne
 have hdc:0 < crs (plV v a) (plV v d) (plV v c):=(List.pairwise_append.1 h.ord).2.2 d hdl c (by simp)
 have:=Aoh d2 (h.circ.on d hd c hc) hdc c2
 refine (Tn hv ha hb c1 d1 (h.circ.on c hc d hd) hab (hf c hc) (hf d hd)).2 ?_
 rw [Abl]
 omega
theorem Ring.ans_b {c:Int} {l:List Int} (h:Ring v a b (c::l)) (hab:befP (plV v b) (plV v a)) (hf:∀ x∈c::l,befP (plV v b) (plV v x)):Ans v a b (c::l) c:=by
 have hc:c∈c::l:=by simp
 refine ⟨hc,fun d hd hne=>?_⟩
 obtain ⟨c1,c2⟩:=h.circ.mem c hc
 obtain ⟨d1,d2⟩:=h.circ.mem d hd
 have hdl:d∈l:=by
  rcases List.mem_cons.1 hd with g | g
  ·exact absurd g hne
  ·exact g
 have hcd:0 < crs (plV v a) (plV v c) (plV v d):=(List.pairwise_cons.1 h.ord).1 d hdl
 rw [← Aao]
 refine (Tn hv hb c1 ha d1 (by rw [Adu];exact h.circ.on c hc d hd) (hf c hc) hab (hf d hd)).2 ?_
 rw [Df]
 omega
theorem Ring.ans_cut {x c:Int} (h:Ring v a b l) (hx:x∈l) (hxa:befP (plV v x) (plV v a)) (hxb:befP (plV v x) (plV v b)) (hf:∀ y∈l,y≠x→befP (plV v x) (plV v y)) {l':List Int} (hl:∀ y,y∈l'↔y∈l∧y≠x) (hc:Ans v a b l' c):Ans v a b l c:=by
 obtain ⟨h1,h2⟩:=hc
 obtain ⟨hcl,hcx⟩:=(hl c).1 h1
 obtain ⟨c1,c2⟩:=h.circ.mem c hcl
 obtain ⟨x1,x2⟩:=h.circ.mem x hx
 refine ⟨hcl,fun d hd hne=>?_⟩
 by_cases e:d=x
 ·subst e
  exact Afe hv ha hb c1 x1 (h.circ.on c hcl d hx) hxa hxb (hf c hcl hcx) c2
 ·exact h2 d ((hl d).2 ⟨hd,e⟩) hne
/-- The answer of the ring of the best is the top. -/
theorem Best.ans {s l:List Int} {c:Int} (h:Best v a b v.length s) (hp:∀ x,x∈l↔x∈s) (hc:Ans v a b l c):Top v a b c:=by
 obtain ⟨h1,h2⟩:=hc
 have hcs:=(hp c).1 h1
 obtain ⟨c1,_,c2⟩:=h.mem c hcs
 refine ⟨c1,c2,fun d hd hq hne=>?_⟩
 rcases h.top c hcs d hd hd.2 hq with g | g
 ·exact Ahi hv ha hb c1 hd g.1
 ·exact h2 d ((hp d).2 g.2) hne
end
end Go.Proofs.YtbkobeeileemjaaGreat
/- The reference's triangles: the stack of open sides. -/
namespace Go.Proofs.YtbkobeeileemjaaGreat
open Go Go.RowKit
variable {v:List Ae} {p0 q0:Int}
def Pe (t:Am) (p q:Int):Prop:=(p=t.a0∧q=t.a1)∨(p=t.a1∧q=t.a2)∨(p=t.a2∧q=t.a0)
def Agg (v:List Ae) (t:Am):Prop:=t.a0 < t.a1∧t.a0 < t.a2∧Del v t.a0 t.a1 t.a2
theorem Agg.side {t:Am} (h:Agg v t) {p q:Int} (hs:Pe t p q):∃ e,Del v p q e:=by
 obtain ⟨_,_,h⟩:=h
 rcases hs with ⟨rfl,rfl⟩ | ⟨rfl,rfl⟩ | ⟨rfl,rfl⟩
 ·exact ⟨_,h⟩
 ·exact ⟨_,h.rot⟩
 ·exact ⟨_,h.rot.rot⟩
def noT (v:List Ae) (p q:Int):Prop:=∀ d,inN v.length d→crs (plV v p) (plV v q) (plV v d)≤0
def okS (v:List Ae) (p q:Int):Prop:=inN v.length p∧inN v.length q∧(noT v p q∨∃ e,Del v p q e)
/-- What the stack, the sides done and the triangles are. -/
structure Tr (v:List Ae) (p0 q0:Int) (op:List Ab) (dn:Int→Int→Prop) (out:List Am):Prop where
 mem:∀ t∈out,Agg v t
 nd:out.Nodup
 opn:∀ s∈op,okS v s.a0 s.a1
 don:∀ p q,dn p q→(∃ t∈out,Pe t p q)∨noT v p q
 all:∀ t∈out,∀ p q,Pe t p q→dn p q
 rev:∀ t∈out,∀ p q,Pe t p q→⟨q,p⟩∈op∨dn q p
 sta:⟨p0,q0⟩∈op∨dn p0 q0
 len:op.length≤3*out.length+1
theorem Tr.init {dn:Int→Int→Prop} (h:okS v p0 q0) (hd:∀ p q,¬ dn p q):Tr v p0 q0 [⟨p0,q0⟩] dn [] :=
 ⟨fun t h=>(by cases h),List.nodup_nil,fun s hs=>by rw [List.mem_singleton] at hs;subst hs;exact h,fun p q g=>absurd g (hd p q),fun t h=>(by cases h),fun t h=>(by cases h),.inl (by simp),by simp⟩
theorem Ag6 {x s:Ab} {op:List Ab} (h:x∈op++[s]):x∈op∨x=s:=by simpa using h
theorem Tr.skip {op:List Ab} {dn:Int→Int→Prop} {out:List Am} {s:Ab} (h:Tr v p0 q0 (op++[s]) dn out) (hs:dn s.a0 s.a1):Tr v p0 q0 op dn out :=
 ⟨h.mem,h.nd,fun x hx=>h.opn x (by simp [hx]),h.don,h.all,fun t ht p q hp=>(h.rev t ht p q hp).elim (fun g=>(Ag6 g).imp id fun e=>by subst e;exact hs) .inr,
  h.sta.elim (fun g=>(Ag6 g).imp id fun e=>by subst e;exact hs) .inr,by have:=h.len;rw [List.length_append,List.length_singleton] at this;omega⟩
theorem Tr.none {op:List Ab} {dn dn':Int→Int→Prop} {out:List Am} {s:Ab} (h:Tr v p0 q0 (op++[s]) dn out) (hd:∀ p q,dn' p q↔dn p q∨(p=s.a0∧q=s.a1)) (hn:noT v s.a0 s.a1):Tr v p0 q0 op dn' out:=by
 have key:Tr v p0 q0 (op++[s]) dn' out:=⟨h.mem,h.nd,h.opn,fun p q g=>by
  rcases (hd p q).1 g with g | ⟨rfl,rfl⟩
  ·exact h.don p q g
  ·exact .inr hn,fun t ht p q hp=>(hd p q).2 (.inl (h.all t ht p q hp)),fun t ht p q hp=>(h.rev t ht p q hp).imp id fun g=>(hd _ _).2 (.inl g),h.sta.imp id fun g=>(hd _ _).2 (.inl g),h.len⟩
 exact key.skip ((hd _ _).2 (.inr ⟨rfl,rfl⟩))
theorem Tr.more {op:List Ab} {dn dn':Int→Int→Prop} {out:List Am} {s:Ab} {t:Am} (h:Tr v p0 q0 (op++[s]) dn out) (hs:¬ dn s.a0 s.a1) (ht:Agg v t) (hst:Pe t s.a0 s.a1)
  (hd:∀ p q,dn' p q↔dn p q∨Pe t p q) (hx:∀ p q,Pe t p q→okS v q p):Tr v p0 q0 (op++[⟨t.a1,t.a0⟩,⟨t.a2,t.a1⟩,⟨t.a0,t.a2⟩]) dn' (out++[t]):=by
 have hin:∀ {p q:Int},⟨p,q⟩∈op++[s]→(⟨p,q⟩:Ab)∈op++[⟨t.a1,t.a0⟩,⟨t.a2,t.a1⟩,⟨t.a0,t.a2⟩]∨dn' p q:=fun {p q} g=>by
  rcases Ag6 g with g | g
  ·exact .inl (List.mem_append.2 (.inl g))
  ·right
   rw [← g] at hst
   exact (hd _ _).2 (.inr hst)
 refine ⟨fun x hx=>?_,?_,fun x hx'=>?_,fun p q g=>?_,fun x hx' p q g=>?_,fun x hx' p q g=>?_,?_,?_⟩
 ·rcases List.mem_append.1 hx with hx | hx
  ·exact h.mem x hx
  ·rw [List.mem_singleton] at hx;subst hx;exact ht
 ·rw [List.nodup_append]
  refine ⟨h.nd,by simp,fun x hm y hy e=>?_⟩
  rw [List.mem_singleton] at hy
  rw [hy] at e
  rw [e] at hm
  exact hs (h.all t hm _ _ hst)
 ·rcases List.mem_append.1 hx' with hx' | hx'
  ·exact h.opn x (by simp [hx'])
  ·simp only [List.mem_cons,List.not_mem_nil,or_false] at hx'
   rcases hx' with rfl | rfl | rfl
   ·exact hx t.a0 t.a1 (.inl ⟨rfl,rfl⟩)
   ·exact hx t.a1 t.a2 (.inr (.inl ⟨rfl,rfl⟩))
   ·exact hx t.a2 t.a0 (.inr (.inr ⟨rfl,rfl⟩))
 ·rcases (hd p q).1 g with g | g
  ·rcases h.don p q g with ⟨x,hx,g⟩ | g
   ·exact .inl ⟨x,by simp [hx],g⟩
   ·exact .inr g
  ·exact .inl ⟨t,by simp,g⟩
 ·rcases List.mem_append.1 hx' with hx' | hx'
  ·exact (hd p q).2 (.inl (h.all x hx' p q g))
  ·rw [List.mem_singleton] at hx';subst hx';exact (hd p q).2 (.inr g)
 ·rcases List.mem_append.1 hx' with hx' | hx'
  ·rcases h.rev x hx' p q g with g | g
   ·exact hin g
   ·exact .inr ((hd _ _).2 (.inl g))
  ·rw [List.mem_singleton] at hx'
   subst hx'
   left
   refine List.mem_append.2 (.inr ?_)
   rcases g with ⟨rfl,rfl⟩ | ⟨rfl,rfl⟩ | ⟨rfl,rfl⟩ <;> simp
 ·rcases h.sta with g | g
  ·exact hin g
  ·exact .inr ((hd _ _).2 (.inl g))
 ·have:=h.len
  simp only [List.length_append,List.length_cons,List.length_nil] at this ⊢
  omega
/-- How many triangles there may be. -/
theorem Aey {out:List Am} (hmem:∀ t∈out,Agg v t) (hnd:out.Nodup):out.length≤v.length*v.length:=by
 have h1:(out.map fun t=>(t.a0.toNat*v.length+t.a1.toNat)).Nodup:=by
  unfold List.Nodup
  rw [List.pairwise_map]
  refine List.Pairwise.imp_of_mem ?_ hnd
  intro x y hx hy hne e
  obtain ⟨x1,x2,x3⟩:=hmem x hx
  obtain ⟨y1,y2,y3⟩:=hmem y hy
  have x4:=x3.1
  have x5:=x3.2.1
  have y4:=y3.1
  have y5:=y3.2.1
  unfold inN at x4 x5 y4 y5
  have e1:x.a1.toNat=y.a1.toNat:=by
   have:=congrArg (· % v.length) e
   simp only [Nat.mul_add_mod_self_right] at this
   rwa [Nat.mod_eq_of_lt (by omega),Nat.mod_eq_of_lt (by omega)] at this
  have e2:x.a0.toNat=y.a0.toNat:=by
   rw [e1] at e
   have e':x.a0.toNat*v.length=y.a0.toNat*v.length:=by omega
   exact Nat.eq_of_mul_eq_mul_right (by omega) e'
  have e3:x.a0=y.a0:=by omega
  have e4:x.a1=y.a1:=by omega
  apply hne
  obtain ⟨xa,xb,xc⟩:=x
  obtain ⟨ya,yb,yc⟩:=y
  simp only at e3 e4 x3 y3
  subst e3;subst e4
  rw [x3.unique y3]
 have:=Di (m:=List.range (v.length*v.length)) h1 fun x hx=>by
  obtain ⟨t,ht,rfl⟩:=List.mem_map.1 hx
  obtain ⟨_,_,t3⟩:=hmem t ht
  have t4:=t3.1
  have t5:=t3.2.1
  unfold inN at t4 t5
  rw [List.mem_range]
  have h3:t.a0.toNat+1≤v.length:=by omega
  have:=Nat.mul_le_mul_right v.length h3
  rw [Nat.add_mul] at this
  omega
 rwa [List.length_map,List.length_range] at this
theorem Tr.bound {op:List Ab} {dn:Int→Int→Prop} {out:List Am} (h:Tr v p0 q0 op dn out):out.length≤v.length*v.length:=Aey h.mem h.nd
def rots (t:Am):List T3:=[(t.a0,t.a1,t.a2),(t.a1,t.a2,t.a0),(t.a2,t.a0,t.a1)]
/-- At the end there are all. -/
theorem Tr.full {dn:Int→Int→Prop} {out:List Am} (h:Tr v p0 q0 [] dn out) (hs:∃ e,Del v p0 q0 e) (t:Am):t∈out↔t.a0 < t.a1∧t.a0 < t.a2∧Del v t.a0 t.a1 t.a2:=by
 refine ⟨fun ht=>h.mem t ht,fun ⟨t1,t2,t3⟩=>?_⟩
 have memX:∀ a b c:Int,(a,b,c)∈out.flatMap rots→∃ t∈out,Pe t a b∧Del v a b c:=fun a b c g=>by
  obtain ⟨t,ht,g⟩:=List.mem_flatMap.1 g
  have:=(h.mem t ht).2.2
  unfold rots at g
  simp only [List.mem_cons,List.not_mem_nil,or_false] at g
  rcases g with g | g | g <;> cases g
  ·exact ⟨t,ht,.inl ⟨rfl,rfl⟩,this⟩
  ·exact ⟨t,ht,.inr (.inl ⟨rfl,rfl⟩),this.rot⟩
  ·exact ⟨t,ht,.inr (.inr ⟨rfl,rfl⟩),this.rot.rot⟩
 have inX:∀ t∈out,∀ a b c,Pe t a b→Del v a b c→(a,b,c)∈out.flatMap rots:=fun t ht a b c g hd=>by
  have:=(h.mem t ht).2.2
  refine List.mem_flatMap.2 ⟨t,ht,?_⟩
  unfold rots
  rcases g with ⟨rfl,rfl⟩ | ⟨rfl,rfl⟩ | ⟨rfl,rfl⟩
  ·rw [hd.unique this];simp
  ·rw [hd.unique this.rot];simp
  ·rw [hd.unique this.rot.rot];simp
 have hX:Afb (plV v) (out.flatMap rots):=⟨fun a b c g=>by
  obtain ⟨t,ht,g1,g2⟩:=memX a b c g
  refine inX t ht b c a ?_ g2.rot
  have:=(h.mem t ht).2.2
  rcases g1 with ⟨rfl,rfl⟩ | ⟨rfl,rfl⟩ | ⟨rfl,rfl⟩
  ·rw [g2.unique this];exact .inr (.inl ⟨rfl,rfl⟩)
  ·rw [g2.unique this.rot];exact .inr (.inr ⟨rfl,rfl⟩)
  ·rw [g2.unique this.rot.rot];exact .inl ⟨rfl,rfl⟩,fun a b c g=>by
  obtain ⟨t,ht,g1,g2⟩:=memX a b c g
  exact g2.2.2.2.1⟩
 have dnX:∀ p q e,dn p q→Del v p q e→(p,q,e)∈out.flatMap rots:=fun p q e g hd=>by
  rcases h.don p q g with ⟨t,ht,g⟩ | g
  ·exact inX t ht p q e g hd
  ·have:=g e hd.2.2.1
   have:=hd.2.2.2.1
   omega
 have:=Afc (H:=hV v) (V:=inN v.length) hX (fun a b c g=>by obtain ⟨t,ht,g1,g2⟩:=memX a b c g;exact ⟨g2.1,g2.2.1,g2.2.2.1⟩) (fun a b c g=>by obtain ⟨t,ht,g1,g2⟩:=memX a b c g;exact g2.2.2.2.2)
  (fun a b c g d hd hl=>by
   obtain ⟨t,ht,g1,g2⟩:=memX a b c g
   rcases h.rev t ht a b g1 with k | k
   ·cases k
   ·rcases h.don b a k with ⟨t',ht',k'⟩ | k'
    ·obtain ⟨e,he⟩:=(h.mem t' ht').side k'
     exact ⟨e,inX t' ht' b a e k' he⟩
    ·have:=k' d hd
     rw [Df] at this
     omega)
  (fun e=>by
   obtain ⟨x,hx⟩:=hs
   rcases h.sta with k | k
   ·cases k
   ·have:=dnX p0 q0 x k hx
    rw [e] at this
    cases this) t3.1 t3.2.1 t3.2.2.1 t3.2.2.2.1 t3.2.2.2.2
 obtain ⟨t',ht',g⟩:=List.mem_flatMap.1 this
 obtain ⟨s1,s2,s3⟩:=h.mem t' ht'
 obtain ⟨ta,tb,tc⟩:=t
 obtain ⟨sa,sb,sc⟩:=t'
 unfold rots at g
 simp only [List.mem_cons,List.not_mem_nil,or_false,Prod.mk.injEq] at g t1 t2 s1 s2
 rcases g with ⟨rfl,rfl,rfl⟩ | ⟨rfl,rfl,rfl⟩ | ⟨rfl,rfl,rfl⟩
 ·exact ht'
 ·omega
 ·omega
end Go.Proofs.YtbkobeeileemjaaGreat
/- The reference's first side: of the places on the first ray the nearest one. -/
namespace Go.Proofs.YtbkobeeileemjaaGreat
open Go Go.RowKit
variable {v:List Ae}
/-- k lies to the left of f-b, or behind b. -/
def behind (v:List Ae) (f b k:Int):Prop:=0 < crs (plV v f) (plV v b) (plV v k)∨(crs (plV v f) (plV v b) (plV v k)=0∧¬ befP (plV v k) (plV v b))
theorem Ajt {f b d x:Ad} (hf:okP f) (hb:okP b) (hd:okP d) (h1:befP f b) (h2:befP b d) (h0:crs f b d=0) (hx:0 < crs f b x):crs b x d < 0:=by
 have q1:=(Ajr hf hb).2 h1
 have q2:=(Ajr hb hd).2 h2
 have e:=Aru lexA 1 b f d x
 have e1:crs b f d=0:=by rw [Df];omega
 have e2:crs b x f=crs f b x:=Co f b x
 rw [e1,e2,Int.mul_zero] at e
 have e3:=Int.mul_pos (show 0 < ph lexA 1 d-ph lexA 1 b by omega) hx
 have e4:(ph lexA 1 f-ph lexA 1 b)*crs b d x = -((ph lexA 1 b-ph lexA 1 f)*crs b d x):=by grind
 have:=Aah (x:=ph lexA 1 b-ph lexA 1 f) (y:=crs b d x) (by omega) (by omega)
 rw [Abl]
 omega
theorem Amp (hv:Gb v) (hn:v.length≤1024) {f:Int} (hf:inN v.length f) (low:∀ k,inN v.length k→k=f∨befP (plV v f) (plV v k)) (h2:2≤v.length) :
  ∃ b,Lx v f false=some b∧inN v.length b∧b≠f∧∀ k,inN v.length k→k≠f→behind v f b k:=by
 unfold Lx
 rw [jn_d]
 have up:∀ k,inN v.length k→k≠f→ph lexA 1 (plV v f) < ph lexA 1 (plV v k):=fun k hk hne=>(Ajr (hv.ok f hf) (hv.ok k hk)).2 ((low k hk).resolve_left hne)
 have:=Cu (B:=Lg v f false) (fun s=>v.length-s.2.toNat)
  (fun s=>0≤s.2∧s.2≤(v.length:Int)∧((s.1 = -1∧∀ j,inN v.length j→j < s.2→j=f)∨(inN v.length s.1∧s.1≠f∧∀ j,inN v.length j→j < s.2→j≠f→behind v f s.1 j))) (fun t=>inN v.length t∧t≠f∧∀ k,inN v.length k→k≠f→behind v f t k) (fun s hs=>by
   obtain ⟨out,k⟩:=s
   obtain ⟨h1,h2',h3⟩:=hs
   simp only at h1 h2' h3
   unfold Lg
   dsimp only
   by_cases hk:k < (v.length:Int)
   ·left
    have hkn:inN v.length k:=⟨h1,hk⟩
    have w1:w64 (k+1)=k+1:=Bw (by omega) (by omega)
    rw [if_pos hk,jn_d]
    by_cases e1:k=f
    ·rw [if_pos e1,w1]
     refine ⟨_,rfl,⟨by dsimp only;omega,by dsimp only;omega,?_⟩,by dsimp only;omega⟩
     dsimp only
     rcases h3 with ⟨g1,g2⟩ | ⟨g1,g2,g3⟩
     ·exact .inl ⟨g1,fun j hj hl=>by
       by_cases e:j=k
       ·rw [e];exact e1
       ·exact g2 j hj (by omega)⟩
     ·exact .inr ⟨g1,g2,fun j hj hl hne=>g3 j hj (by omega) hne⟩
    ·rw [if_neg e1]
     have self:behind v f k k:=.inr ⟨De _ _,Ak9 _⟩
     by_cases e2:out < 0
     ·rw [if_pos e2,w1]
      have h4:∀ j,inN v.length j→j < k→j=f:=by
       rcases h3 with ⟨_,g⟩ | ⟨g,_⟩
       ·exact g
       ·unfold inN at g;omega
      refine ⟨_,rfl,⟨by dsimp only;omega,by dsimp only;omega,.inr ⟨hkn,e1,fun j hj hl hne=>?_⟩⟩,by dsimp only;omega⟩
      dsimp only at hl ⊢
      by_cases e:j=k
      ·rw [e];exact self
      ·exact absurd (h4 j hj (by omega)) hne
     ·rw [if_neg e2]
      obtain ⟨g1,g2,g3⟩:inN v.length out∧out≠f∧∀ j,inN v.length j→j < k→j≠f→behind v f out j:=by
       rcases h3 with g | g
       ·omega
       ·exact g
      obtain ⟨xa,fa,pa⟩:=Ne (v:=v) hf
      obtain ⟨xo,fo,po⟩:=Ne (v:=v) g1
      obtain ⟨xk,fk,pk⟩:=Ne (v:=v) hkn
      rw [jn_d,fa,Ai,fo,Ai,fk,Ai]
      unfold Be
      rw [Ai,Ai,Ai]
      dsimp only
      rw [pa,po,pk,Xz (hv.ok _ hf) (hv.ok _ g1) (hv.ok _ hkn),Ai,jn_d,Aij (hv.ok _ hf) (hv.ok _ g1) (hv.ok _ hkn),w1]
      have sg:Int.sign (crs (plV v f) (plV v out) (plV v k)) < 0↔crs (plV v f) (plV v out) (plV v k) < 0:=Int.sign_neg_iff
      have s0:Int.sign (crs (plV v f) (plV v out) (plV v k))=0↔crs (plV v f) (plV v out) (plV v k)=0:=Int.sign_eq_zero_iff_zero
      have po':=up out g1 g2
      have pk':=up k hkn e1
      have take:(∀ j,inN v.length j→j < k→j≠f→behind v f k j)→∃ s',(some (.inl (k,k+1)):Option (Sum (Int × Int) Int))=some (.inl s')∧(0≤s'.2∧s'.2≤(v.length:Int)∧((s'.1 = -1∧∀ j,inN v.length j→j < s'.2→j=f)∨(inN v.length s'.1∧s'.1≠f∧∀ j,inN v.length j→j < s'.2→j≠f→behind v f s'.1 j)))∧v.length-s'.2.toNat < v.length-k.toNat:=fun hx =>
       ⟨_,rfl,⟨by dsimp only;omega,by dsimp only;omega,.inr ⟨hkn,e1,fun j hj hl hne=>by
        dsimp only at hl ⊢
        by_cases e:j=k
        ·rw [e];exact self
        ·exact hx j hj (by omega) hne⟩⟩,by dsimp only;omega⟩
      have keep:behind v f out k→∃ s',(some (.inl (out,k+1)):Option (Sum (Int × Int) Int))=some (.inl s')∧(0≤s'.2∧s'.2≤(v.length:Int)∧((s'.1 = -1∧∀ j,inN v.length j→j < s'.2→j=f)∨(inN v.length s'.1∧s'.1≠f∧∀ j,inN v.length j→j < s'.2→j≠f→behind v f s'.1 j)))∧v.length-s'.2.toNat < v.length-k.toNat:=fun hx =>
       ⟨_,rfl,⟨by dsimp only;omega,by dsimp only;omega,.inr ⟨g1,g2,fun j hj hl hne=>by
        dsimp only at hl ⊢
        by_cases e:j=k
        ·rw [e];exact hx
        ·exact g3 j hj (by omega) hne⟩⟩,by dsimp only;omega⟩
      -- (out-f)*crs f k j=(k-f)*crs f out j-(j-f)*crs f out k
      have turn:∀ j,(ph lexA 1 (plV v out)-ph lexA 1 (plV v f))*crs (plV v f) (plV v k) (plV v j)=(ph lexA 1 (plV v k)-ph lexA 1 (plV v f))*crs (plV v f) (plV v out) (plV v j)-(ph lexA 1 (plV v j)-ph lexA 1 (plV v f))*crs (plV v f) (plV v out) (plV v k):=fun j=>by
       have:=Aru lexA 1 (plV v f) (plV v out) (plV v k) (plV v j)
       rw [Abl (plV v f) (plV v out) (plV v j),Int.mul_neg] at this
       omega
      by_cases c1:crs (plV v f) (plV v out) (plV v k) < 0
      ·rw [if_pos (sg.2 c1)]
       dsimp only
       rw [if_pos rfl]
       refine take fun j hj hl hne=>.inl ?_
       have t:=turn j
       have m2:=Int.mul_pos (show 0 < ph lexA 1 (plV v j)-ph lexA 1 (plV v f) by have:=up j hj hne;omega) (show 0 < -crs (plV v f) (plV v out) (plV v k) by omega)
       rw [Int.mul_neg] at m2
       have m1:0≤(ph lexA 1 (plV v k)-ph lexA 1 (plV v f))*crs (plV v f) (plV v out) (plV v j):=Int.mul_nonneg (by omega) (by rcases g3 j hj hl hne with g | g <;> omega)
       exact Aah (x:=ph lexA 1 (plV v out)-ph lexA 1 (plV v f)) (by omega) (by omega)
      ·rw [if_neg (fun g=>c1 (sg.1 g))]
       by_cases c2:crs (plV v f) (plV v out) (plV v k)=0
       ·rw [if_pos (s0.2 c2),Ai]
        have nok:=Vc hv g1 hkn
        by_cases c3:Box (plV v f) (plV v out) (plV v k)
        ·rw [decide_eq_true ⟨c2,c3⟩]
         have hko:¬ befP (plV v out) (plV v k):=fun e=>Asj c2 (Abm ((low out g1).resolve_left g2)) e (Vc hv hf g1 (fun e=>g2 e.symm)) c3
         dsimp only
         rw [if_pos (by rfl)]
         refine take fun j hj hl hne=>?_
         have t:=turn j
         rw [c2,Int.mul_zero,Int.sub_zero] at t
         rcases g3 j hj hl hne with g | ⟨g,g'⟩
         ·left
          have m1:=Int.mul_pos (show 0 < ph lexA 1 (plV v k)-ph lexA 1 (plV v f) by omega) g
          exact Aah (x:=ph lexA 1 (plV v out)-ph lexA 1 (plV v f)) (by omega) (by omega)
         ·right
          rw [g,Int.mul_zero] at t
          refine ⟨?_,fun e=>?_⟩
          ·rcases Int.mul_eq_zero.1 t with t | t
           ·omega
           ·exact t
          ·unfold befP at *
           omega
        ·rw [decide_eq_false (fun g=>c3 g.2)]
         dsimp only
         rw [if_neg (by simp)]
         refine keep (.inr ⟨c2,fun e=>c3 ?_⟩)
         exact Aqr c2 (Abm ((low k hkn).resolve_left e1)) (Abm e)
       ·rw [if_neg (fun g=>c2 (s0.1 g))]
        dsimp only
        rw [if_neg (by simp)]
        exact keep (.inl (by omega))
   ·right
    rw [if_neg hk]
    refine ⟨_,rfl,?_⟩
    rcases h3 with ⟨g1,g2⟩ | ⟨g1,g2,g3⟩
    ·have x0:(0:Int)=f:=g2 0 ⟨by omega,by omega⟩ (by omega)
     have x1:(1:Int)=f:=g2 1 ⟨by omega,by omega⟩ (by omega)
     omega
    ·exact ⟨g1,g2,fun j hj hne=>g3 j hj (by have:=hj.2;omega) hne⟩) (-1,0) ⟨by simp,by simp,.inl ⟨rfl,fun j hj hl=>by unfold inN at hj;simp only at hl;omega⟩⟩
 obtain ⟨t,ht,g⟩:=this
 rw [ht,Ai]
 exact ⟨t,rfl,g⟩
end Go.Proofs.YtbkobeeileemjaaGreat
/- The reference's apex: the program's loops. -/
namespace Go.Proofs.YtbkobeeileemjaaGreat
open Go Go.RowKit
variable {v:List Ae} {a b:Int}
theorem Aim (v:List Ae) (i k:Int):Jc v [] i k=some true:=by
 unfold Jc
 rw [jn_d,Cj]
 unfold Pd
 rw [if_neg (by simp)]
 rfl
theorem Amq (hv:Gb v) (hn:v.length≤1024) (ha:inN v.length a) (hb:inN v.length b):∃ s,lfix (Ig v a b []) (([]:List Int),0)=some s∧Best v a b v.length s:=by
 refine Cu (B:=Ig v a b []) (fun s=>v.length-s.2.toNat) (fun s=>0≤s.2∧s.2≤(v.length:Int)∧Best v a b s.2 s.1∧(s.1.length:Int)≤s.2) (fun t=>Best v a b v.length t) (fun s hs=>?_) _ ⟨by simp,by simp,Best.nil,by simp⟩
 obtain ⟨l,k⟩:=s
 obtain ⟨h1,h2,h3,h4⟩:=hs
 dsimp only at h1 h2 h3 h4
 unfold Ig
 dsimp only
 by_cases hk:k < (v.length:Int)
 ·left
  have hkn:inN v.length k:=⟨h1,hk⟩
  obtain ⟨xa,fa,pa⟩:=Ne (v:=v) ha
  obtain ⟨xb,fb,pb⟩:=Ne (v:=v) hb
  obtain ⟨xk,fk,pk⟩:=Ne (v:=v) hkn
  have w1:w64 (k+1)=k+1:=Bw (by omega) (by omega)
  have sg:Int.sign (crs (plV v a) (plV v b) (plV v k))≤0↔crs (plV v a) (plV v b) (plV v k)≤0:=by
   have:=@Int.sign_eq_one_iff_pos (crs (plV v a) (plV v b) (plV v k))
   have:=Int.sign_trichotomy (crs (plV v a) (plV v b) (plV v k))
   omega
  have go:∀ l',Best v a b (k+1) l'→(l'.length:Int)≤k+1→∃ s',(some (.inl (l',w64 (k+1))):Option (Sum (List Int × Int) (List Int)))=some (.inl s')∧(0≤s'.2∧s'.2≤(v.length:Int)∧Best v a b s'.2 s'.1∧(s'.1.length:Int)≤s'.2)∧v.length-s'.2.toNat < v.length-k.toNat:=fun l' g g' =>
   ⟨_,rfl,⟨by dsimp only;omega,by dsimp only;omega,by dsimp only;rw [w1];exact g,by dsimp only;omega⟩,by dsimp only;omega⟩
  rw [if_pos hk,jn_d,jn_d,fa,Ai,fb,Ai,fk,Ai]
  unfold Be
  rw [Ai,Ai,Ai,pa,pb,pk,Xz (hv.ok _ ha) (hv.ok _ hb) (hv.ok _ hkn),Ai]
  by_cases c1:crs (plV v a) (plV v b) (plV v k)≤0
  ·rw [if_pos (sg.2 c1)]
   dsimp only
   rw [if_pos rfl]
   exact go l (h3.skip c1) (by omega)
  ·have hp:0 < crs (plV v a) (plV v b) (plV v k):=by omega
   rw [if_neg (fun g=>c1 (sg.1 g)),Aim,Ai,if_pos rfl,Aim,Ai]
   dsimp only
   rw [if_neg (by simp)]
   by_cases c2:l=[]
   ·subst c2
    rw [if_pos (by simp)]
    exact go [k] (h3.first hkn hp) (by simp;omega)
   ·obtain ⟨c,r,rfl⟩:=List.exists_cons_of_ne_nil c2
    have hc:c∈c::r:=by simp
    have hcn:=(h3.mem c hc).1
    obtain ⟨xc,fc,pc⟩:=Ne (v:=v) hcn
    have i0:idx (c::r) 0=some c:=Bo (l:=c::r) (j:=0) (by simp)
    rw [if_neg (by simp;omega)]
    simp only [i0,fc,Ai,pc,pa,pb,pk]
    rw [Akd (hv.ok _ ha) (hv.ok _ hb) (hv.ok _ hcn) (hv.ok _ hkn),Ai]
    rcases Int.lt_trichotomy (inC (plV v a) (plV v b) (plV v c) (plV v k)) 0 with g | g | g
    ·rw [Int.sign_eq_neg_one_of_neg g,if_neg (by omega),if_neg (by omega)]
     exact go _ (h3.worse hc g) (by omega)
    ·rw [g,Int.sign_zero,if_neg (by omega),if_pos rfl,gd_t (by omega)]
     exact go _ (h3.tie hkn hp hc g) (by rw [List.length_append,List.length_singleton];omega)
    ·rw [Int.sign_eq_one_of_pos g,if_pos rfl]
     exact go [k] (h3.better hkn hp hc g) (by simp;omega)
 ·right
  rw [if_neg hk]
  have:k=v.length:=by omega
  subst this
  exact ⟨_,rfl,h3⟩
/-! ### the ring -/
theorem Aqu {l:List Int} (hl:l.length≤5000) (c:Int):lfix (Ie l c) (false,0)=some (decide (c∈l)):=by
 have:=Cu (B:=Ie l c) (fun s=>l.length-s.2.toNat) (fun s=>∃ k:Nat,k≤l.length∧s=(decide (c∈l.take k),(k:Int))) (fun t=>t=decide (c∈l)) (fun s hs=>by
  obtain ⟨k,hk,rfl⟩:=hs
  unfold Ie
  dsimp only
  by_cases hk2:k < l.length
  ·left
   rw [if_pos (by omega),jn_d,Bo hk2,Ai,show w64 ((k:Int)+1)=((k+1:Nat):Int) from by rw [Bw (by omega) (by omega)];omega]
   refine ⟨_,?_,⟨k+1,hk2,rfl⟩,by dsimp only;omega⟩
   have e:(c∈l.take (k+1))↔(c∈l.take k∨l[k]=c):=by
    rw [List.take_succ_eq_append_getElem hk2,List.mem_append,List.mem_singleton]
    exact or_congr_right ⟨fun h=>h.symm,fun h=>h.symm⟩
   by_cases h1:c∈l.take k
   ·simp [h1,e]
   ·simp [h1,e]
  ·right
   rw [if_neg (by omega)]
   have:k=l.length:=by omega
   subst this
   exact ⟨_,rfl,by rw [List.take_length]⟩) (false,0) ⟨0,by omega,by simp⟩
 obtain ⟨t,ht,rfl⟩:=this
 exact ht
theorem Aqv (hv:Gb v) (hn:v.length≤1024) (ha:inN v.length a) {l out:List Int} (hl:Circ v a b l) (hll:l.length≤1024) (ho:out.length≤5000) (hex:∃ y∈l,y ∉ out) :
  ∃ x,lfix (If l v a out) (-1,0)=some x∧x∈l∧x ∉ out∧∀ y∈l,y ∉ out→y≠x→0 < crs (plV v a) (plV v x) (plV v y):=by
 refine Cu (B:=If l v a out) (fun s=>l.length-s.2.toNat)
  (fun s=>∃ k:Nat,k≤l.length∧s.2=(k:Int)∧((s.1 = -1∧∀ y∈l.take k,y∈out)∨(s.1∈l∧s.1 ∉ out∧∀ y∈l.take k,y ∉ out→y≠s.1→0 < crs (plV v a) (plV v s.1) (plV v y)))) _ (fun s hs=>?_) _ ⟨0,by omega,rfl,.inl ⟨rfl,fun y hy=>by simp at hy⟩⟩
 obtain ⟨x,i⟩:=s
 obtain ⟨k,hk,rfl,h3⟩:=hs
 dsimp only at h3
 unfold If
 dsimp only
 by_cases hk2:k < l.length
 ·left
  have w1:w64 ((k:Int)+1)=((k+1:Nat):Int):=by rw [Bw (by omega) (by omega)];omega
  have hmem:l[k]∈l:=List.getElem_mem hk2
  have ts:l.take (k+1)=l.take k++[l[k]]:=List.take_succ_eq_append_getElem hk2
  have sub:∀ y,y∈l.take k→y∈l:=fun y=>List.mem_of_mem_take
  rw [if_pos (by omega),jn_d,Bo hk2,Ai,jn_d,Aqu ho,Ai]
  dsimp only
  rw [jn_d,w1]
  by_cases c1:l[k]∈out
  ·rw [if_pos (by simpa using c1)]
   dsimp only
   rw [if_neg (by simp)]
   refine ⟨_,rfl,⟨k+1,hk2,rfl,?_⟩,by dsimp only;omega⟩
   dsimp only
   rcases h3 with ⟨g1,g2⟩ | ⟨g1,g2,g3⟩
   ·refine .inl ⟨g1,fun y hy=>?_⟩
    rw [ts,List.mem_append,List.mem_singleton] at hy
    rcases hy with hy | rfl
    ·exact g2 y hy
    ·exact c1
   ·refine .inr ⟨g1,g2,fun y hy hno=>?_⟩
    rw [ts,List.mem_append,List.mem_singleton] at hy
    rcases hy with hy | rfl
    ·exact g3 y hy hno
    ·exact absurd c1 hno
  ·rw [if_neg (by simpa using c1)]
   by_cases c2:x < 0
   ·rw [if_pos c2]
    dsimp only
    rw [if_pos rfl]
    refine ⟨_,rfl,⟨k+1,hk2,rfl,.inr ⟨hmem,c1,fun y hy hno hne=>?_⟩⟩,by dsimp only;omega⟩
    dsimp only at hne ⊢
    rw [ts,List.mem_append,List.mem_singleton] at hy
    rcases hy with hy | rfl
    ·rcases h3 with ⟨_,g⟩ | ⟨g,_⟩
     ·exact absurd (g y hy) hno
     ·have:=(hl.mem x g).1.1;omega
    ·exact absurd rfl hne
   ·obtain ⟨g1,g2,g3⟩:x∈l∧x ∉ out∧∀ y∈l.take k,y ∉ out→y≠x→0 < crs (plV v a) (plV v x) (plV v y):=by
     rcases h3 with g | g
     ·omega
     ·exact g
    obtain ⟨xa,fa,pa⟩:=Ne (v:=v) ha
    obtain ⟨xk,fk,pk⟩:=Ne (v:=v) (hl.mem _ hmem).1
    obtain ⟨xx,fx,px⟩:=Ne (v:=v) (hl.mem _ g1).1
    rw [if_neg c2,fa,Ai,fk,Ai,fx,Ai]
    unfold Be
    rw [Ai,Ai,Ai,pa,pk,px,Xz (hv.ok _ ha) (hv.ok _ (hl.mem _ hmem).1) (hv.ok _ (hl.mem _ g1).1),Ai]
    have sg:0 < Int.sign (crs (plV v a) (plV v l[k]) (plV v x))↔0 < crs (plV v a) (plV v l[k]) (plV v x):=Int.sign_pos_iff
    by_cases c3:0 < crs (plV v a) (plV v l[k]) (plV v x)
    ·dsimp only
     rw [if_pos (by simpa using sg.2 c3)]
     refine ⟨_,rfl,⟨k+1,hk2,rfl,.inr ⟨hmem,c1,fun y hy hno hne=>?_⟩⟩,by dsimp only;omega⟩
     dsimp only at hne ⊢
     rw [ts,List.mem_append,List.mem_singleton] at hy
     rcases hy with hy | rfl
     ·by_cases e:y=x
      ·rw [e];exact c3
      ·exact hl.trans hmem g1 (sub y hy) c3 (g3 y hy hno e)
     ·exact absurd rfl hne
    ·dsimp only
     rw [if_neg (by simpa using fun g=>c3 (sg.1 g))]
     refine ⟨_,rfl,⟨k+1,hk2,rfl,.inr ⟨g1,g2,fun y hy hno hne=>?_⟩⟩,by dsimp only;omega⟩
     dsimp only at hne ⊢
     rw [ts,List.mem_append,List.mem_singleton] at hy
     rcases hy with hy | rfl
     ·exact g3 y hy hno hne
     ·have:=hl.ne0 hv hmem g1 hne
      rw [Abl]
      omega
 ·right
  rw [if_neg (by omega)]
  have:k=l.length:=by omega
  subst this
  rw [List.take_length] at h3
  rcases h3 with ⟨_,g⟩ | g
  ·obtain ⟨y,hy,hno⟩:=hex
   exact absurd (g y hy) hno
  ·exact ⟨_,rfl,g⟩
theorem Aqw (hv:Gb v) (hn:v.length≤1024) (ha:inN v.length a) {l:List Int} (hl:Circ v a b l) (hll:l.length≤1024) :
  ∃ m,Ls v a b l=some (a::b::m)∧Ring v a b m∧(∀ x,x∈m↔x∈l):=by
 have hal:a ∉ l:=fun h=>by have:=(hl.mem a h).2;rw [Fh] at this;omega
 have hbl:b ∉ l:=fun h=>by have:=(hl.mem b h).2;rw [De] at this;omega
 unfold Ls
 rw [jn_d]
 have:=Cu (B:=Ld l v a) (fun s=>l.length+2-s.length)
  (fun s=>∃ m:List Int,s=a::b::m∧m.Nodup∧(∀ x∈m,x∈l)∧(m.Pairwise fun x y=>0 < crs (plV v a) (plV v x) (plV v y))∧∀ x∈m,∀ y∈l,y ∉ m→0 < crs (plV v a) (plV v x) (plV v y))
  (fun t=>∃ m:List Int,t=a::b::m∧m.Nodup∧(∀ x,x∈m↔x∈l)∧(m.Pairwise fun x y=>0 < crs (plV v a) (plV v x) (plV v y))) (fun s hs=>by
  obtain ⟨m,rfl,h1,h2,h3,h4⟩:=hs
  have hle:=Di h1 h2
  unfold Ld
  rw [Bw (x:=(l.length:Int)+2) (by omega) (by omega)]
  by_cases c:m.length < l.length
  ·left
   rw [if_pos (by simp only [List.length_cons];omega),jn_d]
   have hex:∃ y∈l,y ∉ a::b::m:=by
    refine Classical.byContradiction fun hno=>?_
    have:∀ y∈l,y∈m:=fun y hy=>by
     refine Classical.byContradiction fun g=>hno ⟨y,hy,fun e=>?_⟩
     rcases List.mem_cons.1 e with rfl | e
     ·exact hal hy
     ·rcases List.mem_cons.1 e with rfl | e
      ·exact hbl hy
      ·exact g e
    have:=Di hl.nd this
    omega
   obtain ⟨x,e1,e2,e3,e4⟩:=Aqv hv hn ha hl hll (out:=a::b::m) (by simp only [List.length_cons];omega) hex
   rw [e1,Ai]
   dsimp only
   rw [gd_t (by simp only [List.length_cons];omega)]
   have hxm:x ∉ m:=fun g=>e3 (by simp [g])
   refine ⟨_,rfl,⟨m++[x],rfl,?_,fun y hy=>?_,?_,fun y hy z hz hzn=>?_⟩,by simp only [List.cons_append,List.length_cons,List.length_append,List.length_nil];omega⟩
   ·rw [List.nodup_append]
    refine ⟨h1,by simp,fun y hy z hz e=>?_⟩
    rw [List.mem_singleton] at hz
    subst hz;subst e
    exact hxm hy
   ·rcases List.mem_append.1 hy with hy | hy
    ·exact h2 y hy
    ·rw [List.mem_singleton] at hy;subst hy;exact e2
   ·rw [List.pairwise_append]
    refine ⟨h3,by simp,fun y hy z hz=>?_⟩
    rw [List.mem_singleton] at hz
    subst hz
    exact h4 y hy z e2 hxm
   ·have hzm:z ∉ m:=fun g=>hzn (by simp [g])
    have hzx:z≠x:=fun g=>hzn (by simp [g])
    rcases List.mem_append.1 hy with hy | hy
    ·exact h4 y hy z hz hzm
    ·rw [List.mem_singleton] at hy
     subst hy
     refine e4 z hz (fun g=>?_) hzx
     rcases List.mem_cons.1 g with rfl | g
     ·exact hal hz
     ·rcases List.mem_cons.1 g with rfl | g
      ·exact hbl hz
      ·exact hzm g
  ·right
   rw [if_neg (by simp only [List.length_cons];omega)]
   refine ⟨_,rfl,m,rfl,h1,fun x=>⟨h2 x,fun hx=>?_⟩,h3⟩
   refine Classical.byContradiction fun g=>?_
   have:(x::m).Nodup:=List.nodup_cons.2 ⟨g,h1⟩
   have:=Di this (fun y hy=>by rcases List.mem_cons.1 hy with rfl | hy;exact hx;exact h2 y hy)
   rw [List.length_cons] at this
   omega) [a,b] ⟨[],rfl,List.nodup_nil,fun x hx=>(by cases hx),List.Pairwise.nil,fun x hx=>(by cases hx)⟩
 obtain ⟨t,ht,m,rfl,h1,h2,h3⟩:=this
 rw [ht,Ai]
 exact ⟨m,rfl,⟨hl.sub (fun x hx=>(h2 x).1 hx) h1,h3⟩,h2⟩
/-! ### the third corner -/
theorem Asl (hv:Gb v) {r:List Int} (hr:r.length≤5000) (hne:r≠[]) (hin:∀ x∈r,inN v.length x) :
  ∃ (m:Nat) (hm:m < r.length),lfix (Ha r v) (0,0)=some (m:Int)∧∀ y∈r,¬ befP (plV v y) (plV v r[m]):=by
 have:=Cu (B:=Ha r v) (fun s=>r.length-s.2.toNat)
  (fun s=>∃ (m k:Nat) (hm:m < r.length),k≤r.length∧s=((m:Int),(k:Int))∧∀ y∈r.take k,¬ befP (plV v y) (plV v r[m])) (fun t=>∃ (m:Nat) (hm:m < r.length),t=(m:Int)∧∀ y∈r,¬ befP (plV v y) (plV v r[m])) (fun s hs=>by
  obtain ⟨m,k,hm,hk,rfl,h⟩:=hs
  unfold Ha
  dsimp only
  by_cases hk2:k < r.length
  ·left
   have ts:r.take (k+1)=r.take k++[r[k]]:=List.take_succ_eq_append_getElem hk2
   obtain ⟨xk,fk,pk⟩:=Ne (v:=v) (hin _ (List.getElem_mem hk2))
   obtain ⟨xm,fm,pm⟩:=Ne (v:=v) (hin _ (List.getElem_mem hm))
   rw [if_pos (by omega),jn_d,Bo hk2,Ai,fk,Ai,Bo hm,Ai,fm,Ai]
   unfold Be
   rw [Ai,Ai,pk,pm,Aex,Ai,show w64 ((k:Int)+1)=((k+1:Nat):Int) from by rw [Bw (by omega) (by omega)];omega]
   by_cases c:befP (plV v r[k]) (plV v r[m])
   ·rw [if_pos (by simpa using c)]
    refine ⟨_,rfl,⟨k,k+1,hk2,hk2,rfl,fun y hy=>?_⟩,by dsimp only;omega⟩
    rw [ts,List.mem_append,List.mem_singleton] at hy
    rcases hy with hy | rfl
    ·exact fun g=>h y hy (Ik g c)
    ·exact Ak9 _
   ·rw [if_neg (by simpa using c)]
    refine ⟨_,rfl,⟨m,k+1,hm,hk2,rfl,fun y hy=>?_⟩,by dsimp only;omega⟩
    rw [ts,List.mem_append,List.mem_singleton] at hy
    rcases hy with hy | rfl
    ·exact h y hy
    ·exact c
  ·right
   rw [if_neg (by omega)]
   have:k=r.length:=by omega
   subst this
   rw [List.take_length] at h
   exact ⟨_,rfl,m,hm,rfl,h⟩) (0,0) ⟨0,0,List.length_pos_iff.2 hne,by omega,rfl,fun y hy=>by simp at hy⟩
 obtain ⟨t,ht,m,hm,rfl,h⟩:=this
 exact ⟨m,hm,ht,h⟩
theorem Aoi {α:Type} {l:List α} (h:l.Nodup) {i j:Nat} (hi:i < l.length) (hj:j < l.length) (hne:i≠j):l[i]≠l[j]:=by
 have:=List.pairwise_iff_getElem.1 h
 rcases Nat.lt_trichotomy i j with g | g | g
 ·exact this i j hi hj g
 ·exact absurd g hne
 ·exact fun e=>this j i hj hi g e.symm
theorem Aqx {r:List Int} (hr:r.length≤5000) (hn:r.Nodup) {m:Nat} (hm:m < r.length):lfix (Gl r m) (([]:List Int),0)=some (r.filter fun y=>decide (y≠r[m])):=by
 have:=Cu (B:=Gl r m) (fun s=>r.length-s.2.toNat) (fun s=>∃ k:Nat,k≤r.length∧s=((r.take k).filter (fun y=>decide (y≠r[m])),(k:Int))) (fun t=>t=r.filter fun y=>decide (y≠r[m])) (fun s hs=>by
  obtain ⟨k,hk,rfl⟩:=hs
  unfold Gl
  dsimp only
  by_cases hk2:k < r.length
  ·left
   have ts:r.take (k+1)=r.take k++[r[k]]:=List.take_succ_eq_append_getElem hk2
   have w1:w64 ((k:Int)+1)=((k+1:Nat):Int):=by rw [Bw (by omega) (by omega)];omega
   rw [if_pos (by omega),jn_d,w1]
   by_cases c:k=m
   ·subst c
    rw [if_pos rfl]
    refine ⟨_,rfl,⟨k+1,hk2,?_⟩,by dsimp only;omega⟩
    rw [ts,List.filter_append]
    simp
   ·have hne:r[k]≠r[m]:=Aoi hn hk2 hm c
    have hle:((r.take k).filter fun y=>decide (y≠r[m])).length≤r.length:=by
     have h1:=List.length_filter_le (fun y=>decide (y≠r[m])) (r.take k)
     rw [List.length_take] at h1
     omega
    rw [if_neg (by omega),Bo hk2,Ai,gd_t (by omega)]
    refine ⟨_,rfl,⟨k+1,hk2,?_⟩,by dsimp only;omega⟩
    rw [ts,List.filter_append]
    simp [hne]
  ·right
   rw [if_neg (by omega)]
   have:k=r.length:=by omega
   subst this
   exact ⟨_,rfl,by rw [List.take_length]⟩) (([]:List Int),0) ⟨0,by omega,by simp⟩
 obtain ⟨t,ht,rfl⟩:=this
 exact ht
theorem tm (x n:Int) (hx:0≤x):Int.tmod x n=x % n:=Int.tmod_eq_emod_of_nonneg hx
theorem Aju (hv:Gb v) (hn:v.length≤1024) (ha:inN v.length a) (hb:inN v.length b):∀ (n:Nat) (l:List Int),l.length=n→n≤1024→l≠[]→Ring v a b l →
  ∃ c,Ans v a b l c∧(lfix (Eh b a v) (a::b::l)=some (.inr c)∨lfix (Eh b a v) (a::b::l)=some (.inl [a,b,c])):=by
 intro n
 induction n with
 | zero=>intro l hl _ hne _;exact absurd (List.eq_nil_of_length_eq_zero hl) hne
 | succ n ih =>
  intro l hl hn1 hne hr
  have hal:a ∉ l:=fun h=>by have:=(hr.circ.mem a h).2;rw [Fh] at this;omega
  have hbl:b ∉ l:=fun h=>by have:=(hr.circ.mem b h).2;rw [De] at this;omega
  have hab:a≠b:=fun e=>by
   obtain ⟨x,hx⟩:=List.exists_mem_of_ne_nil l hne
   have:=(hr.circ.mem x hx).2
   rw [e,Vh] at this
   omega
  by_cases hn0:n=0
  ·subst hn0
   obtain ⟨c,rfl⟩:=List.length_eq_one_iff.1 hl
   refine ⟨c,⟨by simp,fun d hd hne=>absurd (by simpa using hd) hne⟩,.inr ?_⟩
   rw [Cj]
   unfold Eh
   rw [if_neg (by simp)]
  ·have hlen:(a::b::l).length=n+3:=by simp [hl]
   have hnd:(a::b::l).Nodup:=by
    rw [List.nodup_cons,List.nodup_cons]
    refine ⟨fun h=>?_,hbl,hr.circ.nd⟩
    rcases List.mem_cons.1 h with h | h
    ·exact hab h
    ·exact hal h
   have hin:∀ x∈a::b::l,inN v.length x:=fun x hx=>by
    rcases List.mem_cons.1 hx with rfl | hx
    ·exact ha
    ·rcases List.mem_cons.1 hx with rfl | hx
     ·exact hb
     ·exact (hr.circ.mem x hx).1
   obtain ⟨m,hm,h1,h2⟩:=Asl (r:=a::b::l) hv (by omega) (by simp) hin
   have far:∀ y∈a::b::l,y≠(a::b::l)[m]→befP (plV v (a::b::l)[m]) (plV v y):=fun y hy hne=>by
    rcases Le (Vc hv (hin _ (List.getElem_mem hm)) (hin y hy) (fun e=>hne e.symm)) with g | g
    ·exact g
    ·exact absurd g (h2 y hy)
   have step:∀ x y z,idx (a::b::l) (Int.tmod (w64 ((w64 ((m:Int)+(((a::b::l).length:Nat):Int)))-1)) (((a::b::l).length:Nat):Int))=some x→idx (a::b::l) (Int.tmod (w64 ((m:Int)+1)) (((a::b::l).length:Nat):Int))=some y→(a::b::l)[m]=z →
     Eh b a v (a::b::l)=if z=a∧y=b then some (.inr (.inr x)) else if z=b∧x=a then some (.inr (.inr y)) else some (.inl ((a::b::l).filter fun y=>decide (y≠z))):=fun x y z hx hy hz=>by
    unfold Eh
    rw [if_pos (by omega),jn_d,h1,Ai]
    dsimp only
    rw [gd_t (by omega),hx,Ai,gd_t (by omega),hy,Ai,jn_d,Bo hm,Ai,hz]
    have c:=Aqx (r:=a::b::l) (by omega) hnd hm
    rw [hz] at c
    rw [jn_d,Ai,jn_d,c,Ai]
    dsimp only
    have hba:b≠a:=fun e=>hab e.symm
    by_cases e1:z=a
    ·have e3:z≠b:=fun e=>hab (by rw [← e1,e])
     by_cases e2:y=b
     ·simp [e1,e2]
     ·simp [e1,e2,hab]
    ·by_cases e3:z=b
     ·by_cases e4:x=a
      ·simp [e3,e4,hba]
      ·simp [e3,e4,hba]
     ·simp [e1,e3]
   have m1:Int.tmod (w64 ((w64 ((m:Int)+(((a::b::l).length:Nat):Int)))-1)) (((a::b::l).length:Nat):Int)=((m:Int)+(n+2)) % (n+3):=by
    rw [hlen,Bw (x:=(m:Int)+((n+3:Nat):Int)) (by omega) (by omega),Bw (by omega) (by omega),tm _ _ (by omega)]
    congr 1
    omega
   have m2:Int.tmod (w64 ((m:Int)+1)) (((a::b::l).length:Nat):Int)=((m:Int)+1) % (n+3):=by
    rw [hlen,Bw (by omega) (by omega),tm _ _ (by omega)]
    rfl
   rw [m1,m2] at step
   rw [hlen] at hm
   by_cases cm0:m=0
   ·-- a is the first
    subst cm0
    obtain ⟨l',c,rfl⟩:∃ l' c,l=l' ++ [c]:=⟨l.dropLast,l.getLast hne,(List.dropLast_concat_getLast hne).symm⟩
    have i1:idx (a::b::(l' ++ [c])) (((0:Nat):Int)+(n+2))=some c:=by
     have:(((0:Nat):Int)+(n+2))=((n+2:Nat):Int):=by omega
     rw [this,Bo (by rw [hlen];omega)]
     have hn':l'.length=n:=by simpa using hl
     congr 1
     simp only [List.getElem_cons_succ]
     rw [List.getElem_append_right (by omega)]
     simp [hn']
    have i2:idx (a::b::(l' ++ [c])) (((0:Nat):Int)+1)=some b:=Bo (l:=a::b::(l' ++ [c])) (j:=1) (by simp)
    rw [Int.emod_eq_of_lt (by omega) (by omega),Int.emod_eq_of_lt (by omega) (by omega)] at step
    have st:=step c b a i1 i2 rfl
    rw [if_pos ⟨rfl,rfl⟩] at st
    refine ⟨c,hr.ans_a hv ha hb (far b (by simp) (fun e=>hab e.symm)) (fun x hx=>far x (by simp only [List.mem_cons];exact .inr (.inr hx)) (fun e=>?_)),.inl ?_⟩
    ·have e:x=a:=e
     rw [e] at hx
     exact hal hx
    ·rw [Cj,st]
   ·by_cases cm1:m=1
    ·subst cm1
     obtain ⟨c,l',rfl⟩:=List.exists_cons_of_ne_nil hne
     have i1:idx (a::b::c::l') ((((1:Nat):Int)+(n+2)) % (n+3))=some a:=by
      have:(((1:Nat):Int)+(n+2)) % (n+3)=((0:Nat):Int):=by
       rw [show (((1:Nat):Int)+((n:Int)+2))=(n:Int)+3 by omega,Int.emod_self];rfl
      rw [this]
      exact Bo (l:=a::b::c::l') (j:=0) (by simp)
     have i2:idx (a::b::c::l') ((((1:Nat):Int)+1) % (n+3))=some c:=by
      rw [Int.emod_eq_of_lt (by omega) (by omega)]
      exact Bo (l:=a::b::c::l') (j:=2) (by simp)
     have st:=step a c b i1 i2 rfl
     rw [if_neg (fun g=>hab g.1.symm),if_pos ⟨rfl,rfl⟩] at st
     refine ⟨c,hr.ans_b hv ha hb (far a (by simp) hab) (fun x hx=>far x (by simp only [List.mem_cons] at hx ⊢;exact .inr (.inr hx)) (fun e=>?_)),.inl ?_⟩
     ·have e:x=b:=e
      rw [e] at hx
      exact hbl hx
     ·rw [Cj,st]
    ·-- one of the others
     obtain ⟨k,rfl⟩:∃ k,m=k+2:=⟨m-2,by omega⟩
     have hk:k < l.length:=by omega
     have hx:(a::b::l)[k+2]'(by rw [hlen];omega)=l[k]:=rfl
     have hxl:l[k]∈l:=List.getElem_mem hk
     have e1:∃ x,idx (a::b::l) ((((k+2:Nat):Int)+(n+2)) % (n+3))=some x:=by
      obtain ⟨j,hj⟩:=Int.eq_ofNat_of_zero_le (Int.emod_nonneg (((k+2:Nat):Int)+(n+2)) (show ((n:Int)+3)≠0 by omega))
      have:=Int.emod_lt_of_pos (((k+2:Nat):Int)+(n+2)) (show (0:Int) < (n:Int)+3 by omega)
      rw [hj] at this ⊢
      exact ⟨_,Bo (by rw [hlen];omega)⟩
     have e2:∃ x,idx (a::b::l) ((((k+2:Nat):Int)+1) % (n+3))=some x:=by
      obtain ⟨j,hj⟩:=Int.eq_ofNat_of_zero_le (Int.emod_nonneg (((k+2:Nat):Int)+1) (show ((n:Int)+3)≠0 by omega))
      have:=Int.emod_lt_of_pos (((k+2:Nat):Int)+1) (show (0:Int) < (n:Int)+3 by omega)
      rw [hj] at this ⊢
      exact ⟨_,Bo (by rw [hlen];omega)⟩
     obtain ⟨x,e1⟩:=e1
     obtain ⟨y,e2⟩:=e2
     have st:=step x y l[k] e1 e2 hx
     have na:l[k]≠a:=fun e=>hal (e ▸ hxl)
     have nb:l[k]≠b:=fun e=>hbl (e ▸ hxl)
     rw [if_neg (fun g=>na g.1),if_neg (fun g=>nb g.1),List.filter_cons_of_pos (by simpa using fun e=>na e.symm),List.filter_cons_of_pos (by simpa using fun e=>nb e.symm)] at st
     have hsub:∀ z,z∈(l.filter fun y=>decide (y≠l[k]))↔z∈l∧z≠l[k]:=fun z=>by rw [List.mem_filter];simp
     have hlen2:(l.filter fun y=>decide (y≠l[k])).length=n:=by
      have h3:=hr.circ.nd.erase_eq_filter l[k]
      have h4:(l.filter fun y=>decide (y≠l[k]))=l.filter (fun y=>y != l[k]):=List.filter_congr fun y _=>by by_cases g:y=l[k] <;> simp [g]
      rw [h4,← h3,List.length_erase_of_mem hxl,hl]
      rfl
     obtain ⟨c,g1,g2⟩:=ih _ hlen2 (by omega) (fun e=>by rw [e] at hlen2;simp at hlen2;omega) ⟨hr.circ.sub (fun z hz=>((hsub z).1 hz).1) (hr.circ.nd.filter _),hr.ord.filter _⟩
     rw [hx] at far
     refine ⟨c,hr.ans_cut hv ha hb hxl (far a (by simp) (fun e=>na e.symm)) (far b (by simp) (fun e=>nb e.symm)) (fun z hz hzn=>far z (by simp [hz]) hzn) hsub g1,?_⟩
     rw [Cj,st]
     exact g2
theorem Aoj (hv:Gb v) (hn:v.length≤1024) (ha:inN v.length a) (hb:inN v.length b) {l:List Int} (hll:l.length≤1024) (hne:l≠[]) (hr:Ring v a b l):∃ c,Ko v a b (a::b::l)=some c∧Ans v a b l c:=by
 obtain ⟨c,h1,h2⟩:=Aju hv hn ha hb l.length l rfl hll hne hr
 refine ⟨c,?_,h1⟩
 unfold Ko
 rw [jn_d]
 rcases h2 with h2 | h2
 ·rw [h2,Ai]
 ·rw [h2,Ai]
  dsimp only
  have hc:=hr.circ.mem c h1.1
  have nca:c≠a:=fun e=>by have:=hc.2;rw [e,Fh] at this;omega
  have ncb:c≠b:=fun e=>by have:=hc.2;rw [e,De] at this;omega
  have nab:b≠a:=fun e=>by have:=hc.2;rw [e,Vh] at this;omega
  have s0:Dl [a,b,c] a b 0=some (.inl 1):=by
   unfold Dl
   rw [if_pos (by simp),show idx [a,b,c] 0=some a from rfl,Ai,jn_d,if_pos rfl]
   dsimp only
   rw [if_neg (by simp),Bw (by omega) (by omega)]
   rfl
  have s1:Dl [a,b,c] a b 1=some (.inl 2):=by
   unfold Dl
   rw [if_pos (by simp),show idx [a,b,c] 1=some b from rfl,Ai,jn_d,if_neg nab]
   dsimp only
   rw [if_neg (by simp),Bw (by omega) (by omega)]
   rfl
  have s2:Dl [a,b,c] a b 2=some (.inr (.inr c)):=by
   unfold Dl
   rw [if_pos (by simp),show idx [a,b,c] 2=some c from rfl,Ai,jn_d,if_neg nca]
   dsimp only
   rw [if_pos (by simpa using ncb)]
  rw [jn_d,Cj,s0]
  dsimp only
  rw [Cj,s1]
  dsimp only
  rw [Cj,s2,Ai]
theorem Ag7 (hv:Gb v) (hn:v.length≤1024) (ha:inN v.length a) (hb:inN v.length b):∃ c,Lt v [] a b=some c∧((c = -1∧∀ d,inN v.length d→crs (plV v a) (plV v b) (plV v d)≤0)∨Top v a b c):=by
 obtain ⟨s,h1,h2⟩:=Amq hv hn ha hb
 unfold Lt
 rw [jn_d,h1,Ai]
 dsimp only
 by_cases hs:s=[]
 ·rw [if_pos (by simp [hs])]
  exact ⟨-1,rfl,.inl ⟨rfl,fun d hd=>h2.none hs d hd hd.2⟩⟩
 ·have hpos:=List.length_pos_iff.2 hs
  have hle:s.length≤1024:=by
   have:=Di (m:=inds v.length) h2.nd (fun x hx=>Ru.2 (h2.mem x hx).1)
   rw [Vj] at this
   omega
  rw [if_neg (by omega)]
  obtain ⟨m,g1,g2,g3⟩:=Aqw hv hn ha h2.circ hle
  have hm:m≠[]:=fun e=>by
   obtain ⟨x,hx⟩:=List.exists_mem_of_ne_nil s hs
   have:=(g3 x).2 hx
   rw [e] at this
   cases this
  have hml:m.length≤1024:=by
   have:=Di g2.circ.nd (fun x hx=>(g3 x).1 hx)
   omega
  obtain ⟨c,e1,e2⟩:=Aoj hv hn ha hb hml hm g2
  rw [g1,Ai,e1,Ai]
  exact ⟨c,rfl,.inr (h2.ans hv ha hb g3 e2)⟩
end Go.Proofs.YtbkobeeileemjaaGreat
/- The reference's mesh without lines. -/
namespace Go.Proofs.YtbkobeeileemjaaGreat
open Go Go.RowKit
/-! ### sorting by insertion -/
section
variable {α:Type} {lt:α→α→Bool}
theorem Aok (htr:∀ x y z,lt y x=false→lt z y=false→lt z x=false) (has:∀ x y,lt x y=true→lt y x=false) {B:List α × Int→Option (Sum (List α × Int) (List α))}
  (hB:∀ (A:List α) (y x:α) (R:List α),A.length≤100000000→B (A++y::x::R,((A.length+1:Nat):Int))=if lt x y=true then some (.inl (A++x::y::R,((A.length:Nat):Int))) else some (.inr (A++y::x::R)))
  (hB0:∀ (x:α) (R:List α),B (x::R,0)=some (.inr (x::R))) :
  ∀ (n:Nat) (A C D:List α) (x:α),A.length=n→n≤100000000→((A++C).Pairwise fun x y=>lt y x=false)→(∀ c∈C,lt x c=true)→∃ A' C',A' ++ C'=A++C∧lfix B (A++x::(C++D),(A.length:Int))=some (A' ++ x::(C' ++ D))∧(A' ++ x::C').Pairwise fun x y=>lt y x=false:=by
 intro n
 induction n with
 | zero =>
  intro A C D x hA _ hs hc
  have:A=[]:=List.eq_nil_of_length_eq_zero hA
  subst this
  refine ⟨[],C,rfl,?_,?_⟩
  ·rw [List.nil_append,Cj,show ((([]:List α).length:Nat):Int)=0 from rfl,hB0]
  ·exact List.pairwise_cons.2 ⟨fun c hc'=>has _ _ (hc c hc'),hs⟩
 | succ n ih =>
  intro A C D x hA hn hs hc
  obtain ⟨A',y,rfl⟩:∃ A' y,A=A' ++ [y]:=⟨A.dropLast,A.getLast (fun e=>by rw [e] at hA;simp at hA),(List.dropLast_concat_getLast _).symm⟩
  have hA':A'.length=n:=by simpa using hA
  have e1:(A' ++ [y])++x::(C++D)=A' ++ y::x::(C++D):=by simp
  have e2:(((A' ++ [y]).length:Nat):Int)=((A'.length+1:Nat):Int):=by simp
  rw [e1,e2,Cj,hB _ _ _ _ (by omega)]
  by_cases c:lt x y=true
  ·rw [if_pos c]
   dsimp only
   obtain ⟨A2,C2,g1,g2,g3⟩:=ih A' (y::C) D x hA' (by omega) (by simpa using hs) (fun z hz=>by rcases List.mem_cons.1 hz with rfl | hz;exact c;exact hc z hz)
   exact ⟨A2,C2,by rw [g1];simp,g2,g3⟩
  ·rw [if_neg c]
   have c':lt x y=false:=by simpa using c
   refine ⟨A' ++ [y],C,rfl,by simp,?_⟩
   rw [List.pairwise_append] at hs ⊢
   obtain ⟨h1,h2,h3⟩:=hs
   refine ⟨h1,List.pairwise_cons.2 ⟨fun z hz=>has _ _ (hc z hz),h2⟩,fun z hz w hw=>?_⟩
   rcases List.mem_cons.1 hw with rfl | hw
   ·rw [List.pairwise_append] at h1
    rcases List.mem_append.1 hz with hz | hz
    ·exact htr _ _ _ (h1.2.2 z hz y (by simp)) c'
    ·rw [List.mem_singleton] at hz
     subst hz
     exact c'
   ·exact h3 z hz w hw
theorem Aol (htr:∀ x y z,lt y x=false→lt z y=false→lt z x=false) (has:∀ x y,lt x y=true→lt y x=false) {B:List α × Int→Option (Sum (List α × Int) (List α))} {B2:List α × Int→Option (Sum (List α × Int) (List α))} {p:List α}
  (hB:∀ (A:List α) (y x:α) (R:List α),A.length≤100000000→B (A++y::x::R,((A.length+1:Nat):Int))=if lt x y=true then some (.inl (A++x::y::R,((A.length:Nat):Int))) else some (.inr (A++y::x::R)))
  (hB0:∀ (x:α) (R:List α),B (x::R,0)=some (.inr (x::R))) (hp:p.length≤100000000)
  (h2:∀ (l:List α) (k:Nat),k < p.length→B2 (l,(k:Int))=bnd (lfix B (l,(k:Int))) fun t=>some (.inl (t,((k+1:Nat):Int)))) (h3:∀ l:List α,B2 (l,(p.length:Int))=some (.inr l)) :
  ∃ r,lfix B2 (p,0)=some r∧r.Perm p∧r.Pairwise fun x y=>lt y x=false:=by
 refine Cu (B:=B2) (fun s=>p.length-s.2.toNat) (fun s=>∃ S D:List α,s=(S++D,(S.length:Int))∧(S++D).Perm p∧S.Pairwise fun x y=>lt y x=false) _ (fun s hs=>?_) _ ⟨[],p,rfl,List.Perm.refl _,List.Pairwise.nil⟩
 obtain ⟨S,D,rfl,h4,h5⟩:=hs
 have hlen:=h4.length_eq
 rw [List.length_append] at hlen
 rcases D with _ | ⟨x,D⟩
 ·right
  have:S.length=p.length:=by simpa using hlen
  rw [this,h3]
  exact ⟨_,rfl,h4,by simpa using h5⟩
 ·left
  rw [List.length_cons] at hlen
  rw [h2 _ _ (by omega)]
  obtain ⟨A',C',g1,g2,g3⟩:=Aok htr has hB hB0 S.length S [] D x rfl (by omega) (by simpa using h5) (fun c hc=>(by cases hc))
  rw [List.append_nil] at g1
  rw [List.nil_append] at g2
  rw [g2,Ai]
  have hl:A'.length+C'.length=S.length:=by rw [← List.length_append,g1]
  have e:(A' ++ x::(C' ++ D))=(A' ++ x::C')++D:=by simp
  refine ⟨_,rfl,⟨A' ++ x::C',D,by rw [e,List.length_append,List.length_cons,← hl];congr 2,?_,g3⟩,by dsimp only;omega⟩
  rw [← e]
  refine List.Perm.trans ?_ h4
  rw [← g1]
  have:(A' ++ x::(C' ++ D)).Perm (x::(A' ++ (C' ++ D))):=List.perm_middle
  refine this.trans ?_
  have:((A' ++ C')++x::D).Perm (x::((A' ++ C')++D)):=List.perm_middle
  rw [← List.append_assoc]
  exact this.symm
end
theorem Aom {α:Type} (A:List α) (y x:α) (R:List α):idx (A++y::x::R) ((A.length:Nat):Int)=some y∧idx (A++y::x::R) ((A.length+1:Nat):Int)=some x:=by
 constructor
 ·rw [Bo (by simp)];simp
 ·rw [Bo (by simp)];simp
theorem Aqy (x y:Am):Lj x y=some (decide (cmp3 x y < 0)):=by
 obtain ⟨x0,x1,x2⟩:=x
 obtain ⟨y0,y1,y2⟩:=y
 have step:∀ (a b c a' b' c':Int) (i:Int) (h:Int),w64 (i+1)=h→∀ p q,i < 3→idx [a,b,c] i=some p→idx [a',b',c'] i=some q→Ft ⟨a,b,c⟩ ⟨a',b',c'⟩ i=if p=q then some (.inl h) else some (.inr (.inr (decide (p < q)))):=by
  intro a b c a' b' c' i h hh p q hi hp hq
  unfold Ft
  dsimp only
  rw [if_pos hi,hp,Ai,hq,Ai,Ai,Ai,hh]
 have w1:w64 (0+1)=1:=Bw (by omega) (by omega)
 have w2:w64 (1+1)=2:=Bw (by omega) (by omega)
 have w3:w64 (2+1)=3:=Bw (by omega) (by omega)
 have s0:=step x0 x1 x2 y0 y1 y2 0 1 w1 x0 y0 (by omega) rfl rfl
 have s1:=step x0 x1 x2 y0 y1 y2 1 2 w2 x1 y1 (by omega) rfl rfl
 have s2:=step x0 x1 x2 y0 y1 y2 2 3 w3 x2 y2 (by omega) rfl rfl
 have s3:Ft ⟨x0,x1,x2⟩ ⟨y0,y1,y2⟩ 3=some (.inr (.inl ())):=by unfold Ft;rw [if_neg (by omega)]
 unfold Lj
 rw [jn_d,Cj,s0]
 have key:∀ P:Prop,∀ Q:Prop,[Decidable P]→[Decidable Q]→(P↔Q)→some (decide P)=some (decide Q):=fun P Q _ _ h=>by rw [decide_eq_decide.2 h]
 have hc:=Yt ⟨x0,x1,x2⟩ ⟨y0,y1,y2⟩
 dsimp only at hc
 by_cases h0:x0=y0
 ·rw [if_pos h0]
  dsimp only
  rw [Cj,s1]
  by_cases h1:x1=y1
  ·rw [if_pos h1]
   dsimp only
   rw [Cj,s2]
   by_cases h2:x2=y2
   ·rw [if_pos h2]
    dsimp only
    rw [Cj,s3,Ai]
    dsimp only
    rw [decide_eq_false (fun g=>by have:=hc.1 g;omega)]
   ·rw [if_neg h2,Ai]
    dsimp only
    exact key _ _ (by rw [hc];omega)
  ·rw [if_neg h1,Ai]
   dsimp only
   exact key _ _ (by rw [hc];omega)
 ·rw [if_neg h0,Ai]
  dsimp only
  exact key _ _ (by rw [hc];omega)
theorem Ajv (p:List Am) (hp:p.length≤100000000):∃ r,Jf p=some r∧r.Perm p∧r.Pairwise fun x y=>¬ cmp3 y x < 0:=by
 have:=Aol (lt:=fun x y:Am=>decide (cmp3 x y < 0)) (B:=Gh) (B2:=Gi p) (p:=p)
  (fun x y z h1 h2=>by
   simp only [decide_eq_false_iff_not,Yt] at *
   omega)
  (fun x y h=>by
   simp only [decide_eq_false_iff_not,decide_eq_true_eq,Yt] at *
   omega)
  (fun A y x R hA=>by
   obtain ⟨i0,i1⟩:=Aom A y x R
   have w1:w64 (((A.length+1:Nat):Int)-1)=((A.length:Nat):Int):=by rw [Bw (by omega) (by omega)];omega
   unfold Gh
   dsimp only
   rw [jn_d,if_pos (by omega),w1,i1,Ai,i0,Ai,Aqy,Ai]
   by_cases c:decide (cmp3 x y < 0)=true
   ·have e1:(A++y::x::R).set (A.length+1) y=A++y::y::R:=by simp [List.set_append]
    have e2:(A++y::y::R).set A.length x=A++x::y::R:=by simp [List.set_append]
    have j0:∃ z,idx (A++y::y::R) ((A.length:Nat):Int)=some z:=⟨_,(Aom A y y R).1⟩
    obtain ⟨z,j0⟩:=j0
    dsimp only
    rw [if_pos c,if_pos c,Ai,Ai,Ai,Ab3,e1,j0,Ai,Ab3,e2]
   ·dsimp only
    rw [if_neg c,if_neg c])
  (fun x R=>by
   unfold Gh
   dsimp only
   rw [jn_d,if_neg (by omega)]
   dsimp only
   rw [if_neg (by simp)])
  hp
  (fun l k hk=>by
   unfold Gi
   dsimp only
   rw [if_pos (by omega),jn_d,show w64 ((k:Int)+1)=((k+1:Nat):Int) from by rw [Bw (by omega) (by omega)];omega])
  (fun l=>by
   unfold Gi
   dsimp only
   rw [if_neg (by omega)])
 obtain ⟨r,h1,h2,h3⟩:=this
 refine ⟨r,?_,h2,h3.imp fun h=>by simpa using h⟩
 unfold Jf
 rw [jn_d,h1,Ai]
/-! ### triangles -/
variable {v:List Ae}
theorem Amr {a b c:Int} (h:Del v a b c):∃ t,Jg ⟨a,b,c⟩=some t∧Agg v t∧Pe t a b∧(∀ p q,Pe t p q↔Pe ⟨a,b,c⟩ p q):=by
 have hn:=Wi (P:=plV v) (a:=a) (b:=b) (c:=c) (by have:=h.2.2.2.1;omega)
 have stop:∀ x y z:Int,¬ y < x→¬ z < x→Er (x,y,z)=some (.inr (x,y,z)):=fun x y z h1 h2=>by
  unfold Er
  dsimp only
  rw [jn_d,if_neg h1,decide_eq_false h2]
  dsimp only
  rw [if_neg (by simp)]
 have more:∀ x y z:Int,y < x∨z < x→Er (x,y,z)=some (.inl (y,z,x)):=fun x y z h1=>by
  unfold Er
  dsimp only
  rw [jn_d]
  by_cases c:y < x
  ·rw [if_pos c]
   dsimp only
   rw [if_pos rfl]
  ·rw [if_neg c,decide_eq_true (h1.resolve_left c)]
   dsimp only
   rw [if_pos rfl]
 unfold Jg
 rw [jn_d]
 dsimp only
 by_cases h1:b < a∨c < a
 ·rw [Cj,more _ _ _ h1]
  dsimp only
  by_cases h2:c < b∨a < b
  ·rw [Cj,more _ _ _ h2]
   dsimp only
   rw [Cj,stop _ _ _ (by omega) (by omega),Ai]
   refine ⟨_,rfl,⟨by dsimp only;omega,by dsimp only;omega,h.rot.rot⟩,.inr (.inl ⟨rfl,rfl⟩),fun p q=>?_⟩
   unfold Pe
   dsimp only
   omega
  ·rw [Cj,stop _ _ _ (by omega) (by omega),Ai]
   refine ⟨_,rfl,⟨by dsimp only;omega,by dsimp only;omega,h.rot⟩,.inr (.inr ⟨rfl,rfl⟩),fun p q=>?_⟩
   unfold Pe
   dsimp only
   omega
 ·rw [Cj,stop _ _ _ (by omega) (by omega),Ai]
  exact ⟨_,rfl,⟨by dsimp only;omega,by dsimp only;omega,h⟩,.inl ⟨rfl,rfl⟩,fun p q=>Iff.rfl⟩
theorem Asm {n:Nat} (hn:n≤1024) {t:Am} (h0:inN n t.a0) (h1:inN n t.a1) (h2:inN n t.a2) {s:(List Ab) × (List (Ab × Bool)) × (List Am)} {op:List Ab} {dn:List (Ab × Bool)} (hop:op.length≤10000000) (hdn:dn.length≤10000000) (hpl:∀ (m:List (Ab × Bool)) (x:Ab),(mput m x true).length≤m.length+1) :
  lfix (Dg t s) (op,dn,0)=some (op++[⟨t.a1,t.a0⟩,⟨t.a2,t.a1⟩,⟨t.a0,t.a2⟩],mput (mput (mput dn ⟨t.a0,t.a1⟩ true) ⟨t.a1,t.a2⟩ true) ⟨t.a2,t.a0⟩ true,s.2.2++[t]):=by
 unfold inN at h0 h1 h2
 have step:∀ (op:List Ab) (dn:List (Ab × Bool)) (i j:Int) (p q:Int),op.length≤20000000→dn.length≤20000000→0≤i→i < 3→Int.tmod (w64 (i+1)) 3=j→idx [t.a0,t.a1,t.a2] i=some p→idx [t.a0,t.a1,t.a2] j=some q→(0≤p∧p < 1024)→(0≤q∧q < 1024) →
   Dg t s (op,dn,i)=some (.inl (op++[⟨q,p⟩],mput dn ⟨p,q⟩ true,i+1)):=fun op dn i j p q ho hd hi hi3 hj hp hq hpr hqr=>by
  unfold Dg
  dsimp only
  rw [if_pos hi3,hp,Ai,hj,hq,Ai,gd_t ⟨⟨by omega,by omega⟩,by omega,by omega⟩,gd_t (by omega),gd_t (by omega),Bw (by omega) (by omega)]
 have last:∀ (op:List Ab) (dn:List (Ab × Bool)),Dg t s (op,dn,3)=some (.inr (op,dn,s.2.2++[t])):=fun op dn=>by
  unfold Dg
  dsimp only
  rw [if_neg (by omega)]
 have l1:=hpl dn ⟨t.a0,t.a1⟩
 have l2:=hpl (mput dn ⟨t.a0,t.a1⟩ true) ⟨t.a1,t.a2⟩
 have m0:Int.tmod (w64 (0+1)) 3=1:=by rw [Bw (by omega) (by omega)];rfl
 have m1:Int.tmod (w64 (1+1)) 3=2:=by rw [Bw (by omega) (by omega)];rfl
 have m2:Int.tmod (w64 (2+1)) 3=0:=by rw [Bw (by omega) (by omega)];rfl
 rw [Cj,step op dn 0 1 t.a0 t.a1 (by omega) (by omega) (by omega) (by omega) m0 rfl rfl (by omega) (by omega)]
 dsimp only
 rw [Cj,show (0:Int)+1=1 from rfl,step _ _ 1 2 t.a1 t.a2 (by simp;omega) (by omega) (by omega) (by omega) m1 rfl rfl (by omega) (by omega)]
 dsimp only
 rw [Cj,show (1:Int)+1=2 from rfl,step _ _ 2 0 t.a2 t.a0 (by simp;omega) (by omega) (by omega) (by omega) m2 rfl rfl (by omega) (by omega)]
 dsimp only
 rw [Cj,show (2:Int)+1=3 from rfl,last]
 simp
/-- The sides that are done. -/
def dnM (m:List (Ab × Bool)) (p q:Int):Prop:=(mget m ⟨p,q⟩).getD false=true
theorem Adq {m:List (Ab × Bool)} (hm:Dx m) (x y p q:Int):dnM (mput m ⟨x,y⟩ true) p q↔dnM m p q∨(p=x∧q=y):=by
 unfold dnM
 rw [Mx hm]
 by_cases h:(⟨p,q⟩:Ab)=⟨x,y⟩
 ·rw [if_pos h]
  simp only [Ab.mk.injEq] at h
  simp [h]
 ·rw [if_neg h]
  simp only [Ab.mk.injEq] at h
  exact ⟨.inl,fun g=>g.elim id fun g=>absurd g h⟩
theorem Xw (m:List (Ab × Bool)) (x:Ab):(mput m x true).length≤m.length+1:=by
 unfold mput
 have:(mdel m x).length≤m.length:=List.length_filter_le _ _
 simp only [List.length_cons,List.length_append,List.length_nil]
 omega
theorem Aez (hv:Gb v) (hn:v.length≤1024) {p0 q0:Int} (h0:okS v p0 q0) (hs:∃ e,Del v p0 q0 e) :
  ∃ out,lfix (Es v []) ([⟨p0,q0⟩],([]:List (Ab × Bool)),([]:List Am))=some out∧out.Nodup∧out.length≤1048576∧∀ t,t∈out↔t.a0 < t.a1∧t.a0 < t.a2∧Del v t.a0 t.a1 t.a2:=by
 have hsq:=Ac2 hn
 refine Cu (B:=Es v []) (fun s=>4*(v.length*v.length-s.2.2.length)+s.1.length)
  (fun s=>Tr v p0 q0 s.1 (dnM s.2.1) s.2.2∧Dx s.2.1∧s.2.1.length+s.1.length≤1+6*s.2.2.length) _ (fun s hst=>?_) _ ⟨Tr.init h0 (fun p q h=>by simp [dnM,Ah6] at h),List.Pairwise.nil,by simp⟩
 obtain ⟨op,dn,out⟩:=s
 obtain ⟨h1,h2,h3⟩:=hst
 dsimp only at h1 h2 h3
 have hb:=h1.bound
 have hl:=h1.len
 unfold Es
 dsimp only
 by_cases hop:op=[]
 ·right
  subst hop
  rw [if_neg (by simp)]
  exact ⟨_,rfl,h1.nd,by omega,h1.full hs⟩
 ·left
  obtain ⟨r,s,rfl⟩:∃ r s,op=r++[s]:=⟨op.dropLast,op.getLast hop,(List.dropLast_concat_getLast hop).symm⟩
  obtain ⟨s1,s2,s3⟩:=h1.opn s (by simp)
  have hln:(r++[s]).length=r.length+1:=by simp
  have w1:w64 ((((r++[s]).length:Nat):Int)-1)=((r.length:Nat):Int):=by rw [hln,Bw (by omega) (by omega)];omega
  have i1:idx (r++[s]) ((r.length:Nat):Int)=some s:=by rw [Bo (by simp)];simp
  have tk:List.take (Int.toNat ((r.length:Nat):Int)) (r++[s])=r:=by simp
  have hr1:=Qj hn s1 s2
  rw [if_pos (by omega),w1,i1,Ai,gd_t ⟨by omega,by omega⟩,gd_t hr1,Ai,tk]
  by_cases c1:(mget dn s).getD false=true
  ·rw [if_pos c1]
   exact ⟨_,rfl,⟨h1.skip c1,h2,by dsimp only;omega⟩,by dsimp only;omega⟩
  ·rw [if_neg c1]
   obtain ⟨c,e1,e2⟩:=Ag7 hv hn s1 s2
   rw [e1,Ai]
   have hput:=Xw dn s
   by_cases c2:c < 0
   ·have hno:noT v s.a0 s.a1:=by
     rcases e2 with ⟨_,g⟩ | g
     ·exact g
     ·have:=g.1.1;omega
    rw [if_pos c2,gd_t hr1,gd_t (by omega)]
    exact ⟨_,rfl,⟨h1.none (fun p q=>Adq h2 s.a0 s.a1 p q) hno,h2.put _ _,by dsimp only;omega⟩,by dsimp only;omega⟩
   ·have ht:Top v s.a0 s.a1 c:=by
     rcases e2 with ⟨g,_⟩ | g
     ·omega
     ·exact g
    have hd:Del v s.a0 s.a1 c:=by
     rcases s3 with g | ⟨e,he⟩
     ·have:=g c ht.1;have:=ht.2.1;omega
     ·rw [← he.top.unique ht];exact he
    obtain ⟨t,t1,t2,t3,t4⟩:=Amr hd
    have tin:inN v.length t.a0∧inN v.length t.a1∧inN v.length t.a2:=⟨t2.2.2.1,t2.2.2.2.1,t2.2.2.2.2.1⟩
    have hnew:=h1.more (dn':=dnM (mput (mput (mput dn ⟨t.a0,t.a1⟩ true) ⟨t.a1,t.a2⟩ true) ⟨t.a2,t.a0⟩ true)) c1 t2 t3 (fun p q=>by
      rw [Adq ((h2.put _ _).put _ _),Adq (h2.put _ _),Adq h2]
      unfold Pe
      constructor
      ·rintro (((g | g) | g) | g)
       ·exact .inl g
       ·exact .inr (.inl g)
       ·exact .inr (.inr (.inl g))
       ·exact .inr (.inr (.inr g))
      ·rintro (g | g | g | g)
       ·exact .inl (.inl (.inl g))
       ·exact .inl (.inl (.inr g))
       ·exact .inl (.inr g)
       ·exact .inr g) (fun p q hpq=>by
      obtain ⟨e,he⟩:=t2.side hpq
      refine ⟨he.2.1,he.1,?_⟩
      obtain ⟨x,_,hx⟩:=Ag7 hv hn he.2.1 he.1
      rcases hx with ⟨_,hx⟩ | hx
      ·exact .inl hx
      ·exact .inr ⟨x,Top.across he hx⟩)
    have hb2:=hnew.bound
    rw [List.length_append,List.length_singleton] at hb2
    have q1:=Xw dn ⟨t.a0,t.a1⟩
    have q2:=Xw (mput dn ⟨t.a0,t.a1⟩ true) ⟨t.a1,t.a2⟩
    have q3:=Xw (mput (mput dn ⟨t.a0,t.a1⟩ true) ⟨t.a1,t.a2⟩ true) ⟨t.a2,t.a0⟩
    rw [if_neg c2,t1,Ai,gd_t (by omega),Asm hn tin.1 tin.2.1 tin.2.2 (by omega) (by omega) Xw,Ai]
    refine ⟨_,rfl,⟨hnew,((h2.put _ _).put _ _).put _ _,?_⟩,?_⟩
    ·dsimp only
     simp only [List.length_append,List.length_cons,List.length_nil]
     rw [hln] at h3
     omega
    ·dsimp only
     simp only [List.length_append,List.length_cons,List.length_nil]
     omega
/-- The first side has a triangle. -/
theorem Aon (hv:Gb v) (hn:v.length≤1024) {f b:Int} (hf:inN v.length f) (low:∀ k,inN v.length k→k=f∨befP (plV v f) (plV v k)) (hb:inN v.length b) (hbf:b≠f) (hh:∀ k,inN v.length k→k≠f→behind v f b k) (hfl:¬ Aet v):∃ e,Del v f b e:=by
 obtain ⟨c,_,hc⟩:=Ag7 hv hn hf hb
 have left:∀ d,inN v.length d→0≤crs (plV v f) (plV v b) (plV v d):=fun d hd=>by
  by_cases e:d=f
  ·rw [e,Fh];exact Int.le_refl _
  ·rcases hh d hd e with g | g <;> omega
 rcases hc with ⟨_,hc⟩ | hc
 ·exfalso
  have on:∀ d,inN v.length d→crs (plV v f) (plV v b) (plV v d)=0:=fun d hd=>by have:=left d hd;have:=hc d hd;omega
  exact hfl fun i j k hi hj hk=>Abx (Vc hv hf hb (fun e=>hbf e.symm)) (on i hi) (on j hj) (on k hk)
 ·refine ⟨c,hc.hull hv hf hb left fun d hd n1 n2 h0 x hx=>?_⟩
  have h1:befP (plV v f) (plV v b):=(low b hb).resolve_left hbf
  have h2:befP (plV v b) (plV v d):=by
   rcases hh d hd n1 with g | g
   ·omega
   ·exact (Le (Vc hv hb hd (fun e=>n2 e.symm))).resolve_right g.2
  exact Ajt (hv.ok _ hf) (hv.ok _ hb) (hv.ok _ hd) h1 h2 h0 hx
theorem Aoo (hv:Gb v) (hn:v.length≤1024) (h0:0 < v.length):∃ f,inN v.length f∧∀ k,inN v.length k→k=f∨befP (plV v f) (plV v k):=by
 obtain ⟨l,hl,hr⟩:=Aif hv hn
 have hlen:=hr.len
 have g0:0 < l.length:=by omega
 refine ⟨l[0],hr.val.1 (List.getElem_mem g0),fun k hk=>?_⟩
 obtain ⟨j,hj,rfl⟩:=List.getElem_of_mem (hr.val.2 hk)
 by_cases e:j=0
 ·subst e;exact .inl rfl
 ·exact .inr (hr.lt g0 hj (by omega))
theorem Ain (hv:Gb v) (h3:3≤v.length):(∀ k,2≤k→inN v.length k→crs (plV v 0) (plV v 1) (plV v k)=0)↔Aet v:=by
 have i0:inN v.length 0:=⟨by omega,by omega⟩
 have i1:inN v.length 1:=⟨by omega,by omega⟩
 constructor
 ·intro h i j k hi hj hk
  have on:∀ d,inN v.length d→crs (plV v 0) (plV v 1) (plV v d)=0:=fun d hd=>by
   by_cases e0:d=0
   ·subst e0;exact Fh _ _
   ·by_cases e1:d=1
    ·subst e1;exact De _ _
    ·exact h d (by have:=hd.1;omega) hd
  exact Abx (Vc hv i0 i1 (by omega)) (on i hi) (on j hj) (on k hk)
 ·intro h k _ hk
  exact h 0 1 k i0 i1 hk
theorem Afs (hv:Gb v) (hn:v.length≤1024):∃ T,Gj v []=some T∧Xv v T:=by
 unfold Gj
 rw [jn_d]
 have flatT:Aet v→∃ T,(some ([]:List Am))=some T∧Xv v T:=fun h=>⟨[],rfl,Aev h⟩
 by_cases c:v.length < 3
 ·rw [if_pos (by omega)]
  dsimp only
  rw [if_pos rfl]
  refine flatT fun i j k hi hj hk=>?_
  unfold inN at hi hj hk
  have:i=j∨j=k∨i=k:=by omega
  rcases this with rfl | rfl | rfl
  ·exact Vh _ _
  ·exact De _ _
  ·exact Fh _ _
 ·rw [if_neg (by omega)]
  obtain ⟨x,f1,f2⟩:=Aqs hv hn
  rw [f1,Ai]
  dsimp only
  by_cases hx:x=true
  ·rw [if_pos hx]
   exact flatT ((Ain hv (by omega)).1 (f2.1 hx))
  ·rw [if_neg hx]
   have hfl:¬ Aet v:=fun g=>hx (f2.2 ((Ain hv (by omega)).2 g))
   obtain ⟨f,hf,low⟩:=Aoo hv hn (by omega)
   obtain ⟨b,b1,b2,b3,b4⟩:=Amp hv hn hf low (by omega)
   obtain ⟨e,he⟩:=Aon hv hn hf low b2 b3 b4 hfl
   obtain ⟨out,o1,o2,o3,o4⟩:=Aez hv hn ⟨hf,b2,.inr ⟨e,he⟩⟩ ⟨e,he⟩
   obtain ⟨r,r1,r2,r3⟩:=Ajv out (by omega)
   rw [first_eq hn hf low,Ai,b1,Ai,jn_d,o1,Ai]
   dsimp only
   rw [r1,Ai]
   exact ⟨r,rfl,r3,(r2.nodup_iff).2 o2,fun t=>by rw [r2.mem_iff];exact o4 t⟩
theorem Aai (v:List Ae):Fs v []=some 0:=by
 unfold Fs
 rw [jn_d,Cj]
 unfold Jv
 try dsimp only
 rw [if_neg (by simp)]
 try dsimp only
 rw [Ai]
 try dsimp only
 rw [jn_d,Cj]
 unfold Ir
 try dsimp only
 rw [if_neg (by simp)]
 rfl
theorem Aop (v:List Ae) (hn:v.length≤1024):lfix (Gv v) (([]:List Ae),0)=some v:=by
 have:=Cu (B:=Gv v) (fun s=>v.length-s.2.toNat) (fun s=>∃ k:Nat,k≤v.length∧s=(v.take k,(k:Int))) (fun t=>t=v) (fun s hs=>by
  obtain ⟨k,hk,rfl⟩:=hs
  unfold Gv
  dsimp only
  by_cases hk2:k < v.length
  ·left
   rw [if_pos (by omega),Bo hk2,Ai,gd_t (by rw [List.length_take];omega),show w64 ((k:Int)+1)=((k+1:Nat):Int) from by rw [Bw (by omega) (by omega)];omega]
   exact ⟨_,rfl,⟨k+1,hk2,by rw [List.take_succ_eq_append_getElem hk2]⟩,by dsimp only;omega⟩
  ·right
   rw [if_neg (by omega)]
   have:k=v.length:=by omega
   subst this
   exact ⟨_,rfl,by rw [List.take_length]⟩) (([]:List Ae),0) ⟨0,by omega,by simp⟩
 obtain ⟨t,ht,rfl⟩:=this
 exact ht
theorem Adh:Hx []=some []:=by
 unfold Hx
 rw [jn_d,Cj]
 unfold Mc
 try dsimp only
 rw [if_neg (by simp)]
 try dsimp only
 rw [Ai]
 try dsimp only
 rw [jn_d,Cj]
 unfold Md
 try dsimp only
 rw [if_neg (by simp)]
 rfl
/-- Without lines, the program and the document's answer are one. -/
theorem Ag8 {v:List Ae} (h:Qz v=0):∃ T,Kf v []=some (⟨v,T,[]⟩,0)∧Nc v []=some (⟨v,T,[]⟩,0)∧Xv v T:=by
 obtain ⟨hn,_,hv⟩:=Ac3 h
 obtain ⟨T,t1,t2⟩:=Aog h
 obtain ⟨T',e1,e2⟩:=Afs hv hn
 have:T'=T:=e2.unique t2
 subst this
 refine ⟨T',?_,t1,t2⟩
 unfold Kf Nv
 rw [Adg,h,Ai,if_pos rfl,Aai,Ai,Ai,if_pos rfl,jn_d,Aop v hn,Ai,Adh]
 dsimp only
 rw [Ai,e1,Ai]
end Go.Proofs.YtbkobeeileemjaaGreat
