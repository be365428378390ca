/- Triangulations as maps from sides to corners: flips keep what they are. -/
import Derived.Test.YtgfiafnelibjgaaGreatK3
namespace Go.Proofs.YtgfiafnelibjgaaGreat
open Go Go.RowKit
theorem Pd (s a b c d:Ac):crs s a b*crs s c d-crs s a c*crs s b d+crs s a d*crs s b c=0:=by unfold crs;grind
theorem Ch {x y:Int} (h:0 < x*y) (hx:0 < x):0 < y:=by
 rcases Int.lt_or_le 0 y with g | g
 ·exact g
 ·have:=Int.mul_nonpos_of_nonneg_of_nonpos (Int.le_of_lt hx) g;omega
theorem Kf {x y:Int} (h:0≤x*y) (hx:0 < x):0≤y:=by
 rcases Int.lt_or_le y 0 with g | g
 ·have:=Int.mul_neg_of_pos_of_neg hx g;omega
 ·exact g
theorem Ax (s a b:Ac):crs s b a = -crs s a b:=by unfold crs;grind
/-- i between a and l, l between a and b: i comes before b. -/
theorem Uh {s a b l i:Ac} (h1:0 < crs s a l) (h2:0 < crs s l b) (h3:0 < crs s a b) (h4:0 < crs s a i) (h5:0 < crs s i l):0 < crs s i b:=by
 have h:=Pd s a l i b
 rw [Ax s i l] at h
 have e1:0 < crs s a i*crs s l b:=Int.mul_pos h4 h2
 have e2:0 < crs s a b*crs s i l:=Int.mul_pos h3 h5
 have e3:crs s a b * -crs s i l = -(crs s a b*crs s i l):=Int.mul_neg _ _
 exact Ch (x:=crs s a l) (by omega) h1
/-- .. and from the other side. -/
theorem Aev {s a b l j:Ac} (h1:0 < crs s a l) (h2:0 < crs s l b) (h3:0 < crs s a b) (h4:0 < crs s j b) (h5:0 < crs s l j):0 < crs s a j:=by
 have h:=Pd s a j l b
 have e1:0 < crs s a l*crs s j b:=Int.mul_pos h1 h4
 have e2:0 < crs s a b*crs s l j:=Int.mul_pos h3 h5
 have e3:crs s a b*crs s j l = -(crs s a b*crs s l j):=by rw [Ax s l j,Int.mul_neg]
 exact Ch (x:=crs s l b) (by rw [Int.mul_comm];omega) h2
/-- On one ray. -/
theorem Acc {s j m l w:Ac} (h0:crs s j m=0) (h1:0 < crs s j l) (h2:0 < crs s m l) (h3:0 < crs s m w):0 < crs s j w:=by
 have h:=Pd s j l m w
 rw [h0,Ax s m l] at h
 have e1:0 < crs s j l*crs s m w:=Int.mul_pos h1 h3
 have e2:crs s j w * -crs s m l = -(crs s m l*crs s j w):=by rw [Int.mul_neg,Int.mul_comm]
 exact Ch (x:=crs s m l) (by omega) h2
theorem Alh {s j m l w:Ac} (h0:crs s j m=0) (h1:0 < crs s l j) (h2:0 < crs s l m) (h3:0 < crs s w m):0 < crs s w j:=by
 have h:=Pd s l j w m
 have e0:crs s j m=0:=h0
 have e1:0 < crs s l j*crs s w m:=Int.mul_pos h1 h3
 have e2:crs s l m*crs s j w = -(crs s l m*crs s w j):=by rw [Ax s w j,Int.mul_neg]
 rw [e0,Int.mul_zero] at h
 exact Ch (x:=crs s l m) (by omega) h2
/-- Two corners on one ray: the nearer one lies on the side to the other one. -/
theorem Anl {s a i b j:Ac} (h0:crs s a i=0) (h1:0 < crs s a b) (h2:0 < crs s i b) (h3:0 < crs s i j) (h4:0 < crs s a j) :
  (0≤crs a b i∧0≤crs b s i)∨(0≤crs i j a∧0≤crs j s a):=by
 have hp:=Pd s a b i j
 rw [h0,Ax s i b] at hp
 have s1:=Lz s a b i
 have s2:=Lz s i j a
 have r1:crs b s i=crs s i b:=by unfold crs;grind
 have r2:crs j s a=crs s a j:=by unfold crs;grind
 have r3:crs s i a=0:=by rw [Ax,h0];rfl
 by_cases c:crs s i b≤crs s a b
 ·left;omega
 ·right
  have:crs s a j≤crs s i j:=by
   rcases Int.lt_or_le (crs s i j) (crs s a j) with g | g
   ·have e1:=Int.mul_lt_mul_of_pos_left g h1
    have e2:=Int.mul_lt_mul_of_pos_right (show crs s a b < crs s i b by omega) h4
    have e3:crs s a j * -crs s i b = -(crs s i b*crs s a j):=by rw [Int.mul_neg,Int.mul_comm]
    have e4:crs s a b*crs s a j=crs s a b*crs s a j:=rfl
    omega
   ·exact g
  omega
theorem Aqq {s a i b j:Ac} (h0:crs s a i=0) (h1:0 < crs s b a) (h2:0 < crs s b i) (h3:0 < crs s j i) (h4:0 < crs s j a) :
  (0≤crs b a i∧0≤crs s b i)∨(0≤crs j i a∧0≤crs s j a):=by
 have hp:=Pd s b a j i
 rw [h0,Ax s j a,Int.mul_zero] at hp
 have s1:=Lz s b a i
 have s2:=Lz s j i a
 have r1:crs a s i=0:=by rw [Aw,h0];rfl
 have r2:crs i s a=0:=by rw [Aw,Ax,h0];rfl
 by_cases c:crs s b i≤crs s b a
 ·left;omega
 ·right
  have:crs s j a≤crs s j i:=by
   rcases Int.lt_or_le (crs s j i) (crs s j a) with g | g
   ·have e1:=Int.mul_lt_mul_of_pos_left g h1
    have e2:=Int.mul_lt_mul_of_pos_right (show crs s b a < crs s b i by omega) h4
    have e3:crs s b i * -crs s j a = -(crs s b i*crs s j a):=Int.mul_neg _ _
    omega
   ·exact g
  omega
abbrev Ap:=Int→Int→Option Int
/-- A triangulation: the corner of the triangle to the left of each directed side. -/
structure Tri (P:Int→Ac) (V:Int→Prop) (ap:Ap):Prop where
 rot:∀ i j k,ap i j=some k→ap j k=some i
 ccw:∀ i j k,ap i j=some k→V i∧V j∧V k∧0 < crs (P i) (P j) (P k)
 emp:∀ i j k,ap i j=some k→∀ d,V d→d≠i→d≠j→d≠k→crs (P i) (P j) (P d) < 0∨crs (P j) (P k) (P d) < 0∨crs (P k) (P i) (P d) < 0
 cone:∀ s a b m,ap s a=some b→(ap s m≠none∨ap m s≠none)→¬ (0 < crs (P s) (P a) (P m)∧0 < crs (P s) (P m) (P b))
variable {P:Int→Ac} {H:Int→Int} {V:Int→Prop} {ap:Ap}
theorem Tri.rot2 (h:Tri P V ap) {i j k} (hk:ap i j=some k):ap k i=some j:=h.rot _ _ _ (h.rot _ _ _ hk)
theorem Tri.ne (h:Tri P V ap) {i j k} (hk:ap i j=some k):i≠j∧j≠k∧k≠i:=Vb (P:=P) (by have:=(h.ccw _ _ _ hk).2.2.2;omega)
/-- A neighbour of s is a corner of a triangle with s. -/
theorem Tri.nbr (h:Tri P V ap) {s m} (hm:ap s m≠none∨ap m s≠none):(∃ w,ap s m=some w)∨∃ w,ap s w=some m:=by
 rcases hm with hm | hm
 ·obtain ⟨w,hw⟩:=Option.ne_none_iff_exists'.1 hm
  exact .inl ⟨w,hw⟩
 ·obtain ⟨w,hw⟩:=Option.ne_none_iff_exists'.1 hm
  exact .inr ⟨w,h.rot _ _ _ hw⟩
/-- Two triangles at s whose angles have a place l in common are one. -/
theorem Tri.cones (h:Tri P V ap) {s a b i j:Int} {l:Ac} (h1:ap s a=some b) (h2:ap s i=some j) (g1:0 < crs (P s) (P a) l) (g2:0 < crs (P s) l (P b)) (g3:0 < crs (P s) (P i) l) (g4:0 < crs (P s) l (P j)):a=i:=by
 obtain ⟨vs,va,vb,cab⟩:=h.ccw _ _ _ h1
 obtain ⟨_,vi,vj,cij⟩:=h.ccw _ _ _ h2
 rcases Int.lt_trichotomy (crs (P s) (P a) (P i)) 0 with c | c | c
 ·have c':0 < crs (P s) (P i) (P a):=by rw [Ax];omega
  exact absurd ⟨c',Uh g3 g4 cij c' g1⟩ (h.cone s i j a h2 (.inl (by rw [h1];simp)))
 ·by_cases e:a=i
  ·exact e
  ·exfalso
   have n1:=h.ne h1
   have n2:=h.ne h2
   have k1:0 < crs (P s) (P i) (P b):=Acc (l:=l) (by rw [Ax,c];rfl) g3 g1 cab
   have k2:0 < crs (P s) (P a) (P j):=Acc (l:=l) c g1 g3 cij
   rcases Anl c cab k1 cij k2 with ⟨q1,q2⟩ | ⟨q1,q2⟩
   ·by_cases e2:i=b
    ·subst e2;omega
    ·rcases h.emp s a b h1 i vi (by omega) (by omega) e2 with g | g | g <;> omega
   ·by_cases e2:a=j
    ·subst e2;rw [Ax] at cij;omega
    ·have:crs (P s) (P i) (P a)=0:=by rw [Ax,c];rfl
     rcases h.emp s i j h2 a va (by omega) (by omega) e2 with g | g | g <;> omega
 ·exact absurd ⟨c,Uh g1 g2 cab c g3⟩ (h.cone s a b i h1 (.inl (by rw [h2];simp)))
end Go.Proofs.YtgfiafnelibjgaaGreat
/- Flips. -/
namespace Go.Proofs.YtgfiafnelibjgaaGreat
open Go Go.RowKit
variable {P:Int→Ac} {H:Int→Int} {V:Int→Prop} {ap:Ap}
/-- The diagonal i-j of the triangles i, j, k and j, i, l is exchanged for k-l. -/
def Dl (ap:Ap) (i j k l:Int):Ap:=fun a b =>
 if a=i∧b=l then some k else if a=l∧b=k then some i else if a=k∧b=i then some l else
 if a=j∧b=k then some l else if a=k∧b=l then some j else if a=l∧b=j then some k else
 if a=i∧b=j then none else if a=j∧b=i then none else ap a b
theorem Lk {i j k l a b c:Int} (h:Dl ap i j k l a b=some c) :
  (a=i∧b=l∧c=k)∨(a=l∧b=k∧c=i)∨(a=k∧b=i∧c=l)∨(a=j∧b=k∧c=l)∨(a=k∧b=l∧c=j)∨(a=l∧b=j∧c=k) ∨
  (ap a b=some c∧¬ (a=i∧b=l)∧¬ (a=l∧b=k)∧¬ (a=k∧b=i)∧¬ (a=j∧b=k)∧¬ (a=k∧b=l)∧¬ (a=l∧b=j)∧¬ (a=i∧b=j)∧¬ (a=j∧b=i)):=by
 unfold Dl at h
 by_cases k0:a=i∧b=l
 ·rw [if_pos k0] at h;exact .inl ⟨k0.1,k0.2,(Option.some.inj h).symm⟩
 rw [if_neg k0] at h
 by_cases k1:a=l∧b=k
 ·rw [if_pos k1] at h;exact .inr (.inl ⟨k1.1,k1.2,(Option.some.inj h).symm⟩)
 rw [if_neg k1] at h
 by_cases k2:a=k∧b=i
 ·rw [if_pos k2] at h;exact .inr (.inr (.inl ⟨k2.1,k2.2,(Option.some.inj h).symm⟩))
 rw [if_neg k2] at h
 by_cases k3:a=j∧b=k
 ·rw [if_pos k3] at h;exact .inr (.inr (.inr (.inl ⟨k3.1,k3.2,(Option.some.inj h).symm⟩)))
 rw [if_neg k3] at h
 by_cases k4:a=k∧b=l
 ·rw [if_pos k4] at h;exact .inr (.inr (.inr (.inr (.inl ⟨k4.1,k4.2,(Option.some.inj h).symm⟩))))
 rw [if_neg k4] at h
 by_cases k5:a=l∧b=j
 ·rw [if_pos k5] at h;exact .inr (.inr (.inr (.inr (.inr (.inl ⟨k5.1,k5.2,(Option.some.inj h).symm⟩)))))
 rw [if_neg k5] at h
 by_cases k6:a=i∧b=j
 ·rw [if_pos k6] at h;cases h
 rw [if_neg k6] at h
 by_cases k7:a=j∧b=i
 ·rw [if_pos k7] at h;cases h
 rw [if_neg k7] at h
 exact .inr (.inr (.inr (.inr (.inr (.inr ⟨h,k0,k1,k2,k3,k4,k5,k6,k7⟩)))))
theorem Ali (ap:Ap) (i j k l:Int) (h1:i≠j) (h2:k≠l) (h3:k≠i) (h4:k≠j) (h5:l≠i) (h6:l≠j):Dl ap j i l k=Dl ap i j k l:=by
 funext a b
 unfold Dl
 grind
theorem Anm {i j k l s m:Int} (h:Tri P V ap) (hk:ap i j=some k) (hl:ap j i=some l) (hm:Dl ap i j k l s m≠none∨Dl ap i j k l m s≠none) :
  ((ap s m≠none∨ap m s≠none)∧¬ (s=i∧m=j)∧¬ (s=j∧m=i))∨(s=k∧m=l)∨(s=l∧m=k):=by
 have a1:=h.rot _ _ _ hk
 have a2:=h.rot2 hk
 have a3:=h.rot _ _ _ hl
 have a4:=h.rot2 hl
 have n1:=h.ne hk
 have n2:=h.ne hl
 have key:∀ x y,Dl ap i j k l x y≠none→((ap x y≠none∨ap y x≠none)∧¬ (x=i∧y=j)∧¬ (x=j∧y=i))∨(x=k∧y=l)∨(x=l∧y=k):=by
  intro x y hx
  obtain ⟨c,hc⟩:=Option.ne_none_iff_exists'.1 hx
  rcases Lk hc with ⟨rfl,rfl,rfl⟩ | ⟨rfl,rfl,rfl⟩ | ⟨rfl,rfl,rfl⟩ | ⟨rfl,rfl,rfl⟩ | ⟨rfl,rfl,rfl⟩ | ⟨rfl,rfl,rfl⟩ | ⟨h0,h1⟩
  ·exact .inl ⟨.inl (by rw [a3];simp),by omega,by omega⟩
  ·exact .inr (.inr ⟨rfl,rfl⟩)
  ·exact .inl ⟨.inl (by rw [a2];simp),by omega,by omega⟩
  ·exact .inl ⟨.inl (by rw [a1];simp),by omega,by omega⟩
  ·exact .inr (.inl ⟨rfl,rfl⟩)
  ·exact .inl ⟨.inl (by rw [a4];simp),by omega,by omega⟩
  ·exact .inl ⟨.inl (by rw [h0];simp),by omega,by omega⟩
 rcases hm with hm | hm
 ·exact key s m hm
 ·rcases key m s hm with ⟨g1,g2,g3⟩ | ⟨g1,g2⟩ | ⟨g1,g2⟩
  ·exact .inl ⟨g1.symm,by omega,by omega⟩
  ·exact .inr (.inr ⟨g2,g1⟩)
  ·exact .inr (.inl ⟨g2,g1⟩)
/-- What the flip of a convex quadrangle is about. -/
structure Quad (P:Int→Ac) (V:Int→Prop) (ap:Ap) (i j k l:Int):Prop where
 tri:Tri P V ap
 hk:ap i j=some k
 hl:ap j i=some l
 c1:0 < crs (P i) (P l) (P k)
 c2:0 < crs (P j) (P k) (P l)
theorem Quad.symm {i j k l} (q:Quad P V ap i j k l):Quad P V ap j i l k:=⟨q.tri,q.hl,q.hk,q.c2,q.c1⟩
theorem Quad.ne {i j k l} (q:Quad P V ap i j k l):i≠j∧k≠l∧k≠i∧k≠j∧l≠i∧l≠j:=by
 have n1:=q.tri.ne q.hk
 have n2:=q.tri.ne q.hl
 have n3:=Vb (P:=P) (a:=i) (b:=l) (c:=k) (by have:=q.c1;omega)
 omega
theorem Quad.fresh {i j k l} (q:Quad P V ap i j k l):ap k l=none∧ap l k=none:=by
 have key:∀ {i j k l},Quad P V ap i j k l→¬ (ap k l≠none∨ap l k≠none):=fun {i j k l} q hn=>by
  refine q.tri.cone k i j l (q.tri.rot2 q.hk) hn ⟨?_,?_⟩
  ·have:=q.c1;rw [Am] at this;exact this
  ·rw [Am];exact q.c2
 have:=key q
 exact ⟨by rcases h:ap k l with _ | x;rfl;exact absurd (.inl (by rw [h];simp)) this,by rcases h:ap l k with _ | x;rfl;exact absurd (.inr (by rw [h];simp)) this⟩
theorem Ann {i j k l} (q:Quad P V ap i j k l):∀ a b c,Dl ap i j k l a b=some c→Dl ap i j k l b c=some a:=by
 intro a b c hc
 have a1:=q.tri.rot _ _ _ q.hk
 have a2:=q.tri.rot2 q.hk
 have a3:=q.tri.rot _ _ _ q.hl
 have a4:=q.tri.rot2 q.hl
 have hk:=q.hk
 have hl:=q.hl
 obtain ⟨f1,f2⟩:=q.fresh
 obtain ⟨n1,n2,n3,n4,n5,n6⟩:=q.ne
 have hr:=q.tri.rot
 rcases Lk hc with ⟨rfl,rfl,rfl⟩ | ⟨rfl,rfl,rfl⟩ | ⟨rfl,rfl,rfl⟩ | ⟨rfl,rfl,rfl⟩ | ⟨rfl,rfl,rfl⟩ | ⟨rfl,rfl,rfl⟩ | ⟨h0,h1⟩
 ·unfold Dl;grind
 ·unfold Dl;grind
 ·unfold Dl;grind
 ·unfold Dl;grind
 ·unfold Dl;grind
 ·unfold Dl;grind
 ·have h2:=hr _ _ _ h0
  unfold Dl
  grind
/-- A place in the new triangle i, l, k lies in one of the old ones. -/
theorem Aqr {pi pj pk pl pd:Ac} (hk:0 < crs pi pj pk) (hl:0 < crs pj pi pl) (c1:0 < crs pi pl pk) (c2:0 < crs pj pk pl) (d1:0≤crs pi pl pd) (d2:0≤crs pl pk pd) (d3:0≤crs pk pi pd) :
  (0≤crs pi pj pd∧0≤crs pj pk pd∧0≤crs pk pi pd)∨(0≤crs pj pi pd∧0≤crs pi pl pd∧0≤crs pl pj pd):=by
 by_cases c:0≤crs pi pj pd
 ·left
  refine ⟨c,?_,d3⟩
  have e:crs pi pl pk*crs pj pk pd=crs pi pj pk*crs pl pk pd+crs pj pk pl*crs pk pi pd:=by unfold crs;grind
  have:=Int.mul_nonneg (Int.le_of_lt hk) d2
  have:=Int.mul_nonneg (Int.le_of_lt c2) d3
  exact Kf (x:=crs pi pl pk) (by omega) c1
 ·right
  refine ⟨by rw [Aw];omega,d1,?_⟩
  have e:crs pi pl pk*crs pl pj pd=crs pj pi pl*crs pl pk pd+crs pj pk pl*crs pi pl pd:=by unfold crs;grind
  have:=Int.mul_nonneg (Int.le_of_lt hl) d2
  have:=Int.mul_nonneg (Int.le_of_lt c2) d1
  exact Kf (x:=crs pi pl pk) (by omega) c1
theorem Quad.emp1 {i j k l} (q:Quad P V ap i j k l) (d:Int) (hd:V d) (h1:d≠i) (h2:d≠l) (h3:d≠k):crs (P i) (P l) (P d) < 0∨crs (P l) (P k) (P d) < 0∨crs (P k) (P i) (P d) < 0:=by
 obtain ⟨_,_,_,ck⟩:=q.tri.ccw _ _ _ q.hk
 obtain ⟨_,_,_,cl⟩:=q.tri.ccw _ _ _ q.hl
 by_cases hj:d=j
 ·subst hj
  have:crs (P l) (P k) (P d) = -crs (P d) (P k) (P l):=by unfold crs;grind
  have:=q.c2
  omega
 ·by_cases g1:crs (P i) (P l) (P d) < 0
  ·exact .inl g1
  ·by_cases g2:crs (P l) (P k) (P d) < 0
   ·exact .inr (.inl g2)
   ·by_cases g3:crs (P k) (P i) (P d) < 0
    ·exact .inr (.inr g3)
    ·exfalso
     rcases Aqr (pd:=P d) ck cl q.c1 q.c2 (by omega) (by omega) (by omega) with ⟨e1,e2,e3⟩ | ⟨e1,e2,e3⟩
     ·rcases q.tri.emp _ _ _ q.hk d hd h1 hj h3 with g | g | g <;> omega
     ·rcases q.tri.emp _ _ _ q.hl d hd hj h1 h2 with g | g | g <;> omega
/-- At i, no neighbour lies within the new angle. -/
theorem Quad.cone_i {i j k l} (q:Quad P V ap i j k l) (m:Int) (hm:ap i m≠none∨ap m i≠none) (hj:m≠j):¬ (0 < crs (P i) (P l) (P m)∧0 < crs (P i) (P m) (P k)):=by
 rintro ⟨g1,g2⟩
 have hk:=q.hk
 have hl:=q.tri.rot _ _ _ q.hl
 obtain ⟨vi,vj,vk,ck⟩:=q.tri.ccw _ _ _ hk
 obtain ⟨_,vl,_,cl⟩:=q.tri.ccw _ _ _ hl
 rcases Int.lt_trichotomy (crs (P i) (P j) (P m)) 0 with c | c | c
 ·exact q.tri.cone i l j m hl hm ⟨g1,by rw [Ax];omega⟩
 ·-- on the ray to j
  have ne:=q.tri.ne hk
  have ne':=q.tri.ne hl
  have cmj:crs (P i) (P m) (P j)=0:=by rw [Ax,c];rfl
  rcases q.tri.nbr hm with ⟨w,hw⟩ | ⟨w,hw⟩
  ·obtain ⟨_,vm,vw,cw⟩:=q.tri.ccw _ _ _ hw
   have k1:0 < crs (P i) (P j) (P w):=Acc (l:=P k) c ck g2 cw
   rcases Anl cmj cw k1 ck g2 with ⟨q1,q2⟩ | ⟨q1,q2⟩
   ·have nw:=q.tri.ne hw
    by_cases e:j=w
    ·subst e;omega
    ·rcases q.tri.emp _ _ _ hw j vj (by omega) (by omega) e with g | g | g <;> omega
   ·by_cases e:m=k
    ·subst e;omega
    ·rcases q.tri.emp _ _ _ hk m vm (q.tri.ne hw).1.symm hj e with g | g | g <;> omega
  ·obtain ⟨_,vw,vm,cw⟩:=q.tri.ccw _ _ _ hw
   have nw:=q.tri.ne hw
   have k1:0 < crs (P i) (P w) (P j):=Alh (l:=P l) c cl g1 cw
   rcases Aqq cmj cw k1 cl g1 with ⟨q1,q2⟩ | ⟨q1,q2⟩
   ·by_cases e:j=w
    ·subst e;rw [Bk] at k1;omega
    ·have:crs (P m) (P i) (P j)=0:=by rw [Aw,cmj];rfl
     rcases q.tri.emp _ _ _ hw j vj (by omega) e (by omega) with g | g | g <;> omega
   ·by_cases e:m=l
    ·subst e;rw [Bk] at g1;omega
    ·have:crs (P j) (P i) (P m)=0:=by rw [Aw,c];rfl
     rcases q.tri.emp _ _ _ hl m vm (by omega) e hj with g | g | g <;> omega
 ·exact q.tri.cone i j k m hk hm ⟨c,g2⟩
/-- At k, no neighbour lies within a part of the old angle. -/
theorem Quad.cone_k {i j k l} (q:Quad P V ap i j k l) (m:Int) (hm:ap k m≠none∨ap m k≠none):¬ (0 < crs (P k) (P i) (P m)∧0 < crs (P k) (P m) (P l)):=by
 rintro ⟨g1,g2⟩
 have hk:=q.tri.rot2 q.hk
 obtain ⟨_,_,_,ck⟩:=q.tri.ccw _ _ _ hk
 have c2:0 < crs (P k) (P l) (P j):=by rw [Am];exact q.c2
 have c1:0 < crs (P k) (P i) (P l):=by have:=q.c1;rw [Am] at this;exact this
 refine q.tri.cone k i j m hk hm ⟨g1,?_⟩
 -- m between i and l,l between i and j
 exact Uh (l:=P l) c1 c2 ck g1 g2
theorem Quad.cone_l {i j k l} (q:Quad P V ap i j k l) (m:Int) (hm:ap l m≠none∨ap m l≠none):¬ (0 < crs (P l) (P k) (P m)∧0 < crs (P l) (P m) (P i)):=by
 rintro ⟨g1,g2⟩
 have hl:=q.tri.rot2 q.hl
 obtain ⟨_,_,_,cl⟩:=q.tri.ccw _ _ _ hl
 have c1:0 < crs (P l) (P k) (P i):=by rw [Am];exact q.c1
 have c2:0 < crs (P l) (P j) (P k):=by have:=q.c2;rw [Am] at this;exact this
 refine q.tri.cone l j i m hl hm ⟨?_,g2⟩
 exact Aev (l:=P k) c2 c1 cl g2 g1
theorem Quad.flip {i j k l} (q:Quad P V ap i j k l):Tri P V (Dl ap i j k l):=by
 have hk:=q.hk
 have hl:=q.hl
 obtain ⟨vi,vj,vk,ck⟩:=q.tri.ccw _ _ _ hk
 obtain ⟨_,_,vl,cl⟩:=q.tri.ccw _ _ _ hl
 have c1:=q.c1
 have c2:=q.c2
 have c1':0 < crs (P l) (P k) (P i):=by rw [Am];exact c1
 have c1'':0 < crs (P k) (P i) (P l):=by rw [Am];exact c1'
 have c2':0 < crs (P k) (P l) (P j):=by rw [Am];exact c2
 have c2'':0 < crs (P l) (P j) (P k):=by rw [Am];exact c2'
 have n:=q.ne
 refine ⟨Ann q,fun a b c hc=>?_,fun a b c hc d hd h1 h2 h3=>?_,fun s a b m hc hm=>?_⟩
 ·rcases Lk hc with ⟨rfl,rfl,rfl⟩ | ⟨rfl,rfl,rfl⟩ | ⟨rfl,rfl,rfl⟩ | ⟨rfl,rfl,rfl⟩ | ⟨rfl,rfl,rfl⟩ | ⟨rfl,rfl,rfl⟩ | ⟨h0,_⟩
  ·exact ⟨vi,vl,vk,c1⟩
  ·exact ⟨vl,vk,vi,c1'⟩
  ·exact ⟨vk,vi,vl,c1''⟩
  ·exact ⟨vj,vk,vl,c2⟩
  ·exact ⟨vk,vl,vj,c2'⟩
  ·exact ⟨vl,vj,vk,c2''⟩
  ·exact q.tri.ccw _ _ _ h0
 ·rcases Lk hc with ⟨rfl,rfl,rfl⟩ | ⟨rfl,rfl,rfl⟩ | ⟨rfl,rfl,rfl⟩ | ⟨rfl,rfl,rfl⟩ | ⟨rfl,rfl,rfl⟩ | ⟨rfl,rfl,rfl⟩ | ⟨h0,_⟩
  ·exact q.emp1 d hd h1 h2 h3
  ·rcases q.emp1 d hd h3 h1 h2 with g | g | g <;> simp [g]
  ·rcases q.emp1 d hd h2 h3 h1 with g | g | g <;> simp [g]
  ·exact q.symm.emp1 d hd h1 h2 h3
  ·rcases q.symm.emp1 d hd h3 h1 h2 with g | g | g <;> simp [g]
  ·rcases q.symm.emp1 d hd h2 h3 h1 with g | g | g <;> simp [g]
  ·exact q.tri.emp _ _ _ h0 d hd h1 h2 h3
 ·have hn:=Anm q.tri hk hl hm
  rcases Lk hc with ⟨rfl,rfl,rfl⟩ | ⟨rfl,rfl,rfl⟩ | ⟨rfl,rfl,rfl⟩ | ⟨rfl,rfl,rfl⟩ | ⟨rfl,rfl,rfl⟩ | ⟨rfl,rfl,rfl⟩ | ⟨h0,h9⟩
  ·-- at i
   rcases hn with ⟨g1,g2,g3⟩ | ⟨g1,g2⟩ | ⟨g1,g2⟩
   ·exact q.cone_i m g1 (fun e=>g2 ⟨rfl,e⟩)
   ·omega
   ·omega
  ·-- at l: from k to i
   rcases hn with ⟨g1,g2,g3⟩ | ⟨g1,g2⟩ | ⟨g1,g2⟩
   ·exact q.cone_l m g1
   ·omega
   ·rintro ⟨e1,e2⟩;rw [g2,Bk] at e1;omega
  ·-- at k: from i to l
   rcases hn with ⟨g1,g2,g3⟩ | ⟨g1,g2⟩ | ⟨g1,g2⟩
   ·exact q.cone_k m g1
   ·rintro ⟨e1,e2⟩;rw [g2,Bk] at e2;omega
   ·omega
  ·rcases hn with ⟨g1,g2,g3⟩ | ⟨g1,g2⟩ | ⟨g1,g2⟩
   ·exact q.symm.cone_i m g1 (fun e=>g3 ⟨rfl,e⟩)
   ·omega
   ·omega
  ·rcases hn with ⟨g1,g2,g3⟩ | ⟨g1,g2⟩ | ⟨g1,g2⟩
   ·exact q.symm.cone_l m g1
   ·rintro ⟨e1,e2⟩;rw [g2,Bk] at e1;omega
   ·omega
  ·rcases hn with ⟨g1,g2,g3⟩ | ⟨g1,g2⟩ | ⟨g1,g2⟩
   ·exact q.symm.cone_k m g1
   ·omega
   ·rintro ⟨e1,e2⟩;rw [g2,Bk] at e2;omega
  ·rcases hn with ⟨g1,g2,g3⟩ | ⟨rfl,rfl⟩ | ⟨rfl,rfl⟩
   ·exact q.tri.cone s a b m h0 g1
   ·-- at k,l within another angle
    rintro ⟨e1,e2⟩
    have:=q.tri.cones h0 (q.tri.rot2 hk) e1 e2 c1'' c2'
    omega
   ·rintro ⟨e1,e2⟩
    have:=q.tri.cones h0 (q.tri.rot2 hl) e1 e2 c2'' c1'
    omega
end Go.Proofs.YtgfiafnelibjgaaGreat
