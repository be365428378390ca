/- Flips. -/
import Derived.Test.YtebkcipolijfmaaGreatK4
namespace Go.Proofs.YtebkcipolijfmaaGreat
open Go Go.RowKit
variable {P:Int→Ac} {H:Int→Int} {V:Int→Prop} {ap:Ap}
/-- The diagonal i-j of the triangles i, j, k and j, i, l is exchanged for k-l. -/
def Dx (ap:Ap) (i j k l:Int):Ap:=fun a b =>
 if a=i∧b=l then some k else if a=l∧b=k then some i else if a=k∧b=i then some l else
 if a=j∧b=k then some l else if a=k∧b=l then some j else if a=l∧b=j then some k else
 if a=i∧b=j then none else if a=j∧b=i then none else ap a b
theorem Ni {i j k l a b c:Int} (h:Dx ap i j k l a b=some c) :
  (a=i∧b=l∧c=k)∨(a=l∧b=k∧c=i)∨(a=k∧b=i∧c=l)∨(a=j∧b=k∧c=l)∨(a=k∧b=l∧c=j)∨(a=l∧b=j∧c=k) ∨
  (ap a b=some c∧¬ (a=i∧b=l)∧¬ (a=l∧b=k)∧¬ (a=k∧b=i)∧¬ (a=j∧b=k)∧¬ (a=k∧b=l)∧¬ (a=l∧b=j)∧¬ (a=i∧b=j)∧¬ (a=j∧b=i)):=by
 unfold Dx at h
 by_cases k0:a=i∧b=l
 ·rw [if_pos k0] at h;exact .inl ⟨k0.1,k0.2,(Option.some.inj h).symm⟩
 rw [if_neg k0] at h
 by_cases k1:a=l∧b=k
 ·rw [if_pos k1] at h;exact .inr (.inl ⟨k1.1,k1.2,(Option.some.inj h).symm⟩)
 rw [if_neg k1] at h
 by_cases k2:a=k∧b=i
 ·rw [if_pos k2] at h;exact .inr (.inr (.inl ⟨k2.1,k2.2,(Option.some.inj h).symm⟩))
 rw [if_neg k2] at h
 by_cases k3:a=j∧b=k
 ·rw [if_pos k3] at h;exact .inr (.inr (.inr (.inl ⟨k3.1,k3.2,(Option.some.inj h).symm⟩)))
 rw [if_neg k3] at h
 by_cases k4:a=k∧b=l
 ·rw [if_pos k4] at h;exact .inr (.inr (.inr (.inr (.inl ⟨k4.1,k4.2,(Option.some.inj h).symm⟩))))
 rw [if_neg k4] at h
 by_cases k5:a=l∧b=j
 ·rw [if_pos k5] at h;exact .inr (.inr (.inr (.inr (.inr (.inl ⟨k5.1,k5.2,(Option.some.inj h).symm⟩)))))
 rw [if_neg k5] at h
 by_cases k6:a=i∧b=j
 ·rw [if_pos k6] at h;cases h
 rw [if_neg k6] at h
 by_cases k7:a=j∧b=i
 ·rw [if_pos k7] at h;cases h
 rw [if_neg k7] at h
 exact .inr (.inr (.inr (.inr (.inr (.inr ⟨h,k0,k1,k2,k3,k4,k5,k6,k7⟩)))))
theorem Ao7 (ap:Ap) (i j k l:Int) (h1:i≠j) (h2:k≠l) (h3:k≠i) (h4:k≠j) (h5:l≠i) (h6:l≠j):Dx ap j i l k=Dx ap i j k l:=by
 funext a b
 unfold Dx
 grind
theorem Asq {i j k l s m:Int} (h:Tri P V ap) (hk:ap i j=some k) (hl:ap j i=some l) (hm:Dx ap i j k l s m≠none∨Dx ap i j k l m s≠none) :
  ((ap s m≠none∨ap m s≠none)∧¬ (s=i∧m=j)∧¬ (s=j∧m=i))∨(s=k∧m=l)∨(s=l∧m=k):=by
 have a1:=h.rot _ _ _ hk
 have a2:=h.rot2 hk
 have a3:=h.rot _ _ _ hl
 have a4:=h.rot2 hl
 have n1:=h.ne hk
 have n2:=h.ne hl
 have key:∀ x y,Dx ap i j k l x y≠none→((ap x y≠none∨ap y x≠none)∧¬ (x=i∧y=j)∧¬ (x=j∧y=i))∨(x=k∧y=l)∨(x=l∧y=k):=by
  intro x y hx
  obtain ⟨c,hc⟩:=Option.ne_none_iff_exists'.1 hx
  rcases Ni hc with ⟨rfl,rfl,rfl⟩ | ⟨rfl,rfl,rfl⟩ | ⟨rfl,rfl,rfl⟩ | ⟨rfl,rfl,rfl⟩ | ⟨rfl,rfl,rfl⟩ | ⟨rfl,rfl,rfl⟩ | ⟨h0,h1⟩
  ·exact .inl ⟨.inl (by rw [a3];simp),by omega,by omega⟩
  ·exact .inr (.inr ⟨rfl,rfl⟩)
  ·exact .inl ⟨.inl (by rw [a2];simp),by omega,by omega⟩
  ·exact .inl ⟨.inl (by rw [a1];simp),by omega,by omega⟩
  ·exact .inr (.inl ⟨rfl,rfl⟩)
  ·exact .inl ⟨.inl (by rw [a4];simp),by omega,by omega⟩
  ·exact .inl ⟨.inl (by rw [h0];simp),by omega,by omega⟩
 rcases hm with hm | hm
 ·exact key s m hm
 ·rcases key m s hm with ⟨g1,g2,g3⟩ | ⟨g1,g2⟩ | ⟨g1,g2⟩
  ·exact .inl ⟨g1.symm,by omega,by omega⟩
  ·exact .inr (.inr ⟨g2,g1⟩)
  ·exact .inr (.inl ⟨g2,g1⟩)
/-- What the flip of a convex quadrangle is about. -/
structure Quad (P:Int→Ac) (V:Int→Prop) (ap:Ap) (i j k l:Int):Prop where
 tri:Tri P V ap
 hk:ap i j=some k
 hl:ap j i=some l
 c1:0 < crs (P i) (P l) (P k)
 c2:0 < crs (P j) (P k) (P l)
theorem Quad.symm {i j k l} (q:Quad P V ap i j k l):Quad P V ap j i l k:=⟨q.tri,q.hl,q.hk,q.c2,q.c1⟩
theorem Quad.ne {i j k l} (q:Quad P V ap i j k l):i≠j∧k≠l∧k≠i∧k≠j∧l≠i∧l≠j:=by
 have n1:=q.tri.ne q.hk
 have n2:=q.tri.ne q.hl
 have n3:=Ae9 (P:=P) (a:=i) (b:=l) (c:=k) (by have:=q.c1;omega)
 omega
theorem Quad.fresh {i j k l} (q:Quad P V ap i j k l):ap k l=none∧ap l k=none:=by
 have key:∀ {i j k l},Quad P V ap i j k l→¬ (ap k l≠none∨ap l k≠none):=fun {i j k l} q hn=>by
  refine q.tri.cone k i j l (q.tri.rot2 q.hk) hn ⟨?_,?_⟩
  ·have:=q.c1;rw [Ar] at this;exact this
  ·rw [Ar];exact q.c2
 have:=key q
 exact ⟨by rcases h:ap k l with _ | x;rfl;exact absurd (.inl (by rw [h];simp)) this,by rcases h:ap l k with _ | x;rfl;exact absurd (.inr (by rw [h];simp)) this⟩
theorem Asr {i j k l} (q:Quad P V ap i j k l):∀ a b c,Dx ap i j k l a b=some c→Dx ap i j k l b c=some a:=by
 intro a b c hc
 have a1:=q.tri.rot _ _ _ q.hk
 have a2:=q.tri.rot2 q.hk
 have a3:=q.tri.rot _ _ _ q.hl
 have a4:=q.tri.rot2 q.hl
 have hk:=q.hk
 have hl:=q.hl
 obtain ⟨f1,f2⟩:=q.fresh
 obtain ⟨n1,n2,n3,n4,n5,n6⟩:=q.ne
 have hr:=q.tri.rot
 rcases Ni hc with ⟨rfl,rfl,rfl⟩ | ⟨rfl,rfl,rfl⟩ | ⟨rfl,rfl,rfl⟩ | ⟨rfl,rfl,rfl⟩ | ⟨rfl,rfl,rfl⟩ | ⟨rfl,rfl,rfl⟩ | ⟨h0,h1⟩
 ·unfold Dx;grind
 ·unfold Dx;grind
 ·unfold Dx;grind
 ·unfold Dx;grind
 ·unfold Dx;grind
 ·unfold Dx;grind
 ·have h2:=hr _ _ _ h0
  unfold Dx
  grind
/-- A place in the new triangle i, l, k lies in one of the old ones. -/
theorem Auj {pi pj pk pl pd:Ac} (hk:0 < crs pi pj pk) (hl:0 < crs pj pi pl) (c1:0 < crs pi pl pk) (c2:0 < crs pj pk pl) (d1:0≤crs pi pl pd) (d2:0≤crs pl pk pd) (d3:0≤crs pk pi pd) :
  (0≤crs pi pj pd∧0≤crs pj pk pd∧0≤crs pk pi pd)∨(0≤crs pj pi pd∧0≤crs pi pl pd∧0≤crs pl pj pd):=by
 by_cases c:0≤crs pi pj pd
 ·left
  refine ⟨c,?_,d3⟩
  have e:crs pi pl pk*crs pj pk pd=crs pi pj pk*crs pl pk pd+crs pj pk pl*crs pk pi pd:=by unfold crs;grind
  have:=Int.mul_nonneg (Int.le_of_lt hk) d2
  have:=Int.mul_nonneg (Int.le_of_lt c2) d3
  exact Lk (x:=crs pi pl pk) (by omega) c1
 ·right
  refine ⟨by rw [Bv];omega,d1,?_⟩
  have e:crs pi pl pk*crs pl pj pd=crs pj pi pl*crs pl pk pd+crs pj pk pl*crs pi pl pd:=by unfold crs;grind
  have:=Int.mul_nonneg (Int.le_of_lt hl) d2
  have:=Int.mul_nonneg (Int.le_of_lt c2) d1
  exact Lk (x:=crs pi pl pk) (by omega) c1
theorem Quad.emp1 {i j k l} (q:Quad P V ap i j k l) (d:Int) (hd:V d) (h1:d≠i) (h2:d≠l) (h3:d≠k):crs (P i) (P l) (P d) < 0∨crs (P l) (P k) (P d) < 0∨crs (P k) (P i) (P d) < 0:=by
 obtain ⟨_,_,_,ck⟩:=q.tri.ccw _ _ _ q.hk
 obtain ⟨_,_,_,cl⟩:=q.tri.ccw _ _ _ q.hl
 by_cases hj:d=j
 ·subst hj
  have:crs (P l) (P k) (P d) = -crs (P d) (P k) (P l):=by unfold crs;grind
  have:=q.c2
  omega
 ·by_cases g1:crs (P i) (P l) (P d) < 0
  ·exact .inl g1
  ·by_cases g2:crs (P l) (P k) (P d) < 0
   ·exact .inr (.inl g2)
   ·by_cases g3:crs (P k) (P i) (P d) < 0
    ·exact .inr (.inr g3)
    ·exfalso
     rcases Auj (pd:=P d) ck cl q.c1 q.c2 (by omega) (by omega) (by omega) with ⟨e1,e2,e3⟩ | ⟨e1,e2,e3⟩
     ·rcases q.tri.emp _ _ _ q.hk d hd h1 hj h3 with g | g | g <;> omega
     ·rcases q.tri.emp _ _ _ q.hl d hd hj h1 h2 with g | g | g <;> omega
/-- At i, no neighbour lies within the new angle. -/
theorem Quad.cone_i {i j k l} (q:Quad P V ap i j k l) (m:Int) (hm:ap i m≠none∨ap m i≠none) (hj:m≠j):¬ (0 < crs (P i) (P l) (P m)∧0 < crs (P i) (P m) (P k)):=by
 rintro ⟨g1,g2⟩
 have hk:=q.hk
 have hl:=q.tri.rot _ _ _ q.hl
 obtain ⟨vi,vj,vk,ck⟩:=q.tri.ccw _ _ _ hk
 obtain ⟨_,vl,_,cl⟩:=q.tri.ccw _ _ _ hl
 rcases Int.lt_trichotomy (crs (P i) (P j) (P m)) 0 with c | c | c
 ·exact q.tri.cone i l j m hl hm ⟨g1,by rw [Bw];omega⟩
 ·-- on the ray to j
  have ne:=q.tri.ne hk
  have ne':=q.tri.ne hl
  have cmj:crs (P i) (P m) (P j)=0:=by rw [Bw,c];rfl
  rcases q.tri.nbr hm with ⟨w,hw⟩ | ⟨w,hw⟩
  ·obtain ⟨_,vm,vw,cw⟩:=q.tri.ccw _ _ _ hw
   have k1:0 < crs (P i) (P j) (P w):=Afa (l:=P k) c ck g2 cw
   rcases Art cmj cw k1 ck g2 with ⟨q1,q2⟩ | ⟨q1,q2⟩
   ·have nw:=q.tri.ne hw
    by_cases e:j=w
    ·subst e;omega
    ·rcases q.tri.emp _ _ _ hw j vj (by omega) (by omega) e with g | g | g <;> omega
   ·by_cases e:m=k
    ·subst e;omega
    ·rcases q.tri.emp _ _ _ hk m vm (q.tri.ne hw).1.symm hj e with g | g | g <;> omega
  ·obtain ⟨_,vw,vm,cw⟩:=q.tri.ccw _ _ _ hw
   have nw:=q.tri.ne hw
   have k1:0 < crs (P i) (P w) (P j):=Aos (l:=P l) c cl g1 cw
   rcases Atv cmj cw k1 cl g1 with ⟨q1,q2⟩ | ⟨q1,q2⟩
   ·by_cases e:j=w
    ·subst e;rw [De] at k1;omega
    ·have:crs (P m) (P i) (P j)=0:=by rw [Bv,cmj];rfl
     rcases q.tri.emp _ _ _ hw j vj (by omega) e (by omega) with g | g | g <;> omega
   ·by_cases e:m=l
    ·subst e;rw [De] at g1;omega
    ·have:crs (P j) (P i) (P m)=0:=by rw [Bv,c];rfl
     rcases q.tri.emp _ _ _ hl m vm (by omega) e hj with g | g | g <;> omega
 ·exact q.tri.cone i j k m hk hm ⟨c,g2⟩
/-- At k, no neighbour lies within a part of the old angle. -/
theorem Quad.cone_k {i j k l} (q:Quad P V ap i j k l) (m:Int) (hm:ap k m≠none∨ap m k≠none):¬ (0 < crs (P k) (P i) (P m)∧0 < crs (P k) (P m) (P l)):=by
 rintro ⟨g1,g2⟩
 have hk:=q.tri.rot2 q.hk
 obtain ⟨_,_,_,ck⟩:=q.tri.ccw _ _ _ hk
 have c2:0 < crs (P k) (P l) (P j):=by rw [Ar];exact q.c2
 have c1:0 < crs (P k) (P i) (P l):=by have:=q.c1;rw [Ar] at this;exact this
 refine q.tri.cone k i j m hk hm ⟨g1,?_⟩
 -- m between i and l,l between i and j
 exact Xh (l:=P l) c1 c2 ck g1 g2
theorem Quad.cone_l {i j k l} (q:Quad P V ap i j k l) (m:Int) (hm:ap l m≠none∨ap m l≠none):¬ (0 < crs (P l) (P k) (P m)∧0 < crs (P l) (P m) (P i)):=by
 rintro ⟨g1,g2⟩
 have hl:=q.tri.rot2 q.hl
 obtain ⟨_,_,_,cl⟩:=q.tri.ccw _ _ _ hl
 have c1:0 < crs (P l) (P k) (P i):=by rw [Ar];exact q.c1
 have c2:0 < crs (P l) (P j) (P k):=by have:=q.c2;rw [Ar] at this;exact this
 refine q.tri.cone l j i m hl hm ⟨?_,g2⟩
 exact Ahr (l:=P k) c2 c1 cl g2 g1
theorem Quad.flip {i j k l} (q:Quad P V ap i j k l):Tri P V (Dx ap i j k l):=by
 have hk:=q.hk
 have hl:=q.hl
 obtain ⟨vi,vj,vk,ck⟩:=q.tri.ccw _ _ _ hk
 obtain ⟨_,_,vl,cl⟩:=q.tri.ccw _ _ _ hl
 have c1:=q.c1
 have c2:=q.c2
 have c1':0 < crs (P l) (P k) (P i):=by rw [Ar];exact c1
 have c1'':0 < crs (P k) (P i) (P l):=by rw [Ar];exact c1'
 have c2':0 < crs (P k) (P l) (P j):=by rw [Ar];exact c2
 have c2'':0 < crs (P l) (P j) (P k):=by rw [Ar];exact c2'
 have n:=q.ne
 refine ⟨Asr q,fun a b c hc=>?_,fun a b c hc d hd h1 h2 h3=>?_,fun s a b m hc hm=>?_⟩
 ·rcases Ni hc with ⟨rfl,rfl,rfl⟩ | ⟨rfl,rfl,rfl⟩ | ⟨rfl,rfl,rfl⟩ | ⟨rfl,rfl,rfl⟩ | ⟨rfl,rfl,rfl⟩ | ⟨rfl,rfl,rfl⟩ | ⟨h0,_⟩
  ·exact ⟨vi,vl,vk,c1⟩
  ·exact ⟨vl,vk,vi,c1'⟩
  ·exact ⟨vk,vi,vl,c1''⟩
  ·exact ⟨vj,vk,vl,c2⟩
  ·exact ⟨vk,vl,vj,c2'⟩
  ·exact ⟨vl,vj,vk,c2''⟩
  ·exact q.tri.ccw _ _ _ h0
 ·rcases Ni hc with ⟨rfl,rfl,rfl⟩ | ⟨rfl,rfl,rfl⟩ | ⟨rfl,rfl,rfl⟩ | ⟨rfl,rfl,rfl⟩ | ⟨rfl,rfl,rfl⟩ | ⟨rfl,rfl,rfl⟩ | ⟨h0,_⟩
  ·exact q.emp1 d hd h1 h2 h3
  ·rcases q.emp1 d hd h3 h1 h2 with g | g | g <;> simp [g]
  ·rcases q.emp1 d hd h2 h3 h1 with g | g | g <;> simp [g]
  ·exact q.symm.emp1 d hd h1 h2 h3
  ·rcases q.symm.emp1 d hd h3 h1 h2 with g | g | g <;> simp [g]
  ·rcases q.symm.emp1 d hd h2 h3 h1 with g | g | g <;> simp [g]
  ·exact q.tri.emp _ _ _ h0 d hd h1 h2 h3
 ·have hn:=Asq q.tri hk hl hm
  rcases Ni hc with ⟨rfl,rfl,rfl⟩ | ⟨rfl,rfl,rfl⟩ | ⟨rfl,rfl,rfl⟩ | ⟨rfl,rfl,rfl⟩ | ⟨rfl,rfl,rfl⟩ | ⟨rfl,rfl,rfl⟩ | ⟨h0,h9⟩
  ·-- at i
   rcases hn with ⟨g1,g2,g3⟩ | ⟨g1,g2⟩ | ⟨g1,g2⟩
   ·exact q.cone_i m g1 (fun e=>g2 ⟨rfl,e⟩)
   ·omega
   ·omega
  ·-- at l: from k to i
   rcases hn with ⟨g1,g2,g3⟩ | ⟨g1,g2⟩ | ⟨g1,g2⟩
   ·exact q.cone_l m g1
   ·omega
   ·rintro ⟨e1,e2⟩;rw [g2,De] at e1;omega
  ·-- at k: from i to l
   rcases hn with ⟨g1,g2,g3⟩ | ⟨g1,g2⟩ | ⟨g1,g2⟩
   ·exact q.cone_k m g1
   ·rintro ⟨e1,e2⟩;rw [g2,De] at e2;omega
   ·omega
  ·rcases hn with ⟨g1,g2,g3⟩ | ⟨g1,g2⟩ | ⟨g1,g2⟩
   ·exact q.symm.cone_i m g1 (fun e=>g3 ⟨rfl,e⟩)
   ·omega
   ·omega
  ·rcases hn with ⟨g1,g2,g3⟩ | ⟨g1,g2⟩ | ⟨g1,g2⟩
   ·exact q.symm.cone_l m g1
   ·rintro ⟨e1,e2⟩;rw [g2,De] at e1;omega
   ·omega
  ·rcases hn with ⟨g1,g2,g3⟩ | ⟨g1,g2⟩ | ⟨g1,g2⟩
   ·exact q.symm.cone_k m g1
   ·omega
   ·rintro ⟨e1,e2⟩;rw [g2,De] at e2;omega
  ·rcases hn with ⟨g1,g2,g3⟩ | ⟨rfl,rfl⟩ | ⟨rfl,rfl⟩
   ·exact q.tri.cone s a b m h0 g1
   ·-- at k,l within another angle
    rintro ⟨e1,e2⟩
    have:=q.tri.cones h0 (q.tri.rot2 hk) e1 e2 c1'' c2'
    omega
   ·rintro ⟨e1,e2⟩
    have:=q.tri.cones h0 (q.tri.rot2 hl) e1 e2 c2'' c1'
    omega
end Go.Proofs.YtebkcipolijfmaaGreat
/- Why forcing a line ends: paths of places that are gone round in turn (no program in sight). -/
namespace Go.Proofs.YtebkcipolijfmaaGreat
/-- What comes again and again, and least. -/
theorem Aj2 {m:Nat} {r:Nat→Nat} (hr:∀ t,r t < m):∃ B T,(∀ t,T≤t→B≤r t)∧∀ T',∃ t,T'≤t∧r t=B:=by
 -- the least b that is met behind every time
 have key:∀ n,(∃ T,∀ t,T≤t→n≤r t)∨∃ B T,(∀ t,T≤t→B≤r t)∧∀ T',∃ t,T'≤t∧r t=B:=by
  intro n
  induction n with
  | zero=>exact .inl ⟨0,fun t _=>Nat.zero_le _⟩
  | succ n ih =>
   rcases ih with ⟨T,hT⟩ | h
   ·by_cases c:∀ T',∃ t,T'≤t∧r t=n
    ·exact .inr ⟨n,T,hT,c⟩
    ·left
     obtain ⟨T',h'⟩:=Classical.not_forall.1 c
     refine ⟨max T T',fun t ht=>?_⟩
     have h1:=hT t (by omega)
     have h2:r t≠n:=fun e=>h' ⟨t,by omega,e⟩
     omega
   ·exact .inr h
 rcases key m with ⟨T,hT⟩ | h
 ·have:=hT T (Nat.le_refl _)
  have:=hr T
  omega
 ·exact h
theorem Au6 {m : Nat} {s r : Nat → Nat} (hw : ∀ t i, i < m → ∃ t', t ≤ t' ∧ t' < t + m ∧ s t' = i) (hu : ∀ t t', t < t' → t' < t + m → s t ≠ s t') (hr : ∀ t, r t < m)
    (hc : ∀ t, r (t + 1) = r t ∨ (s t = r t ∧ r (t + 1) + 1 = r t) ∨ (s t = r t + 1 ∧ r (t + 1) = r t + 1)) :
    ∃ T B, (∀ t, T ≤ t → B ≤ r t) ∧ ∃ t, T ≤ t ∧ r t = B ∧ s t = B ∧ r (t + 1) = B := by
  obtain ⟨B, T, h1, h2⟩ := Aj2 hr
  refine ⟨T, B, h1, ?_⟩
  -- enough: the right end stands and its place is met
  have fin : ∀ t, T ≤ t → r t = B → s t = B → r (t + 1) = B := fun t ht e1 e2 => by
    have := h1 (t + 1) (by omega)
    rcases hc t with g | g | g <;> omega
  by_cases c : ∃ T1, T ≤ T1 ∧ ∀ t, T1 ≤ t → r t = B
  · obtain ⟨T1, h3, h4⟩ := c
    have hB : B < m := by have := hr T1; have := h4 T1 (Nat.le_refl _); omega
    obtain ⟨t, g1, g2, g3⟩ := hw T1 B hB
    exact ⟨t, by omega, h4 t g1, g3, fin t (by omega) (h4 t g1) g3⟩
  · -- it leaves and comes back
    obtain ⟨t0, h3, h4⟩ := h2 T
    have hB : B < m := by have := hr t0; omega
    have leaves : ∃ t, T ≤ t ∧ r t ≠ B := by
      refine Classical.byContradiction fun h => c ⟨T, Nat.le_refl _, fun t ht => ?_⟩
      exact Classical.byContradiction fun e => h ⟨t, ht, e⟩
    obtain ⟨ta, ha1, ha2⟩ := leaves
    obtain ⟨tb, hb1, hb2⟩ := h2 ta
    -- the first time behind ta at which it is B
    have first : ∀ n, (∀ k, k ≤ n → r (ta + k) ≠ B) ∨ ∃ t, ta ≤ t ∧ r t ≠ B ∧ r (t + 1) = B := by
      intro n
      induction n with
      | zero => exact .inl fun k hk => by have : k = 0 := by omega
                                          subst this; exact ha2
      | succ n ih =>
        rcases ih with h | h
        · by_cases e : r (ta + (n + 1)) = B
          · exact .inr ⟨ta + n, by omega, h n (Nat.le_refl _), e⟩
          · exact .inl fun k hk => by
              by_cases g : k = n + 1
              · rw [g]; exact e
              · exact h k (by omega)
        · exact .inr h
    rcases first (tb - ta) with h | ⟨t1, g1, g2, g3⟩
    · exact absurd (by rw [show ta + (tb - ta) = tb by omega]; exact hb2) (h (tb - ta) (Nat.le_refl _))
    · have hge := h1 t1 (by omega)
      have hs : s t1 = B + 1 := by rcases hc t1 with g | g | g <;> omega
      obtain ⟨t2, k1, k2, k3⟩ := hw (t1 + 1) B hB
      -- the first such time
      have low : ∀ n, (∀ k, k < n → s (t1 + 1 + k) ≠ B) ∨ ∃ k, k < n ∧ s (t1 + 1 + k) = B ∧ ∀ k', k' < k → s (t1 + 1 + k') ≠ B := by
        intro n
        induction n with
        | zero => exact .inl fun k hk => by omega
        | succ n ih =>
          rcases ih with h | ⟨k, h5, h6, h7⟩
          · by_cases e : s (t1 + 1 + n) = B
            · exact .inr ⟨n, by omega, e, h⟩
            · exact .inl fun k hk => by
                by_cases g : k = n
                · rw [g]; exact e
                · exact h k (by omega)
          · exact .inr ⟨k, by omega, h6, h7⟩
      rcases low m with h | ⟨k, q1, q2, q3⟩
      · exact absurd (by rw [show t1 + 1 + (t2 - (t1 + 1)) = t2 by omega]; exact k3) (h (t2 - (t1 + 1)) (by omega))
      · -- up to then nothing changes
        have hk : k + 1 < m := by
          -- place B + 1 was met at t1; the window of t1 has B as well, and not at t1
          obtain ⟨t3, x1, x2, x3⟩ := hw t1 B hB
          have x4 : t3 ≠ t1 := fun e => by rw [e] at x3; omega
          have x5 : ¬ (t3 - (t1 + 1) < k) := fun g => q3 _ g (by rw [show t1 + 1 + (t3 - (t1 + 1)) = t3 by omega]; exact x3)
          omega
        have stay : ∀ n, n ≤ k → r (t1 + 1 + n) = B := by
          intro n
          induction n with
          | zero => intro _; exact g3
          | succ n ih =>
            intro hn
            have e := ih (by omega)
            have n1 := q3 n (by omega)
            have n2 : s (t1 + 1 + n) ≠ B + 1 := fun g => hu t1 (t1 + 1 + n) (by omega) (by omega) (by rw [hs, g])
            have := hc (t1 + 1 + n)
            rw [show t1 + 1 + (n + 1) = t1 + 1 + n + 1 by omega]
            rcases this with g | g | g <;> omega
        exact ⟨t1 + 1 + k, by omega, stay k (Nat.le_refl _), q2, fin _ (by omega) (stay k (Nat.le_refl _)) q2⟩

/-- A path of places: each step goes up by one or stays. -/
structure Path (m:Nat) (j:Nat→Nat):Prop where
 start:j 0=0
 step:∀ i,i+1 < m→j (i+1)=j i∨j (i+1)=j i+1
theorem Path.mono {m : Nat} {j : Nat → Nat} (h : Path m j) : ∀ a b, a ≤ b → b < m → j a ≤ j b := by
  intro a b
  induction b with
  | zero => intro h1 _; have : a = 0 := by omega
            subst this; exact Nat.le_refl _
  | succ b ih =>
    intro h1 h2
    by_cases e : a = b + 1
    · subst e; exact Nat.le_refl _
    · have := ih (by omega) (by omega)
      have := h.step b h2
      omega
theorem Path.le {m:Nat} {j:Nat→Nat} (h:Path m j):∀ i,i < m→j i≤i:=by
 intro i
 induction i with
 | zero=>intro _;rw [h.start];exact Nat.le_refl _
 | succ i ih =>
  intro hi
  have:=ih (by omega)
  have:=h.step i hi
  omega
/-- The other chain's path. -/
def cop (j:Nat→Nat) (i:Nat):Nat:=i-j i
theorem Path.other {m:Nat} {j:Nat→Nat} (h:Path m j):Path m (cop j):=by
 refine ⟨by unfold cop;omega,fun i hi=>?_⟩
 have h1:=h.step i hi
 have h2:=h.le i (by omega)
 have h3:=h.le (i+1) hi
 unfold cop
 omega
/-- What happens in a round at place i. -/
def Move (m:Nat) (j j':Nat→Nat) (i:Nat):Prop :=
 (∀ k,k≠i→j' k=j k)∧(j' i=j i∨(0 < i∧i+1 < m∧j (i-1)=j i∧j (i+1)=j i+1∧j' i=j i+1)∨(0 < i∧i+1 < m∧j (i-1)+1=j i∧j (i+1)=j i∧j' i+1=j i))
theorem Move.other {m:Nat} {j j':Nat→Nat} {i:Nat} (hj:Path m j) (hi:i < m) (h:Move m j j' i):Move m (cop j) (cop j') i:=by
 obtain ⟨h1,h2⟩:=h
 have l1:=hj.le i hi
 refine ⟨fun k hk=>by unfold cop;rw [h1 k hk],?_⟩
 rcases h2 with g | ⟨g1,g2,g3,g4,g5⟩ | ⟨g1,g2,g3,g4,g5⟩
 ·exact .inl (by unfold cop;rw [g])
 ·have l2:=hj.le (i-1) (by omega)
  have l3:=hj.le (i+1) g2
  refine .inr (.inr ⟨g1,g2,?_,?_,?_⟩) <;> (unfold cop;omega)
 ·have l2:=hj.le (i-1) (by omega)
  have l3:=hj.le (i+1) g2
  refine .inr (.inl ⟨g1,g2,?_,?_,?_⟩) <;> (unfold cop;omega)
/-- i is the last place of x. -/
def Last (m:Nat) (j:Nat→Nat) (x i:Nat):Prop:=i < m∧j i=x∧∀ k,i < k→k < m→j k≠x
theorem Last.unique {m:Nat} {j:Nat→Nat} {x i i':Nat} (h:Last m j x i) (h':Last m j x i'):i=i':=by
 rcases Nat.lt_trichotomy i i' with g | g | g
 ·exact absurd h'.2.1 (h.2.2 i' g h'.1)
 ·exact g
 ·exact absurd h.2.1 (h'.2.2 i g h.1)
theorem Ank {m:Nat} {j:Nat→Nat} {x i:Nat} (hi:i < m) (hx:j i=x):∃ k,Last m j x k:=by
 have key:∀ n i,m-i=n→i < m→j i=x→∃ k,Last m j x k:=by
  intro n
  induction n using Nat.strongRecOn with
  | ind n ih =>
   intro i hn hi hx
   by_cases c:∃ k,i < k∧k < m∧j k=x
   ·obtain ⟨k,h1,h2,h3⟩:=c
    exact ih (m-k) (by omega) k rfl h2 h3
   ·exact ⟨i,hi,hx,fun k h1 h2 h3=>c ⟨k,h1,h2,h3⟩⟩
 exact key _ i rfl hi hx
/-- How the last place changes. -/
theorem Ago {m:Nat} {j j':Nat→Nat} {i x r r':Nat} (hj:Path m j) (hm:Move m j j' i) (hr:Last m j x r) (hr':Last m j' x r') :
  r'=r∨(i=r∧r' + 1=r)∨(i=r+1∧r'=r+1):=by
 obtain ⟨h1,h2⟩:=hm
 rcases h2 with g | ⟨g1,g2,g3,g4,g5⟩ | ⟨g1,g2,g3,g4,g5⟩
 ·left
  have e:j'=j:=by
   funext k
   by_cases hk:k=i
   ·rw [hk];exact g
   ·exact h1 k hk
  subst e
  exact hr'.unique hr
 ·by_cases c:i=r
  ·-- it goes away from x
   right;left
   refine ⟨c,?_⟩
   have e:Last m j' x (r-1):=by
    refine ⟨by have:=hr.1;omega,?_,fun k hk hk2 e=>?_⟩
    ·rw [h1 (r-1) (by omega),← hr.2.1,← c];exact g3
    ·by_cases hk3:k=i
     ·rw [hk3,g5,c,hr.2.1] at e;omega
     ·rw [h1 k hk3] at e
      exact hr.2.2 k (by omega) hk2 e
   have:=hr'.unique e
   omega
  ·left
   refine hr'.unique ⟨hr.1,by rw [h1 r (fun e=>c e.symm)];exact hr.2.1,fun k hk hk2 e=>?_⟩
   by_cases hk3:k=i
   ·rw [hk3] at hk e
    rw [g5] at e
    have:j (i+1)=x:=by omega
    exact hr.2.2 (i+1) (by omega) g2 this
   ·rw [h1 k hk3] at e
    exact hr.2.2 k hk hk2 e
 ·by_cases c:i=r+1
  ·right;right
   refine ⟨c,hr'.unique ?_⟩
   have e1:j (i-1)=x:=by rw [c];exact hr.2.1
   refine ⟨by omega,by rw [← c];omega,fun k hk hk2 e=>?_⟩
   rw [h1 k (by omega)] at e
   exact hr.2.2 k (by omega) hk2 e
  ·left
   refine hr'.unique ⟨hr.1,?_,fun k hk hk2 e=>?_⟩
   ·by_cases hk3:r=i
    ·exfalso
     have:j (i+1)=x:=by rw [g4,← hk3];exact hr.2.1
     exact hr.2.2 (i+1) (by omega) g2 this
    ·rw [h1 r hk3];exact hr.2.1
   ·by_cases hk3:k=i
    ·rw [hk3] at hk e
     -- j' i=x means j (i-1)=x,so r is i-1 at least
     have e1:j (i-1)=x:=by omega
     by_cases hk4:r=i-1
     ·omega
     ·exact hr.2.2 (i-1) (by omega) (by omega) e1
    ·rw [h1 k hk3] at e
     exact hr.2.2 k hk hk2 e
/-- No run without an end: where each convex one that stands still in its turn has a convex one of the other chain ahead of it. -/
theorem Aws {m:Nat} {s:Nat→Nat} {j:Nat→Nat→Nat} {CU CL:Nat→Prop} (hw:∀ t i,i < m→∃ t',t≤t'∧t' < t+m∧s t'=i) (hu:∀ t t',t < t'→t' < t+m→s t≠s t')
  (hs:∀ t,s t < m) (hp:∀ t,Path m (j t)) (hmv:∀ t,Move m (j t) (j (t+1)) (s t))
  (hU:∀ x,CU x→∀ t,∃ i,i < m∧j t i=x) (hL:∀ y,CL y→∀ t,∃ i,i < m∧cop (j t) i=y)
  (gU:∀ x t i,CU x→Last m (j t) x i→s t=i→j (t+1) i=j t i→∃ y,CL y∧y < cop (j t) i)
  (gL:∀ y t i,CL y→Last m (cop (j t)) y i→s t=i→j (t+1) i=j t i→∃ x,CU x∧x < j t i)
  (hex:∃ x,CU x):False:=by
 -- the first convex ones
 have least:∀ {C:Nat→Prop},(∃ x,C x)→∃ x,C x∧∀ y,C y→x≤y:=fun {C} h=>by
  obtain ⟨x,hx⟩:=h
  have key:∀ n,∀ x,x=n→C x→∃ x,C x∧∀ y,C y→x≤y:=by
   intro n
   induction n using Nat.strongRecOn with
   | ind n ih =>
    intro x hn hx
    by_cases c:∃ y,C y∧y < x
    ·obtain ⟨y,h1,h2⟩:=c
     exact ih y (by omega) y rfl h1
    ·exact ⟨x,hx,fun y hy=>by
      by_cases g:x≤y
      ·exact g
      ·exact absurd ⟨y,hy,by omega⟩ c⟩
  exact key x x rfl hx
 obtain ⟨x,hx,hx2⟩:=least hex
 have ex:∀ t,∃ i,Last m (j t) x i:=fun t=>by
  obtain ⟨i,h1,h2⟩:=hU x hx t
  exact Ank h1 h2
 have hrs:∀ t,Last m (j t) x (Classical.choose (ex t)):=fun t=>Classical.choose_spec (ex t)
 generalize hr:(fun t=>Classical.choose (ex t))=r at *
 have hrs:∀ t,Last m (j t) x (r t):=fun t=>by rw [← hr];exact hrs t
 obtain ⟨T,B,b1,t,b2,b3,b4,b5⟩:=Au6 hw hu (fun t=>(hrs t).1) (fun t=>Ago (hp t) (hmv t) (hrs t) (hrs (t+1)))
 have still:j (t+1) B=j t B:=by
  have l1:=hrs t
  have l2:=hrs (t+1)
  rw [b3] at l1
  rw [b5] at l2
  rw [l1.2.1,l2.2.1]
 obtain ⟨y0,y1,y2⟩:=gU x t B hx (by have:=hrs t;rwa [b3] at this) b4 still
 have hxB:j t B=x:=by have:=(hrs t).2.1;rwa [b3] at this
 obtain ⟨y,hy,hy2⟩:=least ⟨y0,y1⟩
 have hyB:y < B-x:=by
  have:=hy2 y0 y1
  unfold cop at y2
  rw [hxB] at y2
  omega
 -- from T on,what lies on y lies ahead of x's end
 have ey:∀ t,∃ i,Last m (cop (j (T+t))) y i:=fun t=>by
  obtain ⟨i,h1,h2⟩:=hL y hy (T+t)
  exact Ank h1 h2
 have hqs:∀ t,Last m (cop (j (T+t))) y (Classical.choose (ey t)):=fun t=>Classical.choose_spec (ey t)
 generalize hq:(fun t=>Classical.choose (ey t))=q at *
 have hqs:∀ t,Last m (cop (j (T+t))) y (q t):=fun t=>by rw [← hq];exact hqs t
 have ahead:∀ t,j (T+t) (q t)≤x:=fun t=>by
  have h1:=b1 (T+t) (by omega)
  have h2:=hrs (T+t)
  have h3:=hqs t
  have h4:cop (j (T+t)) (r (T+t))=r (T+t)-x:=by unfold cop;rw [h2.2.1]
  have h5:q t≤r (T+t):=by
   refine Classical.byContradiction fun g=>?_
   have:=(hp (T+t)).other.mono (r (T+t)) (q t) (by omega) h3.1
   rw [h4,h3.2.1] at this
   omega
  have:=(hp (T+t)).mono (q t) (r (T+t)) h5 h2.1
  rw [h2.2.1] at this
  exact this
 obtain ⟨T',B',c1,t',c2,c3,c4,c5⟩:=Au6 (s:=fun t=>s (T+t)) (r:=q) (m:=m)
  (fun t i hi=>by
   obtain ⟨t',h1,h2,h3⟩:=hw (T+t) i hi
   exact ⟨t'-T,by omega,by omega,by rw [show T+(t'-T)=t' by omega];exact h3⟩)
  (fun t t' h1 h2=>hu (T+t) (T+t') (by omega) (by omega)) (fun t=>(hqs t).1)
  (fun t=>Ago (hp (T+t)).other (Move.other (hp (T+t)) (hs _) (hmv (T+t))) (hqs t) (hqs (t+1)))
 have l1:=hqs t'
 have l2:=hqs (t' + 1)
 rw [c3] at l1
 rw [c5] at l2
 have still':j (T+t' + 1) B'=j (T+t') B':=by
  have e1:=l1.2.1
  have e2:cop (j (T+t' + 1)) B'=y:=l2.2.1
  have e3:=(hp (T+t')).le B' l1.1
  have e4:=(hp (T+t' + 1)).le B' l1.1
  unfold cop at e1 e2
  omega
 obtain ⟨x',x1,x2⟩:=gL y (T+t') B' hy l1 c4 still'
 have:=hx2 x' x1
 have:=ahead t'
 rw [c3] at this
 omega
end Go.Proofs.YtebkcipolijfmaaGreat
