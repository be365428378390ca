/- Flips. -/
import Derived.Test.YtjfndjmabhbicaaGreatK4
namespace Go.Proofs.YtjfndjmabhbicaaGreat
open Go Go.RowKit
variable {P:Int->Ac} {H:Int->Int} {V:Int->Prop} {ap:Ap}
def Dq (ap:Ap) (i j k l:Int):Ap:=fun a b=>
 if a=i/\b=l then some k else if a=l/\b=k then some i else if a=k/\b=i then some l else
 if a=j/\b=k then some l else if a=k/\b=l then some j else if a=l/\b=j then some k else
 if a=i/\b=j then none else if a=j/\b=i then none else ap a b
theorem Oz {i j k l a b c:Int} (h:Dq ap i j k l a b=some c) :
  (a=i/\b=l/\c=k)\/(a=l/\b=k/\c=i)\/(a=k/\b=i/\c=l)\/(a=j/\b=k/\c=l)\/(a=k/\b=l/\c=j)\/(a=l/\b=j/\c=k) \/
  (ap a b=some c/\¬ (a=i/\b=l)/\¬ (a=l/\b=k)/\¬ (a=k/\b=i)/\¬ (a=j/\b=k)/\¬ (a=k/\b=l)/\¬ (a=l/\b=j)/\¬ (a=i/\b=j)/\¬ (a=j/\b=i)):=by
 unfold Dq at h
 by_cases k0:a=i/\b=l
 ·rw[if_pos k0] at h;exact .inl ⟨k0.1,k0.2,(Option.some.inj h).symm⟩
 rw[if_neg k0] at h
 by_cases k1:a=l/\b=k
 ·rw[if_pos k1] at h;exact .inr (.inl ⟨k1.1,k1.2,(Option.some.inj h).symm⟩)
 rw[if_neg k1] at h
 by_cases k2:a=k/\b=i
 ·rw[if_pos k2] at h;exact .inr (.inr (.inl ⟨k2.1,k2.2,(Option.some.inj h).symm⟩))
 rw[if_neg k2] at h
 by_cases k3:a=j/\b=k
 ·rw[if_pos k3] at h;exact .inr (.inr (.inr (.inl ⟨k3.1,k3.2,(Option.some.inj h).symm⟩)))
 rw[if_neg k3] at h
 by_cases k4:a=k/\b=l
 ·rw[if_pos k4] at h;exact .inr (.inr (.inr (.inr (.inl ⟨k4.1,k4.2,(Option.some.inj h).symm⟩))))
 rw[if_neg k4] at h
 by_cases k5:a=l/\b=j
 ·rw[if_pos k5] at h;exact .inr (.inr (.inr (.inr (.inr (.inl ⟨k5.1,k5.2,(Option.some.inj h).symm⟩)))))
 rw[if_neg k5] at h
 by_cases k6:a=i/\b=j
 ·rw[if_pos k6] at h;cases h
 rw[if_neg k6] at h
 by_cases k7:a=j/\b=i
 ·rw[if_pos k7] at h;cases h
 rw[if_neg k7] at h
 exact .inr (.inr (.inr (.inr (.inr (.inr ⟨h,k0,k1,k2,k3,k4,k5,k6,k7⟩)))))
theorem Aqe (ap:Ap) (i j k l:Int) (h1:i≠j) (h2:k≠l) (h3:k≠i) (h4:k≠j) (h5:l≠i) (h6:l≠j):Dq ap j i l k=Dq ap i j k l:=by
 funext a b
 unfold Dq
 grind
theorem Atz {i j k l s m:Int} (h:Tri P V ap) (hk:ap i j=some k) (hl:ap j i=some l) (hm:Dq ap i j k l s m≠none\/Dq ap i j k l m s≠none) :
  ((ap s m≠none\/ap m s≠none)/\¬ (s=i/\m=j)/\¬ (s=j/\m=i))\/(s=k/\m=l)\/(s=l/\m=k):=by
 have a1:=h.rot _ _ _ hk
 have a2:=h.rot2 hk
 have a3:=h.rot _ _ _ hl
 have a4:=h.rot2 hl
 have n1:=h.ne hk
 have n2:=h.ne hl
 have key:∀ x y,Dq ap i j k l x y≠none->((ap x y≠none\/ap y x≠none)/\¬ (x=i/\y=j)/\¬ (x=j/\y=i))\/(x=k/\y=l)\/(x=l/\y=k):=by
  intro x y hx
  obtain ⟨c,hc⟩:=Option.ne_none_iff_exists'.1 hx
  rcases Oz hc with ⟨rfl,rfl,rfl⟩ | ⟨rfl,rfl,rfl⟩ | ⟨rfl,rfl,rfl⟩ | ⟨rfl,rfl,rfl⟩ | ⟨rfl,rfl,rfl⟩ | ⟨rfl,rfl,rfl⟩ | ⟨h0,h1⟩
  ·exact .inl ⟨.inl (by rw[a3];simp),by omega,by omega⟩
  ·exact .inr (.inr ⟨rfl,rfl⟩)
  ·exact .inl ⟨.inl (by rw[a2];simp),by omega,by omega⟩
  ·exact .inl ⟨.inl (by rw[a1];simp),by omega,by omega⟩
  ·exact .inr (.inl ⟨rfl,rfl⟩)
  ·exact .inl ⟨.inl (by rw[a4];simp),by omega,by omega⟩
  ·exact .inl ⟨.inl (by rw[h0];simp),by omega,by omega⟩
 rcases hm with hm | hm
 ·exact key s m hm
 ·rcases key m s hm with ⟨g1,g2,g3⟩ | ⟨g1,g2⟩ | ⟨g1,g2⟩
  ·exact .inl ⟨g1.symm,by omega,by omega⟩
  ·exact .inr (.inr ⟨g2,g1⟩)
  ·exact .inr (.inl ⟨g2,g1⟩)
structure Quad (P:Int->Ac) (V:Int->Prop) (ap:Ap) (i j k l:Int):Prop where
 tri:Tri P V ap
 hk:ap i j=some k
 hl:ap j i=some l
 c1:0 < crs (P i) (P l) (P k)
 c2:0 < crs (P j) (P k) (P l)
theorem Quad.symm {i j k l} (q:Quad P V ap i j k l):Quad P V ap j i l k:=⟨q.tri,q.hl,q.hk,q.c2,q.c1⟩
theorem Quad.ne {i j k l} (q:Quad P V ap i j k l):i≠j/\k≠l/\k≠i/\k≠j/\l≠i/\l≠j:=by
 have n1:=q.tri.ne q.hk
 have n2:=q.tri.ne q.hl
 have n3:=Wi (P:=P) (a:=i) (b:=l) (c:=k) (by have:=q.c1;omega)
 omega
theorem Quad.fresh {i j k l} (q:Quad P V ap i j k l):ap k l=none/\ap l k=none:=by
 have key:∀ {i j k l},Quad P V ap i j k l->¬ (ap k l≠none\/ap l k≠none):=fun {i j k l} q hn=>by
  refine q.tri.cone k i j l (q.tri.rot2 q.hk) hn ⟨?_,?_⟩
  ·have:=q.c1;rw[An] at this;exact this
  ·rw[An];exact q.c2
 have:=key q
 exact ⟨by rcases h:ap k l with _ | x;rfl;exact absurd (.inl (by rw[h];simp)) this,by rcases h:ap l k with _ | x;rfl;exact absurd (.inr (by rw[h];simp)) this⟩
theorem At0 {i j k l} (q:Quad P V ap i j k l):∀ a b c,Dq ap i j k l a b=some c->Dq ap i j k l b c=some a:=by
 intro a b c hc
 have a1:=q.tri.rot _ _ _ q.hk
 have a2:=q.tri.rot2 q.hk
 have a3:=q.tri.rot _ _ _ q.hl
 have a4:=q.tri.rot2 q.hl
 have hk:=q.hk
 have hl:=q.hl
 obtain ⟨f1,f2⟩:=q.fresh
 obtain ⟨n1,n2,n3,n4,n5,n6⟩:=q.ne
 have hr:=q.tri.rot
 rcases Oz hc with ⟨rfl,rfl,rfl⟩ | ⟨rfl,rfl,rfl⟩ | ⟨rfl,rfl,rfl⟩ | ⟨rfl,rfl,rfl⟩ | ⟨rfl,rfl,rfl⟩ | ⟨rfl,rfl,rfl⟩ | ⟨h0,h1⟩
 ·unfold Dq;grind
 ·unfold Dq;grind
 ·unfold Dq;grind
 ·unfold Dq;grind
 ·unfold Dq;grind
 ·unfold Dq;grind
 ·have h2:=hr _ _ _ h0
  unfold Dq
  grind
theorem Awt {pi pj pk pl pd:Ac} (hk:0 < crs pi pj pk) (hl:0 < crs pj pi pl) (c1:0 < crs pi pl pk) (c2:0 < crs pj pk pl) (d1:0<=crs pi pl pd) (d2:0<=crs pl pk pd) (d3:0<=crs pk pi pd) :
  (0<=crs pi pj pd/\0<=crs pj pk pd/\0<=crs pk pi pd)\/(0<=crs pj pi pd/\0<=crs pi pl pd/\0<=crs pl pj pd):=by
 by_cases c:0<=crs pi pj pd
 ·left
  refine ⟨c,?_,d3⟩
  have e:crs pi pl pk*crs pj pk pd=crs pi pj pk*crs pl pk pd+crs pj pk pl*crs pk pi pd:=by unfold crs;grind
  have:=Int.mul_nonneg (Int.le_of_lt hk) d2
  have:=Int.mul_nonneg (Int.le_of_lt c2) d3
  exact Na (x:=crs pi pl pk) (by omega) c1
 ·right
  refine ⟨by rw[Ax];omega,d1,?_⟩
  have e:crs pi pl pk*crs pl pj pd=crs pj pi pl*crs pl pk pd+crs pj pk pl*crs pi pl pd:=by unfold crs;grind
  have:=Int.mul_nonneg (Int.le_of_lt hl) d2
  have:=Int.mul_nonneg (Int.le_of_lt c2) d1
  exact Na (x:=crs pi pl pk) (by omega) c1
theorem Quad.emp1 {i j k l} (q:Quad P V ap i j k l) (d:Int) (hd:V d) (h1:d≠i) (h2:d≠l) (h3:d≠k):crs (P i) (P l) (P d) < 0\/crs (P l) (P k) (P d) < 0\/crs (P k) (P i) (P d) < 0:=by
 obtain ⟨_,_,_,ck⟩:=q.tri.ccw _ _ _ q.hk
 obtain ⟨_,_,_,cl⟩:=q.tri.ccw _ _ _ q.hl
 by_cases hj:d=j
 ·subst hj
  have:crs (P l) (P k) (P d) = -crs (P d) (P k) (P l):=by unfold crs;grind
  have:=q.c2
  omega
 ·by_cases g1:crs (P i) (P l) (P d) < 0
  ·exact .inl g1
  ·by_cases g2:crs (P l) (P k) (P d) < 0
   ·exact .inr (.inl g2)
   ·by_cases g3:crs (P k) (P i) (P d) < 0
    ·exact .inr (.inr g3)
    ·exfalso
     rcases Awt (pd:=P d) ck cl q.c1 q.c2 (by omega) (by omega) (by omega) with ⟨e1,e2,e3⟩ | ⟨e1,e2,e3⟩
     ·rcases q.tri.emp _ _ _ q.hk d hd h1 hj h3 with g | g | g <;> omega
     ·rcases q.tri.emp _ _ _ q.hl d hd hj h1 h2 with g | g | g <;> omega
theorem Quad.cone_i {i j k l} (q:Quad P V ap i j k l) (m:Int) (hm:ap i m≠none\/ap m i≠none) (hj:m≠j):¬ (0 < crs (P i) (P l) (P m)/\0 < crs (P i) (P m) (P k)):=by
 rintro ⟨g1,g2⟩
 have hk:=q.hk
 have hl:=q.tri.rot _ _ _ q.hl
 obtain ⟨vi,vj,vk,ck⟩:=q.tri.ccw _ _ _ hk
 obtain ⟨_,vl,_,cl⟩:=q.tri.ccw _ _ _ hl
 rcases Int.lt_trichotomy (crs (P i) (P j) (P m)) 0 with c | c | c
 ·exact q.tri.cone i l j m hl hm ⟨g1,by rw[Bd];omega⟩
 ·-- on the ray to j
  have ne:=q.tri.ne hk
  have ne':=q.tri.ne hl
  have cmj:crs (P i) (P m) (P j)=0:=by rw[Bd,c];rfl
  rcases q.tri.nbr hm with ⟨w,hw⟩ | ⟨w,hw⟩
  ·obtain ⟨_,vm,vw,cw⟩:=q.tri.ccw _ _ _ hw
   have k1:0 < crs (P i) (P j) (P w):=Afk (l:=P k) c ck g2 cw
   rcases Ate cmj cw k1 ck g2 with ⟨q1,q2⟩ | ⟨q1,q2⟩
   ·have nw:=q.tri.ne hw
    by_cases e:j=w
    ·subst e;omega
    ·rcases q.tri.emp _ _ _ hw j vj (by omega) (by omega) e with g | g | g <;> omega
   ·by_cases e:m=k
    ·subst e;omega
    ·rcases q.tri.emp _ _ _ hk m vm (q.tri.ne hw).1.symm hj e with g | g | g <;> omega
  ·obtain ⟨_,vw,vm,cw⟩:=q.tri.ccw _ _ _ hw
   have nw:=q.tri.ne hw
   have k1:0 < crs (P i) (P w) (P j):=Ap8 (l:=P l) c cl g1 cw
   rcases Av1 cmj cw k1 cl g1 with ⟨q1,q2⟩ | ⟨q1,q2⟩
   ·by_cases e:j=w
    ·subst e;rw[Bi] at k1;omega
    ·have:crs (P m) (P i) (P j)=0:=by rw[Ax,cmj];rfl
     rcases q.tri.emp _ _ _ hw j vj (by omega) e (by omega) with g | g | g <;> omega
   ·by_cases e:m=l
    ·subst e;rw[Bi] at g1;omega
    ·have:crs (P j) (P i) (P m)=0:=by rw[Ax,c];rfl
     rcases q.tri.emp _ _ _ hl m vm (by omega) e hj with g | g | g <;> omega
 ·exact q.tri.cone i j k m hk hm ⟨c,g2⟩
theorem Quad.cone_k {i j k l} (q:Quad P V ap i j k l) (m:Int) (hm:ap k m≠none\/ap m k≠none):¬ (0 < crs (P k) (P i) (P m)/\0 < crs (P k) (P m) (P l)):=by
 rintro ⟨g1,g2⟩
 have hk:=q.tri.rot2 q.hk
 obtain ⟨_,_,_,ck⟩:=q.tri.ccw _ _ _ hk
 have c2:0 < crs (P k) (P l) (P j):=by rw[An];exact q.c2
 have c1:0 < crs (P k) (P i) (P l):=by have:=q.c1;rw[An] at this;exact this
 refine q.tri.cone k i j m hk hm ⟨g1,?_⟩
 exact Yb (l:=P l) c1 c2 ck g1 g2
theorem Quad.cone_l {i j k l} (q:Quad P V ap i j k l) (m:Int) (hm:ap l m≠none\/ap m l≠none):¬ (0 < crs (P l) (P k) (P m)/\0 < crs (P l) (P m) (P i)):=by
 rintro ⟨g1,g2⟩
 have hl:=q.tri.rot2 q.hl
 obtain ⟨_,_,_,cl⟩:=q.tri.ccw _ _ _ hl
 have c1:0 < crs (P l) (P k) (P i):=by rw[An];exact q.c1
 have c2:0 < crs (P l) (P j) (P k):=by have:=q.c2;rw[An] at this;exact this
 refine q.tri.cone l j i m hl hm ⟨?_,g2⟩
 exact Ait (l:=P k) c2 c1 cl g2 g1
theorem Quad.flip {i j k l} (q:Quad P V ap i j k l):Tri P V (Dq ap i j k l):=by
 have hk:=q.hk
 have hl:=q.hl
 obtain ⟨vi,vj,vk,ck⟩:=q.tri.ccw _ _ _ hk
 obtain ⟨_,_,vl,cl⟩:=q.tri.ccw _ _ _ hl
 have c1:=q.c1
 have c2:=q.c2
 have c1':0 < crs (P l) (P k) (P i):=by rw[An];exact c1
 have c1'':0 < crs (P k) (P i) (P l):=by rw[An];exact c1'
 have c2':0 < crs (P k) (P l) (P j):=by rw[An];exact c2
 have c2'':0 < crs (P l) (P j) (P k):=by rw[An];exact c2'
 have n:=q.ne
 refine ⟨At0 q,fun a b c hc=>?_,fun a b c hc d hd h1 h2 h3=>?_,fun s a b m hc hm=>?_⟩
 ·rcases Oz hc with ⟨rfl,rfl,rfl⟩ | ⟨rfl,rfl,rfl⟩ | ⟨rfl,rfl,rfl⟩ | ⟨rfl,rfl,rfl⟩ | ⟨rfl,rfl,rfl⟩ | ⟨rfl,rfl,rfl⟩ | ⟨h0,_⟩
  ·exact ⟨vi,vl,vk,c1⟩
  ·exact ⟨vl,vk,vi,c1'⟩
  ·exact ⟨vk,vi,vl,c1''⟩
  ·exact ⟨vj,vk,vl,c2⟩
  ·exact ⟨vk,vl,vj,c2'⟩
  ·exact ⟨vl,vj,vk,c2''⟩
  ·exact q.tri.ccw _ _ _ h0
 ·rcases Oz hc with ⟨rfl,rfl,rfl⟩ | ⟨rfl,rfl,rfl⟩ | ⟨rfl,rfl,rfl⟩ | ⟨rfl,rfl,rfl⟩ | ⟨rfl,rfl,rfl⟩ | ⟨rfl,rfl,rfl⟩ | ⟨h0,_⟩
  ·exact q.emp1 d hd h1 h2 h3
  ·rcases q.emp1 d hd h3 h1 h2 with g | g | g <;> simp[g]
  ·rcases q.emp1 d hd h2 h3 h1 with g | g | g <;> simp[g]
  ·exact q.symm.emp1 d hd h1 h2 h3
  ·rcases q.symm.emp1 d hd h3 h1 h2 with g | g | g <;> simp[g]
  ·rcases q.symm.emp1 d hd h2 h3 h1 with g | g | g <;> simp[g]
  ·exact q.tri.emp _ _ _ h0 d hd h1 h2 h3
 ·have hn:=Atz q.tri hk hl hm
  rcases Oz hc with ⟨rfl,rfl,rfl⟩ | ⟨rfl,rfl,rfl⟩ | ⟨rfl,rfl,rfl⟩ | ⟨rfl,rfl,rfl⟩ | ⟨rfl,rfl,rfl⟩ | ⟨rfl,rfl,rfl⟩ | ⟨h0,h9⟩
  ·-- at i
   rcases hn with ⟨g1,g2,g3⟩ | ⟨g1,g2⟩ | ⟨g1,g2⟩
   ·exact q.cone_i m g1 (fun e=>g2 ⟨rfl,e⟩)
   ·omega
   ·omega
  ·-- at l: from k to i
   rcases hn with ⟨g1,g2,g3⟩ | ⟨g1,g2⟩ | ⟨g1,g2⟩
   ·exact q.cone_l m g1
   ·omega
   ·rintro ⟨e1,e2⟩;rw[g2,Bi] at e1;omega
  ·-- at k: from i to l
   rcases hn with ⟨g1,g2,g3⟩ | ⟨g1,g2⟩ | ⟨g1,g2⟩
   ·exact q.cone_k m g1
   ·rintro ⟨e1,e2⟩;rw[g2,Bi] at e2;omega
   ·omega
  ·rcases hn with ⟨g1,g2,g3⟩ | ⟨g1,g2⟩ | ⟨g1,g2⟩
   ·exact q.symm.cone_i m g1 (fun e=>g3 ⟨rfl,e⟩)
   ·omega
   ·omega
  ·rcases hn with ⟨g1,g2,g3⟩ | ⟨g1,g2⟩ | ⟨g1,g2⟩
   ·exact q.symm.cone_l m g1
   ·rintro ⟨e1,e2⟩;rw[g2,Bi] at e1;omega
   ·omega
  ·rcases hn with ⟨g1,g2,g3⟩ | ⟨g1,g2⟩ | ⟨g1,g2⟩
   ·exact q.symm.cone_k m g1
   ·omega
   ·rintro ⟨e1,e2⟩;rw[g2,Bi] at e2;omega
  ·rcases hn with ⟨g1,g2,g3⟩ | ⟨rfl,rfl⟩ | ⟨rfl,rfl⟩
   ·exact q.tri.cone s a b m h0 g1
   ·-- at k,l within another angle
    rintro ⟨e1,e2⟩
    have:=q.tri.cones h0 (q.tri.rot2 hk) e1 e2 c1'' c2'
    omega
   ·rintro ⟨e1,e2⟩
    have:=q.tri.cones h0 (q.tri.rot2 hl) e1 e2 c2'' c1'
    omega
variable {P:Int->Ac} {H:Int->Int} {V:Int->Prop} {ap:Ap}
def Afn (P:Int->Ac) (H:Int->Int) (V:Int->Prop):Prop :=
 ∀ a b c d,V a->V b->V c->V d->0 < crs (P a) (P b) (P c)->crs (P a) (P b) (P d) < 0->(crs (P b) (P c) (P d)<=0\/crs (P c) (P a) (P d)<=0)->DH P H a b c d < 0
def Cov (P:Int->Ac) (S:Int->Prop) (ap:Ap):Prop:=∀ i j k,ap i j=some k->ap j i=none->∀ d,S d->0<=crs (P i) (P j) (P d)
theorem Vk {i j k l a b:Int} (h:Dq ap i j k l a b=none):ap a b=none\/(a=i/\b=j)\/(a=j/\b=i):=by
 unfold Dq at h
 by_cases k0:a=i/\b=l
 ·rw[if_pos k0] at h;cases h
 rw[if_neg k0] at h
 by_cases k1:a=l/\b=k
 ·rw[if_pos k1] at h;cases h
 rw[if_neg k1] at h
 by_cases k2:a=k/\b=i
 ·rw[if_pos k2] at h;cases h
 rw[if_neg k2] at h
 by_cases k3:a=j/\b=k
 ·rw[if_pos k3] at h;cases h
 rw[if_neg k3] at h
 by_cases k4:a=k/\b=l
 ·rw[if_pos k4] at h;cases h
 rw[if_neg k4] at h
 by_cases k5:a=l/\b=j
 ·rw[if_pos k5] at h;cases h
 rw[if_neg k5] at h
 by_cases k6:a=i/\b=j
 ·exact .inr (.inl k6)
 rw[if_neg k6] at h
 by_cases k7:a=j/\b=i
 ·exact .inr (.inr k7)
 rw[if_neg k7] at h
 exact .inl h
theorem Awu (ap:Ap) (i j k l:Int):Dq ap i j k l i l=some k:=by unfold Dq;simp
theorem Aom {i j k l:Int} (h1:l≠i):Dq ap i j k l l k=some i:=by unfold Dq;rw[if_neg (by omega)];simp
theorem Aon {i j k l:Int} (h1:k≠i) (h2:k≠l) (h3:k≠j) (h4:l≠i):Dq ap i j k l k l=some j:=by unfold Dq;rw[if_neg (by omega),if_neg (by omega),if_neg (by omega),if_neg (by omega)];simp
theorem Quad.cov {S:Int->Prop} {i j k l} (q:Quad P V ap i j k l) (h:Cov P S ap):Cov P S (Dq ap i j k l):=by
 have hk:=q.hk
 have hl:=q.hl
 have a1:=q.tri.rot _ _ _ hk
 have a2:=q.tri.rot2 hk
 have a3:=q.tri.rot _ _ _ hl
 have a4:=q.tri.rot2 hl
 obtain ⟨n1,n2,n3,n4,n5,n6⟩:=q.ne
 intro a b c hc hn d hd
 have hn':ap b a=none\/(b=i/\a=j)\/(b=j/\a=i):=Vk hn
 rcases Oz hc with ⟨rfl,rfl,rfl⟩ | ⟨rfl,rfl,rfl⟩ | ⟨rfl,rfl,rfl⟩ | ⟨rfl,rfl,rfl⟩ | ⟨rfl,rfl,rfl⟩ | ⟨rfl,rfl,rfl⟩ | ⟨h0,h9⟩
 ·exact h _ _ _ a3 (hn'.resolve_right (by omega)) d hd
 ·rw[Aon n3 n2 n4 n5] at hn;cases hn
 ·exact h _ _ _ a2 (hn'.resolve_right (by omega)) d hd
 ·exact h _ _ _ a1 (hn'.resolve_right (by omega)) d hd
 ·rw[Aom n5] at hn;cases hn
 ·exact h _ _ _ a4 (hn'.resolve_right (by omega)) d hd
 ·exact h _ _ _ h0 (hn'.resolve_right (by omega)) d hd
theorem Pj (a b c d:Int):DH P H b c a d=DH P H a b c d:=Ayz _ _ _ _ _ _ _ _
theorem Wk {a c x y Q s:Int} (h:x*a-y*c = -(Q*s)) (ha:0 < a) (hc:0 < c) (hQ:0 < Q) (hx:0 < x) (hs:0<=s):0 < y:=by
 have e1:=Int.mul_pos hx ha
 have e2:=Int.mul_nonneg (Int.le_of_lt hQ) hs
 exact Ce (x:=c) (by rw[Int.mul_comm];omega) hc
theorem Aoo (hi hj hk hl hd:Int) (i j k l d:Ac):Dt hi hl hk hd i l k d*crs i j k-Dt hi hj hk hd i j k d*crs i l k = -(Dt hi hj hk hl i j k l*crs k i d):=by unfold Dt crs;grind
theorem Aop (hi hj hk hl hd:Int) (i j k l d:Ac):Dt hi hl hk hd i l k d*crs j i l-Dt hj hi hl hd j i l d*crs i l k = -(Dt hi hj hk hl i j k l*crs i l d):=by unfold Dt crs;grind
theorem Quad.swapQ {i j k l:Int}:DH P H j i l k=DH P H i j k l:=by
 unfold DH
 rw[Av0,Ako,Int.neg_neg]
theorem Quad.conf1 {i j k l d:Int} (hcv:Afn P H V) (q:Quad P V ap i j k l) (hQ:0 < DH P H i j k l) (hd:V d) (hC:0 < DH P H i l k d):0 < DH P H i j k d\/0 < DH P H j i l d:=by
 obtain ⟨vi,vj,vk,ck⟩:=q.tri.ccw _ _ _ q.hk
 obtain ⟨_,_,vl,cl⟩:=q.tri.ccw _ _ _ q.hl
 have p1:=Aoo (H i) (H j) (H k) (H l) (H d) (P i) (P j) (P k) (P l) (P d)
 have p2:=Aop (H i) (H j) (H k) (H l) (H d) (P i) (P j) (P k) (P l) (P d)
 by_cases g1:0<=crs (P k) (P i) (P d)
 ·exact .inl (Wk p1 ck q.c1 hQ hC g1)
 ·by_cases g2:0<=crs (P i) (P l) (P d)
  ·exact .inr (Wk p2 cl q.c1 hQ hC g2)
  ·have:=hcv i l k d vi vl vk hd q.c1 (by omega) (.inr (by omega))
   omega
theorem Quad.conf2 {i j k l d:Int} (hcv:Afn P H V) (q:Quad P V ap i j k l) (hQ:0 < DH P H i j k l) (hd:V d) (hC:0 < DH P H i l k d) (hE:0 < DH P H j k l d):0 < DH P H i j k d:=by
 obtain ⟨vi,vj,vk,ck⟩:=q.tri.ccw _ _ _ q.hk
 obtain ⟨_,_,vl,cl⟩:=q.tri.ccw _ _ _ q.hl
 have p1:=Aoo (H i) (H j) (H k) (H l) (H d) (P i) (P j) (P k) (P l) (P d)
 have p3:=Aop (H j) (H i) (H l) (H k) (H d) (P j) (P i) (P l) (P k) (P d)
 by_cases g1:0<=crs (P k) (P i) (P d)
 ·exact Wk p1 ck q.c1 hQ hC g1
 ·by_cases g2:0<=crs (P j) (P k) (P d)
  ·exact Wk p3 ck q.c2 (by have:=Quad.swapQ (P:=P) (H:=H) (i:=i) (j:=j) (k:=k) (l:=l);unfold DH at this hQ;omega) hE g2
  ·exfalso
   have c2':0 < crs (P k) (P l) (P j):=by rw[An];exact q.c2
   have c1':0 < crs (P k) (P i) (P l):=by have:=q.c1;rw[An] at this;exact this
   by_cases g3:crs (P k) (P l) (P d)<=0
   ·have:=hcv j k l d vj vk vl hd q.c2 (by omega) (.inl g3)
    omega
   ·have g4:crs (P l) (P k) (P d)<=0:=by rw[Ax];omega
    have:=hcv k i l d vk vi vl hd c1' (by omega) (.inr g4)
    have e:DH P H k i l d=DH P H i l k d:=(Pj k i l d).symm
    omega
theorem Aoq {A B C E:Int->Bool}:∀ {L:List Int},(∀ d∈L,(C d).toNat+(E d).toNat<=(A d).toNat+(B d).toNat)->L.countP C+L.countP E<=L.countP A+L.countP B
 | [],_=>by simp
 | x::r,h=>by
  have h1:=h x List.mem_cons_self
  have h2:=Aoq (L:=r) fun d hd=>h d (List.mem_cons_of_mem _ hd)
  simp only[List.countP_cons]
  cases hA:A x <;> cases hB:B x <;> cases hC:C x <;> cases hE:E x <;> rw[hA,hB,hC,hE] at h1 <;> simp at h1 ⊢ <;> omega
theorem Aor {A B C E:Int->Bool}:∀ {L:List Int} {x:Int},(∀ d∈L,(C d).toNat+(E d).toNat<=(A d).toNat+(B d).toNat)->x∈L->(C x).toNat+(E x).toNat < (A x).toNat+(B x).toNat->L.countP C+L.countP E < L.countP A+L.countP B
 | [],_,_,hx,_=>by cases hx
 | y::r,x,h,hx,hlt=>by
  have h1:=h y List.mem_cons_self
  have h2:∀ d∈r,(C d).toNat+(E d).toNat<=(A d).toNat+(B d).toNat:=fun d hd=>h d (List.mem_cons_of_mem _ hd)
  simp only[List.countP_cons]
  rcases List.mem_cons.1 hx with rfl | hx
  ·have:=Aoq h2
   cases hA:A x <;> cases hB:B x <;> cases hC:C x <;> cases hE:E x <;> rw[hA,hB,hC,hE] at hlt <;> simp at hlt ⊢ <;> omega
  ·have:=Aor h2 hx hlt
   cases hA:A y <;> cases hB:B y <;> cases hC:C y <;> cases hE:E y <;> rw[hA,hB,hC,hE] at h1 <;> simp at h1 ⊢ <;> omega
def inds (n:Nat):List Int:=(List.range n).map fun k:Nat=>(k:Int)
def inN (n:Nat) (i:Int):Prop:=0<=i/\i < (n:Int)
theorem Le {n:Nat} {i:Int}:i∈inds n↔inN n i:=by
 unfold inds inN
 rw[List.mem_map]
 constructor
 ·rintro ⟨k,hk,rfl⟩
  rw[List.mem_range] at hk
  omega
 ·rintro ⟨h0,h1⟩
  exact ⟨i.toNat,by rw[List.mem_range];omega,by omega⟩
theorem Tk {n:Nat}:(inds n).length=n:=by simp[inds]
variable {P:Int->Ac} {H:Int->Int} {ap:Ap} {n:Nat}
def cnf (P:Int->Ac) (H:Int->Int) (n:Nat) (a b c:Int):Nat:=(inds n).countP fun d=>decide (0 < DH P H a b c d)
theorem Az0 (a b c:Int):cnf P H n a b c<=n:=by
 have:(inds n).countP (fun d=>decide (0 < DH P H a b c d))<=(inds n).length:=List.countP_le_length
 rw[Tk] at this
 exact this
theorem Wl (a b c:Int):cnf P H n b c a=cnf P H n a b c:=by
 unfold cnf
 simp only[Pj]
theorem DH_b (a b c:Int):DH P H a b c b=0:=by unfold DH;rw[Acc,Aof];omega
theorem DH_c (a b c:Int):DH P H a b c c=0:=by unfold DH;rw[Acc,Aog];omega
theorem Quad.cnf_lt {i j k l:Int} (hcv:Afn P H (inN n)) (q:Quad P (inN n) ap i j k l) (hQ:0 < DH P H i j k l):cnf P H n i l k+cnf P H n j k l < cnf P H n i j k+cnf P H n j i l:=by
 obtain ⟨vi,vj,vk,ck⟩:=q.tri.ccw _ _ _ q.hk
 obtain ⟨_,_,vl,cl⟩:=q.tri.ccw _ _ _ q.hl
 have hQ':0 < DH P H j i l k:=by rw[Quad.swapQ];exact hQ
 unfold cnf
 refine Aor (x:=l) (fun d hd=>?_) (Le.2 vl) ?_
 ·have vd:=Le.1 hd
  have t1:=q.conf1 (d:=d) hcv hQ vd
  have t2:=q.symm.conf1 (d:=d) hcv hQ' vd
  have t3:=q.conf2 (d:=d) hcv hQ vd
  have t4:=q.symm.conf2 (d:=d) hcv hQ' vd
  by_cases hC:0 < DH P H i l k d
  ·by_cases hE:0 < DH P H j k l d
   ·have hA:=t3 hC hE
    have hB:=t4 hE hC
    simp[hC,hE,hA,hB]
   ·rcases t1 hC with hA | hB
    ·simp[hC,hE,hA]
    ·simp[hC,hE,hB]
  ·by_cases hE:0 < DH P H j k l d
   ·rcases t2 hE with hB | hA
    ·simp[hC,hE,hB]
    ·simp[hC,hE,hA]
   ·simp[hC,hE]
 ·rw[DH_b,DH_c,DH_c]
  simp[hQ]
def plV (v:List Ab) (i:Int):Ac:=match idx v i with
 | some x=>⟨x.X,x.Y⟩
 | none=>⟨0,0⟩
structure Bu (v:List Ab):Prop where
 ok:∀ i,inN v.length i->okP (plV v i)
 dist:∀ i j,inN v.length i->inN v.length j->Bt (plV v i) (plV v j)->i=j
def KK:Int:=4611686018427387904
def aft (v:List Ab) (i:Int):Nat:=(inds v.length).countP fun j=>decide (befP (plV v i) (plV v j))
def hV (v:List Ab) (i:Int):Int:=KK ^ (v.length+1)*sq (plV v i)+KK ^ aft v i
theorem Az1 (v:List Ab) (i:Int):aft v i<=v.length:=by
 have:(inds v.length).countP (fun j=>decide (befP (plV v i) (plV v j)))<=(inds v.length).length:=List.countP_le_length
 rw[Tk] at this
 exact this
theorem Acd {v:List Ab} {i j:Int} (hj:inN v.length j) (h:befP (plV v i) (plV v j)):aft v j < aft v i:=by
 unfold aft
 refine Vf (x:=j) (fun y _ hy=>?_) (Le.2 hj) (by simpa using h) (by simp[befP])
 simp only[decide_eq_true_eq] at hy ⊢
 unfold befP at *
 omega
theorem Qy (k:Nat):1<=KK ^ k:=by
 have:0 < KK ^ k:=Int.pow_pos (by decide)
 omega
theorem Aos {a b:Nat} (h:a<=b):KK ^ a<=KK ^ b:=by
 obtain ⟨c,rfl⟩:=Nat.le.dest h
 rw[Int.pow_add]
 have h1:=Qy a
 have h2:=Qy c
 have:=Int.mul_le_mul_of_nonneg_left h2 (show 0<=KK ^ a by omega)
 omega
theorem Ag9 {a b:Nat} (h:a < b):KK*KK ^ a<=KK ^ b:=by
 have:=Aos (a:=a+1) (b:=b) h
 rw[Int.pow_succ,Int.mul_comm] at this
 exact this
theorem Az2 (B sa sb sc sd wa wb wc wd:Int) (a b c d:Ac):Dt (B*sa+wa) (B*sb+wb) (B*sc+wc) (B*sd+wd) a b c d=B*Dt sa sb sc sd a b c d+Dt wa wb wc wd a b c d:=by unfold Dt;grind
theorem Abo (v:List Ab) (a b c d:Int):DH (plV v) (hV v) a b c d=KK ^ (v.length+1)*inC (plV v a) (plV v b) (plV v c) (plV v d)+Dt (KK ^ aft v a) (KK ^ aft v b) (KK ^ aft v c) (KK ^ aft v d) (plV v a) (plV v b) (plV v c) (plV v d):=by
 unfold DH hV
 rw[Az2,<- Ayy]
theorem Pu {w x N C:Int} (hw0:0<=w) (hw:w<=N) (hC:0<=C) (h1:-C<=x) (h2:x<=C):-(N*C)<=w*x/\w*x<=N*C:=by
 have:=mulB (x:=w) (y:=x) (M:=N) (N:=C) (by omega) (by omega) hw h1 h2
 exact this
theorem At1 {N wa wb wc wd:Int} {a b c d:Ac} (ha:okP a) (hb:okP b) (hc:okP c) (hd:okP d) (h1:0<=wa/\wa<=N) (h2:0<=wb/\wb<=N) (h3:0<=wc/\wc<=N) (h4:0<=wd/\wd<=N) :
  -(N*2305843009213693952)<=Dt wa wb wc wd a b c d/\Dt wa wb wc wd a b c d<=N*2305843009213693952:=by
 have c1:=Mw hb hc hd
 have c2:=Mw hc ha hd
 have c3:=Mw ha hb hd
 have c4:=Mw ha hb hc
 have m1:=Pu (C:=576460752303423488) h1.1 h1.2 (by omega) c1.1 c1.2
 have m2:=Pu (C:=576460752303423488) h2.1 h2.2 (by omega) c2.1 c2.2
 have m3:=Pu (C:=576460752303423488) h3.1 h3.2 (by omega) c3.1 c3.2
 have m4:=Pu (C:=576460752303423488) h4.1 h4.2 (by omega) c4.1 c4.2
 unfold Dt
 omega
section
variable {v:List Ab} (hv:Bu v) {a b c d:Int} (ha:inN v.length a) (hb:inN v.length b) (hc:inN v.length c) (hd:inN v.length d)
include hv ha hb hc hd
theorem At2:-(KK ^ (v.length+1)) < Dt (KK ^ aft v a) (KK ^ aft v b) (KK ^ aft v c) (KK ^ aft v d) (plV v a) (plV v b) (plV v c) (plV v d)/\Dt (KK ^ aft v a) (KK ^ aft v b) (KK ^ aft v c) (KK ^ aft v d) (plV v a) (plV v b) (plV v c) (plV v d) < KK ^ (v.length+1):=by
 have w:∀ i,0<=KK ^ aft v i/\KK ^ aft v i<=KK ^ v.length:=fun i=>⟨by have:=Qy (aft v i);omega,Aos (Az1 v i)⟩
 have:=At1 (hv.ok a ha) (hv.ok b hb) (hv.ok c hc) (hv.ok d hd) (w a) (w b) (w c) (w d)
 have h1:=Qy v.length
 generalize Dt (KK ^ aft v a) (KK ^ aft v b) (KK ^ aft v c) (KK ^ aft v d) (plV v a) (plV v b) (plV v c) (plV v d)=D at *
 rw[Int.pow_succ]
 have e:KK=4611686018427387904:=rfl
 generalize KK ^ v.length=N at *
 rw[e]
 omega
theorem Bbr (h:0 < inC (plV v a) (plV v b) (plV v c) (plV v d)):0 < DH (plV v) (hV v) a b c d:=by
 rw[Abo]
 have h1:=At2 hv ha hb hc hd
 have h2:=Qy (v.length+1)
 have:=Int.mul_le_mul_of_nonneg_left (show 1<=inC (plV v a) (plV v b) (plV v c) (plV v d) by omega) (show 0<=KK ^ (v.length+1) by omega)
 omega
theorem Afo (h:inC (plV v a) (plV v b) (plV v c) (plV v d) < 0):DH (plV v) (hV v) a b c d < 0:=by
 rw[Abo]
 have h1:=At2 hv ha hb hc hd
 have h2:=Qy (v.length+1)
 have:=Int.mul_le_mul_of_nonneg_left (show inC (plV v a) (plV v b) (plV v c) (plV v d)<=-1 by omega) (show 0<=KK ^ (v.length+1) by omega)
 omega
theorem Tl (h0:inC (plV v a) (plV v b) (plV v c) (plV v d)=0) (h1:befP (plV v a) (plV v b)) (h2:befP (plV v a) (plV v c)) (h3:befP (plV v a) (plV v d)) :
  (0 < crs (plV v b) (plV v c) (plV v d)->0 < DH (plV v) (hV v) a b c d)/\(crs (plV v b) (plV v c) (plV v d) < 0->DH (plV v) (hV v) a b c d < 0):=by
 rw[Abo,h0,Int.mul_zero,Int.zero_add]
 have k1:=Ag9 (Acd hb h1)
 have k2:=Ag9 (Acd hc h2)
 have k3:=Ag9 (Acd hd h3)
 have e:KK=4611686018427387904:=rfl
 rw[e] at k1 k2 k3
 have w0:=Qy (aft v a)
 have w1:=Qy (aft v b)
 have w2:=Qy (aft v c)
 have w3:=Qy (aft v d)
 rw[e] at w0 w1 w2 w3
 rw[e]
 have c1:=Mw (hv.ok b hb) (hv.ok c hc) (hv.ok d hd)
 have c2:=Mw (hv.ok c hc) (hv.ok a ha) (hv.ok d hd)
 have c3:=Mw (hv.ok a ha) (hv.ok b hb) (hv.ok d hd)
 have c4:=Mw (hv.ok a ha) (hv.ok b hb) (hv.ok c hc)
 generalize (4611686018427387904:Int) ^ aft v a=wa at *
 generalize (4611686018427387904:Int) ^ aft v b=wb at *
 generalize (4611686018427387904:Int) ^ aft v c=wc at *
 generalize (4611686018427387904:Int) ^ aft v d=wd at *
 have m2:=Pu (w:=wb) (C:=576460752303423488) (by omega) (Int.le_refl _) (by omega) c2.1 c2.2
 have m3:=Pu (w:=wc) (C:=576460752303423488) (by omega) (Int.le_refl _) (by omega) c3.1 c3.2
 have m4:=Pu (w:=wd) (C:=576460752303423488) (by omega) (Int.le_refl _) (by omega) c4.1 c4.2
 unfold Dt
 constructor
 ·intro hp
  have:=Int.mul_le_mul_of_nonneg_left (show 1<=crs (plV v b) (plV v c) (plV v d) by omega) (show 0<=wa by omega)
  omega
 ·intro hp
  have:=Int.mul_le_mul_of_nonneg_left (show crs (plV v b) (plV v c) (plV v d)<=-1 by omega) (show 0<=wa by omega)
  omega
theorem Afp (h0:inC (plV v a) (plV v b) (plV v c) (plV v d)=0) (h1:befP (plV v d) (plV v a)) (h2:befP (plV v d) (plV v b)) (h3:befP (plV v d) (plV v c)) (hp:0 < crs (plV v a) (plV v b) (plV v c)):DH (plV v) (hV v) a b c d < 0:=by
 rw[Abo,h0,Int.mul_zero,Int.zero_add]
 have k1:=Ag9 (Acd ha h1)
 have k2:=Ag9 (Acd hb h2)
 have k3:=Ag9 (Acd hc h3)
 have e:KK=4611686018427387904:=rfl
 rw[e] at k1 k2 k3
 have w0:=Qy (aft v a)
 have w1:=Qy (aft v b)
 have w2:=Qy (aft v c)
 have w3:=Qy (aft v d)
 rw[e] at w0 w1 w2 w3
 rw[e]
 have c1:=Mw (hv.ok b hb) (hv.ok c hc) (hv.ok d hd)
 have c2:=Mw (hv.ok c hc) (hv.ok a ha) (hv.ok d hd)
 have c3:=Mw (hv.ok a ha) (hv.ok b hb) (hv.ok d hd)
 generalize (4611686018427387904:Int) ^ aft v a=wa at *
 generalize (4611686018427387904:Int) ^ aft v b=wb at *
 generalize (4611686018427387904:Int) ^ aft v c=wc at *
 generalize (4611686018427387904:Int) ^ aft v d=wd at *
 have m1:=Pu (w:=wa) (C:=576460752303423488) (by omega) (Int.le_refl _) (by omega) c1.1 c1.2
 have m2:=Pu (w:=wb) (C:=576460752303423488) (by omega) (Int.le_refl _) (by omega) c2.1 c2.2
 have m3:=Pu (w:=wc) (C:=576460752303423488) (by omega) (Int.le_refl _) (by omega) c3.1 c3.2
 unfold Dt
 have:=Int.mul_le_mul_of_nonneg_left (show 1<=crs (plV v a) (plV v b) (plV v c) by omega) (show 0<=wd by omega)
 omega
end
theorem Qk {v:List Ab} (hv:Bu v):Afn (plV v) (hV v) (inN v.length):=by
 intro a b c d ha hb hc hd h1 h2 h3
 rcases h3 with h3 | h3
 ·exact Afo hv ha hb hc hd (Afh h1 h2 h3)
 ·exact Afo hv ha hb hc hd (Ya h1 h2 h3)
theorem Adu (a b c d:Ac):inC b c a d=inC a b c d:=by unfold inC lft crs;grind
theorem Hm {p q r:Ac} (h1:befP p q) (h2:befP q r):befP p r:=by unfold befP at *;omega
theorem Rl {p q:Ac} (h1:befP p q) (h2:befP q p):False:=by unfold befP at *;omega
theorem Ii {p q:Ac} (h:¬ Bt p q):befP p q\/befP q p:=by unfold befP Bt at *;omega
theorem Agd {a b c d:Ac} (n1:¬ Bt a b) (n2:¬ Bt a c) (n3:¬ Bt a d) (n4:¬ Bt b c) (n5:¬ Bt b d) (n6:¬ Bt c d) :
  (befP a b/\befP a c/\befP a d)\/(befP b c/\befP b a/\befP b d)\/(befP c a/\befP c b/\befP c d)\/(befP d a/\befP d b/\befP d c):=by
 rcases Ii n1 with h1 | h1
 ·rcases Ii n6 with h2 | h2
  ·rcases Ii n2 with h3 | h3
   ·exact .inl ⟨h1,h3,Hm h3 h2⟩
   ·exact .inr (.inr (.inl ⟨h3,Hm h3 h1,h2⟩))
  ·rcases Ii n3 with h3 | h3
   ·exact .inl ⟨h1,Hm h3 h2,h3⟩
   ·exact .inr (.inr (.inr ⟨h3,Hm h3 h1,h2⟩))
 ·rcases Ii n6 with h2 | h2
  ·rcases Ii n4 with h3 | h3
   ·exact .inr (.inl ⟨h3,h1,Hm h3 h2⟩)
   ·exact .inr (.inr (.inl ⟨Hm h3 h1,h3,h2⟩))
  ·rcases Ii n5 with h3 | h3
   ·exact .inr (.inl ⟨Hm h3 h2,h1,h3⟩)
   ·exact .inr (.inr (.inr ⟨Hm h3 h1,h3,h2⟩))
theorem Ace {v:List Ab} (hv:Bu v) {a b c d:Int} (ha:inN v.length a) (hb:inN v.length b) (hc:inN v.length c) (hd:inN v.length d) (h1:0 < crs (plV v a) (plV v b) (plV v c)) (h2:crs (plV v a) (plV v b) (plV v d) < 0) :
  (legP (plV v a) (plV v b) (plV v c) (plV v d)↔DH (plV v) (hV v) a b c d < 0)/\DH (plV v) (hV v) a b c d≠0:=by
 have hs:Int.sign (crs (plV v a) (plV v b) (plV v c))=1:=Int.sign_eq_one_of_pos h1
 have n1:=Wi (P:=plV v) (a:=a) (b:=b) (c:=c) (by omega)
 have n2:=Wi (P:=plV v) (a:=a) (b:=b) (c:=d) (by omega)
 have ncd:c≠d:=fun e=>by subst e;omega
 have nab:¬ Bt (plV v a) (plV v b):=fun e=>n1.1 (hv.dist a b ha hb e)
 have nac:¬ Bt (plV v a) (plV v c):=fun e=>n1.2.2 (hv.dist a c ha hc e).symm
 have nad:¬ Bt (plV v a) (plV v d):=fun e=>n2.2.2 (hv.dist a d ha hd e).symm
 have nbc:¬ Bt (plV v b) (plV v c):=fun e=>n1.2.1 (hv.dist b c hb hc e)
 have nbd:¬ Bt (plV v b) (plV v d):=fun e=>n2.2.1 (hv.dist b d hb hd e)
 have ncd':¬ Bt (plV v c) (plV v d):=fun e=>ncd (hv.dist c d hc hd e)
 unfold legP
 rw[hs,Int.one_mul]
 rcases Int.lt_trichotomy (inC (plV v a) (plV v b) (plV v c) (plV v d)) 0 with g | g | g
 ·have:=Afo hv ha hb hc hd g
  rw[Int.sign_eq_neg_one_of_neg g]
  exact ⟨⟨fun _=>this,fun _=>.inl (by omega)⟩,by omega⟩
 ·rw[g,Int.sign_zero]
  have k1:0 < crs (plV v b) (plV v c) (plV v d):=by
   rcases Int.lt_or_le 0 (crs (plV v b) (plV v c) (plV v d)) with k | k
   ·exact k
   ·have:=Afh h1 h2 k;omega
  have k2:0 < crs (plV v c) (plV v a) (plV v d):=by
   rcases Int.lt_or_le 0 (crs (plV v c) (plV v a) (plV v d)) with k | k
   ·exact k
   ·have:=Ya h1 h2 k;omega
  have fa:=Tl hv ha hb hc hd g
  have fd:=Afp hv ha hb hc hd g
  have fb:=Tl hv hb hc ha hd (by rw[Adu];exact g)
  have fc:=Tl hv hc ha hb hd (by rw[<- Adu];exact g)
  rw[Pj] at fb
  rw[<- Pj] at fc
  have key:=Agd nab nac nad nbc nbd ncd'
  rcases key with ⟨b1,b2,b3⟩ | ⟨b1,b2,b3⟩ | ⟨b1,b2,b3⟩ | ⟨b1,b2,b3⟩
  ·have:=(fa b1 b2 b3).1 k1
   refine ⟨⟨fun h=>?_,fun h=>by omega⟩,by omega⟩
   rcases h with h | ⟨_,⟨h,_⟩ | ⟨h,_⟩⟩
   ·omega
   ·exact (Rl b2 h).elim
   ·exact (Rl b3 h).elim
  ·have:=(fb b1 b2 b3).1 k2
   refine ⟨⟨fun h=>?_,fun h=>by omega⟩,by omega⟩
   rcases h with h | ⟨_,⟨_,h⟩ | ⟨_,h⟩⟩
   ·omega
   ·exact (Rl b1 h).elim
   ·exact (Rl b3 h).elim
  ·have:=(fc b1 b2 b3).2 h2
   refine ⟨⟨fun h=>this,fun h=>.inr ⟨rfl,.inl ⟨b1,b2⟩⟩⟩,by omega⟩
  ·have:=fd b1 b2 b3 h1
   refine ⟨⟨fun h=>this,fun h=>.inr ⟨rfl,.inr ⟨b1,b2⟩⟩⟩,by omega⟩
 ·have:=Bbr hv ha hb hc hd g
  rw[Int.sign_eq_one_of_pos g]
  refine ⟨⟨fun h=>?_,fun h=>by omega⟩,by omega⟩
  omega
end Go.Proofs.YtjfndjmabhbicaaGreat
