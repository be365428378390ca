/- One more place, behind all that are there. -/
import Derived.Test.YtjfndjmabhbicaaGreatK8
import Derived.Test.YtjfndjmabhbicaaGreatD5
namespace Go.Proofs.YtjfndjmabhbicaaGreat
open Go Go.RowKit
variable {P:Int->Ac} {V S:Int->Prop} {ap ap':Ap} {R:Int->Int->Prop} {p:Int}
def Vis (P:Int->Ac) (R:Int->Int->Prop) (p x y:Int):Prop:=R x y/\0 < crs (P x) (P y) (P p)
def New (P:Int->Ac) (R:Int->Int->Prop) (p i j k:Int):Prop:=(Vis P R p i j/\k=p)\/(Vis P R p k i/\j=p)\/(Vis P R p j k/\i=p)
structure Adds (P:Int->Ac) (V S:Int->Prop) (ap:Ap) (R:Int->Int->Prop) (p:Int):Prop where
 tri:Tri P V ap
 used:∀ i j k,ap i j=some k->S i
 sv:∀ i,S i->V i
 vp:V p
 np:¬ S p
 before:∀ i,S i->befP (P i) (P p)
 behind:∀ i,V i->¬ S i->i≠p->befP (P p) (P i)
 r1:∀ x y,R x y->S x/\S y/\x≠y/\∀ d,S d->crs (P x) (P y) (P d)<=0
 r2:∀ x y,Vis P R p x y->∀ d,S d->d≠x->d≠y->crs (P x) (P y) (P d)=0->crs (P y) (P p) (P d) < 0\/crs (P p) (P x) (P d) < 0
 r3:∀ x y,Vis P R p x y->((∃ z,Vis P R p y z)\/∀ d,S d->0<=crs (P y) (P p) (P d))/\((∃ w,Vis P R p w x)\/∀ d,S d->0<=crs (P p) (P x) (P d))
 r4:∀ x y,R x y->ap x y=none
 r5:∀ x y,Vis P R p x y->ap y x≠none\/((∀ i j,ap i j=none)/\∀ d,S d->0<=crs (P x) (P y) (P d))
 r6:∀ i j k,ap i j=some k->ap j i=none->R j i
theorem New.rot {i j k:Int} (h:New P R p i j k):New P R p j k i:=by
 rcases h with h | h | h
 ·exact .inr (.inl h)
 ·exact .inr (.inr h)
 ·exact .inl h
theorem Au0 {x y p d:Ac} (h1:befP x p) (h2:befP y p) (h3:befP p d) (h4:0 < crs x y p):crs x y d < 0\/crs y p d < 0\/crs p x d < 0:=by
 by_cases c1:crs x y d < 0
 ·exact .inl c1
 by_cases c2:crs y p d < 0
 ·exact .inr (.inl c2)
 by_cases c3:crs p x d < 0
 ·exact .inr (.inr c3)
 exfalso
 have e1:crs y p d*(d.X-x.X)+crs p x d*(d.X-y.X)+crs x y d*(d.X-p.X)=0:=by unfold crs;grind
 have e2:crs y p d*(d.Y-x.Y)+crs p x d*(d.Y-y.Y)+crs x y d*(d.Y-p.Y)=0:=by unfold crs;grind
 have e3:=Ou x y p d
 have nn:∀ {u w:Int},0<=u->0<=w->0<=u*w:=fun h h'=>Int.mul_nonneg h h'
 have hx:x.X<=d.X/\y.X<=d.X/\p.X<=d.X:=by unfold befP at h1 h2 h3;omega
 have m1:=nn (show 0<=crs y p d by omega) (show 0<=d.X-x.X by omega)
 have m2:=nn (show 0<=crs p x d by omega) (show 0<=d.X-y.X by omega)
 have m3:=nn (show 0<=crs x y d by omega) (show 0<=d.X-p.X by omega)
 have z1:crs y p d*(d.X-x.X)=0:=by omega
 have z2:crs p x d*(d.X-y.X)=0:=by omega
 have z3:crs x y d*(d.X-p.X)=0:=by omega
 have key:∀ (w:Int) (q:Ac),0<=w->befP q d->w*(d.X-q.X)=0->0<=w*(d.Y-q.Y)/\(w*(d.Y-q.Y)=0->w=0):=by
  intro w q hw hq hz
  by_cases hw0:w=0
  ·subst hw0;simp
  ·rcases Int.mul_eq_zero.1 hz with h | h
   ·exact absurd h hw0
   ·have:0 < d.Y-q.Y:=by unfold befP at hq;omega
    have:=Int.mul_pos (show 0 < w by omega) this
    exact ⟨by omega,fun h=>by omega⟩
 obtain ⟨k1,k2⟩:=key _ x (by omega) (Hm h1 h3) z1
 obtain ⟨k3,k4⟩:=key _ y (by omega) (Hm h2 h3) z2
 obtain ⟨k5,k6⟩:=key _ p (by omega) h3 z3
 have q1:=k2 (by omega)
 have q2:=k4 (by omega)
 have q3:=k6 (by omega)
 omega
section
variable (h:Adds P V S ap R p)
include h
theorem Adds.uniq {x x' y:Int} (h1:Vis P R p x y) (h2:Vis P R p x' y):x=x':=by
 by_cases e:x=x'
 ·exact e
 exfalso
 obtain ⟨s1,s2,n1,f1⟩:=h.r1 x y h1.1
 obtain ⟨s3,_,n2,f2⟩:=h.r1 x' y h2.1
 have g1:=f1 x' s3
 have g2:=f2 x s1
 have e1:crs (P x') (P y) (P x) = -crs (P x) (P y) (P x'):=by unfold crs;grind
 have z:crs (P x) (P y) (P x')=0:=by omega
 have a1:=h.r2 x y h1 x' s3 (fun q=>e q.symm) n2 z
 have a2:=h.r2 x' y h2 x s1 e n1 (by omega)
 have v1:=h1.2
 have v2:=h2.2
 have e2:crs (P y) (P p) (P x)=crs (P x) (P y) (P p):=An _ _ _
 have e3:crs (P y) (P p) (P x')=crs (P x') (P y) (P p):=An _ _ _
 have e4:crs (P p) (P x') (P x) = -crs (P p) (P x) (P x'):=Bd _ _ _
 omega
theorem Adds.uniq2 {x y y':Int} (h1:Vis P R p x y) (h2:Vis P R p x y'):y=y':=by
 by_cases e:y=y'
 ·exact e
 exfalso
 obtain ⟨s1,s2,n1,f1⟩:=h.r1 x y h1.1
 obtain ⟨_,s3,n2,f2⟩:=h.r1 x y' h2.1
 have g1:=f1 y' s3
 have g2:=f2 y s2
 have e1:crs (P x) (P y') (P y) = -crs (P x) (P y) (P y'):=Bd _ _ _
 have z:crs (P x) (P y) (P y')=0:=by omega
 have a1:=h.r2 x y h1 y' s3 n2.symm (fun q=>e q.symm) z
 have a2:=h.r2 x y' h2 y s2 n1.symm e (by omega)
 have v1:=h1.2
 have v2:=h2.2
 have e2:crs (P p) (P x) (P y)=crs (P x) (P y) (P p):=by rw[<- An,<- An]
 have e3:crs (P p) (P x) (P y')=crs (P x) (P y') (P p):=by rw[<- An,<- An]
 have e4:crs (P y') (P p) (P y) = -crs (P y) (P p) (P y'):=by unfold crs;grind
 omega
theorem Adds.emp {x y:Int} (hv:Vis P R p x y) (d:Int) (hd:V d) (n1:d≠x) (n2:d≠y) (n3:d≠p):crs (P x) (P y) (P d) < 0\/crs (P y) (P p) (P d) < 0\/crs (P p) (P x) (P d) < 0:=by
 obtain ⟨s1,s2,_,f1⟩:=h.r1 x y hv.1
 by_cases hs:S d
 ·have:=f1 d hs
  by_cases c:crs (P x) (P y) (P d)=0
  ·exact .inr (h.r2 x y hv d hs n1 n2 c)
  ·exact .inl (by omega)
 ·exact Au0 (h.before x s1) (h.before y s2) (h.behind d hd hs n3) hv.2
theorem Adds.news {i j k:Int} (hn:New P R p i j k):(S i\/i=p)/\(S j\/j=p)/\(S k\/k=p):=by
 rcases hn with ⟨hv,rfl⟩ | ⟨hv,rfl⟩ | ⟨hv,rfl⟩
 ·obtain ⟨s1,s2,_⟩:=h.r1 _ _ hv.1
  exact ⟨.inl s1,.inl s2,.inr rfl⟩
 ·obtain ⟨s1,s2,_⟩:=h.r1 _ _ hv.1
  exact ⟨.inl s2,.inr rfl,.inl s1⟩
 ·obtain ⟨s1,s2,_⟩:=h.r1 _ _ hv.1
  exact ⟨.inr rfl,.inl s1,.inl s2⟩
theorem Adds.old {i j k:Int} (hk:ap i j=some k):S i/\S j/\S k:=⟨h.used _ _ _ hk,h.used _ _ _ (h.tri.rot _ _ _ hk),h.used _ _ _ (h.tri.rot2 hk)⟩
variable (hA:∀ i j k,ap' i j=some k↔ap i j=some k\/New P R p i j k)
include hA
theorem Adds.nbrs {s m:Int} (hm:ap' s m≠none\/ap' m s≠none):(S s/\S m/\((ap s m≠none\/ap m s≠none)\/∀ i j,ap i j=none))\/(m=p/\S s/\((∃ y,Vis P R p s y)\/∃ x,Vis P R p x s))\/(s=p/\S m/\((∃ y,Vis P R p m y)\/∃ x,Vis P R p x m)):=by
 have key:∀ a b,ap' a b≠none->(S a/\S b/\((ap a b≠none\/ap b a≠none)\/∀ i j,ap i j=none))\/(b=p/\S a/\((∃ y,Vis P R p a y)\/∃ x,Vis P R p x a))\/(a=p/\S b/\((∃ y,Vis P R p b y)\/∃ x,Vis P R p x b)):=by
  intro a b hab
  obtain ⟨c,hc⟩:=Option.ne_none_iff_exists'.1 hab
  rcases (hA a b c).1 hc with g | ⟨hv,rfl⟩ | ⟨hv,rfl⟩ | ⟨hv,rfl⟩
  ·exact .inl ⟨(h.old g).1,(h.old g).2.1,.inl (.inl (by rw[g];simp))⟩
  ·obtain ⟨s1,s2,_⟩:=h.r1 _ _ hv.1
   rcases h.r5 _ _ hv with g | ⟨g,_⟩
   ·exact .inl ⟨s1,s2,.inl (.inr g)⟩
   ·exact .inl ⟨s1,s2,.inr g⟩
  ·exact .inr (.inl ⟨rfl,(h.r1 _ _ hv.1).2.1,.inr ⟨_,hv⟩⟩)
  ·exact .inr (.inr ⟨rfl,(h.r1 _ _ hv.1).1,.inl ⟨_,hv⟩⟩)
 rcases hm with hm | hm
 ·exact key s m hm
 ·rcases key m s hm with ⟨g1,g2,g3 | g3⟩ | ⟨g1,g2,g3⟩ | ⟨g1,g2,g3⟩
  ·exact .inl ⟨g2,g1,.inl g3.symm⟩
  ·exact .inl ⟨g2,g1,.inr g3⟩
  ·exact .inr (.inr ⟨g1,g2,g3⟩)
  ·exact .inr (.inl ⟨g1,g2,g3⟩)
theorem Adds.tri':Tri P V ap':=by
 have rot':∀ i j k,ap' i j=some k->ap' j k=some i:=fun i j k hk=>by
  rcases (hA i j k).1 hk with g | g
  ·exact (hA _ _ _).2 (.inl (h.tri.rot _ _ _ g))
  ·exact (hA _ _ _).2 (.inr g.rot)
 have e1:∀ x y:Int,crs (P y) (P p) (P x)=crs (P x) (P y) (P p):=fun x y=>An _ _ _
 have e2:∀ x y:Int,crs (P p) (P x) (P y)=crs (P x) (P y) (P p):=fun x y=>by rw[<- An,<- An]
 refine ⟨rot',fun i j k hk=>?_,fun i j k hk d hd n1 n2 n3=>?_,fun s a b m hs hm=>?_⟩
 ·rcases (hA i j k).1 hk with g | ⟨hv,rfl⟩ | ⟨hv,rfl⟩ | ⟨hv,rfl⟩
  ·exact h.tri.ccw _ _ _ g
  ·obtain ⟨s1,s2,_⟩:=h.r1 _ _ hv.1
   exact ⟨h.sv _ s1,h.sv _ s2,h.vp,hv.2⟩
  ·obtain ⟨s1,s2,_⟩:=h.r1 _ _ hv.1
   exact ⟨h.sv _ s2,h.vp,h.sv _ s1,by rw[e1];exact hv.2⟩
  ·obtain ⟨s1,s2,_⟩:=h.r1 _ _ hv.1
   exact ⟨h.vp,h.sv _ s1,h.sv _ s2,by rw[e2];exact hv.2⟩
 ·rcases (hA i j k).1 hk with g | ⟨hv,rfl⟩ | ⟨hv,rfl⟩ | ⟨hv,rfl⟩
  ·exact h.tri.emp _ _ _ g d hd n1 n2 n3
  ·exact h.emp hv d hd n1 n2 n3
  ·rcases h.emp hv d hd n3 n1 n2 with g | g | g <;> simp[g]
  ·rcases h.emp hv d hd n2 n3 n1 with g | g | g <;> simp[g]
 ·rintro ⟨g1,g2⟩
  have hn:=h.nbrs hA hm
  rcases (hA s a b).1 hs with g | ⟨hv,rfl⟩ | ⟨hv,rfl⟩ | ⟨hv,rfl⟩
  ·-- an old triangle
   obtain ⟨ss,sa,sb⟩:=h.old g
   obtain ⟨_,_,_,cab⟩:=h.tri.ccw _ _ _ g
   rcases hn with ⟨_,_,hn | hn⟩ | ⟨rfl,_,hn⟩ | ⟨rfl,_,_⟩
   ·exact h.tri.cone s a b m g hn ⟨g1,g2⟩
   ·rw[hn] at g;cases g
   ·rcases hn with ⟨y,hv⟩ | ⟨x,hv⟩
    ·obtain ⟨_,_,_,f⟩:=h.r1 _ _ hv.1
     have h1:=f a sa
     have h2:=f b sb
     have h3:=hv.2
     have hp:=Rw (P s) (P a) (P b) (P y) (P m)
     rw[Bd (P s) (P m) (P b),Bd (P s) (P y) (P a),Bd (P s) (P y) (P b)] at hp
     have t1:=Int.mul_pos cab h3
     have t2:=Int.mul_nonneg (show 0<=-crs (P s) (P y) (P a) by omega) (Int.le_of_lt g2)
     have t3:=Int.mul_nonneg (Int.le_of_lt g1) (show 0<=-crs (P s) (P y) (P b) by omega)
     rw[Int.mul_neg] at hp
     omega
    ·obtain ⟨_,_,_,f⟩:=h.r1 _ _ hv.1
     have h1:=f a sa
     have h2:=f b sb
     have h3:=hv.2
     have q:∀ d,crs (P x) (P s) (P d)=crs (P s) (P d) (P x):=fun d=>(An _ _ _).symm
     rw[q] at h1 h2 h3
     have hp:=Rw (P s) (P a) (P b) (P m) (P x)
     rw[Bd (P s) (P m) (P b)] at hp
     have t1:=Int.mul_pos cab h3
     have t2:=Int.mul_nonneg (Int.le_of_lt g1) (show 0<=-crs (P s) (P b) (P x) by omega)
     have t3:=Int.mul_nonneg (show 0<=-crs (P s) (P a) (P x) by omega) (Int.le_of_lt g2)
     have t4:crs (P s) (P a) (P x) * -crs (P s) (P m) (P b) = -crs (P s) (P a) (P x)*crs (P s) (P m) (P b):=by grind
     have t5:crs (P s) (P a) (P m) * -crs (P s) (P b) (P x) = -(crs (P s) (P a) (P m)*crs (P s) (P b) (P x)):=Int.mul_neg _ _
     omega
   ·exact h.np ss
  ·-- at x,from y to the new place
   obtain ⟨s1,s2,_,f⟩:=h.r1 _ _ hv.1
   rcases hn with ⟨_,sm,_⟩ | ⟨rfl,_,_⟩ | ⟨rfl,_,_⟩
   ·have:=f m sm;omega
   ·rw[Bi] at g2;omega
   ·exact h.np s1
  ·-- at y,from the new place to x
   obtain ⟨s1,s2,_,f⟩:=h.r1 _ _ hv.1
   rcases hn with ⟨_,sm,_⟩ | ⟨rfl,_,_⟩ | ⟨rfl,_,_⟩
   ·have:=f m sm
    rw[An] at g2
    omega
   ·rw[Bi] at g1;omega
   ·exact h.np s2
  ·-- at the new place
   obtain ⟨s1,s2,_,f⟩:=h.r1 _ _ hv.1
   rcases hn with ⟨ss,_,_⟩ | ⟨rfl,ss,_⟩ | ⟨_,sm,hn⟩
   ·exact h.np ss
   ·exact h.np ss
   ·obtain ⟨u,w,hu,hm0⟩:∃ u w:Int,Vis P R s u w/\crs (P u) (P w) (P m)=0:=by
     rcases hn with ⟨y,hy⟩ | ⟨x,hx⟩
     ·exact ⟨m,y,hy,Bp _ _⟩
     ·exact ⟨x,m,hx,Bi _ _⟩
    obtain ⟨_,_,_,fu⟩:=h.r1 _ _ hu.1
    have q1:=fu a s1
    have q2:=fu b s2
    have q3:=hu.2
    have q4:=f m sm
    have hi:=Air (P s) (P a) (P b) (P u) (P w) (P m)
    rw[hm0,Int.mul_zero] at hi
    have r1:crs (P b) (P s) (P m)=crs (P s) (P m) (P b):=by rw[<- An]
    rw[r1] at hi
    have t1:=Int.mul_nonneg (show 0<=-crs (P a) (P b) (P m) by omega) (Int.le_of_lt q3)
    have t2:=Int.mul_nonneg (Int.le_of_lt g2) (show 0<=-crs (P u) (P w) (P a) by omega)
    have t3:=Int.mul_nonneg (Int.le_of_lt g1) (show 0<=-crs (P u) (P w) (P b) by omega)
    rw[Int.neg_mul] at t1
    rw[Int.mul_neg] at t2 t3
    have z:crs (P a) (P b) (P m)*crs (P u) (P w) (P s)=0:=by omega
    have z2:crs (P a) (P b) (P m)=0:=by
     rcases Int.mul_eq_zero.1 z with g | g
     ·exact g
     ·omega
    have hne:m≠a/\m≠b:=by
     refine ⟨fun e=>?_,fun e=>?_⟩
     ·subst e;rw[Bi] at g1;omega
     ·subst e;rw[Bi] at g2;omega
    rcases h.r2 a b hv m sm hne.1 hne.2 z2 with g | g
    ·rw[r1] at g;omega
    ·omega
theorem Adds.cov' (hc:Cov P S ap):Cov P (fun i=>S i\/i=p) ap':=by
 intro i j k hk hn d hd
 have hn':ap j i=none/\∀ x,¬ New P R p j i x:=by
  refine ⟨?_,fun x hx=>?_⟩
  ·rcases e:ap j i with _ | x
   ·rfl
   ·rw[(hA j i x).2 (.inl e)] at hn;cases hn
  ·rw[(hA j i x).2 (.inr hx)] at hn;cases hn
 rcases (hA i j k).1 hk with g | ⟨hv,rfl⟩ | ⟨hv,rfl⟩ | ⟨hv,rfl⟩
 ·rcases hd with hd | rfl
  ·exact hc _ _ _ g hn'.1 d hd
  ·have hr:=h.r6 _ _ _ g hn'.1
   have:¬ 0 < crs (P j) (P i) (P d):=fun hp=>hn'.2 d (.inl ⟨⟨hr,hp⟩,rfl⟩)
   rw[Ax] at this
   omega
 ·rcases hd with hd | rfl
  ·rcases h.r5 _ _ hv with q | ⟨_,q⟩
   ·exact absurd hn'.1 q
   ·exact q d hd
  ·exact Int.le_of_lt hv.2
 ·rcases hd with hd | rfl
  ·rcases (h.r3 _ _ hv).1 with ⟨z,hz⟩ | q
   ·exact absurd (.inr (.inr ⟨hz,rfl⟩)) (hn'.2 z)
   ·exact q d hd
  ·rw[Bi];exact Int.le_refl _
 ·rcases hd with hd | rfl
  ·rcases (h.r3 _ _ hv).2 with ⟨z,hz⟩ | q
   ·exact absurd (.inr (.inl ⟨hz,rfl⟩)) (hn'.2 z)
   ·exact q d hd
  ·rw[Bp];exact Int.le_refl _
theorem Adds.used':∀ i j k,ap' i j=some k->S i\/i=p:=by
 intro i j k hk
 rcases (hA i j k).1 hk with g | g
 ·exact .inl (h.used _ _ _ g)
 ·exact (h.news g).1
end
theorem Dh {α:Type} [DecidableEq α]:∀ {l m:List α},l.Nodup->(∀ x∈l,x∈m)->l.length<=m.length
 | [],_,_,_=>Nat.zero_le _
 | x::r,m,hd,hs=>by
  rw[List.nodup_cons] at hd
  have hx:=hs x List.mem_cons_self
  have:=Dh (l:=r) (m:=m.erase x) hd.2 fun y hy=>(List.mem_erase_of_ne (fun e=>hd.1 (by rw[<- e];exact hy))).2 (hs y (List.mem_cons_of_mem _ hy))
  rw[List.length_erase_of_mem hx] at this
  have:0 < m.length:=List.length_pos_of_mem hx
  simp only[List.length_cons]
  omega
theorem Ok {n:Nat}:(inds n).Nodup:=by
 unfold inds List.Nodup
 rw[List.pairwise_map]
 exact List.nodup_range.imp fun h e=>h (by omega)
variable {P:Int->Ac} {S:Int->Prop} {ap:Ap} {p:Int} {n:Nat}
def Rim (ap:Ap) (x y:Int):Prop:=(∃ k,ap y x=some k)/\ap x y=none
def outs (ap:Ap) (n:Nat) (s:Int):List Int:=(inds n).filter fun m=>(ap s m).isSome
def ins (ap:Ap) (n:Nat) (s:Int):List Int:=(inds n).filter fun m=>(ap m s).isSome
theorem Sw {V:Int->Prop} (h:Tri P V ap) (hV:∀ i,V i↔inN n i) {s m:Int}:m∈outs ap n s↔∃ k,ap s m=some k:=by
 unfold outs
 rw[List.mem_filter,Le,Option.isSome_iff_exists]
 exact ⟨fun h=>h.2,fun ⟨k,hk⟩=>⟨(hV _).1 (h.ccw _ _ _ hk).2.1,k,hk⟩⟩
theorem Vu {V:Int->Prop} (h:Tri P V ap) (hV:∀ i,V i↔inN n i) {s m:Int}:m∈ins ap n s↔∃ k,ap m s=some k:=by
 unfold ins
 rw[List.mem_filter,Le,Option.isSome_iff_exists]
 exact ⟨fun h=>h.2,fun ⟨k,hk⟩=>⟨(hV _).1 (h.ccw _ _ _ hk).1,k,hk⟩⟩
theorem Qn {α β:Type} {f:α->β}:∀ {l:List α},(∀ x∈l,∀ y∈l,f x=f y->x=y)->l.Nodup->(l.map f).Nodup
 | [],_,_=>List.Pairwise.nil
 | a::r,hf,hd=>by
  rw[List.nodup_cons] at hd
  rw[List.map_cons,List.nodup_cons]
  refine ⟨fun hm=>?_,Qn (fun x hx y hy=>hf x (List.mem_cons_of_mem _ hx) y (List.mem_cons_of_mem _ hy)) hd.2⟩
  obtain ⟨b,hb,e⟩:=List.mem_map.1 hm
  exact hd.1 (by rw[<- hf b (List.mem_cons_of_mem _ hb) a List.mem_cons_self e];exact hb)
theorem deg {V:Int->Prop} (h:Tri P V ap) (hV:∀ i,V i↔inN n i) (s:Int):(ins ap n s).length=(outs ap n s).length:=by
 apply Nat.le_antisymm
 ·have h1:((ins ap n s).map fun m=>(ap m s).getD 0).Nodup:=Qn (fun x hx y hy e=>by
   obtain ⟨k,hk⟩:=(Vu h hV).1 hx
   obtain ⟨k',hk'⟩:=(Vu h hV).1 hy
   rw[hk,hk'] at e
   simp only[Option.getD_some] at e
   subst e
   have e1:=h.rot _ _ _ hk
   have e2:=h.rot _ _ _ hk'
   rw[e1] at e2
   exact Option.some.inj e2) (Ok.filter _)
  have:=Dh (m:=outs ap n s) h1 fun w hw=>by
   obtain ⟨m,hm,rfl⟩:=List.mem_map.1 hw
   obtain ⟨k,hk⟩:=(Vu h hV).1 hm
   rw[hk]
   exact (Sw h hV).2 ⟨m,h.rot _ _ _ hk⟩
  rw[List.length_map] at this
  exact this
 ·have h1:((outs ap n s).map fun m=>(ap s m).getD 0).Nodup:=Qn (fun x hx y hy e=>by
   obtain ⟨k,hk⟩:=(Sw h hV).1 hx
   obtain ⟨k',hk'⟩:=(Sw h hV).1 hy
   rw[hk,hk'] at e
   simp only[Option.getD_some] at e
   subst e
   have e1:=h.rot2 hk
   have e2:=h.rot2 hk'
   rw[e1] at e2
   exact Option.some.inj e2) (Ok.filter _)
  have:=Dh (m:=ins ap n s) h1 fun w hw=>by
   obtain ⟨m,hm,rfl⟩:=List.mem_map.1 hw
   obtain ⟨k,hk⟩:=(Sw h hV).1 hm
   rw[hk]
   exact (Vu h hV).2 ⟨m,h.rot2 hk⟩
  rw[List.length_map] at this
  exact this
theorem Art {V:Int->Prop} (h:Tri P V ap) (hV:∀ i,V i↔inN n i) {x y:Int} (hr:Rim ap x y):∃ z,Rim ap y z:=by
 obtain ⟨⟨k,hk⟩,hn⟩:=hr
 apply Classical.byContradiction
 intro hno
 have hd:=deg h hV y
 have hx:x∈outs ap n y:=(Sw h hV).2 ⟨k,hk⟩
 have:=Dh (l:=ins ap n y) (m:=(outs ap n y).erase x) (Ok.filter _) fun z hz=>by
  obtain ⟨w,hw⟩:=(Vu h hV).1 hz
  have hzx:z≠x:=fun e=>by subst e;rw[hw] at hn;cases hn
  rw[List.mem_erase_of_ne hzx,Sw h hV]
  rcases e:ap y z with _ | u
  ·exact absurd ⟨z,⟨w,hw⟩,e⟩ hno
  ·exact ⟨u,rfl⟩
 rw[List.length_erase_of_mem hx] at this
 have:0 < (outs ap n y).length:=List.length_pos_of_mem hx
 omega
theorem Aru {V:Int->Prop} (h:Tri P V ap) (hV:∀ i,V i↔inN n i) {x y:Int} (hr:Rim ap x y):∃ w,Rim ap w x:=by
 obtain ⟨⟨k,hk⟩,hn⟩:=hr
 apply Classical.byContradiction
 intro hno
 have hd:=deg h hV x
 have hx:y∈ins ap n x:=(Vu h hV).2 ⟨k,hk⟩
 have:=Dh (l:=outs ap n x) (m:=(ins ap n x).erase y) (Ok.filter _) fun z hz=>by
  obtain ⟨w,hw⟩:=(Sw h hV).1 hz
  have hzx:z≠y:=fun e=>by subst e;rw[hw] at hn;cases hn
  rw[List.mem_erase_of_ne hzx,Vu h hV]
  rcases e:ap z x with _ | u
  ·exact absurd ⟨z,⟨w,hw⟩,e⟩ hno
  ·exact ⟨u,rfl⟩
 rw[List.length_erase_of_mem hx] at this
 have:0 < (ins ap n x).length:=List.length_pos_of_mem hx
 omega
theorem Au1 {x y z q d k k':Ac} (h1:crs x y d<=0) (h2:crs y z d<=0) (h3:0 < crs x y q) (h4:crs y z q<=0) (h5:crs x y z<=0) (h6:crs x y k < 0) (h7:crs y z k<=0) (h8:crs y z k' < 0):0<=crs y q d:=by
 have r:∀ u,crs x y u=crs y u x:=fun u=>(An _ _ _).symm
 rw[r] at h1 h3 h5 h6
 have hp:=Rw y q d x z
 rw[Bd y z q,Bd y z d,Bd y z x] at hp
 by_cases c:crs y z x=0
 ·exfalso
  have p1:=Rw y x z q k
  rw[Bd y z x,Bd y q x,Bd y k x,c] at p1
  have t1:=Int.mul_nonneg (show 0<=-crs y k x by omega) (show 0<=-crs y z q by omega)
  have t2:=Int.mul_nonneg (Int.le_of_lt h3) (show 0<=-crs y z k by omega)
  have e1:-crs y k x*crs y z q = -(-crs y k x * -crs y z q):=by grind
  have e2:-crs y q x*crs y z k=crs y q x * -crs y z k:=by grind
  have z1:crs y q x * -crs y z k=0:=by omega
  have z2:crs y z k=0:=by
   rcases Int.mul_eq_zero.1 z1 with g | g <;> omega
  have p2:=Rw y z k' x k
  rw[c,z2,Bd y k x] at p2
  have t3:=Int.mul_pos_of_neg_of_neg h8 h6
  have e3:crs y z k' * -crs y k x = -(crs y z k' * crs y k x):=Int.mul_neg _ _
  omega
 ·have c':0 < -crs y z x:=by
   have:crs y z x<=0:=h5
   omega
  have t1:=Int.mul_nonneg (Int.le_of_lt h3) (show 0<=-crs y z d by omega)
  have t2:=Int.mul_nonneg (show 0<=-crs y z q by omega) (show 0<=-crs y d x by omega)
  have e2:-crs y z q * -crs y d x = -(-crs y z q*crs y d x):=by grind
  exact Na (x:=-crs y z x) (by rw[Int.mul_comm];omega) c'
theorem Arv {x y w q d k k':Ac} (h1:crs x y d<=0) (h2:crs w x d<=0) (h3:0 < crs x y q) (h4:crs w x q<=0) (h5:crs x y w<=0) (h6:crs x y k < 0) (h7:crs w x k<=0) (h8:crs w x k' < 0):0<=crs q x d:=by
 have r:∀ u,crs w x u=crs x u w:=fun u=>(An _ _ _).symm
 rw[r] at h2 h4 h7 h8
 rw[show crs q x d = -crs x q d from Ax _ _ _]
 have hp:=Rw x q d y w
 rw[Bd x y q,Bd x y d] at hp
 by_cases c:crs x y w=0
 ·exfalso
  have p1:=Rw x y w q k
  rw[c,Bd x q w,Bd x k w] at p1
  have t1:=Int.mul_nonneg (Int.le_of_lt h3) (show 0<=-crs x k w by omega)
  have t2:=Int.mul_nonneg (show 0<=-crs x y k by omega) (show 0<=-crs x q w by omega)
  have e2:crs x y k * -crs x q w = -(-crs x y k * -crs x q w):=by grind
  have z1:crs x y q * -crs x k w=0:=by omega
  have z2:crs x k w=0:=by
   rcases Int.mul_eq_zero.1 z1 with g | g <;> omega
  have p2:=Rw x y w k k'
  rw[c,Bd x k w,Bd x k' w,z2] at p2
  have t3:=Int.mul_pos_of_neg_of_neg h6 h8
  have e3:crs x y k * -crs x k' w = -(crs x y k*crs x k' w):=Int.mul_neg _ _
  omega
 ·have c':0 < -crs x y w:=by omega
  have t1:=Int.mul_nonneg (Int.le_of_lt h3) (show 0<=-crs x d w by omega)
  have t2:=Int.mul_nonneg (show 0<=-crs x y d by omega) (show 0<=-crs x q w by omega)
  have e2:-crs x y d * -crs x q w = -(crs x q w * -crs x y d):=by grind
  have e3:-crs x y q*crs x d w=crs x y q * -crs x d w:=by grind
  refine Na (x:=-crs x y w) ?_ c'
  have e4:-crs x y w * -crs x q d=crs x q d*crs x y w:=by grind
  rw[e4]
  omega
theorem Arw (h:Tri P (inN n) ap) (hc:Cov P S ap) (used:∀ i j k,ap i j=some k->S i) (sv:∀ i,S i->inN n i) (vp:inN n p) (np:¬ S p) (before:∀ i,S i->befP (P i) (P p)) (behind:∀ i,inN n i->¬ S i->i≠p->befP (P p) (P i)):Adds P (inN n) S ap (Rim ap) p:=by
 have old:∀ {i j k},ap i j=some k->S i/\S j/\S k:=fun hk=>⟨used _ _ _ hk,used _ _ _ (h.rot _ _ _ hk),used _ _ _ (h.rot2 hk)⟩
 have r1:∀ x y,Rim ap x y->S x/\S y/\x≠y/\∀ d,S d->crs (P x) (P y) (P d)<=0:=by
  rintro x y ⟨⟨k,hk⟩,hn⟩
  refine ⟨(old hk).2.1,(old hk).1,(h.ne hk).1.symm,fun d hd=>?_⟩
  have:=hc _ _ _ hk hn d hd
  rw[Ax] at this
  omega
 have far:∀ x y,Rim ap x y->∃ k,S k/\crs (P x) (P y) (P k) < 0:=by
  rintro x y ⟨⟨k,hk⟩,hn⟩
  refine ⟨k,(old hk).2.2,?_⟩
  have:=(h.ccw _ _ _ hk).2.2.2
  rw[Ax] at this
  omega
 refine ⟨h,used,sv,vp,np,before,behind,r1,?_,?_,fun x y hr=>hr.2,?_,fun i j k hk hn=>⟨⟨k,hk⟩,hn⟩⟩
 ·rintro x y ⟨⟨⟨k,hk⟩,hn⟩,hp⟩ d hd n1 n2 z
  have ck:=(h.ccw _ _ _ hk).2.2.2
  have nk:d≠k:=fun e=>by subst e;rw[Ax,z] at ck;omega
  have q1:=Rw (P x) (P k) (P d) (P y) (P p)
  have e1:crs (P x) (P d) (P y)=0:=by rw[Bd,z];rfl
  have e2:crs (P x) (P k) (P y)=crs (P y) (P x) (P k):=An _ _ _
  have e3:crs (P x) (P d) (P p)=crs (P p) (P x) (P d):=An _ _ _
  rw[e1,e2,e3,Int.mul_zero] at q1
  have q2:=Rw (P y) (P d) (P k) (P x) (P p)
  have f1:crs (P y) (P d) (P x)=0:=by rw[An,z]
  have f2:crs (P y) (P k) (P x) = -crs (P y) (P x) (P k):=Bd _ _ _
  have f3:crs (P y) (P x) (P p) = -crs (P x) (P y) (P p):=Ax _ _ _
  have f4:crs (P y) (P d) (P p) = -crs (P y) (P p) (P d):=Bd _ _ _
  have f5:crs (P y) (P d) (P k)=crs (P k) (P y) (P d):=An _ _ _
  rw[f1,f2,f3,f4,f5,Int.zero_mul] at q2
  rcases h.emp _ _ _ hk d (sv d hd) n2 n1 nk with g | g | g
  ·rw[Ax,z] at g;omega
  ·right
   rcases Int.lt_or_le (crs (P p) (P x) (P d)) 0 with c | c
   ·exact c
   ·have t1:=Int.mul_neg_of_neg_of_pos g hp
    have t2:=Int.mul_nonneg (Int.le_of_lt ck) c
    omega
  ·left
   rcases Int.lt_or_le (crs (P y) (P p) (P d)) 0 with c | c
   ·exact c
   ·have t1:=Int.mul_neg_of_neg_of_pos g hp
    have t2:=Int.mul_nonneg c (Int.le_of_lt ck)
    have e4:crs (P k) (P y) (P d) * -crs (P x) (P y) (P p) = -(crs (P k) (P y) (P d)*crs (P x) (P y) (P p)):=Int.mul_neg _ _
    have e5:-crs (P y) (P p) (P d) * -crs (P y) (P x) (P k)=crs (P y) (P p) (P d)*crs (P y) (P x) (P k):=Int.neg_mul_neg _ _
    omega
 ·rintro x y ⟨hr,hp⟩
  obtain ⟨s1,s2,_,f⟩:=r1 x y hr
  obtain ⟨k,sk,hk⟩:=far x y hr
  constructor
  ·obtain ⟨z,hz⟩:=Art h (fun _=>Iff.rfl) hr
   obtain ⟨_,sz,_,fz⟩:=r1 y z hz
   obtain ⟨k',sk',hk'⟩:=far y z hz
   by_cases c:0 < crs (P y) (P z) (P p)
   ·exact .inl ⟨z,hz,c⟩
   ·exact .inr fun d hd=>Au1 (f d hd) (fz d hd) hp (by omega) (f z sz) hk (fz k sk) hk'
  ·obtain ⟨w,hw⟩:=Aru h (fun _=>Iff.rfl) hr
   obtain ⟨sw,_,_,fw⟩:=r1 w x hw
   obtain ⟨k',sk',hk'⟩:=far w x hw
   by_cases c:0 < crs (P w) (P x) (P p)
   ·exact .inl ⟨w,hw,c⟩
   ·exact .inr fun d hd=>Arv (f d hd) (fw d hd) hp (by omega) (f w sw) hk (fw k sk) hk'
 ·rintro x y ⟨⟨⟨k,hk⟩,hn⟩,hp⟩
  exact .inl (by rw[hk];simp)
variable {P:Int->Ac} {S:Int->Prop} {ap:Ap} {p:Int} {n:Nat}
theorem Apb {V:Int->Prop} (h:∀ i j,ap i j=none):Tri P V ap :=
 ⟨fun i j k hk=>(by rw[h] at hk;cases hk),fun i j k hk=>(by rw[h] at hk;cases hk),fun i j k hk=>(by rw[h] at hk;cases hk),fun s a b m hk=>(by rw[h] at hk;cases hk)⟩
def Ajh (u:Nat->Int) (m:Nat) (x y:Int):Prop:=∃ i,i+1 < m/\x=u i/\y=u (i+1)
theorem Ad9 {u:Nat->Int} {m:Nat} (he:∀ i j,ap i j=none) (hS:∀ i,S i↔∃ k,k < m/\i=u k) (col:∀ a b c,S a->S b->S c->crs (P a) (P b) (P c)=0) (inc:∀ i,i+1 < m->0 < crs (P (u i)) (P (u (i+1))) (P p))
  (sv:∀ i,S i->inN n i) (vp:inN n p) (np:¬ S p) (before:∀ i,S i->befP (P i) (P p)) (behind:∀ i,inN n i->¬ S i->i≠p->befP (P p) (P i)):Adds P (inN n) S ap (Ajh u m) p:=by
 have su:∀ k,k < m->S (u k):=fun k hk=>(hS _).2 ⟨k,hk,rfl⟩
 have hg:∀ a b,S a->S b->0 < m->crs (P a) (P b) (P p)=crs (P (u 0)) (P b) (P p)-crs (P (u 0)) (P a) (P p):=fun a b ha hb hm=>by
  have e:=Ou (P (u 0)) (P a) (P b) (P p)
  rw[col _ _ _ (su 0 hm) ha hb] at e
  have e2:crs (P b) (P (u 0)) (P p) = -crs (P (u 0)) (P b) (P p):=Ax _ _ _
  omega
 have mono:∀ i j,i < j->j < m->crs (P (u 0)) (P (u i)) (P p) < crs (P (u 0)) (P (u j)) (P p):=by
  intro i j hij
  induction j with
  | zero=>omega
  | succ j ih=>
   intro hj
   have h1:=inc j hj
   rw[hg _ _ (su j (by omega)) (su (j+1) hj) (by omega)] at h1
   by_cases e:i=j
   ·subst e;omega
   ·have:=ih (by omega) (by omega);omega
 refine ⟨Apb he,fun i j k hk=>(by rw[he] at hk;cases hk),sv,vp,np,before,behind,?_,?_,?_,fun x y _=>he x y,?_,fun i j k hk=>(by rw[he] at hk;cases hk)⟩
 ·rintro x y ⟨i,hi,rfl,rfl⟩
  refine ⟨su i (by omega),su (i+1) hi,?_,fun d hd=>by rw[col _ _ _ (su i (by omega)) (su (i+1) hi) hd];exact Int.le_refl _⟩
  exact (Wi (P:=P) (c:=p) (by have:=inc i hi;omega)).1
 ·rintro x y ⟨⟨i,hi,rfl,rfl⟩,hp⟩ d hd n1 n2 _
  obtain ⟨j,hj,rfl⟩:=(hS d).1 hd
  have e1:crs (P (u (i+1))) (P p) (P (u j))=crs (P (u j)) (P (u (i+1))) (P p):=An _ _ _
  have e2:crs (P p) (P (u i)) (P (u j))=crs (P (u i)) (P (u j)) (P p):=by rw[<- An,<- An]
  rw[e1,e2,hg _ _ hd (su (i+1) hi) (by omega),hg _ _ (su i (by omega)) hd (by omega)]
  have nij:j≠i:=fun e=>n1 (by rw[e])
  have nij':j≠i+1:=fun e=>n2 (by rw[e])
  rcases Nat.lt_or_ge j i with c | c
  ·have:=mono j i c (by omega);right;omega
  ·have:=mono (i+1) j (by omega) hj;left;omega
 ·rintro x y ⟨⟨i,hi,rfl,rfl⟩,hp⟩
  constructor
  ·by_cases c:i+2 < m
   ·exact .inl ⟨u (i+2),⟨i+1,c,rfl,rfl⟩,inc (i+1) c⟩
   ·right
    intro d hd
    obtain ⟨j,hj,rfl⟩:=(hS d).1 hd
    have e1:crs (P (u (i+1))) (P p) (P (u j))=crs (P (u j)) (P (u (i+1))) (P p):=An _ _ _
    rw[e1,hg _ _ hd (su (i+1) hi) (by omega)]
    by_cases e:j=i+1
    ·subst e;omega
    ·have:=mono j (i+1) (by omega) hi;omega
  ·by_cases c:0 < i
   ·left
    obtain ⟨i',rfl⟩:∃ i',i=i' + 1:=⟨i-1,by omega⟩
    exact ⟨u i',⟨i',by omega,rfl,rfl⟩,inc i' (by omega)⟩
   ·right
    intro d hd
    obtain ⟨j,hj,rfl⟩:=(hS d).1 hd
    have e2:crs (P p) (P (u i)) (P (u j))=crs (P (u i)) (P (u j)) (P p):=by rw[<- An,<- An]
    rw[e2,hg _ _ (su i (by omega)) hd (by omega)]
    by_cases e:j=i
    ·subst e;omega
    ·have:=mono i j (by omega) hj;omega
 ·rintro x y ⟨⟨i,hi,rfl,rfl⟩,hp⟩
  exact .inr ⟨he,fun d hd=>by rw[col _ _ _ (su i (by omega)) (su (i+1) hi) hd];exact Int.le_refl _⟩
theorem Apc {a b c q:Ac} (h1:befP a b) (h2:befP b c) (h0:crs a b c=0) (hq:0 < crs a b q):0 < crs b c q:=by
 have e1:crs b c q*(b.X-a.X)=crs a b q*(c.X-b.X)-(q.X-b.X)*crs a b c:=by unfold crs;grind
 have e2:crs b c q*(b.Y-a.Y)=crs a b q*(c.Y-b.Y)-(q.Y-b.Y)*crs a b c:=by unfold crs;grind
 have e3:(b.X-a.X)*(c.Y-b.Y)-(b.Y-a.Y)*(c.X-b.X)=crs a b c:=by unfold crs;grind
 rw[h0,Int.mul_zero,Int.sub_zero] at e1 e2
 rw[h0] at e3
 by_cases g:a.X < b.X
 ·-- then c lies further to the right
  have hc:b.X < c.X:=by
   rcases Int.lt_or_le b.X c.X with k | k
   ·exact k
   ·have hx:c.X=b.X:=by unfold befP at h2;omega
    have hy:b.Y < c.Y:=by unfold befP at h2;omega
    have z:c.X-b.X=0:=by omega
    rw[z,Int.mul_zero] at e3
    have:=Int.mul_pos (show 0 < b.X-a.X by omega) (show 0 < c.Y-b.Y by omega)
    omega
  have:=Int.mul_pos hq (show 0 < c.X-b.X by omega)
  exact Ce (x:=b.X-a.X) (by rw[Int.mul_comm];omega) (by omega)
 ·have hx:a.X=b.X:=by unfold befP at h1;omega
  have hy:a.Y < b.Y:=by unfold befP at h1;omega
  have hc:b.X=c.X:=by
   have z:b.X-a.X=0:=by omega
   rw[z,Int.zero_mul] at e3
   have:(b.Y-a.Y)*(c.X-b.X)=0:=by omega
   rcases Int.mul_eq_zero.1 this with k | k <;> omega
  have hy2:b.Y < c.Y:=by unfold befP at h2;omega
  have:=Int.mul_pos hq (show 0 < c.Y-b.Y by omega)
  exact Ce (x:=b.Y-a.Y) (by rw[Int.mul_comm];omega) (by omega)
theorem Aea {a b u w z:Ac} (hab:¬ Bt a b) (h1:crs a b u=0) (h2:crs a b w=0) (h3:crs a b z=0):crs u w z=0:=by
 have e1:(b.X-a.X)*crs u w z=(w.X-u.X)*(crs a b z-crs a b u)-(z.X-u.X)*(crs a b w-crs a b u):=by unfold crs;grind
 have e2:(b.Y-a.Y)*crs u w z=(w.Y-u.Y)*(crs a b z-crs a b u)-(z.Y-u.Y)*(crs a b w-crs a b u):=by unfold crs;grind
 rw[h1,h2,h3] at e1 e2
 simp only[Int.sub_self,Int.mul_zero] at e1 e2
 rcases Int.mul_eq_zero.1 e1 with g | g
 ·rcases Int.mul_eq_zero.1 e2 with g' | g'
  ·exact absurd ⟨by omega,by omega⟩ hab
  ·exact g'
 ·exact g
end Go.Proofs.YtjfndjmabhbicaaGreat
namespace Go.Proofs.YtjfndjmabhbicaaGreat
open Go Go.RowKit Go.Shelf Go.Sort
theorem Cz {α:Type} (cf:α->α->Int) (l:List α):(Au cf l).Perm l:=List.mergeSort_perm _ _
theorem Jb {α:Type} {p:α->Prop} {cf:α->α->Int} (hT:Ww p cf) {l:List α} (hp:∀ x∈l,p x):(Au cf l).Pairwise fun x y=>¬ cf y x < 0:=by
 obtain ⟨l',rfl⟩:∃ l':List {x // p x},l=l'.map Subtype.val:=⟨l.attach.map fun x=>⟨x.1,hp x.1 x.2⟩,by simp only[List.map_map,Function.comp_def];exact (List.attach_map_subtype_val _).symm⟩
 rw[Aaq,List.pairwise_map]
 have:=List.pairwise_mergeSort (le:=fun x y:{x // p x}=>!(ltOf fun x y:{x // p x}=>cf x.1 y.1) y x)
  (fun a b c h1 h2=>by
   simp only[Bool.not_eq_true',Rz] at *
   intro h3
   by_cases h4:cf b.1 a.1 < 0
   ·exact h1 h4
   ·by_cases h5:cf c.1 b.1 < 0
    ·exact h2 h5
    ·by_cases h6:cf a.1 b.1 < 0
     ·exact h2 (hT.trans _ _ _ c.2 a.2 b.2 h3 h6)
     ·have:=hT.tot _ _ a.2 b.2 h6 h4
      rw[this] at h3
      exact h2 h3)
  (fun a b=>by
   by_cases h1:cf b.1 a.1 < 0
   ·have:¬ cf a.1 b.1 < 0:=fun h2=>hT.irr _ a.2 (hT.trans _ _ _ a.2 b.2 a.2 h2 h1)
    rw[Bool.or_eq_true]
    right
    rw[Bool.not_eq_true']
    exact Rz.2 this
   ·rw[Bool.or_eq_true]
    left
    rw[Bool.not_eq_true']
    exact Rz.2 h1) l'
 exact this.imp fun h=>by simpa[Rz] using h
theorem Ut {α:Type} {p:α->Prop} {cf:α->α->Int} (hT:Ww p cf) {l l':List α} (hp:∀ x∈l,p x) (hl:l.Pairwise fun x y=>¬ cf y x < 0) (hl':l'.Pairwise fun x y=>¬ cf y x < 0) (h:l.Perm l'):l=l' :=
 List.Perm.eq_of_pairwise (fun a b ha hb h1 h2=>hT.tot a b (hp a ha) (hp b (h.mem_iff.2 hb)) h2 h1) hl hl' h
theorem Vv {α:Type} {p:α->Prop} {cf:α->α->Int} (hT:Ww p cf) {l l':List α} (hp:∀ x∈l,p x) (h:l.Perm l'):Au cf l=Au cf l':=by
 have hp':∀ x∈l',p x:=fun x hx=>hp x (h.mem_iff.2 hx)
 refine Ut hT (fun x hx=>hp x ((Cz cf l).mem_iff.1 hx)) (Jb hT hp) (Jb hT hp') (((Cz cf l).trans h).trans (Cz cf l').symm)
theorem Ga {α:Type} {cf:α->α->Int} {l:List α} {x:α}:x∈Au cf l↔x∈l:=(Cz cf l).mem_iff
theorem Agm {κ υ:Type} {m:List (κ × υ)} (hm:Dx m) {q:κ × υ} (hq:q∈m):m.Perm (q::mdel m q.1):=by
 induction m with
 | nil=>cases hq
 | cons a r ih=>
  obtain ⟨h1,h2⟩:=List.pairwise_cons.1 hm
  unfold mdel
  rcases List.mem_cons.1 hq with rfl | hq
  ·rw[List.filter_cons_of_neg (by simp),List.filter_eq_self.2 (fun p hp=>by simp only[decide_eq_true_eq];exact fun e=>h1 p hp e.symm)]
  ·rw[List.filter_cons_of_pos (by simp only[decide_eq_true_eq];exact h1 q hq)]
   exact ((ih h2 hq).cons a).trans (List.Perm.swap _ _ _)
theorem Ab1 {κ υ β ρ:Type} {BN:List β->Option (Sum (List β) (List β))} {BS:List β->κ × υ->Option (Sum (List β) (List β))} {m:List (κ × υ)} (hm:Dx m) (f:κ × υ->List β) (hf:∀ q,(f q).length<=1)
  (hN:∀ s,BN s=some (.inr s)) (hS:∀ s,∀ q∈m,s.length < m.length->BS s q=some (.inl (s++f q))) {k:List β->Option ρ} {r:ρ} (hk:∀ l,l.Perm (m.flatMap f)->k l=some r):Anh BN BS m [] k=some r:=by
 have key:∀ (n:Nat) (l:List (κ × υ)) (s:List β),l.length=n->Dx l->(∀ q∈l,q∈m)->s.length+l.length<=m.length->(∀ q:List (κ × υ),q.Perm l->k (s++q.flatMap f)=some r)->MR (mkN BN k) (mkS BS k) l s r:=by
  intro n
  induction n with
  | zero=>
   intro l s hn _ _ _ hk
   have:l=[]:=List.eq_nil_of_length_eq_zero hn
   subst this
   refine .nil ?_
   have:=hk [] (List.Perm.refl _)
   rw[List.flatMap_nil,List.append_nil] at this
   unfold mkN
   rw[hN]
   simp only[this]
  | succ n ih=>
   intro l s hn hl hs hlen hk
   have hb:∀ q∈l,mkS BS k s q=some (.inl (s++f q)):=fun q hq=>by
    unfold mkS mkN
    simp only[hS s q (hs q hq) (by omega)]
   refine .cons (fun e=>by subst e;simp at hn) (fun q hq=>by rw[hb q hq];rfl) (fun q hq t' e=>by rw[hb q hq] at e;cases e) (fun q hq s' e=>?_)
   rw[hb q hq] at e
   cases e
   have hp:=Agm hl hq
   have hlen2:=hp.length_eq
   rw[List.length_cons] at hlen2
   refine ih (mdel l q.1) (s++f q) (by omega) (hl.del _) (fun x hx=>hs x (Oq.1 hx).1) (by rw[List.length_append];have:=hf q;omega) (fun w hw=>?_)
   rw[List.append_assoc,<- List.flatMap_cons]
   exact hk _ ((hw.cons q).trans hp.symm)
 refine Avc (key m.length m [] rfl hm (fun _ h=>h) (by simp) fun q hq=>?_)
 rw[List.nil_append]
 exact hk _ (List.Perm.flatMap_right f hq)
abbrev Mp:=List (Aa × Int)
structure MapN (n:Nat) (m:Mp):Prop where
 ok:Dx m
 key:∀ q∈m,inN n q.1.a0/\inN n q.1.a1/\inN n q.2
theorem MapN.len {n:Nat} {m:Mp} (h:MapN n m):m.length<=n*n:=by
 have h1:(m.map fun q=>(q.1.a0.toNat*n+q.1.a1.toNat)).Nodup:=by
  unfold List.Nodup
  rw[List.pairwise_map]
  refine List.Pairwise.imp_of_mem ?_ h.ok
  intro a b ha hb hne e
  obtain ⟨⟨a1,a2⟩,⟨a3,a4⟩,_⟩:=h.key a ha
  obtain ⟨⟨b1,b2⟩,⟨b3,b4⟩,_⟩:=h.key b hb
  have e1:a.1.a1.toNat=b.1.a1.toNat:=by
   have:=congrArg (· % n) e
   simp only[Nat.mul_add_mod_self_right] at this
   rwa [Nat.mod_eq_of_lt (by omega),Nat.mod_eq_of_lt (by omega)] at this
  have e2:a.1.a0.toNat=b.1.a0.toNat:=by
   rw[e1] at e
   have e':a.1.a0.toNat*n=b.1.a0.toNat*n:=by omega
   exact Nat.eq_of_mul_eq_mul_right (by omega) e'
  apply hne
  obtain ⟨⟨x,y⟩,c⟩:=a
  obtain ⟨⟨x',y'⟩,c'⟩:=b
  simp only at *
  rw[show x=x' by omega,show y=y' by omega]
 have:=Dh (m:=List.range (n*n)) h1 fun x hx=>by
  obtain ⟨q,hq,rfl⟩:=List.mem_map.1 hx
  obtain ⟨⟨a1,a2⟩,⟨a3,a4⟩,_⟩:=h.key q hq
  rw[List.mem_range]
  have h3:q.1.a0.toNat+1<=n:=by omega
  have:=Nat.mul_le_mul_right n h3
  rw[Nat.add_mul] at this
  omega
 rwa [List.length_map,List.length_range] at this
def rev2 (k:Aa):Aa:=⟨k.a1,k.a0⟩
noncomputable def rimF (m:Mp) (q:Aa × Int):List Aa:=if (mget m (rev2 q.1)).isSome=true then [] else [rev2 q.1]
noncomputable def Hp (m:Mp) (q:Aa × Int):List Aa:=if q.1.a0 < q.1.a1\/(mget m (rev2 q.1)).isSome=false then [⟨min q.1.a0 q.1.a1,max q.1.a0 q.1.a1⟩] else []
def triF (q:Aa × Int):List Ae:=if q.1.a0 < q.1.a1/\q.1.a0 < q.2 then [⟨q.1.a0,q.1.a1,q.2⟩] else []
theorem Ym {n:Nat} (hn:n<=1024) {k:Aa} (h1:inN n k.a0) (h2:inN n k.a1):Km k:=by
 unfold inN at h1 h2
 exact ⟨⟨by omega,by omega⟩,by omega,by omega⟩
theorem Mv {n:Nat} (hn:n<=1024) {i j:Int} (h1:inN n i) (h2:inN n j):(-9223372036854775808<=i/\i<=9223372036854775807)/\-9223372036854775808<=j/\j<=9223372036854775807:=by
 unfold inN at h1 h2
 exact ⟨⟨by omega,by omega⟩,by omega,by omega⟩
theorem Zi {n:Nat} (hn:n<=1024):n*n<=1048576:=Nat.mul_le_mul hn hn
theorem Hu {α β:Type} {f:α->List β} (hf:∀ q,(f q).length<=1):∀ l:List α,(l.flatMap f).length<=l.length
 | []=>by simp
 | a::r=>by
  rw[List.flatMap_cons,List.length_append,List.length_cons]
  have:=hf a
  have:=Hu hf r
  omega
theorem Ax2 {n:Nat} (hn:n<=1024) {b:Ag} (hm:MapN n b.apex):Hk b=some (b,Au cmp2 (b.apex.flatMap (rimF b.apex))):=by
 have hl:=hm.len
 have hsq:=Zi hn
 have hf:∀ q,(rimF b.apex q).length<=1:=fun q=>by unfold rimF;split <;> simp
 have hsm:∀ x∈b.apex.flatMap (rimF b.apex),Km x:=fun x hx=>by
  obtain ⟨q,hq,hx⟩:=List.mem_flatMap.1 hx
  unfold rimF at hx
  split at hx
  ·cases hx
  ·rw[List.mem_singleton] at hx
   subst hx
   exact Ym hn (hm.key q hq).2.1 (hm.key q hq).1
 unfold Hk
 rw[jn_d]
 refine Ab1 hm.ok (rimF b.apex) hf (fun s=>rfl) (fun s q hq hs=>?_) (fun l hp=>?_)
 ·obtain ⟨k1,k2,k3⟩:=hm.key q hq
  unfold Ov
  rw[gd_t (Mv hn k2 k1),Ad]
  unfold rimF rev2
  by_cases c:(mget b.apex (⟨q.1.a1,q.1.a0⟩:Aa)).isSome=true
  ·rw[if_pos c,if_pos c,List.append_nil]
  ·rw[if_neg c,if_neg c,gd_t (by omega)]
 ·have hlen:=hp.length_eq
  have hfl:=Hu hf b.apex
  dsimp only
  rw[gd_t ⟨by omega,fun x hx=>hsm x (hp.mem_iff.1 hx)⟩,Vv tot2 (fun x hx=>hsm x (hp.mem_iff.1 hx)) hp]
theorem Aji {n:Nat} (hn:n<=1024) {b:Ag} (hm:MapN n b.apex):Fg b=some (b,Au cmp2 (b.apex.flatMap (Hp b.apex))):=by
 have hl:=hm.len
 have hsq:=Zi hn
 have hf:∀ q,(Hp b.apex q).length<=1:=fun q=>by unfold Hp;split <;> simp
 have hsm:∀ x∈b.apex.flatMap (Hp b.apex),Km x:=fun x hx=>by
  obtain ⟨q,hq,hx⟩:=List.mem_flatMap.1 hx
  obtain ⟨k1,k2,k3⟩:=hm.key q hq
  unfold Hp at hx
  split at hx
  ·rw[List.mem_singleton] at hx
   subst hx
   unfold inN at k1 k2
   exact ⟨⟨by simp only;omega,by simp only;omega⟩,by simp only;omega,by simp only;omega⟩
  ·cases hx
 unfold Fg
 rw[jn_d]
 refine Ab1 hm.ok (Hp b.apex) hf (fun s=>rfl) (fun s q hq hs=>?_) (fun l hp=>?_)
 ·obtain ⟨k1,k2,k3⟩:=hm.key q hq
  unfold Nb
  rw[gd_t (Mv hn k2 k1),Ad,jn_d]
  unfold Hp rev2
  by_cases c:q.1.a0 < q.1.a1
  ·rw[if_pos c,if_pos (.inl c)]
   dsimp only
   rw[if_pos rfl]
   unfold Fh
   rw[Ad,gd_t (by omega)]
  ·rw[if_neg c]
   by_cases d:(mget b.apex (⟨q.1.a1,q.1.a0⟩:Aa)).isSome=true
   ·rw[d,if_neg (by simp;omega),List.append_nil]
    rfl
   ·rw[Bool.not_eq_true] at d
    rw[d,if_pos (.inr rfl)]
    dsimp only
    rw[Bool.not_false,if_pos rfl]
    unfold Fh
    rw[Ad,gd_t (by omega)]
 ·have hlen:=hp.length_eq
  have hfl:=Hu hf b.apex
  dsimp only
  rw[gd_t ⟨by omega,fun x hx=>hsm x (hp.mem_iff.1 hx)⟩,Vv tot2 (fun x hx=>hsm x (hp.mem_iff.1 hx)) hp]
theorem Aa3 {n:Nat} (hn:n<=1024) {b:Ag} (hm:MapN n b.apex):Eg b=some (b,Au cmp3 (b.apex.flatMap triF)):=by
 have hl:=hm.len
 have hsq:=Zi hn
 have hf:∀ q,(triF q).length<=1:=fun q=>by unfold triF;split <;> simp
 unfold Eg
 rw[jn_d]
 refine Ab1 hm.ok triF hf (fun s=>rfl) (fun s q hq hs=>?_) (fun l hp=>?_)
 ·unfold Kd
  rw[jn_d]
  unfold triF
  by_cases c:q.1.a0 < q.1.a1
  ·rw[if_pos c]
   by_cases d:q.1.a0 < q.2
   ·rw[decide_eq_true d,if_pos ⟨c,d⟩]
    dsimp only
    rw[if_pos rfl,gd_t (by omega)]
   ·rw[decide_eq_false d,if_neg (by simp[d]),List.append_nil]
    rfl
  ·rw[if_neg c,if_neg (by simp[c]),List.append_nil]
   rfl
 ·have hlen:=hp.length_eq
  have hfl:=Hu hf b.apex
  dsimp only
  rw[gd_t ⟨by omega,fun x _=>trivial⟩,Vv tot3 (fun x _=>trivial) hp]
end Go.Proofs.YtjfndjmabhbicaaGreat
