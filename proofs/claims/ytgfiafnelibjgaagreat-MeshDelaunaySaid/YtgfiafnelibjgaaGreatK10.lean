/- One more place, behind all that are there. -/
import Derived.Test.YtgfiafnelibjgaaGreatK8
namespace Go.Proofs.YtgfiafnelibjgaaGreat
open Go Go.RowKit
variable {P:Int→Ac} {V S:Int→Prop} {ap ap':Ap} {R:Int→Int→Prop} {p:Int}
/-- A side of the rim that the place sees. -/
def Vis (P:Int→Ac) (R:Int→Int→Prop) (p x y:Int):Prop:=R x y∧0 < crs (P x) (P y) (P p)
def New (P:Int→Ac) (R:Int→Int→Prop) (p i j k:Int):Prop:=(Vis P R p i j∧k=p)∨(Vis P R p k i∧j=p)∨(Vis P R p j k∧i=p)
structure Adds (P:Int→Ac) (V S:Int→Prop) (ap:Ap) (R:Int→Int→Prop) (p:Int):Prop where
 tri:Tri P V ap
 used:∀ i j k,ap i j=some k→S i
 sv:∀ i,S i→V i
 vp:V p
 np:¬ S p
 before:∀ i,S i→befP (P i) (P p)
 behind:∀ i,V i→¬ S i→i≠p→befP (P p) (P i)
 r1:∀ x y,R x y→S x∧S y∧x≠y∧∀ d,S d→crs (P x) (P y) (P d)≤0
 r2:∀ x y,Vis P R p x y→∀ d,S d→d≠x→d≠y→crs (P x) (P y) (P d)=0→crs (P y) (P p) (P d) < 0∨crs (P p) (P x) (P d) < 0
 r3:∀ x y,Vis P R p x y→((∃ z,Vis P R p y z)∨∀ d,S d→0≤crs (P y) (P p) (P d))∧((∃ w,Vis P R p w x)∨∀ d,S d→0≤crs (P p) (P x) (P d))
 r4:∀ x y,R x y→ap x y=none
 r5:∀ x y,Vis P R p x y→ap y x≠none∨((∀ i j,ap i j=none)∧∀ d,S d→0≤crs (P x) (P y) (P d))
 r6:∀ i j k,ap i j=some k→ap j i=none→R j i
theorem New.rot {i j k:Int} (h:New P R p i j k):New P R p j k i:=by
 rcases h with h | h | h
 ·exact .inr (.inl h)
 ·exact .inr (.inr h)
 ·exact .inl h
/-- A place behind the last corner of a triangle does not lie in it. -/
theorem Aqk {x y p d:Ac} (h1:befP x p) (h2:befP y p) (h3:befP p d) (h4:0 < crs x y p):crs x y d < 0∨crs y p d < 0∨crs p x d < 0:=by
 by_cases c1:crs x y d < 0
 ·exact .inl c1
 by_cases c2:crs y p d < 0
 ·exact .inr (.inl c2)
 by_cases c3:crs p x d < 0
 ·exact .inr (.inr c3)
 exfalso
 have e1:crs y p d*(d.X-x.X)+crs p x d*(d.X-y.X)+crs x y d*(d.X-p.X)=0:=by unfold crs;grind
 have e2:crs y p d*(d.Y-x.Y)+crs p x d*(d.Y-y.Y)+crs x y d*(d.Y-p.Y)=0:=by unfold crs;grind
 have e3:=Lz x y p d
 have nn:∀ {u w:Int},0≤u→0≤w→0≤u*w:=fun h h'=>Int.mul_nonneg h h'
 have hx:x.X≤d.X∧y.X≤d.X∧p.X≤d.X:=by unfold befP at h1 h2 h3;omega
 have m1:=nn (show 0≤crs y p d by omega) (show 0≤d.X-x.X by omega)
 have m2:=nn (show 0≤crs p x d by omega) (show 0≤d.X-y.X by omega)
 have m3:=nn (show 0≤crs x y d by omega) (show 0≤d.X-p.X by omega)
 have z1:crs y p d*(d.X-x.X)=0:=by omega
 have z2:crs p x d*(d.X-y.X)=0:=by omega
 have z3:crs x y d*(d.X-p.X)=0:=by omega
 -- where a weight is not 0,the corner is on the same vertical line,and lies Mb
 have key:∀ (w:Int) (q:Ac),0≤w→befP q d→w*(d.X-q.X)=0→0≤w*(d.Y-q.Y)∧(w*(d.Y-q.Y)=0→w=0):=by
  intro w q hw hq hz
  by_cases hw0:w=0
  ·subst hw0;simp
  ·rcases Int.mul_eq_zero.1 hz with h | h
   ·exact absurd h hw0
   ·have:0 < d.Y-q.Y:=by unfold befP at hq;omega
    have:=Int.mul_pos (show 0 < w by omega) this
    exact ⟨by omega,fun h=>by omega⟩
 obtain ⟨k1,k2⟩:=key _ x (by omega) (Hl h1 h3) z1
 obtain ⟨k3,k4⟩:=key _ y (by omega) (Hl h2 h3) z2
 obtain ⟨k5,k6⟩:=key _ p (by omega) h3 z3
 have q1:=k2 (by omega)
 have q2:=k4 (by omega)
 have q3:=k6 (by omega)
 omega
section
variable (h:Adds P V S ap R p)
include h
theorem Adds.uniq {x x' y:Int} (h1:Vis P R p x y) (h2:Vis P R p x' y):x=x':=by
 by_cases e:x=x'
 ·exact e
 exfalso
 obtain ⟨s1,s2,n1,f1⟩:=h.r1 x y h1.1
 obtain ⟨s3,_,n2,f2⟩:=h.r1 x' y h2.1
 have g1:=f1 x' s3
 have g2:=f2 x s1
 have e1:crs (P x') (P y) (P x) = -crs (P x) (P y) (P x'):=by unfold crs;grind
 have z:crs (P x) (P y) (P x')=0:=by omega
 have a1:=h.r2 x y h1 x' s3 (fun q=>e q.symm) n2 z
 have a2:=h.r2 x' y h2 x s1 e n1 (by omega)
 have v1:=h1.2
 have v2:=h2.2
 have e2:crs (P y) (P p) (P x)=crs (P x) (P y) (P p):=Am _ _ _
 have e3:crs (P y) (P p) (P x')=crs (P x') (P y) (P p):=Am _ _ _
 have e4:crs (P p) (P x') (P x) = -crs (P p) (P x) (P x'):=Ax _ _ _
 omega
theorem Adds.uniq2 {x y y':Int} (h1:Vis P R p x y) (h2:Vis P R p x y'):y=y':=by
 by_cases e:y=y'
 ·exact e
 exfalso
 obtain ⟨s1,s2,n1,f1⟩:=h.r1 x y h1.1
 obtain ⟨_,s3,n2,f2⟩:=h.r1 x y' h2.1
 have g1:=f1 y' s3
 have g2:=f2 y s2
 have e1:crs (P x) (P y') (P y) = -crs (P x) (P y) (P y'):=Ax _ _ _
 have z:crs (P x) (P y) (P y')=0:=by omega
 have a1:=h.r2 x y h1 y' s3 n2.symm (fun q=>e q.symm) z
 have a2:=h.r2 x y' h2 y s2 n1.symm e (by omega)
 have v1:=h1.2
 have v2:=h2.2
 have e2:crs (P p) (P x) (P y)=crs (P x) (P y) (P p):=by rw [← Am,← Am]
 have e3:crs (P p) (P x) (P y')=crs (P x) (P y') (P p):=by rw [← Am,← Am]
 have e4:crs (P y') (P p) (P y) = -crs (P y) (P p) (P y'):=by unfold crs;grind
 omega
/-- The new triangles have no place inside. -/
theorem Adds.emp {x y:Int} (hv:Vis P R p x y) (d:Int) (hd:V d) (n1:d≠x) (n2:d≠y) (n3:d≠p):crs (P x) (P y) (P d) < 0∨crs (P y) (P p) (P d) < 0∨crs (P p) (P x) (P d) < 0:=by
 obtain ⟨s1,s2,_,f1⟩:=h.r1 x y hv.1
 by_cases hs:S d
 ·have:=f1 d hs
  by_cases c:crs (P x) (P y) (P d)=0
  ·exact .inr (h.r2 x y hv d hs n1 n2 c)
  ·exact .inl (by omega)
 ·exact Aqk (h.before x s1) (h.before y s2) (h.behind d hd hs n3) hv.2
theorem Adds.news {i j k:Int} (hn:New P R p i j k):(S i∨i=p)∧(S j∨j=p)∧(S k∨k=p):=by
 rcases hn with ⟨hv,rfl⟩ | ⟨hv,rfl⟩ | ⟨hv,rfl⟩
 ·obtain ⟨s1,s2,_⟩:=h.r1 _ _ hv.1
  exact ⟨.inl s1,.inl s2,.inr rfl⟩
 ·obtain ⟨s1,s2,_⟩:=h.r1 _ _ hv.1
  exact ⟨.inl s2,.inr rfl,.inl s1⟩
 ·obtain ⟨s1,s2,_⟩:=h.r1 _ _ hv.1
  exact ⟨.inr rfl,.inl s1,.inl s2⟩
theorem Adds.old {i j k:Int} (hk:ap i j=some k):S i∧S j∧S k:=⟨h.used _ _ _ hk,h.used _ _ _ (h.tri.rot _ _ _ hk),h.used _ _ _ (h.tri.rot2 hk)⟩
variable (hA:∀ i j k,ap' i j=some k↔ap i j=some k∨New P R p i j k)
include hA
/-- Who is a neighbour now. -/
theorem Adds.nbrs {s m:Int} (hm:ap' s m≠none∨ap' m s≠none):(S s∧S m∧((ap s m≠none∨ap m s≠none)∨∀ i j,ap i j=none))∨(m=p∧S s∧((∃ y,Vis P R p s y)∨∃ x,Vis P R p x s))∨(s=p∧S m∧((∃ y,Vis P R p m y)∨∃ x,Vis P R p x m)):=by
 have key:∀ a b,ap' a b≠none→(S a∧S b∧((ap a b≠none∨ap b a≠none)∨∀ i j,ap i j=none))∨(b=p∧S a∧((∃ y,Vis P R p a y)∨∃ x,Vis P R p x a))∨(a=p∧S b∧((∃ y,Vis P R p b y)∨∃ x,Vis P R p x b)):=by
  intro a b hab
  obtain ⟨c,hc⟩:=Option.ne_none_iff_exists'.1 hab
  rcases (hA a b c).1 hc with g | ⟨hv,rfl⟩ | ⟨hv,rfl⟩ | ⟨hv,rfl⟩
  ·exact .inl ⟨(h.old g).1,(h.old g).2.1,.inl (.inl (by rw [g];simp))⟩
  ·obtain ⟨s1,s2,_⟩:=h.r1 _ _ hv.1
   rcases h.r5 _ _ hv with g | ⟨g,_⟩
   ·exact .inl ⟨s1,s2,.inl (.inr g)⟩
   ·exact .inl ⟨s1,s2,.inr g⟩
  ·exact .inr (.inl ⟨rfl,(h.r1 _ _ hv.1).2.1,.inr ⟨_,hv⟩⟩)
  ·exact .inr (.inr ⟨rfl,(h.r1 _ _ hv.1).1,.inl ⟨_,hv⟩⟩)
 rcases hm with hm | hm
 ·exact key s m hm
 ·rcases key m s hm with ⟨g1,g2,g3 | g3⟩ | ⟨g1,g2,g3⟩ | ⟨g1,g2,g3⟩
  ·exact .inl ⟨g2,g1,.inl g3.symm⟩
  ·exact .inl ⟨g2,g1,.inr g3⟩
  ·exact .inr (.inr ⟨g1,g2,g3⟩)
  ·exact .inr (.inl ⟨g1,g2,g3⟩)
theorem Adds.tri':Tri P V ap':=by
 have rot':∀ i j k,ap' i j=some k→ap' j k=some i:=fun i j k hk=>by
  rcases (hA i j k).1 hk with g | g
  ·exact (hA _ _ _).2 (.inl (h.tri.rot _ _ _ g))
  ·exact (hA _ _ _).2 (.inr g.rot)
 have e1:∀ x y:Int,crs (P y) (P p) (P x)=crs (P x) (P y) (P p):=fun x y=>Am _ _ _
 have e2:∀ x y:Int,crs (P p) (P x) (P y)=crs (P x) (P y) (P p):=fun x y=>by rw [← Am,← Am]
 refine ⟨rot',fun i j k hk=>?_,fun i j k hk d hd n1 n2 n3=>?_,fun s a b m hs hm=>?_⟩
 ·rcases (hA i j k).1 hk with g | ⟨hv,rfl⟩ | ⟨hv,rfl⟩ | ⟨hv,rfl⟩
  ·exact h.tri.ccw _ _ _ g
  ·obtain ⟨s1,s2,_⟩:=h.r1 _ _ hv.1
   exact ⟨h.sv _ s1,h.sv _ s2,h.vp,hv.2⟩
  ·obtain ⟨s1,s2,_⟩:=h.r1 _ _ hv.1
   exact ⟨h.sv _ s2,h.vp,h.sv _ s1,by rw [e1];exact hv.2⟩
  ·obtain ⟨s1,s2,_⟩:=h.r1 _ _ hv.1
   exact ⟨h.vp,h.sv _ s1,h.sv _ s2,by rw [e2];exact hv.2⟩
 ·rcases (hA i j k).1 hk with g | ⟨hv,rfl⟩ | ⟨hv,rfl⟩ | ⟨hv,rfl⟩
  ·exact h.tri.emp _ _ _ g d hd n1 n2 n3
  ·exact h.emp hv d hd n1 n2 n3
  ·rcases h.emp hv d hd n3 n1 n2 with g | g | g <;> simp [g]
  ·rcases h.emp hv d hd n2 n3 n1 with g | g | g <;> simp [g]
 ·rintro ⟨g1,g2⟩
  have hn:=h.nbrs hA hm
  rcases (hA s a b).1 hs with g | ⟨hv,rfl⟩ | ⟨hv,rfl⟩ | ⟨hv,rfl⟩
  ·-- an old triangle
   obtain ⟨ss,sa,sb⟩:=h.old g
   obtain ⟨_,_,_,cab⟩:=h.tri.ccw _ _ _ g
   rcases hn with ⟨_,_,hn | hn⟩ | ⟨rfl,_,hn⟩ | ⟨rfl,_,_⟩
   ·exact h.tri.cone s a b m g hn ⟨g1,g2⟩
   ·rw [hn] at g;cases g
   ·rcases hn with ⟨y,hv⟩ | ⟨x,hv⟩
    ·obtain ⟨_,_,_,f⟩:=h.r1 _ _ hv.1
     have h1:=f a sa
     have h2:=f b sb
     have h3:=hv.2
     have hp:=Pd (P s) (P a) (P b) (P y) (P m)
     rw [Ax (P s) (P m) (P b),Ax (P s) (P y) (P a),Ax (P s) (P y) (P b)] at hp
     have t1:=Int.mul_pos cab h3
     have t2:=Int.mul_nonneg (show 0≤-crs (P s) (P y) (P a) by omega) (Int.le_of_lt g2)
     have t3:=Int.mul_nonneg (Int.le_of_lt g1) (show 0≤-crs (P s) (P y) (P b) by omega)
     rw [Int.mul_neg] at hp
     omega
    ·obtain ⟨_,_,_,f⟩:=h.r1 _ _ hv.1
     have h1:=f a sa
     have h2:=f b sb
     have h3:=hv.2
     have q:∀ d,crs (P x) (P s) (P d)=crs (P s) (P d) (P x):=fun d=>(Am _ _ _).symm
     rw [q] at h1 h2 h3
     have hp:=Pd (P s) (P a) (P b) (P m) (P x)
     rw [Ax (P s) (P m) (P b)] at hp
     have t1:=Int.mul_pos cab h3
     have t2:=Int.mul_nonneg (Int.le_of_lt g1) (show 0≤-crs (P s) (P b) (P x) by omega)
     have t3:=Int.mul_nonneg (show 0≤-crs (P s) (P a) (P x) by omega) (Int.le_of_lt g2)
     have t4:crs (P s) (P a) (P x) * -crs (P s) (P m) (P b) = -crs (P s) (P a) (P x)*crs (P s) (P m) (P b):=by grind
     have t5:crs (P s) (P a) (P m) * -crs (P s) (P b) (P x) = -(crs (P s) (P a) (P m)*crs (P s) (P b) (P x)):=Int.mul_neg _ _
     omega
   ·exact h.np ss
  ·-- at x,from y to the new place
   obtain ⟨s1,s2,_,f⟩:=h.r1 _ _ hv.1
   rcases hn with ⟨_,sm,_⟩ | ⟨rfl,_,_⟩ | ⟨rfl,_,_⟩
   ·have:=f m sm;omega
   ·rw [Bk] at g2;omega
   ·exact h.np s1
  ·-- at y,from the new place to x
   obtain ⟨s1,s2,_,f⟩:=h.r1 _ _ hv.1
   rcases hn with ⟨_,sm,_⟩ | ⟨rfl,_,_⟩ | ⟨rfl,_,_⟩
   ·have:=f m sm
    rw [Am] at g2
    omega
   ·rw [Bk] at g1;omega
   ·exact h.np s2
  ·-- at the new place
   obtain ⟨s1,s2,_,f⟩:=h.r1 _ _ hv.1
   rcases hn with ⟨ss,_,_⟩ | ⟨rfl,ss,_⟩ | ⟨_,sm,hn⟩
   ·exact h.np ss
   ·exact h.np ss
   ·obtain ⟨u,w,hu,hm0⟩:∃ u w:Int,Vis P R s u w∧crs (P u) (P w) (P m)=0:=by
     rcases hn with ⟨y,hy⟩ | ⟨x,hx⟩
     ·exact ⟨m,y,hy,Cc _ _⟩
     ·exact ⟨x,m,hx,Bk _ _⟩
    obtain ⟨_,_,_,fu⟩:=h.r1 _ _ hu.1
    have q1:=fu a s1
    have q2:=fu b s2
    have q3:=hu.2
    have q4:=f m sm
    have hi:=Af1 (P s) (P a) (P b) (P u) (P w) (P m)
    rw [hm0,Int.mul_zero] at hi
    have r1:crs (P b) (P s) (P m)=crs (P s) (P m) (P b):=by rw [← Am]
    rw [r1] at hi
    have t1:=Int.mul_nonneg (show 0≤-crs (P a) (P b) (P m) by omega) (Int.le_of_lt q3)
    have t2:=Int.mul_nonneg (Int.le_of_lt g2) (show 0≤-crs (P u) (P w) (P a) by omega)
    have t3:=Int.mul_nonneg (Int.le_of_lt g1) (show 0≤-crs (P u) (P w) (P b) by omega)
    rw [Int.neg_mul] at t1
    rw [Int.mul_neg] at t2 t3
    have z:crs (P a) (P b) (P m)*crs (P u) (P w) (P s)=0:=by omega
    have z2:crs (P a) (P b) (P m)=0:=by
     rcases Int.mul_eq_zero.1 z with g | g
     ·exact g
     ·omega
    have hne:m≠a∧m≠b:=by
     refine ⟨fun e=>?_,fun e=>?_⟩
     ·subst e;rw [Bk] at g1;omega
     ·subst e;rw [Bk] at g2;omega
    rcases h.r2 a b hv m sm hne.1 hne.2 z2 with g | g
    ·rw [r1] at g;omega
    ·omega
theorem Adds.cov' (hc:Cov P S ap):Cov P (fun i=>S i∨i=p) ap':=by
 intro i j k hk hn d hd
 have hn':ap j i=none∧∀ x,¬ New P R p j i x:=by
  refine ⟨?_,fun x hx=>?_⟩
  ·rcases e:ap j i with _ | x
   ·rfl
   ·rw [(hA j i x).2 (.inl e)] at hn;cases hn
  ·rw [(hA j i x).2 (.inr hx)] at hn;cases hn
 rcases (hA i j k).1 hk with g | ⟨hv,rfl⟩ | ⟨hv,rfl⟩ | ⟨hv,rfl⟩
 ·rcases hd with hd | rfl
  ·exact hc _ _ _ g hn'.1 d hd
  ·have hr:=h.r6 _ _ _ g hn'.1
   have:¬ 0 < crs (P j) (P i) (P d):=fun hp=>hn'.2 d (.inl ⟨⟨hr,hp⟩,rfl⟩)
   rw [Aw] at this
   omega
 ·rcases hd with hd | rfl
  ·rcases h.r5 _ _ hv with q | ⟨_,q⟩
   ·exact absurd hn'.1 q
   ·exact q d hd
  ·exact Int.le_of_lt hv.2
 ·rcases hd with hd | rfl
  ·rcases (h.r3 _ _ hv).1 with ⟨z,hz⟩ | q
   ·exact absurd (.inr (.inr ⟨hz,rfl⟩)) (hn'.2 z)
   ·exact q d hd
  ·rw [Bk];exact Int.le_refl _
 ·rcases hd with hd | rfl
  ·rcases (h.r3 _ _ hv).2 with ⟨z,hz⟩ | q
   ·exact absurd (.inr (.inl ⟨hz,rfl⟩)) (hn'.2 z)
   ·exact q d hd
  ·rw [Cc];exact Int.le_refl _
theorem Adds.used':∀ i j k,ap' i j=some k→S i∨i=p:=by
 intro i j k hk
 rcases (hA i j k).1 hk with g | g
 ·exact .inl (h.used _ _ _ g)
 ·exact (h.news g).1
end
end Go.Proofs.YtgfiafnelibjgaaGreat
/- The rim of a triangulation, and a chain of places on one line. -/
namespace Go.Proofs.YtgfiafnelibjgaaGreat
open Go Go.RowKit
theorem Hw {α:Type} [DecidableEq α]:∀ {l m:List α},l.Nodup→(∀ x∈l,x∈m)→l.length≤m.length
 | [],_,_,_=>Nat.zero_le _
 | x::r,m,hd,hs=>by
  rw [List.nodup_cons] at hd
  have hx:=hs x List.mem_cons_self
  have:=Hw (l:=r) (m:=m.erase x) hd.2 fun y hy=>(List.mem_erase_of_ne (fun e=>hd.1 (by rw [← e];exact hy))).2 (hs y (List.mem_cons_of_mem _ hy))
  rw [List.length_erase_of_mem hx] at this
  have:0 < m.length:=List.length_pos_of_mem hx
  simp only [List.length_cons]
  omega
theorem Qe {n:Nat}:(inds n).Nodup:=by
 unfold inds List.Nodup
 rw [List.pairwise_map]
 exact List.nodup_range.imp fun h e=>h (by omega)
variable {P:Int→Ac} {S:Int→Prop} {ap:Ap} {p:Int} {n:Nat}
/-- The sides, seen from without, that have no triangle on the outer side. -/
def Rim (ap:Ap) (x y:Int):Prop:=(∃ k,ap y x=some k)∧ap x y=none
def outs (ap:Ap) (n:Nat) (s:Int):List Int:=(inds n).filter fun m=>(ap s m).isSome
def ins (ap:Ap) (n:Nat) (s:Int):List Int:=(inds n).filter fun m=>(ap m s).isSome
theorem Qf {V:Int→Prop} (h:Tri P V ap) (hV:∀ i,V i↔inN n i) {s m:Int}:m∈outs ap n s↔∃ k,ap s m=some k:=by
 unfold outs
 rw [List.mem_filter,Pb,Option.isSome_iff_exists]
 exact ⟨fun h=>h.2,fun ⟨k,hk⟩=>⟨(hV _).1 (h.ccw _ _ _ hk).2.1,k,hk⟩⟩
theorem Sr {V:Int→Prop} (h:Tri P V ap) (hV:∀ i,V i↔inN n i) {s m:Int}:m∈ins ap n s↔∃ k,ap m s=some k:=by
 unfold ins
 rw [List.mem_filter,Pb,Option.isSome_iff_exists]
 exact ⟨fun h=>h.2,fun ⟨k,hk⟩=>⟨(hV _).1 (h.ccw _ _ _ hk).1,k,hk⟩⟩
theorem Np {α β:Type} {f:α→β}:∀ {l:List α},(∀ x∈l,∀ y∈l,f x=f y→x=y)→l.Nodup→(l.map f).Nodup
 | [],_,_=>List.Pairwise.nil
 | a::r,hf,hd=>by
  rw [List.nodup_cons] at hd
  rw [List.map_cons,List.nodup_cons]
  refine ⟨fun hm=>?_,Np (fun x hx y hy=>hf x (List.mem_cons_of_mem _ hx) y (List.mem_cons_of_mem _ hy)) hd.2⟩
  obtain ⟨b,hb,e⟩:=List.mem_map.1 hm
  exact hd.1 (by rw [← hf b (List.mem_cons_of_mem _ hb) a List.mem_cons_self e];exact hb)
theorem deg {V:Int→Prop} (h:Tri P V ap) (hV:∀ i,V i↔inN n i) (s:Int):(ins ap n s).length=(outs ap n s).length:=by
 apply Nat.le_antisymm
 ·have h1:((ins ap n s).map fun m=>(ap m s).getD 0).Nodup:=Np (fun x hx y hy e=>by
   obtain ⟨k,hk⟩:=(Sr h hV).1 hx
   obtain ⟨k',hk'⟩:=(Sr h hV).1 hy
   rw [hk,hk'] at e
   simp only [Option.getD_some] at e
   subst e
   have e1:=h.rot _ _ _ hk
   have e2:=h.rot _ _ _ hk'
   rw [e1] at e2
   exact Option.some.inj e2) (Qe.filter _)
  have:=Hw (m:=outs ap n s) h1 fun w hw=>by
   obtain ⟨m,hm,rfl⟩:=List.mem_map.1 hw
   obtain ⟨k,hk⟩:=(Sr h hV).1 hm
   rw [hk]
   exact (Qf h hV).2 ⟨m,h.rot _ _ _ hk⟩
  rw [List.length_map] at this
  exact this
 ·have h1:((outs ap n s).map fun m=>(ap s m).getD 0).Nodup:=Np (fun x hx y hy e=>by
   obtain ⟨k,hk⟩:=(Qf h hV).1 hx
   obtain ⟨k',hk'⟩:=(Qf h hV).1 hy
   rw [hk,hk'] at e
   simp only [Option.getD_some] at e
   subst e
   have e1:=h.rot2 hk
   have e2:=h.rot2 hk'
   rw [e1] at e2
   exact Option.some.inj e2) (Qe.filter _)
  have:=Hw (m:=ins ap n s) h1 fun w hw=>by
   obtain ⟨m,hm,rfl⟩:=List.mem_map.1 hw
   obtain ⟨k,hk⟩:=(Qf h hV).1 hm
   rw [hk]
   exact (Sr h hV).2 ⟨m,h.rot2 hk⟩
  rw [List.length_map] at this
  exact this
/-- The rim goes on. -/
theorem Am6 {V:Int→Prop} (h:Tri P V ap) (hV:∀ i,V i↔inN n i) {x y:Int} (hr:Rim ap x y):∃ z,Rim ap y z:=by
 obtain ⟨⟨k,hk⟩,hn⟩:=hr
 apply Classical.byContradiction
 intro hno
 have hd:=deg h hV y
 have hx:x∈outs ap n y:=(Qf h hV).2 ⟨k,hk⟩
 have:=Hw (l:=ins ap n y) (m:=(outs ap n y).erase x) (Qe.filter _) fun z hz=>by
  obtain ⟨w,hw⟩:=(Sr h hV).1 hz
  have hzx:z≠x:=fun e=>by subst e;rw [hw] at hn;cases hn
  rw [List.mem_erase_of_ne hzx,Qf h hV]
  rcases e:ap y z with _ | u
  ·exact absurd ⟨z,⟨w,hw⟩,e⟩ hno
  ·exact ⟨u,rfl⟩
 rw [List.length_erase_of_mem hx] at this
 have:0 < (outs ap n y).length:=List.length_pos_of_mem hx
 omega
theorem Am7 {V:Int→Prop} (h:Tri P V ap) (hV:∀ i,V i↔inN n i) {x y:Int} (hr:Rim ap x y):∃ w,Rim ap w x:=by
 obtain ⟨⟨k,hk⟩,hn⟩:=hr
 apply Classical.byContradiction
 intro hno
 have hd:=deg h hV x
 have hx:y∈ins ap n x:=(Sr h hV).2 ⟨k,hk⟩
 have:=Hw (l:=outs ap n x) (m:=(ins ap n x).erase y) (Qe.filter _) fun z hz=>by
  obtain ⟨w,hw⟩:=(Qf h hV).1 hz
  have hzx:z≠y:=fun e=>by subst e;rw [hw] at hn;cases hn
  rw [List.mem_erase_of_ne hzx,Sr h hV]
  rcases e:ap z x with _ | u
  ·exact absurd ⟨z,⟨w,hw⟩,e⟩ hno
  ·exact ⟨u,rfl⟩
 rw [List.length_erase_of_mem hx] at this
 have:0 < (ins ap n x).length:=List.length_pos_of_mem hx
 omega
/-- Between a side that the place sees and one that it does not see: all places lie to one side. -/
theorem Aql {x y z q d k k':Ac} (h1:crs x y d≤0) (h2:crs y z d≤0) (h3:0 < crs x y q) (h4:crs y z q≤0) (h5:crs x y z≤0) (h6:crs x y k < 0) (h7:crs y z k≤0) (h8:crs y z k' < 0):0≤crs y q d:=by
 have r:∀ u,crs x y u=crs y u x:=fun u=>(Am _ _ _).symm
 rw [r] at h1 h3 h5 h6
 -- seen from y: x=u,z=w
 have hp:=Pd y q d x z
 rw [Ax y z q,Ax y z d,Ax y z x] at hp
 by_cases c:crs y z x=0
 ·exfalso
  have p1:=Pd y x z q k
  rw [Ax y z x,Ax y q x,Ax y k x,c] at p1
  have t1:=Int.mul_nonneg (show 0≤-crs y k x by omega) (show 0≤-crs y z q by omega)
  have t2:=Int.mul_nonneg (Int.le_of_lt h3) (show 0≤-crs y z k by omega)
  have e1:-crs y k x*crs y z q = -(-crs y k x * -crs y z q):=by grind
  have e2:-crs y q x*crs y z k=crs y q x * -crs y z k:=by grind
  have z1:crs y q x * -crs y z k=0:=by omega
  have z2:crs y z k=0:=by
   rcases Int.mul_eq_zero.1 z1 with g | g <;> omega
  have p2:=Pd y z k' x k
  rw [c,z2,Ax y k x] at p2
  have t3:=Int.mul_pos_of_neg_of_neg h8 h6
  have e3:crs y z k' * -crs y k x = -(crs y z k' * crs y k x):=Int.mul_neg _ _
  omega
 ·have c':0 < -crs y z x:=by
   have:crs y z x≤0:=h5
   omega
  have t1:=Int.mul_nonneg (Int.le_of_lt h3) (show 0≤-crs y z d by omega)
  have t2:=Int.mul_nonneg (show 0≤-crs y z q by omega) (show 0≤-crs y d x by omega)
  have e2:-crs y z q * -crs y d x = -(-crs y z q*crs y d x):=by grind
  exact Kf (x:=-crs y z x) (by rw [Int.mul_comm];omega) c'
theorem Am8 {x y w q d k k':Ac} (h1:crs x y d≤0) (h2:crs w x d≤0) (h3:0 < crs x y q) (h4:crs w x q≤0) (h5:crs x y w≤0) (h6:crs x y k < 0) (h7:crs w x k≤0) (h8:crs w x k' < 0):0≤crs q x d:=by
 have r:∀ u,crs w x u=crs x u w:=fun u=>(Am _ _ _).symm
 rw [r] at h2 h4 h7 h8
 rw [show crs q x d = -crs x q d from Aw _ _ _]
 have hp:=Pd x q d y w
 rw [Ax x y q,Ax x y d] at hp
 by_cases c:crs x y w=0
 ·exfalso
  have p1:=Pd x y w q k
  rw [c,Ax x q w,Ax x k w] at p1
  have t1:=Int.mul_nonneg (Int.le_of_lt h3) (show 0≤-crs x k w by omega)
  have t2:=Int.mul_nonneg (show 0≤-crs x y k by omega) (show 0≤-crs x q w by omega)
  have e2:crs x y k * -crs x q w = -(-crs x y k * -crs x q w):=by grind
  have z1:crs x y q * -crs x k w=0:=by omega
  have z2:crs x k w=0:=by
   rcases Int.mul_eq_zero.1 z1 with g | g <;> omega
  have p2:=Pd x y w k k'
  rw [c,Ax x k w,Ax x k' w,z2] at p2
  have t3:=Int.mul_pos_of_neg_of_neg h6 h8
  have e3:crs x y k * -crs x k' w = -(crs x y k*crs x k' w):=Int.mul_neg _ _
  omega
 ·have c':0 < -crs x y w:=by omega
  have t1:=Int.mul_nonneg (Int.le_of_lt h3) (show 0≤-crs x d w by omega)
  have t2:=Int.mul_nonneg (show 0≤-crs x y d by omega) (show 0≤-crs x q w by omega)
  have e2:-crs x y d * -crs x q w = -(crs x q w * -crs x y d):=by grind
  have e3:-crs x y q*crs x d w=crs x y q * -crs x d w:=by grind
  refine Kf (x:=-crs x y w) ?_ c'
  have e4:-crs x y w * -crs x q d=crs x q d*crs x y w:=by grind
  rw [e4]
  omega
/-- The rim of a triangulation is what one more place is added to. -/
theorem Am9 (h:Tri P (inN n) ap) (hc:Cov P S ap) (used:∀ i j k,ap i j=some k→S i) (sv:∀ i,S i→inN n i) (vp:inN n p) (np:¬ S p) (before:∀ i,S i→befP (P i) (P p)) (behind:∀ i,inN n i→¬ S i→i≠p→befP (P p) (P i)):Adds P (inN n) S ap (Rim ap) p:=by
 have old:∀ {i j k},ap i j=some k→S i∧S j∧S k:=fun hk=>⟨used _ _ _ hk,used _ _ _ (h.rot _ _ _ hk),used _ _ _ (h.rot2 hk)⟩
 have r1:∀ x y,Rim ap x y→S x∧S y∧x≠y∧∀ d,S d→crs (P x) (P y) (P d)≤0:=by
  rintro x y ⟨⟨k,hk⟩,hn⟩
  refine ⟨(old hk).2.1,(old hk).1,(h.ne hk).1.symm,fun d hd=>?_⟩
  have:=hc _ _ _ hk hn d hd
  rw [Aw] at this
  omega
 -- a place on the other side
 have far:∀ x y,Rim ap x y→∃ k,S k∧crs (P x) (P y) (P k) < 0:=by
  rintro x y ⟨⟨k,hk⟩,hn⟩
  refine ⟨k,(old hk).2.2,?_⟩
  have:=(h.ccw _ _ _ hk).2.2.2
  rw [Aw] at this
  omega
 refine ⟨h,used,sv,vp,np,before,behind,r1,?_,?_,fun x y hr=>hr.2,?_,fun i j k hk hn=>⟨⟨k,hk⟩,hn⟩⟩
 ·rintro x y ⟨⟨⟨k,hk⟩,hn⟩,hp⟩ d hd n1 n2 z
  have ck:=(h.ccw _ _ _ hk).2.2.2
  have nk:d≠k:=fun e=>by subst e;rw [Aw,z] at ck;omega
  have q1:=Pd (P x) (P k) (P d) (P y) (P p)
  have e1:crs (P x) (P d) (P y)=0:=by rw [Ax,z];rfl
  have e2:crs (P x) (P k) (P y)=crs (P y) (P x) (P k):=Am _ _ _
  have e3:crs (P x) (P d) (P p)=crs (P p) (P x) (P d):=Am _ _ _
  rw [e1,e2,e3,Int.mul_zero] at q1
  have q2:=Pd (P y) (P d) (P k) (P x) (P p)
  have f1:crs (P y) (P d) (P x)=0:=by rw [Am,z]
  have f2:crs (P y) (P k) (P x) = -crs (P y) (P x) (P k):=Ax _ _ _
  have f3:crs (P y) (P x) (P p) = -crs (P x) (P y) (P p):=Aw _ _ _
  have f4:crs (P y) (P d) (P p) = -crs (P y) (P p) (P d):=Ax _ _ _
  have f5:crs (P y) (P d) (P k)=crs (P k) (P y) (P d):=Am _ _ _
  rw [f1,f2,f3,f4,f5,Int.zero_mul] at q2
  rcases h.emp _ _ _ hk d (sv d hd) n2 n1 nk with g | g | g
  ·rw [Aw,z] at g;omega
  ·right
   rcases Int.lt_or_le (crs (P p) (P x) (P d)) 0 with c | c
   ·exact c
   ·have t1:=Int.mul_neg_of_neg_of_pos g hp
    have t2:=Int.mul_nonneg (Int.le_of_lt ck) c
    omega
  ·left
   rcases Int.lt_or_le (crs (P y) (P p) (P d)) 0 with c | c
   ·exact c
   ·have t1:=Int.mul_neg_of_neg_of_pos g hp
    have t2:=Int.mul_nonneg c (Int.le_of_lt ck)
    have e4:crs (P k) (P y) (P d) * -crs (P x) (P y) (P p) = -(crs (P k) (P y) (P d)*crs (P x) (P y) (P p)):=Int.mul_neg _ _
    have e5:-crs (P y) (P p) (P d) * -crs (P y) (P x) (P k)=crs (P y) (P p) (P d)*crs (P y) (P x) (P k):=Int.neg_mul_neg _ _
    omega
 ·rintro x y ⟨hr,hp⟩
  obtain ⟨s1,s2,_,f⟩:=r1 x y hr
  obtain ⟨k,sk,hk⟩:=far x y hr
  constructor
  ·obtain ⟨z,hz⟩:=Am6 h (fun _=>Iff.rfl) hr
   obtain ⟨_,sz,_,fz⟩:=r1 y z hz
   obtain ⟨k',sk',hk'⟩:=far y z hz
   by_cases c:0 < crs (P y) (P z) (P p)
   ·exact .inl ⟨z,hz,c⟩
   ·exact .inr fun d hd=>Aql (f d hd) (fz d hd) hp (by omega) (f z sz) hk (fz k sk) hk'
  ·obtain ⟨w,hw⟩:=Am7 h (fun _=>Iff.rfl) hr
   obtain ⟨sw,_,_,fw⟩:=r1 w x hw
   obtain ⟨k',sk',hk'⟩:=far w x hw
   by_cases c:0 < crs (P w) (P x) (P p)
   ·exact .inl ⟨w,hw,c⟩
   ·exact .inr fun d hd=>Am8 (f d hd) (fw d hd) hp (by omega) (f w sw) hk (fw k sk) hk'
 ·rintro x y ⟨⟨⟨k,hk⟩,hn⟩,hp⟩
  exact .inl (by rw [hk];simp)
end Go.Proofs.YtgfiafnelibjgaaGreat
