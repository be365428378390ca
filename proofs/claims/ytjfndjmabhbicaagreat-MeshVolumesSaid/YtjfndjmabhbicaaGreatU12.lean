/- Which sides of a triangulation cross a line. -/
import Derived.Test.YtjfndjmabhbicaaGreatU8
import Derived.Test.YtjfndjmabhbicaaGreatU1
namespace Go.Proofs.YtjfndjmabhbicaaGreat
open Go Go.RowKit
theorem Aeg (p q:Ac):Eo p q=some (decide (befP p q)):=by
 unfold Eo befP
 grind [Ad,jn_d]
theorem Yn {v:List Ab} {i:Int} (hi:inN v.length i):∃ x,idx v i=some x/\(⟨x.X,x.Y⟩:Ac)=plV v i:=by
 obtain ⟨k,hk,rfl,e⟩:=Ik (v:=v) (i:=i) hi
 exact ⟨v[k],e,by unfold plV;rw[e]⟩
def BtwF (p q r:Ac):Prop:=Btw p q r/\¬ Bt r p/\¬ Bt r q
theorem Sy {p q r:Ac} (hp:okP p) (hq:okP q) (hr:okP r) [Decidable (BtwF p q r)]:Ix p q r=some (decide (BtwF p q r)):=by
 unfold Ix
 rw[jn_d,Rq hp hq hr,Ad,Aeg,Aeg]
 have e0:(Int.sign (crs p q r)=0)↔crs p q r=0:=Int.sign_eq_zero_iff_zero
 by_cases c:crs p q r=0
 ·rw[if_pos (e0.2 c)]
  by_cases c1:Bt r p
  ·rw[if_pos (by simpa[Bt] using c1)]
   simp only[Option.some.injEq]
   exact (decide_eq_false fun h=>h.2.1 c1).symm
  ·rw[if_neg (by simpa[Bt] using c1)]
   by_cases c2:Bt r q
   ·rw[if_pos (by simpa[Bt] using c2)]
    simp only[Option.some.injEq]
    exact (decide_eq_false fun h=>h.2.2 c2).symm
   ·rw[if_neg (by simpa[Bt] using c2),Ad,Ad]
    simp only[Option.some.injEq]
    by_cases g1:befP p r <;> by_cases g2:befP q r <;> simp[g1,g2,BtwF,Btw,c,c1,c2]
 ·rw[if_neg (fun h=>c (e0.1 h))]
  simp only[Option.some.injEq]
  exact (decide_eq_false fun h=>c h.1.1).symm
def Meet (a b c d:Ac):Prop:=(BtwF a b c\/BtwF a b d\/BtwF c d a\/BtwF c d b)\/(Int.sign (crs a b c)*Int.sign (crs a b d) < 0/\Int.sign (crs c d a)*Int.sign (crs c d b) < 0)
theorem Au5 {a b c d:Ac} (ha:okP a) (hb:okP b) (hc:okP c) (hd:okP d) [Decidable (Meet a b c d)]:Uv a b c d=some (decide (Meet a b c d)):=by
 unfold Uv
 haveI:∀ p q r,Decidable (BtwF p q r):=fun _ _ _=>Classical.propDecidable _
 have w0:∀ x y:Ac,∀ z t:Ac,w64 (Int.sign (crs x y z)*Int.sign (crs x y t))=Int.sign (crs x y z)*Int.sign (crs x y t):=fun x y z t=>Tw
 rw[jn_d,Sy ha hb hc,Ad,Sy ha hb hd,Ad,Sy hc hd ha,Ad,Sy hc hd hb,Ad]
 by_cases c1:BtwF a b c
 ·rw[if_pos (by simpa using c1)];dsimp only;rw[if_pos rfl,decide_eq_true (show Meet a b c d from .inl (.inl c1))]
 rw[if_neg (by simpa using c1)]
 by_cases c2:BtwF a b d
 ·rw[if_pos (by simpa using c2)];dsimp only;rw[if_pos rfl,decide_eq_true (show Meet a b c d from .inl (.inr (.inl c2)))]
 rw[if_neg (by simpa using c2)]
 by_cases c3:BtwF c d a
 ·rw[if_pos (by simpa using c3)];dsimp only;rw[if_pos rfl,decide_eq_true (show Meet a b c d from .inl (.inr (.inr (.inl c3))))]
 rw[if_neg (by simpa using c3)]
 dsimp only
 by_cases c4:BtwF c d b
 ·rw[if_pos (by simpa using c4),decide_eq_true (show Meet a b c d from .inl (.inr (.inr (.inr c4))))]
 rw[if_neg (by simpa using c4),jn_d,Rq ha hb hc,Ad,Rq ha hb hd,Ad,w0]
 by_cases c5:Int.sign (crs a b c)*Int.sign (crs a b d) < 0
 ·rw[if_pos c5,Rq hc hd ha,Ad,Rq hc hd hb,Ad,w0]
  simp only[Option.some.injEq]
  exact decide_eq_decide.2 ⟨fun h=>.inr ⟨c5,h⟩,fun h=>h.elim (fun g=>by rcases g with g | g | g | g <;> contradiction) fun g=>g.2⟩
 ·rw[if_neg c5]
  simp only[Option.some.injEq]
  exact (decide_eq_false fun h=>h.elim (fun g=>by rcases g with g | g | g | g <;> contradiction) fun g=>c5 g.1).symm
variable {v:List Ab} {ap:Ap} {a b:Int}
def Gr (v:List Ab) (a b x y:Int):Prop:=(a≠x/\a≠y/\b≠x/\b≠y)/\Meet (plV v a) (plV v b) (plV v x) (plV v y)
noncomputable instance (v:List Ab) (a b x y:Int):Decidable (Gr v a b x y):=Classical.propDecidable _
theorem Xj (hv:Bu v) {k l:Aa} (h1:inN v.length k.a0) (h2:inN v.length k.a1) (h3:inN v.length l.a0) (h4:inN v.length l.a1):Hq v k l=some (decide (Gr v k.a0 k.a1 l.a0 l.a1)):=by
 unfold Hq
 haveI:∀ p q r s,Decidable (Meet p q r s):=fun _ _ _ _=>Classical.propDecidable _
 obtain ⟨x1,i1,e1⟩:=Yn h1
 obtain ⟨x2,i2,e2⟩:=Yn h2
 obtain ⟨x3,i3,e3⟩:=Yn h3
 obtain ⟨x4,i4,e4⟩:=Yn h4
 rw[jn_d]
 by_cases c1:k.a0=l.a0
 ·rw[if_pos c1];dsimp only;rw[if_pos rfl,decide_eq_false fun h=>h.1.1 c1]
 rw[if_neg c1]
 by_cases c2:k.a0=l.a1
 ·rw[if_pos c2];dsimp only;rw[if_pos rfl,decide_eq_false fun h=>h.1.2.1 c2]
 rw[if_neg c2]
 by_cases c3:k.a1=l.a0
 ·rw[if_pos c3];dsimp only;rw[if_pos rfl,decide_eq_false fun h=>h.1.2.2.1 c3]
 rw[if_neg c3]
 dsimp only
 by_cases c4:k.a1=l.a1
 ·rw[if_pos (by simpa using c4),decide_eq_false fun h=>h.1.2.2.2 c4]
 rw[if_neg (by simpa using c4),i1,Ad,i2,Ad,i3,Ad,i4,Ad]
 unfold Cu
 rw[Ad,Ad,Ad,Ad,e1,e2,e3,e4,Au5 (hv.ok _ h1) (hv.ok _ h2) (hv.ok _ h3) (hv.ok _ h4),Ad]
 simp only[Option.some.injEq]
 exact decide_eq_decide.2 ⟨fun h=>⟨⟨c1,c2,c3,c4⟩,h⟩,fun h=>h.2⟩
theorem Anb {x y k:Ac} (h:BtwF x y k):∃ d D:Int,0 < d/\d < D/\∀ p q:Ac,D*crs p q k=(D-d)*crs p q x+d*crs p q y:=by
 obtain ⟨⟨h0,hb⟩,n1,n2⟩:=h
 have fin:∀ d D:Int,0 < d->d < D->D*(k.X-x.X)=d*(y.X-x.X)->D*(k.Y-x.Y)=d*(y.Y-x.Y)->∃ d D:Int,0 < d/\d < D/\∀ p q:Ac,D*crs p q k=(D-d)*crs p q x+d*crs p q y:=by
  intro d D g1 g2 g3 g4
  refine ⟨d,D,g1,g2,fun p q=>?_⟩
  have e1:D*k.X=(D-d)*x.X+d*y.X:=by grind
  have e2:D*k.Y=(D-d)*x.Y+d*y.Y:=by grind
  have e3:D*crs p q k=(q.X-p.X)*(D*k.Y-D*p.Y)-(q.Y-p.Y)*(D*k.X-D*p.X):=by unfold crs;grind
  rw[e3,e1,e2]
  unfold crs
  grind
 have h0':(y.X-x.X)*(k.Y-x.Y)=(y.Y-x.Y)*(k.X-x.X):=by unfold crs at h0;omega
 unfold befP at hb
 unfold Bt at n1 n2
 rcases Int.lt_trichotomy x.X y.X with c | c | c
 ·-- to the right
  have b1:x.X < k.X:=by
   refine Classical.byContradiction fun g=>?_
   by_cases e:k.X=x.X
   ·rw[e,Int.sub_self,Int.mul_zero] at h0'
    rcases Int.mul_eq_zero.1 h0' with g' | g' <;> omega
   ·omega
  have b2:k.X < y.X:=by
   refine Classical.byContradiction fun g=>?_
   by_cases e:k.X=y.X
   ·rw[e,Int.mul_comm] at h0'
    have:=Int.eq_of_mul_eq_mul_right (by omega) h0'
    omega
   ·omega
  refine fin (k.X-x.X) (y.X-x.X) (by omega) (by omega) (Int.mul_comm _ _) (by rw[h0',Int.mul_comm])
 ·-- upright
  rw[c,Int.sub_self,Int.zero_mul] at h0'
  rcases Int.mul_eq_zero.1 h0'.symm with g | g
  ·omega
  ·by_cases d:x.Y < y.Y
   ·refine fin (k.Y-x.Y) (y.Y-x.Y) (by omega) (by omega) ?_ (Int.mul_comm _ _)
    rw[show k.X-x.X=0 by omega,show y.X-x.X=0 by omega,Int.mul_zero,Int.mul_zero]
   ·refine fin (x.Y-k.Y) (x.Y-y.Y) (by omega) (by omega) ?_ ?_
    ·rw[show k.X-x.X=0 by omega,show y.X-x.X=0 by omega,Int.mul_zero,Int.mul_zero]
    ·grind
 ·have b1:k.X < x.X:=by
   refine Classical.byContradiction fun g=>?_
   by_cases e:k.X=x.X
   ·rw[e,Int.sub_self,Int.mul_zero] at h0'
    rcases Int.mul_eq_zero.1 h0' with g' | g' <;> omega
   ·omega
  have b2:y.X < k.X:=by
   refine Classical.byContradiction fun g=>?_
   by_cases e:k.X=y.X
   ·rw[e,Int.mul_comm] at h0'
    have:=Int.eq_of_mul_eq_mul_right (by omega) h0'
    omega
   ·omega
  refine fin (x.X-k.X) (x.X-y.X) (by omega) (by omega) (by grind) (by grind)
theorem Yo (ht:Tri (plV v) (inN v.length) ap) {x y z k:Int} (h:ap x y=some z) (hk:inN v.length k) (h1:k≠x) (h2:k≠y):¬ BtwF (plV v x) (plV v y) (plV v k):=fun g=>by
 obtain ⟨d,D,d1,d2,hd⟩:=Anb g
 obtain ⟨vx,vy,vz,T⟩:=ht.ccw _ _ _ h
 have e0:crs (plV v x) (plV v y) (plV v k)=0:=g.1.1
 by_cases e:k=z
 ·rw[e] at e0;omega
 have em:=ht.emp _ _ _ h k hk h1 h2 e
 have i1:=hd (plV v y) (plV v z)
 have i2:=hd (plV v z) (plV v x)
 rw[Bp,Int.mul_zero,Int.add_zero] at i1
 rw[Ns,Int.mul_zero,Int.zero_add] at i2
 have t1:crs (plV v y) (plV v z) (plV v x)=crs (plV v x) (plV v y) (plV v z):=by rw[An]
 have t2:crs (plV v z) (plV v x) (plV v y)=crs (plV v x) (plV v y) (plV v z):=by rw[<- An]
 rw[t1] at i1
 rw[t2] at i2
 have m1:=Int.mul_pos (show 0 < D-d by omega) T
 have m2:=Int.mul_pos d1 T
 have p1:=Ce (x:=D) (y:=crs (plV v y) (plV v z) (plV v k)) (by omega) (by omega)
 have p2:=Ce (x:=D) (y:=crs (plV v z) (plV v x) (plV v k)) (by omega) (by omega)
 omega
theorem Gc {x y:Int}:Int.sign x*Int.sign y < 0↔(0 < x/\y < 0)\/(x < 0/\0 < y):=by
 rcases Int.lt_trichotomy x 0 with h | h | h <;> rcases Int.lt_trichotomy y 0 with k | k | k
 all_goals first
  | (subst h;simp;try omega)
  | (subst k;simp;try omega)
  | (rw[Int.sign_eq_neg_one_of_neg h,Int.sign_eq_neg_one_of_neg k];omega)
  | (rw[Int.sign_eq_neg_one_of_neg h,Int.sign_eq_one_of_pos k];omega)
  | (rw[Int.sign_eq_one_of_pos h,Int.sign_eq_neg_one_of_neg k];omega)
  | (rw[Int.sign_eq_one_of_pos h,Int.sign_eq_one_of_pos k];omega)
theorem Cr.cross {x y:Int} (h:Cr v a b x y):Gr v a b x y/\Gr v a b y x:=by
 obtain ⟨h1,h2,h3,h4⟩:=h
 have ends:a≠x/\a≠y/\b≠x/\b≠y:=by
  refine ⟨fun e=>?_,fun e=>?_,fun e=>?_,fun e=>?_⟩
  ·rw[<- e,Bp] at h1;omega
  ·rw[<- e,Bp] at h2;omega
  ·rw[<- e,Ns] at h1;omega
  ·rw[<- e,Ns] at h2;omega
 refine ⟨⟨ends,.inr ⟨Gc.2 (by omega),Gc.2 (by omega)⟩⟩,⟨⟨ends.2.1,ends.1,ends.2.2.2,ends.2.2.1⟩,.inr ⟨Gc.2 (by omega),Gc.2 ?_⟩⟩⟩
 have e1:crs (plV v y) (plV v x) (plV v a) = -crs (plV v x) (plV v y) (plV v a):=Ax _ _ _
 have e2:crs (plV v y) (plV v x) (plV v b) = -crs (plV v x) (plV v y) (plV v b):=Ax _ _ _
 omega
theorem Aeh (ht:Tri (plV v) (inN v.length) ap) (ha:inN v.length a) (hb:inN v.length b) (hf:Free v a b) {x y:Int} (hs:ap x y≠none\/ap y x≠none):Gr v a b x y↔Cr v a b x y\/Cr v a b y x:=by
 constructor
 ·rintro ⟨⟨n1,n2,n3,n4⟩,h⟩
  have vxy:inN v.length x/\inN v.length y:=by
   rcases hs with hs | hs <;> obtain ⟨z,hz⟩:=Option.ne_none_iff_exists'.1 hs <;> obtain ⟨p,q,_⟩:=ht.ccw _ _ _ hz
   ·exact ⟨p,q⟩
   ·exact ⟨q,p⟩
  have nb:∀ k,inN v.length k->k≠x->k≠y->¬ BtwF (plV v x) (plV v y) (plV v k):=fun k hk k1 k2 g=>by
   rcases hs with hs | hs <;> obtain ⟨z,hz⟩:=Option.ne_none_iff_exists'.1 hs
   ·exact Yo ht hz hk k1 k2 g
   ·refine Yo ht hz hk k2 k1 ⟨⟨?_,fun e=>g.1.2 e.symm⟩,g.2.2,g.2.1⟩
    rw[Ax];have:=g.1.1;omega
  rcases h with (g | g | g | g) | ⟨g1,g2⟩
  ·exact absurd g.1 (hf x vxy.1 (fun e=>n1 e.symm) (fun e=>n3 e.symm))
  ·exact absurd g.1 (hf y vxy.2 (fun e=>n2 e.symm) (fun e=>n4 e.symm))
  ·exact absurd g (nb a ha n1 n2)
  ·exact absurd g (nb b hb n3 n4)
  ·have e:crs (plV v x) (plV v y) (plV v b)-crs (plV v x) (plV v y) (plV v a)=crs (plV v a) (plV v b) (plV v x)-crs (plV v a) (plV v b) (plV v y):=by unfold crs;grind
   have e1:crs (plV v y) (plV v x) (plV v a) = -crs (plV v x) (plV v y) (plV v a):=Ax _ _ _
   have e2:crs (plV v y) (plV v x) (plV v b) = -crs (plV v x) (plV v y) (plV v b):=Ax _ _ _
   rw[Gc] at g1 g2
   rcases g1 with ⟨g1,g1'⟩ | ⟨g1,g1'⟩
   ·exact .inl ⟨g1,g1',by omega,by omega⟩
   ·exact .inr ⟨g1',g1,by omega,by omega⟩
 ·rintro (h | h)
  ·exact h.cross.1
  ·exact h.cross.2
theorem fwd (ht:Tri (plV v) (inN v.length) ap) {u w k:Int} (h1:0 < crs (plV v a) (plV v b) (plV v u)) (h2:crs (plV v a) (plV v b) (plV v w) < 0) (h3:crs (plV v u) (plV v w) (plV v a) < 0) (hk:ap u w=some k) :
  (0 < crs (plV v a) (plV v b) (plV v k)->crs (plV v k) (plV v w) (plV v a) < 0)/\(crs (plV v a) (plV v b) (plV v k) < 0->crs (plV v u) (plV v k) (plV v a) < 0):=by
 obtain ⟨vu,vw,vk,T⟩:=ht.ccw _ _ _ hk
 have sa:=Ou (plV v u) (plV v w) (plV v k) (plV v a)
 have ba:=Arp (plV v a) (plV v b) (plV v u) (plV v w) (plV v k) (plV v a)
 rw[Bp,Int.mul_zero] at ba
 constructor
 ·intro g
  refine Classical.byContradiction fun n=>?_
  have e:crs (plV v w) (plV v k) (plV v a) = -crs (plV v k) (plV v w) (plV v a):=Ax _ _ _
  have m1:=Int.mul_nonneg (show 0<=-crs (plV v w) (plV v k) (plV v a) by omega) (Int.le_of_lt h1)
  have m2:=Int.mul_pos (show 0 < -crs (plV v u) (plV v w) (plV v a) by omega) g
  rw[Int.neg_mul] at m1 m2
  have:=Ce (x:=-crs (plV v a) (plV v b) (plV v w)) (y:=-crs (plV v k) (plV v u) (plV v a)) (by rw[Int.neg_mul_neg,Int.mul_comm];omega) (by omega)
  omega
 ·intro g
  refine Classical.byContradiction fun n=>?_
  have e:crs (plV v k) (plV v u) (plV v a) = -crs (plV v u) (plV v k) (plV v a):=Ax _ _ _
  have m1:=Int.mul_nonneg (show 0<=-crs (plV v k) (plV v u) (plV v a) by omega) (show 0<=-crs (plV v a) (plV v b) (plV v w) by omega)
  have m2:=Int.mul_pos (show 0 < -crs (plV v u) (plV v w) (plV v a) by omega) (show 0 < -crs (plV v a) (plV v b) (plV v k) by omega)
  rw[Int.neg_mul_neg] at m1 m2
  have:=Ce (x:=crs (plV v a) (plV v b) (plV v u)) (y:=-crs (plV v w) (plV v k) (plV v a)) (by rw[Int.mul_neg,Int.mul_comm];omega) h1
  omega
theorem Dw.cr {m:Nat} {u w:Nat->Int} (h:Dw (plV v) ap a b m u w) (ht:Tri (plV v) (inN v.length) ap):∀ i,i < m->Cr v a b (u i) (w i):=by
 have ra:∀ i,i < m->crs (plV v (u i)) (plV v (w i)) (plV v a) < 0:=by
  intro i
  induction i with
  | zero=>
   intro hi
   have:=(ht.ccw _ _ _ (h.first hi)).2.2.2
   rw[Ax] at this
   omega
  | succ i ih=>
   intro hi
   have g:=ih (by omega)
   rcases h.next i hi with ⟨k1,k2⟩ | ⟨k1,k2⟩
   ·rw[k1]
    exact (fwd ht (h.up i (by omega)) (h.lo i (by omega)) g k2).2 (h.lo _ hi)
   ·rw[k1]
    exact (fwd ht (h.up i (by omega)) (h.lo i (by omega)) g k2).1 (h.up _ hi)
 have rb:∀ d,d < m->0 < crs (plV v (u (m-1-d))) (plV v (w (m-1-d))) (plV v b):=by
  intro d
  induction d with
  | zero=>
   intro hi
   exact (ht.ccw _ _ _ (h.last (m-1-0) (by omega))).2.2.2
  | succ d ih=>
   intro hi
   have g:=ih (by omega)
   have hd:=h.prev ht (i:=m-1-(d+1)) (by omega)
   rw[show m-1-(d+1)+1=m-1-d by omega] at hd
   have i1:=h.up (m-1-d) (by omega)
   have i2:=h.lo (m-1-d) (by omega)
   have i3:=h.up (m-1-(d+1)) (by omega)
   have i4:=h.lo (m-1-(d+1)) (by omega)
   have s1:∀ z,crs (plV v b) (plV v a) z = -crs (plV v a) (plV v b) z:=fun z=>Ax _ _ _
   rcases hd with ⟨k1,k2⟩ | ⟨k1,k2⟩
   ·have:=(fwd (a:=b) (b:=a) ht (by rw[s1];omega) (by rw[s1];omega) (by rw[Ax];omega) k2).1 (by rw[s1];omega)
    rw[k1,Ax] at this
    omega
   ·have:=(fwd (a:=b) (b:=a) ht (by rw[s1];omega) (by rw[s1];omega) (by rw[Ax];omega) k2).2 (by rw[s1];omega)
    rw[k1,Ax] at this
    omega
 intro i hi
 have:=rb (m-1-i) (by omega)
 rw[show m-1-(m-1-i)=i by omega] at this
 exact ⟨h.up i hi,h.lo i hi,ra i hi,this⟩
theorem Alj {σ τ γ:Type} {B:σ->Option (Sum σ τ)} (I:σ->γ->Prop) (R:σ->γ->σ->γ->Prop) (Post:τ->Prop)
  (step:∀ s g,I s g->(∃ t,B s=some (.inr t)/\Post t)\/∃ s' g',B s=some (.inl s')/\I s' g'/\R s g s' g')
  (noinf:∀ f:Nat->σ × γ,(∀ n,I (f n).1 (f n).2)->(∀ n,R (f n).1 (f n).2 (f (n+1)).1 (f (n+1)).2)->False) :
  ∀ s g,I s g->∃ t,lfix B s=some t/\Post t:=by
 intro s g h
 refine Classical.byContradiction fun hno=>?_
 have next:∀ x:{x:σ × γ // I x.1 x.2/\¬ ∃ t,lfix B x.1=some t/\Post t},∃ y:{x:σ × γ // I x.1 x.2/\¬ ∃ t,lfix B x.1=some t/\Post t},R x.1.1 x.1.2 y.1.1 y.1.2:=by
  rintro ⟨⟨s,g⟩,hi,hn⟩
  simp only at hi hn
  rcases step s g hi with ⟨t,h1,h2⟩ | ⟨s',g',h1,h2,h3⟩
  ·exact absurd ⟨t,by rw[Bk,h1],h2⟩ hn
  ·refine ⟨⟨(s',g'),h2,fun ⟨t,h4,h5⟩=>hn ⟨t,?_,h5⟩⟩,h3⟩
   rw[Bk,h1]
   exact h4
 let F:Nat->{x:σ × γ // I x.1 x.2/\¬ ∃ t,lfix B x.1=some t/\Post t}:=fun n=>Nat.rec ⟨(s,g),h,hno⟩ (fun _ x=>Classical.choose (next x)) n
 exact noinf (fun n=>(F n).1) (fun n=>(F n).2.1) (fun n=>Classical.choose_spec (next (F n)))
theorem Aei {m:Nat->Nat} (h:∀ n,m (n+1)<=m n):∃ T,∀ n,T<=n->m n=m T:=by
 have mono:∀ a d,m (a+d)<=m a:=by
  intro a d
  induction d with
  | zero=>exact Nat.le_refl _
  | succ d ih=>exact Nat.le_trans (h (a+d)) ih
 have key:∀ N T,m T=N->∃ T,∀ n,T<=n->m n=m T:=by
  intro N
  induction N using Nat.strongRecOn with
  | ind N ih=>
   intro T hT
   by_cases c:∃ n,T<=n/\m n≠m T
   ·obtain ⟨n,h1,h2⟩:=c
    have:=mono T (n-T)
    rw[show T+(n-T)=n by omega] at this
    exact ih (m n) (by omega) n rfl
   ·exact ⟨T,fun n hn=>Classical.byContradiction fun g=>c ⟨n,hn,g⟩⟩
 exact key _ 0 rfl
theorem Ape {π:Nat->List Nat} (h:∀ t,∃ i l,π t=i::l/\π (t+1)=l++[i]):∀ k t,k<=(π t).length->π (t+k)=(π t).drop k++(π t).take k:=by
 intro k
 induction k with
 | zero=>intro t _;simp
 | succ k ih=>
  intro t hk
  have e:=ih t (by omega)
  obtain ⟨i,l,h1,h2⟩:=h (t+k)
  rw[show t+(k+1)=t+k+1 by omega,h2]
  rw[h1] at e
  have hd:(π t).drop k=(π t)[k]::(π t).drop (k+1):=(List.drop_eq_getElem_cons (by omega))
  rw[hd,List.cons_append] at e
  injection e with e1 e2
  rw[e1,e2,List.append_assoc]
  congr 1
  rw[List.take_succ_eq_append_getElem (by omega)]
theorem Apf {π:Nat->List Nat} {m:Nat} (h:∀ t,∃ i l,π t=i::l/\π (t+1)=l++[i]) (hn:∀ t,(π t).Nodup) (hm:∀ t i,i∈π t↔i < m) :
  (∀ t i,i < m->∃ t',t<=t'/\t' < t+m/\(π t').headD 0=i)/\(∀ t t',t < t'->t' < t+m->(π t).headD 0≠(π t').headD 0)/\∀ t,(π t).headD 0 < m:=by
 have len:∀ t,(π t).length=m:=fun t=>by
  have p:(π t).Perm (List.range m):=(List.perm_ext_iff_of_nodup (hn t) List.nodup_range).2 fun i=>by rw[hm t i,List.mem_range]
  rw[p.length_eq,List.length_range]
 have head:∀ t k (hk:k < (π t).length),(π (t+k)).headD 0=(π t)[k]:=fun t k hk=>by
  rw[Ape h k t (by omega),List.drop_eq_getElem_cons hk,List.cons_append]
  rfl
 refine ⟨fun t i hi=>?_,fun t t' h1 h2 e=>?_,fun t=>?_⟩
 ·obtain ⟨k,hk,e⟩:=List.mem_iff_getElem.1 ((hm t i).2 hi)
  have:=len t
  exact ⟨t+k,by omega,by omega,by rw[head t k hk];exact e⟩
 ·have l:=len t
  have e1:=head t 0 (by omega)
  have e2:=head t (t'-t) (by omega)
  rw[show t+(t'-t)=t' by omega] at e2
  rw[Nat.add_zero] at e1
  rw[e1,e2] at e
  exact (List.pairwise_iff_getElem.1 (hn t)) 0 (t'-t) (by omega) (by omega) (by omega) e
 ·obtain ⟨i,l,h1,_⟩:=h t
  have:=(hm t i).1 (by rw[h1];exact List.mem_cons_self)
  rw[h1]
  exact this
theorem Apg (i j k l:Ac):crs i l k+crs j k l=crs i j k+crs j i l:=by unfold crs;grind
theorem Yp {i j k l:Ac} (h1:0 < crs i j k) (h2:0 < crs j i l):(Int.sign (crs k l i)*Int.sign (crs k l j) = -1)↔(0 < crs i l k/\0 < crs j k l):=by
 have e1:crs k l i = -crs i l k:=by unfold crs;grind
 have e2:crs k l j=crs j k l:=by unfold crs;grind
 have ha:=Apg i j k l
 rw[e1,e2]
 generalize crs i l k=x at *
 generalize crs j k l=y at *
 rcases Int.lt_trichotomy x 0 with h | h | h <;> rcases Int.lt_trichotomy y 0 with k' | k' | k'
 all_goals first
  | omega
  | (subst h;simp;try omega)
  | (subst k';simp;try omega)
  | (rw[Int.sign_eq_one_of_pos (by omega),Int.sign_eq_neg_one_of_neg k'];omega)
  | (rw[Int.sign_eq_one_of_pos (show 0 < -x by omega),Int.sign_eq_one_of_pos k'];omega)
  | (rw[Int.sign_eq_neg_one_of_neg (show -x < 0 by omega),Int.sign_eq_neg_one_of_neg k'];omega)
  | (rw[Int.sign_eq_neg_one_of_neg (show -x < 0 by omega),Int.sign_eq_one_of_pos k'];omega)
section
variable {v:List Ab} {F:List (Aa × Bool)} {m:Mp} {i j k l:Int}
theorem Au6 (hv:Bu v) (hn:v.length<=1024) (hm:MapN v.length m) (ht:Tri (plV v) (inN v.length) (apM m)) (hk:apM m i j=some k) (hl:apM m j i=some l) :
  (¬ (0 < crs (plV v i) (plV v l) (plV v k)/\0 < crs (plV v j) (plV v k) (plV v l))/\Ck ⟨v,m,F⟩ (pr2 i j).a0 (pr2 i j).a1=some (⟨v,m,F⟩,false)) \/
  ∃ m',Quad (plV v) (inN v.length) (apM m) i j k l/\Ck ⟨v,m,F⟩ (pr2 i j).a0 (pr2 i j).a1=some (⟨v,m',F⟩,true)/\MapN v.length m'/\apM m'=Dq (apM m) i j k l:=by
 obtain ⟨vi,vj,vk,c1⟩:=ht.ccw _ _ _ hk
 obtain ⟨_,_,vl,c2⟩:=ht.ccw _ _ _ hl
 have hij:=(ht.ne hk).1
 by_cases c:i<=j
 ·have e0:(pr2 i j).a0=i:=by unfold pr2;simp only;omega
  have e1:(pr2 i j).a1=j:=by unfold pr2;simp only;omega
  rw[e0,e1,Ai1 (b:=⟨v,m,F⟩) hv hn hm hk hl]
  by_cases s:0 < crs (plV v i) (plV v l) (plV v k)/\0 < crs (plV v j) (plV v k) (plV v l)
  ·right
   have q:Quad (plV v) (inN v.length) (apM m) i j k l:=⟨ht,hk,hl,s.1,s.2⟩
   obtain ⟨n1,n2,n3,n4,n5,n6⟩:=q.ne
   exact ⟨flipM m i j k l,q,by rw[if_pos ((Yp c1 c2).2 s)],hm.flipM vi vj vk vl,Vn hm.ok n1 n2 n3 n4 n5 n6⟩
  ·left
   exact ⟨s,by rw[if_neg fun g=>s ((Yp c1 c2).1 g)]⟩
 ·have e0:(pr2 i j).a0=j:=by unfold pr2;simp only;omega
  have e1:(pr2 i j).a1=i:=by unfold pr2;simp only;omega
  rw[e0,e1,Ai1 (b:=⟨v,m,F⟩) hv hn hm hl hk]
  by_cases s:0 < crs (plV v i) (plV v l) (plV v k)/\0 < crs (plV v j) (plV v k) (plV v l)
  ·right
   have q:Quad (plV v) (inN v.length) (apM m) i j k l:=⟨ht,hk,hl,s.1,s.2⟩
   obtain ⟨n1,n2,n3,n4,n5,n6⟩:=q.ne
   exact ⟨flipM m j i l k,q,by rw[if_pos ((Yp c2 c1).2 ⟨s.2,s.1⟩)],hm.flipM vj vi vl vk,by
    rw[Vn hm.ok (fun e=>n1 e.symm) (fun e=>n2 e.symm) n6 n5 n4 n3]
    exact Aqe _ _ _ _ _ n1 n2 n3 n4 n5 n6⟩
  ·left
   exact ⟨s,by rw[if_neg fun g=>s (by have:=(Yp c2 c1).1 g;exact ⟨this.2,this.1⟩)]⟩
theorem Vw (h1:inN v.length i) (h2:inN v.length j):inN v.length (pr2 i j).a0/\inN v.length (pr2 i j).a1:=by
 unfold pr2 inN at *
 simp only
 omega
theorem Au7 (hk:apM m i j=some k) (hl:apM m j i=some l):∃ x y,mget m (pr2 i j)=some x/\mget m ⟨(pr2 i j).a1,(pr2 i j).a0⟩=some y/\pr2 x y=pr2 k l:=by
 by_cases c:i<=j
 ·have e:pr2 i j=⟨i,j⟩:=by unfold pr2;rw[Id];omega
  rw[e]
  exact ⟨k,l,hk,hl,rfl⟩
 ·have e:pr2 i j=⟨j,i⟩:=by unfold pr2;rw[Id];omega
  rw[e]
  exact ⟨l,k,hl,hk,Ml _ _⟩
end
section
variable {v:List Ab} {ap:Ap} {a b:Int}
theorem Cr.ends {x y:Int} (h:Cr v a b x y):x≠a/\x≠b/\y≠a/\y≠b:=by
 obtain ⟨h1,h2,_,_⟩:=h
 refine ⟨fun e=>?_,fun e=>?_,fun e=>?_,fun e=>?_⟩
 ·rw[e,Bp] at h1;omega
 ·rw[e,Bi] at h1;omega
 ·rw[e,Bp] at h2;omega
 ·rw[e,Bi] at h2;omega
theorem Cr.both (ht:Tri (plV v) (inN v.length) ap) (hc:Cov (plV v) (inN v.length) ap) (ha:inN v.length a) (hb:inN v.length b) {x y:Int} (h:Cr v a b x y) (hs:ap x y≠none\/ap y x≠none):(∃ k,ap x y=some k)/\∃ l,ap y x=some l:=by
 have r1:=h.ra
 have r2:=h.rb
 have e1:crs (plV v y) (plV v x) (plV v b) = -crs (plV v x) (plV v y) (plV v b):=Ax _ _ _
 rcases hs with hs | hs <;> obtain ⟨k,hk⟩:=Option.ne_none_iff_exists'.1 hs
 ·refine ⟨⟨k,hk⟩,?_⟩
  rcases e:ap y x with _ | l
  ·have:=hc _ _ _ hk e a ha
   omega
  ·exact ⟨l,rfl⟩
 ·refine ⟨?_,⟨k,hk⟩⟩
  rcases e:ap x y with _ | l
  ·have:=hc _ _ _ hk e b hb
   omega
  ·exact ⟨l,rfl⟩
theorem Ab4 (ht:Tri (plV v) (inN v.length) ap) (hc:Cov (plV v) (inN v.length) ap) (ha:inN v.length a) (hb:inN v.length b) (hf:Free v a b) (hs:ap a b≠none\/ap b a≠none) {x y:Int} (h:Cr v a b x y):¬ (ap x y≠none\/ap y x≠none):=fun g=>by
 obtain ⟨⟨k,hk⟩,_⟩:=h.both ht hc ha hb g
 obtain ⟨M,U,W,hM,_,_,hr⟩:=Ahs ht hc ha hb hf h hk
 have hl:=hr.last (M-1) (by omega)
 have cr:=hr.cr (M-1) (by omega)
 have h1:=ht.rot2 hl
 refine ht.cone b (U (M-1)) (W (M-1)) a h1 (hs.symm) ⟨?_,?_⟩
 ·have:=cr.up
  rw[<- An] at this
  rw[<- An] at this
  have e:crs (plV v b) (plV v (U (M-1))) (plV v a)=crs (plV v a) (plV v b) (plV v (U (M-1))):=by unfold crs;grind
  rw[e];exact cr.up
 ·have e:crs (plV v b) (plV v a) (plV v (W (M-1))) = -crs (plV v a) (plV v b) (plV v (W (M-1))):=by unfold crs;grind
  have:=cr.lo
  rw[e];omega
theorem Ar1 (hv:Bu v) (ht:Tri (plV v) (inN v.length) ap) (hc:Cov (plV v) (inN v.length) ap) (ha:inN v.length a) (hb:inN v.length b) (hab:a≠b) (hf:Free v a b) (hcone:Vt (plV v) ap a b) :
  ∃ M u w,Dw (plV v) ap a b M u w/\(M=0->ap a b≠none\/ap b a≠none)/\∀ x y,Cr v a b x y->(ap x y≠none\/ap y x≠none)->∃ i,i < M/\x=u i/\y=w i:=by
 rcases Ahq hv ht ha hb hab hf hcone with hs | ⟨x,y,h0,h1,h2⟩
 ·exact ⟨0,fun _=>0,fun _=>0,⟨fun i hi=>by omega,fun i hi=>by omega,fun hi=>by omega,fun i hi=>by omega,fun i hi=>by omega⟩,fun _=>hs,fun x y h g=>absurd g (Ab4 ht hc ha hb hf hs h)⟩
 ·obtain ⟨vx,vy,_,T⟩:=ht.ccw _ _ _ h0
  have nbx:b≠x:=fun e=>by rw[<- e,Bi] at h1;omega
  have nby:b≠y:=fun e=>by rw[<- e,Bi] at h2;omega
  have em:=ht.emp _ _ _ h0 b hb nbx nby (fun e=>hab e.symm)
  have k1:crs (plV v y) (plV v a) (plV v b)=crs (plV v a) (plV v b) (plV v y):=by unfold crs;grind
  have k2:crs (plV v a) (plV v x) (plV v b) = -crs (plV v a) (plV v b) (plV v x):=by unfold crs;grind
  have k3:crs (plV v y) (plV v x) (plV v b) = -crs (plV v x) (plV v y) (plV v b):=Ax _ _ _
  have k4:crs (plV v y) (plV v x) (plV v a) = -crs (plV v x) (plV v y) (plV v a):=Ax _ _ _
  have cr:Cr v a b y x:=⟨h2,h1,by omega,by omega⟩
  obtain ⟨⟨k,hk⟩,_⟩:=cr.both ht hc ha hb (.inr (by rw[h0];simp))
  obtain ⟨M,U,W,hM,e1,e2,hr⟩:=Ahs ht hc ha hb hf cr hk
  have h00:ap (W 0) (U 0)=some a:=by rw[e1,e2];exact h0
  refine ⟨M,U,W,hr.strip h00,fun h=>by omega,fun x' y' hcr hs=>?_⟩
  obtain ⟨⟨k',hk'⟩,_⟩:=hcr.both ht hc ha hb hs
  obtain ⟨M',U',W',hM',e1',e2',hr'⟩:=Ahs ht hc ha hb hf hcr hk'
  obtain ⟨i,hi,g1,g2⟩:=hr.has ht h00 hM hr' hM'
  exact ⟨i,hi,by rw[g1,e1'],by rw[g2,e2']⟩
theorem Dw.pr_inj {M:Nat} {u w:Nat->Int} (h:Dw (plV v) ap a b M u w) {i j:Nat} (hi:i < M) (hj:j < M) (e:pr2 (u i) (w i)=pr2 (u j) (w j)):i=j:=by
 rcases Af1 e with ⟨e1,e2⟩ | ⟨e1,e2⟩
 ·rcases Nat.lt_trichotomy i j with g | g | g
  ·exact absurd ⟨e1,e2⟩ (h.inj i j g hj)
  ·exact g
  ·exact absurd ⟨e1.symm,e2.symm⟩ (h.inj j i g hi)
 ·have k1:=h.up i hi
  have k2:=h.lo j hj
  rw[e1] at k1;omega
end
def Sd (ap:Ap) (x y:Int):Prop:=ap x y≠none\/ap y x≠none
structure Rn (v:List Ab) (a b:Int) (m0 m:Mp) (q:List Aa) (M:Nat) (u w:Nat->Int) (π:List Nat):Prop where
 map:MapN v.length m
 tri:Tri (plV v) (inN v.length) (apM m)
 cov:Cov (plV v) (inN v.length) (apM m)
 ne:m≠[]
 strip:Dw (plV v) (apM m) a b M u w
 nd:π.Nodup
 all:∀ i,i∈π↔i < M
 que:q=π.map fun i=>pr2 (u i) (w i)
 fin:M=0->Sd (apM m) a b
 keep:∀ x y,¬ Cr v a b x y->¬ Cr v a b y x->Sd (apM m0) x y->Sd (apM m) x y
 len:π.length<=1048576
section
variable {v:List Ab} {a b:Int}
theorem Aej {ap:Ap} (ht:Tri (plV v) (inN v.length) ap) (ha:inN v.length a) (hb:inN v.length b) (hf:Free v a b) {k l:Int} (hs:ap k l≠none\/ap l k≠none) :
  Gr v a b (pr2 k l).a0 (pr2 k l).a1↔Cr v a b k l\/Cr v a b l k:=by
 by_cases c:k<=l
 ·have e0:(pr2 k l).a0=k:=by unfold pr2;simp only;omega
  have e1:(pr2 k l).a1=l:=by unfold pr2;simp only;omega
  rw[e0,e1]
  exact Aeh ht ha hb hf hs
 ·have e0:(pr2 k l).a0=l:=by unfold pr2;simp only;omega
  have e1:(pr2 k l).a1=k:=by unfold pr2;simp only;omega
  rw[e0,e1,Aeh ht ha hb hf hs.symm]
  exact Or.comm
theorem Aph {ap:Ap} {i j k l x y:Int} (h:Sd ap x y) (h1:¬ (x=i/\y=j)) (h2:¬ (x=j/\y=i)):Sd (Dq ap i j k l) x y:=by
 unfold Sd at *
 rcases h with h | h
 ·left
  intro g
  rcases Vk g with g | g | g
  ·exact h g
  ·exact h1 g
  ·exact h2 g
 ·right
  intro g
  rcases Vk g with g | g | g
  ·exact h g
  ·exact h2 ⟨g.2,g.1⟩
  ·exact h1 ⟨g.2,g.1⟩
def Aek (i j:Nat):Nat:=if j < i then j else j-1
theorem Agn (i:Nat) (f:Nat->Int) {j:Nat} (hj:j≠i):cutF i f (Aek i j)=f j:=by
 unfold cutF Aek
 by_cases c:j < i
 ·rw[if_pos c,if_pos c]
 ·rw[if_neg c,if_neg (by omega),show j-1+1=j by omega]
theorem Rn.round (hv:Bu v) (hn:v.length<=1024) (ha:inN v.length a) (hb:inN v.length b) (hf:Free v a b) {F:List (Aa × Bool)} {m0 m:Mp} {q:List Aa} {M i:Nat} {u w:Nat->Int} {π:List Nat} (h:Rn v a b m0 m q M u w (i::π)) :
  ∃ m' q' M' u' w' π',Bx ⟨a,b⟩ (v,m,F,q)=some (.inl (v,m',F,q'))/\Rn v a b m0 m' q' M' u' w' π' /\
   (M' < M\/(M'=M/\π'=π++[i]/\((Vr (plV v) (apM m) u w i/\apM m'=apM m/\u'=u/\w'=w)\/Aax (plV v) (inN v.length) M (apM m) u w i (apM m') u' w'))):=by
 have hi:i < M:=(h.all i).1 List.mem_cons_self
 obtain ⟨k,hk⟩:=h.strip.someR hi
 obtain ⟨l,hl⟩:=h.strip.someL h.tri hi
 obtain ⟨vu,vw,vk,_⟩:=h.tri.ccw _ _ _ hk
 obtain ⟨_,_,vl,_⟩:=h.tri.ccw _ _ _ hl
 obtain ⟨x,y,hx,hy,hxy⟩:=Au7 hk hl
 obtain ⟨nd1,nd2⟩:=List.nodup_cons.1 h.nd
 have hlen:=h.len
 rw[List.length_cons] at hlen
 have hq:q=pr2 (u i) (w i)::π.map fun i=>pr2 (u i) (w i):=by rw[h.que,List.map_cons]
 have hr:=Vw vu vw
 have hne:∀ j∈π,j≠i:=fun j hj e=>nd1 (e ▸ hj)
 have inp:∀ j,j < M->j≠i->j∈π:=fun j h1 h2=>(List.mem_cons.1 ((h.all j).2 h1)).resolve_left h2
 have hlt:∀ j∈π,j < M:=fun j hj=>(h.all j).1 (List.mem_cons_of_mem _ hj)
 have pre:∀ (fl:Ag × Bool),Ck ⟨v,m,F⟩ (pr2 (u i) (w i)).a0 (pr2 (u i) (w i)).a1=some fl->Bx ⟨a,b⟩ (v,m,F,q) =
   if fl.2=true then (bnd (Hq fl.1.v ⟨a,b⟩ (pr2 k l)) fun r189=>if r189=true then (gd (((π.map fun i=>pr2 (u i) (w i)).length+1)*16<=140737488355328) <| some (.inl (fl.1.v,fl.1.apex,fl.1.fixed,(π.map fun i=>pr2 (u i) (w i))++[pr2 k l]))) else (some (.inl (fl.1.v,fl.1.apex,fl.1.fixed,π.map fun i=>pr2 (u i) (w i)))))
   else (gd (((π.map fun i=>pr2 (u i) (w i)).length+1)*16<=140737488355328) <| some (.inl (fl.1.v,fl.1.apex,fl.1.fixed,(π.map fun i=>pr2 (u i) (w i))++[pr2 (u i) (w i)]))):=fun fl hfl=>by
  unfold Bx
  dsimp only
  rw[hq,if_pos (by simp),show idx (pr2 (u i) (w i)::π.map fun i=>pr2 (u i) (w i)) 0=some (pr2 (u i) (w i)) from rfl,Ad,gd_t ⟨by omega,by simp;omega⟩,gd_t (Mv hn hr.1 hr.2),hx,Ad,gd_t (Mv hn hr.2 hr.1),hy,Ad,hfl,Ad]
  rw[show Fh ((some x).getD 0) ((some y).getD 0)=some (pr2 k l) from by rw[<- hxy];rfl,Ad]
  rfl
 have okl:((π.map fun i=>pr2 (u i) (w i)).length+1)*16<=140737488355328:=by rw[List.length_map];omega
 rcases Au6 (F:=F) hv hn h.map h.tri hk hl with ⟨s,e⟩ | ⟨m',Q,e,hm',ha'⟩
 ·-- it stands
  refine ⟨m,_,M,u,w,π++[i],by rw[pre _ e,if_neg (by simp),gd_t okl],⟨h.map,h.tri,h.cov,h.ne,h.strip,?_,fun j=>?_,by rw[List.map_append];rfl,h.fin,h.keep,by simp;omega⟩,.inr ⟨rfl,rfl,.inl ⟨fun k' l' hk' hl'=>?_,rfl,rfl,rfl⟩⟩⟩
  ·exact (List.perm_append_comm (l₁:=[i]) (l₂:=π)).nodup_iff.1 h.nd
  ·rw[<- h.all j]
   simp only[List.mem_append,List.mem_cons,List.not_mem_nil,or_false]
   exact Or.comm
  ·rw[hk] at hk';rw[hl] at hl'
   obtain rfl:=Option.some.inj hk'
   obtain rfl:=Option.some.inj hl'
   exact s
 ·have tri':Tri (plV v) (inN v.length) (apM m'):=by rw[ha'];exact Q.flip
  have cov':Cov (plV v) (inN v.length) (apM m'):=by rw[ha'];exact Q.cov h.cov
  have vals:=Yf Q
  have ne':m'≠[]:=fun e=>by
   have:=vals.1
   rw[<- ha',e] at this
   cases this
  have hs':apM m' k l≠none\/apM m' l k≠none:=.inr (by rw[ha',vals.2.1];simp)
  have cr0:=h.strip.cr h.tri i hi
  have keep':∀ x y,¬ Cr v a b x y->¬ Cr v a b y x->Sd (apM m0) x y->Sd (apM m') x y:=fun x y n1 n2 hs=>by
   rw[ha']
   exact Aph (h.keep x y n1 n2 hs) (fun e=>n1 (by rw[e.1,e.2];exact cr0)) (fun e=>n2 (by rw[e.1,e.2];exact cr0))
  have hcr:=Xj hv (k:=⟨a,b⟩) (l:=pr2 k l) ha hb (Vw vk vl).1 (Vw vk vl).2
  have hcp:=Aej tri' ha hb hf hs'
  have cut:((i=0\/i+1=M)\/(0 < i/\i+1 < M/\((u i=u (i-1)/\u (i+1)=u i)\/(w i=w (i-1)/\w (i+1)=w i))))->¬ (Cr v a b k l\/Cr v a b l k)->(M=1->k=b/\l=a) ->
    ∃ m' q' M' u' w' π',Bx ⟨a,b⟩ (v,m,F,q)=some (.inl (v,m',F,q'))/\Rn v a b m0 m' q' M' u' w' π' /\
   (M' < M\/(M'=M/\π'=π++[i]/\((Vr (plV v) (apM m) u w i/\apM m'=apM m/\u'=u/\w'=w)\/Aax (plV v) (inN v.length) M (apM m) u w i (apM m') u' w'))):=fun hc hnc hone=>by
   refine ⟨m',_,M-1,cutF i u,cutF i w,π.map (Aek i),by rw[pre _ e,if_pos rfl,hcr,Ad,if_neg (by rw[decide_eq_true_eq];exact fun g=>hnc (hcp.1 g))],⟨hm',tri',cov',ne',?_,?_,fun j=>?_,?_,fun h0=>?_,keep',by simp;omega⟩,.inl (by omega)⟩
   ·rw[ha'];exact h.strip.cut hi Q hc
   ·unfold List.Nodup
    rw[List.pairwise_map]
    refine List.Pairwise.imp_of_mem (fun {p r} hp hr' hpr e=>?_) nd2
    have:=hne p hp
    have:=hne r hr'
    unfold Aek at e
    split at e <;> split at e <;> omega
   ·rw[List.mem_map]
    constructor
    ·rintro ⟨t,ht',rfl⟩
     have:=hlt t ht'
     have:=hne t ht'
     unfold Aek
     split <;> omega
    ·intro hj
     by_cases c:j < i
     ·exact ⟨j,inp j (by omega) (by omega),by unfold Aek;rw[if_pos c]⟩
     ·exact ⟨j+1,inp (j+1) (by omega) (by omega),by unfold Aek;rw[if_neg (by omega)];omega⟩
   ·rw[List.map_map]
    refine List.map_congr_left fun j hj=>?_
    simp only[Function.comp]
    rw[Agn i u (hne j hj),Agn i w (hne j hj)]
   ·obtain ⟨e1,e2⟩:=hone (by omega)
    unfold Sd
    rw[ha',<- e1,<- e2]
    exact .inl (by rw[vals.2.1];simp)
  have turn:∀ u' w',Dw (plV v) (apM m') a b M u' w'->(∀ j,j≠i->u' j=u j)->(∀ j,j≠i->w' j=w j)->pr2 (u' i) (w' i)=pr2 k l->(Cr v a b k l\/Cr v a b l k)->Aax (plV v) (inN v.length) M (apM m) u w i (apM m') u' w' ->
    ∃ m' q' M' u' w' π',Bx ⟨a,b⟩ (v,m,F,q)=some (.inl (v,m',F,q'))/\Rn v a b m0 m' q' M' u' w' π' /\
   (M' < M\/(M'=M/\π'=π++[i]/\((Vr (plV v) (apM m) u w i/\apM m'=apM m/\u'=u/\w'=w)\/Aax (plV v) (inN v.length) M (apM m) u w i (apM m') u' w'))):=fun u' w' hst hu hw he hc ht=>by
   refine ⟨m',_,M,u',w',π++[i],by rw[pre _ e,if_pos rfl,hcr,Ad,if_pos (by rw[decide_eq_true_eq];exact hcp.2 hc),gd_t okl],⟨hm',tri',cov',ne',hst,?_,fun j=>?_,?_,fun h0=>by omega,keep',by simp;omega⟩,.inr ⟨rfl,rfl,.inr ht⟩⟩
   ·exact (List.perm_append_comm (l₁:=[i]) (l₂:=π)).nodup_iff.1 h.nd
   ·rw[<- h.all j]
    simp only[List.mem_append,List.mem_cons,List.not_mem_nil,or_false]
    exact Or.comm
   ·have e2:(π.map fun i=>pr2 (u i) (w i))=π.map fun i=>pr2 (u' i) (w' i):=List.map_congr_left fun j hj=>by rw[hu j (hne j hj),hw j (hne j hj)]
    rw[List.map_append,List.map_singleton,he,e2]
  have up:=h.strip.up
  have lo:=h.strip.lo
  rcases h.strip.left h.tri hi hl with ⟨g1,g2⟩ | ⟨g0,g1,g2⟩ | ⟨g0,g1,g2⟩ <;> rcases h.strip.right hi hk with ⟨k1,k2⟩ | ⟨k0,k1,k2⟩ | ⟨k0,k1,k2⟩
  ·exact cut (.inl (.inl g1)) (fun g=>g.elim (fun g=>g.ends.2.2.1 g2) (fun g=>g.ends.1 g2)) (fun _=>⟨k2,g2⟩)
  ·exact cut (.inl (.inl g1)) (fun g=>g.elim (fun g=>g.ends.2.2.1 g2) (fun g=>g.ends.1 g2)) (fun _=>by omega)
  ·exact cut (.inl (.inl g1)) (fun g=>g.elim (fun g=>g.ends.2.2.1 g2) (fun g=>g.ends.1 g2)) (fun _=>by omega)
  ·exact cut (.inl (.inr k1)) (fun g=>g.elim (fun g=>g.ends.2.1 k2) (fun g=>g.ends.2.2.2 k2)) (fun _=>by omega)
  ·refine cut (.inr ⟨g0,k0,.inl ⟨g1,k1⟩⟩) (fun g=>?_) (fun _=>by omega)
   have p1:=lo (i-1) (by omega)
   have p2:=lo (i+1) (by omega)
   rcases g with g | g
   ·have:=g.up;rw[k2] at this;omega
   ·have:=g.up;rw[g2] at this;omega
  ·obtain ⟨e1,e2,hst⟩:=h.strip.turnU hi Q g0 k0 g1 k1
   have hcr':=(Dw.cr (ap:=apM m') (by rw[ha'];exact hst) tri' i hi)
   have s1:setF i k u i=k:=if_pos rfl
   have s2:setF i l w i=l:=if_pos rfl
   rw[s1,s2] at hcr'
   exact turn (setF i k u) (setF i l w) (by rw[ha'];exact hst) (fun j hj=>if_neg hj) (fun j hj=>if_neg hj) (by rw[s1,s2]) (.inl hcr') ⟨k,l,Q,ha',g0,k0,.inl ⟨g1,k1,rfl,rfl⟩⟩
  ·exact cut (.inl (.inr k1)) (fun g=>g.elim (fun g=>g.ends.2.1 k2) (fun g=>g.ends.2.2.2 k2)) (fun _=>by omega)
  ·obtain ⟨e1,e2,hst⟩:=h.strip.turnL hi Q g0 k0 g1 k1
   have hcr':=(Dw.cr (ap:=apM m') (by rw[ha'];exact hst) tri' i hi)
   have s1:setF i l u i=l:=if_pos rfl
   have s2:setF i k w i=k:=if_pos rfl
   rw[s1,s2] at hcr'
   exact turn (setF i l u) (setF i k w) (by rw[ha'];exact hst) (fun j hj=>if_neg hj) (fun j hj=>if_neg hj) (by rw[s1,s2];exact Ml _ _) (.inr hcr') ⟨k,l,Q,ha',g0,k0,.inr ⟨g1,k1,rfl,rfl⟩⟩
  ·refine cut (.inr ⟨g0,k0,.inr ⟨g1,k1⟩⟩) (fun g=>?_) (fun _=>by omega)
   have p1:=up (i-1) (by omega)
   have p2:=up (i+1) (by omega)
   rcases g with g | g
   ·have:=g.lo;rw[g2] at this;omega
   ·have:=g.lo;rw[k2] at this;omega
end
end Go.Proofs.YtjfndjmabhbicaaGreat
