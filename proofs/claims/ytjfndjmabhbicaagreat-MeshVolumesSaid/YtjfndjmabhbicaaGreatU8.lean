/- In a triangulation, each direction at each vertex lies within a triangle. -/
import Derived.Test.YtjfndjmabhbicaaGreatU6
import Derived.Test.YtjfndjmabhbicaaGreatL4
namespace Go.Proofs.YtjfndjmabhbicaaGreat
open Go Go.RowKit
section
variable {P:Int->Ac} {H:Int->Int} {V:Int->Prop} {ap:Ap}
def Vt (P:Int->Ac) (ap:Ap) (a b:Int):Prop:=∃ x y,ap a x=some y/\0<=crs (P a) (P x) (P b)/\0<=crs (P a) (P b) (P y)
theorem Bam {s j x y b:Ac} (h:0 < crs s x y) (h1:0<=crs s x b) (h2:0<=crs s b y) (h3:0 < crs s j x) (h4:0 < crs s j y):0<=crs s j b:=by
 have e:crs s x y*crs s j b=crs s b y*crs s j x+crs s x b*crs s j y:=by unfold crs;grind
 have m1:=Int.mul_nonneg h2 (Int.le_of_lt h3)
 have m2:=Int.mul_nonneg h1 (Int.le_of_lt h4)
 exact Na (x:=crs s x y) (by omega) h
theorem Ban {s j x y b:Ac} (h:0 < crs s x y) (h1:0<=crs s x b) (h2:0<=crs s b y) (h3:0 < crs s x j) (h4:0 < crs s y j):0<=crs s b j:=by
 have e:crs s x y*crs s b j=crs s b y*crs s x j+crs s x b*crs s y j:=by unfold crs;grind
 have m1:=Int.mul_nonneg h2 (Int.le_of_lt h3)
 have m2:=Int.mul_nonneg h1 (Int.le_of_lt h4)
 exact Na (x:=crs s x y) (by omega) h
theorem Quad.cone_back {i j k l:Int} (q:Quad P V ap i j k l) {a b:Int} (h:Vt P (Dq ap i j k l) a b):Vt P ap a b:=by
 have half:∀ {i j k l:Int},Quad P V ap i j k l->∀ x y,(a=i/\x=l/\y=k)\/(a=l/\x=k/\y=i)\/(a=k/\x=i/\y=l)->0<=crs (P a) (P x) (P b)->0<=crs (P a) (P b) (P y)->Vt P ap a b:=by
  intro i j k l q x y hc g1 g2
  have ck:=(q.tri.ccw _ _ _ q.hk).2.2.2
  have cl:=(q.tri.ccw _ _ _ q.hl).2.2.2
  rcases hc with ⟨rfl,rfl,rfl⟩ | ⟨rfl,rfl,rfl⟩ | ⟨rfl,rfl,rfl⟩
  ·rcases Int.le_total 0 (crs (P a) (P j) (P b)) with g | g
   ·exact ⟨j,y,q.hk,g,g2⟩
   ·exact ⟨x,j,q.tri.rot _ _ _ q.hl,g1,by rw[Bd];omega⟩
  ·refine ⟨j,y,q.tri.rot2 q.hl,?_,g2⟩
   exact Bam (by rw[<- An];rw[<- An];rw[An];rw[<- An];first | exact q.c1 | (rw[An];exact q.c1)) g1 g2 (by first | exact q.c2 | (rw[An];exact q.c2) | (rw[An,An];exact q.c2)) (by first | exact cl | (rw[An];exact cl) | (rw[An,An];exact cl))
  ·refine ⟨x,j,q.tri.rot2 q.hk,g1,?_⟩
   exact Ban (by first | exact q.c1 | (rw[An];exact q.c1) | (rw[An,An];exact q.c1)) g1 g2 (by first | exact ck | (rw[An];exact ck) | (rw[An,An];exact ck)) (by first | exact q.c2 | (rw[An];exact q.c2) | (rw[An,An];exact q.c2))
 obtain ⟨x,y,hf,g1,g2⟩:=h
 rcases Oz hf with c | c | c | c | c | c | ⟨c,_⟩
 ·exact half q x y (.inl c) g1 g2
 ·exact half q x y (.inr (.inl c)) g1 g2
 ·exact half q x y (.inr (.inr c)) g1 g2
 ·exact half q.symm x y (.inl c) g1 g2
 ·exact half q.symm x y (.inr (.inl c)) g1 g2
 ·exact half q.symm x y (.inr (.inr c)) g1 g2
 ·exact ⟨x,y,c,g1,g2⟩
def c2 (n:Int) (x y a b:Ac):Int:=n*crs x y a+crs x y b
def p2 (n ha hb hc:Int) (x y z a b:Ac):Int:=n*plt ha hb hc x y z a+plt ha hb hc x y z b
theorem Apa (n ha hb hc hd:Int) (a b c d p q:Ac):p2 n hb ha hd b a d p q*crs a b c-p2 n ha hb hc a b c p q*crs b a d=Dt ha hb hc hd a b c d*c2 n a b p q:=by
 have h1:=Qc ha hb hc hd a b c d p
 have h2:=Qc ha hb hc hd a b c d q
 unfold p2 c2
 have e:(n*plt hb ha hd b a d p+plt hb ha hd b a d q)*crs a b c-(n*plt ha hb hc a b c p+plt ha hb hc a b c q)*crs b a d=n*(plt hb ha hd b a d p*crs a b c-plt ha hb hc a b c p*crs b a d)+(plt hb ha hd b a d q*crs a b c-plt ha hb hc a b c q*crs b a d):=by grind
 rw[e,h1,h2]
 grind
theorem Arn (n ha hb hc:Int) (a b c p q:Ac):p2 n hb hc ha b c a p q=p2 n ha hb hc a b c p q:=by unfold p2;rw[Abl ha hb hc a b c p,Abl ha hb hc a b c q]
def hgt2 (P:Int->Ac) (H:Int->Int) (n:Int) (t:T3) (p q:Ac):Int:=p2 n (H t.1) (H t.2.1) (H t.2.2) (P t.1) (P t.2.1) (P t.2.2) p q
def Zr (P:Int->Ac) (H:Int->Int) (n:Int) (p q:Ac) (t s:T3):Prop:=hgt2 P H n t p q*Vg P s < hgt2 P H n s p q*Vg P t
instance (n:Int) (p q:Ac) (t s:T3):Decidable (Zr P H n p q t s):=by unfold Zr;infer_instance
theorem Bao {X:List T3} (hX:Aao P X) (n:Int) (p q:Ac) (step:∀ a b c,(a,b,c)∈X->c2 n (P a) (P b) p q < 0->∃ d,(b,a,d)∈X/\DH P H a b c d < 0) :
  ∀ t∈X,∃ s∈X,0<=c2 n (P s.1) (P s.2.1) p q/\0<=c2 n (P s.2.1) (P s.2.2) p q/\0<=c2 n (P s.2.2) (P s.1) p q:=by
 have key:∀ (N:Nat) (t:T3),t∈X->X.countP (fun s=>decide (Zr P H n p q t s))=N->∃ s∈X,0<=c2 n (P s.1) (P s.2.1) p q/\0<=c2 n (P s.2.1) (P s.2.2) p q/\0<=c2 n (P s.2.2) (P s.1) p q:=by
  intro N
  induction N using Nat.strongRecOn with
  | ind N ih=>
   intro t ht hn
   have go:∀ t':T3,t'∈X->hgt2 P H n t' p q=hgt2 P H n t p q->Vg P t'=Vg P t->c2 n (P t'.1) (P t'.2.1) p q < 0 ->
     ∃ s∈X,0<=c2 n (P s.1) (P s.2.1) p q/\0<=c2 n (P s.2.1) (P s.2.2) p q/\0<=c2 n (P s.2.2) (P s.1) p q:=by
    rintro ⟨a,b,c⟩ h1 h2 h3 h4
    obtain ⟨d,h5,h6⟩:=step a b c h1 h4
    have hb:Zr P H n p q t (b,a,d):=by
     unfold Zr
     rw[<- h2,<- h3]
     have e:=Apa n (H a) (H b) (H c) (H d) (P a) (P b) (P c) (P d) p q
     have:0 < Dt (H a) (H b) (H c) (H d) (P a) (P b) (P c) (P d)*c2 n (P a) (P b) p q:=Int.mul_pos_of_neg_of_neg h6 h4
     show p2 _ _ _ _ _ _ _ p q*crs _ _ _ < p2 _ _ _ _ _ _ _ p q*crs _ _ _
     simp only
     omega
    have hpos:∀ u∈X,0 < Vg P u:=fun u hu=>hX.ccw u.1 u.2.1 u.2.2 hu
    have hlt:X.countP (fun s=>decide (Zr P H n p q (b,a,d) s)) < N:=by
     rw[<- hn]
     refine Vf (x:=(b,a,d)) (fun y hy hb2=>?_) h5 (by simpa using hb) (by simp[Zr])
     rw[decide_eq_true_eq] at hb2 ⊢
     exact Wg (hpos t ht) (hpos _ h5) (hpos y hy) hb hb2
    exact ih _ hlt (b,a,d) h5 rfl
   obtain ⟨a,b,c⟩:=t
   by_cases g1:c2 n (P a) (P b) p q < 0
   ·exact go (a,b,c) ht rfl rfl g1
   ·by_cases g2:c2 n (P b) (P c) p q < 0
    ·exact go (b,c,a) (hX.rot _ _ _ ht) (Arn _ _ _ _ _ _ _ _ _) (An _ _ _) g2
    ·by_cases g3:c2 n (P c) (P a) p q < 0
     ·exact go (c,a,b) (hX.rot _ _ _ (hX.rot _ _ _ ht)) (by unfold hgt2;rw[<- Arn]) (by unfold Vg;rw[<- An]) g3
     ·exact ⟨(a,b,c),ht,by simp only;omega,by simp only;omega,by simp only;omega⟩
 exact fun t ht=>key _ t ht rfl
theorem Ahp {n:Int} {x y a b:Ac} (hn:0<=n) (hb:crs x y b < n) (h:0<=c2 n x y a b):0<=crs x y a/\(crs x y a=0->0<=crs x y b):=by
 unfold c2 at h
 constructor
 ·refine Classical.byContradiction fun g=>?_
  have:=Int.mul_le_mul_of_nonneg_left (show crs x y a<=-1 by omega) hn
  omega
 ·intro e;rw[e] at h;omega
end
theorem Aro {v:List Ab} (hv:Bu v) {m:Mp} (hm:MapN v.length m) (ht:Tri (plV v) (inN v.length) (apM m)) (hc:Cov (plV v) (inN v.length) (apM m)) (hl:∀ i j k l,apM m i j=some k->apM m j i=some l->DH (plV v) (hV v) i j k l < 0) (hne:m≠[])
  {a b:Int} (ha:inN v.length a) (hb:inN v.length b):Vt (plV v) (apM m) a b:=by
 have mem:∀ a b c:Int,(a,b,c)∈(m.map fun q=>(q.1.a0,q.1.a1,q.2))↔apM m a b=some c:=fun a b c=>by
  rw[List.mem_map]
  constructor
  ·rintro ⟨⟨⟨x,y⟩,z⟩,hq,e⟩
   cases e
   exact Mf hm.ok hq
  ·intro h
   exact ⟨(⟨a,b⟩,c),Ed h,rfl⟩
 have hX:Aao (plV v) (m.map fun q=>(q.1.a0,q.1.a1,q.2)):=⟨fun a b c h=>(mem _ _ _).2 (ht.rot _ _ _ ((mem _ _ _).1 h)),fun a b c h=>(ht.ccw _ _ _ ((mem _ _ _).1 h)).2.2.2⟩
 have bd:∀ x y z,inN v.length x->inN v.length y->inN v.length z->crs (plV v x) (plV v y) (plV v z) < KK:=fun x y z hx hy hz=>by
  have:=Mw (hv.ok x hx) (hv.ok y hy) (hv.ok z hz)
  unfold KK
  omega
 obtain ⟨t,hmt⟩:=List.exists_mem_of_ne_nil _ hne
 obtain ⟨⟨x,y,z⟩,hs,g1,g2,g3⟩:=Bao (H:=hV v) hX KK (plV v a) (plV v b) (fun x y z hmem hlt=>by
  have h1:=(mem _ _ _).1 hmem
  obtain ⟨vx,vy,vz,_⟩:=ht.ccw _ _ _ h1
  have:∃ e,apM m y x=some e:=by
   rcases e:apM m y x with _ | w
   ·have k1:=hc _ _ _ h1 e a ha
    have k2:=hc _ _ _ h1 e b hb
    unfold c2 at hlt
    have:=Int.mul_nonneg (show (0:Int)<=KK by unfold KK;omega) k1
    omega
   ·exact ⟨w,rfl⟩
  obtain ⟨e,he⟩:=this
  exact ⟨e,(mem _ _ _).2 he,hl _ _ _ _ h1 he⟩) (t.1.a0,t.1.a1,t.2) (List.mem_map.2 ⟨t,hmt,rfl⟩)
 have h1:=(mem _ _ _).1 hs
 obtain ⟨vx,vy,vz,_⟩:=ht.ccw _ _ _ h1
 have n1:=Ahp (by unfold KK;omega) (bd _ _ _ vx vy hb) g1
 have n2:=Ahp (by unfold KK;omega) (bd _ _ _ vy vz hb) g2
 have n3:=Ahp (by unfold KK;omega) (bd _ _ _ vz vx hb) g3
 have cor:a=x\/a=y\/a=z:=by
  refine Classical.byContradiction fun g=>?_
  have:=ht.emp _ _ _ h1 a ha (by omega) (by omega) (by omega)
  omega
 have go:∀ x y z,apM m x y=some z->a=x->(crs (plV v x) (plV v y) (plV v a)=0->0<=crs (plV v x) (plV v y) (plV v b))->(crs (plV v z) (plV v x) (plV v a)=0->0<=crs (plV v z) (plV v x) (plV v b))->Vt (plV v) (apM m) a b:=by
  rintro x y z h rfl k1 k2
  refine ⟨y,z,h,k1 (Bp _ _),?_⟩
  have:=k2 (Bi _ _)
  rw[<- An] at this
  exact this
 rcases cor with e | e | e
 ·exact go x y z h1 e n1.2 n3.2
 ·exact go y z x (ht.rot _ _ _ h1) e n2.2 n1.2
 ·exact go z x y (ht.rot2 h1) e n3.2 n2.2
theorem MapN.flipM {n:Nat} {m:Mp} (h:MapN n m) {i j k l:Int} (hi:inN n i) (hj:inN n j) (hk:inN n k) (hl:inN n l):MapN n (flipM m i j k l):=((h.cutM _ _ _).cutM _ _ _ |>.putM hi hl hk).putM hj hk hl
theorem Aa2 {v:List Ab} (hv:Bu v) {m:Mp} (hm:MapN v.length m) (ht:Tri (plV v) (inN v.length) (apM m)) (hc:Cov (plV v) (inN v.length) (apM m)) (hne:m≠[])
  {a b:Int} (ha:inN v.length a) (hb:inN v.length b):Vt (plV v) (apM m) a b:=by
 have key:∀ (N:Nat) (m:Mp),phi (plV v) (hV v) v.length m=N->MapN v.length m->Tri (plV v) (inN v.length) (apM m)->Cov (plV v) (inN v.length) (apM m)->m≠[]->Vt (plV v) (apM m) a b:=by
  intro N
  induction N using Nat.strongRecOn with
  | ind N ih=>
   intro m hN hm ht hc hne
   by_cases c:∃ i j k l,apM m i j=some k/\apM m j i=some l/\¬ DH (plV v) (hV v) i j k l < 0
   ·obtain ⟨i,j,k,l,hk,hl,hD⟩:=c
    have q:=Ai4 hv ht hk hl hD
    obtain ⟨n1,n2,n3,n4,n5,n6⟩:=q.ne
    have ef:=Vn hm.ok n1 n2 n3 n4 n5 n6
    obtain ⟨vi,vj,vk,_⟩:=ht.ccw _ _ _ hk
    obtain ⟨_,_,vl,_⟩:=ht.ccw _ _ _ hl
    have hpos:0 < DH (plV v) (hV v) i j k l:=by
     have:=(Ace hv vi vj vk vl (ht.ccw _ _ _ hk).2.2.2 (by rw[Ax];have:=(ht.ccw _ _ _ hl).2.2.2;omega)).2
     omega
    have lt:=Ak3 hm.ok (Qk hv) q hpos
    refine q.cone_back ?_
    rw[<- ef]
    refine ih _ (by rw[<- hN];exact lt) _ rfl (hm.flipM vi vj vk vl) (by rw[ef];exact q.flip) (by rw[ef];exact q.cov hc) (fun e=>?_)
    have:=Awu (apM m) i j k l
    rw[<- ef,e] at this
    cases this
   ·exact Aro hv hm ht hc (fun i j k l hk hl=>Classical.byContradiction fun g=>c ⟨i,j,k,l,hk,hl,g⟩) hne ha hb
 exact key _ m rfl hm ht hc hne
theorem Ajg {D d X x:Int} (hD:0 < D) (hd:0 < d) (h:D*x=d*X):(0 < X->0 < x)/\(X < 0->x < 0)/\(X=0->x=0):=by
 refine ⟨fun hX=>?_,fun hX=>?_,fun hX=>?_⟩
 ·have:=Int.mul_pos hd hX
  exact Ce (x:=D) (by omega) hD
 ·have:=Int.mul_pos hd (show 0 < -X by omega)
  have e:d * -X = -(d*X):=Int.mul_neg _ _
  have e2:D * -x = -(D*x):=Int.mul_neg _ _
  have:=Ce (x:=D) (y:=-x) (by omega) hD
  omega
 ·rw[hX,Int.mul_zero] at h
  rcases Int.mul_eq_zero.1 h with g | g <;> omega
def Btw (a b k:Ac):Prop:=crs a b k=0/\¬ (befP a k↔befP b k)
theorem Ale {p q a k b:Ac} (h0:crs a b k=0) (h1:crs p q a < crs p q k) (h2:crs p q k < crs p q b):Btw a b k:=by
 refine ⟨h0,?_⟩
 have ex1:(crs p q b-crs p q a)*(k.X-a.X)=(crs p q k-crs p q a)*(b.X-a.X):=by unfold crs at *;grind
 have ey1:(crs p q b-crs p q a)*(k.Y-a.Y)=(crs p q k-crs p q a)*(b.Y-a.Y):=by unfold crs at *;grind
 have ex2:(crs p q b-crs p q a)*(b.X-k.X)=(crs p q b-crs p q k)*(b.X-a.X):=by unfold crs at *;grind
 have ey2:(crs p q b-crs p q a)*(b.Y-k.Y)=(crs p q b-crs p q k)*(b.Y-a.Y):=by unfold crs at *;grind
 obtain ⟨x1,x2,x3⟩:=Ajg (by omega) (by omega) ex1
 obtain ⟨y1,y2,y3⟩:=Ajg (by omega) (by omega) ey1
 obtain ⟨x4,x5,x6⟩:=Ajg (by omega) (by omega) ex2
 obtain ⟨y4,y5,y6⟩:=Ajg (by omega) (by omega) ey2
 have ne:¬ (b.X-a.X=0/\b.Y-a.Y=0):=fun ⟨e1,e2⟩=>by
  have e3:crs p q b=crs p q a:=by
   have e4:b.X=a.X:=by omega
   have e5:b.Y=a.Y:=by omega
   unfold crs
   rw[e4,e5]
  omega
 unfold befP
 rcases Int.lt_trichotomy (b.X-a.X) 0 with c | c | c
 ·have:=x2 c;have:=x5 c;omega
 ·have:=x3 c;have:=x6 c
  rcases Int.lt_trichotomy (b.Y-a.Y) 0 with d | d | d
  ·have:=y2 d;have:=y5 d;omega
  ·exact absurd ⟨c,d⟩ ne
  ·have:=y1 d;have:=y4 d;omega
 ·have:=x1 c;have:=x4 c;omega
theorem bary (a x y b:Ac):crs a x y*b.X=crs x y b*a.X+crs y a b*x.X+crs a x b*y.X/\crs a x y*b.Y=crs x y b*a.Y+crs y a b*x.Y+crs a x b*y.Y:=by
 constructor <;> (unfold crs;grind)
theorem Arp (A B a x y b:Ac):crs a x y*crs A B b=crs x y b*crs A B a+crs y a b*crs A B x+crs a x b*crs A B y:=by unfold crs;grind
theorem Am8 {a x y b:Ac} (h:0 < crs a x y) (h1:crs a x b=0) (h2:crs x y b=0):Bt b x:=by
 have e:=Ou a x y b
 obtain ⟨e1,e2⟩:=bary a x y b
 rw[h1,h2,Int.zero_mul,Int.zero_mul,Int.zero_add,Int.add_zero,show crs y a b=crs a x y by omega] at e1 e2
 exact ⟨Int.eq_of_mul_eq_mul_left (by omega) e1,Int.eq_of_mul_eq_mul_left (by omega) e2⟩
variable {v:List Ab} {ap:Ap} {a b:Int}
def Free (v:List Ab) (a b:Int):Prop:=∀ z,inN v.length z->z≠a->z≠b->¬ Btw (plV v a) (plV v b) (plV v z)
theorem Ahq (hv:Bu v) (ht:Tri (plV v) (inN v.length) ap) (ha:inN v.length a) (hb:inN v.length b) (hab:a≠b) (hf:Free v a b) (hc:Vt (plV v) ap a b) :
  (ap a b≠none\/ap b a≠none)\/∃ x y,ap x y=some a/\crs (plV v a) (plV v b) (plV v x) < 0/\0 < crs (plV v a) (plV v b) (plV v y):=by
 obtain ⟨x,y,h,g1,g2⟩:=hc
 obtain ⟨_,vx,vy,c⟩:=ht.ccw _ _ _ h
 obtain ⟨n1,n2,n3⟩:=ht.ne h
 by_cases ex:x=b
 ·left;left;rw[<- ex,h];simp
 by_cases ey:y=b
 ·left;right;rw[<- ey,ht.rot2 h];simp
 have sum:=Ou (plV v a) (plV v x) (plV v y) (plV v b)
 have e0:crs (plV v y) (plV v a) (plV v b)=crs (plV v a) (plV v b) (plV v y):=by rw[<- An]
 have em:=ht.emp _ _ _ h b hb (fun e=>hab e.symm) (fun e=>ex e.symm) (fun e=>ey e.symm)
 have gx:crs (plV v a) (plV v x) (plV v b)≠0:=fun e=>by
  have hx0:crs (plV v a) (plV v b) (plV v x)=0:=by rw[Bd];omega
  have hx1:crs (plV v y) (plV v a) (plV v a)=0:=Ns _ _
  have hx2:crs (plV v y) (plV v a) (plV v x)=crs (plV v a) (plV v x) (plV v y):=by rw[<- An]
  have gb:crs (plV v y) (plV v a) (plV v b)≠0:=fun e2=>by
   obtain ⟨b1,b2⟩:=bary (plV v a) (plV v x) (plV v y) (plV v b)
   rw[e,e2,Int.zero_mul,Int.zero_mul,Int.add_zero,Int.add_zero,show crs (plV v x) (plV v y) (plV v b)=crs (plV v a) (plV v x) (plV v y) by omega] at b1 b2
   exact hab (hv.dist b a hb ha ⟨Int.eq_of_mul_eq_mul_left (by omega) b1,Int.eq_of_mul_eq_mul_left (by omega) b2⟩).symm
  rcases Int.lt_trichotomy (crs (plV v y) (plV v a) (plV v x)) (crs (plV v y) (plV v a) (plV v b)) with k | k | k
  ·exact hf x vx (fun e=>n1 e.symm) ex (Ale (p:=plV v y) (q:=plV v a) hx0 (by omega) k)
  ·exact ex (hv.dist b x hb vx (Am8 c e (by omega))).symm
  ·omega
 have gy:crs (plV v a) (plV v b) (plV v y)≠0:=fun e=>by
  have hx1:crs (plV v a) (plV v x) (plV v a)=0:=Bp _ _
  rcases Int.lt_trichotomy (crs (plV v a) (plV v x) (plV v y)) (crs (plV v a) (plV v x) (plV v b)) with k | k | k
  ·exact hf y vy (fun e=>n3 e) ey (Ale (p:=plV v a) (q:=plV v x) e (by omega) k)
  ·have:=Am8 (a:=plV v x) (x:=plV v y) (y:=plV v a) (b:=plV v b) (by rw[An];exact c) (by omega) (by omega)
   exact ey (hv.dist b y hb vy this).symm
  ·omega
 right
 exact ⟨x,y,ht.rot _ _ _ h,by rw[Bd];omega,by omega⟩
structure Cr (v:List Ab) (a b u w:Int):Prop where
 up:0 < crs (plV v a) (plV v b) (plV v u)
 lo:crs (plV v a) (plV v b) (plV v w) < 0
 ra:crs (plV v u) (plV v w) (plV v a) < 0
 rb:0 < crs (plV v u) (plV v w) (plV v b)
def Fore (v:List Ab) (a b:Int) (s t:Int × Int):Prop :=
 crs (plV v t.1) (plV v t.2) (plV v a)*crs (plV v s.1) (plV v s.2) (plV v b) < crs (plV v s.1) (plV v s.2) (plV v a)*crs (plV v t.1) (plV v t.2) (plV v b)
instance (s t:Int × Int):Decidable (Fore v a b s t):=by unfold Fore;infer_instance
theorem Cr.step (ht:Tri (plV v) (inN v.length) ap) (hc:Cov (plV v) (inN v.length) ap) (ha:inN v.length a) (hb:inN v.length b) (hf:Free v a b) {u w k:Int} (h:Cr v a b u w) (hk:ap u w=some k) :
  k=b\/(Cr v a b k w/\(∃ z,ap k w=some z)/\Fore v a b (u,w) (k,w))\/(Cr v a b u k/\(∃ z,ap u k=some z)/\Fore v a b (u,w) (u,k)):=by
 obtain ⟨h1,h2,h3,h4⟩:=h
 obtain ⟨vu,vw,vk,T⟩:=ht.ccw _ _ _ hk
 have sa:=Ou (plV v u) (plV v w) (plV v k) (plV v a)
 have sb:=Ou (plV v u) (plV v w) (plV v k) (plV v b)
 have ba:=Arp (plV v a) (plV v b) (plV v u) (plV v w) (plV v k) (plV v a)
 have bb:=Arp (plV v a) (plV v b) (plV v u) (plV v w) (plV v k) (plV v b)
 rw[Bp,Int.mul_zero] at ba
 rw[Ns,Int.mul_zero] at bb
 have nu:b≠u:=fun e=>by rw[<- e,Ns] at h1;omega
 have nw:b≠w:=fun e=>by rw[<- e,Ns] at h2;omega
 have cov:∀ x y,ap x y≠none->crs (plV v x) (plV v y) (plV v b) < 0->∃ z,ap y x=some z:=fun x y hxy hlt=>by
  rcases e:ap y x with _ | z
  ·obtain ⟨t,e'⟩:=Option.ne_none_iff_exists'.1 hxy
   have:=hc _ _ _ e' e b hb
   omega
  ·exact ⟨z,rfl⟩
 by_cases kb:k=b
 ·exact .inl kb
 have em:=ht.emp _ _ _ hk b hb nu nw (fun e=>kb e.symm)
 right
 rcases Int.lt_trichotomy (crs (plV v a) (plV v b) (plV v k)) 0 with g | g | g
 ·right
  have c1:crs (plV v u) (plV v k) (plV v a) < 0:=by
   refine Classical.byContradiction fun n=>?_
   have e:crs (plV v k) (plV v u) (plV v a) = -crs (plV v u) (plV v k) (plV v a):=Ax _ _ _
   have m1:=Int.mul_nonneg (show 0<=-crs (plV v k) (plV v u) (plV v a) by omega) (show 0<=-crs (plV v a) (plV v b) (plV v w) by omega)
   have m2:=Int.mul_pos (show 0 < -crs (plV v u) (plV v w) (plV v a) by omega) (show 0 < -crs (plV v a) (plV v b) (plV v k) by omega)
   rw[Int.neg_mul_neg] at m1 m2
   have:=Ce (x:=crs (plV v a) (plV v b) (plV v u)) (y:=-crs (plV v w) (plV v k) (plV v a)) (by rw[Int.mul_neg,Int.mul_comm];omega) h1
   omega
  have c2:0 < crs (plV v u) (plV v k) (plV v b):=by
   refine Classical.byContradiction fun n=>?_
   have e:crs (plV v k) (plV v u) (plV v b) = -crs (plV v u) (plV v k) (plV v b):=Ax _ _ _
   have m1:=Int.mul_nonneg (show 0<=crs (plV v k) (plV v u) (plV v b) by omega) (show 0<=-crs (plV v a) (plV v b) (plV v w) by omega)
   have m2:=Int.mul_pos h4 (show 0 < -crs (plV v a) (plV v b) (plV v k) by omega)
   rw[Int.mul_neg] at m1 m2
   have:=Ce (x:=crs (plV v a) (plV v b) (plV v u)) (y:=crs (plV v w) (plV v k) (plV v b)) (by rw[Int.mul_comm];omega) h1
   omega
  refine ⟨⟨h1,g,c1,c2⟩,cov k u (by rw[ht.rot2 hk];simp) (by rw[Ax];omega),?_⟩
  have e:crs (plV v u) (plV v w) (plV v a)*crs (plV v u) (plV v k) (plV v b)-crs (plV v u) (plV v k) (plV v a)*crs (plV v u) (plV v w) (plV v b)=crs (plV v u) (plV v w) (plV v k)*crs (plV v a) (plV v b) (plV v u):=by unfold crs;grind
  have:=Int.mul_pos T h1
  unfold Fore
  simp only
  omega
 ·-- k on the line
  exfalso
  rw[g,Int.mul_zero,Int.add_zero] at bb
  have nn:crs (plV v w) (plV v k) (plV v b) < 0:=by
   refine Classical.byContradiction fun n=>?_
   have m1:=Int.mul_nonneg (show 0<=crs (plV v w) (plV v k) (plV v b) by omega) (Int.le_of_lt h1)
   have:=Na (x:=-crs (plV v a) (plV v b) (plV v w)) (y:=crs (plV v k) (plV v u) (plV v b)) (by rw[Int.neg_mul,Int.mul_comm];omega) (by omega)
   omega
  have nm:crs (plV v k) (plV v u) (plV v b) < 0:=by
   have m1:=Int.mul_pos (show 0 < -crs (plV v w) (plV v k) (plV v b) by omega) h1
   rw[Int.neg_mul] at m1
   have:=Ce (x:=-crs (plV v a) (plV v b) (plV v w)) (y:=-crs (plV v k) (plV v u) (plV v b)) (by rw[Int.neg_mul_neg,Int.mul_comm];omega) (by omega)
   omega
  refine hf k vk (fun e=>?_) kb (Ale (p:=plV v u) (q:=plV v w) g (by omega) (by omega))
  rw[e] at T
  omega
 ·left
  have c1:crs (plV v k) (plV v w) (plV v a) < 0:=by
   refine Classical.byContradiction fun n=>?_
   have e:crs (plV v w) (plV v k) (plV v a) = -crs (plV v k) (plV v w) (plV v a):=Ax _ _ _
   have m1:=Int.mul_nonneg (show 0<=-crs (plV v w) (plV v k) (plV v a) by omega) (Int.le_of_lt h1)
   have m2:=Int.mul_pos (show 0 < -crs (plV v u) (plV v w) (plV v a) by omega) g
   rw[Int.neg_mul] at m1 m2
   have:=Ce (x:=-crs (plV v a) (plV v b) (plV v w)) (y:=-crs (plV v k) (plV v u) (plV v a)) (by rw[Int.neg_mul_neg,Int.mul_comm];omega) (by omega)
   omega
  have c2:0 < crs (plV v k) (plV v w) (plV v b):=by
   refine Classical.byContradiction fun n=>?_
   have e:crs (plV v w) (plV v k) (plV v b) = -crs (plV v k) (plV v w) (plV v b):=Ax _ _ _
   have m1:=Int.mul_nonneg (show 0<=crs (plV v w) (plV v k) (plV v b) by omega) (Int.le_of_lt h1)
   have m2:=Int.mul_pos h4 g
   have:=Ce (x:=-crs (plV v a) (plV v b) (plV v w)) (y:=crs (plV v k) (plV v u) (plV v b)) (by rw[Int.neg_mul,Int.mul_comm];omega) (by omega)
   omega
  refine ⟨⟨g,h2,c1,c2⟩,cov w k (by rw[ht.rot _ _ _ hk];simp) (by rw[Ax];omega),?_⟩
  have e:crs (plV v u) (plV v w) (plV v a)*crs (plV v k) (plV v w) (plV v b)-crs (plV v k) (plV v w) (plV v a)*crs (plV v u) (plV v w) (plV v b) = -crs (plV v u) (plV v w) (plV v k)*crs (plV v a) (plV v b) (plV v w):=by unfold crs;grind
  have:=Int.mul_pos T (show 0 < -crs (plV v a) (plV v b) (plV v w) by omega)
  rw[Int.mul_neg,<- Int.neg_mul] at this
  unfold Fore
  simp only
  omega
structure Run (v:List Ab) (ap:Ap) (a b:Int) (m:Nat) (u w:Nat->Int):Prop where
 cr:∀ i,i < m->Cr v a b (u i) (w i)
 last:∀ i,i+1=m->ap (u i) (w i)=some b
 next:∀ i,i+1 < m->(u (i+1)=u i/\ap (u i) (w i)=some (w (i+1)))\/(w (i+1)=w i/\ap (u i) (w i)=some (u (i+1)))
def Ahr (n:Nat):List (Int × Int):=(inds n).flatMap fun i=>(inds n).map fun j=>(i,j)
theorem Alf {n:Nat} {i j:Int}:(i,j)∈Ahr n↔inN n i/\inN n j:=by
 unfold Ahr
 simp only[List.mem_flatMap,List.mem_map,Le,Prod.mk.injEq]
 constructor
 ·rintro ⟨x,hx,y,hy,rfl,rfl⟩;exact ⟨hx,hy⟩
 ·rintro ⟨hx,hy⟩;exact ⟨i,hx,j,hy,rfl,rfl⟩
theorem Ahs (ht:Tri (plV v) (inN v.length) ap) (hc:Cov (plV v) (inN v.length) ap) (ha:inN v.length a) (hb:inN v.length b) (hf:Free v a b) :
  ∀ {u w k:Int},Cr v a b u w->ap u w=some k->∃ m U W,0 < m/\U 0=u/\W 0=w/\Run v ap a b m U W:=by
 have key:∀ (N:Nat) (u w k:Int),(Ahr v.length).countP (fun s=>decide (0 < crs (plV v s.1) (plV v s.2) (plV v b)/\Fore v a b (u,w) s))=N->Cr v a b u w->ap u w=some k->∃ m U W,0 < m/\U 0=u/\W 0=w/\Run v ap a b m U W:=by
  intro N
  induction N using Nat.strongRecOn with
  | ind N ih=>
   intro u w k hN h hk
   have more:∀ u' w' k',Cr v a b u' w'->ap u' w'=some k'->Fore v a b (u,w) (u',w')->((u'=u/\ap u w=some w')\/(w'=w/\ap u w=some u'))->∃ m U W,0 < m/\U 0=u/\W 0=w/\Run v ap a b m U W:=by
    intro u' w' k' h' hk' hfo hn
    obtain ⟨vu,vw,_⟩:=ht.ccw _ _ _ hk'
    have lt:(Ahr v.length).countP (fun s=>decide (0 < crs (plV v s.1) (plV v s.2) (plV v b)/\Fore v a b (u',w') s)) < N:=by
     rw[<- hN]
     refine Vf (x:=(u',w')) (fun y hy hb2=>?_) (Alf.2 ⟨vu,vw⟩) (by simp only[decide_eq_true_eq];exact ⟨h'.rb,hfo⟩) (by simp[Fore])
     rw[decide_eq_true_eq] at hb2 ⊢
     exact ⟨hb2.1,Wg hb2.1 h'.rb h.rb hb2.2 hfo⟩
    obtain ⟨m,U,W,g0,g1,g2,g3⟩:=ih _ lt u' w' k' rfl h' hk'
    refine ⟨m+1,fun i=>if i=0 then u else U (i-1),fun i=>if i=0 then w else W (i-1),by omega,rfl,rfl,⟨fun i hi=>?_,fun i hi=>?_,fun i hi=>?_⟩⟩
    ·by_cases c:i=0
     ·simp only[c,if_true];exact h
     ·simp only[if_neg c];exact g3.cr _ (by omega)
    ·have c:i≠0:=by omega
     simp only[if_neg c];exact g3.last _ (by omega)
    ·by_cases c:i=0
     ·subst c
      simp only[if_true,Nat.zero_add,if_neg (show ¬ 1=0 by omega),Nat.sub_self]
      rw[g1,g2]
      exact hn
     ·have c2:¬ i+1=0:=by omega
      have:=g3.next (i-1) (by omega)
      rw[show i-1+1=i by omega] at this
      simp only[if_neg c,if_neg c2,Nat.add_sub_cancel]
      exact this
   rcases h.step ht hc ha hb hf hk with e | ⟨h',⟨z,hz⟩,hfo⟩ | ⟨h',⟨z,hz⟩,hfo⟩
   ·refine ⟨1,fun _=>u,fun _=>w,by omega,rfl,rfl,⟨fun _ _=>h,fun _ _=>by rw[hk,e],fun i hi=>by omega⟩⟩
   ·exact more k w z h' hz hfo (.inr ⟨rfl,hk⟩)
   ·exact more u k z h' hz hfo (.inl ⟨rfl,hk⟩)
 intro u w k h hk
 exact key _ u w k rfl h hk
section
variable {m m':Nat} {u w u' w':Nat->Int}
theorem Run.prev (h:Run v ap a b m u w) (ht:Tri (plV v) (inN v.length) ap) {i:Nat} (hi:i+1 < m):(u (i+1)=u i/\ap (w (i+1)) (u (i+1))=some (w i))\/(w (i+1)=w i/\ap (w (i+1)) (u (i+1))=some (u i)):=by
 rcases h.next i hi with ⟨g1,g2⟩ | ⟨g1,g2⟩
 ·left
  refine ⟨g1,?_⟩
  rw[g1]
  exact ht.rot2 g2
 ·right
  refine ⟨g1,?_⟩
  rw[g1]
  exact ht.rot _ _ _ g2
theorem Run.same (h:Run v ap a b m u w) (h':Run v ap a b m' u' w') (ht:Tri (plV v) (inN v.length) ap):∀ d,d < m->d < m'->u (m-1-d)=u' (m'-1-d)/\w (m-1-d)=w' (m'-1-d):=by
 intro d
 induction d with
 | zero=>
  intro hm hm'
  rw[Nat.sub_zero,Nat.sub_zero]
  have l:=ht.rot2 (h.last (m-1) (by omega))
  have l':=ht.rot2 (h'.last (m'-1) (by omega))
  have c:=h.cr (m-1) (by omega)
  have c':=h'.cr (m'-1) (by omega)
  have e:=ht.cones (l:=plV v a) l l' (by rw[<- An];rw[<- An];first | exact c.up | (rw[An];exact c.up)) (by rw[Bd,An] ;have:=c.lo;first | omega | (rw[An];omega)) (by rw[<- An];rw[<- An];first | exact c'.up | (rw[An];exact c'.up)) (by rw[Bd,An] ;have:=c'.lo;first | omega | (rw[An];omega))
  rw[<- e,l] at l'
  exact ⟨e,Option.some.inj l'⟩
 | succ d ih=>
  intro hm hm'
  obtain ⟨e1,e2⟩:=ih (by omega) (by omega)
  have p:=h.prev ht (i:=m-1-(d+1)) (by omega)
  have p':=h'.prev ht (i:=m'-1-(d+1)) (by omega)
  have c:=h.cr (m-1-(d+1)) (by omega)
  have c':=h'.cr (m'-1-(d+1)) (by omega)
  rw[show m-1-(d+1)+1=m-1-d by omega] at p
  rw[show m'-1-(d+1)+1=m'-1-d by omega,<- e1,<- e2] at p'
  rcases p with ⟨g1,g2⟩ | ⟨g1,g2⟩ <;> rcases p' with ⟨k1,k2⟩ | ⟨k1,k2⟩ <;> rw[g2] at k2 <;> have k3:=Option.some.inj k2
  ·exact ⟨by rw[<- g1,k1],k3⟩
  ·have:=c.lo;have:=c'.up;rw[k3] at *;omega
  ·have:=c.up;have:=c'.lo;rw[k3] at *;omega
  ·exact ⟨k3,by rw[<- g1,k1]⟩
theorem Run.strip (h:Run v ap a b m u w) (h0:ap (w 0) (u 0)=some a):Dw (plV v) ap a b m u w:=⟨fun i hi=>(h.cr i hi).up,fun i hi=>(h.cr i hi).lo,fun _=>h0,h.last,h.next⟩
theorem Run.has (h:Run v ap a b m u w) (ht:Tri (plV v) (inN v.length) ap) (h0:ap (w 0) (u 0)=some a) (hm:0 < m) (h':Run v ap a b m' u' w') (hm':0 < m'):∃ i,i < m/\u i=u' 0/\w i=w' 0:=by
 by_cases c:m'<=m
 ·obtain ⟨e1,e2⟩:=h.same h' ht (m'-1) (by omega) (by omega)
  rw[show m'-1-(m'-1)=0 by omega] at e1 e2
  exact ⟨m-1-(m'-1),by omega,e1,e2⟩
 ·exfalso
  obtain ⟨e1,e2⟩:=h.same h' ht (m-1) (by omega) (by omega)
  rw[show m-1-(m-1)=0 by omega] at e1 e2
  have p:=h'.prev ht (i:=m'-1-(m-1)-1) (by omega)
  have c':=h'.cr (m'-1-(m-1)-1) (by omega)
  rw[show m'-1-(m-1)-1+1=m'-1-(m-1) by omega,<- e1,<- e2,h0] at p
  have ha0:crs (plV v a) (plV v b) (plV v a)=0:=Bp _ _
  rcases p with ⟨_,g⟩ | ⟨_,g⟩
  ·have:=c'.lo;rw[<- Option.some.inj g] at this;omega
  ·have:=c'.up;rw[<- Option.some.inj g] at this;omega
end
end Go.Proofs.YtjfndjmabhbicaaGreat
