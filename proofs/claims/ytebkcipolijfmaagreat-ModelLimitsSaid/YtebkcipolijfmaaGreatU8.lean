/- The sides that cross a line, found by walking along it. -/
import Derived.Test.YtebkcipolijfmaaGreatU7
namespace Go.Proofs.YtebkcipolijfmaaGreat
open Go Go.RowKit
/-! ### places on a line -/
theorem Ani {D d X x:Int} (hD:0 < D) (hd:0 < d) (h:D*x=d*X):(0 < X→0 < x)∧(X < 0→x < 0)∧(X=0→x=0):=by
 refine ⟨fun hX=>?_,fun hX=>?_,fun hX=>?_⟩
 ·have:=Int.mul_pos hd hX
  exact Dl (x:=D) (by omega) hD
 ·have:=Int.mul_pos hd (show 0 < -X by omega)
  have e:d * -X = -(d*X):=Int.mul_neg _ _
  have e2:D * -x = -(D*x):=Int.mul_neg _ _
  have:=Dl (x:=D) (y:=-x) (by omega) hD
  omega
 ·rw [hX,Int.mul_zero] at h
  rcases Int.mul_eq_zero.1 h with g | g <;> omega
/-- k lies strictly between a and b. -/
def Btw (a b k:Ac):Prop:=crs a b k=0∧¬ (befP a k↔befP b k)
theorem Aln {p q a k b:Ac} (h0:crs a b k=0) (h1:crs p q a < crs p q k) (h2:crs p q k < crs p q b):Btw a b k:=by
 refine ⟨h0,?_⟩
 have ex1:(crs p q b-crs p q a)*(k.X-a.X)=(crs p q k-crs p q a)*(b.X-a.X):=by unfold crs at *;grind
 have ey1:(crs p q b-crs p q a)*(k.Y-a.Y)=(crs p q k-crs p q a)*(b.Y-a.Y):=by unfold crs at *;grind
 have ex2:(crs p q b-crs p q a)*(b.X-k.X)=(crs p q b-crs p q k)*(b.X-a.X):=by unfold crs at *;grind
 have ey2:(crs p q b-crs p q a)*(b.Y-k.Y)=(crs p q b-crs p q k)*(b.Y-a.Y):=by unfold crs at *;grind
 obtain ⟨x1,x2,x3⟩:=Ani (by omega) (by omega) ex1
 obtain ⟨y1,y2,y3⟩:=Ani (by omega) (by omega) ey1
 obtain ⟨x4,x5,x6⟩:=Ani (by omega) (by omega) ex2
 obtain ⟨y4,y5,y6⟩:=Ani (by omega) (by omega) ey2
 have ne:¬ (b.X-a.X=0∧b.Y-a.Y=0):=fun ⟨e1,e2⟩=>by
  have e3:crs p q b=crs p q a:=by
   have e4:b.X=a.X:=by omega
   have e5:b.Y=a.Y:=by omega
   unfold crs
   rw [e4,e5]
  omega
 unfold befP
 rcases Int.lt_trichotomy (b.X-a.X) 0 with c | c | c
 ·have:=x2 c;have:=x5 c;omega
 ·have:=x3 c;have:=x6 c
  rcases Int.lt_trichotomy (b.Y-a.Y) 0 with d | d | d
  ·have:=y2 d;have:=y5 d;omega
  ·exact absurd ⟨c,d⟩ ne
  ·have:=y1 d;have:=y4 d;omega
 ·have:=x1 c;have:=x4 c;omega
theorem bary (a x y b:Ac):crs a x y*b.X=crs x y b*a.X+crs y a b*x.X+crs a x b*y.X∧crs a x y*b.Y=crs x y b*a.Y+crs y a b*x.Y+crs a x b*y.Y:=by
 constructor <;> (unfold crs;grind)
theorem Asp (A B a x y b:Ac):crs a x y*crs A B b=crs x y b*crs A B a+crs y a b*crs A B x+crs a x b*crs A B y:=by unfold crs;grind
theorem Anj {a x y b:Ac} (h:0 < crs a x y) (h1:crs a x b=0) (h2:crs x y b=0):Da b x:=by
 have e:=Ng a x y b
 obtain ⟨e1,e2⟩:=bary a x y b
 rw [h1,h2,Int.zero_mul,Int.zero_mul,Int.zero_add,Int.add_zero,show crs y a b=crs a x y by omega] at e1 e2
 exact ⟨Int.eq_of_mul_eq_mul_left (by omega) e1,Int.eq_of_mul_eq_mul_left (by omega) e2⟩
variable {v:List Ab} {ap:Ap} {a b:Int}
/-- No vertex lies on the line between its ends. -/
def Free (v:List Ab) (a b:Int):Prop:=∀ z,inN v.length z→z≠a→z≠b→¬ Btw (plV v a) (plV v b) (plV v z)
theorem Auh (hv:Hj v) (ht:Tri (plV v) (inN v.length) ap) (ha:inN v.length a) (hb:inN v.length b) (hab:a≠b) (hf:Free v a b) (hc:Vt (plV v) ap a b) :
  (ap a b≠none∨ap b a≠none)∨∃ x y,ap x y=some a∧crs (plV v a) (plV v b) (plV v x) < 0∧0 < crs (plV v a) (plV v b) (plV v y):=by
 obtain ⟨x,y,h,g1,g2⟩:=hc
 obtain ⟨_,vx,vy,c⟩:=ht.ccw _ _ _ h
 obtain ⟨n1,n2,n3⟩:=ht.ne h
 by_cases ex:x=b
 ·left;left;rw [← ex,h];simp
 by_cases ey:y=b
 ·left;right;rw [← ey,ht.rot2 h];simp
 have sum:=Ng (plV v a) (plV v x) (plV v y) (plV v b)
 have e0:crs (plV v y) (plV v a) (plV v b)=crs (plV v a) (plV v b) (plV v y):=by rw [← Ar]
 have em:=ht.emp _ _ _ h b hb (fun e=>hab e.symm) (fun e=>ex e.symm) (fun e=>ey e.symm)
 have gx:crs (plV v a) (plV v x) (plV v b)≠0:=fun e=>by
  have hx0:crs (plV v a) (plV v b) (plV v x)=0:=by rw [Bw];omega
  have hx1:crs (plV v y) (plV v a) (plV v a)=0:=Ow _ _
  have hx2:crs (plV v y) (plV v a) (plV v x)=crs (plV v a) (plV v x) (plV v y):=by rw [← Ar]
  have gb:crs (plV v y) (plV v a) (plV v b)≠0:=fun e2=>by
   obtain ⟨b1,b2⟩:=bary (plV v a) (plV v x) (plV v y) (plV v b)
   rw [e,e2,Int.zero_mul,Int.zero_mul,Int.add_zero,Int.add_zero,show crs (plV v x) (plV v y) (plV v b)=crs (plV v a) (plV v x) (plV v y) by omega] at b1 b2
   exact hab (hv.dist b a hb ha ⟨Int.eq_of_mul_eq_mul_left (by omega) b1,Int.eq_of_mul_eq_mul_left (by omega) b2⟩).symm
  rcases Int.lt_trichotomy (crs (plV v y) (plV v a) (plV v x)) (crs (plV v y) (plV v a) (plV v b)) with k | k | k
  ·exact hf x vx (fun e=>n1 e.symm) ex (Aln (p:=plV v y) (q:=plV v a) hx0 (by omega) k)
  ·exact ex (hv.dist b x hb vx (Anj c e (by omega))).symm
  ·omega
 have gy:crs (plV v a) (plV v b) (plV v y)≠0:=fun e=>by
  have hx1:crs (plV v a) (plV v x) (plV v a)=0:=Eq _ _
  rcases Int.lt_trichotomy (crs (plV v a) (plV v x) (plV v y)) (crs (plV v a) (plV v x) (plV v b)) with k | k | k
  ·exact hf y vy (fun e=>n3 e) ey (Aln (p:=plV v a) (q:=plV v x) e (by omega) k)
  ·have:=Anj (a:=plV v x) (x:=plV v y) (y:=plV v a) (b:=plV v b) (by rw [Ar];exact c) (by omega) (by omega)
   exact ey (hv.dist b y hb vy this).symm
  ·omega
 right
 exact ⟨x,y,ht.rot _ _ _ h,by rw [Bw];omega,by omega⟩
/-! ### steps -/
/-- A side that crosses the line: u above it, w below, a to its left, b to its right. -/
structure Cr (v:List Ab) (a b u w:Int):Prop where
 up:0 < crs (plV v a) (plV v b) (plV v u)
 lo:crs (plV v a) (plV v b) (plV v w) < 0
 ra:crs (plV v u) (plV v w) (plV v a) < 0
 rb:0 < crs (plV v u) (plV v w) (plV v b)
/-- One lies ahead of the other. -/
def Fore (v:List Ab) (a b:Int) (s t:Int × Int):Prop :=
 crs (plV v t.1) (plV v t.2) (plV v a)*crs (plV v s.1) (plV v s.2) (plV v b) < crs (plV v s.1) (plV v s.2) (plV v a)*crs (plV v t.1) (plV v t.2) (plV v b)
instance (s t:Int × Int):Decidable (Fore v a b s t):=by unfold Fore;infer_instance
theorem Cr.step (ht:Tri (plV v) (inN v.length) ap) (hc:Cov (plV v) (inN v.length) ap) (ha:inN v.length a) (hb:inN v.length b) (hf:Free v a b) {u w k:Int} (h:Cr v a b u w) (hk:ap u w=some k) :
  k=b∨(Cr v a b k w∧(∃ z,ap k w=some z)∧Fore v a b (u,w) (k,w))∨(Cr v a b u k∧(∃ z,ap u k=some z)∧Fore v a b (u,w) (u,k)):=by
 obtain ⟨h1,h2,h3,h4⟩:=h
 obtain ⟨vu,vw,vk,T⟩:=ht.ccw _ _ _ hk
 have sa:=Ng (plV v u) (plV v w) (plV v k) (plV v a)
 have sb:=Ng (plV v u) (plV v w) (plV v k) (plV v b)
 have ba:=Asp (plV v a) (plV v b) (plV v u) (plV v w) (plV v k) (plV v a)
 have bb:=Asp (plV v a) (plV v b) (plV v u) (plV v w) (plV v k) (plV v b)
 rw [Eq,Int.mul_zero] at ba
 rw [Ow,Int.mul_zero] at bb
 have nu:b≠u:=fun e=>by rw [← e,Ow] at h1;omega
 have nw:b≠w:=fun e=>by rw [← e,Ow] at h2;omega
 have cov:∀ x y,ap x y≠none→crs (plV v x) (plV v y) (plV v b) < 0→∃ z,ap y x=some z:=fun x y hxy hlt=>by
  rcases e:ap y x with _ | z
  ·obtain ⟨t,e'⟩:=Option.ne_none_iff_exists'.1 hxy
   have:=hc _ _ _ e' e b hb
   omega
  ·exact ⟨z,rfl⟩
 by_cases kb:k=b
 ·exact .inl kb
 have em:=ht.emp _ _ _ hk b hb nu nw (fun e=>kb e.symm)
 right
 rcases Int.lt_trichotomy (crs (plV v a) (plV v b) (plV v k)) 0 with g | g | g
 ·right
  have c1:crs (plV v u) (plV v k) (plV v a) < 0:=by
   refine Classical.byContradiction fun n=>?_
   have e:crs (plV v k) (plV v u) (plV v a) = -crs (plV v u) (plV v k) (plV v a):=Bv _ _ _
   have m1:=Int.mul_nonneg (show 0≤-crs (plV v k) (plV v u) (plV v a) by omega) (show 0≤-crs (plV v a) (plV v b) (plV v w) by omega)
   have m2:=Int.mul_pos (show 0 < -crs (plV v u) (plV v w) (plV v a) by omega) (show 0 < -crs (plV v a) (plV v b) (plV v k) by omega)
   rw [Int.neg_mul_neg] at m1 m2
   have:=Dl (x:=crs (plV v a) (plV v b) (plV v u)) (y:=-crs (plV v w) (plV v k) (plV v a)) (by rw [Int.mul_neg,Int.mul_comm];omega) h1
   omega
  have c2:0 < crs (plV v u) (plV v k) (plV v b):=by
   refine Classical.byContradiction fun n=>?_
   have e:crs (plV v k) (plV v u) (plV v b) = -crs (plV v u) (plV v k) (plV v b):=Bv _ _ _
   have m1:=Int.mul_nonneg (show 0≤crs (plV v k) (plV v u) (plV v b) by omega) (show 0≤-crs (plV v a) (plV v b) (plV v w) by omega)
   have m2:=Int.mul_pos h4 (show 0 < -crs (plV v a) (plV v b) (plV v k) by omega)
   rw [Int.mul_neg] at m1 m2
   have:=Dl (x:=crs (plV v a) (plV v b) (plV v u)) (y:=crs (plV v w) (plV v k) (plV v b)) (by rw [Int.mul_comm];omega) h1
   omega
  refine ⟨⟨h1,g,c1,c2⟩,cov k u (by rw [ht.rot2 hk];simp) (by rw [Bv];omega),?_⟩
  have e:crs (plV v u) (plV v w) (plV v a)*crs (plV v u) (plV v k) (plV v b)-crs (plV v u) (plV v k) (plV v a)*crs (plV v u) (plV v w) (plV v b)=crs (plV v u) (plV v w) (plV v k)*crs (plV v a) (plV v b) (plV v u):=by unfold crs;grind
  have:=Int.mul_pos T h1
  unfold Fore
  simp only
  omega
 ·-- k on the line
  exfalso
  rw [g,Int.mul_zero,Int.add_zero] at bb
  have nn:crs (plV v w) (plV v k) (plV v b) < 0:=by
   refine Classical.byContradiction fun n=>?_
   have m1:=Int.mul_nonneg (show 0≤crs (plV v w) (plV v k) (plV v b) by omega) (Int.le_of_lt h1)
   have:=Lk (x:=-crs (plV v a) (plV v b) (plV v w)) (y:=crs (plV v k) (plV v u) (plV v b)) (by rw [Int.neg_mul,Int.mul_comm];omega) (by omega)
   omega
  have nm:crs (plV v k) (plV v u) (plV v b) < 0:=by
   have m1:=Int.mul_pos (show 0 < -crs (plV v w) (plV v k) (plV v b) by omega) h1
   rw [Int.neg_mul] at m1
   have:=Dl (x:=-crs (plV v a) (plV v b) (plV v w)) (y:=-crs (plV v k) (plV v u) (plV v b)) (by rw [Int.neg_mul_neg,Int.mul_comm];omega) (by omega)
   omega
  refine hf k vk (fun e=>?_) kb (Aln (p:=plV v u) (q:=plV v w) g (by omega) (by omega))
  rw [e] at T
  omega
 ·left
  have c1:crs (plV v k) (plV v w) (plV v a) < 0:=by
   refine Classical.byContradiction fun n=>?_
   have e:crs (plV v w) (plV v k) (plV v a) = -crs (plV v k) (plV v w) (plV v a):=Bv _ _ _
   have m1:=Int.mul_nonneg (show 0≤-crs (plV v w) (plV v k) (plV v a) by omega) (Int.le_of_lt h1)
   have m2:=Int.mul_pos (show 0 < -crs (plV v u) (plV v w) (plV v a) by omega) g
   rw [Int.neg_mul] at m1 m2
   have:=Dl (x:=-crs (plV v a) (plV v b) (plV v w)) (y:=-crs (plV v k) (plV v u) (plV v a)) (by rw [Int.neg_mul_neg,Int.mul_comm];omega) (by omega)
   omega
  have c2:0 < crs (plV v k) (plV v w) (plV v b):=by
   refine Classical.byContradiction fun n=>?_
   have e:crs (plV v w) (plV v k) (plV v b) = -crs (plV v k) (plV v w) (plV v b):=Bv _ _ _
   have m1:=Int.mul_nonneg (show 0≤crs (plV v w) (plV v k) (plV v b) by omega) (Int.le_of_lt h1)
   have m2:=Int.mul_pos h4 g
   have:=Dl (x:=-crs (plV v a) (plV v b) (plV v w)) (y:=crs (plV v k) (plV v u) (plV v b)) (by rw [Int.neg_mul,Int.mul_comm];omega) (by omega)
   omega
  refine ⟨⟨g,h2,c1,c2⟩,cov w k (by rw [ht.rot _ _ _ hk];simp) (by rw [Bv];omega),?_⟩
  have e:crs (plV v u) (plV v w) (plV v a)*crs (plV v k) (plV v w) (plV v b)-crs (plV v k) (plV v w) (plV v a)*crs (plV v u) (plV v w) (plV v b) = -crs (plV v u) (plV v w) (plV v k)*crs (plV v a) (plV v b) (plV v w):=by unfold crs;grind
  have:=Int.mul_pos T (show 0 < -crs (plV v a) (plV v b) (plV v w) by omega)
  rw [Int.mul_neg,← Int.neg_mul] at this
  unfold Fore
  simp only
  omega
/-! ### runs -/
structure Run (v:List Ab) (ap:Ap) (a b:Int) (m:Nat) (u w:Nat→Int):Prop where
 cr:∀ i,i < m→Cr v a b (u i) (w i)
 last:∀ i,i+1=m→ap (u i) (w i)=some b
 next:∀ i,i+1 < m→(u (i+1)=u i∧ap (u i) (w i)=some (w (i+1)))∨(w (i+1)=w i∧ap (u i) (w i)=some (u (i+1)))
def Aic (n:Nat):List (Int × Int):=(inds n).flatMap fun i=>(inds n).map fun j=>(i,j)
theorem Alo {n:Nat} {i j:Int}:(i,j)∈Aic n↔inN n i∧inN n j:=by
 unfold Aic
 simp only [List.mem_flatMap,List.mem_map,Qr,Prod.mk.injEq]
 constructor
 ·rintro ⟨x,hx,y,hy,rfl,rfl⟩;exact ⟨hx,hy⟩
 ·rintro ⟨hx,hy⟩;exact ⟨i,hx,j,hy,rfl,rfl⟩
theorem Alp (ht:Tri (plV v) (inN v.length) ap) (hc:Cov (plV v) (inN v.length) ap) (ha:inN v.length a) (hb:inN v.length b) (hf:Free v a b) :
  ∀ {u w k:Int},Cr v a b u w→ap u w=some k→∃ m U W,0 < m∧U 0=u∧W 0=w∧Run v ap a b m U W:=by
 have key:∀ (N:Nat) (u w k:Int),(Aic v.length).countP (fun s=>decide (0 < crs (plV v s.1) (plV v s.2) (plV v b)∧Fore v a b (u,w) s))=N→Cr v a b u w→ap u w=some k→∃ m U W,0 < m∧U 0=u∧W 0=w∧Run v ap a b m U W:=by
  intro N
  induction N using Nat.strongRecOn with
  | ind N ih =>
   intro u w k hN h hk
   have more:∀ u' w' k',Cr v a b u' w'→ap u' w'=some k'→Fore v a b (u,w) (u',w')→((u'=u∧ap u w=some w')∨(w'=w∧ap u w=some u'))→∃ m U W,0 < m∧U 0=u∧W 0=w∧Run v ap a b m U W:=by
    intro u' w' k' h' hk' hfo hn
    obtain ⟨vu,vw,_⟩:=ht.ccw _ _ _ hk'
    have lt:(Aic v.length).countP (fun s=>decide (0 < crs (plV v s.1) (plV v s.2) (plV v b)∧Fore v a b (u',w') s)) < N:=by
     rw [← hN]
     refine Uq (x:=(u',w')) (fun y hy hb2=>?_) (Alo.2 ⟨vu,vw⟩) (by simp only [decide_eq_true_eq];exact ⟨h'.rb,hfo⟩) (by simp [Fore])
     rw [decide_eq_true_eq] at hb2 ⊢
     exact ⟨hb2.1,Vp hb2.1 h'.rb h.rb hb2.2 hfo⟩
    obtain ⟨m,U,W,g0,g1,g2,g3⟩:=ih _ lt u' w' k' rfl h' hk'
    refine ⟨m+1,fun i=>if i=0 then u else U (i-1),fun i=>if i=0 then w else W (i-1),by omega,rfl,rfl,⟨fun i hi=>?_,fun i hi=>?_,fun i hi=>?_⟩⟩
    ·by_cases c:i=0
     ·simp only [c,if_true];exact h
     ·simp only [if_neg c];exact g3.cr _ (by omega)
    ·have c:i≠0:=by omega
     simp only [if_neg c];exact g3.last _ (by omega)
    ·by_cases c:i=0
     ·subst c
      simp only [if_true,Nat.zero_add,if_neg (show ¬ 1=0 by omega),Nat.sub_self]
      rw [g1,g2]
      exact hn
     ·have c2:¬ i+1=0:=by omega
      have:=g3.next (i-1) (by omega)
      rw [show i-1+1=i by omega] at this
      simp only [if_neg c,if_neg c2,Nat.add_sub_cancel]
      exact this
   rcases h.step ht hc ha hb hf hk with e | ⟨h',⟨z,hz⟩,hfo⟩ | ⟨h',⟨z,hz⟩,hfo⟩
   ·refine ⟨1,fun _=>u,fun _=>w,by omega,rfl,rfl,⟨fun _ _=>h,fun _ _=>by rw [hk,e],fun i hi=>by omega⟩⟩
   ·exact more k w z h' hz hfo (.inr ⟨rfl,hk⟩)
   ·exact more u k z h' hz hfo (.inl ⟨rfl,hk⟩)
 intro u w k h hk
 exact key _ u w k rfl h hk
section
variable {m m':Nat} {u w u' w':Nat→Int}
theorem Run.prev (h:Run v ap a b m u w) (ht:Tri (plV v) (inN v.length) ap) {i:Nat} (hi:i+1 < m):(u (i+1)=u i∧ap (w (i+1)) (u (i+1))=some (w i))∨(w (i+1)=w i∧ap (w (i+1)) (u (i+1))=some (u i)):=by
 rcases h.next i hi with ⟨g1,g2⟩ | ⟨g1,g2⟩
 ·left
  refine ⟨g1,?_⟩
  rw [g1]
  exact ht.rot2 g2
 ·right
  refine ⟨g1,?_⟩
  rw [g1]
  exact ht.rot _ _ _ g2
/-- Two runs end alike. -/
theorem Run.same (h:Run v ap a b m u w) (h':Run v ap a b m' u' w') (ht:Tri (plV v) (inN v.length) ap):∀ d,d < m→d < m'→u (m-1-d)=u' (m'-1-d)∧w (m-1-d)=w' (m'-1-d):=by
 intro d
 induction d with
 | zero =>
  intro hm hm'
  rw [Nat.sub_zero,Nat.sub_zero]
  have l:=ht.rot2 (h.last (m-1) (by omega))
  have l':=ht.rot2 (h'.last (m'-1) (by omega))
  have c:=h.cr (m-1) (by omega)
  have c':=h'.cr (m'-1) (by omega)
  have e:=ht.cones (l:=plV v a) l l' (by rw [← Ar];rw [← Ar];first | exact c.up | (rw [Ar];exact c.up)) (by rw [Bw,Ar] ;have:=c.lo;first | omega | (rw [Ar];omega)) (by rw [← Ar];rw [← Ar];first | exact c'.up | (rw [Ar];exact c'.up)) (by rw [Bw,Ar] ;have:=c'.lo;first | omega | (rw [Ar];omega))
  rw [← e,l] at l'
  exact ⟨e,Option.some.inj l'⟩
 | succ d ih =>
  intro hm hm'
  obtain ⟨e1,e2⟩:=ih (by omega) (by omega)
  have p:=h.prev ht (i:=m-1-(d+1)) (by omega)
  have p':=h'.prev ht (i:=m'-1-(d+1)) (by omega)
  have c:=h.cr (m-1-(d+1)) (by omega)
  have c':=h'.cr (m'-1-(d+1)) (by omega)
  rw [show m-1-(d+1)+1=m-1-d by omega] at p
  rw [show m'-1-(d+1)+1=m'-1-d by omega,← e1,← e2] at p'
  rcases p with ⟨g1,g2⟩ | ⟨g1,g2⟩ <;> rcases p' with ⟨k1,k2⟩ | ⟨k1,k2⟩ <;> rw [g2] at k2 <;> have k3:=Option.some.inj k2
  ·exact ⟨by rw [← g1,k1],k3⟩
  ·have:=c.lo;have:=c'.up;rw [k3] at *;omega
  ·have:=c.up;have:=c'.lo;rw [k3] at *;omega
  ·exact ⟨k3,by rw [← g1,k1]⟩
theorem Run.strip (h:Run v ap a b m u w) (h0:ap (w 0) (u 0)=some a):Eb (plV v) ap a b m u w:=⟨fun i hi=>(h.cr i hi).up,fun i hi=>(h.cr i hi).lo,fun _=>h0,h.last,h.next⟩
/-- A side from which one comes to b is met by the run from a. -/
theorem Run.has (h:Run v ap a b m u w) (ht:Tri (plV v) (inN v.length) ap) (h0:ap (w 0) (u 0)=some a) (hm:0 < m) (h':Run v ap a b m' u' w') (hm':0 < m'):∃ i,i < m∧u i=u' 0∧w i=w' 0:=by
 by_cases c:m'≤m
 ·obtain ⟨e1,e2⟩:=h.same h' ht (m'-1) (by omega) (by omega)
  rw [show m'-1-(m'-1)=0 by omega] at e1 e2
  exact ⟨m-1-(m'-1),by omega,e1,e2⟩
 ·exfalso
  obtain ⟨e1,e2⟩:=h.same h' ht (m-1) (by omega) (by omega)
  rw [show m-1-(m-1)=0 by omega] at e1 e2
  have p:=h'.prev ht (i:=m'-1-(m-1)-1) (by omega)
  have c':=h'.cr (m'-1-(m-1)-1) (by omega)
  rw [show m'-1-(m-1)-1+1=m'-1-(m-1) by omega,← e1,← e2,h0] at p
  have ha0:crs (plV v a) (plV v b) (plV v a)=0:=Eq _ _
  rcases p with ⟨_,g⟩ | ⟨_,g⟩
  ·have:=c'.lo;rw [← Option.some.inj g] at this;omega
  ·have:=c'.up;rw [← Option.some.inj g] at this;omega
end
end Go.Proofs.YtebkcipolijfmaaGreat
