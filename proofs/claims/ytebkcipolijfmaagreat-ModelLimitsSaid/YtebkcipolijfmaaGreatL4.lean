/- Which sides of a triangulation cross a line. -/
import Derived.Test.YtebkcipolijfmaaGreatU8
import Derived.Test.YtebkcipolijfmaaGreatU7
namespace Go.Proofs.YtebkcipolijfmaaGreat
open Go Go.RowKit
theorem Aek (p q:Ac):El p q=some (decide (befP p q)):=by
 unfold El befP
 grind [Ah,jn_d]
theorem Xz {v:List Ab} {i:Int} (hi:inN v.length i):∃ x,idx v i=some x∧(⟨x.X,x.Y⟩:Ac)=plV v i:=by
 obtain ⟨k,hk,rfl,e⟩:=Ji (v:=v) (i:=i) hi
 exact ⟨v[k],e,by unfold plV;rw [e]⟩
/-- r lies strictly between p and q. -/
def BtwF (p q r:Ac):Prop:=Btw p q r∧¬ Da r p∧¬ Da r q
theorem Sn {p q r:Ac} (hp:okP p) (hq:okP q) (hr:okP r) [Decidable (BtwF p q r)]:Gy p q r=some (decide (BtwF p q r)):=by
 unfold Gy
 rw [jn_d,Qp hp hq hr,Ah,Aek,Aek]
 have e0:(Int.sign (crs p q r)=0)↔crs p q r=0:=Int.sign_eq_zero_iff_zero
 by_cases c:crs p q r=0
 ·rw [if_pos (e0.2 c)]
  by_cases c1:Da r p
  ·rw [if_pos (by simpa [Da] using c1)]
   simp only [Option.some.injEq]
   exact (decide_eq_false fun h=>h.2.1 c1).symm
  ·rw [if_neg (by simpa [Da] using c1)]
   by_cases c2:Da r q
   ·rw [if_pos (by simpa [Da] using c2)]
    simp only [Option.some.injEq]
    exact (decide_eq_false fun h=>h.2.2 c2).symm
   ·rw [if_neg (by simpa [Da] using c2),Ah,Ah]
    simp only [Option.some.injEq]
    by_cases g1:befP p r <;> by_cases g2:befP q r <;> simp [g1,g2,BtwF,Btw,c,c1,c2]
 ·rw [if_neg (fun h=>c (e0.1 h))]
  simp only [Option.some.injEq]
  exact (decide_eq_false fun h=>c h.1.1).symm
/-- Two lines have a place in common that is no common end. -/
def Meet (a b c d:Ac):Prop:=(BtwF a b c∨BtwF a b d∨BtwF c d a∨BtwF c d b)∨(Int.sign (crs a b c)*Int.sign (crs a b d) < 0∧Int.sign (crs c d a)*Int.sign (crs c d b) < 0)
theorem Atn {a b c d:Ac} (ha:okP a) (hb:okP b) (hc:okP c) (hd:okP d) [Decidable (Meet a b c d)]:Uo a b c d=some (decide (Meet a b c d)):=by
 unfold Uo
 haveI:∀ p q r,Decidable (BtwF p q r):=fun _ _ _=>Classical.propDecidable _
 have w0:∀ x y:Ac,∀ z t:Ac,w64 (Int.sign (crs x y z)*Int.sign (crs x y t))=Int.sign (crs x y z)*Int.sign (crs x y t):=fun x y z t=>Acw
 rw [jn_d,Sn ha hb hc,Ah,Sn ha hb hd,Ah,Sn hc hd ha,Ah,Sn hc hd hb,Ah]
 by_cases c1:BtwF a b c
 ·rw [if_pos (by simpa using c1)];dsimp only;rw [if_pos rfl,decide_eq_true (show Meet a b c d from .inl (.inl c1))]
 rw [if_neg (by simpa using c1)]
 by_cases c2:BtwF a b d
 ·rw [if_pos (by simpa using c2)];dsimp only;rw [if_pos rfl,decide_eq_true (show Meet a b c d from .inl (.inr (.inl c2)))]
 rw [if_neg (by simpa using c2)]
 by_cases c3:BtwF c d a
 ·rw [if_pos (by simpa using c3)];dsimp only;rw [if_pos rfl,decide_eq_true (show Meet a b c d from .inl (.inr (.inr (.inl c3))))]
 rw [if_neg (by simpa using c3)]
 dsimp only
 by_cases c4:BtwF c d b
 ·rw [if_pos (by simpa using c4),decide_eq_true (show Meet a b c d from .inl (.inr (.inr (.inr c4))))]
 rw [if_neg (by simpa using c4),jn_d,Qp ha hb hc,Ah,Qp ha hb hd,Ah,w0]
 by_cases c5:Int.sign (crs a b c)*Int.sign (crs a b d) < 0
 ·rw [if_pos c5,Qp hc hd ha,Ah,Qp hc hd hb,Ah,w0]
  simp only [Option.some.injEq]
  exact decide_eq_decide.2 ⟨fun h=>.inr ⟨c5,h⟩,fun h=>h.elim (fun g=>by rcases g with g | g | g | g <;> contradiction) fun g=>g.2⟩
 ·rw [if_neg c5]
  simp only [Option.some.injEq]
  exact (decide_eq_false fun h=>h.elim (fun g=>by rcases g with g | g | g | g <;> contradiction) fun g=>c5 g.1).symm
variable {v:List Ab} {ap:Ap} {a b:Int}
/-- .. lines of vertices. -/
def Hc (v:List Ab) (a b x y:Int):Prop:=(a≠x∧a≠y∧b≠x∧b≠y)∧Meet (plV v a) (plV v b) (plV v x) (plV v y)
noncomputable instance (v:List Ab) (a b x y:Int):Decidable (Hc v a b x y):=Classical.propDecidable _
theorem Ww (hv:Hj v) {k l:Aa} (h1:inN v.length k.a0) (h2:inN v.length k.a1) (h3:inN v.length l.a0) (h4:inN v.length l.a1):Gz v k l=some (decide (Hc v k.a0 k.a1 l.a0 l.a1)):=by
 unfold Gz
 haveI:∀ p q r s,Decidable (Meet p q r s):=fun _ _ _ _=>Classical.propDecidable _
 obtain ⟨x1,i1,e1⟩:=Xz h1
 obtain ⟨x2,i2,e2⟩:=Xz h2
 obtain ⟨x3,i3,e3⟩:=Xz h3
 obtain ⟨x4,i4,e4⟩:=Xz h4
 rw [jn_d]
 by_cases c1:k.a0=l.a0
 ·rw [if_pos c1];dsimp only;rw [if_pos rfl,decide_eq_false fun h=>h.1.1 c1]
 rw [if_neg c1]
 by_cases c2:k.a0=l.a1
 ·rw [if_pos c2];dsimp only;rw [if_pos rfl,decide_eq_false fun h=>h.1.2.1 c2]
 rw [if_neg c2]
 by_cases c3:k.a1=l.a0
 ·rw [if_pos c3];dsimp only;rw [if_pos rfl,decide_eq_false fun h=>h.1.2.2.1 c3]
 rw [if_neg c3]
 dsimp only
 by_cases c4:k.a1=l.a1
 ·rw [if_pos (by simpa using c4),decide_eq_false fun h=>h.1.2.2.2 c4]
 rw [if_neg (by simpa using c4),i1,Ah,i2,Ah,i3,Ah,i4,Ah]
 unfold Fb
 rw [Ah,Ah,Ah,Ah,e1,e2,e3,e4,Atn (hv.ok _ h1) (hv.ok _ h2) (hv.ok _ h3) (hv.ok _ h4),Ah]
 simp only [Option.some.injEq]
 exact decide_eq_decide.2 ⟨fun h=>⟨⟨c1,c2,c3,c4⟩,h⟩,fun h=>h.2⟩
/-- A place strictly between two others: its part of the way. -/
theorem Ato {x y k:Ac} (h:BtwF x y k):∃ d D:Int,0 < d∧d < D∧∀ p q:Ac,D*crs p q k=(D-d)*crs p q x+d*crs p q y:=by
 obtain ⟨⟨h0,hb⟩,n1,n2⟩:=h
 have fin:∀ d D:Int,0 < d→d < D→D*(k.X-x.X)=d*(y.X-x.X)→D*(k.Y-x.Y)=d*(y.Y-x.Y)→∃ d D:Int,0 < d∧d < D∧∀ p q:Ac,D*crs p q k=(D-d)*crs p q x+d*crs p q y:=by
  intro d D g1 g2 g3 g4
  refine ⟨d,D,g1,g2,fun p q=>?_⟩
  have e1:D*k.X=(D-d)*x.X+d*y.X:=by grind
  have e2:D*k.Y=(D-d)*x.Y+d*y.Y:=by grind
  have e3:D*crs p q k=(q.X-p.X)*(D*k.Y-D*p.Y)-(q.Y-p.Y)*(D*k.X-D*p.X):=by unfold crs;grind
  rw [e3,e1,e2]
  unfold crs
  grind
 have h0':(y.X-x.X)*(k.Y-x.Y)=(y.Y-x.Y)*(k.X-x.X):=by unfold crs at h0;omega
 unfold befP at hb
 unfold Da at n1 n2
 rcases Int.lt_trichotomy x.X y.X with c | c | c
 ·-- to the right
  have b1:x.X < k.X:=by
   refine Classical.byContradiction fun g=>?_
   by_cases e:k.X=x.X
   ·rw [e,Int.sub_self,Int.mul_zero] at h0'
    rcases Int.mul_eq_zero.1 h0' with g' | g' <;> omega
   ·omega
  have b2:k.X < y.X:=by
   refine Classical.byContradiction fun g=>?_
   by_cases e:k.X=y.X
   ·rw [e,Int.mul_comm] at h0'
    have:=Int.eq_of_mul_eq_mul_right (by omega) h0'
    omega
   ·omega
  refine fin (k.X-x.X) (y.X-x.X) (by omega) (by omega) (Int.mul_comm _ _) (by rw [h0',Int.mul_comm])
 ·-- upright
  rw [c,Int.sub_self,Int.zero_mul] at h0'
  rcases Int.mul_eq_zero.1 h0'.symm with g | g
  ·omega
  ·by_cases d:x.Y < y.Y
   ·refine fin (k.Y-x.Y) (y.Y-x.Y) (by omega) (by omega) ?_ (Int.mul_comm _ _)
    rw [show k.X-x.X=0 by omega,show y.X-x.X=0 by omega,Int.mul_zero,Int.mul_zero]
   ·refine fin (x.Y-k.Y) (x.Y-y.Y) (by omega) (by omega) ?_ ?_
    ·rw [show k.X-x.X=0 by omega,show y.X-x.X=0 by omega,Int.mul_zero,Int.mul_zero]
    ·grind
 ·have b1:k.X < x.X:=by
   refine Classical.byContradiction fun g=>?_
   by_cases e:k.X=x.X
   ·rw [e,Int.sub_self,Int.mul_zero] at h0'
    rcases Int.mul_eq_zero.1 h0' with g' | g' <;> omega
   ·omega
  have b2:y.X < k.X:=by
   refine Classical.byContradiction fun g=>?_
   by_cases e:k.X=y.X
   ·rw [e,Int.mul_comm] at h0'
    have:=Int.eq_of_mul_eq_mul_right (by omega) h0'
    omega
   ·omega
  refine fin (x.X-k.X) (x.X-y.X) (by omega) (by omega) (by grind) (by grind)
theorem Agc (ht:Tri (plV v) (inN v.length) ap) {x y z k:Int} (h:ap x y=some z) (hk:inN v.length k) (h1:k≠x) (h2:k≠y):¬ BtwF (plV v x) (plV v y) (plV v k):=fun g=>by
 obtain ⟨d,D,d1,d2,hd⟩:=Ato g
 obtain ⟨vx,vy,vz,T⟩:=ht.ccw _ _ _ h
 have e0:crs (plV v x) (plV v y) (plV v k)=0:=g.1.1
 by_cases e:k=z
 ·rw [e] at e0;omega
 have em:=ht.emp _ _ _ h k hk h1 h2 e
 have i1:=hd (plV v y) (plV v z)
 have i2:=hd (plV v z) (plV v x)
 rw [Eq,Int.mul_zero,Int.add_zero] at i1
 rw [Ow,Int.mul_zero,Int.zero_add] at i2
 have t1:crs (plV v y) (plV v z) (plV v x)=crs (plV v x) (plV v y) (plV v z):=by rw [Ar]
 have t2:crs (plV v z) (plV v x) (plV v y)=crs (plV v x) (plV v y) (plV v z):=by rw [← Ar]
 rw [t1] at i1
 rw [t2] at i2
 have m1:=Int.mul_pos (show 0 < D-d by omega) T
 have m2:=Int.mul_pos d1 T
 have p1:=Dl (x:=D) (y:=crs (plV v y) (plV v z) (plV v k)) (by omega) (by omega)
 have p2:=Dl (x:=D) (y:=crs (plV v z) (plV v x) (plV v k)) (by omega) (by omega)
 omega
theorem Po {x y:Int}:Int.sign x*Int.sign y < 0↔(0 < x∧y < 0)∨(x < 0∧0 < y):=by
 rcases Int.lt_trichotomy x 0 with h | h | h <;> rcases Int.lt_trichotomy y 0 with k | k | k
 all_goals first
  | (subst h;simp;try omega)
  | (subst k;simp;try omega)
  | (rw [Int.sign_eq_neg_one_of_neg h,Int.sign_eq_neg_one_of_neg k];omega)
  | (rw [Int.sign_eq_neg_one_of_neg h,Int.sign_eq_one_of_pos k];omega)
  | (rw [Int.sign_eq_one_of_pos h,Int.sign_eq_neg_one_of_neg k];omega)
  | (rw [Int.sign_eq_one_of_pos h,Int.sign_eq_one_of_pos k];omega)
theorem Cr.cross {x y:Int} (h:Cr v a b x y):Hc v a b x y∧Hc v a b y x:=by
 obtain ⟨h1,h2,h3,h4⟩:=h
 have ends:a≠x∧a≠y∧b≠x∧b≠y:=by
  refine ⟨fun e=>?_,fun e=>?_,fun e=>?_,fun e=>?_⟩
  ·rw [← e,Eq] at h1;omega
  ·rw [← e,Eq] at h2;omega
  ·rw [← e,Ow] at h1;omega
  ·rw [← e,Ow] at h2;omega
 refine ⟨⟨ends,.inr ⟨Po.2 (by omega),Po.2 (by omega)⟩⟩,⟨⟨ends.2.1,ends.1,ends.2.2.2,ends.2.2.1⟩,.inr ⟨Po.2 (by omega),Po.2 ?_⟩⟩⟩
 have e1:crs (plV v y) (plV v x) (plV v a) = -crs (plV v x) (plV v y) (plV v a):=Bv _ _ _
 have e2:crs (plV v y) (plV v x) (plV v b) = -crs (plV v x) (plV v y) (plV v b):=Bv _ _ _
 omega
/-- The sides that the program takes for crossing ones. -/
theorem Ael (ht:Tri (plV v) (inN v.length) ap) (ha:inN v.length a) (hb:inN v.length b) (hf:Free v a b) {x y:Int} (hs:ap x y≠none∨ap y x≠none):Hc v a b x y↔Cr v a b x y∨Cr v a b y x:=by
 constructor
 ·rintro ⟨⟨n1,n2,n3,n4⟩,h⟩
  have vxy:inN v.length x∧inN v.length y:=by
   rcases hs with hs | hs <;> obtain ⟨z,hz⟩:=Option.ne_none_iff_exists'.1 hs <;> obtain ⟨p,q,_⟩:=ht.ccw _ _ _ hz
   ·exact ⟨p,q⟩
   ·exact ⟨q,p⟩
  have nb:∀ k,inN v.length k→k≠x→k≠y→¬ BtwF (plV v x) (plV v y) (plV v k):=fun k hk k1 k2 g=>by
   rcases hs with hs | hs <;> obtain ⟨z,hz⟩:=Option.ne_none_iff_exists'.1 hs
   ·exact Agc ht hz hk k1 k2 g
   ·refine Agc ht hz hk k2 k1 ⟨⟨?_,fun e=>g.1.2 e.symm⟩,g.2.2,g.2.1⟩
    rw [Bv];have:=g.1.1;omega
  rcases h with (g | g | g | g) | ⟨g1,g2⟩
  ·exact absurd g.1 (hf x vxy.1 (fun e=>n1 e.symm) (fun e=>n3 e.symm))
  ·exact absurd g.1 (hf y vxy.2 (fun e=>n2 e.symm) (fun e=>n4 e.symm))
  ·exact absurd g (nb a ha n1 n2)
  ·exact absurd g (nb b hb n3 n4)
  ·have e:crs (plV v x) (plV v y) (plV v b)-crs (plV v x) (plV v y) (plV v a)=crs (plV v a) (plV v b) (plV v x)-crs (plV v a) (plV v b) (plV v y):=by unfold crs;grind
   have e1:crs (plV v y) (plV v x) (plV v a) = -crs (plV v x) (plV v y) (plV v a):=Bv _ _ _
   have e2:crs (plV v y) (plV v x) (plV v b) = -crs (plV v x) (plV v y) (plV v b):=Bv _ _ _
   rw [Po] at g1 g2
   rcases g1 with ⟨g1,g1'⟩ | ⟨g1,g1'⟩
   ·exact .inl ⟨g1,g1',by omega,by omega⟩
   ·exact .inr ⟨g1',g1,by omega,by omega⟩
 ·rintro (h | h)
  ·exact h.cross.1
  ·exact h.cross.2
/-- The sides of a strip cross. -/
theorem fwd (ht:Tri (plV v) (inN v.length) ap) {u w k:Int} (h1:0 < crs (plV v a) (plV v b) (plV v u)) (h2:crs (plV v a) (plV v b) (plV v w) < 0) (h3:crs (plV v u) (plV v w) (plV v a) < 0) (hk:ap u w=some k) :
  (0 < crs (plV v a) (plV v b) (plV v k)→crs (plV v k) (plV v w) (plV v a) < 0)∧(crs (plV v a) (plV v b) (plV v k) < 0→crs (plV v u) (plV v k) (plV v a) < 0):=by
 obtain ⟨vu,vw,vk,T⟩:=ht.ccw _ _ _ hk
 have sa:=Ng (plV v u) (plV v w) (plV v k) (plV v a)
 have ba:=Asp (plV v a) (plV v b) (plV v u) (plV v w) (plV v k) (plV v a)
 rw [Eq,Int.mul_zero] at ba
 constructor
 ·intro g
  refine Classical.byContradiction fun n=>?_
  have e:crs (plV v w) (plV v k) (plV v a) = -crs (plV v k) (plV v w) (plV v a):=Bv _ _ _
  have m1:=Int.mul_nonneg (show 0≤-crs (plV v w) (plV v k) (plV v a) by omega) (Int.le_of_lt h1)
  have m2:=Int.mul_pos (show 0 < -crs (plV v u) (plV v w) (plV v a) by omega) g
  rw [Int.neg_mul] at m1 m2
  have:=Dl (x:=-crs (plV v a) (plV v b) (plV v w)) (y:=-crs (plV v k) (plV v u) (plV v a)) (by rw [Int.neg_mul_neg,Int.mul_comm];omega) (by omega)
  omega
 ·intro g
  refine Classical.byContradiction fun n=>?_
  have e:crs (plV v k) (plV v u) (plV v a) = -crs (plV v u) (plV v k) (plV v a):=Bv _ _ _
  have m1:=Int.mul_nonneg (show 0≤-crs (plV v k) (plV v u) (plV v a) by omega) (show 0≤-crs (plV v a) (plV v b) (plV v w) by omega)
  have m2:=Int.mul_pos (show 0 < -crs (plV v u) (plV v w) (plV v a) by omega) (show 0 < -crs (plV v a) (plV v b) (plV v k) by omega)
  rw [Int.neg_mul_neg] at m1 m2
  have:=Dl (x:=crs (plV v a) (plV v b) (plV v u)) (y:=-crs (plV v w) (plV v k) (plV v a)) (by rw [Int.mul_neg,Int.mul_comm];omega) h1
  omega
theorem Eb.cr {m:Nat} {u w:Nat→Int} (h:Eb (plV v) ap a b m u w) (ht:Tri (plV v) (inN v.length) ap):∀ i,i < m→Cr v a b (u i) (w i):=by
 have ra:∀ i,i < m→crs (plV v (u i)) (plV v (w i)) (plV v a) < 0:=by
  intro i
  induction i with
  | zero =>
   intro hi
   have:=(ht.ccw _ _ _ (h.first hi)).2.2.2
   rw [Bv] at this
   omega
  | succ i ih =>
   intro hi
   have g:=ih (by omega)
   rcases h.next i hi with ⟨k1,k2⟩ | ⟨k1,k2⟩
   ·rw [k1]
    exact (fwd ht (h.up i (by omega)) (h.lo i (by omega)) g k2).2 (h.lo _ hi)
   ·rw [k1]
    exact (fwd ht (h.up i (by omega)) (h.lo i (by omega)) g k2).1 (h.up _ hi)
 have rb:∀ d,d < m→0 < crs (plV v (u (m-1-d))) (plV v (w (m-1-d))) (plV v b):=by
  intro d
  induction d with
  | zero =>
   intro hi
   exact (ht.ccw _ _ _ (h.last (m-1-0) (by omega))).2.2.2
  | succ d ih =>
   intro hi
   have g:=ih (by omega)
   have hd:=h.prev ht (i:=m-1-(d+1)) (by omega)
   rw [show m-1-(d+1)+1=m-1-d by omega] at hd
   have i1:=h.up (m-1-d) (by omega)
   have i2:=h.lo (m-1-d) (by omega)
   have i3:=h.up (m-1-(d+1)) (by omega)
   have i4:=h.lo (m-1-(d+1)) (by omega)
   have s1:∀ z,crs (plV v b) (plV v a) z = -crs (plV v a) (plV v b) z:=fun z=>Bv _ _ _
   rcases hd with ⟨k1,k2⟩ | ⟨k1,k2⟩
   ·have:=(fwd (a:=b) (b:=a) ht (by rw [s1];omega) (by rw [s1];omega) (by rw [Bv];omega) k2).1 (by rw [s1];omega)
    rw [k1,Bv] at this
    omega
   ·have:=(fwd (a:=b) (b:=a) ht (by rw [s1];omega) (by rw [s1];omega) (by rw [Bv];omega) k2).2 (by rw [s1];omega)
    rw [k1,Bv] at this
    omega
 intro i hi
 have:=rb (m-1-i) (by omega)
 rw [show m-1-(m-1-i)=i by omega] at this
 exact ⟨h.up i hi,h.lo i hi,ra i hi,this⟩
end Go.Proofs.YtebkcipolijfmaaGreat
/- Loops that end because no run of them is endless. -/
namespace Go.Proofs.YtebkcipolijfmaaGreat
open Go Go.RowKit
theorem Akn {σ τ γ:Type} {B:σ→Option (Sum σ τ)} (I:σ→γ→Prop) (R:σ→γ→σ→γ→Prop) (Post:τ→Prop)
  (step:∀ s g,I s g→(∃ t,B s=some (.inr t)∧Post t)∨∃ s' g',B s=some (.inl s')∧I s' g'∧R s g s' g')
  (noinf:∀ f:Nat→σ × γ,(∀ n,I (f n).1 (f n).2)→(∀ n,R (f n).1 (f n).2 (f (n+1)).1 (f (n+1)).2)→False) :
  ∀ s g,I s g→∃ t,lfix B s=some t∧Post t:=by
 intro s g h
 refine Classical.byContradiction fun hno=>?_
 have next:∀ x:{x:σ × γ // I x.1 x.2∧¬ ∃ t,lfix B x.1=some t∧Post t},∃ y:{x:σ × γ // I x.1 x.2∧¬ ∃ t,lfix B x.1=some t∧Post t},R x.1.1 x.1.2 y.1.1 y.1.2:=by
  rintro ⟨⟨s,g⟩,hi,hn⟩
  simp only at hi hn
  rcases step s g hi with ⟨t,h1,h2⟩ | ⟨s',g',h1,h2,h3⟩
  ·exact absurd ⟨t,by rw [Ci,h1],h2⟩ hn
  ·refine ⟨⟨(s',g'),h2,fun ⟨t,h4,h5⟩=>hn ⟨t,?_,h5⟩⟩,h3⟩
   rw [Ci,h1]
   exact h4
 let F:Nat→{x:σ × γ // I x.1 x.2∧¬ ∃ t,lfix B x.1=some t∧Post t}:=fun n=>Nat.rec ⟨(s,g),h,hno⟩ (fun _ x=>Classical.choose (next x)) n
 exact noinf (fun n=>(F n).1) (fun n=>(F n).2.1) (fun n=>Classical.choose_spec (next (F n)))
/-- What never grows stands still at last. -/
theorem Aem {m:Nat→Nat} (h:∀ n,m (n+1)≤m n):∃ T,∀ n,T≤n→m n=m T:=by
 have mono:∀ a d,m (a+d)≤m a:=by
  intro a d
  induction d with
  | zero=>exact Nat.le_refl _
  | succ d ih=>exact Nat.le_trans (h (a+d)) ih
 have key:∀ N T,m T=N→∃ T,∀ n,T≤n→m n=m T:=by
  intro N
  induction N using Nat.strongRecOn with
  | ind N ih =>
   intro T hT
   by_cases c:∃ n,T≤n∧m n≠m T
   ·obtain ⟨n,h1,h2⟩:=c
    have:=mono T (n-T)
    rw [show T+(n-T)=n by omega] at this
    exact ih (m n) (by omega) n rfl
   ·exact ⟨T,fun n hn=>Classical.byContradiction fun g=>c ⟨n,hn,g⟩⟩
 exact key _ 0 rfl
/-- A list that is turned again and again. -/
theorem Aob {π:Nat→List Nat} (h:∀ t,∃ i l,π t=i::l∧π (t+1)=l++[i]):∀ k t,k≤(π t).length→π (t+k)=(π t).drop k++(π t).take k:=by
 intro k
 induction k with
 | zero=>intro t _;simp
 | succ k ih =>
  intro t hk
  have e:=ih t (by omega)
  obtain ⟨i,l,h1,h2⟩:=h (t+k)
  rw [show t+(k+1)=t+k+1 by omega,h2]
  rw [h1] at e
  have hd:(π t).drop k=(π t)[k]::(π t).drop (k+1):=(List.drop_eq_getElem_cons (by omega))
  rw [hd,List.cons_append] at e
  injection e with e1 e2
  rw [e1,e2,List.append_assoc]
  congr 1
  rw [List.take_succ_eq_append_getElem (by omega)]
theorem Aoc {π:Nat→List Nat} {m:Nat} (h:∀ t,∃ i l,π t=i::l∧π (t+1)=l++[i]) (hn:∀ t,(π t).Nodup) (hm:∀ t i,i∈π t↔i < m) :
  (∀ t i,i < m→∃ t',t≤t'∧t' < t+m∧(π t').headD 0=i)∧(∀ t t',t < t'→t' < t+m→(π t).headD 0≠(π t').headD 0)∧∀ t,(π t).headD 0 < m:=by
 have len:∀ t,(π t).length=m:=fun t=>by
  have p:(π t).Perm (List.range m):=(List.perm_ext_iff_of_nodup (hn t) List.nodup_range).2 fun i=>by rw [hm t i,List.mem_range]
  rw [p.length_eq,List.length_range]
 have head:∀ t k (hk:k < (π t).length),(π (t+k)).headD 0=(π t)[k]:=fun t k hk=>by
  rw [Aob h k t (by omega),List.drop_eq_getElem_cons hk,List.cons_append]
  rfl
 refine ⟨fun t i hi=>?_,fun t t' h1 h2 e=>?_,fun t=>?_⟩
 ·obtain ⟨k,hk,e⟩:=List.mem_iff_getElem.1 ((hm t i).2 hi)
  have:=len t
  exact ⟨t+k,by omega,by omega,by rw [head t k hk];exact e⟩
 ·have l:=len t
  have e1:=head t 0 (by omega)
  have e2:=head t (t'-t) (by omega)
  rw [show t+(t'-t)=t' by omega] at e2
  rw [Nat.add_zero] at e1
  rw [e1,e2] at e
  exact (List.pairwise_iff_getElem.1 (hn t)) 0 (t'-t) (by omega) (by omega) (by omega) e
 ·obtain ⟨i,l,h1,_⟩:=h t
  have:=(hm t i).1 (by rw [h1];exact List.mem_cons_self)
  rw [h1]
  exact this
end Go.Proofs.YtebkcipolijfmaaGreat
/- Settling, run. -/
namespace Go.Proofs.YtebkcipolijfmaaGreat
open Go Go.RowKit
/-- What a step of settling leaves behind. -/
structure Pp (v:List Ab) (F:List (Aa × Bool)) (m m':Mp):Prop where
 cov:∀ S:Int→Prop,Cov (plV v) S (apM m)→Cov (plV v) S (apM m')
 fix:∀ i j,Fx F i j=true→(apM m i j≠none∨apM m j i≠none)→(apM m' i j≠none∨apM m' j i≠none)
 ne:m≠[]→m'≠[]
theorem Pp.refl {v F m}:Pp v F m m:=⟨fun _ h=>h,fun _ _ _ h=>h,fun h=>h⟩
theorem Pp.trans {v F m m' m''} (h:Pp v F m m') (k:Pp v F m' m''):Pp v F m m'':=⟨fun S h1=>k.cov S (h.cov S h1),fun i j h1 h2=>k.fix i j h1 (h.fix i j h1 h2),fun h1=>k.ne (h.ne h1)⟩
theorem Amu {F:List (Aa × Bool)} {i j:Int}:Fx F j i=Fx F i j:=by unfold Fx;rw [Int.min_comm,Int.max_comm]
theorem Aja {v F q s m} (hv:Hj v) (hn:v.length≤1024) (h:Jg v F (q++[s]) m) (hq:q.length≤5000000000) :
  ∃ q' m',Do (v,m,F,q++[s])=some (.inl (v,m',F,q'))∧Jg v F q' m'∧Pp v F m m'∧((m'=m∧q'=q)∨(phi (plV v) (hV v) v.length m' < phi (plV v) (hV v) v.length m∧q'.length=q.length+4)):=by
 obtain ⟨k1,k2,k3⟩:=h.qn s (by simp)
 have es:pr2 s.a0 s.a1=s:=by
  obtain ⟨x,y⟩:=s
  unfold pr2
  rw [Hl]
  simp only at k3 ⊢
  omega
 have hw:w64 ((((q++[s]).length:Nat):Int)-1)=((q.length:Nat):Int):=by rw [List.length_append,List.length_singleton,Bs (by omega) (by omega)];omega
 have hi:idx (q++[s]) ((q.length:Nat):Int)=some s:=(Cf (by simp)).trans (by simp)
 have ht:List.take (Int.toNat ((q.length:Nat):Int)) (q++[s])=q:=by simp
 have e0:Do (v,m,F,q++[s]) =
   (fun j18:List Aa × Bool→Option (Sum (List Ab × Mp × List (Aa × Bool) × List Aa) Ae)=>if ((mget m s).isSome)=true then (if ((mget m ((⟨s.a1,s.a0⟩:Aa))).isSome)=true then (
    if (mget F s).getD false=true then (j18 (q,true))
    else (bnd (Ok (plV v s.a0) (plV v s.a1) (plV v ((mget m s).getD 0)) (plV v ((mget m ((⟨s.a1,s.a0⟩:Aa))).getD 0))) fun r169=>j18 (q,r169)))
   else (j18 (q,true))) else (j18 (q,true)))
   (fun s18=>if s18.2=true then (some (.inl (v,m,F,s18.1)))
    else (bnd (Df (⟨v,m,F⟩:Ae) s.a0 s.a1) fun r185 =>
    if r185.2=true then (gd (((s18.1).length+4)*16≤140737488355328) <|
     some (.inl (r185.1.v,r185.1.apex,r185.1.fixed,s18.1++[pr2 s.a0 ((mget m s).getD 0),pr2 ((mget m s).getD 0) s.a1,pr2 s.a1 ((mget m ((⟨s.a1,s.a0⟩:Aa))).getD 0),pr2 ((mget m ((⟨s.a1,s.a0⟩:Aa))).getD 0) s.a0])))
    else (some (.inl (r185.1.v,r185.1.apex,r185.1.fixed,s18.1))))):=by
  unfold Do
  simp only [hw]
  rw [if_pos (by simp),hi,Ah,gd_t (by simp;omega),gd_t (Mh hn k1 k2),Ah,gd_t (Mh hn k2 k1),Ah,jn_d,ht]
  by_cases c1:(mget m s).isSome=true
  ·rw [if_pos c1,if_pos c1]
   by_cases c2:(mget m (⟨s.a1,s.a0⟩:Aa)).isSome=true
   ·rw [if_pos c2,if_pos c2,gd_t (Mh hn k1 k2),Ah]
    obtain ⟨k,hk⟩:=Option.isSome_iff_exists.1 c1
    obtain ⟨l,hl⟩:=Option.isSome_iff_exists.1 c2
    have hk':apM m s.a0 s.a1=some k:=hk
    have vk:=(h.map.val hk').2.2
    have vl:=(h.map.val (show apM m s.a1 s.a0=some l from hl)).2.2
    rw [p_eq (b:=⟨v,m,F⟩) k1,Ah,p_eq (b:=⟨v,m,F⟩) k2,Ah,hk,hl]
    simp only [Option.getD_some]
    rw [p_eq (b:=⟨v,m,F⟩) vk,Ah,p_eq (b:=⟨v,m,F⟩) vl,Ah]
    rfl
   ·rw [if_neg c2,if_neg c2];rfl
  ·rw [if_neg c1,if_neg c1];rfl
 rw [e0]
 dsimp only
 have pop:(∀ k l,apM m s.a0 s.a1=some k→apM m s.a1 s.a0=some l→Fx F s.a0 s.a1=true∨DH (plV v) (hV v) s.a0 s.a1 k l < 0) →
   ∃ q' m',some (Sum.inl (v,m,F,q))=some (Sum.inl (β:=Ae) (v,m',F,q'))∧Jg v F q' m'∧Pp v F m m'∧((m'=m∧q'=q)∨(phi (plV v) (hV v) v.length m' < phi (plV v) (hV v) v.length m∧q'.length=q.length+4)) :=
  fun hs=>⟨q,m,rfl,h.pop hs,.refl,.inl ⟨rfl,rfl⟩⟩
 by_cases c1:(mget m s).isSome=true
 ·obtain ⟨k,hk⟩:=Option.isSome_iff_exists.1 c1
  have hk':apM m s.a0 s.a1=some k:=hk
  rw [if_pos c1]
  by_cases c2:(mget m (⟨s.a1,s.a0⟩:Aa)).isSome=true
  ·obtain ⟨l,hl⟩:=Option.isSome_iff_exists.1 c2
   have hl':apM m s.a1 s.a0=some l:=hl
   rw [if_pos c2]
   have hF:Fx F s.a0 s.a1=(mget F s).getD false:=by
    show (mget F (pr2 s.a0 s.a1)).getD false=_
    rw [es]
   by_cases c3:(mget F s).getD false=true
   ·rw [if_pos c3]
    exact pop fun _ _ _ _=>.inl (by rw [hF];exact c3)
   ·rw [if_neg c3,hk,hl]
    simp only [Option.getD_some]
    obtain ⟨vi,vj,vk,ck⟩:=h.tri.ccw _ _ _ hk'
    obtain ⟨_,_,vl,cl⟩:=h.tri.ccw _ _ _ hl'
    have c0:crs (plV v s.a0) (plV v s.a1) (plV v l) < 0:=by rw [Bv];omega
    obtain ⟨hleg,hne⟩:=Abp hv vi vj vk vl ck c0
    have hsd:Int.sign (crs (plV v s.a0) (plV v s.a1) (plV v k))*Int.sign (crs (plV v s.a0) (plV v s.a1) (plV v l)) = -1:=by rw [Ab1];exact .inr ⟨ck,c0⟩
    obtain ⟨d1,d2,d3,d4⟩:=Ahp hsd
    rw [Arq (hv.ok _ vi) (hv.ok _ vj) (hv.ok _ vk) (hv.ok _ vl) d1 d2 d3 d4,Ah]
    by_cases c4:legP (plV v s.a0) (plV v s.a1) (plV v k) (plV v l)
    ·rw [decide_eq_true c4,if_pos rfl]
     refine pop fun k' l' hk2 hl2=>.inr ?_
     rw [hk'] at hk2
     rw [hl'] at hl2
     cases hk2;cases hl2
     exact hleg.1 c4
    ·rw [decide_eq_false c4,if_neg (by simp)]
     have hD:¬ DH (plV v) (hV v) s.a0 s.a1 k l < 0:=fun g=>c4 (hleg.2 g)
     have Q:=Ah5 hv h.tri hk' hl' hD
     have hs:Int.sign (crs (plV v k) (plV v l) (plV v s.a0))*Int.sign (crs (plV v k) (plV v l) (plV v s.a1)) = -1:=by
      rw [Ab1]
      left
      refine ⟨?_,by rw [Ar];exact Q.c2⟩
      have e:crs (plV v k) (plV v l) (plV v s.a0) = -crs (plV v s.a0) (plV v l) (plV v k):=by unfold crs;grind
      have:=Q.c1
      omega
     rw [Ah1 (b:=⟨v,m,F⟩) hv hn h.map hk' hl',if_pos hs,Ah]
     simp only [if_true]
     rw [gd_t (by omega)]
     obtain ⟨n1,n2,n3,n4,n5,n6⟩:=Q.ne
     refine ⟨_,_,rfl,h.flip hv hk' hl' hD,⟨fun S hc=>?_,fun a b hF2 hab=>?_,fun _=>by simp [flipM,putM,mput]⟩,.inr ⟨Aj1 h.map.ok (Xx hv) Q (by omega),by simp⟩⟩
     ·rw [Us h.map.ok n1 n2 n3 n4 n5 n6]
      exact Q.cov hc
     ·rw [Us h.map.ok n1 n2 n3 n4 n5 n6]
      have nf:∀ a b,Fx F a b=true→¬ ((a=s.a0∧b=s.a1)∨(a=s.a1∧b=s.a0)):=fun a b hab e=>by
       rcases e with ⟨e1,e2⟩ | ⟨e1,e2⟩
       ·rw [e1,e2,hF] at hab;exact c3 hab
       ·rw [e1,e2,Amu,hF] at hab;exact c3 hab
      rcases hab with g | g
      ·left
       intro e
       rcases Ug e with t | t
       ·exact g t
       ·exact nf a b hF2 t
      ·right
       intro e
       rcases Ug e with t | t
       ·exact g t
       ·exact nf b a (by rw [Amu];exact hF2) t
  ·rw [if_neg c2]
   refine pop fun k' l' _ hl2=>?_
   exact absurd (by rw [show mget m (⟨s.a1,s.a0⟩:Aa)=some l' from hl2];rfl) c2
 ·rw [if_neg c1]
  refine pop fun k' l' hk2 _=>?_
  exact absurd (by rw [show mget m s=some k' from hk2];rfl) c1
theorem Aod {b:Ae} (hv:Hj b.v) (hn:b.v.length≤1024) (hm:MapN b.v.length b.apex) (ht:Tri (plV b.v) (inN b.v.length) (apM b.apex)) :
  ∃ m',Hz b=some ⟨b.v,m',b.fixed⟩∧Jg b.v b.fixed [] m'∧Pp b.v b.fixed b.apex m':=by
 have hsq:=Ys hn
 have hl:=hm.len
 have hf:∀ q,(Gv b.apex q).length≤1:=fun q=>by unfold Gv;split <;> simp
 have h0:Jg b.v b.fixed (Bg cmp2 (b.apex.flatMap (Gv b.apex))) b.apex:=by
  refine ⟨hm,ht,fun s hs=>?_,fun i j k l hk hl=>.inl ?_⟩
  ·rw [Ki] at hs
   obtain ⟨q,hq,hs⟩:=List.mem_flatMap.1 hs
   obtain ⟨k1,k2,k3⟩:=hm.key q hq
   unfold Gv at hs
   split at hs
   ·rw [List.mem_singleton] at hs
    subst hs
    unfold inN at *
    simp only
    omega
   ·cases hs
  ·rw [Ki,List.mem_flatMap]
   have n1:=(ht.ne hk).1
   rcases Int.lt_or_gt_of_ne n1 with c | c
   ·refine ⟨(⟨i,j⟩,k),Is hk,?_⟩
    unfold Gv pr2
    rw [if_pos (.inl c)]
    exact List.mem_singleton.2 rfl
   ·refine ⟨(⟨j,i⟩,l),Is hl,?_⟩
    unfold Gv
    rw [if_pos (.inl c),Nh]
    exact List.mem_singleton.2 rfl
 unfold Hz
 rw [Ajk hn hm,Ah]
 have hlen:(Bg cmp2 (b.apex.flatMap (Gv b.apex))).length≤1048576:=by
  rw [Gu]
  have:=Ew hf b.apex
  omega
 have hphi:phi (plV b.v) (hV b.v) b.v.length b.apex≤1073741824:=by
  have h1:=Ar4 (P:=plV b.v) (H:=hV b.v) (n:=b.v.length) b.apex
  have h2:=Nat.mul_le_mul (show b.apex.length≤1048576 by omega) hn
  omega
 have:=He (B:=Do) (fun s=>4*phi (plV b.v) (hV b.v) b.v.length s.2.1+s.2.2.2.length)
  (fun s=>s.1=b.v∧s.2.2.1=b.fixed∧Jg b.v b.fixed s.2.2.2 s.2.1∧Pp b.v b.fixed b.apex s.2.1∧4*phi (plV b.v) (hV b.v) b.v.length s.2.1+s.2.2.2.length≤5000000000)
  (fun t=>∃ m',t=⟨b.v,m',b.fixed⟩∧Jg b.v b.fixed [] m'∧Pp b.v b.fixed b.apex m') (fun s hs=>by
   obtain ⟨v,m,F,q⟩:=s
   obtain ⟨e1,e2,h1,h2,h3⟩:=hs
   simp only at e1 e2 h1 h2 h3
   subst e1;subst e2
   by_cases hq:q=[]
   ·subst hq
    right
    refine ⟨⟨b.v,m,b.fixed⟩,?_,m,rfl,h1,h2⟩
    unfold Do
    rw [if_neg (by simp)]
   ·left
    obtain ⟨q0,s,rfl⟩:∃ q0 s,q=q0++[s]:=⟨q.dropLast,q.getLast hq,(List.dropLast_concat_getLast hq).symm⟩
    rw [List.length_append,List.length_singleton] at h3
    obtain ⟨q',m',h4,h5,h6,h7⟩:=Aja hv hn h1 (by omega)
    refine ⟨_,h4,⟨rfl,rfl,h5,h2.trans h6,?_⟩,?_⟩
    ·dsimp only
     rcases h7 with ⟨rfl,rfl⟩ | ⟨g1,g2⟩ <;> omega
    ·dsimp only
     rw [List.length_append,List.length_singleton]
     rcases h7 with ⟨rfl,rfl⟩ | ⟨g1,g2⟩ <;> omega)
  (b.v,b.apex,b.fixed,Bg cmp2 (b.apex.flatMap (Gv b.apex))) ⟨rfl,rfl,h0,.refl,by dsimp only;omega⟩
 obtain ⟨t,h1,m',rfl,h2,h3⟩:=this
 rw [h1,Ah]
 exact ⟨m',rfl,h2,h3⟩
end Go.Proofs.YtebkcipolijfmaaGreat
