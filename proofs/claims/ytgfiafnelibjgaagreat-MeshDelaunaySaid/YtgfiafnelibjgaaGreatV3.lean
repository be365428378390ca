/- A mesh with lines: the third corner of a triangle is the best of the places that are seen from its side. -/
import Derived.Test.YtgfiafnelibjgaaGreatU17
import Derived.Test.YtgfiafnelibjgaaGreatM0
import Derived.Test.YtgfiafnelibjgaaGreatL9
namespace Go.Proofs.YtgfiafnelibjgaaGreat
open Go Go.RowKit
section
variable {v:List Ab} {L:List Aa} {m:Mp} {ap:Ap}
/-- One step of the walk. -/
theorem Ahf {w u l r c:Int} (t1:0 < crs (plV v w) (plV v u) (plV v l)) (t2:0 < crs (plV v u) (plV v w) (plV v r)) (hD:DH (plV v) (hV v) w u l r < 0) (hx:crs (plV v w) (plV v u) (plV v c) < 0) (hn:DH (plV v) (hV v) u w r c≤0):DH (plV v) (hV v) w u l c < 0:=by
 have key:=Nd (hV v w) (hV v u) (hV v l) (hV v r) (plV v w) (plV v u) (plV v l) (plV v r) (plV v c)
 unfold DH at hD hn ⊢
 rw [Xp] at hn ⊢
 have e1:=Int.mul_pos_of_neg_of_neg hD hx
 generalize plt (hV v u) (hV v w) (hV v r) (plV v u) (plV v w) (plV v r) (plV v c)=N at *
 generalize plt (hV v w) (hV v u) (hV v l) (plV v w) (plV v u) (plV v l) (plV v c)=M at *
 generalize crs (plV v w) (plV v u) (plV v l)=A at *
 generalize crs (plV v u) (plV v w) (plV v r)=B at *
 have e2:(N-hV v c*B)*A≤0:=Int.mul_nonpos_of_nonpos_of_nonneg hn (Int.le_of_lt t1)
 have e3:(M-hV v c*A)*B=M*B-N*A+(N-hV v c*B)*A:=by grind
 rcases Int.lt_or_le (M-hV v c*A) 0 with g | g
 ·exact g
 ·have:=Int.mul_nonneg g (Int.le_of_lt t2);omega
/-- Along a run of legal sides. -/
theorem Arw (ht:Tri (plV v) (inN v.length) ap) {a b:Int} {M:Nat} {U W:Nat→Int} (hr:Run v ap a b M U W)
  (hl:∀ i,i < M→∀ k l,ap (W i) (U i)=some k→ap (U i) (W i)=some l→DH (plV v) (hV v) (W i) (U i) k l < 0) :
  ∀ n i,i+n+1=M→∀ l,ap (W i) (U i)=some l→DH (plV v) (hV v) (W i) (U i) l b < 0:=by
 intro n
 induction n with
 | zero =>
  intro i hi l hk
  have hR:=hr.last i (by omega)
  have cr:=hr.cr i (by omega)
  exact hl i (by omega) l b hk hR
 | succ n ih =>
  intro i hi l hk
  have cr:=hr.cr i (by omega)
  have hx:crs (plV v (W i)) (plV v (U i)) (plV v b) < 0:=by rw [Aw];have:=cr.rb;omega
  have t1:=(ht.ccw _ _ _ hk).2.2.2
  rcases hr.next i (by omega) with ⟨e1,e2⟩ | ⟨e1,e2⟩
  ·have g:=ih (i+1) (by omega) (W i) (by rw [e1];exact ht.rot2 e2)
   rw [e1] at g
   refine Ahf t1 (ht.ccw _ _ _ e2).2.2.2 (hl i (by omega) _ _ hk e2) hx (Int.le_of_lt ?_)
   rw [← My,← My];exact g
  ·have g:=ih (i+1) (by omega) (U i) (by rw [e1];exact ht.rot _ _ _ e2)
   rw [e1] at g
   refine Ahf t1 (ht.ccw _ _ _ e2).2.2.2 (hl i (by omega) _ _ hk e2) hx (Int.le_of_lt ?_)
   rw [← My];exact g
/-- No line crosses the way. -/
def Seen (v:List Ab) (L:List Aa) (i k:Int):Prop:=∀ s∈L,¬ Jo v i k s.a0 s.a1
theorem Jo.rev {a b x y:Int} (h:Jo v a b x y):Jo v a b y x:=by
 obtain ⟨h1,h2⟩:=h
 refine ⟨by rw [Int.mul_comm];exact h1,?_⟩
 rw [Aw (plV v x) (plV v y) (plV v a),Aw (plV v x) (plV v y) (plV v b),Int.sign_neg,Int.sign_neg,Int.neg_mul_neg]
 exact h2
theorem Cr.crossR {a b x y:Int} (h:Cr v a b x y):Jo v a b x y:=by
 obtain ⟨h1,h2,h3,h4⟩:=h
 exact ⟨Fp.2 (by omega),Fp.2 (by omega)⟩
theorem Jo.cr {a b x y:Int} (h:Jo v a b x y):Cr v a b x y∨Cr v a b y x:=by
 obtain ⟨g1,g2⟩:=h
 have e:crs (plV v x) (plV v y) (plV v b)-crs (plV v x) (plV v y) (plV v a)=crs (plV v a) (plV v b) (plV v x)-crs (plV v a) (plV v b) (plV v y):=by unfold crs;grind
 have e1:crs (plV v y) (plV v x) (plV v a) = -crs (plV v x) (plV v y) (plV v a):=Aw _ _ _
 have e2:crs (plV v y) (plV v x) (plV v b) = -crs (plV v x) (plV v y) (plV v b):=Aw _ _ _
 rw [Fp] at g1 g2
 rcases g1 with ⟨g1,g1'⟩ | ⟨g1,g1'⟩
 ·exact .inl ⟨g1,g1',by omega,by omega⟩
 ·exact .inr ⟨g1',g1,by omega,by omega⟩
theorem Seen.pr {a b x y:Int} (h:Seen v L a b) (hc:Cr v a b x y):pr2 x y ∉ L:=fun hm=>by
 refine h _ hm ?_
 by_cases e:x≤y
 ·have e0:(pr2 x y).a0=x:=by unfold pr2;simp only;omega
  have e1:(pr2 x y).a1=y:=by unfold pr2;simp only;omega
  rw [e0,e1];exact hc.crossR
 ·have e0:(pr2 x y).a0=y:=by unfold pr2;simp only;omega
  have e1:(pr2 x y).a1=x:=by unfold pr2;simp only;omega
  rw [e0,e1];exact hc.crossR.rev
/-- A place in the angle at a corner, with nothing in the way. -/
theorem Mesh.sees (h:Mesh v L m) {a b k c:Int} (hk:apM m a b=some k) (hc:inN v.length c) (hf:Free v a c) (hs:Seen v L a c) (h1:0 < crs (plV v a) (plV v b) (plV v c)) (h2:0 < crs (plV v a) (plV v c) (plV v k)):DH (plV v) (hV v) a b k c < 0:=by
 obtain ⟨va,vb,vk,T⟩:=h.tri.ccw _ _ _ hk
 have na:c≠a:=fun e=>by rw [e,Cc] at h1;omega
 have nb:c≠b:=fun e=>by rw [e,Bk] at h1;omega
 have nk:c≠k:=fun e=>by rw [e,Bk] at h2;omega
 have em:=h.tri.emp _ _ _ hk c hc na nb nk
 have e1:crs (plV v k) (plV v a) (plV v c)=crs (plV v a) (plV v c) (plV v k):=by unfold crs;grind
 have e2:crs (plV v a) (plV v c) (plV v b) = -crs (plV v a) (plV v b) (plV v c):=by unfold crs;grind
 have e3:crs (plV v k) (plV v b) (plV v a) = -crs (plV v a) (plV v b) (plV v k):=by unfold crs;grind
 have e4:crs (plV v k) (plV v b) (plV v c) = -crs (plV v b) (plV v k) (plV v c):=Aw _ _ _
 have cr:Cr v a c k b:=⟨h2,by omega,by omega,by omega⟩
 have hbk:=h.tri.rot _ _ _ hk
 obtain ⟨⟨r,hr⟩,_⟩:=cr.both h.tri h.cov va hc (.inr (by rw [hbk];simp))
 obtain ⟨M,U,W,hM,u0,w0,run⟩:=Afb h.tri h.cov va hc hf cr hr
 have:=Arw h.tri run (fun i hi x y hx hy=>by
  rcases h.leg _ _ _ _ hx hy with g | g
  ·exact absurd g (by rw [Jx];exact hs.pr (run.cr i hi))
  ·exact g) (M-1) 0 (by omega) a (by rw [u0,w0];exact hbk)
 rw [u0,w0,My] at this
 exact this
/-- What lies between. -/
theorem Ame (a b z k c:Int):DH (plV v) (hV v) a b k c*crs (plV v a) (plV v b) (plV v z)=DH (plV v) (hV v) a b z c*crs (plV v a) (plV v b) (plV v k)+DH (plV v) (hV v) a b k z*crs (plV v a) (plV v b) (plV v c):=by unfold DH Dt crs;grind
/-- A place in the angle at a corner that is seen from there. -/
theorem Mesh.sees2 (hv:Ci v) (h:Mesh v L m) {a b k:Int} (hk:apM m a b=some k):∀ (n:Nat) (c:Int),(crs (plV v a) (plV v b) (plV v c)).toNat=n→inN v.length c→Seen v L a c→0 < crs (plV v a) (plV v b) (plV v c)→0 < crs (plV v a) (plV v c) (plV v k)→DH (plV v) (hV v) a b k c < 0:=by
 intro n
 induction n using Nat.strongRecOn with
 | ind n ih =>
  intro c hn hc hs h1 h2
  obtain ⟨va,vb,vk,T⟩:=h.tri.ccw _ _ _ hk
  by_cases hf:Free v a c
  ·exact h.sees hk hc hf hs h1 h2
  ·unfold Free at hf
   have ⟨z,hf⟩:=Classical.not_forall.1 hf
   have ⟨hz,hf⟩:=Classical.not_imp.1 hf
   have ⟨za,hf⟩:=Classical.not_imp.1 hf
   have ⟨zc,hf⟩:=Classical.not_imp.1 hf
   have hb:=Classical.not_not.1 hf
   obtain ⟨d,D,d1,d2,hd⟩:=Ajp ⟨hb,fun e=>za (hv.dist _ _ hz va e),fun e=>zc (hv.dist _ _ hz hc e)⟩
   have i1:=hd (plV v a) (plV v b)
   rw [Cc,Int.mul_zero,Int.zero_add] at i1
   have m1:=Int.mul_pos d1 h1
   have z1:=Ch (x:=D) (y:=crs (plV v a) (plV v b) (plV v z)) (by omega) (by omega)
   have m2:=Int.mul_lt_mul_of_pos_right d2 h1
   have z2:crs (plV v a) (plV v b) (plV v z) < crs (plV v a) (plV v b) (plV v c):=by
    refine Classical.byContradiction fun n=>?_
    have:=Int.mul_le_mul_of_nonneg_left (show crs (plV v a) (plV v b) (plV v c)≤crs (plV v a) (plV v b) (plV v z) by omega) (show 0≤D by omega)
    omega
   have i2:=hd (plV v k) (plV v a)
   rw [Bk,Int.mul_zero,Int.zero_add] at i2
   have r1:crs (plV v k) (plV v a) (plV v c)=crs (plV v a) (plV v c) (plV v k):=by unfold crs;grind
   have r2:crs (plV v k) (plV v a) (plV v z)=crs (plV v a) (plV v z) (plV v k):=by unfold crs;grind
   rw [r1,r2] at i2
   have m3:=Int.mul_pos d1 h2
   have z3:=Ch (x:=D) (y:=crs (plV v a) (plV v z) (plV v k)) (by omega) (by omega)
   have sz:Seen v L a z:=fun s hm g=>by
    refine hs s hm ?_
    have j1:=hd (plV v s.a0) (plV v s.a1)
    have j2:=hd (plV v s.a0) (plV v a)
    have j3:=hd (plV v s.a1) (plV v a)
    rw [Bk,Int.mul_zero,Int.zero_add] at j2 j3
    have q2:∀ x y,crs (plV v x) (plV v a) (plV v y)=crs (plV v a) (plV v y) (plV v x):=fun x y=>by unfold crs;grind
    rw [q2,q2] at j2 j3
    obtain ⟨g1,g2⟩:=g
    have pos:∀ x:Int,D*crs (plV v a) (plV v z) (plV v x)=d*crs (plV v a) (plV v c) (plV v x)→(0 < crs (plV v a) (plV v z) (plV v x)→0 < crs (plV v a) (plV v c) (plV v x))∧(crs (plV v a) (plV v z) (plV v x) < 0→crs (plV v a) (plV v c) (plV v x) < 0):=fun x e=>by
     have:=Agt (D:=d) (d:=D) (X:=crs (plV v a) (plV v z) (plV v x)) (x:=crs (plV v a) (plV v c) (plV v x)) d1 (by omega) e.symm
     exact ⟨this.1,this.2.1⟩
    have p0:=pos _ j2
    have p1:=pos _ j3
    rw [Fp] at g1 g2
    refine ⟨Fp.2 ?_,Fp.2 ?_⟩
    ·rcases g1 with ⟨x1,x2⟩ | ⟨x1,x2⟩
     ·exact .inl ⟨p0.1 x1,p1.2 x2⟩
     ·exact .inr ⟨p0.2 x1,p1.1 x2⟩
    ·rcases g2 with ⟨x1,x2⟩ | ⟨x1,x2⟩
     ·refine .inl ⟨x1,?_⟩
      refine Classical.byContradiction fun n=>?_
      have w1:=Int.mul_pos (show 0 < D-d by omega) x1
      have w2:=Int.mul_nonneg (Int.le_of_lt d1) (show 0≤crs (plV v s.a0) (plV v s.a1) (plV v c) by omega)
      have w3:=Int.mul_neg_of_pos_of_neg (show 0 < D by omega) x2
      omega
     ·refine .inr ⟨x1,?_⟩
      refine Classical.byContradiction fun n=>?_
      have w1:=Int.mul_neg_of_pos_of_neg (show 0 < D-d by omega) x1
      have w2:=Int.mul_nonpos_of_nonneg_of_nonpos (Int.le_of_lt d1) (show crs (plV v s.a0) (plV v s.a1) (plV v c)≤0 by omega)
      have w3:=Int.mul_pos (show 0 < D by omega) x2
      omega
   have g1:=ih _ (by omega) z rfl hz sz z1 z3
   have g2:DH (plV v) (hV v) b z a c < 0:=by
    refine Ng hv b z a c vb hz va hc (by rw [Am];exact z1) ?_ (.inl ?_)
    ·have j:=hd (plV v b) (plV v c)
     rw [Bk,Int.mul_zero,Int.add_zero] at j
     have q:crs (plV v b) (plV v c) (plV v a)=crs (plV v a) (plV v b) (plV v c):=by unfold crs;grind
     rw [q] at j
     have w:=Int.mul_pos (show 0 < D-d by omega) h1
     have:=Ch (x:=D) (y:=crs (plV v b) (plV v c) (plV v z)) (by omega) (by omega)
     rw [Ax] at this;omega
    ·have j:=hd (plV v c) (plV v a)
     rw [Bk,Cc,Int.mul_zero,Int.mul_zero] at j
     rcases Int.mul_eq_zero.1 (show D*crs (plV v c) (plV v a) (plV v z)=0 by omega) with e | e
     ·omega
     ·have:crs (plV v z) (plV v a) (plV v c) = -crs (plV v c) (plV v a) (plV v z):=by unfold crs;grind
      omega
   rw [My] at g2
   have key:=Ame (v:=v) a b z k c
   have w1:=Int.mul_neg_of_neg_of_pos g2 T
   have w2:=Int.mul_neg_of_neg_of_pos g1 h1
   refine Classical.byContradiction fun n=>?_
   have:=Int.mul_nonneg (show 0≤DH (plV v) (hV v) a b k c by omega) (Int.le_of_lt z1)
   omega
/-- The third corner is the best of the places that are seen from both ends. -/
theorem Mesh.best (hv:Ci v) (h:Mesh v L m) {a b k c:Int} (hk:apM m a b=some k) (hc:inN v.length c) (h1:0 < crs (plV v a) (plV v b) (plV v c)) (hne:c≠k) (sa:Seen v L a c) (sb:Seen v L b c):DH (plV v) (hV v) a b k c < 0:=by
 obtain ⟨va,vb,vk,T⟩:=h.tri.ccw _ _ _ hk
 have na:c≠a:=fun e=>by rw [e,Cc] at h1;omega
 have nb:c≠b:=fun e=>by rw [e,Bk] at h1;omega
 have e1:crs (plV v k) (plV v a) (plV v c)=crs (plV v a) (plV v c) (plV v k):=by unfold crs;grind
 have e2:crs (plV v b) (plV v c) (plV v a)=crs (plV v a) (plV v b) (plV v c):=by unfold crs;grind
 rcases h.tri.emp _ _ _ hk c hc na nb hne with g | g | g
 ·omega
 ·by_cases p:0 < crs (plV v a) (plV v c) (plV v k)
  ·exact h.sees2 hv hk _ c rfl hc sa h1 p
  ·rw [← My]
   exact Ng hv b k a c vb vk va hc (by rw [Am];exact T) g (.inl (by omega))
 ·by_cases p:0 < crs (plV v b) (plV v k) (plV v c)
  ·rw [← My]
   exact h.sees2 hv (h.tri.rot _ _ _ hk) _ c rfl hc sb p (by omega)
  ·rw [← My,← My]
   exact Ng hv k a b c vk va vb hc (by rw [← Am];exact T) g (.inr (by omega))
end
end Go.Proofs.YtgfiafnelibjgaaGreat
/- The reference's apex: the triangle to the left of a side whose circle is the least; ties by the first place. -/
namespace Go.Proofs.YtgfiafnelibjgaaGreat
open Go Go.RowKit
variable {v:List Ab}
/-- The third corner of the triangle to the left of a side, if there is one. -/
def Top (v:List Ab) (a b c:Int):Prop:=inN v.length c∧0 < crs (plV v a) (plV v b) (plV v c)∧∀ d,inN v.length d→0 < crs (plV v a) (plV v b) (plV v d)→d≠c→DH (plV v) (hV v) a b c d < 0
theorem Akt (a b c d:Int):DH (plV v) (hV v) a b d c = -DH (plV v) (hV v) a b c d:=Ahk _ _ _ _ _ _ _ _
theorem Top.unique {a b c d:Int} (h:Top v a b c) (k:Top v a b d):c=d:=by
 by_cases e:c=d
 ·exact e
 ·have h1:=h.2.2 d k.1 k.2.1 (fun g=>e g.symm)
  have h2:=k.2.2 c h.1 h.2.1 e
  rw [Akt] at h2
  omega
theorem Del.top {a b c:Int} (h:Del v a b c):Top v a b c:=by
 obtain ⟨h1,h2,h3,h4,h5⟩:=h
 refine ⟨h3,h4,fun d hd hp hne=>h5 d hd (fun e=>?_) (fun e=>?_) hne⟩
 ·subst e;rw [Cc] at hp;omega
 ·subst e;rw [Bk] at hp;omega
theorem Del.unique {a b c d:Int} (h:Del v a b c) (k:Del v a b d):c=d:=h.top.unique k.top
/-- Across a side of a triangle. -/
theorem Top.across {a b c e:Int} (h:Del v a b c) (k:Top v b a e):Del v b a e:=by
 obtain ⟨h1,h2,h3,h4,h5⟩:=h
 obtain ⟨k1,k2,k3⟩:=k
 refine ⟨h2,h1,k1,k2,fun d hd n1 n2 n3=>?_⟩
 by_cases hp:0 < crs (plV v b) (plV v a) (plV v d)
 ·exact k3 d hd hp n3
 have hx:0≤crs (plV v a) (plV v b) (plV v d):=by rw [Aw] at hp;omega
 have he:crs (plV v a) (plV v b) (plV v e) < 0:=by rw [Aw] at k2;omega
 have hne:e≠c:=fun g=>by rw [g] at he;omega
 have hea:e≠a:=fun g=>by rw [g,Cc] at he;omega
 have heb:e≠b:=fun g=>by rw [g,Bk] at he;omega
 have hD:=h5 e k1 hea heb hne
 obtain ⟨p1,p2⟩:=Xr (P:=plV v) (H:=hV v) (a:=a) (b:=b) (c:=c) (d:=d) (h5 d hd)
 have key:=Nd (hV v a) (hV v b) (hV v c) (hV v e) (plV v a) (plV v b) (plV v c) (plV v e) (plV v d)
 unfold DH at hD ⊢
 rw [Xp]
 generalize plt (hV v b) (hV v a) (hV v e) (plV v b) (plV v a) (plV v e) (plV v d)=L at *
 generalize plt (hV v a) (hV v b) (hV v c) (plV v a) (plV v b) (plV v c) (plV v d)=M at *
 generalize Dt (hV v a) (hV v b) (hV v c) (hV v e) (plV v a) (plV v b) (plV v c) (plV v e)=D at *
 have hlt:M*crs (plV v b) (plV v a) (plV v e)+D*crs (plV v a) (plV v b) (plV v d) < hV v d*crs (plV v a) (plV v b) (plV v c)*crs (plV v b) (plV v a) (plV v e):=by
  by_cases g:d=c
  ·subst g
   have e1:=Int.mul_le_mul_of_nonneg_right p1 (Int.le_of_lt k2)
   have e2:=Int.mul_neg_of_neg_of_pos hD h4
   omega
  ·have e1:=Int.mul_lt_mul_of_pos_right (p2 n2 n1 g) k2
   have e2:=Int.mul_nonpos_of_nonpos_of_nonneg (Int.le_of_lt hD) hx
   omega
 have e3:(L-hV v d*crs (plV v b) (plV v a) (plV v e))*crs (plV v a) (plV v b) (plV v c) < 0:=by
  have:(L-hV v d*crs (plV v b) (plV v a) (plV v e))*crs (plV v a) (plV v b) (plV v c)=L*crs (plV v a) (plV v b) (plV v c)-hV v d*crs (plV v a) (plV v b) (plV v c)*crs (plV v b) (plV v a) (plV v e):=by grind
  omega
 rcases Int.lt_or_le (L-hV v d*crs (plV v b) (plV v a) (plV v e)) 0 with g | g
 ·exact g
 ·have:=Int.mul_nonneg g (Int.le_of_lt h4);omega
/-- At a side of the hull. -/
theorem Top.hull {a b c:Int} (hv:Ci v) (ha:inN v.length a) (hb:inN v.length b) (hl:∀ d,inN v.length d→0≤crs (plV v a) (plV v b) (plV v d))
  (ho:∀ d,inN v.length d→d≠a→d≠b→crs (plV v a) (plV v b) (plV v d)=0→∀ x,0 < crs (plV v a) (plV v b) x→crs (plV v b) x (plV v d) < 0) (k:Top v a b c):Del v a b c:=by
 obtain ⟨k1,k2,k3⟩:=k
 refine ⟨ha,hb,k1,k2,fun d hd n1 n2 n3=>?_⟩
 by_cases hp:0 < crs (plV v a) (plV v b) (plV v d)
 ·exact k3 d hd hp n3
 have h0:crs (plV v a) (plV v b) (plV v d)=0:=by have:=hl d hd;omega
 rw [← My]
 exact Ng hv b c a d hb k1 ha hd (by rw [Am];exact k2) (ho d hd n1 n2 h0 _ k2) (.inr (by omega))
/-! ### circles through two places -/
end Go.Proofs.YtgfiafnelibjgaaGreat
/- The reference's apex: the best places, their order around a, and who cuts off whom. -/
namespace Go.Proofs.YtgfiafnelibjgaaGreat
open Go Go.RowKit
variable {v:List Ab} {a b:Int}
/-- The best ones of the places before k. -/
structure Best (v:List Ab) (a b k:Int) (s:List Int):Prop where
 mem:∀ c∈s,inN v.length c∧c < k∧0 < crs (plV v a) (plV v b) (plV v c)
 none:s=[]→∀ d,inN v.length d→d < k→crs (plV v a) (plV v b) (plV v d)≤0
 top:∀ c∈s,∀ d,inN v.length d→d < k→0 < crs (plV v a) (plV v b) (plV v d)→(inC (plV v a) (plV v b) (plV v c) (plV v d) < 0∧d ∉ s)∨(inC (plV v a) (plV v b) (plV v c) (plV v d)=0∧d∈s)
 nd:s.Nodup
theorem Best.nil:Best v a b 0 []:=⟨fun c h=>(by cases h),fun _ d hd h=>by unfold inN at hd;omega,fun c h=>(by cases h),List.nodup_nil⟩
theorem Best.skip {k:Int} {s:List Int} (h:Best v a b k s) (hk:crs (plV v a) (plV v b) (plV v k)≤0):Best v a b (k+1) s:=by
 refine ⟨fun c hc=>?_,fun e d hd hl=>?_,fun c hc d hd hl hp=>?_,h.nd⟩
 ·obtain ⟨h1,h2,h3⟩:=h.mem c hc
  exact ⟨h1,by omega,h3⟩
 ·by_cases g:d=k
  ·subst g;exact hk
  ·exact h.none e d hd (by omega)
 ·by_cases g:d=k
  ·subst g;omega
  ·exact h.top c hc d hd (by omega) hp
theorem Ahg (a b c:Ac):inC a b c c=0:=by unfold inC lft crs;grind
theorem Best.one {k:Int} (hk:inN v.length k) (hp:0 < crs (plV v a) (plV v b) (plV v k)) (ho:∀ d,inN v.length d→d < k→0 < crs (plV v a) (plV v b) (plV v d)→inC (plV v a) (plV v b) (plV v k) (plV v d) < 0):Best v a b (k+1) [k]:=by
 refine ⟨fun c hc=>?_,fun e=>(by cases e),fun c hc d hd hl hq=>?_,by simp⟩
 ·rw [List.mem_singleton] at hc
  subst hc
  exact ⟨hk,by omega,hp⟩
 ·rw [List.mem_singleton] at hc
  subst hc
  by_cases g:d=c
  ·subst g;exact .inr ⟨Ahg _ _ _,List.mem_singleton.2 rfl⟩
  ·exact .inl ⟨ho d hd (by omega) hq,by simpa using g⟩
theorem Best.first {k:Int} (h:Best v a b k []) (hk:inN v.length k) (hp:0 < crs (plV v a) (plV v b) (plV v k)):Best v a b (k+1) [k] :=
 Best.one hk hp fun d hd hl hq=>by have:=h.none rfl d hd hl;omega
/-- Places to the left of a-b, on one circle with a and b. -/
structure Circ (v:List Ab) (a b:Int) (l:List Int):Prop where
 mem:∀ c∈l,inN v.length c∧0 < crs (plV v a) (plV v b) (plV v c)
 on:∀ c∈l,∀ d∈l,inC (plV v a) (plV v b) (plV v c) (plV v d)=0
 nd:l.Nodup
theorem Best.circ {k:Int} {s:List Int} (h:Best v a b k s):Circ v a b s :=
 ⟨fun c hc=>⟨(h.mem c hc).1,(h.mem c hc).2.2⟩,fun c hc d hd=>by
  obtain ⟨h1,h2,h3⟩:=h.mem d hd
  rcases h.top c hc d h1 h2 h3 with g | g
  ·exact absurd hd g.2
  ·exact g.1,h.nd⟩
theorem Circ.sub {l l':List Int} (h:Circ v a b l) (hs:∀ x∈l',x∈l) (hn:l'.Nodup):Circ v a b l':=⟨fun c hc=>h.mem c (hs c hc),fun c hc d hd=>h.on c (hs c hc) d (hs d hd),hn⟩
theorem Circ.trans {l:List Int} (h:Circ v a b l) {c d e:Int} (hc:c∈l) (hd:d∈l) (he:e∈l) (h1:0 < crs (plV v a) (plV v c) (plV v d)) (h2:0 < crs (plV v a) (plV v d) (plV v e)):0 < crs (plV v a) (plV v c) (plV v e):=by
 have p:=Pd (plV v a) (plV v b) (plV v c) (plV v d) (plV v e)
 have e1:=Int.mul_pos (h.mem c hc).2 h2
 have e2:=Int.mul_pos (h.mem e he).2 h1
 refine Ch (x:=crs (plV v a) (plV v b) (plV v d)) ?_ (h.mem d hd).2
 omega
/-- .. in their order around a. -/
structure Ring (v:List Ab) (a b:Int) (l:List Int):Prop where
 circ:Circ v a b l
 ord:l.Pairwise fun x y=>0 < crs (plV v a) (plV v x) (plV v y)
section
variable (hv:Ci v) (ha:inN v.length a) (hb:inN v.length b) {l:List Int}
include hv ha hb
end
end Go.Proofs.YtgfiafnelibjgaaGreat
/- The reference's triangles: the stack of open sides. -/
namespace Go.Proofs.YtgfiafnelibjgaaGreat
open Go Go.RowKit
variable {v:List Ab} {p0 q0:Int}
def Fk (t:Ai) (p q:Int):Prop:=(p=t.a0∧q=t.a1)∨(p=t.a1∧q=t.a2)∨(p=t.a2∧q=t.a0)
def Ahh (v:List Ab) (t:Ai):Prop:=t.a0 < t.a1∧t.a0 < t.a2∧Del v t.a0 t.a1 t.a2
theorem Ahh.side {t:Ai} (h:Ahh v t) {p q:Int} (hs:Fk t p q):∃ e,Del v p q e:=by
 obtain ⟨_,_,h⟩:=h
 rcases hs with ⟨rfl,rfl⟩ | ⟨rfl,rfl⟩ | ⟨rfl,rfl⟩
 ·exact ⟨_,h⟩
 ·exact ⟨_,h.rot⟩
 ·exact ⟨_,h.rot.rot⟩
def noT (v:List Ab) (p q:Int):Prop:=∀ d,inN v.length d→crs (plV v p) (plV v q) (plV v d)≤0
def okS (v:List Ab) (p q:Int):Prop:=inN v.length p∧inN v.length q∧(noT v p q∨∃ e,Del v p q e)
/-- What the stack, the sides done and the triangles are. -/
structure Tr (v:List Ab) (p0 q0:Int) (op:List Aa) (dn:Int→Int→Prop) (out:List Ai):Prop where
 mem:∀ t∈out,Ahh v t
 nd:out.Nodup
 opn:∀ s∈op,okS v s.a0 s.a1
 don:∀ p q,dn p q→(∃ t∈out,Fk t p q)∨noT v p q
 all:∀ t∈out,∀ p q,Fk t p q→dn p q
 rev:∀ t∈out,∀ p q,Fk t p q→⟨q,p⟩∈op∨dn q p
 sta:⟨p0,q0⟩∈op∨dn p0 q0
 len:op.length≤3*out.length+1
theorem Vy {x s:Aa} {op:List Aa} (h:x∈op++[s]):x∈op∨x=s:=by simpa using h
theorem Tr.skip {op:List Aa} {dn:Int→Int→Prop} {out:List Ai} {s:Aa} (h:Tr v p0 q0 (op++[s]) dn out) (hs:dn s.a0 s.a1):Tr v p0 q0 op dn out :=
 ⟨h.mem,h.nd,fun x hx=>h.opn x (by simp [hx]),h.don,h.all,fun t ht p q hp=>(h.rev t ht p q hp).elim (fun g=>(Vy g).imp id fun e=>by subst e;exact hs) .inr,
  h.sta.elim (fun g=>(Vy g).imp id fun e=>by subst e;exact hs) .inr,by have:=h.len;rw [List.length_append,List.length_singleton] at this;omega⟩
theorem Tr.none {op:List Aa} {dn dn':Int→Int→Prop} {out:List Ai} {s:Aa} (h:Tr v p0 q0 (op++[s]) dn out) (hd:∀ p q,dn' p q↔dn p q∨(p=s.a0∧q=s.a1)) (hn:noT v s.a0 s.a1):Tr v p0 q0 op dn' out:=by
 have key:Tr v p0 q0 (op++[s]) dn' out:=⟨h.mem,h.nd,h.opn,fun p q g=>by
  rcases (hd p q).1 g with g | ⟨rfl,rfl⟩
  ·exact h.don p q g
  ·exact .inr hn,fun t ht p q hp=>(hd p q).2 (.inl (h.all t ht p q hp)),fun t ht p q hp=>(h.rev t ht p q hp).imp id fun g=>(hd _ _).2 (.inl g),h.sta.imp id fun g=>(hd _ _).2 (.inl g),h.len⟩
 exact key.skip ((hd _ _).2 (.inr ⟨rfl,rfl⟩))
theorem Tr.more {op:List Aa} {dn dn':Int→Int→Prop} {out:List Ai} {s:Aa} {t:Ai} (h:Tr v p0 q0 (op++[s]) dn out) (hs:¬ dn s.a0 s.a1) (ht:Ahh v t) (hst:Fk t s.a0 s.a1)
  (hd:∀ p q,dn' p q↔dn p q∨Fk t p q) (hx:∀ p q,Fk t p q→okS v q p):Tr v p0 q0 (op++[⟨t.a1,t.a0⟩,⟨t.a2,t.a1⟩,⟨t.a0,t.a2⟩]) dn' (out++[t]):=by
 have hin:∀ {p q:Int},⟨p,q⟩∈op++[s]→(⟨p,q⟩:Aa)∈op++[⟨t.a1,t.a0⟩,⟨t.a2,t.a1⟩,⟨t.a0,t.a2⟩]∨dn' p q:=fun {p q} g=>by
  rcases Vy g with g | g
  ·exact .inl (List.mem_append.2 (.inl g))
  ·right
   rw [← g] at hst
   exact (hd _ _).2 (.inr hst)
 refine ⟨fun x hx=>?_,?_,fun x hx'=>?_,fun p q g=>?_,fun x hx' p q g=>?_,fun x hx' p q g=>?_,?_,?_⟩
 ·rcases List.mem_append.1 hx with hx | hx
  ·exact h.mem x hx
  ·rw [List.mem_singleton] at hx;subst hx;exact ht
 ·rw [List.nodup_append]
  refine ⟨h.nd,by simp,fun x hm y hy e=>?_⟩
  rw [List.mem_singleton] at hy
  rw [hy] at e
  rw [e] at hm
  exact hs (h.all t hm _ _ hst)
 ·rcases List.mem_append.1 hx' with hx' | hx'
  ·exact h.opn x (by simp [hx'])
  ·simp only [List.mem_cons,List.not_mem_nil,or_false] at hx'
   rcases hx' with rfl | rfl | rfl
   ·exact hx t.a0 t.a1 (.inl ⟨rfl,rfl⟩)
   ·exact hx t.a1 t.a2 (.inr (.inl ⟨rfl,rfl⟩))
   ·exact hx t.a2 t.a0 (.inr (.inr ⟨rfl,rfl⟩))
 ·rcases (hd p q).1 g with g | g
  ·rcases h.don p q g with ⟨x,hx,g⟩ | g
   ·exact .inl ⟨x,by simp [hx],g⟩
   ·exact .inr g
  ·exact .inl ⟨t,by simp,g⟩
 ·rcases List.mem_append.1 hx' with hx' | hx'
  ·exact (hd p q).2 (.inl (h.all x hx' p q g))
  ·rw [List.mem_singleton] at hx';subst hx';exact (hd p q).2 (.inr g)
 ·rcases List.mem_append.1 hx' with hx' | hx'
  ·rcases h.rev x hx' p q g with g | g
   ·exact hin g
   ·exact .inr ((hd _ _).2 (.inl g))
  ·rw [List.mem_singleton] at hx'
   subst hx'
   left
   refine List.mem_append.2 (.inr ?_)
   rcases g with ⟨rfl,rfl⟩ | ⟨rfl,rfl⟩ | ⟨rfl,rfl⟩ <;> simp
 ·rcases h.sta with g | g
  ·exact hin g
  ·exact .inr ((hd _ _).2 (.inl g))
 ·have:=h.len
  simp only [List.length_append,List.length_cons,List.length_nil] at this ⊢
  omega
/-- How many triangles there may be. -/
theorem Ait {out:List Ai} (hmem:∀ t∈out,Ahh v t) (hnd:out.Nodup):out.length≤v.length*v.length:=by
 have h1:(out.map fun t=>(t.a0.toNat*v.length+t.a1.toNat)).Nodup:=by
  unfold List.Nodup
  rw [List.pairwise_map]
  refine List.Pairwise.imp_of_mem ?_ hnd
  intro x y hx hy hne e
  obtain ⟨x1,x2,x3⟩:=hmem x hx
  obtain ⟨y1,y2,y3⟩:=hmem y hy
  have x4:=x3.1
  have x5:=x3.2.1
  have y4:=y3.1
  have y5:=y3.2.1
  unfold inN at x4 x5 y4 y5
  have e1:x.a1.toNat=y.a1.toNat:=by
   have:=congrArg (· % v.length) e
   simp only [Nat.mul_add_mod_self_right] at this
   rwa [Nat.mod_eq_of_lt (by omega),Nat.mod_eq_of_lt (by omega)] at this
  have e2:x.a0.toNat=y.a0.toNat:=by
   rw [e1] at e
   have e':x.a0.toNat*v.length=y.a0.toNat*v.length:=by omega
   exact Nat.eq_of_mul_eq_mul_right (by omega) e'
  have e3:x.a0=y.a0:=by omega
  have e4:x.a1=y.a1:=by omega
  apply hne
  obtain ⟨xa,xb,xc⟩:=x
  obtain ⟨ya,yb,yc⟩:=y
  simp only at e3 e4 x3 y3
  subst e3;subst e4
  rw [x3.unique y3]
 have:=Hw (m:=List.range (v.length*v.length)) h1 fun x hx=>by
  obtain ⟨t,ht,rfl⟩:=List.mem_map.1 hx
  obtain ⟨_,_,t3⟩:=hmem t ht
  have t4:=t3.1
  have t5:=t3.2.1
  unfold inN at t4 t5
  rw [List.mem_range]
  have h3:t.a0.toNat+1≤v.length:=by omega
  have:=Nat.mul_le_mul_right v.length h3
  rw [Nat.add_mul] at this
  omega
 rwa [List.length_map,List.length_range] at this
theorem Tr.bound {op:List Aa} {dn:Int→Int→Prop} {out:List Ai} (h:Tr v p0 q0 op dn out):out.length≤v.length*v.length:=Ait h.mem h.nd
end Go.Proofs.YtgfiafnelibjgaaGreat
