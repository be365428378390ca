/- A mesh with lines: the third corner of a triangle is the best of the places that are seen from its side. -/
import Derived.Test.YtoojmkhjdjianaaGreatU17
import Derived.Test.YtoojmkhjdjianaaGreatEs
import Derived.Test.YtoojmkhjdjianaaGreatE1b
namespace Go.Proofs.YtoojmkhjdjianaaGreat
open Go Go.RowKit
section
variable {v:List Ab} {L:List Aa} {m:Mp} {ap:Ap}
theorem Ahc {w u l r c:Int} (t1:0 < crs (plV v w) (plV v u) (plV v l)) (t2:0 < crs (plV v u) (plV v w) (plV v r)) (hD:DH (plV v) (hV v) w u l r < 0) (hx:crs (plV v w) (plV v u) (plV v c) < 0) (hn:DH (plV v) (hV v) u w r c<=0):DH (plV v) (hV v) w u l c < 0:=by
 have key:=Om (hV v w) (hV v u) (hV v l) (hV v r) (plV v w) (plV v u) (plV v l) (plV v r) (plV v c)
 unfold DH at hD hn ⊢
 rw [Aas] at hn ⊢
 have e1:=Int.mul_pos_of_neg_of_neg hD hx
 generalize plt (hV v u) (hV v w) (hV v r) (plV v u) (plV v w) (plV v r) (plV v c)=N at *
 generalize plt (hV v w) (hV v u) (hV v l) (plV v w) (plV v u) (plV v l) (plV v c)=M at *
 generalize crs (plV v w) (plV v u) (plV v l)=A at *
 generalize crs (plV v u) (plV v w) (plV v r)=B at *
 have e2:(N-hV v c*B)*A<=0:=Int.mul_nonpos_of_nonpos_of_nonneg hn (Int.le_of_lt t1)
 have e3:(M-hV v c*A)*B=M*B-N*A+(N-hV v c*B)*A:=by grind
 rcases Int.lt_or_le (M-hV v c*A) 0 with g | g
 ·exact g
 ·have:=Int.mul_nonneg g (Int.le_of_lt t2);omega
theorem Arj (ht:Tri (plV v) (inN v.length) ap) {a b:Int} {M:Nat} {U W:Nat->Int} (hr:Run v ap a b M U W)
  (hl:∀ i,i < M->∀ k l,ap (W i) (U i)=some k->ap (U i) (W i)=some l->DH (plV v) (hV v) (W i) (U i) k l < 0) :
  ∀ n i,i+n+1=M->∀ l,ap (W i) (U i)=some l->DH (plV v) (hV v) (W i) (U i) l b < 0:=by
 intro n
 induction n with
 | zero =>
  intro i hi l hk
  have hR:=hr.last i (by omega)
  have cr:=hr.cr i (by omega)
  exact hl i (by omega) l b hk hR
 | succ n ih =>
  intro i hi l hk
  have cr:=hr.cr i (by omega)
  have hx:crs (plV v (W i)) (plV v (U i)) (plV v b) < 0:=by rw [Av];have:=cr.rb;omega
  have t1:=(ht.ccw _ _ _ hk).2.2.2
  rcases hr.next i (by omega) with ⟨e1,e2⟩ | ⟨e1,e2⟩
  ·have g:=ih (i+1) (by omega) (W i) (by rw [e1];exact ht.rot2 e2)
   rw [e1] at g
   refine Ahc t1 (ht.ccw _ _ _ e2).2.2.2 (hl i (by omega) _ _ hk e2) hx (Int.le_of_lt ?_)
   rw [<- Oo,<- Oo];exact g
  ·have g:=ih (i+1) (by omega) (U i) (by rw [e1];exact ht.rot _ _ _ e2)
   rw [e1] at g
   refine Ahc t1 (ht.ccw _ _ _ e2).2.2.2 (hl i (by omega) _ _ hk e2) hx (Int.le_of_lt ?_)
   rw [<- Oo];exact g
def Seen (v:List Ab) (L:List Aa) (i k:Int):Prop:=∀ s∈L,¬ Fw v i k s.a0 s.a1
theorem Fw.rev {a b x y:Int} (h:Fw v a b x y):Fw v a b y x:=by
 obtain ⟨h1,h2⟩:=h
 refine ⟨by rw [Int.mul_comm];exact h1,?_⟩
 rw [Av (plV v x) (plV v y) (plV v a),Av (plV v x) (plV v y) (plV v b),Int.sign_neg,Int.sign_neg,Int.neg_mul_neg]
 exact h2
theorem Cr.crossR {a b x y:Int} (h:Cr v a b x y):Fw v a b x y:=by
 obtain ⟨h1,h2,h3,h4⟩:=h
 exact ⟨Fj.2 (by omega),Fj.2 (by omega)⟩
theorem Fw.cr {a b x y:Int} (h:Fw v a b x y):Cr v a b x y\/Cr v a b y x:=by
 obtain ⟨g1,g2⟩:=h
 have e:crs (plV v x) (plV v y) (plV v b)-crs (plV v x) (plV v y) (plV v a)=crs (plV v a) (plV v b) (plV v x)-crs (plV v a) (plV v b) (plV v y):=by unfold crs;grind
 have e1:crs (plV v y) (plV v x) (plV v a) = -crs (plV v x) (plV v y) (plV v a):=Av _ _ _
 have e2:crs (plV v y) (plV v x) (plV v b) = -crs (plV v x) (plV v y) (plV v b):=Av _ _ _
 rw [Fj] at g1 g2
 rcases g1 with ⟨g1,g1'⟩ | ⟨g1,g1'⟩
 ·exact .inl ⟨g1,g1',by omega,by omega⟩
 ·exact .inr ⟨g1',g1,by omega,by omega⟩
theorem Seen.pr {a b x y:Int} (h:Seen v L a b) (hc:Cr v a b x y):pr2 x y ∉ L:=fun hm=>by
 refine h _ hm ?_
 by_cases e:x<=y
 ·have e0:(pr2 x y).a0=x:=by unfold pr2;simp only;omega
  have e1:(pr2 x y).a1=y:=by unfold pr2;simp only;omega
  rw [e0,e1];exact hc.crossR
 ·have e0:(pr2 x y).a0=y:=by unfold pr2;simp only;omega
  have e1:(pr2 x y).a1=x:=by unfold pr2;simp only;omega
  rw [e0,e1];exact hc.crossR.rev
theorem Mesh.sees (h:Mesh v L m) {a b k c:Int} (hk:apM m a b=some k) (hc:inN v.length c) (hf:Free v a c) (hs:Seen v L a c) (h1:0 < crs (plV v a) (plV v b) (plV v c)) (h2:0 < crs (plV v a) (plV v c) (plV v k)):DH (plV v) (hV v) a b k c < 0:=by
 obtain ⟨va,vb,vk,T⟩:=h.tri.ccw _ _ _ hk
 have na:c≠a:=fun e=>by rw [e,Bm] at h1;omega
 have nb:c≠b:=fun e=>by rw [e,Bg] at h1;omega
 have nk:c≠k:=fun e=>by rw [e,Bg] at h2;omega
 have em:=h.tri.emp _ _ _ hk c hc na nb nk
 have e1:crs (plV v k) (plV v a) (plV v c)=crs (plV v a) (plV v c) (plV v k):=by unfold crs;grind
 have e2:crs (plV v a) (plV v c) (plV v b) = -crs (plV v a) (plV v b) (plV v c):=by unfold crs;grind
 have e3:crs (plV v k) (plV v b) (plV v a) = -crs (plV v a) (plV v b) (plV v k):=by unfold crs;grind
 have e4:crs (plV v k) (plV v b) (plV v c) = -crs (plV v b) (plV v k) (plV v c):=Av _ _ _
 have cr:Cr v a c k b:=⟨h2,by omega,by omega,by omega⟩
 have hbk:=h.tri.rot _ _ _ hk
 obtain ⟨⟨r,hr⟩,_⟩:=cr.both h.tri h.cov va hc (.inr (by rw [hbk];simp))
 obtain ⟨M,U,W,hM,u0,w0,run⟩:=Af4 h.tri h.cov va hc hf cr hr
 have:=Arj h.tri run (fun i hi x y hx hy=>by
  rcases h.leg _ _ _ _ hx hy with g | g
  ·exact absurd g (by rw [Ky];exact hs.pr (run.cr i hi))
  ·exact g) (M-1) 0 (by omega) a (by rw [u0,w0];exact hbk)
 rw [u0,w0,Oo] at this
 exact this
theorem Al3 (a b z k c:Int):DH (plV v) (hV v) a b k c*crs (plV v a) (plV v b) (plV v z)=DH (plV v) (hV v) a b z c*crs (plV v a) (plV v b) (plV v k)+DH (plV v) (hV v) a b k z*crs (plV v a) (plV v b) (plV v c):=by unfold DH Dt crs;grind
theorem Mesh.sees2 (hv:Cd v) (h:Mesh v L m) {a b k:Int} (hk:apM m a b=some k):∀ (n:Nat) (c:Int),(crs (plV v a) (plV v b) (plV v c)).toNat=n->inN v.length c->Seen v L a c->0 < crs (plV v a) (plV v b) (plV v c)->0 < crs (plV v a) (plV v c) (plV v k)->DH (plV v) (hV v) a b k c < 0:=by
 intro n
 induction n using Nat.strongRecOn with
 | ind n ih =>
  intro c hn hc hs h1 h2
  obtain ⟨va,vb,vk,T⟩:=h.tri.ccw _ _ _ hk
  by_cases hf:Free v a c
  ·exact h.sees hk hc hf hs h1 h2
  ·unfold Free at hf
   have ⟨z,hf⟩:=Classical.not_forall.1 hf
   have ⟨hz,hf⟩:=Classical.not_imp.1 hf
   have ⟨za,hf⟩:=Classical.not_imp.1 hf
   have ⟨zc,hf⟩:=Classical.not_imp.1 hf
   have hb:=Classical.not_not.1 hf
   obtain ⟨d,D,d1,d2,hd⟩:=Akr ⟨hb,fun e=>za (hv.dist _ _ hz va e),fun e=>zc (hv.dist _ _ hz hc e)⟩
   have i1:=hd (plV v a) (plV v b)
   rw [Bm,Int.mul_zero,Int.zero_add] at i1
   have m1:=Int.mul_pos d1 h1
   have z1:=Ci (x:=D) (y:=crs (plV v a) (plV v b) (plV v z)) (by omega) (by omega)
   have m2:=Int.mul_lt_mul_of_pos_right d2 h1
   have z2:crs (plV v a) (plV v b) (plV v z) < crs (plV v a) (plV v b) (plV v c):=by
    refine Classical.byContradiction fun n=>?_
    have:=Int.mul_le_mul_of_nonneg_left (show crs (plV v a) (plV v b) (plV v c)<=crs (plV v a) (plV v b) (plV v z) by omega) (show 0<=D by omega)
    omega
   have i2:=hd (plV v k) (plV v a)
   rw [Bg,Int.mul_zero,Int.zero_add] at i2
   have r1:crs (plV v k) (plV v a) (plV v c)=crs (plV v a) (plV v c) (plV v k):=by unfold crs;grind
   have r2:crs (plV v k) (plV v a) (plV v z)=crs (plV v a) (plV v z) (plV v k):=by unfold crs;grind
   rw [r1,r2] at i2
   have m3:=Int.mul_pos d1 h2
   have z3:=Ci (x:=D) (y:=crs (plV v a) (plV v z) (plV v k)) (by omega) (by omega)
   have sz:Seen v L a z:=fun s hm g=>by
    refine hs s hm ?_
    have j1:=hd (plV v s.a0) (plV v s.a1)
    have j2:=hd (plV v s.a0) (plV v a)
    have j3:=hd (plV v s.a1) (plV v a)
    rw [Bg,Int.mul_zero,Int.zero_add] at j2 j3
    have q2:∀ x y,crs (plV v x) (plV v a) (plV v y)=crs (plV v a) (plV v y) (plV v x):=fun x y=>by unfold crs;grind
    rw [q2,q2] at j2 j3
    obtain ⟨g1,g2⟩:=g
    have pos:∀ x:Int,D*crs (plV v a) (plV v z) (plV v x)=d*crs (plV v a) (plV v c) (plV v x)->(0 < crs (plV v a) (plV v z) (plV v x)->0 < crs (plV v a) (plV v c) (plV v x))/\(crs (plV v a) (plV v z) (plV v x) < 0->crs (plV v a) (plV v c) (plV v x) < 0):=fun x e=>by
     have:=Ahj (D:=d) (d:=D) (X:=crs (plV v a) (plV v z) (plV v x)) (x:=crs (plV v a) (plV v c) (plV v x)) d1 (by omega) e.symm
     exact ⟨this.1,this.2.1⟩
    have p0:=pos _ j2
    have p1:=pos _ j3
    rw [Fj] at g1 g2
    refine ⟨Fj.2 ?_,Fj.2 ?_⟩
    ·rcases g1 with ⟨x1,x2⟩ | ⟨x1,x2⟩
     ·exact .inl ⟨p0.1 x1,p1.2 x2⟩
     ·exact .inr ⟨p0.2 x1,p1.1 x2⟩
    ·rcases g2 with ⟨x1,x2⟩ | ⟨x1,x2⟩
     ·refine .inl ⟨x1,?_⟩
      refine Classical.byContradiction fun n=>?_
      have w1:=Int.mul_pos (show 0 < D-d by omega) x1
      have w2:=Int.mul_nonneg (Int.le_of_lt d1) (show 0<=crs (plV v s.a0) (plV v s.a1) (plV v c) by omega)
      have w3:=Int.mul_neg_of_pos_of_neg (show 0 < D by omega) x2
      omega
     ·refine .inr ⟨x1,?_⟩
      refine Classical.byContradiction fun n=>?_
      have w1:=Int.mul_neg_of_pos_of_neg (show 0 < D-d by omega) x1
      have w2:=Int.mul_nonpos_of_nonneg_of_nonpos (Int.le_of_lt d1) (show crs (plV v s.a0) (plV v s.a1) (plV v c)<=0 by omega)
      have w3:=Int.mul_pos (show 0 < D by omega) x2
      omega
   have g1:=ih _ (by omega) z rfl hz sz z1 z3
   have g2:DH (plV v) (hV v) b z a c < 0:=by
    refine Qc hv b z a c vb hz va hc (by rw [Am];exact z1) ?_ (.inl ?_)
    ·have j:=hd (plV v b) (plV v c)
     rw [Bg,Int.mul_zero,Int.add_zero] at j
     have q:crs (plV v b) (plV v c) (plV v a)=crs (plV v a) (plV v b) (plV v c):=by unfold crs;grind
     rw [q] at j
     have w:=Int.mul_pos (show 0 < D-d by omega) h1
     have:=Ci (x:=D) (y:=crs (plV v b) (plV v c) (plV v z)) (by omega) (by omega)
     rw [Bf] at this;omega
    ·have j:=hd (plV v c) (plV v a)
     rw [Bg,Bm,Int.mul_zero,Int.mul_zero] at j
     rcases Int.mul_eq_zero.1 (show D*crs (plV v c) (plV v a) (plV v z)=0 by omega) with e | e
     ·omega
     ·have:crs (plV v z) (plV v a) (plV v c) = -crs (plV v c) (plV v a) (plV v z):=by unfold crs;grind
      omega
   rw [Oo] at g2
   have key:=Al3 (v:=v) a b z k c
   have w1:=Int.mul_neg_of_neg_of_pos g2 T
   have w2:=Int.mul_neg_of_neg_of_pos g1 h1
   refine Classical.byContradiction fun n=>?_
   have:=Int.mul_nonneg (show 0<=DH (plV v) (hV v) a b k c by omega) (Int.le_of_lt z1)
   omega
theorem Mesh.best (hv:Cd v) (h:Mesh v L m) {a b k c:Int} (hk:apM m a b=some k) (hc:inN v.length c) (h1:0 < crs (plV v a) (plV v b) (plV v c)) (hne:c≠k) (sa:Seen v L a c) (sb:Seen v L b c):DH (plV v) (hV v) a b k c < 0:=by
 obtain ⟨va,vb,vk,T⟩:=h.tri.ccw _ _ _ hk
 have na:c≠a:=fun e=>by rw [e,Bm] at h1;omega
 have nb:c≠b:=fun e=>by rw [e,Bg] at h1;omega
 have e1:crs (plV v k) (plV v a) (plV v c)=crs (plV v a) (plV v c) (plV v k):=by unfold crs;grind
 have e2:crs (plV v b) (plV v c) (plV v a)=crs (plV v a) (plV v b) (plV v c):=by unfold crs;grind
 rcases h.tri.emp _ _ _ hk c hc na nb hne with g | g | g
 ·omega
 ·by_cases p:0 < crs (plV v a) (plV v c) (plV v k)
  ·exact h.sees2 hv hk _ c rfl hc sa h1 p
  ·rw [<- Oo]
   exact Qc hv b k a c vb vk va hc (by rw [Am];exact T) g (.inl (by omega))
 ·by_cases p:0 < crs (plV v b) (plV v k) (plV v c)
  ·rw [<- Oo]
   exact h.sees2 hv (h.tri.rot _ _ _ hk) _ c rfl hc sb p (by omega)
  ·rw [<- Oo,<- Oo]
   exact Qc hv k a b c vk va vb hc (by rw [<- Am];exact T) g (.inr (by omega))
end
variable {v:List Ab}
def Top (v:List Ab) (a b c:Int):Prop:=inN v.length c/\0 < crs (plV v a) (plV v b) (plV v c)/\∀ d,inN v.length d->0 < crs (plV v a) (plV v b) (plV v d)->d≠c->DH (plV v) (hV v) a b c d < 0
theorem Akg (a b c d:Int):DH (plV v) (hV v) a b d c = -DH (plV v) (hV v) a b c d:=Ahn _ _ _ _ _ _ _ _
theorem Top.unique {a b c d:Int} (h:Top v a b c) (k:Top v a b d):c=d:=by
 by_cases e:c=d
 ·exact e
 ·have h1:=h.2.2 d k.1 k.2.1 (fun g=>e g.symm)
  have h2:=k.2.2 c h.1 h.2.1 e
  rw [Akg] at h2
  omega
theorem Del.top {a b c:Int} (h:Del v a b c):Top v a b c:=by
 obtain ⟨h1,h2,h3,h4,h5⟩:=h
 refine ⟨h3,h4,fun d hd hp hne=>h5 d hd (fun e=>?_) (fun e=>?_) hne⟩
 ·subst e;rw [Bm] at hp;omega
 ·subst e;rw [Bg] at hp;omega
theorem Del.unique {a b c d:Int} (h:Del v a b c) (k:Del v a b d):c=d:=h.top.unique k.top
theorem Top.across {a b c e:Int} (h:Del v a b c) (k:Top v b a e):Del v b a e:=by
 obtain ⟨h1,h2,h3,h4,h5⟩:=h
 obtain ⟨k1,k2,k3⟩:=k
 refine ⟨h2,h1,k1,k2,fun d hd n1 n2 n3=>?_⟩
 by_cases hp:0 < crs (plV v b) (plV v a) (plV v d)
 ·exact k3 d hd hp n3
 have hx:0<=crs (plV v a) (plV v b) (plV v d):=by rw [Av] at hp;omega
 have he:crs (plV v a) (plV v b) (plV v e) < 0:=by rw [Av] at k2;omega
 have hne:e≠c:=fun g=>by rw [g] at he;omega
 have hea:e≠a:=fun g=>by rw [g,Bm] at he;omega
 have heb:e≠b:=fun g=>by rw [g,Bg] at he;omega
 have hD:=h5 e k1 hea heb hne
 obtain ⟨p1,p2⟩:=Ys (P:=plV v) (H:=hV v) (a:=a) (b:=b) (c:=c) (d:=d) (h5 d hd)
 have key:=Om (hV v a) (hV v b) (hV v c) (hV v e) (plV v a) (plV v b) (plV v c) (plV v e) (plV v d)
 unfold DH at hD ⊢
 rw [Aas]
 generalize plt (hV v b) (hV v a) (hV v e) (plV v b) (plV v a) (plV v e) (plV v d)=L at *
 generalize plt (hV v a) (hV v b) (hV v c) (plV v a) (plV v b) (plV v c) (plV v d)=M at *
 generalize Dt (hV v a) (hV v b) (hV v c) (hV v e) (plV v a) (plV v b) (plV v c) (plV v e)=D at *
 have hlt:M*crs (plV v b) (plV v a) (plV v e)+D*crs (plV v a) (plV v b) (plV v d) < hV v d*crs (plV v a) (plV v b) (plV v c)*crs (plV v b) (plV v a) (plV v e):=by
  by_cases g:d=c
  ·subst g
   have e1:=Int.mul_le_mul_of_nonneg_right p1 (Int.le_of_lt k2)
   have e2:=Int.mul_neg_of_neg_of_pos hD h4
   omega
  ·have e1:=Int.mul_lt_mul_of_pos_right (p2 n2 n1 g) k2
   have e2:=Int.mul_nonpos_of_nonpos_of_nonneg (Int.le_of_lt hD) hx
   omega
 have e3:(L-hV v d*crs (plV v b) (plV v a) (plV v e))*crs (plV v a) (plV v b) (plV v c) < 0:=by
  have:(L-hV v d*crs (plV v b) (plV v a) (plV v e))*crs (plV v a) (plV v b) (plV v c)=L*crs (plV v a) (plV v b) (plV v c)-hV v d*crs (plV v a) (plV v b) (plV v c)*crs (plV v b) (plV v a) (plV v e):=by grind
  omega
 rcases Int.lt_or_le (L-hV v d*crs (plV v b) (plV v a) (plV v e)) 0 with g | g
 ·exact g
 ·have:=Int.mul_nonneg g (Int.le_of_lt h4);omega
def dtp (a b x:Ac):Int:=(x.X-a.X)*(x.X-b.X)+(x.Y-a.Y)*(x.Y-b.Y)
theorem Uh (a b c d:Ac):inC a b c d=dtp a b c*crs a b d-dtp a b d*crs a b c:=by unfold inC dtp lft crs;grind
theorem Zb {a b c d e:Ac} (hc:0 < crs a b c) (hd:0 < crs a b d) (he:0 < crs a b e) (h1:0 < inC a b c d) (h2:inC a b c e<=0):inC a b d e < 0:=by
 rw [Uh] at *
 have e1:dtp a b d*crs a b c < dtp a b c*crs a b d:=by omega
 have e2:dtp a b c*crs a b e<=dtp a b e*crs a b c:=by omega
 have m1:=Int.mul_lt_mul_of_pos_right e1 he
 have m2:=Int.mul_le_mul_of_nonneg_right e2 (Int.le_of_lt hd)
 have m3:(dtp a b d*crs a b e)*crs a b c < (dtp a b e*crs a b d)*crs a b c:=by
  have r1:(dtp a b d*crs a b e)*crs a b c=dtp a b d*crs a b c*crs a b e:=by grind
  have r2:dtp a b c*crs a b d*crs a b e=dtp a b c*crs a b e*crs a b d:=by grind
  have r3:(dtp a b e*crs a b d)*crs a b c=dtp a b e*crs a b c*crs a b d:=by grind
  omega
 have:=Int.lt_of_mul_lt_mul_right m3 (Int.le_of_lt hc)
 omega
theorem Ahd {a b c d e:Ac} (hc:0 < crs a b c) (h1:inC a b c d=0):inC a b c e*crs a b d=inC a b d e*crs a b c:=by
 rw [Uh a b c e,Uh a b d e]
 rw [Uh] at h1
 have e1:dtp a b c*crs a b d=dtp a b d*crs a b c:=by omega
 have r1:(dtp a b c*crs a b e-dtp a b e*crs a b c)*crs a b d=dtp a b c*crs a b d*crs a b e-dtp a b e*crs a b c*crs a b d:=by grind
 rw [r1,e1]
 grind
theorem Ot {a b c d e:Ac} (hc:0 < crs a b c) (hd:0 < crs a b d) (h1:inC a b c d=0):(inC a b c e < 0->inC a b d e < 0)/\(inC a b c e=0->inC a b d e=0):=by
 have h:=Ahd (e:=e) hc h1
 constructor
 ·intro g
  rcases Int.lt_or_le (inC a b d e) 0 with k | k
  ·exact k
  ·have e1:=Int.mul_nonneg k (Int.le_of_lt hc)
   have e2:=Int.mul_neg_of_neg_of_pos g hd
   omega
 ·intro g
  rw [g,Int.zero_mul] at h
  rcases Int.mul_eq_zero.1 h.symm with k | k
  ·exact k
  ·omega
theorem Aiy {a b c d:Ac} (hc:0 < crs a b c) (hd:0 < crs a b d) (h0:inC a b c d=0) (h1:crs a c d=0):Bs c d:=by
 have hca:¬ Bs c a:=fun e=>by have:=Zn e;subst this;rw [Bm] at hc;omega
 have L1:=Agb hca
 have e0:lft c a*crs a b d=lft d a*crs a b c:=by
  have:inC a b c d=lft b a*crs c a d+lft c a*crs a b d-lft d a*crs a b c:=by unfold inC lft crs;grind
  rw [h0,Av,h1] at this
  simp only [Int.neg_zero,Int.mul_zero,Int.zero_add] at this
  omega
 have ex:crs a b c*(d.X-a.X)=crs a b d*(c.X-a.X):=by
  have:crs a b c*(d.X-a.X)-crs a b d*(c.X-a.X) = -(b.X-a.X)*crs a c d:=by unfold crs;grind
  rw [h1,Int.mul_zero] at this
  omega
 have ey:crs a b c*(d.Y-a.Y)=crs a b d*(c.Y-a.Y):=by
  have:crs a b c*(d.Y-a.Y)-crs a b d*(c.Y-a.Y) = -(b.Y-a.Y)*crs a c d:=by unfold crs;grind
  rw [h1,Int.mul_zero] at this
  omega
 generalize hk1:crs a b c=k1 at *
 generalize hk2:crs a b d=k2 at *
 have e2:k1*(k1*lft d a)=k2*(k2*lft c a):=by
  unfold lft
  have x2:(k1*(d.X-a.X))*(k1*(d.X-a.X))=(k2*(c.X-a.X))*(k2*(c.X-a.X)):=by rw [ex]
  have y2:(k1*(d.Y-a.Y))*(k1*(d.Y-a.Y))=(k2*(c.Y-a.Y))*(k2*(c.Y-a.Y)):=by rw [ey]
  grind
 have e3:(lft c a*k2)*(k1-k2)=0:=by
  have:k1*(k1*lft d a)=k1*(lft c a*k2):=by rw [e0,Int.mul_comm k1 (lft d a)]
  grind
 have e4:k1=k2:=by
  rcases Int.mul_eq_zero.1 e3 with g | g
  ·rcases Int.mul_eq_zero.1 g with g | g <;> omega
  ·omega
 subst e4
 have gx:=Int.eq_of_mul_eq_mul_left (by omega) ex
 have gy:=Int.eq_of_mul_eq_mul_left (by omega) ey
 unfold Bs
 omega
theorem Aog {a b c d:Ac} (hc:0 < crs a b c) (h0:inC a b c d=0) (h1:0 < crs a c d) (hd:0 < crs a b d):0 < crs b c d:=by
 rcases Int.lt_or_le 0 (crs b c d) with g | g
 ·exact g
 ·have:=Vv (a:=c) (b:=a) (c:=b) (d:=d) (by rw [<- Am];exact hc) (by rw [Av];omega) g
  rw [<- Ab8,h0] at this
  omega
variable {v:List Ab} {a b:Int}
structure Best (v:List Ab) (a b k:Int) (s:List Int):Prop where
 mem:∀ c∈s,inN v.length c/\c < k/\0 < crs (plV v a) (plV v b) (plV v c)
 none:s=[]->∀ d,inN v.length d->d < k->crs (plV v a) (plV v b) (plV v d)<=0
 top:∀ c∈s,∀ d,inN v.length d->d < k->0 < crs (plV v a) (plV v b) (plV v d)->(inC (plV v a) (plV v b) (plV v c) (plV v d) < 0/\d ∉ s)\/(inC (plV v a) (plV v b) (plV v c) (plV v d)=0/\d∈s)
 nd:s.Nodup
theorem Best.nil:Best v a b 0 []:=⟨fun c h=>(by cases h),fun _ d hd h=>by unfold inN at hd;omega,fun c h=>(by cases h),List.nodup_nil⟩
theorem Best.skip {k:Int} {s:List Int} (h:Best v a b k s) (hk:crs (plV v a) (plV v b) (plV v k)<=0):Best v a b (k+1) s:=by
 refine ⟨fun c hc=>?_,fun e d hd hl=>?_,fun c hc d hd hl hp=>?_,h.nd⟩
 ·obtain ⟨h1,h2,h3⟩:=h.mem c hc
  exact ⟨h1,by omega,h3⟩
 ·by_cases g:d=k
  ·subst g;exact hk
  ·exact h.none e d hd (by omega)
 ·by_cases g:d=k
  ·subst g;omega
  ·exact h.top c hc d hd (by omega) hp
theorem Zc (a b c:Ac):inC a b c c=0:=by unfold inC lft crs;grind
theorem Best.one {k:Int} (hk:inN v.length k) (hp:0 < crs (plV v a) (plV v b) (plV v k)) (ho:∀ d,inN v.length d->d < k->0 < crs (plV v a) (plV v b) (plV v d)->inC (plV v a) (plV v b) (plV v k) (plV v d) < 0):Best v a b (k+1) [k]:=by
 refine ⟨fun c hc=>?_,fun e=>(by cases e),fun c hc d hd hl hq=>?_,by simp⟩
 ·rw [List.mem_singleton] at hc
  subst hc
  exact ⟨hk,by omega,hp⟩
 ·rw [List.mem_singleton] at hc
  subst hc
  by_cases g:d=c
  ·subst g;exact .inr ⟨Zc _ _ _,List.mem_singleton.2 rfl⟩
  ·exact .inl ⟨ho d hd (by omega) hq,by simpa using g⟩
theorem Best.first {k:Int} (h:Best v a b k []) (hk:inN v.length k) (hp:0 < crs (plV v a) (plV v b) (plV v k)):Best v a b (k+1) [k] :=
 Best.one hk hp fun d hd hl hq=>by have:=h.none rfl d hd hl;omega
theorem Best.better {k c:Int} {s:List Int} (h:Best v a b k s) (hk:inN v.length k) (hp:0 < crs (plV v a) (plV v b) (plV v k)) (hc:c∈s) (hi:0 < inC (plV v a) (plV v b) (plV v c) (plV v k)):Best v a b (k+1) [k] :=
 Best.one hk hp fun d hd hl hq=>Zb (h.mem c hc).2.2 hp hq hi (by rcases h.top c hc d hd hl hq with g | g <;> omega)
theorem Best.worse {k c:Int} {s:List Int} (h:Best v a b k s) (hc:c∈s) (hi:inC (plV v a) (plV v b) (plV v c) (plV v k) < 0):Best v a b (k+1) s:=by
 refine ⟨fun x hx=>?_,fun e=>(by rw [e] at hc;cases hc),fun x hx d hd hl hp=>?_,h.nd⟩
 ·obtain ⟨h1,h2,h3⟩:=h.mem x hx
  exact ⟨h1,by omega,h3⟩
 ·by_cases g:d=k
  ·subst g
   refine .inl ⟨?_,fun e=>?_⟩
   ·obtain ⟨h1,h2,h3⟩:=h.mem x hx
    obtain ⟨q1,q2,q3⟩:=h.mem c hc
    have h0:inC (plV v a) (plV v b) (plV v c) (plV v x)=0:=by
     rcases h.top c hc x h1 h2 h3 with g | g
     ·exact absurd hx g.2
     ·exact g.1
    exact (Ot q3 h3 h0).1 hi
   ·have:=(h.mem d e).2.1;omega
  ·exact h.top x hx d hd (by omega) hp
theorem Best.tie {k c:Int} {s:List Int} (h:Best v a b k s) (hk:inN v.length k) (hp:0 < crs (plV v a) (plV v b) (plV v k)) (hc:c∈s) (hi:inC (plV v a) (plV v b) (plV v c) (plV v k)=0):Best v a b (k+1) (s++[k]):=by
 have same:∀ x∈s,inC (plV v a) (plV v b) (plV v x) (plV v k)=0:=fun x hx=>by
  obtain ⟨h1,h2,h3⟩:=h.mem x hx
  obtain ⟨q1,q2,q3⟩:=h.mem c hc
  have h0:inC (plV v a) (plV v b) (plV v c) (plV v x)=0:=by
   rcases h.top c hc x h1 h2 h3 with g | g
   ·exact absurd hx g.2
   ·exact g.1
  exact (Ot q3 h3 h0).2 hi
 refine ⟨fun x hx=>?_,fun e=>(by simp at e),fun x hx d hd hl hq=>?_,?_⟩
 ·rcases List.mem_append.1 hx with hx | hx
  ·obtain ⟨h1,h2,h3⟩:=h.mem x hx
   exact ⟨h1,by omega,h3⟩
  ·rw [List.mem_singleton] at hx
   subst hx
   exact ⟨hk,by omega,hp⟩
 ·by_cases g:d=k
  ·subst g
   refine .inr ⟨?_,by simp⟩
   rcases List.mem_append.1 hx with hx | hx
   ·exact same x hx
   ·rw [List.mem_singleton] at hx
    subst hx
    exact Zc _ _ _
  ·have hnk:d ∉ [k]:=by simpa using g
   rcases List.mem_append.1 hx with hx | hx
   ·rcases h.top x hx d hd (by omega) hq with ⟨g1,g2⟩ | ⟨g1,g2⟩
    ·exact .inl ⟨g1,fun e=>(List.mem_append.1 e).elim g2 hnk⟩
    ·exact .inr ⟨g1,List.mem_append.2 (.inl g2)⟩
   ·rw [List.mem_singleton] at hx
    subst hx
    obtain ⟨q1,q2,q3⟩:=h.mem c hc
    rcases h.top c hc d hd (by omega) hq with ⟨g1,g2⟩ | ⟨g1,g2⟩
    ·exact .inl ⟨(Ot q3 hp hi).1 g1,fun e=>(List.mem_append.1 e).elim g2 hnk⟩
    ·exact .inr ⟨(Ot q3 hp hi).2 g1,List.mem_append.2 (.inl g2)⟩
 ·rw [List.nodup_append]
  refine ⟨h.nd,by simp,fun x hx y hy e=>?_⟩
  rw [List.mem_singleton] at hy
  subst hy
  subst e
  have:=(h.mem x hx).2.1
  omega
structure Circ (v:List Ab) (a b:Int) (l:List Int):Prop where
 mem:∀ c∈l,inN v.length c/\0 < crs (plV v a) (plV v b) (plV v c)
 on:∀ c∈l,∀ d∈l,inC (plV v a) (plV v b) (plV v c) (plV v d)=0
 nd:l.Nodup
theorem Best.circ {k:Int} {s:List Int} (h:Best v a b k s):Circ v a b s :=
 ⟨fun c hc=>⟨(h.mem c hc).1,(h.mem c hc).2.2⟩,fun c hc d hd=>by
  obtain ⟨h1,h2,h3⟩:=h.mem d hd
  rcases h.top c hc d h1 h2 h3 with g | g
  ·exact absurd hd g.2
  ·exact g.1,h.nd⟩
theorem Circ.sub {l l':List Int} (h:Circ v a b l) (hs:∀ x∈l',x∈l) (hn:l'.Nodup):Circ v a b l':=⟨fun c hc=>h.mem c (hs c hc),fun c hc d hd=>h.on c (hs c hc) d (hs d hd),hn⟩
theorem Circ.ne0 {l:List Int} (hv:Cd v) (h:Circ v a b l) {c d:Int} (hc:c∈l) (hd:d∈l) (hne:c≠d):crs (plV v a) (plV v c) (plV v d)≠0:=fun e=>by
 obtain ⟨c1,c2⟩:=h.mem c hc
 obtain ⟨d1,d2⟩:=h.mem d hd
 exact hne (hv.dist c d c1 d1 (Aiy c2 d2 (h.on c hc d hd) e))
theorem Circ.trans {l:List Int} (h:Circ v a b l) {c d e:Int} (hc:c∈l) (hd:d∈l) (he:e∈l) (h1:0 < crs (plV v a) (plV v c) (plV v d)) (h2:0 < crs (plV v a) (plV v d) (plV v e)):0 < crs (plV v a) (plV v c) (plV v e):=by
 have p:=Qq (plV v a) (plV v b) (plV v c) (plV v d) (plV v e)
 have e1:=Int.mul_pos (h.mem c hc).2 h2
 have e2:=Int.mul_pos (h.mem e he).2 h1
 refine Ci (x:=crs (plV v a) (plV v b) (plV v d)) ?_ (h.mem d hd).2
 omega
structure Ring (v:List Ab) (a b:Int) (l:List Int):Prop where
 circ:Circ v a b l
 ord:l.Pairwise fun x y=>0 < crs (plV v a) (plV v x) (plV v y)
def Ans (v:List Ab) (a b:Int) (l:List Int) (c:Int):Prop:=c∈l/\∀ d∈l,d≠c->DH (plV v) (hV v) a b c d < 0
section
variable (hv:Cd v) (ha:inN v.length a) (hb:inN v.length b) {l:List Int}
include hv ha hb
theorem Ring.ans_a {c:Int} {l:List Int} (h:Ring v a b (l++[c])) (hab:befP (plV v a) (plV v b)) (hf:∀ x∈l++[c],befP (plV v a) (plV v x)):Ans v a b (l++[c]) c:=by
 have hc:c∈l++[c]:=by simp
 refine ⟨hc,fun d hd hne=>?_⟩
 obtain ⟨c1,c2⟩:=h.circ.mem c hc
 obtain ⟨d1,d2⟩:=h.circ.mem d hd
 have hdl:d∈l:=by
  rcases List.mem_append.1 hd with g | g
  ·exact g
  ·exact absurd (List.mem_singleton.1 g) hne
 have hdc:0 < crs (plV v a) (plV v d) (plV v c):=(List.pairwise_append.1 h.ord).2.2 d hdl c (by simp)
 have:=Aog d2 (h.circ.on d hd c hc) hdc c2
 refine (Sb hv ha hb c1 d1 (h.circ.on c hc d hd) hab (hf c hc) (hf d hd)).2 ?_
 rw [Acr]
 omega
theorem Ring.ans_b {c:Int} {l:List Int} (h:Ring v a b (c::l)) (hab:befP (plV v b) (plV v a)) (hf:∀ x∈c::l,befP (plV v b) (plV v x)):Ans v a b (c::l) c:=by
 have hc:c∈c::l:=by simp
 refine ⟨hc,fun d hd hne=>?_⟩
 obtain ⟨c1,c2⟩:=h.circ.mem c hc
 obtain ⟨d1,d2⟩:=h.circ.mem d hd
 have hdl:d∈l:=by
  rcases List.mem_cons.1 hd with g | g
  ·exact absurd g hne
  ·exact g
 have hcd:0 < crs (plV v a) (plV v c) (plV v d):=(List.pairwise_cons.1 h.ord).1 d hdl
 rw [<- Oo]
 refine (Sb hv hb c1 ha d1 (by rw [Ab8];exact h.circ.on c hc d hd) (hf c hc) hab (hf d hd)).2 ?_
 rw [Av]
 omega
theorem Ring.ans_cut {x c:Int} (h:Ring v a b l) (hx:x∈l) (hxa:befP (plV v x) (plV v a)) (hxb:befP (plV v x) (plV v b)) (hf:∀ y∈l,y≠x->befP (plV v x) (plV v y)) {l':List Int} (hl:∀ y,y∈l'↔y∈l/\y≠x) (hc:Ans v a b l' c):Ans v a b l c:=by
 obtain ⟨h1,h2⟩:=hc
 obtain ⟨hcl,hcx⟩:=(hl c).1 h1
 obtain ⟨c1,c2⟩:=h.circ.mem c hcl
 obtain ⟨x1,x2⟩:=h.circ.mem x hx
 refine ⟨hcl,fun d hd hne=>?_⟩
 by_cases e:d=x
 ·subst e
  exact Aec hv ha hb c1 x1 (h.circ.on c hcl d hx) hxa hxb (hf c hcl hcx) c2
 ·exact h2 d ((hl d).2 ⟨hd,e⟩) hne
theorem Best.ans {s l:List Int} {c:Int} (h:Best v a b v.length s) (hp:∀ x,x∈l↔x∈s) (hc:Ans v a b l c):Top v a b c:=by
 obtain ⟨h1,h2⟩:=hc
 have hcs:=(hp c).1 h1
 obtain ⟨c1,_,c2⟩:=h.mem c hcs
 refine ⟨c1,c2,fun d hd hq hne=>?_⟩
 rcases h.top c hcs d hd hd.2 hq with g | g
 ·exact Aeb hv ha hb c1 hd g.1
 ·exact h2 d ((hp d).2 g.2) hne
end
end Go.Proofs.YtoojmkhjdjianaaGreat
