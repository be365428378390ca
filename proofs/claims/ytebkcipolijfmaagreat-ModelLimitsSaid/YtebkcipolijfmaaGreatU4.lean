/- Forcing a line: the geometry of a side that crosses it. -/
import Derived.Test.YtebkcipolijfmaaGreatU1
namespace Go.Proofs.YtebkcipolijfmaaGreat
open Go Go.RowKit
/-- Heights above the line. -/
theorem Ahb (A B s p q r:Ac):(crs A B p-crs A B s)*crs s q r+(crs A B q-crs A B s)*crs s r p+(crs A B r-crs A B s)*crs s p q=0:=by unfold crs;grind
/-- Three places in turn around s, all on one side of it. -/
theorem Amp {A B s p q r:Ac} (h1:0 < crs s p q) (h2:0 < crs s q r) (hp:crs A B s < crs A B p) (hq:crs A B s < crs A B q) (hr:crs A B s≤crs A B r):0 < crs s p r:=by
 have h:=Ahb A B s p q r
 rw [Bw s p r] at h
 have m1:=Int.mul_pos (show 0 < crs A B p-crs A B s by omega) h2
 have m2:=Int.mul_nonneg (show 0≤crs A B r-crs A B s by omega) (Int.le_of_lt h1)
 have m3:(crs A B q-crs A B s) * -crs s p r = -((crs A B q-crs A B s)*crs s p r):=Int.mul_neg _ _
 exact Dl (x:=crs A B q-crs A B s) (by omega) (by omega)
theorem Aea {A B s p q r:Ac} (h1:0 < crs s p q) (h2:0 < crs s q r) (hp:crs A B p < crs A B s) (hq:crs A B q < crs A B s) (hr:crs A B r≤crs A B s):0 < crs s p r:=by
 have h:=Ahb A B s p q r
 rw [Bw s p r] at h
 have m1:=Int.mul_pos (show 0 < crs A B s-crs A B p by omega) h2
 have m2:=Int.mul_nonneg (show 0≤crs A B s-crs A B r by omega) (Int.le_of_lt h1)
 have m3:(crs A B q-crs A B s) * -crs s p r=(crs A B s-crs A B q)*crs s p r:=by grind
 have m4:(crs A B p-crs A B s)*crs s q r = -((crs A B s-crs A B p)*crs s q r):=by grind
 have m5:(crs A B r-crs A B s)*crs s p q = -((crs A B s-crs A B r)*crs s p q):=by grind
 exact Dl (x:=crs A B s-crs A B q) (by omega) (by omega)
/-- A place u above and its only place w below: the quadrangle with its neighbours l and k is convex where u is a top. -/
theorem Amq {A B u w k l:Ac} (hw:crs A B w < 0) (hk0:0≤crs A B k) (hl0:0≤crs A B l) (hu:0 < crs A B u) (t1:0 < crs u w k) (t2:0 < crs w u l) (hl:crs A B l < crs A B u) (hk:crs A B k≤crs A B u) :
  0 < crs k u l∧0 < crs l w k:=by
 constructor
 ·-- around u: l,w,k,all Og
  have:=Aea (A:=A) (B:=B) (s:=u) (p:=l) (q:=w) (r:=k) (by rw [Ar];exact t2) t1 hl (by omega) hk
  rw [← Ar] at this
  rw [← Ar] at this
  exact this
 ·-- around w: k,u,l,all above
  have:=Amp (A:=A) (B:=B) (s:=w) (p:=k) (q:=u) (r:=l) (by rw [← Ar];rw [← Ar];exact t1) t2 (by omega) (by omega) (by omega)
  rw [← Ar] at this
  rw [← Ar] at this
  exact this
/-- The last place w of a top u, which has another one (w') ahead of it: the quadrangle is not convex at w alone, and then w' lies deeper. -/
theorem Aqp {A B u w w' k:Ac} (hw:crs A B w < 0) (hw':crs A B w' < 0) (hk0:0≤crs A B k) (hu:0 < crs A B u) (t1:0 < crs u w k) (t2:0 < crs u w' w) (hk:crs A B k≤crs A B u) :
  0 < crs k u w'∧(crs w' w k≤0→crs A B w' < crs A B w):=by
 constructor
 ·have:=Aea (A:=A) (B:=B) (s:=u) (p:=w') (q:=w) (r:=k) t2 t1 (by omega) (by omega) hk
  rw [← Ar] at this
  rw [← Ar] at this
  exact this
 ·intro h
  refine Classical.byContradiction fun g=>?_
  have:=Amp (A:=A) (B:=B) (s:=w) (p:=k) (q:=u) (r:=w') (by rw [← Ar];rw [← Ar];exact t1) (by rw [← Ar];exact t2) (by omega) (by omega) (by omega)
  rw [← Ar] at this
  rw [← Ar] at this
  omega
end Go.Proofs.YtebkcipolijfmaaGreat
/- The sides that cross a line, in their order along it; what a flip makes of them. -/
namespace Go.Proofs.YtebkcipolijfmaaGreat
open Go Go.RowKit
variable {P:Int→Ac} {V:Int→Prop} {ap:Ap} {a b:Int}
/-- m sides (u i, w i), u i above the line from a to b and w i below, each next to the one before. -/
structure Eb (P:Int→Ac) (ap:Ap) (a b:Int) (m:Nat) (u w:Nat→Int):Prop where
 up:∀ i,i < m→0 < crs (P a) (P b) (P (u i))
 lo:∀ i,i < m→crs (P a) (P b) (P (w i)) < 0
 first:0 < m→ap (w 0) (u 0)=some a
 last:∀ i,i+1=m→ap (u i) (w i)=some b
 next:∀ i,i+1 < m→(u (i+1)=u i∧ap (u i) (w i)=some (w (i+1)))∨(w (i+1)=w i∧ap (u i) (w i)=some (u (i+1)))
section
variable {m:Nat} {u w:Nat→Int}
theorem Af7:crs (P a) (P b) (P b)=0:=De _ _
theorem Af8:crs (P a) (P b) (P a)=0:=Eq _ _
theorem Eb.ne (h:Eb P ap a b m u w) {i j:Nat} (hi:i < m) (hj:j < m):u i≠w j:=fun e=>by
 have h1:=h.up i hi
 have h2:=h.lo j hj
 rw [e] at h1
 omega
/-- No side is met twice. -/
theorem Eb.inj (h:Eb P ap a b m u w):∀ i j,i < j→j < m→¬ (u i=u j∧w i=w j):=by
 have key:∀ n i j,m-j=n→i < j→j < m→¬ (u i=u j∧w i=w j):=by
  intro n
  induction n using Nat.strongRecOn with
  | ind n ih =>
   intro i j hn hij hj ⟨e1,e2⟩
   by_cases c:j+1=m
   ·have h1:=h.last j c
    rw [← e1,← e2] at h1
    rcases h.next i (by omega) with ⟨g1,g2⟩ | ⟨g1,g2⟩
    ·rw [h1] at g2
     have:=h.lo (i+1) (by omega)
     rw [← Option.some.inj g2,Af7] at this
     omega
    ·rw [h1] at g2
     have:=h.up (i+1) (by omega)
     rw [← Option.some.inj g2,Af7] at this
     omega
   ·refine ih (m-(j+1)) (by omega) (i+1) (j+1) rfl (by omega) (by omega) ?_
    rcases h.next i (by omega) with ⟨g1,g2⟩ | ⟨g1,g2⟩ <;> rcases h.next j (by omega) with ⟨k1,k2⟩ | ⟨k1,k2⟩
    ·rw [e1,e2,k2] at g2
     exact ⟨by rw [g1,k1,e1],(Option.some.inj g2).symm⟩
    ·rw [e1,e2,k2] at g2
     exact absurd (Option.some.inj g2) (h.ne (by omega) (by omega))
    ·rw [e1,e2,k2] at g2
     exact absurd (Option.some.inj g2).symm (h.ne (by omega) (by omega))
    ·rw [e1,e2,k2] at g2
     exact ⟨(Option.some.inj g2).symm,by rw [g1,k1,e2]⟩
 intro i j
 exact key _ i j rfl
/-- What lies to the left of a side: the place ahead of it. -/
theorem Eb.prev (h:Eb P ap a b m u w) (ht:Tri P V ap) {i:Nat} (hi:i+1 < m):(u (i+1)=u i∧ap (w (i+1)) (u (i+1))=some (w i))∨(w (i+1)=w i∧ap (w (i+1)) (u (i+1))=some (u i)):=by
 rcases h.next i hi with ⟨g1,g2⟩ | ⟨g1,g2⟩
 ·left
  refine ⟨g1,?_⟩
  rw [g1]
  exact ht.rot2 g2
 ·right
  refine ⟨g1,?_⟩
  rw [g1]
  exact ht.rot _ _ _ g2
end
/-! ### what a flip writes -/
theorem Xy {i j k l:Int} (q:Quad P V ap i j k l):Dx ap i j k l i l=some k∧Dx ap i j k l l k=some i∧Dx ap i j k l k i=some l∧Dx ap i j k l j k=some l∧Dx ap i j k l k l=some j∧Dx ap i j k l l j=some k:=by
 obtain ⟨n1,n2,n3,n4,n5,n6⟩:=q.ne
 unfold Dx
 refine ⟨?_,?_,?_,?_,?_,?_⟩ <;> grind
theorem Af9 {i j k l x y:Int} (h1:¬ (x=i∧y=l)) (h2:¬ (x=l∧y=k)) (h3:¬ (x=k∧y=i)) (h4:¬ (x=j∧y=k)) (h5:¬ (x=k∧y=l)) (h6:¬ (x=l∧y=j)) (h7:¬ (x=i∧y=j)) (h8:¬ (x=j∧y=i)):Dx ap i j k l x y=ap x y:=by
 unfold Dx
 rw [if_neg h1,if_neg h2,if_neg h3,if_neg h4,if_neg h5,if_neg h6,if_neg h7,if_neg h8]
/-- Without the side at place i. -/
def cutF (i:Nat) (f:Nat→Int) (k:Nat):Int:=if k < i then f k else f (k+1)
/-- Another one at place i. -/
def setF (i:Nat) (x:Int) (f:Nat→Int) (k:Nat):Int:=if k=i then x else f k
end Go.Proofs.YtebkcipolijfmaaGreat
/- A flip of a side that crosses the line. -/
namespace Go.Proofs.YtebkcipolijfmaaGreat
open Go Go.RowKit
variable {P:Int→Ac} {V:Int→Prop} {ap:Ap} {a b:Int} {m:Nat} {u w:Nat→Int}
/-- What lies to the left of side i (l). -/
def Avq (a:Int) (u w:Nat→Int) (i:Nat) (l:Int):Prop:=(i=0∧l=a)∨(0 < i∧u i=u (i-1)∧l=w (i-1))∨(0 < i∧w i=w (i-1)∧l=u (i-1))
/-- What lies to its right (k). -/
def Atk (b:Int) (m:Nat) (u w:Nat→Int) (i:Nat) (k:Int):Prop:=(i+1=m∧k=b)∨(i+1 < m∧u (i+1)=u i∧k=w (i+1))∨(i+1 < m∧w (i+1)=w i∧k=u (i+1))
theorem Eb.left (h:Eb P ap a b m u w) (ht:Tri P V ap) {i:Nat} (hi:i < m) {l:Int} (hl:ap (w i) (u i)=some l):Avq a u w i l:=by
 by_cases c:i=0
 ·subst c
  rw [h.first hi] at hl
  exact .inl ⟨rfl,(Option.some.inj hl).symm⟩
 ·obtain ⟨j,rfl⟩:∃ j,i=j+1:=⟨i-1,by omega⟩
  rcases h.prev ht hi with ⟨g1,g2⟩ | ⟨g1,g2⟩ <;> rw [hl] at g2
  ·exact .inr (.inl ⟨by omega,g1,Option.some.inj g2⟩)
  ·exact .inr (.inr ⟨by omega,g1,Option.some.inj g2⟩)
theorem Eb.right (h:Eb P ap a b m u w) {i:Nat} (hi:i < m) {k:Int} (hk:ap (u i) (w i)=some k):Atk b m u w i k:=by
 by_cases c:i+1=m
 ·rw [h.last i c] at hk
  exact .inl ⟨c,(Option.some.inj hk).symm⟩
 ·rcases h.next i (by omega) with ⟨g1,g2⟩ | ⟨g1,g2⟩ <;> rw [hk] at g2
  ·exact .inr (.inl ⟨by omega,g1,Option.some.inj g2⟩)
  ·exact .inr (.inr ⟨by omega,g1,Option.some.inj g2⟩)
section
variable {i:Nat} {k l:Int}
/-- Other sides keep what lies to their right, but the one ahead. -/
theorem Eb.keepR (h:Eb P ap a b m u w) (hi:i < m) (q:Quad P V ap (u i) (w i) k l) {j:Nat} (hj:j < m) (n1:j≠i) (n2:j+1≠i):Dx ap (u i) (w i) k l (u j) (w j)=ap (u j) (w j):=by
 have hl:=h.left q.tri hi q.hl
 have fr:=q.fresh
 have some_:ap (u j) (w j)≠none:=by
  by_cases c:j+1=m
  ·rw [h.last j c];simp
  ·rcases h.next j (by omega) with ⟨_,g⟩ | ⟨_,g⟩ <;> (rw [g];simp)
 refine Af9 (fun e=>?_) (fun e=>?_) (fun e=>?_) (fun e=>?_) (fun e=>?_) (fun e=>?_) (fun e=>?_) (fun e=>?_)
 ·-- (u i,l)
  rcases hl with ⟨g1,g2⟩ | ⟨g1,g2,g3⟩ | ⟨g1,g2,g3⟩
  ·have:=h.lo j hj
   rw [e.2,g2,Af8] at this
   omega
  ·have e1:u j=u (i-1)∧w j=w (i-1):=⟨by rw [e.1,g2],by rw [e.2,g3]⟩
   rcases Nat.lt_trichotomy j (i-1) with c | c | c
   ·exact h.inj j (i-1) c (by omega) e1
   ·omega
   ·exact h.inj (i-1) j c hj ⟨e1.1.symm,e1.2.symm⟩
  ·exact h.ne (i:=i-1) (j:=j) (by omega) hj (by rw [e.2,g3])
 ·rw [e.1,e.2] at some_;exact some_ fr.2
 ·exact h.ne (i:=i) (j:=j) hi hj e.2.symm
 ·exact h.ne (i:=j) (j:=i) hj hi e.1
 ·rw [e.1,e.2] at some_;exact some_ fr.1
 ·-- (l,w i)
  rcases hl with ⟨g1,g2⟩ | ⟨g1,g2,g3⟩ | ⟨g1,g2,g3⟩
  ·have:=h.up j hj
   rw [e.1,g2,Af8] at this
   omega
  ·exact h.ne (i:=j) (j:=i-1) hj (by omega) (by rw [e.1,g3])
  ·have e1:u j=u (i-1)∧w j=w (i-1):=⟨by rw [e.1,g3],by rw [e.2,g2]⟩
   rcases Nat.lt_trichotomy j (i-1) with c | c | c
   ·exact h.inj j (i-1) c (by omega) e1
   ·omega
   ·exact h.inj (i-1) j c hj ⟨e1.1.symm,e1.2.symm⟩
 ·rcases Nat.lt_trichotomy j i with c | c | c
  ·exact h.inj j i c hi e
  ·exact n1 c
  ·exact h.inj i j c hj ⟨e.1.symm,e.2.symm⟩
 ·exact h.ne (i:=j) (j:=i) hj hi e.1
/-- The first side keeps what lies to its left, if it is neither the one that is flipped nor the one behind it. -/
theorem Eb.keepL (h:Eb P ap a b m u w) (hi:i < m) (q:Quad P V ap (u i) (w i) k l) (h0:0 < i):Dx ap (u i) (w i) k l (w 0) (u 0)=some a:=by
 have hk:=h.right hi q.hk
 have fr:=q.fresh
 have hf:=h.first (by omega)
 rw [Af9,hf]
 ·exact fun e=>h.ne (i:=i) (j:=0) hi (by omega) e.1.symm
 ·intro e;rw [e.1,e.2,fr.2] at hf;cases hf
 ·-- (k,u i)
  intro e
  rcases hk with ⟨g1,g2⟩ | ⟨g1,g2,g3⟩ | ⟨g1,g2,g3⟩
  ·have:=h.lo 0 (by omega)
   rw [e.1,g2,Af7] at this
   omega
  ·exact h.inj 0 (i+1) (by omega) g1 ⟨by rw [e.2,g2],by rw [e.1,g3]⟩
  ·exact h.ne (i:=i+1) (j:=0) g1 (by omega) (by rw [e.1,g3])
 ·-- (w i,k)
  intro e
  rcases hk with ⟨g1,g2⟩ | ⟨g1,g2,g3⟩ | ⟨g1,g2,g3⟩
  ·have:=h.up 0 (by omega)
   rw [e.2,g2,Af7] at this
   omega
  ·exact h.ne (i:=0) (j:=i+1) (by omega) g1 (by rw [e.2,g3])
  ·exact h.inj 0 (i+1) (by omega) g1 ⟨by rw [e.2,g3],by rw [e.1,g2]⟩
 ·intro e;rw [e.1,e.2,fr.1] at hf;cases hf
 ·exact fun e=>h.ne (i:=0) (j:=i) (by omega) hi e.2
 ·exact fun e=>h.ne (i:=i) (j:=0) hi (by omega) e.1.symm
 ·exact fun e=>h.inj 0 i h0 hi ⟨e.2,e.1⟩
/-- The side goes away: what lies ahead of it and behind it is on one side of the line, or an end. -/
theorem Eb.cut (h:Eb P ap a b m u w) (hi:i < m) (q:Quad P V ap (u i) (w i) k l) (hc:(i=0∨i+1=m)∨(0 < i∧i+1 < m∧((u i=u (i-1)∧u (i+1)=u i)∨(w i=w (i-1)∧w (i+1)=w i)))) :
  Eb P (Dx ap (u i) (w i) k l) a b (m-1) (cutF i u) (cutF i w):=by
 have hl:=h.left q.tri hi q.hl
 have hk:=h.right hi q.hk
 obtain ⟨v1,v2,v3,v4,v5,v6⟩:=Xy q
 have at_:∀ (f:Nat→Int) t,t < i→cutF i f t=f t:=fun f t ht=>if_pos ht
 have at':∀ (f:Nat→Int) t,¬ t < i→cutF i f t=f (t+1):=fun f t ht=>if_neg ht
 refine ⟨fun t ht=>?_,fun t ht=>?_,fun h0=>?_,fun t ht=>?_,fun t ht=>?_⟩
 ·by_cases c:t < i
  ·rw [at_ _ _ c];exact h.up t (by omega)
  ·rw [at' _ _ c];exact h.up (t+1) (by omega)
 ·by_cases c:t < i
  ·rw [at_ _ _ c];exact h.lo t (by omega)
  ·rw [at' _ _ c];exact h.lo (t+1) (by omega)
 ·by_cases c:i=0
  ·rw [at' _ _ (by omega),at' _ _ (by omega)]
   have ha:l=a:=by
    rcases hl with ⟨_,g⟩ | ⟨g,_⟩ | ⟨g,_⟩
    ·exact g
    ·omega
    ·omega
   subst c
   rcases hk with ⟨g1,g2⟩ | ⟨g1,g2,g3⟩ | ⟨g1,g2,g3⟩
   ·omega
   ·rw [show (0+1:Nat)=1 from rfl] at *
    rw [← g3,g2,v3,ha]
   ·rw [show (0+1:Nat)=1 from rfl] at *
    rw [← g3,g2,v4,ha]
  ·rw [at_ _ _ (by omega),at_ _ _ (by omega)]
   exact h.keepL hi q (by omega)
 ·by_cases c:i+1=m
  ·have hb:k=b:=by
    rcases hk with ⟨_,g⟩ | ⟨g,_⟩ | ⟨g,_⟩
    ·exact g
    ·omega
    ·omega
   have ht':t=i-1:=by omega
   rw [at_ _ _ (by omega),at_ _ _ (by omega),ht']
   rcases hl with ⟨g1,g2⟩ | ⟨g1,g2,g3⟩ | ⟨g1,g2,g3⟩
   ·omega
   ·rw [← g2,← g3,v1,hb]
   ·rw [← g3,← g2,v6,hb]
  ·rw [at' _ _ (by omega),at' _ _ (by omega),h.keepR hi q (by omega) (by omega) (by omega)]
   exact h.last (t+1) (by omega)
 ·by_cases c:t+1 < i
  ·rw [at_ _ _ (show t < i by omega),at_ _ _ (show t < i by omega),at_ _ _ c,at_ _ _ c,h.keepR hi q (by omega) (by omega) (by omega)]
   exact h.next t (by omega)
  ·by_cases c2:t+1=i
   ·have ht':t=i-1:=by omega
    rw [at_ _ _ (show t < i by omega),at_ _ _ (show t < i by omega),at' _ _ (show ¬ t+1 < i by omega),at' _ _ (show ¬ t+1 < i by omega)]
    have e1:t+1+1=i+1:=by omega
    rw [e1,ht']
    rcases hc with (g | g) | ⟨g1,g2,⟨g3,g4⟩ | ⟨g3,g4⟩⟩
    ·omega
    ·omega
    ·left
     have el:l=w (i-1):=by
      rcases hl with ⟨g,_⟩ | ⟨_,_,g⟩ | ⟨_,g,g'⟩
      ·omega
      ·exact g
      ·exact absurd ⟨g3.symm,g.symm⟩ (h.inj (i-1) i (by omega) hi)
     have ek:k=w (i+1):=by
      rcases hk with ⟨g,_⟩ | ⟨_,_,g⟩ | ⟨_,g,g'⟩
      ·omega
      ·exact g
      ·exact absurd ⟨g4.symm,g.symm⟩ (h.inj i (i+1) (by omega) g2)
     exact ⟨by rw [g4,g3],by rw [← g3,← el,v1,ek]⟩
    ·right
     have el:l=u (i-1):=by
      rcases hl with ⟨g,_⟩ | ⟨_,g,g'⟩ | ⟨_,_,g⟩
      ·omega
      ·exact absurd ⟨g.symm,g3.symm⟩ (h.inj (i-1) i (by omega) hi)
      ·exact g
     have ek:k=u (i+1):=by
      rcases hk with ⟨g,_⟩ | ⟨_,g,g'⟩ | ⟨_,_,g⟩
      ·omega
      ·exact absurd ⟨g.symm,g4.symm⟩ (h.inj i (i+1) (by omega) g2)
      ·exact g
     exact ⟨by rw [g4,g3],by rw [← g3,← el,v6,ek]⟩
   ·rw [at' _ _ (show ¬ t < i by omega),at' _ _ (show ¬ t < i by omega),at' _ _ (show ¬ t+1 < i by omega),at' _ _ (show ¬ t+1 < i by omega),h.keepR hi q (by omega) (by omega) (by omega)]
    exact h.next (t+1) (by omega)
/-- The side turns: behind w comes the next u. -/
theorem Eb.turnU (h:Eb P ap a b m u w) (hi:i < m) (q:Quad P V ap (u i) (w i) k l) (h0:0 < i) (h1:i+1 < m) (hu:u i=u (i-1)) (hw:w (i+1)=w i) :
  k=u (i+1)∧l=w (i-1)∧Eb P (Dx ap (u i) (w i) k l) a b m (setF i k u) (setF i l w):=by
 have hl:=h.left q.tri hi q.hl
 have hk:=h.right hi q.hk
 obtain ⟨v1,v2,v3,v4,v5,v6⟩:=Xy q
 have el:l=w (i-1):=by
  rcases hl with ⟨g,_⟩ | ⟨_,_,g⟩ | ⟨_,g,g'⟩
  ·omega
  ·exact g
  ·exact absurd ⟨hu.symm,g.symm⟩ (h.inj (i-1) i (by omega) hi)
 have ek:k=u (i+1):=by
  rcases hk with ⟨g,_⟩ | ⟨_,g,g'⟩ | ⟨_,_,g⟩
  ·omega
  ·exact absurd ⟨g.symm,hw.symm⟩ (h.inj i (i+1) (by omega) h1)
  ·exact g
 have at_:∀ (x:Int) (f:Nat→Int) t,t≠i→setF i x f t=f t:=fun x f t ht=>if_neg ht
 have at':∀ (x:Int) (f:Nat→Int),setF i x f i=x:=fun x f=>if_pos rfl
 refine ⟨ek,el,fun t ht=>?_,fun t ht=>?_,fun _=>?_,fun t ht=>?_,fun t ht=>?_⟩
 ·by_cases c:t=i
  ·rw [c,at',ek];exact h.up (i+1) h1
  ·rw [at_ _ _ _ c];exact h.up t ht
 ·by_cases c:t=i
  ·rw [c,at',el];exact h.lo (i-1) (by omega)
  ·rw [at_ _ _ _ c];exact h.lo t ht
 ·rw [at_ _ _ _ (by omega),at_ _ _ _ (by omega)]
  exact h.keepL hi q h0
 ·rw [at_ _ _ _ (by omega),at_ _ _ _ (by omega),h.keepR hi q (by omega) (by omega) (by omega)]
  exact h.last t ht
 ·by_cases c:t=i
  ·left
   rw [c,at',at',at_ _ _ _ (by omega),at_ _ _ _ (by omega),v5,hw]
   exact ⟨ek.symm,rfl⟩
  ·by_cases c2:t+1=i
   ·right
    have ht':t=i-1:=by omega
    rw [c2,at',at',at_ _ _ _ c,at_ _ _ _ c,ht',← hu,← el,v1]
    exact ⟨rfl,rfl⟩
   ·rw [at_ _ _ _ c,at_ _ _ _ c,at_ _ _ _ c2,at_ _ _ _ c2,h.keepR hi q (by omega) c c2]
    exact h.next t ht
/-- .. and the other way. -/
theorem Eb.turnL (h:Eb P ap a b m u w) (hi:i < m) (q:Quad P V ap (u i) (w i) k l) (h0:0 < i) (h1:i+1 < m) (hw:w i=w (i-1)) (hu:u (i+1)=u i) :
  k=w (i+1)∧l=u (i-1)∧Eb P (Dx ap (u i) (w i) k l) a b m (setF i l u) (setF i k w):=by
 have hl:=h.left q.tri hi q.hl
 have hk:=h.right hi q.hk
 obtain ⟨v1,v2,v3,v4,v5,v6⟩:=Xy q
 have el:l=u (i-1):=by
  rcases hl with ⟨g,_⟩ | ⟨_,g,g'⟩ | ⟨_,_,g⟩
  ·omega
  ·exact absurd ⟨g.symm,hw.symm⟩ (h.inj (i-1) i (by omega) hi)
  ·exact g
 have ek:k=w (i+1):=by
  rcases hk with ⟨g,_⟩ | ⟨_,_,g⟩ | ⟨_,g,g'⟩
  ·omega
  ·exact g
  ·exact absurd ⟨hu.symm,g.symm⟩ (h.inj i (i+1) (by omega) h1)
 have at_:∀ (x:Int) (f:Nat→Int) t,t≠i→setF i x f t=f t:=fun x f t ht=>if_neg ht
 have at':∀ (x:Int) (f:Nat→Int),setF i x f i=x:=fun x f=>if_pos rfl
 refine ⟨ek,el,fun t ht=>?_,fun t ht=>?_,fun _=>?_,fun t ht=>?_,fun t ht=>?_⟩
 ·by_cases c:t=i
  ·rw [c,at',el];exact h.up (i-1) (by omega)
  ·rw [at_ _ _ _ c];exact h.up t ht
 ·by_cases c:t=i
  ·rw [c,at',ek];exact h.lo (i+1) h1
  ·rw [at_ _ _ _ c];exact h.lo t ht
 ·rw [at_ _ _ _ (by omega),at_ _ _ _ (by omega)]
  exact h.keepL hi q h0
 ·rw [at_ _ _ _ (by omega),at_ _ _ _ (by omega),h.keepR hi q (by omega) (by omega) (by omega)]
  exact h.last t ht
 ·by_cases c:t=i
  ·right
   rw [c,at',at',at_ _ _ _ (by omega),at_ _ _ _ (by omega),v2,hu]
   exact ⟨ek.symm,rfl⟩
  ·by_cases c2:t+1=i
   ·left
    have ht':t=i-1:=by omega
    rw [c2,at',at',at_ _ _ _ c,at_ _ _ _ c,ht',← hw,← el,v6]
    exact ⟨rfl,rfl⟩
   ·rw [at_ _ _ _ c,at_ _ _ _ c,at_ _ _ _ c2,at_ _ _ _ c2,h.keepR hi q (by omega) c c2]
    exact h.next t ht
end
end Go.Proofs.YtebkcipolijfmaaGreat
