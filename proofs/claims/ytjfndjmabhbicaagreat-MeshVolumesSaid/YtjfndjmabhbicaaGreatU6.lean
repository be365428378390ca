/- Forcing a line: the geometry of a side that crosses it. -/
import Derived.Test.YtjfndjmabhbicaaGreatK8
import Derived.Test.YtjfndjmabhbicaaGreatU1
namespace Go.Proofs.YtjfndjmabhbicaaGreat
open Go Go.RowKit
theorem Ahk (A B s p q r:Ac):(crs A B p-crs A B s)*crs s q r+(crs A B q-crs A B s)*crs s r p+(crs A B r-crs A B s)*crs s p q=0:=by unfold crs;grind
theorem Am2 {A B s p q r:Ac} (h1:0 < crs s p q) (h2:0 < crs s q r) (hp:crs A B s < crs A B p) (hq:crs A B s < crs A B q) (hr:crs A B s<=crs A B r):0 < crs s p r:=by
 have h:=Ahk A B s p q r
 rw[Bd s p r] at h
 have m1:=Int.mul_pos (show 0 < crs A B p-crs A B s by omega) h2
 have m2:=Int.mul_nonneg (show 0<=crs A B r-crs A B s by omega) (Int.le_of_lt h1)
 have m3:(crs A B q-crs A B s) * -crs s p r = -((crs A B q-crs A B s)*crs s p r):=Int.mul_neg _ _
 exact Ce (x:=crs A B q-crs A B s) (by omega) (by omega)
theorem Ad3 {A B s p q r:Ac} (h1:0 < crs s p q) (h2:0 < crs s q r) (hp:crs A B p < crs A B s) (hq:crs A B q < crs A B s) (hr:crs A B r<=crs A B s):0 < crs s p r:=by
 have h:=Ahk A B s p q r
 rw[Bd s p r] at h
 have m1:=Int.mul_pos (show 0 < crs A B s-crs A B p by omega) h2
 have m2:=Int.mul_nonneg (show 0<=crs A B s-crs A B r by omega) (Int.le_of_lt h1)
 have m3:(crs A B q-crs A B s) * -crs s p r=(crs A B s-crs A B q)*crs s p r:=by grind
 have m4:(crs A B p-crs A B s)*crs s q r = -((crs A B s-crs A B p)*crs s q r):=by grind
 have m5:(crs A B r-crs A B s)*crs s p q = -((crs A B s-crs A B r)*crs s p q):=by grind
 exact Ce (x:=crs A B s-crs A B q) (by omega) (by omega)
theorem Am3 {A B u w k l:Ac} (hw:crs A B w < 0) (hk0:0<=crs A B k) (hl0:0<=crs A B l) (hu:0 < crs A B u) (t1:0 < crs u w k) (t2:0 < crs w u l) (hl:crs A B l < crs A B u) (hk:crs A B k<=crs A B u) :
  0 < crs k u l/\0 < crs l w k:=by
 constructor
 ·-- around u: l,w,k,all Wv
  have:=Ad3 (A:=A) (B:=B) (s:=u) (p:=l) (q:=w) (r:=k) (by rw[An];exact t2) t1 hl (by omega) hk
  rw[<- An] at this
  rw[<- An] at this
  exact this
 ·-- around w: k,u,l,all above
  have:=Am2 (A:=A) (B:=B) (s:=w) (p:=k) (q:=u) (r:=l) (by rw[<- An];rw[<- An];exact t1) t2 (by omega) (by omega) (by omega)
  rw[<- An] at this
  rw[<- An] at this
  exact this
theorem Aq6 {A B u w w' k:Ac} (hw:crs A B w < 0) (hw':crs A B w' < 0) (hk0:0<=crs A B k) (hu:0 < crs A B u) (t1:0 < crs u w k) (t2:0 < crs u w' w) (hk:crs A B k<=crs A B u) :
  0 < crs k u w'/\(crs w' w k<=0->crs A B w' < crs A B w):=by
 constructor
 ·have:=Ad3 (A:=A) (B:=B) (s:=u) (p:=w') (q:=w) (r:=k) t2 t1 (by omega) (by omega) hk
  rw[<- An] at this
  rw[<- An] at this
  exact this
 ·intro h
  refine Classical.byContradiction fun g=>?_
  have:=Am2 (A:=A) (B:=B) (s:=w) (p:=k) (q:=u) (r:=w') (by rw[<- An];rw[<- An];exact t1) (by rw[<- An];exact t2) (by omega) (by omega) (by omega)
  rw[<- An] at this
  rw[<- An] at this
  omega
variable {P:Int->Ac} {V:Int->Prop} {ap:Ap} {a b:Int}
structure Dw (P:Int->Ac) (ap:Ap) (a b:Int) (m:Nat) (u w:Nat->Int):Prop where
 up:∀ i,i < m->0 < crs (P a) (P b) (P (u i))
 lo:∀ i,i < m->crs (P a) (P b) (P (w i)) < 0
 first:0 < m->ap (w 0) (u 0)=some a
 last:∀ i,i+1=m->ap (u i) (w i)=some b
 next:∀ i,i+1 < m->(u (i+1)=u i/\ap (u i) (w i)=some (w (i+1)))\/(w (i+1)=w i/\ap (u i) (w i)=some (u (i+1)))
section
variable {m:Nat} {u w:Nat->Int}
theorem Agg:crs (P a) (P b) (P b)=0:=Bi _ _
theorem Agh:crs (P a) (P b) (P a)=0:=Bp _ _
theorem Dw.ne (h:Dw P ap a b m u w) {i j:Nat} (hi:i < m) (hj:j < m):u i≠w j:=fun e=>by
 have h1:=h.up i hi
 have h2:=h.lo j hj
 rw[e] at h1
 omega
theorem Dw.inj (h:Dw P ap a b m u w):∀ i j,i < j->j < m->¬ (u i=u j/\w i=w j):=by
 have key:∀ n i j,m-j=n->i < j->j < m->¬ (u i=u j/\w i=w j):=by
  intro n
  induction n using Nat.strongRecOn with
  | ind n ih=>
   intro i j hn hij hj ⟨e1,e2⟩
   by_cases c:j+1=m
   ·have h1:=h.last j c
    rw[<- e1,<- e2] at h1
    rcases h.next i (by omega) with ⟨g1,g2⟩ | ⟨g1,g2⟩
    ·rw[h1] at g2
     have:=h.lo (i+1) (by omega)
     rw[<- Option.some.inj g2,Agg] at this
     omega
    ·rw[h1] at g2
     have:=h.up (i+1) (by omega)
     rw[<- Option.some.inj g2,Agg] at this
     omega
   ·refine ih (m-(j+1)) (by omega) (i+1) (j+1) rfl (by omega) (by omega) ?_
    rcases h.next i (by omega) with ⟨g1,g2⟩ | ⟨g1,g2⟩ <;> rcases h.next j (by omega) with ⟨k1,k2⟩ | ⟨k1,k2⟩
    ·rw[e1,e2,k2] at g2
     exact ⟨by rw[g1,k1,e1],(Option.some.inj g2).symm⟩
    ·rw[e1,e2,k2] at g2
     exact absurd (Option.some.inj g2) (h.ne (by omega) (by omega))
    ·rw[e1,e2,k2] at g2
     exact absurd (Option.some.inj g2).symm (h.ne (by omega) (by omega))
    ·rw[e1,e2,k2] at g2
     exact ⟨(Option.some.inj g2).symm,by rw[g1,k1,e2]⟩
 intro i j
 exact key _ i j rfl
theorem Dw.prev (h:Dw P ap a b m u w) (ht:Tri P V ap) {i:Nat} (hi:i+1 < m):(u (i+1)=u i/\ap (w (i+1)) (u (i+1))=some (w i))\/(w (i+1)=w i/\ap (w (i+1)) (u (i+1))=some (u i)):=by
 rcases h.next i hi with ⟨g1,g2⟩ | ⟨g1,g2⟩
 ·left
  refine ⟨g1,?_⟩
  rw[g1]
  exact ht.rot2 g2
 ·right
  refine ⟨g1,?_⟩
  rw[g1]
  exact ht.rot _ _ _ g2
end
theorem Yf {i j k l:Int} (q:Quad P V ap i j k l):Dq ap i j k l i l=some k/\Dq ap i j k l l k=some i/\Dq ap i j k l k i=some l/\Dq ap i j k l j k=some l/\Dq ap i j k l k l=some j/\Dq ap i j k l l j=some k:=by
 obtain ⟨n1,n2,n3,n4,n5,n6⟩:=q.ne
 unfold Dq
 refine ⟨?_,?_,?_,?_,?_,?_⟩ <;> grind
theorem Agi {i j k l x y:Int} (h1:¬ (x=i/\y=l)) (h2:¬ (x=l/\y=k)) (h3:¬ (x=k/\y=i)) (h4:¬ (x=j/\y=k)) (h5:¬ (x=k/\y=l)) (h6:¬ (x=l/\y=j)) (h7:¬ (x=i/\y=j)) (h8:¬ (x=j/\y=i)):Dq ap i j k l x y=ap x y:=by
 unfold Dq
 rw[if_neg h1,if_neg h2,if_neg h3,if_neg h4,if_neg h5,if_neg h6,if_neg h7,if_neg h8]
def cutF (i:Nat) (f:Nat->Int) (k:Nat):Int:=if k < i then f k else f (k+1)
def setF (i:Nat) (x:Int) (f:Nat->Int) (k:Nat):Int:=if k=i then x else f k
variable {P:Int->Ac} {V:Int->Prop} {ap:Ap} {a b:Int} {m:Nat} {u w:Nat->Int}
def Axr (a:Int) (u w:Nat->Int) (i:Nat) (l:Int):Prop:=(i=0/\l=a)\/(0 < i/\u i=u (i-1)/\l=w (i-1))\/(0 < i/\w i=w (i-1)/\l=u (i-1))
def Auq (b:Int) (m:Nat) (u w:Nat->Int) (i:Nat) (k:Int):Prop:=(i+1=m/\k=b)\/(i+1 < m/\u (i+1)=u i/\k=w (i+1))\/(i+1 < m/\w (i+1)=w i/\k=u (i+1))
theorem Dw.left (h:Dw P ap a b m u w) (ht:Tri P V ap) {i:Nat} (hi:i < m) {l:Int} (hl:ap (w i) (u i)=some l):Axr a u w i l:=by
 by_cases c:i=0
 ·subst c
  rw[h.first hi] at hl
  exact .inl ⟨rfl,(Option.some.inj hl).symm⟩
 ·obtain ⟨j,rfl⟩:∃ j,i=j+1:=⟨i-1,by omega⟩
  rcases h.prev ht hi with ⟨g1,g2⟩ | ⟨g1,g2⟩ <;> rw[hl] at g2
  ·exact .inr (.inl ⟨by omega,g1,Option.some.inj g2⟩)
  ·exact .inr (.inr ⟨by omega,g1,Option.some.inj g2⟩)
theorem Dw.right (h:Dw P ap a b m u w) {i:Nat} (hi:i < m) {k:Int} (hk:ap (u i) (w i)=some k):Auq b m u w i k:=by
 by_cases c:i+1=m
 ·rw[h.last i c] at hk
  exact .inl ⟨c,(Option.some.inj hk).symm⟩
 ·rcases h.next i (by omega) with ⟨g1,g2⟩ | ⟨g1,g2⟩ <;> rw[hk] at g2
  ·exact .inr (.inl ⟨by omega,g1,Option.some.inj g2⟩)
  ·exact .inr (.inr ⟨by omega,g1,Option.some.inj g2⟩)
section
variable {i:Nat} {k l:Int}
theorem Dw.keepR (h:Dw P ap a b m u w) (hi:i < m) (q:Quad P V ap (u i) (w i) k l) {j:Nat} (hj:j < m) (n1:j≠i) (n2:j+1≠i):Dq ap (u i) (w i) k l (u j) (w j)=ap (u j) (w j):=by
 have hl:=h.left q.tri hi q.hl
 have fr:=q.fresh
 have some_:ap (u j) (w j)≠none:=by
  by_cases c:j+1=m
  ·rw[h.last j c];simp
  ·rcases h.next j (by omega) with ⟨_,g⟩ | ⟨_,g⟩ <;> (rw[g];simp)
 refine Agi (fun e=>?_) (fun e=>?_) (fun e=>?_) (fun e=>?_) (fun e=>?_) (fun e=>?_) (fun e=>?_) (fun e=>?_)
 ·-- (u i,l)
  rcases hl with ⟨g1,g2⟩ | ⟨g1,g2,g3⟩ | ⟨g1,g2,g3⟩
  ·have:=h.lo j hj
   rw[e.2,g2,Agh] at this
   omega
  ·have e1:u j=u (i-1)/\w j=w (i-1):=⟨by rw[e.1,g2],by rw[e.2,g3]⟩
   rcases Nat.lt_trichotomy j (i-1) with c | c | c
   ·exact h.inj j (i-1) c (by omega) e1
   ·omega
   ·exact h.inj (i-1) j c hj ⟨e1.1.symm,e1.2.symm⟩
  ·exact h.ne (i:=i-1) (j:=j) (by omega) hj (by rw[e.2,g3])
 ·rw[e.1,e.2] at some_;exact some_ fr.2
 ·exact h.ne (i:=i) (j:=j) hi hj e.2.symm
 ·exact h.ne (i:=j) (j:=i) hj hi e.1
 ·rw[e.1,e.2] at some_;exact some_ fr.1
 ·-- (l,w i)
  rcases hl with ⟨g1,g2⟩ | ⟨g1,g2,g3⟩ | ⟨g1,g2,g3⟩
  ·have:=h.up j hj
   rw[e.1,g2,Agh] at this
   omega
  ·exact h.ne (i:=j) (j:=i-1) hj (by omega) (by rw[e.1,g3])
  ·have e1:u j=u (i-1)/\w j=w (i-1):=⟨by rw[e.1,g3],by rw[e.2,g2]⟩
   rcases Nat.lt_trichotomy j (i-1) with c | c | c
   ·exact h.inj j (i-1) c (by omega) e1
   ·omega
   ·exact h.inj (i-1) j c hj ⟨e1.1.symm,e1.2.symm⟩
 ·rcases Nat.lt_trichotomy j i with c | c | c
  ·exact h.inj j i c hi e
  ·exact n1 c
  ·exact h.inj i j c hj ⟨e.1.symm,e.2.symm⟩
 ·exact h.ne (i:=j) (j:=i) hj hi e.1
theorem Dw.keepL (h:Dw P ap a b m u w) (hi:i < m) (q:Quad P V ap (u i) (w i) k l) (h0:0 < i):Dq ap (u i) (w i) k l (w 0) (u 0)=some a:=by
 have hk:=h.right hi q.hk
 have fr:=q.fresh
 have hf:=h.first (by omega)
 rw[Agi,hf]
 ·exact fun e=>h.ne (i:=i) (j:=0) hi (by omega) e.1.symm
 ·intro e;rw[e.1,e.2,fr.2] at hf;cases hf
 ·-- (k,u i)
  intro e
  rcases hk with ⟨g1,g2⟩ | ⟨g1,g2,g3⟩ | ⟨g1,g2,g3⟩
  ·have:=h.lo 0 (by omega)
   rw[e.1,g2,Agg] at this
   omega
  ·exact h.inj 0 (i+1) (by omega) g1 ⟨by rw[e.2,g2],by rw[e.1,g3]⟩
  ·exact h.ne (i:=i+1) (j:=0) g1 (by omega) (by rw[e.1,g3])
 ·-- (w i,k)
  intro e
  rcases hk with ⟨g1,g2⟩ | ⟨g1,g2,g3⟩ | ⟨g1,g2,g3⟩
  ·have:=h.up 0 (by omega)
   rw[e.2,g2,Agg] at this
   omega
  ·exact h.ne (i:=0) (j:=i+1) (by omega) g1 (by rw[e.2,g3])
  ·exact h.inj 0 (i+1) (by omega) g1 ⟨by rw[e.2,g3],by rw[e.1,g2]⟩
 ·intro e;rw[e.1,e.2,fr.1] at hf;cases hf
 ·exact fun e=>h.ne (i:=0) (j:=i) (by omega) hi e.2
 ·exact fun e=>h.ne (i:=i) (j:=0) hi (by omega) e.1.symm
 ·exact fun e=>h.inj 0 i h0 hi ⟨e.2,e.1⟩
theorem Dw.cut (h:Dw P ap a b m u w) (hi:i < m) (q:Quad P V ap (u i) (w i) k l) (hc:(i=0\/i+1=m)\/(0 < i/\i+1 < m/\((u i=u (i-1)/\u (i+1)=u i)\/(w i=w (i-1)/\w (i+1)=w i)))) :
  Dw P (Dq ap (u i) (w i) k l) a b (m-1) (cutF i u) (cutF i w):=by
 have hl:=h.left q.tri hi q.hl
 have hk:=h.right hi q.hk
 obtain ⟨v1,v2,v3,v4,v5,v6⟩:=Yf q
 have at_:∀ (f:Nat->Int) t,t < i->cutF i f t=f t:=fun f t ht=>if_pos ht
 have at':∀ (f:Nat->Int) t,¬ t < i->cutF i f t=f (t+1):=fun f t ht=>if_neg ht
 refine ⟨fun t ht=>?_,fun t ht=>?_,fun h0=>?_,fun t ht=>?_,fun t ht=>?_⟩
 ·by_cases c:t < i
  ·rw[at_ _ _ c];exact h.up t (by omega)
  ·rw[at' _ _ c];exact h.up (t+1) (by omega)
 ·by_cases c:t < i
  ·rw[at_ _ _ c];exact h.lo t (by omega)
  ·rw[at' _ _ c];exact h.lo (t+1) (by omega)
 ·by_cases c:i=0
  ·rw[at' _ _ (by omega),at' _ _ (by omega)]
   have ha:l=a:=by
    rcases hl with ⟨_,g⟩ | ⟨g,_⟩ | ⟨g,_⟩
    ·exact g
    ·omega
    ·omega
   subst c
   rcases hk with ⟨g1,g2⟩ | ⟨g1,g2,g3⟩ | ⟨g1,g2,g3⟩
   ·omega
   ·rw[show (0+1:Nat)=1 from rfl] at *
    rw[<- g3,g2,v3,ha]
   ·rw[show (0+1:Nat)=1 from rfl] at *
    rw[<- g3,g2,v4,ha]
  ·rw[at_ _ _ (by omega),at_ _ _ (by omega)]
   exact h.keepL hi q (by omega)
 ·by_cases c:i+1=m
  ·have hb:k=b:=by
    rcases hk with ⟨_,g⟩ | ⟨g,_⟩ | ⟨g,_⟩
    ·exact g
    ·omega
    ·omega
   have ht':t=i-1:=by omega
   rw[at_ _ _ (by omega),at_ _ _ (by omega),ht']
   rcases hl with ⟨g1,g2⟩ | ⟨g1,g2,g3⟩ | ⟨g1,g2,g3⟩
   ·omega
   ·rw[<- g2,<- g3,v1,hb]
   ·rw[<- g3,<- g2,v6,hb]
  ·rw[at' _ _ (by omega),at' _ _ (by omega),h.keepR hi q (by omega) (by omega) (by omega)]
   exact h.last (t+1) (by omega)
 ·by_cases c:t+1 < i
  ·rw[at_ _ _ (show t < i by omega),at_ _ _ (show t < i by omega),at_ _ _ c,at_ _ _ c,h.keepR hi q (by omega) (by omega) (by omega)]
   exact h.next t (by omega)
  ·by_cases c2:t+1=i
   ·have ht':t=i-1:=by omega
    rw[at_ _ _ (show t < i by omega),at_ _ _ (show t < i by omega),at' _ _ (show ¬ t+1 < i by omega),at' _ _ (show ¬ t+1 < i by omega)]
    have e1:t+1+1=i+1:=by omega
    rw[e1,ht']
    rcases hc with (g | g) | ⟨g1,g2,⟨g3,g4⟩ | ⟨g3,g4⟩⟩
    ·omega
    ·omega
    ·left
     have el:l=w (i-1):=by
      rcases hl with ⟨g,_⟩ | ⟨_,_,g⟩ | ⟨_,g,g'⟩
      ·omega
      ·exact g
      ·exact absurd ⟨g3.symm,g.symm⟩ (h.inj (i-1) i (by omega) hi)
     have ek:k=w (i+1):=by
      rcases hk with ⟨g,_⟩ | ⟨_,_,g⟩ | ⟨_,g,g'⟩
      ·omega
      ·exact g
      ·exact absurd ⟨g4.symm,g.symm⟩ (h.inj i (i+1) (by omega) g2)
     exact ⟨by rw[g4,g3],by rw[<- g3,<- el,v1,ek]⟩
    ·right
     have el:l=u (i-1):=by
      rcases hl with ⟨g,_⟩ | ⟨_,g,g'⟩ | ⟨_,_,g⟩
      ·omega
      ·exact absurd ⟨g.symm,g3.symm⟩ (h.inj (i-1) i (by omega) hi)
      ·exact g
     have ek:k=u (i+1):=by
      rcases hk with ⟨g,_⟩ | ⟨_,g,g'⟩ | ⟨_,_,g⟩
      ·omega
      ·exact absurd ⟨g.symm,g4.symm⟩ (h.inj i (i+1) (by omega) g2)
      ·exact g
     exact ⟨by rw[g4,g3],by rw[<- g3,<- el,v6,ek]⟩
   ·rw[at' _ _ (show ¬ t < i by omega),at' _ _ (show ¬ t < i by omega),at' _ _ (show ¬ t+1 < i by omega),at' _ _ (show ¬ t+1 < i by omega),h.keepR hi q (by omega) (by omega) (by omega)]
    exact h.next (t+1) (by omega)
theorem Dw.turnU (h:Dw P ap a b m u w) (hi:i < m) (q:Quad P V ap (u i) (w i) k l) (h0:0 < i) (h1:i+1 < m) (hu:u i=u (i-1)) (hw:w (i+1)=w i) :
  k=u (i+1)/\l=w (i-1)/\Dw P (Dq ap (u i) (w i) k l) a b m (setF i k u) (setF i l w):=by
 have hl:=h.left q.tri hi q.hl
 have hk:=h.right hi q.hk
 obtain ⟨v1,v2,v3,v4,v5,v6⟩:=Yf q
 have el:l=w (i-1):=by
  rcases hl with ⟨g,_⟩ | ⟨_,_,g⟩ | ⟨_,g,g'⟩
  ·omega
  ·exact g
  ·exact absurd ⟨hu.symm,g.symm⟩ (h.inj (i-1) i (by omega) hi)
 have ek:k=u (i+1):=by
  rcases hk with ⟨g,_⟩ | ⟨_,g,g'⟩ | ⟨_,_,g⟩
  ·omega
  ·exact absurd ⟨g.symm,hw.symm⟩ (h.inj i (i+1) (by omega) h1)
  ·exact g
 have at_:∀ (x:Int) (f:Nat->Int) t,t≠i->setF i x f t=f t:=fun x f t ht=>if_neg ht
 have at':∀ (x:Int) (f:Nat->Int),setF i x f i=x:=fun x f=>if_pos rfl
 refine ⟨ek,el,fun t ht=>?_,fun t ht=>?_,fun _=>?_,fun t ht=>?_,fun t ht=>?_⟩
 ·by_cases c:t=i
  ·rw[c,at',ek];exact h.up (i+1) h1
  ·rw[at_ _ _ _ c];exact h.up t ht
 ·by_cases c:t=i
  ·rw[c,at',el];exact h.lo (i-1) (by omega)
  ·rw[at_ _ _ _ c];exact h.lo t ht
 ·rw[at_ _ _ _ (by omega),at_ _ _ _ (by omega)]
  exact h.keepL hi q h0
 ·rw[at_ _ _ _ (by omega),at_ _ _ _ (by omega),h.keepR hi q (by omega) (by omega) (by omega)]
  exact h.last t ht
 ·by_cases c:t=i
  ·left
   rw[c,at',at',at_ _ _ _ (by omega),at_ _ _ _ (by omega),v5,hw]
   exact ⟨ek.symm,rfl⟩
  ·by_cases c2:t+1=i
   ·right
    have ht':t=i-1:=by omega
    rw[c2,at',at',at_ _ _ _ c,at_ _ _ _ c,ht',<- hu,<- el,v1]
    exact ⟨rfl,rfl⟩
   ·rw[at_ _ _ _ c,at_ _ _ _ c,at_ _ _ _ c2,at_ _ _ _ c2,h.keepR hi q (by omega) c c2]
    exact h.next t ht
theorem Dw.turnL (h:Dw P ap a b m u w) (hi:i < m) (q:Quad P V ap (u i) (w i) k l) (h0:0 < i) (h1:i+1 < m) (hw:w i=w (i-1)) (hu:u (i+1)=u i) :
  k=w (i+1)/\l=u (i-1)/\Dw P (Dq ap (u i) (w i) k l) a b m (setF i l u) (setF i k w):=by
 have hl:=h.left q.tri hi q.hl
 have hk:=h.right hi q.hk
 obtain ⟨v1,v2,v3,v4,v5,v6⟩:=Yf q
 have el:l=u (i-1):=by
  rcases hl with ⟨g,_⟩ | ⟨_,g,g'⟩ | ⟨_,_,g⟩
  ·omega
  ·exact absurd ⟨g.symm,hw.symm⟩ (h.inj (i-1) i (by omega) hi)
  ·exact g
 have ek:k=w (i+1):=by
  rcases hk with ⟨g,_⟩ | ⟨_,_,g⟩ | ⟨_,g,g'⟩
  ·omega
  ·exact g
  ·exact absurd ⟨hu.symm,g.symm⟩ (h.inj i (i+1) (by omega) h1)
 have at_:∀ (x:Int) (f:Nat->Int) t,t≠i->setF i x f t=f t:=fun x f t ht=>if_neg ht
 have at':∀ (x:Int) (f:Nat->Int),setF i x f i=x:=fun x f=>if_pos rfl
 refine ⟨ek,el,fun t ht=>?_,fun t ht=>?_,fun _=>?_,fun t ht=>?_,fun t ht=>?_⟩
 ·by_cases c:t=i
  ·rw[c,at',el];exact h.up (i-1) (by omega)
  ·rw[at_ _ _ _ c];exact h.up t ht
 ·by_cases c:t=i
  ·rw[c,at',ek];exact h.lo (i+1) h1
  ·rw[at_ _ _ _ c];exact h.lo t ht
 ·rw[at_ _ _ _ (by omega),at_ _ _ _ (by omega)]
  exact h.keepL hi q h0
 ·rw[at_ _ _ _ (by omega),at_ _ _ _ (by omega),h.keepR hi q (by omega) (by omega) (by omega)]
  exact h.last t ht
 ·by_cases c:t=i
  ·right
   rw[c,at',at',at_ _ _ _ (by omega),at_ _ _ _ (by omega),v2,hu]
   exact ⟨ek.symm,rfl⟩
  ·by_cases c2:t+1=i
   ·left
    have ht':t=i-1:=by omega
    rw[c2,at',at',at_ _ _ _ c,at_ _ _ _ c,ht',<- hw,<- el,v6]
    exact ⟨rfl,rfl⟩
   ·rw[at_ _ _ _ c,at_ _ _ _ c,at_ _ _ _ c2,at_ _ _ _ c2,h.keepR hi q (by omega) c c2]
    exact h.next t ht
end
theorem Ajc {A B s p q r:Ac} (h1:0 < crs s p q) (h2:0 < crs s q r) (hp:crs A B s<=crs A B p) (hq:crs A B s < crs A B q) (hr:crs A B s < crs A B r):0 < crs s p r:=by
 have h:=Ahk A B s p q r
 rw[Bd s p r] at h
 have m1:=Int.mul_nonneg (show 0<=crs A B p-crs A B s by omega) (Int.le_of_lt h2)
 have m2:=Int.mul_pos (show 0 < crs A B r-crs A B s by omega) h1
 have m3:(crs A B q-crs A B s) * -crs s p r = -((crs A B q-crs A B s)*crs s p r):=Int.mul_neg _ _
 exact Ce (x:=crs A B q-crs A B s) (by omega) (by omega)
theorem Ao4 {A B s p q r:Ac} (h1:0 < crs s p q) (h2:0 < crs s q r) (hp:crs A B p<=crs A B s) (hq:crs A B q < crs A B s) (hr:crs A B r < crs A B s):0 < crs s p r:=by
 have h:=Ahk A B s p q r
 rw[Bd s p r] at h
 have m1:=Int.mul_nonneg (show 0<=crs A B s-crs A B p by omega) (Int.le_of_lt h2)
 have m2:=Int.mul_pos (show 0 < crs A B s-crs A B r by omega) h1
 have m3:(crs A B q-crs A B s) * -crs s p r=(crs A B s-crs A B q)*crs s p r:=by grind
 have m4:(crs A B p-crs A B s)*crs s q r = -((crs A B s-crs A B p)*crs s q r):=by grind
 have m5:(crs A B r-crs A B s)*crs s p q = -((crs A B s-crs A B r)*crs s p q):=by grind
 exact Ce (x:=crs A B s-crs A B q) (by omega) (by omega)
theorem Am4 {A B u w k l:Ac} (hu:0 < crs A B u) (hk0:crs A B k<=0) (hl0:crs A B l<=0) (hw:crs A B w < 0) (t1:0 < crs u w k) (t2:0 < crs w u l) (hl:crs A B w < crs A B l) (hk:crs A B w<=crs A B k) :
  0 < crs k u l/\0 < crs l w k:=by
 constructor
 ·have:=Ad3 (A:=A) (B:=B) (s:=u) (p:=l) (q:=w) (r:=k) (by rw[An];exact t2) t1 (by omega) (by omega) (by omega)
  rw[<- An] at this
  rw[<- An] at this
  exact this
 ·have:=Ajc (A:=A) (B:=B) (s:=w) (p:=k) (q:=u) (r:=l) (by rw[<- An];rw[<- An];exact t1) t2 hk (by omega) hl
  rw[<- An] at this
  rw[<- An] at this
  exact this
theorem Aq7 {A B u u' w k:Ac} (hu:0 < crs A B u) (hu':0 < crs A B u') (hk0:crs A B k<=0) (hw:crs A B w < 0) (t1:0 < crs u w k) (t2:0 < crs w u u') (hk:crs A B w<=crs A B k) :
  0 < crs u' w k/\(crs k u u'<=0->crs A B u < crs A B u'):=by
 constructor
 ·have:=Ajc (A:=A) (B:=B) (s:=w) (p:=k) (q:=u) (r:=u') (by rw[<- An];rw[<- An];exact t1) t2 hk (by omega) (by omega)
  rw[<- An] at this
  rw[<- An] at this
  exact this
 ·intro h
  refine Classical.byContradiction fun g=>?_
  have:=Ao4 (A:=A) (B:=B) (s:=u) (p:=u') (q:=w) (r:=k) (by rw[An];exact t2) t1 (by omega) (by omega) (by omega)
  rw[<- An] at this
  rw[<- An] at this
  omega
def ups (u:Nat->Int):Nat->Nat
 | 0=>0
 | i+1=>ups u i+(if u (i+1)=u i then 0 else 1)
theorem Gu (u:Nat->Int) (i:Nat):ups u (i+1)=ups u i+(if u (i+1)=u i then 0 else 1):=rfl
theorem Ex (m:Nat) (u:Nat->Int):Path m (ups u):=⟨rfl,fun i _=>by simp only[ups];split <;> omega⟩
theorem Aq8 {u u':Nat->Int}:∀ i,(∀ k,k<=i->u' k=u k)->ups u' i=ups u i:=by
 intro i
 induction i with
 | zero=>intro _;rfl
 | succ i ih=>
  intro h
  simp only[ups]
  rw[ih fun k hk=>h k (by omega),h (i+1) (Nat.le_refl _),h i (by omega)]
theorem Yg {u:Nat->Int} {i:Nat} {x:Int} (h0:0 < i):∀ k,k < i->ups (setF i x u) k=ups u k:=fun k hk=>Aq8 k fun t ht=>if_neg (by omega)
variable {P:Int->Ac} {V:Int->Prop} {ap:Ap} {a b:Int} {m:Nat} {u w:Nat->Int}
theorem Axs (h:Dw P ap a b m u w) {i:Nat} (h0:0 < i) (h1:i+1 < m) (hu:u i=u (i-1)) (hw:w (i+1)=w i):Move m (ups u) (ups (setF i (u (i+1)) u)) i:=by
 obtain ⟨n,rfl⟩:∃ n,i=n+1:=⟨i-1,by omega⟩
 have hne:u (n+1+1)≠u (n+1):=fun e=>h.inj (n+1) (n+1+1) (by omega) h1 ⟨e.symm,hw.symm⟩
 rw[show n+1-1=n from rfl] at hu
 have s1:setF (n+1) (u (n+1+1)) u (n+1)=u (n+1+1):=if_pos rfl
 have s0:setF (n+1) (u (n+1+1)) u n=u n:=if_neg (by omega)
 have s2:setF (n+1) (u (n+1+1)) u (n+1+1)=u (n+1+1):=if_neg (by omega)
 have e0:ups (setF (n+1) (u (n+1+1)) u) n=ups u n:=Yg (by omega) n (by omega)
 have e1:ups u (n+1)=ups u n:=by simp only[ups];rw[if_pos hu];rfl
 have e1':ups (setF (n+1) (u (n+1+1)) u) (n+1)=ups u n+1:=by simp only[ups];rw[s1,s0,if_neg (by rw[<- hu];exact hne),e0]
 have e2:ups u (n+1+1)=ups u n+1:=by rw[<- e1];show ups u (n+1)+_=_;rw[if_neg hne]
 have e2':ups (setF (n+1) (u (n+1+1)) u) (n+1+1)=ups u n+1:=by show ups _ (n+1)+_=_;rw[s1,s2,if_pos rfl,e1']
 refine ⟨fun k hk=>?_,.inr (.inl ⟨by omega,h1,?_,?_,?_⟩)⟩
 ·by_cases c:k < n+1
  ·exact Yg (by omega) k c
  ·-- behind it all is as before
   have key:∀ d,ups (setF (n+1) (u (n+1+1)) u) (n+1+1+d)=ups u (n+1+1+d):=by
    intro d
    induction d with
    | zero=>rw[Nat.add_zero,e2,e2']
    | succ d ih=>
     rw[show n+1+1+(d+1)=n+1+1+d+1 from rfl,Gu,Gu,ih,show setF (n+1) (u (n+1+1)) u (n+1+1+d+1)=u (n+1+1+d+1) from if_neg (by omega),show setF (n+1) (u (n+1+1)) u (n+1+1+d)=u (n+1+1+d) from if_neg (by omega)]
   have:=key (k-(n+1+1))
   rwa [show n+1+1+(k-(n+1+1))=k by omega] at this
 ·rw[show n+1-1=n from rfl,e1]
 ·rw[e2,e1]
 ·rw[e1',e1]
theorem Axt (h:Dw P ap a b m u w) {i:Nat} (h0:0 < i) (h1:i+1 < m) (hw:w i=w (i-1)) (hu:u (i+1)=u i):Move m (ups u) (ups (setF i (u (i-1)) u)) i:=by
 obtain ⟨n,rfl⟩:∃ n,i=n+1:=⟨i-1,by omega⟩
 rw[show n+1-1=n from rfl] at *
 have hne:u (n+1)≠u n:=fun e=>h.inj n (n+1) (by omega) (by omega) ⟨e.symm,hw.symm⟩
 have s1:setF (n+1) (u n) u (n+1)=u n:=if_pos rfl
 have s0:setF (n+1) (u n) u n=u n:=if_neg (by omega)
 have s2:setF (n+1) (u n) u (n+1+1)=u (n+1+1):=if_neg (by omega)
 have e0:ups (setF (n+1) (u n) u) n=ups u n:=Yg (by omega) n (by omega)
 have e1:ups u (n+1)=ups u n+1:=by simp only[ups];rw[if_neg hne]
 have e1':ups (setF (n+1) (u n) u) (n+1)=ups u n:=by simp only[ups];rw[s1,s0,if_pos rfl,e0];rfl
 have e2:ups u (n+1+1)=ups u n+1:=by show ups u (n+1)+_=_;rw[if_pos hu,e1]
 have e2':ups (setF (n+1) (u n) u) (n+1+1)=ups u n+1:=by show ups _ (n+1)+_=_;rw[s1,s2,if_neg (by rw[hu];exact hne),e1']
 refine ⟨fun k hk=>?_,.inr (.inr ⟨by omega,h1,?_,?_,?_⟩)⟩
 ·by_cases c:k < n+1
  ·exact Yg (by omega) k c
  ·have key:∀ d,ups (setF (n+1) (u n) u) (n+1+1+d)=ups u (n+1+1+d):=by
    intro d
    induction d with
    | zero=>rw[Nat.add_zero,e2,e2']
    | succ d ih=>
     rw[show n+1+1+(d+1)=n+1+1+d+1 from rfl,Gu,Gu,ih,show setF (n+1) (u n) u (n+1+1+d+1)=u (n+1+1+d+1) from if_neg (by omega),show setF (n+1) (u n) u (n+1+1+d)=u (n+1+1+d) from if_neg (by omega)]
   have:=key (k-(n+1+1))
   rwa [show n+1+1+(k-(n+1+1))=k by omega] at this
 ·rw[show n+1-1=n from rfl,e1]
 ·rw[e2,e1]
 ·rw[e1',e1]
def Uf (m:Nat) (u w:Nat->Int) (U W:Nat->Int):Prop:=∀ i,i < m->u i=U (ups u i)/\w i=W (cop (ups u) i)
theorem Dw.chains (h:Dw P ap a b m u w):∃ U W,Uf m u w U W:=by
 have exU:∀ x,∃ y:Int,∀ i,i < m->ups u i=x->u i=y:=fun x=>by
  by_cases c:∃ i,i < m/\ups u i=x
  ·obtain ⟨i0,h1,h2⟩:=c
   refine ⟨u i0,fun i hi hx=>?_⟩
   have key:∀ d i j,j=i+d->j < m->ups u i=ups u j->u i=u j:=by
    intro d
    induction d with
    | zero=>intro i j e _ _;rw[e,Nat.add_zero]
    | succ d ih=>
     intro i j e hj he
     have m1:=(Ex m u).mono i (i+d) (by omega) (by omega)
     have m2:=(Ex m u).mono (i+d) j (by omega) hj
     have e3:=ih i (i+d) rfl (by omega) (by omega)
     rw[e3]
     have e4:ups u (i+d+1)=ups u (i+d):=by rw[show i+d+1=j by omega];omega
     simp only[ups] at e4
     rw[e]
     by_cases g:u (i+d+1)=u (i+d)
     ·exact g.symm
     ·rw[if_neg g] at e4;omega
   rcases Nat.le_total i i0 with g | g
   ·exact key (i0-i) i i0 (by omega) h1 (by omega)
   ·exact (key (i-i0) i0 i (by omega) hi (by omega)).symm
  ·exact ⟨0,fun i hi hx=>absurd ⟨i,hi,hx⟩ c⟩
 have exW:∀ x,∃ y:Int,∀ i,i < m->cop (ups u) i=x->w i=y:=fun x=>by
  by_cases c:∃ i,i < m/\cop (ups u) i=x
  ·obtain ⟨i0,h1,h2⟩:=c
   refine ⟨w i0,fun i hi hx=>?_⟩
   have key:∀ d i j,j=i+d->j < m->cop (ups u) i=cop (ups u) j->w i=w j:=by
    intro d
    induction d with
    | zero=>intro i j e _ _;rw[e,Nat.add_zero]
    | succ d ih=>
     intro i j e hj he
     have m1:=(Ex m u).other.mono i (i+d) (by omega) (by omega)
     have m2:=(Ex m u).other.mono (i+d) j (by omega) hj
     have e3:=ih i (i+d) rfl (by omega) (by omega)
     rw[e3,e]
     have e4:cop (ups u) (i+d+1)=cop (ups u) (i+d):=by rw[show i+d+1=j by omega];omega
     have l1:=(Ex m u).le (i+d) (by omega)
     have e5:ups u (i+d+1)=ups u (i+d)+1:=by
      have:=(Ex m u).step (i+d) (by omega)
      unfold cop at e4
      omega
     have hne:u (i+d+1)≠u (i+d):=fun g=>by simp only[ups] at e5;rw[if_pos g] at e5;omega
     rcases h.next (i+d) (by omega) with g | g
     ·exact absurd g.1 hne
     ·exact g.1.symm
   rcases Nat.le_total i i0 with g | g
   ·exact key (i0-i) i i0 (by omega) h1 (by omega)
   ·exact (key (i-i0) i0 i (by omega) hi (by omega)).symm
  ·exact ⟨0,fun i hi hx=>absurd ⟨i,hi,hx⟩ c⟩
 refine ⟨fun x=>Classical.choose (exU x),fun x=>Classical.choose (exW x),fun i hi=>⟨?_,?_⟩⟩
 ·exact Classical.choose_spec (exU (ups u i)) i hi rfl
 ·exact Classical.choose_spec (exW (cop (ups u) i)) i hi rfl
def Peak (H:Nat->Int) (n x:Nat):Prop:=x<=n/\(0 < x->H (x-1) < H x)/\(x < n->H (x+1)<=H x)
theorem Axu (H : Nat -> Int) : ∀ n, ∃ x, x <= n /\ (∀ y, y < x -> H y < H x) /\ ∀ y, y <= n -> H y <= H x := by
  intro n
  induction n with
  | zero => exact ⟨0, Nat.le_refl _, fun y hy => by omega, fun y hy => by have : y = 0 := by omega
                                                                          rw[this]; exact Int.le_refl _⟩
  | succ n ih=>
    obtain ⟨x, h1, h2, h3⟩ := ih
    by_cases c : H (n + 1) <= H x
    · refine ⟨x, by omega, h2, fun y hy => ?_⟩
      by_cases e : y = n + 1
      · rw[e]; exact c
      · exact h3 y (by omega)
    · refine ⟨n + 1, Nat.le_refl _, fun y hy => ?_, fun y hy => ?_⟩
      · have := h3 y (by omega); omega
      · by_cases e : y = n + 1
        · rw[e]; exact Int.le_refl _
        · have := h3 y (by omega); omega
theorem Ala (H:Nat->Int) (n N:Nat) (hn:n<=N) (h:n < N->H (n+1)<=H n):∃ x,x<=n/\Peak H N x:=by
 obtain ⟨x,h1,h2,h3⟩:=Axu H n
 refine ⟨x,h1,by omega,fun hx=>h2 _ (by omega),fun hx=>?_⟩
 by_cases e:x=n
 ·rw[e] at hx ⊢;exact h hx
 ·exact h3 _ (by omega)
variable {P:Int->Ac} {V:Int->Prop} {ap ap':Ap} {a b:Int} {m:Nat} {u w u' w':Nat->Int} {U W:Nat->Int}
theorem Dw.someR (h:Dw P ap a b m u w) {i:Nat} (hi:i < m):∃ k,ap (u i) (w i)=some k:=by
 by_cases c:i+1=m
 ·exact ⟨_,h.last i c⟩
 ·rcases h.next i (by omega) with ⟨_,g⟩ | ⟨_,g⟩ <;> exact ⟨_,g⟩
theorem Dw.someL (h:Dw P ap a b m u w) (ht:Tri P V ap) {i:Nat} (hi:i < m):∃ l,ap (w i) (u i)=some l:=by
 by_cases c:i=0
 ·subst c;exact ⟨_,h.first hi⟩
 ·obtain ⟨j,rfl⟩:∃ j,i=j+1:=⟨i-1,by omega⟩
  rcases h.prev ht hi with ⟨_,g⟩ | ⟨_,g⟩ <;> exact ⟨_,g⟩
def Vr (P:Int->Ac) (ap:Ap) (u w:Nat->Int) (i:Nat):Prop :=
 ∀ k l,ap (u i) (w i)=some k->ap (w i) (u i)=some l->¬ (0 < crs (P (u i)) (P l) (P k)/\0 < crs (P (w i)) (P k) (P l))
def Aax (P:Int->Ac) (V:Int->Prop) (m:Nat) (ap:Ap) (u w:Nat->Int) (i:Nat) (ap':Ap) (u' w':Nat->Int):Prop :=
 ∃ k l,Quad P V ap (u i) (w i) k l/\ap'=Dq ap (u i) (w i) k l/\0 < i/\i+1 < m /\
  ((u i=u (i-1)/\w (i+1)=w i/\u'=setF i k u/\w'=setF i l w)\/(w i=w (i-1)/\u (i+1)=u i/\u'=setF i l u/\w'=setF i k w))
theorem Uf.move (hp:Path m (ups u)) (hp':Path m (ups u')) (h:Uf m u w U W) {i:Nat} (hmv:Move m (ups u) (ups u') i)
  (hu:∀ k,k≠i->u' k=u k) (hw:∀ k,k≠i->w' k=w k) (hi:i < m->u' i=U (ups u' i)/\w' i=W (cop (ups u') i)):Uf m u' w' U W:=fun k hk=>by
 by_cases c:k=i
 ·rw[c];exact hi (by omega)
 ·rw[hu k c,hw k c,hmv.1 k c]
  unfold cop
  rw[hmv.1 k c]
  exact h k hk
theorem Aax.keeps (ht:Tri P V ap) (hs:Dw P ap a b m u w) (hc:Uf m u w U W) {i:Nat} (h:Aax P V m ap u w i ap' u' w') :
  Tri P V ap'/\Dw P ap' a b m u' w'/\Uf m u' w' U W/\Move m (ups u) (ups u') i/\ups u' i≠ups u i:=by
 obtain ⟨k,l,q,rfl,h0,h1,⟨g1,g2,rfl,rfl⟩ | ⟨g1,g2,rfl,rfl⟩⟩:=h
 ·obtain ⟨ek,el,hs'⟩:=hs.turnU (by omega) q h0 h1 g1 g2
  subst ek el
  have mv:=Axs hs h0 h1 g1 g2
  have ne:u (i+1)≠u i:=fun e=>hs.inj i (i+1) (by omega) h1 ⟨e.symm,g2.symm⟩
  have e1:ups u (i+1)=ups u i+1:=by rw[Gu,if_neg ne]
  have e0:ups u i=ups u (i-1):=by
   obtain ⟨n,rfl⟩:∃ n,i=n+1:=⟨i-1,by omega⟩
   rw[show n+1-1=n from rfl] at g1 ⊢
   rw[Gu,if_pos g1];rfl
  have e2:ups (setF i (u (i+1)) u) i=ups u i+1:=by
   obtain ⟨n,rfl⟩:∃ n,i=n+1:=⟨i-1,by omega⟩
   rw[show n+1-1=n from rfl] at *
   rw[Gu,Yg (by omega) n (by omega),show setF (n+1) (u (n+1+1)) u (n+1)=u (n+1+1) from if_pos rfl,show setF (n+1) (u (n+1+1)) u n=u n from if_neg (by omega),if_neg (by rw[<- g1];exact ne),e0]
  refine ⟨q.flip,hs',Uf.move (Ex m _) (Ex m _) hc mv (fun k hk=>if_neg hk) (fun k hk=>if_neg hk) (fun hi=>⟨?_,?_⟩),mv,by omega⟩
  ·rw[e2,<- e1,<- (hc (i+1) h1).1];exact if_pos rfl
  ·have:cop (ups (setF i (u (i+1)) u)) i=cop (ups u) (i-1):=by unfold cop;rw[e2,<- e0];omega
   rw[this,<- (hc (i-1) (by omega)).2];exact if_pos rfl
 ·obtain ⟨ek,el,hs'⟩:=hs.turnL (by omega) q h0 h1 g1 g2
  subst ek el
  have mv:=Axt hs h0 h1 g1 g2
  have ne:u i≠u (i-1):=fun e=>hs.inj (i-1) i (by omega) (by omega) ⟨e.symm,g1.symm⟩
  have e1:ups u (i+1)=ups u i:=by rw[Gu,if_pos g2];rfl
  have e0:ups u i=ups u (i-1)+1:=by
   obtain ⟨n,rfl⟩:∃ n,i=n+1:=⟨i-1,by omega⟩
   rw[show n+1-1=n from rfl] at ne ⊢
   rw[Gu,if_neg ne]
  have e2:ups (setF i (u (i-1)) u) i=ups u (i-1):=by
   obtain ⟨n,rfl⟩:∃ n,i=n+1:=⟨i-1,by omega⟩
   rw[show n+1-1=n from rfl] at *
   rw[Gu,Yg (by omega) n (by omega),show setF (n+1) (u n) u (n+1)=u n from if_pos rfl,show setF (n+1) (u n) u n=u n from if_neg (by omega),if_pos rfl]
   rfl
  have hle:=(Ex m u).le i (by omega)
  refine ⟨q.flip,hs',Uf.move (Ex m _) (Ex m _) hc mv (fun k hk=>if_neg hk) (fun k hk=>if_neg hk) (fun hi=>⟨?_,?_⟩),mv,by omega⟩
  ·rw[e2,<- (hc (i-1) (by omega)).1];exact if_pos rfl
  ·have:cop (ups (setF i (u (i-1)) u)) i=cop (ups u) (i+1):=by unfold cop;rw[e2,e1];omega
   rw[this,<- (hc (i+1) h1).2];exact if_pos rfl
def hU (P:Int->Ac) (a b:Int) (U:Nat->Int) (x:Nat):Int:=crs (P a) (P b) (P (U x))
def hL (P:Int->Ac) (a b:Int) (W:Nat->Int) (x:Nat):Int:=-crs (P a) (P b) (P (W x))
section
variable (ht:Tri P V ap) (hs:Dw P ap a b m u w) (hc:Uf m u w U W) {X Y:Nat} (hX:X=ups u (m-1)) (hY:Y=cop (ups u) (m-1))
include ht hs hc hX hY
theorem Aq9 {i x:Nat} (hx:Peak (hU P a b U) X x) (hl:Last m (ups u) x i) (hst:Vr P ap u w i):∃ y,Peak (hL P a b W) Y y/\y < cop (ups u) i:=by
 obtain ⟨him,hix,hlast⟩:=hl
 obtain ⟨k,hk⟩:=hs.someR him
 obtain ⟨l,hl⟩:=hs.someL ht him
 have hu0:=hs.up i him
 have hw0:=hs.lo i him
 have t1:=(ht.ccw _ _ _ hk).2.2.2
 have t2:=(ht.ccw _ _ _ hl).2.2.2
 have ui:=(hc i him).1
 rw[hix] at ui
 have hno:=hst k l hk hl
 have hkk:0<=crs (P a) (P b) (P k)/\crs (P a) (P b) (P k)<=crs (P a) (P b) (P (u i)):=by
  rcases hs.right him hk with ⟨_,g⟩ | ⟨g1,g2,_⟩ | ⟨g1,g2,g3⟩
  ·rw[g,Agg];omega
  ·exact absurd (by rw[Gu,if_pos g2,hix];rfl) (hlast (i+1) (by omega) g1)
  ·have ne:u (i+1)≠u i:=fun e=>hs.inj i (i+1) (by omega) g1 ⟨e.symm,g2.symm⟩
   have e1:ups u (i+1)=x+1:=by rw[Gu,if_neg ne,hix]
   have m1:=(Ex m u).mono (i+1) (m-1) (by omega) (by omega)
   have:=hx.2.2 (by omega)
   unfold hU at this
   rw[<- e1,<- (hc (i+1) g1).1,<- ui,<- g3] at this
   exact ⟨by rw[g3];exact Int.le_of_lt (hs.up _ g1),this⟩
 have done:0 < crs (P k) (P (u i)) (P l)/\0 < crs (P l) (P (w i)) (P k)->False:=fun g=>hno ⟨by rw[An];exact g.1,by rw[An];exact g.2⟩
 rcases hs.left ht him hl with ⟨g1,g2⟩ | ⟨g1,g2,g3⟩ | ⟨g1,g2,g3⟩
 ·exact absurd (Am3 hw0 hkk.1 (by rw[g2,Agh];exact Int.le_refl _) hu0 t1 t2 (by rw[g2,Agh];exact hu0) hkk.2) done
 ·obtain ⟨n,rfl⟩:∃ n,i=n+1:=⟨i-1,by omega⟩
  rw[show n+1-1=n from rfl] at *
  have hwl:=hs.lo n (by omega)
  rw[<- g3] at hwl
  have tm:=Aq6 (A:=P a) (B:=P b) hw0 hwl hkk.1 hu0 t1 (by rw[An];exact t2) hkk.2
  have hdeep:=tm.2 (by
   refine Classical.byContradiction fun c=>done ⟨tm.1,by omega⟩)
  have e1:ups u (n+1)=ups u n:=by rw[Gu,if_pos g2];rfl
  have l0:=(Ex m u).le n (by omega)
  have e2:cop (ups u) (n+1)=cop (ups u) n+1:=by unfold cop;omega
  have m1:=(Ex m u).other.mono (n+1) (m-1) (by omega) (by omega)
  obtain ⟨y,hy1,hy2⟩:=Ala (hL P a b W) (cop (ups u) n) Y (by omega) (fun _=>by
   unfold hL
   rw[<- e2,<- (hc (n+1) him).2,<- (hc n (by omega)).2,<- g3]
   omega)
  exact ⟨y,hy2,by omega⟩
 ·obtain ⟨n,rfl⟩:∃ n,i=n+1:=⟨i-1,by omega⟩
  rw[show n+1-1=n from rfl] at *
  have ne:u (n+1)≠u n:=fun e=>hs.inj n (n+1) (by omega) him ⟨e.symm,g2.symm⟩
  have e1:ups u (n+1)=ups u n+1:=by rw[Gu,if_neg ne]
  have:=hx.2.1 (by omega)
  unfold hU at this
  rw[show x-1=ups u n by omega,<- (hc n (by omega)).1,<- ui,<- g3] at this
  exact absurd (Am3 hw0 hkk.1 (by rw[g3];exact Int.le_of_lt (hs.up n (by omega))) hu0 t1 t2 this hkk.2) done
theorem Ara {i y:Nat} (hy:Peak (hL P a b W) Y y) (hl:Last m (cop (ups u)) y i) (hst:Vr P ap u w i):∃ x,Peak (hU P a b U) X x/\x < ups u i:=by
 obtain ⟨him,hix,hlast⟩:=hl
 obtain ⟨k,hk⟩:=hs.someR him
 obtain ⟨l,hl⟩:=hs.someL ht him
 have hu0:=hs.up i him
 have hw0:=hs.lo i him
 have t1:=(ht.ccw _ _ _ hk).2.2.2
 have t2:=(ht.ccw _ _ _ hl).2.2.2
 have wi:=(hc i him).2
 rw[hix] at wi
 have hno:=hst k l hk hl
 have li:=(Ex m u).le i him
 have hkk:crs (P a) (P b) (P k)<=0/\crs (P a) (P b) (P (w i))<=crs (P a) (P b) (P k):=by
  rcases hs.right him hk with ⟨_,g⟩ | ⟨g1,g2,g3⟩ | ⟨g1,g2,g3⟩
  ·rw[g,Agg];omega
  ·have e1:ups u (i+1)=ups u i:=by rw[Gu,if_pos g2];rfl
   have e2:cop (ups u) (i+1)=y+1:=by rw[<- hix];unfold cop;omega
   have m1:=(Ex m u).other.mono (i+1) (m-1) (by omega) (by omega)
   have:=hy.2.2 (by omega)
   unfold hL at this
   rw[<- e2,<- (hc (i+1) g1).2,<- wi,<- g3] at this
   exact ⟨by rw[g3];exact Int.le_of_lt (hs.lo _ g1),by omega⟩
  ·have ne:u (i+1)≠u i:=fun e=>hs.inj i (i+1) (by omega) g1 ⟨e.symm,g2.symm⟩
   have e1:ups u (i+1)=ups u i+1:=by rw[Gu,if_neg ne]
   exact absurd (by rw[<- hix];unfold cop;omega) (hlast (i+1) (by omega) g1)
 have done:0 < crs (P k) (P (u i)) (P l)/\0 < crs (P l) (P (w i)) (P k)->False:=fun g=>hno ⟨by rw[An];exact g.1,by rw[An];exact g.2⟩
 rcases hs.left ht him hl with ⟨g1,g2⟩ | ⟨g1,g2,g3⟩ | ⟨g1,g2,g3⟩
 ·exact absurd (Am4 hu0 hkk.1 (by rw[g2,Agh];exact Int.le_refl _) hw0 t1 t2 (by rw[g2,Agh];exact hw0) hkk.2) done
 ·obtain ⟨n,rfl⟩:∃ n,i=n+1:=⟨i-1,by omega⟩
  rw[show n+1-1=n from rfl] at *
  have e1:ups u (n+1)=ups u n:=by rw[Gu,if_pos g2];rfl
  have l0:=(Ex m u).le n (by omega)
  have e2:cop (ups u) (n+1)=cop (ups u) n+1:=by unfold cop;omega
  have:=hy.2.1 (by omega)
  unfold hL at this
  rw[show y-1=cop (ups u) n by omega,<- (hc n (by omega)).2,<- wi,<- g3] at this
  exact absurd (Am4 hu0 hkk.1 (by rw[g3];exact Int.le_of_lt (hs.lo n (by omega))) hw0 t1 t2 (by omega) hkk.2) done
 ·obtain ⟨n,rfl⟩:∃ n,i=n+1:=⟨i-1,by omega⟩
  rw[show n+1-1=n from rfl] at *
  have ne:u (n+1)≠u n:=fun e=>hs.inj n (n+1) (by omega) him ⟨e.symm,g2.symm⟩
  have e1:ups u (n+1)=ups u n+1:=by rw[Gu,if_neg ne]
  have hul:=hs.up n (by omega)
  rw[<- g3] at hul
  have tm:=Aq7 (A:=P a) (B:=P b) hu0 hul hkk.1 hw0 t1 t2 hkk.2
  have hdeep:=tm.2 (by
   refine Classical.byContradiction fun c=>done ⟨by omega,tm.1⟩)
  have m1:=(Ex m u).mono (n+1) (m-1) (by omega) (by omega)
  obtain ⟨x,hx1,hx2⟩:=Ala (hU P a b U) (ups u n) X (by omega) (fun _=>by
   unfold hU
   rw[<- e1,<- (hc (n+1) him).1,<- (hc n (by omega)).1,<- g3]
   omega)
  exact ⟨x,hx2,by omega⟩
end
theorem Path.meets {j:Nat->Nat} (h:Path m j):∀ n,n < m->∀ x,x<=j n->∃ i,i<=n/\j i=x:=by
 intro n
 induction n with
 | zero=>intro _ x hx;exact ⟨0,Nat.le_refl _,by have:=h.start;omega⟩
 | succ n ih=>
  intro hn x hx
  by_cases c:x<=j n
  ·obtain ⟨i,h1,h2⟩:=ih (by omega) x c
   exact ⟨i,by omega,h2⟩
  ·have:=h.step n hn
   exact ⟨n+1,Nat.le_refl _,by omega⟩
theorem Arb {apt:Nat->Ap} {ut wt:Nat->Nat->Int} {s:Nat->Nat} (h0:0 < m) (ht:Tri P V (apt 0)) (hs:Dw P (apt 0) a b m (ut 0) (wt 0))
  (hw:∀ t i,i < m->∃ t',t<=t'/\t' < t+m/\s t'=i) (hu:∀ t t',t < t'->t' < t+m->s t≠s t') (hsm:∀ t,s t < m)
  (step:∀ t,(Vr P (apt t) (ut t) (wt t) (s t)/\apt (t+1)=apt t/\ut (t+1)=ut t/\wt (t+1)=wt t)\/Aax P V m (apt t) (ut t) (wt t) (s t) (apt (t+1)) (ut (t+1)) (wt (t+1))):False:=by
 obtain ⟨U,W,hc⟩:=hs.chains
 have all:∀ t,Tri P V (apt t)/\Dw P (apt t) a b m (ut t) (wt t)/\Uf m (ut t) (wt t) U W/\ups (ut t) (m-1)=ups (ut 0) (m-1):=by
  intro t
  induction t with
  | zero=>exact ⟨ht,hs,hc,rfl⟩
  | succ t ih=>
   obtain ⟨i1,i2,i3,i4⟩:=ih
   rcases step t with ⟨_,e1,e2,e3⟩ | g
   ·rw[e1,e2,e3];exact ⟨i1,i2,i3,i4⟩
   ·obtain ⟨k1,k2,k3,k4,_⟩:=g.keeps i1 i2 i3
    refine ⟨k1,k2,k3,?_⟩
    obtain ⟨_,_,_,_,_,hlt,_⟩:=g
    rw[k4.1 (m-1) (by omega),i4]
 have mv:∀ t,Move m (ups (ut t)) (ups (ut (t+1))) (s t)/\(ups (ut (t+1)) (s t)=ups (ut t) (s t)->Vr P (apt t) (ut t) (wt t) (s t)):=fun t=>by
  obtain ⟨i1,i2,i3,i4⟩:=all t
  rcases step t with ⟨g,e1,e2,e3⟩ | g
  ·rw[e2];exact ⟨⟨fun _ _=>rfl,.inl rfl⟩,fun _=>g⟩
  ·obtain ⟨_,_,_,k4,k5⟩:=g.keeps i1 i2 i3
   exact ⟨k4,fun e=>absurd e k5⟩
 refine Aye (m:=m) (s:=s) (j:=fun t=>ups (ut t)) (CU:=Peak (hU P a b U) (ups (ut 0) (m-1))) (CL:=Peak (hL P a b W) (cop (ups (ut 0)) (m-1))) hw hu hsm (fun t=>Ex m _) (fun t=>(mv t).1)
  (fun x hx t=>?_) (fun y hy t=>?_) (fun x t i hx hl e1 e2=>?_) (fun y t i hy hl e1 e2=>?_) ?_
 ·obtain ⟨i,g1,g2⟩:=(Ex m (ut t)).meets (m-1) (by omega) x (by rw[(all t).2.2.2];exact hx.1)
  exact ⟨i,by omega,g2⟩
 ·obtain ⟨i,g1,g2⟩:=(Ex m (ut t)).other.meets (m-1) (by omega) y (by unfold cop;rw[(all t).2.2.2];exact hy.1)
  exact ⟨i,by omega,g2⟩
 ·obtain ⟨i1,i2,i3,i4⟩:=all t
  subst e1
  exact Aq9 i1 i2 i3 i4.symm (by unfold cop;rw[i4]) hx hl ((mv t).2 e2)
 ·obtain ⟨i1,i2,i3,i4⟩:=all t
  subst e1
  exact Ara i1 i2 i3 i4.symm (by unfold cop;rw[i4]) hy hl ((mv t).2 e2)
 ·obtain ⟨x,hx1,hx2⟩:=Ala (hU P a b U) (ups (ut 0) (m-1)) (ups (ut 0) (m-1)) (Nat.le_refl _) (fun h=>by omega)
  exact ⟨x,hx2⟩
end Go.Proofs.YtjfndjmabhbicaaGreat
