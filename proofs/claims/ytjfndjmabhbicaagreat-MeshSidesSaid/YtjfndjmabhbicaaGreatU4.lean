/- Why forcing a line ends: paths of places that are gone round in turn (no program in sight). -/
import Derived.Test.YtjfndjmabhbicaaGreatK5
namespace Go.Proofs.YtjfndjmabhbicaaGreat
theorem Ai0 {m:Nat} {r:Nat->Nat} (hr:∀ t,r t < m):∃ B T,(∀ t,T<=t->B<=r t)/\∀ T',∃ t,T'<=t/\r t=B:=by
 have key:∀ n,(∃ T,∀ t,T<=t->n<=r t)\/∃ B T,(∀ t,T<=t->B<=r t)/\∀ T',∃ t,T'<=t/\r t=B:=by
  intro n
  induction n with
  | zero=>exact .inl ⟨0,fun t _=>Nat.zero_le _⟩
  | succ n ih =>
   rcases ih with ⟨T,hT⟩ | h
   ·by_cases c:∀ T',∃ t,T'<=t/\r t=n
    ·exact .inr ⟨n,T,hT,c⟩
    ·left
     obtain ⟨T',h'⟩:=Classical.not_forall.1 c
     refine ⟨max T T',fun t ht=>?_⟩
     have h1:=hT t (by omega)
     have h2:r t≠n:=fun e=>h' ⟨t,by omega,e⟩
     omega
   ·exact .inr h
 rcases key m with ⟨T,hT⟩ | h
 ·have:=hT T (Nat.le_refl _)
  have:=hr T
  omega
 ·exact h
theorem Avj {m : Nat} {s r : Nat -> Nat} (hw : ∀ t i, i < m -> ∃ t', t <= t' /\ t' < t + m /\ s t' = i) (hu : ∀ t t', t < t' -> t' < t + m -> s t ≠ s t') (hr : ∀ t, r t < m)
    (hc : ∀ t, r (t + 1) = r t \/ (s t = r t /\ r (t + 1) + 1 = r t) \/ (s t = r t + 1 /\ r (t + 1) = r t + 1)) :
    ∃ T B, (∀ t, T <= t -> B <= r t) /\ ∃ t, T <= t /\ r t = B /\ s t = B /\ r (t + 1) = B := by
  obtain ⟨B, T, h1, h2⟩ := Ai0 hr
  refine ⟨T, B, h1, ?_⟩
  have fin : ∀ t, T <= t -> r t = B -> s t = B -> r (t + 1) = B := fun t ht e1 e2 => by
    have := h1 (t + 1) (by omega)
    rcases hc t with g | g | g <;> omega
  by_cases c : ∃ T1, T <= T1 /\ ∀ t, T1 <= t -> r t = B
  · obtain ⟨T1, h3, h4⟩ := c
    have hB : B < m := by have := hr T1; have := h4 T1 (Nat.le_refl _); omega
    obtain ⟨t, g1, g2, g3⟩ := hw T1 B hB
    exact ⟨t, by omega, h4 t g1, g3, fin t (by omega) (h4 t g1) g3⟩
  · -- it leaves and comes back
    obtain ⟨t0, h3, h4⟩ := h2 T
    have hB : B < m := by have := hr t0; omega
    have leaves : ∃ t, T <= t /\ r t ≠ B := by
      refine Classical.byContradiction fun h => c ⟨T, Nat.le_refl _, fun t ht => ?_⟩
      exact Classical.byContradiction fun e => h ⟨t, ht, e⟩
    obtain ⟨ta, ha1, ha2⟩ := leaves
    obtain ⟨tb, hb1, hb2⟩ := h2 ta
    have first : ∀ n, (∀ k, k <= n -> r (ta + k) ≠ B) \/ ∃ t, ta <= t /\ r t ≠ B /\ r (t + 1) = B := by
      intro n
      induction n with
      | zero => exact .inl fun k hk => by have : k = 0 := by omega
                                          subst this; exact ha2
      | succ n ih =>
        rcases ih with h | h
        · by_cases e : r (ta + (n + 1)) = B
          · exact .inr ⟨ta + n, by omega, h n (Nat.le_refl _), e⟩
          · exact .inl fun k hk => by
              by_cases g : k = n + 1
              · rw [g]; exact e
              · exact h k (by omega)
        · exact .inr h
    rcases first (tb - ta) with h | ⟨t1, g1, g2, g3⟩
    · exact absurd (by rw [show ta + (tb - ta) = tb by omega]; exact hb2) (h (tb - ta) (Nat.le_refl _))
    · have hge := h1 t1 (by omega)
      have hs : s t1 = B + 1 := by rcases hc t1 with g | g | g <;> omega
      obtain ⟨t2, k1, k2, k3⟩ := hw (t1 + 1) B hB
      have low : ∀ n, (∀ k, k < n -> s (t1 + 1 + k) ≠ B) \/ ∃ k, k < n /\ s (t1 + 1 + k) = B /\ ∀ k', k' < k -> s (t1 + 1 + k') ≠ B := by
        intro n
        induction n with
        | zero => exact .inl fun k hk => by omega
        | succ n ih =>
          rcases ih with h | ⟨k, h5, h6, h7⟩
          · by_cases e : s (t1 + 1 + n) = B
            · exact .inr ⟨n, by omega, e, h⟩
            · exact .inl fun k hk => by
                by_cases g : k = n
                · rw [g]; exact e
                · exact h k (by omega)
          · exact .inr ⟨k, by omega, h6, h7⟩
      rcases low m with h | ⟨k, q1, q2, q3⟩
      · exact absurd (by rw [show t1 + 1 + (t2 - (t1 + 1)) = t2 by omega]; exact k3) (h (t2 - (t1 + 1)) (by omega))
      · -- up to then nothing changes
        have hk : k + 1 < m := by
          obtain ⟨t3, x1, x2, x3⟩ := hw t1 B hB
          have x4 : t3 ≠ t1 := fun e => by rw [e] at x3; omega
          have x5 : ¬ (t3 - (t1 + 1) < k) := fun g => q3 _ g (by rw [show t1 + 1 + (t3 - (t1 + 1)) = t3 by omega]; exact x3)
          omega
        have stay : ∀ n, n <= k -> r (t1 + 1 + n) = B := by
          intro n
          induction n with
          | zero => intro _; exact g3
          | succ n ih =>
            intro hn
            have e := ih (by omega)
            have n1 := q3 n (by omega)
            have n2 : s (t1 + 1 + n) ≠ B + 1 := fun g => hu t1 (t1 + 1 + n) (by omega) (by omega) (by rw [hs, g])
            have := hc (t1 + 1 + n)
            rw [show t1 + 1 + (n + 1) = t1 + 1 + n + 1 by omega]
            rcases this with g | g | g <;> omega
        exact ⟨t1 + 1 + k, by omega, stay k (Nat.le_refl _), q2, fin _ (by omega) (stay k (Nat.le_refl _)) q2⟩

structure Path (m:Nat) (j:Nat->Nat):Prop where
 start:j 0=0
 step:∀ i,i+1 < m->j (i+1)=j i\/j (i+1)=j i+1
theorem Path.mono {m : Nat} {j : Nat -> Nat} (h : Path m j) : ∀ a b, a <= b -> b < m -> j a <= j b := by
  intro a b
  induction b with
  | zero => intro h1 _; have : a = 0 := by omega
            subst this; exact Nat.le_refl _
  | succ b ih =>
    intro h1 h2
    by_cases e : a = b + 1
    · subst e; exact Nat.le_refl _
    · have := ih (by omega) (by omega)
      have := h.step b h2
      omega
theorem Path.le {m:Nat} {j:Nat->Nat} (h:Path m j):∀ i,i < m->j i<=i:=by
 intro i
 induction i with
 | zero=>intro _;rw [h.start];exact Nat.le_refl _
 | succ i ih =>
  intro hi
  have:=ih (by omega)
  have:=h.step i hi
  omega
def cop (j:Nat->Nat) (i:Nat):Nat:=i-j i
theorem Path.other {m:Nat} {j:Nat->Nat} (h:Path m j):Path m (cop j):=by
 refine ⟨by unfold cop;omega,fun i hi=>?_⟩
 have h1:=h.step i hi
 have h2:=h.le i (by omega)
 have h3:=h.le (i+1) hi
 unfold cop
 omega
def Move (m:Nat) (j j':Nat->Nat) (i:Nat):Prop :=
 (∀ k,k≠i->j' k=j k)/\(j' i=j i\/(0 < i/\i+1 < m/\j (i-1)=j i/\j (i+1)=j i+1/\j' i=j i+1)\/(0 < i/\i+1 < m/\j (i-1)+1=j i/\j (i+1)=j i/\j' i+1=j i))
theorem Move.other {m:Nat} {j j':Nat->Nat} {i:Nat} (hj:Path m j) (hi:i < m) (h:Move m j j' i):Move m (cop j) (cop j') i:=by
 obtain ⟨h1,h2⟩:=h
 have l1:=hj.le i hi
 refine ⟨fun k hk=>by unfold cop;rw [h1 k hk],?_⟩
 rcases h2 with g | ⟨g1,g2,g3,g4,g5⟩ | ⟨g1,g2,g3,g4,g5⟩
 ·exact .inl (by unfold cop;rw [g])
 ·have l2:=hj.le (i-1) (by omega)
  have l3:=hj.le (i+1) g2
  refine .inr (.inr ⟨g1,g2,?_,?_,?_⟩) <;> (unfold cop;omega)
 ·have l2:=hj.le (i-1) (by omega)
  have l3:=hj.le (i+1) g2
  refine .inr (.inl ⟨g1,g2,?_,?_,?_⟩) <;> (unfold cop;omega)
def Last (m:Nat) (j:Nat->Nat) (x i:Nat):Prop:=i < m/\j i=x/\∀ k,i < k->k < m->j k≠x
theorem Last.unique {m:Nat} {j:Nat->Nat} {x i i':Nat} (h:Last m j x i) (h':Last m j x i'):i=i':=by
 rcases Nat.lt_trichotomy i i' with g | g | g
 ·exact absurd h'.2.1 (h.2.2 i' g h'.1)
 ·exact g
 ·exact absurd h.2.1 (h'.2.2 i g h.1)
theorem Amd {m:Nat} {j:Nat->Nat} {x i:Nat} (hi:i < m) (hx:j i=x):∃ k,Last m j x k:=by
 have key:∀ n i,m-i=n->i < m->j i=x->∃ k,Last m j x k:=by
  intro n
  induction n using Nat.strongRecOn with
  | ind n ih =>
   intro i hn hi hx
   by_cases c:∃ k,i < k/\k < m/\j k=x
   ·obtain ⟨k,h1,h2,h3⟩:=c
    exact ih (m-k) (by omega) k rfl h2 h3
   ·exact ⟨i,hi,hx,fun k h1 h2 h3=>c ⟨k,h1,h2,h3⟩⟩
 exact key _ i rfl hi hx
theorem Afx {m:Nat} {j j':Nat->Nat} {i x r r':Nat} (hj:Path m j) (hm:Move m j j' i) (hr:Last m j x r) (hr':Last m j' x r') :
  r'=r\/(i=r/\r' + 1=r)\/(i=r+1/\r'=r+1):=by
 obtain ⟨h1,h2⟩:=hm
 rcases h2 with g | ⟨g1,g2,g3,g4,g5⟩ | ⟨g1,g2,g3,g4,g5⟩
 ·left
  have e:j'=j:=by
   funext k
   by_cases hk:k=i
   ·rw [hk];exact g
   ·exact h1 k hk
  subst e
  exact hr'.unique hr
 ·by_cases c:i=r
  ·-- it goes away from x
   right;left
   refine ⟨c,?_⟩
   have e:Last m j' x (r-1):=by
    refine ⟨by have:=hr.1;omega,?_,fun k hk hk2 e=>?_⟩
    ·rw [h1 (r-1) (by omega),<- hr.2.1,<- c];exact g3
    ·by_cases hk3:k=i
     ·rw [hk3,g5,c,hr.2.1] at e;omega
     ·rw [h1 k hk3] at e
      exact hr.2.2 k (by omega) hk2 e
   have:=hr'.unique e
   omega
  ·left
   refine hr'.unique ⟨hr.1,by rw [h1 r (fun e=>c e.symm)];exact hr.2.1,fun k hk hk2 e=>?_⟩
   by_cases hk3:k=i
   ·rw [hk3] at hk e
    rw [g5] at e
    have:j (i+1)=x:=by omega
    exact hr.2.2 (i+1) (by omega) g2 this
   ·rw [h1 k hk3] at e
    exact hr.2.2 k hk hk2 e
 ·by_cases c:i=r+1
  ·right;right
   refine ⟨c,hr'.unique ?_⟩
   have e1:j (i-1)=x:=by rw [c];exact hr.2.1
   refine ⟨by omega,by rw [<- c];omega,fun k hk hk2 e=>?_⟩
   rw [h1 k (by omega)] at e
   exact hr.2.2 k (by omega) hk2 e
  ·left
   refine hr'.unique ⟨hr.1,?_,fun k hk hk2 e=>?_⟩
   ·by_cases hk3:r=i
    ·exfalso
     have:j (i+1)=x:=by rw [g4,<- hk3];exact hr.2.1
     exact hr.2.2 (i+1) (by omega) g2 this
    ·rw [h1 r hk3];exact hr.2.1
   ·by_cases hk3:k=i
    ·rw [hk3] at hk e
     have e1:j (i-1)=x:=by omega
     by_cases hk4:r=i-1
     ·omega
     ·exact hr.2.2 (i-1) (by omega) (by omega) e1
    ·rw [h1 k hk3] at e
     exact hr.2.2 k hk hk2 e
theorem Awr {m:Nat} {s:Nat->Nat} {j:Nat->Nat->Nat} {CU CL:Nat->Prop} (hw:∀ t i,i < m->∃ t',t<=t'/\t' < t+m/\s t'=i) (hu:∀ t t',t < t'->t' < t+m->s t≠s t')
  (hs:∀ t,s t < m) (hp:∀ t,Path m (j t)) (hmv:∀ t,Move m (j t) (j (t+1)) (s t))
  (hU:∀ x,CU x->∀ t,∃ i,i < m/\j t i=x) (hL:∀ y,CL y->∀ t,∃ i,i < m/\cop (j t) i=y)
  (gU:∀ x t i,CU x->Last m (j t) x i->s t=i->j (t+1) i=j t i->∃ y,CL y/\y < cop (j t) i)
  (gL:∀ y t i,CL y->Last m (cop (j t)) y i->s t=i->j (t+1) i=j t i->∃ x,CU x/\x < j t i)
  (hex:∃ x,CU x):False:=by
 have least:∀ {C:Nat->Prop},(∃ x,C x)->∃ x,C x/\∀ y,C y->x<=y:=fun {C} h=>by
  obtain ⟨x,hx⟩:=h
  have key:∀ n,∀ x,x=n->C x->∃ x,C x/\∀ y,C y->x<=y:=by
   intro n
   induction n using Nat.strongRecOn with
   | ind n ih =>
    intro x hn hx
    by_cases c:∃ y,C y/\y < x
    ·obtain ⟨y,h1,h2⟩:=c
     exact ih y (by omega) y rfl h1
    ·exact ⟨x,hx,fun y hy=>by
      by_cases g:x<=y
      ·exact g
      ·exact absurd ⟨y,hy,by omega⟩ c⟩
  exact key x x rfl hx
 obtain ⟨x,hx,hx2⟩:=least hex
 have ex:∀ t,∃ i,Last m (j t) x i:=fun t=>by
  obtain ⟨i,h1,h2⟩:=hU x hx t
  exact Amd h1 h2
 have hrs:∀ t,Last m (j t) x (Classical.choose (ex t)):=fun t=>Classical.choose_spec (ex t)
 generalize hr:(fun t=>Classical.choose (ex t))=r at *
 have hrs:∀ t,Last m (j t) x (r t):=fun t=>by rw [<- hr];exact hrs t
 obtain ⟨T,B,b1,t,b2,b3,b4,b5⟩:=Avj hw hu (fun t=>(hrs t).1) (fun t=>Afx (hp t) (hmv t) (hrs t) (hrs (t+1)))
 have still:j (t+1) B=j t B:=by
  have l1:=hrs t
  have l2:=hrs (t+1)
  rw [b3] at l1
  rw [b5] at l2
  rw [l1.2.1,l2.2.1]
 obtain ⟨y0,y1,y2⟩:=gU x t B hx (by have:=hrs t;rwa [b3] at this) b4 still
 have hxB:j t B=x:=by have:=(hrs t).2.1;rwa [b3] at this
 obtain ⟨y,hy,hy2⟩:=least ⟨y0,y1⟩
 have hyB:y < B-x:=by
  have:=hy2 y0 y1
  unfold cop at y2
  rw [hxB] at y2
  omega
 have ey:∀ t,∃ i,Last m (cop (j (T+t))) y i:=fun t=>by
  obtain ⟨i,h1,h2⟩:=hL y hy (T+t)
  exact Amd h1 h2
 have hqs:∀ t,Last m (cop (j (T+t))) y (Classical.choose (ey t)):=fun t=>Classical.choose_spec (ey t)
 generalize hq:(fun t=>Classical.choose (ey t))=q at *
 have hqs:∀ t,Last m (cop (j (T+t))) y (q t):=fun t=>by rw [<- hq];exact hqs t
 have ahead:∀ t,j (T+t) (q t)<=x:=fun t=>by
  have h1:=b1 (T+t) (by omega)
  have h2:=hrs (T+t)
  have h3:=hqs t
  have h4:cop (j (T+t)) (r (T+t))=r (T+t)-x:=by unfold cop;rw [h2.2.1]
  have h5:q t<=r (T+t):=by
   refine Classical.byContradiction fun g=>?_
   have:=(hp (T+t)).other.mono (r (T+t)) (q t) (by omega) h3.1
   rw [h4,h3.2.1] at this
   omega
  have:=(hp (T+t)).mono (q t) (r (T+t)) h5 h2.1
  rw [h2.2.1] at this
  exact this
 obtain ⟨T',B',c1,t',c2,c3,c4,c5⟩:=Avj (s:=fun t=>s (T+t)) (r:=q) (m:=m)
  (fun t i hi=>by
   obtain ⟨t',h1,h2,h3⟩:=hw (T+t) i hi
   exact ⟨t'-T,by omega,by omega,by rw [show T+(t'-T)=t' by omega];exact h3⟩)
  (fun t t' h1 h2=>hu (T+t) (T+t') (by omega) (by omega)) (fun t=>(hqs t).1)
  (fun t=>Afx (hp (T+t)).other (Move.other (hp (T+t)) (hs _) (hmv (T+t))) (hqs t) (hqs (t+1)))
 have l1:=hqs t'
 have l2:=hqs (t' + 1)
 rw [c3] at l1
 rw [c5] at l2
 have still':j (T+t' + 1) B'=j (T+t') B':=by
  have e1:=l1.2.1
  have e2:cop (j (T+t' + 1)) B'=y:=l2.2.1
  have e3:=(hp (T+t')).le B' l1.1
  have e4:=(hp (T+t' + 1)).le B' l1.1
  unfold cop at e1 e2
  omega
 obtain ⟨x',x1,x2⟩:=gL y (T+t') B' hy l1 c4 still'
 have:=hx2 x' x1
 have:=ahead t'
 rw [c3] at this
 omega
end Go.Proofs.YtjfndjmabhbicaaGreat
namespace Go.Proofs.YtjfndjmabhbicaaGreat
open Go Go.RowKit
theorem Aha (A B s p q r:Ac):(crs A B p-crs A B s)*crs s q r+(crs A B q-crs A B s)*crs s r p+(crs A B r-crs A B s)*crs s p q=0:=by unfold crs;grind
theorem Ame {A B s p q r:Ac} (h1:0 < crs s p q) (h2:0 < crs s q r) (hp:crs A B s < crs A B p) (hq:crs A B s < crs A B q) (hr:crs A B s<=crs A B r):0 < crs s p r:=by
 have h:=Aha A B s p q r
 rw [Av s p r] at h
 have m1:=Int.mul_pos (show 0 < crs A B p-crs A B s by omega) h2
 have m2:=Int.mul_nonneg (show 0<=crs A B r-crs A B s by omega) (Int.le_of_lt h1)
 have m3:(crs A B q-crs A B s) * -crs s p r = -((crs A B q-crs A B s)*crs s p r):=Int.mul_neg _ _
 exact Cb (x:=crs A B q-crs A B s) (by omega) (by omega)
theorem Aec {A B s p q r:Ac} (h1:0 < crs s p q) (h2:0 < crs s q r) (hp:crs A B p < crs A B s) (hq:crs A B q < crs A B s) (hr:crs A B r<=crs A B s):0 < crs s p r:=by
 have h:=Aha A B s p q r
 rw [Av s p r] at h
 have m1:=Int.mul_pos (show 0 < crs A B s-crs A B p by omega) h2
 have m2:=Int.mul_nonneg (show 0<=crs A B s-crs A B r by omega) (Int.le_of_lt h1)
 have m3:(crs A B q-crs A B s) * -crs s p r=(crs A B s-crs A B q)*crs s p r:=by grind
 have m4:(crs A B p-crs A B s)*crs s q r = -((crs A B s-crs A B p)*crs s q r):=by grind
 have m5:(crs A B r-crs A B s)*crs s p q = -((crs A B s-crs A B r)*crs s p q):=by grind
 exact Cb (x:=crs A B s-crs A B q) (by omega) (by omega)
theorem Amf {A B u w k l:Ac} (hw:crs A B w < 0) (hk0:0<=crs A B k) (hl0:0<=crs A B l) (hu:0 < crs A B u) (t1:0 < crs u w k) (t2:0 < crs w u l) (hl:crs A B l < crs A B u) (hk:crs A B k<=crs A B u) :
  0 < crs k u l/\0 < crs l w k:=by
 constructor
 ·-- around u: l,w,k,all Sn
  have:=Aec (A:=A) (B:=B) (s:=u) (p:=l) (q:=w) (r:=k) (by rw [Al];exact t2) t1 hl (by omega) hk
  rw [<- Al] at this
  rw [<- Al] at this
  exact this
 ·-- around w: k,u,l,all above
  have:=Ame (A:=A) (B:=B) (s:=w) (p:=k) (q:=u) (r:=l) (by rw [<- Al];rw [<- Al];exact t1) t2 (by omega) (by omega) (by omega)
  rw [<- Al] at this
  rw [<- Al] at this
  exact this
theorem Arb {A B u w w' k:Ac} (hw:crs A B w < 0) (hw':crs A B w' < 0) (hk0:0<=crs A B k) (hu:0 < crs A B u) (t1:0 < crs u w k) (t2:0 < crs u w' w) (hk:crs A B k<=crs A B u) :
  0 < crs k u w'/\(crs w' w k<=0->crs A B w' < crs A B w):=by
 constructor
 ·have:=Aec (A:=A) (B:=B) (s:=u) (p:=w') (q:=w) (r:=k) t2 t1 (by omega) (by omega) hk
  rw [<- Al] at this
  rw [<- Al] at this
  exact this
 ·intro h
  refine Classical.byContradiction fun g=>?_
  have:=Ame (A:=A) (B:=B) (s:=w) (p:=k) (q:=u) (r:=w') (by rw [<- Al];rw [<- Al];exact t1) (by rw [<- Al];exact t2) (by omega) (by omega) (by omega)
  rw [<- Al] at this
  rw [<- Al] at this
  omega
variable {P:Int->Ac} {V:Int->Prop} {ap:Ap} {a b:Int}
structure Dm (P:Int->Ac) (ap:Ap) (a b:Int) (m:Nat) (u w:Nat->Int):Prop where
 up:∀ i,i < m->0 < crs (P a) (P b) (P (u i))
 lo:∀ i,i < m->crs (P a) (P b) (P (w i)) < 0
 first:0 < m->ap (w 0) (u 0)=some a
 last:∀ i,i+1=m->ap (u i) (w i)=some b
 next:∀ i,i+1 < m->(u (i+1)=u i/\ap (u i) (w i)=some (w (i+1)))\/(w (i+1)=w i/\ap (u i) (w i)=some (u (i+1)))
section
variable {m:Nat} {u w:Nat->Int}
theorem Afy:crs (P a) (P b) (P b)=0:=Bb _ _
theorem Afz:crs (P a) (P b) (P a)=0:=Bi _ _
theorem Dm.ne (h:Dm P ap a b m u w) {i j:Nat} (hi:i < m) (hj:j < m):u i≠w j:=fun e=>by
 have h1:=h.up i hi
 have h2:=h.lo j hj
 rw [e] at h1
 omega
theorem Dm.inj (h:Dm P ap a b m u w):∀ i j,i < j->j < m->¬ (u i=u j/\w i=w j):=by
 have key:∀ n i j,m-j=n->i < j->j < m->¬ (u i=u j/\w i=w j):=by
  intro n
  induction n using Nat.strongRecOn with
  | ind n ih =>
   intro i j hn hij hj ⟨e1,e2⟩
   by_cases c:j+1=m
   ·have h1:=h.last j c
    rw [<- e1,<- e2] at h1
    rcases h.next i (by omega) with ⟨g1,g2⟩ | ⟨g1,g2⟩
    ·rw [h1] at g2
     have:=h.lo (i+1) (by omega)
     rw [<- Option.some.inj g2,Afy] at this
     omega
    ·rw [h1] at g2
     have:=h.up (i+1) (by omega)
     rw [<- Option.some.inj g2,Afy] at this
     omega
   ·refine ih (m-(j+1)) (by omega) (i+1) (j+1) rfl (by omega) (by omega) ?_
    rcases h.next i (by omega) with ⟨g1,g2⟩ | ⟨g1,g2⟩ <;> rcases h.next j (by omega) with ⟨k1,k2⟩ | ⟨k1,k2⟩
    ·rw [e1,e2,k2] at g2
     exact ⟨by rw [g1,k1,e1],(Option.some.inj g2).symm⟩
    ·rw [e1,e2,k2] at g2
     exact absurd (Option.some.inj g2) (h.ne (by omega) (by omega))
    ·rw [e1,e2,k2] at g2
     exact absurd (Option.some.inj g2).symm (h.ne (by omega) (by omega))
    ·rw [e1,e2,k2] at g2
     exact ⟨(Option.some.inj g2).symm,by rw [g1,k1,e2]⟩
 intro i j
 exact key _ i j rfl
theorem Dm.prev (h:Dm P ap a b m u w) (ht:Tri P V ap) {i:Nat} (hi:i+1 < m):(u (i+1)=u i/\ap (w (i+1)) (u (i+1))=some (w i))\/(w (i+1)=w i/\ap (w (i+1)) (u (i+1))=some (u i)):=by
 rcases h.next i hi with ⟨g1,g2⟩ | ⟨g1,g2⟩
 ·left
  refine ⟨g1,?_⟩
  rw [g1]
  exact ht.rot2 g2
 ·right
  refine ⟨g1,?_⟩
  rw [g1]
  exact ht.rot _ _ _ g2
end
theorem Xg {i j k l:Int} (q:Quad P V ap i j k l):Di ap i j k l i l=some k/\Di ap i j k l l k=some i/\Di ap i j k l k i=some l/\Di ap i j k l j k=some l/\Di ap i j k l k l=some j/\Di ap i j k l l j=some k:=by
 obtain ⟨n1,n2,n3,n4,n5,n6⟩:=q.ne
 unfold Di
 refine ⟨?_,?_,?_,?_,?_,?_⟩ <;> grind
theorem Af0 {i j k l x y:Int} (h1:¬ (x=i/\y=l)) (h2:¬ (x=l/\y=k)) (h3:¬ (x=k/\y=i)) (h4:¬ (x=j/\y=k)) (h5:¬ (x=k/\y=l)) (h6:¬ (x=l/\y=j)) (h7:¬ (x=i/\y=j)) (h8:¬ (x=j/\y=i)):Di ap i j k l x y=ap x y:=by
 unfold Di
 rw [if_neg h1,if_neg h2,if_neg h3,if_neg h4,if_neg h5,if_neg h6,if_neg h7,if_neg h8]
def cutF (i:Nat) (f:Nat->Int) (k:Nat):Int:=if k < i then f k else f (k+1)
def setF (i:Nat) (x:Int) (f:Nat->Int) (k:Nat):Int:=if k=i then x else f k
variable {P:Int->Ac} {V:Int->Prop} {ap:Ap} {a b:Int} {m:Nat} {u w:Nat->Int}
def Aws (a:Int) (u w:Nat->Int) (i:Nat) (l:Int):Prop:=(i=0/\l=a)\/(0 < i/\u i=u (i-1)/\l=w (i-1))\/(0 < i/\w i=w (i-1)/\l=u (i-1))
def At7 (b:Int) (m:Nat) (u w:Nat->Int) (i:Nat) (k:Int):Prop:=(i+1=m/\k=b)\/(i+1 < m/\u (i+1)=u i/\k=w (i+1))\/(i+1 < m/\w (i+1)=w i/\k=u (i+1))
theorem Dm.left (h:Dm P ap a b m u w) (ht:Tri P V ap) {i:Nat} (hi:i < m) {l:Int} (hl:ap (w i) (u i)=some l):Aws a u w i l:=by
 by_cases c:i=0
 ·subst c
  rw [h.first hi] at hl
  exact .inl ⟨rfl,(Option.some.inj hl).symm⟩
 ·obtain ⟨j,rfl⟩:∃ j,i=j+1:=⟨i-1,by omega⟩
  rcases h.prev ht hi with ⟨g1,g2⟩ | ⟨g1,g2⟩ <;> rw [hl] at g2
  ·exact .inr (.inl ⟨by omega,g1,Option.some.inj g2⟩)
  ·exact .inr (.inr ⟨by omega,g1,Option.some.inj g2⟩)
theorem Dm.right (h:Dm P ap a b m u w) {i:Nat} (hi:i < m) {k:Int} (hk:ap (u i) (w i)=some k):At7 b m u w i k:=by
 by_cases c:i+1=m
 ·rw [h.last i c] at hk
  exact .inl ⟨c,(Option.some.inj hk).symm⟩
 ·rcases h.next i (by omega) with ⟨g1,g2⟩ | ⟨g1,g2⟩ <;> rw [hk] at g2
  ·exact .inr (.inl ⟨by omega,g1,Option.some.inj g2⟩)
  ·exact .inr (.inr ⟨by omega,g1,Option.some.inj g2⟩)
section
variable {i:Nat} {k l:Int}
theorem Dm.keepR (h:Dm P ap a b m u w) (hi:i < m) (q:Quad P V ap (u i) (w i) k l) {j:Nat} (hj:j < m) (n1:j≠i) (n2:j+1≠i):Di ap (u i) (w i) k l (u j) (w j)=ap (u j) (w j):=by
 have hl:=h.left q.tri hi q.hl
 have fr:=q.fresh
 have some_:ap (u j) (w j)≠none:=by
  by_cases c:j+1=m
  ·rw [h.last j c];simp
  ·rcases h.next j (by omega) with ⟨_,g⟩ | ⟨_,g⟩ <;> (rw [g];simp)
 refine Af0 (fun e=>?_) (fun e=>?_) (fun e=>?_) (fun e=>?_) (fun e=>?_) (fun e=>?_) (fun e=>?_) (fun e=>?_)
 ·-- (u i,l)
  rcases hl with ⟨g1,g2⟩ | ⟨g1,g2,g3⟩ | ⟨g1,g2,g3⟩
  ·have:=h.lo j hj
   rw [e.2,g2,Afz] at this
   omega
  ·have e1:u j=u (i-1)/\w j=w (i-1):=⟨by rw [e.1,g2],by rw [e.2,g3]⟩
   rcases Nat.lt_trichotomy j (i-1) with c | c | c
   ·exact h.inj j (i-1) c (by omega) e1
   ·omega
   ·exact h.inj (i-1) j c hj ⟨e1.1.symm,e1.2.symm⟩
  ·exact h.ne (i:=i-1) (j:=j) (by omega) hj (by rw [e.2,g3])
 ·rw [e.1,e.2] at some_;exact some_ fr.2
 ·exact h.ne (i:=i) (j:=j) hi hj e.2.symm
 ·exact h.ne (i:=j) (j:=i) hj hi e.1
 ·rw [e.1,e.2] at some_;exact some_ fr.1
 ·-- (l,w i)
  rcases hl with ⟨g1,g2⟩ | ⟨g1,g2,g3⟩ | ⟨g1,g2,g3⟩
  ·have:=h.up j hj
   rw [e.1,g2,Afz] at this
   omega
  ·exact h.ne (i:=j) (j:=i-1) hj (by omega) (by rw [e.1,g3])
  ·have e1:u j=u (i-1)/\w j=w (i-1):=⟨by rw [e.1,g3],by rw [e.2,g2]⟩
   rcases Nat.lt_trichotomy j (i-1) with c | c | c
   ·exact h.inj j (i-1) c (by omega) e1
   ·omega
   ·exact h.inj (i-1) j c hj ⟨e1.1.symm,e1.2.symm⟩
 ·rcases Nat.lt_trichotomy j i with c | c | c
  ·exact h.inj j i c hi e
  ·exact n1 c
  ·exact h.inj i j c hj ⟨e.1.symm,e.2.symm⟩
 ·exact h.ne (i:=j) (j:=i) hj hi e.1
theorem Dm.keepL (h:Dm P ap a b m u w) (hi:i < m) (q:Quad P V ap (u i) (w i) k l) (h0:0 < i):Di ap (u i) (w i) k l (w 0) (u 0)=some a:=by
 have hk:=h.right hi q.hk
 have fr:=q.fresh
 have hf:=h.first (by omega)
 rw [Af0,hf]
 ·exact fun e=>h.ne (i:=i) (j:=0) hi (by omega) e.1.symm
 ·intro e;rw [e.1,e.2,fr.2] at hf;cases hf
 ·-- (k,u i)
  intro e
  rcases hk with ⟨g1,g2⟩ | ⟨g1,g2,g3⟩ | ⟨g1,g2,g3⟩
  ·have:=h.lo 0 (by omega)
   rw [e.1,g2,Afy] at this
   omega
  ·exact h.inj 0 (i+1) (by omega) g1 ⟨by rw [e.2,g2],by rw [e.1,g3]⟩
  ·exact h.ne (i:=i+1) (j:=0) g1 (by omega) (by rw [e.1,g3])
 ·-- (w i,k)
  intro e
  rcases hk with ⟨g1,g2⟩ | ⟨g1,g2,g3⟩ | ⟨g1,g2,g3⟩
  ·have:=h.up 0 (by omega)
   rw [e.2,g2,Afy] at this
   omega
  ·exact h.ne (i:=0) (j:=i+1) (by omega) g1 (by rw [e.2,g3])
  ·exact h.inj 0 (i+1) (by omega) g1 ⟨by rw [e.2,g3],by rw [e.1,g2]⟩
 ·intro e;rw [e.1,e.2,fr.1] at hf;cases hf
 ·exact fun e=>h.ne (i:=0) (j:=i) (by omega) hi e.2
 ·exact fun e=>h.ne (i:=i) (j:=0) hi (by omega) e.1.symm
 ·exact fun e=>h.inj 0 i h0 hi ⟨e.2,e.1⟩
theorem Dm.cut (h:Dm P ap a b m u w) (hi:i < m) (q:Quad P V ap (u i) (w i) k l) (hc:(i=0\/i+1=m)\/(0 < i/\i+1 < m/\((u i=u (i-1)/\u (i+1)=u i)\/(w i=w (i-1)/\w (i+1)=w i)))) :
  Dm P (Di ap (u i) (w i) k l) a b (m-1) (cutF i u) (cutF i w):=by
 have hl:=h.left q.tri hi q.hl
 have hk:=h.right hi q.hk
 obtain ⟨v1,v2,v3,v4,v5,v6⟩:=Xg q
 have at_:∀ (f:Nat->Int) t,t < i->cutF i f t=f t:=fun f t ht=>if_pos ht
 have at':∀ (f:Nat->Int) t,¬ t < i->cutF i f t=f (t+1):=fun f t ht=>if_neg ht
 refine ⟨fun t ht=>?_,fun t ht=>?_,fun h0=>?_,fun t ht=>?_,fun t ht=>?_⟩
 ·by_cases c:t < i
  ·rw [at_ _ _ c];exact h.up t (by omega)
  ·rw [at' _ _ c];exact h.up (t+1) (by omega)
 ·by_cases c:t < i
  ·rw [at_ _ _ c];exact h.lo t (by omega)
  ·rw [at' _ _ c];exact h.lo (t+1) (by omega)
 ·by_cases c:i=0
  ·rw [at' _ _ (by omega),at' _ _ (by omega)]
   have ha:l=a:=by
    rcases hl with ⟨_,g⟩ | ⟨g,_⟩ | ⟨g,_⟩
    ·exact g
    ·omega
    ·omega
   subst c
   rcases hk with ⟨g1,g2⟩ | ⟨g1,g2,g3⟩ | ⟨g1,g2,g3⟩
   ·omega
   ·rw [show (0+1:Nat)=1 from rfl] at *
    rw [<- g3,g2,v3,ha]
   ·rw [show (0+1:Nat)=1 from rfl] at *
    rw [<- g3,g2,v4,ha]
  ·rw [at_ _ _ (by omega),at_ _ _ (by omega)]
   exact h.keepL hi q (by omega)
 ·by_cases c:i+1=m
  ·have hb:k=b:=by
    rcases hk with ⟨_,g⟩ | ⟨g,_⟩ | ⟨g,_⟩
    ·exact g
    ·omega
    ·omega
   have ht':t=i-1:=by omega
   rw [at_ _ _ (by omega),at_ _ _ (by omega),ht']
   rcases hl with ⟨g1,g2⟩ | ⟨g1,g2,g3⟩ | ⟨g1,g2,g3⟩
   ·omega
   ·rw [<- g2,<- g3,v1,hb]
   ·rw [<- g3,<- g2,v6,hb]
  ·rw [at' _ _ (by omega),at' _ _ (by omega),h.keepR hi q (by omega) (by omega) (by omega)]
   exact h.last (t+1) (by omega)
 ·by_cases c:t+1 < i
  ·rw [at_ _ _ (show t < i by omega),at_ _ _ (show t < i by omega),at_ _ _ c,at_ _ _ c,h.keepR hi q (by omega) (by omega) (by omega)]
   exact h.next t (by omega)
  ·by_cases c2:t+1=i
   ·have ht':t=i-1:=by omega
    rw [at_ _ _ (show t < i by omega),at_ _ _ (show t < i by omega),at' _ _ (show ¬ t+1 < i by omega),at' _ _ (show ¬ t+1 < i by omega)]
    have e1:t+1+1=i+1:=by omega
    rw [e1,ht']
    rcases hc with (g | g) | ⟨g1,g2,⟨g3,g4⟩ | ⟨g3,g4⟩⟩
    ·omega
    ·omega
    ·left
     have el:l=w (i-1):=by
      rcases hl with ⟨g,_⟩ | ⟨_,_,g⟩ | ⟨_,g,g'⟩
      ·omega
      ·exact g
      ·exact absurd ⟨g3.symm,g.symm⟩ (h.inj (i-1) i (by omega) hi)
     have ek:k=w (i+1):=by
      rcases hk with ⟨g,_⟩ | ⟨_,_,g⟩ | ⟨_,g,g'⟩
      ·omega
      ·exact g
      ·exact absurd ⟨g4.symm,g.symm⟩ (h.inj i (i+1) (by omega) g2)
     exact ⟨by rw [g4,g3],by rw [<- g3,<- el,v1,ek]⟩
    ·right
     have el:l=u (i-1):=by
      rcases hl with ⟨g,_⟩ | ⟨_,g,g'⟩ | ⟨_,_,g⟩
      ·omega
      ·exact absurd ⟨g.symm,g3.symm⟩ (h.inj (i-1) i (by omega) hi)
      ·exact g
     have ek:k=u (i+1):=by
      rcases hk with ⟨g,_⟩ | ⟨_,g,g'⟩ | ⟨_,_,g⟩
      ·omega
      ·exact absurd ⟨g.symm,g4.symm⟩ (h.inj i (i+1) (by omega) g2)
      ·exact g
     exact ⟨by rw [g4,g3],by rw [<- g3,<- el,v6,ek]⟩
   ·rw [at' _ _ (show ¬ t < i by omega),at' _ _ (show ¬ t < i by omega),at' _ _ (show ¬ t+1 < i by omega),at' _ _ (show ¬ t+1 < i by omega),h.keepR hi q (by omega) (by omega) (by omega)]
    exact h.next (t+1) (by omega)
theorem Dm.turnU (h:Dm P ap a b m u w) (hi:i < m) (q:Quad P V ap (u i) (w i) k l) (h0:0 < i) (h1:i+1 < m) (hu:u i=u (i-1)) (hw:w (i+1)=w i) :
  k=u (i+1)/\l=w (i-1)/\Dm P (Di ap (u i) (w i) k l) a b m (setF i k u) (setF i l w):=by
 have hl:=h.left q.tri hi q.hl
 have hk:=h.right hi q.hk
 obtain ⟨v1,v2,v3,v4,v5,v6⟩:=Xg q
 have el:l=w (i-1):=by
  rcases hl with ⟨g,_⟩ | ⟨_,_,g⟩ | ⟨_,g,g'⟩
  ·omega
  ·exact g
  ·exact absurd ⟨hu.symm,g.symm⟩ (h.inj (i-1) i (by omega) hi)
 have ek:k=u (i+1):=by
  rcases hk with ⟨g,_⟩ | ⟨_,g,g'⟩ | ⟨_,_,g⟩
  ·omega
  ·exact absurd ⟨g.symm,hw.symm⟩ (h.inj i (i+1) (by omega) h1)
  ·exact g
 have at_:∀ (x:Int) (f:Nat->Int) t,t≠i->setF i x f t=f t:=fun x f t ht=>if_neg ht
 have at':∀ (x:Int) (f:Nat->Int),setF i x f i=x:=fun x f=>if_pos rfl
 refine ⟨ek,el,fun t ht=>?_,fun t ht=>?_,fun _=>?_,fun t ht=>?_,fun t ht=>?_⟩
 ·by_cases c:t=i
  ·rw [c,at',ek];exact h.up (i+1) h1
  ·rw [at_ _ _ _ c];exact h.up t ht
 ·by_cases c:t=i
  ·rw [c,at',el];exact h.lo (i-1) (by omega)
  ·rw [at_ _ _ _ c];exact h.lo t ht
 ·rw [at_ _ _ _ (by omega),at_ _ _ _ (by omega)]
  exact h.keepL hi q h0
 ·rw [at_ _ _ _ (by omega),at_ _ _ _ (by omega),h.keepR hi q (by omega) (by omega) (by omega)]
  exact h.last t ht
 ·by_cases c:t=i
  ·left
   rw [c,at',at',at_ _ _ _ (by omega),at_ _ _ _ (by omega),v5,hw]
   exact ⟨ek.symm,rfl⟩
  ·by_cases c2:t+1=i
   ·right
    have ht':t=i-1:=by omega
    rw [c2,at',at',at_ _ _ _ c,at_ _ _ _ c,ht',<- hu,<- el,v1]
    exact ⟨rfl,rfl⟩
   ·rw [at_ _ _ _ c,at_ _ _ _ c,at_ _ _ _ c2,at_ _ _ _ c2,h.keepR hi q (by omega) c c2]
    exact h.next t ht
theorem Dm.turnL (h:Dm P ap a b m u w) (hi:i < m) (q:Quad P V ap (u i) (w i) k l) (h0:0 < i) (h1:i+1 < m) (hw:w i=w (i-1)) (hu:u (i+1)=u i) :
  k=w (i+1)/\l=u (i-1)/\Dm P (Di ap (u i) (w i) k l) a b m (setF i l u) (setF i k w):=by
 have hl:=h.left q.tri hi q.hl
 have hk:=h.right hi q.hk
 obtain ⟨v1,v2,v3,v4,v5,v6⟩:=Xg q
 have el:l=u (i-1):=by
  rcases hl with ⟨g,_⟩ | ⟨_,g,g'⟩ | ⟨_,_,g⟩
  ·omega
  ·exact absurd ⟨g.symm,hw.symm⟩ (h.inj (i-1) i (by omega) hi)
  ·exact g
 have ek:k=w (i+1):=by
  rcases hk with ⟨g,_⟩ | ⟨_,_,g⟩ | ⟨_,g,g'⟩
  ·omega
  ·exact g
  ·exact absurd ⟨hu.symm,g.symm⟩ (h.inj i (i+1) (by omega) h1)
 have at_:∀ (x:Int) (f:Nat->Int) t,t≠i->setF i x f t=f t:=fun x f t ht=>if_neg ht
 have at':∀ (x:Int) (f:Nat->Int),setF i x f i=x:=fun x f=>if_pos rfl
 refine ⟨ek,el,fun t ht=>?_,fun t ht=>?_,fun _=>?_,fun t ht=>?_,fun t ht=>?_⟩
 ·by_cases c:t=i
  ·rw [c,at',el];exact h.up (i-1) (by omega)
  ·rw [at_ _ _ _ c];exact h.up t ht
 ·by_cases c:t=i
  ·rw [c,at',ek];exact h.lo (i+1) h1
  ·rw [at_ _ _ _ c];exact h.lo t ht
 ·rw [at_ _ _ _ (by omega),at_ _ _ _ (by omega)]
  exact h.keepL hi q h0
 ·rw [at_ _ _ _ (by omega),at_ _ _ _ (by omega),h.keepR hi q (by omega) (by omega) (by omega)]
  exact h.last t ht
 ·by_cases c:t=i
  ·right
   rw [c,at',at',at_ _ _ _ (by omega),at_ _ _ _ (by omega),v2,hu]
   exact ⟨ek.symm,rfl⟩
  ·by_cases c2:t+1=i
   ·left
    have ht':t=i-1:=by omega
    rw [c2,at',at',at_ _ _ _ c,at_ _ _ _ c,ht',<- hw,<- el,v6]
    exact ⟨rfl,rfl⟩
   ·rw [at_ _ _ _ c,at_ _ _ _ c,at_ _ _ _ c2,at_ _ _ _ c2,h.keepR hi q (by omega) c c2]
    exact h.next t ht
end
end Go.Proofs.YtjfndjmabhbicaaGreat
