import Derived.Test.YthlkpgdfifnagaaGreatL9
namespace Go.Proofs.YthlkpgdfifnagaaGreat
theorem Amp{m:Nat}{r:Nat->Nat}(hr:∀ t,r t<m):∃ B T,(∀ t,T<=t->B<=r t)/\∀ T',∃ t,T'<=t/\r t=B:=by
 have key:∀ n,(∃ T,∀ t,T<=t->n<=r t)\/∃ B T,(∀ t,T<=t->B<=r t)/\∀ T',∃ t,T'<=t/\r t=B:=by
  intro n
  induction n with
  | zero=>exact .inl ⟨0,fun t _=>Nat.zero_le _⟩
  | succ n ih=>
   rcases ih with⟨T,hT⟩ | h
   ·by_cases c:∀ T',∃ t,T'<=t/\r t=n
    ·exact .inr ⟨n,T,hT,c⟩
    ·left;obtain⟨T',h'⟩:=Classical.not_forall.1 c;refine⟨max T T',fun t ht=>?_⟩;have h1:=hT t oo;have h2:r t≠n:=fun e=>h' ⟨t,oo,e⟩
     omega
   ·exact .inr h
 rcases key m with⟨T,hT⟩ | h
 ·have:=hT T (Nat.le_refl _);have:=hr T;omega
 ·exact h
theorem Ba1{m : Nat}{s r : Nat -> Nat}(hw : ∀ t i, i<m -> ∃ t', t <= t' /\ t'<t + m /\ s t' = i)(hu : ∀ t t', t<t' -> t'<t + m -> s t ≠ s t')(hr : ∀ t, r t<m)(hc : ∀ t, r (t + 1) = r t \/ (s t = r t /\ r (t + 1) + 1 = r t) \/ (s t = r t + 1 /\ r (t + 1) = r t + 1)):
    ∃ T B, (∀ t, T <= t -> B <= r t) /\ ∃ t, T <= t /\ r t = B /\ s t = B /\ r (t + 1) = B := by
  obtain⟨B, T, h1, h2⟩ := Amp hr;refine⟨T, B, h1, ?_⟩;have fin : ∀ t, T <= t -> r t = B -> s t = B -> r (t + 1) = B := fun t ht e1 e2 => by
    have := h1 (t + 1) oo;rcases hc t with g | g | g <;> omega
  by_cases c : ∃ T1, T <= T1 /\ ∀ t, T1 <= t -> r t = B
  · obtain⟨T1, h3, h4⟩ := c;have hB : B<m := by have := hr T1;have := h4 T1 (Nat.le_refl _);omega
    obtain⟨t, g1, g2, g3⟩ := hw T1 B hB;exact⟨t, by omega, h4 t g1, g3, fin t oo (h4 t g1) g3⟩
  · -- it leaves and comes back
    obtain⟨t0, h3, h4⟩ := h2 T;have hB : B<m := by have := hr t0;omega
    have leaves : ∃ t, T <= t /\ r t ≠ B := by
      refine Classical.byContradiction fun h => c ⟨T, Nat.le_refl _, fun t ht => ?_⟩
      exact Classical.byContradiction fun e => h ⟨t, ht, e⟩
    obtain⟨ta, ha1, ha2⟩ := leaves;obtain⟨tb, hb1, hb2⟩ := h2 ta;have first : ∀ n, (∀ k, k <= n -> r (ta + k) ≠ B) \/ ∃ t, ta <= t /\ r t ≠ B /\ r (t + 1) = B := by
      intro n
      induction n with
      | zero => exact .inl fun k hk => by have : k = 0 := by omega
                                          subst this;exact ha2
      | succ n ih=>
        rcases ih with h | h
        · by_cases e : r (ta + (n + 1)) = B
          · exact .inr ⟨ta + n, by omega, h n (Nat.le_refl _), e⟩
          · exact .inl fun k hk => by
              by_cases g : k = n + 1
              · rw[g];exact e
              · exact h k oo
        · exact .inr h
    rcases first (tb - ta) with h | ⟨t1, g1, g2, g3⟩
    · exact absurd (by rw[show ta + (tb - ta) = tb by omega];exact hb2) (h (tb - ta) (Nat.le_refl _))
    · have hge := h1 t1 oo;have hs : s t1 = B + 1 := by rcases hc t1 with g | g | g <;> omega
      obtain⟨t2, k1, k2, k3⟩ := hw (t1 + 1) B hB;have low : ∀ n, (∀ k, k<n -> s (t1 + 1 + k) ≠ B) \/ ∃ k, k<n /\ s (t1 + 1 + k) = B /\ ∀ k', k'<k -> s (t1 + 1 + k') ≠ B := by
        intro n
        induction n with
        | zero => exact .inl fun k hk => by omega
        | succ n ih=>
          rcases ih with h | ⟨k, h5, h6, h7⟩
          · by_cases e : s (t1 + 1 + n) = B
            · exact .inr ⟨n, by omega, e, h⟩
            · exact .inl fun k hk => by
                by_cases g : k = n
                · rw[g];exact e
                · exact h k oo
          · exact .inr ⟨k, by omega, h6, h7⟩
      rcases low m with h | ⟨k, q1, q2, q3⟩
      · exact absurd (by rw[show t1 + 1 + (t2 - (t1 + 1)) = t2 by omega];exact k3) (h (t2 - (t1 + 1)) oo)
      · -- up to then nothing changes
        have hk : k + 1<m := by
          obtain⟨t3, x1, x2, x3⟩ := hw t1 B hB;have x4 : t3 ≠ t1 := fun e => by rw[e] at x3;omega
          have x5 : ¬ (t3 - (t1 + 1)<k):= fun g => q3 _ g (by rw[show t1 + 1 + (t3 - (t1 + 1)) = t3 by omega];exact x3)
          omega
        have stay : ∀ n, n <= k -> r (t1 + 1 + n) = B := by
          intro n
          induction n with
          | zero => intro _;exact g3
          | succ n ih=>
            intro hn;have e := ih oo;have n1 := q3 n oo;have n2 : s (t1 + 1 + n) ≠ B + 1 := fun g => hu t1 (t1 + 1 + n) oo oo (by rw[hs, g])
            have := hc (t1 + 1 + n);rw[show t1 + 1 + (n + 1) = t1 + 1 + n + 1 by omega];rcases this with g | g | g <;> omega
        exact⟨t1 + 1 + k, by omega, stay k (Nat.le_refl _), q2, fin _ oo (stay k (Nat.le_refl _)) q2⟩
structure Path(m:Nat)(j:Nat->Nat):Prop where
 start:j 0=0
 step:∀ i,i+1<m->j (i+1)=j i\/j (i+1)=j i+1
theorem Path.mono{m : Nat}{j : Nat -> Nat}(h : Path m j): ∀ a b, a <= b -> b<m -> j a <= j b := by
  intro a b
  induction b with
  | zero => intro h1 _;have : a = 0 := by omega
            subst this;exact Nat.le_refl _
  | succ b ih=>
    intro h1 h2
    by_cases e : a = b + 1
    · subst e;exact Nat.le_refl _
    · have := ih oo oo;have := h.step b h2;omega
theorem Path.le{m:Nat}{j:Nat->Nat}(h:Path m j):∀ i,i<m->j i<=i:=by
 intro i
 induction i with
 | zero=>intro _;rw[h.start];exact Nat.le_refl _
 | succ i ih=>
  intro hi;have:=ih oo;have:=h.step i hi;omega
def cop(j:Nat->Nat)(i:Nat):Nat:=i-j i
theorem Path.other{m:Nat}{j:Nat->Nat}(h:Path m j):Path m (cop j):=by
 refine⟨by unfold cop;omega,fun i hi=>?_⟩;have h1:=h.step i hi;have h2:=h.le i oo;have h3:=h.le (i+1) hi;unfold cop;omega
def Move(m:Nat)(j j':Nat->Nat)(i:Nat):Prop :=
 (∀ k,k≠i->j' k=j k)/\(j' i=j i\/(0<i/\i+1<m/\j (i-1)=j i/\j (i+1)=j i+1/\j' i=j i+1)\/(0<i/\i+1<m/\j (i-1)+1=j i/\j (i+1)=j i/\j' i+1=j i))
theorem Move.other{m:Nat}{j j':Nat->Nat}{i:Nat}(hj:Path m j)(hi:i<m)(h:Move m j j' i):Move m (cop j) (cop j') i:=by
 obtain⟨h1,h2⟩:=h;have l1:=hj.le i hi;refine⟨fun k hk=>by unfold cop;rw[h1 k hk],?_⟩;rcases h2 with g | ⟨g1,g2,g3,g4,g5⟩|⟨g1,g2,g3,g4,g5⟩
 ·exact .inl (by unfold cop;rw[g])
 ·have l2:=hj.le (i-1) oo;have l3:=hj.le (i+1) g2;refine .inr (.inr ⟨g1,g2,?_,?_,?_⟩) <;> (unfold cop;omega)
 ·have l2:=hj.le (i-1) oo;have l3:=hj.le (i+1) g2;refine .inr (.inl ⟨g1,g2,?_,?_,?_⟩) <;> (unfold cop;omega)
def Last(m:Nat)(j:Nat->Nat)(x i:Nat):Prop:=i<m/\j i=x/\∀ k,i<k->k<m->j k≠x
theorem Last.unique{m:Nat}{j:Nat->Nat}{x i i':Nat}(h:Last m j x i)(h':Last m j x i'):i=i':=by
 rcases Nat.lt_trichotomy i i' with g | g | g
 ·exact absurd h'.2.1 (h.2.2 i' g h'.1)
 ·exact g
 ·exact absurd h.2.1 (h'.2.2 i g h.1)
theorem Aql{m:Nat}{j:Nat->Nat}{x i:Nat}(hi:i<m)(hx:j i=x):∃ k,Last m j x k:=by
 have key:∀ n i,m-i=n->i<m->j i=x->∃ k,Last m j x k:=by
  intro n
  induction n using Nat.strongRecOn with
  | ind n ih=>
   intro i hn hi hx
   by_cases c:∃ k,i<k/\k<m/\j k=x
   ·obtain⟨k,h1,h2,h3⟩:=c;exact ih (m-k) oo k rfl h2 h3
   ·exact⟨i,hi,hx,fun k h1 h2 h3=>c ⟨k,h1,h2,h3⟩⟩
 exact key _ i rfl hi hx
theorem Aje{m:Nat}{j j':Nat->Nat}{i x r r':Nat}(hj:Path m j)(hm:Move m j j' i)(hr:Last m j x r)(hr':Last m j' x r'):
  r'=r\/(i=r/\r' + 1=r)\/(i=r+1/\r'=r+1):=by
 obtain⟨h1,h2⟩:=hm;rcases h2 with g | ⟨g1,g2,g3,g4,g5⟩|⟨g1,g2,g3,g4,g5⟩
 ·left;have e:j'=j:=by
   funext k
   by_cases hk:k=i
   ·rw[hk];exact g
   ·exact h1 k hk
  subst e;exact hr'.unique hr
 ·by_cases c:i=r
  ·-- it goes away from x
   right;left;refine⟨c,?_⟩;have e:Last m j' x (r-1):=by
    refine⟨by have:=hr.1;omega,?_,fun k hk hk2 e=>?_⟩
    ·rw[h1 (r-1) oo,<- hr.2.1,<- c];exact g3
    ·by_cases hk3:k=i
     ·rw[hk3,g5,c,hr.2.1] at e;omega
     ·rw[h1 k hk3] at e;exact hr.2.2 k oo hk2 e
   have:=hr'.unique e;omega
  ·left;refine hr'.unique ⟨hr.1,by rw[h1 r (fun e=>c e.symm)];exact hr.2.1,fun k hk hk2 e=>?_⟩
   by_cases hk3:k=i
   ·rw[hk3] at hk e;rw[g5] at e;have:j (i+1)=x:=oo;exact hr.2.2 (i+1) oo g2 this
   ·rw[h1 k hk3] at e;exact hr.2.2 k hk hk2 e
 ·by_cases c:i=r+1
  ·right;right;refine⟨c,hr'.unique ?_⟩;have e1:j (i-1)=x:=by rw[c];exact hr.2.1
   refine⟨oo,by rw[<- c];omega,fun k hk hk2 e=>?_⟩;rw[h1 k oo] at e;exact hr.2.2 k oo hk2 e
  ·left;refine hr'.unique ⟨hr.1,?_,fun k hk hk2 e=>?_⟩
   ·by_cases hk3:r=i
    ·exfalso;have:j (i+1)=x:=by rw[g4,<- hk3];exact hr.2.1
     exact hr.2.2 (i+1) oo g2 this
    ·rw[h1 r hk3];exact hr.2.1
   ·by_cases hk3:k=i
    ·rw[hk3] at hk e;have e1:j (i-1)=x:=oo
     by_cases hk4:r=i-1
     ·omega
     ·exact hr.2.2 (i-1) oo oo e1
    ·rw[h1 k hk3] at e;exact hr.2.2 k hk hk2 e
theorem Bb0{m:Nat}{s:Nat->Nat}{j:Nat->Nat->Nat}{CU CL:Nat->Prop}(hw:∀ t i,i<m->∃ t',t<=t'/\t'<t+m/\s t'=i)(hu:∀ t t',t<t'->t'<t+m->s t≠s t')(hs:∀ t,s t<m)(hp:∀ t,Path m (j t))(hmv:∀ t,Move m (j t) (j (t+1)) (s t))(hU:∀ x,CU x->∀ t,∃ i,i<m/\j t i=x)(hL:∀ y,CL y->∀ t,∃ i,i<m/\cop (j t) i=y)(gU:∀ x t i,CU x->Last m (j t) x i->s t=i->j (t+1) i=j t i->∃ y,CL y/\y<cop (j t) i)(gL:∀ y t i,CL y->Last m (cop (j t)) y i->s t=i->j (t+1) i=j t i->∃ x,CU x/\x<j t i)(hex:∃ x,CU x):False:=by
 have least:∀ {C:Nat->Prop},(∃ x,C x)->∃ x,C x/\∀ y,C y->x<=y:=fun {C} h=>by
  obtain⟨x,hx⟩:=h;have key:∀ n,∀ x,x=n->C x->∃ x,C x/\∀ y,C y->x<=y:=by
   intro n
   induction n using Nat.strongRecOn with
   | ind n ih=>
    intro x hn hx
    by_cases c:∃ y,C y/\y<x
    ·obtain⟨y,h1,h2⟩:=c;exact ih y oo y rfl h1
    ·exact⟨x,hx,fun y hy=>by
      by_cases g:x<=y
      ·exact g
      ·exact absurd ⟨y,hy,oo⟩ c⟩
  exact key x x rfl hx
 obtain⟨x,hx,hx2⟩:=least hex;have ex:∀ t,∃ i,Last m (j t) x i:=fun t=>by
  obtain⟨i,h1,h2⟩:=hU x hx t;exact Aql h1 h2
 have hrs:∀ t,Last m (j t) x (Classical.choose (ex t)):=fun t=>Classical.choose_spec (ex t)
 generalize hr:(fun t=>Classical.choose (ex t))=r at *;have hrs:∀ t,Last m (j t) x (r t):=fun t=>by rw[<- hr];exact hrs t
 obtain⟨T,B,b1,t,b2,b3,b4,b5⟩:=Ba1 hw hu (fun t=>(hrs t).1) (fun t=>Aje (hp t) (hmv t) (hrs t) (hrs (t+1)));have still:j (t+1) B=j t B:=by
  have l1:=hrs t;have l2:=hrs (t+1);rw[b3] at l1;rw[b5] at l2;rw[l1.2.1,l2.2.1]
 obtain⟨y0,y1,y2⟩:=gU x t B hx (by have:=hrs t;rwa [b3] at this) b4 still;have hxB:j t B=x:=by have:=(hrs t).2.1;rwa [b3] at this
 obtain⟨y,hy,hy2⟩:=least ⟨y0,y1⟩;have hyB:y<B-x:=by
  have:=hy2 y0 y1;unfold cop at y2;rw[hxB] at y2;omega
 have ey:∀ t,∃ i,Last m (cop (j (T+t))) y i:=fun t=>by
  obtain⟨i,h1,h2⟩:=hL y hy (T+t);exact Aql h1 h2
 have hqs:∀ t,Last m (cop (j (T+t))) y (Classical.choose (ey t)):=fun t=>Classical.choose_spec (ey t)
 generalize hq:(fun t=>Classical.choose (ey t))=q at *;have hqs:∀ t,Last m (cop (j (T+t))) y (q t):=fun t=>by rw[<- hq];exact hqs t
 have ahead:∀ t,j (T+t) (q t)<=x:=fun t=>by
  have h1:=b1 (T+t) oo;have h2:=hrs (T+t);have h3:=hqs t;have h4:cop (j (T+t)) (r (T+t))=r (T+t)-x:=by unfold cop;rw[h2.2.1]
  have h5:q t<=r (T+t):=by
   refine Classical.byContradiction fun g=>?_
   have:=(hp (T+t)).other.mono (r (T+t)) (q t) oo h3.1;rw[h4,h3.2.1] at this;omega
  have:=(hp (T+t)).mono (q t) (r (T+t)) h5 h2.1;rw[h2.2.1] at this;exact this
 obtain⟨T',B',c1,t',c2,c3,c4,c5⟩:=Ba1 (s:=fun t=>s (T+t)) (r:=q) (m:=m)
  (fun t i hi=>by
   obtain⟨t',h1,h2,h3⟩:=hw (T+t) i hi;exact⟨t'-T,oo,oo,by rw[show T+(t'-T)=t' by omega];exact h3⟩)
  (fun t t' h1 h2=>hu (T+t) (T+t') oo oo) (fun t=>(hqs t).1)
  (fun t=>Aje (hp (T+t)).other (Move.other (hp (T+t)) (hs _) (hmv (T+t))) (hqs t) (hqs (t+1)))
 have l1:=hqs t';have l2:=hqs (t' + 1);rw[c3] at l1;rw[c5] at l2;have still':j (T+t' + 1) B'=j (T+t') B':=by
  have e1:=l1.2.1;have e2:cop (j (T+t' + 1)) B'=y:=l2.2.1;have e3:=(hp (T+t')).le B' l1.1;have e4:=(hp (T+t' + 1)).le B' l1.1;unfold cop at e1 e2;omega
 obtain⟨x',x1,x2⟩:=gL y (T+t') B' hy l1 c4 still';have:=hx2 x' x1;have:=ahead t';rw[c3] at this;omega
end Go.Proofs.YthlkpgdfifnagaaGreat
namespace Go.Proofs.YthlkpgdfifnagaaGreat
open Go Go.RowKit
theorem Akr(A B s p q r:Aa):(crs A B p-crs A B s)*crs s q r+(crs A B q-crs A B s)*crs s r p+(crs A B r-crs A B s)*crs s p q=0:=by unfold crs;grind
theorem Aqm{A B s p q r:Aa}(h1:0<crs s p q)(h2:0<crs s q r)(hp:crs A B s<crs A B p)(hq:crs A B s<crs A B q)(hr:crs A B s<=crs A B r):0<crs s p r:=by
 have h:=Akr A B s p q r;rw[Bl s p r] at h;have m1:=Int.mul_pos (show 0<crs A B p-crs A B s by omega) h2;have m2:=Int.mul_nonneg (show 0<=crs A B r-crs A B s by omega) (Int.le_of_lt h1);have m3:(crs A B q-crs A B s) * -crs s p r = -((crs A B q-crs A B s)*crs s p r):=Int.mul_neg _ _;exact Cj (x:=crs A B q-crs A B s) oo oo
theorem Ahg{A B s p q r:Aa}(h1:0<crs s p q)(h2:0<crs s q r)(hp:crs A B p<crs A B s)(hq:crs A B q<crs A B s)(hr:crs A B r<=crs A B s):0<crs s p r:=by
 have h:=Akr A B s p q r;rw[Bl s p r] at h;have m1:=Int.mul_pos (show 0<crs A B s-crs A B p by omega) h2;have m2:=Int.mul_nonneg (show 0<=crs A B s-crs A B r by omega) (Int.le_of_lt h1);have m3:(crs A B q-crs A B s) * -crs s p r=(crs A B s-crs A B q)*crs s p r:=by grind
 have m4:(crs A B p-crs A B s)*crs s q r = -((crs A B s-crs A B p)*crs s q r):=by grind
 have m5:(crs A B r-crs A B s)*crs s p q = -((crs A B s-crs A B r)*crs s p q):=by grind
 exact Cj (x:=crs A B s-crs A B q) oo oo
theorem Aqn{A B u w k l:Aa}(hw:crs A B w<0)(hk0:0<=crs A B k)(hl0:0<=crs A B l)(hu:0<crs A B u)(t1:0<crs u w k)(t2:0<crs w u l)(hl:crs A B l<crs A B u)(hk:crs A B k<=crs A B u):
  0<crs k u l/\0<crs l w k:=by
 constructor
 ·-- around u: l,w,k,all Zm
  have:=Ahg (A:=A) (B:=B) (s:=u) (p:=l) (q:=w) (r:=k) (by rw[Ar];exact t2) t1 hl oo hk;rw[<- Ar] at this;rw[<- Ar] at this;exact this
 ·-- around w: k,u,l,all above
  have:=Aqm (A:=A) (B:=B) (s:=w) (p:=k) (q:=u) (r:=l) (by rw[<- Ar];rw[<- Ar];exact t1) t2 oo oo oo;rw[<- Ar] at this;rw[<- Ar] at this;exact this
theorem Au7{A B u w w' k:Aa}(hw:crs A B w<0)(hw':crs A B w'<0)(hk0:0<=crs A B k)(hu:0<crs A B u)(t1:0<crs u w k)(t2:0<crs u w' w)(hk:crs A B k<=crs A B u):
  0<crs k u w'/\(crs w' w k<=0->crs A B w'<crs A B w):=by
 constructor
 ·have:=Ahg (A:=A) (B:=B) (s:=u) (p:=w') (q:=w) (r:=k) t2 t1 oo oo hk;rw[<- Ar] at this;rw[<- Ar] at this;exact this
 ·intro h;refine Classical.byContradiction fun g=>?_
  have:=Aqm (A:=A) (B:=B) (s:=w) (p:=k) (q:=u) (r:=w') (by rw[<- Ar];rw[<- Ar];exact t1) (by rw[<- Ar];exact t2) oo oo oo;rw[<- Ar] at this;rw[<- Ar] at this;omega
variable {P:Int->Aa} {V:Int->Prop} {ap:Ap} {a b:Int}
structure El(P:Int->Aa)(ap:Ap)(a b:Int)(m:Nat)(u w:Nat->Int):Prop where
 up:∀ i,i<m->0<crs (P a) (P b) (P (u i))
 lo:∀ i,i<m->crs (P a) (P b) (P (w i))<0
 first:0<m->ap (w 0) (u 0)=some a
 last:∀ i,i+1=m->ap (u i) (w i)=some b
 next:∀ i,i+1<m->(u (i+1)=u i/\ap (u i) (w i)=some (w (i+1)))\/(w (i+1)=w i/\ap (u i) (w i)=some (u (i+1)))
section
variable {m:Nat} {u w:Nat->Int}
theorem Ajf:crs (P a) (P b) (P b)=0:=Bo _ _
theorem Ajg:crs (P a) (P b) (P a)=0:=Bv _ _
theorem El.ne(h:El P ap a b m u w){i j:Nat}(hi:i<m)(hj:j<m):u i≠w j:=fun e=>by
 have h1:=h.up i hi;have h2:=h.lo j hj;rw[e] at h1;omega
theorem El.inj(h:El P ap a b m u w):∀ i j,i<j->j<m->¬ (u i=u j/\w i=w j):=by
 have key:∀ n i j,m-j=n->i<j->j<m->¬ (u i=u j/\w i=w j):=by
  intro n
  induction n using Nat.strongRecOn with
  | ind n ih=>
   intro i j hn hij hj ⟨e1,e2⟩
   by_cases c:j+1=m
   ·have h1:=h.last j c;rw[<- e1,<- e2] at h1;rcases h.next i oo with⟨g1,g2⟩|⟨g1,g2⟩
    ·rw[h1] at g2;have:=h.lo (i+1) oo;rw[<- Option.some.inj g2,Ajf] at this;omega
    ·rw[h1] at g2;have:=h.up (i+1) oo;rw[<- Option.some.inj g2,Ajf] at this;omega
   ·refine ih (m-(j+1)) oo (i+1) (j+1) rfl oo oo ?_;rcases h.next i oo with⟨g1,g2⟩|⟨g1,g2⟩ <;> rcases h.next j oo with⟨k1,k2⟩|⟨k1,k2⟩
    ·rw[e1,e2,k2] at g2;exact⟨by rw[g1,k1,e1],(Option.some.inj g2).symm⟩
    ·rw[e1,e2,k2] at g2;exact absurd (Option.some.inj g2) (h.ne oo oo)
    ·rw[e1,e2,k2] at g2;exact absurd (Option.some.inj g2).symm (h.ne oo oo)
    ·rw[e1,e2,k2] at g2;exact⟨(Option.some.inj g2).symm,by rw[g1,k1,e2]⟩
 intro i j;exact key _ i j rfl
theorem El.prev(h:El P ap a b m u w)(ht:Tri P V ap){i:Nat}(hi:i+1<m):(u (i+1)=u i/\ap (w (i+1)) (u (i+1))=some (w i))\/(w (i+1)=w i/\ap (w (i+1)) (u (i+1))=some (u i)):=by
 rcases h.next i hi with⟨g1,g2⟩|⟨g1,g2⟩
 ·left;refine⟨g1,?_⟩;rw[g1];exact ht.rot2 g2
 ·right;refine⟨g1,?_⟩;rw[g1];exact ht.rot _ _ _ g2
end
theorem Abe{i j k l:Int}(q:Quad P V ap i j k l):Dz ap i j k l i l=some k/\Dz ap i j k l l k=some i/\Dz ap i j k l k i=some l/\Dz ap i j k l j k=some l/\Dz ap i j k l k l=some j/\Dz ap i j k l l j=some k:=by
 obtain⟨n1,n2,n3,n4,n5,n6⟩:=q.ne;unfold Dz;refine⟨?_,?_,?_,?_,?_,?_⟩ <;> grind
theorem Ajh{i j k l x y:Int}(h1:¬ (x=i/\y=l))(h2:¬ (x=l/\y=k))(h3:¬ (x=k/\y=i))(h4:¬ (x=j/\y=k))(h5:¬ (x=k/\y=l))(h6:¬ (x=l/\y=j))(h7:¬ (x=i/\y=j))(h8:¬ (x=j/\y=i)):Dz ap i j k l x y=ap x y:=by
 unfold Dz;rw[if_neg h1,if_neg h2,if_neg h3,if_neg h4,if_neg h5,if_neg h6,if_neg h7,if_neg h8]
def cutF(i:Nat)(f:Nat->Int)(k:Nat):Int:=if k<i then f k else f (k+1)
def setF(i:Nat)(x:Int)(f:Nat->Int)(k:Nat):Int:=if k=i then x else f k
end Go.Proofs.YthlkpgdfifnagaaGreat
namespace Go.Proofs.YthlkpgdfifnagaaGreat
open Go Go.RowKit
variable {P:Int->Aa} {V:Int->Prop} {ap:Ap} {a b:Int} {m:Nat} {u w:Nat->Int}
def Bb1(a:Int)(u w:Nat->Int)(i:Nat)(l:Int):Prop:=(i=0/\l=a)\/(0<i/\u i=u (i-1)/\l=w (i-1))\/(0<i/\w i=w (i-1)/\l=u (i-1))
def Ayw(b:Int)(m:Nat)(u w:Nat->Int)(i:Nat)(k:Int):Prop:=(i+1=m/\k=b)\/(i+1<m/\u (i+1)=u i/\k=w (i+1))\/(i+1<m/\w (i+1)=w i/\k=u (i+1))
theorem El.left(h:El P ap a b m u w)(ht:Tri P V ap){i:Nat}(hi:i<m){l:Int}(hl:ap (w i) (u i)=some l):Bb1 a u w i l:=by
 by_cases c:i=0
 ·subst c;rw[h.first hi] at hl;exact .inl ⟨rfl,(Option.some.inj hl).symm⟩
 ·obtain⟨j,rfl⟩:∃ j,i=j+1:=⟨i-1,oo⟩;rcases h.prev ht hi with⟨g1,g2⟩|⟨g1,g2⟩ <;> rw[hl] at g2
  ·exact .inr (.inl ⟨oo,g1,Option.some.inj g2⟩)
  ·exact .inr (.inr ⟨oo,g1,Option.some.inj g2⟩)
theorem El.right(h:El P ap a b m u w){i:Nat}(hi:i<m){k:Int}(hk:ap (u i) (w i)=some k):Ayw b m u w i k:=by
 by_cases c:i+1=m
 ·rw[h.last i c] at hk;exact .inl ⟨c,(Option.some.inj hk).symm⟩
 ·rcases h.next i oo with⟨g1,g2⟩|⟨g1,g2⟩ <;> rw[hk] at g2
  ·exact .inr (.inl ⟨oo,g1,Option.some.inj g2⟩)
  ·exact .inr (.inr ⟨oo,g1,Option.some.inj g2⟩)
section
variable {i:Nat} {k l:Int}
theorem El.keepR(h:El P ap a b m u w)(hi:i<m)(q:Quad P V ap (u i) (w i) k l){j:Nat}(hj:j<m)(n1:j≠i)(n2:j+1≠i):Dz ap (u i) (w i) k l (u j) (w j)=ap (u j) (w j):=by
 have hl:=h.left q.tri hi q.hl;have fr:=q.fresh;have some_:ap (u j) (w j)≠none:=by
  by_cases c:j+1=m
  ·rw[h.last j c];simp
  ·rcases h.next j oo with⟨_,g⟩|⟨_,g⟩ <;> (rw[g];simp)
 refine Ajh (fun e=>?_) (fun e=>?_) (fun e=>?_) (fun e=>?_) (fun e=>?_) (fun e=>?_) (fun e=>?_) (fun e=>?_)
 ·-- (u i,l)
  rcases hl with⟨g1,g2⟩|⟨g1,g2,g3⟩|⟨g1,g2,g3⟩
  ·have:=h.lo j hj;rw[e.2,g2,Ajg] at this;omega
  ·have e1:u j=u (i-1)/\w j=w (i-1):=⟨by rw[e.1,g2],by rw[e.2,g3]⟩;rcases Nat.lt_trichotomy j (i-1) with c | c | c
   ·exact h.inj j (i-1) c oo e1
   ·omega
   ·exact h.inj (i-1) j c hj ⟨e1.1.symm,e1.2.symm⟩
  ·exact h.ne (i:=i-1) (j:=j) oo hj (by rw[e.2,g3])
 ·rw[e.1,e.2] at some_;exact some_ fr.2
 ·exact h.ne (i:=i) (j:=j) hi hj e.2.symm
 ·exact h.ne (i:=j) (j:=i) hj hi e.1
 ·rw[e.1,e.2] at some_;exact some_ fr.1
 ·-- (l,w i)
  rcases hl with⟨g1,g2⟩|⟨g1,g2,g3⟩|⟨g1,g2,g3⟩
  ·have:=h.up j hj;rw[e.1,g2,Ajg] at this;omega
  ·exact h.ne (i:=j) (j:=i-1) hj oo (by rw[e.1,g3])
  ·have e1:u j=u (i-1)/\w j=w (i-1):=⟨by rw[e.1,g3],by rw[e.2,g2]⟩;rcases Nat.lt_trichotomy j (i-1) with c | c | c
   ·exact h.inj j (i-1) c oo e1
   ·omega
   ·exact h.inj (i-1) j c hj ⟨e1.1.symm,e1.2.symm⟩
 ·rcases Nat.lt_trichotomy j i with c | c | c
  ·exact h.inj j i c hi e
  ·exact n1 c
  ·exact h.inj i j c hj ⟨e.1.symm,e.2.symm⟩
 ·exact h.ne (i:=j) (j:=i) hj hi e.1
theorem El.keepL(h:El P ap a b m u w)(hi:i<m)(q:Quad P V ap (u i) (w i) k l)(h0:0<i):Dz ap (u i) (w i) k l (w 0) (u 0)=some a:=by
 have hk:=h.right hi q.hk;have fr:=q.fresh;have hf:=h.first oo;rw[Ajh,hf]
 ·exact fun e=>h.ne (i:=i) (j:=0) hi oo e.1.symm
 ·intro e;rw[e.1,e.2,fr.2] at hf;cases hf
 ·-- (k,u i)
  intro e;rcases hk with⟨g1,g2⟩|⟨g1,g2,g3⟩|⟨g1,g2,g3⟩
  ·have:=h.lo 0 oo;rw[e.1,g2,Ajf] at this;omega
  ·exact h.inj 0 (i+1) oo g1 ⟨by rw[e.2,g2],by rw[e.1,g3]⟩
  ·exact h.ne (i:=i+1) (j:=0) g1 oo (by rw[e.1,g3])
 ·-- (w i,k)
  intro e;rcases hk with⟨g1,g2⟩|⟨g1,g2,g3⟩|⟨g1,g2,g3⟩
  ·have:=h.up 0 oo;rw[e.2,g2,Ajf] at this;omega
  ·exact h.ne (i:=0) (j:=i+1) oo g1 (by rw[e.2,g3])
  ·exact h.inj 0 (i+1) oo g1 ⟨by rw[e.2,g3],by rw[e.1,g2]⟩
 ·intro e;rw[e.1,e.2,fr.1] at hf;cases hf
 ·exact fun e=>h.ne (i:=0) (j:=i) oo hi e.2
 ·exact fun e=>h.ne (i:=i) (j:=0) hi oo e.1.symm
 ·exact fun e=>h.inj 0 i h0 hi ⟨e.2,e.1⟩
theorem El.cut(h:El P ap a b m u w)(hi:i<m)(q:Quad P V ap (u i) (w i) k l)(hc:(i=0\/i+1=m)\/(0<i/\i+1<m/\((u i=u (i-1)/\u (i+1)=u i)\/(w i=w (i-1)/\w (i+1)=w i)))):
  El P (Dz ap (u i) (w i) k l) a b (m-1) (cutF i u) (cutF i w):=by
 have hl:=h.left q.tri hi q.hl;have hk:=h.right hi q.hk;obtain⟨v1,v2,v3,v4,v5,v6⟩:=Abe q;have at_:∀ (f:Nat->Int) t,t<i->cutF i f t=f t:=fun f t ht=>if_pos ht
 have at':∀ (f:Nat->Int) t,¬ t<i->cutF i f t=f (t+1):=fun f t ht=>if_neg ht
 refine⟨fun t ht=>?_,fun t ht=>?_,fun h0=>?_,fun t ht=>?_,fun t ht=>?_⟩
 ·by_cases c:t<i
  ·rw[at_ _ _ c];exact h.up t oo
  ·rw[at' _ _ c];exact h.up (t+1) oo
 ·by_cases c:t<i
  ·rw[at_ _ _ c];exact h.lo t oo
  ·rw[at' _ _ c];exact h.lo (t+1) oo
 ·by_cases c:i=0
  ·rw[at' _ _ oo,at' _ _ oo];have ha:l=a:=by
    rcases hl with⟨_,g⟩|⟨g,_⟩|⟨g,_⟩
    ·exact g
    ·omega
    ·omega
   subst c;rcases hk with⟨g1,g2⟩|⟨g1,g2,g3⟩|⟨g1,g2,g3⟩
   ·omega
   ·rw[show (0+1:Nat)=1 from rfl] at *;rw[<- g3,g2,v3,ha]
   ·rw[show (0+1:Nat)=1 from rfl] at *;rw[<- g3,g2,v4,ha]
  ·rw[at_ _ _ oo,at_ _ _ oo];exact h.keepL hi q oo
 ·by_cases c:i+1=m
  ·have hb:k=b:=by
    rcases hk with⟨_,g⟩|⟨g,_⟩|⟨g,_⟩
    ·exact g
    ·omega
    ·omega
   have ht':t=i-1:=oo;rw[at_ _ _ oo,at_ _ _ oo,ht'];rcases hl with⟨g1,g2⟩|⟨g1,g2,g3⟩|⟨g1,g2,g3⟩
   ·omega
   ·rw[<- g2,<- g3,v1,hb]
   ·rw[<- g3,<- g2,v6,hb]
  ·rw[at' _ _ oo,at' _ _ oo,h.keepR hi q oo oo oo];exact h.last (t+1) oo
 ·by_cases c:t+1<i
  ·rw[at_ _ _ (show t<i by omega),at_ _ _ (show t<i by omega),at_ _ _ c,at_ _ _ c,h.keepR hi q oo oo oo];exact h.next t oo
  ·by_cases c2:t+1=i
   ·have ht':t=i-1:=oo;rw[at_ _ _ (show t<i by omega),at_ _ _ (show t<i by omega),at' _ _ (show ¬ t+1<i by omega),at' _ _ (show ¬ t+1<i by omega)];have e1:t+1+1=i+1:=oo;rw[e1,ht'];rcases hc with (g | g) | ⟨g1,g2,⟨g3,g4⟩|⟨g3,g4⟩⟩
    ·omega
    ·omega
    ·left;have el:l=w (i-1):=by
      rcases hl with⟨g,_⟩|⟨_,_,g⟩|⟨_,g,g'⟩
      ·omega
      ·exact g
      ·exact absurd ⟨g3.symm,g.symm⟩ (h.inj (i-1) i oo hi)
     have ek:k=w (i+1):=by
      rcases hk with⟨g,_⟩|⟨_,_,g⟩|⟨_,g,g'⟩
      ·omega
      ·exact g
      ·exact absurd ⟨g4.symm,g.symm⟩ (h.inj i (i+1) oo g2)
     exact⟨by rw[g4,g3],by rw[<- g3,<- el,v1,ek]⟩
    ·right;have el:l=u (i-1):=by
      rcases hl with⟨g,_⟩|⟨_,g,g'⟩|⟨_,_,g⟩
      ·omega
      ·exact absurd ⟨g.symm,g3.symm⟩ (h.inj (i-1) i oo hi)
      ·exact g
     have ek:k=u (i+1):=by
      rcases hk with⟨g,_⟩|⟨_,g,g'⟩|⟨_,_,g⟩
      ·omega
      ·exact absurd ⟨g.symm,g4.symm⟩ (h.inj i (i+1) oo g2)
      ·exact g
     exact⟨by rw[g4,g3],by rw[<- g3,<- el,v6,ek]⟩
   ·rw[at' _ _ (show ¬ t<i by omega),at' _ _ (show ¬ t<i by omega),at' _ _ (show ¬ t+1<i by omega),at' _ _ (show ¬ t+1<i by omega),h.keepR hi q oo oo oo];exact h.next (t+1) oo
theorem El.turnU(h:El P ap a b m u w)(hi:i<m)(q:Quad P V ap (u i) (w i) k l)(h0:0<i)(h1:i+1<m)(hu:u i=u (i-1))(hw:w (i+1)=w i):
  k=u (i+1)/\l=w (i-1)/\El P (Dz ap (u i) (w i) k l) a b m (setF i k u) (setF i l w):=by
 have hl:=h.left q.tri hi q.hl;have hk:=h.right hi q.hk;obtain⟨v1,v2,v3,v4,v5,v6⟩:=Abe q;have el:l=w (i-1):=by
  rcases hl with⟨g,_⟩|⟨_,_,g⟩|⟨_,g,g'⟩
  ·omega
  ·exact g
  ·exact absurd ⟨hu.symm,g.symm⟩ (h.inj (i-1) i oo hi)
 have ek:k=u (i+1):=by
  rcases hk with⟨g,_⟩|⟨_,g,g'⟩|⟨_,_,g⟩
  ·omega
  ·exact absurd ⟨g.symm,hw.symm⟩ (h.inj i (i+1) oo h1)
  ·exact g
 have at_:∀ (x:Int) (f:Nat->Int) t,t≠i->setF i x f t=f t:=fun x f t ht=>if_neg ht
 have at':∀ (x:Int) (f:Nat->Int),setF i x f i=x:=fun x f=>if_pos rfl
 refine⟨ek,el,fun t ht=>?_,fun t ht=>?_,fun _=>?_,fun t ht=>?_,fun t ht=>?_⟩
 ·by_cases c:t=i
  ·rw[c,at',ek];exact h.up (i+1) h1
  ·rw[at_ _ _ _ c];exact h.up t ht
 ·by_cases c:t=i
  ·rw[c,at',el];exact h.lo (i-1) oo
  ·rw[at_ _ _ _ c];exact h.lo t ht
 ·rw[at_ _ _ _ oo,at_ _ _ _ oo];exact h.keepL hi q h0
 ·rw[at_ _ _ _ oo,at_ _ _ _ oo,h.keepR hi q oo oo oo];exact h.last t ht
 ·by_cases c:t=i
  ·left;rw[c,at',at',at_ _ _ _ oo,at_ _ _ _ oo,v5,hw];exact⟨ek.symm,rfl⟩
  ·by_cases c2:t+1=i
   ·right;have ht':t=i-1:=oo;rw[c2,at',at',at_ _ _ _ c,at_ _ _ _ c,ht',<- hu,<- el,v1];exact⟨rfl,rfl⟩
   ·rw[at_ _ _ _ c,at_ _ _ _ c,at_ _ _ _ c2,at_ _ _ _ c2,h.keepR hi q oo c c2];exact h.next t ht
theorem El.turnL(h:El P ap a b m u w)(hi:i<m)(q:Quad P V ap (u i) (w i) k l)(h0:0<i)(h1:i+1<m)(hw:w i=w (i-1))(hu:u (i+1)=u i):
  k=w (i+1)/\l=u (i-1)/\El P (Dz ap (u i) (w i) k l) a b m (setF i l u) (setF i k w):=by
 have hl:=h.left q.tri hi q.hl;have hk:=h.right hi q.hk;obtain⟨v1,v2,v3,v4,v5,v6⟩:=Abe q;have el:l=u (i-1):=by
  rcases hl with⟨g,_⟩|⟨_,g,g'⟩|⟨_,_,g⟩
  ·omega
  ·exact absurd ⟨g.symm,hw.symm⟩ (h.inj (i-1) i oo hi)
  ·exact g
 have ek:k=w (i+1):=by
  rcases hk with⟨g,_⟩|⟨_,_,g⟩|⟨_,g,g'⟩
  ·omega
  ·exact g
  ·exact absurd ⟨hu.symm,g.symm⟩ (h.inj i (i+1) oo h1)
 have at_:∀ (x:Int) (f:Nat->Int) t,t≠i->setF i x f t=f t:=fun x f t ht=>if_neg ht
 have at':∀ (x:Int) (f:Nat->Int),setF i x f i=x:=fun x f=>if_pos rfl
 refine⟨ek,el,fun t ht=>?_,fun t ht=>?_,fun _=>?_,fun t ht=>?_,fun t ht=>?_⟩
 ·by_cases c:t=i
  ·rw[c,at',el];exact h.up (i-1) oo
  ·rw[at_ _ _ _ c];exact h.up t ht
 ·by_cases c:t=i
  ·rw[c,at',ek];exact h.lo (i+1) h1
  ·rw[at_ _ _ _ c];exact h.lo t ht
 ·rw[at_ _ _ _ oo,at_ _ _ _ oo];exact h.keepL hi q h0
 ·rw[at_ _ _ _ oo,at_ _ _ _ oo,h.keepR hi q oo oo oo];exact h.last t ht
 ·by_cases c:t=i
  ·right;rw[c,at',at',at_ _ _ _ oo,at_ _ _ _ oo,v2,hu];exact⟨ek.symm,rfl⟩
  ·by_cases c2:t+1=i
   ·left;have ht':t=i-1:=oo;rw[c2,at',at',at_ _ _ _ c,at_ _ _ _ c,ht',<- hw,<- el,v6];exact⟨rfl,rfl⟩
   ·rw[at_ _ _ _ c,at_ _ _ _ c,at_ _ _ _ c2,at_ _ _ _ c2,h.keepR hi q oo c c2];exact h.next t ht
end
end Go.Proofs.YthlkpgdfifnagaaGreat
namespace Go.Proofs.YthlkpgdfifnagaaGreat
open Go Go.RowKit
theorem Amq{A B s p q r:Aa}(h1:0<crs s p q)(h2:0<crs s q r)(hp:crs A B s<=crs A B p)(hq:crs A B s<crs A B q)(hr:crs A B s<crs A B r):0<crs s p r:=by
 have h:=Akr A B s p q r;rw[Bl s p r] at h;have m1:=Int.mul_nonneg (show 0<=crs A B p-crs A B s by omega) (Int.le_of_lt h2);have m2:=Int.mul_pos (show 0<crs A B r-crs A B s by omega) h1;have m3:(crs A B q-crs A B s) * -crs s p r = -((crs A B q-crs A B s)*crs s p r):=Int.mul_neg _ _;exact Cj (x:=crs A B q-crs A B s) oo oo
theorem Aso{A B s p q r:Aa}(h1:0<crs s p q)(h2:0<crs s q r)(hp:crs A B p<=crs A B s)(hq:crs A B q<crs A B s)(hr:crs A B r<crs A B s):0<crs s p r:=by
 have h:=Akr A B s p q r;rw[Bl s p r] at h;have m1:=Int.mul_nonneg (show 0<=crs A B s-crs A B p by omega) (Int.le_of_lt h2);have m2:=Int.mul_pos (show 0<crs A B s-crs A B r by omega) h1;have m3:(crs A B q-crs A B s) * -crs s p r=(crs A B s-crs A B q)*crs s p r:=by grind
 have m4:(crs A B p-crs A B s)*crs s q r = -((crs A B s-crs A B p)*crs s q r):=by grind
 have m5:(crs A B r-crs A B s)*crs s p q = -((crs A B s-crs A B r)*crs s p q):=by grind
 exact Cj (x:=crs A B s-crs A B q) oo oo
theorem Aqo{A B u w k l:Aa}(hu:0<crs A B u)(hk0:crs A B k<=0)(hl0:crs A B l<=0)(hw:crs A B w<0)(t1:0<crs u w k)(t2:0<crs w u l)(hl:crs A B w<crs A B l)(hk:crs A B w<=crs A B k):
  0<crs k u l/\0<crs l w k:=by
 constructor
 ·have:=Ahg (A:=A) (B:=B) (s:=u) (p:=l) (q:=w) (r:=k) (by rw[Ar];exact t2) t1 oo oo oo;rw[<- Ar] at this;rw[<- Ar] at this;exact this
 ·have:=Amq (A:=A) (B:=B) (s:=w) (p:=k) (q:=u) (r:=l) (by rw[<- Ar];rw[<- Ar];exact t1) t2 hk oo hl;rw[<- Ar] at this;rw[<- Ar] at this;exact this
theorem Au8{A B u u' w k:Aa}(hu:0<crs A B u)(hu':0<crs A B u')(hk0:crs A B k<=0)(hw:crs A B w<0)(t1:0<crs u w k)(t2:0<crs w u u')(hk:crs A B w<=crs A B k):
  0<crs u' w k/\(crs k u u'<=0->crs A B u<crs A B u'):=by
 constructor
 ·have:=Amq (A:=A) (B:=B) (s:=w) (p:=k) (q:=u) (r:=u') (by rw[<- Ar];rw[<- Ar];exact t1) t2 hk oo oo;rw[<- Ar] at this;rw[<- Ar] at this;exact this
 ·intro h;refine Classical.byContradiction fun g=>?_
  have:=Aso (A:=A) (B:=B) (s:=u) (p:=u') (q:=w) (r:=k) (by rw[Ar];exact t2) t1 oo oo oo;rw[<- Ar] at this;rw[<- Ar] at this;omega
def ups(u:Nat->Int):Nat->Nat
 | 0=>0
 | i+1=>ups u i+(if u (i+1)=u i then 0 else 1)
theorem Hj(u:Nat->Int)(i:Nat):ups u (i+1)=ups u i+(if u (i+1)=u i then 0 else 1):=rfl
theorem Fn(m:Nat)(u:Nat->Int):Path m (ups u):=⟨rfl,fun i _=>by simp only[ups];split <;> omega⟩
theorem Au9{u u':Nat->Int}:∀ i,(∀ k,k<=i->u' k=u k)->ups u' i=ups u i:=by
 intro i
 induction i with
 | zero=>intro _;rfl
 | succ i ih=>
  intro h;simp only[ups];rw[ih fun k hk=>h k oo,h (i+1) (Nat.le_refl _),h i oo]
theorem Abf{u:Nat->Int}{i:Nat}{x:Int}(h0:0<i):∀ k,k<i->ups (setF i x u) k=ups u k:=fun k hk=>Au9 k fun t ht=>if_neg oo
variable {P:Int->Aa} {V:Int->Prop} {ap:Ap} {a b:Int} {m:Nat} {u w:Nat->Int}
theorem Bb2(h:El P ap a b m u w){i:Nat}(h0:0<i)(h1:i+1<m)(hu:u i=u (i-1))(hw:w (i+1)=w i):Move m (ups u) (ups (setF i (u (i+1)) u)) i:=by
 obtain⟨n,rfl⟩:∃ n,i=n+1:=⟨i-1,oo⟩;have hne:u (n+1+1)≠u (n+1):=fun e=>h.inj (n+1) (n+1+1) oo h1 ⟨e.symm,hw.symm⟩
 rw[show n+1-1=n from rfl] at hu;have s1:setF (n+1) (u (n+1+1)) u (n+1)=u (n+1+1):=if_pos rfl;have s0:setF (n+1) (u (n+1+1)) u n=u n:=if_neg oo;have s2:setF (n+1) (u (n+1+1)) u (n+1+1)=u (n+1+1):=if_neg oo;have e0:ups (setF (n+1) (u (n+1+1)) u) n=ups u n:=Abf oo n oo;have e1:ups u (n+1)=ups u n:=by simp only[ups];rw[if_pos hu];rfl
 have e1':ups (setF (n+1) (u (n+1+1)) u) (n+1)=ups u n+1:=by simp only[ups];rw[s1,s0,if_neg (by rw[<- hu];exact hne),e0]
 have e2:ups u (n+1+1)=ups u n+1:=by rw[<- e1];show ups u (n+1)+_=_;rw[if_neg hne]
 have e2':ups (setF (n+1) (u (n+1+1)) u) (n+1+1)=ups u n+1:=by show ups _ (n+1)+_=_;rw[s1,s2,if_pos rfl,e1']
 refine⟨fun k hk=>?_,.inr (.inl ⟨oo,h1,?_,?_,?_⟩)⟩
 ·by_cases c:k<n+1
  ·exact Abf oo k c
  ·-- behind it all is as before
   have key:∀ d,ups (setF (n+1) (u (n+1+1)) u) (n+1+1+d)=ups u (n+1+1+d):=by
    intro d
    induction d with
    | zero=>rw[Nat.add_zero,e2,e2']
    | succ d ih=>
     rw[show n+1+1+(d+1)=n+1+1+d+1 from rfl,Hj,Hj,ih,show setF (n+1) (u (n+1+1)) u (n+1+1+d+1)=u (n+1+1+d+1) from if_neg oo,show setF (n+1) (u (n+1+1)) u (n+1+1+d)=u (n+1+1+d) from if_neg oo]
   have:=key (k-(n+1+1))
   rwa [show n+1+1+(k-(n+1+1))=k by omega] at this
 ·rw[show n+1-1=n from rfl,e1]
 ·rw[e2,e1]
 ·rw[e1',e1]
theorem Bb3(h:El P ap a b m u w){i:Nat}(h0:0<i)(h1:i+1<m)(hw:w i=w (i-1))(hu:u (i+1)=u i):Move m (ups u) (ups (setF i (u (i-1)) u)) i:=by
 obtain⟨n,rfl⟩:∃ n,i=n+1:=⟨i-1,oo⟩;rw[show n+1-1=n from rfl] at *;have hne:u (n+1)≠u n:=fun e=>h.inj n (n+1) oo oo ⟨e.symm,hw.symm⟩
 have s1:setF (n+1) (u n) u (n+1)=u n:=if_pos rfl;have s0:setF (n+1) (u n) u n=u n:=if_neg oo;have s2:setF (n+1) (u n) u (n+1+1)=u (n+1+1):=if_neg oo;have e0:ups (setF (n+1) (u n) u) n=ups u n:=Abf oo n oo;have e1:ups u (n+1)=ups u n+1:=by simp only[ups];rw[if_neg hne]
 have e1':ups (setF (n+1) (u n) u) (n+1)=ups u n:=by simp only[ups];rw[s1,s0,if_pos rfl,e0];rfl
 have e2:ups u (n+1+1)=ups u n+1:=by show ups u (n+1)+_=_;rw[if_pos hu,e1]
 have e2':ups (setF (n+1) (u n) u) (n+1+1)=ups u n+1:=by show ups _ (n+1)+_=_;rw[s1,s2,if_neg (by rw[hu];exact hne),e1']
 refine⟨fun k hk=>?_,.inr (.inr ⟨oo,h1,?_,?_,?_⟩)⟩
 ·by_cases c:k<n+1
  ·exact Abf oo k c
  ·have key:∀ d,ups (setF (n+1) (u n) u) (n+1+1+d)=ups u (n+1+1+d):=by
    intro d
    induction d with
    | zero=>rw[Nat.add_zero,e2,e2']
    | succ d ih=>
     rw[show n+1+1+(d+1)=n+1+1+d+1 from rfl,Hj,Hj,ih,show setF (n+1) (u n) u (n+1+1+d+1)=u (n+1+1+d+1) from if_neg oo,show setF (n+1) (u n) u (n+1+1+d)=u (n+1+1+d) from if_neg oo]
   have:=key (k-(n+1+1))
   rwa [show n+1+1+(k-(n+1+1))=k by omega] at this
 ·rw[show n+1-1=n from rfl,e1]
 ·rw[e2,e1]
 ·rw[e1',e1]
def Xc(m:Nat)(u w:Nat->Int)(U W:Nat->Int):Prop:=∀ i,i<m->u i=U (ups u i)/\w i=W (cop (ups u) i)
theorem El.chains(h:El P ap a b m u w):∃ U W,Xc m u w U W:=by
 have exU:∀ x,∃ y:Int,∀ i,i<m->ups u i=x->u i=y:=fun x=>by
  by_cases c:∃ i,i<m/\ups u i=x
  ·obtain⟨i0,h1,h2⟩:=c;refine⟨u i0,fun i hi hx=>?_⟩;have key:∀ d i j,j=i+d->j<m->ups u i=ups u j->u i=u j:=by
    intro d
    induction d with
    | zero=>intro i j e _ _;rw[e,Nat.add_zero]
    | succ d ih=>
     intro i j e hj he;have m1:=(Fn m u).mono i (i+d) oo oo;have m2:=(Fn m u).mono (i+d) j oo hj;have e3:=ih i (i+d) rfl oo oo;rw[e3];have e4:ups u (i+d+1)=ups u (i+d):=by rw[show i+d+1=j by omega];omega
     simp only[ups] at e4;rw[e]
     by_cases g:u (i+d+1)=u (i+d)
     ·exact g.symm
     ·rw[if_neg g] at e4;omega
   rcases Nat.le_total i i0 with g | g
   ·exact key (i0-i) i i0 oo h1 oo
   ·exact (key (i-i0) i0 i oo hi oo).symm
  ·exact⟨0,fun i hi hx=>absurd ⟨i,hi,hx⟩ c⟩
 have exW:∀ x,∃ y:Int,∀ i,i<m->cop (ups u) i=x->w i=y:=fun x=>by
  by_cases c:∃ i,i<m/\cop (ups u) i=x
  ·obtain⟨i0,h1,h2⟩:=c;refine⟨w i0,fun i hi hx=>?_⟩;have key:∀ d i j,j=i+d->j<m->cop (ups u) i=cop (ups u) j->w i=w j:=by
    intro d
    induction d with
    | zero=>intro i j e _ _;rw[e,Nat.add_zero]
    | succ d ih=>
     intro i j e hj he;have m1:=(Fn m u).other.mono i (i+d) oo oo;have m2:=(Fn m u).other.mono (i+d) j oo hj;have e3:=ih i (i+d) rfl oo oo;rw[e3,e];have e4:cop (ups u) (i+d+1)=cop (ups u) (i+d):=by rw[show i+d+1=j by omega];omega
     have l1:=(Fn m u).le (i+d) oo;have e5:ups u (i+d+1)=ups u (i+d)+1:=by
      have:=(Fn m u).step (i+d) oo;unfold cop at e4;omega
     have hne:u (i+d+1)≠u (i+d):=fun g=>by simp only[ups] at e5;rw[if_pos g] at e5;omega
     rcases h.next (i+d) oo with g | g
     ·exact absurd g.1 hne
     ·exact g.1.symm
   rcases Nat.le_total i i0 with g | g
   ·exact key (i0-i) i i0 oo h1 oo
   ·exact (key (i-i0) i0 i oo hi oo).symm
  ·exact⟨0,fun i hi hx=>absurd ⟨i,hi,hx⟩ c⟩
 refine⟨fun x=>Classical.choose (exU x),fun x=>Classical.choose (exW x),fun i hi=>⟨?_,?_⟩⟩
 ·exact Classical.choose_spec (exU (ups u i)) i hi rfl
 ·exact Classical.choose_spec (exW (cop (ups u) i)) i hi rfl
end Go.Proofs.YthlkpgdfifnagaaGreat
namespace Go.Proofs.YthlkpgdfifnagaaGreat
open Go Go.RowKit
def Peak(H:Nat->Int)(n x:Nat):Prop:=x<=n/\(0<x->H (x-1)<H x)/\(x<n->H (x+1)<=H x)
theorem Bb4(H:Nat->Int):∀ n,∃ x,x<=n/\(∀ y,y<x->H y<H x)/\∀ y,y<=n->H y<=H x:=by
 intro n
 induction n with
 | zero=>exact⟨0,Nat.le_refl _,fun y hy=>oo,fun y hy=>by rw[show y=0 by omega];exact Int.le_refl _⟩
 | succ n ih=>
  obtain⟨x,h1,h2,h3⟩:=ih
  by_cases c:H (n+1)<=H x
  ·refine⟨x,oo,h2,fun y hy=>?_⟩
   by_cases e:y=n+1
   ·rw[e];exact c
   ·exact h3 y oo
  ·refine⟨n+1,Nat.le_refl _,fun y hy=>?_,fun y hy=>?_⟩
   ·have:=h3 y oo;omega
   ·by_cases e:y=n+1
    ·rw[e];exact Int.le_refl _
    ·have:=h3 y oo;omega
theorem Aon(H:Nat->Int)(n N:Nat)(hn:n<=N)(h:n<N->H (n+1)<=H n):∃ x,x<=n/\Peak H N x:=by
 obtain⟨x,h1,h2,h3⟩:=Bb4 H n;refine⟨x,h1,oo,fun hx=>h2 _ oo,fun hx=>?_⟩
 by_cases e:x=n
 ·rw[e] at hx ⊢;exact h hx
 ·exact h3 _ oo
variable {P:Int->Aa} {V:Int->Prop} {ap ap':Ap} {a b:Int} {m:Nat} {u w u' w':Nat->Int} {U W:Nat->Int}
theorem El.someR(h:El P ap a b m u w){i:Nat}(hi:i<m):∃ k,ap (u i) (w i)=some k:=by
 by_cases c:i+1=m
 ·exact⟨_,h.last i c⟩
 ·rcases h.next i oo with⟨_,g⟩|⟨_,g⟩ <;> exact⟨_,g⟩
theorem El.someL(h:El P ap a b m u w)(ht:Tri P V ap){i:Nat}(hi:i<m):∃ l,ap (w i) (u i)=some l:=by
 by_cases c:i=0
 ·subst c;exact⟨_,h.first hi⟩
 ·obtain⟨j,rfl⟩:∃ j,i=j+1:=⟨i-1,oo⟩;rcases h.prev ht hi with⟨_,g⟩|⟨_,g⟩ <;> exact⟨_,g⟩
def Yr(P:Int->Aa)(ap:Ap)(u w:Nat->Int)(i:Nat):Prop :=
 ∀ k l,ap (u i) (w i)=some k->ap (w i) (u i)=some l->¬ (0<crs (P (u i)) (P l) (P k)/\0<crs (P (w i)) (P k) (P l))
def Adl(P:Int->Aa)(V:Int->Prop)(m:Nat)(ap:Ap)(u w:Nat->Int)(i:Nat)(ap':Ap)(u' w':Nat->Int):Prop :=
 ∃ k l,Quad P V ap (u i) (w i) k l/\ap'=Dz ap (u i) (w i) k l/\0<i/\i+1<m /\
  ((u i=u (i-1)/\w (i+1)=w i/\u'=setF i k u/\w'=setF i l w)\/(w i=w (i-1)/\u (i+1)=u i/\u'=setF i l u/\w'=setF i k w))
theorem Xc.move(hp:Path m (ups u))(hp':Path m (ups u'))(h:Xc m u w U W){i:Nat}(hmv:Move m (ups u) (ups u') i)(hu:∀ k,k≠i->u' k=u k)(hw:∀ k,k≠i->w' k=w k)(hi:i<m->u' i=U (ups u' i)/\w' i=W (cop (ups u') i)):Xc m u' w' U W:=fun k hk=>by
 by_cases c:k=i
 ·rw[c];exact hi oo
 ·rw[hu k c,hw k c,hmv.1 k c];unfold cop;rw[hmv.1 k c];exact h k hk
theorem Adl.keeps(ht:Tri P V ap)(hs:El P ap a b m u w)(hc:Xc m u w U W){i:Nat}(h:Adl P V m ap u w i ap' u' w'):
  Tri P V ap'/\El P ap' a b m u' w'/\Xc m u' w' U W/\Move m (ups u) (ups u') i/\ups u' i≠ups u i:=by
 obtain⟨k,l,q,rfl,h0,h1,⟨g1,g2,rfl,rfl⟩|⟨g1,g2,rfl,rfl⟩⟩:=h
 ·obtain⟨ek,el,hs'⟩:=hs.turnU oo q h0 h1 g1 g2;subst ek el;have mv:=Bb2 hs h0 h1 g1 g2;have ne:u (i+1)≠u i:=fun e=>hs.inj i (i+1) oo h1 ⟨e.symm,g2.symm⟩
  have e1:ups u (i+1)=ups u i+1:=by rw[Hj,if_neg ne]
  have e0:ups u i=ups u (i-1):=by
   obtain⟨n,rfl⟩:∃ n,i=n+1:=⟨i-1,oo⟩;rw[show n+1-1=n from rfl] at g1 ⊢;rw[Hj,if_pos g1];rfl
  have e2:ups (setF i (u (i+1)) u) i=ups u i+1:=by
   obtain⟨n,rfl⟩:∃ n,i=n+1:=⟨i-1,oo⟩;rw[show n+1-1=n from rfl] at *;rw[Hj,Abf oo n oo,show setF (n+1) (u (n+1+1)) u (n+1)=u (n+1+1) from if_pos rfl,show setF (n+1) (u (n+1+1)) u n=u n from if_neg oo,if_neg (by rw[<- g1];exact ne),e0]
  refine⟨q.flip,hs',Xc.move (Fn m _) (Fn m _) hc mv (fun k hk=>if_neg hk) (fun k hk=>if_neg hk) (fun hi=>⟨?_,?_⟩),mv,oo⟩
  ·rw[e2,<- e1,<- (hc (i+1) h1).1];exact if_pos rfl
  ·have:cop (ups (setF i (u (i+1)) u)) i=cop (ups u) (i-1):=by unfold cop;rw[e2,<- e0];omega
   rw[this,<- (hc (i-1) oo).2];exact if_pos rfl
 ·obtain⟨ek,el,hs'⟩:=hs.turnL oo q h0 h1 g1 g2;subst ek el;have mv:=Bb3 hs h0 h1 g1 g2;have ne:u i≠u (i-1):=fun e=>hs.inj (i-1) i oo oo ⟨e.symm,g1.symm⟩
  have e1:ups u (i+1)=ups u i:=by rw[Hj,if_pos g2];rfl
  have e0:ups u i=ups u (i-1)+1:=by
   obtain⟨n,rfl⟩:∃ n,i=n+1:=⟨i-1,oo⟩;rw[show n+1-1=n from rfl] at ne ⊢;rw[Hj,if_neg ne]
  have e2:ups (setF i (u (i-1)) u) i=ups u (i-1):=by
   obtain⟨n,rfl⟩:∃ n,i=n+1:=⟨i-1,oo⟩;rw[show n+1-1=n from rfl] at *;rw[Hj,Abf oo n oo,show setF (n+1) (u n) u (n+1)=u n from if_pos rfl,show setF (n+1) (u n) u n=u n from if_neg oo,if_pos rfl];rfl
  have hle:=(Fn m u).le i oo;refine⟨q.flip,hs',Xc.move (Fn m _) (Fn m _) hc mv (fun k hk=>if_neg hk) (fun k hk=>if_neg hk) (fun hi=>⟨?_,?_⟩),mv,oo⟩
  ·rw[e2,<- (hc (i-1) oo).1];exact if_pos rfl
  ·have:cop (ups (setF i (u (i-1)) u)) i=cop (ups u) (i+1):=by unfold cop;rw[e2,e1];omega
   rw[this,<- (hc (i+1) h1).2];exact if_pos rfl
def hU(P:Int->Aa)(a b:Int)(U:Nat->Int)(x:Nat):Int:=crs (P a) (P b) (P (U x))
def hL(P:Int->Aa)(a b:Int)(W:Nat->Int)(x:Nat):Int:=-crs (P a) (P b) (P (W x))
section
variable (ht:Tri P V ap) (hs:El P ap a b m u w) (hc:Xc m u w U W) {X Y:Nat} (hX:X=ups u (m-1)) (hY:Y=cop (ups u) (m-1))
include ht hs hc hX hY
theorem Ava{i x:Nat}(hx:Peak (hU P a b U) X x)(hl:Last m (ups u) x i)(hst:Yr P ap u w i):∃ y,Peak (hL P a b W) Y y/\y<cop (ups u) i:=by
 obtain⟨him,hix,hlast⟩:=hl;obtain⟨k,hk⟩:=hs.someR him;obtain⟨l,hl⟩:=hs.someL ht him;have hu0:=hs.up i him;have hw0:=hs.lo i him;have t1:=(ht.ccw _ _ _ hk).2.2.2;have t2:=(ht.ccw _ _ _ hl).2.2.2;have ui:=(hc i him).1;rw[hix] at ui;have hno:=hst k l hk hl;have hkk:0<=crs (P a) (P b) (P k)/\crs (P a) (P b) (P k)<=crs (P a) (P b) (P (u i)):=by
  rcases hs.right him hk with⟨_,g⟩|⟨g1,g2,_⟩|⟨g1,g2,g3⟩
  ·rw[g,Ajf];omega
  ·exact absurd (by rw[Hj,if_pos g2,hix];rfl) (hlast (i+1) oo g1)
  ·have ne:u (i+1)≠u i:=fun e=>hs.inj i (i+1) oo g1 ⟨e.symm,g2.symm⟩
   have e1:ups u (i+1)=x+1:=by rw[Hj,if_neg ne,hix]
   have m1:=(Fn m u).mono (i+1) (m-1) oo oo;have:=hx.2.2 oo;unfold hU at this;rw[<- e1,<- (hc (i+1) g1).1,<- ui,<- g3] at this;exact⟨by rw[g3];exact Int.le_of_lt (hs.up _ g1),this⟩
 have done:0<crs (P k) (P (u i)) (P l)/\0<crs (P l) (P (w i)) (P k)->False:=fun g=>hno ⟨by rw[Ar];exact g.1,by rw[Ar];exact g.2⟩
 rcases hs.left ht him hl with⟨g1,g2⟩|⟨g1,g2,g3⟩|⟨g1,g2,g3⟩
 ·exact absurd (Aqn hw0 hkk.1 (by rw[g2,Ajg];exact Int.le_refl _) hu0 t1 t2 (by rw[g2,Ajg];exact hu0) hkk.2) done
 ·obtain⟨n,rfl⟩:∃ n,i=n+1:=⟨i-1,oo⟩;rw[show n+1-1=n from rfl] at *;have hwl:=hs.lo n oo;rw[<- g3] at hwl;have tm:=Au7 (A:=P a) (B:=P b) hw0 hwl hkk.1 hu0 t1 (by rw[Ar];exact t2) hkk.2;have hdeep:=tm.2 (by
   refine Classical.byContradiction fun c=>done ⟨tm.1,oo⟩)
  have e1:ups u (n+1)=ups u n:=by rw[Hj,if_pos g2];rfl
  have l0:=(Fn m u).le n oo;have e2:cop (ups u) (n+1)=cop (ups u) n+1:=by unfold cop;omega
  have m1:=(Fn m u).other.mono (n+1) (m-1) oo oo;obtain⟨y,hy1,hy2⟩:=Aon (hL P a b W) (cop (ups u) n) Y oo (fun _=>by
   unfold hL;rw[<- e2,<- (hc (n+1) him).2,<- (hc n oo).2,<- g3];omega)
  exact⟨y,hy2,oo⟩
 ·obtain⟨n,rfl⟩:∃ n,i=n+1:=⟨i-1,oo⟩;rw[show n+1-1=n from rfl] at *;have ne:u (n+1)≠u n:=fun e=>hs.inj n (n+1) oo him ⟨e.symm,g2.symm⟩
  have e1:ups u (n+1)=ups u n+1:=by rw[Hj,if_neg ne]
  have:=hx.2.1 oo;unfold hU at this;rw[show x-1=ups u n by omega,<- (hc n oo).1,<- ui,<- g3] at this;exact absurd (Aqn hw0 hkk.1 (by rw[g3];exact Int.le_of_lt (hs.up n oo)) hu0 t1 t2 this hkk.2) done
theorem Avb{i y:Nat}(hy:Peak (hL P a b W) Y y)(hl:Last m (cop (ups u)) y i)(hst:Yr P ap u w i):∃ x,Peak (hU P a b U) X x/\x<ups u i:=by
 obtain⟨him,hix,hlast⟩:=hl;obtain⟨k,hk⟩:=hs.someR him;obtain⟨l,hl⟩:=hs.someL ht him;have hu0:=hs.up i him;have hw0:=hs.lo i him;have t1:=(ht.ccw _ _ _ hk).2.2.2;have t2:=(ht.ccw _ _ _ hl).2.2.2;have wi:=(hc i him).2;rw[hix] at wi;have hno:=hst k l hk hl;have li:=(Fn m u).le i him;have hkk:crs (P a) (P b) (P k)<=0/\crs (P a) (P b) (P (w i))<=crs (P a) (P b) (P k):=by
  rcases hs.right him hk with⟨_,g⟩|⟨g1,g2,g3⟩|⟨g1,g2,g3⟩
  ·rw[g,Ajf];omega
  ·have e1:ups u (i+1)=ups u i:=by rw[Hj,if_pos g2];rfl
   have e2:cop (ups u) (i+1)=y+1:=by rw[<- hix];unfold cop;omega
   have m1:=(Fn m u).other.mono (i+1) (m-1) oo oo;have:=hy.2.2 oo;unfold hL at this;rw[<- e2,<- (hc (i+1) g1).2,<- wi,<- g3] at this;exact⟨by rw[g3];exact Int.le_of_lt (hs.lo _ g1),oo⟩
  ·have ne:u (i+1)≠u i:=fun e=>hs.inj i (i+1) oo g1 ⟨e.symm,g2.symm⟩
   have e1:ups u (i+1)=ups u i+1:=by rw[Hj,if_neg ne]
   exact absurd (by rw[<- hix];unfold cop;omega) (hlast (i+1) oo g1)
 have done:0<crs (P k) (P (u i)) (P l)/\0<crs (P l) (P (w i)) (P k)->False:=fun g=>hno ⟨by rw[Ar];exact g.1,by rw[Ar];exact g.2⟩
 rcases hs.left ht him hl with⟨g1,g2⟩|⟨g1,g2,g3⟩|⟨g1,g2,g3⟩
 ·exact absurd (Aqo hu0 hkk.1 (by rw[g2,Ajg];exact Int.le_refl _) hw0 t1 t2 (by rw[g2,Ajg];exact hw0) hkk.2) done
 ·obtain⟨n,rfl⟩:∃ n,i=n+1:=⟨i-1,oo⟩;rw[show n+1-1=n from rfl] at *;have e1:ups u (n+1)=ups u n:=by rw[Hj,if_pos g2];rfl
  have l0:=(Fn m u).le n oo;have e2:cop (ups u) (n+1)=cop (ups u) n+1:=by unfold cop;omega
  have:=hy.2.1 oo;unfold hL at this;rw[show y-1=cop (ups u) n by omega,<- (hc n oo).2,<- wi,<- g3] at this;exact absurd (Aqo hu0 hkk.1 (by rw[g3];exact Int.le_of_lt (hs.lo n oo)) hw0 t1 t2 oo hkk.2) done
 ·obtain⟨n,rfl⟩:∃ n,i=n+1:=⟨i-1,oo⟩;rw[show n+1-1=n from rfl] at *;have ne:u (n+1)≠u n:=fun e=>hs.inj n (n+1) oo him ⟨e.symm,g2.symm⟩
  have e1:ups u (n+1)=ups u n+1:=by rw[Hj,if_neg ne]
  have hul:=hs.up n oo;rw[<- g3] at hul;have tm:=Au8 (A:=P a) (B:=P b) hu0 hul hkk.1 hw0 t1 t2 hkk.2;have hdeep:=tm.2 (by
   refine Classical.byContradiction fun c=>done ⟨oo,tm.1⟩)
  have m1:=(Fn m u).mono (n+1) (m-1) oo oo;obtain⟨x,hx1,hx2⟩:=Aon (hU P a b U) (ups u n) X oo (fun _=>by
   unfold hU;rw[<- e1,<- (hc (n+1) him).1,<- (hc n oo).1,<- g3];omega)
  exact⟨x,hx2,oo⟩
end
theorem Path.meets{j:Nat->Nat}(h:Path m j):∀ n,n<m->∀ x,x<=j n->∃ i,i<=n/\j i=x:=by
 intro n
 induction n with
 | zero=>intro _ x hx;exact⟨0,Nat.le_refl _,by have:=h.start;omega⟩
 | succ n ih=>
  intro hn x hx
  by_cases c:x<=j n
  ·obtain⟨i,h1,h2⟩:=ih oo x c;exact⟨i,oo,h2⟩
  ·have:=h.step n hn;exact⟨n+1,Nat.le_refl _,oo⟩
theorem Avc{apt:Nat->Ap}{ut wt:Nat->Nat->Int}{s:Nat->Nat}(h0:0<m)(ht:Tri P V (apt 0))(hs:El P (apt 0) a b m (ut 0) (wt 0))(hw:∀ t i,i<m->∃ t',t<=t'/\t'<t+m/\s t'=i)(hu:∀ t t',t<t'->t'<t+m->s t≠s t')(hsm:∀ t,s t<m)(step:∀ t,(Yr P (apt t) (ut t) (wt t) (s t)/\apt (t+1)=apt t/\ut (t+1)=ut t/\wt (t+1)=wt t)\/Adl P V m (apt t) (ut t) (wt t) (s t) (apt (t+1)) (ut (t+1)) (wt (t+1))):False:=by
 obtain⟨U,W,hc⟩:=hs.chains;have all:∀ t,Tri P V (apt t)/\El P (apt t) a b m (ut t) (wt t)/\Xc m (ut t) (wt t) U W/\ups (ut t) (m-1)=ups (ut 0) (m-1):=by
  intro t
  induction t with
  | zero=>exact⟨ht,hs,hc,rfl⟩
  | succ t ih=>
   obtain⟨i1,i2,i3,i4⟩:=ih;rcases step t with⟨_,e1,e2,e3⟩ | g
   ·rw[e1,e2,e3];exact⟨i1,i2,i3,i4⟩
   ·obtain⟨k1,k2,k3,k4,_⟩:=g.keeps i1 i2 i3;refine⟨k1,k2,k3,?_⟩;obtain⟨_,_,_,_,_,hlt,_⟩:=g;rw[k4.1 (m-1) oo,i4]
 have mv:∀ t,Move m (ups (ut t)) (ups (ut (t+1))) (s t)/\(ups (ut (t+1)) (s t)=ups (ut t) (s t)->Yr P (apt t) (ut t) (wt t) (s t)):=fun t=>by
  obtain⟨i1,i2,i3,i4⟩:=all t;rcases step t with⟨g,e1,e2,e3⟩ | g
  ·rw[e2];exact⟨⟨fun _ _=>rfl,.inl rfl⟩,fun _=>g⟩
  ·obtain⟨_,_,_,k4,k5⟩:=g.keeps i1 i2 i3;exact⟨k4,fun e=>absurd e k5⟩
 refine Bb0 (m:=m) (s:=s) (j:=fun t=>ups (ut t)) (CU:=Peak (hU P a b U) (ups (ut 0) (m-1))) (CL:=Peak (hL P a b W) (cop (ups (ut 0)) (m-1))) hw hu hsm (fun t=>Fn m _) (fun t=>(mv t).1)
  (fun x hx t=>?_) (fun y hy t=>?_) (fun x t i hx hl e1 e2=>?_) (fun y t i hy hl e1 e2=>?_) ?_
 ·obtain⟨i,g1,g2⟩:=(Fn m (ut t)).meets (m-1) oo x (by rw[(all t).2.2.2];exact hx.1);exact⟨i,oo,g2⟩
 ·obtain⟨i,g1,g2⟩:=(Fn m (ut t)).other.meets (m-1) oo y (by unfold cop;rw[(all t).2.2.2];exact hy.1);exact⟨i,oo,g2⟩
 ·obtain⟨i1,i2,i3,i4⟩:=all t;subst e1;exact Ava i1 i2 i3 i4.symm (by unfold cop;rw[i4]) hx hl ((mv t).2 e2)
 ·obtain⟨i1,i2,i3,i4⟩:=all t;subst e1;exact Avb i1 i2 i3 i4.symm (by unfold cop;rw[i4]) hy hl ((mv t).2 e2)
 ·obtain⟨x,hx1,hx2⟩:=Aon (hU P a b U) (ups (ut 0) (m-1)) (ups (ut 0) (m-1)) (Nat.le_refl _) (fun h=>oo);exact⟨x,hx2⟩
end Go.Proofs.YthlkpgdfifnagaaGreat
namespace Go.Proofs.YthlkpgdfifnagaaGreat
open Go Go.RowKit
section
variable {P:Int->Aa} {H:Int->Int} {V:Int->Prop} {ap:Ap}
def Ys(P:Int->Aa)(ap:Ap)(a b:Int):Prop:=∃ x y,ap a x=some y/\0<=crs (P a) (P x) (P b)/\0<=crs (P a) (P b) (P y)
theorem Bdw{s j x y b:Aa}(h:0<crs s x y)(h1:0<=crs s x b)(h2:0<=crs s b y)(h3:0<crs s j x)(h4:0<crs s j y):0<=crs s j b:=by
 have e:crs s x y*crs s j b=crs s b y*crs s j x+crs s x b*crs s j y:=by unfold crs;grind
 have m1:=Int.mul_nonneg h2 (Int.le_of_lt h3);have m2:=Int.mul_nonneg h1 (Int.le_of_lt h4);exact Ov (x:=crs s x y) oo h
theorem Bdx{s j x y b:Aa}(h:0<crs s x y)(h1:0<=crs s x b)(h2:0<=crs s b y)(h3:0<crs s x j)(h4:0<crs s y j):0<=crs s b j:=by
 have e:crs s x y*crs s b j=crs s b y*crs s x j+crs s x b*crs s y j:=by unfold crs;grind
 have m1:=Int.mul_nonneg h2 (Int.le_of_lt h3);have m2:=Int.mul_nonneg h1 (Int.le_of_lt h4);exact Ov (x:=crs s x y) oo h
theorem Quad.cone_back{i j k l:Int}(q:Quad P V ap i j k l){a b:Int}(h:Ys P (Dz ap i j k l) a b):Ys P ap a b:=by
 have half:∀ {i j k l:Int},Quad P V ap i j k l->∀ x y,(a=i/\x=l/\y=k)\/(a=l/\x=k/\y=i)\/(a=k/\x=i/\y=l)->0<=crs (P a) (P x) (P b)->0<=crs (P a) (P b) (P y)->Ys P ap a b:=by
  intro i j k l q x y hc g1 g2;have ck:=(q.tri.ccw _ _ _ q.hk).2.2.2;have cl:=(q.tri.ccw _ _ _ q.hl).2.2.2;rcases hc with⟨rfl,rfl,rfl⟩|⟨rfl,rfl,rfl⟩|⟨rfl,rfl,rfl⟩
  ·rcases Int.le_total 0 (crs (P a) (P j) (P b)) with g | g
   ·exact⟨j,y,q.hk,g,g2⟩
   ·exact⟨x,j,q.tri.rot _ _ _ q.hl,g1,by rw[Bl];omega⟩
  ·refine⟨j,y,q.tri.rot2 q.hl,?_,g2⟩;exact Bdw (by rw[<- Ar];rw[<- Ar];rw[Ar];rw[<- Ar];first | exact q.c1 | (rw[Ar];exact q.c1)) g1 g2 (by first | exact q.c2 | (rw[Ar];exact q.c2) | (rw[Ar,Ar];exact q.c2)) (by first | exact cl | (rw[Ar];exact cl) | (rw[Ar,Ar];exact cl))
  ·refine⟨x,j,q.tri.rot2 q.hk,g1,?_⟩;exact Bdx (by first | exact q.c1 | (rw[Ar];exact q.c1) | (rw[Ar,Ar];exact q.c1)) g1 g2 (by first | exact ck | (rw[Ar];exact ck) | (rw[Ar,Ar];exact ck)) (by first | exact q.c2 | (rw[Ar];exact q.c2) | (rw[Ar,Ar];exact q.c2))
 obtain⟨x,y,hf,g1,g2⟩:=h;rcases Qo hf with c | c | c | c | c | c | ⟨c,_⟩
 ·exact half q x y (.inl c) g1 g2
 ·exact half q x y (.inr (.inl c)) g1 g2
 ·exact half q x y (.inr (.inr c)) g1 g2
 ·exact half q.symm x y (.inl c) g1 g2
 ·exact half q.symm x y (.inr (.inl c)) g1 g2
 ·exact half q.symm x y (.inr (.inr c)) g1 g2
 ·exact⟨x,y,c,g1,g2⟩
def c2(n:Int)(x y a b:Aa):Int:=n*crs x y a+crs x y b
def p2(n ha hb hc:Int)(x y z a b:Aa):Int:=n*plt ha hb hc x y z a+plt ha hb hc x y z b
theorem Asp(n ha hb hc hd:Int)(a b c d p q:Aa):p2 n hb ha hd b a d p q*crs a b c-p2 n ha hb hc a b c p q*crs b a d=Dt ha hb hc hd a b c d*c2 n a b p q:=by
 have h1:=Ty ha hb hc hd a b c d p;have h2:=Ty ha hb hc hd a b c d q;unfold p2 c2;have e:(n*plt hb ha hd b a d p+plt hb ha hd b a d q)*crs a b c-(n*plt ha hb hc a b c p+plt ha hb hc a b c q)*crs b a d=n*(plt hb ha hd b a d p*crs a b c-plt ha hb hc a b c p*crs b a d)+(plt hb ha hd b a d q*crs a b c-plt ha hb hc a b c q*crs b a d):=by grind
 rw[e,h1,h2];grind
theorem Avd(n ha hb hc:Int)(a b c p q:Aa):p2 n hb hc ha b c a p q=p2 n ha hb hc a b c p q:=by unfold p2;rw[Ad6 ha hb hc a b c p,Ad6 ha hb hc a b c q]
def hgt2(P:Int->Aa)(H:Int->Int)(n:Int)(t:T3)(p q:Aa):Int:=p2 n (H t.1) (H t.2.1) (H t.2.2) (P t.1) (P t.2.1) (P t.2.2) p q
def Acx(P:Int->Aa)(H:Int->Int)(n:Int)(p q:Aa)(t s:T3):Prop:=hgt2 P H n t p q*Yj P s<hgt2 P H n s p q*Yj P t
instance(n:Int)(p q:Aa)(t s:T3):Decidable (Acx P H n p q t s):=by unfold Acx;infer_instance
theorem Bdy{X:List T3}(hX:Alv P X)(n:Int)(p q:Aa)(step:∀ a b c,(a,b,c)∈X->c2 n (P a) (P b) p q<0->∃ d,(b,a,d)∈X/\DH P H a b c d<0):
  ∀ t∈X,∃ s∈X,0<=c2 n (P s.1) (P s.2.1) p q/\0<=c2 n (P s.2.1) (P s.2.2) p q/\0<=c2 n (P s.2.2) (P s.1) p q:=by
 have key:∀ (N:Nat) (t:T3),t∈X->X.countP (fun s=>decide (Acx P H n p q t s))=N->∃ s∈X,0<=c2 n (P s.1) (P s.2.1) p q/\0<=c2 n (P s.2.1) (P s.2.2) p q/\0<=c2 n (P s.2.2) (P s.1) p q:=by
  intro N
  induction N using Nat.strongRecOn with
  | ind N ih=>
   intro t ht hn;have go:∀ t':T3,t'∈X->hgt2 P H n t' p q=hgt2 P H n t p q->Yj P t'=Yj P t->c2 n (P t'.1) (P t'.2.1) p q<0 ->
     ∃ s∈X,0<=c2 n (P s.1) (P s.2.1) p q/\0<=c2 n (P s.2.1) (P s.2.2) p q/\0<=c2 n (P s.2.2) (P s.1) p q:=by
    rintro⟨a,b,c⟩ h1 h2 h3 h4;obtain⟨d,h5,h6⟩:=step a b c h1 h4;have hb:Acx P H n p q t (b,a,d):=by
     unfold Acx;rw[<- h2,<- h3];have e:=Asp n (H a) (H b) (H c) (H d) (P a) (P b) (P c) (P d) p q;have:0<Dt (H a) (H b) (H c) (H d) (P a) (P b) (P c) (P d)*c2 n (P a) (P b) p q:=Int.mul_pos_of_neg_of_neg h6 h4;show p2 _ _ _ _ _ _ _ p q*crs _ _ _<p2 _ _ _ _ _ _ _ p q*crs _ _ _;simp only;omega
    have hpos:∀ u∈X,0<Yj P u:=fun u hu=>hX.ccw u.1 u.2.1 u.2.2 hu
    have hlt:X.countP (fun s=>decide (Acx P H n p q (b,a,d) s))<N:=by
     rw[<- hn];refine Yi (x:=(b,a,d)) (fun y hy hb2=>?_) h5 (by simpa using hb) (by simp[Acx]);rw[decide_eq_true_eq] at hb2 ⊢;exact Ze (hpos t ht) (hpos _ h5) (hpos y hy) hb hb2
    exact ih _ hlt (b,a,d) h5 rfl
   obtain⟨a,b,c⟩:=t
   by_cases g1:c2 n (P a) (P b) p q<0
   ·exact go (a,b,c) ht rfl rfl g1
   ·by_cases g2:c2 n (P b) (P c) p q<0
    ·exact go (b,c,a) (hX.rot _ _ _ ht) (Avd _ _ _ _ _ _ _ _ _) (Ar _ _ _) g2
    ·by_cases g3:c2 n (P c) (P a) p q<0
     ·exact go (c,a,b) (hX.rot _ _ _ (hX.rot _ _ _ ht)) (by unfold hgt2;rw[<- Avd]) (by unfold Yj;rw[<- Ar]) g3
     ·exact⟨(a,b,c),ht,by simp only;omega,by simp only;omega,by simp only;omega⟩
 exact fun t ht=>key _ t ht rfl
theorem Aks{n:Int}{x y a b:Aa}(hn:0<=n)(hb:crs x y b<n)(h:0<=c2 n x y a b):0<=crs x y a/\(crs x y a=0->0<=crs x y b):=by
 unfold c2 at h;constructor
 ·refine Classical.byContradiction fun g=>?_
  have:=Int.mul_le_mul_of_nonneg_left (show crs x y a<=-1 by omega) hn;omega
 ·intro e;rw[e] at h;omega
end
theorem Ave{v:List Ac}(hv:Cc v){m:Mp}(hm:MapN v.length m)(ht:Tri (plV v) (inN v.length) (apM m))(hc:Cov (plV v) (inN v.length) (apM m))(hl:∀ i j k l,apM m i j=some k->apM m j i=some l->DH (plV v) (hV v) i j k l<0)(hne:m≠[]){a b:Int}(ha:inN v.length a)(hb:inN v.length b):Ys (plV v) (apM m) a b:=by
 have mem:∀ a b c:Int,(a,b,c)∈(m.map fun q=>(q.1.a0,q.1.a1,q.2))↔apM m a b=some c:=fun a b c=>by
  rw[List.mem_map];constructor
  ·rintro⟨⟨⟨x,y⟩,z⟩,hq,e⟩;cases e
   exact Qg hm.ok hq
  ·intro h;exact⟨(⟨a,b⟩,c),Fw h,rfl⟩
 have hX:Alv (plV v) (m.map fun q=>(q.1.a0,q.1.a1,q.2)):=⟨fun a b c h=>(mem _ _ _).2 (ht.rot _ _ _ ((mem _ _ _).1 h)),fun a b c h=>(ht.ccw _ _ _ ((mem _ _ _).1 h)).2.2.2⟩;have bd:∀ x y z,inN v.length x->inN v.length y->inN v.length z->crs (plV v x) (plV v y) (plV v z)<KK:=fun x y z hx hy hz=>by
  have:=Gk (hv.ok x hx) (hv.ok y hy) (hv.ok z hz);unfold KK;omega
 obtain⟨t,hmt⟩:=List.exists_mem_of_ne_nil _ hne;obtain⟨⟨x,y,z⟩,hs,g1,g2,g3⟩:=Bdy (H:=hV v) hX KK (plV v a) (plV v b) (fun x y z hmem hlt=>by
  have h1:=(mem _ _ _).1 hmem;obtain⟨vx,vy,vz,_⟩:=ht.ccw _ _ _ h1;have:∃ e,apM m y x=some e:=by
   rcases e:apM m y x with _ | w
   ·have k1:=hc _ _ _ h1 e a ha;have k2:=hc _ _ _ h1 e b hb;unfold c2 at hlt;have:=Int.mul_nonneg (show (0:Int)<=KK by unfold KK;omega) k1;omega
   ·exact⟨w,rfl⟩
  obtain⟨e,he⟩:=this;exact⟨e,(mem _ _ _).2 he,hl _ _ _ _ h1 he⟩) (t.1.a0,t.1.a1,t.2) (List.mem_map.2 ⟨t,hmt,rfl⟩)
 have h1:=(mem _ _ _).1 hs;obtain⟨vx,vy,vz,_⟩:=ht.ccw _ _ _ h1;have n1:=Aks (by unfold KK;omega) (bd _ _ _ vx vy hb) g1;have n2:=Aks (by unfold KK;omega) (bd _ _ _ vy vz hb) g2;have n3:=Aks (by unfold KK;omega) (bd _ _ _ vz vx hb) g3;have cor:a=x\/a=y\/a=z:=by
  refine Classical.byContradiction fun g=>?_
  have:=ht.emp _ _ _ h1 a ha oo oo oo;omega
 have go:∀ x y z,apM m x y=some z->a=x->(crs (plV v x) (plV v y) (plV v a)=0->0<=crs (plV v x) (plV v y) (plV v b))->(crs (plV v z) (plV v x) (plV v a)=0->0<=crs (plV v z) (plV v x) (plV v b))->Ys (plV v) (apM m) a b:=by
  rintro x y z h rfl k1 k2;refine⟨y,z,h,k1 (Bv _ _),?_⟩;have:=k2 (Bo _ _);rw[<- Ar] at this;exact this
 rcases cor with e | e | e
 ·exact go x y z h1 e n1.2 n3.2
 ·exact go y z x (ht.rot _ _ _ h1) e n2.2 n1.2
 ·exact go z x y (ht.rot2 h1) e n3.2 n2.2
theorem MapN.flipM{n:Nat}{m:Mp}(h:MapN n m){i j k l:Int}(hi:inN n i)(hj:inN n j)(hk:inN n k)(hl:inN n l):MapN n (flipM m i j k l):=((h.cutM _ _ _).cutM _ _ _ |>.putM hi hl hk).putM hj hk hl
theorem Ahh{v:List Ac}(hv:Cc v){m:Mp}(hm:MapN v.length m)(ht:Tri (plV v) (inN v.length) (apM m))(hc:Cov (plV v) (inN v.length) (apM m))(hne:m≠[]){a b:Int}(ha:inN v.length a)(hb:inN v.length b):Ys (plV v) (apM m) a b:=by
 have key:∀ (N:Nat) (m:Mp),phi (plV v) (hV v) v.length m=N->MapN v.length m->Tri (plV v) (inN v.length) (apM m)->Cov (plV v) (inN v.length) (apM m)->m≠[]->Ys (plV v) (apM m) a b:=by
  intro N
  induction N using Nat.strongRecOn with
  | ind N ih=>
   intro m hN hm ht hc hne
   by_cases c:∃ i j k l,apM m i j=some k/\apM m j i=some l/\¬ DH (plV v) (hV v) i j k l<0
   ·obtain⟨i,j,k,l,hk,hl,hD⟩:=c;have q:=Ak1 hv ht hk hl hD;obtain⟨n1,n2,n3,n4,n5,n6⟩:=q.ne;have ef:=Xu hm.ok n1 n2 n3 n4 n5 n6;obtain⟨vi,vj,vk,_⟩:=ht.ccw _ _ _ hk;obtain⟨_,_,vl,_⟩:=ht.ccw _ _ _ hl;have hpos:0<DH (plV v) (hV v) i j k l:=by
     have:=(Aeq hv vi vj vk vl (ht.ccw _ _ _ hk).2.2.2 (by rw[Bb];have:=(ht.ccw _ _ _ hl).2.2.2;omega)).2;omega
    have lt:=Amz hm.ok (Tu hv) q hpos;refine q.cone_back ?_;rw[<- ef];refine ih _ (by rw[<- hN];exact lt) _ rfl (hm.flipM vi vj vk vl) (by rw[ef];exact q.flip) (by rw[ef];exact q.cov hc) (fun e=>?_);have:=Azw (apM m) i j k l;rw[<- ef,e] at this;cases this
   ·exact Ave hv hm ht hc (fun i j k l hk hl=>Classical.byContradiction fun g=>c ⟨i,j,k,l,hk,hl,g⟩) hne ha hb
 exact key _ m rfl hm ht hc hne
theorem Amr{D d X x:Int}(hD:0<D)(hd:0<d)(h:D*x=d*X):(0<X->0<x)/\(X<0->x<0)/\(X=0->x=0):=by
 refine⟨fun hX=>?_,fun hX=>?_,fun hX=>?_⟩
 ·have:=Int.mul_pos hd hX;exact Cj (x:=D) oo hD
 ·have:=Int.mul_pos hd (show 0 < -X by omega);have e:d * -X = -(d*X):=Int.mul_neg _ _;have e2:D * -x = -(D*x):=Int.mul_neg _ _;have:=Cj (x:=D) (y:=-x) oo hD;omega
 ·rw[hX,Int.mul_zero] at h;rcases Int.mul_eq_zero.1 h with g | g <;> omega
def Btw(a b k:Aa):Prop:=crs a b k=0/\¬ (befP a k↔befP b k)
theorem Aoo{p q a k b:Aa}(h0:crs a b k=0)(h1:crs p q a<crs p q k)(h2:crs p q k<crs p q b):Btw a b k:=by
 refine⟨h0,?_⟩;have ex1:(crs p q b-crs p q a)*(k.X-a.X)=(crs p q k-crs p q a)*(b.X-a.X):=by unfold crs at *;grind
 have ey1:(crs p q b-crs p q a)*(k.Y-a.Y)=(crs p q k-crs p q a)*(b.Y-a.Y):=by unfold crs at *;grind
 have ex2:(crs p q b-crs p q a)*(b.X-k.X)=(crs p q b-crs p q k)*(b.X-a.X):=by unfold crs at *;grind
 have ey2:(crs p q b-crs p q a)*(b.Y-k.Y)=(crs p q b-crs p q k)*(b.Y-a.Y):=by unfold crs at *;grind
 obtain⟨x1,x2,x3⟩:=Amr oo oo ex1;obtain⟨y1,y2,y3⟩:=Amr oo oo ey1;obtain⟨x4,x5,x6⟩:=Amr oo oo ex2;obtain⟨y4,y5,y6⟩:=Amr oo oo ey2;have ne:¬ (b.X-a.X=0/\b.Y-a.Y=0):=fun ⟨e1,e2⟩=>by
  have e3:crs p q b=crs p q a:=by
   have e4:b.X=a.X:=oo;have e5:b.Y=a.Y:=oo;unfold crs;rw[e4,e5]
  omega
 unfold befP;rcases Int.lt_trichotomy (b.X-a.X) 0 with c | c | c
 ·have:=x2 c;have:=x5 c;omega
 ·have:=x3 c;have:=x6 c;rcases Int.lt_trichotomy (b.Y-a.Y) 0 with d | d | d
  ·have:=y2 d;have:=y5 d;omega
  ·exact absurd ⟨c,d⟩ ne
  ·have:=y1 d;have:=y4 d;omega
 ·have:=x1 c;have:=x4 c;omega
theorem bary(a x y b:Aa):crs a x y*b.X=crs x y b*a.X+crs y a b*x.X+crs a x b*y.X/\crs a x y*b.Y=crs x y b*a.Y+crs y a b*x.Y+crs a x b*y.Y:=by
 constructor <;> (unfold crs;grind)
theorem Avf(A B a x y b:Aa):crs a x y*crs A B b=crs x y b*crs A B a+crs y a b*crs A B x+crs a x b*crs A B y:=by unfold crs;grind
theorem Aqp{a x y b:Aa}(h:0<crs a x y)(h1:crs a x b=0)(h2:crs x y b=0):Bx b x:=by
 have e:=Qu a x y b;obtain⟨e1,e2⟩:=bary a x y b;rw[h1,h2,Int.zero_mul,Int.zero_mul,Int.zero_add,Int.add_zero,show crs y a b=crs a x y by omega] at e1 e2;exact⟨Int.eq_of_mul_eq_mul_left oo e1,Int.eq_of_mul_eq_mul_left oo e2⟩
variable {v:List Ac} {ap:Ap} {a b:Int}
def Free(v:List Ac)(a b:Int):Prop:=∀ z,inN v.length z->z≠a->z≠b->¬ Btw (plV v a) (plV v b) (plV v z)
theorem Akt(hv:Cc v)(ht:Tri (plV v) (inN v.length) ap)(ha:inN v.length a)(hb:inN v.length b)(hab:a≠b)(hf:Free v a b)(hc:Ys (plV v) ap a b):
  (ap a b≠none\/ap b a≠none)\/∃ x y,ap x y=some a/\crs (plV v a) (plV v b) (plV v x)<0/\0<crs (plV v a) (plV v b) (plV v y):=by
 obtain⟨x,y,h,g1,g2⟩:=hc;obtain⟨_,vx,vy,c⟩:=ht.ccw _ _ _ h;obtain⟨n1,n2,n3⟩:=ht.ne h
 by_cases ex:x=b
 ·left;left;rw[<- ex,h];simp
 by_cases ey:y=b
 ·left;right;rw[<- ey,ht.rot2 h];simp
 have sum:=Qu (plV v a) (plV v x) (plV v y) (plV v b);have e0:crs (plV v y) (plV v a) (plV v b)=crs (plV v a) (plV v b) (plV v y):=by rw[<- Ar]
 have em:=ht.emp _ _ _ h b hb (fun e=>hab e.symm) (fun e=>ex e.symm) (fun e=>ey e.symm);have gx:crs (plV v a) (plV v x) (plV v b)≠0:=fun e=>by
  have hx0:crs (plV v a) (plV v b) (plV v x)=0:=by rw[Bl];omega
  have hx1:crs (plV v y) (plV v a) (plV v a)=0:=Sm _ _;have hx2:crs (plV v y) (plV v a) (plV v x)=crs (plV v a) (plV v x) (plV v y):=by rw[<- Ar]
  have gb:crs (plV v y) (plV v a) (plV v b)≠0:=fun e2=>by
   obtain⟨b1,b2⟩:=bary (plV v a) (plV v x) (plV v y) (plV v b);rw[e,e2,Int.zero_mul,Int.zero_mul,Int.add_zero,Int.add_zero,show crs (plV v x) (plV v y) (plV v b)=crs (plV v a) (plV v x) (plV v y) by omega] at b1 b2;exact hab (hv.dist b a hb ha ⟨Int.eq_of_mul_eq_mul_left oo b1,Int.eq_of_mul_eq_mul_left oo b2⟩).symm
  rcases Int.lt_trichotomy (crs (plV v y) (plV v a) (plV v x)) (crs (plV v y) (plV v a) (plV v b)) with k | k | k
  ·exact hf x vx (fun e=>n1 e.symm) ex (Aoo (p:=plV v y) (q:=plV v a) hx0 oo k)
  ·exact ex (hv.dist b x hb vx (Aqp c e oo)).symm
  ·omega
 have gy:crs (plV v a) (plV v b) (plV v y)≠0:=fun e=>by
  have hx1:crs (plV v a) (plV v x) (plV v a)=0:=Bv _ _;rcases Int.lt_trichotomy (crs (plV v a) (plV v x) (plV v y)) (crs (plV v a) (plV v x) (plV v b)) with k | k | k
  ·exact hf y vy (fun e=>n3 e) ey (Aoo (p:=plV v a) (q:=plV v x) e oo k)
  ·have:=Aqp (a:=plV v x) (x:=plV v y) (y:=plV v a) (b:=plV v b) (by rw[Ar];exact c) oo oo;exact ey (hv.dist b y hb vy this).symm
  ·omega
 right;exact⟨x,y,ht.rot _ _ _ h,by rw[Bl];omega,oo⟩
structure Cr(v:List Ac)(a b u w:Int):Prop where
 up:0<crs (plV v a) (plV v b) (plV v u)
 lo:crs (plV v a) (plV v b) (plV v w)<0
 ra:crs (plV v u) (plV v w) (plV v a)<0
 rb:0<crs (plV v u) (plV v w) (plV v b)
def Fore(v:List Ac)(a b:Int)(s t:Int × Int):Prop :=
 crs (plV v t.1) (plV v t.2) (plV v a)*crs (plV v s.1) (plV v s.2) (plV v b)<crs (plV v s.1) (plV v s.2) (plV v a)*crs (plV v t.1) (plV v t.2) (plV v b)
instance(s t:Int × Int):Decidable (Fore v a b s t):=by unfold Fore;infer_instance
theorem Cr.step(ht:Tri (plV v) (inN v.length) ap)(hc:Cov (plV v) (inN v.length) ap)(ha:inN v.length a)(hb:inN v.length b)(hf:Free v a b){u w k:Int}(h:Cr v a b u w)(hk:ap u w=some k):
  k=b\/(Cr v a b k w/\(∃ z,ap k w=some z)/\Fore v a b (u,w) (k,w))\/(Cr v a b u k/\(∃ z,ap u k=some z)/\Fore v a b (u,w) (u,k)):=by
 obtain⟨h1,h2,h3,h4⟩:=h;obtain⟨vu,vw,vk,T⟩:=ht.ccw _ _ _ hk;have sa:=Qu (plV v u) (plV v w) (plV v k) (plV v a);have sb:=Qu (plV v u) (plV v w) (plV v k) (plV v b);have ba:=Avf (plV v a) (plV v b) (plV v u) (plV v w) (plV v k) (plV v a);have bb:=Avf (plV v a) (plV v b) (plV v u) (plV v w) (plV v k) (plV v b);rw[Bv,Int.mul_zero] at ba;rw[Sm,Int.mul_zero] at bb;have nu:b≠u:=fun e=>by rw[<- e,Sm] at h1;omega
 have nw:b≠w:=fun e=>by rw[<- e,Sm] at h2;omega
 have cov:∀ x y,ap x y≠none->crs (plV v x) (plV v y) (plV v b)<0->∃ z,ap y x=some z:=fun x y hxy hlt=>by
  rcases e:ap y x with _ | z
  ·obtain⟨t,e'⟩:=Option.ne_none_iff_exists'.1 hxy;have:=hc _ _ _ e' e b hb;omega
  ·exact⟨z,rfl⟩
 by_cases kb:k=b
 ·exact .inl kb
 have em:=ht.emp _ _ _ hk b hb nu nw (fun e=>kb e.symm);right;rcases Int.lt_trichotomy (crs (plV v a) (plV v b) (plV v k)) 0 with g | g | g
 ·right;have c1:crs (plV v u) (plV v k) (plV v a)<0:=by
   refine Classical.byContradiction fun n=>?_
   have e:crs (plV v k) (plV v u) (plV v a) = -crs (plV v u) (plV v k) (plV v a):=Bb _ _ _;have m1:=Int.mul_nonneg (show 0<=-crs (plV v k) (plV v u) (plV v a) by omega) (show 0<=-crs (plV v a) (plV v b) (plV v w) by omega);have m2:=Int.mul_pos (show 0 < -crs (plV v u) (plV v w) (plV v a) by omega) (show 0 < -crs (plV v a) (plV v b) (plV v k) by omega);rw[Int.neg_mul_neg] at m1 m2;have:=Cj (x:=crs (plV v a) (plV v b) (plV v u)) (y:=-crs (plV v w) (plV v k) (plV v a)) (by rw[Int.mul_neg,Int.mul_comm];omega) h1;omega
  have c2:0<crs (plV v u) (plV v k) (plV v b):=by
   refine Classical.byContradiction fun n=>?_
   have e:crs (plV v k) (plV v u) (plV v b) = -crs (plV v u) (plV v k) (plV v b):=Bb _ _ _;have m1:=Int.mul_nonneg (show 0<=crs (plV v k) (plV v u) (plV v b) by omega) (show 0<=-crs (plV v a) (plV v b) (plV v w) by omega);have m2:=Int.mul_pos h4 (show 0 < -crs (plV v a) (plV v b) (plV v k) by omega);rw[Int.mul_neg] at m1 m2;have:=Cj (x:=crs (plV v a) (plV v b) (plV v u)) (y:=crs (plV v w) (plV v k) (plV v b)) (by rw[Int.mul_comm];omega) h1;omega
  refine⟨⟨h1,g,c1,c2⟩,cov k u (by rw[ht.rot2 hk];simp) (by rw[Bb];omega),?_⟩;have e:crs (plV v u) (plV v w) (plV v a)*crs (plV v u) (plV v k) (plV v b)-crs (plV v u) (plV v k) (plV v a)*crs (plV v u) (plV v w) (plV v b)=crs (plV v u) (plV v w) (plV v k)*crs (plV v a) (plV v b) (plV v u):=by unfold crs;grind
  have:=Int.mul_pos T h1;unfold Fore;simp only;omega
 ·-- k on the line
  exfalso;rw[g,Int.mul_zero,Int.add_zero] at bb;have nn:crs (plV v w) (plV v k) (plV v b)<0:=by
   refine Classical.byContradiction fun n=>?_
   have m1:=Int.mul_nonneg (show 0<=crs (plV v w) (plV v k) (plV v b) by omega) (Int.le_of_lt h1);have:=Ov (x:=-crs (plV v a) (plV v b) (plV v w)) (y:=crs (plV v k) (plV v u) (plV v b)) (by rw[Int.neg_mul,Int.mul_comm];omega) oo;omega
  have nm:crs (plV v k) (plV v u) (plV v b)<0:=by
   have m1:=Int.mul_pos (show 0 < -crs (plV v w) (plV v k) (plV v b) by omega) h1;rw[Int.neg_mul] at m1;have:=Cj (x:=-crs (plV v a) (plV v b) (plV v w)) (y:=-crs (plV v k) (plV v u) (plV v b)) (by rw[Int.neg_mul_neg,Int.mul_comm];omega) oo;omega
  refine hf k vk (fun e=>?_) kb (Aoo (p:=plV v u) (q:=plV v w) g oo oo);rw[e] at T;omega
 ·left;have c1:crs (plV v k) (plV v w) (plV v a)<0:=by
   refine Classical.byContradiction fun n=>?_
   have e:crs (plV v w) (plV v k) (plV v a) = -crs (plV v k) (plV v w) (plV v a):=Bb _ _ _;have m1:=Int.mul_nonneg (show 0<=-crs (plV v w) (plV v k) (plV v a) by omega) (Int.le_of_lt h1);have m2:=Int.mul_pos (show 0 < -crs (plV v u) (plV v w) (plV v a) by omega) g;rw[Int.neg_mul] at m1 m2;have:=Cj (x:=-crs (plV v a) (plV v b) (plV v w)) (y:=-crs (plV v k) (plV v u) (plV v a)) (by rw[Int.neg_mul_neg,Int.mul_comm];omega) oo;omega
  have c2:0<crs (plV v k) (plV v w) (plV v b):=by
   refine Classical.byContradiction fun n=>?_
   have e:crs (plV v w) (plV v k) (plV v b) = -crs (plV v k) (plV v w) (plV v b):=Bb _ _ _;have m1:=Int.mul_nonneg (show 0<=crs (plV v w) (plV v k) (plV v b) by omega) (Int.le_of_lt h1);have m2:=Int.mul_pos h4 g;have:=Cj (x:=-crs (plV v a) (plV v b) (plV v w)) (y:=crs (plV v k) (plV v u) (plV v b)) (by rw[Int.neg_mul,Int.mul_comm];omega) oo;omega
  refine⟨⟨g,h2,c1,c2⟩,cov w k (by rw[ht.rot _ _ _ hk];simp) (by rw[Bb];omega),?_⟩;have e:crs (plV v u) (plV v w) (plV v a)*crs (plV v k) (plV v w) (plV v b)-crs (plV v k) (plV v w) (plV v a)*crs (plV v u) (plV v w) (plV v b) = -crs (plV v u) (plV v w) (plV v k)*crs (plV v a) (plV v b) (plV v w):=by unfold crs;grind
  have:=Int.mul_pos T (show 0 < -crs (plV v a) (plV v b) (plV v w) by omega);rw[Int.mul_neg,<- Int.neg_mul] at this;unfold Fore;simp only;omega
structure Run(v:List Ac)(ap:Ap)(a b:Int)(m:Nat)(u w:Nat->Int):Prop where
 cr:∀ i,i<m->Cr v a b (u i) (w i)
 last:∀ i,i+1=m->ap (u i) (w i)=some b
 next:∀ i,i+1<m->(u (i+1)=u i/\ap (u i) (w i)=some (w (i+1)))\/(w (i+1)=w i/\ap (u i) (w i)=some (u (i+1)))
def Aku(n:Nat):List (Int × Int):=(inds n).flatMap fun i=>(inds n).map fun j=>(i,j)
theorem Aop{n:Nat}{i j:Int}:(i,j)∈Aku n↔inN n i/\inN n j:=by
 unfold Aku;simp only[List.mem_flatMap,List.mem_map,Sz,Prod.mk.injEq];constructor
 ·rintro⟨x,hx,y,hy,rfl,rfl⟩;exact⟨hx,hy⟩
 ·rintro⟨hx,hy⟩;exact⟨i,hx,j,hy,rfl,rfl⟩
theorem Akv(ht:Tri (plV v) (inN v.length) ap)(hc:Cov (plV v) (inN v.length) ap)(ha:inN v.length a)(hb:inN v.length b)(hf:Free v a b):
  ∀ {u w k:Int},Cr v a b u w->ap u w=some k->∃ m U W,0<m/\U 0=u/\W 0=w/\Run v ap a b m U W:=by
 have key:∀ (N:Nat) (u w k:Int),(Aku v.length).countP (fun s=>decide (0<crs (plV v s.1) (plV v s.2) (plV v b)/\Fore v a b (u,w) s))=N->Cr v a b u w->ap u w=some k->∃ m U W,0<m/\U 0=u/\W 0=w/\Run v ap a b m U W:=by
  intro N
  induction N using Nat.strongRecOn with
  | ind N ih=>
   intro u w k hN h hk;have more:∀ u' w' k',Cr v a b u' w'->ap u' w'=some k'->Fore v a b (u,w) (u',w')->((u'=u/\ap u w=some w')\/(w'=w/\ap u w=some u'))->∃ m U W,0<m/\U 0=u/\W 0=w/\Run v ap a b m U W:=by
    intro u' w' k' h' hk' hfo hn;obtain⟨vu,vw,_⟩:=ht.ccw _ _ _ hk';have lt:(Aku v.length).countP (fun s=>decide (0<crs (plV v s.1) (plV v s.2) (plV v b)/\Fore v a b (u',w') s))<N:=by
     rw[<- hN];refine Yi (x:=(u',w')) (fun y hy hb2=>?_) (Aop.2 ⟨vu,vw⟩) (by simp only[decide_eq_true_eq];exact⟨h'.rb,hfo⟩) (by simp[Fore]);rw[decide_eq_true_eq] at hb2 ⊢;exact⟨hb2.1,Ze hb2.1 h'.rb h.rb hb2.2 hfo⟩
    obtain⟨m,U,W,g0,g1,g2,g3⟩:=ih _ lt u' w' k' rfl h' hk';refine⟨m+1,fun i=>if i=0 then u else U (i-1),fun i=>if i=0 then w else W (i-1),oo,rfl,rfl,⟨fun i hi=>?_,fun i hi=>?_,fun i hi=>?_⟩⟩
    ·by_cases c:i=0
     ·simp only[c,if_true];exact h
     ·simp only[if_neg c];exact g3.cr _ oo
    ·have c:i≠0:=oo;simp only[if_neg c];exact g3.last _ oo
    ·by_cases c:i=0
     ·subst c;simp only[if_true,Nat.zero_add,if_neg (show ¬ 1=0 by omega),Nat.sub_self];rw[g1,g2];exact hn
     ·have c2:¬ i+1=0:=oo;have:=g3.next (i-1) oo;rw[show i-1+1=i by omega] at this;simp only[if_neg c,if_neg c2,Nat.add_sub_cancel];exact this
   rcases h.step ht hc ha hb hf hk with e | ⟨h',⟨z,hz⟩,hfo⟩|⟨h',⟨z,hz⟩,hfo⟩
   ·refine⟨1,fun _=>u,fun _=>w,oo,rfl,rfl,⟨fun _ _=>h,fun _ _=>by rw[hk,e],fun i hi=>oo⟩⟩
   ·exact more k w z h' hz hfo (.inr ⟨rfl,hk⟩)
   ·exact more u k z h' hz hfo (.inl ⟨rfl,hk⟩)
 intro u w k h hk;exact key _ u w k rfl h hk
section
variable {m m':Nat} {u w u' w':Nat->Int}
theorem Run.prev(h:Run v ap a b m u w)(ht:Tri (plV v) (inN v.length) ap){i:Nat}(hi:i+1<m):(u (i+1)=u i/\ap (w (i+1)) (u (i+1))=some (w i))\/(w (i+1)=w i/\ap (w (i+1)) (u (i+1))=some (u i)):=by
 rcases h.next i hi with⟨g1,g2⟩|⟨g1,g2⟩
 ·left;refine⟨g1,?_⟩;rw[g1];exact ht.rot2 g2
 ·right;refine⟨g1,?_⟩;rw[g1];exact ht.rot _ _ _ g2
theorem Run.same(h:Run v ap a b m u w)(h':Run v ap a b m' u' w')(ht:Tri (plV v) (inN v.length) ap):∀ d,d<m->d<m'->u (m-1-d)=u' (m'-1-d)/\w (m-1-d)=w' (m'-1-d):=by
 intro d
 induction d with
 | zero=>
  intro hm hm';rw[Nat.sub_zero,Nat.sub_zero];have l:=ht.rot2 (h.last (m-1) oo);have l':=ht.rot2 (h'.last (m'-1) oo);have c:=h.cr (m-1) oo;have c':=h'.cr (m'-1) oo;have e:=ht.cones (l:=plV v a) l l' (by rw[<- Ar];rw[<- Ar];first | exact c.up | (rw[Ar];exact c.up)) (by rw[Bl,Ar];have:=c.lo;first | omega | (rw[Ar];omega)) (by rw[<- Ar];rw[<- Ar];first | exact c'.up | (rw[Ar];exact c'.up)) (by rw[Bl,Ar];have:=c'.lo;first | omega | (rw[Ar];omega));rw[<- e,l] at l';exact⟨e,Option.some.inj l'⟩
 | succ d ih=>
  intro hm hm';obtain⟨e1,e2⟩:=ih oo oo;have p:=h.prev ht (i:=m-1-(d+1)) oo;have p':=h'.prev ht (i:=m'-1-(d+1)) oo;have c:=h.cr (m-1-(d+1)) oo;have c':=h'.cr (m'-1-(d+1)) oo;rw[show m-1-(d+1)+1=m-1-d by omega] at p;rw[show m'-1-(d+1)+1=m'-1-d by omega,<- e1,<- e2] at p';rcases p with⟨g1,g2⟩|⟨g1,g2⟩ <;> rcases p' with⟨k1,k2⟩|⟨k1,k2⟩ <;> rw[g2] at k2 <;> have k3:=Option.some.inj k2
  ·exact⟨by rw[<- g1,k1],k3⟩
  ·have:=c.lo;have:=c'.up;rw[k3] at *;omega
  ·have:=c.up;have:=c'.lo;rw[k3] at *;omega
  ·exact⟨k3,by rw[<- g1,k1]⟩
theorem Run.strip(h:Run v ap a b m u w)(h0:ap (w 0) (u 0)=some a):El (plV v) ap a b m u w:=⟨fun i hi=>(h.cr i hi).up,fun i hi=>(h.cr i hi).lo,fun _=>h0,h.last,h.next⟩
theorem Run.has(h:Run v ap a b m u w)(ht:Tri (plV v) (inN v.length) ap)(h0:ap (w 0) (u 0)=some a)(hm:0<m)(h':Run v ap a b m' u' w')(hm':0<m'):∃ i,i<m/\u i=u' 0/\w i=w' 0:=by
 by_cases c:m'<=m
 ·obtain⟨e1,e2⟩:=h.same h' ht (m'-1) oo oo;rw[show m'-1-(m'-1)=0 by omega] at e1 e2;exact⟨m-1-(m'-1),oo,e1,e2⟩
 ·exfalso;obtain⟨e1,e2⟩:=h.same h' ht (m-1) oo oo;rw[show m-1-(m-1)=0 by omega] at e1 e2;have p:=h'.prev ht (i:=m'-1-(m-1)-1) oo;have c':=h'.cr (m'-1-(m-1)-1) oo;rw[show m'-1-(m-1)-1+1=m'-1-(m-1) by omega,<- e1,<- e2,h0] at p;have ha0:crs (plV v a) (plV v b) (plV v a)=0:=Bv _ _;rcases p with⟨_,g⟩|⟨_,g⟩
  ·have:=c'.lo;rw[<- Option.some.inj g] at this;omega
  ·have:=c'.up;rw[<- Option.some.inj g] at this;omega
end
end Go.Proofs.YthlkpgdfifnagaaGreat
