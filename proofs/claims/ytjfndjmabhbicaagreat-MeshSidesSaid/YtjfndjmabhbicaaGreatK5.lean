/- Convex chains along a direction. -/
import Derived.Test.YtjfndjmabhbicaaGreatK1
namespace Go.Proofs.YtjfndjmabhbicaaGreat
open Go Go.RowKit
def ph (α β:Int) (p:Ac):Int:=α*p.X+β*p.Y
theorem Tq (α β:Int) (a b c d:Ac):(ph α β b-ph α β a)*crs a c d+(ph α β c-ph α β a)*crs a d b+(ph α β d-ph α β a)*crs a b c=0:=by unfold ph crs;grind
theorem Amg (a b c:Ac):crs b c a=crs a b c:=by unfold crs;grind
section
variable {α β:Int}
theorem Ut {x y:Int} (hx:0 < x) (h:0 < x*y):0 < y:=by
 rcases Int.lt_trichotomy y 0 with g | g | g
 ·have:=Int.mul_neg_of_pos_of_neg hx g;omega
 ·subst g;simp at h
 ·exact g
theorem Ml {x y:Int} (hx:0 < x) (h:0<=x*y):0<=y:=by
 rcases Int.lt_or_le y 0 with g | g
 ·have:=Int.mul_neg_of_pos_of_neg hx g;omega
 ·exact g
theorem Arc {t s i k:Ac} (h1:ph α β t < ph α β s) (h2:ph α β t < ph α β i) (h3:ph α β t < ph α β k) (h4:0<=crs t s k) (h5:crs t s i<=0):0<=crs t i k:=by
 have e:=Tq α β t s i k
 have c1:crs t k s = -crs t s k:=by unfold crs;grind
 rw [c1] at e
 have p1:=Int.mul_nonneg (show 0<=ph α β i-ph α β t by omega) h4
 have p2:=Int.mul_nonneg (show 0<=ph α β k-ph α β t by omega) (show 0<=-crs t s i by omega)
 refine Ml (x:=ph α β s-ph α β t) (by omega) ?_
 rw [Int.mul_neg] at e p2
 omega
theorem Awt {t s i k:Ac} (h1:ph α β t < ph α β s) (h2:ph α β s < ph α β i) (h3:ph α β k<=ph α β i) (h4:0<=crs s i k) (h5:crs t s i<=0):0<=crs t i k:=by
 have e:=Tq α β i s t k
 have c1:crs i t k = -crs t i k:=by unfold crs;grind
 have c2:crs i k s=crs s i k:=by unfold crs;grind
 have c3:crs i s t = -crs t s i:=by unfold crs;grind
 rw [c1,c2,c3] at e
 have p1:=Int.mul_nonneg (show 0<=ph α β i-ph α β t by omega) h4
 have p2:=Int.mul_nonneg (show 0<=ph α β i-ph α β k by omega) (show 0<=-crs t s i by omega)
 refine Ml (x:=ph α β i-ph α β s) (by omega) ?_
 simp only [Int.sub_mul,Int.mul_neg] at e p1 p2 ⊢
 omega
theorem Ayq {a t i k:Ac} (h1:ph α β a < ph α β t) (h2:ph α β t < ph α β i) (h3:ph α β k < ph α β t) (h4:0<=crs a t k) (h5:0 < crs a t i):0 < crs t i k:=by
 have e:=Tq α β t a i k
 have c1:crs t k a=crs a t k:=by unfold crs;grind
 have c2:crs t a i = -crs a t i:=by unfold crs;grind
 rw [c1,c2] at e
 have p1:=Int.mul_nonneg (show 0<=ph α β i-ph α β t by omega) h4
 have p2:=Int.mul_pos (show 0 < ph α β t-ph α β k by omega) h5
 refine Ut (x:=ph α β t-ph α β a) (by omega) ?_
 simp only [Int.sub_mul,Int.mul_neg] at e p1 p2 ⊢
 omega
theorem Ayr {a b t i:Ac} (h1:ph α β a < ph α β b) (h2:ph α β b < ph α β t) (h3:ph α β b < ph α β i) (h4:0 < crs a b t) (h5:0 < crs b t i):0 < crs a b i:=by
 have e:=Tq α β b a t i
 have c1:crs b i a=crs a b i:=by unfold crs;grind
 have c2:crs b a t = -crs a b t:=by unfold crs;grind
 rw [c1,c2] at e
 have p1:=Int.mul_pos (show 0 < ph α β b-ph α β a by omega) h5
 have p2:=Int.mul_pos (show 0 < ph α β i-ph α β b by omega) h4
 refine Ut (x:=ph α β t-ph α β b) (by omega) ?_
 simp only [Int.sub_mul,Int.mul_neg] at e p1 p2 ⊢
 omega
end
section
variable (P:Int->Ac) (α β:Int)
def Sup (D:List Int) (a b:Int):Prop:=ph α β (P a) < ph α β (P b)/\∀ k∈D,0 < crs (P a) (P b) (P k)\/(crs (P a) (P b) (P k)=0/\ph α β (P a)<=ph α β (P k)/\ph α β (P k)<=ph α β (P b))
def Ya (Q:Int->Int->Prop):List Int->Prop
 | b::a::r=>Q a b/\Ya Q (a::r)
 | _=>True
def popC (i:Int):List Int->List Int
 | t::a::r=>if crs (P a) (P t) (P i)<=0 then popC i (a::r) else t::a::r
 | s=>s
structure Abd (f:Int) (D s:List Int):Prop where
 sub:∀ x∈s,x∈D
 edge:Ya (Sup P α β D) s
 bot:∃ r,s=r++[f]
 low:∀ k∈D,k=f\/ph α β (P f) < ph α β (P k)
variable {P α β}
theorem At8 {f i:Int} {D:List Int}:∀ {s:List Int},Abd P α β f D s->(∀ k∈D,ph α β (P k) < ph α β (P i))->(∀ t r,s=t::r->∀ k∈D,ph α β (P t) < ph α β (P k)->0<=crs (P t) (P i) (P k)) ->
  ∃ t r,popC P i s=t::r/\Abd P α β f D (t::r)/\(∀ k∈D,ph α β (P t) < ph α β (P k)->0<=crs (P t) (P i) (P k))/\(∀ a r',r=a::r'->0 < crs (P a) (P t) (P i))/\∃ q,s=q++t::r:=by
 intro s
 induction s with
 | nil=>intro h;obtain ⟨r,hr⟩:=h.bot;simp at hr
 | cons t s ih =>
  intro h hi hk
  cases s with
  | nil=>exact ⟨t,[],rfl,h,hk t [] rfl,fun a r' e=>(by cases e),[],rfl⟩
  | cons a r =>
   obtain ⟨he,hr⟩:=h.edge
   unfold popC
   by_cases c:crs (P a) (P t) (P i)<=0
   ·rw [if_pos c]
    have hb:Abd P α β f D (a::r):=⟨fun x hx=>h.sub x (List.mem_cons_of_mem _ hx),hr,by
     obtain ⟨q,hq⟩:=h.bot
     cases q with
     | nil=>simp at hq
     | cons y q=>exact ⟨q,by simp at hq;exact hq.2⟩,h.low⟩
    obtain ⟨t',r',g1,g2,g3,g4,q,g5⟩:=ih hb hi (fun t2 r2 e k hkD hlt=>by
     cases e
     have hti:=hi t (h.sub t (by simp))
     rcases he.2 k hkD with g | g
     ·by_cases hkt:ph α β (P k)<=ph α β (P t)
      ·exact Arc he.1 (by omega) hlt (by omega) c
      ·exact Awt (k:=P k) he.1 hti (by have:=hi k hkD;omega) (hk t _ rfl k hkD (by omega)) c
     ·exact Arc he.1 (by omega) hlt (by omega) c)
    exact ⟨t',r',g1,g2,g3,g4,t::q,by rw [g5];rfl⟩
   ·rw [if_neg c]
    exact ⟨t,a::r,rfl,h,hk t _ rfl,fun a' r' e=>(by cases e;omega),[],rfl⟩
theorem Ak1 {i:Int} {D:List Int}:∀ {r:List Int} {t:Int},Ya (Sup P α β D) (t::r)->(∀ k∈D,ph α β (P k) < ph α β (P i))->(∀ x∈t::r,x∈D)->(∀ a r',r=a::r'->0 < crs (P a) (P t) (P i))->Ya (Sup P α β (i::D)) (t::r):=by
 intro r
 induction r with
 | nil=>intro t _ _ _ _;trivial
 | cons a r ih =>
  intro t h hi hs hc
  obtain ⟨h1,h2⟩:=h
  have hpos:=hc a r rfl
  refine ⟨⟨h1.1,fun k hk=>?_⟩,ih h2 hi (fun x hx=>hs x (List.mem_cons_of_mem _ hx)) (fun b r' e=>?_)⟩
  ·rcases List.mem_cons.1 hk with rfl | hk
   ·exact .inl hpos
   ·exact h1.2 k hk
  ·subst e
   obtain ⟨h3,h4⟩:=h2
   have ht:=hs t (by simp)
   refine Ayr (t:=P t) h3.1 h1.1 (hi a (hs a (by simp))) ?_ hpos
   rcases h3.2 t ht with g | g
   ·exact g
   ·have:=h1.1;omega
theorem Ak2 {f i:Int} {D s:List Int} (h:Abd P α β f D s) (inj:∀ a∈D,∀ b∈D,ph α β (P a)=ph α β (P b)->a=b) (hi:∀ k∈D,ph α β (P k) < ph α β (P i)) (htop:∀ t r,s=t::r->∀ k∈D,ph α β (P k)<=ph α β (P t)):Abd P α β f (i::D) (i::popC P i s):=by
 obtain ⟨t,r,h1,h2,h3,h4,q,h5⟩:=At8 h hi (fun t r e k hk hlt=>by have:=htop t r e k hk;omega)
 rw [h1]
 have ht:t∈D:=h2.sub t (by simp)
 refine ⟨fun x hx=>?_,⟨⟨hi t ht,fun k hk=>?_⟩,Ak1 h2.edge hi h2.sub h4⟩,?_,fun k hk=>?_⟩
 ·rcases List.mem_cons.1 hx with rfl | hx
  ·simp
  ·exact List.mem_cons_of_mem _ (h2.sub x hx)
 ·rcases List.mem_cons.1 hk with rfl | hk
  ·right
   refine ⟨by unfold crs;grind,by have:=hi t ht;omega,by omega⟩
  ·have hki:=hi k hk
   rcases Int.lt_trichotomy (ph α β (P k)) (ph α β (P t)) with g | g | g
   ·cases r with
    | nil =>
     obtain ⟨q',hq'⟩:=h2.bot
     have:t=f:=by
      cases q' with
      | nil=>simp at hq';exact hq'
      | cons y q'=>simp at hq'
     subst this
     rcases h2.low k hk with e | e
     ·subst e;omega
     ·omega
    | cons a r =>
     obtain ⟨he,_⟩:=h2.edge
     left
     refine Ayq he.1 (hi t ht) g ?_ (h4 a r rfl)
     rcases he.2 k hk with e | e <;> omega
   ·obtain rfl:=inj k hk t ht g
    exact .inr ⟨by unfold crs;grind,by omega,by omega⟩
   ·have:=h3 k hk g
    rcases Int.lt_or_eq_of_le this with e | e
    ·exact .inl e
    ·exact .inr ⟨e.symm,by omega,by omega⟩
 ·obtain ⟨r',hr'⟩:=h2.bot
  exact ⟨i::r',by rw [hr'];rfl⟩
 ·rcases List.mem_cons.1 hk with rfl | hk
  ·right
   obtain ⟨r',hr'⟩:=h2.bot
   exact hi f (h2.sub f (by rw [hr'];simp))
  ·exact h2.low k hk
end
theorem Uu {a b c x y z:Int} (hx:0 < x) (hy:0 < y) (hz:0 < z) (h1:a*y < b*x) (h2:b*z < c*y):a*z < c*x:=by
 have h3:=Int.mul_lt_mul_of_pos_right h1 hz
 have h4:=Int.mul_lt_mul_of_pos_right h2 hx
 have h5:y*(a*z) < y*(c*x):=by
  have e1:y*(a*z)=a*y*z:=by grind
  have e2:b*x*z=b*z*x:=by grind
  have e3:y*(c*x)=c*y*x:=by grind
  rw [e1,e3]
  rw [e2] at h3
  exact Int.lt_trans h3 h4
 exact Int.lt_of_mul_lt_mul_left h5 (Int.le_of_lt hy)
theorem Ts {α:Type} {p q:α->Bool} {x:α}:∀ {l:List α},(∀ y∈l,p y=true->q y=true)->x∈l->q x=true->p x=false->l.countP p < l.countP q
 | [],_,hx,_,_=>by cases hx
 | y::r,h',hx,hq,hp=>by
  have h:=h' y List.mem_cons_self
  have h2:∀ z∈r,p z=true->q z=true:=fun z hz=>h' z (List.mem_cons_of_mem _ hz)
  have hle:r.countP p<=r.countP q:=List.countP_mono_left h2
  rw [List.countP_cons,List.countP_cons]
  rcases List.mem_cons.1 hx with rfl | hx
  ·rw [hq,hp];simp;omega
  ·have:=Ts h2 hx hq hp
   by_cases c:p y=true
   ·rw [if_pos c,if_pos (h c)];omega
   ·rw [if_neg c];split <;> omega
def c3 (a b p q r:Ac):Int:=crs a b p+crs a b q+crs a b r
def p3 (ha hb hc:Int) (a b c p q r:Ac):Int:=plt ha hb hc a b c p+plt ha hb hc a b c q+plt ha hb hc a b c r
theorem Aof (ha hb hc hd:Int) (a b c d p q r:Ac):p3 hb ha hd b a d p q r*crs a b c-p3 ha hb hc a b c p q r*crs b a d=Dt ha hb hc hd a b c d*c3 a b p q r:=by
 have h1:=Ok ha hb hc hd a b c d p
 have h2:=Ok ha hb hc hd a b c d q
 have h3:=Ok ha hb hc hd a b c d r
 unfold p3 c3
 grind
theorem Ard (ha hb hc:Int) (a b c p q r:Ac):p3 hb hc ha b c a p q r=p3 ha hb hc a b c p q r:=by unfold p3;rw [Aaa ha hb hc a b c p,Aaa ha hb hc a b c q,Aaa ha hb hc a b c r]
abbrev T3:=Int × Int × Int
variable {P:Int->Ac} {H:Int->Int}
def Tt (P:Int->Ac) (t:T3):Int:=crs (P t.1) (P t.2.1) (P t.2.2)
def hgt3 (P:Int->Ac) (H:Int->Int) (t:T3) (p q r:Ac):Int:=p3 (H t.1) (H t.2.1) (H t.2.2) (P t.1) (P t.2.1) (P t.2.2) p q r
def Sn (P:Int->Ac) (H:Int->Int) (p q r:Ac) (t s:T3):Prop:=hgt3 P H t p q r*Tt P s < hgt3 P H s p q r*Tt P t
instance (p q r:Ac) (t s:T3):Decidable (Sn P H p q r t s):=by unfold Sn;infer_instance
def DH (P:Int->Ac) (H:Int->Int) (a b c d:Int):Int:=Dt (H a) (H b) (H c) (H d) (P a) (P b) (P c) (P d)
structure Yv (P:Int->Ac) (X:List T3):Prop where
 rot:∀ a b c,(a,b,c)∈X->(b,c,a)∈X
 ccw:∀ a b c,(a,b,c)∈X->0 < crs (P a) (P b) (P c)
theorem walk {X:List T3} (hX:Yv P X) (p q r:Ac) (step:∀ a b c,(a,b,c)∈X->c3 (P a) (P b) p q r < 0->∃ d,(b,a,d)∈X/\DH P H a b c d < 0) :
  ∀ t∈X,∃ s∈X,0<=c3 (P s.1) (P s.2.1) p q r/\0<=c3 (P s.2.1) (P s.2.2) p q r/\0<=c3 (P s.2.2) (P s.1) p q r/\(s=t\/Sn P H p q r t s):=by
 have key:∀ (n:Nat) (t:T3),t∈X->X.countP (fun s=>decide (Sn P H p q r t s))=n->∃ s∈X,0<=c3 (P s.1) (P s.2.1) p q r/\0<=c3 (P s.2.1) (P s.2.2) p q r/\0<=c3 (P s.2.2) (P s.1) p q r/\(s=t\/Sn P H p q r t s):=by
  intro n
  induction n using Nat.strongRecOn with
  | ind n ih =>
   intro t ht hn
   have go:∀ t':T3,t'∈X->hgt3 P H t' p q r=hgt3 P H t p q r->Tt P t'=Tt P t->c3 (P t'.1) (P t'.2.1) p q r < 0 ->
     ∃ s∈X,0<=c3 (P s.1) (P s.2.1) p q r/\0<=c3 (P s.2.1) (P s.2.2) p q r/\0<=c3 (P s.2.2) (P s.1) p q r/\(s=t\/Sn P H p q r t s):=by
    rintro ⟨a,b,c⟩ h1 h2 h3 h4
    obtain ⟨d,h5,h6⟩:=step a b c h1 h4
    have hb:Sn P H p q r t (b,a,d):=by
     unfold Sn
     rw [<- h2,<- h3]
     have e:=Aof (H a) (H b) (H c) (H d) (P a) (P b) (P c) (P d) p q r
     have:0 < Dt (H a) (H b) (H c) (H d) (P a) (P b) (P c) (P d)*c3 (P a) (P b) p q r:=Int.mul_pos_of_neg_of_neg h6 h4
     show p3 _ _ _ _ _ _ p q r*crs _ _ _ < p3 _ _ _ _ _ _ p q r*crs _ _ _
     simp only
     omega
    have hpos:∀ u∈X,0 < Tt P u:=fun u hu=>hX.ccw u.1 u.2.1 u.2.2 hu
    have hlt:X.countP (fun s=>decide (Sn P H p q r (b,a,d) s)) < n:=by
     rw [<- hn]
     refine Ts (x:=(b,a,d)) (fun y hy hb2=>?_) h5 (by simpa using hb) (by simp [Sn])
     rw [decide_eq_true_eq] at hb2 ⊢
     exact Uu (hpos t ht) (hpos _ h5) (hpos y hy) hb hb2
    obtain ⟨s,k1,k2,k3,k4,k5⟩:=ih _ hlt (b,a,d) h5 rfl
    refine ⟨s,k1,k2,k3,k4,.inr ?_⟩
    rcases k5 with rfl | k5
    ·exact hb
    ·exact Uu (hpos t ht) (hpos _ h5) (hpos s k1) hb k5
   obtain ⟨a,b,c⟩:=t
   by_cases g1:c3 (P a) (P b) p q r < 0
   ·exact go (a,b,c) ht rfl rfl g1
   ·by_cases g2:c3 (P b) (P c) p q r < 0
    ·exact go (b,c,a) (hX.rot _ _ _ ht) (Ard _ _ _ _ _ _ _ _ _) (Al _ _ _) g2
    ·by_cases g3:c3 (P c) (P a) p q r < 0
     ·exact go (c,a,b) (hX.rot _ _ _ (hX.rot _ _ _ ht)) (by unfold hgt3;rw [<- Ard]) (by unfold Tt;rw [<- Al]) g3
     ·exact ⟨(a,b,c),ht,by simp only;omega,by simp only;omega,by simp only;omega,.inl rfl⟩
 exact fun t ht=>key _ t ht rfl
variable {P:Int->Ac} {H:Int->Int} {V:Int->Prop}
theorem Yw {a b c d:Int} (hd:d≠a->d≠b->d≠c->DH P H a b c d < 0):plt (H a) (H b) (H c) (P a) (P b) (P c) (P d)<=H d*crs (P a) (P b) (P c)/\(d≠a->d≠b->d≠c->plt (H a) (H b) (H c) (P a) (P b) (P c) (P d) < H d*crs (P a) (P b) (P c)):=by
 have key:d≠a->d≠b->d≠c->plt (H a) (H b) (H c) (P a) (P b) (P c) (P d) < H d*crs (P a) (P b) (P c):=fun h1 h2 h3=>by
  have:=hd h1 h2 h3
  unfold DH at this
  rw [Aa8] at this
  omega
 refine ⟨?_,key⟩
 by_cases h1:d=a
 ·subst h1;rw [Aq0];exact Int.le_refl _
 ·by_cases h2:d=b
  ·subst h2;rw [Al6];exact Int.le_refl _
  ·by_cases h3:d=c
   ·subst h3;rw [Al7];exact Int.le_refl _
   ·exact Int.le_of_lt (key h1 h2 h3)
theorem global {X:List T3} (hX:Yv P X) (emp:∀ a b c,(a,b,c)∈X->∀ d,V d->d≠a->d≠b->d≠c->crs (P a) (P b) (P d) < 0\/crs (P b) (P c) (P d) < 0\/crs (P c) (P a) (P d) < 0)
  (leg:∀ a b c,(a,b,c)∈X->∀ d,V d->crs (P a) (P b) (P d) < 0->∃ e,(b,a,e)∈X/\DH P H a b c e < 0) :
  ∀ a b c,(a,b,c)∈X->∀ d,V d->d≠a->d≠b->d≠c->DH P H a b c d < 0:=by
 intro a b c ht d hd h1 h2 h3
 have c3d:∀ x y,c3 x y (P d) (P d) (P d)=3*crs x y (P d):=fun x y=>by unfold c3;omega
 obtain ⟨⟨x,y,z⟩,hs,g1,g2,g3,g4⟩:=walk (H:=H) hX (P d) (P d) (P d) (fun a b c h hc=>leg a b c h d hd (by rw [c3d] at hc;omega)) (a,b,c) ht
 simp only [c3d] at g1 g2 g3
 rcases g4 with e | hb
 ·cases e
  rcases emp a b c ht d hd h1 h2 h3 with h | h | h <;> omega
 ·have hτ:=hX.ccw _ _ _ ht
  have hσ:=hX.ccw _ _ _ hs
  have hp:plt (H x) (H y) (H z) (P x) (P y) (P z) (P d)=H d*crs (P x) (P y) (P z):=by
   by_cases k1:d=x
   ·subst k1;rw [Aq0]
   ·by_cases k2:d=y
    ·subst k2;rw [Al6]
    ·by_cases k3:d=z
     ·subst k3;rw [Al7]
     ·rcases emp x y z hs d hd k1 k2 k3 with h | h | h <;> omega
  unfold Sn hgt3 Tt p3 at hb
  simp only [hp] at hb
  have h4:(plt (H a) (H b) (H c) (P a) (P b) (P c) (P d)*3)*crs (P x) (P y) (P z) < (H d*crs (P a) (P b) (P c)*3)*crs (P x) (P y) (P z):=by
   have e1:(plt (H a) (H b) (H c) (P a) (P b) (P c) (P d)*3)*crs (P x) (P y) (P z)=(plt (H a) (H b) (H c) (P a) (P b) (P c) (P d)+plt (H a) (H b) (H c) (P a) (P b) (P c) (P d)+plt (H a) (H b) (H c) (P a) (P b) (P c) (P d))*crs (P x) (P y) (P z):=by grind
   have e2:(H d*crs (P a) (P b) (P c)*3)*crs (P x) (P y) (P z)=(H d*crs (P x) (P y) (P z)+H d*crs (P x) (P y) (P z)+H d*crs (P x) (P y) (P z))*crs (P a) (P b) (P c):=by grind
   rw [e1,e2]
   exact hb
  have h5:=Int.lt_of_mul_lt_mul_right h4 (Int.le_of_lt hσ)
  unfold DH
  rw [Aa8]
  omega
theorem Uv {a b c:Int} (h:crs (P a) (P b) (P c)≠0):a≠b/\b≠c/\c≠a:=by
 refine ⟨fun e=>?_,fun e=>?_,fun e=>?_⟩
 ·subst e;exact h (Px _ _)
 ·subst e;exact h (Bb _ _)
 ·subst e;exact h (Bi _ _)
theorem Aed {X:List T3} (hX:Yv P X) (hV:∀ a b c,(a,b,c)∈X->V a/\V b/\V c) (empX:∀ a b c,(a,b,c)∈X->∀ d,V d->d≠a->d≠b->d≠c->DH P H a b c d < 0)
  (step:∀ a b c,(a,b,c)∈X->∀ d,V d->crs (P a) (P b) (P d) < 0->∃ e,(b,a,e)∈X) (hne:X≠[])
  {p q r:Int} (hp:V p) (hq:V q) (hr:V r) (hs:0 < crs (P p) (P q) (P r)) (hemp:∀ d,V d->d≠p->d≠q->d≠r->DH P H p q r d < 0):(p,q,r)∈X:=by
 obtain ⟨t0,ht0⟩:=List.exists_mem_of_ne_nil X hne
 obtain ⟨⟨a,b,c⟩,ht,g1,g2,g3,_⟩:=walk (H:=H) hX (P p) (P q) (P r) (fun a b c h hc=>by
  have hτ:=hX.ccw _ _ _ h
  obtain ⟨e,he⟩:∃ e,(b,a,e)∈X:=by
   unfold c3 at hc
   by_cases k1:crs (P a) (P b) (P p) < 0
   ·exact step a b c h p hp k1
   ·by_cases k2:crs (P a) (P b) (P q) < 0
    ·exact step a b c h q hq k2
    ·exact step a b c h r hr (by omega)
  refine ⟨e,he,empX a b c h e (hV _ _ _ he).2.2 ?_ ?_ ?_⟩
  ·exact (Uv (P:=P) (a:=b) (b:=a) (c:=e) (by have:=hX.ccw _ _ _ he;omega)).2.1.symm
  ·exact (Uv (P:=P) (a:=b) (b:=a) (c:=e) (by have:=hX.ccw _ _ _ he;omega)).2.2
  ·intro k
   subst k
   have h1:=hX.ccw _ _ _ he
   rw [Ar] at h1
   omega) t0 ht0
 simp only at g1 g2 g3
 have hτ:=hX.ccw _ _ _ ht
 obtain ⟨va,vb,vc⟩:=hV _ _ _ ht
 have P1:=Yw (P:=P) (H:=H) (empX a b c ht p hp)
 have P2:=Yw (P:=P) (H:=H) (empX a b c ht q hq)
 have P3:=Yw (P:=P) (H:=H) (empX a b c ht r hr)
 have Q1:=(Yw (P:=P) (H:=H) (hemp a va)).1
 have Q2:=(Yw (P:=P) (H:=H) (hemp b vb)).1
 have Q3:=(Yw (P:=P) (H:=H) (hemp c vc)).1
 have e1:c3 (P b) (P c) (P p) (P q) (P r)*plt (H p) (H q) (H r) (P p) (P q) (P r) (P a)+c3 (P c) (P a) (P p) (P q) (P r)*plt (H p) (H q) (H r) (P p) (P q) (P r) (P b)+c3 (P a) (P b) (P p) (P q) (P r)*plt (H p) (H q) (H r) (P p) (P q) (P r) (P c)
   = crs (P a) (P b) (P c)*((H p+H q+H r)*crs (P p) (P q) (P r)):=by
  have i1:=Ys (H p) (H q) (H r) (P a) (P b) (P c) (P p) (P q) (P r) (P p)
  have i2:=Ys (H p) (H q) (H r) (P a) (P b) (P c) (P p) (P q) (P r) (P q)
  have i3:=Ys (H p) (H q) (H r) (P a) (P b) (P c) (P p) (P q) (P r) (P r)
  rw [Aq0] at i1
  rw [Al6] at i2
  rw [Al7] at i3
  unfold c3
  grind
 have e2:plt (H a) (H b) (H c) (P a) (P b) (P c) (P p)+plt (H a) (H b) (H c) (P a) (P b) (P c) (P q)+plt (H a) (H b) (H c) (P a) (P b) (P c) (P r)=H a*c3 (P b) (P c) (P p) (P q) (P r)+H b*c3 (P c) (P a) (P p) (P q) (P r)+H c*c3 (P a) (P b) (P p) (P q) (P r):=by unfold plt c3;grind
 have m1:=Int.mul_le_mul_of_nonneg_left Q1 g2
 have m2:=Int.mul_le_mul_of_nonneg_left Q2 g3
 have m3:=Int.mul_le_mul_of_nonneg_left Q3 g1
 generalize hF:plt (H a) (H b) (H c) (P a) (P b) (P c) (P p)+plt (H a) (H b) (H c) (P a) (P b) (P c) (P q)+plt (H a) (H b) (H c) (P a) (P b) (P c) (P r)=F at *
 have hge:(H p+H q+H r)*crs (P a) (P b) (P c)<=F:=by
  have:crs (P p) (P q) (P r)*((H p+H q+H r)*crs (P a) (P b) (P c))<=crs (P p) (P q) (P r)*F:=by
   have e3:crs (P p) (P q) (P r)*F=c3 (P b) (P c) (P p) (P q) (P r)*(H a*crs (P p) (P q) (P r))+c3 (P c) (P a) (P p) (P q) (P r)*(H b*crs (P p) (P q) (P r))+c3 (P a) (P b) (P p) (P q) (P r)*(H c*crs (P p) (P q) (P r)):=by rw [e2];grind
   have e4:crs (P p) (P q) (P r)*((H p+H q+H r)*crs (P a) (P b) (P c))=crs (P a) (P b) (P c)*((H p+H q+H r)*crs (P p) (P q) (P r)):=by grind
   rw [e3,e4]
   omega
  exact Int.le_of_mul_le_mul_left this hs
 have hsum:(H p+H q+H r)*crs (P a) (P b) (P c)=H p*crs (P a) (P b) (P c)+H q*crs (P a) (P b) (P c)+H r*crs (P a) (P b) (P c):=by grind
 have in1:p=a\/p=b\/p=c:=by
  by_cases k1:p=a
  ·exact .inl k1
  ·by_cases k2:p=b
   ·exact .inr (.inl k2)
   ·by_cases k3:p=c
    ·exact .inr (.inr k3)
    ·have:=P1.2 k1 k2 k3;omega
 have in2:q=a\/q=b\/q=c:=by
  by_cases k1:q=a
  ·exact .inl k1
  ·by_cases k2:q=b
   ·exact .inr (.inl k2)
   ·by_cases k3:q=c
    ·exact .inr (.inr k3)
    ·have:=P2.2 k1 k2 k3;omega
 have in3:r=a\/r=b\/r=c:=by
  by_cases k1:r=a
  ·exact .inl k1
  ·by_cases k2:r=b
   ·exact .inr (.inl k2)
   ·by_cases k3:r=c
    ·exact .inr (.inr k3)
    ·have:=P3.2 k1 k2 k3;omega
 obtain ⟨d1,d2,d3⟩:=Uv (P:=P) (a:=p) (b:=q) (c:=r) (by omega)
 have o1:crs (P b) (P a) (P c) = -crs (P a) (P b) (P c):=Ar _ _ _
 have o2:crs (P a) (P c) (P b) = -crs (P a) (P b) (P c):=by unfold crs;grind
 have o3:crs (P c) (P b) (P a) = -crs (P a) (P b) (P c):=by rw [Ar,Al]
 rcases in1 with rfl | rfl | rfl <;> rcases in2 with rfl | rfl | rfl <;> rcases in3 with rfl | rfl | rfl
 all_goals first
  | exact absurd rfl d1
  | exact absurd rfl d2
  | exact absurd rfl d3
  | exact ht
  | exact hX.rot _ _ _ ht
  | exact hX.rot _ _ _ (hX.rot _ _ _ ht)
  | omega
theorem Qi (s a b c d:Ac):crs s a b*crs s c d-crs s a c*crs s b d+crs s a d*crs s b c=0:=by unfold crs;grind
theorem Cb {x y:Int} (h:0 < x*y) (hx:0 < x):0 < y:=by
 rcases Int.lt_or_le 0 y with g | g
 ·exact g
 ·have:=Int.mul_nonpos_of_nonneg_of_nonpos (Int.le_of_lt hx) g;omega
theorem Lt {x y:Int} (h:0<=x*y) (hx:0 < x):0<=y:=by
 rcases Int.lt_or_le y 0 with g | g
 ·have:=Int.mul_neg_of_pos_of_neg hx g;omega
 ·exact g
theorem Av (s a b:Ac):crs s b a = -crs s a b:=by unfold crs;grind
theorem Wc {s a b l i:Ac} (h1:0 < crs s a l) (h2:0 < crs s l b) (h3:0 < crs s a b) (h4:0 < crs s a i) (h5:0 < crs s i l):0 < crs s i b:=by
 have h:=Qi s a l i b
 rw [Av s i l] at h
 have e1:0 < crs s a i*crs s l b:=Int.mul_pos h4 h2
 have e2:0 < crs s a b*crs s i l:=Int.mul_pos h3 h5
 have e3:crs s a b * -crs s i l = -(crs s a b*crs s i l):=Int.mul_neg _ _
 exact Cb (x:=crs s a l) (by omega) h1
theorem Ahb {s a b l j:Ac} (h1:0 < crs s a l) (h2:0 < crs s l b) (h3:0 < crs s a b) (h4:0 < crs s j b) (h5:0 < crs s l j):0 < crs s a j:=by
 have h:=Qi s a j l b
 have e1:0 < crs s a l*crs s j b:=Int.mul_pos h1 h4
 have e2:0 < crs s a b*crs s l j:=Int.mul_pos h3 h5
 have e3:crs s a b*crs s j l = -(crs s a b*crs s l j):=by rw [Av s l j,Int.mul_neg]
 exact Cb (x:=crs s l b) (by rw [Int.mul_comm];omega) h2
theorem Aee {s j m l w:Ac} (h0:crs s j m=0) (h1:0 < crs s j l) (h2:0 < crs s m l) (h3:0 < crs s m w):0 < crs s j w:=by
 have h:=Qi s j l m w
 rw [h0,Av s m l] at h
 have e1:0 < crs s j l*crs s m w:=Int.mul_pos h1 h3
 have e2:crs s j w * -crs s m l = -(crs s m l*crs s j w):=by rw [Int.mul_neg,Int.mul_comm]
 exact Cb (x:=crs s m l) (by omega) h2
theorem Aog {s j m l w:Ac} (h0:crs s j m=0) (h1:0 < crs s l j) (h2:0 < crs s l m) (h3:0 < crs s w m):0 < crs s w j:=by
 have h:=Qi s l j w m
 have e0:crs s j m=0:=h0
 have e1:0 < crs s l j*crs s w m:=Int.mul_pos h1 h3
 have e2:crs s l m*crs s j w = -(crs s l m*crs s w j):=by rw [Av s w j,Int.mul_neg]
 rw [e0,Int.mul_zero] at h
 exact Cb (x:=crs s l m) (by omega) h2
theorem Are {s a i b j:Ac} (h0:crs s a i=0) (h1:0 < crs s a b) (h2:0 < crs s i b) (h3:0 < crs s i j) (h4:0 < crs s a j) :
  (0<=crs a b i/\0<=crs b s i)\/(0<=crs i j a/\0<=crs j s a):=by
 have hp:=Qi s a b i j
 rw [h0,Av s i b] at hp
 have s1:=Nc s a b i
 have s2:=Nc s i j a
 have r1:crs b s i=crs s i b:=by unfold crs;grind
 have r2:crs j s a=crs s a j:=by unfold crs;grind
 have r3:crs s i a=0:=by rw [Av,h0];rfl
 by_cases c:crs s i b<=crs s a b
 ·left;omega
 ·right
  have:crs s a j<=crs s i j:=by
   rcases Int.lt_or_le (crs s i j) (crs s a j) with g | g
   ·have e1:=Int.mul_lt_mul_of_pos_left g h1
    have e2:=Int.mul_lt_mul_of_pos_right (show crs s a b < crs s i b by omega) h4
    have e3:crs s a j * -crs s i b = -(crs s i b*crs s a j):=by rw [Int.mul_neg,Int.mul_comm]
    have e4:crs s a b*crs s a j=crs s a b*crs s a j:=rfl
    omega
   ·exact g
  omega
theorem At9 {s a i b j:Ac} (h0:crs s a i=0) (h1:0 < crs s b a) (h2:0 < crs s b i) (h3:0 < crs s j i) (h4:0 < crs s j a) :
  (0<=crs b a i/\0<=crs s b i)\/(0<=crs j i a/\0<=crs s j a):=by
 have hp:=Qi s b a j i
 rw [h0,Av s j a,Int.mul_zero] at hp
 have s1:=Nc s b a i
 have s2:=Nc s j i a
 have r1:crs a s i=0:=by rw [Ar,h0];rfl
 have r2:crs i s a=0:=by rw [Ar,Av,h0];rfl
 by_cases c:crs s b i<=crs s b a
 ·left;omega
 ·right
  have:crs s j a<=crs s j i:=by
   rcases Int.lt_or_le (crs s j i) (crs s j a) with g | g
   ·have e1:=Int.mul_lt_mul_of_pos_left g h1
    have e2:=Int.mul_lt_mul_of_pos_right (show crs s b a < crs s b i by omega) h4
    have e3:crs s b i * -crs s j a = -(crs s b i*crs s j a):=Int.mul_neg _ _
    omega
   ·exact g
  omega
abbrev Ap:=Int->Int->Option Int
structure Tri (P:Int->Ac) (V:Int->Prop) (ap:Ap):Prop where
 rot:∀ i j k,ap i j=some k->ap j k=some i
 ccw:∀ i j k,ap i j=some k->V i/\V j/\V k/\0 < crs (P i) (P j) (P k)
 emp:∀ i j k,ap i j=some k->∀ d,V d->d≠i->d≠j->d≠k->crs (P i) (P j) (P d) < 0\/crs (P j) (P k) (P d) < 0\/crs (P k) (P i) (P d) < 0
 cone:∀ s a b m,ap s a=some b->(ap s m≠none\/ap m s≠none)->¬ (0 < crs (P s) (P a) (P m)/\0 < crs (P s) (P m) (P b))
variable {P:Int->Ac} {H:Int->Int} {V:Int->Prop} {ap:Ap}
theorem Tri.rot2 (h:Tri P V ap) {i j k} (hk:ap i j=some k):ap k i=some j:=h.rot _ _ _ (h.rot _ _ _ hk)
theorem Tri.ne (h:Tri P V ap) {i j k} (hk:ap i j=some k):i≠j/\j≠k/\k≠i:=Uv (P:=P) (by have:=(h.ccw _ _ _ hk).2.2.2;omega)
theorem Tri.nbr (h:Tri P V ap) {s m} (hm:ap s m≠none\/ap m s≠none):(∃ w,ap s m=some w)\/∃ w,ap s w=some m:=by
 rcases hm with hm | hm
 ·obtain ⟨w,hw⟩:=Option.ne_none_iff_exists'.1 hm
  exact .inl ⟨w,hw⟩
 ·obtain ⟨w,hw⟩:=Option.ne_none_iff_exists'.1 hm
  exact .inr ⟨w,h.rot _ _ _ hw⟩
theorem Tri.cones (h:Tri P V ap) {s a b i j:Int} {l:Ac} (h1:ap s a=some b) (h2:ap s i=some j) (g1:0 < crs (P s) (P a) l) (g2:0 < crs (P s) l (P b)) (g3:0 < crs (P s) (P i) l) (g4:0 < crs (P s) l (P j)):a=i:=by
 obtain ⟨vs,va,vb,cab⟩:=h.ccw _ _ _ h1
 obtain ⟨_,vi,vj,cij⟩:=h.ccw _ _ _ h2
 rcases Int.lt_trichotomy (crs (P s) (P a) (P i)) 0 with c | c | c
 ·have c':0 < crs (P s) (P i) (P a):=by rw [Av];omega
  exact absurd ⟨c',Wc g3 g4 cij c' g1⟩ (h.cone s i j a h2 (.inl (by rw [h1];simp)))
 ·by_cases e:a=i
  ·exact e
  ·exfalso
   have n1:=h.ne h1
   have n2:=h.ne h2
   have k1:0 < crs (P s) (P i) (P b):=Aee (l:=l) (by rw [Av,c];rfl) g3 g1 cab
   have k2:0 < crs (P s) (P a) (P j):=Aee (l:=l) c g1 g3 cij
   rcases Are c cab k1 cij k2 with ⟨q1,q2⟩ | ⟨q1,q2⟩
   ·by_cases e2:i=b
    ·subst e2;omega
    ·rcases h.emp s a b h1 i vi (by omega) (by omega) e2 with g | g | g <;> omega
   ·by_cases e2:a=j
    ·subst e2;rw [Av] at cij;omega
    ·have:crs (P s) (P i) (P a)=0:=by rw [Av,c];rfl
     rcases h.emp s i j h2 a va (by omega) (by omega) e2 with g | g | g <;> omega
 ·exact absurd ⟨c,Wc g1 g2 cab c g3⟩ (h.cone s a b i h1 (.inl (by rw [h2];simp)))
variable {P:Int->Ac} {H:Int->Int} {V:Int->Prop} {ap:Ap}
def Di (ap:Ap) (i j k l:Int):Ap:=fun a b =>
 if a=i/\b=l then some k else if a=l/\b=k then some i else if a=k/\b=i then some l else
 if a=j/\b=k then some l else if a=k/\b=l then some j else if a=l/\b=j then some k else
 if a=i/\b=j then none else if a=j/\b=i then none else ap a b
theorem Nd {i j k l a b c:Int} (h:Di ap i j k l a b=some c) :
  (a=i/\b=l/\c=k)\/(a=l/\b=k/\c=i)\/(a=k/\b=i/\c=l)\/(a=j/\b=k/\c=l)\/(a=k/\b=l/\c=j)\/(a=l/\b=j/\c=k) \/
  (ap a b=some c/\¬ (a=i/\b=l)/\¬ (a=l/\b=k)/\¬ (a=k/\b=i)/\¬ (a=j/\b=k)/\¬ (a=k/\b=l)/\¬ (a=l/\b=j)/\¬ (a=i/\b=j)/\¬ (a=j/\b=i)):=by
 unfold Di at h
 by_cases k0:a=i/\b=l
 ·rw [if_pos k0] at h;exact .inl ⟨k0.1,k0.2,(Option.some.inj h).symm⟩
 rw [if_neg k0] at h
 by_cases k1:a=l/\b=k
 ·rw [if_pos k1] at h;exact .inr (.inl ⟨k1.1,k1.2,(Option.some.inj h).symm⟩)
 rw [if_neg k1] at h
 by_cases k2:a=k/\b=i
 ·rw [if_pos k2] at h;exact .inr (.inr (.inl ⟨k2.1,k2.2,(Option.some.inj h).symm⟩))
 rw [if_neg k2] at h
 by_cases k3:a=j/\b=k
 ·rw [if_pos k3] at h;exact .inr (.inr (.inr (.inl ⟨k3.1,k3.2,(Option.some.inj h).symm⟩)))
 rw [if_neg k3] at h
 by_cases k4:a=k/\b=l
 ·rw [if_pos k4] at h;exact .inr (.inr (.inr (.inr (.inl ⟨k4.1,k4.2,(Option.some.inj h).symm⟩))))
 rw [if_neg k4] at h
 by_cases k5:a=l/\b=j
 ·rw [if_pos k5] at h;exact .inr (.inr (.inr (.inr (.inr (.inl ⟨k5.1,k5.2,(Option.some.inj h).symm⟩)))))
 rw [if_neg k5] at h
 by_cases k6:a=i/\b=j
 ·rw [if_pos k6] at h;cases h
 rw [if_neg k6] at h
 by_cases k7:a=j/\b=i
 ·rw [if_pos k7] at h;cases h
 rw [if_neg k7] at h
 exact .inr (.inr (.inr (.inr (.inr (.inr ⟨h,k0,k1,k2,k3,k4,k5,k6,k7⟩)))))
theorem Aoh (ap:Ap) (i j k l:Int) (h1:i≠j) (h2:k≠l) (h3:k≠i) (h4:k≠j) (h5:l≠i) (h6:l≠j):Di ap j i l k=Di ap i j k l:=by
 funext a b
 unfold Di
 grind
theorem Arf {i j k l s m:Int} (h:Tri P V ap) (hk:ap i j=some k) (hl:ap j i=some l) (hm:Di ap i j k l s m≠none\/Di ap i j k l m s≠none) :
  ((ap s m≠none\/ap m s≠none)/\¬ (s=i/\m=j)/\¬ (s=j/\m=i))\/(s=k/\m=l)\/(s=l/\m=k):=by
 have a1:=h.rot _ _ _ hk
 have a2:=h.rot2 hk
 have a3:=h.rot _ _ _ hl
 have a4:=h.rot2 hl
 have n1:=h.ne hk
 have n2:=h.ne hl
 have key:∀ x y,Di ap i j k l x y≠none->((ap x y≠none\/ap y x≠none)/\¬ (x=i/\y=j)/\¬ (x=j/\y=i))\/(x=k/\y=l)\/(x=l/\y=k):=by
  intro x y hx
  obtain ⟨c,hc⟩:=Option.ne_none_iff_exists'.1 hx
  rcases Nd hc with ⟨rfl,rfl,rfl⟩ | ⟨rfl,rfl,rfl⟩ | ⟨rfl,rfl,rfl⟩ | ⟨rfl,rfl,rfl⟩ | ⟨rfl,rfl,rfl⟩ | ⟨rfl,rfl,rfl⟩ | ⟨h0,h1⟩
  ·exact .inl ⟨.inl (by rw [a3];simp),by omega,by omega⟩
  ·exact .inr (.inr ⟨rfl,rfl⟩)
  ·exact .inl ⟨.inl (by rw [a2];simp),by omega,by omega⟩
  ·exact .inl ⟨.inl (by rw [a1];simp),by omega,by omega⟩
  ·exact .inr (.inl ⟨rfl,rfl⟩)
  ·exact .inl ⟨.inl (by rw [a4];simp),by omega,by omega⟩
  ·exact .inl ⟨.inl (by rw [h0];simp),by omega,by omega⟩
 rcases hm with hm | hm
 ·exact key s m hm
 ·rcases key m s hm with ⟨g1,g2,g3⟩ | ⟨g1,g2⟩ | ⟨g1,g2⟩
  ·exact .inl ⟨g1.symm,by omega,by omega⟩
  ·exact .inr (.inr ⟨g2,g1⟩)
  ·exact .inr (.inl ⟨g2,g1⟩)
structure Quad (P:Int->Ac) (V:Int->Prop) (ap:Ap) (i j k l:Int):Prop where
 tri:Tri P V ap
 hk:ap i j=some k
 hl:ap j i=some l
 c1:0 < crs (P i) (P l) (P k)
 c2:0 < crs (P j) (P k) (P l)
theorem Quad.symm {i j k l} (q:Quad P V ap i j k l):Quad P V ap j i l k:=⟨q.tri,q.hl,q.hk,q.c2,q.c1⟩
theorem Quad.ne {i j k l} (q:Quad P V ap i j k l):i≠j/\k≠l/\k≠i/\k≠j/\l≠i/\l≠j:=by
 have n1:=q.tri.ne q.hk
 have n2:=q.tri.ne q.hl
 have n3:=Uv (P:=P) (a:=i) (b:=l) (c:=k) (by have:=q.c1;omega)
 omega
theorem Quad.fresh {i j k l} (q:Quad P V ap i j k l):ap k l=none/\ap l k=none:=by
 have key:∀ {i j k l},Quad P V ap i j k l->¬ (ap k l≠none\/ap l k≠none):=fun {i j k l} q hn=>by
  refine q.tri.cone k i j l (q.tri.rot2 q.hk) hn ⟨?_,?_⟩
  ·have:=q.c1;rw [Al] at this;exact this
  ·rw [Al];exact q.c2
 have:=key q
 exact ⟨by rcases h:ap k l with _ | x;rfl;exact absurd (.inl (by rw [h];simp)) this,by rcases h:ap l k with _ | x;rfl;exact absurd (.inr (by rw [h];simp)) this⟩
theorem Arg {i j k l} (q:Quad P V ap i j k l):∀ a b c,Di ap i j k l a b=some c->Di ap i j k l b c=some a:=by
 intro a b c hc
 have a1:=q.tri.rot _ _ _ q.hk
 have a2:=q.tri.rot2 q.hk
 have a3:=q.tri.rot _ _ _ q.hl
 have a4:=q.tri.rot2 q.hl
 have hk:=q.hk
 have hl:=q.hl
 obtain ⟨f1,f2⟩:=q.fresh
 obtain ⟨n1,n2,n3,n4,n5,n6⟩:=q.ne
 have hr:=q.tri.rot
 rcases Nd hc with ⟨rfl,rfl,rfl⟩ | ⟨rfl,rfl,rfl⟩ | ⟨rfl,rfl,rfl⟩ | ⟨rfl,rfl,rfl⟩ | ⟨rfl,rfl,rfl⟩ | ⟨rfl,rfl,rfl⟩ | ⟨h0,h1⟩
 ·unfold Di;grind
 ·unfold Di;grind
 ·unfold Di;grind
 ·unfold Di;grind
 ·unfold Di;grind
 ·unfold Di;grind
 ·have h2:=hr _ _ _ h0
  unfold Di
  grind
theorem Aua {pi pj pk pl pd:Ac} (hk:0 < crs pi pj pk) (hl:0 < crs pj pi pl) (c1:0 < crs pi pl pk) (c2:0 < crs pj pk pl) (d1:0<=crs pi pl pd) (d2:0<=crs pl pk pd) (d3:0<=crs pk pi pd) :
  (0<=crs pi pj pd/\0<=crs pj pk pd/\0<=crs pk pi pd)\/(0<=crs pj pi pd/\0<=crs pi pl pd/\0<=crs pl pj pd):=by
 by_cases c:0<=crs pi pj pd
 ·left
  refine ⟨c,?_,d3⟩
  have e:crs pi pl pk*crs pj pk pd=crs pi pj pk*crs pl pk pd+crs pj pk pl*crs pk pi pd:=by unfold crs;grind
  have:=Int.mul_nonneg (Int.le_of_lt hk) d2
  have:=Int.mul_nonneg (Int.le_of_lt c2) d3
  exact Lt (x:=crs pi pl pk) (by omega) c1
 ·right
  refine ⟨by rw [Ar];omega,d1,?_⟩
  have e:crs pi pl pk*crs pl pj pd=crs pj pi pl*crs pl pk pd+crs pj pk pl*crs pi pl pd:=by unfold crs;grind
  have:=Int.mul_nonneg (Int.le_of_lt hl) d2
  have:=Int.mul_nonneg (Int.le_of_lt c2) d1
  exact Lt (x:=crs pi pl pk) (by omega) c1
theorem Quad.emp1 {i j k l} (q:Quad P V ap i j k l) (d:Int) (hd:V d) (h1:d≠i) (h2:d≠l) (h3:d≠k):crs (P i) (P l) (P d) < 0\/crs (P l) (P k) (P d) < 0\/crs (P k) (P i) (P d) < 0:=by
 obtain ⟨_,_,_,ck⟩:=q.tri.ccw _ _ _ q.hk
 obtain ⟨_,_,_,cl⟩:=q.tri.ccw _ _ _ q.hl
 by_cases hj:d=j
 ·subst hj
  have:crs (P l) (P k) (P d) = -crs (P d) (P k) (P l):=by unfold crs;grind
  have:=q.c2
  omega
 ·by_cases g1:crs (P i) (P l) (P d) < 0
  ·exact .inl g1
  ·by_cases g2:crs (P l) (P k) (P d) < 0
   ·exact .inr (.inl g2)
   ·by_cases g3:crs (P k) (P i) (P d) < 0
    ·exact .inr (.inr g3)
    ·exfalso
     rcases Aua (pd:=P d) ck cl q.c1 q.c2 (by omega) (by omega) (by omega) with ⟨e1,e2,e3⟩ | ⟨e1,e2,e3⟩
     ·rcases q.tri.emp _ _ _ q.hk d hd h1 hj h3 with g | g | g <;> omega
     ·rcases q.tri.emp _ _ _ q.hl d hd hj h1 h2 with g | g | g <;> omega
theorem Quad.cone_i {i j k l} (q:Quad P V ap i j k l) (m:Int) (hm:ap i m≠none\/ap m i≠none) (hj:m≠j):¬ (0 < crs (P i) (P l) (P m)/\0 < crs (P i) (P m) (P k)):=by
 rintro ⟨g1,g2⟩
 have hk:=q.hk
 have hl:=q.tri.rot _ _ _ q.hl
 obtain ⟨vi,vj,vk,ck⟩:=q.tri.ccw _ _ _ hk
 obtain ⟨_,vl,_,cl⟩:=q.tri.ccw _ _ _ hl
 rcases Int.lt_trichotomy (crs (P i) (P j) (P m)) 0 with c | c | c
 ·exact q.tri.cone i l j m hl hm ⟨g1,by rw [Av];omega⟩
 ·-- on the ray to j
  have ne:=q.tri.ne hk
  have ne':=q.tri.ne hl
  have cmj:crs (P i) (P m) (P j)=0:=by rw [Av,c];rfl
  rcases q.tri.nbr hm with ⟨w,hw⟩ | ⟨w,hw⟩
  ·obtain ⟨_,vm,vw,cw⟩:=q.tri.ccw _ _ _ hw
   have k1:0 < crs (P i) (P j) (P w):=Aee (l:=P k) c ck g2 cw
   rcases Are cmj cw k1 ck g2 with ⟨q1,q2⟩ | ⟨q1,q2⟩
   ·have nw:=q.tri.ne hw
    by_cases e:j=w
    ·subst e;omega
    ·rcases q.tri.emp _ _ _ hw j vj (by omega) (by omega) e with g | g | g <;> omega
   ·by_cases e:m=k
    ·subst e;omega
    ·rcases q.tri.emp _ _ _ hk m vm (q.tri.ne hw).1.symm hj e with g | g | g <;> omega
  ·obtain ⟨_,vw,vm,cw⟩:=q.tri.ccw _ _ _ hw
   have nw:=q.tri.ne hw
   have k1:0 < crs (P i) (P w) (P j):=Aog (l:=P l) c cl g1 cw
   rcases At9 cmj cw k1 cl g1 with ⟨q1,q2⟩ | ⟨q1,q2⟩
   ·by_cases e:j=w
    ·subst e;rw [Bb] at k1;omega
    ·have:crs (P m) (P i) (P j)=0:=by rw [Ar,cmj];rfl
     rcases q.tri.emp _ _ _ hw j vj (by omega) e (by omega) with g | g | g <;> omega
   ·by_cases e:m=l
    ·subst e;rw [Bb] at g1;omega
    ·have:crs (P j) (P i) (P m)=0:=by rw [Ar,c];rfl
     rcases q.tri.emp _ _ _ hl m vm (by omega) e hj with g | g | g <;> omega
 ·exact q.tri.cone i j k m hk hm ⟨c,g2⟩
theorem Quad.cone_k {i j k l} (q:Quad P V ap i j k l) (m:Int) (hm:ap k m≠none\/ap m k≠none):¬ (0 < crs (P k) (P i) (P m)/\0 < crs (P k) (P m) (P l)):=by
 rintro ⟨g1,g2⟩
 have hk:=q.tri.rot2 q.hk
 obtain ⟨_,_,_,ck⟩:=q.tri.ccw _ _ _ hk
 have c2:0 < crs (P k) (P l) (P j):=by rw [Al];exact q.c2
 have c1:0 < crs (P k) (P i) (P l):=by have:=q.c1;rw [Al] at this;exact this
 refine q.tri.cone k i j m hk hm ⟨g1,?_⟩
 exact Wc (l:=P l) c1 c2 ck g1 g2
theorem Quad.cone_l {i j k l} (q:Quad P V ap i j k l) (m:Int) (hm:ap l m≠none\/ap m l≠none):¬ (0 < crs (P l) (P k) (P m)/\0 < crs (P l) (P m) (P i)):=by
 rintro ⟨g1,g2⟩
 have hl:=q.tri.rot2 q.hl
 obtain ⟨_,_,_,cl⟩:=q.tri.ccw _ _ _ hl
 have c1:0 < crs (P l) (P k) (P i):=by rw [Al];exact q.c1
 have c2:0 < crs (P l) (P j) (P k):=by have:=q.c2;rw [Al] at this;exact this
 refine q.tri.cone l j i m hl hm ⟨?_,g2⟩
 exact Ahb (l:=P k) c2 c1 cl g2 g1
theorem Quad.flip {i j k l} (q:Quad P V ap i j k l):Tri P V (Di ap i j k l):=by
 have hk:=q.hk
 have hl:=q.hl
 obtain ⟨vi,vj,vk,ck⟩:=q.tri.ccw _ _ _ hk
 obtain ⟨_,_,vl,cl⟩:=q.tri.ccw _ _ _ hl
 have c1:=q.c1
 have c2:=q.c2
 have c1':0 < crs (P l) (P k) (P i):=by rw [Al];exact c1
 have c1'':0 < crs (P k) (P i) (P l):=by rw [Al];exact c1'
 have c2':0 < crs (P k) (P l) (P j):=by rw [Al];exact c2
 have c2'':0 < crs (P l) (P j) (P k):=by rw [Al];exact c2'
 have n:=q.ne
 refine ⟨Arg q,fun a b c hc=>?_,fun a b c hc d hd h1 h2 h3=>?_,fun s a b m hc hm=>?_⟩
 ·rcases Nd hc with ⟨rfl,rfl,rfl⟩ | ⟨rfl,rfl,rfl⟩ | ⟨rfl,rfl,rfl⟩ | ⟨rfl,rfl,rfl⟩ | ⟨rfl,rfl,rfl⟩ | ⟨rfl,rfl,rfl⟩ | ⟨h0,_⟩
  ·exact ⟨vi,vl,vk,c1⟩
  ·exact ⟨vl,vk,vi,c1'⟩
  ·exact ⟨vk,vi,vl,c1''⟩
  ·exact ⟨vj,vk,vl,c2⟩
  ·exact ⟨vk,vl,vj,c2'⟩
  ·exact ⟨vl,vj,vk,c2''⟩
  ·exact q.tri.ccw _ _ _ h0
 ·rcases Nd hc with ⟨rfl,rfl,rfl⟩ | ⟨rfl,rfl,rfl⟩ | ⟨rfl,rfl,rfl⟩ | ⟨rfl,rfl,rfl⟩ | ⟨rfl,rfl,rfl⟩ | ⟨rfl,rfl,rfl⟩ | ⟨h0,_⟩
  ·exact q.emp1 d hd h1 h2 h3
  ·rcases q.emp1 d hd h3 h1 h2 with g | g | g <;> simp [g]
  ·rcases q.emp1 d hd h2 h3 h1 with g | g | g <;> simp [g]
  ·exact q.symm.emp1 d hd h1 h2 h3
  ·rcases q.symm.emp1 d hd h3 h1 h2 with g | g | g <;> simp [g]
  ·rcases q.symm.emp1 d hd h2 h3 h1 with g | g | g <;> simp [g]
  ·exact q.tri.emp _ _ _ h0 d hd h1 h2 h3
 ·have hn:=Arf q.tri hk hl hm
  rcases Nd hc with ⟨rfl,rfl,rfl⟩ | ⟨rfl,rfl,rfl⟩ | ⟨rfl,rfl,rfl⟩ | ⟨rfl,rfl,rfl⟩ | ⟨rfl,rfl,rfl⟩ | ⟨rfl,rfl,rfl⟩ | ⟨h0,h9⟩
  ·-- at i
   rcases hn with ⟨g1,g2,g3⟩ | ⟨g1,g2⟩ | ⟨g1,g2⟩
   ·exact q.cone_i m g1 (fun e=>g2 ⟨rfl,e⟩)
   ·omega
   ·omega
  ·-- at l: from k to i
   rcases hn with ⟨g1,g2,g3⟩ | ⟨g1,g2⟩ | ⟨g1,g2⟩
   ·exact q.cone_l m g1
   ·omega
   ·rintro ⟨e1,e2⟩;rw [g2,Bb] at e1;omega
  ·-- at k: from i to l
   rcases hn with ⟨g1,g2,g3⟩ | ⟨g1,g2⟩ | ⟨g1,g2⟩
   ·exact q.cone_k m g1
   ·rintro ⟨e1,e2⟩;rw [g2,Bb] at e2;omega
   ·omega
  ·rcases hn with ⟨g1,g2,g3⟩ | ⟨g1,g2⟩ | ⟨g1,g2⟩
   ·exact q.symm.cone_i m g1 (fun e=>g3 ⟨rfl,e⟩)
   ·omega
   ·omega
  ·rcases hn with ⟨g1,g2,g3⟩ | ⟨g1,g2⟩ | ⟨g1,g2⟩
   ·exact q.symm.cone_l m g1
   ·rintro ⟨e1,e2⟩;rw [g2,Bb] at e1;omega
   ·omega
  ·rcases hn with ⟨g1,g2,g3⟩ | ⟨g1,g2⟩ | ⟨g1,g2⟩
   ·exact q.symm.cone_k m g1
   ·omega
   ·rintro ⟨e1,e2⟩;rw [g2,Bb] at e2;omega
  ·rcases hn with ⟨g1,g2,g3⟩ | ⟨rfl,rfl⟩ | ⟨rfl,rfl⟩
   ·exact q.tri.cone s a b m h0 g1
   ·-- at k,l within another angle
    rintro ⟨e1,e2⟩
    have:=q.tri.cones h0 (q.tri.rot2 hk) e1 e2 c1'' c2'
    omega
   ·rintro ⟨e1,e2⟩
    have:=q.tri.cones h0 (q.tri.rot2 hl) e1 e2 c2'' c1'
    omega
end Go.Proofs.YtjfndjmabhbicaaGreat
