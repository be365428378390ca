/- The legal side: the reference's answer, and that it does not matter from where a side is seen. -/
import Derived.Test.YtjfndjmabhbicaaGreatZ4
namespace Go.Proofs.YtjfndjmabhbicaaGreat
open Go Go.RowKit
def Dt (ha hb hc hd:Int) (a b c d:Ac):Int:=ha*crs b c d+hb*crs c a d+hc*crs a b d-hd*crs a b c
def plt (ha hb hc:Int) (a b c x:Ac):Int:=ha*crs b c x+hb*crs c a x+hc*crs a b x
def sq (p:Ac):Int:=p.X*p.X+p.Y*p.Y
theorem Ayy (a b c d:Ac):inC a b c d=Dt (sq a) (sq b) (sq c) (sq d) a b c d:=by unfold inC Dt lft sq crs;grind
theorem Acc (ha hb hc hd:Int) (a b c d:Ac):Dt ha hb hc hd a b c d=plt ha hb hc a b c d-hd*crs a b c:=rfl
theorem Ou (a b c d:Ac):crs a b c=crs b c d+crs c a d+crs a b d:=by unfold crs;grind
theorem Air (a b c q r u:Ac):crs b c u*crs q r a+crs c a u*crs q r b+crs a b u*crs q r c=crs a b c*crs q r u:=by unfold crs;grind
theorem Aan (hp hq hr:Int) (a b c p q r u:Ac):crs b c u*plt hp hq hr p q r a+crs c a u*plt hp hq hr p q r b+crs a b u*plt hp hq hr p q r c=crs a b c*plt hp hq hr p q r u:=by
 have h1:=Air a b c q r u
 have h2:=Air a b c r p u
 have h3:=Air a b c p q u
 unfold plt
 grind
theorem Qc (ha hb hc hd:Int) (a b c d x:Ac):plt hb ha hd b a d x*crs a b c-plt ha hb hc a b c x*crs b a d=Dt ha hb hc hd a b c d*crs a b x:=by
 unfold plt Dt crs;grind
theorem Av0 (ha hb hc hd:Int) (a b c d:Ac):Dt hb ha hc hd b a c d = -Dt ha hb hc hd a b c d:=by unfold Dt crs;grind
theorem Ayz (ha hb hc hd:Int) (a b c d:Ac):Dt hb hc ha hd b c a d=Dt ha hb hc hd a b c d:=by unfold Dt crs;grind
theorem Ako (ha hb hc hd:Int) (a b c d:Ac):Dt ha hb hd hc a b d c = -Dt ha hb hc hd a b c d:=by unfold Dt crs;grind
theorem Abl (ha hb hc:Int) (a b c x:Ac):plt hb hc ha b c a x=plt ha hb hc a b c x:=by unfold plt;grind
theorem Atc (ha hb hc:Int) (a b c:Ac):plt ha hb hc a b c a=ha*crs a b c:=by unfold plt crs;grind
theorem Aof (ha hb hc:Int) (a b c:Ac):plt ha hb hc a b c b=hb*crs a b c:=by unfold plt crs;grind
theorem Aog (ha hb hc:Int) (a b c:Ac):plt ha hb hc a b c c=hc*crs a b c:=by unfold plt crs;grind
theorem Ay0 (a b c d:Ac):inC a b c d=lft a b*crs b c d+lft c b*crs a b d-lft d b*crs a b c:=by unfold inC lft crs;grind
theorem Ais {p q:Ac} (h:¬ Bt p q):0 < lft p q:=by
 unfold lft
 have h1:0<=(p.X-q.X)*(p.X-q.X):=by rw[<- Int.natAbs_mul_self];omega
 have h2:0<=(p.Y-q.Y)*(p.Y-q.Y):=by rw[<- Int.natAbs_mul_self];omega
 by_cases hx:p.X=q.X
 ·have hy:p.Y-q.Y≠0:=fun e=>h ⟨hx,by omega⟩
  have:0 < (p.Y-q.Y)*(p.Y-q.Y):=by
   rcases Int.lt_or_gt_of_ne hy with g | g
   ·exact Int.mul_pos_of_neg_of_neg g g
   ·exact Int.mul_pos g g
  omega
 ·have hx':p.X-q.X≠0:=by omega
  have:0 < (p.X-q.X)*(p.X-q.X):=by
   rcases Int.lt_or_gt_of_ne hx' with g | g
   ·exact Int.mul_pos_of_neg_of_neg g g
   ·exact Int.mul_pos g g
  omega
theorem Wf (p q:Ac):0<=lft p q:=by
 unfold lft
 have h1:0<=(p.X-q.X)*(p.X-q.X):=by rw[<- Int.natAbs_mul_self];omega
 have h2:0<=(p.Y-q.Y)*(p.Y-q.Y):=by rw[<- Int.natAbs_mul_self];omega
 omega
theorem Afh {a b c d:Ac} (h1:0 < crs a b c) (h2:crs a b d < 0) (h3:crs b c d<=0):inC a b c d < 0:=by
 have hd:¬ Bt d b:=fun e=>by
  have:=Abe e
  subst this
  simp only[Bi] at h2
  omega
 rw[Ay0]
 have e1:lft a b*crs b c d<=0:=Int.mul_nonpos_of_nonneg_of_nonpos (Wf a b) h3
 have e2:lft c b*crs a b d<=0:=Int.mul_nonpos_of_nonneg_of_nonpos (Wf c b) (by omega)
 have e3:0 < lft d b*crs a b c:=Int.mul_pos (Ais hd) h1
 omega
theorem Ya {a b c d:Ac} (h1:0 < crs a b c) (h2:crs a b d < 0) (h3:crs c a d<=0):inC a b c d < 0:=by
 have e:inC a b c d=lft b a*crs c a d+lft c a*crs a b d-lft d a*crs a b c:=by unfold inC lft crs;grind
 have hd:¬ Bt d a:=fun e=>by
  have:=Abe e
  subst this
  simp only[Bp] at h2
  omega
 rw[e]
 have e1:lft b a*crs c a d<=0:=Int.mul_nonpos_of_nonneg_of_nonpos (Wf b a) h3
 have e2:lft c a*crs a b d<=0:=Int.mul_nonpos_of_nonneg_of_nonpos (Wf c a) (by omega)
 have e3:0 < lft d a*crs a b c:=Int.mul_pos (Ais hd) h1
 omega
def ph (α β:Int) (p:Ac):Int:=α*p.X+β*p.Y
theorem Aoh (α β:Int) (a b c d:Ac):(ph α β b-ph α β a)*crs a c d+(ph α β c-ph α β a)*crs a d b+(ph α β d-ph α β a)*crs a b c=0:=by unfold ph crs;grind
section
variable {α β:Int}
theorem Afi {x y:Int} (hx:0 < x) (h:0 < x*y):0 < y:=by
 rcases Int.lt_trichotomy y 0 with g | g | g
 ·have:=Int.mul_neg_of_pos_of_neg hx g;omega
 ·subst g;simp at h
 ·exact g
theorem Rr {x y:Int} (hx:0 < x) (h:0<=x*y):0<=y:=by
 rcases Int.lt_or_le y 0 with g | g
 ·have:=Int.mul_neg_of_pos_of_neg hx g;omega
 ·exact g
end
section
variable (P:Int->Ac) (α β:Int)
def Sup (D:List Int) (a b:Int):Prop:=ph α β (P a) < ph α β (P b)/\∀ k∈D,0 < crs (P a) (P b) (P k)\/(crs (P a) (P b) (P k)=0/\ph α β (P a)<=ph α β (P k)/\ph α β (P k)<=ph α β (P b))
def Akp (Q:Int->Int->Prop):List Int->Prop
 | b::a::r=>Q a b/\Akp Q (a::r)
 | _=>True
structure ChainC (f:Int) (D s:List Int):Prop where
 sub:∀ x∈s,x∈D
 edge:Akp (Sup P α β D) s
 bot:∃ r,s=r++[f]
 low:∀ k∈D,k=f\/ph α β (P f) < ph α β (P k)
variable {P α β}
end
theorem Wg {a b c x y z:Int} (hx:0 < x) (hy:0 < y) (hz:0 < z) (h1:a*y < b*x) (h2:b*z < c*y):a*z < c*x:=by
 have h3:=Int.mul_lt_mul_of_pos_right h1 hz
 have h4:=Int.mul_lt_mul_of_pos_right h2 hx
 have h5:y*(a*z) < y*(c*x):=by
  have e1:y*(a*z)=a*y*z:=by grind
  have e2:b*x*z=b*z*x:=by grind
  have e3:y*(c*x)=c*y*x:=by grind
  rw[e1,e3]
  rw[e2] at h3
  exact Int.lt_trans h3 h4
 exact Int.lt_of_mul_lt_mul_left h5 (Int.le_of_lt hy)
theorem Vf {α:Type} {p q:α->Bool} {x:α}:∀ {l:List α},(∀ y∈l,p y=true->q y=true)->x∈l->q x=true->p x=false->l.countP p < l.countP q
 | [],_,hx,_,_=>by cases hx
 | y::r,h',hx,hq,hp=>by
  have h:=h' y List.mem_cons_self
  have h2:∀ z∈r,p z=true->q z=true:=fun z hz=>h' z (List.mem_cons_of_mem _ hz)
  have hle:r.countP p<=r.countP q:=List.countP_mono_left h2
  rw[List.countP_cons,List.countP_cons]
  rcases List.mem_cons.1 hx with rfl | hx
  ·rw[hq,hp];simp;omega
  ·have:=Vf h2 hx hq hp
   by_cases c:p y=true
   ·rw[if_pos c,if_pos (h c)];omega
   ·rw[if_neg c];split <;> omega
def c3 (a b p q r:Ac):Int:=crs a b p+crs a b q+crs a b r
def p3 (ha hb hc:Int) (a b c p q r:Ac):Int:=plt ha hb hc a b c p+plt ha hb hc a b c q+plt ha hb hc a b c r
theorem Ap7 (ha hb hc hd:Int) (a b c d p q r:Ac):p3 hb ha hd b a d p q r*crs a b c-p3 ha hb hc a b c p q r*crs b a d=Dt ha hb hc hd a b c d*c3 a b p q r:=by
 have h1:=Qc ha hb hc hd a b c d p
 have h2:=Qc ha hb hc hd a b c d q
 have h3:=Qc ha hb hc hd a b c d r
 unfold p3 c3
 grind
theorem Atd (ha hb hc:Int) (a b c p q r:Ac):p3 hb hc ha b c a p q r=p3 ha hb hc a b c p q r:=by unfold p3;rw[Abl ha hb hc a b c p,Abl ha hb hc a b c q,Abl ha hb hc a b c r]
abbrev T3:=Int × Int × Int
variable {P:Int->Ac} {H:Int->Int}
def Vg (P:Int->Ac) (t:T3):Int:=crs (P t.1) (P t.2.1) (P t.2.2)
def hgt3 (P:Int->Ac) (H:Int->Int) (t:T3) (p q r:Ac):Int:=p3 (H t.1) (H t.2.1) (H t.2.2) (P t.1) (P t.2.1) (P t.2.2) p q r
def Wv (P:Int->Ac) (H:Int->Int) (p q r:Ac) (t s:T3):Prop:=hgt3 P H t p q r*Vg P s < hgt3 P H s p q r*Vg P t
instance (p q r:Ac) (t s:T3):Decidable (Wv P H p q r t s):=by unfold Wv;infer_instance
def DH (P:Int->Ac) (H:Int->Int) (a b c d:Int):Int:=Dt (H a) (H b) (H c) (H d) (P a) (P b) (P c) (P d)
structure Aao (P:Int->Ac) (X:List T3):Prop where
 rot:∀ a b c,(a,b,c)∈X->(b,c,a)∈X
 ccw:∀ a b c,(a,b,c)∈X->0 < crs (P a) (P b) (P c)
theorem walk {X:List T3} (hX:Aao P X) (p q r:Ac) (step:∀ a b c,(a,b,c)∈X->c3 (P a) (P b) p q r < 0->∃ d,(b,a,d)∈X/\DH P H a b c d < 0) :
  ∀ t∈X,∃ s∈X,0<=c3 (P s.1) (P s.2.1) p q r/\0<=c3 (P s.2.1) (P s.2.2) p q r/\0<=c3 (P s.2.2) (P s.1) p q r/\(s=t\/Wv P H p q r t s):=by
 have key:∀ (n:Nat) (t:T3),t∈X->X.countP (fun s=>decide (Wv P H p q r t s))=n->∃ s∈X,0<=c3 (P s.1) (P s.2.1) p q r/\0<=c3 (P s.2.1) (P s.2.2) p q r/\0<=c3 (P s.2.2) (P s.1) p q r/\(s=t\/Wv P H p q r t s):=by
  intro n
  induction n using Nat.strongRecOn with
  | ind n ih=>
   intro t ht hn
   have go:∀ t':T3,t'∈X->hgt3 P H t' p q r=hgt3 P H t p q r->Vg P t'=Vg P t->c3 (P t'.1) (P t'.2.1) p q r < 0 ->
     ∃ s∈X,0<=c3 (P s.1) (P s.2.1) p q r/\0<=c3 (P s.2.1) (P s.2.2) p q r/\0<=c3 (P s.2.2) (P s.1) p q r/\(s=t\/Wv P H p q r t s):=by
    rintro ⟨a,b,c⟩ h1 h2 h3 h4
    obtain ⟨d,h5,h6⟩:=step a b c h1 h4
    have hb:Wv P H p q r t (b,a,d):=by
     unfold Wv
     rw[<- h2,<- h3]
     have e:=Ap7 (H a) (H b) (H c) (H d) (P a) (P b) (P c) (P d) p q r
     have:0 < Dt (H a) (H b) (H c) (H d) (P a) (P b) (P c) (P d)*c3 (P a) (P b) p q r:=Int.mul_pos_of_neg_of_neg h6 h4
     show p3 _ _ _ _ _ _ p q r*crs _ _ _ < p3 _ _ _ _ _ _ p q r*crs _ _ _
     simp only
     omega
    have hpos:∀ u∈X,0 < Vg P u:=fun u hu=>hX.ccw u.1 u.2.1 u.2.2 hu
    have hlt:X.countP (fun s=>decide (Wv P H p q r (b,a,d) s)) < n:=by
     rw[<- hn]
     refine Vf (x:=(b,a,d)) (fun y hy hb2=>?_) h5 (by simpa using hb) (by simp[Wv])
     rw[decide_eq_true_eq] at hb2 ⊢
     exact Wg (hpos t ht) (hpos _ h5) (hpos y hy) hb hb2
    obtain ⟨s,k1,k2,k3,k4,k5⟩:=ih _ hlt (b,a,d) h5 rfl
    refine ⟨s,k1,k2,k3,k4,.inr ?_⟩
    rcases k5 with rfl | k5
    ·exact hb
    ·exact Wg (hpos t ht) (hpos _ h5) (hpos s k1) hb k5
   obtain ⟨a,b,c⟩:=t
   by_cases g1:c3 (P a) (P b) p q r < 0
   ·exact go (a,b,c) ht rfl rfl g1
   ·by_cases g2:c3 (P b) (P c) p q r < 0
    ·exact go (b,c,a) (hX.rot _ _ _ ht) (Atd _ _ _ _ _ _ _ _ _) (An _ _ _) g2
    ·by_cases g3:c3 (P c) (P a) p q r < 0
     ·exact go (c,a,b) (hX.rot _ _ _ (hX.rot _ _ _ ht)) (by unfold hgt3;rw[<- Atd]) (by unfold Vg;rw[<- An]) g3
     ·exact ⟨(a,b,c),ht,by simp only;omega,by simp only;omega,by simp only;omega,.inl rfl⟩
 exact fun t ht=>key _ t ht rfl
variable {P:Int->Ac} {H:Int->Int} {V:Int->Prop}
theorem Aap {a b c d:Int} (hd:d≠a->d≠b->d≠c->DH P H a b c d < 0):plt (H a) (H b) (H c) (P a) (P b) (P c) (P d)<=H d*crs (P a) (P b) (P c)/\(d≠a->d≠b->d≠c->plt (H a) (H b) (H c) (P a) (P b) (P c) (P d) < H d*crs (P a) (P b) (P c)):=by
 have key:d≠a->d≠b->d≠c->plt (H a) (H b) (H c) (P a) (P b) (P c) (P d) < H d*crs (P a) (P b) (P c):=fun h1 h2 h3=>by
  have:=hd h1 h2 h3
  unfold DH at this
  rw[Acc] at this
  omega
 refine ⟨?_,key⟩
 by_cases h1:d=a
 ·subst h1;rw[Atc];exact Int.le_refl _
 ·by_cases h2:d=b
  ·subst h2;rw[Aof];exact Int.le_refl _
  ·by_cases h3:d=c
   ·subst h3;rw[Aog];exact Int.le_refl _
   ·exact Int.le_of_lt (key h1 h2 h3)
theorem global {X:List T3} (hX:Aao P X) (emp:∀ a b c,(a,b,c)∈X->∀ d,V d->d≠a->d≠b->d≠c->crs (P a) (P b) (P d) < 0\/crs (P b) (P c) (P d) < 0\/crs (P c) (P a) (P d) < 0)
  (leg:∀ a b c,(a,b,c)∈X->∀ d,V d->crs (P a) (P b) (P d) < 0->∃ e,(b,a,e)∈X/\DH P H a b c e < 0) :
  ∀ a b c,(a,b,c)∈X->∀ d,V d->d≠a->d≠b->d≠c->DH P H a b c d < 0:=by
 intro a b c ht d hd h1 h2 h3
 have c3d:∀ x y,c3 x y (P d) (P d) (P d)=3*crs x y (P d):=fun x y=>by unfold c3;omega
 obtain ⟨⟨x,y,z⟩,hs,g1,g2,g3,g4⟩:=walk (H:=H) hX (P d) (P d) (P d) (fun a b c h hc=>leg a b c h d hd (by rw[c3d] at hc;omega)) (a,b,c) ht
 simp only[c3d] at g1 g2 g3
 rcases g4 with e | hb
 ·cases e
  rcases emp a b c ht d hd h1 h2 h3 with h | h | h <;> omega
 ·have hτ:=hX.ccw _ _ _ ht
  have hσ:=hX.ccw _ _ _ hs
  have hp:plt (H x) (H y) (H z) (P x) (P y) (P z) (P d)=H d*crs (P x) (P y) (P z):=by
   by_cases k1:d=x
   ·subst k1;rw[Atc]
   ·by_cases k2:d=y
    ·subst k2;rw[Aof]
    ·by_cases k3:d=z
     ·subst k3;rw[Aog]
     ·rcases emp x y z hs d hd k1 k2 k3 with h | h | h <;> omega
  unfold Wv hgt3 Vg p3 at hb
  simp only[hp] at hb
  have h4:(plt (H a) (H b) (H c) (P a) (P b) (P c) (P d)*3)*crs (P x) (P y) (P z) < (H d*crs (P a) (P b) (P c)*3)*crs (P x) (P y) (P z):=by
   have e1:(plt (H a) (H b) (H c) (P a) (P b) (P c) (P d)*3)*crs (P x) (P y) (P z)=(plt (H a) (H b) (H c) (P a) (P b) (P c) (P d)+plt (H a) (H b) (H c) (P a) (P b) (P c) (P d)+plt (H a) (H b) (H c) (P a) (P b) (P c) (P d))*crs (P x) (P y) (P z):=by grind
   have e2:(H d*crs (P a) (P b) (P c)*3)*crs (P x) (P y) (P z)=(H d*crs (P x) (P y) (P z)+H d*crs (P x) (P y) (P z)+H d*crs (P x) (P y) (P z))*crs (P a) (P b) (P c):=by grind
   rw[e1,e2]
   exact hb
  have h5:=Int.lt_of_mul_lt_mul_right h4 (Int.le_of_lt hσ)
  unfold DH
  rw[Acc]
  omega
theorem Wi {a b c:Int} (h:crs (P a) (P b) (P c)≠0):a≠b/\b≠c/\c≠a:=by
 refine ⟨fun e=>?_,fun e=>?_,fun e=>?_⟩
 ·subst e;exact h (Va _ _)
 ·subst e;exact h (Bi _ _)
 ·subst e;exact h (Bp _ _)
theorem Afj {X:List T3} (hX:Aao P X) (hV:∀ a b c,(a,b,c)∈X->V a/\V b/\V c) (empX:∀ a b c,(a,b,c)∈X->∀ d,V d->d≠a->d≠b->d≠c->DH P H a b c d < 0)
  (step:∀ a b c,(a,b,c)∈X->∀ d,V d->crs (P a) (P b) (P d) < 0->∃ e,(b,a,e)∈X) (hne:X≠[])
  {p q r:Int} (hp:V p) (hq:V q) (hr:V r) (hs:0 < crs (P p) (P q) (P r)) (hemp:∀ d,V d->d≠p->d≠q->d≠r->DH P H p q r d < 0):(p,q,r)∈X:=by
 obtain ⟨t0,ht0⟩:=List.exists_mem_of_ne_nil X hne
 obtain ⟨⟨a,b,c⟩,ht,g1,g2,g3,_⟩:=walk (H:=H) hX (P p) (P q) (P r) (fun a b c h hc=>by
  have hτ:=hX.ccw _ _ _ h
  obtain ⟨e,he⟩:∃ e,(b,a,e)∈X:=by
   unfold c3 at hc
   by_cases k1:crs (P a) (P b) (P p) < 0
   ·exact step a b c h p hp k1
   ·by_cases k2:crs (P a) (P b) (P q) < 0
    ·exact step a b c h q hq k2
    ·exact step a b c h r hr (by omega)
  refine ⟨e,he,empX a b c h e (hV _ _ _ he).2.2 ?_ ?_ ?_⟩
  ·exact (Wi (P:=P) (a:=b) (b:=a) (c:=e) (by have:=hX.ccw _ _ _ he;omega)).2.1.symm
  ·exact (Wi (P:=P) (a:=b) (b:=a) (c:=e) (by have:=hX.ccw _ _ _ he;omega)).2.2
  ·intro k
   subst k
   have h1:=hX.ccw _ _ _ he
   rw[Ax] at h1
   omega) t0 ht0
 simp only at g1 g2 g3
 have hτ:=hX.ccw _ _ _ ht
 obtain ⟨va,vb,vc⟩:=hV _ _ _ ht
 have P1:=Aap (P:=P) (H:=H) (empX a b c ht p hp)
 have P2:=Aap (P:=P) (H:=H) (empX a b c ht q hq)
 have P3:=Aap (P:=P) (H:=H) (empX a b c ht r hr)
 have Q1:=(Aap (P:=P) (H:=H) (hemp a va)).1
 have Q2:=(Aap (P:=P) (H:=H) (hemp b vb)).1
 have Q3:=(Aap (P:=P) (H:=H) (hemp c vc)).1
 have e1:c3 (P b) (P c) (P p) (P q) (P r)*plt (H p) (H q) (H r) (P p) (P q) (P r) (P a)+c3 (P c) (P a) (P p) (P q) (P r)*plt (H p) (H q) (H r) (P p) (P q) (P r) (P b)+c3 (P a) (P b) (P p) (P q) (P r)*plt (H p) (H q) (H r) (P p) (P q) (P r) (P c)
   = crs (P a) (P b) (P c)*((H p+H q+H r)*crs (P p) (P q) (P r)):=by
  have i1:=Aan (H p) (H q) (H r) (P a) (P b) (P c) (P p) (P q) (P r) (P p)
  have i2:=Aan (H p) (H q) (H r) (P a) (P b) (P c) (P p) (P q) (P r) (P q)
  have i3:=Aan (H p) (H q) (H r) (P a) (P b) (P c) (P p) (P q) (P r) (P r)
  rw[Atc] at i1
  rw[Aof] at i2
  rw[Aog] at i3
  unfold c3
  grind
 have e2:plt (H a) (H b) (H c) (P a) (P b) (P c) (P p)+plt (H a) (H b) (H c) (P a) (P b) (P c) (P q)+plt (H a) (H b) (H c) (P a) (P b) (P c) (P r)=H a*c3 (P b) (P c) (P p) (P q) (P r)+H b*c3 (P c) (P a) (P p) (P q) (P r)+H c*c3 (P a) (P b) (P p) (P q) (P r):=by unfold plt c3;grind
 have m1:=Int.mul_le_mul_of_nonneg_left Q1 g2
 have m2:=Int.mul_le_mul_of_nonneg_left Q2 g3
 have m3:=Int.mul_le_mul_of_nonneg_left Q3 g1
 generalize hF:plt (H a) (H b) (H c) (P a) (P b) (P c) (P p)+plt (H a) (H b) (H c) (P a) (P b) (P c) (P q)+plt (H a) (H b) (H c) (P a) (P b) (P c) (P r)=F at *
 have hge:(H p+H q+H r)*crs (P a) (P b) (P c)<=F:=by
  have:crs (P p) (P q) (P r)*((H p+H q+H r)*crs (P a) (P b) (P c))<=crs (P p) (P q) (P r)*F:=by
   have e3:crs (P p) (P q) (P r)*F=c3 (P b) (P c) (P p) (P q) (P r)*(H a*crs (P p) (P q) (P r))+c3 (P c) (P a) (P p) (P q) (P r)*(H b*crs (P p) (P q) (P r))+c3 (P a) (P b) (P p) (P q) (P r)*(H c*crs (P p) (P q) (P r)):=by rw[e2];grind
   have e4:crs (P p) (P q) (P r)*((H p+H q+H r)*crs (P a) (P b) (P c))=crs (P a) (P b) (P c)*((H p+H q+H r)*crs (P p) (P q) (P r)):=by grind
   rw[e3,e4]
   omega
  exact Int.le_of_mul_le_mul_left this hs
 have hsum:(H p+H q+H r)*crs (P a) (P b) (P c)=H p*crs (P a) (P b) (P c)+H q*crs (P a) (P b) (P c)+H r*crs (P a) (P b) (P c):=by grind
 have in1:p=a\/p=b\/p=c:=by
  by_cases k1:p=a
  ·exact .inl k1
  ·by_cases k2:p=b
   ·exact .inr (.inl k2)
   ·by_cases k3:p=c
    ·exact .inr (.inr k3)
    ·have:=P1.2 k1 k2 k3;omega
 have in2:q=a\/q=b\/q=c:=by
  by_cases k1:q=a
  ·exact .inl k1
  ·by_cases k2:q=b
   ·exact .inr (.inl k2)
   ·by_cases k3:q=c
    ·exact .inr (.inr k3)
    ·have:=P2.2 k1 k2 k3;omega
 have in3:r=a\/r=b\/r=c:=by
  by_cases k1:r=a
  ·exact .inl k1
  ·by_cases k2:r=b
   ·exact .inr (.inl k2)
   ·by_cases k3:r=c
    ·exact .inr (.inr k3)
    ·have:=P3.2 k1 k2 k3;omega
 obtain ⟨d1,d2,d3⟩:=Wi (P:=P) (a:=p) (b:=q) (c:=r) (by omega)
 have o1:crs (P b) (P a) (P c) = -crs (P a) (P b) (P c):=Ax _ _ _
 have o2:crs (P a) (P c) (P b) = -crs (P a) (P b) (P c):=by unfold crs;grind
 have o3:crs (P c) (P b) (P a) = -crs (P a) (P b) (P c):=by rw[Ax,An]
 rcases in1 with rfl | rfl | rfl <;> rcases in2 with rfl | rfl | rfl <;> rcases in3 with rfl | rfl | rfl
 all_goals first
  | exact absurd rfl d1
  | exact absurd rfl d2
  | exact absurd rfl d3
  | exact ht
  | exact hX.rot _ _ _ ht
  | exact hX.rot _ _ _ (hX.rot _ _ _ ht)
  | omega
theorem Rw (s a b c d:Ac):crs s a b*crs s c d-crs s a c*crs s b d+crs s a d*crs s b c=0:=by unfold crs;grind
theorem Ce {x y:Int} (h:0 < x*y) (hx:0 < x):0 < y:=by
 rcases Int.lt_or_le 0 y with g | g
 ·exact g
 ·have:=Int.mul_nonpos_of_nonneg_of_nonpos (Int.le_of_lt hx) g;omega
theorem Na {x y:Int} (h:0<=x*y) (hx:0 < x):0<=y:=by
 rcases Int.lt_or_le y 0 with g | g
 ·have:=Int.mul_neg_of_pos_of_neg hx g;omega
 ·exact g
theorem Bd (s a b:Ac):crs s b a = -crs s a b:=by unfold crs;grind
theorem Yb {s a b l i:Ac} (h1:0 < crs s a l) (h2:0 < crs s l b) (h3:0 < crs s a b) (h4:0 < crs s a i) (h5:0 < crs s i l):0 < crs s i b:=by
 have h:=Rw s a l i b
 rw[Bd s i l] at h
 have e1:0 < crs s a i*crs s l b:=Int.mul_pos h4 h2
 have e2:0 < crs s a b*crs s i l:=Int.mul_pos h3 h5
 have e3:crs s a b * -crs s i l = -(crs s a b*crs s i l):=Int.mul_neg _ _
 exact Ce (x:=crs s a l) (by omega) h1
theorem Ait {s a b l j:Ac} (h1:0 < crs s a l) (h2:0 < crs s l b) (h3:0 < crs s a b) (h4:0 < crs s j b) (h5:0 < crs s l j):0 < crs s a j:=by
 have h:=Rw s a j l b
 have e1:0 < crs s a l*crs s j b:=Int.mul_pos h1 h4
 have e2:0 < crs s a b*crs s l j:=Int.mul_pos h3 h5
 have e3:crs s a b*crs s j l = -(crs s a b*crs s l j):=by rw[Bd s l j,Int.mul_neg]
 exact Ce (x:=crs s l b) (by rw[Int.mul_comm];omega) h2
theorem Afk {s j m l w:Ac} (h0:crs s j m=0) (h1:0 < crs s j l) (h2:0 < crs s m l) (h3:0 < crs s m w):0 < crs s j w:=by
 have h:=Rw s j l m w
 rw[h0,Bd s m l] at h
 have e1:0 < crs s j l*crs s m w:=Int.mul_pos h1 h3
 have e2:crs s j w * -crs s m l = -(crs s m l*crs s j w):=by rw[Int.mul_neg,Int.mul_comm]
 exact Ce (x:=crs s m l) (by omega) h2
theorem Ap8 {s j m l w:Ac} (h0:crs s j m=0) (h1:0 < crs s l j) (h2:0 < crs s l m) (h3:0 < crs s w m):0 < crs s w j:=by
 have h:=Rw s l j w m
 have e0:crs s j m=0:=h0
 have e1:0 < crs s l j*crs s w m:=Int.mul_pos h1 h3
 have e2:crs s l m*crs s j w = -(crs s l m*crs s w j):=by rw[Bd s w j,Int.mul_neg]
 rw[e0,Int.mul_zero] at h
 exact Ce (x:=crs s l m) (by omega) h2
theorem Ate {s a i b j:Ac} (h0:crs s a i=0) (h1:0 < crs s a b) (h2:0 < crs s i b) (h3:0 < crs s i j) (h4:0 < crs s a j) :
  (0<=crs a b i/\0<=crs b s i)\/(0<=crs i j a/\0<=crs j s a):=by
 have hp:=Rw s a b i j
 rw[h0,Bd s i b] at hp
 have s1:=Ou s a b i
 have s2:=Ou s i j a
 have r1:crs b s i=crs s i b:=by unfold crs;grind
 have r2:crs j s a=crs s a j:=by unfold crs;grind
 have r3:crs s i a=0:=by rw[Bd,h0];rfl
 by_cases c:crs s i b<=crs s a b
 ·left;omega
 ·right
  have:crs s a j<=crs s i j:=by
   rcases Int.lt_or_le (crs s i j) (crs s a j) with g | g
   ·have e1:=Int.mul_lt_mul_of_pos_left g h1
    have e2:=Int.mul_lt_mul_of_pos_right (show crs s a b < crs s i b by omega) h4
    have e3:crs s a j * -crs s i b = -(crs s i b*crs s a j):=by rw[Int.mul_neg,Int.mul_comm]
    have e4:crs s a b*crs s a j=crs s a b*crs s a j:=rfl
    omega
   ·exact g
  omega
theorem Av1 {s a i b j:Ac} (h0:crs s a i=0) (h1:0 < crs s b a) (h2:0 < crs s b i) (h3:0 < crs s j i) (h4:0 < crs s j a) :
  (0<=crs b a i/\0<=crs s b i)\/(0<=crs j i a/\0<=crs s j a):=by
 have hp:=Rw s b a j i
 rw[h0,Bd s j a,Int.mul_zero] at hp
 have s1:=Ou s b a i
 have s2:=Ou s j i a
 have r1:crs a s i=0:=by rw[Ax,h0];rfl
 have r2:crs i s a=0:=by rw[Ax,Bd,h0];rfl
 by_cases c:crs s b i<=crs s b a
 ·left;omega
 ·right
  have:crs s j a<=crs s j i:=by
   rcases Int.lt_or_le (crs s j i) (crs s j a) with g | g
   ·have e1:=Int.mul_lt_mul_of_pos_left g h1
    have e2:=Int.mul_lt_mul_of_pos_right (show crs s b a < crs s b i by omega) h4
    have e3:crs s b i * -crs s j a = -(crs s b i*crs s j a):=Int.mul_neg _ _
    omega
   ·exact g
  omega
abbrev Ap:=Int->Int->Option Int
structure Tri (P:Int->Ac) (V:Int->Prop) (ap:Ap):Prop where
 rot:∀ i j k,ap i j=some k->ap j k=some i
 ccw:∀ i j k,ap i j=some k->V i/\V j/\V k/\0 < crs (P i) (P j) (P k)
 emp:∀ i j k,ap i j=some k->∀ d,V d->d≠i->d≠j->d≠k->crs (P i) (P j) (P d) < 0\/crs (P j) (P k) (P d) < 0\/crs (P k) (P i) (P d) < 0
 cone:∀ s a b m,ap s a=some b->(ap s m≠none\/ap m s≠none)->¬ (0 < crs (P s) (P a) (P m)/\0 < crs (P s) (P m) (P b))
variable {P:Int->Ac} {H:Int->Int} {V:Int->Prop} {ap:Ap}
theorem Tri.rot2 (h:Tri P V ap) {i j k} (hk:ap i j=some k):ap k i=some j:=h.rot _ _ _ (h.rot _ _ _ hk)
theorem Tri.ne (h:Tri P V ap) {i j k} (hk:ap i j=some k):i≠j/\j≠k/\k≠i:=Wi (P:=P) (by have:=(h.ccw _ _ _ hk).2.2.2;omega)
theorem Tri.nbr (h:Tri P V ap) {s m} (hm:ap s m≠none\/ap m s≠none):(∃ w,ap s m=some w)\/∃ w,ap s w=some m:=by
 rcases hm with hm | hm
 ·obtain ⟨w,hw⟩:=Option.ne_none_iff_exists'.1 hm
  exact .inl ⟨w,hw⟩
 ·obtain ⟨w,hw⟩:=Option.ne_none_iff_exists'.1 hm
  exact .inr ⟨w,h.rot _ _ _ hw⟩
theorem Tri.cones (h:Tri P V ap) {s a b i j:Int} {l:Ac} (h1:ap s a=some b) (h2:ap s i=some j) (g1:0 < crs (P s) (P a) l) (g2:0 < crs (P s) l (P b)) (g3:0 < crs (P s) (P i) l) (g4:0 < crs (P s) l (P j)):a=i:=by
 obtain ⟨vs,va,vb,cab⟩:=h.ccw _ _ _ h1
 obtain ⟨_,vi,vj,cij⟩:=h.ccw _ _ _ h2
 rcases Int.lt_trichotomy (crs (P s) (P a) (P i)) 0 with c | c | c
 ·have c':0 < crs (P s) (P i) (P a):=by rw[Bd];omega
  exact absurd ⟨c',Yb g3 g4 cij c' g1⟩ (h.cone s i j a h2 (.inl (by rw[h1];simp)))
 ·by_cases e:a=i
  ·exact e
  ·exfalso
   have n1:=h.ne h1
   have n2:=h.ne h2
   have k1:0 < crs (P s) (P i) (P b):=Afk (l:=l) (by rw[Bd,c];rfl) g3 g1 cab
   have k2:0 < crs (P s) (P a) (P j):=Afk (l:=l) c g1 g3 cij
   rcases Ate c cab k1 cij k2 with ⟨q1,q2⟩ | ⟨q1,q2⟩
   ·by_cases e2:i=b
    ·subst e2;omega
    ·rcases h.emp s a b h1 i vi (by omega) (by omega) e2 with g | g | g <;> omega
   ·by_cases e2:a=j
    ·subst e2;rw[Bd] at cij;omega
    ·have:crs (P s) (P i) (P a)=0:=by rw[Bd,c];rfl
     rcases h.emp s i j h2 a va (by omega) (by omega) e2 with g | g | g <;> omega
 ·exact absurd ⟨c,Yb g1 g2 cab c g3⟩ (h.cone s a b i h1 (.inl (by rw[h2];simp)))
end Go.Proofs.YtjfndjmabhbicaaGreat
