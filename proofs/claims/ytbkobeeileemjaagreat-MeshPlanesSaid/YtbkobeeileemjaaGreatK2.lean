/- Turns, circles and the legal side: the reference. -/
import Derived.Test.YtbkobeeileemjaaGreatZ2
import Derived.Test.YtbkobeeileemjaaGreatE1
namespace Go.Proofs.YtbkobeeileemjaaGreat
open Go Go.RowKit
end Go.Proofs.YtbkobeeileemjaaGreat
/- The legal side: the program and the reference. -/
namespace Go.Proofs.YtbkobeeileemjaaGreat
open Go Go.RowKit
def befP (p q:Ac):Prop:=p.X < q.X∨p.X=q.X∧p.Y < q.Y
instance (p q:Ac):Decidable (befP p q):=by unfold befP;infer_instance
def Df (p q:Ac):Prop:=p.X=q.X∧p.Y=q.Y
instance (p q:Ac):Decidable (Df p q):=by unfold Df;infer_instance
theorem Ab4 {p q:Ac} (h:Df p q):p=q:=by
 obtain ⟨x,y⟩:=p
 obtain ⟨x',y'⟩:=q
 obtain ⟨h1,h2⟩:=h
 simp only at h1 h2
 rw [h1,h2]
def Ja (a b:Ac):Ac:=if befP b a then b else a
theorem Ame (a b:Ac):Gz a b=some (decide (befP a b)):=by
 unfold Gz jn befP
 simp only
 by_cases h1:a.X < b.X
 ·simp [h1]
 ·by_cases h2:a.X=b.X
  ·simp [h2]
  ·simp [h1,h2]
theorem Aog (a:Ac):Fm a=some (decide (okP a)):=by
 unfold Fm
 rw [jn_d]
 by_cases h1:-268435456≤a.X
 ·rw [if_pos h1]
  by_cases h2:a.X≤268435456
  ·rw [if_pos h2]
   by_cases h3:-268435456≤a.Y
   ·rw [if_pos h3]
    by_cases h4:a.Y≤268435456
    ·rw [decide_eq_true h4,decide_eq_true (show okP a by unfold okP;omega)]
    ·rw [decide_eq_false h4,decide_eq_false (show ¬ okP a by unfold okP;omega)]
   ·rw [if_neg h3,decide_eq_false (show ¬ okP a by unfold okP;omega)]
  ·rw [if_neg h2,decide_eq_false (show ¬ okP a by unfold okP;omega)]
 ·rw [if_neg h1,decide_eq_false (show ¬ okP a by unfold okP;omega)]
theorem Ahj (B:(Int × Int × Int)→Option (Sum (Int × Int × Int) (Int × Int))) (p q r:Ac)
  (hB:∀ x y i,B (x,y,i)=if i < 3 then bnd (idx [p,q,r] i) fun z=>some (.inl ((Ja ⟨x,y⟩ z).X,(Ja ⟨x,y⟩ z).Y,w64 (i+1))) else some (.inr (x,y))) (x y:Int) :
  lfix B (x,y,0)=some ((Ja (Ja (Ja ⟨x,y⟩ p) q) r).X,(Ja (Ja (Ja ⟨x,y⟩ p) q) r).Y):=by
 have w1:w64 (0+1)=1:=Bu (by omega) (by omega)
 have w2:w64 (1+1)=2:=Bu (by omega) (by omega)
 have w3:w64 (2+1)=3:=Bu (by omega) (by omega)
 have i0:idx [p,q,r] 0=some p:=rfl
 have i1:idx [p,q,r] 1=some q:=rfl
 have i2:idx [p,q,r] 2=some r:=rfl
 rw [Ck,hB,if_pos (by omega),i0,Ah,w1]
 simp only
 rw [Ck,hB,if_pos (by omega),i1,Ah,w2]
 simp only
 rw [Ck,hB,if_pos (by omega),i2,Ah,w3]
 simp only
 rw [Ck,hB,if_neg (by omega)]
/-- The first of four places is one of the last two. -/
theorem Ajy {a b c d:Ac} (h1:¬ Df a c) (h2:¬ Df a d) (h3:¬ Df b c) (h4:¬ Df b d) :
  (Df (Ja (Ja (Ja a b) c) d) c∨Df (Ja (Ja (Ja a b) c) d) d)↔((befP c a∧befP c b)∨(befP d a∧befP d b)):=by
 have key:∀ p q:Ac,(befP q p∧Ja p q=q)∨(¬ befP q p∧Ja p q=p):=fun p q=>by
  unfold Ja
  by_cases h:befP q p
  ·exact .inl ⟨h,if_pos h⟩
  ·exact .inr ⟨h,if_neg h⟩
 rcases key a b with ⟨k1,e1⟩ | ⟨k1,e1⟩ <;> rw [e1]
 ·rcases key b c with ⟨k2,e2⟩ | ⟨k2,e2⟩ <;> rw [e2]
  ·rcases key c d with ⟨k3,e3⟩ | ⟨k3,e3⟩ <;> rw [e3] <;> unfold Df befP at * <;> omega
  ·rcases key b d with ⟨k3,e3⟩ | ⟨k3,e3⟩ <;> rw [e3] <;> unfold Df befP at * <;> omega
 ·rcases key a c with ⟨k2,e2⟩ | ⟨k2,e2⟩ <;> rw [e2]
  ·rcases key c d with ⟨k3,e3⟩ | ⟨k3,e3⟩ <;> rw [e3] <;> unfold Df befP at * <;> omega
  ·rcases key a d with ⟨k3,e3⟩ | ⟨k3,e3⟩ <;> rw [e3] <;> unfold Df befP at * <;> omega
def legP (a b c d:Ac):Prop:=Int.sign (crs a b c)*Int.sign (inC a b c d) < 0∨Int.sign (crs a b c)*Int.sign (inC a b c d)=0∧((befP c a∧befP c b)∨(befP d a∧befP d b))
instance (a b c d:Ac):Decidable (legP a b c d):=by unfold legP;infer_instance
theorem Ajz (a c:Ac):crs a c c=0:=by unfold crs;grind
theorem Ki (a b:Ac):crs a b a=0:=by unfold crs;grind
theorem Dh (a b:Ac):crs a b b=0:=by unfold crs;grind
theorem Ac6 (a b:Ac):crs a a b=0:=by unfold crs;grind
theorem Du (a b c:Ac):crs b a c = -crs a b c:=by unfold crs;grind
theorem By (a b c:Ac):crs b c a=crs a b c:=by unfold crs;grind
theorem Amf {a b c d:Ac} (ha:okP a) (hb:okP b) (hc:okP c) (hd:okP d) (h1:¬ Df a c) (h2:¬ Df a d) (h3:¬ Df b c) (h4:¬ Df b d):Mi a b c d=some (decide (legP a b c d)):=by
 unfold Mi
 rw [Ajw,if_pos ⟨ha,hb,hc,hd⟩,Ah]
 have e:(if crs a b c=0 then ((0:Int),(12:Int)) else (Int.sign (crs a b c)*Int.sign (inC a b c d),0)).1=Int.sign (crs a b c)*Int.sign (inC a b c d):=by
  split
  ·rename_i h;rw [h];simp
  ·rfl
 rw [e]
 by_cases h0:Int.sign (crs a b c)*Int.sign (inC a b c d)=0
 ·rw [if_pos h0,jn_d,Ahj _ b c d (fun x y i=>?_),Ah]
  ·dsimp only
   rw [jn_d]
   have hl:=Ajy h1 h2 h3 h4
   by_cases hcc:Df (Ja (Ja (Ja a b) c) d) c
   ·have:legP a b c d:=.inr ⟨h0,hl.1 (.inl hcc)⟩
    rw [if_pos (by simpa [Df] using hcc),decide_eq_true this]
   ·rw [if_neg (by simpa [Df] using hcc)]
    congr 1
    rw [Bool.eq_iff_iff]
    simp only [Bool.and_true,Bool.and_eq_true,beq_iff_eq,decide_eq_true_eq]
    unfold legP
    constructor
    ·intro h;exact .inr ⟨h0,hl.1 (.inr h)⟩
    ·rintro (h | ⟨_,h⟩)
     ·omega
     ·exact (hl.2 h).resolve_left hcc
  ·unfold Qn
   simp only
   split
   ·refine congrArg (bnd _) (funext fun z=>?_)
    rw [Ame,Ah]
    unfold Ja
    by_cases hb:befP z ⟨x,y⟩
    ·rw [if_pos (by simpa using hb),if_pos hb]
    ·rw [if_neg (by simpa using hb),if_neg hb]
   ·rfl
 ·rw [if_neg h0]
  congr 1
  rw [Bool.eq_iff_iff]
  simp only [decide_eq_true_eq]
  unfold legP
  constructor
  ·intro h;exact .inl h
  ·rintro (h | ⟨h,_⟩)
   ·exact h
   ·exact absurd h h0
theorem Yj {x y:Int}:Int.sign x*Int.sign y = -1↔(x < 0∧0 < y)∨(0 < x∧y < 0):=by
 rcases Int.lt_trichotomy x 0 with h | h | h <;> rcases Int.lt_trichotomy y 0 with h' | h' | h'
 all_goals first
  | (rw [Int.sign_eq_neg_one_of_neg h];try rw [Int.sign_eq_neg_one_of_neg h'])
  | (rw [Int.sign_eq_one_of_pos h];try rw [Int.sign_eq_neg_one_of_neg h'])
  | (rw [h])
 all_goals try rw [Int.sign_eq_one_of_pos h']
 all_goals try rw [h']
 all_goals simp
 all_goals omega
theorem Aga {x y:Int}:w64 (Int.sign x*Int.sign y)=Int.sign x*Int.sign y:=by
 apply Bu
 ·rcases Int.sign_trichotomy x with h | h | h <;> rcases Int.sign_trichotomy y with h' | h' | h' <;> simp [h,h']
 ·rcases Int.sign_trichotomy x with h | h | h <;> rcases Int.sign_trichotomy y with h' | h' | h' <;> simp [h,h']
theorem Aem {x y:Int}:0≤Int.sign x*Int.sign y↔¬ Int.sign x*Int.sign y = -1:=by
 rcases Int.sign_trichotomy x with h | h | h <;> rcases Int.sign_trichotomy y with h' | h' | h' <;> simp [h,h']
/-- On two sides of a line, places differ. -/
theorem Aen {a b c d:Ac} (h:Int.sign (crs a b c)*Int.sign (crs a b d) = -1):¬ Df a c∧¬ Df a d∧¬ Df b c∧¬ Df b d:=by
 rw [Yj] at h
 refine ⟨fun e=>?_,fun e=>?_,fun e=>?_,fun e=>?_⟩ <;> (have:=Ab4 e;subst this;simp only [Ajz,Ki,Dh] at h;omega)
end Go.Proofs.YtbkobeeileemjaaGreat
/- The legal side: the reference's answer, and that it does not matter from where a side is seen. -/
namespace Go.Proofs.YtbkobeeileemjaaGreat
open Go Go.RowKit
end Go.Proofs.YtbkobeeileemjaaGreat
/- Plane geometry: identities of areas, planes over triangles. -/
namespace Go.Proofs.YtbkobeeileemjaaGreat
open Go Go.RowKit
/-- How far the plane through a, b, c (with heights ha, hb, hc) lies above the height hd at d, times twice the area of the triangle. -/
def Dt (ha hb hc hd:Int) (a b c d:Ac):Int:=ha*crs b c d+hb*crs c a d+hc*crs a b d-hd*crs a b c
/-- The height at x of the plane through a, b, c, times twice the area of the triangle. -/
def plt (ha hb hc:Int) (a b c x:Ac):Int:=ha*crs b c x+hb*crs c a x+hc*crs a b x
def sq (p:Ac):Int:=p.X*p.X+p.Y*p.Y
theorem Aqh (a b c d:Ac):inC a b c d=Dt (sq a) (sq b) (sq c) (sq d) a b c d:=by unfold inC Dt lft sq crs;grind
theorem Aeo (ha hb hc hd:Int) (a b c d:Ac):Dt ha hb hc hd a b c d=plt ha hb hc a b c d-hd*crs a b c:=rfl
theorem Rt (a b c d:Ac):crs a b c=crs b c d+crs c a d+crs a b d:=by unfold crs;grind
theorem Aep (a b c q r u:Ac):crs b c u*crs q r a+crs c a u*crs q r b+crs a b u*crs q r c=crs a b c*crs q r u:=by unfold crs;grind
theorem Vw (hp hq hr:Int) (a b c p q r u:Ac):crs b c u*plt hp hq hr p q r a+crs c a u*plt hp hq hr p q r b+crs a b u*plt hp hq hr p q r c=crs a b c*plt hp hq hr p q r u:=by
 have h1:=Aep a b c q r u
 have h2:=Aep a b c r p u
 have h3:=Aep a b c p q u
 unfold plt
 grind
/-- Across a side, the planes differ by how far they differ at the far corner. -/
theorem Vx (ha hb hc hd:Int) (a b c d x:Ac):plt hb ha hd b a d x*crs a b c-plt ha hb hc a b c x*crs b a d=Dt ha hb hc hd a b c d*crs a b x:=by
 unfold plt Dt crs;grind
theorem Aoh (ha hb hc hd:Int) (a b c d:Ac):Dt hb ha hc hd b a c d = -Dt ha hb hc hd a b c d:=by unfold Dt crs;grind
theorem Aqi (ha hb hc hd:Int) (a b c d:Ac):Dt hb hc ha hd b c a d=Dt ha hb hc hd a b c d:=by unfold Dt crs;grind
theorem Amg (ha hb hc hd:Int) (a b c d:Ac):Dt ha hb hd hc a b d c = -Dt ha hb hc hd a b c d:=by unfold Dt crs;grind
theorem Aeq (ha hb hc:Int) (a b c x:Ac):plt hb hc ha b c a x=plt ha hb hc a b c x:=by unfold plt;grind
theorem Amh (ha hb hc:Int) (a b c:Ac):plt ha hb hc a b c a=ha*crs a b c:=by unfold plt crs;grind
theorem Ais (ha hb hc:Int) (a b c:Ac):plt ha hb hc a b c b=hb*crs a b c:=by unfold plt crs;grind
theorem Ait (ha hb hc:Int) (a b c:Ac):plt ha hb hc a b c c=hc*crs a b c:=by unfold plt crs;grind
/-- The circle's test, seen from b. -/
theorem Aqj (a b c d:Ac):inC a b c d=lft a b*crs b c d+lft c b*crs a b d-lft d b*crs a b c:=by unfold inC lft crs;grind
theorem Aiu {p q:Ac} (h:¬ Df p q):0 < lft p q:=by
 unfold lft
 have h1:0≤(p.X-q.X)*(p.X-q.X):=by rw [← Int.natAbs_mul_self];omega
 have h2:0≤(p.Y-q.Y)*(p.Y-q.Y):=by rw [← Int.natAbs_mul_self];omega
 by_cases hx:p.X=q.X
 ·have hy:p.Y-q.Y≠0:=fun e=>h ⟨hx,by omega⟩
  have:0 < (p.Y-q.Y)*(p.Y-q.Y):=by
   rcases Int.lt_or_gt_of_ne hy with g | g
   ·exact Int.mul_pos_of_neg_of_neg g g
   ·exact Int.mul_pos g g
  omega
 ·have hx':p.X-q.X≠0:=by omega
  have:0 < (p.X-q.X)*(p.X-q.X):=by
   rcases Int.lt_or_gt_of_ne hx' with g | g
   ·exact Int.mul_pos_of_neg_of_neg g g
   ·exact Int.mul_pos g g
  omega
theorem Sn (p q:Ac):0≤lft p q:=by
 unfold lft
 have h1:0≤(p.X-q.X)*(p.X-q.X):=by rw [← Int.natAbs_mul_self];omega
 have h2:0≤(p.Y-q.Y)*(p.Y-q.Y):=by rw [← Int.natAbs_mul_self];omega
 omega
/-- Where the quadrangle is not convex at b, the circle leaves d out. -/
theorem Ab5 {a b c d:Ac} (h1:0 < crs a b c) (h2:crs a b d < 0) (h3:crs b c d≤0):inC a b c d < 0:=by
 have hd:¬ Df d b:=fun e=>by
  have:=Ab4 e
  subst this
  simp only [Dh] at h2
  omega
 rw [Aqj]
 have e1:lft a b*crs b c d≤0:=Int.mul_nonpos_of_nonneg_of_nonpos (Sn a b) h3
 have e2:lft c b*crs a b d≤0:=Int.mul_nonpos_of_nonneg_of_nonpos (Sn c b) (by omega)
 have e3:0 < lft d b*crs a b c:=Int.mul_pos (Aiu hd) h1
 omega
/-- .. nor where it is not convex at a. -/
theorem Zo {a b c d:Ac} (h1:0 < crs a b c) (h2:crs a b d < 0) (h3:crs c a d≤0):inC a b c d < 0:=by
 have e:inC a b c d=lft b a*crs c a d+lft c a*crs a b d-lft d a*crs a b c:=by unfold inC lft crs;grind
 have hd:¬ Df d a:=fun e=>by
  have:=Ab4 e
  subst this
  simp only [Ki] at h2
  omega
 rw [e]
 have e1:lft b a*crs c a d≤0:=Int.mul_nonpos_of_nonneg_of_nonpos (Sn b a) h3
 have e2:lft c a*crs a b d≤0:=Int.mul_nonpos_of_nonneg_of_nonpos (Sn c a) (by omega)
 have e3:0 < lft d a*crs a b c:=Int.mul_pos (Aiu hd) h1
 omega
end Go.Proofs.YtbkobeeileemjaaGreat
/- Triangles whose surface is convex: walks over them, and that a closed set of triangles whose circles are empty has all of them. -/
namespace Go.Proofs.YtbkobeeileemjaaGreat
open Go Go.RowKit
theorem Ab6 {a b c x y z:Int} (hx:0 < x) (hy:0 < y) (hz:0 < z) (h1:a*y < b*x) (h2:b*z < c*y):a*z < c*x:=by
 have h3:=Int.mul_lt_mul_of_pos_right h1 hz
 have h4:=Int.mul_lt_mul_of_pos_right h2 hx
 have h5:y*(a*z) < y*(c*x):=by
  have e1:y*(a*z)=a*y*z:=by grind
  have e2:b*x*z=b*z*x:=by grind
  have e3:y*(c*x)=c*y*x:=by grind
  rw [e1,e3]
  rw [e2] at h3
  exact Int.lt_trans h3 h4
 exact Int.lt_of_mul_lt_mul_left h5 (Int.le_of_lt hy)
theorem Yk {α:Type} {p q:α→Bool} {x:α}:∀ {l:List α},(∀ y∈l,p y=true→q y=true)→x∈l→q x=true→p x=false→l.countP p < l.countP q
 | [],_,hx,_,_=>by cases hx
 | y::r,h',hx,hq,hp=>by
  have h:=h' y List.mem_cons_self
  have h2:∀ z∈r,p z=true→q z=true:=fun z hz=>h' z (List.mem_cons_of_mem _ hz)
  have hle:r.countP p≤r.countP q:=List.countP_mono_left h2
  rw [List.countP_cons,List.countP_cons]
  rcases List.mem_cons.1 hx with rfl | hx
  ·rw [hq,hp];simp;omega
  ·have:=Yk h2 hx hq hp
   by_cases c:p y=true
   ·rw [if_pos c,if_pos (h c)];omega
   ·rw [if_neg c];split <;> omega
def c3 (a b p q r:Ac):Int:=crs a b p+crs a b q+crs a b r
def p3 (ha hb hc:Int) (a b c p q r:Ac):Int:=plt ha hb hc a b c p+plt ha hb hc a b c q+plt ha hb hc a b c r
theorem Aj0 (ha hb hc hd:Int) (a b c d p q r:Ac):p3 hb ha hd b a d p q r*crs a b c-p3 ha hb hc a b c p q r*crs b a d=Dt ha hb hc hd a b c d*c3 a b p q r:=by
 have h1:=Vx ha hb hc hd a b c d p
 have h2:=Vx ha hb hc hd a b c d q
 have h3:=Vx ha hb hc hd a b c d r
 unfold p3 c3
 grind
theorem Ami (ha hb hc:Int) (a b c p q r:Ac):p3 hb hc ha b c a p q r=p3 ha hb hc a b c p q r:=by unfold p3;rw [Aeq ha hb hc a b c p,Aeq ha hb hc a b c q,Aeq ha hb hc a b c r]
abbrev T3:=Int × Int × Int
variable {P:Int→Ac} {H:Int→Int}
def Ab7 (P:Int→Ac) (t:T3):Int:=crs (P t.1) (P t.2.1) (P t.2.2)
def hgt3 (P:Int→Ac) (H:Int→Int) (t:T3) (p q r:Ac):Int:=p3 (H t.1) (H t.2.1) (H t.2.2) (P t.1) (P t.2.1) (P t.2.2) p q r
/-- The plane of t lies below that of s at the place. -/
def Pu (P:Int→Ac) (H:Int→Int) (p q r:Ac) (t s:T3):Prop:=hgt3 P H t p q r*Ab7 P s < hgt3 P H s p q r*Ab7 P t
instance (p q r:Ac) (t s:T3):Decidable (Pu P H p q r t s):=by unfold Pu;infer_instance
def DH (P:Int→Ac) (H:Int→Int) (a b c d:Int):Int:=Dt (H a) (H b) (H c) (H d) (P a) (P b) (P c) (P d)
/-- A set of triangles, each in its three turns. -/
structure Ab8 (P:Int→Ac) (X:List T3):Prop where
 rot:∀ a b c,(a,b,c)∈X→(b,c,a)∈X
 ccw:∀ a b c,(a,b,c)∈X→0 < crs (P a) (P b) (P c)
/-- From each triangle, one comes to a triangle that has the place, and each step leads to a higher plane. -/
theorem walk {X:List T3} (hX:Ab8 P X) (p q r:Ac) (step:∀ a b c,(a,b,c)∈X→c3 (P a) (P b) p q r < 0→∃ d,(b,a,d)∈X∧DH P H a b c d < 0) :
  ∀ t∈X,∃ s∈X,0≤c3 (P s.1) (P s.2.1) p q r∧0≤c3 (P s.2.1) (P s.2.2) p q r∧0≤c3 (P s.2.2) (P s.1) p q r∧(s=t∨Pu P H p q r t s):=by
 have key:∀ (n:Nat) (t:T3),t∈X→X.countP (fun s=>decide (Pu P H p q r t s))=n→∃ s∈X,0≤c3 (P s.1) (P s.2.1) p q r∧0≤c3 (P s.2.1) (P s.2.2) p q r∧0≤c3 (P s.2.2) (P s.1) p q r∧(s=t∨Pu P H p q r t s):=by
  intro n
  induction n using Nat.strongRecOn with
  | ind n ih =>
   intro t ht hn
   -- a step over the first side of a turn t' of t
   have go:∀ t':T3,t'∈X→hgt3 P H t' p q r=hgt3 P H t p q r→Ab7 P t'=Ab7 P t→c3 (P t'.1) (P t'.2.1) p q r < 0 →
     ∃ s∈X,0≤c3 (P s.1) (P s.2.1) p q r∧0≤c3 (P s.2.1) (P s.2.2) p q r∧0≤c3 (P s.2.2) (P s.1) p q r∧(s=t∨Pu P H p q r t s):=by
    rintro ⟨a,b,c⟩ h1 h2 h3 h4
    obtain ⟨d,h5,h6⟩:=step a b c h1 h4
    have hb:Pu P H p q r t (b,a,d):=by
     unfold Pu
     rw [← h2,← h3]
     have e:=Aj0 (H a) (H b) (H c) (H d) (P a) (P b) (P c) (P d) p q r
     have:0 < Dt (H a) (H b) (H c) (H d) (P a) (P b) (P c) (P d)*c3 (P a) (P b) p q r:=Int.mul_pos_of_neg_of_neg h6 h4
     show p3 _ _ _ _ _ _ p q r*crs _ _ _ < p3 _ _ _ _ _ _ p q r*crs _ _ _
     simp only
     omega
    have hpos:∀ u∈X,0 < Ab7 P u:=fun u hu=>hX.ccw u.1 u.2.1 u.2.2 hu
    have hlt:X.countP (fun s=>decide (Pu P H p q r (b,a,d) s)) < n:=by
     rw [← hn]
     refine Yk (x:=(b,a,d)) (fun y hy hb2=>?_) h5 (by simpa using hb) (by simp [Pu])
     rw [decide_eq_true_eq] at hb2 ⊢
     exact Ab6 (hpos t ht) (hpos _ h5) (hpos y hy) hb hb2
    obtain ⟨s,k1,k2,k3,k4,k5⟩:=ih _ hlt (b,a,d) h5 rfl
    refine ⟨s,k1,k2,k3,k4,.inr ?_⟩
    rcases k5 with rfl | k5
    ·exact hb
    ·exact Ab6 (hpos t ht) (hpos _ h5) (hpos s k1) hb k5
   obtain ⟨a,b,c⟩:=t
   by_cases g1:c3 (P a) (P b) p q r < 0
   ·exact go (a,b,c) ht rfl rfl g1
   ·by_cases g2:c3 (P b) (P c) p q r < 0
    ·exact go (b,c,a) (hX.rot _ _ _ ht) (Ami _ _ _ _ _ _ _ _ _) (By _ _ _) g2
    ·by_cases g3:c3 (P c) (P a) p q r < 0
     ·exact go (c,a,b) (hX.rot _ _ _ (hX.rot _ _ _ ht)) (by unfold hgt3;rw [← Ami]) (by unfold Ab7;rw [← By]) g3
     ·exact ⟨(a,b,c),ht,by simp only;omega,by simp only;omega,by simp only;omega,.inl rfl⟩
 exact fun t ht=>key _ t ht rfl
end Go.Proofs.YtbkobeeileemjaaGreat
