/- Turns, circles and the legal side: the reference. -/
import Derived.Test.YtgfiafnelibjgaaGreatZ2
import Derived.Test.YtgfiafnelibjgaaGreatE1
namespace Go.Proofs.YtgfiafnelibjgaaGreat
open Go Go.RowKit
def wval (w:Qu):Int:=w.high*1152921504606846976+w.middle*1073741824+w.low
/-- The sum of at most n products. -/
structure WideIs (w:Qu) (n z:Int):Prop where
 val:wval w=z
 high:-(n*288230376151711744)≤w.high∧w.high≤n*288230376151711744
 middle:-(n*1152921504606846976)≤w.middle∧w.middle≤n*1152921504606846976
 low:0≤w.low∧w.low≤n*1152921504606846976
theorem Alt (z:Int):Ko z=some (Int.sign z):=by
 unfold Ko
 by_cases h:z < 0
 ·rw [if_pos h,Int.sign_eq_neg_one_of_neg h]
 ·rw [if_neg h]
  by_cases h2:0 < z
  ·rw [if_pos h2,Int.sign_eq_one_of_pos h2]
  ·rw [if_neg h2,show z=0 by omega];rfl
theorem Aj7 {a b c:Ac} (ha:okP a) (hb:okP b) (hc:okP c):Lq a b c=some (crs a b c):=Rx ha hb hc
theorem Ty {a b c:Ac} (ha:okP a) (hb:okP b) (hc:okP c):Fa a b c=some (Int.sign (crs a b c)):=by
 unfold Fa
 rw [Aj7 ha hb hc,Ai,Alt,Ai]
end Go.Proofs.YtgfiafnelibjgaaGreat
/- The legal side: the program and the reference. -/
namespace Go.Proofs.YtgfiafnelibjgaaGreat
open Go Go.RowKit
def befP (p q:Ac):Prop:=p.X < q.X∨p.X=q.X∧p.Y < q.Y
instance (p q:Ac):Decidable (befP p q):=by unfold befP;infer_instance
def Cf (p q:Ac):Prop:=p.X=q.X∧p.Y=q.Y
instance (p q:Ac):Decidable (Cf p q):=by unfold Cf;infer_instance
theorem Abj {p q:Ac} (h:Cf p q):p=q:=by
 obtain ⟨x,y⟩:=p
 obtain ⟨x',y'⟩:=q
 obtain ⟨h1,h2⟩:=h
 simp only at h1 h2
 rw [h1,h2]
def Ji (a b:Ac):Ac:=if befP b a then b else a
theorem Alu (a b:Ac):En a b=some (decide (befP a b)):=by
 unfold En jn befP
 simp only
 by_cases h1:a.X < b.X
 ·simp [h1]
 ·by_cases h2:a.X=b.X
  ·simp [h2]
  ·simp [h1,h2]
theorem Ao5 (a:Ac):Gn a=some (decide (okP a)):=by
 unfold Gn
 rw [jn_d]
 by_cases h1:-268435456≤a.X
 ·rw [if_pos h1]
  by_cases h2:a.X≤268435456
  ·rw [if_pos h2]
   by_cases h3:-268435456≤a.Y
   ·rw [if_pos h3]
    by_cases h4:a.Y≤268435456
    ·rw [decide_eq_true h4,decide_eq_true (show okP a by unfold okP;omega)]
    ·rw [decide_eq_false h4,decide_eq_false (show ¬ okP a by unfold okP;omega)]
   ·rw [if_neg h3,decide_eq_false (show ¬ okP a by unfold okP;omega)]
  ·rw [if_neg h2,decide_eq_false (show ¬ okP a by unfold okP;omega)]
 ·rw [if_neg h1,decide_eq_false (show ¬ okP a by unfold okP;omega)]
theorem Aha (B:(Int × Int × Int)→Option (Sum (Int × Int × Int) (Int × Int))) (p q r:Ac)
  (hB:∀ x y i,B (x,y,i)=if i < 3 then bnd (idx [p,q,r] i) fun z=>some (.inl ((Ji ⟨x,y⟩ z).X,(Ji ⟨x,y⟩ z).Y,w64 (i+1))) else some (.inr (x,y))) (x y:Int) :
  lfix B (x,y,0)=some ((Ji (Ji (Ji ⟨x,y⟩ p) q) r).X,(Ji (Ji (Ji ⟨x,y⟩ p) q) r).Y):=by
 have w1:w64 (0+1)=1:=Dl (by omega) (by omega)
 have w2:w64 (1+1)=2:=Dl (by omega) (by omega)
 have w3:w64 (2+1)=3:=Dl (by omega) (by omega)
 have i0:idx [p,q,r] 0=some p:=rfl
 have i1:idx [p,q,r] 1=some q:=rfl
 have i2:idx [p,q,r] 2=some r:=rfl
 rw [Gh,hB,if_pos (by omega),i0,Ai,w1]
 simp only
 rw [Gh,hB,if_pos (by omega),i1,Ai,w2]
 simp only
 rw [Gh,hB,if_pos (by omega),i2,Ai,w3]
 simp only
 rw [Gh,hB,if_neg (by omega)]
/-- The first of four places is one of the last two. -/
theorem Aj8 {a b c d:Ac} (h1:¬ Cf a c) (h2:¬ Cf a d) (h3:¬ Cf b c) (h4:¬ Cf b d) :
  (Cf (Ji (Ji (Ji a b) c) d) c∨Cf (Ji (Ji (Ji a b) c) d) d)↔((befP c a∧befP c b)∨(befP d a∧befP d b)):=by
 have key:∀ p q:Ac,(befP q p∧Ji p q=q)∨(¬ befP q p∧Ji p q=p):=fun p q=>by
  unfold Ji
  by_cases h:befP q p
  ·exact .inl ⟨h,if_pos h⟩
  ·exact .inr ⟨h,if_neg h⟩
 rcases key a b with ⟨k1,e1⟩ | ⟨k1,e1⟩ <;> rw [e1]
 ·rcases key b c with ⟨k2,e2⟩ | ⟨k2,e2⟩ <;> rw [e2]
  ·rcases key c d with ⟨k3,e3⟩ | ⟨k3,e3⟩ <;> rw [e3] <;> unfold Cf befP at * <;> omega
  ·rcases key b d with ⟨k3,e3⟩ | ⟨k3,e3⟩ <;> rw [e3] <;> unfold Cf befP at * <;> omega
 ·rcases key a c with ⟨k2,e2⟩ | ⟨k2,e2⟩ <;> rw [e2]
  ·rcases key c d with ⟨k3,e3⟩ | ⟨k3,e3⟩ <;> rw [e3] <;> unfold Cf befP at * <;> omega
  ·rcases key a d with ⟨k3,e3⟩ | ⟨k3,e3⟩ <;> rw [e3] <;> unfold Cf befP at * <;> omega
def legP (a b c d:Ac):Prop:=Int.sign (crs a b c)*Int.sign (inC a b c d) < 0∨Int.sign (crs a b c)*Int.sign (inC a b c d)=0∧((befP c a∧befP c b)∨(befP d a∧befP d b))
instance (a b c d:Ac):Decidable (legP a b c d):=by unfold legP;infer_instance
theorem Mu (a c:Ac):crs a c c=0:=by unfold crs;grind
theorem Ck (a b:Ac):crs a b a=0:=by unfold crs;grind
theorem Bo (a b:Ac):crs a b b=0:=by unfold crs;grind
theorem Adf (a b:Ac):crs a a b=0:=by unfold crs;grind
theorem Ay (a b c:Ac):crs b a c = -crs a b c:=by unfold crs;grind
theorem Am (a b c:Ac):crs b c a=crs a b c:=by unfold crs;grind
theorem Alv {a b c d:Ac} (ha:okP a) (hb:okP b) (hc:okP c) (hd:okP d) (h1:¬ Cf a c) (h2:¬ Cf a d) (h3:¬ Cf b c) (h4:¬ Cf b d):Mm a b c d=some (decide (legP a b c d)):=by
 unfold Mm
 rw [Akr,if_pos ⟨ha,hb,hc,hd⟩,Ai]
 have e:(if crs a b c=0 then ((0:Int),(12:Int)) else (Int.sign (crs a b c)*Int.sign (inC a b c d),0)).1=Int.sign (crs a b c)*Int.sign (inC a b c d):=by
  split
  ·rename_i h;rw [h];simp
  ·rfl
 rw [e]
 by_cases h0:Int.sign (crs a b c)*Int.sign (inC a b c d)=0
 ·rw [if_pos h0,jn_d,Aha _ b c d (fun x y i=>?_),Ai]
  ·dsimp only
   rw [jn_d]
   have hl:=Aj8 h1 h2 h3 h4
   by_cases hcc:Cf (Ji (Ji (Ji a b) c) d) c
   ·have:legP a b c d:=.inr ⟨h0,hl.1 (.inl hcc)⟩
    rw [if_pos (by simpa [Cf] using hcc),decide_eq_true this]
   ·rw [if_neg (by simpa [Cf] using hcc)]
    congr 1
    rw [Bool.eq_iff_iff]
    simp only [Bool.and_true,Bool.and_eq_true,beq_iff_eq,decide_eq_true_eq]
    unfold legP
    constructor
    ·intro h;exact .inr ⟨h0,hl.1 (.inr h)⟩
    ·rintro (h | ⟨_,h⟩)
     ·omega
     ·exact (hl.2 h).resolve_left hcc
  ·unfold Ri
   simp only
   split
   ·refine congrArg (bnd _) (funext fun z=>?_)
    rw [Alu,Ai]
    unfold Ji
    by_cases hb:befP z ⟨x,y⟩
    ·rw [if_pos (by simpa using hb),if_pos hb]
    ·rw [if_neg (by simpa using hb),if_neg hb]
   ·rfl
 ·rw [if_neg h0]
  congr 1
  rw [Bool.eq_iff_iff]
  simp only [decide_eq_true_eq]
  unfold legP
  constructor
  ·intro h;exact .inl h
  ·rintro (h | ⟨h,_⟩)
   ·exact h
   ·exact absurd h h0
theorem Ym {x y:Int}:Int.sign x*Int.sign y = -1↔(x < 0∧0 < y)∨(0 < x∧y < 0):=by
 rcases Int.lt_trichotomy x 0 with h | h | h <;> rcases Int.lt_trichotomy y 0 with h' | h' | h'
 all_goals first
  | (rw [Int.sign_eq_neg_one_of_neg h];try rw [Int.sign_eq_neg_one_of_neg h'])
  | (rw [Int.sign_eq_one_of_pos h];try rw [Int.sign_eq_neg_one_of_neg h'])
  | (rw [h])
 all_goals try rw [Int.sign_eq_one_of_pos h']
 all_goals try rw [h']
 all_goals simp
 all_goals omega
theorem Qs {x y:Int}:w64 (Int.sign x*Int.sign y)=Int.sign x*Int.sign y:=by
 apply Dl
 ·rcases Int.sign_trichotomy x with h | h | h <;> rcases Int.sign_trichotomy y with h' | h' | h' <;> simp [h,h']
 ·rcases Int.sign_trichotomy x with h | h | h <;> rcases Int.sign_trichotomy y with h' | h' | h' <;> simp [h,h']
theorem Ad3 {x y:Int}:0≤Int.sign x*Int.sign y↔¬ Int.sign x*Int.sign y = -1:=by
 rcases Int.sign_trichotomy x with h | h | h <;> rcases Int.sign_trichotomy y with h' | h' | h' <;> simp [h,h']
/-- On two sides of a line, places differ. -/
theorem Ad4 {a b c d:Ac} (h:Int.sign (crs a b c)*Int.sign (crs a b d) = -1):¬ Cf a c∧¬ Cf a d∧¬ Cf b c∧¬ Cf b d:=by
 rw [Ym] at h
 refine ⟨fun e=>?_,fun e=>?_,fun e=>?_,fun e=>?_⟩ <;> (have:=Abj e;subst this;simp only [Mu,Ck,Bo] at h;omega)
end Go.Proofs.YtgfiafnelibjgaaGreat
/- The legal side: the reference's answer, and that it does not matter from where a side is seen. -/
namespace Go.Proofs.YtgfiafnelibjgaaGreat
open Go Go.RowKit
end Go.Proofs.YtgfiafnelibjgaaGreat
/- Plane geometry: identities of areas, planes over triangles. -/
namespace Go.Proofs.YtgfiafnelibjgaaGreat
open Go Go.RowKit
/-- How far the plane through a, b, c (with heights ha, hb, hc) lies above the height hd at d, times twice the area of the triangle. -/
def Dt (ha hb hc hd:Int) (a b c d:Ac):Int:=ha*crs b c d+hb*crs c a d+hc*crs a b d-hd*crs a b c
/-- The height at x of the plane through a, b, c, times twice the area of the triangle. -/
def plt (ha hb hc:Int) (a b c x:Ac):Int:=ha*crs b c x+hb*crs c a x+hc*crs a b x
def sq (p:Ac):Int:=p.X*p.X+p.Y*p.Y
theorem Arm (a b c d:Ac):inC a b c d=Dt (sq a) (sq b) (sq c) (sq d) a b c d:=by unfold inC Dt lft sq crs;grind
theorem Yn (ha hb hc hd:Int) (a b c d:Ac):Dt ha hb hc hd a b c d=plt ha hb hc a b c d-hd*crs a b c:=rfl
theorem Lb (a b c d:Ac):crs a b c=crs b c d+crs c a d+crs a b d:=by unfold crs;grind
theorem Ad5 (a b c q r u:Ac):crs b c u*crs q r a+crs c a u*crs q r b+crs a b u*crs q r c=crs a b c*crs q r u:=by unfold crs;grind
theorem Wi (hp hq hr:Int) (a b c p q r u:Ac):crs b c u*plt hp hq hr p q r a+crs c a u*plt hp hq hr p q r b+crs a b u*plt hp hq hr p q r c=crs a b c*plt hp hq hr p q r u:=by
 have h1:=Ad5 a b c q r u
 have h2:=Ad5 a b c r p u
 have h3:=Ad5 a b c p q u
 unfold plt
 grind
/-- Across a side, the planes differ by how far they differ at the far corner. -/
theorem Mk (ha hb hc hd:Int) (a b c d x:Ac):plt hb ha hd b a d x*crs a b c-plt ha hb hc a b c x*crs b a d=Dt ha hb hc hd a b c d*crs a b x:=by
 unfold plt Dt crs;grind
theorem Ao6 (ha hb hc hd:Int) (a b c d:Ac):Dt hb ha hc hd b a c d = -Dt ha hb hc hd a b c d:=by unfold Dt crs;grind
theorem Arn (ha hb hc hd:Int) (a b c d:Ac):Dt hb hc ha hd b c a d=Dt ha hb hc hd a b c d:=by unfold Dt crs;grind
theorem Afq (ha hb hc hd:Int) (a b c d:Ac):Dt ha hb hd hc a b d c = -Dt ha hb hc hd a b c d:=by unfold Dt crs;grind
theorem Xi (ha hb hc:Int) (a b c x:Ac):plt hb hc ha b c a x=plt ha hb hc a b c x:=by unfold plt;grind
theorem Alw (ha hb hc:Int) (a b c:Ac):plt ha hb hc a b c a=ha*crs a b c:=by unfold plt crs;grind
theorem Aio (ha hb hc:Int) (a b c:Ac):plt ha hb hc a b c b=hb*crs a b c:=by unfold plt crs;grind
theorem Aip (ha hb hc:Int) (a b c:Ac):plt ha hb hc a b c c=hc*crs a b c:=by unfold plt crs;grind
/-- The circle's test, seen from b. -/
theorem Aro (a b c d:Ac):inC a b c d=lft a b*crs b c d+lft c b*crs a b d-lft d b*crs a b c:=by unfold inC lft crs;grind
theorem Aiq {p q:Ac} (h:¬ Cf p q):0 < lft p q:=by
 unfold lft
 have h1:0≤(p.X-q.X)*(p.X-q.X):=by rw [← Int.natAbs_mul_self];omega
 have h2:0≤(p.Y-q.Y)*(p.Y-q.Y):=by rw [← Int.natAbs_mul_self];omega
 by_cases hx:p.X=q.X
 ·have hy:p.Y-q.Y≠0:=fun e=>h ⟨hx,by omega⟩
  have:0 < (p.Y-q.Y)*(p.Y-q.Y):=by
   rcases Int.lt_or_gt_of_ne hy with g | g
   ·exact Int.mul_pos_of_neg_of_neg g g
   ·exact Int.mul_pos g g
  omega
 ·have hx':p.X-q.X≠0:=by omega
  have:0 < (p.X-q.X)*(p.X-q.X):=by
   rcases Int.lt_or_gt_of_ne hx' with g | g
   ·exact Int.mul_pos_of_neg_of_neg g g
   ·exact Int.mul_pos g g
  omega
theorem Sm (p q:Ac):0≤lft p q:=by
 unfold lft
 have h1:0≤(p.X-q.X)*(p.X-q.X):=by rw [← Int.natAbs_mul_self];omega
 have h2:0≤(p.Y-q.Y)*(p.Y-q.Y):=by rw [← Int.natAbs_mul_self];omega
 omega
/-- Where the quadrangle is not convex at b, the circle leaves d out. -/
theorem Abk {a b c d:Ac} (h1:0 < crs a b c) (h2:crs a b d < 0) (h3:crs b c d≤0):inC a b c d < 0:=by
 have hd:¬ Cf d b:=fun e=>by
  have:=Abj e
  subst this
  simp only [Bo] at h2
  omega
 rw [Aro]
 have e1:lft a b*crs b c d≤0:=Int.mul_nonpos_of_nonneg_of_nonpos (Sm a b) h3
 have e2:lft c b*crs a b d≤0:=Int.mul_nonpos_of_nonneg_of_nonpos (Sm c b) (by omega)
 have e3:0 < lft d b*crs a b c:=Int.mul_pos (Aiq hd) h1
 omega
/-- .. nor where it is not convex at a. -/
theorem Zw {a b c d:Ac} (h1:0 < crs a b c) (h2:crs a b d < 0) (h3:crs c a d≤0):inC a b c d < 0:=by
 have e:inC a b c d=lft b a*crs c a d+lft c a*crs a b d-lft d a*crs a b c:=by unfold inC lft crs;grind
 have hd:¬ Cf d a:=fun e=>by
  have:=Abj e
  subst this
  simp only [Ck] at h2
  omega
 rw [e]
 have e1:lft b a*crs c a d≤0:=Int.mul_nonpos_of_nonneg_of_nonpos (Sm b a) h3
 have e2:lft c a*crs a b d≤0:=Int.mul_nonpos_of_nonneg_of_nonpos (Sm c a) (by omega)
 have e3:0 < lft d a*crs a b c:=Int.mul_pos (Aiq hd) h1
 omega
end Go.Proofs.YtgfiafnelibjgaaGreat
/- Convex chains along a direction. -/
namespace Go.Proofs.YtgfiafnelibjgaaGreat
open Go Go.RowKit
def ph (α β:Int) (p:Ac):Int:=α*p.X+β*p.Y
theorem Ate (α β:Int) (a b c d:Ac):(ph α β b-ph α β a)*crs a c d+(ph α β c-ph α β a)*crs a d b+(ph α β d-ph α β a)*crs a b c=0:=by unfold ph crs;grind
section
variable {α β:Int}
theorem Abl {x y:Int} (hx:0 < x) (h:0 < x*y):0 < y:=by
 rcases Int.lt_trichotomy y 0 with g | g | g
 ·have:=Int.mul_neg_of_pos_of_neg hx g;omega
 ·subst g;simp at h
 ·exact g
theorem Oo {x y:Int} (hx:0 < x) (h:0≤x*y):0≤y:=by
 rcases Int.lt_or_le y 0 with g | g
 ·have:=Int.mul_neg_of_pos_of_neg hx g;omega
 ·exact g
end
section
variable (P:Int→Ac) (α β:Int)
/-- All places of the list lie left of the edge or on it. -/
def Sup (D:List Int) (a b:Int):Prop:=ph α β (P a) < ph α β (P b)∧∀ k∈D,0 < crs (P a) (P b) (P k)∨(crs (P a) (P b) (P k)=0∧ph α β (P a)≤ph α β (P k)∧ph α β (P k)≤ph α β (P b))
/-- The chain (the top first) has edges of that kind alone. -/
def Aq4 (Q:Int→Int→Prop):List Int→Prop
 | b::a::r=>Q a b∧Aq4 Q (a::r)
 | _=>True
/-- A chain over the places that came so far. -/
structure ChainC (f:Int) (D s:List Int):Prop where
 sub:∀ x∈s,x∈D
 edge:Aq4 (Sup P α β D) s
 bot:∃ r,s=r++[f]
 low:∀ k∈D,k=f∨ph α β (P f) < ph α β (P k)
variable {P α β}
end
end Go.Proofs.YtgfiafnelibjgaaGreat
/- Triangles whose surface is convex: walks over them, and that a closed set of triangles whose circles are empty has all of them. -/
namespace Go.Proofs.YtgfiafnelibjgaaGreat
open Go Go.RowKit
theorem Sn {a b c x y z:Int} (hx:0 < x) (hy:0 < y) (hz:0 < z) (h1:a*y < b*x) (h2:b*z < c*y):a*z < c*x:=by
 have h3:=Int.mul_lt_mul_of_pos_right h1 hz
 have h4:=Int.mul_lt_mul_of_pos_right h2 hx
 have h5:y*(a*z) < y*(c*x):=by
  have e1:y*(a*z)=a*y*z:=by grind
  have e2:b*x*z=b*z*x:=by grind
  have e3:y*(c*x)=c*y*x:=by grind
  rw [e1,e3]
  rw [e2] at h3
  exact Int.lt_trans h3 h4
 exact Int.lt_of_mul_lt_mul_left h5 (Int.le_of_lt hy)
theorem Rt {α:Type} {p q:α→Bool} {x:α}:∀ {l:List α},(∀ y∈l,p y=true→q y=true)→x∈l→q x=true→p x=false→l.countP p < l.countP q
 | [],_,hx,_,_=>by cases hx
 | y::r,h',hx,hq,hp=>by
  have h:=h' y List.mem_cons_self
  have h2:∀ z∈r,p z=true→q z=true:=fun z hz=>h' z (List.mem_cons_of_mem _ hz)
  have hle:r.countP p≤r.countP q:=List.countP_mono_left h2
  rw [List.countP_cons,List.countP_cons]
  rcases List.mem_cons.1 hx with rfl | hx
  ·rw [hq,hp];simp;omega
  ·have:=Rt h2 hx hq hp
   by_cases c:p y=true
   ·rw [if_pos c,if_pos (h c)];omega
   ·rw [if_neg c];split <;> omega
def c3 (a b p q r:Ac):Int:=crs a b p+crs a b q+crs a b r
def p3 (ha hb hc:Int) (a b c p q r:Ac):Int:=plt ha hb hc a b c p+plt ha hb hc a b c q+plt ha hb hc a b c r
theorem Aj9 (ha hb hc hd:Int) (a b c d p q r:Ac):p3 hb ha hd b a d p q r*crs a b c-p3 ha hb hc a b c p q r*crs b a d=Dt ha hb hc hd a b c d*c3 a b p q r:=by
 have h1:=Mk ha hb hc hd a b c d p
 have h2:=Mk ha hb hc hd a b c d q
 have h3:=Mk ha hb hc hd a b c d r
 unfold p3 c3
 grind
theorem Alx (ha hb hc:Int) (a b c p q r:Ac):p3 hb hc ha b c a p q r=p3 ha hb hc a b c p q r:=by unfold p3;rw [Xi ha hb hc a b c p,Xi ha hb hc a b c q,Xi ha hb hc a b c r]
abbrev T3:=Int × Int × Int
variable {P:Int→Ac} {H:Int→Int}
def Ru (P:Int→Ac) (t:T3):Int:=crs (P t.1) (P t.2.1) (P t.2.2)
def hgt3 (P:Int→Ac) (H:Int→Int) (t:T3) (p q r:Ac):Int:=p3 (H t.1) (H t.2.1) (H t.2.2) (P t.1) (P t.2.1) (P t.2.2) p q r
/-- The plane of t lies below that of s at the place. -/
def Mc (P:Int→Ac) (H:Int→Int) (p q r:Ac) (t s:T3):Prop:=hgt3 P H t p q r*Ru P s < hgt3 P H s p q r*Ru P t
instance (p q r:Ac) (t s:T3):Decidable (Mc P H p q r t s):=by unfold Mc;infer_instance
def DH (P:Int→Ac) (H:Int→Int) (a b c d:Int):Int:=Dt (H a) (H b) (H c) (H d) (P a) (P b) (P c) (P d)
/-- A set of triangles, each in its three turns. -/
structure Yo (P:Int→Ac) (X:List T3):Prop where
 rot:∀ a b c,(a,b,c)∈X→(b,c,a)∈X
 ccw:∀ a b c,(a,b,c)∈X→0 < crs (P a) (P b) (P c)
/-- From each triangle, one comes to a triangle that has the place, and each step leads to a higher plane. -/
theorem walk {X:List T3} (hX:Yo P X) (p q r:Ac) (step:∀ a b c,(a,b,c)∈X→c3 (P a) (P b) p q r < 0→∃ d,(b,a,d)∈X∧DH P H a b c d < 0) :
  ∀ t∈X,∃ s∈X,0≤c3 (P s.1) (P s.2.1) p q r∧0≤c3 (P s.2.1) (P s.2.2) p q r∧0≤c3 (P s.2.2) (P s.1) p q r∧(s=t∨Mc P H p q r t s):=by
 have key:∀ (n:Nat) (t:T3),t∈X→X.countP (fun s=>decide (Mc P H p q r t s))=n→∃ s∈X,0≤c3 (P s.1) (P s.2.1) p q r∧0≤c3 (P s.2.1) (P s.2.2) p q r∧0≤c3 (P s.2.2) (P s.1) p q r∧(s=t∨Mc P H p q r t s):=by
  intro n
  induction n using Nat.strongRecOn with
  | ind n ih =>
   intro t ht hn
   -- a step over the first side of a turn t' of t
   have go:∀ t':T3,t'∈X→hgt3 P H t' p q r=hgt3 P H t p q r→Ru P t'=Ru P t→c3 (P t'.1) (P t'.2.1) p q r < 0 →
     ∃ s∈X,0≤c3 (P s.1) (P s.2.1) p q r∧0≤c3 (P s.2.1) (P s.2.2) p q r∧0≤c3 (P s.2.2) (P s.1) p q r∧(s=t∨Mc P H p q r t s):=by
    rintro ⟨a,b,c⟩ h1 h2 h3 h4
    obtain ⟨d,h5,h6⟩:=step a b c h1 h4
    have hb:Mc P H p q r t (b,a,d):=by
     unfold Mc
     rw [← h2,← h3]
     have e:=Aj9 (H a) (H b) (H c) (H d) (P a) (P b) (P c) (P d) p q r
     have:0 < Dt (H a) (H b) (H c) (H d) (P a) (P b) (P c) (P d)*c3 (P a) (P b) p q r:=Int.mul_pos_of_neg_of_neg h6 h4
     show p3 _ _ _ _ _ _ p q r*crs _ _ _ < p3 _ _ _ _ _ _ p q r*crs _ _ _
     simp only
     omega
    have hpos:∀ u∈X,0 < Ru P u:=fun u hu=>hX.ccw u.1 u.2.1 u.2.2 hu
    have hlt:X.countP (fun s=>decide (Mc P H p q r (b,a,d) s)) < n:=by
     rw [← hn]
     refine Rt (x:=(b,a,d)) (fun y hy hb2=>?_) h5 (by simpa using hb) (by simp [Mc])
     rw [decide_eq_true_eq] at hb2 ⊢
     exact Sn (hpos t ht) (hpos _ h5) (hpos y hy) hb hb2
    obtain ⟨s,k1,k2,k3,k4,k5⟩:=ih _ hlt (b,a,d) h5 rfl
    refine ⟨s,k1,k2,k3,k4,.inr ?_⟩
    rcases k5 with rfl | k5
    ·exact hb
    ·exact Sn (hpos t ht) (hpos _ h5) (hpos s k1) hb k5
   obtain ⟨a,b,c⟩:=t
   by_cases g1:c3 (P a) (P b) p q r < 0
   ·exact go (a,b,c) ht rfl rfl g1
   ·by_cases g2:c3 (P b) (P c) p q r < 0
    ·exact go (b,c,a) (hX.rot _ _ _ ht) (Alx _ _ _ _ _ _ _ _ _) (Am _ _ _) g2
    ·by_cases g3:c3 (P c) (P a) p q r < 0
     ·exact go (c,a,b) (hX.rot _ _ _ (hX.rot _ _ _ ht)) (by unfold hgt3;rw [← Alx]) (by unfold Ru;rw [← Am]) g3
     ·exact ⟨(a,b,c),ht,by simp only;omega,by simp only;omega,by simp only;omega,.inl rfl⟩
 exact fun t ht=>key _ t ht rfl
end Go.Proofs.YtgfiafnelibjgaaGreat
/- A triangulation whose sides are legal has empty circles; a closed set of triangles with empty circles has all of them. -/
namespace Go.Proofs.YtgfiafnelibjgaaGreat
open Go Go.RowKit
variable {P:Int→Ac} {H:Int→Int} {V:Int→Prop}
theorem Wj {a b c d:Int} (hd:d≠a→d≠b→d≠c→DH P H a b c d < 0):plt (H a) (H b) (H c) (P a) (P b) (P c) (P d)≤H d*crs (P a) (P b) (P c)∧(d≠a→d≠b→d≠c→plt (H a) (H b) (H c) (P a) (P b) (P c) (P d) < H d*crs (P a) (P b) (P c)):=by
 have key:d≠a→d≠b→d≠c→plt (H a) (H b) (H c) (P a) (P b) (P c) (P d) < H d*crs (P a) (P b) (P c):=fun h1 h2 h3=>by
  have:=hd h1 h2 h3
  unfold DH at this
  rw [Yn] at this
  omega
 refine ⟨?_,key⟩
 by_cases h1:d=a
 ·subst h1;rw [Alw];exact Int.le_refl _
 ·by_cases h2:d=b
  ·subst h2;rw [Aio];exact Int.le_refl _
  ·by_cases h3:d=c
   ·subst h3;rw [Aip];exact Int.le_refl _
   ·exact Int.le_of_lt (key h1 h2 h3)
/-- Legal sides: empty circles. -/
theorem global {X:List T3} (hX:Yo P X) (emp:∀ a b c,(a,b,c)∈X→∀ d,V d→d≠a→d≠b→d≠c→crs (P a) (P b) (P d) < 0∨crs (P b) (P c) (P d) < 0∨crs (P c) (P a) (P d) < 0)
  (leg:∀ a b c,(a,b,c)∈X→∀ d,V d→crs (P a) (P b) (P d) < 0→∃ e,(b,a,e)∈X∧DH P H a b c e < 0) :
  ∀ a b c,(a,b,c)∈X→∀ d,V d→d≠a→d≠b→d≠c→DH P H a b c d < 0:=by
 intro a b c ht d hd h1 h2 h3
 have c3d:∀ x y,c3 x y (P d) (P d) (P d)=3*crs x y (P d):=fun x y=>by unfold c3;omega
 obtain ⟨⟨x,y,z⟩,hs,g1,g2,g3,g4⟩:=walk (H:=H) hX (P d) (P d) (P d) (fun a b c h hc=>leg a b c h d hd (by rw [c3d] at hc;omega)) (a,b,c) ht
 simp only [c3d] at g1 g2 g3
 rcases g4 with e | hb
 ·cases e
  rcases emp a b c ht d hd h1 h2 h3 with h | h | h <;> omega
 ·have hτ:=hX.ccw _ _ _ ht
  have hσ:=hX.ccw _ _ _ hs
  have hp:plt (H x) (H y) (H z) (P x) (P y) (P z) (P d)=H d*crs (P x) (P y) (P z):=by
   by_cases k1:d=x
   ·subst k1;rw [Alw]
   ·by_cases k2:d=y
    ·subst k2;rw [Aio]
    ·by_cases k3:d=z
     ·subst k3;rw [Aip]
     ·rcases emp x y z hs d hd k1 k2 k3 with h | h | h <;> omega
  unfold Mc hgt3 Ru p3 at hb
  simp only [hp] at hb
  have h4:(plt (H a) (H b) (H c) (P a) (P b) (P c) (P d)*3)*crs (P x) (P y) (P z) < (H d*crs (P a) (P b) (P c)*3)*crs (P x) (P y) (P z):=by
   have e1:(plt (H a) (H b) (H c) (P a) (P b) (P c) (P d)*3)*crs (P x) (P y) (P z)=(plt (H a) (H b) (H c) (P a) (P b) (P c) (P d)+plt (H a) (H b) (H c) (P a) (P b) (P c) (P d)+plt (H a) (H b) (H c) (P a) (P b) (P c) (P d))*crs (P x) (P y) (P z):=by grind
   have e2:(H d*crs (P a) (P b) (P c)*3)*crs (P x) (P y) (P z)=(H d*crs (P x) (P y) (P z)+H d*crs (P x) (P y) (P z)+H d*crs (P x) (P y) (P z))*crs (P a) (P b) (P c):=by grind
   rw [e1,e2]
   exact hb
  have h5:=Int.lt_of_mul_lt_mul_right h4 (Int.le_of_lt hσ)
  unfold DH
  rw [Yn]
  omega
theorem Tz {a b c:Int} (h:crs (P a) (P b) (P c)≠0):a≠b∧b≠c∧c≠a:=by
 refine ⟨fun e=>?_,fun e=>?_,fun e=>?_⟩
 ·subst e;exact h (Adf _ _)
 ·subst e;exact h (Bo _ _)
 ·subst e;exact h (Ck _ _)
/-- All triangles with empty circles are in a closed set of such ones. -/
theorem Ahb {X:List T3} (hX:Yo P X) (hV:∀ a b c,(a,b,c)∈X→V a∧V b∧V c) (empX:∀ a b c,(a,b,c)∈X→∀ d,V d→d≠a→d≠b→d≠c→DH P H a b c d < 0)
  (step:∀ a b c,(a,b,c)∈X→∀ d,V d→crs (P a) (P b) (P d) < 0→∃ e,(b,a,e)∈X) (hne:X≠[])
  {p q r:Int} (hp:V p) (hq:V q) (hr:V r) (hs:0 < crs (P p) (P q) (P r)) (hemp:∀ d,V d→d≠p→d≠q→d≠r→DH P H p q r d < 0):(p,q,r)∈X:=by
 obtain ⟨t0,ht0⟩:=List.exists_mem_of_ne_nil X hne
 obtain ⟨⟨a,b,c⟩,ht,g1,g2,g3,_⟩:=walk (H:=H) hX (P p) (P q) (P r) (fun a b c h hc=>by
  have hτ:=hX.ccw _ _ _ h
  obtain ⟨e,he⟩:∃ e,(b,a,e)∈X:=by
   unfold c3 at hc
   by_cases k1:crs (P a) (P b) (P p) < 0
   ·exact step a b c h p hp k1
   ·by_cases k2:crs (P a) (P b) (P q) < 0
    ·exact step a b c h q hq k2
    ·exact step a b c h r hr (by omega)
  refine ⟨e,he,empX a b c h e (hV _ _ _ he).2.2 ?_ ?_ ?_⟩
  ·exact (Tz (P:=P) (a:=b) (b:=a) (c:=e) (by have:=hX.ccw _ _ _ he;omega)).2.1.symm
  ·exact (Tz (P:=P) (a:=b) (b:=a) (c:=e) (by have:=hX.ccw _ _ _ he;omega)).2.2
  ·intro k
   subst k
   have h1:=hX.ccw _ _ _ he
   rw [Ay] at h1
   omega) t0 ht0
 simp only at g1 g2 g3
 have hτ:=hX.ccw _ _ _ ht
 obtain ⟨va,vb,vc⟩:=hV _ _ _ ht
 have P1:=Wj (P:=P) (H:=H) (empX a b c ht p hp)
 have P2:=Wj (P:=P) (H:=H) (empX a b c ht q hq)
 have P3:=Wj (P:=P) (H:=H) (empX a b c ht r hr)
 have Q1:=(Wj (P:=P) (H:=H) (hemp a va)).1
 have Q2:=(Wj (P:=P) (H:=H) (hemp b vb)).1
 have Q3:=(Wj (P:=P) (H:=H) (hemp c vc)).1
 -- the surface of s at the corners of t,weighed
 have e1:c3 (P b) (P c) (P p) (P q) (P r)*plt (H p) (H q) (H r) (P p) (P q) (P r) (P a)+c3 (P c) (P a) (P p) (P q) (P r)*plt (H p) (H q) (H r) (P p) (P q) (P r) (P b)+c3 (P a) (P b) (P p) (P q) (P r)*plt (H p) (H q) (H r) (P p) (P q) (P r) (P c)
   = crs (P a) (P b) (P c)*((H p+H q+H r)*crs (P p) (P q) (P r)):=by
  have i1:=Wi (H p) (H q) (H r) (P a) (P b) (P c) (P p) (P q) (P r) (P p)
  have i2:=Wi (H p) (H q) (H r) (P a) (P b) (P c) (P p) (P q) (P r) (P q)
  have i3:=Wi (H p) (H q) (H r) (P a) (P b) (P c) (P p) (P q) (P r) (P r)
  rw [Alw] at i1
  rw [Aio] at i2
  rw [Aip] at i3
  unfold c3
  grind
 have e2:plt (H a) (H b) (H c) (P a) (P b) (P c) (P p)+plt (H a) (H b) (H c) (P a) (P b) (P c) (P q)+plt (H a) (H b) (H c) (P a) (P b) (P c) (P r)=H a*c3 (P b) (P c) (P p) (P q) (P r)+H b*c3 (P c) (P a) (P p) (P q) (P r)+H c*c3 (P a) (P b) (P p) (P q) (P r):=by unfold plt c3;grind
 have m1:=Int.mul_le_mul_of_nonneg_left Q1 g2
 have m2:=Int.mul_le_mul_of_nonneg_left Q2 g3
 have m3:=Int.mul_le_mul_of_nonneg_left Q3 g1
 generalize hF:plt (H a) (H b) (H c) (P a) (P b) (P c) (P p)+plt (H a) (H b) (H c) (P a) (P b) (P c) (P q)+plt (H a) (H b) (H c) (P a) (P b) (P c) (P r)=F at *
 have hge:(H p+H q+H r)*crs (P a) (P b) (P c)≤F:=by
  have:crs (P p) (P q) (P r)*((H p+H q+H r)*crs (P a) (P b) (P c))≤crs (P p) (P q) (P r)*F:=by
   have e3:crs (P p) (P q) (P r)*F=c3 (P b) (P c) (P p) (P q) (P r)*(H a*crs (P p) (P q) (P r))+c3 (P c) (P a) (P p) (P q) (P r)*(H b*crs (P p) (P q) (P r))+c3 (P a) (P b) (P p) (P q) (P r)*(H c*crs (P p) (P q) (P r)):=by rw [e2];grind
   have e4:crs (P p) (P q) (P r)*((H p+H q+H r)*crs (P a) (P b) (P c))=crs (P a) (P b) (P c)*((H p+H q+H r)*crs (P p) (P q) (P r)):=by grind
   rw [e3,e4]
   omega
  exact Int.le_of_mul_le_mul_left this hs
 have hsum:(H p+H q+H r)*crs (P a) (P b) (P c)=H p*crs (P a) (P b) (P c)+H q*crs (P a) (P b) (P c)+H r*crs (P a) (P b) (P c):=by grind
 have in1:p=a∨p=b∨p=c:=by
  by_cases k1:p=a
  ·exact .inl k1
  ·by_cases k2:p=b
   ·exact .inr (.inl k2)
   ·by_cases k3:p=c
    ·exact .inr (.inr k3)
    ·have:=P1.2 k1 k2 k3;omega
 have in2:q=a∨q=b∨q=c:=by
  by_cases k1:q=a
  ·exact .inl k1
  ·by_cases k2:q=b
   ·exact .inr (.inl k2)
   ·by_cases k3:q=c
    ·exact .inr (.inr k3)
    ·have:=P2.2 k1 k2 k3;omega
 have in3:r=a∨r=b∨r=c:=by
  by_cases k1:r=a
  ·exact .inl k1
  ·by_cases k2:r=b
   ·exact .inr (.inl k2)
   ·by_cases k3:r=c
    ·exact .inr (.inr k3)
    ·have:=P3.2 k1 k2 k3;omega
 obtain ⟨d1,d2,d3⟩:=Tz (P:=P) (a:=p) (b:=q) (c:=r) (by omega)
 have o1:crs (P b) (P a) (P c) = -crs (P a) (P b) (P c):=Ay _ _ _
 have o2:crs (P a) (P c) (P b) = -crs (P a) (P b) (P c):=by unfold crs;grind
 have o3:crs (P c) (P b) (P a) = -crs (P a) (P b) (P c):=by rw [Ay,Am]
 rcases in1 with rfl | rfl | rfl <;> rcases in2 with rfl | rfl | rfl <;> rcases in3 with rfl | rfl | rfl
 all_goals first
  | exact absurd rfl d1
  | exact absurd rfl d2
  | exact absurd rfl d3
  | exact ht
  | exact hX.rot _ _ _ ht
  | exact hX.rot _ _ _ (hX.rot _ _ _ ht)
  | omega
end Go.Proofs.YtgfiafnelibjgaaGreat
/- Triangulations as maps from sides to corners: flips keep what they are. -/
namespace Go.Proofs.YtgfiafnelibjgaaGreat
open Go Go.RowKit
theorem Ou (s a b c d:Ac):crs s a b*crs s c d-crs s a c*crs s b d+crs s a d*crs s b c=0:=by unfold crs;grind
theorem Cp {x y:Int} (h:0 < x*y) (hx:0 < x):0 < y:=by
 rcases Int.lt_or_le 0 y with g | g
 ·exact g
 ·have:=Int.mul_nonpos_of_nonneg_of_nonpos (Int.le_of_lt hx) g;omega
theorem Kb {x y:Int} (h:0≤x*y) (hx:0 < x):0≤y:=by
 rcases Int.lt_or_le y 0 with g | g
 ·have:=Int.mul_neg_of_pos_of_neg hx g;omega
 ·exact g
theorem Bh (s a b:Ac):crs s b a = -crs s a b:=by unfold crs;grind
/-- i between a and l, l between a and b: i comes before b. -/
theorem Ua {s a b l i:Ac} (h1:0 < crs s a l) (h2:0 < crs s l b) (h3:0 < crs s a b) (h4:0 < crs s a i) (h5:0 < crs s i l):0 < crs s i b:=by
 have h:=Ou s a l i b
 rw [Bh s i l] at h
 have e1:0 < crs s a i*crs s l b:=Int.mul_pos h4 h2
 have e2:0 < crs s a b*crs s i l:=Int.mul_pos h3 h5
 have e3:crs s a b * -crs s i l = -(crs s a b*crs s i l):=Int.mul_neg _ _
 exact Cp (x:=crs s a l) (by omega) h1
/-- .. and from the other side. -/
theorem Ad6 {s a b l j:Ac} (h1:0 < crs s a l) (h2:0 < crs s l b) (h3:0 < crs s a b) (h4:0 < crs s j b) (h5:0 < crs s l j):0 < crs s a j:=by
 have h:=Ou s a j l b
 have e1:0 < crs s a l*crs s j b:=Int.mul_pos h1 h4
 have e2:0 < crs s a b*crs s l j:=Int.mul_pos h3 h5
 have e3:crs s a b*crs s j l = -(crs s a b*crs s l j):=by rw [Bh s l j,Int.mul_neg]
 exact Cp (x:=crs s l b) (by rw [Int.mul_comm];omega) h2
/-- On one ray. -/
theorem Abm {s j m l w:Ac} (h0:crs s j m=0) (h1:0 < crs s j l) (h2:0 < crs s m l) (h3:0 < crs s m w):0 < crs s j w:=by
 have h:=Ou s j l m w
 rw [h0,Bh s m l] at h
 have e1:0 < crs s j l*crs s m w:=Int.mul_pos h1 h3
 have e2:crs s j w * -crs s m l = -(crs s m l*crs s j w):=by rw [Int.mul_neg,Int.mul_comm]
 exact Cp (x:=crs s m l) (by omega) h2
theorem Aka {s j m l w:Ac} (h0:crs s j m=0) (h1:0 < crs s l j) (h2:0 < crs s l m) (h3:0 < crs s w m):0 < crs s w j:=by
 have h:=Ou s l j w m
 have e0:crs s j m=0:=h0
 have e1:0 < crs s l j*crs s w m:=Int.mul_pos h1 h3
 have e2:crs s l m*crs s j w = -(crs s l m*crs s w j):=by rw [Bh s w j,Int.mul_neg]
 rw [e0,Int.mul_zero] at h
 exact Cp (x:=crs s l m) (by omega) h2
/-- Two corners on one ray: the nearer one lies on the side to the other one. -/
theorem Aly {s a i b j:Ac} (h0:crs s a i=0) (h1:0 < crs s a b) (h2:0 < crs s i b) (h3:0 < crs s i j) (h4:0 < crs s a j) :
  (0≤crs a b i∧0≤crs b s i)∨(0≤crs i j a∧0≤crs j s a):=by
 have hp:=Ou s a b i j
 rw [h0,Bh s i b] at hp
 have s1:=Lb s a b i
 have s2:=Lb s i j a
 have r1:crs b s i=crs s i b:=by unfold crs;grind
 have r2:crs j s a=crs s a j:=by unfold crs;grind
 have r3:crs s i a=0:=by rw [Bh,h0];rfl
 by_cases c:crs s i b≤crs s a b
 ·left;omega
 ·right
  have:crs s a j≤crs s i j:=by
   rcases Int.lt_or_le (crs s i j) (crs s a j) with g | g
   ·have e1:=Int.mul_lt_mul_of_pos_left g h1
    have e2:=Int.mul_lt_mul_of_pos_right (show crs s a b < crs s i b by omega) h4
    have e3:crs s a j * -crs s i b = -(crs s i b*crs s a j):=by rw [Int.mul_neg,Int.mul_comm]
    have e4:crs s a b*crs s a j=crs s a b*crs s a j:=rfl
    omega
   ·exact g
  omega
theorem Ao7 {s a i b j:Ac} (h0:crs s a i=0) (h1:0 < crs s b a) (h2:0 < crs s b i) (h3:0 < crs s j i) (h4:0 < crs s j a) :
  (0≤crs b a i∧0≤crs s b i)∨(0≤crs j i a∧0≤crs s j a):=by
 have hp:=Ou s b a j i
 rw [h0,Bh s j a,Int.mul_zero] at hp
 have s1:=Lb s b a i
 have s2:=Lb s j i a
 have r1:crs a s i=0:=by rw [Ay,h0];rfl
 have r2:crs i s a=0:=by rw [Ay,Bh,h0];rfl
 by_cases c:crs s b i≤crs s b a
 ·left;omega
 ·right
  have:crs s j a≤crs s j i:=by
   rcases Int.lt_or_le (crs s j i) (crs s j a) with g | g
   ·have e1:=Int.mul_lt_mul_of_pos_left g h1
    have e2:=Int.mul_lt_mul_of_pos_right (show crs s b a < crs s b i by omega) h4
    have e3:crs s b i * -crs s j a = -(crs s b i*crs s j a):=Int.mul_neg _ _
    omega
   ·exact g
  omega
abbrev Ap:=Int→Int→Option Int
/-- A triangulation: the corner of the triangle to the left of each directed side. -/
structure Tri (P:Int→Ac) (V:Int→Prop) (ap:Ap):Prop where
 rot:∀ i j k,ap i j=some k→ap j k=some i
 ccw:∀ i j k,ap i j=some k→V i∧V j∧V k∧0 < crs (P i) (P j) (P k)
 emp:∀ i j k,ap i j=some k→∀ d,V d→d≠i→d≠j→d≠k→crs (P i) (P j) (P d) < 0∨crs (P j) (P k) (P d) < 0∨crs (P k) (P i) (P d) < 0
 cone:∀ s a b m,ap s a=some b→(ap s m≠none∨ap m s≠none)→¬ (0 < crs (P s) (P a) (P m)∧0 < crs (P s) (P m) (P b))
variable {P:Int→Ac} {H:Int→Int} {V:Int→Prop} {ap:Ap}
theorem Tri.rot2 (h:Tri P V ap) {i j k} (hk:ap i j=some k):ap k i=some j:=h.rot _ _ _ (h.rot _ _ _ hk)
theorem Tri.ne (h:Tri P V ap) {i j k} (hk:ap i j=some k):i≠j∧j≠k∧k≠i:=Tz (P:=P) (by have:=(h.ccw _ _ _ hk).2.2.2;omega)
/-- A neighbour of s is a corner of a triangle with s. -/
theorem Tri.nbr (h:Tri P V ap) {s m} (hm:ap s m≠none∨ap m s≠none):(∃ w,ap s m=some w)∨∃ w,ap s w=some m:=by
 rcases hm with hm | hm
 ·obtain ⟨w,hw⟩:=Option.ne_none_iff_exists'.1 hm
  exact .inl ⟨w,hw⟩
 ·obtain ⟨w,hw⟩:=Option.ne_none_iff_exists'.1 hm
  exact .inr ⟨w,h.rot _ _ _ hw⟩
/-- Two triangles at s whose angles have a place l in common are one. -/
theorem Tri.cones (h:Tri P V ap) {s a b i j:Int} {l:Ac} (h1:ap s a=some b) (h2:ap s i=some j) (g1:0 < crs (P s) (P a) l) (g2:0 < crs (P s) l (P b)) (g3:0 < crs (P s) (P i) l) (g4:0 < crs (P s) l (P j)):a=i:=by
 obtain ⟨vs,va,vb,cab⟩:=h.ccw _ _ _ h1
 obtain ⟨_,vi,vj,cij⟩:=h.ccw _ _ _ h2
 rcases Int.lt_trichotomy (crs (P s) (P a) (P i)) 0 with c | c | c
 ·have c':0 < crs (P s) (P i) (P a):=by rw [Bh];omega
  exact absurd ⟨c',Ua g3 g4 cij c' g1⟩ (h.cone s i j a h2 (.inl (by rw [h1];simp)))
 ·by_cases e:a=i
  ·exact e
  ·exfalso
   have n1:=h.ne h1
   have n2:=h.ne h2
   have k1:0 < crs (P s) (P i) (P b):=Abm (l:=l) (by rw [Bh,c];rfl) g3 g1 cab
   have k2:0 < crs (P s) (P a) (P j):=Abm (l:=l) c g1 g3 cij
   rcases Aly c cab k1 cij k2 with ⟨q1,q2⟩ | ⟨q1,q2⟩
   ·by_cases e2:i=b
    ·subst e2;omega
    ·rcases h.emp s a b h1 i vi (by omega) (by omega) e2 with g | g | g <;> omega
   ·by_cases e2:a=j
    ·subst e2;rw [Bh] at cij;omega
    ·have:crs (P s) (P i) (P a)=0:=by rw [Bh,c];rfl
     rcases h.emp s i j h2 a va (by omega) (by omega) e2 with g | g | g <;> omega
 ·exact absurd ⟨c,Ua g1 g2 cab c g3⟩ (h.cone s a b i h1 (.inl (by rw [h2];simp)))
end Go.Proofs.YtgfiafnelibjgaaGreat
