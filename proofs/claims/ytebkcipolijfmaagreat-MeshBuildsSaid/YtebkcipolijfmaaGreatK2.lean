/- Turns, circles and the legal side: the reference. -/
import Derived.Test.YtebkcipolijfmaaGreatZ2
import Derived.Test.YtebkcipolijfmaaGreatE1
namespace Go.Proofs.YtebkcipolijfmaaGreat
open Go Go.RowKit
theorem Apm (a:Int):shr_ .i64 a 30=a / 1073741824:=by
 unfold shr_
 rw [show (2:Int) ^ (min (30:Int).toNat IntKind.i64.bits)=1073741824 from by decide,Int.fdiv_eq_ediv_of_nonneg _ (by omega)]
theorem Apn (a:Int):Nq .i64 a 1073741823=a % 1073741824:=by
 unfold Nq
 have h1:(BitVec.ofInt 64 1073741823).toNat=2 ^ 30-1:=by decide
 have h2:(BitVec.ofInt 64 a).toNat=(a % 18446744073709551616).toNat:=by simp [BitVec.toNat_ofInt]
 have h3:(BitVec.ofInt IntKind.i64.bits a &&& BitVec.ofInt IntKind.i64.bits 1073741823).toNat=(a % 1073741824).toNat:=by
  show (BitVec.ofInt 64 a &&& BitVec.ofInt 64 1073741823).toNat=_
  rw [BitVec.toNat_and,h1,Nat.and_two_pow_sub_one_eq_mod,h2]
  omega
 rw [h3]
 show IntKind.wrap .i64 _=_
 rw [IntKind.wrap_i64]
 omega
def wval (w:Cv):Int:=w.high*1152921504606846976+w.middle*1073741824+w.low
/-- The sum of at most n products. -/
structure Ajb (w:Cv) (n z:Int):Prop where
 val:wval w=z
 high:-(n*288230376151711744)≤w.high∧w.high≤n*288230376151711744
 middle:-(n*1152921504606846976)≤w.middle∧w.middle≤n*1152921504606846976
 low:0≤w.low∧w.low≤n*1152921504606846976
theorem Ad1 {w:Cv} {n z a b:Int} (h:Ajb w n z) (hn0:0≤n) (hn:n≤2) (ha1:-576460752303423488≤a) (ha2:a≤576460752303423488) (hb1:-576460752303423488≤b) (hb2:b≤576460752303423488) :
  ∃ w',Ex w a b=some w'∧Ajb w' (n+1) (z+a*b):=by
 obtain ⟨h0,h1,h2,h3⟩:=h
 unfold Ex
 rw [Apm,Apm,Apn,Apn]
 have ea:a=a / 1073741824*1073741824+a % 1073741824:=by omega
 have eb:b=b / 1073741824*1073741824+b % 1073741824:=by omega
 have A1:-536870912≤a / 1073741824∧a / 1073741824≤536870912:=by omega
 have B1:-536870912≤b / 1073741824∧b / 1073741824≤536870912:=by omega
 have A0:0≤a % 1073741824∧a % 1073741824≤1073741824:=by omega
 have B0:0≤b % 1073741824∧b % 1073741824≤1073741824:=by omega
 generalize a / 1073741824=a1 at *
 generalize b / 1073741824=b1 at *
 generalize a % 1073741824=a0 at *
 generalize b % 1073741824=b0 at *
 have p1:=mulB (x:=a1) (y:=b1) (M:=536870912) (N:=536870912) (by omega) (by omega) (by omega) (by omega) (by omega)
 have p2:=mulB (x:=a1) (y:=b0) (M:=536870912) (N:=1073741824) (by omega) (by omega) (by omega) (by omega) (by omega)
 have p3:=mulB (x:=a0) (y:=b1) (M:=1073741824) (N:=536870912) (by omega) (by omega) (by omega) (by omega) (by omega)
 have p4:=mulB (x:=a0) (y:=b0) (M:=1073741824) (N:=1073741824) (by omega) (by omega) (by omega) (by omega) (by omega)
 have p5:0≤a0*b0:=Int.mul_nonneg A0.1 B0.1
 have e:a*b=a1*b1*1152921504606846976+(a1*b0+a0*b1)*1073741824+a0*b0:=by
  rw [ea,eb];grind
 rw [Bk (x:=a1*b1) (by omega) (by omega),Bk (x:=a1*b0) (by omega) (by omega),Bk (x:=a0*b1) (by omega) (by omega),Bk (x:=a0*b0) (by omega) (by omega),
  Bk (x:=w.high+a1*b1) (by omega) (by omega),Bk (x:=w.middle+a1*b0) (by omega) (by omega),Bk (by omega) (by omega),Bk (by omega) (by omega)]
 refine ⟨_,rfl,?_,?_,?_,?_⟩
 ·unfold wval at h0 ⊢
  simp only
  omega
 ·simp only;omega
 ·simp only;omega
 ·simp only;omega
theorem Ad2 (z:Int):Hy z=some (Int.sign z):=by
 unfold Hy
 by_cases h:z < 0
 ·rw [if_pos h,Int.sign_eq_neg_one_of_neg h]
 ·rw [if_neg h]
  by_cases h2:0 < z
  ·rw [if_pos h2,Int.sign_eq_one_of_pos h2]
  ·rw [if_neg h2,show z=0 by omega];rfl
theorem Ama {w:Cv} {z:Int} (h:Ajb w 3 z):Hn w=some (Int.sign z):=by
 obtain ⟨h0,h1,h2,h3⟩:=h
 unfold Hn
 simp only [Apm,Apn]
 have e1:w.low=w.low / 1073741824*1073741824+w.low % 1073741824:=by omega
 rw [Bk (x:=w.middle+w.low / 1073741824) (by omega) (by omega)]
 have e2:w.middle+w.low / 1073741824=(w.middle+w.low / 1073741824) / 1073741824*1073741824+(w.middle+w.low / 1073741824) % 1073741824:=by omega
 unfold wval at h0
 have l0:0≤w.low % 1073741824∧w.low % 1073741824 < 1073741824:=by omega
 have m0:0≤(w.middle+w.low / 1073741824) % 1073741824∧(w.middle+w.low / 1073741824) % 1073741824 < 1073741824:=by omega
 have hb:-4611686018427387904≤w.high+(w.middle+w.low / 1073741824) / 1073741824∧w.high+(w.middle+w.low / 1073741824) / 1073741824≤4611686018427387904:=by omega
 have hz:z=(w.high+(w.middle+w.low / 1073741824) / 1073741824)*1152921504606846976+(w.middle+w.low / 1073741824) % 1073741824*1073741824+w.low % 1073741824:=by omega
 clear e1 e2 h0 h1 h2 h3
 rw [Bk (x:=w.high+(w.middle+w.low / 1073741824) / 1073741824) (by omega) (by omega)]
 generalize w.high+(w.middle+w.low / 1073741824) / 1073741824=H at *
 generalize (w.middle+w.low / 1073741824) % 1073741824=M at *
 generalize w.low % 1073741824=L at *
 by_cases c:H=0
 ·rw [if_pos c,Bk (by omega) (by omega),Ad2,Ae]
  congr 1
  by_cases c2:M+L=0
  ·rw [c2,show z=0 by omega]
  ·rw [Int.sign_eq_one_of_pos (by omega),Int.sign_eq_one_of_pos (by omega)]
 ·rw [if_neg c,Ad2,Ae]
  congr 1
  by_cases c2:H < 0
  ·rw [Int.sign_eq_neg_one_of_neg c2,Int.sign_eq_neg_one_of_neg (by omega)]
  ·rw [Int.sign_eq_one_of_pos (by omega),Int.sign_eq_one_of_pos (by omega)]
theorem Amb {a b c:Ac} (ha:okP a) (hb:okP b) (hc:okP c):Na a b c=some (crs a b c):=Oy ha hb hc
theorem Pb {a b c:Ac} (ha:okP a) (hb:okP b) (hc:okP c):Cl a b c=some (Int.sign (crs a b c)):=by
 unfold Cl
 rw [Amb ha hb hc,Ae,Ad2,Ae]
theorem Ajc {a b c d:Ac} (ha:okP a) (hb:okP b) (hc:okP c) (hd:okP d):Hr a b c d=some (Int.sign (inC a b c d)):=by
 have l1:=Yi ha hd
 have l2:=Yi hb hd
 have l3:=Yi hc hd
 have c1:=Lv hd hb hc
 have c2:=Lv hd hc ha
 have c3:=Lv hd ha hb
 obtain ⟨w1,e1,i1⟩:=Ad1 (w:=⟨0,0,0⟩) (n:=0) (z:=0) (a:=lft a d) (b:=crs d b c) ⟨rfl,by simp,by simp,by simp⟩ (by omega) (by omega) (by omega) (by omega) (by omega) (by omega)
 obtain ⟨w2,e2,i2⟩:=Ad1 (a:=lft b d) (b:=crs d c a) i1 (by omega) (by omega) (by omega) (by omega) (by omega) (by omega)
 obtain ⟨w3,e3,i3⟩:=Ad1 (a:=lft c d) (b:=crs d a b) i2 (by omega) (by omega) (by omega) (by omega) (by omega) (by omega)
 have x1:w64 (w64 (w64 (a.X-d.X)*w64 (a.X-d.X))+w64 (w64 (a.Y-d.Y)*w64 (a.Y-d.Y)))=lft a d:=Option.some.inj (Ws ha hd)
 have x2:w64 (w64 (w64 (b.X-d.X)*w64 (b.X-d.X))+w64 (w64 (b.Y-d.Y)*w64 (b.Y-d.Y)))=lft b d:=Option.some.inj (Ws hb hd)
 have x3:w64 (w64 (w64 (c.X-d.X)*w64 (c.X-d.X))+w64 (w64 (c.Y-d.Y)*w64 (c.Y-d.Y)))=lft c d:=Option.some.inj (Ws hc hd)
 have y1:w64 (w64 (w64 (b.X-d.X)*w64 (c.Y-d.Y))-w64 (w64 (b.Y-d.Y)*w64 (c.X-d.X)))=crs d b c:=Option.some.inj (Oy hd hb hc)
 have y2:w64 (w64 (w64 (c.X-d.X)*w64 (a.Y-d.Y))-w64 (w64 (c.Y-d.Y)*w64 (a.X-d.X)))=crs d c a:=Option.some.inj (Oy hd hc ha)
 have y3:w64 (w64 (w64 (a.X-d.X)*w64 (b.Y-d.Y))-w64 (w64 (a.Y-d.Y)*w64 (b.X-d.X)))=crs d a b:=Option.some.inj (Oy hd ha hb)
 unfold Hr
 simp only [x1,x2,x3,y1,y2,y3,e1,Ae,e2,e3]
 rw [Ama (by simpa using i3),Ae]
 simp [inC]
end Go.Proofs.YtebkcipolijfmaaGreat
/- The legal side: the program and the reference. -/
namespace Go.Proofs.YtebkcipolijfmaaGreat
open Go Go.RowKit
def befP (p q:Ac):Prop:=p.X < q.X∨p.X=q.X∧p.Y < q.Y
instance (p q:Ac):Decidable (befP p q):=by unfold befP;infer_instance
def Cc (p q:Ac):Prop:=p.X=q.X∧p.Y=q.Y
instance (p q:Ac):Decidable (Cc p q):=by unfold Cc;infer_instance
theorem Zy {p q:Ac} (h:Cc p q):p=q:=by
 obtain ⟨x,y⟩:=p
 obtain ⟨x',y'⟩:=q
 obtain ⟨h1,h2⟩:=h
 simp only at h1 h2
 rw [h1,h2]
def Kk (a b:Ac):Ac:=if befP b a then b else a
theorem Apo (a b:Ac):Ey a b=some (decide (befP a b)):=by
 unfold Ey jn befP
 simp only
 by_cases h1:a.X < b.X
 ·simp [h1]
 ·by_cases h2:a.X=b.X
  ·simp [h2]
  ·simp [h1,h2]
theorem Aro (a:Ac):Gs a=some (decide (okP a)):=by
 unfold Gs
 rw [jn_d]
 by_cases h1:-268435456≤a.X
 ·rw [if_pos h1]
  by_cases h2:a.X≤268435456
  ·rw [if_pos h2]
   by_cases h3:-268435456≤a.Y
   ·rw [if_pos h3]
    by_cases h4:a.Y≤268435456
    ·rw [decide_eq_true h4,decide_eq_true (show okP a by unfold okP;omega)]
    ·rw [decide_eq_false h4,decide_eq_false (show ¬ okP a by unfold okP;omega)]
   ·rw [if_neg h3,decide_eq_false (show ¬ okP a by unfold okP;omega)]
  ·rw [if_neg h2,decide_eq_false (show ¬ okP a by unfold okP;omega)]
 ·rw [if_neg h1,decide_eq_false (show ¬ okP a by unfold okP;omega)]
theorem Ajd (B:(Int × Int × Int)→Option (Sum (Int × Int × Int) (Int × Int))) (p q r:Ac)
  (hB:∀ x y i,B (x,y,i)=if i < 3 then bnd (idx [p,q,r] i) fun z=>some (.inl ((Kk ⟨x,y⟩ z).X,(Kk ⟨x,y⟩ z).Y,w64 (i+1))) else some (.inr (x,y))) (x y:Int) :
  lfix B (x,y,0)=some ((Kk (Kk (Kk ⟨x,y⟩ p) q) r).X,(Kk (Kk (Kk ⟨x,y⟩ p) q) r).Y):=by
 have w1:w64 (0+1)=1:=Bk (by omega) (by omega)
 have w2:w64 (1+1)=2:=Bk (by omega) (by omega)
 have w3:w64 (2+1)=3:=Bk (by omega) (by omega)
 have i0:idx [p,q,r] 0=some p:=rfl
 have i1:idx [p,q,r] 1=some q:=rfl
 have i2:idx [p,q,r] 2=some r:=rfl
 rw [Ce,hB,if_pos (by omega),i0,Ae,w1]
 simp only
 rw [Ce,hB,if_pos (by omega),i1,Ae,w2]
 simp only
 rw [Ce,hB,if_pos (by omega),i2,Ae,w3]
 simp only
 rw [Ce,hB,if_neg (by omega)]
/-- The first of four places is one of the last two. -/
theorem Amc {a b c d:Ac} (h1:¬ Cc a c) (h2:¬ Cc a d) (h3:¬ Cc b c) (h4:¬ Cc b d) :
  (Cc (Kk (Kk (Kk a b) c) d) c∨Cc (Kk (Kk (Kk a b) c) d) d)↔((befP c a∧befP c b)∨(befP d a∧befP d b)):=by
 have key:∀ p q:Ac,(befP q p∧Kk p q=q)∨(¬ befP q p∧Kk p q=p):=fun p q=>by
  unfold Kk
  by_cases h:befP q p
  ·exact .inl ⟨h,if_pos h⟩
  ·exact .inr ⟨h,if_neg h⟩
 rcases key a b with ⟨k1,e1⟩ | ⟨k1,e1⟩ <;> rw [e1]
 ·rcases key b c with ⟨k2,e2⟩ | ⟨k2,e2⟩ <;> rw [e2]
  ·rcases key c d with ⟨k3,e3⟩ | ⟨k3,e3⟩ <;> rw [e3] <;> unfold Cc befP at * <;> omega
  ·rcases key b d with ⟨k3,e3⟩ | ⟨k3,e3⟩ <;> rw [e3] <;> unfold Cc befP at * <;> omega
 ·rcases key a c with ⟨k2,e2⟩ | ⟨k2,e2⟩ <;> rw [e2]
  ·rcases key c d with ⟨k3,e3⟩ | ⟨k3,e3⟩ <;> rw [e3] <;> unfold Cc befP at * <;> omega
  ·rcases key a d with ⟨k3,e3⟩ | ⟨k3,e3⟩ <;> rw [e3] <;> unfold Cc befP at * <;> omega
def legP (a b c d:Ac):Prop:=Int.sign (crs a b c)*Int.sign (inC a b c d) < 0∨Int.sign (crs a b c)*Int.sign (inC a b c d)=0∧((befP c a∧befP c b)∨(befP d a∧befP d b))
instance (a b c d:Ac):Decidable (legP a b c d):=by unfold legP;infer_instance
theorem Oe (a c:Ac):crs a c c=0:=by unfold crs;grind
theorem Bu (a b:Ac):crs a b a=0:=by unfold crs;grind
theorem Bj (a b:Ac):crs a b b=0:=by unfold crs;grind
theorem Tn (a b:Ac):crs a a b=0:=by unfold crs;grind
theorem Ax (a b c:Ac):crs b a c = -crs a b c:=by unfold crs;grind
theorem Ao (a b c:Ac):crs b c a=crs a b c:=by unfold crs;grind
theorem App {a b c d:Ac} (ha:okP a) (hb:okP b) (hc:okP c) (hd:okP d) (h1:¬ Cc a c) (h2:¬ Cc a d) (h3:¬ Cc b c) (h4:¬ Cc b d):Nt a b c d=some (decide (legP a b c d)):=by
 unfold Nt
 rw [Al0,if_pos ⟨ha,hb,hc,hd⟩,Ae]
 have e:(if crs a b c=0 then ((0:Int),(12:Int)) else (Int.sign (crs a b c)*Int.sign (inC a b c d),0)).1=Int.sign (crs a b c)*Int.sign (inC a b c d):=by
  split
  ·rename_i h;rw [h];simp
  ·rfl
 rw [e]
 by_cases h0:Int.sign (crs a b c)*Int.sign (inC a b c d)=0
 ·rw [if_pos h0,jn_d,Ajd _ b c d (fun x y i=>?_),Ae]
  ·dsimp only
   rw [jn_d]
   have hl:=Amc h1 h2 h3 h4
   by_cases hcc:Cc (Kk (Kk (Kk a b) c) d) c
   ·have:legP a b c d:=.inr ⟨h0,hl.1 (.inl hcc)⟩
    rw [if_pos (by simpa [Cc] using hcc),decide_eq_true this]
   ·rw [if_neg (by simpa [Cc] using hcc)]
    congr 1
    rw [Bool.eq_iff_iff]
    simp only [Bool.and_true,Bool.and_eq_true,beq_iff_eq,decide_eq_true_eq]
    unfold legP
    constructor
    ·intro h;exact .inr ⟨h0,hl.1 (.inr h)⟩
    ·rintro (h | ⟨_,h⟩)
     ·omega
     ·exact (hl.2 h).resolve_left hcc
  ·unfold Se
   simp only
   split
   ·refine congrArg (bnd _) (funext fun z=>?_)
    rw [Apo,Ae]
    unfold Kk
    by_cases hb:befP z ⟨x,y⟩
    ·rw [if_pos (by simpa using hb),if_pos hb]
    ·rw [if_neg (by simpa using hb),if_neg hb]
   ·rfl
 ·rw [if_neg h0]
  congr 1
  rw [Bool.eq_iff_iff]
  simp only [decide_eq_true_eq]
  unfold legP
  constructor
  ·intro h;exact .inl h
  ·rintro (h | ⟨h,_⟩)
   ·exact h
   ·exact absurd h h0
theorem Aaz {x y:Int}:Int.sign x*Int.sign y = -1↔(x < 0∧0 < y)∨(0 < x∧y < 0):=by
 rcases Int.lt_trichotomy x 0 with h | h | h <;> rcases Int.lt_trichotomy y 0 with h' | h' | h'
 all_goals first
  | (rw [Int.sign_eq_neg_one_of_neg h];try rw [Int.sign_eq_neg_one_of_neg h'])
  | (rw [Int.sign_eq_one_of_pos h];try rw [Int.sign_eq_neg_one_of_neg h'])
  | (rw [h])
 all_goals try rw [Int.sign_eq_one_of_pos h']
 all_goals try rw [h']
 all_goals simp
 all_goals omega
theorem Sa {x y:Int}:w64 (Int.sign x*Int.sign y)=Int.sign x*Int.sign y:=by
 apply Bk
 ·rcases Int.sign_trichotomy x with h | h | h <;> rcases Int.sign_trichotomy y with h' | h' | h' <;> simp [h,h']
 ·rcases Int.sign_trichotomy x with h | h | h <;> rcases Int.sign_trichotomy y with h' | h' | h' <;> simp [h,h']
theorem Agb {x y:Int}:0≤Int.sign x*Int.sign y↔¬ Int.sign x*Int.sign y = -1:=by
 rcases Int.sign_trichotomy x with h | h | h <;> rcases Int.sign_trichotomy y with h' | h' | h' <;> simp [h,h']
/-- On two sides of a line, places differ. -/
theorem Agc {a b c d:Ac} (h:Int.sign (crs a b c)*Int.sign (crs a b d) = -1):¬ Cc a c∧¬ Cc a d∧¬ Cc b c∧¬ Cc b d:=by
 rw [Aaz] at h
 refine ⟨fun e=>?_,fun e=>?_,fun e=>?_,fun e=>?_⟩ <;> (have:=Zy e;subst this;simp only [Oe,Bu,Bj] at h;omega)
end Go.Proofs.YtebkcipolijfmaaGreat
/- The legal side: the reference's answer, and that it does not matter from where a side is seen. -/
namespace Go.Proofs.YtebkcipolijfmaaGreat
open Go Go.RowKit
end Go.Proofs.YtebkcipolijfmaaGreat
/- Plane geometry: identities of areas, planes over triangles. -/
namespace Go.Proofs.YtebkcipolijfmaaGreat
open Go Go.RowKit
/-- How far the plane through a, b, c (with heights ha, hb, hc) lies above the height hd at d, times twice the area of the triangle. -/
def Dt (ha hb hc hd:Int) (a b c d:Ac):Int:=ha*crs b c d+hb*crs c a d+hc*crs a b d-hd*crs a b c
/-- The height at x of the plane through a, b, c, times twice the area of the triangle. -/
def plt (ha hb hc:Int) (a b c x:Ac):Int:=ha*crs b c x+hb*crs c a x+hc*crs a b x
def sq (p:Ac):Int:=p.X*p.X+p.Y*p.Y
theorem Atx (a b c d:Ac):inC a b c d=Dt (sq a) (sq b) (sq c) (sq d) a b c d:=by unfold inC Dt lft sq crs;grind
theorem Aa0 (ha hb hc hd:Int) (a b c d:Ac):Dt ha hb hc hd a b c d=plt ha hb hc a b c d-hd*crs a b c:=rfl
theorem Mu (a b c d:Ac):crs a b c=crs b c d+crs c a d+crs a b d:=by unfold crs;grind
theorem Agd (a b c q r u:Ac):crs b c u*crs q r a+crs c a u*crs q r b+crs a b u*crs q r c=crs a b c*crs q r u:=by unfold crs;grind
theorem Ym (hp hq hr:Int) (a b c p q r u:Ac):crs b c u*plt hp hq hr p q r a+crs c a u*plt hp hq hr p q r b+crs a b u*plt hp hq hr p q r c=crs a b c*plt hp hq hr p q r u:=by
 have h1:=Agd a b c q r u
 have h2:=Agd a b c r p u
 have h3:=Agd a b c p q u
 unfold plt
 grind
/-- Across a side, the planes differ by how far they differ at the far corner. -/
theorem Nz (ha hb hc hd:Int) (a b c d x:Ac):plt hb ha hd b a d x*crs a b c-plt ha hb hc a b c x*crs b a d=Dt ha hb hc hd a b c d*crs a b x:=by
 unfold plt Dt crs;grind
theorem Arp (ha hb hc hd:Int) (a b c d:Ac):Dt hb ha hc hd b a c d = -Dt ha hb hc hd a b c d:=by unfold Dt crs;grind
theorem Aty (ha hb hc hd:Int) (a b c d:Ac):Dt hb hc ha hd b c a d=Dt ha hb hc hd a b c d:=by unfold Dt crs;grind
theorem Ahv (ha hb hc hd:Int) (a b c d:Ac):Dt ha hb hd hc a b d c = -Dt ha hb hc hd a b c d:=by unfold Dt crs;grind
theorem Zz (ha hb hc:Int) (a b c x:Ac):plt hb hc ha b c a x=plt ha hb hc a b c x:=by unfold plt;grind
theorem Apq (ha hb hc:Int) (a b c:Ac):plt ha hb hc a b c a=ha*crs a b c:=by unfold plt crs;grind
theorem Akx (ha hb hc:Int) (a b c:Ac):plt ha hb hc a b c b=hb*crs a b c:=by unfold plt crs;grind
theorem Aky (ha hb hc:Int) (a b c:Ac):plt ha hb hc a b c c=hc*crs a b c:=by unfold plt crs;grind
/-- The circle's test, seen from b. -/
theorem Atz (a b c d:Ac):inC a b c d=lft a b*crs b c d+lft c b*crs a b d-lft d b*crs a b c:=by unfold inC lft crs;grind
theorem Age {p q:Ac} (h:¬ Cc p q):0 < lft p q:=by
 unfold lft
 have h1:0≤(p.X-q.X)*(p.X-q.X):=by rw [← Int.natAbs_mul_self];omega
 have h2:0≤(p.Y-q.Y)*(p.Y-q.Y):=by rw [← Int.natAbs_mul_self];omega
 by_cases hx:p.X=q.X
 ·have hy:p.Y-q.Y≠0:=fun e=>h ⟨hx,by omega⟩
  have:0 < (p.Y-q.Y)*(p.Y-q.Y):=by
   rcases Int.lt_or_gt_of_ne hy with g | g
   ·exact Int.mul_pos_of_neg_of_neg g g
   ·exact Int.mul_pos g g
  omega
 ·have hx':p.X-q.X≠0:=by omega
  have:0 < (p.X-q.X)*(p.X-q.X):=by
   rcases Int.lt_or_gt_of_ne hx' with g | g
   ·exact Int.mul_pos_of_neg_of_neg g g
   ·exact Int.mul_pos g g
  omega
theorem Up (p q:Ac):0≤lft p q:=by
 unfold lft
 have h1:0≤(p.X-q.X)*(p.X-q.X):=by rw [← Int.natAbs_mul_self];omega
 have h2:0≤(p.Y-q.Y)*(p.Y-q.Y):=by rw [← Int.natAbs_mul_self];omega
 omega
/-- Where the quadrangle is not convex at b, the circle leaves d out. -/
theorem Ad3 {a b c d:Ac} (h1:0 < crs a b c) (h2:crs a b d < 0) (h3:crs b c d≤0):inC a b c d < 0:=by
 have hd:¬ Cc d b:=fun e=>by
  have:=Zy e
  subst this
  simp only [Bj] at h2
  omega
 rw [Atz]
 have e1:lft a b*crs b c d≤0:=Int.mul_nonpos_of_nonneg_of_nonpos (Up a b) h3
 have e2:lft c b*crs a b d≤0:=Int.mul_nonpos_of_nonneg_of_nonpos (Up c b) (by omega)
 have e3:0 < lft d b*crs a b c:=Int.mul_pos (Age hd) h1
 omega
/-- .. nor where it is not convex at a. -/
theorem Vx {a b c d:Ac} (h1:0 < crs a b c) (h2:crs a b d < 0) (h3:crs c a d≤0):inC a b c d < 0:=by
 have e:inC a b c d=lft b a*crs c a d+lft c a*crs a b d-lft d a*crs a b c:=by unfold inC lft crs;grind
 have hd:¬ Cc d a:=fun e=>by
  have:=Zy e
  subst this
  simp only [Bu] at h2
  omega
 rw [e]
 have e1:lft b a*crs c a d≤0:=Int.mul_nonpos_of_nonneg_of_nonpos (Up b a) h3
 have e2:lft c a*crs a b d≤0:=Int.mul_nonpos_of_nonneg_of_nonpos (Up c a) (by omega)
 have e3:0 < lft d a*crs a b c:=Int.mul_pos (Age hd) h1
 omega
end Go.Proofs.YtebkcipolijfmaaGreat
/- Convex chains along a direction. -/
namespace Go.Proofs.YtebkcipolijfmaaGreat
open Go Go.RowKit
def ph (α β:Int) (p:Ac):Int:=α*p.X+β*p.Y
theorem Auv (α β:Int) (a b c d:Ac):(ph α β b-ph α β a)*crs a c d+(ph α β c-ph α β a)*crs a d b+(ph α β d-ph α β a)*crs a b c=0:=by unfold ph crs;grind
section
variable {α β:Int}
theorem Ad4 {x y:Int} (hx:0 < x) (h:0 < x*y):0 < y:=by
 rcases Int.lt_trichotomy y 0 with g | g | g
 ·have:=Int.mul_neg_of_pos_of_neg hx g;omega
 ·subst g;simp at h
 ·exact g
theorem Ps {x y:Int} (hx:0 < x) (h:0≤x*y):0≤y:=by
 rcases Int.lt_or_le y 0 with g | g
 ·have:=Int.mul_neg_of_pos_of_neg hx g;omega
 ·exact g
end
section
variable (P:Int→Ac) (α β:Int)
/-- All places of the list lie left of the edge or on it. -/
def Sup (D:List Int) (a b:Int):Prop:=ph α β (P a) < ph α β (P b)∧∀ k∈D,0 < crs (P a) (P b) (P k)∨(crs (P a) (P b) (P k)=0∧ph α β (P a)≤ph α β (P k)∧ph α β (P k)≤ph α β (P b))
/-- The chain (the top first) has edges of that kind alone. -/
def Asa (Q:Int→Int→Prop):List Int→Prop
 | b::a::r=>Q a b∧Asa Q (a::r)
 | _=>True
/-- A chain over the places that came so far. -/
structure ChainC (f:Int) (D s:List Int):Prop where
 sub:∀ x∈s,x∈D
 edge:Asa (Sup P α β D) s
 bot:∃ r,s=r++[f]
 low:∀ k∈D,k=f∨ph α β (P f) < ph α β (P k)
variable {P α β}
end
end Go.Proofs.YtebkcipolijfmaaGreat
/- Triangles whose surface is convex: walks over them, and that a closed set of triangles whose circles are empty has all of them. -/
namespace Go.Proofs.YtebkcipolijfmaaGreat
open Go Go.RowKit
theorem Uq {a b c x y z:Int} (hx:0 < x) (hy:0 < y) (hz:0 < z) (h1:a*y < b*x) (h2:b*z < c*y):a*z < c*x:=by
 have h3:=Int.mul_lt_mul_of_pos_right h1 hz
 have h4:=Int.mul_lt_mul_of_pos_right h2 hx
 have h5:y*(a*z) < y*(c*x):=by
  have e1:y*(a*z)=a*y*z:=by grind
  have e2:b*x*z=b*z*x:=by grind
  have e3:y*(c*x)=c*y*x:=by grind
  rw [e1,e3]
  rw [e2] at h3
  exact Int.lt_trans h3 h4
 exact Int.lt_of_mul_lt_mul_left h5 (Int.le_of_lt hy)
theorem Tp {α:Type} {p q:α→Bool} {x:α}:∀ {l:List α},(∀ y∈l,p y=true→q y=true)→x∈l→q x=true→p x=false→l.countP p < l.countP q
 | [],_,hx,_,_=>by cases hx
 | y::r,h',hx,hq,hp=>by
  have h:=h' y List.mem_cons_self
  have h2:∀ z∈r,p z=true→q z=true:=fun z hz=>h' z (List.mem_cons_of_mem _ hz)
  have hle:r.countP p≤r.countP q:=List.countP_mono_left h2
  rw [List.countP_cons,List.countP_cons]
  rcases List.mem_cons.1 hx with rfl | hx
  ·rw [hq,hp];simp;omega
  ·have:=Tp h2 hx hq hp
   by_cases c:p y=true
   ·rw [if_pos c,if_pos (h c)];omega
   ·rw [if_neg c];split <;> omega
def c3 (a b p q r:Ac):Int:=crs a b p+crs a b q+crs a b r
def p3 (ha hb hc:Int) (a b c p q r:Ac):Int:=plt ha hb hc a b c p+plt ha hb hc a b c q+plt ha hb hc a b c r
theorem Amd (ha hb hc hd:Int) (a b c d p q r:Ac):p3 hb ha hd b a d p q r*crs a b c-p3 ha hb hc a b c p q r*crs b a d=Dt ha hb hc hd a b c d*c3 a b p q r:=by
 have h1:=Nz ha hb hc hd a b c d p
 have h2:=Nz ha hb hc hd a b c d q
 have h3:=Nz ha hb hc hd a b c d r
 unfold p3 c3
 grind
theorem Apr (ha hb hc:Int) (a b c p q r:Ac):p3 hb hc ha b c a p q r=p3 ha hb hc a b c p q r:=by unfold p3;rw [Zz ha hb hc a b c p,Zz ha hb hc a b c q,Zz ha hb hc a b c r]
abbrev T3:=Int × Int × Int
variable {P:Int→Ac} {H:Int→Int}
def Tq (P:Int→Ac) (t:T3):Int:=crs (P t.1) (P t.2.1) (P t.2.2)
def hgt3 (P:Int→Ac) (H:Int→Int) (t:T3) (p q r:Ac):Int:=p3 (H t.1) (H t.2.1) (H t.2.2) (P t.1) (P t.2.1) (P t.2.2) p q r
/-- The plane of t lies below that of s at the place. -/
def Np (P:Int→Ac) (H:Int→Int) (p q r:Ac) (t s:T3):Prop:=hgt3 P H t p q r*Tq P s < hgt3 P H s p q r*Tq P t
instance (p q r:Ac) (t s:T3):Decidable (Np P H p q r t s):=by unfold Np;infer_instance
def DH (P:Int→Ac) (H:Int→Int) (a b c d:Int):Int:=Dt (H a) (H b) (H c) (H d) (P a) (P b) (P c) (P d)
/-- A set of triangles, each in its three turns. -/
structure Yn (P:Int→Ac) (X:List T3):Prop where
 rot:∀ a b c,(a,b,c)∈X→(b,c,a)∈X
 ccw:∀ a b c,(a,b,c)∈X→0 < crs (P a) (P b) (P c)
/-- From each triangle, one comes to a triangle that has the place, and each step leads to a higher plane. -/
theorem walk {X:List T3} (hX:Yn P X) (p q r:Ac) (step:∀ a b c,(a,b,c)∈X→c3 (P a) (P b) p q r < 0→∃ d,(b,a,d)∈X∧DH P H a b c d < 0) :
  ∀ t∈X,∃ s∈X,0≤c3 (P s.1) (P s.2.1) p q r∧0≤c3 (P s.2.1) (P s.2.2) p q r∧0≤c3 (P s.2.2) (P s.1) p q r∧(s=t∨Np P H p q r t s):=by
 have key:∀ (n:Nat) (t:T3),t∈X→X.countP (fun s=>decide (Np P H p q r t s))=n→∃ s∈X,0≤c3 (P s.1) (P s.2.1) p q r∧0≤c3 (P s.2.1) (P s.2.2) p q r∧0≤c3 (P s.2.2) (P s.1) p q r∧(s=t∨Np P H p q r t s):=by
  intro n
  induction n using Nat.strongRecOn with
  | ind n ih =>
   intro t ht hn
   -- a step over the first side of a turn t' of t
   have go:∀ t':T3,t'∈X→hgt3 P H t' p q r=hgt3 P H t p q r→Tq P t'=Tq P t→c3 (P t'.1) (P t'.2.1) p q r < 0 →
     ∃ s∈X,0≤c3 (P s.1) (P s.2.1) p q r∧0≤c3 (P s.2.1) (P s.2.2) p q r∧0≤c3 (P s.2.2) (P s.1) p q r∧(s=t∨Np P H p q r t s):=by
    rintro ⟨a,b,c⟩ h1 h2 h3 h4
    obtain ⟨d,h5,h6⟩:=step a b c h1 h4
    have hb:Np P H p q r t (b,a,d):=by
     unfold Np
     rw [← h2,← h3]
     have e:=Amd (H a) (H b) (H c) (H d) (P a) (P b) (P c) (P d) p q r
     have:0 < Dt (H a) (H b) (H c) (H d) (P a) (P b) (P c) (P d)*c3 (P a) (P b) p q r:=Int.mul_pos_of_neg_of_neg h6 h4
     show p3 _ _ _ _ _ _ p q r*crs _ _ _ < p3 _ _ _ _ _ _ p q r*crs _ _ _
     simp only
     omega
    have hpos:∀ u∈X,0 < Tq P u:=fun u hu=>hX.ccw u.1 u.2.1 u.2.2 hu
    have hlt:X.countP (fun s=>decide (Np P H p q r (b,a,d) s)) < n:=by
     rw [← hn]
     refine Tp (x:=(b,a,d)) (fun y hy hb2=>?_) h5 (by simpa using hb) (by simp [Np])
     rw [decide_eq_true_eq] at hb2 ⊢
     exact Uq (hpos t ht) (hpos _ h5) (hpos y hy) hb hb2
    obtain ⟨s,k1,k2,k3,k4,k5⟩:=ih _ hlt (b,a,d) h5 rfl
    refine ⟨s,k1,k2,k3,k4,.inr ?_⟩
    rcases k5 with rfl | k5
    ·exact hb
    ·exact Uq (hpos t ht) (hpos _ h5) (hpos s k1) hb k5
   obtain ⟨a,b,c⟩:=t
   by_cases g1:c3 (P a) (P b) p q r < 0
   ·exact go (a,b,c) ht rfl rfl g1
   ·by_cases g2:c3 (P b) (P c) p q r < 0
    ·exact go (b,c,a) (hX.rot _ _ _ ht) (Apr _ _ _ _ _ _ _ _ _) (Ao _ _ _) g2
    ·by_cases g3:c3 (P c) (P a) p q r < 0
     ·exact go (c,a,b) (hX.rot _ _ _ (hX.rot _ _ _ ht)) (by unfold hgt3;rw [← Apr]) (by unfold Tq;rw [← Ao]) g3
     ·exact ⟨(a,b,c),ht,by simp only;omega,by simp only;omega,by simp only;omega,.inl rfl⟩
 exact fun t ht=>key _ t ht rfl
end Go.Proofs.YtebkcipolijfmaaGreat
