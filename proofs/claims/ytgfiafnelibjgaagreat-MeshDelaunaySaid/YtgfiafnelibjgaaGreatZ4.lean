/- Turns, circles and the legal side: the reference. -/
import Derived.Test.YtgfiafnelibjgaaGreatZ2
import Derived.Test.YtgfiafnelibjgaaGreatE1
namespace Go.Proofs.YtgfiafnelibjgaaGreat
open Go Go.RowKit
theorem Anc (a:Int):shr_ .i64 a 30=a / 1073741824:=by
 unfold shr_
 rw [show (2:Int) ^ (min (30:Int).toNat IntKind.i64.bits)=1073741824 from by decide,Int.fdiv_eq_ediv_of_nonneg _ (by omega)]
theorem Ane (a:Int):Mr .i64 a 1073741823=a % 1073741824:=by
 unfold Mr
 have h1:(BitVec.ofInt 64 1073741823).toNat=2 ^ 30-1:=by decide
 have h2:(BitVec.ofInt 64 a).toNat=(a % 18446744073709551616).toNat:=by simp [BitVec.toNat_ofInt]
 have h3:(BitVec.ofInt IntKind.i64.bits a &&& BitVec.ofInt IntKind.i64.bits 1073741823).toNat=(a % 1073741824).toNat:=by
  show (BitVec.ofInt 64 a &&& BitVec.ofInt 64 1073741823).toNat=_
  rw [BitVec.toNat_and,h1,Nat.and_two_pow_sub_one_eq_mod,h2]
  omega
 rw [h3]
 show IntKind.wrap .i64 _=_
 rw [IntKind.wrap_i64]
 omega
def wval (w:Cp):Int:=w.high*1152921504606846976+w.middle*1073741824+w.low
/-- The sum of at most n products. -/
structure Ahx (w:Cp) (n z:Int):Prop where
 val:wval w=z
 high:-(n*288230376151711744)≤w.high∧w.high≤n*288230376151711744
 middle:-(n*1152921504606846976)≤w.middle∧w.middle≤n*1152921504606846976
 low:0≤w.low∧w.low≤n*1152921504606846976
theorem Ab2 {w:Cp} {n z a b:Int} (h:Ahx w n z) (hn0:0≤n) (hn:n≤2) (ha1:-576460752303423488≤a) (ha2:a≤576460752303423488) (hb1:-576460752303423488≤b) (hb2:b≤576460752303423488) :
  ∃ w',Ed w a b=some w'∧Ahx w' (n+1) (z+a*b):=by
 obtain ⟨h0,h1,h2,h3⟩:=h
 unfold Ed
 rw [Anc,Anc,Ane,Ane]
 have ea:a=a / 1073741824*1073741824+a % 1073741824:=by omega
 have eb:b=b / 1073741824*1073741824+b % 1073741824:=by omega
 have A1:-536870912≤a / 1073741824∧a / 1073741824≤536870912:=by omega
 have B1:-536870912≤b / 1073741824∧b / 1073741824≤536870912:=by omega
 have A0:0≤a % 1073741824∧a % 1073741824≤1073741824:=by omega
 have B0:0≤b % 1073741824∧b % 1073741824≤1073741824:=by omega
 generalize a / 1073741824=a1 at *
 generalize b / 1073741824=b1 at *
 generalize a % 1073741824=a0 at *
 generalize b % 1073741824=b0 at *
 have p1:=mulB (x:=a1) (y:=b1) (M:=536870912) (N:=536870912) (by omega) (by omega) (by omega) (by omega) (by omega)
 have p2:=mulB (x:=a1) (y:=b0) (M:=536870912) (N:=1073741824) (by omega) (by omega) (by omega) (by omega) (by omega)
 have p3:=mulB (x:=a0) (y:=b1) (M:=1073741824) (N:=536870912) (by omega) (by omega) (by omega) (by omega) (by omega)
 have p4:=mulB (x:=a0) (y:=b0) (M:=1073741824) (N:=1073741824) (by omega) (by omega) (by omega) (by omega) (by omega)
 have p5:0≤a0*b0:=Int.mul_nonneg A0.1 B0.1
 have e:a*b=a1*b1*1152921504606846976+(a1*b0+a0*b1)*1073741824+a0*b0:=by
  rw [ea,eb];grind
 rw [Bl (x:=a1*b1) (by omega) (by omega),Bl (x:=a1*b0) (by omega) (by omega),Bl (x:=a0*b1) (by omega) (by omega),Bl (x:=a0*b0) (by omega) (by omega),
  Bl (x:=w.high+a1*b1) (by omega) (by omega),Bl (x:=w.middle+a1*b0) (by omega) (by omega),Bl (by omega) (by omega),Bl (by omega) (by omega)]
 refine ⟨_,rfl,?_,?_,?_,?_⟩
 ·unfold wval at h0 ⊢
  simp only
  omega
 ·simp only;omega
 ·simp only;omega
 ·simp only;omega
theorem Ab3 (z:Int):Hh z=some (Int.sign z):=by
 unfold Hh
 by_cases h:z < 0
 ·rw [if_pos h,Int.sign_eq_neg_one_of_neg h]
 ·rw [if_neg h]
  by_cases h2:0 < z
  ·rw [if_pos h2,Int.sign_eq_one_of_pos h2]
  ·rw [if_neg h2,show z=0 by omega];rfl
theorem Alb {w:Cp} {z:Int} (h:Ahx w 3 z):Hb w=some (Int.sign z):=by
 obtain ⟨h0,h1,h2,h3⟩:=h
 unfold Hb
 simp only [Anc,Ane]
 have e1:w.low=w.low / 1073741824*1073741824+w.low % 1073741824:=by omega
 rw [Bl (x:=w.middle+w.low / 1073741824) (by omega) (by omega)]
 have e2:w.middle+w.low / 1073741824=(w.middle+w.low / 1073741824) / 1073741824*1073741824+(w.middle+w.low / 1073741824) % 1073741824:=by omega
 unfold wval at h0
 have l0:0≤w.low % 1073741824∧w.low % 1073741824 < 1073741824:=by omega
 have m0:0≤(w.middle+w.low / 1073741824) % 1073741824∧(w.middle+w.low / 1073741824) % 1073741824 < 1073741824:=by omega
 have hb:-4611686018427387904≤w.high+(w.middle+w.low / 1073741824) / 1073741824∧w.high+(w.middle+w.low / 1073741824) / 1073741824≤4611686018427387904:=by omega
 have hz:z=(w.high+(w.middle+w.low / 1073741824) / 1073741824)*1152921504606846976+(w.middle+w.low / 1073741824) % 1073741824*1073741824+w.low % 1073741824:=by omega
 clear e1 e2 h0 h1 h2 h3
 rw [Bl (x:=w.high+(w.middle+w.low / 1073741824) / 1073741824) (by omega) (by omega)]
 generalize w.high+(w.middle+w.low / 1073741824) / 1073741824=H at *
 generalize (w.middle+w.low / 1073741824) % 1073741824=M at *
 generalize w.low % 1073741824=L at *
 by_cases c:H=0
 ·rw [if_pos c,Bl (by omega) (by omega),Ab3,Ae]
  congr 1
  by_cases c2:M+L=0
  ·rw [c2,show z=0 by omega]
  ·rw [Int.sign_eq_one_of_pos (by omega),Int.sign_eq_one_of_pos (by omega)]
 ·rw [if_neg c,Ab3,Ae]
  congr 1
  by_cases c2:H < 0
  ·rw [Int.sign_eq_neg_one_of_neg c2,Int.sign_eq_neg_one_of_neg (by omega)]
  ·rw [Int.sign_eq_one_of_pos (by omega),Int.sign_eq_one_of_pos (by omega)]
theorem Zg {a b c:Ac} (ha:okP a) (hb:okP b) (hc:okP c):Hz a b c=some (crs a b c):=Ns ha hb hc
theorem Jg {a b c:Ac} (ha:okP a) (hb:okP b) (hc:okP c):Bf a b c=some (Int.sign (crs a b c)):=by
 unfold Bf
 rw [Zg ha hb hc,Ae,Ab3,Ae]
theorem Ab4 {a b c d:Ac} (ha:okP a) (hb:okP b) (hc:okP c) (hd:okP d):Ei a b c d=some (Int.sign (inC a b c d)):=by
 have l1:=Xa ha hd
 have l2:=Xa hb hd
 have l3:=Xa hc hd
 have c1:=Kg hd hb hc
 have c2:=Kg hd hc ha
 have c3:=Kg hd ha hb
 obtain ⟨w1,e1,i1⟩:=Ab2 (w:=⟨0,0,0⟩) (n:=0) (z:=0) (a:=lft a d) (b:=crs d b c) ⟨rfl,by simp,by simp,by simp⟩ (by omega) (by omega) (by omega) (by omega) (by omega) (by omega)
 obtain ⟨w2,e2,i2⟩:=Ab2 (a:=lft b d) (b:=crs d c a) i1 (by omega) (by omega) (by omega) (by omega) (by omega) (by omega)
 obtain ⟨w3,e3,i3⟩:=Ab2 (a:=lft c d) (b:=crs d a b) i2 (by omega) (by omega) (by omega) (by omega) (by omega) (by omega)
 have x1:w64 (w64 (w64 (a.X-d.X)*w64 (a.X-d.X))+w64 (w64 (a.Y-d.Y)*w64 (a.Y-d.Y)))=lft a d:=Option.some.inj (Vm ha hd)
 have x2:w64 (w64 (w64 (b.X-d.X)*w64 (b.X-d.X))+w64 (w64 (b.Y-d.Y)*w64 (b.Y-d.Y)))=lft b d:=Option.some.inj (Vm hb hd)
 have x3:w64 (w64 (w64 (c.X-d.X)*w64 (c.X-d.X))+w64 (w64 (c.Y-d.Y)*w64 (c.Y-d.Y)))=lft c d:=Option.some.inj (Vm hc hd)
 have y1:w64 (w64 (w64 (b.X-d.X)*w64 (c.Y-d.Y))-w64 (w64 (b.Y-d.Y)*w64 (c.X-d.X)))=crs d b c:=Option.some.inj (Ns hd hb hc)
 have y2:w64 (w64 (w64 (c.X-d.X)*w64 (a.Y-d.Y))-w64 (w64 (c.Y-d.Y)*w64 (a.X-d.X)))=crs d c a:=Option.some.inj (Ns hd hc ha)
 have y3:w64 (w64 (w64 (a.X-d.X)*w64 (b.Y-d.Y))-w64 (w64 (a.Y-d.Y)*w64 (b.X-d.X)))=crs d a b:=Option.some.inj (Ns hd ha hb)
 unfold Ei
 simp only [x1,x2,x3,y1,y2,y3,e1,Ae,e2,e3]
 rw [Alb (by simpa using i3),Ae]
 simp [inC]
end Go.Proofs.YtgfiafnelibjgaaGreat
/- The legal side: the program and the reference. -/
namespace Go.Proofs.YtgfiafnelibjgaaGreat
open Go Go.RowKit
def befP (p q:Ac):Prop:=p.X < q.X∨p.X=q.X∧p.Y < q.Y
instance (p q:Ac):Decidable (befP p q):=by unfold befP;infer_instance
def Bj (p q:Ac):Prop:=p.X=q.X∧p.Y=q.Y
instance (p q:Ac):Decidable (Bj p q):=by unfold Bj;infer_instance
theorem Ab5 {p q:Ac} (h:Bj p q):p=q:=by
 obtain ⟨x,y⟩:=p
 obtain ⟨x',y'⟩:=q
 obtain ⟨h1,h2⟩:=h
 simp only at h1 h2
 rw [h1,h2]
def Hk (a b:Ac):Ac:=if befP b a then b else a
theorem Agc (a b:Ac):Ej a b=some (decide (befP a b)):=by
 unfold Ej jn befP
 simp only
 by_cases h1:a.X < b.X
 ·simp [h1]
 ·by_cases h2:a.X=b.X
  ·simp [h2]
  ·simp [h1,h2]
theorem Anf (a b:Ac):Dg a b=some (decide (befP a b)):=Agc a b
theorem Ajg (a:Ac):Ca a=some (decide (okP a)):=by
 unfold Ca
 rw [jn_d]
 by_cases h1:-268435456≤a.X
 ·rw [if_pos h1]
  by_cases h2:a.X≤268435456
  ·rw [if_pos h2]
   by_cases h3:-268435456≤a.Y
   ·rw [if_pos h3]
    by_cases h4:a.Y≤268435456
    ·rw [decide_eq_true h4,decide_eq_true (show okP a by unfold okP;omega)]
    ·rw [decide_eq_false h4,decide_eq_false (show ¬ okP a by unfold okP;omega)]
   ·rw [if_neg h3,decide_eq_false (show ¬ okP a by unfold okP;omega)]
  ·rw [if_neg h2,decide_eq_false (show ¬ okP a by unfold okP;omega)]
 ·rw [if_neg h1,decide_eq_false (show ¬ okP a by unfold okP;omega)]
theorem Ab6 (B:(Int × Int × Int)→Option (Sum (Int × Int × Int) (Int × Int))) (p q r:Ac)
  (hB:∀ x y i,B (x,y,i)=if i < 3 then bnd (idx [p,q,r] i) fun z=>some (.inl ((Hk ⟨x,y⟩ z).X,(Hk ⟨x,y⟩ z).Y,w64 (i+1))) else some (.inr (x,y))) (x y:Int) :
  lfix B (x,y,0)=some ((Hk (Hk (Hk ⟨x,y⟩ p) q) r).X,(Hk (Hk (Hk ⟨x,y⟩ p) q) r).Y):=by
 have w1:w64 (0+1)=1:=Bl (by omega) (by omega)
 have w2:w64 (1+1)=2:=Bl (by omega) (by omega)
 have w3:w64 (2+1)=3:=Bl (by omega) (by omega)
 have i0:idx [p,q,r] 0=some p:=rfl
 have i1:idx [p,q,r] 1=some q:=rfl
 have i2:idx [p,q,r] 2=some r:=rfl
 rw [By,hB,if_pos (by omega),i0,Ae,w1]
 simp only
 rw [By,hB,if_pos (by omega),i1,Ae,w2]
 simp only
 rw [By,hB,if_pos (by omega),i2,Ae,w3]
 simp only
 rw [By,hB,if_neg (by omega)]
/-- The first of four places is one of the last two. -/
theorem Ad3 {a b c d:Ac} (h1:¬ Bj a c) (h2:¬ Bj a d) (h3:¬ Bj b c) (h4:¬ Bj b d) :
  (Bj (Hk (Hk (Hk a b) c) d) c∨Bj (Hk (Hk (Hk a b) c) d) d)↔((befP c a∧befP c b)∨(befP d a∧befP d b)):=by
 have key:∀ p q:Ac,(befP q p∧Hk p q=q)∨(¬ befP q p∧Hk p q=p):=fun p q=>by
  unfold Hk
  by_cases h:befP q p
  ·exact .inl ⟨h,if_pos h⟩
  ·exact .inr ⟨h,if_neg h⟩
 rcases key a b with ⟨k1,e1⟩ | ⟨k1,e1⟩ <;> rw [e1]
 ·rcases key b c with ⟨k2,e2⟩ | ⟨k2,e2⟩ <;> rw [e2]
  ·rcases key c d with ⟨k3,e3⟩ | ⟨k3,e3⟩ <;> rw [e3] <;> unfold Bj befP at * <;> omega
  ·rcases key b d with ⟨k3,e3⟩ | ⟨k3,e3⟩ <;> rw [e3] <;> unfold Bj befP at * <;> omega
 ·rcases key a c with ⟨k2,e2⟩ | ⟨k2,e2⟩ <;> rw [e2]
  ·rcases key c d with ⟨k3,e3⟩ | ⟨k3,e3⟩ <;> rw [e3] <;> unfold Bj befP at * <;> omega
  ·rcases key a d with ⟨k3,e3⟩ | ⟨k3,e3⟩ <;> rw [e3] <;> unfold Bj befP at * <;> omega
def legP (a b c d:Ac):Prop:=Int.sign (crs a b c)*Int.sign (inC a b c d) < 0∨Int.sign (crs a b c)*Int.sign (inC a b c d)=0∧((befP c a∧befP c b)∨(befP d a∧befP d b))
instance (a b c d:Ac):Decidable (legP a b c d):=by unfold legP;infer_instance
theorem Nf (a c:Ac):crs a c c=0:=by unfold crs;grind
theorem Cc (a b:Ac):crs a b a=0:=by unfold crs;grind
theorem Bk (a b:Ac):crs a b b=0:=by unfold crs;grind
theorem Zh (a b:Ac):crs a a b=0:=by unfold crs;grind
theorem Aw (a b c:Ac):crs b a c = -crs a b c:=by unfold crs;grind
theorem Am (a b c:Ac):crs b c a=crs a b c:=by unfold crs;grind
theorem Ang (a b c d:Ac):inC b a c d = -inC a b c d:=by unfold inC lft crs;grind
theorem Anh {a b c d:Ac} (ha:okP a) (hb:okP b) (hc:okP c) (hd:okP d) (h1:¬ Bj a c) (h2:¬ Bj a d) (h3:¬ Bj b c) (h4:¬ Bj b d):Mx a b c d=some (decide (legP a b c d)):=by
 unfold Mx
 rw [Alk,if_pos ⟨ha,hb,hc,hd⟩,Ae]
 have e:(if crs a b c=0 then ((0:Int),(12:Int)) else (Int.sign (crs a b c)*Int.sign (inC a b c d),0)).1=Int.sign (crs a b c)*Int.sign (inC a b c d):=by
  split
  ·rename_i h;rw [h];simp
  ·rfl
 rw [e]
 by_cases h0:Int.sign (crs a b c)*Int.sign (inC a b c d)=0
 ·rw [if_pos h0,jn_d,Ab6 _ b c d (fun x y i=>?_),Ae]
  ·dsimp only
   rw [jn_d]
   have hl:=Ad3 h1 h2 h3 h4
   by_cases hcc:Bj (Hk (Hk (Hk a b) c) d) c
   ·have:legP a b c d:=.inr ⟨h0,hl.1 (.inl hcc)⟩
    rw [if_pos (by simpa [Bj] using hcc),decide_eq_true this]
   ·rw [if_neg (by simpa [Bj] using hcc)]
    congr 1
    rw [Bool.eq_iff_iff]
    simp only [Bool.and_true,Bool.and_eq_true,beq_iff_eq,decide_eq_true_eq]
    unfold legP
    constructor
    ·intro h;exact .inr ⟨h0,hl.1 (.inr h)⟩
    ·rintro (h | ⟨_,h⟩)
     ·omega
     ·exact (hl.2 h).resolve_left hcc
  ·unfold Ri
   simp only
   split
   ·refine congrArg (bnd _) (funext fun z=>?_)
    rw [Agc,Ae]
    unfold Hk
    by_cases hb:befP z ⟨x,y⟩
    ·rw [if_pos (by simpa using hb),if_pos hb]
    ·rw [if_neg (by simpa using hb),if_neg hb]
   ·rfl
 ·rw [if_neg h0]
  congr 1
  rw [Bool.eq_iff_iff]
  simp only [decide_eq_true_eq]
  unfold legP
  constructor
  ·intro h;exact .inl h
  ·rintro (h | ⟨h,_⟩)
   ·exact h
   ·exact absurd h h0
theorem Vg {x y:Int}:Int.sign x*Int.sign y = -1↔(x < 0∧0 < y)∨(0 < x∧y < 0):=by
 rcases Int.lt_trichotomy x 0 with h | h | h <;> rcases Int.lt_trichotomy y 0 with h' | h' | h'
 all_goals first
  | (rw [Int.sign_eq_neg_one_of_neg h];try rw [Int.sign_eq_neg_one_of_neg h'])
  | (rw [Int.sign_eq_one_of_pos h];try rw [Int.sign_eq_neg_one_of_neg h'])
  | (rw [h])
 all_goals try rw [Int.sign_eq_one_of_pos h']
 all_goals try rw [h']
 all_goals simp
 all_goals omega
theorem Oz {x y:Int}:w64 (Int.sign x*Int.sign y)=Int.sign x*Int.sign y:=by
 apply Bl
 ·rcases Int.sign_trichotomy x with h | h | h <;> rcases Int.sign_trichotomy y with h' | h' | h' <;> simp [h,h']
 ·rcases Int.sign_trichotomy x with h | h | h <;> rcases Int.sign_trichotomy y with h' | h' | h' <;> simp [h,h']
theorem Aet {x y:Int}:0≤Int.sign x*Int.sign y↔¬ Int.sign x*Int.sign y = -1:=by
 rcases Int.sign_trichotomy x with h | h | h <;> rcases Int.sign_trichotomy y with h' | h' | h' <;> simp [h,h']
/-- On two sides of a line, places differ. -/
theorem Yb {a b c d:Ac} (h:Int.sign (crs a b c)*Int.sign (crs a b d) = -1):¬ Bj a c∧¬ Bj a d∧¬ Bj b c∧¬ Bj b d:=by
 rw [Vg] at h
 refine ⟨fun e=>?_,fun e=>?_,fun e=>?_,fun e=>?_⟩ <;> (have:=Ab5 e;subst this;simp only [Nf,Cc,Bk] at h;omega)
def Aeu (a b c d:Ac):Bool × Int:=if okP a∧okP b∧okP c∧okP d then if Int.sign (crs a b c)*Int.sign (crs a b d) = -1 then (decide (legP a b c d),0) else (false,2) else (false,11)
end Go.Proofs.YtgfiafnelibjgaaGreat
