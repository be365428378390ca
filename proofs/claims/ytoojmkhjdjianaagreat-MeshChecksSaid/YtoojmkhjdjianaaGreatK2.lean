/- Turns, circles and the legal side: the reference. -/
import Derived.Test.YtoojmkhjdjianaaGreatZ2
import Derived.Test.YtoojmkhjdjianaaGreatE1
namespace Go.Proofs.YtoojmkhjdjianaaGreat
open Go Go.RowKit
theorem Ao5 (a:Int):shr_ .i64 a 30=a / 1073741824:=by
 unfold shr_
 rw [show (2:Int) ^ (min (30:Int).toNat IntKind.i64.bits)=1073741824 from by decide,Int.fdiv_eq_ediv_of_nonneg _ (by omega)]
theorem Ao6 (a:Int):Og .i64 a 1073741823=a % 1073741824:=by
 unfold Og
 have h1:(BitVec.ofInt 64 1073741823).toNat=2 ^ 30-1:=by decide
 have h2:(BitVec.ofInt 64 a).toNat=(a % 18446744073709551616).toNat:=by simp [BitVec.toNat_ofInt]
 have h3:(BitVec.ofInt IntKind.i64.bits a &&& BitVec.ofInt IntKind.i64.bits 1073741823).toNat=(a % 1073741824).toNat:=by
  show (BitVec.ofInt 64 a &&& BitVec.ofInt 64 1073741823).toNat=_
  rw [BitVec.toNat_and,h1,Nat.and_two_pow_sub_one_eq_mod,h2]
  omega
 rw [h3]
 show IntKind.wrap .i64 _=_
 rw [IntKind.wrap_i64]
 omega
def wval (w:Cp):Int:=w.high*1152921504606846976+w.middle*1073741824+w.low
structure Aja (w:Cp) (n z:Int):Prop where
 val:wval w=z
 high:-(n*288230376151711744)<=w.high/\w.high<=n*288230376151711744
 middle:-(n*1152921504606846976)<=w.middle/\w.middle<=n*1152921504606846976
 low:0<=w.low/\w.low<=n*1152921504606846976
theorem Ac3 {w:Cp} {n z a b:Int} (h:Aja w n z) (hn0:0<=n) (hn:n<=2) (ha1:-576460752303423488<=a) (ha2:a<=576460752303423488) (hb1:-576460752303423488<=b) (hb2:b<=576460752303423488) :
  ∃ w',Ec w a b=some w'/\Aja w' (n+1) (z+a*b):=by
 obtain ⟨h0,h1,h2,h3⟩:=h
 unfold Ec
 rw [Ao5,Ao5,Ao6,Ao6]
 have ea:a=a / 1073741824*1073741824+a % 1073741824:=by omega
 have eb:b=b / 1073741824*1073741824+b % 1073741824:=by omega
 have A1:-536870912<=a / 1073741824/\a / 1073741824<=536870912:=by omega
 have B1:-536870912<=b / 1073741824/\b / 1073741824<=536870912:=by omega
 have A0:0<=a % 1073741824/\a % 1073741824<=1073741824:=by omega
 have B0:0<=b % 1073741824/\b % 1073741824<=1073741824:=by omega
 generalize a / 1073741824=a1 at *
 generalize b / 1073741824=b1 at *
 generalize a % 1073741824=a0 at *
 generalize b % 1073741824=b0 at *
 have p1:=mulB (x:=a1) (y:=b1) (M:=536870912) (N:=536870912) (by omega) (by omega) (by omega) (by omega) (by omega)
 have p2:=mulB (x:=a1) (y:=b0) (M:=536870912) (N:=1073741824) (by omega) (by omega) (by omega) (by omega) (by omega)
 have p3:=mulB (x:=a0) (y:=b1) (M:=1073741824) (N:=536870912) (by omega) (by omega) (by omega) (by omega) (by omega)
 have p4:=mulB (x:=a0) (y:=b0) (M:=1073741824) (N:=1073741824) (by omega) (by omega) (by omega) (by omega) (by omega)
 have p5:0<=a0*b0:=Int.mul_nonneg A0.1 B0.1
 have e:a*b=a1*b1*1152921504606846976+(a1*b0+a0*b1)*1073741824+a0*b0:=by
  rw [ea,eb];grind
 rw [Bh (x:=a1*b1) (by omega) (by omega),Bh (x:=a1*b0) (by omega) (by omega),Bh (x:=a0*b1) (by omega) (by omega),Bh (x:=a0*b0) (by omega) (by omega),
  Bh (x:=w.high+a1*b1) (by omega) (by omega),Bh (x:=w.middle+a1*b0) (by omega) (by omega),Bh (by omega) (by omega),Bh (by omega) (by omega)]
 refine ⟨_,rfl,?_,?_,?_,?_⟩
 ·unfold wval at h0 ⊢
  simp only
  omega
 ·simp only;omega
 ·simp only;omega
 ·simp only;omega
theorem Ac4 (z:Int):Hm z=some (Int.sign z):=by
 unfold Hm
 by_cases h:z < 0
 ·rw [if_pos h,Int.sign_eq_neg_one_of_neg h]
 ·rw [if_neg h]
  by_cases h2:0 < z
  ·rw [if_pos h2,Int.sign_eq_one_of_pos h2]
  ·rw [if_neg h2,show z=0 by omega];rfl
theorem Amj {w:Cp} {z:Int} (h:Aja w 3 z):Hb w=some (Int.sign z):=by
 obtain ⟨h0,h1,h2,h3⟩:=h
 unfold Hb
 simp only [Ao5,Ao6]
 have e1:w.low=w.low / 1073741824*1073741824+w.low % 1073741824:=by omega
 rw [Bh (x:=w.middle+w.low / 1073741824) (by omega) (by omega)]
 have e2:w.middle+w.low / 1073741824=(w.middle+w.low / 1073741824) / 1073741824*1073741824+(w.middle+w.low / 1073741824) % 1073741824:=by omega
 unfold wval at h0
 have l0:0<=w.low % 1073741824/\w.low % 1073741824 < 1073741824:=by omega
 have m0:0<=(w.middle+w.low / 1073741824) % 1073741824/\(w.middle+w.low / 1073741824) % 1073741824 < 1073741824:=by omega
 have hb:-4611686018427387904<=w.high+(w.middle+w.low / 1073741824) / 1073741824/\w.high+(w.middle+w.low / 1073741824) / 1073741824<=4611686018427387904:=by omega
 have hz:z=(w.high+(w.middle+w.low / 1073741824) / 1073741824)*1152921504606846976+(w.middle+w.low / 1073741824) % 1073741824*1073741824+w.low % 1073741824:=by omega
 clear e1 e2 h0 h1 h2 h3
 rw [Bh (x:=w.high+(w.middle+w.low / 1073741824) / 1073741824) (by omega) (by omega)]
 generalize w.high+(w.middle+w.low / 1073741824) / 1073741824=H at *
 generalize (w.middle+w.low / 1073741824) % 1073741824=M at *
 generalize w.low % 1073741824=L at *
 by_cases c:H=0
 ·rw [if_pos c,Bh (by omega) (by omega),Ac4,Ad]
  congr 1
  by_cases c2:M+L=0
  ·rw [c2,show z=0 by omega]
  ·rw [Int.sign_eq_one_of_pos (by omega),Int.sign_eq_one_of_pos (by omega)]
 ·rw [if_neg c,Ac4,Ad]
  congr 1
  by_cases c2:H < 0
  ·rw [Int.sign_eq_neg_one_of_neg c2,Int.sign_eq_neg_one_of_neg (by omega)]
  ·rw [Int.sign_eq_one_of_pos (by omega),Int.sign_eq_one_of_pos (by omega)]
theorem Amk {a b c:Ac} (ha:okP a) (hb:okP b) (hc:okP c):Nk a b c=some (crs a b c):=Pk ha hb hc
theorem Pb {a b c:Ac} (ha:okP a) (hb:okP b) (hc:okP c):Co a b c=some (Int.sign (crs a b c)):=by
 unfold Co
 rw [Amk ha hb hc,Ad,Ac4,Ad]
theorem Ajb {a b c d:Ac} (ha:okP a) (hb:okP b) (hc:okP c) (hd:okP d):Jt a b c d=some (Int.sign (inC a b c d)):=by
 have l1:=Yq ha hd
 have l2:=Yq hb hd
 have l3:=Yq hc hd
 have c1:=Ll hd hb hc
 have c2:=Ll hd hc ha
 have c3:=Ll hd ha hb
 obtain ⟨w1,e1,i1⟩:=Ac3 (w:=⟨0,0,0⟩) (n:=0) (z:=0) (a:=lft a d) (b:=crs d b c) ⟨rfl,by simp,by simp,by simp⟩ (by omega) (by omega) (by omega) (by omega) (by omega) (by omega)
 obtain ⟨w2,e2,i2⟩:=Ac3 (a:=lft b d) (b:=crs d c a) i1 (by omega) (by omega) (by omega) (by omega) (by omega) (by omega)
 obtain ⟨w3,e3,i3⟩:=Ac3 (a:=lft c d) (b:=crs d a b) i2 (by omega) (by omega) (by omega) (by omega) (by omega) (by omega)
 have x1:w64 (w64 (w64 (a.X-d.X)*w64 (a.X-d.X))+w64 (w64 (a.Y-d.Y)*w64 (a.Y-d.Y)))=lft a d:=Option.some.inj (Xb ha hd)
 have x2:w64 (w64 (w64 (b.X-d.X)*w64 (b.X-d.X))+w64 (w64 (b.Y-d.Y)*w64 (b.Y-d.Y)))=lft b d:=Option.some.inj (Xb hb hd)
 have x3:w64 (w64 (w64 (c.X-d.X)*w64 (c.X-d.X))+w64 (w64 (c.Y-d.Y)*w64 (c.Y-d.Y)))=lft c d:=Option.some.inj (Xb hc hd)
 have y1:w64 (w64 (w64 (b.X-d.X)*w64 (c.Y-d.Y))-w64 (w64 (b.Y-d.Y)*w64 (c.X-d.X)))=crs d b c:=Option.some.inj (Pk hd hb hc)
 have y2:w64 (w64 (w64 (c.X-d.X)*w64 (a.Y-d.Y))-w64 (w64 (c.Y-d.Y)*w64 (a.X-d.X)))=crs d c a:=Option.some.inj (Pk hd hc ha)
 have y3:w64 (w64 (w64 (a.X-d.X)*w64 (b.Y-d.Y))-w64 (w64 (a.Y-d.Y)*w64 (b.X-d.X)))=crs d a b:=Option.some.inj (Pk hd ha hb)
 unfold Jt
 simp only [x1,x2,x3,y1,y2,y3,e1,Ad,e2,e3]
 rw [Amj (by simpa using i3),Ad]
 simp [inC]
def befP (p q:Ac):Prop:=p.X < q.X\/p.X=q.X/\p.Y < q.Y
instance (p q:Ac):Decidable (befP p q):=by unfold befP;infer_instance
def Bs (p q:Ac):Prop:=p.X=q.X/\p.Y=q.Y
instance (p q:Ac):Decidable (Bs p q):=by unfold Bs;infer_instance
theorem Zn {p q:Ac} (h:Bs p q):p=q:=by
 obtain ⟨x,y⟩:=p
 obtain ⟨x',y'⟩:=q
 obtain ⟨h1,h2⟩:=h
 simp only at h1 h2
 rw [h1,h2]
def Kd (a b:Ac):Ac:=if befP b a then b else a
theorem Ao7 (a b:Ac):Ef a b=some (decide (befP a b)):=by
 unfold Ef jn befP
 simp only
 by_cases h1:a.X < b.X
 ·simp [h1]
 ·by_cases h2:a.X=b.X
  ·simp [h2]
  ·simp [h1,h2]
theorem Ar2 (a:Ac):Fz a=some (decide (okP a)):=by
 unfold Fz
 rw [jn_d]
 by_cases h1:-268435456<=a.X
 ·rw [if_pos h1]
  by_cases h2:a.X<=268435456
  ·rw [if_pos h2]
   by_cases h3:-268435456<=a.Y
   ·rw [if_pos h3]
    by_cases h4:a.Y<=268435456
    ·rw [decide_eq_true h4,decide_eq_true (show okP a by unfold okP;omega)]
    ·rw [decide_eq_false h4,decide_eq_false (show ¬ okP a by unfold okP;omega)]
   ·rw [if_neg h3,decide_eq_false (show ¬ okP a by unfold okP;omega)]
  ·rw [if_neg h2,decide_eq_false (show ¬ okP a by unfold okP;omega)]
 ·rw [if_neg h1,decide_eq_false (show ¬ okP a by unfold okP;omega)]
theorem Ajc (B:(Int × Int × Int)->Option (Sum (Int × Int × Int) (Int × Int))) (p q r:Ac)
  (hB:∀ x y i,B (x,y,i)=if i < 3 then bnd (idx [p,q,r] i) fun z=>some (.inl ((Kd ⟨x,y⟩ z).X,(Kd ⟨x,y⟩ z).Y,w64 (i+1))) else some (.inr (x,y))) (x y:Int) :
  lfix B (x,y,0)=some ((Kd (Kd (Kd ⟨x,y⟩ p) q) r).X,(Kd (Kd (Kd ⟨x,y⟩ p) q) r).Y):=by
 have w1:w64 (0+1)=1:=Bh (by omega) (by omega)
 have w2:w64 (1+1)=2:=Bh (by omega) (by omega)
 have w3:w64 (2+1)=3:=Bh (by omega) (by omega)
 have i0:idx [p,q,r] 0=some p:=rfl
 have i1:idx [p,q,r] 1=some q:=rfl
 have i2:idx [p,q,r] 2=some r:=rfl
 rw [Br,hB,if_pos (by omega),i0,Ad,w1]
 simp only
 rw [Br,hB,if_pos (by omega),i1,Ad,w2]
 simp only
 rw [Br,hB,if_pos (by omega),i2,Ad,w3]
 simp only
 rw [Br,hB,if_neg (by omega)]
theorem Aml {a b c d:Ac} (h1:¬ Bs a c) (h2:¬ Bs a d) (h3:¬ Bs b c) (h4:¬ Bs b d) :
  (Bs (Kd (Kd (Kd a b) c) d) c\/Bs (Kd (Kd (Kd a b) c) d) d)↔((befP c a/\befP c b)\/(befP d a/\befP d b)):=by
 have key:∀ p q:Ac,(befP q p/\Kd p q=q)\/(¬ befP q p/\Kd p q=p):=fun p q=>by
  unfold Kd
  by_cases h:befP q p
  ·exact .inl ⟨h,if_pos h⟩
  ·exact .inr ⟨h,if_neg h⟩
 rcases key a b with ⟨k1,e1⟩ | ⟨k1,e1⟩ <;> rw [e1]
 ·rcases key b c with ⟨k2,e2⟩ | ⟨k2,e2⟩ <;> rw [e2]
  ·rcases key c d with ⟨k3,e3⟩ | ⟨k3,e3⟩ <;> rw [e3] <;> unfold Bs befP at * <;> omega
  ·rcases key b d with ⟨k3,e3⟩ | ⟨k3,e3⟩ <;> rw [e3] <;> unfold Bs befP at * <;> omega
 ·rcases key a c with ⟨k2,e2⟩ | ⟨k2,e2⟩ <;> rw [e2]
  ·rcases key c d with ⟨k3,e3⟩ | ⟨k3,e3⟩ <;> rw [e3] <;> unfold Bs befP at * <;> omega
  ·rcases key a d with ⟨k3,e3⟩ | ⟨k3,e3⟩ <;> rw [e3] <;> unfold Bs befP at * <;> omega
def legP (a b c d:Ac):Prop:=Int.sign (crs a b c)*Int.sign (inC a b c d) < 0\/Int.sign (crs a b c)*Int.sign (inC a b c d)=0/\((befP c a/\befP c b)\/(befP d a/\befP d b))
instance (a b c d:Ac):Decidable (legP a b c d):=by unfold legP;infer_instance
theorem Ou (a c:Ac):crs a c c=0:=by unfold crs;grind
theorem Bm (a b:Ac):crs a b a=0:=by unfold crs;grind
theorem Bg (a b:Ac):crs a b b=0:=by unfold crs;grind
theorem Tn (a b:Ac):crs a a b=0:=by unfold crs;grind
theorem Av (a b c:Ac):crs b a c = -crs a b c:=by unfold crs;grind
theorem Am (a b c:Ac):crs b c a=crs a b c:=by unfold crs;grind
theorem Ao8 {a b c d:Ac} (ha:okP a) (hb:okP b) (hc:okP c) (hd:okP d) (h1:¬ Bs a c) (h2:¬ Bs a d) (h3:¬ Bs b c) (h4:¬ Bs b d):Pw a b c d=some (decide (legP a b c d)):=by
 unfold Pw
 rw [Amy,if_pos ⟨ha,hb,hc,hd⟩,Ad]
 have e:(if crs a b c=0 then ((0:Int),(12:Int)) else (Int.sign (crs a b c)*Int.sign (inC a b c d),0)).1=Int.sign (crs a b c)*Int.sign (inC a b c d):=by
  split
  ·rename_i h;rw [h];simp
  ·rfl
 rw [e]
 by_cases h0:Int.sign (crs a b c)*Int.sign (inC a b c d)=0
 ·rw [if_pos h0,jn_d,Ajc _ b c d (fun x y i=>?_),Ad]
  ·dsimp only
   rw [jn_d]
   have hl:=Aml h1 h2 h3 h4
   by_cases hcc:Bs (Kd (Kd (Kd a b) c) d) c
   ·have:legP a b c d:=.inr ⟨h0,hl.1 (.inl hcc)⟩
    rw [if_pos (by simpa [Bs] using hcc),decide_eq_true this]
   ·rw [if_neg (by simpa [Bs] using hcc)]
    congr 1
    rw [Bool.eq_iff_iff]
    simp only [Bool.and_true,Bool.and_eq_true,beq_iff_eq,decide_eq_true_eq]
    unfold legP
    constructor
    ·intro h;exact .inr ⟨h0,hl.1 (.inr h)⟩
    ·rintro (h | ⟨_,h⟩)
     ·omega
     ·exact (hl.2 h).resolve_left hcc
  ·unfold Su
   simp only
   split
   ·refine congrArg (bnd _) (funext fun z=>?_)
    rw [Ao7,Ad]
    unfold Kd
    by_cases hb:befP z ⟨x,y⟩
    ·rw [if_pos (by simpa using hb),if_pos hb]
    ·rw [if_neg (by simpa using hb),if_neg hb]
   ·rfl
 ·rw [if_neg h0]
  congr 1
  rw [Bool.eq_iff_iff]
  simp only [decide_eq_true_eq]
  unfold legP
  constructor
  ·intro h;exact .inl h
  ·rintro (h | ⟨h,_⟩)
   ·exact h
   ·exact absurd h h0
theorem Aar {x y:Int}:Int.sign x*Int.sign y = -1↔(x < 0/\0 < y)\/(0 < x/\y < 0):=by
 rcases Int.lt_trichotomy x 0 with h | h | h <;> rcases Int.lt_trichotomy y 0 with h' | h' | h'
 all_goals first
  | (rw [Int.sign_eq_neg_one_of_neg h];try rw [Int.sign_eq_neg_one_of_neg h'])
  | (rw [Int.sign_eq_one_of_pos h];try rw [Int.sign_eq_neg_one_of_neg h'])
  | (rw [h])
 all_goals try rw [Int.sign_eq_one_of_pos h']
 all_goals try rw [h']
 all_goals simp
 all_goals omega
theorem Sk {x y:Int}:w64 (Int.sign x*Int.sign y)=Int.sign x*Int.sign y:=by
 apply Bh
 ·rcases Int.sign_trichotomy x with h | h | h <;> rcases Int.sign_trichotomy y with h' | h' | h' <;> simp [h,h']
 ·rcases Int.sign_trichotomy x with h | h | h <;> rcases Int.sign_trichotomy y with h' | h' | h' <;> simp [h,h']
theorem Af8 {x y:Int}:0<=Int.sign x*Int.sign y↔¬ Int.sign x*Int.sign y = -1:=by
 rcases Int.sign_trichotomy x with h | h | h <;> rcases Int.sign_trichotomy y with h' | h' | h' <;> simp [h,h']
theorem Af9 {a b c d:Ac} (h:Int.sign (crs a b c)*Int.sign (crs a b d) = -1):¬ Bs a c/\¬ Bs a d/\¬ Bs b c/\¬ Bs b d:=by
 rw [Aar] at h
 refine ⟨fun e=>?_,fun e=>?_,fun e=>?_,fun e=>?_⟩ <;> (have:=Zn e;subst this;simp only [Ou,Bm,Bg] at h;omega)
def Dt (ha hb hc hd:Int) (a b c d:Ac):Int:=ha*crs b c d+hb*crs c a d+hc*crs a b d-hd*crs a b c
def plt (ha hb hc:Int) (a b c x:Ac):Int:=ha*crs b c x+hb*crs c a x+hc*crs a b x
def sq (p:Ac):Int:=p.X*p.X+p.Y*p.Y
theorem Aui (a b c d:Ac):inC a b c d=Dt (sq a) (sq b) (sq c) (sq d) a b c d:=by unfold inC Dt lft sq crs;grind
theorem Aas (ha hb hc hd:Int) (a b c d:Ac):Dt ha hb hc hd a b c d=plt ha hb hc a b c d-hd*crs a b c:=rfl
theorem My (a b c d:Ac):crs a b c=crs b c d+crs c a d+crs a b d:=by unfold crs;grind
theorem Aga (a b c q r u:Ac):crs b c u*crs q r a+crs c a u*crs q r b+crs a b u*crs q r c=crs a b c*crs q r u:=by unfold crs;grind
theorem Yg (hp hq hr:Int) (a b c p q r u:Ac):crs b c u*plt hp hq hr p q r a+crs c a u*plt hp hq hr p q r b+crs a b u*plt hp hq hr p q r c=crs a b c*plt hp hq hr p q r u:=by
 have h1:=Aga a b c q r u
 have h2:=Aga a b c r p u
 have h3:=Aga a b c p q u
 unfold plt
 grind
theorem Om (ha hb hc hd:Int) (a b c d x:Ac):plt hb ha hd b a d x*crs a b c-plt ha hb hc a b c x*crs b a d=Dt ha hb hc hd a b c d*crs a b x:=by
 unfold plt Dt crs;grind
theorem Ar3 (ha hb hc hd:Int) (a b c d:Ac):Dt hb ha hc hd b a c d = -Dt ha hb hc hd a b c d:=by unfold Dt crs;grind
theorem Auj (ha hb hc hd:Int) (a b c d:Ac):Dt hb hc ha hd b c a d=Dt ha hb hc hd a b c d:=by unfold Dt crs;grind
theorem Ahn (ha hb hc hd:Int) (a b c d:Ac):Dt ha hb hd hc a b d c = -Dt ha hb hc hd a b c d:=by unfold Dt crs;grind
theorem Zo (ha hb hc:Int) (a b c x:Ac):plt hb hc ha b c a x=plt ha hb hc a b c x:=by unfold plt;grind
theorem Ao9 (ha hb hc:Int) (a b c:Ac):plt ha hb hc a b c a=ha*crs a b c:=by unfold plt crs;grind
theorem Aku (ha hb hc:Int) (a b c:Ac):plt ha hb hc a b c b=hb*crs a b c:=by unfold plt crs;grind
theorem Akv (ha hb hc:Int) (a b c:Ac):plt ha hb hc a b c c=hc*crs a b c:=by unfold plt crs;grind
theorem Auk (a b c d:Ac):inC a b c d=lft a b*crs b c d+lft c b*crs a b d-lft d b*crs a b c:=by unfold inC lft crs;grind
theorem Agb {p q:Ac} (h:¬ Bs p q):0 < lft p q:=by
 unfold lft
 have h1:0<=(p.X-q.X)*(p.X-q.X):=by rw [<- Int.natAbs_mul_self];omega
 have h2:0<=(p.Y-q.Y)*(p.Y-q.Y):=by rw [<- Int.natAbs_mul_self];omega
 by_cases hx:p.X=q.X
 ·have hy:p.Y-q.Y≠0:=fun e=>h ⟨hx,by omega⟩
  have:0 < (p.Y-q.Y)*(p.Y-q.Y):=by
   rcases Int.lt_or_gt_of_ne hy with g | g
   ·exact Int.mul_pos_of_neg_of_neg g g
   ·exact Int.mul_pos g g
  omega
 ·have hx':p.X-q.X≠0:=by omega
  have:0 < (p.X-q.X)*(p.X-q.X):=by
   rcases Int.lt_or_gt_of_ne hx' with g | g
   ·exact Int.mul_pos_of_neg_of_neg g g
   ·exact Int.mul_pos g g
  omega
theorem Ur (p q:Ac):0<=lft p q:=by
 unfold lft
 have h1:0<=(p.X-q.X)*(p.X-q.X):=by rw [<- Int.natAbs_mul_self];omega
 have h2:0<=(p.Y-q.Y)*(p.Y-q.Y):=by rw [<- Int.natAbs_mul_self];omega
 omega
theorem Ac5 {a b c d:Ac} (h1:0 < crs a b c) (h2:crs a b d < 0) (h3:crs b c d<=0):inC a b c d < 0:=by
 have hd:¬ Bs d b:=fun e=>by
  have:=Zn e
  subst this
  simp only [Bg] at h2
  omega
 rw [Auk]
 have e1:lft a b*crs b c d<=0:=Int.mul_nonpos_of_nonneg_of_nonpos (Ur a b) h3
 have e2:lft c b*crs a b d<=0:=Int.mul_nonpos_of_nonneg_of_nonpos (Ur c b) (by omega)
 have e3:0 < lft d b*crs a b c:=Int.mul_pos (Agb hd) h1
 omega
theorem Vv {a b c d:Ac} (h1:0 < crs a b c) (h2:crs a b d < 0) (h3:crs c a d<=0):inC a b c d < 0:=by
 have e:inC a b c d=lft b a*crs c a d+lft c a*crs a b d-lft d a*crs a b c:=by unfold inC lft crs;grind
 have hd:¬ Bs d a:=fun e=>by
  have:=Zn e
  subst this
  simp only [Bm] at h2
  omega
 rw [e]
 have e1:lft b a*crs c a d<=0:=Int.mul_nonpos_of_nonneg_of_nonpos (Ur b a) h3
 have e2:lft c a*crs a b d<=0:=Int.mul_nonpos_of_nonneg_of_nonpos (Ur c a) (by omega)
 have e3:0 < lft d a*crs a b c:=Int.mul_pos (Agb hd) h1
 omega
def ph (α β:Int) (p:Ac):Int:=α*p.X+β*p.Y
theorem Awo (α β:Int) (a b c d:Ac):(ph α β b-ph α β a)*crs a c d+(ph α β c-ph α β a)*crs a d b+(ph α β d-ph α β a)*crs a b c=0:=by unfold ph crs;grind
section
variable {α β:Int}
theorem Ac6 {x y:Int} (hx:0 < x) (h:0 < x*y):0 < y:=by
 rcases Int.lt_trichotomy y 0 with g | g | g
 ·have:=Int.mul_neg_of_pos_of_neg hx g;omega
 ·subst g;simp at h
 ·exact g
theorem Qg {x y:Int} (hx:0 < x) (h:0<=x*y):0<=y:=by
 rcases Int.lt_or_le y 0 with g | g
 ·have:=Int.mul_neg_of_pos_of_neg hx g;omega
 ·exact g
end
section
variable (P:Int->Ac) (α β:Int)
def Sup (D:List Int) (a b:Int):Prop:=ph α β (P a) < ph α β (P b)/\∀ k∈D,0 < crs (P a) (P b) (P k)\/(crs (P a) (P b) (P k)=0/\ph α β (P a)<=ph α β (P k)/\ph α β (P k)<=ph α β (P b))
def Atn (Q:Int->Int->Prop):List Int->Prop
 | b::a::r=>Q a b/\Atn Q (a::r)
 | _=>True
structure ChainC (f:Int) (D s:List Int):Prop where
 sub:∀ x∈s,x∈D
 edge:Atn (Sup P α β D) s
 bot:∃ r,s=r++[f]
 low:∀ k∈D,k=f\/ph α β (P f) < ph α β (P k)
variable {P α β}
end
theorem Us {a b c x y z:Int} (hx:0 < x) (hy:0 < y) (hz:0 < z) (h1:a*y < b*x) (h2:b*z < c*y):a*z < c*x:=by
 have h3:=Int.mul_lt_mul_of_pos_right h1 hz
 have h4:=Int.mul_lt_mul_of_pos_right h2 hx
 have h5:y*(a*z) < y*(c*x):=by
  have e1:y*(a*z)=a*y*z:=by grind
  have e2:b*x*z=b*z*x:=by grind
  have e3:y*(c*x)=c*y*x:=by grind
  rw [e1,e3]
  rw [e2] at h3
  exact Int.lt_trans h3 h4
 exact Int.lt_of_mul_lt_mul_left h5 (Int.le_of_lt hy)
theorem To {α:Type} {p q:α->Bool} {x:α}:∀ {l:List α},(∀ y∈l,p y=true->q y=true)->x∈l->q x=true->p x=false->l.countP p < l.countP q
 | [],_,hx,_,_=>by cases hx
 | y::r,h',hx,hq,hp=>by
  have h:=h' y List.mem_cons_self
  have h2:∀ z∈r,p z=true->q z=true:=fun z hz=>h' z (List.mem_cons_of_mem _ hz)
  have hle:r.countP p<=r.countP q:=List.countP_mono_left h2
  rw [List.countP_cons,List.countP_cons]
  rcases List.mem_cons.1 hx with rfl | hx
  ·rw [hq,hp];simp;omega
  ·have:=To h2 hx hq hp
   by_cases c:p y=true
   ·rw [if_pos c,if_pos (h c)];omega
   ·rw [if_neg c];split <;> omega
def c3 (a b p q r:Ac):Int:=crs a b p+crs a b q+crs a b r
def p3 (ha hb hc:Int) (a b c p q r:Ac):Int:=plt ha hb hc a b c p+plt ha hb hc a b c q+plt ha hb hc a b c r
theorem Amm (ha hb hc hd:Int) (a b c d p q r:Ac):p3 hb ha hd b a d p q r*crs a b c-p3 ha hb hc a b c p q r*crs b a d=Dt ha hb hc hd a b c d*c3 a b p q r:=by
 have h1:=Om ha hb hc hd a b c d p
 have h2:=Om ha hb hc hd a b c d q
 have h3:=Om ha hb hc hd a b c d r
 unfold p3 c3
 grind
theorem Apa (ha hb hc:Int) (a b c p q r:Ac):p3 hb hc ha b c a p q r=p3 ha hb hc a b c p q r:=by unfold p3;rw [Zo ha hb hc a b c p,Zo ha hb hc a b c q,Zo ha hb hc a b c r]
abbrev T3:=Int × Int × Int
variable {P:Int->Ac} {H:Int->Int}
def Tp (P:Int->Ac) (t:T3):Int:=crs (P t.1) (P t.2.1) (P t.2.2)
def hgt3 (P:Int->Ac) (H:Int->Int) (t:T3) (p q r:Ac):Int:=p3 (H t.1) (H t.2.1) (H t.2.2) (P t.1) (P t.2.1) (P t.2.2) p q r
def Vf (P:Int->Ac) (H:Int->Int) (p q r:Ac) (t s:T3):Prop:=hgt3 P H t p q r*Tp P s < hgt3 P H s p q r*Tp P t
instance (p q r:Ac) (t s:T3):Decidable (Vf P H p q r t s):=by unfold Vf;infer_instance
def DH (P:Int->Ac) (H:Int->Int) (a b c d:Int):Int:=Dt (H a) (H b) (H c) (H d) (P a) (P b) (P c) (P d)
structure Yh (P:Int->Ac) (X:List T3):Prop where
 rot:∀ a b c,(a,b,c)∈X->(b,c,a)∈X
 ccw:∀ a b c,(a,b,c)∈X->0 < crs (P a) (P b) (P c)
theorem walk {X:List T3} (hX:Yh P X) (p q r:Ac) (step:∀ a b c,(a,b,c)∈X->c3 (P a) (P b) p q r < 0->∃ d,(b,a,d)∈X/\DH P H a b c d < 0) :
  ∀ t∈X,∃ s∈X,0<=c3 (P s.1) (P s.2.1) p q r/\0<=c3 (P s.2.1) (P s.2.2) p q r/\0<=c3 (P s.2.2) (P s.1) p q r/\(s=t\/Vf P H p q r t s):=by
 have key:∀ (n:Nat) (t:T3),t∈X->X.countP (fun s=>decide (Vf P H p q r t s))=n->∃ s∈X,0<=c3 (P s.1) (P s.2.1) p q r/\0<=c3 (P s.2.1) (P s.2.2) p q r/\0<=c3 (P s.2.2) (P s.1) p q r/\(s=t\/Vf P H p q r t s):=by
  intro n
  induction n using Nat.strongRecOn with
  | ind n ih =>
   intro t ht hn
   have go:∀ t':T3,t'∈X->hgt3 P H t' p q r=hgt3 P H t p q r->Tp P t'=Tp P t->c3 (P t'.1) (P t'.2.1) p q r < 0 ->
     ∃ s∈X,0<=c3 (P s.1) (P s.2.1) p q r/\0<=c3 (P s.2.1) (P s.2.2) p q r/\0<=c3 (P s.2.2) (P s.1) p q r/\(s=t\/Vf P H p q r t s):=by
    rintro ⟨a,b,c⟩ h1 h2 h3 h4
    obtain ⟨d,h5,h6⟩:=step a b c h1 h4
    have hb:Vf P H p q r t (b,a,d):=by
     unfold Vf
     rw [<- h2,<- h3]
     have e:=Amm (H a) (H b) (H c) (H d) (P a) (P b) (P c) (P d) p q r
     have:0 < Dt (H a) (H b) (H c) (H d) (P a) (P b) (P c) (P d)*c3 (P a) (P b) p q r:=Int.mul_pos_of_neg_of_neg h6 h4
     show p3 _ _ _ _ _ _ p q r*crs _ _ _ < p3 _ _ _ _ _ _ p q r*crs _ _ _
     simp only
     omega
    have hpos:∀ u∈X,0 < Tp P u:=fun u hu=>hX.ccw u.1 u.2.1 u.2.2 hu
    have hlt:X.countP (fun s=>decide (Vf P H p q r (b,a,d) s)) < n:=by
     rw [<- hn]
     refine To (x:=(b,a,d)) (fun y hy hb2=>?_) h5 (by simpa using hb) (by simp [Vf])
     rw [decide_eq_true_eq] at hb2 ⊢
     exact Us (hpos t ht) (hpos _ h5) (hpos y hy) hb hb2
    obtain ⟨s,k1,k2,k3,k4,k5⟩:=ih _ hlt (b,a,d) h5 rfl
    refine ⟨s,k1,k2,k3,k4,.inr ?_⟩
    rcases k5 with rfl | k5
    ·exact hb
    ·exact Us (hpos t ht) (hpos _ h5) (hpos s k1) hb k5
   obtain ⟨a,b,c⟩:=t
   by_cases g1:c3 (P a) (P b) p q r < 0
   ·exact go (a,b,c) ht rfl rfl g1
   ·by_cases g2:c3 (P b) (P c) p q r < 0
    ·exact go (b,c,a) (hX.rot _ _ _ ht) (Apa _ _ _ _ _ _ _ _ _) (Am _ _ _) g2
    ·by_cases g3:c3 (P c) (P a) p q r < 0
     ·exact go (c,a,b) (hX.rot _ _ _ (hX.rot _ _ _ ht)) (by unfold hgt3;rw [<- Apa]) (by unfold Tp;rw [<- Am]) g3
     ·exact ⟨(a,b,c),ht,by simp only;omega,by simp only;omega,by simp only;omega,.inl rfl⟩
 exact fun t ht=>key _ t ht rfl
end Go.Proofs.YtoojmkhjdjianaaGreat
