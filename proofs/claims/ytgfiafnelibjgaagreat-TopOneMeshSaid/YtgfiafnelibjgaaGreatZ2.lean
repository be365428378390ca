/- Turns and circles of the program, exactly. -/
import Derived.Test.YtgfiafnelibjgaaGreatZ1
namespace Go.Proofs.YtgfiafnelibjgaaGreat
open Go Go.RowKit
/-- The number that a value stands for. -/
structure Uk (n:Bp) (z:Int):Prop where
 num:n.n=L32 z.natAbs
 den:n.d=[1]
 neg:z≠0→n.neg=decide (z < 0)
theorem Uk.eq {n:Bp} {z:Int} (h:Uk n z):n=⟨n.neg,L32 z.natAbs,[1]⟩:=by
 obtain ⟨s,a,d⟩:=n
 obtain ⟨h1,h2,h3⟩:=h
 simp only at h1 h2
 subst h1;subst h2;rfl
theorem Za (x:Int):wu64 x=x % 18446744073709551616:=by
 unfold wu64
 rw [IntKind.wrap_u64]
theorem Amv {z:Int} (h1:-9223372036854775808≤z) (h2:z≤9223372036854775807):∃ n,Ig z=some n∧Uk n z:=by
 unfold Ig
 by_cases h:z < 0
 ·rw [if_pos h]
  have e:wu64 ((wu64 (w64 (-(w64 (z+1)))))+1)=((z.natAbs:Nat):Int):=by
   rw [Dl (x:=z+1) (by omega) (by omega),Dl (by omega) (by omega),Za,Za]
   omega
  rw [e,Aj1 (by omega)]
  exact ⟨_,rfl,rfl,rfl,fun _=>by simp [h]⟩
 ·rw [if_neg h]
  have e:wu64 z=((z.natAbs:Nat):Int):=by rw [Za];omega
  rw [e,Aj1 (by omega)]
  exact ⟨_,rfl,rfl,rfl,fun _=>by simp [h]⟩
theorem Ar6 {a b:Bp} {x y:Int} (ha:Uk a x) (hb:Uk b y) (h:(dig 4294967296 x.natAbs).length+(dig 4294967296 y.natAbs).length≤1000000):∃ n,Hy a b=some n∧Uk n (x*y):=by
 unfold Hy
 rw [ha.num,hb.num,ha.den,hb.den,As9 h,Ai,Aj0,Ai]
 refine ⟨_,rfl,by simp [Int.natAbs_mul],rfl,fun h0=>?_⟩
 have hx:x≠0:=fun e=>h0 (by rw [e,Int.zero_mul])
 have hy:y≠0:=fun e=>h0 (by rw [e,Int.mul_zero])
 simp only
 rw [ha.neg hx,hb.neg hy]
 rcases Int.lt_or_gt_of_ne hx with h1 | h1 <;> rcases Int.lt_or_gt_of_ne hy with h2 | h2
 ·have:=Int.mul_pos_of_neg_of_neg h1 h2
  simp [h1,h2];omega
 ·have:=Int.mul_neg_of_neg_of_pos h1 h2
  rw [decide_eq_true h1,decide_eq_false (by omega),decide_eq_true this];rfl
 ·have:=Int.mul_neg_of_pos_of_neg h1 h2
  rw [decide_eq_false (by omega),decide_eq_true h2,decide_eq_true this];rfl
 ·have:=Int.mul_pos h1 h2
  rw [decide_eq_false (by omega),decide_eq_false (by omega),decide_eq_false (by omega)];rfl
theorem Amw {a b:Bp} {x y:Int} (ha:Uk a x) (hb:Uk b y) (hx:(dig 4294967296 x.natAbs).length≤1000) (hy:(dig 4294967296 y.natAbs).length≤1000):∃ n,Ku a b=some n∧Uk n (x+y):=by
 have e1:=ha.neg
 have e2:=hb.neg
 unfold Ku
 rw [ha.num,hb.num,ha.den,hb.den,Aic _ hx,Ai,Aic _ hy,Ai,Aj0,Ai]
 generalize a.neg=s at *
 generalize b.neg=t at *
 have f1:x≠0→(s=true↔x < 0):=fun h=>by rw [e1 h];simp
 have f2:y≠0→(t=true↔y < 0):=fun h=>by rw [e2 h];simp
 clear e1 e2
 by_cases hs:s=t
 ·subst hs
  rw [if_pos (by simp),As8 (by omega) (by omega),Ai]
  have:x.natAbs+y.natAbs=(x+y).natAbs:=by
   cases s <;> simp at f1 f2 <;> omega
  rw [this]
  refine ⟨_,rfl,rfl,rfl,fun h0=>?_⟩
  simp only
  cases s <;> simp at f1 f2 ⊢ <;> omega
 ·rw [if_neg (by simpa using hs),As4 _ _ (by omega),Ai]
  by_cases hc:y.natAbs≤x.natAbs
  ·rw [if_pos (by unfold cmpN;split <;> (try split) <;> omega),Aoj (by omega) hc,Ai]
   have:x.natAbs-y.natAbs=(x+y).natAbs:=by
    cases s <;> cases t <;> simp at f1 f2 hs <;> omega
   rw [this]
   refine ⟨_,rfl,rfl,rfl,fun h0=>?_⟩
   simp only
   cases s <;> cases t <;> simp at f1 f2 hs ⊢ <;> omega
  ·rw [if_neg (by unfold cmpN;split <;> (try split) <;> omega),Aoj (by omega) (by omega),Ai]
   have:y.natAbs-x.natAbs=(x+y).natAbs:=by
    cases s <;> cases t <;> simp at f1 f2 hs <;> omega
   rw [this]
   refine ⟨_,rfl,rfl,rfl,fun h0=>?_⟩
   simp only
   cases s <;> cases t <;> simp at f1 f2 hs ⊢ <;> omega
theorem Ap0 {n:Bp} {z:Int} (h:Uk n z):Ju n=some (Int.sign z):=by
 rw [h.eq]
 exact Ata h.neg
theorem mulB {x y M N:Int} (hM:0≤M) (hx1:-M≤x) (hx2:x≤M) (hy1:-N≤y) (hy2:y≤N):-(M*N)≤x*y∧x*y≤M*N:=by
 have h:(x*y).natAbs≤M.natAbs*N.natAbs:=by
  rw [Int.natAbs_mul]
  exact Nat.mul_le_mul (by omega) (by omega)
 rw [← Int.natAbs_mul] at h
 have:0≤M*N:=Int.mul_nonneg hM (by omega)
 omega
/-! ### places -/
def okP (p:Ac):Prop:=-268435456≤p.X∧p.X≤268435456∧-268435456≤p.Y∧p.Y≤268435456
instance (p:Ac):Decidable (okP p):=by unfold okP;infer_instance
def crs (a b c:Ac):Int:=(b.X-a.X)*(c.Y-a.Y)-(b.Y-a.Y)*(c.X-a.X)
def lft (p d:Ac):Int:=(p.X-d.X)*(p.X-d.X)+(p.Y-d.Y)*(p.Y-d.Y)
def inC (a b c d:Ac):Int:=lft a d*crs d b c+lft b d*crs d c a+lft c d*crs d a b
theorem Adn (l:List Ac) (hl:l.length≤1000000):Lt l=some (l.all fun p=>decide (okP p)):=by
 unfold Lt
 rw [jn_d]
 have step:∀ i (hi:i < l.length),Jb l (i:Int)=if okP l[i] then some (.inl (((i+1:Nat):Int))) else some (.inr (.inr false)):=by
  intro i hi
  unfold Jb
  rw [if_pos (by omega),Bg hi,Ai,jn_d,Bj (by omega)]
  by_cases h1:l[i].X < -268435456
  ·rw [if_pos h1,if_neg (show ¬ okP l[i] by unfold okP;omega)];rfl
  ·rw [if_neg h1]
   by_cases h2:268435456 < l[i].X
   ·rw [if_pos h2,if_neg (show ¬ okP l[i] by unfold okP;omega)];rfl
   ·rw [if_neg h2]
    by_cases h3:l[i].Y < -268435456
    ·rw [if_pos h3,if_neg (show ¬ okP l[i] by unfold okP;omega)];rfl
    ·rw [if_neg h3]
     by_cases h4:268435456 < l[i].Y
     ·rw [decide_eq_true h4,if_neg (show ¬ okP l[i] by unfold okP;omega)];rfl
     ·rw [decide_eq_false h4,if_pos (show okP l[i] by unfold okP;omega)];rfl
 have key:∀ k i,k+i=l.length→lfix (Jb l) (i:Int)=some (if (l.drop i).all (fun p=>decide (okP p)) then .inl () else .inr false):=by
  intro k
  induction k with
  | zero =>
   intro i hi
   rw [Gh]
   unfold Jb
   rw [if_neg (by omega),List.drop_eq_nil_of_le (by omega)]
   rfl
  | succ k ih =>
   intro i hi
   have hlt:i < l.length:=by omega
   rw [Gh,step i hlt,List.drop_eq_getElem_cons hlt,List.all_cons]
   by_cases h:okP l[i]
   ·rw [if_pos h]
    simp only [h,decide_true,Bool.true_and]
    exact ih (i+1) (by omega)
   ·rw [if_neg h]
    simp [h]
 have:=key l.length 0 (by omega)
 rw [show ((0:Nat):Int)=0 from rfl] at this
 rw [this,List.drop_zero]
 by_cases h:l.all (fun p=>decide (okP p))=true
 ·rw [h];rfl
 ·rw [Bool.not_eq_true] at h;rw [h];rfl
theorem Ly {a b c:Ac} (ha:okP a) (hb:okP b) (hc:okP c):-576460752303423488≤crs a b c∧crs a b c≤576460752303423488:=by
 unfold okP at ha hb hc
 have h1:=mulB (x:=b.X-a.X) (y:=c.Y-a.Y) (M:=536870912) (N:=536870912) (by omega) (by omega) (by omega) (by omega) (by omega)
 have h2:=mulB (x:=b.Y-a.Y) (y:=c.X-a.X) (M:=536870912) (N:=536870912) (by omega) (by omega) (by omega) (by omega) (by omega)
 unfold crs
 omega
theorem Rx {a b c:Ac} (ha:okP a) (hb:okP b) (hc:okP c):Jf a b c=some (crs a b c):=by
 have h0:=Ly ha hb hc
 unfold okP at ha hb hc
 have h1:=mulB (x:=b.X-a.X) (y:=c.Y-a.Y) (M:=536870912) (N:=536870912) (by omega) (by omega) (by omega) (by omega) (by omega)
 have h2:=mulB (x:=b.Y-a.Y) (y:=c.X-a.X) (M:=536870912) (N:=536870912) (by omega) (by omega) (by omega) (by omega) (by omega)
 unfold Jf
 unfold crs at h0 ⊢
 rw [Dl (x:=b.X-a.X) (by omega) (by omega),Dl (x:=c.Y-a.Y) (by omega) (by omega),Dl (x:=b.Y-a.Y) (by omega) (by omega),Dl (x:=c.X-a.X) (by omega) (by omega),
  Dl (x:=(b.X-a.X)*(c.Y-a.Y)) (by omega) (by omega),Dl (x:=(b.Y-a.Y)*(c.X-a.X)) (by omega) (by omega),Dl (by omega) (by omega)]
theorem Aei {p d:Ac} (hp:okP p) (hd:okP d):0≤lft p d∧lft p d≤576460752303423488:=by
 unfold okP at hp hd
 have h1:=mulB (x:=p.X-d.X) (y:=p.X-d.X) (M:=536870912) (N:=536870912) (by omega) (by omega) (by omega) (by omega) (by omega)
 have h2:=mulB (x:=p.Y-d.Y) (y:=p.Y-d.Y) (M:=536870912) (N:=536870912) (by omega) (by omega) (by omega) (by omega) (by omega)
 have h3:0≤(p.X-d.X)*(p.X-d.X):=by rw [← Int.natAbs_mul_self];omega
 have h4:0≤(p.Y-d.Y)*(p.Y-d.Y):=by rw [← Int.natAbs_mul_self];omega
 unfold lft
 omega
theorem Aej {p d:Ac} (hp:okP p) (hd:okP d):Ml p d=some (lft p d):=by
 have h0:=Aei hp hd
 unfold okP at hp hd
 have h1:=mulB (x:=p.X-d.X) (y:=p.X-d.X) (M:=536870912) (N:=536870912) (by omega) (by omega) (by omega) (by omega) (by omega)
 have h2:=mulB (x:=p.Y-d.Y) (y:=p.Y-d.Y) (M:=536870912) (N:=536870912) (by omega) (by omega) (by omega) (by omega) (by omega)
 unfold Ml
 unfold lft at h0 ⊢
 rw [Dl (x:=p.X-d.X) (by omega) (by omega),Dl (x:=p.Y-d.Y) (by omega) (by omega),
  Dl (x:=(p.X-d.X)*(p.X-d.X)) (by omega) (by omega),Dl (x:=(p.Y-d.Y)*(p.Y-d.Y)) (by omega) (by omega),Dl (by omega) (by omega)]
theorem Af2 (z:Int):Jc z=some (Int.sign z):=by
 unfold Jc
 by_cases h:z < 0
 ·rw [if_pos h,Int.sign_eq_neg_one_of_neg h]
 ·rw [if_neg h]
  by_cases h2:0 < z
  ·rw [if_pos h2,Int.sign_eq_one_of_pos h2]
  ·rw [if_neg h2,show z=0 by omega];rfl
theorem Ai6 (a b c:Ac):Oe a b c=some (if okP a∧okP b∧okP c then (Int.sign (crs a b c),0) else (0,11)):=by
 unfold Oe
 rw [Adn _ (by simp),Ai]
 by_cases h:okP a∧okP b∧okP c
 ·rw [if_pos (by simp [h]),Rx h.1 h.2.1 h.2.2,Ai,Af2,Ai,if_pos h]
 ·rw [if_neg (by simpa [and_assoc] using h),if_neg h]
theorem Oq {a b c:Ac} (ha:okP a) (hb:okP b) (hc:okP c):Gq a b c=some (Int.sign (crs a b c)):=by
 unfold Gq
 rw [Ai6,if_pos ⟨ha,hb,hc⟩]
 rfl
theorem dig3 {z:Int} (h1:-9223372036854775808≤z) (h2:z≤9223372036854775807):(dig 4294967296 z.natAbs).length≤2:=Ai9 (by omega) 2 _ (by
 have:(4294967296:Nat) ^ 2=18446744073709551616:=by decide
 omega)
theorem dig5 {z:Int} (h1:-10000000000000000000000000000000000000≤z) (h2:z≤10000000000000000000000000000000000000):(dig 4294967296 z.natAbs).length≤4:=Ai9 (by omega) 4 _ (by
 have:(4294967296:Nat) ^ 4=340282366920938463463374607431768211456:=by decide
 omega)
theorem Aek {u v:Int} (hu1:-576460752303423488≤u) (hu2:u≤576460752303423488) (hv1:-576460752303423488≤v) (hv2:v≤576460752303423488) :
  ∃ n m k,Ig u=some n∧Ig v=some m∧Hy n m=some k∧Uk k (u*v)∧-332306998946228968225951765070086144≤u*v∧u*v≤332306998946228968225951765070086144:=by
 obtain ⟨n,h1,h2⟩:=Amv (z:=u) (by omega) (by omega)
 obtain ⟨m,h3,h4⟩:=Amv (z:=v) (by omega) (by omega)
 have d1:=dig3 (z:=u) (by omega) (by omega)
 have d2:=dig3 (z:=v) (by omega) (by omega)
 obtain ⟨k,h5,h6⟩:=Ar6 h2 h4 (by omega)
 have:=mulB (x:=u) (y:=v) (M:=576460752303423488) (N:=576460752303423488) (by omega) (by omega) (by omega) (by omega) (by omega)
 exact ⟨n,m,k,h1,h3,h5,h6,by omega,by omega⟩
theorem Akr (a b c d:Ac):Nd a b c d=some (if okP a∧okP b∧okP c∧okP d then if crs a b c=0 then (0,12) else (Int.sign (crs a b c)*Int.sign (inC a b c d),0) else (0,11)):=by
 unfold Nd
 rw [Adn _ (by simp),Ai]
 by_cases h:okP a∧okP b∧okP c∧okP d
 ·obtain ⟨ha,hb,hc,hd⟩:=h
  rw [if_pos (by simp [ha,hb,hc,hd]),if_pos ⟨ha,hb,hc,hd⟩,Rx ha hb hc,Ai,Af2,Ai]
  by_cases h0:crs a b c=0
  ·rw [if_pos (by rw [h0];rfl),if_pos h0]
  ·rw [if_neg (by rwa [Int.sign_eq_zero_iff_zero]),if_neg h0]
   try rw [jn_d]
   have l1:=Aei ha hd
   have l2:=Aei hb hd
   have l3:=Aei hc hd
   have c1:=Ly hd hb hc
   have c2:=Ly hd hc ha
   have c3:=Ly hd ha hb
   obtain ⟨n1,m1,k1,e1,e2,e3,i1,b1,b2⟩:=Aek (u:=lft a d) (v:=crs d b c) (by omega) (by omega) (by omega) (by omega)
   obtain ⟨n2,m2,k2,e4,e5,e6,i2,b3,b4⟩:=Aek (u:=lft b d) (v:=crs d c a) (by omega) (by omega) (by omega) (by omega)
   obtain ⟨n3,m3,k3,e7,e8,e9,i3,b5,b6⟩:=Aek (u:=lft c d) (v:=crs d a b) (by omega) (by omega) (by omega) (by omega)
   have q1:=dig5 (z:=lft a d*crs d b c) (by omega) (by omega)
   have q2:=dig5 (z:=lft b d*crs d c a) (by omega) (by omega)
   have q3:=dig5 (z:=lft c d*crs d a b) (by omega) (by omega)
   have q4:=dig5 (z:=lft a d*crs d b c+lft b d*crs d c a) (by omega) (by omega)
   obtain ⟨s1,f1,g1⟩:=Amw i1 i2 (by omega) (by omega)
   obtain ⟨s2,f2,g2⟩:=Amw g1 i3 (by omega) (by omega)
   simp only [Aej ha hd,Aej hb hd,Aej hc hd,Rx hd hb hc,Rx hd hc ha,Rx hd ha hb,Ai,e1,e2,e3,e4,e5,e6,e7,e8,e9]
   try rw [show (⟨k1.neg,k1.n,k1.d⟩:Bp)=k1 from rfl]
   rw [f1,Ai,f2,Ai,Ap0 g2,Ai,Dl]
   ·rfl
   ·rcases Int.sign_trichotomy (crs a b c) with h | h | h <;> rcases Int.sign_trichotomy (lft a d*crs d b c+lft b d*crs d c a+lft c d*crs d a b) with h' | h' | h' <;> simp [h,h']
   ·rcases Int.sign_trichotomy (crs a b c) with h | h | h <;> rcases Int.sign_trichotomy (lft a d*crs d b c+lft b d*crs d c a+lft c d*crs d a b) with h' | h' | h' <;> simp [h,h']
 ·rw [if_neg (by simpa [and_assoc] using h),if_neg h]
end Go.Proofs.YtgfiafnelibjgaaGreat
