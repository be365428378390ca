/- Turns and circles of the program, exactly. -/
import Derived.Test.YtbkobeeileemjaaGreatZ1
import Derived.Test.YtbkobeeileemjaaGreatD5
namespace Go.Proofs.YtbkobeeileemjaaGreat
open Go Go.RowKit
/-- The number that a value stands for. -/
structure Aae (n:By) (z:Int):Prop where
 num:n.n=L32 z.natAbs
 den:n.d=[1]
 neg:z≠0→n.neg=decide (z < 0)
theorem Aae.eq {n:By} {z:Int} (h:Aae n z):n=⟨n.neg,L32 z.natAbs,[1]⟩:=by
 obtain ⟨s,a,d⟩:=n
 obtain ⟨h1,h2,h3⟩:=h
 simp only at h1 h2
 subst h1;subst h2;rfl
theorem Aom (x:Int):wu64 x=x % 18446744073709551616:=by
 unfold wu64
 rw [IntKind.wrap_u64]
theorem Avb {z:Int} (h1:-9223372036854775808≤z) (h2:z≤9223372036854775807):∃ n,Jl z=some n∧Aae n z:=by
 unfold Jl
 by_cases h:z < 0
 ·rw [if_pos h]
  have e:wu64 ((wu64 (w64 (-(w64 (z+1)))))+1)=((z.natAbs:Nat):Int):=by
   rw [Bp (x:=z+1) (by omega) (by omega),Bp (by omega) (by omega),Aom,Aom]
   omega
  rw [e,Aps (by omega)]
  exact ⟨_,rfl,rfl,rfl,fun _=>by simp [h]⟩
 ·rw [if_neg h]
  have e:wu64 z=((z.natAbs:Nat):Int):=by rw [Aom];omega
  rw [e,Aps (by omega)]
  exact ⟨_,rfl,rfl,rfl,fun _=>by simp [h]⟩
theorem Azm {a b:By} {x y:Int} (ha:Aae a x) (hb:Aae b y) (h:(dig 4294967296 x.natAbs).length+(dig 4294967296 y.natAbs).length≤1000000):∃ n,Hq a b=some n∧Aae n (x*y):=by
 unfold Hq
 rw [ha.num,hb.num,ha.den,hb.den,Aza h,Ah,Apr,Ah]
 refine ⟨_,rfl,by simp [Int.natAbs_mul],rfl,fun h0=>?_⟩
 have hx:x≠0:=fun e=>h0 (by rw [e,Int.zero_mul])
 have hy:y≠0:=fun e=>h0 (by rw [e,Int.mul_zero])
 simp only
 rw [ha.neg hx,hb.neg hy]
 rcases Int.lt_or_gt_of_ne hx with h1 | h1 <;> rcases Int.lt_or_gt_of_ne hy with h2 | h2
 ·have:=Int.mul_pos_of_neg_of_neg h1 h2
  simp [h1,h2];omega
 ·have:=Int.mul_neg_of_neg_of_pos h1 h2
  rw [decide_eq_true h1,decide_eq_false (by omega),decide_eq_true this];rfl
 ·have:=Int.mul_neg_of_pos_of_neg h1 h2
  rw [decide_eq_false (by omega),decide_eq_true h2,decide_eq_true this];rfl
 ·have:=Int.mul_pos h1 h2
  rw [decide_eq_false (by omega),decide_eq_false (by omega),decide_eq_false (by omega)];rfl
theorem Avc {a b:By} {x y:Int} (ha:Aae a x) (hb:Aae b y) (hx:(dig 4294967296 x.natAbs).length≤1000) (hy:(dig 4294967296 y.natAbs).length≤1000):∃ n,Mj a b=some n∧Aae n (x+y):=by
 have e1:=ha.neg
 have e2:=hb.neg
 unfold Mj
 rw [ha.num,hb.num,ha.den,hb.den,An6 _ hx,Ah,An6 _ hy,Ah,Apr,Ah]
 generalize a.neg=s at *
 generalize b.neg=t at *
 have f1:x≠0→(s=true↔x < 0):=fun h=>by rw [e1 h];simp
 have f2:y≠0→(t=true↔y < 0):=fun h=>by rw [e2 h];simp
 clear e1 e2
 by_cases hs:s=t
 ·subst hs
  rw [if_pos (by simp),Ay9 (by omega) (by omega),Ah]
  have:x.natAbs+y.natAbs=(x+y).natAbs:=by
   cases s <;> simp at f1 f2 <;> omega
  rw [this]
  refine ⟨_,rfl,rfl,rfl,fun h0=>?_⟩
  simp only
  cases s <;> simp at f1 f2 ⊢ <;> omega
 ·rw [if_neg (by simpa using hs),Ay5 _ _ (by omega),Ah]
  by_cases hc:y.natAbs≤x.natAbs
  ·rw [if_pos (by unfold cmpN;split <;> (try split) <;> omega),Auj (by omega) hc,Ah]
   have:x.natAbs-y.natAbs=(x+y).natAbs:=by
    cases s <;> cases t <;> simp at f1 f2 hs <;> omega
   rw [this]
   refine ⟨_,rfl,rfl,rfl,fun h0=>?_⟩
   simp only
   cases s <;> cases t <;> simp at f1 f2 hs ⊢ <;> omega
  ·rw [if_neg (by unfold cmpN;split <;> (try split) <;> omega),Auj (by omega) (by omega),Ah]
   have:y.natAbs-x.natAbs=(x+y).natAbs:=by
    cases s <;> cases t <;> simp at f1 f2 hs <;> omega
   rw [this]
   refine ⟨_,rfl,rfl,rfl,fun h0=>?_⟩
   simp only
   cases s <;> cases t <;> simp at f1 f2 hs ⊢ <;> omega
theorem Axf {n:By} {z:Int} (h:Aae n z):Iw n=some (Int.sign z):=by
 rw [h.eq]
 exact Azb h.neg
theorem mulB {x y M N:Int} (hM:0≤M) (hx1:-M≤x) (hx2:x≤M) (hy1:-N≤y) (hy2:y≤N):-(M*N)≤x*y∧x*y≤M*N:=by
 have h:(x*y).natAbs≤M.natAbs*N.natAbs:=by
  rw [Int.natAbs_mul]
  exact Nat.mul_le_mul (by omega) (by omega)
 rw [← Int.natAbs_mul] at h
 have:0≤M*N:=Int.mul_nonneg hM (by omega)
 omega
/-! ### places -/
def okP (p:Ab):Prop:=-268435456≤p.X∧p.X≤268435456∧-268435456≤p.Y∧p.Y≤268435456
instance (p:Ab):Decidable (okP p):=by unfold okP;infer_instance
def crs (a b c:Ab):Int:=(b.X-a.X)*(c.Y-a.Y)-(b.Y-a.Y)*(c.X-a.X)
def lft (p d:Ab):Int:=(p.X-d.X)*(p.X-d.X)+(p.Y-d.Y)*(p.Y-d.Y)
def inC (a b c d:Ab):Int:=lft a d*crs d b c+lft b d*crs d c a+lft c d*crs d a b
theorem Ajb (l:List Ab) (hl:l.length≤1000000):Lq l=some (l.all fun p=>decide (okP p)):=by
 unfold Lq
 rw [jn_d]
 have step:∀ i (hi:i < l.length),Jm l (i:Int)=if okP l[i] then some (.inl (((i+1:Nat):Int))) else some (.inr (.inr false)):=by
  intro i hi
  unfold Jm
  rw [if_pos (by omega),Bf hi,Ah,jn_d,Bs (by omega)]
  by_cases h1:l[i].X < -268435456
  ·rw [if_pos h1,if_neg (show ¬ okP l[i] by unfold okP;omega)];rfl
  ·rw [if_neg h1]
   by_cases h2:268435456 < l[i].X
   ·rw [if_pos h2,if_neg (show ¬ okP l[i] by unfold okP;omega)];rfl
   ·rw [if_neg h2]
    by_cases h3:l[i].Y < -268435456
    ·rw [if_pos h3,if_neg (show ¬ okP l[i] by unfold okP;omega)];rfl
    ·rw [if_neg h3]
     by_cases h4:268435456 < l[i].Y
     ·rw [decide_eq_true h4,if_neg (show ¬ okP l[i] by unfold okP;omega)];rfl
     ·rw [decide_eq_false h4,if_pos (show okP l[i] by unfold okP;omega)];rfl
 have key:∀ k i,k+i=l.length→lfix (Jm l) (i:Int)=some (if (l.drop i).all (fun p=>decide (okP p)) then .inl () else .inr false):=by
  intro k
  induction k with
  | zero =>
   intro i hi
   rw [Dq]
   unfold Jm
   rw [if_neg (by omega),List.drop_eq_nil_of_le (by omega)]
   rfl
  | succ k ih =>
   intro i hi
   have hlt:i < l.length:=by omega
   rw [Dq,step i hlt,List.drop_eq_getElem_cons hlt,List.all_cons]
   by_cases h:okP l[i]
   ·rw [if_pos h]
    simp only [h,decide_true,Bool.true_and]
    exact ih (i+1) (by omega)
   ·rw [if_neg h]
    simp [h]
 have:=key l.length 0 (by omega)
 rw [show ((0:Nat):Int)=0 from rfl] at this
 rw [this,List.drop_zero]
 by_cases h:l.all (fun p=>decide (okP p))=true
 ·rw [h];rfl
 ·rw [Bool.not_eq_true] at h;rw [h];rfl
theorem Od {a b c:Ab} (ha:okP a) (hb:okP b) (hc:okP c):-576460752303423488≤crs a b c∧crs a b c≤576460752303423488:=by
 unfold okP at ha hb hc
 have h1:=mulB (x:=b.X-a.X) (y:=c.Y-a.Y) (M:=536870912) (N:=536870912) (by omega) (by omega) (by omega) (by omega) (by omega)
 have h2:=mulB (x:=b.Y-a.Y) (y:=c.X-a.X) (M:=536870912) (N:=536870912) (by omega) (by omega) (by omega) (by omega) (by omega)
 unfold crs
 omega
theorem Aaf {a b c:Ab} (ha:okP a) (hb:okP b) (hc:okP c):Hr a b c=some (crs a b c):=by
 have h0:=Od ha hb hc
 unfold okP at ha hb hc
 have h1:=mulB (x:=b.X-a.X) (y:=c.Y-a.Y) (M:=536870912) (N:=536870912) (by omega) (by omega) (by omega) (by omega) (by omega)
 have h2:=mulB (x:=b.Y-a.Y) (y:=c.X-a.X) (M:=536870912) (N:=536870912) (by omega) (by omega) (by omega) (by omega) (by omega)
 unfold Hr
 unfold crs at h0 ⊢
 rw [Bp (x:=b.X-a.X) (by omega) (by omega),Bp (x:=c.Y-a.Y) (by omega) (by omega),Bp (x:=b.Y-a.Y) (by omega) (by omega),Bp (x:=c.X-a.X) (by omega) (by omega),
  Bp (x:=(b.X-a.X)*(c.Y-a.Y)) (by omega) (by omega),Bp (x:=(b.Y-a.Y)*(c.X-a.X)) (by omega) (by omega),Bp (by omega) (by omega)]
theorem Akv {p d:Ab} (hp:okP p) (hd:okP d):0≤lft p d∧lft p d≤576460752303423488:=by
 unfold okP at hp hd
 have h1:=mulB (x:=p.X-d.X) (y:=p.X-d.X) (M:=536870912) (N:=536870912) (by omega) (by omega) (by omega) (by omega) (by omega)
 have h2:=mulB (x:=p.Y-d.Y) (y:=p.Y-d.Y) (M:=536870912) (N:=536870912) (by omega) (by omega) (by omega) (by omega) (by omega)
 have h3:0≤(p.X-d.X)*(p.X-d.X):=by rw [← Int.natAbs_mul_self];omega
 have h4:0≤(p.Y-d.Y)*(p.Y-d.Y):=by rw [← Int.natAbs_mul_self];omega
 unfold lft
 omega
theorem Akw {p d:Ab} (hp:okP p) (hd:okP d):Nt p d=some (lft p d):=by
 have h0:=Akv hp hd
 unfold okP at hp hd
 have h1:=mulB (x:=p.X-d.X) (y:=p.X-d.X) (M:=536870912) (N:=536870912) (by omega) (by omega) (by omega) (by omega) (by omega)
 have h2:=mulB (x:=p.Y-d.Y) (y:=p.Y-d.Y) (M:=536870912) (N:=536870912) (by omega) (by omega) (by omega) (by omega) (by omega)
 unfold Nt
 unfold lft at h0 ⊢
 rw [Bp (x:=p.X-d.X) (by omega) (by omega),Bp (x:=p.Y-d.Y) (by omega) (by omega),
  Bp (x:=(p.X-d.X)*(p.X-d.X)) (by omega) (by omega),Bp (x:=(p.Y-d.Y)*(p.Y-d.Y)) (by omega) (by omega),Bp (by omega) (by omega)]
theorem Amz (z:Int):Ha z=some (Int.sign z):=by
 unfold Ha
 by_cases h:z < 0
 ·rw [if_pos h,Int.sign_eq_neg_one_of_neg h]
 ·rw [if_neg h]
  by_cases h2:0 < z
  ·rw [if_pos h2,Int.sign_eq_one_of_pos h2]
  ·rw [if_neg h2,show z=0 by omega];rfl
theorem Aqd (a b c:Ab):Rw a b c=some (if okP a∧okP b∧okP c then (Int.sign (crs a b c),0) else (0,11)):=by
 unfold Rw
 rw [Ajb _ (by simp),Ah]
 by_cases h:okP a∧okP b∧okP c
 ·rw [if_pos (by simp [h]),Aaf h.1 h.2.1 h.2.2,Ah,Amz,Ah,if_pos h]
 ·rw [if_neg (by simpa [and_assoc] using h),if_neg h]
theorem turn_eq {a b c:Ab} (ha:okP a) (hb:okP b) (hc:okP c):Mk a b c=some (Int.sign (crs a b c)):=by
 unfold Mk
 rw [Aqd,if_pos ⟨ha,hb,hc⟩]
 rfl
theorem dig3 {z:Int} (h1:-9223372036854775808≤z) (h2:z≤9223372036854775807):(dig 4294967296 z.natAbs).length≤2:=Ap1 (by omega) 2 _ (by
 have:(4294967296:Nat) ^ 2=18446744073709551616:=by decide
 omega)
theorem dig5 {z:Int} (h1:-10000000000000000000000000000000000000≤z) (h2:z≤10000000000000000000000000000000000000):(dig 4294967296 z.natAbs).length≤4:=Ap1 (by omega) 4 _ (by
 have:(4294967296:Nat) ^ 4=340282366920938463463374607431768211456:=by decide
 omega)
theorem Akx {u v:Int} (hu1:-576460752303423488≤u) (hu2:u≤576460752303423488) (hv1:-576460752303423488≤v) (hv2:v≤576460752303423488) :
  ∃ n m k,Jl u=some n∧Jl v=some m∧Hq n m=some k∧Aae k (u*v)∧-332306998946228968225951765070086144≤u*v∧u*v≤332306998946228968225951765070086144:=by
 obtain ⟨n,h1,h2⟩:=Avb (z:=u) (by omega) (by omega)
 obtain ⟨m,h3,h4⟩:=Avb (z:=v) (by omega) (by omega)
 have d1:=dig3 (z:=u) (by omega) (by omega)
 have d2:=dig3 (z:=v) (by omega) (by omega)
 obtain ⟨k,h5,h6⟩:=Azm h2 h4 (by omega)
 have:=mulB (x:=u) (y:=v) (M:=576460752303423488) (N:=576460752303423488) (by omega) (by omega) (by omega) (by omega) (by omega)
 exact ⟨n,m,k,h1,h3,h5,h6,by omega,by omega⟩
theorem Ar9 (a b c d:Ab):Oi a b c d=some (if okP a∧okP b∧okP c∧okP d then if crs a b c=0 then (0,12) else (Int.sign (crs a b c)*Int.sign (inC a b c d),0) else (0,11)):=by
 unfold Oi
 rw [Ajb _ (by simp),Ah]
 by_cases h:okP a∧okP b∧okP c∧okP d
 ·obtain ⟨ha,hb,hc,hd⟩:=h
  rw [if_pos (by simp [ha,hb,hc,hd]),if_pos ⟨ha,hb,hc,hd⟩,Aaf ha hb hc,Ah,Amz,Ah]
  by_cases h0:crs a b c=0
  ·rw [if_pos (by rw [h0];rfl),if_pos h0]
  ·rw [if_neg (by rwa [Int.sign_eq_zero_iff_zero]),if_neg h0,jn_d]
   have l1:=Akv ha hd
   have l2:=Akv hb hd
   have l3:=Akv hc hd
   have c1:=Od hd hb hc
   have c2:=Od hd hc ha
   have c3:=Od hd ha hb
   obtain ⟨n1,m1,k1,e1,e2,e3,i1,b1,b2⟩:=Akx (u:=lft a d) (v:=crs d b c) (by omega) (by omega) (by omega) (by omega)
   obtain ⟨n2,m2,k2,e4,e5,e6,i2,b3,b4⟩:=Akx (u:=lft b d) (v:=crs d c a) (by omega) (by omega) (by omega) (by omega)
   obtain ⟨n3,m3,k3,e7,e8,e9,i3,b5,b6⟩:=Akx (u:=lft c d) (v:=crs d a b) (by omega) (by omega) (by omega) (by omega)
   have q1:=dig5 (z:=lft a d*crs d b c) (by omega) (by omega)
   have q2:=dig5 (z:=lft b d*crs d c a) (by omega) (by omega)
   have q3:=dig5 (z:=lft c d*crs d a b) (by omega) (by omega)
   have q4:=dig5 (z:=lft a d*crs d b c+lft b d*crs d c a) (by omega) (by omega)
   obtain ⟨s1,f1,g1⟩:=Avc i1 i2 (by omega) (by omega)
   obtain ⟨s2,f2,g2⟩:=Avc g1 i3 (by omega) (by omega)
   simp only [Akw ha hd,Akw hb hd,Akw hc hd,Aaf hd hb hc,Aaf hd hc ha,Aaf hd ha hb,Ah,e1,e2,e3,e4,e5,e6,e7,e8,e9]
   rw [show (⟨k1.neg,k1.n,k1.d⟩:By)=k1 from rfl,f1,Ah,f2,Ah,Axf g2,Ah,Bp]
   ·rfl
   ·rcases Int.sign_trichotomy (crs a b c) with h | h | h <;> rcases Int.sign_trichotomy (lft a d*crs d b c+lft b d*crs d c a+lft c d*crs d a b) with h' | h' | h' <;> simp [h,h']
   ·rcases Int.sign_trichotomy (crs a b c) with h | h | h <;> rcases Int.sign_trichotomy (lft a d*crs d b c+lft b d*crs d c a+lft c d*crs d a b) with h' | h' | h' <;> simp [h,h']
 ·rw [if_neg (by simpa [and_assoc] using h),if_neg h]
end Go.Proofs.YtbkobeeileemjaaGreat
/- Turns, circles and the legal side: the reference. -/
namespace Go.Proofs.YtbkobeeileemjaaGreat
open Go Go.RowKit
end Go.Proofs.YtbkobeeileemjaaGreat
/- The legal side: the program and the reference. -/
namespace Go.Proofs.YtbkobeeileemjaaGreat
open Go Go.RowKit
def befP (p q:Ab):Prop:=p.X < q.X∨p.X=q.X∧p.Y < q.Y
instance (p q:Ab):Decidable (befP p q):=by unfold befP;infer_instance
def Ef (p q:Ab):Prop:=p.X=q.X∧p.Y=q.Y
instance (p q:Ab):Decidable (Ef p q):=by unfold Ef;infer_instance
theorem Ahr {p q:Ab} (h:Ef p q):p=q:=by
 obtain ⟨x,y⟩:=p
 obtain ⟨x',y'⟩:=q
 obtain ⟨h1,h2⟩:=h
 simp only at h1 h2
 rw [h1,h2]
def Kh (a b:Ab):Ab:=if befP b a then b else a
theorem Avd (a b:Ab):Ht a b=some (decide (befP a b)):=by
 unfold Ht jn befP
 simp only
 by_cases h1:a.X < b.X
 ·simp [h1]
 ·by_cases h2:a.X=b.X
  ·simp [h2]
  ·simp [h1,h2]
theorem Aon (B:(Int × Int × Int)→Option (Sum (Int × Int × Int) (Int × Int))) (p q r:Ab)
  (hB:∀ x y i,B (x,y,i)=if i < 3 then bnd (idx [p,q,r] i) fun z=>some (.inl ((Kh ⟨x,y⟩ z).X,(Kh ⟨x,y⟩ z).Y,w64 (i+1))) else some (.inr (x,y))) (x y:Int) :
  lfix B (x,y,0)=some ((Kh (Kh (Kh ⟨x,y⟩ p) q) r).X,(Kh (Kh (Kh ⟨x,y⟩ p) q) r).Y):=by
 have w1:w64 (0+1)=1:=Bp (by omega) (by omega)
 have w2:w64 (1+1)=2:=Bp (by omega) (by omega)
 have w3:w64 (2+1)=3:=Bp (by omega) (by omega)
 have i0:idx [p,q,r] 0=some p:=rfl
 have i1:idx [p,q,r] 1=some q:=rfl
 have i2:idx [p,q,r] 2=some r:=rfl
 rw [Dq,hB,if_pos (by omega),i0,Ah,w1]
 simp only
 rw [Dq,hB,if_pos (by omega),i1,Ah,w2]
 simp only
 rw [Dq,hB,if_pos (by omega),i2,Ah,w3]
 simp only
 rw [Dq,hB,if_neg (by omega)]
/-- The first of four places is one of the last two. -/
theorem Asa {a b c d:Ab} (h1:¬ Ef a c) (h2:¬ Ef a d) (h3:¬ Ef b c) (h4:¬ Ef b d) :
  (Ef (Kh (Kh (Kh a b) c) d) c∨Ef (Kh (Kh (Kh a b) c) d) d)↔((befP c a∧befP c b)∨(befP d a∧befP d b)):=by
 have key:∀ p q:Ab,(befP q p∧Kh p q=q)∨(¬ befP q p∧Kh p q=p):=fun p q=>by
  unfold Kh
  by_cases h:befP q p
  ·exact .inl ⟨h,if_pos h⟩
  ·exact .inr ⟨h,if_neg h⟩
 rcases key a b with ⟨k1,e1⟩ | ⟨k1,e1⟩ <;> rw [e1]
 ·rcases key b c with ⟨k2,e2⟩ | ⟨k2,e2⟩ <;> rw [e2]
  ·rcases key c d with ⟨k3,e3⟩ | ⟨k3,e3⟩ <;> rw [e3] <;> unfold Ef befP at * <;> omega
  ·rcases key b d with ⟨k3,e3⟩ | ⟨k3,e3⟩ <;> rw [e3] <;> unfold Ef befP at * <;> omega
 ·rcases key a c with ⟨k2,e2⟩ | ⟨k2,e2⟩ <;> rw [e2]
  ·rcases key c d with ⟨k3,e3⟩ | ⟨k3,e3⟩ <;> rw [e3] <;> unfold Ef befP at * <;> omega
  ·rcases key a d with ⟨k3,e3⟩ | ⟨k3,e3⟩ <;> rw [e3] <;> unfold Ef befP at * <;> omega
def legP (a b c d:Ab):Prop:=Int.sign (crs a b c)*Int.sign (inC a b c d) < 0∨Int.sign (crs a b c)*Int.sign (inC a b c d)=0∧((befP c a∧befP c b)∨(befP d a∧befP d b))
instance (a b c d:Ab):Decidable (legP a b c d):=by unfold legP;infer_instance
theorem Asb (a c:Ab):crs a c c=0:=by unfold crs;grind
theorem Sa (a b:Ab):crs a b a=0:=by unfold crs;grind
theorem Ga (a b:Ab):crs a b b=0:=by unfold crs;grind
theorem Ajc (a b:Ab):crs a a b=0:=by unfold crs;grind
theorem Eu (a b c:Ab):crs b a c = -crs a b c:=by unfold crs;grind
theorem Cv (a b c:Ab):crs b c a=crs a b c:=by unfold crs;grind
theorem Ave {a b c d:Ab} (ha:okP a) (hb:okP b) (hc:okP c) (hd:okP d) (h1:¬ Ef a c) (h2:¬ Ef a d) (h3:¬ Ef b c) (h4:¬ Ef b d):Pq a b c d=some (decide (legP a b c d)):=by
 unfold Pq
 rw [Ar9,if_pos ⟨ha,hb,hc,hd⟩,Ah]
 have e:(if crs a b c=0 then ((0:Int),(12:Int)) else (Int.sign (crs a b c)*Int.sign (inC a b c d),0)).1=Int.sign (crs a b c)*Int.sign (inC a b c d):=by
  split
  ·rename_i h;rw [h];simp
  ·rfl
 rw [e]
 by_cases h0:Int.sign (crs a b c)*Int.sign (inC a b c d)=0
 ·rw [if_pos h0,jn_d,Aon _ b c d (fun x y i=>?_),Ah]
  ·dsimp only
   rw [jn_d]
   have hl:=Asa h1 h2 h3 h4
   by_cases hcc:Ef (Kh (Kh (Kh a b) c) d) c
   ·have:legP a b c d:=.inr ⟨h0,hl.1 (.inl hcc)⟩
    rw [if_pos (by simpa [Ef] using hcc),decide_eq_true this]
   ·rw [if_neg (by simpa [Ef] using hcc)]
    congr 1
    rw [Bool.eq_iff_iff]
    simp only [Bool.and_true,Bool.and_eq_true,beq_iff_eq,decide_eq_true_eq]
    unfold legP
    constructor
    ·intro h;exact .inr ⟨h0,hl.1 (.inr h)⟩
    ·rintro (h | ⟨_,h⟩)
     ·omega
     ·exact (hl.2 h).resolve_left hcc
  ·unfold Wd
   simp only
   split
   ·refine congrArg (bnd _) (funext fun z=>?_)
    rw [Avd,Ah]
    unfold Kh
    by_cases hb:befP z ⟨x,y⟩
    ·rw [if_pos (by simpa using hb),if_pos hb]
    ·rw [if_neg (by simpa using hb),if_neg hb]
   ·rfl
 ·rw [if_neg h0]
  congr 1
  rw [Bool.eq_iff_iff]
  simp only [decide_eq_true_eq]
  unfold legP
  constructor
  ·intro h;exact .inl h
  ·rintro (h | ⟨h,_⟩)
   ·exact h
   ·exact absurd h h0
theorem Aeb {x y:Int}:Int.sign x*Int.sign y = -1↔(x < 0∧0 < y)∨(0 < x∧y < 0):=by
 rcases Int.lt_trichotomy x 0 with h | h | h <;> rcases Int.lt_trichotomy y 0 with h' | h' | h'
 all_goals first
  | (rw [Int.sign_eq_neg_one_of_neg h];try rw [Int.sign_eq_neg_one_of_neg h'])
  | (rw [Int.sign_eq_one_of_pos h];try rw [Int.sign_eq_neg_one_of_neg h'])
  | (rw [h])
 all_goals try rw [Int.sign_eq_one_of_pos h']
 all_goals try rw [h']
 all_goals simp
 all_goals omega
theorem Am0 {x y:Int}:w64 (Int.sign x*Int.sign y)=Int.sign x*Int.sign y:=by
 apply Bp
 ·rcases Int.sign_trichotomy x with h | h | h <;> rcases Int.sign_trichotomy y with h' | h' | h' <;> simp [h,h']
 ·rcases Int.sign_trichotomy x with h | h | h <;> rcases Int.sign_trichotomy y with h' | h' | h' <;> simp [h,h']
theorem Aky {x y:Int}:0≤Int.sign x*Int.sign y↔¬ Int.sign x*Int.sign y = -1:=by
 rcases Int.sign_trichotomy x with h | h | h <;> rcases Int.sign_trichotomy y with h' | h' | h' <;> simp [h,h']
/-- On two sides of a line, places differ. -/
theorem Akz {a b c d:Ab} (h:Int.sign (crs a b c)*Int.sign (crs a b d) = -1):¬ Ef a c∧¬ Ef a d∧¬ Ef b c∧¬ Ef b d:=by
 rw [Aeb] at h
 refine ⟨fun e=>?_,fun e=>?_,fun e=>?_,fun e=>?_⟩ <;> (have:=Ahr e;subst this;simp only [Asb,Sa] at h;omega)
end Go.Proofs.YtbkobeeileemjaaGreat
/- The legal side: the reference's answer, and that it does not matter from where a side is seen. -/
namespace Go.Proofs.YtbkobeeileemjaaGreat
open Go Go.RowKit
end Go.Proofs.YtbkobeeileemjaaGreat
/- Plane geometry: identities of areas, planes over triangles. -/
namespace Go.Proofs.YtbkobeeileemjaaGreat
open Go Go.RowKit
/-- How far the plane through a, b, c (with heights ha, hb, hc) lies above the height hd at d, times twice the area of the triangle. -/
def Dt (ha hb hc hd:Int) (a b c d:Ab):Int:=ha*crs b c d+hb*crs c a d+hc*crs a b d-hd*crs a b c
/-- The height at x of the plane through a, b, c, times twice the area of the triangle. -/
def plt (ha hb hc:Int) (a b c x:Ab):Int:=ha*crs b c x+hb*crs c a x+hc*crs a b x
def sq (p:Ab):Int:=p.X*p.X+p.Y*p.Y
theorem Azn (a b c d:Ab):inC a b c d=Dt (sq a) (sq b) (sq c) (sq d) a b c d:=by unfold inC Dt lft sq crs;grind
theorem Ak0 (ha hb hc hd:Int) (a b c d:Ab):Dt ha hb hc hd a b c d=plt ha hb hc a b c d-hd*crs a b c:=rfl
theorem Xi (a b c d:Ab):crs a b c=crs b c d+crs c a d+crs a b d:=by unfold crs;grind
theorem Ak1 (a b c q r u:Ab):crs b c u*crs q r a+crs c a u*crs q r b+crs a b u*crs q r c=crs a b c*crs q r u:=by unfold crs;grind
theorem Ab2 (hp hq hr:Int) (a b c p q r u:Ab):crs b c u*plt hp hq hr p q r a+crs c a u*plt hp hq hr p q r b+crs a b u*plt hp hq hr p q r c=crs a b c*plt hp hq hr p q r u:=by
 have h1:=Ak1 a b c q r u
 have h2:=Ak1 a b c r p u
 have h3:=Ak1 a b c p q u
 unfold plt
 grind
/-- Across a side, the planes differ by how far they differ at the far corner. -/
theorem Ab3 (ha hb hc hd:Int) (a b c d x:Ab):plt hb ha hd b a d x*crs a b c-plt ha hb hc a b c x*crs b a d=Dt ha hb hc hd a b c d*crs a b x:=by
 unfold plt Dt crs;grind
theorem Axg (ha hb hc hd:Int) (a b c d:Ab):Dt hb ha hc hd b a c d = -Dt ha hb hc hd a b c d:=by unfold Dt crs;grind
theorem Azo (ha hb hc hd:Int) (a b c d:Ab):Dt hb hc ha hd b c a d=Dt ha hb hc hd a b c d:=by unfold Dt crs;grind
theorem Avf (ha hb hc hd:Int) (a b c d:Ab):Dt ha hb hd hc a b d c = -Dt ha hb hc hd a b c d:=by unfold Dt crs;grind
theorem Ak2 (ha hb hc:Int) (a b c x:Ab):plt hb hc ha b c a x=plt ha hb hc a b c x:=by unfold plt;grind
theorem Avg (ha hb hc:Int) (a b c:Ab):plt ha hb hc a b c a=ha*crs a b c:=by unfold plt crs;grind
theorem Aqe (ha hb hc:Int) (a b c:Ab):plt ha hb hc a b c b=hb*crs a b c:=by unfold plt crs;grind
theorem Aqf (ha hb hc:Int) (a b c:Ab):plt ha hb hc a b c c=hc*crs a b c:=by unfold plt crs;grind
/-- The circle's test, seen from b. -/
theorem Azp (a b c d:Ab):inC a b c d=lft a b*crs b c d+lft c b*crs a b d-lft d b*crs a b c:=by unfold inC lft crs;grind
theorem Aqg {p q:Ab} (h:¬ Ef p q):0 < lft p q:=by
 unfold lft
 have h1:0≤(p.X-q.X)*(p.X-q.X):=by rw [← Int.natAbs_mul_self];omega
 have h2:0≤(p.Y-q.Y)*(p.Y-q.Y):=by rw [← Int.natAbs_mul_self];omega
 by_cases hx:p.X=q.X
 ·have hy:p.Y-q.Y≠0:=fun e=>h ⟨hx,by omega⟩
  have:0 < (p.Y-q.Y)*(p.Y-q.Y):=by
   rcases Int.lt_or_gt_of_ne hy with g | g
   ·exact Int.mul_pos_of_neg_of_neg g g
   ·exact Int.mul_pos g g
  omega
 ·have hx':p.X-q.X≠0:=by omega
  have:0 < (p.X-q.X)*(p.X-q.X):=by
   rcases Int.lt_or_gt_of_ne hx' with g | g
   ·exact Int.mul_pos_of_neg_of_neg g g
   ·exact Int.mul_pos g g
  omega
theorem Yd (p q:Ab):0≤lft p q:=by
 unfold lft
 have h1:0≤(p.X-q.X)*(p.X-q.X):=by rw [← Int.natAbs_mul_self];omega
 have h2:0≤(p.Y-q.Y)*(p.Y-q.Y):=by rw [← Int.natAbs_mul_self];omega
 omega
/-- Where the quadrangle is not convex at b, the circle leaves d out. -/
theorem Ahs {a b c d:Ab} (h1:0 < crs a b c) (h2:crs a b d < 0) (h3:crs b c d≤0):inC a b c d < 0:=by
 have hd:¬ Ef d b:=fun e=>by
  have:=Ahr e
  subst this
  simp only [Ga] at h2
  omega
 rw [Azp]
 have e1:lft a b*crs b c d≤0:=Int.mul_nonpos_of_nonneg_of_nonpos (Yd a b) h3
 have e2:lft c b*crs a b d≤0:=Int.mul_nonpos_of_nonneg_of_nonpos (Yd c b) (by omega)
 have e3:0 < lft d b*crs a b c:=Int.mul_pos (Aqg hd) h1
 omega
/-- .. nor where it is not convex at a. -/
theorem Afb {a b c d:Ab} (h1:0 < crs a b c) (h2:crs a b d < 0) (h3:crs c a d≤0):inC a b c d < 0:=by
 have e:inC a b c d=lft b a*crs c a d+lft c a*crs a b d-lft d a*crs a b c:=by unfold inC lft crs;grind
 have hd:¬ Ef d a:=fun e=>by
  have:=Ahr e
  subst this
  simp only [Sa] at h2
  omega
 rw [e]
 have e1:lft b a*crs c a d≤0:=Int.mul_nonpos_of_nonneg_of_nonpos (Yd b a) h3
 have e2:lft c a*crs a b d≤0:=Int.mul_nonpos_of_nonneg_of_nonpos (Yd c a) (by omega)
 have e3:0 < lft d a*crs a b c:=Int.mul_pos (Aqg hd) h1
 omega
end Go.Proofs.YtbkobeeileemjaaGreat
/- Triangles whose surface is convex: walks over them, and that a closed set of triangles whose circles are empty has all of them. -/
namespace Go.Proofs.YtbkobeeileemjaaGreat
open Go Go.RowKit
theorem Aht {a b c x y z:Int} (hx:0 < x) (hy:0 < y) (hz:0 < z) (h1:a*y < b*x) (h2:b*z < c*y):a*z < c*x:=by
 have h3:=Int.mul_lt_mul_of_pos_right h1 hz
 have h4:=Int.mul_lt_mul_of_pos_right h2 hx
 have h5:y*(a*z) < y*(c*x):=by
  have e1:y*(a*z)=a*y*z:=by grind
  have e2:b*x*z=b*z*x:=by grind
  have e3:y*(c*x)=c*y*x:=by grind
  rw [e1,e3]
  rw [e2] at h3
  exact Int.lt_trans h3 h4
 exact Int.lt_of_mul_lt_mul_left h5 (Int.le_of_lt hy)
theorem Aec {α:Type} {p q:α→Bool} {x:α}:∀ {l:List α},(∀ y∈l,p y=true→q y=true)→x∈l→q x=true→p x=false→l.countP p < l.countP q
 | [],_,hx,_,_=>by cases hx
 | y::r,h',hx,hq,hp=>by
  have h:=h' y List.mem_cons_self
  have h2:∀ z∈r,p z=true→q z=true:=fun z hz=>h' z (List.mem_cons_of_mem _ hz)
  have hle:r.countP p≤r.countP q:=List.countP_mono_left h2
  rw [List.countP_cons,List.countP_cons]
  rcases List.mem_cons.1 hx with rfl | hx
  ·rw [hq,hp];simp;omega
  ·have:=Aec h2 hx hq hp
   by_cases c:p y=true
   ·rw [if_pos c,if_pos (h c)];omega
   ·rw [if_neg c];split <;> omega
def c3 (a b p q r:Ab):Int:=crs a b p+crs a b q+crs a b r
def p3 (ha hb hc:Int) (a b c p q r:Ab):Int:=plt ha hb hc a b c p+plt ha hb hc a b c q+plt ha hb hc a b c r
theorem Asc (ha hb hc hd:Int) (a b c d p q r:Ab):p3 hb ha hd b a d p q r*crs a b c-p3 ha hb hc a b c p q r*crs b a d=Dt ha hb hc hd a b c d*c3 a b p q r:=by
 have h1:=Ab3 ha hb hc hd a b c d p
 have h2:=Ab3 ha hb hc hd a b c d q
 have h3:=Ab3 ha hb hc hd a b c d r
 unfold p3 c3
 grind
theorem Avh (ha hb hc:Int) (a b c p q r:Ab):p3 hb hc ha b c a p q r=p3 ha hb hc a b c p q r:=by unfold p3;rw [Ak2 ha hb hc a b c p,Ak2 ha hb hc a b c q,Ak2 ha hb hc a b c r]
abbrev T3:=Int × Int × Int
variable {P:Int→Ab} {H:Int→Int}
def Ahu (P:Int→Ab) (t:T3):Int:=crs (P t.1) (P t.2.1) (P t.2.2)
def hgt3 (P:Int→Ab) (H:Int→Int) (t:T3) (p q r:Ab):Int:=p3 (H t.1) (H t.2.1) (H t.2.2) (P t.1) (P t.2.1) (P t.2.2) p q r
/-- The plane of t lies below that of s at the place. -/
def Vb (P:Int→Ab) (H:Int→Int) (p q r:Ab) (t s:T3):Prop:=hgt3 P H t p q r*Ahu P s < hgt3 P H s p q r*Ahu P t
instance (p q r:Ab) (t s:T3):Decidable (Vb P H p q r t s):=by unfold Vb;infer_instance
def DH (P:Int→Ab) (H:Int→Int) (a b c d:Int):Int:=Dt (H a) (H b) (H c) (H d) (P a) (P b) (P c) (P d)
/-- A set of triangles, each in its three turns. -/
structure Ak3 (P:Int→Ab) (X:List T3):Prop where
 rot:∀ a b c,(a,b,c)∈X→(b,c,a)∈X
 ccw:∀ a b c,(a,b,c)∈X→0 < crs (P a) (P b) (P c)
/-- From each triangle, one comes to a triangle that has the place, and each step leads to a higher plane. -/
theorem walk {X:List T3} (hX:Ak3 P X) (p q r:Ab) (step:∀ a b c,(a,b,c)∈X→c3 (P a) (P b) p q r < 0→∃ d,(b,a,d)∈X∧DH P H a b c d < 0) :
  ∀ t∈X,∃ s∈X,0≤c3 (P s.1) (P s.2.1) p q r∧0≤c3 (P s.2.1) (P s.2.2) p q r∧0≤c3 (P s.2.2) (P s.1) p q r∧(s=t∨Vb P H p q r t s):=by
 have key:∀ (n:Nat) (t:T3),t∈X→X.countP (fun s=>decide (Vb P H p q r t s))=n→∃ s∈X,0≤c3 (P s.1) (P s.2.1) p q r∧0≤c3 (P s.2.1) (P s.2.2) p q r∧0≤c3 (P s.2.2) (P s.1) p q r∧(s=t∨Vb P H p q r t s):=by
  intro n
  induction n using Nat.strongRecOn with
  | ind n ih =>
   intro t ht hn
   -- a step over the first side of a turn t' of t
   have go:∀ t':T3,t'∈X→hgt3 P H t' p q r=hgt3 P H t p q r→Ahu P t'=Ahu P t→c3 (P t'.1) (P t'.2.1) p q r < 0 →
     ∃ s∈X,0≤c3 (P s.1) (P s.2.1) p q r∧0≤c3 (P s.2.1) (P s.2.2) p q r∧0≤c3 (P s.2.2) (P s.1) p q r∧(s=t∨Vb P H p q r t s):=by
    rintro ⟨a,b,c⟩ h1 h2 h3 h4
    obtain ⟨d,h5,h6⟩:=step a b c h1 h4
    have hb:Vb P H p q r t (b,a,d):=by
     unfold Vb
     rw [← h2,← h3]
     have e:=Asc (H a) (H b) (H c) (H d) (P a) (P b) (P c) (P d) p q r
     have:0 < Dt (H a) (H b) (H c) (H d) (P a) (P b) (P c) (P d)*c3 (P a) (P b) p q r:=Int.mul_pos_of_neg_of_neg h6 h4
     show p3 _ _ _ _ _ _ p q r*crs _ _ _ < p3 _ _ _ _ _ _ p q r*crs _ _ _
     simp only
     omega
    have hpos:∀ u∈X,0 < Ahu P u:=fun u hu=>hX.ccw u.1 u.2.1 u.2.2 hu
    have hlt:X.countP (fun s=>decide (Vb P H p q r (b,a,d) s)) < n:=by
     rw [← hn]
     refine Aec (x:=(b,a,d)) (fun y hy hb2=>?_) h5 (by simpa using hb) (by simp [Vb])
     rw [decide_eq_true_eq] at hb2 ⊢
     exact Aht (hpos t ht) (hpos _ h5) (hpos y hy) hb hb2
    obtain ⟨s,k1,k2,k3,k4,k5⟩:=ih _ hlt (b,a,d) h5 rfl
    refine ⟨s,k1,k2,k3,k4,.inr ?_⟩
    rcases k5 with rfl | k5
    ·exact hb
    ·exact Aht (hpos t ht) (hpos _ h5) (hpos s k1) hb k5
   obtain ⟨a,b,c⟩:=t
   by_cases g1:c3 (P a) (P b) p q r < 0
   ·exact go (a,b,c) ht rfl rfl g1
   ·by_cases g2:c3 (P b) (P c) p q r < 0
    ·exact go (b,c,a) (hX.rot _ _ _ ht) (Avh _ _ _ _ _ _ _ _ _) (Cv _ _ _) g2
    ·by_cases g3:c3 (P c) (P a) p q r < 0
     ·exact go (c,a,b) (hX.rot _ _ _ (hX.rot _ _ _ ht)) (by unfold hgt3;rw [← Avh]) (by unfold Ahu;rw [← Cv]) g3
     ·exact ⟨(a,b,c),ht,by simp only;omega,by simp only;omega,by simp only;omega,.inl rfl⟩
 exact fun t ht=>key _ t ht rfl
end Go.Proofs.YtbkobeeileemjaaGreat
