/- Heights: the squares of the places, and, where these say nothing, the order of places. -/
import Derived.Test.YtbkobeeileemjaaGreatK7
namespace Go.Proofs.YtbkobeeileemjaaGreat
open Go Go.RowKit
def plV (v:List Ab) (i:Int):Ac:=match idx v i with
 | some x=>⟨x.X,x.Y⟩
 | none=>⟨0,0⟩
/-- Places of a valid input. -/
structure Nm (v:List Ab):Prop where
 ok:∀ i,inN v.length i→okP (plV v i)
 dist:∀ i j,inN v.length i→inN v.length j→Df (plV v i) (plV v j)→i=j
def KK:Int:=4611686018427387904
def aft (v:List Ab) (i:Int):Nat:=(inds v.length).countP fun j=>decide (befP (plV v i) (plV v j))
/-- Heights. -/
def hV (v:List Ab) (i:Int):Int:=KK ^ (v.length+1)*sq (plV v i)+KK ^ aft v i
theorem Aqq (v:List Ab) (i:Int):aft v i≤v.length:=by
 have:(inds v.length).countP (fun j=>decide (befP (plV v i) (plV v j)))≤(inds v.length).length:=List.countP_le_length
 rw [Oi] at this
 exact this
theorem Yo {v:List Ab} {i j:Int} (hj:inN v.length j) (h:befP (plV v i) (plV v j)):aft v j < aft v i:=by
 unfold aft
 refine Yk (x:=j) (fun y _ hy=>?_) (Lx.2 hj) (by simpa using h) (by simp [befP])
 simp only [decide_eq_true_eq] at hy ⊢
 unfold befP at *
 omega
theorem Nj (k:Nat):1≤KK ^ k:=by
 have:0 < KK ^ k:=Int.pow_pos (by decide)
 omega
theorem Ai7 {a b:Nat} (h:a≤b):KK ^ a≤KK ^ b:=by
 obtain ⟨c,rfl⟩:=Nat.le.dest h
 rw [Int.pow_add]
 have h1:=Nj a
 have h2:=Nj c
 have:=Int.mul_le_mul_of_nonneg_left h2 (show 0≤KK ^ a by omega)
 omega
theorem Adb {a b:Nat} (h:a < b):KK*KK ^ a≤KK ^ b:=by
 have:=Ai7 (a:=a+1) (b:=b) h
 rw [Int.pow_succ,Int.mul_comm] at this
 exact this
theorem Aqr (B sa sb sc sd wa wb wc wd:Int) (a b c d:Ac):Dt (B*sa+wa) (B*sb+wb) (B*sc+wc) (B*sd+wd) a b c d=B*Dt sa sb sc sd a b c d+Dt wa wb wc wd a b c d:=by unfold Dt;grind
theorem Xm (v:List Ab) (a b c d:Int):DH (plV v) (hV v) a b c d=KK ^ (v.length+1)*inC (plV v a) (plV v b) (plV v c) (plV v d)+Dt (KK ^ aft v a) (KK ^ aft v b) (KK ^ aft v c) (KK ^ aft v d) (plV v a) (plV v b) (plV v c) (plV v d):=by
 unfold DH hV
 rw [Aqr,← Aqh]
theorem Lz {w x N C:Int} (hw0:0≤w) (hw:w≤N) (hC:0≤C) (h1:-C≤x) (h2:x≤C):-(N*C)≤w*x∧w*x≤N*C:=by
 have:=mulB (x:=w) (y:=x) (M:=N) (N:=C) (by omega) (by omega) hw h1 h2
 exact this
theorem Am6 {N wa wb wc wd:Int} {a b c d:Ac} (ha:okP a) (hb:okP b) (hc:okP c) (hd:okP d) (h1:0≤wa∧wa≤N) (h2:0≤wb∧wb≤N) (h3:0≤wc∧wc≤N) (h4:0≤wd∧wd≤N) :
  -(N*2305843009213693952)≤Dt wa wb wc wd a b c d∧Dt wa wb wc wd a b c d≤N*2305843009213693952:=by
 have c1:=Ml hb hc hd
 have c2:=Ml hc ha hd
 have c3:=Ml ha hb hd
 have c4:=Ml ha hb hc
 have m1:=Lz (C:=576460752303423488) h1.1 h1.2 (by omega) c1.1 c1.2
 have m2:=Lz (C:=576460752303423488) h2.1 h2.2 (by omega) c2.1 c2.2
 have m3:=Lz (C:=576460752303423488) h3.1 h3.2 (by omega) c3.1 c3.2
 have m4:=Lz (C:=576460752303423488) h4.1 h4.2 (by omega) c4.1 c4.2
 unfold Dt
 omega
section
variable {v:List Ab} (hv:Nm v) {a b c d:Int} (ha:inN v.length a) (hb:inN v.length b) (hc:inN v.length c) (hd:inN v.length d)
include hv ha hb hc hd
theorem Am7:-(KK ^ (v.length+1)) < Dt (KK ^ aft v a) (KK ^ aft v b) (KK ^ aft v c) (KK ^ aft v d) (plV v a) (plV v b) (plV v c) (plV v d)∧Dt (KK ^ aft v a) (KK ^ aft v b) (KK ^ aft v c) (KK ^ aft v d) (plV v a) (plV v b) (plV v c) (plV v d) < KK ^ (v.length+1):=by
 have w:∀ i,0≤KK ^ aft v i∧KK ^ aft v i≤KK ^ v.length:=fun i=>⟨by have:=Nj (aft v i);omega,Ai7 (Aqq v i)⟩
 have:=Am6 (hv.ok a ha) (hv.ok b hb) (hv.ok c hc) (hv.ok d hd) (w a) (w b) (w c) (w d)
 have h1:=Nj v.length
 generalize Dt (KK ^ aft v a) (KK ^ aft v b) (KK ^ aft v c) (KK ^ aft v d) (plV v a) (plV v b) (plV v c) (plV v d)=D at *
 rw [Int.pow_succ]
 have e:KK=4611686018427387904:=rfl
 generalize KK ^ v.length=N at *
 rw [e]
 omega
/-- Within the circle: above. -/
theorem Arq (h:0 < inC (plV v a) (plV v b) (plV v c) (plV v d)):0 < DH (plV v) (hV v) a b c d:=by
 rw [Xm]
 have h1:=Am7 hv ha hb hc hd
 have h2:=Nj (v.length+1)
 have:=Int.mul_le_mul_of_nonneg_left (show 1≤inC (plV v a) (plV v b) (plV v c) (plV v d) by omega) (show 0≤KK ^ (v.length+1) by omega)
 omega
theorem Ahn (h:inC (plV v a) (plV v b) (plV v c) (plV v d) < 0):DH (plV v) (hV v) a b c d < 0:=by
 rw [Xm]
 have h1:=Am7 hv ha hb hc hd
 have h2:=Nj (v.length+1)
 have:=Int.mul_le_mul_of_nonneg_left (show inC (plV v a) (plV v b) (plV v c) (plV v d)≤-1 by omega) (show 0≤KK ^ (v.length+1) by omega)
 omega
/-- On the circle, where a is the first of the places: as the area across says. -/
theorem We (h0:inC (plV v a) (plV v b) (plV v c) (plV v d)=0) (h1:befP (plV v a) (plV v b)) (h2:befP (plV v a) (plV v c)) (h3:befP (plV v a) (plV v d)) :
  (0 < crs (plV v b) (plV v c) (plV v d)→0 < DH (plV v) (hV v) a b c d)∧(crs (plV v b) (plV v c) (plV v d) < 0→DH (plV v) (hV v) a b c d < 0):=by
 rw [Xm,h0,Int.mul_zero,Int.zero_add]
 have k1:=Adb (Yo hb h1)
 have k2:=Adb (Yo hc h2)
 have k3:=Adb (Yo hd h3)
 have e:KK=4611686018427387904:=rfl
 rw [e] at k1 k2 k3
 have w0:=Nj (aft v a)
 have w1:=Nj (aft v b)
 have w2:=Nj (aft v c)
 have w3:=Nj (aft v d)
 rw [e] at w0 w1 w2 w3
 rw [e]
 have c1:=Ml (hv.ok b hb) (hv.ok c hc) (hv.ok d hd)
 have c2:=Ml (hv.ok c hc) (hv.ok a ha) (hv.ok d hd)
 have c3:=Ml (hv.ok a ha) (hv.ok b hb) (hv.ok d hd)
 have c4:=Ml (hv.ok a ha) (hv.ok b hb) (hv.ok c hc)
 generalize (4611686018427387904:Int) ^ aft v a=wa at *
 generalize (4611686018427387904:Int) ^ aft v b=wb at *
 generalize (4611686018427387904:Int) ^ aft v c=wc at *
 generalize (4611686018427387904:Int) ^ aft v d=wd at *
 have m2:=Lz (w:=wb) (C:=576460752303423488) (by omega) (Int.le_refl _) (by omega) c2.1 c2.2
 have m3:=Lz (w:=wc) (C:=576460752303423488) (by omega) (Int.le_refl _) (by omega) c3.1 c3.2
 have m4:=Lz (w:=wd) (C:=576460752303423488) (by omega) (Int.le_refl _) (by omega) c4.1 c4.2
 unfold Dt
 constructor
 ·intro hp
  have:=Int.mul_le_mul_of_nonneg_left (show 1≤crs (plV v b) (plV v c) (plV v d) by omega) (show 0≤wa by omega)
  omega
 ·intro hp
  have:=Int.mul_le_mul_of_nonneg_left (show crs (plV v b) (plV v c) (plV v d)≤-1 by omega) (show 0≤wa by omega)
  omega
/-- .. where d is the first. -/
theorem Aho (h0:inC (plV v a) (plV v b) (plV v c) (plV v d)=0) (h1:befP (plV v d) (plV v a)) (h2:befP (plV v d) (plV v b)) (h3:befP (plV v d) (plV v c)) (hp:0 < crs (plV v a) (plV v b) (plV v c)):DH (plV v) (hV v) a b c d < 0:=by
 rw [Xm,h0,Int.mul_zero,Int.zero_add]
 have k1:=Adb (Yo ha h1)
 have k2:=Adb (Yo hb h2)
 have k3:=Adb (Yo hc h3)
 have e:KK=4611686018427387904:=rfl
 rw [e] at k1 k2 k3
 have w0:=Nj (aft v a)
 have w1:=Nj (aft v b)
 have w2:=Nj (aft v c)
 have w3:=Nj (aft v d)
 rw [e] at w0 w1 w2 w3
 rw [e]
 have c1:=Ml (hv.ok b hb) (hv.ok c hc) (hv.ok d hd)
 have c2:=Ml (hv.ok c hc) (hv.ok a ha) (hv.ok d hd)
 have c3:=Ml (hv.ok a ha) (hv.ok b hb) (hv.ok d hd)
 generalize (4611686018427387904:Int) ^ aft v a=wa at *
 generalize (4611686018427387904:Int) ^ aft v b=wb at *
 generalize (4611686018427387904:Int) ^ aft v c=wc at *
 generalize (4611686018427387904:Int) ^ aft v d=wd at *
 have m1:=Lz (w:=wa) (C:=576460752303423488) (by omega) (Int.le_refl _) (by omega) c1.1 c1.2
 have m2:=Lz (w:=wb) (C:=576460752303423488) (by omega) (Int.le_refl _) (by omega) c2.1 c2.2
 have m3:=Lz (w:=wc) (C:=576460752303423488) (by omega) (Int.le_refl _) (by omega) c3.1 c3.2
 unfold Dt
 have:=Int.mul_le_mul_of_nonneg_left (show 1≤crs (plV v a) (plV v b) (plV v c) by omega) (show 0≤wd by omega)
 omega
end
theorem Yp {v:List Ab} (hv:Nm v):Abu (plV v) (hV v) (inN v.length):=by
 intro a b c d ha hb hc hd h1 h2 h3
 rcases h3 with h3 | h3
 ·exact Ahn hv ha hb hc hd (Ab5 h1 h2 h3)
 ·exact Ahn hv ha hb hc hd (Zo h1 h2 h3)
theorem Ai8 (a b c d:Ac):inC b c a d=inC a b c d:=by unfold inC lft crs;grind
theorem Jc {p q r:Ac} (h1:befP p q) (h2:befP q r):befP p r:=by unfold befP at *;omega
theorem Oa {p q:Ac} (h1:befP p q) (h2:befP q p):False:=by unfold befP at *;omega
theorem Mo {p q:Ac} (h:¬ Df p q):befP p q∨befP q p:=by unfold befP Df at *;omega
theorem Acm {a b c d:Ac} (n1:¬ Df a b) (n2:¬ Df a c) (n3:¬ Df a d) (n4:¬ Df b c) (n5:¬ Df b d) (n6:¬ Df c d) :
  (befP a b∧befP a c∧befP a d)∨(befP b c∧befP b a∧befP b d)∨(befP c a∧befP c b∧befP c d)∨(befP d a∧befP d b∧befP d c):=by
 rcases Mo n1 with h1 | h1
 ·rcases Mo n6 with h2 | h2
  ·rcases Mo n2 with h3 | h3
   ·exact .inl ⟨h1,h3,Jc h3 h2⟩
   ·exact .inr (.inr (.inl ⟨h3,Jc h3 h1,h2⟩))
  ·rcases Mo n3 with h3 | h3
   ·exact .inl ⟨h1,Jc h3 h2,h3⟩
   ·exact .inr (.inr (.inr ⟨h3,Jc h3 h1,h2⟩))
 ·rcases Mo n6 with h2 | h2
  ·rcases Mo n4 with h3 | h3
   ·exact .inr (.inl ⟨h3,h1,Jc h3 h2⟩)
   ·exact .inr (.inr (.inl ⟨Jc h3 h1,h3,h2⟩))
  ·rcases Mo n5 with h3 | h3
   ·exact .inr (.inl ⟨Jc h3 h2,h1,h3⟩)
   ·exact .inr (.inr (.inr ⟨Jc h3 h1,h3,h2⟩))
/-- The legal sides are those over which the surface is convex. -/
theorem Adc {v:List Ab} (hv:Nm v) {a b c d:Int} (ha:inN v.length a) (hb:inN v.length b) (hc:inN v.length c) (hd:inN v.length d) (h1:0 < crs (plV v a) (plV v b) (plV v c)) (h2:crs (plV v a) (plV v b) (plV v d) < 0) :
  (legP (plV v a) (plV v b) (plV v c) (plV v d)↔DH (plV v) (hV v) a b c d < 0)∧DH (plV v) (hV v) a b c d≠0:=by
 have hs:Int.sign (crs (plV v a) (plV v b) (plV v c))=1:=Int.sign_eq_one_of_pos h1
 have n1:=Tq (P:=plV v) (a:=a) (b:=b) (c:=c) (by omega)
 have n2:=Tq (P:=plV v) (a:=a) (b:=b) (c:=d) (by omega)
 have ncd:c≠d:=fun e=>by subst e;omega
 have nab:¬ Df (plV v a) (plV v b):=fun e=>n1.1 (hv.dist a b ha hb e)
 have nac:¬ Df (plV v a) (plV v c):=fun e=>n1.2.2 (hv.dist a c ha hc e).symm
 have nad:¬ Df (plV v a) (plV v d):=fun e=>n2.2.2 (hv.dist a d ha hd e).symm
 have nbc:¬ Df (plV v b) (plV v c):=fun e=>n1.2.1 (hv.dist b c hb hc e)
 have nbd:¬ Df (plV v b) (plV v d):=fun e=>n2.2.1 (hv.dist b d hb hd e)
 have ncd':¬ Df (plV v c) (plV v d):=fun e=>ncd (hv.dist c d hc hd e)
 unfold legP
 rw [hs,Int.one_mul]
 rcases Int.lt_trichotomy (inC (plV v a) (plV v b) (plV v c) (plV v d)) 0 with g | g | g
 ·have:=Ahn hv ha hb hc hd g
  rw [Int.sign_eq_neg_one_of_neg g]
  exact ⟨⟨fun _=>this,fun _=>.inl (by omega)⟩,by omega⟩
 ·rw [g,Int.sign_zero]
  have k1:0 < crs (plV v b) (plV v c) (plV v d):=by
   rcases Int.lt_or_le 0 (crs (plV v b) (plV v c) (plV v d)) with k | k
   ·exact k
   ·have:=Ab5 h1 h2 k;omega
  have k2:0 < crs (plV v c) (plV v a) (plV v d):=by
   rcases Int.lt_or_le 0 (crs (plV v c) (plV v a) (plV v d)) with k | k
   ·exact k
   ·have:=Zo h1 h2 k;omega
  -- which of the four is the first
  have fa:=We hv ha hb hc hd g
  have fd:=Aho hv ha hb hc hd g
  have fb:=We hv hb hc ha hd (by rw [Ai8];exact g)
  have fc:=We hv hc ha hb hd (by rw [← Ai8];exact g)
  rw [Abv] at fb
  rw [← Abv] at fc
  have key:=Acm nab nac nad nbc nbd ncd'
  rcases key with ⟨b1,b2,b3⟩ | ⟨b1,b2,b3⟩ | ⟨b1,b2,b3⟩ | ⟨b1,b2,b3⟩
  ·have:=(fa b1 b2 b3).1 k1
   refine ⟨⟨fun h=>?_,fun h=>by omega⟩,by omega⟩
   rcases h with h | ⟨_,⟨h,_⟩ | ⟨h,_⟩⟩
   ·omega
   ·exact (Oa b2 h).elim
   ·exact (Oa b3 h).elim
  ·have:=(fb b1 b2 b3).1 k2
   refine ⟨⟨fun h=>?_,fun h=>by omega⟩,by omega⟩
   rcases h with h | ⟨_,⟨_,h⟩ | ⟨_,h⟩⟩
   ·omega
   ·exact (Oa b1 h).elim
   ·exact (Oa b3 h).elim
  ·have:=(fc b1 b2 b3).2 h2
   refine ⟨⟨fun h=>this,fun h=>.inr ⟨rfl,.inl ⟨b1,b2⟩⟩⟩,by omega⟩
  ·have:=fd b1 b2 b3 h1
   refine ⟨⟨fun h=>this,fun h=>.inr ⟨rfl,.inr ⟨b1,b2⟩⟩⟩,by omega⟩
 ·have:=Arq hv ha hb hc hd g
  rw [Int.sign_eq_one_of_pos g]
  refine ⟨⟨fun h=>?_,fun h=>by omega⟩,by omega⟩
  omega
end Go.Proofs.YtbkobeeileemjaaGreat
