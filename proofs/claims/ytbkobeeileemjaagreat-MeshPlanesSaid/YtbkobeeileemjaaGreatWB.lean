/- Plain laws on the program's fractions, whose denominators have one word. -/
import Derived.Test.YtbkobeeileemjaaGreatWA
import Derived.Test.YtbkobeeileemjaaGreatZ2
namespace Go.Proofs.YtbkobeeileemjaaGreat
open Go Go.RowKit
/-- The fraction that a value stands for. -/
structure FrIs (n:Aj) (z:Int) (d:Nat):Prop where
 num:n.n=L32 z.natAbs
 den:n.d=L32 d
 neg:z≠0→n.neg=decide (z < 0)
def CN (z:Int) (d:Nat):Aj:=⟨decide (z < 0),L32 z.natAbs,L32 d⟩
def CR (z:Int) (d:Nat):Am:=⟨decide (z < 0),L32 z.natAbs,if d=1 then [] else L32 d⟩
theorem Arp (z:Int) (d:Nat):FrIs (CN z d) z d:=⟨rfl,rfl,fun _=>rfl⟩
theorem FrIs.eq {n:Aj} {z:Int} {d:Nat} (h:FrIs n z d) (h0:z≠0):n=CN z d:=by
 obtain ⟨s,a,e⟩:=n
 obtain ⟨h1,h2,h3⟩:=h
 simp only at h1 h2 h3
 rw [h1,h2,h3 h0];rfl
/-- c / e is z / d in lowest terms. -/
structure Red (z:Int) (d:Nat) (c:Int) (e:Nat):Prop where
 g:∃ g:Nat,0 < g∧z=(g:Int)*c∧d=g*e
 co:Nat.gcd c.natAbs e=1
 pos:0 < e
theorem Amj (z:Int) {d:Nat} (hd:0 < d):∃ c e,Red z d c e:=by
 have hg:0 < Nat.gcd z.natAbs d:=Nat.gcd_pos_of_pos_right _ hd
 obtain ⟨c,hc⟩:=Int.ofNat_dvd_left.2 (Nat.gcd_dvd_left z.natAbs d)
 obtain ⟨e,he⟩:=Nat.gcd_dvd_right z.natAbs d
 refine ⟨c,e,⟨_,hg,hc,he⟩,?_,?_⟩
 ·have h1:z.natAbs=Nat.gcd z.natAbs d*c.natAbs:=by
   have:=congrArg Int.natAbs hc
   rwa [Int.natAbs_mul,Int.natAbs_natCast] at this
  have h2:Nat.gcd z.natAbs d=Nat.gcd z.natAbs d*Nat.gcd c.natAbs e:=by
   rw [← Nat.gcd_mul_left,← h1,← he]
  have:Nat.gcd z.natAbs d*Nat.gcd c.natAbs e=Nat.gcd z.natAbs d*1:=by omega
  exact Nat.eq_of_mul_eq_mul_left hg this
 ·refine Nat.pos_of_ne_zero fun h=>?_
  rw [h,Nat.mul_zero] at he
  omega
theorem Red.le {z c:Int} {d e:Nat} (h:Red z d c e):e≤d∧c.natAbs≤z.natAbs:=by
 obtain ⟨⟨g,hg,h1,h2⟩,_,_⟩:=h
 constructor
 ·rw [h2];exact Nat.le_mul_of_pos_left _ hg
 ·rw [h1,Int.natAbs_mul,Int.natAbs_natCast];exact Nat.le_mul_of_pos_left _ hg
theorem Red.id {z:Int} {d:Nat} (h:Nat.gcd z.natAbs d=1) (hd:0 < d):Red z d z d:=⟨⟨1,by omega,by simp,by simp⟩,h,hd⟩
theorem Ub {a:Nat} (h:a < 79228162514264337593543950336):(dig 4294967296 a).length≤3:=Ss (by omega) 3 _ (by
 have:(4294967296:Nat) ^ 3=79228162514264337593543950336:=by decide
 omega)
theorem Uc {a:Nat} (h:a < 4294967296):(dig 4294967296 a).length≤1:=Ss (by omega) 1 _ (by omega)
theorem Apc {a:Nat} (h:a < 18446744073709551616):(dig 4294967296 a).length≤2:=Ss (by omega) 2 _ (by
 have:(4294967296:Nat) ^ 2=18446744073709551616:=by decide
 omega)
theorem Ut (a:Nat):(L32 a).length=(dig 4294967296 a).length:=Ge
theorem Zp (g:Nat) (c:Int):((g:Int)*c).natAbs=g*c.natAbs:=by rw [Int.natAbs_mul,Int.natAbs_natCast]
theorem Agb {g:Nat} (hg:0 < g) (c:Int):((g:Int)*c < 0)↔c < 0:=by
 constructor
 ·intro h
  refine Classical.byContradiction fun h1=>?_
  have:=Int.mul_nonneg (show (0:Int)≤g by omega) (show 0≤c by omega)
  omega
 ·intro h
  exact Int.mul_neg_of_pos_of_neg (by omega) h
theorem Vy {n:Aj} {z c:Int} {d e:Nat} (hn:FrIs n z d) (hz:z.natAbs < 79228162514264337593543950336) (hd2:d < 4294967296) (hr:Red z d c e):Fe n=some (CN c e):=by
 obtain ⟨⟨g,hg,h1,h2⟩,hco,he⟩:=hr
 have hd:0 < d:=by rw [h2];exact Nat.mul_pos hg he
 unfold Fe
 by_cases h0:z=0
 ·have c0:c=0:=by
   rcases Int.mul_eq_zero.1 (h1.symm.trans h0) with h | h
   ·omega
   ·exact h
  subst h0
  subst c0
  have e1:e=1:=by simpa using hco
  subst e1
  rw [hn.num,if_pos (by rw [show (0:Int).natAbs=0 from rfl,(Mc (a:=0)).2 rfl];rfl),oneW]
  unfold CN
  rw [show (L32 (0:Int).natAbs)=[] from List.length_eq_zero_iff.1 ((Mc (a:=0)).2 rfl)]
  rfl
 ·have hne:(L32 z.natAbs).length≠0:=fun h=>h0 (by have:=Mc.1 h;omega)
  have hl:=Ub hz
  have hgd:Nat.gcd z.natAbs d=g:=by
   rw [h1,h2,Zp,Nat.gcd_mul_left,hco,Nat.mul_one]
  have gle:g≤d:=by rw [h2];exact Nat.le_mul_of_pos_right _ he
  have hz':z.natAbs / g=c.natAbs:=by rw [h1,Zp,Nat.mul_div_cancel_left _ hg]
  have hd':d / g=e:=by rw [h2,Nat.mul_div_cancel_left _ hg]
  have hneg:decide (z < 0)=decide (c < 0):=by
   have:=Agb hg c
   rw [← h1] at this
   exact decide_eq_decide.2 this
  rw [hn.eq h0]
  unfold CN
  dsimp only
  rw [if_neg (by omega),Aq7 (by omega) hd2,Ah,jn_d,hgd,Qa hg (by omega),if_pos (by simp),show idx [(g:Int)] 0=some (g:Int) from rfl,Ah]
  dsimp only
  by_cases c1:g=1
  ·rw [if_pos (by simp [c1])]
   rw [c1,Nat.div_one] at hz' hd'
   rw [hneg,hz',hd']
  ·rw [if_neg (by simp;omega),← Qa hg (by omega),Ah0 (by omega) hg (by omega),Ah,Ah0 (Nat.le_trans (Uc hd2) (by omega)) hg (by omega),Ah]
   dsimp only
   rw [hneg,hz',hd']
theorem Aiv {α:Type} (l ys:List α) (h:l.length=ys.length):cpy l 0 ys=ys:=by
 unfold cpy
 simp [h]
theorem Xj {n:Aj} {z c:Int} {d e:Nat} (hn:FrIs n z d) (hz:z.natAbs < 79228162514264337593543950336) (hd2:d < 4294967296) (hr:Red z d c e):Eg n=some (CR c e,0):=by
 obtain ⟨le1,le2⟩:=hr.le
 have l1:=Ub (a:=c.natAbs) (by omega)
 have l2:=Uc (a:=e) (by omega)
 have he:=hr.pos
 unfold Eg
 rw [Vy hn hz hd2 hr,Ah,jn_d]
 unfold CN CR
 dsimp only
 rw [Ut,Ut,if_neg (by omega),if_neg (by simp;omega),jn_d,gd_t ⟨by omega,by omega⟩]
 dsimp only
 rw [jn_d]
 dsimp only
 rw [jn_d,if_neg (by omega),Qa he (by omega),show idx [(e:Int)] 0=some (e:Int) from rfl,Ah]
 dsimp only
 rw [Aiv _ _ (by simp [Ut])]
 by_cases c1:e=1
 ·rw [if_neg (by simp [c1]),if_pos c1]
 ·rw [if_pos (by simp;omega),gd_t ⟨by omega,by simp;omega⟩,if_neg c1,Aiv _ _ (by simp [← Ut,Qa he (show e < 4294967296 by omega)])]
theorem of_eq {z:Int} {d:Nat} (hz:z.natAbs < 79228162514264337593543950336) (hd2:d < 4294967296) (hd:0 < d) (co:Nat.gcd z.natAbs d=1):Hu (CR z d)=some (CN z d):=by
 have l1:=Ub hz
 unfold Hu CR
 dsimp only
 by_cases c1:d=1
 ·rw [if_pos c1,Afx,Ah,jn_d,if_pos (by simp)]
  dsimp only
  rw [Abl _ (by omega),Ah,Vy (n:=⟨decide (z < 0),L32 z.natAbs,[1]⟩) ⟨rfl,by rw [c1,← oneW],fun _=>rfl⟩ hz hd2 (Red.id co hd),Ah]
 ·rw [if_neg c1,Abl _ (Nat.le_trans (Uc hd2) (by omega)),Ah,jn_d,if_neg (by rw [Qa hd hd2];simp)]
  dsimp only
  rw [Abl _ (by omega),Ah,Vy (n:=⟨decide (z < 0),L32 z.natAbs,L32 d⟩) ⟨rfl,rfl,fun _=>rfl⟩ hz hd2 (Red.id co hd),Ah]
theorem Ly {z:Int} {d:Nat} (hz:z.natAbs < 79228162514264337593543950336) (hd2:d < 4294967296):Jo (CR z d)=some false:=by
 have l1:=Ub hz
 have l2:=Uc hd2
 unfold Jo CR
 dsimp only
 rw [jn_d,Abl _ (by omega),Ah,Ut,if_neg (by omega)]
 by_cases c1:d=1
 ·rw [if_pos c1,Afx,Ah];rfl
 ·rw [if_neg c1,Abl _ (by omega),Ah,Ut,decide_eq_false (by omega)]
theorem Xk {a b:Am} (ha:Jo a=some false) (hb:Jo b=some false):Ec [a,b]=some false:=by
 unfold Ec
 rw [jn_d,Ck]
 have h1:Dw [a,b] 0=some (.inl 1):=by
  unfold Dw
  rw [if_pos (by simp),show idx [a,b] 0=some a from rfl,Ah,ha,Ah,if_neg (by simp)]
  rfl
 have h2:Dw [a,b] 1=some (.inl 2):=by
  unfold Dw
  rw [if_pos (by simp),show idx [a,b] 1=some b from rfl,Ah,hb,Ah,if_neg (by simp)]
  rfl
 have h3:Dw [a,b] 2=some (.inr (.inl ())):=by
  unfold Dw
  rw [if_neg (by simp)]
 rw [h1]
 dsimp only
 rw [Ck,h2]
 dsimp only
 rw [Ck,h3]
 rfl
theorem Aer {x:Int} {e:Nat} (he:0 < e):decide (x < 0)=decide (x*(e:Int) < 0):=by
 have:=Agb he x
 rw [Int.mul_comm] at this
 exact (decide_eq_decide.2 this).symm
theorem Amk {x y:Int} {d e:Nat} (hd:0 < d) (he:0 < e) (hd2:d < 4294967296) (he2:e < 4294967296) (hx:x.natAbs < 1000000000000000000000000000) (hy:y.natAbs < 1000000000000000000000000000) :
  ∃ n,Dl (CN x d) (CN y e)=some n∧FrIs n (x*e+y*d) (d*e):=by
 have lx:=Ub (a:=x.natAbs) (by omega)
 have ly:=Ub (a:=y.natAbs) (by omega)
 have ld:=Uc hd2
 have le:=Uc he2
 have aX:(x*(e:Int)).natAbs=x.natAbs*e:=by rw [Int.natAbs_mul,Int.natAbs_natCast]
 have aY:(y*(d:Int)).natAbs=y.natAbs*d:=by rw [Int.natAbs_mul,Int.natAbs_natCast]
 have e1:(CN x d).neg=decide (x*(e:Int) < 0):=Aer he
 have e2:(CN y e).neg=decide (y*(d:Int) < 0):=Aer hd
 have lX:(dig 4294967296 (x*(e:Int)).natAbs).length≤4:=by
  rw [aX]
  refine Ss (by omega) 4 _ ?_
  have h1:(4294967296:Nat) ^ 4=340282366920938463463374607431768211456:=by decide
  have h2:x.natAbs*e≤1000000000000000000000000000*4294967296:=Nat.mul_le_mul (by omega) (by omega)
  omega
 have lY:(dig 4294967296 (y*(d:Int)).natAbs).length≤4:=by
  rw [aY]
  refine Ss (by omega) 4 _ ?_
  have h1:(4294967296:Nat) ^ 4=340282366920938463463374607431768211456:=by decide
  have h2:y.natAbs*d≤1000000000000000000000000000*4294967296:=Nat.mul_le_mul (by omega) (by omega)
  omega
 unfold Dl
 rw [show Cc (CN x d).n (CN y e).d=some (L32 (x*(e:Int)).natAbs) from by rw [aX];exact Ts (by omega),Ah,show Cc (CN y e).n (CN x d).d=some (L32 (y*(d:Int)).natAbs) from by rw [aY];exact Ts (by omega),Ah,
  show Cc (CN x d).d (CN y e).d=some (L32 (d*e)) from Ts (by omega),Ah,e1,e2]
 generalize x*(e:Int)=X at *
 generalize y*(d:Int)=Y at *
 by_cases hs:(X < 0↔Y < 0)
 ·refine ⟨⟨decide (X < 0),L32 (X+Y).natAbs,L32 (d*e)⟩,?_,⟨rfl,rfl,fun h0=>?_⟩⟩
  ·rw [if_pos (by by_cases h1:X < 0 <;> simp [h1] <;> omega),Ahc (by omega) (by omega),Ah,show X.natAbs+Y.natAbs=(X+Y).natAbs by omega]
  ·by_cases h1:X < 0
   ·rw [decide_eq_true h1,decide_eq_true (by omega)]
   ·rw [decide_eq_false h1,decide_eq_false (by omega)]
 ·rw [if_neg (by by_cases h1:X < 0 <;> simp [h1] <;> omega),Ad7 _ _ (by omega),Ah]
  by_cases hc:Y.natAbs≤X.natAbs
  ·refine ⟨⟨decide (X < 0),L32 (X+Y).natAbs,L32 (d*e)⟩,?_,⟨rfl,rfl,fun h0=>?_⟩⟩
   ·rw [if_pos (by unfold cmpN;split <;> (try split) <;> omega),Ad9 (by omega) hc,Ah,show X.natAbs-Y.natAbs=(X+Y).natAbs by omega]
   ·by_cases h1:X < 0
    ·rw [decide_eq_true h1,decide_eq_true (by omega)]
    ·rw [decide_eq_false h1,decide_eq_false (by omega)]
  ·refine ⟨⟨decide (Y < 0),L32 (X+Y).natAbs,L32 (d*e)⟩,?_,⟨rfl,rfl,fun h0=>?_⟩⟩
   ·rw [if_neg (by unfold cmpN;split <;> (try split) <;> omega),Ad9 (by omega) (by omega),Ah,show Y.natAbs-X.natAbs=(X+Y).natAbs by omega]
   ·by_cases h1:Y < 0
    ·rw [decide_eq_true h1,decide_eq_true (by omega)]
    ·rw [decide_eq_false h1,decide_eq_false (by omega)]
theorem Aml (x:Int) (d:Nat):Gb (CN x d)=some (CN (-x) d):=by
 unfold Gb CN
 dsimp only
 rw [jn_d,Int.natAbs_neg]
 by_cases h:x < 0
 ·rw [if_pos (by simpa using h),decide_eq_false (show ¬ -x < 0 by omega)]
 ·rw [if_neg (by simpa using h)]
  by_cases h0:x=0
  ·subst h0
   rw [show (L32 (0:Int).natAbs).length=0 from (Mc (a:=0)).2 rfl]
   rfl
  ·have hne:(L32 x.natAbs).length≠0:=fun h=>h0 (by have:=Mc.1 h;omega)
   rw [decide_eq_true (by omega),decide_eq_true (by omega)]
theorem Amm {x y:Int} {d e:Nat} (hd:0 < d) (he:0 < e) (hd2:d < 4294967296) (he2:e < 4294967296) (hx:x.natAbs < 1000000000000000000000000000) (hy:y.natAbs < 1000000000000000000000000000) :
  ∃ n,He (CN x d) (CN y e)=some n∧FrIs n (x*e-y*d) (d*e):=by
 obtain ⟨n,h1,h2⟩:=Amk (x:=x) (y:=-y) hd he hd2 he2 hx (by omega)
 refine ⟨n,?_,?_⟩
 ·unfold He
  rw [Aml,Ah,h1,Ah]
 ·rwa [Int.neg_mul,← Int.sub_eq_add_neg] at h2
theorem Aiw {n:Aj} {z:Int} {d:Nat} (h:FrIs n z d):Dk n=some (Int.sign z):=by
 unfold Dk
 rw [h.num]
 by_cases h0:z=0
 ·subst h0;rfl
 ·have:(L32 z.natAbs).length≠0:=fun e=>h0 (by have:=Mc.1 e;omega)
  rw [if_neg (by omega),h.neg h0]
  by_cases h1:z < 0
  ·rw [if_pos (by simpa using h1),Int.sign_eq_neg_one_of_neg h1]
  ·rw [if_neg (by simpa using h1),Int.sign_eq_one_of_pos (by omega)]
theorem Aqk {x y:Int} {d e:Nat} (hd:0 < d) (he:0 < e) (hd2:d < 4294967296) (he2:e < 4294967296) (hx:x.natAbs < 1000000000000000000000000000) (hy:y.natAbs < 1000000000000000000000000000) :
  Iz (CN x d) (CN y e)=some (Int.sign (x*e-y*d)):=by
 obtain ⟨n,h1,h2⟩:=Amm (x:=x) (y:=y) hd he hd2 he2 hx hy
 unfold Iz
 rw [h1,Ah,Aiw h2,Ah]
theorem Aix {x y:Int} (h:x*y≠0):(!(decide (x < 0) == decide (y < 0)))=decide (x*y < 0):=by
 have hx:x≠0:=fun e=>h (by rw [e,Int.zero_mul])
 have hy:y≠0:=fun e=>h (by rw [e,Int.mul_zero])
 rcases Int.lt_or_gt_of_ne hx with h1 | h1 <;> rcases Int.lt_or_gt_of_ne hy with h2 | h2
 ·have:=Int.mul_pos_of_neg_of_neg h1 h2
  simp [h1,h2];omega
 ·have:=Int.mul_neg_of_neg_of_pos h1 h2
  rw [decide_eq_true h1,decide_eq_false (by omega),decide_eq_true this];rfl
 ·have:=Int.mul_neg_of_pos_of_neg h1 h2
  rw [decide_eq_false (by omega),decide_eq_true h2,decide_eq_true this];rfl
 ·have:=Int.mul_pos h1 h2
  rw [decide_eq_false (by omega),decide_eq_false (by omega),decide_eq_false (by omega)];rfl
theorem Aql {x y:Int} {d e:Nat} (hd2:d < 4294967296) (he2:e < 4294967296) (hx:x.natAbs < 1000000000000000000000000000) (hy:y.natAbs < 1000000000000000000000000000) :
  ∃ n,Db (CN x d) (CN y e)=some n∧FrIs n (x*y) (d*e):=by
 have lx:=Ub (a:=x.natAbs) (by omega)
 have ly:=Ub (a:=y.natAbs) (by omega)
 have ld:=Uc hd2
 have le:=Uc he2
 unfold Db CN
 dsimp only
 rw [Ts (by omega),Ah,Ts (by omega),Ah]
 exact ⟨_,rfl,by rw [Int.natAbs_mul],rfl,fun h0=>Aix h0⟩
theorem Aqm {x y:Int} {d e:Nat} (hy0:0 < y) (hd2:d < 4294967296) (he2:e < 4294967296) (he:0 < e) (hx:x.natAbs < 1000000000000000000000000000) (hy:y.natAbs < 1000000000000000000000000000) :
  ∃ n,Iy (CN x d) (CN y e)=some n∧FrIs n (x*e) (d*y.natAbs):=by
 have lx:=Ub (a:=x.natAbs) (by omega)
 have ly:=Ub (a:=y.natAbs) (by omega)
 have ld:=Uc hd2
 have le:=Uc he2
 unfold Iy CN
 dsimp only
 rw [Ts (by omega),Ah,Ts (by omega),Ah]
 refine ⟨_,rfl,by rw [Int.natAbs_mul,Int.natAbs_natCast],rfl,fun h0=>?_⟩
 have:=Aix (x:=x) (y:=y) (fun h=>by
  rcases Int.mul_eq_zero.1 h with h | h
  ·rw [h,Int.zero_mul] at h0;exact h0 rfl
  ·omega)
 rw [decide_eq_false (show ¬ y < 0 by omega)] at this ⊢
 rw [← Aer he]
 cases decide (x < 0) <;> rfl
end Go.Proofs.YtbkobeeileemjaaGreat
