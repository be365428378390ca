/- Plain laws on the program's fractions, whose denominators have one word. -/
import Derived.Test.YtjfndjmabhbicaaGreatZ2
import Derived.Test.YtjfndjmabhbicaaGreatEs
namespace Go.Proofs.YtjfndjmabhbicaaGreat
open Go Go.RowKit
structure FrIs (n:Av) (z:Int) (d:Nat):Prop where
 num:n.n=L32 z.natAbs
 den:n.d=L32 d
 neg:z≠0->n.neg=decide (z < 0)
def CN (z:Int) (d:Nat):Av:=⟨decide (z < 0),L32 z.natAbs,L32 d⟩
def CR (z:Int) (d:Nat):As:=⟨decide (z < 0),L32 z.natAbs,if d=1 then [] else L32 d⟩
theorem FrIs.eq {n:Av} {z:Int} {d:Nat} (h:FrIs n z d) (h0:z≠0):n=CN z d:=by
 obtain ⟨s,a,e⟩:=n
 obtain ⟨h1,h2,h3⟩:=h
 simp only at h1 h2 h3
 rw[h1,h2,h3 h0];rfl
structure Red (z:Int) (d:Nat) (c:Int) (e:Nat):Prop where
 g:∃ g:Nat,0 < g/\z=(g:Int)*c/\d=g*e
 co:Nat.gcd c.natAbs e=1
 pos:0 < e
theorem Red.le {z c:Int} {d e:Nat} (h:Red z d c e):e<=d/\c.natAbs<=z.natAbs:=by
 obtain ⟨⟨g,hg,h1,h2⟩,_,_⟩:=h
 constructor
 ·rw[h2];exact Nat.le_mul_of_pos_left _ hg
 ·rw[h1,Int.natAbs_mul,Int.natAbs_natCast];exact Nat.le_mul_of_pos_left _ hg
theorem Red.id {z:Int} {d:Nat} (h:Nat.gcd z.natAbs d=1) (hd:0 < d):Red z d z d:=⟨⟨1,by omega,by simp,by simp⟩,h,hd⟩
theorem Abc {a:Nat} (h:a < 340282366920938463463374607431768211456):(dig 4294967296 a).length<=4:=Yt (by omega) 4 _ (by
 have:(4294967296:Nat) ^ 4=340282366920938463463374607431768211456:=by decide
 omega)
theorem Ac3 {a:Nat} (h:a < 4294967296):(dig 4294967296 a).length<=1:=Yt (by omega) 1 _ (by omega)
theorem Wa (a:Nat):(L32 a).length=(dig 4294967296 a).length:=Cc
theorem Ac4 (g:Nat) (c:Int):((g:Int)*c).natAbs=g*c.natAbs:=by rw[Int.natAbs_mul,Int.natAbs_natCast]
theorem Akc {g:Nat} (hg:0 < g) (c:Int):((g:Int)*c < 0)↔c < 0:=by
 constructor
 ·intro h
  refine Classical.byContradiction fun h1=>?_
  have:=Int.mul_nonneg (show (0:Int)<=g by omega) (show 0<=c by omega)
  omega
 ·intro h
  exact Int.mul_neg_of_pos_of_neg (by omega) h
theorem Aaf {n:Av} {z c:Int} {d e:Nat} (hn:FrIs n z d) (hz:z.natAbs < 340282366920938463463374607431768211456) (hd2:d < 4294967296) (hr:Red z d c e):Gb n=some (CN c e):=by
 obtain ⟨⟨g,hg,h1,h2⟩,hco,he⟩:=hr
 have hd:0 < d:=by rw[h2];exact Nat.mul_pos hg he
 unfold Gb
 by_cases h0:z=0
 ·have c0:c=0:=by
   rcases Int.mul_eq_zero.1 (h1.symm.trans h0) with h | h
   ·omega
   ·exact h
  subst h0
  subst c0
  have e1:e=1:=by simpa using hco
  subst e1
  rw[hn.num,if_pos (by rw[show (0:Int).natAbs=0 from rfl,(Yh (a:=0)).2 rfl];rfl),oneW]
  unfold CN
  rw[show (L32 (0:Int).natAbs)=[] from List.length_eq_zero_iff.1 ((Yh (a:=0)).2 rfl)]
  rfl
 ·have hne:(L32 z.natAbs).length≠0:=fun h=>h0 (by have:=Yh.1 h;omega)
  have hl:=Abc hz
  have hgd:Nat.gcd z.natAbs d=g:=by
   rw[h1,h2,Ac4,Nat.gcd_mul_left,hco,Nat.mul_one]
  have gle:g<=d:=by rw[h2];exact Nat.le_mul_of_pos_right _ he
  have hz':z.natAbs / g=c.natAbs:=by rw[h1,Ac4,Nat.mul_div_cancel_left _ hg]
  have hd':d / g=e:=by rw[h2,Nat.mul_div_cancel_left _ hg]
  have hneg:decide (z < 0)=decide (c < 0):=by
   have:=Akc hg c
   rw[<- h1] at this
   exact decide_eq_decide.2 this
  rw[hn.eq h0]
  unfold CN
  dsimp only
  rw[if_neg (by omega),Bbd (by omega) hd2,Ad,jn_d,hgd,Wb hg (by omega),if_pos (by simp),show idx [(g:Int)] 0=some (g:Int) from rfl,Ad]
  dsimp only
  by_cases c1:g=1
  ·rw[if_pos (by simp[c1])]
   rw[c1,Nat.div_one] at hz' hd'
   rw[hneg,hz',hd']
  ·rw[if_neg (by simp;omega),<- Wb hg (by omega),As1 (by omega) hg (by omega),Ad,As1 (Nat.le_trans (Ac3 hd2) (by omega)) hg (by omega),Ad]
   dsimp only
   rw[hneg,hz',hd']
theorem Anz {α:Type} (l ys:List α) (h:l.length=ys.length):cpy l 0 ys=ys:=by
 unfold cpy
 simp[h]
theorem Aih {n:Av} {z c:Int} {d e:Nat} (hn:FrIs n z d) (hz:z.natAbs < 340282366920938463463374607431768211456) (hd2:d < 4294967296) (hr:Red z d c e):Hv n=some (CR c e,0):=by
 obtain ⟨le1,le2⟩:=hr.le
 have l1:=Abc (a:=c.natAbs) (by omega)
 have l2:=Ac3 (a:=e) (by omega)
 have he:=hr.pos
 unfold Hv
 rw[Aaf hn hz hd2 hr,Ad,jn_d]
 unfold CN CR
 dsimp only
 rw[Wa,Wa,if_neg (by omega),if_neg (by simp;omega),jn_d,gd_t ⟨by omega,by omega⟩]
 dsimp only
 rw[jn_d]
 dsimp only
 rw[jn_d,if_neg (by omega),Wb he (by omega),show idx [(e:Int)] 0=some (e:Int) from rfl,Ad]
 dsimp only
 rw[Anz _ _ (by simp[Wa])]
 by_cases c1:e=1
 ·rw[if_neg (by simp[c1]),if_pos c1]
 ·rw[if_pos (by simp;omega),gd_t ⟨by omega,by simp;omega⟩,if_neg c1,Anz _ _ (by simp[<- Wa,Wb he (show e < 4294967296 by omega)])]
theorem of_eq {z:Int} {d:Nat} (hz:z.natAbs < 340282366920938463463374607431768211456) (hd2:d < 4294967296) (hd:0 < d) (co:Nat.gcd z.natAbs d=1):Qp (CR z d)=some (CN z d):=by
 have l1:=Abc hz
 unfold Qp CR
 dsimp only
 by_cases c1:d=1
 ·rw[if_pos c1,Ajd,Ad,jn_d,if_pos (by simp)]
  dsimp only
  rw[Ad5 _ (by omega),Ad,Aaf (n:=⟨decide (z < 0),L32 z.natAbs,[1]⟩) ⟨rfl,by rw[c1,<- oneW],fun _=>rfl⟩ hz hd2 (Red.id co hd),Ad]
 ·rw[if_neg c1,Ad5 _ (Nat.le_trans (Ac3 hd2) (by omega)),Ad,jn_d,if_neg (by rw[Wb hd hd2];simp)]
  dsimp only
  rw[Ad5 _ (by omega),Ad,Aaf (n:=⟨decide (z < 0),L32 z.natAbs,L32 d⟩) ⟨rfl,rfl,fun _=>rfl⟩ hz hd2 (Red.id co hd),Ad]
theorem Abd {z:Int} {d:Nat} (hz:z.natAbs < 340282366920938463463374607431768211456) (hd2:d < 4294967296):Mn (CR z d)=some false:=by
 have l1:=Abc hz
 have l2:=Ac3 hd2
 unfold Mn CR
 dsimp only
 rw[jn_d,Ad5 _ (by omega),Ad,Wa,if_neg (by omega)]
 by_cases c1:d=1
 ·rw[if_pos c1,Ajd,Ad];rfl
 ·rw[if_neg c1,Ad5 _ (by omega),Ad,Wa,decide_eq_false (by omega)]
theorem An0 {a b:As} (ha:Mn a=some false) (hb:Mn b=some false):Ke [a,b]=some false:=by
 unfold Ke
 rw[jn_d,Bk]
 have h1:Es [a,b] 0=some (.inl 1):=by
  unfold Es
  rw[if_pos (by simp),show idx [a,b] 0=some a from rfl,Ad,ha,Ad,if_neg (by simp)]
  rfl
 have h2:Es [a,b] 1=some (.inl 2):=by
  unfold Es
  rw[if_pos (by simp),show idx [a,b] 1=some b from rfl,Ad,hb,Ad,if_neg (by simp)]
  rfl
 have h3:Es [a,b] 2=some (.inr (.inl ())):=by
  unfold Es
  rw[if_neg (by simp)]
 rw[h1]
 dsimp only
 rw[Bk,h2]
 dsimp only
 rw[Bk,h3]
 rfl
theorem An1 {x:Int} {e:Nat} (he:0 < e):decide (x < 0)=decide (x*(e:Int) < 0):=by
 have:=Akc he x
 rw[Int.mul_comm] at this
 exact (decide_eq_decide.2 this).symm
theorem Ayl {x y:Int} {d e:Nat} (hd:0 < d) (he:0 < e) (hd2:d < 4294967296) (he2:e < 4294967296) (hx:x.natAbs < 85070591730234615865843651857942052864) (hy:y.natAbs < 85070591730234615865843651857942052864) :
  ∃ n,Fv (CN x d) (CN y e)=some n/\FrIs n (x*e+y*d) (d*e):=by
 have lx:=Abc (a:=x.natAbs) (by omega)
 have ly:=Abc (a:=y.natAbs) (by omega)
 have ld:=Ac3 hd2
 have le:=Ac3 he2
 have aX:(x*(e:Int)).natAbs=x.natAbs*e:=by rw[Int.natAbs_mul,Int.natAbs_natCast]
 have aY:(y*(d:Int)).natAbs=y.natAbs*d:=by rw[Int.natAbs_mul,Int.natAbs_natCast]
 have e1:(CN x d).neg=decide (x*(e:Int) < 0):=An1 he
 have e2:(CN y e).neg=decide (y*(d:Int) < 0):=An1 hd
 have lX:(dig 4294967296 (x*(e:Int)).natAbs).length<=5:=by
  rw[aX]
  refine Yt (by omega) 5 _ ?_
  have h1:(4294967296:Nat) ^ 5=1461501637330902918203684832716283019655932542976:=by decide
  have h2:x.natAbs*e<=85070591730234615865843651857942052864*4294967296:=Nat.mul_le_mul (by omega) (by omega)
  omega
 have lY:(dig 4294967296 (y*(d:Int)).natAbs).length<=5:=by
  rw[aY]
  refine Yt (by omega) 5 _ ?_
  have h1:(4294967296:Nat) ^ 5=1461501637330902918203684832716283019655932542976:=by decide
  have h2:y.natAbs*d<=85070591730234615865843651857942052864*4294967296:=Nat.mul_le_mul (by omega) (by omega)
  omega
 unfold Fv
 rw[show Co (CN x d).n (CN y e).d=some (L32 (x*(e:Int)).natAbs) from by rw[aX];exact Aby (by omega),Ad,show Co (CN y e).n (CN x d).d=some (L32 (y*(d:Int)).natAbs) from by rw[aY];exact Aby (by omega),Ad,
  show Co (CN x d).d (CN y e).d=some (L32 (d*e)) from Aby (by omega),Ad,e1,e2]
 generalize x*(e:Int)=X at *
 generalize y*(d:Int)=Y at *
 by_cases hs:(X < 0↔Y < 0)
 ·refine ⟨⟨decide (X < 0),L32 (X+Y).natAbs,L32 (d*e)⟩,?_,⟨rfl,rfl,fun h0=>?_⟩⟩
  ·rw[if_pos (by by_cases h1:X < 0 <;> simp[h1] <;> omega),Arj (by omega) (by omega),Ad,show X.natAbs+Y.natAbs=(X+Y).natAbs by omega]
  ·by_cases h1:X < 0
   ·rw[decide_eq_true h1,decide_eq_true (by omega)]
   ·rw[decide_eq_false h1,decide_eq_false (by omega)]
 ·rw[if_neg (by by_cases h1:X < 0 <;> simp[h1] <;> omega),Alb _ _ (by omega),Ad]
  by_cases hc:Y.natAbs<=X.natAbs
  ·refine ⟨⟨decide (X < 0),L32 (X+Y).natAbs,L32 (d*e)⟩,?_,⟨rfl,rfl,fun h0=>?_⟩⟩
   ·rw[if_pos (by unfold cmpN;split <;> (try split) <;> omega),Ahm (by omega) hc,Ad,show X.natAbs-Y.natAbs=(X+Y).natAbs by omega]
   ·by_cases h1:X < 0
    ·rw[decide_eq_true h1,decide_eq_true (by omega)]
    ·rw[decide_eq_false h1,decide_eq_false (by omega)]
  ·refine ⟨⟨decide (Y < 0),L32 (X+Y).natAbs,L32 (d*e)⟩,?_,⟨rfl,rfl,fun h0=>?_⟩⟩
   ·rw[if_neg (by unfold cmpN;split <;> (try split) <;> omega),Ahm (by omega) (by omega),Ad,show Y.natAbs-X.natAbs=(X+Y).natAbs by omega]
   ·by_cases h1:Y < 0
    ·rw[decide_eq_true h1,decide_eq_true (by omega)]
    ·rw[decide_eq_false h1,decide_eq_false (by omega)]
theorem Avl {x y:Int} (h:x*y≠0):(!(decide (x < 0) == decide (y < 0)))=decide (x*y < 0):=by
 have hx:x≠0:=fun e=>h (by rw[e,Int.zero_mul])
 have hy:y≠0:=fun e=>h (by rw[e,Int.mul_zero])
 rcases Int.lt_or_gt_of_ne hx with h1 | h1 <;> rcases Int.lt_or_gt_of_ne hy with h2 | h2
 ·have:=Int.mul_pos_of_neg_of_neg h1 h2
  simp[h1,h2];omega
 ·have:=Int.mul_neg_of_neg_of_pos h1 h2
  rw[decide_eq_true h1,decide_eq_false (by omega),decide_eq_true this];rfl
 ·have:=Int.mul_neg_of_pos_of_neg h1 h2
  rw[decide_eq_false (by omega),decide_eq_true h2,decide_eq_true this];rfl
 ·have:=Int.mul_pos h1 h2
  rw[decide_eq_false (by omega),decide_eq_false (by omega),decide_eq_false (by omega)];rfl
theorem Aym {x y:Int} {d e:Nat} (hd2:d < 4294967296) (he2:e < 4294967296) (hx:x.natAbs < 1000000000000000000000000000) (hy:y.natAbs < 1000000000000000000000000000) :
  ∃ n,Dv (CN x d) (CN y e)=some n/\FrIs n (x*y) (d*e):=by
 have lx:=Abc (a:=x.natAbs) (by omega)
 have ly:=Abc (a:=y.natAbs) (by omega)
 have ld:=Ac3 hd2
 have le:=Ac3 he2
 unfold Dv CN
 dsimp only
 rw[Aby (by omega),Ad,Aby (by omega),Ad]
 exact ⟨_,rfl,by rw[Int.natAbs_mul],rfl,fun h0=>Avl h0⟩
def Q1 (z:Int):Am:=⟨Z16 z,[1]⟩
def okD (z:Int):Prop:=(dig 65536 z.natAbs).length<=1000
theorem Iz {z:Int} (h:z.natAbs < 1461501637330902918203684832716283019655932542976):okD z:=by
 unfold okD
 have:=Ael (m:=z.natAbs) (k:=10) (by omega)
 omega
theorem Avm {a:Nat} (h:(dig 65536 a).length<=1000000):Hf (L16 a) 1=some (L16 a,0):=by
 have:=Avr (dig 65536 a) 1 Zu (by omega) (by omega) h
 rw[Ee (by omega),Nat.div_one,Nat.mod_one] at this
 exact this
theorem Ae7 {a:Nat} (h:(dig 65536 a).length<=1000000):Er (L16 a) [1]=some (L16 a,[]):=by
 unfold Er
 have e:=Aw6 a 1 h
 rw[<- Anc] at e
 rw[e,Ad]
 unfold cmpN
 by_cases h1:a < 1
 ·obtain rfl:a=0:=by omega
  rw[if_pos (by simp)];rfl
 ·have h2:¬ (if a < 1 then (-1:Int) else if a=1 then 0 else 1) < 0:=by
   rw[if_neg h1];split <;> omega
  rw[if_neg h2,if_pos (by simp),show idx ([1]:List Int) 0=some 1 from rfl,Ad,Avm h,Ad,Ajn (by omega) (by omega),Ad]
  rfl
theorem Ba4 {a:Nat} (h:(dig 65536 a).length<=1000000):Mh (L16 a) [1]=some [1]:=by
 unfold Mh
 have s1:Ic (L16 a,[1])=some (.inl ([1],[])):=by
  unfold Ic
  rw[if_pos (by simp),Ae7 h,Ad]
 have s2:Ic ([1],[])=some (.inr [1]):=by
  unfold Ic
  rw[if_neg (by simp)]
 rw[jn_d,Bk,s1]
 dsimp only
 rw[Bk,s2]
 rfl
theorem An2 {m:Nat}:decide (0 < (((L16 m).length:Nat):Int))=decide (m≠0):=by
 have:=Ahz (a:=m)
 by_cases h:m=0
 ·rw[decide_eq_false (by have:=this.2 h;omega),decide_eq_false (by simp[h])]
 ·rw[decide_eq_true (by have h2:(L16 m).length≠0:=fun e=>h (this.1 e);omega),decide_eq_true h]
theorem Aii {n:Int} (h:okD n):Fd (Z16 n) ⟨false,[1]⟩=some (Q1 n):=by
 have h1:=Ae7 (a:=1) (by rw[Abh (by omega)];simp)
 rw[<- Anc] at h1
 unfold okD at h
 unfold Fd
 simp only[Ajo,jn_d,Oc]
 rw[Ba4 (by omega),Ad,Ae7 (by omega),Ad,h1,Ad]
 dsimp only
 unfold Q1 Z16
 rw[An2]
 by_cases hn:n < 0
 ·rw[decide_eq_true hn,if_pos rfl,decide_eq_true (show n.natAbs≠0 by omega)]
 ·rw[decide_eq_false hn,if_neg Bool.false_ne_true]
theorem Ba5:(⟨false,[1]⟩:Ai)=Z16 1:=by
 unfold Z16
 rw[show (1:Int).natAbs=1 from rfl,<- Anc];rfl
theorem An3:(dig 65536 1).length<=1:=by rw[Abh (by omega)];simp
theorem Ag1 {x:Int} (h:okD x):Ds (Z16 x) ⟨false,[1]⟩=some (Z16 x):=by
 unfold okD at h
 have:=An3
 rw[Ba5,Aw7 (by rw[show (1:Int).natAbs=1 from rfl];omega),Int.mul_one]
theorem Akd:Ef [1] [1]=some [1]:=by
 have:=An3
 rw[Anc,And (by omega)]
theorem addQ {x y:Int} (hx:okD x) (hy:okD y) (h:okD (x+y)):Hg (Q1 x) (Q1 y)=some (Q1 (x+y)):=by
 have a1:=hx;have a2:=hy
 unfold okD at a1 a2
 unfold Hg Q1
 dsimp only
 rw[Ag1 hx,Ad,Ag1 hy,Ad,Baz (by omega) (by omega),Ad,Akd,Ad,Aii h,Ad]
 rfl
theorem mulQ {x y:Int} (hx:okD x) (hy:okD y) (h:okD (x*y)):Hj (Q1 x) (Q1 y)=some (Q1 (x*y)):=by
 have a1:=hx;have a2:=hy
 unfold okD at a1 a2
 unfold Hj Q1
 dsimp only
 rw[Aw7 (by omega),Ad,Akd,Ad,Aii h,Ad]
 rfl
theorem Ayn {z:Int}:Hx (Z16 z)=some (Z16 (-z)):=by
 unfold Hx
 simp only[jn_d,Oc,Ajo,An2]
 unfold Z16
 rw[Int.natAbs_neg]
 by_cases h:z < 0
 ·rw[if_pos (by simpa using h),decide_eq_false (by omega)]
 ·rw[if_neg (by simpa using h)]
  congr 2
  by_cases h0:z=0
  ·subst h0;rfl
  ·rw[An2,decide_eq_true (show z.natAbs≠0 by omega),decide_eq_true (show -z < 0 by omega)]
theorem Avn {z:Int} (h:okD z):okD (-z):=by unfold okD at *;rw[Int.natAbs_neg];exact h
theorem subQ {x y:Int} (hx:okD x) (hy:okD y) (h:okD (x-y)):Hh (Q1 x) (Q1 y)=some (Q1 (x-y)):=by
 unfold Hh Mz
 have e:(Q1 y).N=Z16 y:=rfl
 rw[e,Ayn,Ad,Ad]
 have:=addQ hx (Avn hy) (by rw[<- Int.sub_eq_add_neg];exact h)
 unfold Q1 at *
 dsimp only
 rw[this,Ad,<- Int.sub_eq_add_neg]
theorem Ba6 {z:Int}:Is (Z16 z)=some z.sign:=by
 unfold Is
 have:=Ahz (a:=z.natAbs)
 rw[Ajo,Oc]
 by_cases h0:z=0
 ·subst h0;rfl
 ·rw[if_neg (fun e=>h0 (by have:=this.1 (by omega);omega))]
  by_cases h:z < 0
  ·rw[if_pos (by simpa using h),Int.sign_eq_neg_one_of_neg h]
  ·rw[if_neg (by simpa using h),Int.sign_eq_one_of_pos (by omega)]
theorem cmpQ {x y:Int} (hx:okD x) (hy:okD y) (h:okD (x-y)):Mi (Q1 x) (Q1 y)=some (x-y).sign:=by
 unfold Mi
 rw[subQ hx hy h,Ad,show (Q1 (x-y)).N=Z16 (x-y) from rfl,Ba6,Ad]
theorem Aag {z:Int} (h1:-9223372036854775808<=z) (h2:z<=9223372036854775807):Cj z=some (Q1 z):=by
 unfold Cj;rw[Ajn h1 h2,Ad];rfl
theorem Ast {b m:Nat} (hb:2<=b) (h:0 < (dig b m).length):∃ h':(dig b m).length-1 < (dig b m).length,(dig b m)[(dig b m).length-1]≠0:=by
 refine ⟨by omega,?_⟩
 have h1:=(An9 hb ((dig b m).length-1) m).1 (by omega)
 have h2:¬ (dig b m).length < (dig b m).length:=by omega
 have h3:=fun e=>h2 ((An9 hb (dig b m).length m).2 e)
 have h4:m / b ^ (dig b m).length=0:=Decidable.byContradiction h3
 rw[Avu hb]
 intro e
 have e2:=Nat.div_add_mod (m / b ^ ((dig b m).length-1)) b
 rw[e,Nat.div_div_eq_div_mul,<- Nat.pow_succ,show ((dig b m).length-1).succ=(dig b m).length by omega,h4] at e2
 omega
def lim (l:List Nat):List Nat:=l.flatMap fun x=>[x % 65536,x / 65536]
theorem An4:∀ (l:List Nat),val 65536 (lim l)=val 4294967296 l
 | []=>rfl
 | x::r=>by
  have ih:=An4 r
  unfold lim at *
  rw[List.flatMap_cons,Te]
  show (x % 65536+65536*(x / 65536+65536*0))+65536 ^ 2*_=x+4294967296*_
  rw[ih]
  generalize val 4294967296 r=v
  omega
theorem Ayo {l:List Nat} (h:∀ x∈l,x < 4294967296):∀ x∈lim l,x < 65536:=fun x hx=>by
 obtain ⟨y,hy,hx⟩:=List.mem_flatMap.1 hx
 have:=h y hy
 simp at hx
 omega
theorem Aij:∀ (l:List Nat),(lim l).length=2*l.length
 | []=>rfl
 | x::r=>by
  have ih:=Aij r
  unfold lim at *
  rw[List.flatMap_cons,List.length_append,ih,List.length_cons,List.length_cons,List.length_cons,List.length_nil]
  omega
theorem Ayp (a b:List Nat):nI a++nI b=nI (a++b):=by unfold nI;rw[List.map_append]
theorem Asu (l:List Nat) (x:Nat):lim (l++[x])=lim l++[x % 65536,x / 65536]:=by unfold lim;rw[List.flatMap_append];rfl
theorem Al2 (l:List Nat) (hl:∀ x∈l,x < 4294967296) (h:l.length<=256) :
  lfix (Iu ((l.length:Nat):Int) (nI l)) ([],0)=some (nI (lim l)):=by
 obtain ⟨t,ht,rfl⟩:=Bl (B:=Iu ((l.length:Nat):Int) (nI l)) (fun s=>((l.length:Nat):Int).toNat-s.2.toNat)
  (fun s=>∃ k:Nat,k<=l.length/\s=(nI (lim (l.take k)),(k:Int))) (fun t=>t=nI (lim l)) (by
   rintro s ⟨k,hk,rfl⟩
   unfold Iu
   by_cases hk':k < l.length
   ·left
    have hx:=hl _ (List.getElem_mem hk')
    refine ⟨_,?_,⟨k+1,by omega,rfl⟩,by omega⟩
    have len:=Aij (l.take k)
    rw[List.length_take] at len
    dsimp only
    rw[if_pos (by omega),Ey hk',Ad,Ad,gd_t (by rw[Cc,len];omega),Be (by omega)]
    have e1:w64 (Int.tmod ((l[k]:Nat):Int) 65536)=((l[k] % 65536:Nat):Int):=by rw[Ahx,Pw (by omega)]
    have e2:w64 (wu32 (Int.tdiv ((l[k]:Nat):Int) 65536))=((l[k] / 65536:Nat):Int):=by rw[Ahy,Ad4 (by omega),Pw (by omega)]
    rw[List.take_succ_eq_append_getElem hk',Asu,<- Ayp]
    have e3:([w64 (Int.tmod ((l[k]:Nat):Int) 65536),w64 (wu32 (Int.tdiv ((l[k]:Nat):Int) 65536))]:List Int)=nI [l[k] % 65536,l[k] / 65536]:=by rw[e1,e2];rfl
    rw[<- e3]
   ·right
    obtain rfl:k=l.length:=by omega
    rw[List.take_length]
    exact ⟨_,by dsimp only;rw[if_neg (by omega)],rfl⟩) ([],0) ⟨0,by omega,by simp[lim,nI]⟩
 exact ht
theorem An5 {m:Nat} (h:(dig 4294967296 m).length<=256):Fo (L32 m)=some (L16 m,true):=by
 have hl:∀ x∈dig 4294967296 m,x < 4294967296:=Aai (by omega) m
 have e1:lfix (It (L32 m)) (((L32 m).length:Nat):Int)=some (((dig 4294967296 m).length:Nat):Int):=by
  have hs:It (L32 m) (((dig 4294967296 m).length:Nat):Int)=some (.inr (((dig 4294967296 m).length:Nat):Int)):=by
   unfold It
   rw[jn_d]
   by_cases h0:0 < (dig 4294967296 m).length
   ·obtain ⟨h1,h2⟩:=Ast (by omega) h0
    unfold L32
    rw[if_pos (by omega),Ay (by omega) (by omega),show (((dig 4294967296 m).length:Nat):Int)-1=(((dig 4294967296 m).length-1:Nat):Int) by omega,Ey h1,Ad,decide_eq_false (by omega)]
    rfl
   ·rw[if_neg (by omega)]
    rfl
  rw[Wa,Bk,hs]
 unfold Fo
 rw[jn_d,e1,Ad]
 dsimp only
 rw[if_neg (by omega),jn_d]
 unfold L32
 rw[Al2 _ hl h,Ad]
 dsimp only
 rw[Aa4 _ (by rw[Aij];omega),Ad,Sb (by omega) _ (Ayo hl),An4,Ee (by omega)]
 rfl
theorem of_1 {z:Int} (h:z.natAbs < 340282366920938463463374607431768211456):Pq (CR z 1)=some (Q1 z,true):=by
 have hd:=Abc h
 have hk:okD z:=Iz (by omega)
 have e0:Fo []=some ([],true):=An5 (m:=0) (by simp[Nj])
 unfold Pq CR
 dsimp only
 rw[if_pos rfl,An5 (by omega),Ad,e0,Ad,jn_d,if_pos rfl]
 dsimp only
 rw[if_neg (by simp),jn_d,if_pos (by simp)]
 dsimp only
 rw[jn_d]
 have hz:z < 0->(⟨decide (0 < (((L16 z.natAbs).length:Nat):Int)),L16 z.natAbs⟩:Ai)=Z16 z:=fun hn=>by
  unfold Z16
  rw[An2,decide_eq_true hn,decide_eq_true (by omega)]
 have hz2:¬ z < 0->(⟨false,L16 z.natAbs⟩:Ai)=Z16 z:=fun hn=>by
  unfold Z16
  rw[decide_eq_false hn]
 by_cases hn:z < 0
 ·rw[decide_eq_true hn,if_pos rfl,hz hn,Aii hk,Ad]
 ·rw[decide_eq_false hn,if_neg Bool.false_ne_true,hz2 hn,Aii hk,Ad]
theorem Uz {z:Int} (h:z.natAbs < 340282366920938463463374607431768211456):Cd (CR z 1) (Q1 z)=some true:=by
 have hk:okD z:=Iz (by omega)
 unfold Cd
 rw[of_1 h,Ad,jn_d,if_pos rfl,cmpQ hk hk (by rw[Int.sub_self];exact Iz (by decide)),Ad,Int.sub_self]
 rfl
theorem CR_0:CR 0 1=⟨false,[],[]⟩:=by unfold CR;rfl
theorem Ayq:Kv ⟨false,[],[]⟩=some true:=by
 unfold Kv
 rw[Aag (by omega) (by omega),Ad,<- CR_0,Uz (by decide),Ad]
structure Sm (z:Int) (d:Nat):Prop where
 co:Nat.gcd z.natAbs d=1
 pos:0 < d
 d2:d < 4294967296
 n2:z.natAbs < 100000000000000000
theorem Sm.quo {z:Int} {d:Nat} (h:Sm z d):z.natAbs / d < 4611686018427387904/\-1152921504606846976<=z / (d:Int)/\z / (d:Int)<=1152921504606846976:=by
 have h2:=h.n2
 have hd:=h.pos
 have:=Nat.div_le_self z.natAbs d
 refine ⟨by omega,?_,?_⟩
 ·refine Int.le_trans (by omega) (Int.le_ediv_of_mul_le (c:=(d:Int)) (a:=-1000000000000000000) (by omega) ?_)
  have:=Int.mul_le_mul_of_nonneg_left (show (1:Int)<=d by omega) (show (0:Int)<=1000000000000000000 by omega)
  omega
 ·have:=Int.ediv_le_ediv (show (0:Int) < d by omega) (show z<=1000000000000000000*(d:Int) by
   have:=Int.mul_le_mul_of_nonneg_left (show (1:Int)<=d by omega) (show (0:Int)<=1000000000000000000 by omega)
   omega)
  rw[Int.mul_ediv_cancel _ (by omega)] at this
  omega
theorem Sm.neg {z:Int} {d:Nat} (h:Sm z d):Sm (-z) d:=⟨by rw[Int.natAbs_neg];exact h.co,h.pos,h.d2,by rw[Int.natAbs_neg];exact h.n2⟩
theorem Sm.one {x:Int} (h:x.natAbs < 100000000000000000):Sm x 1:=⟨Nat.gcd_one_right _,by omega,by omega,h⟩
theorem Al3 {x:Int} (h1:-9223372036854775808<=x) (h2:x<=9223372036854775807):Ps x=some (CR x 1):=by
 obtain ⟨n,e,hn⟩:=Al9 h1 h2
 unfold Ps
 rw[e,Ad,Aih (z:=x) (d:=1) (c:=x) (e:=1) ⟨hn.num,by rw[hn.den,oneW],hn.neg⟩ (by omega) (by omega) (Red.id (Nat.gcd_one_right _) (by omega)),Ad]
theorem Al4 (k:Dj) {x:Int} (h1:-9223372036854775808<=x) (h2:x<=9223372036854775807):Ll k x=some (CR x 1):=by
 unfold Ll
 rw[Al3 h1 h2,Ad]
theorem Asv (a:Int):shr_ .i64 a 30=a / 1073741824:=by
 unfold shr_
 rw[show (2:Int) ^ (min (30:Int).toNat IntKind.i64.bits)=1073741824 from by decide,Int.fdiv_eq_ediv_of_nonneg _ (by omega)]
theorem Asw (a:Int):Px .i64 a 1073741823=a % 1073741824:=by
 unfold Px
 have h1:(BitVec.ofInt 64 1073741823).toNat=2 ^ 30-1:=by decide
 have h2:(BitVec.ofInt 64 a).toNat=(a % 18446744073709551616).toNat:=by simp[BitVec.toNat_ofInt]
 have h3:(BitVec.ofInt IntKind.i64.bits a &&& BitVec.ofInt IntKind.i64.bits 1073741823).toNat=(a % 1073741824).toNat:=by
  show (BitVec.ofInt 64 a &&& BitVec.ofInt 64 1073741823).toNat=_
  rw[BitVec.toNat_and,h1,Nat.and_two_pow_sub_one_eq_mod,h2]
  omega
 rw[h3]
 show IntKind.wrap .i64 _=_
 rw[IntKind.wrap_i64]
 omega
def wval (w:Cl):Int:=w.high*1152921504606846976+w.middle*1073741824+w.low
structure Al5 (w:Cl) (n z:Int):Prop where
 val:wval w=z
 high:-(n*288230376151711744)<=w.high/\w.high<=n*288230376151711744
 middle:-(n*1152921504606846976)<=w.middle/\w.middle<=n*1152921504606846976
 low:0<=w.low/\w.low<=n*1152921504606846976
theorem Ae8 {w:Cl} {n z a b:Int} (h:Al5 w n z) (hn0:0<=n) (hn:n<=2) (ha1:-576460752303423488<=a) (ha2:a<=576460752303423488) (hb1:-576460752303423488<=b) (hb2:b<=576460752303423488) :
  ∃ w',El w a b=some w'/\Al5 w' (n+1) (z+a*b):=by
 obtain ⟨h0,h1,h2,h3⟩:=h
 unfold El
 rw[Asv,Asv,Asw,Asw]
 have ea:a=a / 1073741824*1073741824+a % 1073741824:=by omega
 have eb:b=b / 1073741824*1073741824+b % 1073741824:=by omega
 have A1:-536870912<=a / 1073741824/\a / 1073741824<=536870912:=by omega
 have B1:-536870912<=b / 1073741824/\b / 1073741824<=536870912:=by omega
 have A0:0<=a % 1073741824/\a % 1073741824<=1073741824:=by omega
 have B0:0<=b % 1073741824/\b % 1073741824<=1073741824:=by omega
 generalize a / 1073741824=a1 at *
 generalize b / 1073741824=b1 at *
 generalize a % 1073741824=a0 at *
 generalize b % 1073741824=b0 at *
 have p1:=mulB (x:=a1) (y:=b1) (M:=536870912) (N:=536870912) (by omega) (by omega) (by omega) (by omega) (by omega)
 have p2:=mulB (x:=a1) (y:=b0) (M:=536870912) (N:=1073741824) (by omega) (by omega) (by omega) (by omega) (by omega)
 have p3:=mulB (x:=a0) (y:=b1) (M:=1073741824) (N:=536870912) (by omega) (by omega) (by omega) (by omega) (by omega)
 have p4:=mulB (x:=a0) (y:=b0) (M:=1073741824) (N:=1073741824) (by omega) (by omega) (by omega) (by omega) (by omega)
 have p5:0<=a0*b0:=Int.mul_nonneg A0.1 B0.1
 have e:a*b=a1*b1*1152921504606846976+(a1*b0+a0*b1)*1073741824+a0*b0:=by
  rw[ea,eb];grind
 rw[Ay (x:=a1*b1) (by omega) (by omega),Ay (x:=a1*b0) (by omega) (by omega),Ay (x:=a0*b1) (by omega) (by omega),Ay (x:=a0*b0) (by omega) (by omega),
  Ay (x:=w.high+a1*b1) (by omega) (by omega),Ay (x:=w.middle+a1*b0) (by omega) (by omega),Ay (by omega) (by omega),Ay (by omega) (by omega)]
 refine ⟨_,rfl,?_,?_,?_,?_⟩
 ·unfold wval at h0 ⊢
  simp only
  omega
 ·simp only;omega
 ·simp only;omega
 ·simp only;omega
theorem Ae9 (z:Int):Ie z=some (Int.sign z):=by
 unfold Ie
 by_cases h:z < 0
 ·rw[if_pos h,Int.sign_eq_neg_one_of_neg h]
 ·rw[if_neg h]
  by_cases h2:0 < z
  ·rw[if_pos h2,Int.sign_eq_one_of_pos h2]
  ·rw[if_neg h2,show z=0 by omega];rfl
theorem Apx {w:Cl} {z:Int} (h:Al5 w 3 z):Ht w=some (Int.sign z):=by
 obtain ⟨h0,h1,h2,h3⟩:=h
 unfold Ht
 simp only[Asv,Asw]
 have e1:w.low=w.low / 1073741824*1073741824+w.low % 1073741824:=by omega
 rw[Ay (x:=w.middle+w.low / 1073741824) (by omega) (by omega)]
 have e2:w.middle+w.low / 1073741824=(w.middle+w.low / 1073741824) / 1073741824*1073741824+(w.middle+w.low / 1073741824) % 1073741824:=by omega
 unfold wval at h0
 have l0:0<=w.low % 1073741824/\w.low % 1073741824 < 1073741824:=by omega
 have m0:0<=(w.middle+w.low / 1073741824) % 1073741824/\(w.middle+w.low / 1073741824) % 1073741824 < 1073741824:=by omega
 have hb:-4611686018427387904<=w.high+(w.middle+w.low / 1073741824) / 1073741824/\w.high+(w.middle+w.low / 1073741824) / 1073741824<=4611686018427387904:=by omega
 have hz:z=(w.high+(w.middle+w.low / 1073741824) / 1073741824)*1152921504606846976+(w.middle+w.low / 1073741824) % 1073741824*1073741824+w.low % 1073741824:=by omega
 clear e1 e2 h0 h1 h2 h3
 rw[Ay (x:=w.high+(w.middle+w.low / 1073741824) / 1073741824) (by omega) (by omega)]
 generalize w.high+(w.middle+w.low / 1073741824) / 1073741824=H at *
 generalize (w.middle+w.low / 1073741824) % 1073741824=M at *
 generalize w.low % 1073741824=L at *
 by_cases c:H=0
 ·rw[if_pos c,Ay (by omega) (by omega),Ae9,Ad]
  congr 1
  by_cases c2:M+L=0
  ·rw[c2,show z=0 by omega]
  ·rw[Int.sign_eq_one_of_pos (by omega),Int.sign_eq_one_of_pos (by omega)]
 ·rw[if_neg c,Ae9,Ad]
  congr 1
  by_cases c2:H < 0
  ·rw[Int.sign_eq_neg_one_of_neg c2,Int.sign_eq_neg_one_of_neg (by omega)]
  ·rw[Int.sign_eq_one_of_pos (by omega),Int.sign_eq_one_of_pos (by omega)]
theorem Ag2 {a b c:Ac} (ha:okP a) (hb:okP b) (hc:okP c):Jk a b c=some (crs a b c):=Ot ha hb hc
theorem Qs {a b c:Ac} (ha:okP a) (hb:okP b) (hc:okP c):Ch a b c=some (Int.sign (crs a b c)):=by
 unfold Ch
 rw[Ag2 ha hb hc,Ad,Ae9,Ad]
theorem Al6 {a b c d:Ac} (ha:okP a) (hb:okP b) (hc:okP c) (hd:okP d):Ky a b c d=some (Int.sign (inC a b c d)):=by
 have l1:=Aah ha hd
 have l2:=Aah hb hd
 have l3:=Aah hc hd
 have c1:=Mw hd hb hc
 have c2:=Mw hd hc ha
 have c3:=Mw hd ha hb
 obtain ⟨w1,e1,i1⟩:=Ae8 (w:=⟨0,0,0⟩) (n:=0) (z:=0) (a:=lft a d) (b:=crs d b c) ⟨rfl,by simp,by simp,by simp⟩ (by omega) (by omega) (by omega) (by omega) (by omega) (by omega)
 obtain ⟨w2,e2,i2⟩:=Ae8 (a:=lft b d) (b:=crs d c a) i1 (by omega) (by omega) (by omega) (by omega) (by omega) (by omega)
 obtain ⟨w3,e3,i3⟩:=Ae8 (a:=lft c d) (b:=crs d a b) i2 (by omega) (by omega) (by omega) (by omega) (by omega) (by omega)
 have x1:w64 (w64 (w64 (a.X-d.X)*w64 (a.X-d.X))+w64 (w64 (a.Y-d.Y)*w64 (a.Y-d.Y)))=lft a d:=Option.some.inj (Ys ha hd)
 have x2:w64 (w64 (w64 (b.X-d.X)*w64 (b.X-d.X))+w64 (w64 (b.Y-d.Y)*w64 (b.Y-d.Y)))=lft b d:=Option.some.inj (Ys hb hd)
 have x3:w64 (w64 (w64 (c.X-d.X)*w64 (c.X-d.X))+w64 (w64 (c.Y-d.Y)*w64 (c.Y-d.Y)))=lft c d:=Option.some.inj (Ys hc hd)
 have y1:w64 (w64 (w64 (b.X-d.X)*w64 (c.Y-d.Y))-w64 (w64 (b.Y-d.Y)*w64 (c.X-d.X)))=crs d b c:=Option.some.inj (Ot hd hb hc)
 have y2:w64 (w64 (w64 (c.X-d.X)*w64 (a.Y-d.Y))-w64 (w64 (c.Y-d.Y)*w64 (a.X-d.X)))=crs d c a:=Option.some.inj (Ot hd hc ha)
 have y3:w64 (w64 (w64 (a.X-d.X)*w64 (b.Y-d.Y))-w64 (w64 (a.Y-d.Y)*w64 (b.X-d.X)))=crs d a b:=Option.some.inj (Ot hd ha hb)
 unfold Ky
 simp only[x1,x2,x3,y1,y2,y3,e1,Ad,e2,e3]
 rw[Apx (by simpa using i3),Ad]
 simp[inC]
def befP (p q:Ac):Prop:=p.X < q.X\/p.X=q.X/\p.Y < q.Y
instance (p q:Ac):Decidable (befP p q):=by unfold befP;infer_instance
def Bt (p q:Ac):Prop:=p.X=q.X/\p.Y=q.Y
instance (p q:Ac):Decidable (Bt p q):=by unfold Bt;infer_instance
theorem Abe {p q:Ac} (h:Bt p q):p=q:=by
 obtain ⟨x,y⟩:=p
 obtain ⟨x',y'⟩:=q
 obtain ⟨h1,h2⟩:=h
 simp only at h1 h2
 rw[h1,h2]
def Lj (a b:Ac):Ac:=if befP b a then b else a
theorem Asx (a b:Ac):Eo a b=some (decide (befP a b)):=by
 unfold Eo jn befP
 simp only
 by_cases h1:a.X < b.X
 ·simp[h1]
 ·by_cases h2:a.X=b.X
  ·simp[h2]
  ·simp[h1,h2]
theorem Avo (a:Ac):Gv a=some (decide (okP a)):=by
 unfold Gv
 rw[jn_d]
 by_cases h1:-268435456<=a.X
 ·rw[if_pos h1]
  by_cases h2:a.X<=268435456
  ·rw[if_pos h2]
   by_cases h3:-268435456<=a.Y
   ·rw[if_pos h3]
    by_cases h4:a.Y<=268435456
    ·rw[decide_eq_true h4,decide_eq_true (show okP a by unfold okP;omega)]
    ·rw[decide_eq_false h4,decide_eq_false (show ¬ okP a by unfold okP;omega)]
   ·rw[if_neg h3,decide_eq_false (show ¬ okP a by unfold okP;omega)]
  ·rw[if_neg h2,decide_eq_false (show ¬ okP a by unfold okP;omega)]
 ·rw[if_neg h1,decide_eq_false (show ¬ okP a by unfold okP;omega)]
theorem Al7 (B:(Int × Int × Int)->Option (Sum (Int × Int × Int) (Int × Int))) (p q r:Ac)
  (hB:∀ x y i,B (x,y,i)=if i < 3 then bnd (idx [p,q,r] i) fun z=>some (.inl ((Lj ⟨x,y⟩ z).X,(Lj ⟨x,y⟩ z).Y,w64 (i+1))) else some (.inr (x,y))) (x y:Int) :
  lfix B (x,y,0)=some ((Lj (Lj (Lj ⟨x,y⟩ p) q) r).X,(Lj (Lj (Lj ⟨x,y⟩ p) q) r).Y):=by
 have w1:w64 (0+1)=1:=Ay (by omega) (by omega)
 have w2:w64 (1+1)=2:=Ay (by omega) (by omega)
 have w3:w64 (2+1)=3:=Ay (by omega) (by omega)
 have i0:idx [p,q,r] 0=some p:=rfl
 have i1:idx [p,q,r] 1=some q:=rfl
 have i2:idx [p,q,r] 2=some r:=rfl
 rw[Bk,hB,if_pos (by omega),i0,Ad,w1]
 simp only
 rw[Bk,hB,if_pos (by omega),i1,Ad,w2]
 simp only
 rw[Bk,hB,if_pos (by omega),i2,Ad,w3]
 simp only
 rw[Bk,hB,if_neg (by omega)]
theorem Apy {a b c d:Ac} (h1:¬ Bt a c) (h2:¬ Bt a d) (h3:¬ Bt b c) (h4:¬ Bt b d) :
  (Bt (Lj (Lj (Lj a b) c) d) c\/Bt (Lj (Lj (Lj a b) c) d) d)↔((befP c a/\befP c b)\/(befP d a/\befP d b)):=by
 have key:∀ p q:Ac,(befP q p/\Lj p q=q)\/(¬ befP q p/\Lj p q=p):=fun p q=>by
  unfold Lj
  by_cases h:befP q p
  ·exact .inl ⟨h,if_pos h⟩
  ·exact .inr ⟨h,if_neg h⟩
 rcases key a b with ⟨k1,e1⟩ | ⟨k1,e1⟩ <;> rw[e1]
 ·rcases key b c with ⟨k2,e2⟩ | ⟨k2,e2⟩ <;> rw[e2]
  ·rcases key c d with ⟨k3,e3⟩ | ⟨k3,e3⟩ <;> rw[e3] <;> unfold Bt befP at * <;> omega
  ·rcases key b d with ⟨k3,e3⟩ | ⟨k3,e3⟩ <;> rw[e3] <;> unfold Bt befP at * <;> omega
 ·rcases key a c with ⟨k2,e2⟩ | ⟨k2,e2⟩ <;> rw[e2]
  ·rcases key c d with ⟨k3,e3⟩ | ⟨k3,e3⟩ <;> rw[e3] <;> unfold Bt befP at * <;> omega
  ·rcases key a d with ⟨k3,e3⟩ | ⟨k3,e3⟩ <;> rw[e3] <;> unfold Bt befP at * <;> omega
def legP (a b c d:Ac):Prop:=Int.sign (crs a b c)*Int.sign (inC a b c d) < 0\/Int.sign (crs a b c)*Int.sign (inC a b c d)=0/\((befP c a/\befP c b)\/(befP d a/\befP d b))
instance (a b c d:Ac):Decidable (legP a b c d):=by unfold legP;infer_instance
theorem Ns (a c:Ac):crs a c c=0:=by unfold crs;grind
theorem Bp (a b:Ac):crs a b a=0:=by unfold crs;grind
theorem Bi (a b:Ac):crs a b b=0:=by unfold crs;grind
theorem Va (a b:Ac):crs a a b=0:=by unfold crs;grind
theorem Ax (a b c:Ac):crs b a c = -crs a b c:=by unfold crs;grind
theorem An (a b c:Ac):crs b c a=crs a b c:=by unfold crs;grind
theorem Asy {a b c d:Ac} (ha:okP a) (hb:okP b) (hc:okP c) (hd:okP d) (h1:¬ Bt a c) (h2:¬ Bt a d) (h3:¬ Bt b c) (h4:¬ Bt b d):Rh a b c d=some (decide (legP a b c d)):=by
 unfold Rh
 rw[Ap0,if_pos ⟨ha,hb,hc,hd⟩,Ad]
 have e:(if crs a b c=0 then ((0:Int),(12:Int)) else (Int.sign (crs a b c)*Int.sign (inC a b c d),0)).1=Int.sign (crs a b c)*Int.sign (inC a b c d):=by
  split
  ·rename_i h;rw[h];simp
  ·rfl
 rw[e]
 by_cases h0:Int.sign (crs a b c)*Int.sign (inC a b c d)=0
 ·rw[if_pos h0,jn_d,Al7 _ b c d (fun x y i=>?_),Ad]
  ·dsimp only
   rw[jn_d]
   have hl:=Apy h1 h2 h3 h4
   by_cases hcc:Bt (Lj (Lj (Lj a b) c) d) c
   ·have:legP a b c d:=.inr ⟨h0,hl.1 (.inl hcc)⟩
    rw[if_pos (by simpa[Bt] using hcc),decide_eq_true this]
   ·rw[if_neg (by simpa[Bt] using hcc)]
    congr 1
    rw[Bool.eq_iff_iff]
    simp only[Bool.and_true,Bool.and_eq_true,beq_iff_eq,decide_eq_true_eq]
    unfold legP
    constructor
    ·intro h;exact .inr ⟨h0,hl.1 (.inr h)⟩
    ·rintro (h | ⟨_,h⟩)
     ·omega
     ·exact (hl.2 h).resolve_left hcc
  ·unfold Ud
   simp only
   split
   ·refine congrArg (bnd _) (funext fun z=>?_)
    rw[Asx,Ad]
    unfold Lj
    by_cases hb:befP z ⟨x,y⟩
    ·rw[if_pos (by simpa using hb),if_pos hb]
    ·rw[if_neg (by simpa using hb),if_neg hb]
   ·rfl
 ·rw[if_neg h0]
  congr 1
  rw[Bool.eq_iff_iff]
  simp only[decide_eq_true_eq]
  unfold legP
  constructor
  ·intro h;exact .inl h
  ·rintro (h | ⟨h,_⟩)
   ·exact h
   ·exact absurd h h0
theorem Ab8 {x y:Int}:Int.sign x*Int.sign y = -1↔(x < 0/\0 < y)\/(0 < x/\y < 0):=by
 rcases Int.lt_trichotomy x 0 with h | h | h <;> rcases Int.lt_trichotomy y 0 with h' | h' | h'
 all_goals first
  | (rw[Int.sign_eq_neg_one_of_neg h];try rw[Int.sign_eq_neg_one_of_neg h'])
  | (rw[Int.sign_eq_one_of_pos h];try rw[Int.sign_eq_neg_one_of_neg h'])
  | (rw[h])
 all_goals try rw[Int.sign_eq_one_of_pos h']
 all_goals try rw[h']
 all_goals simp
 all_goals omega
theorem Tw {x y:Int}:w64 (Int.sign x*Int.sign y)=Int.sign x*Int.sign y:=by
 apply Ay
 ·rcases Int.sign_trichotomy x with h | h | h <;> rcases Int.sign_trichotomy y with h' | h' | h' <;> simp[h,h']
 ·rcases Int.sign_trichotomy x with h | h | h <;> rcases Int.sign_trichotomy y with h' | h' | h' <;> simp[h,h']
theorem Aik {x y:Int}:0<=Int.sign x*Int.sign y↔¬ Int.sign x*Int.sign y = -1:=by
 rcases Int.sign_trichotomy x with h | h | h <;> rcases Int.sign_trichotomy y with h' | h' | h' <;> simp[h,h']
theorem Ail {a b c d:Ac} (h:Int.sign (crs a b c)*Int.sign (crs a b d) = -1):¬ Bt a c/\¬ Bt a d/\¬ Bt b c/\¬ Bt b d:=by
 rw[Ab8] at h
 refine ⟨fun e=>?_,fun e=>?_,fun e=>?_,fun e=>?_⟩ <;> (have:=Abe e;subst this;simp only[Ns,Bp,Bi] at h;omega)
end Go.Proofs.YtjfndjmabhbicaaGreat
