/- Plain laws on the program's fractions, whose denominators have one word. -/
import Derived.Test.YtebkcipolijfmaaGreatZ2
import Derived.Test.YtebkcipolijfmaaGreatN3
import Derived.Test.YtebkcipolijfmaaGreatZ1
namespace Go.Proofs.YtebkcipolijfmaaGreat
open Go Go.RowKit
/-- The fraction that a value stands for. -/
structure FrIs (n:Ba) (z:Int) (d:Nat):Prop where
 num:n.n=L32 z.natAbs
 den:n.d=L32 d
 neg:z≠0→n.neg=decide (z < 0)
def CN (z:Int) (d:Nat):Ba:=⟨decide (z < 0),L32 z.natAbs,L32 d⟩
def CR (z:Int) (d:Nat):Bc:=⟨decide (z < 0),L32 z.natAbs,if d=1 then [] else L32 d⟩
theorem FrIs.eq {n:Ba} {z:Int} {d:Nat} (h:FrIs n z d) (h0:z≠0):n=CN z d:=by
 obtain ⟨s,a,e⟩:=n
 obtain ⟨h1,h2,h3⟩:=h
 simp only at h1 h2 h3
 rw [h1,h2,h3 h0];rfl
/-- c / e is z / d in lowest terms. -/
structure Red (z:Int) (d:Nat) (c:Int) (e:Nat):Prop where
 g:∃ g:Nat,0 < g∧z=(g:Int)*c∧d=g*e
 co:Nat.gcd c.natAbs e=1
 pos:0 < e
theorem Red.le {z c:Int} {d e:Nat} (h:Red z d c e):e≤d∧c.natAbs≤z.natAbs:=by
 obtain ⟨⟨g,hg,h1,h2⟩,_,_⟩:=h
 constructor
 ·rw [h2];exact Nat.le_mul_of_pos_left _ hg
 ·rw [h1,Int.natAbs_mul,Int.natAbs_natCast];exact Nat.le_mul_of_pos_left _ hg
theorem Red.id {z:Int} {d:Nat} (h:Nat.gcd z.natAbs d=1) (hd:0 < d):Red z d z d:=⟨⟨1,by omega,by simp,by simp⟩,h,hd⟩
theorem Afz {a:Nat} (h:a < 79228162514264337593543950336):(dig 4294967296 a).length≤3:=Adn (by omega) 3 _ (by
 have:(4294967296:Nat) ^ 3=79228162514264337593543950336:=by decide
 omega)
theorem Af0 {a:Nat} (h:a < 4294967296):(dig 4294967296 a).length≤1:=Adn (by omega) 1 _ (by omega)
theorem Xu (a:Nat):(L32 a).length=(dig 4294967296 a).length:=Hf
theorem Acg (g:Nat) (c:Int):((g:Int)*c).natAbs=g*c.natAbs:=by rw [Int.natAbs_mul,Int.natAbs_natCast]
theorem Ap0 {g:Nat} (hg:0 < g) (c:Int):((g:Int)*c < 0)↔c < 0:=by
 constructor
 ·intro h
  refine Classical.byContradiction fun h1=>?_
  have:=Int.mul_nonneg (show (0:Int)≤g by omega) (show 0≤c by omega)
  omega
 ·intro h
  exact Int.mul_neg_of_pos_of_neg (by omega) h
theorem Zi {n:Ba} {z c:Int} {d e:Nat} (hn:FrIs n z d) (hz:z.natAbs < 79228162514264337593543950336) (hd2:d < 4294967296) (hr:Red z d c e):Fp n=some (CN c e):=by
 obtain ⟨⟨g,hg,h1,h2⟩,hco,he⟩:=hr
 have hd:0 < d:=by rw [h2];exact Nat.mul_pos hg he
 unfold Fp
 by_cases h0:z=0
 ·have c0:c=0:=by
   rcases Int.mul_eq_zero.1 (h1.symm.trans h0) with h | h
   ·omega
   ·exact h
  subst h0
  subst c0
  have e1:e=1:=by simpa using hco
  subst e1
  rw [hn.num,if_pos (by rw [show (0:Int).natAbs=0 from rfl,(Ye (a:=0)).2 rfl];rfl),oneW]
  unfold CN
  rw [show (L32 (0:Int).natAbs)=[] from List.length_eq_zero_iff.1 ((Ye (a:=0)).2 rfl)]
  rfl
 ·have hne:(L32 z.natAbs).length≠0:=fun h=>h0 (by have:=Ye.1 h;omega)
  have hl:=Afz hz
  have hgd:Nat.gcd z.natAbs d=g:=by
   rw [h1,h2,Acg,Nat.gcd_mul_left,hco,Nat.mul_one]
  have gle:g≤d:=by rw [h2];exact Nat.le_mul_of_pos_right _ he
  have hz':z.natAbs / g=c.natAbs:=by rw [h1,Acg,Nat.mul_div_cancel_left _ hg]
  have hd':d / g=e:=by rw [h2,Nat.mul_div_cancel_left _ hg]
  have hneg:decide (z < 0)=decide (c < 0):=by
   have:=Ap0 hg c
   rw [← h1] at this
   exact decide_eq_decide.2 this
  rw [hn.eq h0]
  unfold CN
  dsimp only
  rw [if_neg (by omega),Axn (by omega) hd2,Ah,jn_d,hgd,Tp hg (by omega),if_pos (by simp),show idx [(g:Int)] 0=some (g:Int) from rfl,Ah]
  dsimp only
  by_cases c1:g=1
  ·rw [if_pos (by simp [c1])]
   rw [c1,Nat.div_one] at hz' hd'
   rw [hneg,hz',hd']
  ·rw [if_neg (by simp;omega),← Tp hg (by omega),Arv (by omega) hg (by omega),Ah,Arv (Nat.le_trans (Af0 hd2) (by omega)) hg (by omega),Ah]
   dsimp only
   rw [hneg,hz',hd']
theorem Al3 {α:Type} (l ys:List α) (h:l.length=ys.length):cpy l 0 ys=ys:=by
 unfold cpy
 simp [h]
theorem Al4 {n:Ba} {z c:Int} {d e:Nat} (hn:FrIs n z d) (hz:z.natAbs < 79228162514264337593543950336) (hd2:d < 4294967296) (hr:Red z d c e):Iy n=some (CR c e,0):=by
 obtain ⟨le1,le2⟩:=hr.le
 have l1:=Afz (a:=c.natAbs) (by omega)
 have l2:=Af0 (a:=e) (by omega)
 have he:=hr.pos
 unfold Iy
 rw [Zi hn hz hd2 hr,Ah,jn_d]
 unfold CN CR
 dsimp only
 rw [Xu,Xu,if_neg (by omega),if_neg (by simp;omega),jn_d,gd_t ⟨by omega,by omega⟩]
 dsimp only
 rw [jn_d]
 dsimp only
 rw [jn_d,if_neg (by omega),Tp he (by omega),show idx [(e:Int)] 0=some (e:Int) from rfl,Ah]
 dsimp only
 rw [Al3 _ _ (by simp [Xu])]
 by_cases c1:e=1
 ·rw [if_neg (by simp [c1]),if_pos c1]
 ·rw [if_pos (by simp;omega),gd_t ⟨by omega,by simp;omega⟩,if_neg c1,Al3 _ _ (by simp [← Xu,Tp he (show e < 4294967296 by omega)])]
theorem of_eq {z:Int} {d:Nat} (hz:z.natAbs < 79228162514264337593543950336) (hd2:d < 4294967296) (hd:0 < d) (co:Nat.gcd z.natAbs d=1):Si (CR z d)=some (CN z d):=by
 have l1:=Afz hz
 unfold Si CR
 dsimp only
 by_cases c1:d=1
 ·rw [if_pos c1,Ajn,Ah,jn_d,if_pos (by simp)]
  dsimp only
  rw [Ae2 _ (by omega),Ah,Zi (n:=⟨decide (z < 0),L32 z.natAbs,[1]⟩) ⟨rfl,by rw [c1,← oneW],fun _=>rfl⟩ hz hd2 (Red.id co hd),Ah]
 ·rw [if_neg c1,Ae2 _ (Nat.le_trans (Af0 hd2) (by omega)),Ah,jn_d,if_neg (by rw [Tp hd hd2];simp)]
  dsimp only
  rw [Ae2 _ (by omega),Ah,Zi (n:=⟨decide (z < 0),L32 z.natAbs,L32 d⟩) ⟨rfl,rfl,fun _=>rfl⟩ hz hd2 (Red.id co hd),Ah]
theorem Ais {z:Int} {d:Nat} (hz:z.natAbs < 79228162514264337593543950336) (hd2:d < 4294967296):Ld (CR z d)=some false:=by
 have l1:=Afz hz
 have l2:=Af0 hd2
 unfold Ld CR
 dsimp only
 rw [jn_d,Ae2 _ (by omega),Ah,Xu,if_neg (by omega)]
 by_cases c1:d=1
 ·rw [if_pos c1,Ajn,Ah];rfl
 ·rw [if_neg c1,Ae2 _ (by omega),Ah,Xu,decide_eq_false (by omega)]
theorem Ata {a b:Bc} (ha:Ld a=some false) (hb:Ld b=some false):Kz [a,b]=some false:=by
 unfold Kz
 rw [jn_d,Ci]
 have h1:Em [a,b] 0=some (.inl 1):=by
  unfold Em
  rw [if_pos (by simp),show idx [a,b] 0=some a from rfl,Ah,ha,Ah,if_neg (by simp)]
  rfl
 have h2:Em [a,b] 1=some (.inl 2):=by
  unfold Em
  rw [if_pos (by simp),show idx [a,b] 1=some b from rfl,Ah,hb,Ah,if_neg (by simp)]
  rfl
 have h3:Em [a,b] 2=some (.inr (.inl ())):=by
  unfold Em
  rw [if_neg (by simp)]
 rw [h1]
 dsimp only
 rw [Ci,h2]
 dsimp only
 rw [Ci,h3]
 rfl
theorem Atb {x y:Int} (h:x*y≠0):(!(decide (x < 0) == decide (y < 0)))=decide (x*y < 0):=by
 have hx:x≠0:=fun e=>h (by rw [e,Int.zero_mul])
 have hy:y≠0:=fun e=>h (by rw [e,Int.mul_zero])
 rcases Int.lt_or_gt_of_ne hx with h1 | h1 <;> rcases Int.lt_or_gt_of_ne hy with h2 | h2
 ·have:=Int.mul_pos_of_neg_of_neg h1 h2
  simp [h1,h2];omega
 ·have:=Int.mul_neg_of_neg_of_pos h1 h2
  rw [decide_eq_true h1,decide_eq_false (by omega),decide_eq_true this];rfl
 ·have:=Int.mul_neg_of_pos_of_neg h1 h2
  rw [decide_eq_false (by omega),decide_eq_true h2,decide_eq_true this];rfl
 ·have:=Int.mul_pos h1 h2
  rw [decide_eq_false (by omega),decide_eq_false (by omega),decide_eq_false (by omega)];rfl
theorem Avd {x y:Int} {d e:Nat} (hd2:d < 4294967296) (he2:e < 4294967296) (hx:x.natAbs < 1000000000000000000000000000) (hy:y.natAbs < 1000000000000000000000000000) :
  ∃ n,Dr (CN x d) (CN y e)=some n∧FrIs n (x*y) (d*e):=by
 have lx:=Afz (a:=x.natAbs) (by omega)
 have ly:=Afz (a:=y.natAbs) (by omega)
 have ld:=Af0 hd2
 have le:=Af0 he2
 unfold Dr CN
 dsimp only
 rw [Ak1 (by omega),Ah,Ak1 (by omega),Ah]
 exact ⟨_,rfl,by rw [Int.natAbs_mul],rfl,fun h0=>Atb h0⟩
end Go.Proofs.YtebkcipolijfmaaGreat
/- Plain laws on the program's fractions: rounding down, spans of two fractions, sums and products of whole numbers. -/
namespace Go.Proofs.YtebkcipolijfmaaGreat
open Go Go.RowKit
/-- A number is small: its fraction in lowest terms, and what it is rounded down and up to. -/
structure Sm (z:Int) (d:Nat):Prop where
 co:Nat.gcd z.natAbs d=1
 pos:0 < d
 d2:d < 4294967296
 n2:z.natAbs < 100000000000000000
theorem Sm.quo {z:Int} {d:Nat} (h:Sm z d):z.natAbs / d < 4611686018427387904∧-1152921504606846976≤z / (d:Int)∧z / (d:Int)≤1152921504606846976:=by
 have h2:=h.n2
 have hd:=h.pos
 have:=Nat.div_le_self z.natAbs d
 refine ⟨by omega,?_,?_⟩
 ·refine Int.le_trans (by omega) (Int.le_ediv_of_mul_le (c:=(d:Int)) (a:=-1000000000000000000) (by omega) ?_)
  have:=Int.mul_le_mul_of_nonneg_left (show (1:Int)≤d by omega) (show (0:Int)≤1000000000000000000 by omega)
  omega
 ·have:=Int.ediv_le_ediv (show (0:Int) < d by omega) (show z≤1000000000000000000*(d:Int) by
   have:=Int.mul_le_mul_of_nonneg_left (show (1:Int)≤d by omega) (show (0:Int)≤1000000000000000000 by omega)
   omega)
  rw [Int.mul_ediv_cancel _ (by omega)] at this
  omega
theorem Sm.neg {z:Int} {d:Nat} (h:Sm z d):Sm (-z) d:=⟨by rw [Int.natAbs_neg];exact h.co,h.pos,h.d2,by rw [Int.natAbs_neg];exact h.n2⟩
theorem Sm.one {x:Int} (h:x.natAbs < 100000000000000000):Sm x 1:=⟨Nat.gcd_one_right _,by omega,by omega,h⟩
theorem Adz {x:Int} (h1:-9223372036854775808≤x) (h2:x≤9223372036854775807):Lx x=some (CR x 1):=by
 obtain ⟨n,e,hn⟩:=Ala h1 h2
 unfold Lx
 rw [e,Ah,Al4 (z:=x) (d:=1) (c:=x) (e:=1) ⟨hn.num,by rw [hn.den,oneW],hn.neg⟩ (by omega) (by omega) (Red.id (Nat.gcd_one_right _) (by omega)),Ah]
end Go.Proofs.YtebkcipolijfmaaGreat
/- Plain laws of layer 9: rasters, cells, grids, comparisons. -/
namespace Go.Proofs.YtebkcipolijfmaaGreat
open Go Go.RowKit
def Kx (x:Int):Bool:=decide (-268435456≤x∧x≤268435456)
def Fi (f:Bj):Bool:=decide (1≤f.Step∧f.Step≤1000000) && decide (1≤f.NX∧f.NX≤64) && decide (1≤f.NY∧f.NY≤64) && Kx f.X0 && Kx f.Y0 && Kx (f.X0+(f.NX-1)*f.Step) && Kx (f.Y0+(f.NY-1)*f.Step)
theorem Xv (a b c:Int):Fq a b c=some (decide (a≤b∧b≤c)):=by
 unfold Fq jn;split <;> simp_all <;> omega
theorem Yo (x:Int):Ds x=some (Kx x):=by
 unfold Ds;rw [Xv];rfl
theorem Al5 {a b:Int} (h1:1≤a) (h2:a≤64) (h3:1≤b) (h4:b≤64):1≤a*b∧a*b≤4096:=by
 have:=Aqy (a:=a) (b:=b) (A:=64) (B:=64) (by omega) h2 (by omega) h4
 have h5:1*1≤a*b:=Int.mul_le_mul h1 h3 (by omega) (by omega)
 omega
theorem Adi {a b:Int} (h1:0≤a) (h2:a≤63) (h3:1≤b) (h4:b≤1000000):0≤a*b∧a*b≤63000000:=by
 have:=Aqy (a:=a) (b:=b) (A:=63) (B:=1000000) h1 h2 (by omega) h4
 omega
theorem Ap1 {a b:Int} (h:0≤a):Int.tmod a b=a % b:=Int.tmod_eq_emod_of_nonneg h
theorem Ap2 {a b:Int} (h:0≤a):Int.tdiv a b=a / b:=Int.tdiv_eq_ediv_of_nonneg h
structure Aup (f:Bj):Prop where
 st:1≤f.Step∧f.Step≤1000000
 nx:1≤f.NX∧f.NX≤64
 ny:1≤f.NY∧f.NY≤64
 x0:-268435456≤f.X0∧f.X0≤268435456
 y0:-268435456≤f.Y0∧f.Y0≤268435456
theorem Al6 {f:Bj} {i:Int} (h:Aup f) (h0:0≤i) (h1:i < f.NX*f.NY):Oq f i=some ⟨f.X0+i % f.NX*f.Step,f.Y0+i / f.NX*f.Step⟩:=by
 obtain ⟨hst,hnx,hny,hx0,hy0⟩:=h
 have hm:0≤i % f.NX∧i % f.NX≤63:=⟨Int.emod_nonneg _ (by omega),by have:=Int.emod_lt_of_pos i (show 0 < f.NX by omega);omega⟩
 have hd:0≤i / f.NX∧i / f.NX≤63:=by
  refine ⟨Int.ediv_nonneg h0 (by omega),?_⟩
  have:i / f.NX < f.NY:=Int.ediv_lt_of_lt_mul (by omega) (by rw [Int.mul_comm];exact h1)
  omega
 have b1:=Adi hm.1 hm.2 hst.1 hst.2
 have b2:=Adi hd.1 hd.2 hst.1 hst.2
 unfold Oq
 rw [gd_t (by omega),gd_t (by omega),Ap1 h0,Ap2 h0]
 generalize i % f.NX=m at *
 generalize i / f.NX=d at *
 rw [Bs (x:=d) (by omega) (by omega)]
 generalize m*f.Step=u at *
 generalize d*f.Step=v at *
 rw [Bs (x:=u) (by omega) (by omega),Bs (x:=v) (by omega) (by omega),Bs (by omega) (by omega),Bs (by omega) (by omega)]
theorem Ad0 {f:Bj} (h:Fi f=true):Aup f:=by
 simp only [Fi,Kx,Bool.and_eq_true,decide_eq_true_eq] at h
 obtain ⟨⟨⟨⟨⟨⟨a,b⟩,c⟩,d⟩,e⟩,_⟩,_⟩:=h
 exact ⟨a,b,c,d,e⟩
theorem Anx {f:Bj} (hnx:1≤f.NX∧f.NX≤64) (hny:1≤f.NY∧f.NY≤64):(f.NX*f.NY-1) % f.NX=f.NX-1∧(f.NX*f.NY-1) / f.NX=f.NY-1:=by
 have e:f.NX*f.NY-1=(f.NX-1)+f.NX*(f.NY-1):=by rw [Int.mul_sub];omega
 rw [e]
 constructor
 ·rw [Int.add_mul_emod_self_left];exact Int.emod_eq_of_lt (by omega) (by omega)
 ·rw [Int.add_mul_ediv_left _ _ (by omega),Int.ediv_eq_zero_of_lt (by omega) (by omega)];omega
theorem Wm (f:Bj):Fs f=some (Fi f):=by
 unfold Fs
 simp only [jn_d,Xv,Yo,Ah]
 by_cases h1:1≤f.Step∧f.Step≤1000000
 ·by_cases h2:1≤f.NX∧f.NX≤64
  ·by_cases h3:1≤f.NY∧f.NY≤64
   ·by_cases h4:Kx f.X0=true
    ·by_cases h5:Kx f.Y0=true
     ·have g4:=h4;have g5:=h5
      simp only [Kx,decide_eq_true_eq] at g4 g5
      have hp:=Al5 h2.1 h2.2 h3.1 h3.2
      have hl:=Anx h2 h3
      have hn:=Al6 (f:=f) (i:=f.NX*f.NY-1) ⟨h1,h2,h3,g4,g5⟩ (by omega) (by omega)
      rw [hl.1,hl.2] at hn
      rw [Bs (x:=f.NX*f.NY) (by omega) (by omega),Bs (by omega) (by omega),hn]
      simp only [Ah,h1,h2,h3,h4,h5,decide_true,if_true,Bool.not_true,if_false,Fi,Bool.and_true,Bool.true_and,Bool.false_eq_true]
      by_cases h6:Kx (f.X0+(f.NX-1)*f.Step)=true <;> simp [h6]
     ·simp [h1,h2,h3,h4,h5,Fi]
    ·simp [h1,h2,h3,h4,Fi]
   ·simp [h1,h2,h3,Fi]
  ·simp [h1,h2,Fi]
 ·simp [h1,Fi]
theorem Ap3 (p:Ac):Iq p=some (Kx p.X && Kx p.Y):=by
 unfold Iq jn Kx
 repeat' split
 all_goals (simp_all <;> omega)
theorem Aal (f:Bj):Ee f=some (Fi f):=by
 unfold Ee
 simp only [jn_d,Ap3,Ah]
 by_cases h1:1≤f.Step∧f.Step≤1000000
 ·by_cases h2:1≤f.NX∧f.NX≤64
  ·by_cases h3:1≤f.NY∧f.NY≤64
   ·by_cases h4:(Kx f.X0 && Kx f.Y0)=true
    ·have g4:=h4
     simp only [Kx,Bool.and_eq_true,decide_eq_true_eq] at g4
     have b1:=Adi (a:=f.NX-1) (b:=f.Step) (by omega) (by omega) h1.1 h1.2
     have b2:=Adi (a:=f.NY-1) (b:=f.Step) (by omega) (by omega) h1.1 h1.2
     rw [Bs (x:=f.NX-1) (by omega) (by omega),Bs (x:=f.NY-1) (by omega) (by omega)]
     simp only [Fi]
     generalize (f.NX-1)*f.Step=u at *
     generalize (f.NY-1)*f.Step=v at *
     rw [Bs (x:=u) (by omega) (by omega),Bs (x:=v) (by omega) (by omega),Bs (x:=f.X0+u) (by omega) (by omega),Bs (x:=f.Y0+v) (by omega) (by omega)]
     rw [if_neg (by omega),if_neg (by omega),if_neg (by omega),if_neg (by omega),if_neg (by omega),if_neg (by omega)]
     simp [h4,h1,h2,h3]
    ·simp only [Fi]
     rw [if_neg (by omega),if_neg (by omega),if_neg (by omega),if_neg (by omega),if_neg (by omega),if_neg (by omega)]
     simp only [Bool.not_eq_true] at h4
     simp [h4,h1,h2,h3]
   ·simp only [Fi]
    grind
  ·simp only [Fi]
   grind
 ·simp only [Fi]
  grind
def Af1 (c:Az):Bool:=if c.Void=true then decide (c.Z.Lo=0∧c.Z.Hi=0) else decide (c.Z.Lo≤c.Z.Hi) && Kx c.Z.Lo && Kx c.Z.Hi
theorem Ag4 (z:Av):Mq z=some (decide (-1152921504606846976≤z.Lo∧z.Lo≤z.Hi∧z.Hi≤1152921504606846976)):=by
 unfold Mq jn
 repeat' split
 all_goals (simp_all <;> omega)
theorem Ag5 (c:Az):Ls c=some (Af1 c):=by
 unfold Ls
 simp only [jn_d,Ag4,Yo,Ah,Af1,Kx,Bool.decide_and]
 grind
def Uy (g:Aw):Bool:=Fi g.Raster && decide ((g.Cells.length:Int)=g.Raster.NX*g.Raster.NY) && g.Cells.all Af1
theorem Uz {g:Aw} (h:Fi g.Raster=true):w64 (g.Raster.NX*g.Raster.NY)=g.Raster.NX*g.Raster.NY∧1≤g.Raster.NX*g.Raster.NY∧g.Raster.NX*g.Raster.NY≤4096:=by
 have hg:=Ad0 h
 have:=Al5 hg.nx.1 hg.nx.2 hg.ny.1 hg.ny.2
 exact ⟨Bs (by omega) (by omega),this⟩
theorem Ait {g:Aw} {R:Option Bool} {B:Int→Option (Sum Int (Sum Unit Bool))} (hR:R=some (Fi g.Raster))
  (h1:∀ (j:Nat) (h:j < g.Cells.length),g.Cells.length≤4096→B j=if Af1 g.Cells[j]=true then some (.inl ((j+1:Nat):Int)) else some (.inr (.inr false))) (h2:B g.Cells.length=some (.inr (.inl ()))) :
  jn (fun (s3:Bool)=>if s3=true then (some false) else (jn (fun (s5:Unit)=>some true) (fun j5=>bnd (lfix B 0) fun t35=>(match t35 with | (.inl z35)=>j5 z35 | (.inr (z35))=>some z35))))
   (fun j3=>bnd R fun r2=>if r2=true then (j3 (!(decide (((((g.Cells).length:Nat):Int))=(w64 (g.Raster.NX*g.Raster.NY)))))) else (j3 true))=some (Uy g):=by
 simp only [jn_d,hR,Ah,Uy]
 by_cases hr:Fi g.Raster=true
 ·obtain ⟨e1,e2,e3⟩:=Uz hr
  rw [e1]
  by_cases hl:(g.Cells.length:Int)=g.Raster.NX*g.Raster.NY
  ·rw [Arb g.Cells Af1 B () false (fun j h=>h1 j h (by omega)) h2]
   by_cases ha:g.Cells.all Af1=true <;> simp [hr,hl,ha,Ah]
  ·simp [hr,hl]
 ·simp [hr]
theorem Ap4 (g:Aw):Ot g=some (Uy g):=by
 unfold Ot
 refine Ait (Wm _) (fun j h hl=>?_) ?_
 ·unfold Pj
  rw [if_pos (by omega),Cf h,Ah,Ag5,Ah,Cq (by omega)]
 ·unfold Pj
  rw [if_neg (by omega)]
def Aam (a b:Bj):Bool:=((((a.X0) == (b.X0)) && (((a.Y0) == (b.Y0)) && (((a.Step) == (b.Step)) && (((a.NX) == (b.NX)) && (((a.NY) == (b.NY)) && true))))))
def Ach (a b:Aw):Int:=if (Uy a && Uy b)=true then (if Aam a.Raster b.Raster=true then 0 else 91) else 90
theorem Al7 (a b:Aw):Om a b=some (Ach a b):=by
 unfold Om
 simp only [jn_d,Ap4,Ah,Ach,Aam]
 grind
theorem Aka {a b:Aw} (h:Ach a b=0):Uy a=true∧Uy b=true∧Aam a.Raster b.Raster=true:=by
 unfold Ach at h
 grind
theorem Akb {a b:Bj} (h:Aam a b=true):a=b:=by
 obtain ⟨a1,a2,a3,a4,a5⟩:=a
 obtain ⟨b1,b2,b3,b4,b5⟩:=b
 simp [Aam] at h
 simp [h]
theorem Aan {g:Aw} (h:Uy g=true):(g.Cells.length:Int)=g.Raster.NX*g.Raster.NY∧1≤g.Cells.length∧g.Cells.length≤4096∧Fi g.Raster=true:=by
 simp only [Uy,Bool.and_eq_true,decide_eq_true_eq] at h
 obtain ⟨e1,e2,e3⟩:=Uz h.1.1
 exact ⟨h.1.2,by omega,by omega,h.1.1⟩
theorem Anz {a b:Aw} (h:Ach a b=0):a.Cells.length=b.Cells.length∧a.Cells.length≤4096:=by
 obtain ⟨h1,h2,h3⟩:=Aka h
 have e:=Akb h3
 have c1:=Aan h1
 have c2:=Aan h2
 rw [e] at c1
 omega
def Ag6 (a b:Az):Int:=if (a.Void || b.Void)=true then 2 else if a.Z.Hi < b.Z.Lo then 1 else if b.Z.Hi < a.Z.Lo then -1 else 0
theorem Ap5 (a b:Az):Qs a b=some (Ag6 a b):=by
 unfold Qs jn Ag6;grind
def Al8 (l r:List Az):List Int:=List.zipWith Ag6 l r
theorem An0 {α β γ:Type} [Inhabited α] [Inhabited β] (f:α→β→γ) {l:List α} {r:List β} (h:l.length=r.length):(List.range l.length).map (fun i=>f (l.getD i default) (r.getD i default))=List.zipWith f l r:=by
 apply List.ext_getElem
 ·simp [h]
 ·intro i h1 h2
  simp at h1
  simp [h1,h ▸ h1]
instance:Inhabited Az:=⟨⟨false,⟨0,0⟩⟩⟩
theorem An1 {a b:Aw} (h:a.Cells.length=b.Cells.length) (h9:a.Cells.length≤4096):Pk a b=some (Al8 a.Cells b.Cells):=by
 unfold Pk
 rw [gd_t (by omega),jn_d]
 rw [Ae0 a.Cells.length (fun i=>Ag6 (a.Cells.getD i default) (b.Cells.getD i default))]
 ·rw [Ah,An0 _ h];rfl
 ·intro j hj acc hacc
  unfold Oh
  simp only
  rw [if_pos (by omega),Cf hj,Ah,Cf (h ▸ hj),Ah,Ap5,Ah,gd_t (by omega),Cq (by omega)]
  simp [hj,h ▸ hj]
 ·intro acc hacc
  unfold Oh
  simp only
  rw [if_neg (by omega)]
theorem Akc (a b:Aw):Ij a b=some (if Ach a b=0 then (Al8 a.Cells b.Cells,0) else ([],Ach a b)):=by
 unfold Ij
 rw [Al7,Ah]
 by_cases h:Ach a b=0
 ·obtain ⟨h1,h2⟩:=Anz h
  rw [if_pos h,if_pos h,An1 h1 h2,Ah]
 ·rw [if_neg h,if_neg h]
end Go.Proofs.YtebkcipolijfmaaGreat
/- The laws' own check (grids). -/
namespace Go.Proofs.YtebkcipolijfmaaGreat
open Go Go.RowKit
theorem An2 {x y:Int} (hx:x.natAbs < 10000000000000) (hy:y.natAbs < 10000000000000):Rv (CR x 1) (CR y 1)=some (CR (x*y) 1,0):=by
 obtain ⟨n,h1,h2⟩:=Avd (x:=x) (y:=y) (d:=1) (e:=1) (by omega) (by omega) (by omega) (by omega)
 rw [Nat.mul_one] at h2
 have hb:(x*y).natAbs≤10000000000000*10000000000000:=by rw [Int.natAbs_mul];exact Nat.mul_le_mul (by omega) (by omega)
 unfold Rv
 rw [Ata (Ais (by omega) (by omega)) (Ais (by omega) (by omega)),Ah,if_neg (by simp),of_eq (by omega) (by omega) (by omega) (Nat.gcd_one_right _),Ah,of_eq (by omega) (by omega) (by omega) (Nat.gcd_one_right _),Ah,h1,Ah,
  Al4 h2 (by omega) (by omega) (Red.id (Nat.gcd_one_right _) (by omega)),Ah]
theorem Ave {n:Nat} (h0:0 < n) (h:n < 4294967296):CR (n:Int) 1=⟨false,[(n:Int)],[]⟩:=by
 unfold CR
 rw [if_pos rfl,Int.natAbs_natCast,Tp h0 h,decide_eq_false (by omega)]
theorem Aiu {n:Nat} (h0:0 < n) (h:n < 1000):Ou ⟨0,0,10,2,1⟩ (n:Int)=some ⟨false,[((100*n:Nat):Int)],[]⟩:=by
 unfold Ou
 dsimp only
 rw [show w64 (10*10)=100 from by decide,Adz (by omega) (by omega),Ah,Adz (by omega) (by omega),Ah,An2 (by omega) (by omega),Ah]
 rw [show (100:Int)*(n:Int)=((100*n:Nat):Int) by omega,Ave (by omega) (by omega)]
theorem Aiv {n:Nat} (h0:0 < n) (h:n < 65536):Gn (n:Int)=some ⟨⟨false,[(n:Int)]⟩,[1]⟩:=by
 have e1:Fv ((n:Int),[])=some (.inl (0,[(n:Int)])):=by
  unfold Fv
  dsimp only
  rw [if_pos (by omega),gd_t (by simp),show Int.tdiv (n:Int) 65536=0 from by rw [Int.tdiv_eq_ediv_of_nonneg (by omega)];omega,show Int.tmod (n:Int) 65536=(n:Int) from by rw [Int.tmod_eq_emod_of_nonneg (by omega)];omega,Bs (by omega) (by omega)]
  rfl
 have e2:Fv (0,[(n:Int)])=some (.inr [(n:Int)]):=by
  unfold Fv
  rw [if_neg (by simp)]
 unfold Gn Kw
 rw [jn_d,if_neg (by omega),Nb (by omega)]
 dsimp only
 rw [jn_d,Ci,e1]
 dsimp only
 rw [Ci,e2,Ah,Ah,decide_eq_false (by omega)]
theorem Aiw {n:Nat} (h:n < 65536):Ir [(n:Int)]=some ([(n:Int)],true):=by
 have e1:Fw [(n:Int)] ([],0)=some (.inl ([(n:Int)],2)):=by
  unfold Fw
  dsimp only
  rw [if_pos (by simp),show idx [(n:Int)] 0=some (n:Int) from rfl,Ah,jn_d,if_neg (by rw [show w64 (0+1)=1 from by decide];simp)]
  dsimp only
  rw [gd_t (by simp),Ae1 (by omega)]
  rfl
 have e2:Fw [(n:Int)] ([(n:Int)],2)=some (.inr [(n:Int)]):=by
  unfold Fw
  rw [if_neg (by simp)]
 unfold Ir
 rw [if_neg (by simp),jn_d,Ci,e1]
 dsimp only
 rw [Ci,e2]
 rfl
theorem Avf {n:Nat} (h:n < 65536):Mu ⟨⟨false,[(n:Int)]⟩,[1]⟩=some (⟨false,[(n:Int)],[]⟩,0):=by
 unfold Mu
 dsimp only
 rw [Aiw h,Ah,show ([1]:List Int)=[((1:Nat):Int)] from rfl,Aiw (n:=1) (by omega),Ah,jn_d,if_pos rfl]
 dsimp only
 rw [if_neg (by simp),jn_d,jn_d,if_pos (by simp),show idx [((1:Nat):Int)] 0=some 1 from rfl,Ah]
 dsimp only
 rw [if_pos (by decide)]
theorem Al9 {n:Nat} (h:n < 65536):Hp ⟨false,[(n:Int)],[]⟩ ⟨⟨false,[(n:Int)]⟩,[1]⟩=some true:=by
 have e1:Gp ⟨false,[(n:Int)],[]⟩ (⟨false,[(n:Int)],[]⟩,0) 0=some (.inl 1):=by
  unfold Gp
  dsimp only
  rw [if_pos (by simp),show idx [(n:Int)] 0=some (n:Int) from rfl,Ah,Ah,if_pos rfl]
  rfl
 have e2:Gp ⟨false,[(n:Int)],[]⟩ (⟨false,[(n:Int)],[]⟩,0) 1=some (.inr (.inl ())):=by
  unfold Gp
  rw [if_neg (by simp)]
 have e3:Kn ⟨false,[(n:Int)],[]⟩ (⟨false,[(n:Int)],[]⟩,0) 0=some (.inr (.inl ())):=by
  unfold Kn
  rw [if_neg (by simp)]
 unfold Hp
 rw [Avf h,Ah,jn_d]
 dsimp only
 rw [if_pos rfl,if_pos (by decide),if_pos rfl,if_neg (by simp),jn_d,Ci,e1]
 dsimp only
 rw [Ci,e2]
 dsimp only
 rw [Ah]
 dsimp only
 rw [jn_d,Ci,e3]
 rfl
def gA:Aw:=⟨⟨0,0,10,2,1⟩,[⟨false,⟨1,3⟩⟩,⟨false,⟨0,1⟩⟩]⟩
def gB:Aw:=⟨⟨0,0,10,2,1⟩,[⟨false,⟨4,5⟩⟩,⟨false,⟨5,7⟩⟩]⟩
theorem An3:Ij gA gB=some ([1,1],0):=by
 rw [Akc];decide
theorem An4:Lh gA gB [1]=some (⟨false,[400],[]⟩,⟨false,[700],[]⟩,0):=by
 have a1:Ht [1] gA 0=some (.inl 1):=by
  unfold Ht
  rw [if_pos (by decide),show idx ([1]:List Int) 0=some 1 from rfl,Ah,Xv,Ah,if_pos (by decide)]
  rfl
 have a2:Ht [1] gA 1=some (.inr (.inl ())):=by
  unfold Ht
  rw [if_neg (by decide)]
 have b1:Gq [1] gA gB ([false,false],0)=some (.inl ([false,true],1)):=by
  unfold Gq
  dsimp only
  rw [if_pos (by decide),show idx ([1]:List Int) 0=some 1 from rfl,Ah,jn_d,show idx [false,false] 1=some false from rfl,Ah,if_neg (by decide),show idx gA.Cells 1=some ⟨false,⟨0,1⟩⟩ from rfl,Ah,if_neg (by decide),show idx gB.Cells 1=some ⟨false,⟨5,7⟩⟩ from rfl,Ah]
  dsimp only
  rw [if_neg (by decide),Ah]
  rfl
 have b2:Gq [1] gA gB ([false,true],1)=some (.inr (.inl ())):=by
  unfold Gq
  rw [if_neg (by decide)]
 have c1:Hr [1] gB gA (0,0,0)=some (.inl (4,7,1)):=by
  unfold Hr
  dsimp only
  rw [if_pos (by decide),show idx ([1]:List Int) 0=some 1 from rfl,Ah,show idx gB.Cells 1=some ⟨false,⟨5,7⟩⟩ from rfl,Ah,show idx gA.Cells 1=some ⟨false,⟨0,1⟩⟩ from rfl,Ah,Ah,Ah]
  rfl
 have c2:Hr [1] gB gA (4,7,1)=some (.inr (4,7)):=by
  unfold Hr
  rw [if_neg (by decide)]
 have e1:lfix (Ht [1] gA) 0=some (.inl ()):=by rw [Ci,a1];dsimp only;rw [Ci,a2]
 have e2:lfix (Gq [1] gA gB) ([false,false],0)=some (.inl ()):=by rw [Ci,b1];dsimp only;rw [Ci,b2]
 have e3:lfix (Hr [1] gB gA) (0,0,0)=some (4,7):=by rw [Ci,c1];dsimp only;rw [Ci,c2]
 unfold Lh
 rw [Al7,Ah,if_pos (by decide),jn_d,e1,Ah]
 dsimp only
 rw [gd_t (by decide),jn_d]
 have e4:(List.replicate (Int.toNat (((gA.Cells).length:Nat):Int)) (false:Bool))=[false,false]:=rfl
 rw [e4,e2,Ah]
 dsimp only
 unfold Pm
 rw [jn_d,e3,Ah]
 dsimp only
 rw [show gA.Raster=⟨0,0,10,2,1⟩ from rfl,show (4:Int)=((4:Nat):Int) from rfl,Aiu (by omega) (by omega),Ah,show (7:Int)=((7:Nat):Int) from rfl,Aiu (by omega) (by omega),Ah,Ah]
 rfl
theorem Aix:Ef=some true:=by
 unfold Ef
 simp only [show ∀ x y,Fe x y=some ⟨false,⟨x,y⟩⟩ from fun _ _=>rfl,Ah]
 have hr:∀ c d:Az,Iv [c,d]=some ⟨⟨0,0,10,2,1⟩,[c,d]⟩:=fun _ _=>rfl
 rw [hr,Ah,hr,Ah]
 show (bnd (Ij gA gB) fun r27=>bnd (Lh gA gB [1]) _)=_
 rw [An3,Ah,An4,Ah,jn_d]
 dsimp only
 rw [if_pos rfl,if_pos (by decide),show idx ([1,1]:List Int) 0=some 1 from rfl,Ah,if_pos rfl,show idx ([1,1]:List Int) 1=some 1 from rfl,Ah,if_pos rfl,if_pos rfl]
 rw [show (400:Int)=((400:Nat):Int) from rfl,Aiv (by omega) (by omega),Ah,Al9 (by omega),Ah,if_pos rfl,show (700:Int)=((700:Nat):Int) from rfl,Aiv (by omega) (by omega),Ah,Al9 (by omega),Ah]
end Go.Proofs.YtebkcipolijfmaaGreat
