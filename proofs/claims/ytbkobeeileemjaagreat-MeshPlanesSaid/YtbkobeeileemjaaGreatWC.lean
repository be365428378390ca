/- Plain laws on the program's fractions: rounding down, spans of two fractions, sums and products of whole numbers. -/
import Derived.Test.YtbkobeeileemjaaGreatWB
namespace Go.Proofs.YtbkobeeileemjaaGreat
open Go Go.RowKit
theorem Ag5 {h x:Nat} (hh:h≤1073741824) (hx:x < 4294967296):Jx .i64 (shl_ .i64 (h:Int) 32) (w64 (x:Int))=((h*4294967296+x:Nat):Int):=by
 have e1:shl_ .i64 (h:Int) 32=((h*4294967296:Nat):Int):=by
  show w64 ((h:Int)*2 ^ (min (32:Int).toNat 64))=_
  rw [show (2:Int) ^ (min (32:Int).toNat 64)=4294967296 from by decide,Bu (by omega) (by omega)]
  omega
 rw [e1,Bu (by omega) (by omega)]
 unfold Jx
 have e:(BitVec.ofInt IntKind.i64.bits ((h*4294967296:Nat):Int) ||| BitVec.ofInt IntKind.i64.bits (x:Int)).toNat=h*4294967296+x:=by
  show (BitVec.ofInt 64 ((h*4294967296:Nat):Int) ||| BitVec.ofInt 64 (x:Int)).toNat=_
  rw [BitVec.toNat_or]
  have k:∀ n:Nat,n < 18446744073709551616→(BitVec.ofInt 64 (n:Int)).toNat=n:=fun n hn=>by
   simp [BitVec.toNat_ofInt];omega
  rw [k _ (by omega),k _ (by omega),show h*4294967296=2 ^ 32*h by omega,← Nat.two_pow_add_eq_or_of_lt (by omega)]
 rw [e]
 exact Bu (by omega) (by omega)
theorem An3 {q:Nat} (h:4294967296≤q) (h2:q < 18446744073709551616):L32 q=[((q % 4294967296:Nat):Int),((q / 4294967296:Nat):Int)]:=by
 unfold L32
 rw [Mb (by omega) (by omega),Mb (by omega) (show q / 4294967296≠0 by omega),show q / 4294967296 / 4294967296=0 by omega,Rd,show q / 4294967296 % 4294967296=q / 4294967296 by omega]
 rfl
theorem Ag6 {q:Nat} (h:q≤4611686018427387904):lfix (Cg (L32 q)) (0,w64 (((((L32 q).length:Nat):Int))-1))=some (q:Int):=by
 have out:∀ (l:List Int) (n:Int),lfix (Cg l) (n,-1)=some n:=fun l n=>by
  rw [Ck]
  unfold Cg
  rw [if_neg (by simp)]
 by_cases h0:q=0
 ·subst h0
  rw [(Mc (a:=0)).2 rfl]
  exact out _ _
 ·by_cases h1:q < 4294967296
  ·rw [Qa (by omega) h1,show w64 (((([(q:Int)].length:Nat):Int))-1)=0 from rfl,Ck]
   have e:Cg [(q:Int)] (0,0)=some (.inl ((q:Int),-1)):=by
    unfold Cg
    dsimp only
    have:=Ag5 (h:=0) (x:=q) (by omega) h1
    rw [if_pos (by omega),show idx [(q:Int)] 0=some (q:Int) from rfl,Ah,show ((0:Int))=((0:Nat):Int) from rfl,this]
    simp
    rfl
   rw [e]
   exact out _ _
  ·rw [An3 (by omega) (by omega),show w64 (((([((q % 4294967296:Nat):Int),((q / 4294967296:Nat):Int)].length:Nat):Int))-1)=1 from rfl,Ck]
   have e:Cg [((q % 4294967296:Nat):Int),((q / 4294967296:Nat):Int)] (0,1)=some (.inl (((q / 4294967296:Nat):Int),0)):=by
    unfold Cg
    dsimp only
    have:=Ag5 (h:=0) (x:=q / 4294967296) (by omega) (by omega)
    rw [if_pos (by omega),show idx [((q % 4294967296:Nat):Int),((q / 4294967296:Nat):Int)] 1=some ((q / 4294967296:Nat):Int) from rfl,Ah,show ((0:Int))=((0:Nat):Int) from rfl,this]
    simp
    rfl
   have e':Cg [((q % 4294967296:Nat):Int),((q / 4294967296:Nat):Int)] (((q / 4294967296:Nat):Int),0)=some (.inl ((q:Int),-1)):=by
    unfold Cg
    dsimp only
    have:=Ag5 (h:=q / 4294967296) (x:=q % 4294967296) (by omega) (by omega)
    rw [if_pos (by omega),show idx [((q % 4294967296:Nat):Int),((q / 4294967296:Nat):Int)] 0=some ((q % 4294967296:Nat):Int) from rfl,Ah,this,show q / 4294967296*4294967296+q % 4294967296=q by omega]
    rfl
   rw [e]
   dsimp only
   rw [Ck,e']
   exact out _ _
theorem Ad2 (a:Nat) {d:Nat} (hd:0 < d):(-(a:Int)) / (d:Int) = -((a / d+(if 0 < a % d then 1 else 0):Nat):Int):=by
 have h:=Nat.div_add_mod a d
 have hm:=Nat.mod_lt a hd
 by_cases c:0 < a % d
 ·rw [if_pos c]
  refine ((Int.ediv_emod_unique (r:=(d:Int)-((a % d:Nat):Int)) (by omega)).2 ⟨?_,by omega,by omega⟩).1
  have h':(d:Int)*((a / d:Nat):Int)+((a % d:Nat):Int)=(a:Int):=by rw [← Int.natCast_mul,← Int.natCast_add,h]
  rw [Int.natCast_add,Int.mul_neg,Int.mul_add]
  generalize (d:Int)*((a / d:Nat):Int)=z at *
  omega
 ·rw [if_neg c]
  refine ((Int.ediv_emod_unique (r:=0) (by omega)).2 ⟨?_,by omega,by omega⟩).1
  have h':(d:Int)*((a / d:Nat):Int)+((a % d:Nat):Int)=(a:Int):=by rw [← Int.natCast_mul,← Int.natCast_add,h]
  rw [Nat.add_zero,Int.mul_neg]
  generalize (d:Int)*((a / d:Nat):Int)=z at *
  omega
theorem Alr {z:Int} {d:Nat} (hz:z.natAbs < 79228162514264337593543950336) (hd:0 < d) (hd2:d < 4294967296) (hq:z.natAbs / d < 4611686018427387904):Ig (CN z d)=some (z / (d:Int),true):=by
 have l1:=Ub hz
 have key:∀ Q:Nat,Q≤4611686018427387904→z / (d:Int)=(if z < 0 then -(Q:Int) else (Q:Int)) →
   (bnd (Gd 4611686018427387904) fun r40=>bnd (Fy (L32 Q) r40) fun r48=>if 0 < r48 then (some ((0:Int),false)) else (jn (fun (s9:Int)=>jn (fun (s17:Int)=>some (s17,true)) (fun j17=>if decide (z < 0)=true then (j17 (w64 (-(s9)))) else (j17 s9))) (fun j9=>bnd (lfix (Cg (L32 Q)) (0,w64 (((((L32 Q).length:Nat):Int))-1))) fun t69=>j9 t69)))=some (z / (d:Int),true):=by
  intro Q hQ e
  rw [show (4611686018427387904:Int)=((4611686018427387904:Nat):Int) from rfl,Aaf (by omega),Ah,Ad7 _ _ (Nat.le_trans (Apc (by omega)) (by omega)),Ah,if_neg (by unfold cmpN;split <;> (try split) <;> omega),jn_d,Ag6 hQ,Ah,e]
  dsimp only
  rw [jn_d]
  by_cases c:z < 0
  ·rw [if_pos (by simpa using c),if_pos c,Bu (by omega) (by omega)]
  ·rw [if_neg (by simpa using c),if_neg c]
 unfold Ig CN
 dsimp only
 rw [Ah0 (by omega) hd hd2,Ah]
 dsimp only
 rw [jn_d,jn_d]
 by_cases c:z < 0
 ·rw [if_pos (by simpa using c)]
  dsimp only
  have e0:z = -((z.natAbs:Nat):Int):=by omega
  have en:=Ad2 z.natAbs hd
  rw [← e0] at en
  by_cases c2:0 < z.natAbs % d
  ·have:(L32 (z.natAbs % d)).length≠0:=fun e=>by have:=Mc.1 e;omega
   rw [if_pos (by rw [decide_eq_true_eq];omega),oneW,Ahc (Nat.le_trans (Apc (by omega)) (by omega)) (Nat.le_trans (Uc (by omega)) (by omega)),Ah]
   rw [if_pos c2] at en
   exact key (z.natAbs / d+1) (by omega) (by rw [if_pos c,en])
  ·rw [if_neg (by rw [decide_eq_true_eq,show z.natAbs % d=0 by omega,(Mc (a:=0)).2 rfl];simp)]
   rw [if_neg c2] at en
   exact key (z.natAbs / d) (by omega) (by rw [if_pos c,en];simp)
 ·rw [if_neg (by simpa using c)]
  dsimp only
  rw [if_neg (by simp)]
  have e0:z=((z.natAbs:Nat):Int):=by omega
  refine key (z.natAbs / d) (by omega) ?_
  rw [if_neg c]
  have:=Int.natCast_ediv z.natAbs d
  rw [← e0] at this
  exact this.symm
theorem Afv {z:Int} {d:Nat} (hz:z.natAbs < 79228162514264337593543950336) (hd:0 < d) (hd2:d < 4294967296) (hq:z.natAbs / d < 4611686018427387904) (h1:-1152921504606846976≤z / (d:Int)) (h2:z / (d:Int)≤1152921504606846976):Jm (CN z d)=some (z / (d:Int),true):=by
 unfold Jm
 rw [Alr hz hd hd2 hq,Ah]
 dsimp only
 rw [jn_d,if_pos rfl,if_neg (by omega)]
 dsimp only
 rw [if_neg (by rw [decide_eq_true_eq];omega)]
/-- A number is small: its fraction in lowest terms, and what it is rounded down and up to. -/
structure Sm (z:Int) (d:Nat):Prop where
 co:Nat.gcd z.natAbs d=1
 pos:0 < d
 d2:d < 4294967296
 n2:z.natAbs < 100000000000000000
theorem Sm.quo {z:Int} {d:Nat} (h:Sm z d):z.natAbs / d < 4611686018427387904∧-1152921504606846976≤z / (d:Int)∧z / (d:Int)≤1152921504606846976:=by
 have h2:=h.n2
 have hd:=h.pos
 have:=Nat.div_le_self z.natAbs d
 refine ⟨by omega,?_,?_⟩
 ·refine Int.le_trans (by omega) (Int.le_ediv_of_mul_le (c:=(d:Int)) (a:=-1000000000000000000) (by omega) ?_)
  have:=Int.mul_le_mul_of_nonneg_left (show (1:Int)≤d by omega) (show (0:Int)≤1000000000000000000 by omega)
  omega
 ·have:=Int.ediv_le_ediv (show (0:Int) < d by omega) (show z≤1000000000000000000*(d:Int) by
   have:=Int.mul_le_mul_of_nonneg_left (show (1:Int)≤d by omega) (show (0:Int)≤1000000000000000000 by omega)
   omega)
  rw [Int.mul_ediv_cancel _ (by omega)] at this
  omega
theorem Sm.neg {z:Int} {d:Nat} (h:Sm z d):Sm (-z) d:=⟨by rw [Int.natAbs_neg];exact h.co,h.pos,h.d2,by rw [Int.natAbs_neg];exact h.n2⟩
theorem Als {x y:Int} {d e:Nat} (hx:Sm x d) (hy:Sm y e) (hle:x*e≤y*d):Ms (CR x d) (CR y e)=some (⟨x / (d:Int),-((-y) / (e:Int))⟩,0):=by
 obtain ⟨a1,a2,a3⟩:=hx.quo
 obtain ⟨b1,b2,b3⟩:=hy.neg.quo
 have n1:=hx.n2
 have n2:=hy.n2
 have f1:=Afv (by omega) hx.pos hx.d2 a1 a2 a3
 have f2:=Afv (z:=-y) (d:=e) (by omega) hy.pos hy.d2 b1 b2 b3
 have hs:¬ 0 < Int.sign (x*e-y*d):=by
  rcases Int.lt_or_eq_of_le hle with h | h
  ·rw [Int.sign_eq_neg_one_of_neg (by omega)];omega
  ·rw [h,Int.sub_self];decide
 unfold Ms
 rw [Xk (Ly (by omega) hx.d2) (Ly (by omega) hy.d2),Ah,if_neg (by simp),jn_d,of_eq (by omega) hx.d2 hx.pos hx.co,Ah,of_eq (by omega) hy.d2 hy.pos hy.co,Ah]
 dsimp only
 rw [jn_d,show Iz ⟨(CN x d).neg,(CN x d).n,(CN x d).d⟩ ⟨(CN y e).neg,(CN y e).n,(CN y e).d⟩=some (Int.sign (x*e-y*d)) from Aqk hx.pos hy.pos hx.d2 hy.d2 (by omega) (by omega),Ah,if_neg hs]
 dsimp only
 rw [show Jm ⟨(CN x d).neg,(CN x d).n,(CN x d).d⟩=_ from f1,Ah,show Gb ⟨(CN y e).neg,(CN y e).n,(CN y e).d⟩=_ from Aml y e,Ah,f2,Ah,jn_d]
 dsimp only
 rw [if_pos rfl,if_neg (by simp)]
 unfold Pj
 rw [jn_d,Bu (by omega) (by omega),if_neg (by omega)]
 dsimp only
 rw [if_neg (by rw [decide_eq_true_eq];omega),Ah]
theorem Sm.one {x:Int} (h:x.natAbs < 100000000000000000):Sm x 1:=⟨Nat.gcd_one_right _,by omega,by omega,h⟩
theorem Vq {x:Int} (h1:-9223372036854775808≤x) (h2:x≤9223372036854775807):Gx x=some (CR x 1):=by
 obtain ⟨n,e,hn⟩:=Ahd h1 h2
 unfold Gx
 rw [e,Ah,Xj (z:=x) (d:=1) (c:=x) (e:=1) ⟨hn.num,by rw [hn.den,oneW],hn.neg⟩ (by omega) (by omega) (Red.id (Nat.gcd_one_right _) (by omega)),Ah]
theorem Qp (k:Bb) {x:Int} (h1:-9223372036854775808≤x) (h2:x≤9223372036854775807):Cs k x=some (CR x 1):=by
 unfold Cs
 rw [Vq h1 h2,Ah]
theorem Aid (k:Bb) {x y z:Int} {d e f:Nat} (hx:Sm x d) (hy:Sm y e) (hde:d*e < 4294967296) (hr:Red (x*e+y*d) (d*e) z f):Iw k (CR x d) (CR y e)=some (CR z f):=by
 have n1:=hx.n2
 have n2:=hy.n2
 obtain ⟨n,h1,h2⟩:=Amk (x:=x) (y:=y) hx.pos hy.pos hx.d2 hy.d2 (by omega) (by omega)
 have hb:(x*e+y*d).natAbs < 79228162514264337593543950336:=by
  have q1:(x*(e:Int)).natAbs≤100000000000000000*4294967296:=by rw [Int.natAbs_mul,Int.natAbs_natCast];exact Nat.mul_le_mul (by omega) (by have:=hy.d2;omega)
  have q2:(y*(d:Int)).natAbs≤100000000000000000*4294967296:=by rw [Int.natAbs_mul,Int.natAbs_natCast];exact Nat.mul_le_mul (by omega) (by have:=hx.d2;omega)
  omega
 unfold Iw Qt
 rw [Xk (Ly (by omega) hx.d2) (Ly (by omega) hy.d2),Ah,if_neg (by simp),of_eq (by omega) hx.d2 hx.pos hx.co,Ah,of_eq (by omega) hy.d2 hy.pos hy.co,Ah,h1,Ah,Xj h2 hb hde hr,Ah,Ah]
theorem Xa (k:Bb) {x y:Int} (hx:x.natAbs < 10000000000000000) (hy:y.natAbs < 10000000000000000):Ha k (CR x 1) (CR y 1)=some (CR (x-y) 1):=by
 obtain ⟨n,h1,h2⟩:=Amm (x:=x) (y:=y) (d:=1) (e:=1) (by omega) (by omega) (by omega) (by omega) (by omega) (by omega)
 rw [show x*((1:Nat):Int)-y*((1:Nat):Int)=x-y by omega,Nat.mul_one] at h2
 unfold Ha Qu
 rw [Xk (Ly (by omega) (by omega)) (Ly (by omega) (by omega)),Ah,if_neg (by simp),of_eq (by omega) (by omega) (by omega) (Nat.gcd_one_right _),Ah,of_eq (by omega) (by omega) (by omega) (Nat.gcd_one_right _),Ah,h1,Ah,
  Xj h2 (by omega) (by omega) (Red.id (Nat.gcd_one_right _) (by omega)),Ah,Ah]
theorem Alt (k:Bb) {x y:Int} (hx:x.natAbs < 10000000000000000) (hy:y.natAbs < 10000000000000000):Iw k (CR x 1) (CR y 1)=some (CR (x+y) 1) :=
 Aid k (Sm.one (by omega)) (Sm.one (by omega)) (by omega) (by
  rw [show x*((1:Nat):Int)+y*((1:Nat):Int)=x+y by omega,Nat.mul_one]
  exact Red.id (Nat.gcd_one_right _) (by omega))
theorem Ri (k:Bb) {x y:Int} (hx:x.natAbs < 10000000000000) (hy:y.natAbs < 10000000000000):Et k (CR x 1) (CR y 1)=some (CR (x*y) 1):=by
 obtain ⟨n,h1,h2⟩:=Aql (x:=x) (y:=y) (d:=1) (e:=1) (by omega) (by omega) (by omega) (by omega)
 rw [Nat.mul_one] at h2
 have hb:(x*y).natAbs≤10000000000000*10000000000000:=by rw [Int.natAbs_mul];exact Nat.mul_le_mul (by omega) (by omega)
 unfold Et Qv
 rw [Xk (Ly (by omega) (by omega)) (Ly (by omega) (by omega)),Ah,if_neg (by simp),of_eq (by omega) (by omega) (by omega) (Nat.gcd_one_right _),Ah,of_eq (by omega) (by omega) (by omega) (Nat.gcd_one_right _),Ah,h1,Ah,
  Xj h2 (by omega) (by omega) (Red.id (Nat.gcd_one_right _) (by omega)),Ah,Ah]
theorem Alu (k:Bb) {x c:Int} {y e:Nat} (hx:x.natAbs < 10000000000000000) (hy0:0 < y) (hy:y < 4294967296) (hr:Red x y c e):Lv k (CR x 1) (CR (y:Int) 1)=some (CR c e):=by
 obtain ⟨n,h1,h2⟩:=Aqm (x:=x) (y:=(y:Int)) (d:=1) (e:=1) (by omega) (by omega) (by omega) (by omega) (by omega) (by omega)
 rw [show x*((1:Nat):Int)=x by omega,Int.natAbs_natCast,Nat.one_mul] at h2
 unfold Lv Qw
 rw [Xk (Ly (by omega) (by omega)) (Ly (by omega) (by omega)),Ah,if_neg (by simp),of_eq (by omega) (by omega) (by omega) (Nat.gcd_one_right _),Ah,Aiw (Arp _ _),Ah,Int.sign_eq_one_of_pos (by omega),if_neg (by omega),
  of_eq (by omega) (by omega) (by omega) (Nat.gcd_one_right _),Ah,h1,Ah,Xj h2 (by omega) hy hr,Ah,Ah]
end Go.Proofs.YtbkobeeileemjaaGreat
