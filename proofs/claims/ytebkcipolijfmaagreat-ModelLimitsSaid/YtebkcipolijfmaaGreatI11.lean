/- Words of 64 bits. -/
import Derived.Test.YtebkcipolijfmaaGreatZ1
import Derived.Test.YtebkcipolijfmaaGreatN3
namespace Go.Proofs.YtebkcipolijfmaaGreat
open Go Go.RowKit
theorem Vb (x:Int):wu64 x=x % 18446744073709551616:=by unfold wu64;rw [IntKind.wrap_u64]
theorem Uf {j:Nat} (h:j≤18446744073709551615):wu64 (j:Int)=(j:Int):=by rw [Vb];omega
end Go.Proofs.YtebkcipolijfmaaGreat
/- Plain laws on machine words: products of two words, quotients of two words by one. -/
namespace Go.Proofs.YtebkcipolijfmaaGreat
open Go Go.RowKit
theorem wuM (n:Nat):wu64 (n:Int)=((n % 18446744073709551616:Nat):Int):=by rw [Vb];omega
theorem shrN (n j:Nat) (h:j≤64):shr_ .u64 (n:Int) (j:Int)=((n / 2 ^ j:Nat):Int):=by
 unfold shr_
 have e:min ((j:Int)).toNat IntKind.u64.bits=j:=by
  have:IntKind.u64.bits=64:=rfl
  rw [this];omega
 rw [e,Int.fdiv_eq_ediv_of_nonneg _ (by exact_mod_cast Nat.zero_le (2 ^ j))]
 norm_cast
theorem shlN (n j:Nat) (h:j≤64):shl_ .u64 (n:Int) (j:Int)=((n*2 ^ j % 18446744073709551616:Nat):Int):=by
 unfold shl_
 have e:min ((j:Int)).toNat IntKind.u64.bits=j:=by
  have:IntKind.u64.bits=64:=rfl
  rw [this];omega
 have c:(n:Int)*2 ^ j=((n*2 ^ j:Nat):Int):=by norm_cast
 rw [e,IntKind.wrap_u64,c]
 generalize n*2 ^ j=m
 omega
theorem Zj (n:Nat):shr_ .u64 (n:Int) 32=((n / 4294967296:Nat):Int):=shrN n 32 (by omega)
theorem andN (n:Nat):Cw .u64 (n:Int) 4294967295=((n % 4294967296:Nat):Int):=by
 unfold Cw
 have e:(BitVec.ofInt IntKind.u64.bits (n:Int) &&& BitVec.ofInt IntKind.u64.bits 4294967295).toNat=n % 4294967296:=by
  show (BitVec.ofInt 64 (n:Int) &&& BitVec.ofInt 64 4294967295).toNat=_
  rw [BitVec.toNat_and]
  have e1:(BitVec.ofInt 64 (n:Int)).toNat=n % 2 ^ 64:=by simp [BitVec.toNat_ofInt]
  have e2:(BitVec.ofInt 64 (4294967295:Int)).toNat=2 ^ 32-1:=by decide
  rw [e1,e2,Nat.and_two_pow_sub_one_eq_mod]
  omega
 rw [e,IntKind.wrap_u64]
 omega
theorem Ake (a1 a0 b1 b0:Nat) (h1:a1 < 4294967296) (h2:a0 < 4294967296) (h3:b1 < 4294967296) (h4:b0 < 4294967296) :
  a1*b1≤18446744065119617025∧a1*b0≤18446744065119617025∧a0*b1≤18446744065119617025∧a0*b0≤18446744065119617025:=by
 have k:∀ x y:Nat,x < 4294967296→y < 4294967296→x*y≤18446744065119617025:=fun x y hx hy =>
  Nat.le_trans (Nat.mul_le_mul (Nat.le_of_lt_succ hx) (Nat.le_of_lt_succ hy)) (by decide)
 exact ⟨k _ _ h1 h3,k _ _ h1 h4,k _ _ h2 h3,k _ _ h2 h4⟩
theorem Aw1 {a b:Nat} (ha:a < 18446744073709551616) (hb:b < 18446744073709551616) :
  Js (a:Int) (b:Int)=some (((a*b / 18446744073709551616:Nat):Int),((a*b % 18446744073709551616:Nat):Int)):=by
 unfold Js
 have e2:(a:Int)*(b:Int)=((a*b:Nat):Int):=by norm_cast
 simp only [Zj,andN,e2,wuM]
 have hm:=Ake (a / 4294967296) (a % 4294967296) (b / 4294967296) (b % 4294967296) (by omega) (by omega) (by omega) (by omega)
 have e:a*b=a / 4294967296*(b / 4294967296)*18446744073709551616+(a / 4294967296*(b % 4294967296)+a % 4294967296*(b / 4294967296))*4294967296+a % 4294967296*(b % 4294967296):=by
  have x1:a=a / 4294967296*4294967296+a % 4294967296:=by omega
  have x2:b=b / 4294967296*4294967296+b % 4294967296:=by omega
  generalize a / 4294967296=p at *
  generalize a % 4294967296=q at *
  generalize b / 4294967296=r at *
  generalize b % 4294967296=s at *
  subst x1;subst x2
  grind
 have c1:∀ x y:Nat,(x:Int)*(y:Int)=((x*y:Nat):Int):=fun x y=>by norm_cast
 have c2:∀ x y:Nat,(x:Int)+(y:Int)=((x+y:Nat):Int):=fun x y=>by norm_cast
 simp only [c1,c2,wuM,Zj,andN]
 rw [e]
 clear e e2 c1 c2
 generalize a / 4294967296*(b / 4294967296)=p at *
 generalize a / 4294967296*(b % 4294967296)=q at *
 generalize a % 4294967296*(b / 4294967296)=r at *
 generalize a % 4294967296*(b % 4294967296)=s at *
 obtain ⟨m1,m2,m3,m4⟩:=hm
 congr 3
 omega
end Go.Proofs.YtebkcipolijfmaaGreat
/- Plain laws: steepness, sums of products in two words, the digits of a quotient. -/
namespace Go.Proofs.YtebkcipolijfmaaGreat
open Go Go.RowKit
def W2 (n:Nat):Fu:=⟨((n / 18446744073709551616:Nat):Int),((n % 18446744073709551616:Nat):Int)⟩
theorem Abn {n a b:Nat} (ha:a < 18446744073709551616) (hb:b < 18446744073709551616) (h:n+a*b < 340282366920938463463374607431768211456) :
  En (W2 n) (a:Int) (b:Int)=some (W2 (n+a*b)):=by
 unfold En
 rw [Uf (by omega),Uf (by omega),Aw1 ha hb,Ah]
 generalize a*b=m at *
 have e1:(W2 n).lo=((n % 18446744073709551616:Nat):Int):=rfl
 have e2:(W2 n).hi=((n / 18446744073709551616:Nat):Int):=rfl
 rw [gd_t (by rw [e1];omega),gd_t (by rw [e1,e2];dsimp only;omega),e1,e2]
 unfold W2
 congr 2 <;> omega
end Go.Proofs.YtebkcipolijfmaaGreat
/- Plain laws: the digits of a quotient of two words by one. -/
namespace Go.Proofs.YtebkcipolijfmaaGreat
open Go Go.RowKit
/-- The estimate of a digit and its corrections (B is the base). -/
theorem Af5 {σ:Type} {f:σ→Option (Sum σ Int)} (enc:Nat→Nat→σ) {B v1 v0 U u1:Nat} (h1:v1 < B) (h3:v0 < B) (hU:U < v1*B+v0) (hu:u1 < B) (h0:0 < v1)
  (hf:∀ q r:Nat,q*v1≤U→r < B→f (enc q r)=if B≤q∨B*r+u1 < q*v0 then (if B≤r+v1 then some (.inr ((q-1:Nat):Int)) else some (.inl (enc (q-1) (r+v1)))) else some (.inr (q:Int))) :
  lfix f (enc (U / v1) (U % v1))=some (((U*B+u1) / (v1*B+v0):Nat):Int):=by
 have hV:0 < v1*B+v0:=by
  have:=Nat.mul_pos h0 (show 0 < B by omega);omega
 have hQ:(U*B+u1) / (v1*B+v0) < B:=by
  rw [Nat.div_lt_iff_lt_mul hV]
  have:(U+1)*B≤(v1*B+v0)*B:=Nat.mul_le_mul_right _ hU
  rw [Nat.add_mul,Nat.one_mul] at this
  rw [Nat.mul_comm B]
  omega
 generalize hq:(U*B+u1) / (v1*B+v0)=Q at hQ ⊢
 have hle:∀ q,q≤Q↔q*(v1*B+v0)≤U*B+u1:=fun q=>by rw [← hq,Nat.le_div_iff_mul_le hV]
 have key:∀ q r:Nat,q*v1+r=U→r < B→Q≤q→lfix f (enc q r)=some (Q:Int):=by
  intro q
  induction q with
  | zero =>
   intro r e hr hq0
   rw [Ci,hf 0 r (by omega) hr,if_neg (by omega)]
   simp;omega
  | succ q ih =>
   intro r e hr hq1
   have ex:(q+1)*(v1*B+v0)+r*B=U*B+(q+1)*v0:=by rw [← e];grind
   have e':q*v1+(r+v1)=U:=by rw [← e];grind
   rw [Ci,hf (q+1) r (by omega) hr]
   by_cases hc:B≤q+1∨B*r+u1 < (q+1)*v0
   ·have hq2:Q≤q:=by
     rcases hc with hc | hc
     ·omega
     ·have:¬ (q+1)≤Q:=by
       rw [hle]
       rw [Nat.mul_comm B r] at hc
       omega
      omega
    rw [if_pos hc]
    by_cases hd:B≤r+v1
    ·rw [if_pos hd]
     have hqB:q < B:=by
      apply Classical.byContradiction
      intro hn
      have:B*v1≤q*v1:=Nat.mul_le_mul_right _ (by omega)
      rw [Nat.mul_comm B v1] at this
      omega
     have:q≤Q:=by
      rw [hle]
      have ey:q*(v1*B+v0)+(r+v1)*B=U*B+q*v0:=by rw [← e'];grind
      have x1:q*v0≤B*B:=Nat.mul_le_mul (by omega) (by omega)
      have x2:B*B≤(r+v1)*B:=Nat.mul_le_mul_right _ hd
      omega
     have:q=Q:=by omega
     subst this;simp
    ·rw [if_neg hd]
     exact ih (r+v1) e' (by omega) hq2
   ·rw [if_neg hc]
    have:q+1≤Q:=by
     rw [hle]
     rw [Nat.mul_comm B r] at hc
     omega
    have:q+1=Q:=by omega
    subst this;rfl
 have:=Nat.div_add_mod U v1
 refine key _ _ (by rw [Nat.mul_comm];exact this) (Nat.lt_trans (Nat.mod_lt _ h0) h1) ?_
 rw [← hq]
 rw [Nat.le_div_iff_mul_le h0]
 have a:=Nat.div_mul_le_self (U*B+u1) (v1*B+v0)
 generalize (U*B+u1) / (v1*B+v0)=q at *
 have b:q*v1*B≤U*B+u1:=by
  have:q*(v1*B+v0)=q*v1*B+q*v0:=by grind
  omega
 have c:q*v1*B < (U+1)*B:=by rw [Nat.add_mul,Nat.one_mul];omega
 have:=Nat.lt_of_mul_lt_mul_right c
 omega
end Go.Proofs.YtebkcipolijfmaaGreat
/- Plain laws: how many leading bits of a word are 0. -/
namespace Go.Proofs.YtebkcipolijfmaaGreat
open Go Go.RowKit
def LenP (y:Nat) (o:Option Int):Prop:=∃ t:Nat,1≤t∧t≤64∧2 ^ (t-1)≤y∧y < 2 ^ t∧o=some (t:Int)
theorem Atf:∀ x:Fin 256,0 < x.val→∃ t:Fin 9,Kk[x.val]? = some (t.val:Int)∧1≤t.val∧2 ^ (t.val-1)≤x.val∧x.val < 2 ^ t.val:=by decide +kernel
theorem Atg {x:Nat} (h0:0 < x) (h:x < 256):∃ t:Nat,t≤8∧idx Kk (wu8 (x:Int))=some (t:Int)∧1≤t∧2 ^ (t-1)≤x∧x < 2 ^ t:=by
 obtain ⟨t,e,h1,h2,h3⟩:=Atf ⟨x,h⟩ h0
 refine ⟨t.val,by omega,?_,h1,h2,h3⟩
 have e8:wu8 (x:Int)=(x:Int):=by
  unfold wu8;rw [IntKind.wrap_u8];omega
 rw [e8]
 unfold idx
 rw [if_pos (by omega)]
 simpa using e
theorem Ame {x n y:Nat} (hx:x=y / 2 ^ n) (h0:0 < x) (h:x < 256) (hn:n≤56):LenP y (bnd (idx Kk (wu8 (x:Int))) fun x16=>some (w64 ((n:Int)+(w64 (x16))))):=by
 obtain ⟨t,h8,e,h1,h2,h3⟩:=Atg h0 h
 rw [e,Ah]
 have hp:0 < 2 ^ n:=Nat.two_pow_pos n
 refine ⟨n+t,by omega,by omega,?_,?_,?_⟩
 ·rw [hx,Nat.le_div_iff_mul_le hp,← Nat.pow_add] at h2
  rw [show n+t-1=t-1+n by omega];exact h2
 ·rw [hx,Nat.div_lt_iff_lt_mul hp,← Nat.pow_add] at h3
  rw [Nat.add_comm];exact h3
 ·rw [Am4 (by omega),Bs (by omega) (by omega)]
  norm_cast
theorem Aur {x n y:Nat} (hx:x=y / 2 ^ n) (h0:0 < x) (h:x < 65536) (hn:n≤48) :
  LenP y (jn (fun (s8:Int × Int)=>bnd (idx Kk (wu8 (s8.1))) fun x16=>some (w64 (s8.2+(w64 (x16))))) (fun j8=>if 256≤(x:Int) then (j8 (shr_ .u64 (x:Int) 8,w64 ((n:Int)+8))) else (j8 ((x:Int),(n:Int))))):=by
 rw [jn_d]
 by_cases c:256≤(x:Int)
 ·rw [if_pos c]
  have e:w64 ((n:Int)+8)=((n+8:Nat):Int):=by rw [Bs (by omega) (by omega)];norm_cast
  rw [show shr_ .u64 (x:Int) 8=((x / 2 ^ 8:Nat):Int) from shrN x 8 (by omega),e]
  exact Ame (by rw [hx,Nat.div_div_eq_div_mul,← Nat.pow_add]) (by omega) (by omega) (by omega)
 ·rw [if_neg c]
  exact Ame hx h0 (by omega) (by omega)
theorem Aqd {x n y:Nat} (hx:x=y / 2 ^ n) (h0:0 < x) (h:x < 4294967296) (hn:n≤32) :
  LenP y (jn (fun (s5:Int × Int)=>jn (fun (s8:Int × Int)=>bnd (idx Kk (wu8 (s8.1))) fun x16=>some (w64 (s8.2+(w64 (x16))))) (fun j8=>if 256≤s5.1 then (j8 (shr_ .u64 s5.1 8,w64 (s5.2+8))) else (j8 (s5.1,s5.2))))
   (fun j5=>if 65536≤(x:Int) then (j5 (shr_ .u64 (x:Int) 16,w64 ((n:Int)+16))) else (j5 ((x:Int),(n:Int))))):=by
 rw [jn_d]
 by_cases c:65536≤(x:Int)
 ·rw [if_pos c]
  have e:w64 ((n:Int)+16)=((n+16:Nat):Int):=by rw [Bs (by omega) (by omega)];norm_cast
  rw [show shr_ .u64 (x:Int) 16=((x / 2 ^ 16:Nat):Int) from shrN x 16 (by omega),e]
  exact Aur (by rw [hx,Nat.div_div_eq_div_mul,← Nat.pow_add]) (by omega) (by omega) (by omega)
 ·rw [if_neg c]
  exact Aur hx h0 (by omega) (by omega)
theorem Aw2 {y:Nat} (h0:0 < y) (h:y < 18446744073709551616):LenP y (Jt (y:Int)):=by
 unfold Jt
 rw [jn_d]
 by_cases c:4294967296≤(y:Int)
 ·rw [if_pos c]
  rw [show shr_ .u64 (y:Int) 32=((y / 2 ^ 32:Nat):Int) from shrN y 32 (by omega)]
  exact Aqd (n:=32) rfl (by omega) (by omega) (by omega)
 ·rw [if_neg c]
  exact Aqd (n:=0) (by simp) h0 (by omega) (by omega)
theorem Avj {y:Nat} (h0:0 < y) (h:y < 18446744073709551616):∃ s:Nat,s≤63∧Du (y:Int)=some (s:Int)∧9223372036854775808≤y*2 ^ s∧y*2 ^ s < 18446744073709551616:=by
 obtain ⟨t,h1,h2,h3,h4,e⟩:=Aw2 h0 h
 refine ⟨64-t,by omega,?_,?_,?_⟩
 ·unfold Du
  rw [e,Ah,Bs (by omega) (by omega)]
  congr 1;omega
 ·have:=Nat.mul_le_mul_right (2 ^ (64-t)) h3
  rw [← Nat.pow_add,show t-1+(64-t)=63 by omega] at this
  exact this
 ·have:=Nat.mul_lt_mul_of_pos_right h4 (Nat.two_pow_pos (64-t))
  rw [← Nat.pow_add,show t+(64-t)=64 by omega] at this
  exact this
end Go.Proofs.YtebkcipolijfmaaGreat
/- Plain laws: two words divided by one. -/
namespace Go.Proofs.YtebkcipolijfmaaGreat
open Go Go.RowKit
theorem Akf (x y z:Int) (h0:0≤x+y-z) (h1:x+y-z < 18446744073709551616):wu64 (wu64 (wu64 x+y)-wu64 z)=x+y-z:=by
 simp only [Vb];omega
theorem Aqe (x z:Int) (h0:0≤x-z) (h1:x-z < 18446744073709551616):wu64 (x-wu64 z)=x-z:=by
 simp only [Vb];omega
theorem Sg {x:Int} (h0:0≤x) (h1:x < 18446744073709551616):wu64 x=x:=by rw [Vb];omega
theorem orN {a b s:Nat} (hb:b < 2 ^ s) (h:a*2 ^ s+b < 18446744073709551616):Fj .u64 ((a*2 ^ s:Nat):Int) (b:Int)=((a*2 ^ s+b:Nat):Int):=by
 unfold Fj
 have e:(BitVec.ofInt IntKind.u64.bits ((a*2 ^ s:Nat):Int) ||| BitVec.ofInt IntKind.u64.bits (b:Int)).toNat=a*2 ^ s+b:=by
  show (BitVec.ofInt 64 ((a*2 ^ s:Nat):Int) ||| BitVec.ofInt 64 (b:Int)).toNat=_
  rw [BitVec.toNat_or]
  have k:∀ n:Nat,n < 18446744073709551616→(BitVec.ofInt 64 (n:Int)).toNat=n:=fun n hn=>by
   simp [BitVec.toNat_ofInt];omega
  rw [k _ (by omega),k _ (by omega),Nat.mul_comm,← Nat.two_pow_add_eq_or_of_lt hb]
 rw [e]
 exact Uf (by omega)
/-- What one round of the loop does, in numbers. -/
theorem Ai3 {v1 v0 U u q r:Nat} (h1:v1 < 4294967296) (h2:2147483648≤v1) (h3:v0 < 4294967296) (hu:u < 4294967296) (hU:U < 18446744073709551616) (hq:q*v1≤U) (hr:r < 4294967296) {σ:Type} (A:Int→Option (Sum σ Int)) (E:Option (Sum σ Int)) :
  jn (fun (s:Bool)=>if s=true then (if (4294967296:Int)≤wu64 ((r:Int)+(v1:Int)) then some (.inr (wu64 ((q:Int)-1))) else A (wu64 ((q:Int)-1))) else E)
   (fun j=>if (4294967296:Int)≤(q:Int) then j true else j (decide (wu64 (wu64 (4294967296*(r:Int))+(u:Int)) < wu64 ((q:Int)*(v0:Int)))))
  = if 4294967296≤q∨4294967296*r+u < q*v0 then (if 4294967296≤r+v1 then some (.inr ((q-1:Nat):Int)) else A ((q-1:Nat):Int)) else E:=by
 have hq2:q < 8589934593:=by
  apply Classical.byContradiction
  intro hn
  have:=Nat.mul_le_mul (show 8589934593≤q by omega) h2
  omega
 have e1:wu64 ((r:Int)+(v1:Int))=((r+v1:Nat):Int):=by rw [Sg (by omega) (by omega)];norm_cast
 have e3:wu64 (wu64 (4294967296*(r:Int))+(u:Int))=((4294967296*r+u:Nat):Int):=by
  simp only [Vb];omega
 have c1:(q:Int)*(v0:Int)=((q*v0:Nat):Int):=by norm_cast
 have d1:((4294967296:Int)≤((r+v1:Nat):Int))↔4294967296≤r+v1:=by omega
 rw [jn_d,e1,e3,c1]
 by_cases hc:4294967296≤q
 ·have e2:wu64 ((q:Int)-1)=((q-1:Nat):Int):=by rw [Sg (by omega) (by omega)];omega
  rw [if_pos (show (4294967296:Int)≤(q:Int) by omega)]
  refine (if_pos (show true=true from rfl)).trans ?_
  rw [if_pos (show 4294967296≤q∨4294967296*r+u < q*v0 from Or.inl hc),e2]
  by_cases hd:4294967296≤r+v1
  ·rw [if_pos hd,if_pos (by omega)]
  ·rw [if_neg hd,if_neg (by omega)]
 ·rw [if_neg (show ¬ (4294967296:Int)≤(q:Int) by omega)]
  have b1:q*v0≤4294967295*4294967295:=Nat.mul_le_mul (by omega) (by omega)
  rw [Uf (show q*v0≤18446744073709551615 by omega)]
  by_cases hk:4294967296*r+u < q*v0
  ·have hq0:0 < q:=by
    rcases Nat.eq_zero_or_pos q with h | h
    ·subst h;simp at hk
    ·exact h
   have e2:wu64 ((q:Int)-1)=((q-1:Nat):Int):=by rw [Sg (by omega) (by omega)];omega
   rw [decide_eq_true (by omega)]
   refine (if_pos (show true=true from rfl)).trans ?_
   rw [if_pos (show 4294967296≤q∨4294967296*r+u < q*v0 from Or.inr hk),e2]
   by_cases hd:4294967296≤r+v1
   ·rw [if_pos hd,if_pos (by omega)]
   ·rw [if_neg hd,if_neg (by omega)]
  ·rw [decide_eq_false (by omega)]
   refine (if_neg (show ¬ (false=true) by decide)).trans ?_
   rw [if_neg (show ¬ (4294967296≤q∨4294967296*r+u < q*v0) by omega)]
end Go.Proofs.YtebkcipolijfmaaGreat
/- Plain laws: two words divided by one, the whole. -/
namespace Go.Proofs.YtebkcipolijfmaaGreat
open Go Go.RowKit
theorem Ath {y lo s v1 v0 U u1:Nat} (h1:v1 < 4294967296) (h2:2147483648≤v1) (h3:v0 < 4294967296) (hU:U < v1*4294967296+v0) (hu:u1 < 4294967296)
  (es:wu64 (s:Int)=(s:Int)) (ey:shl_ .u64 (y:Int) (s:Int)=((v1*4294967296+v0:Nat):Int)) (el:shr_ .u64 (shl_ .u64 (lo:Int) (s:Int)) 32=(u1:Int)) :
  lfix (Kr (y:Int) (s:Int) (lo:Int)) (((U / v1:Nat):Int),((U % v1:Nat):Int))=some (((U*4294967296+u1) / (v1*4294967296+v0):Nat):Int):=by
 have e1:shr_ .u64 ((v1*4294967296+v0:Nat):Int) 32=(v1:Int):=by rw [Zj];omega
 have e2:Cw .u64 ((v1*4294967296+v0:Nat):Int) 4294967295=(v0:Int):=by rw [andN];omega
 refine Af5 (fun q r=>((q:Int),(r:Int))) h1 h3 hU hu (by omega) ?_
 intro q r hq hr
 unfold Kr
 simp only [es,ey,el,e1,e2]
 refine (Ai3 h1 h2 h3 hu (U:=U) (by omega) hq hr (fun q'=>some (.inl (q',wu64 ((r:Int)+(v1:Int))))) _).trans ?_
 by_cases hd:4294967296≤r+v1
 ·simp only [if_pos hd]
 ·rw [Sg (x:=(r:Int)+(v1:Int)) (by omega) (by omega)]
  simp only [if_neg hd]
  norm_cast
theorem Ati {y lo s v1 v0 U u0:Nat} (h1:v1 < 4294967296) (h2:2147483648≤v1) (h3:v0 < 4294967296) (hU:U < v1*4294967296+v0) (hu:u0 < 4294967296)
  (es:wu64 (s:Int)=(s:Int)) (ey:shl_ .u64 (y:Int) (s:Int)=((v1*4294967296+v0:Nat):Int)) (el:Cw .u64 (shl_ .u64 (lo:Int) (s:Int)) 4294967295=(u0:Int)) :
  lfix (Ks (y:Int) (s:Int) (lo:Int)) (((U % v1:Nat):Int),((U / v1:Nat):Int))=some (((U*4294967296+u0) / (v1*4294967296+v0):Nat):Int):=by
 have e1:shr_ .u64 ((v1*4294967296+v0:Nat):Int) 32=(v1:Int):=by rw [Zj];omega
 have e2:Cw .u64 ((v1*4294967296+v0:Nat):Int) 4294967295=(v0:Int):=by rw [andN];omega
 refine Af5 (fun q r=>((r:Int),(q:Int))) h1 h3 hU hu (by omega) ?_
 intro q r hq hr
 unfold Ks
 simp only [es,ey,el,e1,e2]
 refine (Ai3 h1 h2 h3 hu (U:=U) (by omega) hq hr (fun q'=>some (.inl (wu64 ((r:Int)+(v1:Int)),q'))) _).trans ?_
 by_cases hd:4294967296≤r+v1
 ·simp only [if_pos hd]
 ·rw [Sg (x:=(r:Int)+(v1:Int)) (by omega) (by omega)]
  simp only [if_neg hd]
  norm_cast
end Go.Proofs.YtebkcipolijfmaaGreat
