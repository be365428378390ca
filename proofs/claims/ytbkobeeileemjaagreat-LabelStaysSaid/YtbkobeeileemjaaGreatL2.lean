/- Plain laws: how many leading bits of a word are 0. -/
import Derived.Test.YtbkobeeileemjaaGreatI8
import Derived.Test.YtbkobeeileemjaaGreatX3
import Derived.Test.YtbkobeeileemjaaGreatL1
namespace Go.Proofs.YtbkobeeileemjaaGreat
open Go Go.RowKit
def LenP (y:Nat) (o:Option Int):Prop:=∃ t:Nat,1≤t∧t≤64∧2 ^ (t-1)≤y∧y < 2 ^ t∧o=some (t:Int)
theorem Axl:∀ x:Fin 256,0 < x.val→∃ t:Fin 9,Kc[x.val]? = some (t.val:Int)∧1≤t.val∧2 ^ (t.val-1)≤x.val∧x.val < 2 ^ t.val:=by decide +kernel
theorem Axm {x:Nat} (h0:0 < x) (h:x < 256):∃ t:Nat,t≤8∧idx Kc (wu8 (x:Int))=some (t:Int)∧1≤t∧2 ^ (t-1)≤x∧x < 2 ^ t:=by
 obtain ⟨t,e,h1,h2,h3⟩:=Axl ⟨x,h⟩ h0
 refine ⟨t.val,by omega,?_,h1,h2,h3⟩
 have e8:wu8 (x:Int)=(x:Int):=by
  unfold wu8;rw [IntKind.wrap_u8];omega
 rw [e8]
 unfold idx
 rw [if_pos (by omega)]
 simpa using e
theorem Aqp {x n y:Nat} (hx:x=y / 2 ^ n) (h0:0 < x) (h:x < 256) (hn:n≤56):LenP y (bnd (idx Kc (wu8 (x:Int))) fun x16=>some (w64 ((n:Int)+(w64 (x16))))):=by
 obtain ⟨t,h8,e,h1,h2,h3⟩:=Axm h0 h
 rw [e,Ah]
 have hp:0 < 2 ^ n:=Nat.two_pow_pos n
 refine ⟨n+t,by omega,by omega,?_,?_,?_⟩
 ·rw [hx,Nat.le_div_iff_mul_le hp,← Nat.pow_add] at h2
  rw [show n+t-1=t-1+n by omega];exact h2
 ·rw [hx,Nat.div_lt_iff_lt_mul hp,← Nat.pow_add] at h3
  rw [Nat.add_comm];exact h3
 ·rw [Akh (by omega),Bp (by omega) (by omega)]
  norm_cast
theorem Ayh {x n y:Nat} (hx:x=y / 2 ^ n) (h0:0 < x) (h:x < 65536) (hn:n≤48) :
  LenP y (jn (fun (s8:Int × Int)=>bnd (idx Kc (wu8 (s8.1))) fun x16=>some (w64 (s8.2+(w64 (x16))))) (fun j8=>if 256≤(x:Int) then (j8 (shr_ .u64 (x:Int) 8,w64 ((n:Int)+8))) else (j8 ((x:Int),(n:Int))))):=by
 rw [jn_d]
 by_cases c:256≤(x:Int)
 ·rw [if_pos c]
  have e:w64 ((n:Int)+8)=((n+8:Nat):Int):=by rw [Bp (by omega) (by omega)];norm_cast
  rw [show shr_ .u64 (x:Int) 8=((x / 2 ^ 8:Nat):Int) from shrN x 8 (by omega),e]
  exact Aqp (by rw [hx,Nat.div_div_eq_div_mul,← Nat.pow_add]) (by omega) (by omega) (by omega)
 ·rw [if_neg c]
  exact Aqp hx h0 (by omega) (by omega)
theorem Avr {x n y:Nat} (hx:x=y / 2 ^ n) (h0:0 < x) (h:x < 4294967296) (hn:n≤32) :
  LenP y (jn (fun (s5:Int × Int)=>jn (fun (s8:Int × Int)=>bnd (idx Kc (wu8 (s8.1))) fun x16=>some (w64 (s8.2+(w64 (x16))))) (fun j8=>if 256≤s5.1 then (j8 (shr_ .u64 s5.1 8,w64 (s5.2+8))) else (j8 (s5.1,s5.2))))
   (fun j5=>if 65536≤(x:Int) then (j5 (shr_ .u64 (x:Int) 16,w64 ((n:Int)+16))) else (j5 ((x:Int),(n:Int))))):=by
 rw [jn_d]
 by_cases c:65536≤(x:Int)
 ·rw [if_pos c]
  have e:w64 ((n:Int)+16)=((n+16:Nat):Int):=by rw [Bp (by omega) (by omega)];norm_cast
  rw [show shr_ .u64 (x:Int) 16=((x / 2 ^ 16:Nat):Int) from shrN x 16 (by omega),e]
  exact Ayh (by rw [hx,Nat.div_div_eq_div_mul,← Nat.pow_add]) (by omega) (by omega) (by omega)
 ·rw [if_neg c]
  exact Ayh hx h0 (by omega) (by omega)
theorem Bak {y:Nat} (h0:0 < y) (h:y < 18446744073709551616):LenP y (Jh (y:Int)):=by
 unfold Jh
 rw [jn_d]
 by_cases c:4294967296≤(y:Int)
 ·rw [if_pos c]
  rw [show shr_ .u64 (y:Int) 32=((y / 2 ^ 32:Nat):Int) from shrN y 32 (by omega)]
  exact Avr (n:=32) rfl (by omega) (by omega) (by omega)
 ·rw [if_neg c]
  exact Avr (n:=0) (by simp) h0 (by omega) (by omega)
theorem Azs {y:Nat} (h0:0 < y) (h:y < 18446744073709551616):∃ s:Nat,s≤63∧Ed (y:Int)=some (s:Int)∧9223372036854775808≤y*2 ^ s∧y*2 ^ s < 18446744073709551616:=by
 obtain ⟨t,h1,h2,h3,h4,e⟩:=Bak h0 h
 refine ⟨64-t,by omega,?_,?_,?_⟩
 ·unfold Ed
  rw [e,Ah,Bp (by omega) (by omega)]
  congr 1;omega
 ·have:=Nat.mul_le_mul_right (2 ^ (64-t)) h3
  rw [← Nat.pow_add,show t-1+(64-t)=63 by omega] at this
  exact this
 ·have:=Nat.mul_lt_mul_of_pos_right h4 (Nat.two_pow_pos (64-t))
  rw [← Nat.pow_add,show t+(64-t)=64 by omega] at this
  exact this
end Go.Proofs.YtbkobeeileemjaaGreat
/- Plain laws: two words divided by one. -/
namespace Go.Proofs.YtbkobeeileemjaaGreat
open Go Go.RowKit
theorem Aor (x y z:Int) (h0:0≤x+y-z) (h1:x+y-z < 18446744073709551616):wu64 (wu64 (wu64 x+y)-wu64 z)=x+y-z:=by
 simp only [Xx];omega
theorem Avs (x z:Int) (h0:0≤x-z) (h1:x-z < 18446744073709551616):wu64 (x-wu64 z)=x-z:=by
 simp only [Xx];omega
theorem Vd {x:Int} (h0:0≤x) (h1:x < 18446744073709551616):wu64 x=x:=by rw [Xx];omega
theorem orN {a b s:Nat} (hb:b < 2 ^ s) (h:a*2 ^ s+b < 18446744073709551616):Ms .u64 ((a*2 ^ s:Nat):Int) (b:Int)=((a*2 ^ s+b:Nat):Int):=by
 unfold Ms
 have e:(BitVec.ofInt IntKind.u64.bits ((a*2 ^ s:Nat):Int) ||| BitVec.ofInt IntKind.u64.bits (b:Int)).toNat=a*2 ^ s+b:=by
  show (BitVec.ofInt 64 ((a*2 ^ s:Nat):Int) ||| BitVec.ofInt 64 (b:Int)).toNat=_
  rw [BitVec.toNat_or]
  have k:∀ n:Nat,n < 18446744073709551616→(BitVec.ofInt 64 (n:Int)).toNat=n:=fun n hn=>by
   simp [];omega
  rw [k _ (by omega),k _ (by omega),Nat.mul_comm,← Nat.two_pow_add_eq_or_of_lt hb]
 rw [e]
 exact Nu (by omega)
/-- What one round of the loop does, in numbers. -/
theorem Am4 {v1 v0 U u q r:Nat} (h1:v1 < 4294967296) (h2:2147483648≤v1) (h3:v0 < 4294967296) (hu:u < 4294967296) (hU:U < 18446744073709551616) (hq:q*v1≤U) (hr:r < 4294967296) {σ:Type} (A:Int→Option (Sum σ Int)) (E:Option (Sum σ Int)) :
  jn (fun (s:Bool)=>if s=true then (if (4294967296:Int)≤wu64 ((r:Int)+(v1:Int)) then some (.inr (wu64 ((q:Int)-1))) else A (wu64 ((q:Int)-1))) else E)
   (fun j=>if (4294967296:Int)≤(q:Int) then j true else j (decide (wu64 (wu64 (4294967296*(r:Int))+(u:Int)) < wu64 ((q:Int)*(v0:Int)))))
  = if 4294967296≤q∨4294967296*r+u < q*v0 then (if 4294967296≤r+v1 then some (.inr ((q-1:Nat):Int)) else A ((q-1:Nat):Int)) else E:=by
 have hq2:q < 8589934593:=by
  apply Classical.byContradiction
  intro hn
  have:=Nat.mul_le_mul (show 8589934593≤q by omega) h2
  omega
 have e1:wu64 ((r:Int)+(v1:Int))=((r+v1:Nat):Int):=by rw [Vd (by omega) (by omega)];norm_cast
 have e3:wu64 (wu64 (4294967296*(r:Int))+(u:Int))=((4294967296*r+u:Nat):Int):=by
  simp only [Xx];omega
 have c1:(q:Int)*(v0:Int)=((q*v0:Nat):Int):=by norm_cast
 have d1:((4294967296:Int)≤((r+v1:Nat):Int))↔4294967296≤r+v1:=by omega
 rw [jn_d,e1,e3,c1]
 by_cases hc:4294967296≤q
 ·have e2:wu64 ((q:Int)-1)=((q-1:Nat):Int):=by rw [Vd (by omega) (by omega)];omega
  rw [if_pos (show (4294967296:Int)≤(q:Int) by omega)]
  refine (if_pos (show true=true from rfl)).trans ?_
  rw [if_pos (show 4294967296≤q∨4294967296*r+u < q*v0 from Or.inl hc),e2]
  by_cases hd:4294967296≤r+v1
  ·rw [if_pos hd,if_pos (by omega)]
  ·rw [if_neg hd,if_neg (by omega)]
 ·rw [if_neg (show ¬ (4294967296:Int)≤(q:Int) by omega)]
  have b1:q*v0≤4294967295*4294967295:=Nat.mul_le_mul (by omega) (by omega)
  rw [Nu (show q*v0≤18446744073709551615 by omega)]
  by_cases hk:4294967296*r+u < q*v0
  ·have hq0:0 < q:=by
    rcases Nat.eq_zero_or_pos q with h | h
    ·subst h;simp at hk
    ·exact h
   have e2:wu64 ((q:Int)-1)=((q-1:Nat):Int):=by rw [Vd (by omega) (by omega)];omega
   rw [decide_eq_true (by omega)]
   refine (if_pos (show true=true from rfl)).trans ?_
   rw [if_pos (show 4294967296≤q∨4294967296*r+u < q*v0 from Or.inr hk),e2]
   by_cases hd:4294967296≤r+v1
   ·rw [if_pos hd,if_pos (by omega)]
   ·rw [if_neg hd,if_neg (by omega)]
  ·rw [decide_eq_false (by omega)]
   refine (if_neg (show ¬ (false=true) by decide)).trans ?_
   rw [if_neg (show ¬ (4294967296≤q∨4294967296*r+u < q*v0) by omega)]
end Go.Proofs.YtbkobeeileemjaaGreat
/- Plain laws: two words divided by one, the whole. -/
namespace Go.Proofs.YtbkobeeileemjaaGreat
open Go Go.RowKit
theorem Axn {y lo s v1 v0 U u1:Nat} (h1:v1 < 4294967296) (h2:2147483648≤v1) (h3:v0 < 4294967296) (hU:U < v1*4294967296+v0) (hu:u1 < 4294967296)
  (es:wu64 (s:Int)=(s:Int)) (ey:shl_ .u64 (y:Int) (s:Int)=((v1*4294967296+v0:Nat):Int)) (el:shr_ .u64 (shl_ .u64 (lo:Int) (s:Int)) 32=(u1:Int)) :
  lfix (Kk (y:Int) (s:Int) (lo:Int)) (((U / v1:Nat):Int),((U % v1:Nat):Int))=some (((U*4294967296+u1) / (v1*4294967296+v0):Nat):Int):=by
 have e1:shr_ .u64 ((v1*4294967296+v0:Nat):Int) 32=(v1:Int):=by rw [Abr];omega
 have e2:Dn .u64 ((v1*4294967296+v0:Nat):Int) 4294967295=(v0:Int):=by rw [andN];omega
 refine Aiy (fun q r=>((q:Int),(r:Int))) h1 h3 hU hu (by omega) ?_
 intro q r hq hr
 unfold Kk
 simp only [es,ey,el,e1,e2]
 refine (Am4 h1 h2 h3 hu (U:=U) (by omega) hq hr (fun q'=>some (.inl (q',wu64 ((r:Int)+(v1:Int))))) _).trans ?_
 by_cases hd:4294967296≤r+v1
 ·simp only [if_pos hd]
 ·rw [Vd (x:=(r:Int)+(v1:Int)) (by omega) (by omega)]
  simp only [if_neg hd]
  norm_cast
theorem Axo {y lo s v1 v0 U u0:Nat} (h1:v1 < 4294967296) (h2:2147483648≤v1) (h3:v0 < 4294967296) (hU:U < v1*4294967296+v0) (hu:u0 < 4294967296)
  (es:wu64 (s:Int)=(s:Int)) (ey:shl_ .u64 (y:Int) (s:Int)=((v1*4294967296+v0:Nat):Int)) (el:Dn .u64 (shl_ .u64 (lo:Int) (s:Int)) 4294967295=(u0:Int)) :
  lfix (Km (y:Int) (s:Int) (lo:Int)) (((U % v1:Nat):Int),((U / v1:Nat):Int))=some (((U*4294967296+u0) / (v1*4294967296+v0):Nat):Int):=by
 have e1:shr_ .u64 ((v1*4294967296+v0:Nat):Int) 32=(v1:Int):=by rw [Abr];omega
 have e2:Dn .u64 ((v1*4294967296+v0:Nat):Int) 4294967295=(v0:Int):=by rw [andN];omega
 refine Aiy (fun q r=>((r:Int),(q:Int))) h1 h3 hU hu (by omega) ?_
 intro q r hq hr
 unfold Km
 simp only [es,ey,el,e1,e2]
 refine (Am4 h1 h2 h3 hu (U:=U) (by omega) hq hr (fun q'=>some (.inl (wu64 ((r:Int)+(v1:Int)),q'))) _).trans ?_
 by_cases hd:4294967296≤r+v1
 ·simp only [if_pos hd]
 ·rw [Vd (x:=(r:Int)+(v1:Int)) (by omega) (by omega)]
  simp only [if_neg hd]
  norm_cast
end Go.Proofs.YtbkobeeileemjaaGreat
/- Plain laws: math/bits.Div64. -/
namespace Go.Proofs.YtbkobeeileemjaaGreat
open Go Go.RowKit
theorem Axp {lo s:Nat} (hs:s≤63):lo*2 ^ s=lo / 2 ^ (64-s)*18446744073709551616+lo*2 ^ s % 18446744073709551616:=by
 have e:(18446744073709551616:Nat)=2 ^ (64-s)*2 ^ s:=by rw [← Nat.pow_add,show 64-s+s=64 by omega]
 have k:lo*2 ^ s / 18446744073709551616=lo / 2 ^ (64-s):=by rw [e,Nat.mul_div_mul_right _ _ (Nat.two_pow_pos s)]
 have:=Nat.div_add_mod (lo*2 ^ s) 18446744073709551616
 rw [k] at this
 omega
theorem Adf {U v1:Nat} (_:0 < v1) (hU:U < 18446744073709551616):wu64 (Int.tdiv (U:Int) (v1:Int))=((U / v1:Nat):Int)∧wu64 ((U:Int)-wu64 (((U / v1:Nat):Int)*(v1:Int)))=((U % v1:Nat):Int):=by
 have a:U / v1≤U:=Nat.div_le_self _ _
 have b:=Nat.div_add_mod U v1
 have c:((U / v1:Nat):Int)*(v1:Int)=((v1*(U / v1):Nat):Int):=by rw [Nat.mul_comm];norm_cast
 constructor
 ·rw [← Int.ofNat_tdiv];exact Nu (by omega)
 ·rw [c]
  generalize v1*(U / v1)=m at *
  rw [Avs _ _ (by omega) (by omega)];omega
theorem Am5 {U u Y:Nat} (hU:U < Y) (_:u < 4294967296) (hY:Y < 18446744073709551616) :
  wu64 (wu64 (wu64 ((U:Int)*4294967296)+(u:Int))-wu64 ((((U*4294967296+u) / Y:Nat):Int)*(Y:Int)))=(((U*4294967296+u) % Y:Nat):Int):=by
 have b:=Nat.div_add_mod (U*4294967296+u) Y
 have d:=Nat.mod_lt (U*4294967296+u) (show 0 < Y by omega)
 have c:(((U*4294967296+u) / Y:Nat):Int)*(Y:Int)=((Y*((U*4294967296+u) / Y):Nat):Int):=by rw [Nat.mul_comm Y];norm_cast
 rw [c]
 generalize Y*((U*4294967296+u) / Y)=m at *
 generalize (U*4294967296+u) % Y=r at *
 rw [Aor _ _ _ (by omega) (by omega)];omega
theorem Axq {U w Y r1 g1 g0 R s:Nat} (x1:Y*g1+r1=U*4294967296+w / 4294967296) (x2:Y*g0+R=r1*4294967296+w % 4294967296) (x3:R < Y) (a1:g1 < 4294967296) (a2:g0 < 4294967296) :
  some (wu64 (wu64 ((g1:Int)*4294967296)+(g0:Int)),((R / 2 ^ s:Nat):Int))=some ((((U*18446744073709551616+w) / Y:Nat):Int),(((U*18446744073709551616+w) % Y / 2 ^ s:Nat):Int)):=by
 have tot:U*18446744073709551616+w=Y*(g1*4294967296+g0)+R:=by
  rw [Nat.mul_add,show Y*(g1*4294967296)=Y*g1*4294967296 by grind]
  omega
 rw [tot,Nat.mul_add_div (by omega),Nat.mul_add_mod,Nat.div_eq_of_lt x3,Nat.mod_eq_of_lt x3]
 have fin:wu64 (wu64 ((g1:Int)*4294967296)+(g0:Int))=((g1*4294967296+g0+0:Nat):Int):=by
  simp only [Xx];omega
 rw [fin]
theorem Bal {hi lo y:Nat} (hy:y < 18446744073709551616) (h:hi < y) (hl:lo < 18446744073709551616) :
  Ji (hi:Int) (lo:Int) (y:Int)=some ((((hi*18446744073709551616+lo) / y:Nat):Int),(((hi*18446744073709551616+lo) % y:Nat):Int)):=by
 unfold Ji
 rw [if_neg (by omega),if_neg (by omega)]
 by_cases h0:hi=0
 ·subst h0
  rw [if_pos (by omega),gd_t (by omega),gd_t (by omega),(Adf (by omega) hl).1,← Int.ofNat_tmod]
  simp
 rw [if_neg (by omega)]
 obtain ⟨s,hs,e,n1,n2⟩:=Azs (y:=y) (by omega) hy
 rw [e,Ah]
 have es:wu64 (s:Int)=(s:Int):=Nu (by omega)
 have hp:0 < 2 ^ s:=Nat.two_pow_pos s
 have m1:hi*2 ^ s < y*2 ^ s:=Nat.mul_lt_mul_of_pos_right h hp
 have m2:=Axp (lo:=lo) hs
 have m3:lo / 2 ^ (64-s) < 2 ^ s:=by
  rw [Nat.div_lt_iff_lt_mul (Nat.two_pow_pos _),← Nat.pow_add,show s+(64-s)=64 by omega];exact hl
 have m4:(hi*18446744073709551616+lo)*2 ^ s=(hi*2 ^ s+lo / 2 ^ (64-s))*18446744073709551616+lo*2 ^ s % 18446744073709551616:=by
  rw [Nat.add_mul,m2];grind
 have m5:hi*2 ^ s+lo / 2 ^ (64-s) < y*2 ^ s:=by
  have:=Nat.mul_le_mul_right (2 ^ s) (show hi+1≤y from h)
  rw [Nat.add_mul,Nat.one_mul] at this
  omega
 have ey:shl_ .u64 (y:Int) (s:Int)=((y*2 ^ s:Nat):Int):=by rw [shlN _ _ (by omega),Nat.mod_eq_of_lt n2]
 have eh:shl_ .u64 (hi:Int) (s:Int)=((hi*2 ^ s:Nat):Int):=by rw [shlN _ _ (by omega),Nat.mod_eq_of_lt (by omega)]
 have el:=shlN lo s (by omega)
 have ec:wu64 (64-(s:Int))=((64-s:Nat):Int):=by rw [Vd (by omega) (by omega)];omega
 have ed:=shrN lo (64-s) (by omega)
 have ef:=orN (a:=hi) m3 (by omega)
 have q1:(hi*18446744073709551616+lo) / y=(hi*18446744073709551616+lo)*2 ^ s / (y*2 ^ s):=by rw [Nat.mul_div_mul_right _ _ hp]
 have q2:(hi*18446744073709551616+lo) % y=(hi*18446744073709551616+lo)*2 ^ s % (y*2 ^ s) / 2 ^ s:=by rw [Nat.mul_mod_mul_right,Nat.mul_div_cancel _ hp]
 rw [q1,q2,m4]
 simp only [es,ey,eh,ec,ed,ef,jn_d]
 have esr:∀ n:Nat,shr_ .u64 (n:Int) (s:Int)=((n / 2 ^ s:Nat):Int):=fun n=>shrN n s (by omega)
 have d1:=@Axn y lo s
 have d0:=@Axo y lo s
 rw [ey,el] at d1 d0
 rw [el]
 have ew:lo*2 ^ s % 18446744073709551616 < 18446744073709551616:=Nat.mod_lt _ (by omega)
 generalize lo*2 ^ s % 18446744073709551616=w at *
 generalize hi*2 ^ s+lo / 2 ^ (64-s)=U at *
 generalize y*2 ^ s=Y at *
 clear m1 m2 m3 m4 ef eh ed el ey e q1 q2 ec
 rw [gd_t (by omega),gd_t (by omega),gd_t (by omega),gd_t (by omega)]
 have t1:Y=Y / 4294967296*4294967296+Y % 4294967296:=by omega
 have t2:w=w / 4294967296*4294967296+w % 4294967296:=by omega
 have d1':=d1 (v1:=Y / 4294967296) (v0:=Y % 4294967296) (U:=U) (u1:=w / 4294967296) (by omega) (by omega) (by omega) (by omega) (by omega) es (by rw [← t1]) (Abr w)
 rw [← t1] at d1'
 rw [Abr,Abr,andN,gd_t (by omega),(Adf (by omega) (by omega)).1,(Adf (by omega) (by omega)).2,d1',Ah,gd_t (by omega),Am5 m5 (by omega) n2]
 have hM:=Nat.mod_lt (U*4294967296+w / 4294967296) (show 0 < Y by omega)
 have d0':=d0 (v1:=Y / 4294967296) (v0:=Y % 4294967296) (U:=(U*4294967296+w / 4294967296) % Y) (u0:=w % 4294967296) (by omega) (by omega) (by omega) (by omega) (by omega) es (by rw [← t1]) (andN w)
 rw [← t1] at d0'
 rw [(Adf (by omega) (by omega)).1,(Adf (by omega) (by omega)).2,d0',Ah,Am5 hM (by omega) n2,gd_t (by omega),esr]
 have x1:=Nat.div_add_mod (U*4294967296+w / 4294967296) Y
 have x2:=Nat.div_add_mod ((U*4294967296+w / 4294967296) % Y*4294967296+w % 4294967296) Y
 have x3:=Nat.mod_lt ((U*4294967296+w / 4294967296) % Y*4294967296+w % 4294967296) (show 0 < Y by omega)
 have a1:(U*4294967296+w / 4294967296) / Y < 4294967296:=by
  rw [Nat.div_lt_iff_lt_mul (by omega)];omega
 have a2:((U*4294967296+w / 4294967296) % Y*4294967296+w % 4294967296) / Y < 4294967296:=by
  rw [Nat.div_lt_iff_lt_mul (by omega)];omega
 exact Axq x1 x2 x3 a1 a2
end Go.Proofs.YtbkobeeileemjaaGreat
/- Plain laws: the mean of three heights by weights. -/
namespace Go.Proofs.YtbkobeeileemjaaGreat
open Go Go.RowKit
theorem Axr {m0 m1 m2 d0 d1 d2:Nat} {b:Int} {p:Aw} (hA:m0+m1+m2≤2305843009213693952) (h0:0 < m0+m1+m2) (k0:d0≤2199023255552) (k1:d1≤2199023255552) (k2:d2≤2199023255552)
  (b1:-2199023255552≤b) (b2:b≤2199023255552) (hb:min (min p.a0 p.a1) p.a2=b) (e0:p.a0=b+d0) (e1:p.a1=b+d1) (e2:p.a2=b+d2) :
  Hp ⟨(m0:Int),(m1:Int),(m2:Int)⟩ p=some (b+(((m0*d0+m1*d1+m2*d2) / (m0+m1+m2):Nat):Int),
   b+(((m0*d0+m1*d1+m2*d2) / (m0+m1+m2):Nat):Int)+if 0 < (m0*d0+m1*d1+m2*d2) % (m0+m1+m2) then 1 else 0):=by
 have l0:m0*d0≤m0*2199023255552:=Nat.mul_le_mul_left _ k0
 have l1:m1*d1≤m1*2199023255552:=Nat.mul_le_mul_left _ k1
 have l2:m2*d2≤m2*2199023255552:=Nat.mul_le_mul_left _ k2
 have w0:w64 (p.a0-b)=(d0:Int):=by rw [Bp (by omega) (by omega)];omega
 have w1:w64 (p.a1-b)=(d1:Int):=by rw [Bp (by omega) (by omega)];omega
 have w2:w64 (p.a2-b)=(d2:Int):=by rw [Bp (by omega) (by omega)];omega
 have z:(⟨0,0⟩:Fp)=W2 0:=rfl
 have s1:wu64 (w64 (w64 ((m0:Int)+(m1:Int))+(m2:Int)))=((m0+m1+m2:Nat):Int):=by
  rw [Bp (x:=(m0:Int)+(m1:Int)) (by omega) (by omega),Bp (by omega) (by omega),Vd (by omega) (by omega)];norm_cast
 unfold Hp
 simp only [hb,w0,w1,w2,s1]
 have p0:=Adx (n:=0) (a:=m0) (b:=d0) (by omega) (by omega) (by omega)
 have p1:=Adx (n:=0+m0*d0) (a:=m1) (b:=d1) (by omega) (by omega) (by omega)
 have p2:=Adx (n:=0+m0*d0+m1*d1) (a:=m2) (b:=d2) (by omega) (by omega) (by omega)
 rw [z,p0,Ah,p1,Ah,p2,Ah]
 have hn:0+m0*d0+m1*d1+m2*d2=m0*d0+m1*d1+m2*d2:=by omega
 rw [hn]
 have hm:m0*d0+m1*d1+m2*d2≤(m0+m1+m2)*2199023255552:=by omega
 clear p0 p1 p2 hn l0 l1 l2 z s1 w0 w1 w2
 generalize m0*d0+m1*d1+m2*d2=n at *
 generalize m0+m1+m2=A at *
 have q:=Bal (hi:=n / 18446744073709551616) (lo:=n % 18446744073709551616) (y:=A) (by omega) (by omega) (by omega)
 have en:n / 18446744073709551616*18446744073709551616+n % 18446744073709551616=n:=by omega
 rw [en] at q
 have qb:n / A≤2199023255552:=by
  rw [Nat.div_le_iff_le_mul_add_pred h0,Nat.mul_comm A] ;rw [Nat.mul_comm] at hm;omega
 refine (congrArg (fun o=>bnd o _) q).trans ?_
 rw [Ah]
 dsimp only
 generalize n / A=g at *
 generalize n % A=r at *
 have f1:w64 (b+w64 (g:Int))=b+(g:Int):=by rw [Akh (by omega),Bp (by omega) (by omega)]
 have f2:w64 (b+(g:Int)+1)=b+(g:Int)+1:=by rw [Bp (by omega) (by omega)]
 rw [f1,f2]
 by_cases hr:0 < r
 ·rw [if_pos (show (0:Int) < (r:Int) by omega),if_pos hr]
 ·rw [if_neg (show ¬ (0:Int) < (r:Int) by omega),if_neg hr,Int.add_zero]
end Go.Proofs.YtbkobeeileemjaaGreat
/- Plain laws: rings; the laws' own check; LabelWithin, LabelPoints. -/
namespace Go.Proofs.YtbkobeeileemjaaGreat.X
open Go Go.RowKit
/-- Twice the area of a triangle. -/
def cr (a b c:Ab):Int:=(b.X-a.X)*(c.Y-a.Y)-(b.Y-a.Y)*(c.X-a.X)
theorem Ahy {p:Ab} (h:okXY p=true):-268435456≤p.X∧p.X≤268435456∧-268435456≤p.Y∧p.Y≤268435456:=by
 simpa only [okXY,decide_eq_true_eq] using h
theorem Aqq {a b:Int} {m:Int} (ha:-m≤a∧a≤m) (hb:-m≤b∧b≤m):-(m*m)≤a*b∧a*b≤m*m:=by
 have hm:0≤m:=by omega
 rcases Int.le_total 0 a with h | h <;> rcases Int.le_total 0 b with k | k
 ·have h1:=Int.mul_le_mul ha.2 hb.2 k hm
  have h2:=Int.mul_nonneg h k
  omega
 ·have h1:=Int.mul_le_mul (a:=a) (b:=-b) (c:=m) (d:=m) ha.2 (by omega) (by omega) hm
  have h2:=Int.mul_nonneg (a:=a) (b:=-b) h (by omega)
  rw [Int.mul_neg] at h1 h2
  omega
 ·have h1:=Int.mul_le_mul (a:=-a) (b:=b) (c:=m) (d:=m) (by omega) hb.2 k hm
  have h2:=Int.mul_nonneg (a:=-a) (b:=b) (by omega) k
  rw [Int.neg_mul] at h1 h2
  omega
 ·have h1:=Int.mul_le_mul (a:=-a) (b:=-b) (c:=m) (d:=m) (by omega) (by omega) (by omega) hm
  have h2:=Int.mul_nonneg (a:=-a) (b:=-b) (by omega) (by omega)
  rw [Int.neg_mul_neg] at h1 h2
  omega
theorem cr_w {a b c:Ab} (ha:okXY a=true) (hb:okXY b=true) (hc:okXY c=true) :
  w64 ((w64 ((w64 (b.X-a.X))*(w64 (c.Y-a.Y))))-(w64 ((w64 (b.Y-a.Y))*(w64 (c.X-a.X)))))=cr a b c:=by
 have h1:=Ahy ha
 have h2:=Ahy hb
 have h3:=Ahy hc
 rw [Bp (x:=b.X-a.X) (by omega) (by omega),Bp (x:=c.Y-a.Y) (by omega) (by omega),Bp (x:=b.Y-a.Y) (by omega) (by omega),Bp (x:=c.X-a.X) (by omega) (by omega)]
 have e1:=Aqq (a:=b.X-a.X) (b:=c.Y-a.Y) (m:=536870912) (by omega) (by omega)
 have e2:=Aqq (a:=b.Y-a.Y) (b:=c.X-a.X) (m:=536870912) (by omega) (by omega)
 rw [Bp (x:=(b.X-a.X)*(c.Y-a.Y)) (by omega) (by omega),Bp (x:=(b.Y-a.Y)*(c.X-a.X)) (by omega) (by omega),Bp (by omega) (by omega)]
 rfl
theorem Axs (a b c:Ab):cr b a c = -cr a b c:=by unfold cr;grind
theorem turn_eq {a b c:Ab} (ha:okXY a=true) (hb:okXY b=true) (hc:okXY c=true):Po a b c=some (Int.sign (cr a b c)):=by
 simp only [Po,cr_w ha hb hc]
 rcases Int.lt_trichotomy (cr a b c) 0 with h | h | h
 ·rw [if_neg (by omega),if_pos h,Int.sign_eq_neg_one_of_neg h]
 ·rw [h];rfl
 ·rw [if_pos h,Int.sign_eq_one_of_pos h]
def onB (c:Ab) (s:Ab × Ab):Bool:=decide (cr s.1 s.2 c=0∧min s.1.X s.2.X≤c.X∧c.X≤max s.1.X s.2.X∧min s.1.Y s.2.Y≤c.Y∧c.Y≤max s.1.Y s.2.Y)
def croB (c:Ab) (s:Ab × Ab):Bool:=decide ((s.1.Y≤c.Y∧c.Y < s.2.Y∧0 < cr s.1 s.2 c)∨(c.Y < s.1.Y∧s.2.Y≤c.Y∧cr s.1 s.2 c < 0))
theorem Avt {x:Int}:0 < Int.sign x↔0 < x:=by
 rcases Int.lt_trichotomy x 0 with h | h | h
 ·rw [Int.sign_eq_neg_one_of_neg h];omega
 ·rw [h];simp
 ·rw [Int.sign_eq_one_of_pos h];omega
theorem sign_zero {x:Int}:Int.sign x=0↔x=0:=Int.sign_eq_zero_iff_zero
theorem Bam {a b c:Ab} (ha:okXY a=true) (hb:okXY b=true) (hc:okXY c=true):Zm a b c=some (onB c (a,b)):=by
 simp only [Zm,jn_d,turn_eq ha hb hc,Ah,within_eq,sign_zero,onB,decide_eq_true_eq]
 by_cases h:cr a b c=0 <;> by_cases h2:(min a.X b.X≤c.X∧c.X≤max a.X b.X) <;> simp [h,h2]
 all_goals (try omega)
theorem Azt {a b c:Ab} (ha:okXY a=true) (hb:okXY b=true) (hc:okXY c=true):Pd a b c=some (croB c (a,b)):=by
 simp only [Pd,turn_eq ha hb hc,turn_eq hb ha hc,Ah,croB,Avt,Axs a b c]
 by_cases h1:c.Y < a.Y <;> by_cases h2:c.Y < b.Y <;> simp [h1,h2]
 all_goals (try omega)
 ·rw [if_neg (by omega)];simp;omega
 ·rw [if_pos (by omega)];simp;omega
/-- The sides from p along l. -/
def Qy (p:Ab):List Ab→List (Ab × Ab)
 | []=>[]
 | q::r=>(p,q)::Qy q r
def oddB {α:Type} (f:α→Bool):List α→Bool
 | []=>false
 | x::r=>f x != oddB f r
theorem Ash {α:Type} (f:α→Bool) {l m:List α} (h:l.Perm m):oddB f l=oddB f m:=by
 induction h with
 | nil=>rfl
 | cons x _ ih=>simp only [oddB,ih]
 | swap x y l=>simp only [oddB];cases f x <;> cases f y <;> cases oddB f l <;> rfl
 | trans _ _ h1 h2=>rw [h1,h2]
/-- Whether a place lies within sides. -/
def insB (c:Ab) (S:List (Ab × Ab)):Bool:=S.any (onB c) || oddB (croB c) S
theorem Asi {c:Ab} {S S':List (Ab × Ab)} (h:S.Perm S'):insB c S=insB c S':=by
 unfold insB
 rw [Ash _ h]
 have:S.any (onB c)=S'.any (onB c):=by
  rw [Bool.eq_iff_iff,List.any_eq_true,List.any_eq_true]
  simp only [h.mem_iff]
 rw [this]
def Su:List Ab→List (Ab × Ab)
 | []=>[]
 | a::r=>Qy a (r++[a])
theorem Aje (p:Ab):∀ (l m:List Ab),Qy p (l++m)=Qy p l++Qy ((p::l).getLast (List.cons_ne_nil _ _)) m
 | [],m=>rfl
 | q::r,m=>by
  have:=Aje q r m
  simp only [List.cons_append,Qy,this]
  rw [List.getLast_cons (List.cons_ne_nil q r)]
def inF (c:Ab) (s:Bool × Ab) (q:Ab):Sum (Bool × Ab) (Sum Bool Bool):=if onB c (s.2,q)=true then .inr (.inr true) else .inl (if croB c (s.2,q)=true then !s.1 else s.1,q)
theorem Avu (c:Ab):∀ (l:List Ab) (s:Bool × Ab),Qt (inF c) (fun s=>(.inl s.1:Sum Bool Bool)) l s=if (Qy s.2 l).any (onB c)=true then .inr true else .inl (s.1 != oddB (croB c) (Qy s.2 l))
 | [],s=>by simp [Qt,Qy,oddB]
 | q::r,s=>by
  unfold Qt inF
  by_cases h:onB c (s.2,q)=true
  ·rw [if_pos h];simp [Qy,h]
  ·rw [if_neg h]
   dsimp only
   have ih:=Avu c r (if croB c (s.2,q)=true then !s.1 else s.1,q)
   unfold inF at ih
   rw [ih]
   have h':onB c (s.2,q)=false:=by simpa using h
   simp only [Qy,List.any_cons,h',Bool.false_or,oddB]
   cases croB c (s.2,q) <;> cases s.1 <;> cases oddB (croB c) (Qy q r) <;> rfl
theorem Ajf {l:List Ab} (h1:∀ p∈l,okXY p=true) (h0:0 < l.length) (h2:l.length≤1000) {c:Ab} (hc:okXY c=true):Ll l c=some (insB c (Su l)):=by
 have hlast:l.length-1 < l.length:=by omega
 have hw:w64 ((((l.length:Nat):Int))-1)=((l.length-1:Nat):Int):=by rw [Bp (by omega) (by omega)];omega
 unfold Ll
 rw [hw,Bf hlast,Ah,jn_d]
 have key:=Nw l (fun (s:Bool × Ab) (j:Int)=>(s.1,s.2.X,s.2.Y,j)) (inF c) (fun s=>(.inl s.1:Sum Bool Bool)) (Jk l c) (fun _ s=>okXY s.2=true) ?_ ?_ (false,l[l.length-1]) (h1 _ (List.getElem_mem hlast))
 ·have key':lfix (Jk l c) (false,l[l.length-1].X,l[l.length-1].Y,0)=_:=key
  rw [key',Ah,Avu]
  have hp:(Qy l[l.length-1] l).Perm (Su l):=by
   cases l with
   | nil=>simp at h0
   | cons a r =>
    show (Qy _ (a::r)).Perm (Qy a (r++[a]))
    rw [Aje]
    have:(a::r)[(a::r).length-1]=(a::r).getLast (List.cons_ne_nil _ _):=by rw [List.getLast_eq_getElem]
    rw [this]
    exact (List.perm_append_singleton _ _).symm
  have e:=Asi (c:=c) hp
  unfold insB at e ⊢
  rw [← e]
  cases (Qy l[l.length-1] l).any (onB c) <;> simp
 ·rintro j hj ⟨b,p⟩ hp
  dsimp only at hp
  have hq:=h1 _ (List.getElem_mem hj)
  have hb:(⟨p.X,p.Y⟩:Ab)=p:=rfl
  unfold inF
  simp only [Jk,if_pos (show (j:Int) < ((l.length:Nat):Int) by omega),jn_d,Bf hj,Ah,hb,Bam hp hq hc,Azt hp hq hc,Bs (show j < 9223372036854775807 by omega)]
  by_cases g:onB c (p,l[j])=true
  ·right;exact ⟨_,by rw [if_pos g],by rw [if_pos g]⟩
  ·left
   refine ⟨_,by rw [if_neg g],?_,hq⟩
   rw [if_neg g]
   by_cases g2:croB c (p,l[j])=true <;> simp [g2]
 ·intro s _
  simp only [Jk,Int.lt_irrefl,if_false]
def Yf (l:List Ab):Bool:=decide (3≤l.length∧l.length≤64) && l.all okXY
theorem Adg (l:List Ab):Gx l=some (Yf l):=by
 simp only [Gx,within_eq,Ah,decide_eq_true_eq,jn_d,Yf]
 by_cases h:(3:Int)≤((l.length:Nat):Int)∧((l.length:Nat):Int)≤64
 ·rw [if_pos h,decide_eq_true (show 3≤l.length∧l.length≤64 by omega),Bool.true_and]
  rw [Xa (β:=Unit) (γ:=Bool) l okXY (Iv l) () false ?_ ?_,Ah]
  ·by_cases hk:l.all okXY=true <;> simp [hk]
  ·intro j hj
   simp only [Iv,if_pos (show (j:Int) < ((l.length:Nat):Int) by omega),Bf hj,Ah,Wg,Bs (show j < 9223372036854775807 by omega)]
  ·simp only [Iv,Int.lt_irrefl,if_false]
 ·rw [if_neg h,decide_eq_false (show ¬ (3≤l.length∧l.length≤64) by omega),Bool.false_and]
def Agc (l:List Ab) (c:Ab):Bool × Int:=if Yf l=true then (if okXY c=true then (insB c (Su l),0) else (false,11)) else (false,72)
theorem Afe {l:List Ab} (h:Yf l=true):3≤l.length∧l.length≤64∧∀ p∈l,okXY p=true:=by
 simp only [Yf,Bool.and_eq_true,decide_eq_true_eq,List.all_eq_true] at h
 exact ⟨h.1.1,h.1.2,h.2⟩
theorem Ajg (l:List Ab) (c:Ab):Gn l c=some (Agc l c):=by
 simp only [Gn,Adg,Ah,Wg,Agc]
 by_cases h:Yf l=true
 ·obtain ⟨h1,h2,h3⟩:=Afe h
  by_cases hc:okXY c=true
  ·simp only [h,hc,if_true,Ajf h3 (by omega) (by omega) hc,Ah]
  ·simp [h,hc]
 ·simp [h]
end Go.Proofs.YtbkobeeileemjaaGreat.X
/- The laws' own check. -/
namespace Go.Proofs.YtbkobeeileemjaaGreat.X
open Go Go.RowKit
def sqr:List Ab:=[⟨0,0⟩,⟨4,0⟩,⟨4,4⟩,⟨0,4⟩]
def pts3:List Aa:=[⟨1,0,0,⟨3,3⟩,0,1,1,0⟩,⟨2,5,5,⟨1,1⟩,0,1,1,0⟩,⟨3,12,0,⟨2,2⟩,0,1,1,0⟩]
def ter3:Ag:=⟨10,0,0,1,0,0,0,0,0,1⟩
theorem first_eq:Er=some true:=by
 have e1:Agc sqr ⟨4,2⟩=(true,0):=by decide
 have e2:Agc sqr ⟨5,2⟩=(false,0):=by decide
 have e3:seedL pts3 ter3=[2,3]:=by
  have:(bot (ceF ter3.Cell) (candL pts3 ter3)).map (·.Id)=[2,3]:=by decide
  unfold seedL
  rw [this]
  exact (sort_unique (by simp) (List.Perm.refl _)).symm
 have e4:okRules ter3=true:=by decide
 have e5:validL pts3=true:=by decide
 have f1:Gn sqr ⟨4,2⟩=some (true,0):=by rw [Ajg,e1]
 have f2:Gn sqr ⟨5,2⟩=some (false,0):=by rw [Ajg,e2]
 have f3:Lh pts3 ter3=some ([2,3],0):=by rw [At9,if_pos e4,if_pos e5,e3]
 unfold Er
 have g1:Gn ([(⟨0,0⟩:Ab),(⟨4,0⟩:Ab),(⟨4,4⟩:Ab),(⟨0,4⟩:Ab)]) (⟨4,2⟩:Ab)=some (true,0):=f1
 have g2:Gn ([(⟨0,0⟩:Ab),(⟨4,0⟩:Ab),(⟨4,4⟩:Ab),(⟨0,4⟩:Ab)]) (⟨5,2⟩:Ab)=some (false,0):=f2
 rw [g1,Ah,g2,Ah]
 show bnd (Lh pts3 ter3) _=_
 rw [f3,Ah]
 rfl
end Go.Proofs.YtbkobeeileemjaaGreat.X
/- The builder's steps, closed. -/
namespace Go.Proofs.YtbkobeeileemjaaGreat
open Go Go.RowKit
noncomputable def apM (m:Mp):Ap:=fun i j=>mget m ⟨i,j⟩
noncomputable def putM (m:Mp) (i j k:Int):Mp:=mput (mput (mput m ⟨i,j⟩ k) ⟨j,k⟩ i) ⟨k,i⟩ j
noncomputable def cutM (m:Mp) (i j k:Int):Mp:=mdel (mdel (mdel m ⟨i,j⟩) ⟨j,k⟩) ⟨k,i⟩
noncomputable def Ahz (m:Mp) (i j k l:Int):Mp:=putM (putM (cutM (cutM m i j k) j i l) i l k) j k l
theorem Jx {i j a b:Int}:(⟨a,b⟩:Ac)=⟨i,j⟩↔a=i∧b=j:=by simp
theorem MapN.put {n:Nat} {m:Mp} (h:MapN n m) {i j k:Int} (hi:inN n i) (hj:inN n j) (hk:inN n k):MapN n (mput m ⟨i,j⟩ k):=by
 refine ⟨h.ok.put _ _,fun q hq=>?_⟩
 unfold mput at hq
 rcases List.mem_cons.1 hq with rfl | hq
 ·exact ⟨hi,hj,hk⟩
 ·exact h.key q (Io.1 hq).1
theorem MapN.del {n:Nat} {m:Mp} (h:MapN n m) (x:Ac):MapN n (mdel m x):=⟨h.ok.del _,fun q hq=>h.key q (Io.1 hq).1⟩
theorem MapN.putM {n:Nat} {m:Mp} (h:MapN n m) {i j k:Int} (hi:inN n i) (hj:inN n j) (hk:inN n k):MapN n (putM m i j k):=((h.put hi hj hk).put hj hk hi).put hk hi hj
theorem MapN.cutM {n:Nat} {m:Mp} (h:MapN n m) (i j k:Int):MapN n (cutM m i j k):=((h.del _).del _).del _
theorem Aax {m:Mp} (h:Ee m) (i j k a b:Int):apM (putM m i j k) a b=if a=k∧b=i then some j else if a=j∧b=k then some i else if a=i∧b=j then some k else apM m a b:=by
 unfold apM putM
 rw [Nm ((h.put _ _).put _ _),Nm (h.put _ _),Nm h]
 simp only [Jx]
theorem Lv {m:Mp} (h:Ee m) (i j k a b:Int):apM (cutM m i j k) a b=if (a=k∧b=i)∨(a=j∧b=k)∨(a=i∧b=j) then none else apM m a b:=by
 unfold apM cutM
 rw [Sk ((h.del _).del _),Sk (h.del _),Sk h]
 simp only [Jx]
 by_cases c1:a=k∧b=i
 ·simp [c1]
 ·by_cases c2:a=j∧b=k
  ·simp [c2]
  ·by_cases c3:a=i∧b=j
   ·simp [c3]
   ·simp [c1,c2,c3]
theorem Ah0 {m:Mp} (h:Ee m) {i j k l:Int} (n1:i≠j) (n2:k≠l) (n3:k≠i) (n4:k≠j) (n5:l≠i) (n6:l≠j):apM (Ahz m i j k l)=Md (apM m) i j k l:=by
 have h1:Ee (cutM m i j k):=((h.del _).del _).del _
 have h2:Ee (cutM (cutM m i j k) j i l):=((h1.del _).del _).del _
 have h3:Ee (putM (cutM (cutM m i j k) j i l) i l k):=((h2.put _ _).put _ _).put _ _
 funext a b
 unfold Ahz
 rw [Aax h3,Aax h2,Lv h1,Lv h]
 unfold Md
 by_cases c1:a=i∧b=l
 ·repeat first | rw [if_pos (by omega)] | rw [if_neg (by omega)]
 by_cases c2:a=l∧b=k
 ·repeat first | rw [if_pos (by omega)] | rw [if_neg (by omega)]
 by_cases c3:a=k∧b=i
 ·repeat first | rw [if_pos (by omega)] | rw [if_neg (by omega)]
 by_cases c4:a=j∧b=k
 ·repeat first | rw [if_pos (by omega)] | rw [if_neg (by omega)]
 by_cases c5:a=k∧b=l
 ·repeat first | rw [if_pos (by omega)] | rw [if_neg (by omega)]
 by_cases c6:a=l∧b=j
 ·repeat first | rw [if_pos (by omega)] | rw [if_neg (by omega)]
 by_cases c7:a=i∧b=j
 ·repeat first | rw [if_pos (by omega)] | rw [if_neg (by omega)]
 by_cases c8:a=j∧b=i
 ·repeat first | rw [if_pos (by omega)] | rw [if_neg (by omega)]
 repeat first | rw [if_pos (by omega)] | rw [if_neg (by omega)]
theorem p_eq {b:Ai} {i:Int} (h:inN b.v.length i):Bz b i=some (plV b.v i):=by
 unfold Bz plV
 obtain ⟨k,hk,rfl,e⟩:=Jz (v:=b.v) (i:=i) h
 rw [e]
 rfl
theorem Ah1 {n:Nat} (hn:n≤1024) {b:Ai} (hm:MapN n b.apex) {i j k:Int} (hi:inN n i) (hj:inN n j) (hk:inN n k):Es b i j k=some ⟨b.v,putM b.apex i j k,b.fixed⟩:=by
 have hsq:=Ait hn
 have l0:=hm.len
 have l1:=(hm.put hi hj hk).len
 have l2:=((hm.put hi hj hk).put hj hk hi).len
 unfold Es
 rw [gd_t (Rs hn hi hj),gd_t (by omega),gd_t (Rs hn hj hk),gd_t (by omega),gd_t (Rs hn hk hi),gd_t (by omega)]
 rfl
theorem Avv {n:Nat} (hn:n≤1024) {b:Ai} {i j k:Int} (hi:inN n i) (hj:inN n j) (hk:inN n k):Ig b i j k=some ⟨b.v,cutM b.apex i j k,b.fixed⟩:=by
 unfold Ig
 rw [gd_t (Rs hn hi hj),gd_t (Rs hn hj hk),gd_t (Rs hn hk hi)]
 rfl
theorem MapN.val {n:Nat} {m:Mp} (h:MapN n m) {i j k:Int} (hk:apM m i j=some k):inN n i∧inN n j∧inN n k:=h.key _ (Jf hk)
theorem Axt {b:Ai} (hv:Rh b.v) (hn:b.v.length≤1024) (hm:MapN b.v.length b.apex) {i j k l:Int} (hk:apM b.apex i j=some k) (hl:apM b.apex j i=some l) :
  Gu b i j=some (if Int.sign (crs (plV b.v k) (plV b.v l) (plV b.v i))*Int.sign (crs (plV b.v k) (plV b.v l) (plV b.v j)) = -1 then (⟨b.v,Ahz b.apex i j k l,b.fixed⟩,true) else (b,false)):=by
 obtain ⟨vi,vj,vk⟩:=hm.val hk
 obtain ⟨_,_,vl⟩:=hm.val hl
 have hk':mget b.apex (⟨i,j⟩:Ac)=some k:=hk
 have hl':mget b.apex (⟨j,i⟩:Ac)=some l:=hl
 unfold Gu
 rw [gd_t (Rs hn vi vj),hk',Ah,gd_t (Rs hn vj vi),hl',Ah,jn_d]
 simp only [Option.getD_some,Option.isSome_some,if_true]
 rw [p_eq vk,Ah,p_eq vl,Ah,p_eq vi,Ah,turn_eq (hv.ok _ vk) (hv.ok _ vl) (hv.ok _ vi),Ah,Ah,Ah,p_eq vj,Ah,turn_eq (hv.ok _ vk) (hv.ok _ vl) (hv.ok _ vj),Ah,Am0]
 by_cases c:Int.sign (crs (plV b.v k) (plV b.v l) (plV b.v i))*Int.sign (crs (plV b.v k) (plV b.v l) (plV b.v j)) = -1
 ·rw [if_pos c,if_neg (by simp;omega)]
  have m1:=hm.cutM i j k
  have m2:=m1.cutM j i l
  have m3:=m2.putM vi vl vk
  rw [Avv hn vi vj vk,Ah,Avv hn vj vi vl,Ah,Ah1 hn m2 vi vl vk,Ah,Ah1 hn m3 vj vk vl,Ah]
  rfl
 ·rw [if_neg c,if_pos (by simpa using Aky.2 c)]
end Go.Proofs.YtbkobeeileemjaaGreat
