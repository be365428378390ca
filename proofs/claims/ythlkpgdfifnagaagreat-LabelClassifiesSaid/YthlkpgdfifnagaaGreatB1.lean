import Derived.Test.YthlkpgdfifnagaaGreatR3
namespace Go.Proofs.YthlkpgdfifnagaaGreat
open Go Go.RowKit List
noncomputable section
theorem wuM(n:Nat):wu64 (n:Int)=((n%18446744073709551616:Nat):Int):=by rw[Vx];omega
theorem shrN(n j:Nat)(h:j<=64):shr_ .u64 (n:Int) (j:Int)=((n/2^j:Nat):Int):=by
 unfold shr_;have e:min ((j:Int)).toNat IntKind.u64.bits=j:=by
  have:IntKind.u64.bits=64:=rfl;rw[this];omega
 rw[e,Int.fdiv_eq_ediv_of_nonneg _ (by exact_mod_cast Nat.zero_le (2^j))];norm_cast
theorem shlN(n j:Nat)(h:j<=64):shl_ .u64 (n:Int) (j:Int)=((n*2^j%18446744073709551616:Nat):Int):=by
 unfold shl_;have e:min ((j:Int)).toNat IntKind.u64.bits=j:=by
  have:IntKind.u64.bits=64:=rfl;rw[this];omega
 have c:(n:Int)*2^j=((n*2^j:Nat):Int):=by norm_cast
 rw[e,IntKind.wrap_u64,c];generalize n*2^j=m;omega
theorem Ade(n:Nat):shr_ .u64 (n:Int) 32=((n/4294967296:Nat):Int):=shrN n 32 oo
theorem andN(n:Nat):De .u64 (n:Int) 4294967295=((n%4294967296:Nat):Int):=by
 unfold De;have e:(BitVec.ofInt IntKind.u64.bits (n:Int) &&& BitVec.ofInt IntKind.u64.bits 4294967295).toNat=n%4294967296:=by
  show (BitVec.ofInt 64 (n:Int) &&& BitVec.ofInt 64 4294967295).toNat=_;rw[BitVec.toNat_and];have e1:(BitVec.ofInt 64 (n:Int)).toNat=n%2^64:=by simp[BitVec.toNat_ofInt]
  have e2:(BitVec.ofInt 64 (4294967295:Int)).toNat=2^32-1:=dD;rw[e1,e2,Nat.and_two_pow_sub_one_eq_mod];omega
 rw[e,IntKind.wrap_u64];omega
theorem Apb(a1 a0 b1 b0:Nat)(h1:a1<4294967296)(h2:a0<4294967296)(h3:b1<4294967296)(h4:b0<4294967296):
  a1*b1<=18446744065119617025/\a1*b0<=18446744065119617025/\a0*b1<=18446744065119617025/\a0*b0<=18446744065119617025:=by
 have k:∀x y:Nat,x<4294967296->y<4294967296->x*y<=18446744065119617025:=fun x y hx hy=>
  Nat.le_trans (Nat.mul_le_mul (Nat.le_of_lt_succ hx) (Nat.le_of_lt_succ hy)) dD
 exact⟨k _ _ h1 h3,k _ _ h1 h4,k _ _ h2 h3,k _ _ h2 h4⟩
theorem Avk{a b:Nat}(ha:a<18446744073709551616)(hb:b<18446744073709551616):
  Hb (a:Int) (b:Int)=some (((a*b/18446744073709551616:Nat):Int),((a*b%18446744073709551616:Nat):Int)):=by
 unfold Hb;have e2:(a:Int)*(b:Int)=((a*b:Nat):Int):=by norm_cast
 simp only[Ade,andN,e2,wuM];have hm:=Apb (a/4294967296) (a%4294967296) (b/4294967296) (b%4294967296) oo oo oo oo;have e:a*b=a/4294967296*(b/4294967296)*18446744073709551616+(a/4294967296*(b%4294967296)+a%4294967296*(b/4294967296))*4294967296+a%4294967296*(b%4294967296):=by
  have x1:a=a/4294967296*4294967296+a%4294967296:=oo;have x2:b=b/4294967296*4294967296+b%4294967296:=oo;generalize a/4294967296=p at *;generalize a%4294967296=q at *;generalize b/4294967296=r at *;generalize b%4294967296=s at *;subst x1;subst x2;grind
 have c1:∀x y:Nat,(x:Int)*(y:Int)=((x*y:Nat):Int):=fun x y=>by norm_cast
 have c2:∀x y:Nat,(x:Int)+(y:Int)=((x+y:Nat):Int):=fun x y=>by norm_cast
 simp only[c1,c2,wuM,Ade,andN];rw[e];clear e e2 c1 c2;generalize a/4294967296*(b/4294967296)=p at *;generalize a/4294967296*(b%4294967296)=q at *;generalize a%4294967296*(b/4294967296)=r at *;generalize a%4294967296*(b%4294967296)=s at *;obtain⟨m1,m2,m3,m4⟩:=hm;congr 3;omega
theorem Avl{g q s:Nat}(hg:g<4294967296)(hs:s<4294967296)(hq:q<18446744073709551616):
  Sj (g:Int) (q:Int) (s:Int)=some (decide (g*g*1000000<=s*s*q)):=by
 have m1:g*g<18446744073709551616:=by
  have:=Nat.mul_le_mul (show g<=4294967295 by omega) (show g<=4294967295 by omega);omega
 have m2:s*s<18446744073709551616:=by
  have:=Nat.mul_le_mul (show s<=4294967295 by omega) (show s<=4294967295 by omega);omega
 have c1:∀x y:Nat,(x:Int)*(y:Int)=((x*y:Nat):Int):=fun x y=>by norm_cast
 unfold Sj;rw[Qk oo,Qk oo,Qk oo,c1,c1,Qk oo,Qk oo];rw[show (1000000:Int)=((1000000:Nat):Int) by omega,Avk m1 (show 1000000<18446744073709551616 by omega),Ad,Avk m2 hq,Ad];clear c1;generalize g*g*1000000=a;generalize s*s*q=b;simp only[jn_d]
 by_cases h:a/18446744073709551616<b/18446744073709551616
 .rw[if_pos oo];have:a<=b:=oo;simp[this]
 .rw[if_neg oo]
  by_cases h2:a/18446744073709551616=b/18446744073709551616
  .rw[if_pos oo];have:(((a%18446744073709551616:Nat):Int)<=((b%18446744073709551616:Nat):Int))↔a<=b:=oo;simp only[this]
  .rw[if_neg oo];have:¬a<=b:=oo;simp[this]
def W2(n:Nat):Gj:=⟨((n/18446744073709551616:Nat):Int),((n%18446744073709551616:Nat):Int)⟩
theorem Afb{n a b:Nat}(ha:a<18446744073709551616)(hb:b<18446744073709551616)(h:n+a*b<340282366920938463463374607431768211456):
  El (W2 n) (a:Int) (b:Int)=some (W2 (n+a*b)):=by
 unfold El;rw[Qk oo,Qk oo,Avk ha hb,Ad];generalize a*b=m at *;have e1:(W2 n).lo=((n%18446744073709551616:Nat):Int):=rfl;have e2:(W2 n).hi=((n/18446744073709551616:Nat):Int):=rfl;rw[gd_t (by rw[e1];omega),gd_t (by rw[e1,e2];dsimp only;omega),e1,e2];unfold W2;congr 2 <;> omega
theorem Ajy{σ:Type}{f:σ->Option (Sum σ Int)}(enc:Nat->Nat->σ){B v1 v0 U u1:Nat}(h1:v1<B)(h3:v0<B)(hU:U<v1*B+v0)(hu:u1<B)(h0:0<v1)(hf:∀ q r:Nat,q*v1<=U->r<B->f (enc q r)=if B<=q\/B*r+u1<q*v0 then (if B<=r+v1 then some (.inr ((q-1:Nat):Int)) else some (.inl (enc (q-1) (r+v1)))) else some (.inr (q:Int))):
  lfix f (enc (U/v1) (U%v1))=some (((U*B+u1)/(v1*B+v0):Nat):Int):=by
 have hV:0<v1*B+v0:=by
  have:=Nat.mul_pos h0 (show 0<B by omega);omega
 have hQ:(U*B+u1)/(v1*B+v0)<B:=by
  rw[Nat.div_lt_iff_lt_mul hV];have:(U+1)*B<=(v1*B+v0)*B:=Nat.mul_le_mul_right _ hU;rw[Nat.add_mul,Nat.one_mul] at this;rw[Nat.mul_comm B];omega
 generalize hq:(U*B+u1)/(v1*B+v0)=Q at hQ⊢;have hle:∀q,q<=Q↔q*(v1*B+v0)<=U*B+u1:=fun q=>by rw[<-hq,Nat.le_div_iff_mul_le hV]
 have key:∀q r:Nat,q*v1+r=U->r<B->Q<=q->lfix f (enc q r)=some (Q:Int):=by
  intro q
  induction q with
  |zero=>
   intro r e hr hq0;rw[Ay,hf 0 r oo hr,if_neg oo];simp;omega
  |succ q ih=>
   intro r e hr hq1;have ex:(q+1)*(v1*B+v0)+r*B=U*B+(q+1)*v0:=by rw[<-e];grind
   have e':q*v1+(r+v1)=U:=by rw[<-e];grind
   rw[Ay,hf (q+1) r oo hr]
   by_cases hc:B<=q+1\/B*r+u1<(q+1)*v0
   ·have hq2:Q<=q:=by
     rcases hc with hc|hc
     .omega
     ·have:¬ (q+1)<=Q:=by
       rw[hle];rw[Nat.mul_comm B r] at hc;omega
      omega
    rw[if_pos hc]
    by_cases hd:B<=r+v1
    ·rw[if_pos hd];have hqB:q<B:=by
      apply Classical.byContradiction;intro hn;have:B*v1<=q*v1:=Nat.mul_le_mul_right _ oo;rw[Nat.mul_comm B v1] at this;omega
     have:q<=Q:=by
      rw[hle];have ey:q*(v1*B+v0)+(r+v1)*B=U*B+q*v0:=by rw[<-e'];grind
      have x1:q*v0<=B*B:=Nat.mul_le_mul oo oo;have x2:B*B<=(r+v1)*B:=Nat.mul_le_mul_right _ hd;omega
     have:q=Q:=oo;subst this;simp
    .rw[if_neg hd];exact ih (r+v1) e' oo hq2
   ·rw[if_neg hc];have:q+1<=Q:=by
     rw[hle];rw[Nat.mul_comm B r] at hc;omega
    have:q+1=Q:=oo;subst this;rfl
 have:=Nat.div_add_mod U v1;refine key _ _ (by rw[Nat.mul_comm];exact this) (Nat.lt_trans (Nat.mod_lt _ h0) h1) ?_;rw[<-hq];rw[Nat.le_div_iff_mul_le h0];have a:=Nat.div_mul_le_self (U*B+u1) (v1*B+v0);generalize (U*B+u1)/(v1*B+v0)=q at *;have b:q*v1*B<=U*B+u1:=by
  have:q*(v1*B+v0)=q*v1*B+q*v0:=by grind
  omega
 have c:q*v1*B<(U+1)*B:=by rw[Nat.add_mul,Nat.one_mul];omega
 have:=Nat.lt_of_mul_lt_mul_right c;omega
def LenP(y:Nat)(o:Option Int):Prop:=∃t:Nat,1<=t/\t<=64/\2^(t-1)<=y/\y<2^t/\o=some (t:Int)
theorem Azt:∀x:Fin 256,0<x.val->∃t:Fin 9,Ob[x.val]? = some (t.val:Int)/\1<=t.val/\2^(t.val-1)<=x.val/\x.val<2^t.val:=by decide +kernel
theorem Azu{x:Nat}(h0:0<x)(h:x<256):∃t:Nat,t<=8/\idx Ob (wu8 (x:Int))=some (t:Int)/\1<=t/\2^(t-1)<=x/\x<2^t:=by
 obtain⟨t,e,h1,h2,h3⟩:=Azt ⟨x,h⟩ h0;refine⟨t.val,oo,?_,h1,h2,h3⟩;have e8:wu8 (x:Int)=(x:Int):=by
  unfold wu8;rw[IntKind.wrap_u8];omega
 rw[e8];unfold idx;rw[if_pos oo];simpa using e
theorem Arc{x n y:Nat}(hx:x=y/2^n)(h0:0<x)(h:x<256)(hn:n<=56):LenP y (bnd (idx Ob (wu8 (x:Int))) fun x16=>some (w64 ((n:Int)+(w64 x16)))):=by
 obtain⟨t,h8,e,h1,h2,h3⟩:=Azu h0 h;rw[e,Ad];have hp:0<2^n:=Nat.two_pow_pos n;refine⟨n+t,oo,oo,?_,?_,?_⟩
 .rw[hx,Nat.le_div_iff_mul_le hp,<-Nat.pow_add] at h2;rw[show n+t-1=t-1+n by omega];exact h2
 .rw[hx,Nat.div_lt_iff_lt_mul hp,<-Nat.pow_add] at h3;rw[Nat.add_comm];exact h3
 .rw[Re oo,Aq oo oo];norm_cast
theorem Bby{x n y:Nat}(hx:x=y / 2 ^ n)(h0:0<x)(h:x<65536)(hn:n<=48):
  LenP y (jn (fun (s8:Int×Int)=>bnd (idx Ob (wu8 s8.1)) fun x16=>some (w64 (s8.2+(w64 x16)))) (fun j8=>if 256<=(x:Int) then (j8 (shr_ .u64 (x:Int) 8,w64 ((n:Int)+8))) else (j8 ((x:Int),(n:Int))))):=by
 rw[jn_d]
 by_cases c:256<=(x:Int)
 .rw[if_pos c];have e:w64 ((n:Int)+8)=((n+8:Nat):Int):=by rw[Aq oo oo];norm_cast
  rw[show shr_ .u64 (x:Int) 8=((x/2^8:Nat):Int) from shrN x 8 oo,e];exact Arc (by rw[hx,Nat.div_div_eq_div_mul,<-Nat.pow_add]) oo oo oo
 .rw[if_neg c];exact Arc hx h0 oo oo
theorem Avm{x n y:Nat}(hx:x=y / 2 ^ n)(h0:0<x)(h:x<4294967296)(hn:n<=32):
  LenP y (jn (fun (s5:Int×Int)=>jn (fun (s8:Int×Int)=>bnd (idx Ob (wu8 s8.1)) fun x16=>some (w64 (s8.2+(w64 x16)))) (fun j8=>if 256<=s5.1 then (j8 (shr_ .u64 s5.1 8,w64 (s5.2+8))) else (j8 (s5.1,s5.2))))
   (fun j5=>if 65536<=(x:Int) then (j5 (shr_ .u64 (x:Int) 16,w64 ((n:Int)+16))) else (j5 ((x:Int),(n:Int))))):=by
 rw[jn_d]
 by_cases c:65536<=(x:Int)
 .rw[if_pos c];have e:w64 ((n:Int)+16)=((n+16:Nat):Int):=by rw[Aq oo oo];norm_cast
  rw[show shr_ .u64 (x:Int) 16=((x/2^16:Nat):Int) from shrN x 16 oo,e];exact Bby (by rw[hx,Nat.div_div_eq_div_mul,<-Nat.pow_add]) oo oo oo
 .rw[if_neg c];exact Bby hx h0 oo oo
theorem Beo{y:Nat}(h0:0<y)(h:y<18446744073709551616):LenP y (Mx (y:Int)):=by
 unfold Mx;rw[jn_d]
 by_cases c:4294967296<=(y:Int)
 .rw[if_pos c];rw[show shr_ .u64 (y:Int) 32=((y/2^32:Nat):Int) from shrN y 32 oo];exact Avm (n:=32) rfl oo oo oo
 .rw[if_neg c];exact Avm (n:=0) s_ h0 oo oo
theorem Bcr{y:Nat}(h0:0<y)(h:y<18446744073709551616):∃s:Nat,s<=63/\Ey (y:Int)=some (s:Int)/\9223372036854775808<=y*2^s/\y*2^s<18446744073709551616:=by
 obtain⟨t,h1,h2,h3,h4,e⟩:=Beo h0 h;refine⟨64-t,oo,?_,?_,?_⟩
 .unfold Ey;rw[e,Ad,Aq oo oo];congr 1;omega
 .have:=Nat.mul_le_mul_right (2^(64-t)) h3;rw[<-Nat.pow_add,show t-1+(64-t)=63 by omega] at this;exact this
 .have:=Nat.mul_lt_mul_of_pos_right h4 (Nat.two_pow_pos (64-t));rw[<-Nat.pow_add,show t+(64-t)=64 by omega] at this;exact this
theorem Apc(x y z:Int)(h0:0<=x+y-z)(h1:x+y-z<18446744073709551616):wu64 (wu64 (wu64 x+y)-wu64 z)=x+y-z:=by
 simp only[Vx];omega
theorem Avn(x z:Int)(h0:0<=x-z)(h1:x-z<18446744073709551616):wu64 (x-wu64 z)=x-z:=by
 simp only[Vx];omega
theorem Xo{x:Int}(h0:0<=x)(h1:x<18446744073709551616):wu64 x=x:=by rw[Vx];omega
theorem orN{a b s:Nat}(hb:b<2^s)(h:a*2^s+b<18446744073709551616):Wn .u64 ((a*2^s:Nat):Int) (b:Int)=((a*2^s+b:Nat):Int):=by
 unfold Wn;have e:(BitVec.ofInt IntKind.u64.bits ((a*2^s:Nat):Int) ||| BitVec.ofInt IntKind.u64.bits (b:Int)).toNat=a*2^s+b:=by
  show (BitVec.ofInt 64 ((a*2^s:Nat):Int) ||| BitVec.ofInt 64 (b:Int)).toNat=_;rw[BitVec.toNat_or];have k:∀n:Nat,n<18446744073709551616->(BitVec.ofInt 64 (n:Int)).toNat=n:=fun n hn=>by
   simp[BitVec.toNat_ofInt];omega
  rw[k _ oo,k _ oo,Nat.mul_comm,<-Nat.two_pow_add_eq_or_of_lt hb]
 rw[e];exact Qk oo
theorem Amu{v1 v0 U u q r:Nat}(h1:v1<4294967296)(h2:2147483648<=v1)(h3:v0<4294967296)(hu:u<4294967296)(hU:U<18446744073709551616)(hq:q*v1<=U)(hr:r<4294967296){σ:Type}(A:Int->Option (Sum σ Int))(E:Option (Sum σ Int)):
  jn (fun (s:Bool)=>if s=true then (if (4294967296:Int)<=wu64 ((r:Int)+(v1:Int)) then some (.inr (wu64 ((q:Int)-1))) else A (wu64 ((q:Int)-1))) else E)
   (fun j=>if (4294967296:Int)<=(q:Int) then j true else j (decide (wu64 (wu64 (4294967296*(r:Int))+(u:Int))<wu64 ((q:Int)*(v0:Int)))))
  = if 4294967296<=q\/4294967296*r+u<q*v0 then (if 4294967296<=r+v1 then some (.inr ((q-1:Nat):Int)) else A ((q-1:Nat):Int)) else E:=by
 have hq2:q<8589934593:=by
  apply Classical.byContradiction;intro hn;have:=Nat.mul_le_mul (show 8589934593<=q by omega) h2;omega
 have e1:wu64 ((r:Int)+(v1:Int))=((r+v1:Nat):Int):=by rw[Xo oo oo];norm_cast
 have e3:wu64 (wu64 (4294967296*(r:Int))+(u:Int))=((4294967296*r+u:Nat):Int):=by
  simp only[Vx];omega
 have c1:(q:Int)*(v0:Int)=((q*v0:Nat):Int):=by norm_cast
 have d1:((4294967296:Int)<=((r+v1:Nat):Int))↔4294967296<=r+v1:=oo;rw[jn_d,e1,e3,c1]
 by_cases hc:4294967296<=q
 .have e2:wu64 ((q:Int)-1)=((q-1:Nat):Int):=by rw[Xo oo oo];omega
  rw[if_pos (show (4294967296:Int)<=(q:Int) by omega)];refine (if_pos (show true=true from rfl)).trans ?_;rw[if_pos (show 4294967296<=q\/4294967296*r+u<q*v0 from Or.inl hc),e2]
  by_cases hd:4294967296<=r+v1
  .rw[if_pos hd,if_pos oo]
  .rw[if_neg hd,if_neg oo]
 .rw[if_neg (show ¬(4294967296:Int)<=(q:Int) by omega)];have b1:q*v0<=4294967295*4294967295:=Nat.mul_le_mul oo oo;rw[Qk (show q*v0<=18446744073709551615 by omega)]
  by_cases hk:4294967296*r+u<q*v0
  ·have hq0:0<q:=by
    rcases Nat.eq_zero_or_pos q with h|h
    .subst h;simp at hk
    .exact h
   have e2:wu64 ((q:Int)-1)=((q-1:Nat):Int):=by rw[Xo oo oo];omega
   rw[decide_eq_true oo];refine (if_pos (show true=true from rfl)).trans ?_;rw[if_pos (show 4294967296<=q\/4294967296*r+u<q*v0 from Or.inr hk),e2]
   by_cases hd:4294967296<=r+v1
   .rw[if_pos hd,if_pos oo]
   .rw[if_neg hd,if_neg oo]
  .rw[decide_eq_false oo];refine (if_neg (show ¬(false=true) by decide)).trans ?_;rw[if_neg (show ¬(4294967296<=q\/4294967296*r+u<q*v0) by omega)]
theorem Azv{y lo s v1 v0 U u1:Nat}(h1:v1<4294967296)(h2:2147483648<=v1)(h3:v0<4294967296)(hU:U<v1*4294967296+v0)(hu:u1<4294967296)(es:wu64 (s:Int)=(s:Int))(ey:shl_ .u64 (y:Int) (s:Int)=((v1*4294967296+v0:Nat):Int))(el:shr_ .u64 (shl_ .u64 (lo:Int) (s:Int)) 32=(u1:Int)):
  lfix (Ok (y:Int) (s:Int) (lo:Int)) (((U/v1:Nat):Int),((U%v1:Nat):Int))=some (((U*4294967296+u1)/(v1*4294967296+v0):Nat):Int):=by
 have e1:shr_ .u64 ((v1*4294967296+v0:Nat):Int) 32=(v1:Int):=by rw[Ade];omega
 have e2:De .u64 ((v1*4294967296+v0:Nat):Int) 4294967295=(v0:Int):=by rw[andN];omega
 refine Ajy (fun q r=>((q:Int),(r:Int))) h1 h3 hU hu oo ?_;intro q r hq hr;unfold Ok;simp only[es,ey,el,e1,e2];refine (Amu h1 h2 h3 hu (U:=U) oo hq hr (fun q'=>some (.inl (q',wu64 ((r:Int)+(v1:Int))))) _).trans ?_
 by_cases hd:4294967296<=r+v1
 .simp only[if_pos hd]
 .rw[Xo (x:=(r:Int)+(v1:Int)) oo oo];simp only[if_neg hd];norm_cast
theorem Azw{y lo s v1 v0 U u0:Nat}(h1:v1<4294967296)(h2:2147483648<=v1)(h3:v0<4294967296)(hU:U<v1*4294967296+v0)(hu:u0<4294967296)(es:wu64 (s:Int)=(s:Int))(ey:shl_ .u64 (y:Int) (s:Int)=((v1*4294967296+v0:Nat):Int))(el:De .u64 (shl_ .u64 (lo:Int) (s:Int)) 4294967295=(u0:Int)):
  lfix (Ol (y:Int) (s:Int) (lo:Int)) (((U%v1:Nat):Int),((U/v1:Nat):Int))=some (((U*4294967296+u0)/(v1*4294967296+v0):Nat):Int):=by
 have e1:shr_ .u64 ((v1*4294967296+v0:Nat):Int) 32=(v1:Int):=by rw[Ade];omega
 have e2:De .u64 ((v1*4294967296+v0:Nat):Int) 4294967295=(v0:Int):=by rw[andN];omega
 refine Ajy (fun q r=>((r:Int),(q:Int))) h1 h3 hU hu oo ?_;intro q r hq hr;unfold Ol;simp only[es,ey,el,e1,e2];refine (Amu h1 h2 h3 hu (U:=U) oo hq hr (fun q'=>some (.inl (wu64 ((r:Int)+(v1:Int)),q'))) _).trans ?_
 by_cases hd:4294967296<=r+v1
 .simp only[if_pos hd]
 .rw[Xo (x:=(r:Int)+(v1:Int)) oo oo];simp only[if_neg hd];norm_cast
theorem Azx{lo s:Nat}(hs:s<=63):lo*2^s=lo/2^(64-s)*18446744073709551616+lo*2^s%18446744073709551616:=by
 have e:(18446744073709551616:Nat)=2^(64-s)*2^s:=by rw[<-Nat.pow_add,show 64-s+s=64 by omega]
 have k:lo*2^s/18446744073709551616=lo/2^(64-s):=by rw[e,Nat.mul_div_mul_right _ _ (Nat.two_pow_pos s)]
 have:=Nat.div_add_mod (lo*2^s) 18446744073709551616;rw[k] at this;omega
theorem Aec{U v1:Nat}(h1:0<v1)(hU:U<18446744073709551616):wu64 (Int.tdiv (U:Int) (v1:Int))=((U/v1:Nat):Int)/\wu64 ((U:Int)-wu64 (((U/v1:Nat):Int)*(v1:Int)))=((U%v1:Nat):Int):=by
 have a:U/v1<=U:=Nat.div_le_self _ _;have b:=Nat.div_add_mod U v1;have c:((U/v1:Nat):Int)*(v1:Int)=((v1*(U/v1):Nat):Int):=by rw[Nat.mul_comm];norm_cast
 constructor
 .rw[<-Int.ofNat_tdiv];exact Qk oo
 .rw[c];generalize v1*(U/v1)=m at *;rw[Avn _ _ oo oo];omega
theorem Amv{U u Y:Nat}(hU:U<Y)(hu:u<4294967296)(hY:Y<18446744073709551616):
  wu64 (wu64 (wu64 ((U:Int)*4294967296)+(u:Int))-wu64 ((((U*4294967296+u)/Y:Nat):Int)*(Y:Int)))=(((U*4294967296+u)%Y:Nat):Int):=by
 have b:=Nat.div_add_mod (U*4294967296+u) Y;have d:=Nat.mod_lt (U*4294967296+u) (show 0<Y by omega);have c:(((U*4294967296+u)/Y:Nat):Int)*(Y:Int)=((Y*((U*4294967296+u)/Y):Nat):Int):=by rw[Nat.mul_comm Y];norm_cast
 rw[c];generalize Y*((U*4294967296+u)/Y)=m at *;generalize (U*4294967296+u)%Y=r at *;rw[Apc _ _ _ oo oo];omega
theorem Azy{U w Y r1 g1 g0 R s:Nat}(x1:Y*g1+r1=U*4294967296+w / 4294967296)(x2:Y*g0+R=r1*4294967296+w % 4294967296)(x3:R<Y)(a1:g1<4294967296)(a2:g0<4294967296):
  some (wu64 (wu64 ((g1:Int)*4294967296)+(g0:Int)),((R/2^s:Nat):Int))=some ((((U*18446744073709551616+w)/Y:Nat):Int),(((U*18446744073709551616+w)%Y/2^s:Nat):Int)):=by
 have tot:U*18446744073709551616+w=Y*(g1*4294967296+g0)+R:=by
  rw[Nat.mul_add,show Y*(g1*4294967296)=Y*g1*4294967296 by grind];omega
 rw[tot,Nat.mul_add_div oo,Nat.mul_add_mod,Nat.div_eq_of_lt x3,Nat.mod_eq_of_lt x3];have fin:wu64 (wu64 ((g1:Int)*4294967296)+(g0:Int))=((g1*4294967296+g0+0:Nat):Int):=by
  simp only[Vx];omega
 rw[fin]
theorem Bep{hi lo y:Nat}(hy:y<18446744073709551616)(h:hi<y)(hl:lo<18446744073709551616):
  Qj (hi:Int) (lo:Int) (y:Int)=some ((((hi*18446744073709551616+lo)/y:Nat):Int),(((hi*18446744073709551616+lo)%y:Nat):Int)):=by
 unfold Qj;rw[if_neg oo,if_neg oo]
 by_cases h0:hi=0
 .subst h0;rw[if_pos oo,gd_t oo,gd_t oo,(Aec oo hl).1,<-Int.ofNat_tmod];simp
 rw[if_neg oo];obtain⟨s,hs,e,n1,n2⟩:=Bcr (y:=y) oo hy;rw[e,Ad];have es:wu64 (s:Int)=(s:Int):=Qk oo;have hp:0<2^s:=Nat.two_pow_pos s;have m1:hi*2^s<y*2^s:=Nat.mul_lt_mul_of_pos_right h hp;have m2:=Azx (lo:=lo) hs;have m3:lo/2^(64-s)<2^s:=by
  rw[Nat.div_lt_iff_lt_mul (Nat.two_pow_pos _),<-Nat.pow_add,show s+(64-s)=64 by omega];exact hl
 have m4:(hi*18446744073709551616+lo)*2^s=(hi*2^s+lo/2^(64-s))*18446744073709551616+lo*2^s%18446744073709551616:=by
  rw[Nat.add_mul,m2];grind
 have m5:hi*2^s+lo/2^(64-s)<y*2^s:=by
  have:=Nat.mul_le_mul_right (2^s) (show hi+1<=y from h);rw[Nat.add_mul,Nat.one_mul] at this;omega
 have ey:shl_ .u64 (y:Int) (s:Int)=((y*2^s:Nat):Int):=by rw[shlN _ _ oo,Nat.mod_eq_of_lt n2]
 have eh:shl_ .u64 (hi:Int) (s:Int)=((hi*2^s:Nat):Int):=by rw[shlN _ _ oo,Nat.mod_eq_of_lt oo]
 have el:=shlN lo s oo;have ec:wu64 (64-(s:Int))=((64-s:Nat):Int):=by rw[Xo oo oo];omega
 have ed:=shrN lo (64-s) oo;have ef:=orN (a:=hi) m3 oo;have q1:(hi*18446744073709551616+lo)/y=(hi*18446744073709551616+lo)*2^s/(y*2^s):=by rw[Nat.mul_div_mul_right _ _ hp]
 have q2:(hi*18446744073709551616+lo)%y=(hi*18446744073709551616+lo)*2^s%(y*2^s)/2^s:=by rw[Nat.mul_mod_mul_right,Nat.mul_div_cancel _ hp]
 rw[q1,q2,m4];simp only[es,ey,eh,ec,ed,ef,jn_d];have esr:∀n:Nat,shr_ .u64 (n:Int) (s:Int)=((n/2^s:Nat):Int):=fun n=>shrN n s oo
 have d1:=@Azv y lo s;have d0:=@Azw y lo s;rw[ey,el] at d1 d0;rw[el];have ew:lo*2^s%18446744073709551616<18446744073709551616:=Nat.mod_lt _ oo;generalize lo*2^s%18446744073709551616=w at *;generalize hi*2^s+lo/2^(64-s)=U at *;generalize y*2^s=Y at *;clear m1 m2 m3 m4 ef eh ed el ey e q1 q2 ec;rw[gd_t oo,gd_t oo,gd_t oo,gd_t oo];have t1:Y=Y/4294967296*4294967296+Y%4294967296:=oo;have t2:w=w/4294967296*4294967296+w%4294967296:=oo;have d1':=d1 (v1:=Y/4294967296) (v0:=Y%4294967296) (U:=U) (u1:=w/4294967296) oo oo oo oo oo es (by rw[<-t1]) (Ade w);rw[<-t1] at d1';rw[Ade,Ade,andN,gd_t oo,(Aec oo oo).1,(Aec oo oo).2,d1',Ad,gd_t oo,Amv m5 oo n2];have hM:=Nat.mod_lt (U*4294967296+w/4294967296) (show 0<Y by omega);have d0':=d0 (v1:=Y/4294967296) (v0:=Y%4294967296) (U:=(U*4294967296+w/4294967296)%Y) (u0:=w%4294967296) oo oo oo oo oo es (by rw[<-t1]) (andN w);rw[<-t1] at d0';rw[(Aec oo oo).1,(Aec oo oo).2,d0',Ad,Amv hM oo n2,gd_t oo,esr];have x1:=Nat.div_add_mod (U*4294967296+w/4294967296) Y;have x2:=Nat.div_add_mod ((U*4294967296+w/4294967296)%Y*4294967296+w%4294967296) Y;have x3:=Nat.mod_lt ((U*4294967296+w/4294967296)%Y*4294967296+w%4294967296) (show 0<Y by omega);have a1:(U*4294967296+w/4294967296)/Y<4294967296:=by
  rw[Nat.div_lt_iff_lt_mul oo];omega
 have a2:((U*4294967296+w/4294967296)%Y*4294967296+w%4294967296)/Y<4294967296:=by
  rw[Nat.div_lt_iff_lt_mul oo];omega
 exact Azy x1 x2 x3 a1 a2
theorem Azz{m0 m1 m2 d0 d1 d2:Nat}{b:Int}{p:Ag}(hA:m0+m1+m2<=2305843009213693952)(h0:0<m0+m1+m2)(k0:d0<=2199023255552)(k1:d1<=2199023255552)(k2:d2<=2199023255552)(b1:-2199023255552<=b)(b2:b<=2199023255552)(hb:min (min p.a0 p.a1) p.a2=b)(e0:p.a0=b+d0)(e1:p.a1=b+d1)(e2:p.a2=b+d2):
  Oc ⟨(m0:Int),(m1:Int),(m2:Int)⟩ p=some (b+(((m0*d0+m1*d1+m2*d2)/(m0+m1+m2):Nat):Int),
   b+(((m0*d0+m1*d1+m2*d2)/(m0+m1+m2):Nat):Int)+if 0<(m0*d0+m1*d1+m2*d2)%(m0+m1+m2) then 1 else 0):=by
 have l0:m0*d0<=m0*2199023255552:=Nat.mul_le_mul_left _ k0;have l1:m1*d1<=m1*2199023255552:=Nat.mul_le_mul_left _ k1;have l2:m2*d2<=m2*2199023255552:=Nat.mul_le_mul_left _ k2;have w0:w64 (p.a0-b)=(d0:Int):=by rw[Aq oo oo];omega
 have w1:w64 (p.a1-b)=(d1:Int):=by rw[Aq oo oo];omega
 have w2:w64 (p.a2-b)=(d2:Int):=by rw[Aq oo oo];omega
 have z:(⟨0,0⟩:Gj)=W2 0:=rfl;have s1:wu64 (w64 (w64 ((m0:Int)+(m1:Int))+(m2:Int)))=((m0+m1+m2:Nat):Int):=by
  rw[Aq (x:=(m0:Int)+(m1:Int)) oo oo,Aq oo oo,Xo oo oo];norm_cast
 unfold Oc;simp only[hb,w0,w1,w2,s1];have p0:=Afb (n:=0) (a:=m0) (b:=d0) oo oo oo;have p1:=Afb (n:=0+m0*d0) (a:=m1) (b:=d1) oo oo oo;have p2:=Afb (n:=0+m0*d0+m1*d1) (a:=m2) (b:=d2) oo oo oo;rw[z,p0,Ad,p1,Ad,p2,Ad];have hn:0+m0*d0+m1*d1+m2*d2=m0*d0+m1*d1+m2*d2:=oo;rw[hn];have hm:m0*d0+m1*d1+m2*d2<=(m0+m1+m2)*2199023255552:=oo;clear p0 p1 p2 hn l0 l1 l2 z s1 w0 w1 w2;generalize m0*d0+m1*d1+m2*d2=n at *;generalize m0+m1+m2=A at *;have q:=Bep (hi:=n/18446744073709551616) (lo:=n%18446744073709551616) (y:=A) oo oo oo;have en:n/18446744073709551616*18446744073709551616+n%18446744073709551616=n:=oo;rw[en] at q;have qb:n/A<=2199023255552:=by
  rw[Nat.div_le_iff_le_mul_add_pred h0,Nat.mul_comm A];rw[Nat.mul_comm] at hm;omega
 refine (congrArg (fun o=>bnd o _) q).trans ?_;rw[Ad];dsimp only;generalize n/A=g at *;generalize n%A=r at *;have f1:w64 (b+w64 (g:Int))=b+(g:Int):=by rw[Re oo,Aq oo oo]
 have f2:w64 (b+(g:Int)+1)=b+(g:Int)+1:=by rw[Aq oo oo]
 rw[f1,f2]
 by_cases hr:0<r
 .rw[if_pos (show (0:Int)<(r:Int) by omega),if_pos hr]
 .rw[if_neg (show ¬(0:Int)<(r:Int) by omega),if_neg hr,Int.add_zero]
namespace X
def cr(a b c:Ab):Int:=(b.X-a.X)*(c.Y-a.Y)-(b.Y-a.Y)*(c.X-a.X)
theorem Ahq{p:Ab}(h:okXY p=true):-268435456<=p.X/\p.X<=268435456/\-268435456<=p.Y/\p.Y<=268435456:=by
 simpa only[okXY,decide_eq_true_eq] using h
theorem Ard{a b:Int}{m:Int}(ha:-m<=a/\a<=m)(hb:-m<=b/\b<=m):-(m*m)<=a*b/\a*b<=m*m:=by
 have hm:0<=m:=oo;rcases Int.le_total 0 a with h|h <;> rcases Int.le_total 0 b with k|k
 .have h1:=Int.mul_le_mul ha.2 hb.2 k hm;have h2:=Int.mul_nonneg h k;omega
 .have h1:=Int.mul_le_mul (a:=a) (b:=-b) (c:=m) (d:=m) ha.2 oo oo hm;have h2:=Int.mul_nonneg (a:=a) (b:=-b) h oo;rw[Int.mul_neg] at h1 h2;omega
 .have h1:=Int.mul_le_mul (a:=-a) (b:=b) (c:=m) (d:=m) oo hb.2 k hm;have h2:=Int.mul_nonneg (a:=-a) (b:=b) oo k;rw[Int.neg_mul] at h1 h2;omega
 .have h1:=Int.mul_le_mul (a:=-a) (b:=-b) (c:=m) (d:=m) oo oo oo hm;have h2:=Int.mul_nonneg (a:=-a) (b:=-b) oo oo;rw[Int.neg_mul_neg] at h1 h2;omega
theorem cr_w{a b c:Ab}(ha:okXY a=true)(hb:okXY b=true)(hc:okXY c=true):
  w64 ((w64 ((w64 (b.X-a.X))*(w64 (c.Y-a.Y))))-(w64 ((w64 (b.Y-a.Y))*(w64 (c.X-a.X)))))=cr a b c:=by
 have h1:=Ahq ha;have h2:=Ahq hb;have h3:=Ahq hc;rw[Aq (x:=b.X-a.X) oo oo,Aq (x:=c.Y-a.Y) oo oo,Aq (x:=b.Y-a.Y) oo oo,Aq (x:=c.X-a.X) oo oo];have e1:=Ard (a:=b.X-a.X) (b:=c.Y-a.Y) (m:=536870912) oo oo;have e2:=Ard (a:=b.Y-a.Y) (b:=c.X-a.X) (m:=536870912) oo oo;rw[Aq (x:=(b.X-a.X)*(c.Y-a.Y)) oo oo,Aq (x:=(b.Y-a.Y)*(c.X-a.X)) oo oo,Aq oo oo];rfl
theorem Az0(a b c:Ab):cr b a c = -cr a b c:=by unfold cr;grind
theorem turn_eq{a b c:Ab}(ha:okXY a=true)(hb:okXY b=true)(hc:okXY c=true):Ud a b c=some (Int.sign (cr a b c)):=by
 simp only[Ud,cr_w ha hb hc];rcases Int.lt_trichotomy (cr a b c) 0 with h|h|h
 .rw[if_neg oo,if_pos h,Int.sign_eq_neg_one_of_neg h]
 .rw[h];rfl
 .rw[if_pos h,Int.sign_eq_one_of_pos h]
def onB(c:Ab)(s:Ab×Ab):Bool:=decide (cr s.1 s.2 c=0/\min s.1.X s.2.X<=c.X/\c.X<=max s.1.X s.2.X/\min s.1.Y s.2.Y<=c.Y/\c.Y<=max s.1.Y s.2.Y)
def croB(c:Ab)(s:Ab×Ab):Bool:=decide ((s.1.Y<=c.Y/\c.Y<s.2.Y/\0<cr s.1 s.2 c)\/(c.Y<s.1.Y/\s.2.Y<=c.Y/\cr s.1 s.2 c<0))
theorem sign_pos{x:Int}:0<Int.sign x↔0<x:=by
 rcases Int.lt_trichotomy x 0 with h|h|h
 .rw[Int.sign_eq_neg_one_of_neg h];omega
 .rw[h];simp
 .rw[Int.sign_eq_one_of_pos h];omega
theorem sign_zero{x:Int}:Int.sign x=0↔x=0:=Int.sign_eq_zero_iff_zero
theorem Beq{a b c:Ab}(ha:okXY a=true)(hb:okXY b=true)(hc:okXY c=true):Ab9 a b c=some (onB c (a,b)):=by
 simp only[Ab9,jn_d,turn_eq ha hb hc,Ad,within_eq,sign_zero,onB,decide_eq_true_eq]
 by_cases h:cr a b c=0 <;> by_cases h2:(min a.X b.X<=c.X/\c.X<=max a.X b.X) <;> simp[h,h2]
 all_goals (try omega)
theorem Bcs{a b c:Ab}(ha:okXY a=true)(hb:okXY b=true)(hc:okXY c=true):Tq a b c=some (croB c (a,b)):=by
 simp only[Tq,turn_eq ha hb hc,turn_eq hb ha hc,Ad,croB,sign_pos,Az0 a b c]
 by_cases h1:c.Y<a.Y <;> by_cases h2:c.Y<b.Y <;> simp[h1,h2]
 all_goals (try omega)
 .rw[if_neg oo];simp;omega
 .rw[if_pos oo];simp;omega
def Wv(p:Ab):List Ab->List (Ab×Ab)
 |[]=>[]
 |q::r=>(p,q)::Wv q r
def oddB{α:Type}(f:α->Bool):List α->Bool
 |[]=>false
 |x::r=>f x != oddB f r
theorem Ati{α:Type}(f:α->Bool){l m:List α}(h:l.Perm m):oddB f l=oddB f m:=by
 induction h with
 |nil=>rfl
 |cons x _ ih=>simp only[oddB,ih]
 |swap x y l=>simp only[oddB];cases f x <;> cases f y <;> cases oddB f l <;> rfl
 |trans _ _ h1 h2=>rw[h1,h2]
def insB(c:Ab)(S:List (Ab×Ab)):Bool:=S.any (onB c) || oddB (croB c) S
theorem Atj{c:Ab}{S S':List (Ab×Ab)}(h:S.Perm S'):insB c S=insB c S':=by
 unfold insB;rw[Ati _ h];have:S.any (onB c)=S'.any (onB c):=by
  rw[Bool.eq_iff_iff,any_eq_true,any_eq_true];simp only[h.mem_iff]
 rw[this]
def Avo:List Ab->List (Ab×Ab)
 |[]=>[]
 |a::r=>Wv a (r++[a])
theorem Ajz(p:Ab):∀(l m:List Ab),Wv p (l++m)=Wv p l++Wv ((p::l).getLast (cons_ne_nil _ _)) m
 |[],m=>rfl
 |q::r,m=>by
  have:=Ajz q r m;simp only[cons_append,Wv,this];rw[getLast_cons (cons_ne_nil q r)]
def inF(c:Ab)(s:Bool×Ab)(q:Ab):Sum (Bool×Ab) (Sum Bool Bool):=if onB c (s.2,q)=true then .inr (.inr true) else .inl (if croB c (s.2,q)=true then !s.1 else s.1,q)
theorem Avp(c:Ab):∀(l:List Ab) (s:Bool×Ab),Uh (inF c) (fun s=>(.inl s.1:Sum Bool Bool)) l s=if (Wv s.2 l).any (onB c)=true then .inr true else .inl (s.1 != oddB (croB c) (Wv s.2 l))
 |[],s=>by simp[Uh,Wv,oddB]
 |q::r,s=>by
  unfold Uh inF
  by_cases h:onB c (s.2,q)=true
  .rw[if_pos h];simp[Wv,h]
  .rw[if_neg h];dsimp only;have ih:=Avp c r (if croB c (s.2,q)=true then !s.1 else s.1,q);unfold inF at ih;rw[ih];have h':onB c (s.2,q)=false:=by simpa using h
   simp only[Wv,any_cons,h',Bool.false_or,oddB];cases croB c (s.2,q) <;> cases s.1 <;> cases oddB (croB c) (Wv q r) <;> rfl
theorem Atk{l:List Ab}(h1:∀p∈l,okXY p=true)(h0:0<l.length)(h2:l.length<=1000){c:Ab}(hc:okXY c=true):Ve l c=some (insB c (Avo l)):=by
 have hlast:l.length-1<l.length:=oo;have hw:w64 ((l.length:Int)-1)=((l.length-1:Nat):Int):=by rw[Aq oo oo];omega
 unfold Ve;rw[hw,Am hlast,Ad,jn_d];have key:=Nz l (fun (s:Bool×Ab) (j:Int)=>(s.1,s.2.X,s.2.Y,j)) (inF c) (fun s=>(.inl s.1:Sum Bool Bool)) (Na l c) (fun _ s=>okXY s.2=true) ?_ ?_ (false,l[l.length-1]) (h1 _ (getElem_mem hlast))
 ·have key':lfix (Na l c) (false,l[l.length-1].X,l[l.length-1].Y,0)=_:=key;rw[key',Ad,Avp];have hp:(Wv l[l.length-1] l).Perm (Avo l):=by
   cases l with
   |nil=>simp at h0
   |cons a r=>
    show (Wv _ (a::r)).Perm (Wv a (r++[a]));rw[Ajz];have:(a::r)[(a::r).length-1]=(a::r).getLast (cons_ne_nil _ _):=by rw[getLast_eq_getElem]
    rw[this];exact (perm_append_singleton _ _).symm
  have e:=Atj (c:=c) hp;unfold insB at e⊢;rw[<-e];cases (Wv l[l.length-1] l).any (onB c) <;> simp
 .rintro j hj ⟨b,p⟩ hp;dsimp only at hp;have hq:=h1 _ (getElem_mem hj);have hb:(⟨p.X,p.Y⟩:Ab)=p:=rfl;unfold inF;simp only[Na,if_pos (show (j:Int)<(l.length:Int) by omega),jn_d,Am hj,Ad,hb,Beq hp hq hc,Bcs hp hq hc,Au (show j<9223372036854775807 by omega)]
  by_cases g:onB c (p,l[j])=true
  .right;exact⟨_,by rw[if_pos g],by rw[if_pos g]⟩
  .left;refine⟨_,by rw[if_neg g],?_,hq⟩;rw[if_neg g]
   by_cases g2:croB c (p,l[j])=true <;> simp[g2]
 .intro s _;simp only[Na,Int.lt_irrefl,if_false]
def Abh(l:List Ab):Bool:=decide (3<=l.length/\l.length<=64)&&l.all okXY
theorem Ak2(l:List Ab):Qr l=some (Abh l):=by
 simp only[Qr,within_eq,Ad,decide_eq_true_eq,jn_d,Abh]
 by_cases h:(3:Int)<=(l.length:Int)/\(l.length:Int)<=64
 .rw[if_pos h,decide_eq_true (show 3<=l.length/\l.length<=64 by omega),Bool.true_and];rw[Wd (β:=Unit) (γ:=Bool) l okXY (Mg l) () false ?_ ?_,Ad]
  .by_cases hk:l.all okXY=true <;> simp[hk]
  .intro j hj;simp only[Mg,if_pos (show (j:Int)<(l.length:Int) by omega),Am hj,Ad,Za,Au (show j<9223372036854775807 by omega)]
  .simp only[Mg,Int.lt_irrefl,if_false]
 .rw[if_neg h,decide_eq_false (show ¬(3<=l.length/\l.length<=64) by omega),Bool.false_and]
theorem ring_eq{l:List Ab}(hl:l.length<=1000):Aba l=some (Abh l):=by
 simp only[Aba,jn_d,Abh];rw[Wd (β:=Unit) (γ:=Bool) l okXY (Pw l) () false ?_ ?_,Ad]
 .by_cases hk:l.all okXY=true
  .simp only[hk,if_true,Bool.and_true]
   by_cases h3:3<=l.length
   .rw[if_pos oo];congr 1;simp only[decide_eq_decide];omega
   .rw[if_neg oo];congr 1;symm;rw[decide_eq_false_iff_not];omega
  .simp[hk]
 .intro j hj;simp only[Pw,if_pos (show (j:Int)<(l.length:Int) by omega),Am hj,Ad,Aka,Au (show j<9223372036854775807 by omega)]
 .simp only[Pw,Int.lt_irrefl,if_false]
def Ag2(l:List Ab)(c:Ab):Bool×Int:=if Abh l=true then (if okXY c=true then (insB c (Avo l),0) else (false,11)) else (false,72)
theorem Amw{l:List Ab}(h:Abh l=true):3<=l.length/\l.length<=64/\∀p∈l,okXY p=true:=by
 simp only[Abh,Bool.and_eq_true,decide_eq_true_eq,all_eq_true] at h;exact⟨h.1.1,h.1.2,h.2⟩
theorem Aj0(l:List Ab)(c:Ab):Ij l c=some (Ag2 l c):=by
 simp only[Ij,Ak2,Ad,Za,Ag2]
 by_cases h:Abh l=true
 .obtain⟨h1,h2,h3⟩:=Amw h
  by_cases hc:okXY c=true
  .simp only[h,hc,if_true,Atk h3 oo oo hc,Ad]
  .simp[h,hc]
 .simp[h]
theorem sameInts_self{l:LI}(h:l.length<=1000000):Jq l l=some true:=by
 simp only[Jq,if_true,jn_d];rw[Wd (β:=Unit) (γ:=Bool) l (fun _=>true) (Ge l l) () false ?_ ?_,Ad]
 .simp
 .intro j hj;simp only[Ge,if_pos (show (j:Int)<(l.length:Int) by omega),Am hj,Ad,if_true,Au (show j<9223372036854775807 by omega)]
 .simp only[Ge,Int.lt_irrefl,if_false]
theorem many_eq(l:List Aa)(n:Int):Qg l n=some (decide (300<l.length\/n<(l.length:Int)/\validL l=true)):=by
 simp only[Qg,jn_d,rvalid_eq,Ad]
 by_cases h1:300<l.length
 .rw[if_pos oo];simp[h1]
 .rw[if_neg oo]
  by_cases h2:n<(l.length:Int)
  .rw[if_pos h2];simp[h1,h2]
  .rw[if_neg h2];simp[h1,h2]
def sqr:List Ab:=[⟨0,0⟩,⟨4,0⟩,⟨4,4⟩,⟨0,4⟩]
def pts3:List Aa:=[⟨1,0,0,⟨3,3⟩,0,1,1,0⟩,⟨2,5,5,⟨1,1⟩,0,1,1,0⟩,⟨3,12,0,⟨2,2⟩,0,1,1,0⟩]
def ter3:Af:=⟨10,0,0,1,0,0,0,0,0,1⟩
theorem first_eq:Kt=some true:=by
 have e1:Ag2 sqr ⟨4,2⟩=(true,0):=dD;have e2:Ag2 sqr ⟨5,2⟩=(false,0):=dD;have e3:seedL pts3 ter3=[2,3]:=by
  have:(bot (ceF ter3.Cell) (candL pts3 ter3)).map (·.Id)=[2,3]:=dD;unfold seedL;rw[this];exact (sort_unique s_ (List.Perm.refl _)).symm
 have e4:okRules ter3=true:=dD;have e5:validL pts3=true:=dD;have f1:Ij sqr ⟨4,2⟩=some (true,0):=by rw[Aj0,e1]
 have f2:Ij sqr ⟨5,2⟩=some (false,0):=by rw[Aj0,e2]
 have f3:Rm pts3 ter3=some ([2,3],0):=by rw[Aww,if_pos e4,if_pos e5,e3]
 unfold Kt;have g1:Ij ([(⟨0,0⟩:Ab),(⟨4,0⟩:Ab),(⟨4,4⟩:Ab),(⟨0,4⟩:Ab)]) (⟨4,2⟩:Ab)=some (true,0):=f1;have g2:Ij ([(⟨0,0⟩:Ab),(⟨4,0⟩:Ab),(⟨4,4⟩:Ab),(⟨0,4⟩:Ab)]) (⟨5,2⟩:Ab)=some (false,0):=f2;rw[g1,Ad,g2,Ad];show bnd (Rm pts3 ter3) _=_;rw[f3,Ad];rfl
end X
section
open Go.Sort
theorem w1{k n:Nat}(h:k<n)(hn:n<=1000000000):w64 ((k:Int)+1)=((k+1:Nat):Int):=by rw[Aq oo oo];omega
theorem has_eq{l:LI}(hl:l.length<=1000000)(n:Int):Es l n=some (decide (n∈l)):=by
 unfold Es;rw[jn_d];have:=Aw (B:=Rd l n) (fun s=>l.length-s.toNat) (fun s=>∃k:Nat,k<=l.length/\s=(k:Int)/\n∉l.take k) (fun t=>(t=.inl ()/\n∉l)\/(t=.inr true/\n∈l)) (fun s hs=>by
  obtain⟨k,hk,rfl,h⟩:=hs;unfold Rd
  by_cases hk2:k<l.length
  .rw[if_pos oo,Am hk2,Ad]
   by_cases c:l[k]=n
   .right;rw[if_pos c];exact⟨_,rfl,.inr ⟨rfl,c▸getElem_mem hk2⟩⟩
   .left;rw[if_neg c,w1 hk2 oo];refine⟨_,rfl,⟨k+1,hk2,rfl,fun g=>?_⟩,oo⟩;rw[take_succ_eq_append_getElem hk2,mem_append,mem_singleton] at g;rcases g with g|g
    .exact h g
    .exact c g.symm
  .right;rw[if_neg oo];have:k=l.length:=oo;subst this;rw[take_length] at h;exact⟨_,rfl,.inl ⟨rfl,h⟩⟩) 0 ⟨0,oo,rfl,s_⟩
 obtain⟨t,ht,g|g⟩:=this
 .obtain⟨rfl,g⟩:=g;rw[ht,Ad];simp[g]
 .obtain⟨rfl,g⟩:=g;rw[ht,Ad];simp[g]
def Zk(l:List Aa)(ids:LI):Prop:=ids.Nodup/\∀i∈ids,∃p∈l,p.Id=i
instance(l:List Aa)(ids:LI):Decidable (Zk l ids):=Classical.propDecidable _
def selL(l:List Aa)(ids:LI):List Aa:=l.filter fun p=>decide (p.Id∈ids)
def Su(l:List Aa)(ids:LI):List Aa:=Bi So (selL l ids)
variable {l:List Aa}{ids:LI}
theorem Abi(hl:X.Fit l):Aj8 l:=⟨hl.id,fun x hx=>by have:=X.okPt_rng (hl.ok x hx);omega⟩
theorem Atl{m:List Aa}(h:Aj8 l)(hm:∀x∈m,x∈l)(hn:(m.map (·.Id)).Nodup):Aj8 m:=⟨hn,fun x hx=>h.2 x (hm x hx)⟩
theorem Bct{out:List Aa}(hl:X.Fit l)(h1:out.map (·.Id)=ids)(h2:∀p∈out,p∈l)(hn:ids.Nodup):out.Perm (selL l ids):=by
 have hon:out.Nodup:=X.nodup_of_ids (by rw[h1];exact hn);refine (perm_ext_iff_of_nodup hon ((X.nodup_of_ids hl.id).filter _)).2 fun p=>?_
 rw[mem_filter,decide_eq_true_eq];constructor
 .intro hp;exact⟨h2 p hp,by rw[<-h1];exact mem_map_of_mem hp⟩
 .rintro⟨hp,hi⟩;rw[<-h1,mem_map] at hi;obtain⟨q,hq,e⟩:=hi;rw[<-Apt hl.id (h2 q hq) hp e];exact hq
theorem Amx{out:List Aa}(h:Aj8 out)(hp:out.Perm (selL l ids)):Bi So out=Su l ids :=
 Up (totP out) (fun x hx=>⟨hx,h⟩) hp
theorem Avq(hl:X.Fit l):∃m,lfix (Qf l) (([]:List (Int×Aa)),0)=some m/\Cv m/\∀x p,mget m x=some p↔p∈l/\p.Id=x:=by
 have hn:=hl.n;refine Aw (B:=Qf l) (fun s=>l.length-s.2.toNat) (fun s=>∃k:Nat,k<=l.length/\s.2=(k:Int)/\Cv s.1/\s.1.length<=k/\∀x p,mget s.1 x=some p↔p∈l.take k/\p.Id=x) _ (fun s hs=>?_) _ ⟨0,oo,rfl,List.Pairwise.nil,s_,fun x p=>by simp[Am9]⟩;obtain⟨m,j⟩:=s;obtain⟨k,hk,rfl,h1,h2,h3⟩:=hs;dsimp only at h1 h2 h3;unfold Qf;dsimp only
 by_cases hk2:k<l.length
 .left;have hr:=X.okPt_rng (hl.ok _ (getElem_mem hk2));rw[if_pos oo,Am hk2,Ad,gd_t oo,gd_t oo,w1 hk2 oo];refine⟨_,rfl,⟨k+1,hk2,rfl,h1.put _ _,?_,fun x p=>?_⟩,by dsimp only;omega⟩
  .dsimp only;unfold mput;have:(mdel m l[k].Id).length<=m.length:=length_filter_le _ _;rw[length_cons];omega
  .dsimp only;rw[Lx h1,take_succ_eq_append_getElem hk2,mem_append,mem_singleton]
   by_cases e:x=l[k].Id
   .rw[if_pos e];constructor
    .intro g;cases g
     exact⟨.inr rfl,e.symm⟩
    .rintro⟨g|g,g2⟩
     .rw[Apt hl.id (mem_of_mem_take g) (getElem_mem hk2) oo]
     .rw[g]
   .rw[if_neg e,h3];constructor
    .rintro⟨g,g2⟩;exact⟨.inl g,g2⟩
    .rintro⟨g|g,g2⟩
     .exact⟨g,g2⟩
     .rw[g] at g2;exact absurd g2.symm e
 .right;rw[if_neg oo];have:k=l.length:=oo;subst this;rw[take_length] at h3;exact⟨_,rfl,h1,h3⟩
theorem Avr(hl:X.Fit l)(hi:ids.length<=300){m:List (Int × Aa)}(hm:Cv m)(hg:∀ x p,mget m x=some p↔p∈l/\p.Id=x)(hr:∀ i∈ids,-9223372036854775808<=i/\i<=9223372036854775807):
  (∃out:List Aa,lfix (Mr ids) (m,([]:List Aa),0)=some (.inl out)/\out.map (·.Id)=ids/\(∀p∈out,p∈l)/\Zk l ids)\/(lfix (Mr ids) (m,([]:List Aa),0)=some (.inr ([],false))/\¬Zk l ids):=by
 have:=Aw (B:=Mr ids) (fun s=>ids.length-s.2.2.toNat)
  (fun s=>∃k:Nat,k<=ids.length/\s.2.2=(k:Int)/\Cv s.1/\s.2.1.map (·.Id)=ids.take k/\(∀p∈s.2.1,p∈l)/\(ids.take k).Nodup/\∀x p,mget s.1 x=some p↔p∈l/\p.Id=x/\x∉ids.take k)
  (fun t=>(∃out:List Aa,t=.inl out/\out.map (·.Id)=ids/\(∀p∈out,p∈l)/\Zk l ids)\/(t=.inr ([],false)/\¬Zk l ids)) (fun s hs=>by
  obtain⟨m,out,j⟩:=s;obtain⟨k,hk,rfl,h1,h2,h3,h4,h5⟩:=hs;dsimp only at h1 h2 h3 h5;unfold Mr;dsimp only
  by_cases hk2:k<ids.length
  .have ts:ids.take (k+1)=ids.take k++[ids[k]]:=take_succ_eq_append_getElem hk2;have hl2:out.length=k:=by have:=congrArg List.length h2;rw[length_map,length_take] at this;omega
   have hrk:=hr _ (getElem_mem hk2);rw[if_pos oo,Am hk2,Ad,gd_t hrk,Ad];rcases e:mget m ids[k] with _|p
   ·right;rw[if_neg s_];refine⟨_,rfl,.inr ⟨rfl,fun g=>?_⟩⟩;obtain⟨q,q1,q2⟩:=g.2 _ (getElem_mem hk2);have hno:ids[k] ∉ ids.take k:=fun hin=>by
     obtain⟨i,hi',e'⟩:=getElem_of_mem hin;rw[length_take] at hi';rw[getElem_take] at e';have:=pairwise_iff_getElem.1 g.1 i k oo hk2 oo;exact this e'
    have:=(h5 ids[k] q).2 ⟨q1,q2,hno⟩;rw[e] at this;cases this
   .left;obtain⟨p1,p2,p3⟩:=(h5 _ _).1 e;rw[if_pos s_,gd_t hrk,gd_t oo,w1 hk2 oo];refine⟨_,rfl,⟨k+1,hk2,rfl,h1.del _,?_,fun q hq=>?_,?_,fun x q=>?_⟩,by dsimp only;omega⟩
    .dsimp only;rw[map_append,h2,ts];simp[p2]
    .dsimp only at hq;rcases mem_append.1 hq with hq|hq
     .exact h3 q hq
     .rw[mem_singleton] at hq;subst hq;exact p1
    .rw[ts,nodup_append];refine⟨h4,s_,fun a ha b hb e=>?_⟩;rw[mem_singleton] at hb;subst hb;subst e;exact p3 ha
    .dsimp only;rw[Wj h1,ts,mem_append,mem_singleton]
     by_cases c:x=ids[k]
     .rw[if_pos c];exact⟨fun g=>(by cases g),fun g=>absurd (.inr c) g.2.2⟩
     .rw[if_neg c,h5];exact⟨fun g=>⟨g.1,g.2.1,fun h=>h.elim g.2.2 c⟩,fun g=>⟨g.1,g.2.1,fun h=>g.2.2 (.inl h)⟩⟩
  .right;rw[if_neg oo];have:k=ids.length:=oo;subst this;rw[take_length] at h2 h4;refine⟨_,rfl,.inl ⟨out,rfl,h2,h3,h4,fun i hi=>?_⟩⟩;rw[<-h2,mem_map] at hi;obtain⟨p,hp,e⟩:=hi;exact⟨p,h3 p hp,e⟩) (m,[],0) ⟨0,oo,rfl,hm,s_,fun p hp=>(by cases hp),s_,fun x p=>by rw[hg];simp⟩
 obtain⟨t,ht,⟨out,rfl,g⟩|⟨rfl,g⟩⟩:=this
 .exact .inl ⟨out,ht,g⟩
 .exact .inr ⟨ht,g⟩
theorem Zl(hl:X.Fit l)(hi:ids.length<=300)(hr:∀i∈ids,-9223372036854775808<=i/\i<=9223372036854775807):Uv l ids=some (if Zk l ids then (Su l ids,true) else ([],false)):=by
 obtain⟨m,h1,h2,h3⟩:=Avq hl;unfold Uv;rw[jn_d,h1,Ad];dsimp only;rw[gd_t oo,jn_d];rcases Avr hl hi h2 h3 hr with⟨out,g1,g2,g3,g4⟩|⟨g1,g2⟩
 .rw[g1,Ad];dsimp only;have ho:Aj8 out:=Atl (Abi hl) g3 (by rw[g2];exact g4.1);have hlen:out.length=ids.length:=by rw[<-g2,length_map]
  rw[gd_t ⟨oo,fun x hx=>⟨hx,ho⟩⟩,Amx ho (Bct hl g2 g3 g4.1),if_pos g4]
 .rw[g1,Ad];dsimp only;rw[if_neg g2]
theorem Avs(hi:ids.length<=300):(lfix (Hq ids) 0=some (.inl ())/\ids.Nodup)\/(lfix (Hq ids) 0=some (.inr ([],false))/\¬ids.Nodup):=by
 have:=Aw (B:=Hq ids) (fun s=>ids.length-s.toNat) (fun s=>∃k:Nat,k<=ids.length/\s=(k:Int)/\(ids.take k).Nodup) (fun t=>(t=.inl ()/\ids.Nodup)\/(t=.inr ([],false)/\¬ids.Nodup)) (fun s hs=>by
  obtain⟨k,hk,rfl,h⟩:=hs;unfold Hq
  by_cases hk2:k<ids.length
  .have ts:ids.take (k+1)=ids.take k++[ids[k]]:=take_succ_eq_append_getElem hk2;have hsub:subl ids 0 (k:Int)=ids.take k:=by unfold subl;simp
   rw[if_pos oo,gd_t ⟨oo,oo⟩,Am hk2,Ad,hsub,has_eq (by rw[length_take];omega),Ad]
   by_cases c:ids[k]∈ids.take k
   .right;rw[if_pos (by simpa using c)];refine⟨_,rfl,.inr ⟨rfl,fun g=>?_⟩⟩;have h2:(ids.take (k+1)).Nodup:=g.sublist (take_sublist _ _);rw[ts,nodup_append] at h2;exact h2.2.2 _ c _ (mem_singleton.2 rfl) rfl
   .left;rw[if_neg (by simpa using c),w1 hk2 oo];refine⟨_,rfl,⟨k+1,hk2,rfl,?_⟩,oo⟩;rw[ts,nodup_append];refine⟨h,s_,fun a ha b hb e=>?_⟩;rw[mem_singleton] at hb;subst hb;subst e;exact c ha
  .right;rw[if_neg oo];have:k=ids.length:=oo;subst this;rw[take_length] at h;exact⟨_,rfl,.inl ⟨rfl,h⟩⟩) 0 ⟨0,oo,rfl,s_⟩
 obtain⟨t,ht,⟨rfl,g⟩|⟨rfl,g⟩⟩:=this
 .exact .inl ⟨ht,g⟩
 .exact .inr ⟨ht,g⟩
theorem Avt(hl:X.Fit l)(hi:ids.length<=300):lfix (Le l ids) (([]:List Aa),0)=some (selL l ids):=by
 have hn:=hl.n;refine X.lfix_filter l (fun p=>decide (p.Id∈ids)) _ (fun j hj s hs=>?_) (fun s=>?_)
 .unfold Le;dsimp only;rw[if_pos oo,jn_d,Am hj,Ad,has_eq oo,Ad,Ad,w1 hj oo]
  by_cases c:l[j].Id∈ids
  .rw[if_pos (by simpa using c),if_pos (by simpa using c),gd_t oo]
  .rw[if_neg (by simpa using c),if_neg (by simpa using c)]
 .unfold Le;dsimp only;rw[if_neg oo]
theorem Adf{L:List Aa}(hL:X.Fit L):Gd L=some (Bi So L):=by
 have hn:=hL.n;have ho:=Abi hL;unfold Gd;rw[X.rids_eq hn,Ad,jn_d];generalize hr:Co (L.map (·.Id))=r;have hrp:r.Perm (L.map (·.Id)):=by rw[<-hr];exact X.perm_sortI _
 have hrl:r.length=L.length:=by rw[hrp.length_eq,length_map]
 have hrn:r.Nodup:=hrp.nodup_iff.2 hL.id;have hrs:r.Pairwise (· < ·):=by
  have h1:r.Pairwise (·<=·):=by rw[<-hr];exact X.sorted_sortI _
  exact (pairwise_and_iff.2 ⟨h1,hrn⟩).imp fun h=>oo
 have inner:∀(i:Nat) (hi:i<r.length) (acc:List Aa),acc.length<=1024*i->lfix (Is L r (acc,(i:Int))) (acc,0)=some (acc++L.filter fun p=>decide (p.Id=r[i])):=fun i hi acc ha=>by
  have:=Aw (B:=Is L r (acc,(i:Int))) (fun s=>L.length-s.2.toNat) (fun s=>∃k:Nat,k<=L.length/\s=(acc++(L.take k).filter (fun p=>decide (p.Id=r[i])),(k:Int))) (fun t=>t=acc++L.filter fun p=>decide (p.Id=r[i])) (fun s hs=>by
   obtain⟨k,hk,rfl⟩:=hs;unfold Is;dsimp only
   by_cases hk2:k<L.length
   .left;have ts:L.take (k+1)=L.take k++[L[k]]:=take_succ_eq_append_getElem hk2;have hf:=length_filter_le (fun p:Aa=>decide (p.Id=r[i])) (L.take k);rw[length_take] at hf;have hi4:i<1024:=oo;rw[if_pos oo,jn_d,Am hk2,Ad,Am hi,Ad,Ad,w1 hk2 oo]
    by_cases c:L[k].Id=r[i]
    .rw[if_pos c,gd_t (by rw[length_append];omega)];exact⟨_,rfl,⟨k+1,hk2,by rw[ts,filter_append];simp[c]⟩,by dsimp only;omega⟩
    .rw[if_neg c];exact⟨_,rfl,⟨k+1,hk2,by rw[ts,filter_append];simp[c]⟩,by dsimp only;omega⟩
   .right;rw[if_neg oo];have:k=L.length:=oo;subst this;exact⟨_,rfl,by rw[take_length]⟩) (acc,0) ⟨0,oo,s_⟩
  obtain⟨t,ht,rfl⟩:=this;exact ht
 have outer:=Aw (B:=Nk r L) (fun s=>r.length-s.2.toNat) (fun s=>∃k:Nat,k<=r.length/\s=((r.take k).flatMap (fun i=>L.filter fun p=>decide (p.Id=i)),(k:Int))/\s.1.length<=1024*k) (fun t=>t=r.flatMap fun i=>L.filter fun p=>decide (p.Id=i)) (fun s hs=>by
  obtain⟨k,hk,rfl,hb⟩:=hs;dsimp only at hb;unfold Nk;dsimp only
  by_cases hk2:k<r.length
  .left;have ts:r.take (k+1)=r.take k++[r[k]]:=take_succ_eq_append_getElem hk2;rw[if_pos oo,jn_d,inner k hk2 _ hb,Ad,w1 hk2 oo];refine⟨_,rfl,⟨k+1,hk2,by rw[ts,flatMap_append];simp,?_⟩,by dsimp only;omega⟩;dsimp only;have hf:=length_filter_le (fun p:Aa=>decide (p.Id=r[k])) L;rw[length_append];omega
  .right;rw[if_neg oo];have:k=r.length:=oo;subst this;exact⟨_,rfl,by rw[take_length]⟩) (([]:List Aa),0) ⟨0,oo,s_,s_⟩
 obtain⟨t,ht,rfl⟩:=outer;rw[ht,Ad];congr 1;have hpw:(r.flatMap fun i=>L.filter fun p=>decide (p.Id=i)).Pairwise fun x y=>x.Id<y.Id:=by
  rw[pairwise_flatMap];refine⟨fun i _=>?_,hrs.imp fun {a b} hab x hx y hy=>?_⟩
  .refine List.Pairwise.imp_of_mem ?_ ((pairwise_map.1 hL.id).filter _);intro a b ha hb hne;rw[mem_filter,decide_eq_true_eq] at ha hb;exact absurd (ha.2.trans hb.2.symm) hne
  .rw[mem_filter,decide_eq_true_eq] at hx hy;omega
 have hmem:∀p,p∈(r.flatMap fun i=>L.filter fun p=>decide (p.Id=i))↔p∈L:=fun p=>by
  rw[mem_flatMap];constructor
  .rintro⟨i,_,hp⟩;exact (mem_filter.1 hp).1
  .intro hp;exact⟨p.Id,hrp.mem_iff.2 (mem_map_of_mem hp),mem_filter.2 ⟨hp,s_⟩⟩
 have hnd:(r.flatMap fun i=>L.filter fun p=>decide (p.Id=i)).Nodup:=hpw.imp fun h e=>by rw[e] at h;omega
 refine Acd (totP L) (fun x hx=>⟨(hmem x).1 hx,ho⟩) (hpw.imp fun h=>by unfold So;omega) (Nw (totP L) fun x hx=>⟨hx,ho⟩) ?_;exact ((perm_ext_iff_of_nodup hnd (X.nodup_of_ids hL.id)).2 hmem).trans (Ej _ _).symm
theorem Fit.sel(hl:X.Fit l):X.Fit (selL l ids):=hl.filter _
theorem Are(hl:X.Fit l)(hi:ids.length<=300):Ms l ids=some (if Zk l ids then (Su l ids,true) else ([],false)):=by
 unfold Ms;rw[jn_d];have hsn:=(Fit.sel (ids:=ids) hl).id;have hsub:∀i∈(selL l ids).map (·.Id),i∈ids:=fun i hi=>by
  obtain⟨p,hp,rfl⟩:=mem_map.1 hi;exact of_decide_eq_true (mem_filter.1 hp).2
 rcases Avs hi with⟨g1,g2⟩|⟨g1,g2⟩
 ·rw[g1,Ad];dsimp only;rw[jn_d,Avt hl hi,Ad];dsimp only;have key:((((selL l ids).length:Nat):Int))=(ids.length:Int)↔Zk l ids:=by
   have h1:=Bm hsn hsub;rw[length_map] at h1;constructor
   .intro e;refine⟨g2,fun i hi'=>?_⟩;refine Classical.byContradiction fun hno=>?_
    have hni:i∉(selL l ids).map (·.Id):=fun h=>by
     obtain⟨p,hp,e2⟩:=mem_map.1 h;exact hno ⟨p,(mem_filter.1 hp).1,e2⟩
    have:=Bm (l:=i::(selL l ids).map (·.Id)) (m:=ids) (nodup_cons.2 ⟨hni,hsn⟩) (fun x hx=>by rcases mem_cons.1 hx with rfl|hx;exact hi';exact hsub x hx);rw[length_cons,length_map] at this;omega
   ·intro ho;have:=Bm (l:=ids) (m:=(selL l ids).map (·.Id)) g2 (fun i hi'=>by
     obtain⟨p,hp,rfl⟩:=ho.2 i hi';exact mem_map_of_mem (mem_filter.2 ⟨hp,by simpa using hi'⟩))
    rw[length_map] at this;omega
  by_cases c:Zk l ids
  .rw[if_pos (key.2 c),Adf (Fit.sel hl),Ad,if_pos c];rfl
  .rw[if_neg (fun h=>c (key.1 h)),if_neg c]
 .rw[g1,Ad];dsimp only;rw[if_neg (fun h=>g2 h.1)]
def vxL(L:List Aa):List Ae:=L.map fun p=>⟨p.X,p.Y,p.Z⟩
theorem Ahr{L:List Aa}(hn:L.length<=1024):lfix (Rq L) (([]:List Ae),0)=some (vxL L):=by
 have:=Aw (B:=Rq L) (fun s=>L.length-s.2.toNat) (fun s=>∃k:Nat,k<=L.length/\s=(vxL (L.take k),(k:Int))) (fun t=>t=vxL L) (fun s hs=>by
  obtain⟨k,hk,rfl⟩:=hs;unfold Rq;dsimp only
  by_cases hk2:k<L.length
  .left;rw[if_pos oo,Am hk2,Ad,gd_t (by unfold vxL;rw[length_map,length_take];omega),w1 hk2 oo];exact⟨_,rfl,⟨k+1,hk2,by unfold vxL;rw[take_succ_eq_append_getElem hk2,map_append];rfl⟩,by dsimp only;omega⟩
  .right;rw[if_neg oo];have:k=L.length:=oo;subst this;exact⟨_,rfl,by rw[take_length]⟩) (([]:List Ae),0) ⟨0,oo,rfl⟩
 obtain⟨t,ht,rfl⟩:=this;exact ht
def Hc(L:List Aa):Prop:=L.Pairwise fun p q=>¬(p.X=q.X/\p.Y=q.Y)
theorem Afc{L:List Aa}(hL:X.Fit L):Vs (vxL L)=0/\Hc L\/Vs (vxL L)=61/\¬Hc L:=by
 have hn:=hL.n;have h1:¬1024<(vxL L).length:=by unfold vxL;rw[length_map];omega
 have h2:∀x∈vxL L,Mc x:=fun x hx=>by
  unfold vxL at hx;obtain⟨p,hp,rfl⟩:=mem_map.1 hx;have:=X.okPt_rng (hL.ok p hp);unfold Mc okP pP;dsimp only;omega
 have h3:Eo (vxL L)↔Hc L:=by
  unfold Eo Hc vxL;rw[pairwise_map];exact Iff.rfl
 unfold Vs;rw[if_neg h1,if_neg (fun h=>h h2)]
 by_cases c:Hc L
 .rw[if_neg (fun h=>h (h3.2 c))];exact .inl ⟨rfl,c⟩
 .rw[if_pos (fun h=>c (h3.1 h))];exact .inr ⟨rfl,c⟩
theorem Ahs{L:List Aa}(hL:X.Fit L):(lfix (Ht L) (([]:List Ae),0)=some (.inl (vxL L))/\Hc L)\/(lfix (Ht L) (([]:List Ae),0)=some (.inr (⟨[],[],[]⟩,11))/\¬Hc L):=by
 have hn:=hL.n;have inner:∀ (i:Nat) (hi:i<L.length) (acc:List Ae),(lfix (Hr (acc,(i:Int)) L L[i] L[i] L[i]) 0=some (.inl (acc++[(⟨L[i].X,L[i].Y,L[i].Z⟩:Ae)]))/\∀ q∈L.take i,¬ (q.X=L[i].X/\q.Y=L[i].Y)) \/
   (lfix (Hr (acc,(i:Int)) L L[i] L[i] L[i]) 0=some (.inr (⟨[],[],[]⟩,11))/\∃q∈L.take i,q.X=L[i].X/\q.Y=L[i].Y):=fun i hi acc=>by
  have:=Aw (B:=Hr (acc,(i:Int)) L L[i] L[i] L[i]) (fun s=>i-s.toNat) (fun s=>∃k:Nat,k<=i/\s=(k:Int)/\∀q∈L.take k,¬(q.X=L[i].X/\q.Y=L[i].Y))
   (fun t=>(t=.inl (acc++[(⟨L[i].X,L[i].Y,L[i].Z⟩:Ae)])/\∀q∈L.take i,¬(q.X=L[i].X/\q.Y=L[i].Y))\/(t=.inr (⟨[],[],[]⟩,11)/\∃q∈L.take i,q.X=L[i].X/\q.Y=L[i].Y)) (fun s hs=>by
   obtain⟨k,hk,rfl,h⟩:=hs;unfold Hr;dsimp only
   by_cases hk2:k<i
   ·have hkl:k<L.length:=oo;rw[if_pos oo,Am hkl,Ad,Am hi,Ad,X.apart_eq (hL.ok _ (getElem_mem hkl)) (hL.ok _ (getElem_mem hi)),Ad];have hz:=@X.sq_zero L[k] L[i];have hmem:L[k]∈L.take i:=by
     rw[mem_take_iff_getElem];exact⟨k,oo,rfl⟩
    by_cases c:X.sq L[k] L[i]=0
    .right;rw[if_pos c];exact⟨_,rfl,.inr ⟨rfl,L[k],hmem,hz.1 oo⟩⟩
    .left;rw[if_neg c,w1 hk2 oo];refine⟨_,rfl,⟨k+1,hk2,rfl,fun q hq=>?_⟩,oo⟩;rw[take_succ_eq_append_getElem hkl,mem_append,mem_singleton] at hq;rcases hq with hq|rfl
     .exact h q hq
     .intro g;have h0:0<=X.sq L[k] L[i]:=by unfold X.sq;rw[<-Int.natAbs_mul_self,<-Int.natAbs_mul_self (a:=L[k].Y-L[i].Y)];omega
      have:=hz.2 g;omega
   .right;rw[if_neg oo];have:k=i:=oo;subst this;exact⟨.inl (acc++[⟨L[k].X,L[k].Y,L[k].Z⟩]),rfl,.inl ⟨rfl,h⟩⟩) 0 ⟨0,oo,rfl,s_⟩
  obtain⟨t,ht,⟨rfl,g⟩|⟨rfl,g⟩⟩:=this
  .exact .inl ⟨ht,g⟩
  .exact .inr ⟨ht,g⟩
 have:=Aw (B:=Ht L) (fun s=>L.length-s.2.toNat) (fun s=>∃k:Nat,k<=L.length/\s=(vxL (L.take k),(k:Int))/\Hc (L.take k))
  (fun t=>(t=.inl (vxL L)/\Hc L)\/(t=.inr (⟨[],[],[]⟩,11)/\¬Hc L)) (fun s hs=>by
  obtain⟨k,hk,rfl,h⟩:=hs;unfold Ht;dsimp only
  by_cases hk2:k<L.length
  .have ts:L.take (k+1)=L.take k++[L[k]]:=take_succ_eq_append_getElem hk2;rw[if_pos oo,jn_d,Am hk2,Ad,Ad,Ad,gd_t (by unfold vxL;rw[length_map,length_take];omega)];rcases inner k hk2 (vxL (L.take k)) with⟨g1,g2⟩|⟨g1,q,q1,q2⟩
   .left;rw[g1,Ad];dsimp only;rw[w1 hk2 oo];refine⟨_,rfl,⟨k+1,hk2,by unfold vxL;rw[ts,map_append];rfl,?_⟩,by dsimp only;omega⟩;unfold Hc at h⊢;rw[ts,pairwise_append];refine⟨h,s_,fun x hx y hy=>?_⟩;rw[mem_singleton] at hy;subst hy;exact g2 x hx
   .right;rw[g1,Ad];refine⟨_,rfl,.inr ⟨rfl,fun g=>?_⟩⟩;have g':Hc (L.take (k+1)):=List.Pairwise.sublist (take_sublist _ _) g;unfold Hc at g';rw[ts,pairwise_append] at g';exact g'.2.2 q q1 _ (mem_singleton.2 rfl) q2
  .right;rw[if_neg oo];have:k=L.length:=oo;subst this;rw[take_length] at h;exact⟨_,rfl,.inl ⟨by rw[take_length],h⟩⟩) (([]:List Ae),0) ⟨0,oo,rfl,by simp[Hc]⟩
 obtain⟨t,ht,⟨rfl,g⟩|⟨rfl,g⟩⟩:=this
 .exact .inl ⟨ht,g⟩
 .exact .inr ⟨ht,g⟩
theorem Aht{L:List Aa}(hL:X.Fit L):∃r:Ak×Int,Nh L=some r/\Fb L=some r/\((r.2=0/\Hc L/\r.1.V=vxL L/\r.1.Lines=[]/\Vh (vxL L) r.1.T)\/(r=(⟨[],[],[]⟩,11)/\¬Hc L)):=by
 have hn:=hL.n;unfold Nh Fb;rw[gd_t oo,jn_d,jn_d,Ahr hn,Ad];dsimp only;rcases Afc hL with⟨e,ha⟩|⟨e,ha⟩
 .obtain⟨T,t1,t2,t3⟩:=Aej e;rcases Ahs hL with⟨g1,_⟩|⟨_,g2⟩
  .rw[g1,t2,Ad,Ad];dsimp only;rw[if_pos rfl,t1,Ad];exact⟨_,rfl,rfl,.inl ⟨rfl,ha,rfl,rfl,t3⟩⟩
  .exact absurd ha g2
 .rcases Ahs hL with⟨_,g2⟩|⟨g1,_⟩
  .exact absurd g2 ha
  .rw[g1,Aj7 [] oo,Ad,Ad];dsimp only;rw[if_neg oo];exact⟨_,rfl,rfl,.inr ⟨rfl,ha⟩⟩
end
end
end Go.Proofs.YthlkpgdfifnagaaGreat
