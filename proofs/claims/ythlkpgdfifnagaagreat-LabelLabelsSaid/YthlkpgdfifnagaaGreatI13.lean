import Derived.Test.YthlkpgdfifnagaaGreatI12
set_option maxRecDepth 100000
set_option maxHeartbeats 1000000
namespace Go.Proofs.YthlkpgdfifnagaaGreat
open Go Go.RowKit Tryz
noncomputable section
theorem wuM(n:Nat):wu64 (n:Int)=((n%18446744073709551616:Nat):Int):=by rw[Xe];omega
theorem shrN(n j:Nat)(h:j<=64):shr_ .u64 (n:Int) (j:Int)=((n/2^j:Nat):Int):=by
 unfold shr_;have e:min ((j:Int)).toNat IntKind.u64.bits=j:=by
  have:IntKind.u64.bits=64:=rfl;rw[this];omega
 rw[e,Int.fdiv_eq_ediv_of_nonneg _ (by exact_mod_cast Nat.zero_le (2^j))];norm_cast
theorem shlN(n j:Nat)(h:j<=64):shl_ .u64 (n:Int) (j:Int)=((n*2^j%18446744073709551616:Nat):Int):=by
 unfold shl_;have e:min ((j:Int)).toNat IntKind.u64.bits=j:=by
  have:IntKind.u64.bits=64:=rfl;rw[this];omega
 have c:(n:Int)*2^j=((n*2^j:Nat):Int):=by norm_cast
 rw[e,IntKind.wrap_u64,c];generalize n*2^j=m;omega
theorem Aet(n:Nat):shr_ .u64 (n:Int) 32=((n/4294967296:Nat):Int):=shrN n 32 oo
theorem andN(n:Nat):Df .u64 (n:Int) 4294967295=((n%4294967296:Nat):Int):=by
 unfold Df;have e:(BitVec.ofInt IntKind.u64.bits (n:Int) &&& BitVec.ofInt IntKind.u64.bits 4294967295).toNat=n%4294967296:=by
  show (BitVec.ofInt 64 (n:Int) &&& BitVec.ofInt 64 4294967295).toNat=_;rw[BitVec.toNat_and];have e1:(BitVec.ofInt 64 (n:Int)).toNat=n%2^64:=by simp[BitVec.toNat_ofInt]
  have e2:(BitVec.ofInt 64 (4294967295:Int)).toNat=2^32-1:=dD;rw[e1,e2,Nat.and_two_pow_sub_one_eq_mod];omega
 rw[e,IntKind.wrap_u64];omega
theorem Arn(a1 a0 b1 b0:Nat)(h1:a1<4294967296)(h2:a0<4294967296)(h3:b1<4294967296)(h4:b0<4294967296):
  a1*b1<=18446744065119617025/\a1*b0<=18446744065119617025/\a0*b1<=18446744065119617025/\a0*b0<=18446744065119617025:=by
 have k:∀x y:Nat,x<4294967296->y<4294967296->x*y<=18446744065119617025:=fun x y hx hy=>
  Nat.le_trans (Nat.mul_le_mul (Nat.le_of_lt_succ hx) (Nat.le_of_lt_succ hy)) dD
 exact⟨k _ _ h1 h3,k _ _ h1 h4,k _ _ h2 h3,k _ _ h2 h4⟩
theorem Azk{a b:Nat}(ha:a<18446744073709551616)(hb:b<18446744073709551616):
  Hj (a:Int) (b:Int)=some (((a*b/18446744073709551616:Nat):Int),((a*b%18446744073709551616:Nat):Int)):=by
 unfold Hj;have e2:(a:Int)*(b:Int)=((a*b:Nat):Int):=by norm_cast
 simp only[Aet,andN,e2,wuM];have hm:=Arn (a/4294967296) (a%4294967296) (b/4294967296) (b%4294967296) oo oo oo oo;have e:a*b=a/4294967296*(b/4294967296)*18446744073709551616+(a/4294967296*(b%4294967296)+a%4294967296*(b/4294967296))*4294967296+a%4294967296*(b%4294967296):=by
  have x1:a=a/4294967296*4294967296+a%4294967296:=oo;have x2:b=b/4294967296*4294967296+b%4294967296:=oo;generalize a/4294967296=p at *;generalize a%4294967296=q at *;generalize b/4294967296=r at *;generalize b%4294967296=s at *;subst x1;subst x2;grind
 have c1:∀x y:Nat,(x:Int)*(y:Int)=((x*y:Nat):Int):=fun x y=>by norm_cast
 have c2:∀x y:Nat,(x:Int)+(y:Int)=((x+y:Nat):Int):=fun x y=>by norm_cast
 simp only[c1,c2,wuM,Aet,andN];rw[e];clear e e2 c1 c2;generalize a/4294967296*(b/4294967296)=p at *;generalize a/4294967296*(b%4294967296)=q at *;generalize a%4294967296*(b/4294967296)=r at *;generalize a%4294967296*(b%4294967296)=s at *;obtain⟨m1,m2,m3,m4⟩:=hm;congr 3;omega
theorem Azl{g q s:Nat}(hg:g<4294967296)(hs:s<4294967296)(hq:q<18446744073709551616):
  Tm (g:Int) (q:Int) (s:Int)=some (decide (g*g*1000000<=s*s*q)):=by
 have m1:g*g<18446744073709551616:=by
  have:=Nat.mul_le_mul (show g<=4294967295 by omega) (show g<=4294967295 by omega);omega
 have m2:s*s<18446744073709551616:=by
  have:=Nat.mul_le_mul (show s<=4294967295 by omega) (show s<=4294967295 by omega);omega
 have c1:∀x y:Nat,(x:Int)*(y:Int)=((x*y:Nat):Int):=fun x y=>by norm_cast
 unfold Tm;rw[Re oo,Re oo,Re oo,c1,c1,Re oo,Re oo];rw[show (1000000:Int)=((1000000:Nat):Int) by omega,Azk m1 (show 1000000<18446744073709551616 by omega),Ac,Azk m2 hq,Ac];clear c1;generalize g*g*1000000=a;generalize s*s*q=b;simp only[jn_d]
 by_cases h:a/18446744073709551616<b/18446744073709551616
 .rw[if_pos oo];have:a<=b:=oo;simp[this]
 .rw[if_neg oo]
  by_cases h2:a/18446744073709551616=b/18446744073709551616
  .rw[if_pos oo];have:(((a%18446744073709551616:Nat):Int)<=((b%18446744073709551616:Nat):Int))↔a<=b:=oo;simp only[this]
  .rw[if_neg oo];have:¬a<=b:=oo;simp[this]
def W2(n:Nat):Gn:=⟨((n/18446744073709551616:Nat):Int),((n%18446744073709551616:Nat):Int)⟩
theorem Agq{n a b:Nat}(ha:a<18446744073709551616)(hb:b<18446744073709551616)(h:n+a*b<340282366920938463463374607431768211456):
  En (W2 n) (a:Int) (b:Int)=some (W2 (n+a*b)):=by
 unfold En;rw[Re oo,Re oo,Azk ha hb,Ac];generalize a*b=m at *;have e1:(W2 n).lo=((n%18446744073709551616:Nat):Int):=rfl;have e2:(W2 n).hi=((n/18446744073709551616:Nat):Int):=rfl;rw[gd_t (by rw[e1];omega),gd_t (by rw[e1,e2];dsimp only;omega),e1,e2];unfold W2;congr 2 <;> omega
theorem Alt{σ:Type}{f:σ->Option (Sum σ Int)}(enc:Nat->Nat->σ){B v1 v0 U u1:Nat}(h1:v1<B)(h3:v0<B)(hU:U<v1*B+v0)(hu:u1<B)(h0:0<v1)(hf:∀ q r:Nat,q*v1<=U->r<B->f (enc q r)=if B<=q\/B*r+u1<q*v0 then (if B<=r+v1 then some (.inr ((q-1:Nat):Int)) else some (.inl (enc (q-1) (r+v1)))) else some (.inr (q:Int))):
  lfix f (enc (U/v1) (U%v1))=some (((U*B+u1)/(v1*B+v0):Nat):Int):=by
 have hV:0<v1*B+v0:=by
  have:=Nat.mul_pos h0 (oo:0<B);omega
 have hQ:(U*B+u1)/(v1*B+v0)<B:=by
  rw[Nat.div_lt_iff_lt_mul hV];have:(U+1)*B<=(v1*B+v0)*B:=Nat.mul_le_mul_right _ hU;rw[Nat.add_mul,Nat.one_mul] at this;rw[Nat.mul_comm B];omega
 generalize hq:(U*B+u1)/(v1*B+v0)=Q at hQ⊢;have hle:∀q,q<=Q↔q*(v1*B+v0)<=U*B+u1:=fun q=>by rw[<-hq,Nat.le_div_iff_mul_le hV]
 have key:∀q r:Nat,q*v1+r=U->r<B->Q<=q->lfix f (enc q r)=some (Q:Int):=by
  intro q
  induction q with
  |zero=>
   intro r e hr hq0;rw[Ay,hf 0 r oo hr,iN oo];simp;omega
  |succ q ih=>
   intro r e hr hq1;have ex:(q+1)*(v1*B+v0)+r*B=U*B+(q+1)*v0:=by rw[<-e];grind
   have e':q*v1+(r+v1)=U:=by rw[<-e];grind
   rw[Ay,hf (q+1) r oo hr]
   by_cases hc:B<=q+1\/B*r+u1<(q+1)*v0
   ·have hq2:Q<=q:=by
     rcases hc with hc|hc
     .omega
     ·have:¬ (q+1)<=Q:=by
       rw[hle];rw[Nat.mul_comm B r] at hc;omega
      omega
    rw[iP hc]
    by_cases hd:B<=r+v1
    ·rw[if_pos hd];have hqB:q<B:=by
      apply Classical.byContradiction;intro hn;have:B*v1<=q*v1:=Nat.mul_le_mul_right _ oo;rw[Nat.mul_comm B v1] at this;omega
     have:q<=Q:=by
      rw[hle];have ey:q*(v1*B+v0)+(r+v1)*B=U*B+q*v0:=by rw[<-e'];grind
      have x1:q*v0<=B*B:=Nat.mul_le_mul oo oo;have x2:B*B<=(r+v1)*B:=Nat.mul_le_mul_right _ hd;omega
     have:q=Q:=oo;subst this;simp
    .rw[iN hd];exact ih (r+v1) e' oo hq2
   ·rw[if_neg hc];have:q+1<=Q:=by
     rw[hle];rw[Nat.mul_comm B r] at hc;omega
    have:q+1=Q:=oo;subst this;rfl
 have:=Nat.div_add_mod U v1;refine key _ _ (by rw[Nat.mul_comm];exact this) (Nat.lt_trans (Nat.mod_lt _ h0) h1) ?_;rw[<-hq];rw[Nat.le_div_iff_mul_le h0];have a:=Nat.div_mul_le_self (U*B+u1) (v1*B+v0);generalize (U*B+u1)/(v1*B+v0)=q at *;have b:q*v1*B<=U*B+u1:=by
  have:q*(v1*B+v0)=q*v1*B+q*v0:=by grind
  omega
 have c:q*v1*B<(U+1)*B:=by rw[Nat.add_mul,Nat.one_mul];omega
 have:=Nat.lt_of_mul_lt_mul_right c;omega
def LenP(y:Nat)(o:Option Int):Prop:=∃t:Nat,1<=t/\t<=64/\2^(t-1)<=y/\y<2^t/\o=some (t:Int)
theorem Bca:∀x:Fin 256,0<x.val->∃t:Fin 9,Ox[x.val]? = some (t.val:Int)/\1<=t.val/\2^(t.val-1)<=x.val/\x.val<2^t.val:=by decide +kernel
theorem Bcb{x:Nat}(h0:0<x)(h:x<256):∃t:Nat,t<=8/\idx Ox (wu8 (x:Int))=some (t:Int)/\1<=t/\2^(t-1)<=x/\x<2^t:=by
 obtain⟨t,e,h1,h2,h3⟩:=Bca ⟨x,h⟩ h0;refine⟨t.val,oo,?_,h1,h2,h3⟩;have e8:wu8 (x:Int)=(x:Int):=by
  unfold wu8;rw[IntKind.wrap_u8];omega
 rw[e8];unfold idx;rw[iP oo];simpa using e
theorem Atq{x n y:Nat}(hx:x=y/2^n)(h0:0<x)(h:x<256)(hn:n<=56):LenP y (bnd (idx Ox (wu8 (x:Int))) fun x16=>some (w64 ((n:Int)+(w64 x16)))):=by
 obtain⟨t,h8,e,h1,h2,h3⟩:=Bcb h0 h;rw[e,Ac];have hp:0<2^n:=Nat.two_pow_pos n;refine⟨n+t,oo,oo,?_,?_,?_⟩
 .rw[hx,Nat.le_div_iff_mul_le hp,<-Nat.pow_add] at h2;rw[show n+t-1=t-1+n by omega];exact h2
 .rw[hx,Nat.div_lt_iff_lt_mul hp,<-Nat.pow_add] at h3;rw[Nat.add_comm];exact h3
 .rw[Si oo,Aq oo oo];norm_cast
theorem Bd6{x n y:Nat}(hx:x=y / 2 ^ n)(h0:0<x)(h:x<65536)(hn:n<=48):
  LenP y (jn (fun (s8:Int×Int)=>bnd (idx Ox (wu8 s8.1)) fun x16=>some (w64 (s8.2+(w64 x16)))) (fun j8=>if 256<=(x:Int) then (j8 (shr_ .u64 (x:Int) 8,w64 ((n:Int)+8))) else (j8 ((x:Int),(n:Int))))):=by
 rw[jn_d]
 by_cases c:256<=(x:Int)
 .rw[iP c];have e:w64 ((n:Int)+8)=((n+8:Nat):Int):=by rw[Aq oo oo];norm_cast
  rw[show shr_ .u64 (x:Int) 8=((x/2^8:Nat):Int) from shrN x 8 oo,e];exact Atq (by rw[hx,Nat.div_div_eq_div_mul,<-Nat.pow_add]) oo oo oo
 .rw[iN c];exact Atq hx h0 oo oo
theorem Azm{x n y:Nat}(hx:x=y / 2 ^ n)(h0:0<x)(h:x<4294967296)(hn:n<=32):
  LenP y (jn (fun (s5:Int×Int)=>jn (fun (s8:Int×Int)=>bnd (idx Ox (wu8 s8.1)) fun x16=>some (w64 (s8.2+(w64 x16)))) (fun j8=>if 256<=s5.1 then (j8 (shr_ .u64 s5.1 8,w64 (s5.2+8))) else (j8 (s5.1,s5.2))))
   (fun j5=>if 65536<=(x:Int) then (j5 (shr_ .u64 (x:Int) 16,w64 ((n:Int)+16))) else (j5 ((x:Int),(n:Int))))):=by
 rw[jn_d]
 by_cases c:65536<=(x:Int)
 .rw[iP c];have e:w64 ((n:Int)+16)=((n+16:Nat):Int):=by rw[Aq oo oo];norm_cast
  rw[show shr_ .u64 (x:Int) 16=((x/2^16:Nat):Int) from shrN x 16 oo,e];exact Bd6 (by rw[hx,Nat.div_div_eq_div_mul,<-Nat.pow_add]) oo oo oo
 .rw[iN c];exact Bd6 hx h0 oo oo
theorem Bg4{y:Nat}(h0:0<y)(h:y<18446744073709551616):LenP y (Ng (y:Int)):=by
 unfold Ng;rw[jn_d]
 by_cases c:4294967296<=(y:Int)
 .rw[iP c];rw[show shr_ .u64 (y:Int) 32=((y/2^32:Nat):Int) from shrN y 32 oo];exact Azm (n:=32) rfl oo oo oo
 .rw[iN c];exact Azm (n:=0) s_ h0 oo oo
theorem Bfk{y:Nat}(h0:0<y)(h:y<18446744073709551616):∃s:Nat,s<=63/\Fb (y:Int)=some (s:Int)/\9223372036854775808<=y*2^s/\y*2^s<18446744073709551616:=by
 obtain⟨t,h1,h2,h3,h4,e⟩:=Bg4 h0 h;refine⟨64-t,oo,?_,?_,?_⟩
 .unfold Fb;rw[e,Ac,Aq oo oo];congr 1;omega
 .have:=Nat.mul_le_mul_right (2^(64-t)) h3;rw[<-Nat.pow_add,show t-1+(64-t)=63 by omega] at this;exact this
 .have:=Nat.mul_lt_mul_of_pos_right h4 (Nat.two_pow_pos (64-t));rw[<-Nat.pow_add,show t+(64-t)=64 by omega] at this;exact this
theorem Aro(x y z:Int)(h0:0<=x+y-z)(h1:x+y-z<18446744073709551616):wu64 (wu64 (wu64 x+y)-wu64 z)=x+y-z:=by
 simp only[Xe];omega
theorem Azn(x z:Int)(h0:0<=x-z)(h1:x-z<18446744073709551616):wu64 (x-wu64 z)=x-z:=by
 simp only[Xe];omega
theorem Ze{x:Int}(h0:0<=x)(h1:x<18446744073709551616):wu64 x=x:=by rw[Xe];omega
theorem orN{a b s:Nat}(hb:b<2^s)(h:a*2^s+b<18446744073709551616):Xs .u64 ((a*2^s:Nat):Int) (b:Int)=((a*2^s+b:Nat):Int):=by
 unfold Xs;have e:(BitVec.ofInt IntKind.u64.bits ((a*2^s:Nat):Int) ||| BitVec.ofInt IntKind.u64.bits (b:Int)).toNat=a*2^s+b:=by
  show (BitVec.ofInt 64 ((a*2^s:Nat):Int) ||| BitVec.ofInt 64 (b:Int)).toNat=_;rw[BitVec.toNat_or];have k:∀n:Nat,n<18446744073709551616->(BitVec.ofInt 64 (n:Int)).toNat=n:=fun n hn=>by
   simp[BitVec.toNat_ofInt];omega
  rw[k _ oo,k _ oo,Nat.mul_comm,<-Nat.two_pow_add_eq_or_of_lt hb]
 rw[e];exact Re oo
theorem Apd{v1 v0 U u q r:Nat}(h1:v1<4294967296)(h2:2147483648<=v1)(h3:v0<4294967296)(hu:u<4294967296)(hU:U<18446744073709551616)(hq:q*v1<=U)(hr:r<4294967296){σ:Type}(A:Int->Option (Sum σ Int))(E:Option (Sum σ Int)):
  jn (fun (s:Bool)=>if s=true then (if (4294967296:Int)<=wu64 ((r:Int)+(v1:Int)) then some (.inr (wu64 ((q:Int)-1))) else A (wu64 ((q:Int)-1))) else E)
   (fun j=>if (4294967296:Int)<=(q:Int) then j true else j (decide (wu64 (wu64 (4294967296*(r:Int))+(u:Int))<wu64 ((q:Int)*(v0:Int)))))
  = if 4294967296<=q\/4294967296*r+u<q*v0 then (if 4294967296<=r+v1 then some (.inr ((q-1:Nat):Int)) else A ((q-1:Nat):Int)) else E:=by
 have hq2:q<8589934593:=by
  apply Classical.byContradiction;intro hn;have:=Nat.mul_le_mul (oo:8589934593<=q) h2;omega
 have e1:wu64 ((r:Int)+(v1:Int))=((r+v1:Nat):Int):=by rw[Ze oo oo];norm_cast
 have e3:wu64 (wu64 (4294967296*(r:Int))+(u:Int))=((4294967296*r+u:Nat):Int):=by
  simp only[Xe];omega
 have c1:(q:Int)*(v0:Int)=((q*v0:Nat):Int):=by norm_cast
 have d1:((4294967296:Int)<=((r+v1:Nat):Int))↔4294967296<=r+v1:=oo;rw[jn_d,e1,e3,c1]
 by_cases hc:4294967296<=q
 .have e2:wu64 ((q:Int)-1)=((q-1:Nat):Int):=by rw[Ze oo oo];omega
  rw[iP (oo:(4294967296:Int)<=(q:Int))];refine (iP (show true=true from rfl)).trans ?_;rw[iP (show 4294967296<=q\/4294967296*r+u<q*v0 from Or.inl hc),e2]
  by_cases hd:4294967296<=r+v1
  .rw[iP hd,iP oo]
  .rw[iN hd,iN oo]
 .rw[iN (oo:¬(4294967296:Int)<=(q:Int))];have b1:q*v0<=4294967295*4294967295:=Nat.mul_le_mul oo oo;rw[Re (oo:q*v0<=18446744073709551615)]
  by_cases hk:4294967296*r+u<q*v0
  ·have hq0:0<q:=by
    rcases Nat.eq_zero_or_pos q with h|h
    .subst h;simp at hk
    .exact h
   have e2:wu64 ((q:Int)-1)=((q-1:Nat):Int):=by rw[Ze oo oo];omega
   rw[dT oo];refine (iP (show true=true from rfl)).trans ?_;rw[iP (show 4294967296<=q\/4294967296*r+u<q*v0 from Or.inr hk),e2]
   by_cases hd:4294967296<=r+v1
   .rw[iP hd,iP oo]
   .rw[iN hd,iN oo]
  .rw[dF oo];refine (iN (dD:¬(false=true))).trans ?_;rw[iN (oo:¬(4294967296<=q\/4294967296*r+u<q*v0))]
theorem Bcc{y lo s v1 v0 U u1:Nat}(h1:v1<4294967296)(h2:2147483648<=v1)(h3:v0<4294967296)(hU:U<v1*4294967296+v0)(hu:u1<4294967296)(es:wu64 (s:Int)=(s:Int))(ey:shl_ .u64 (y:Int) (s:Int)=((v1*4294967296+v0:Nat):Int))(el:shr_ .u64 (shl_ .u64 (lo:Int) (s:Int)) 32=(u1:Int)):
  lfix (Pj (y:Int) (s:Int) (lo:Int)) (((U/v1:Nat):Int),((U%v1:Nat):Int))=some (((U*4294967296+u1)/(v1*4294967296+v0):Nat):Int):=by
 have e1:shr_ .u64 ((v1*4294967296+v0:Nat):Int) 32=(v1:Int):=by rw[Aet];omega
 have e2:Df .u64 ((v1*4294967296+v0:Nat):Int) 4294967295=(v0:Int):=by rw[andN];omega
 refine Alt (fun q r=>((q:Int),(r:Int))) h1 h3 hU hu oo ?_;intro q r hq hr;unfold Pj;simp only[es,ey,el,e1,e2];refine (Apd h1 h2 h3 hu (U:=U) oo hq hr (fun q'=>some (.inl (q',wu64 ((r:Int)+(v1:Int))))) _).trans ?_
 by_cases hd:4294967296<=r+v1
 .simp only[iP hd]
 .rw[Ze (x:=(r:Int)+(v1:Int)) oo oo];simp only[iN hd];norm_cast
theorem Bcd{y lo s v1 v0 U u0:Nat}(h1:v1<4294967296)(h2:2147483648<=v1)(h3:v0<4294967296)(hU:U<v1*4294967296+v0)(hu:u0<4294967296)(es:wu64 (s:Int)=(s:Int))(ey:shl_ .u64 (y:Int) (s:Int)=((v1*4294967296+v0:Nat):Int))(el:Df .u64 (shl_ .u64 (lo:Int) (s:Int)) 4294967295=(u0:Int)):
  lfix (Pk (y:Int) (s:Int) (lo:Int)) (((U%v1:Nat):Int),((U/v1:Nat):Int))=some (((U*4294967296+u0)/(v1*4294967296+v0):Nat):Int):=by
 have e1:shr_ .u64 ((v1*4294967296+v0:Nat):Int) 32=(v1:Int):=by rw[Aet];omega
 have e2:Df .u64 ((v1*4294967296+v0:Nat):Int) 4294967295=(v0:Int):=by rw[andN];omega
 refine Alt (fun q r=>((r:Int),(q:Int))) h1 h3 hU hu oo ?_;intro q r hq hr;unfold Pk;simp only[es,ey,el,e1,e2];refine (Apd h1 h2 h3 hu (U:=U) oo hq hr (fun q'=>some (.inl (wu64 ((r:Int)+(v1:Int)),q'))) _).trans ?_
 by_cases hd:4294967296<=r+v1
 .simp only[iP hd]
 .rw[Ze (x:=(r:Int)+(v1:Int)) oo oo];simp only[iN hd];norm_cast
theorem Bce{lo s:Nat}(hs:s<=63):lo*2^s=lo/2^(64-s)*18446744073709551616+lo*2^s%18446744073709551616:=by
 have e:(18446744073709551616:Nat)=2^(64-s)*2^s:=by rw[<-Nat.pow_add,show 64-s+s=64 by omega]
 have k:lo*2^s/18446744073709551616=lo/2^(64-s):=by rw[e,Nat.mul_div_mul_right _ _ (Nat.two_pow_pos s)]
 have:=Nat.div_add_mod (lo*2^s) 18446744073709551616;rw[k] at this;omega
theorem Afq{U v1:Nat}(h1:0<v1)(hU:U<18446744073709551616):wu64 (Int.tdiv (U:Int) (v1:Int))=((U/v1:Nat):Int)/\wu64 ((U:Int)-wu64 (((U/v1:Nat):Int)*(v1:Int)))=((U%v1:Nat):Int):=by
 have a:U/v1<=U:=Nat.div_le_self _ _;have b:=Nat.div_add_mod U v1;have c:((U/v1:Nat):Int)*(v1:Int)=((v1*(U/v1):Nat):Int):=by rw[Nat.mul_comm];norm_cast
 constructor
 .rw[<-Int.ofNat_tdiv];exact Re oo
 .rw[c];generalize v1*(U/v1)=m at *;rw[Azn _ _ oo oo];omega
theorem Ape{U u Y:Nat}(hU:U<Y)(hu:u<4294967296)(hY:Y<18446744073709551616):
  wu64 (wu64 (wu64 ((U:Int)*4294967296)+(u:Int))-wu64 ((((U*4294967296+u)/Y:Nat):Int)*(Y:Int)))=(((U*4294967296+u)%Y:Nat):Int):=by
 have b:=Nat.div_add_mod (U*4294967296+u) Y;have d:=Nat.mod_lt (U*4294967296+u) (oo:0<Y);have c:(((U*4294967296+u)/Y:Nat):Int)*(Y:Int)=((Y*((U*4294967296+u)/Y):Nat):Int):=by rw[Nat.mul_comm Y];norm_cast
 rw[c];generalize Y*((U*4294967296+u)/Y)=m at *;generalize (U*4294967296+u)%Y=r at *;rw[Aro _ _ _ oo oo];omega
theorem Bcf{U w Y r1 g1 g0 R s:Nat}(x1:Y*g1+r1=U*4294967296+w / 4294967296)(x2:Y*g0+R=r1*4294967296+w % 4294967296)(x3:R<Y)(a1:g1<4294967296)(a2:g0<4294967296):
  some (wu64 (wu64 ((g1:Int)*4294967296)+(g0:Int)),((R/2^s:Nat):Int))=some ((((U*18446744073709551616+w)/Y:Nat):Int),(((U*18446744073709551616+w)%Y/2^s:Nat):Int)):=by
 have tot:U*18446744073709551616+w=Y*(g1*4294967296+g0)+R:=by
  rw[Nat.mul_add,show Y*(g1*4294967296)=Y*g1*4294967296 by grind];omega
 rw[tot,Nat.mul_add_div oo,Nat.mul_add_mod,Nat.div_eq_of_lt x3,Nat.mod_eq_of_lt x3];have fin:wu64 (wu64 ((g1:Int)*4294967296)+(g0:Int))=((g1*4294967296+g0+0:Nat):Int):=by
  simp only[Xe];omega
 rw[fin]
theorem Bg5{hi lo y:Nat}(hy:y<18446744073709551616)(h:hi<y)(hl:lo<18446744073709551616):
  Rg (hi:Int) (lo:Int) (y:Int)=some ((((hi*18446744073709551616+lo)/y:Nat):Int),(((hi*18446744073709551616+lo)%y:Nat):Int)):=by
 unfold Rg;rw[iN oo,iN oo]
 by_cases h0:hi=0
 .subst h0;rw[iP oo,gd_t oo,gd_t oo,(Afq oo hl).1,<-Int.ofNat_tmod];simp
 rw[iN oo];obtain⟨s,hs,e,n1,n2⟩:=Bfk (y:=y) oo hy;rw[e,Ac];have es:wu64 (s:Int)=(s:Int):=Re oo;have hp:0<2^s:=Nat.two_pow_pos s;have m1:hi*2^s<y*2^s:=Nat.mul_lt_mul_of_pos_right h hp;have m2:=Bce (lo:=lo) hs;have m3:lo/2^(64-s)<2^s:=by
  rw[Nat.div_lt_iff_lt_mul (Nat.two_pow_pos _),<-Nat.pow_add,show s+(64-s)=64 by omega];exact hl
 have m4:(hi*18446744073709551616+lo)*2^s=(hi*2^s+lo/2^(64-s))*18446744073709551616+lo*2^s%18446744073709551616:=by
  rw[Nat.add_mul,m2];grind
 have m5:hi*2^s+lo/2^(64-s)<y*2^s:=by
  have:=Nat.mul_le_mul_right (2^s) (show hi+1<=y from h);rw[Nat.add_mul,Nat.one_mul] at this;omega
 have ey:shl_ .u64 (y:Int) (s:Int)=((y*2^s:Nat):Int):=by rw[shlN _ _ oo,Nat.mod_eq_of_lt n2]
 have eh:shl_ .u64 (hi:Int) (s:Int)=((hi*2^s:Nat):Int):=by rw[shlN _ _ oo,Nat.mod_eq_of_lt oo]
 have el:=shlN lo s oo;have ec:wu64 (64-(s:Int))=((64-s:Nat):Int):=by rw[Ze oo oo];omega
 have ed:=shrN lo (64-s) oo;have ef:=orN (a:=hi) m3 oo;have q1:(hi*18446744073709551616+lo)/y=(hi*18446744073709551616+lo)*2^s/(y*2^s):=by rw[Nat.mul_div_mul_right _ _ hp]
 have q2:(hi*18446744073709551616+lo)%y=(hi*18446744073709551616+lo)*2^s%(y*2^s)/2^s:=by rw[Nat.mul_mod_mul_right,Nat.mul_div_cancel _ hp]
 rw[q1,q2,m4];simp only[es,ey,eh,ec,ed,ef,jn_d];have esr:∀n:Nat,shr_ .u64 (n:Int) (s:Int)=((n/2^s:Nat):Int):=fun n=>shrN n s oo
 have d1:=@Bcc y lo s;have d0:=@Bcd y lo s;rw[ey,el] at d1 d0;rw[el];have ew:lo*2^s%18446744073709551616<18446744073709551616:=Nat.mod_lt _ oo;generalize lo*2^s%18446744073709551616=w at *;generalize hi*2^s+lo/2^(64-s)=U at *;generalize y*2^s=Y at *;clear m1 m2 m3 m4 ef eh ed el ey e q1 q2 ec;rw[gd_t oo,gd_t oo,gd_t oo,gd_t oo];have t1:Y=Y/4294967296*4294967296+Y%4294967296:=oo;have t2:w=w/4294967296*4294967296+w%4294967296:=oo;have d1':=d1 (v1:=Y/4294967296) (v0:=Y%4294967296) (U:=U) (u1:=w/4294967296) oo oo oo oo oo es (by rw[<-t1]) (Aet w);rw[<-t1] at d1';rw[Aet,Aet,andN,gd_t oo,(Afq oo oo).1,(Afq oo oo).2,d1',Ac,gd_t oo,Ape m5 oo n2];have hM:=Nat.mod_lt (U*4294967296+w/4294967296) (oo:0<Y);have d0':=d0 (v1:=Y/4294967296) (v0:=Y%4294967296) (U:=(U*4294967296+w/4294967296)%Y) (u0:=w%4294967296) oo oo oo oo oo es (by rw[<-t1]) (andN w);rw[<-t1] at d0';rw[(Afq oo oo).1,(Afq oo oo).2,d0',Ac,Ape hM oo n2,gd_t oo,esr];have x1:=Nat.div_add_mod (U*4294967296+w/4294967296) Y;have x2:=Nat.div_add_mod ((U*4294967296+w/4294967296)%Y*4294967296+w%4294967296) Y;have x3:=Nat.mod_lt ((U*4294967296+w/4294967296)%Y*4294967296+w%4294967296) (oo:0<Y);have a1:(U*4294967296+w/4294967296)/Y<4294967296:=by
  rw[Nat.div_lt_iff_lt_mul oo];omega
 have a2:((U*4294967296+w/4294967296)%Y*4294967296+w%4294967296)/Y<4294967296:=by
  rw[Nat.div_lt_iff_lt_mul oo];omega
 exact Bcf x1 x2 x3 a1 a2
theorem Bcg{m0 m1 m2 d0 d1 d2:Nat}{b:Int}{p:Ah}(hA:m0+m1+m2<=2305843009213693952)(h0:0<m0+m1+m2)(k0:d0<=2199023255552)(k1:d1<=2199023255552)(k2:d2<=2199023255552)(b1:-2199023255552<=b)(b2:b<=2199023255552)(hb:min (min p.a0 p.a1) p.a2=b)(e0:p.a0=b+d0)(e1:p.a1=b+d1)(e2:p.a2=b+d2):
  Oy ⟨(m0:Int),(m1:Int),(m2:Int)⟩ p=some (b+(((m0*d0+m1*d1+m2*d2)/(m0+m1+m2):Nat):Int),
   b+(((m0*d0+m1*d1+m2*d2)/(m0+m1+m2):Nat):Int)+if 0<(m0*d0+m1*d1+m2*d2)%(m0+m1+m2) then 1 else 0):=by
 have l0:m0*d0<=m0*2199023255552:=Nat.mul_le_mul_left _ k0;have l1:m1*d1<=m1*2199023255552:=Nat.mul_le_mul_left _ k1;have l2:m2*d2<=m2*2199023255552:=Nat.mul_le_mul_left _ k2;have w0:w64 (p.a0-b)=(d0:Int):=by rw[Aq oo oo];omega
 have w1:w64 (p.a1-b)=(d1:Int):=by rw[Aq oo oo];omega
 have w2:w64 (p.a2-b)=(d2:Int):=by rw[Aq oo oo];omega
 have z:(⟨0,0⟩:Gn)=W2 0:=rfl;have s1:wu64 (w64 (w64 ((m0:Int)+(m1:Int))+(m2:Int)))=((m0+m1+m2:Nat):Int):=by
  rw[Aq (x:=(m0:Int)+(m1:Int)) oo oo,Aq oo oo,Ze oo oo];norm_cast
 unfold Oy;simp only[hb,w0,w1,w2,s1];have p0:=Agq (n:=0) (a:=m0) (b:=d0) oo oo oo;have p1:=Agq (n:=0+m0*d0) (a:=m1) (b:=d1) oo oo oo;have p2:=Agq (n:=0+m0*d0+m1*d1) (a:=m2) (b:=d2) oo oo oo;rw[z,p0,Ac,p1,Ac,p2,Ac];have hn:0+m0*d0+m1*d1+m2*d2=m0*d0+m1*d1+m2*d2:=oo;rw[hn];have hm:m0*d0+m1*d1+m2*d2<=(m0+m1+m2)*2199023255552:=oo;clear p0 p1 p2 hn l0 l1 l2 z s1 w0 w1 w2;generalize m0*d0+m1*d1+m2*d2=n at *;generalize m0+m1+m2=A at *;have q:=Bg5 (hi:=n/18446744073709551616) (lo:=n%18446744073709551616) (y:=A) oo oo oo;have en:n/18446744073709551616*18446744073709551616+n%18446744073709551616=n:=oo;rw[en] at q;have qb:n/A<=2199023255552:=by
  rw[Nat.div_le_iff_le_mul_add_pred h0,Nat.mul_comm A];rw[Nat.mul_comm] at hm;omega
 refine (congrArg (fun o=>bnd o _) q).trans ?_;rw[Ac];dsimp only;generalize n/A=g at *;generalize n%A=r at *;have f1:w64 (b+w64 (g:Int))=b+(g:Int):=by rw[Si oo,Aq oo oo]
 have f2:w64 (b+(g:Int)+1)=b+(g:Int)+1:=by rw[Aq oo oo]
 rw[f1,f2]
 by_cases hr:0<r
 .rw[iP (oo:(0:Int)<(r:Int)),iP hr]
 .rw[iN (oo:¬(0:Int)<(r:Int)),iN hr,Int.add_zero]
end
end Go.Proofs.YthlkpgdfifnagaaGreat
