import Derived.Test.YthlkpgdfifnagaaGreatR2
namespace Go.Proofs.YthlkpgdfifnagaaGreat
open Go Go.RowKit List
def nI(l:List Nat):List Int:=l.map (fun x:Nat=>(x:Int))
def L32(m:Nat):List Int:=nI (dig 4294967296 m)
theorem Cp{l:List Nat}:(nI l).length=l.length:=by simp[nI]
theorem Dw{l:List Nat}{j:Nat}(h:j<l.length):idx (nI l) (j:Int)=some ((l[j]:Nat):Int):=by
 rw[At (by rw[Cp];exact h)];simp[nI]
theorem Aaa(n:Nat):(List.replicate n (0:Int))=nI (List.replicate n 0):=by simp[nI]
theorem Xa{l:List Nat}{j v:Nat}:setI (nI l) (j:Int) (v:Int)=nI (l.set j v):=by rw[Yf];simp[nI,map_set]
theorem Av2{n:Nat}(h:n<4294967296):wu32 (n:Int)=n:=Ajr .u32 n (by simp only[top];omega)
theorem Xu{n:Nat}(h:n<18446744073709551616):wu64 (n:Int)=n:=Ajr .u64 n (by simp only[top];omega)
theorem Afj(l:List Nat)(h9:l.length<=1000000):Fv (nI l)=some (nI (nrm l)):=by
 obtain⟨t,ht,hR⟩:=Bk (B:=Re) (fun s=>s.length)
  (fun s=>∃ k:Nat,k<=l.length/\s=nI (l.take k)/\∀ (j:Nat) (h:j<l.length),k<=j->l[j]=0)
  (fun t=>t=nI (nrm l)) (by
   rintro s ⟨k,hk,rfl,hz⟩;have hlen:(l.take k).length=k:=by rw[length_take];omega
   unfold Re;simp only[jn_d,Cp,hlen]
   by_cases h0:k=0
   ·right;subst h0;rw[if_neg oo,if_neg (by simp)];refine⟨_,rfl,?_⟩;rw[Agw l (fun x hx=>by obtain⟨j,hj,rfl⟩:=getElem_of_mem hx;exact hz j hj oo)];rfl
   ·rw[if_pos oo]
    ·rw[Av oo oo,show ((k:Int)-1)=((k-1:Nat):Int) from by omega,Dw oo,Ae];have e:(l.take k)[k-1]'oo=l[k-1]:=by rw[getElem_take]
     rw[e]
     by_cases hx:l[k-1]=0
     ·left;refine⟨nI (l.take (k-1)),?_,⟨k-1,oo,rfl,fun j h hj=>?_⟩,by simp only[Cp,length_take];omega⟩
      ·rw[if_pos (by rw[hx];rfl),gd_t ⟨oo,oo⟩];congr 2;simp only[subl,nI,Int.toNat_natCast,Int.toNat_zero,drop_zero,<- map_take,take_take];rw[show min (k-1) k=k-1 by omega]
      ·rcases Nat.lt_or_ge (k-1) j with hq | hq
       ·exact hz j h oo
       ·obtain rfl:j=k-1:=oo;exact hx
     ·right;rw[if_neg (by rw[decide_eq_true_eq];omega)];refine⟨_,rfl,?_⟩;have h1:=Aya l k hk hz (fun h0' h'=>hx)
      conv=>rhs;rw[Aow,h1])
  (nI l) ⟨l.length,oo,by rw[take_length],fun j h hj=>oo⟩
 unfold Fv;simp only[jn_d];rw[ht,Ae,hR]
theorem Afk(n:Nat):wu32 (n:Int)=((n % 4294967296:Nat):Int):=by
 show IntKind.u32.wrap (n:Int)=_;simp[IntKind.wrap,IntKind.bits,IntKind.signed]
theorem Av3(n:Nat):shr_ .u64 (n:Int) 32=((n / 4294967296:Nat):Int):=by
 show (n:Int).fdiv (2 ^ (min (32:Int).toNat 64))=_;rw[show (2:Int) ^ (min (32:Int).toNat 64)=4294967296 from by decide,Int.fdiv_eq_ediv_of_nonneg _ oo];omega
theorem Av4(l r:List Nat)(hl:∀ x∈l,x<4294967296)(hr:∀ x∈r,x<4294967296)(hb:l.length+r.length<=1000000):
  Eg (nI l) (nI r)=some (L32 (val 4294967296 l*val 4294967296 r)):=by
 have e:w64 ((((nI l).length:Nat):Int)+(((nI r).length:Nat):Int))=((l.length+r.length:Nat):Int):=by rw[Cp,Cp,Av oo oo];omega
 obtain⟨t,ht,out,rfl,hd,hlo⟩:=Bk (B:=Kw (nI l) (nI r)) (fun s=>l.length-s.2.toNat)
  (fun s=>∃ (out:List Nat) (i:Nat),s=(nI out,(i:Int))/\out.length=l.length+r.length/\i<=l.length/\(∀ x∈out,x<4294967296)/\(∀ (q:Nat) (h:q<out.length),i+r.length<=q->out[q]=0)/\val 4294967296 out=val 4294967296 (l.take i)*val 4294967296 r)
  (fun t=>∃ out,t=nI out/\nrm out=dig 4294967296 (val 4294967296 l*val 4294967296 r)/\out.length<=1000000) (by
   rintro s ⟨out0,i,rfl,hC1,hC2,hC3,hC4,hC5⟩
   by_cases hi:i<l.length
   ·left;obtain⟨t,ht,out,cy,rfl,hD1,hD2,hD4,hD5,hD6⟩:=Bk (B:=Kv (nI r) (nI out0,(i:Int)) (l[i]:Int)) (fun s=>r.length-s.2.2.toNat)
     (fun s=>∃ (out:List Nat) (cy j:Nat),s=(nI out,(cy:Int),(j:Int))/\out.length=l.length+r.length/\cy<4294967296/\j<=r.length/\(∀ x∈out,x<4294967296)/\(∀ (q:Nat) (h:q<out.length),i+r.length<=q->out[q]=0)/\val 4294967296 out+cy*4294967296 ^ (i+j)=val 4294967296 out0+l[i] * val 4294967296 (r.take j)*4294967296 ^ i)
     (fun t=>∃ (out:List Nat) (cy:Nat),t=(nI out,(cy:Int))/\out.length=l.length+r.length/\cy<4294967296/\(∀ x∈out,x<4294967296)/\(∀ (q:Nat) (h:q<out.length),i+r.length<=q->out[q]=0)/\val 4294967296 out+cy*4294967296 ^ (i+r.length)=val 4294967296 out0+l[i] * val 4294967296 (r.take r.length)*4294967296 ^ i) (by
      rintro s ⟨out,cy,j,rfl,hD1,hD2,hD3,hD4,hD5,hD6⟩
      by_cases hj:j<r.length
      ·left;have hk:i+j<out.length:=oo;have h1:=hl _ (getElem_mem hi);have h2:=hr _ (getElem_mem hj);have h3:=hD4 _ (getElem_mem hk);have hmm:=Aox h1 h2;have e1:w64 ((i:Int)+(j:Int))=((i+j:Nat):Int):=by rw[Av oo oo];omega
       have e2:wu64 (wu64 (wu64 (wu64 (l[i]:Int)*wu64 (r[j]:Int))+wu64 (out[i+j]:Int))+(cy:Int))=((l[i] * r[j] + out[i+j] + cy:Nat):Int):=by
        rw[Xu (n:=l[i]) oo,Xu (n:=r[j]) oo,Xu (n:=out[i+j]) oo,<- Int.natCast_mul,Xu oo,<- Int.natCast_add,Xu oo,<- Int.natCast_add,Xu oo]
       have e4:wu32 ((l[i] * r[j] + out[i+j] + cy:Nat):Int)=(((l[i] * r[j] + out[i+j] + cy) % 4294967296:Nat):Int):=Afk _;refine⟨(nI (out.set (i+j) ((l[i] * r[j] + out[i+j] + cy) % 4294967296)),(((l[i] * r[j] + out[i+j] + cy) / 4294967296:Nat):Int),((j+1:Nat):Int)),?_,⟨_,_,_,rfl,Auj hi hj rfl rfl h1 h2 hD1 hD2 hD3 hD4 hD5 hD6 hk⟩,by simp;omega⟩;unfold Kv;simp only[e1];rw[if_pos (by rw[Cp];omega),Dw hj,Ae,Dw hk,Ae,Ae,e2,e4,Av3,Xa,Bg oo]
      ·right;obtain rfl:j=r.length:=oo;refine⟨(nI out,(cy:Int)),?_,out,cy,rfl,hD1,hD2,hD4,hD5,hD6⟩;unfold Kv;simp only[];rw[if_neg (by rw[Cp];omega)])
     (nI out0,((0:Nat):Int),((0:Nat):Int)) ⟨out0,0,0,rfl,hC1,oo,oo,hC3,fun q hq hiq=>hC4 q hq oo,by simp[val]⟩
    have hk:i+r.length<out.length:=oo;refine⟨(nI (out.set (i+r.length) (cy % 4294967296)),((i+1:Nat):Int)),?_,⟨_,_,rfl,Auk hi rfl rfl hD1 hD2 hD4 hD5 hD6 hC5 rfl⟩,by simp;omega⟩;unfold Kw;simp only[jn_d];have ht':lfix (Kv (nI r) (nI out0,(i:Int)) (l[i]:Int)) (nI out0,0,0)=some (nI out,(cy:Int)):=ht;rw[if_pos (by rw[Cp];omega),Dw hi,Ae,ht',Ae,Cp,show w64 ((i:Int)+(r.length:Int))=((i+r.length:Nat):Int) from by rw[Av oo oo];omega,Dw hk,Ae];simp only[];rw[Av2 hD2,Xa,Bg oo,Nat.mod_eq_of_lt hD2]
   ·right;refine⟨nI out0,?_,out0,rfl,Ayb (i:=i) oo rfl hC1 hC3 hC5,oo⟩;unfold Kw;simp only[];rw[if_neg (by rw[Cp];omega)])
  (nI (List.replicate (l.length+r.length) 0),((0:Nat):Int)) ⟨_,0,rfl,by simp,oo,by simp,by simp,by simp[val,Aak]⟩
 unfold Eg;simp only[e,jn_d,Int.toNat_natCast,Aaa];have ht':lfix (Kw (nI l) (nI r)) (nI (List.replicate (l.length+r.length) 0),0)=some (nI out):=ht;rw[gd_t ⟨oo,oo⟩,ht',Ae,Afj _ oo,Ae,hd];rfl
theorem Bcv(a b:Nat)(ha:(dig 4294967296 a).length<=1000000):Tf (L32 a) (L32 b)=some (cmpN a b):=by
 unfold Tf L32;rw[Cp,Cp]
 by_cases hlen:(dig 4294967296 a).length=(dig 4294967296 b).length
 ·obtain⟨t,ht,hR⟩:=Bk (B:=Sj (nI (dig 4294967296 a)) (nI (dig 4294967296 b))) (fun s=>(s+1).toNat)
   (fun s=>∃ k:Nat,s=(k:Int)-1/\k<=(dig 4294967296 a).length/\∀ (j:Nat) (h:j<(dig 4294967296 a).length) (h':j<(dig 4294967296 b).length),k<=j->(dig 4294967296 a)[j]=(dig 4294967296 b)[j])
   (fun t=>(t = .inl ()/\cmpN a b=0)\/t = .inr (cmpN a b)) (by
    rintro s ⟨k,rfl,hk,heq⟩;unfold Sj
    by_cases h0:k=0
    ·right;subst h0;refine⟨_,by rw[if_neg oo],.inl ⟨rfl,Ayd oo hlen (fun j h h'=>heq j h h' oo)⟩⟩
    ·have h1:k-1<(dig 4294967296 a).length:=oo;have h2:k-1<(dig 4294967296 b).length:=oo;have hat:=Ayc (b:=4294967296) oo hlen h1 h2 (fun j h h' hj=>heq j h h' oo);rw[if_pos oo,show ((k:Int)-1)=((k-1:Nat):Int) from by omega,Dw h1,Ae,Dw h2,Ae]
     by_cases he:(dig 4294967296 a)[k-1]=(dig 4294967296 b)[k-1]
     ·left;refine⟨((k-1:Nat):Int)-1,by rw[if_pos (by rw[he]),Av oo oo],⟨k-1,rfl,oo,fun j h h' hj=>?_⟩,oo⟩;rcases Nat.lt_or_ge (k-1) j with hq | hq
      ·exact heq j h h' oo
      ·obtain rfl:j=k-1:=oo;exact he
     ·right;rw[if_neg oo,Ae,Ae]
      by_cases hlt:(dig 4294967296 a)[k-1]<(dig 4294967296 b)[k-1]
      ·exact⟨_,by rw[if_pos oo],.inr (by rw[hat.1 hlt])⟩
      ·exact⟨_,by rw[if_neg oo],.inr (by rw[hat.2 oo])⟩)
   (((dig 4294967296 a).length:Int)-1) ⟨_,rfl,Nat.le_refl _,fun j h h' hj=>oo⟩
  rw[if_pos oo,jn_d,Av oo oo,ht,Ae];rcases hR with⟨rfl,h0⟩ | rfl
  ·simp only[h0]
  ·rfl
 ·rw[if_neg oo]
  by_cases hlt:(dig 4294967296 a).length<(dig 4294967296 b).length
  ·rw[if_pos oo,(Aih (b:=4294967296) oo rfl rfl).1 hlt]
  ·rw[if_neg oo,(Aih (b:=4294967296) oo rfl rfl).2 oo]
theorem oneW:([1]:List Int)=L32 1:=by unfold L32;rw[Aig oo];rfl
theorem Azy{a:Nat}:(L32 a).length=0↔a=0:=by
 unfold L32;rw[Cp,length_eq_zero_iff,Xe oo]
theorem norm_L(a:Nat)(h:(dig 4294967296 a).length<=1000000):Fv (L32 a)=some (L32 a):=by
 unfold L32;rw[Afj _ h,Ba0 oo]
theorem Ap6(a:Nat)(h:(dig 4294967296 a).length<=1000):Eg (L32 a) [1]=some (L32 a):=by
 have:=Av4 (dig 4294967296 a) [1] (Ow oo a) (by simp) (by simp;omega);rw[Dm oo,show val 4294967296 [1]=1 from by simp[val],Nat.mul_one] at this;exact this
theorem Ar2:Eg [1] [1]=some [1]:=by
 have:=Ap6 1 (by rw[Aig oo];simp)
 rwa [<- oneW] at this
theorem Ty{b:Nat}(l:List Nat)(i:Nat):val b (l.take (i+1))=val b (l.take i)+b ^ i*l.getD i 0:=by
 by_cases h:i<l.length
 ·rw[Sy l i h];simp[h]
 ·rw[take_of_length_le oo,take_of_length_le oo];simp[h]
theorem Ac4{l:List Nat}(hl:∀ x∈l,x<65536)(i:Nat):l.getD i 0<65536:=by
 by_cases h:i<l.length
 ·have:=hl _ (getElem_mem h);simpa[h] using this
 ·simp[h]
theorem Xb{l:List Nat}{i:Nat}(h:i<l.length):l.getD i 0=l[i]:=by simp[h]
theorem Rk{l:List Nat}{i:Nat}(h:¬ i<l.length):l.getD i 0=0:=by simp[h]
theorem Aab{b:Nat}(hb:0<b){l:List Nat}(hl:∀ x∈l,x<b)(i:Nat):l.getD i 0<b:=by
 by_cases h:i<l.length
 ·have:=hl _ (getElem_mem h);simpa[h] using this
 ·simp[h,hb]
theorem Av5(v:BitVec 32):IntKind.u32.wrap (v.toNat:Int)=(v.toNat:Int):=Ajr .u32 v.toNat (by simp only[top];omega)
theorem Av6(a b:Int):Ch .u32 a b=((BitVec.ofInt 32 a &&& BitVec.ofInt 32 b).toNat:Int):=Av5 _
theorem Bev(a b:Int):Qt .u32 a b=((BitVec.ofInt 32 a ||| BitVec.ofInt 32 b).toNat:Int):=Av5 _
theorem Ap7(a b:Int):Add .u32 a b=((BitVec.ofInt 32 a ^^^ BitVec.ofInt 32 b).toNat:Int):=Av5 _
theorem Bew(v:BitVec 32):BitVec.ofInt 32 (v.toNat:Int)=v:=by
 rw[BitVec.ofInt_natCast,BitVec.ofNat_toNat,BitVec.setWidth_eq]
theorem Bcw:BitVec.ofInt 32 (if IntKind.signed .u32=true then -1 else IntKind.max .u32)=BitVec.allOnes 32:=dD
theorem Av7(x:Int):wu32 x=x % 4294967296:=by
 show IntKind.u32.wrap x=_;simp[IntKind.wrap,IntKind.bits,IntKind.signed]
theorem Amk(n:Nat)(h:n<4294967296):(BitVec.ofInt 32 (n:Int)).msb=decide (2147483648<=n):=by
 rw[BitVec.msb_eq_decide,BitVec.ofInt_natCast,BitVec.toNat_ofNat,Nat.mod_eq_of_lt oo]
theorem Bex(v:BitVec 32):shr_ .u32 (v.toNat:Int) 31=if v.msb then 1 else 0:=by
 have h:=v.isLt;rw[BitVec.msb_eq_decide];show (v.toNat:Int).fdiv (2 ^ (min (31:Int).toNat 32))=_;rw[show (2:Int) ^ (min (31:Int).toNat 32)=2147483648 from by decide,Int.fdiv_eq_ediv_of_nonneg _ oo]
 by_cases h1:2 ^ (32-1)<=v.toNat
 ·rw[if_pos (by simpa using h1)];omega
 ·rw[if_neg (by simpa using h1)];omega
theorem Bey{x y b:Nat}(hx:x<4294967296)(hy:y<4294967296)(hb:b<=1):
  ∃ d b':Nat,Mu (x:Int) (y:Int) (b:Int)=some ((d:Int),(b':Int))/\d<4294967296/\b'<=1/\d+b+y=x+4294967296*b':=by
 unfold Mu;have e:wu32 (wu32 ((x:Int)-y)-b)=(((x:Int)-y-b) % 4294967296).toNat:=by rw[Av7,Av7];omega
 rw[e];generalize hd:(((x:Int)-y-b) % 4294967296).toNat=d;have hdl:d<4294967296:=oo;rw[Av6,Av6,Ap7,Ap7,Ap7,Bev];simp only[Bew,Bcw,BitVec.allOnes_xor];rw[Bex];rw[BitVec.msb_or,BitVec.msb_and,BitVec.msb_and,BitVec.msb_not,BitVec.msb_not,BitVec.msb_xor,Amk _ hx,Amk _ hy,Amk _ hdl]
 by_cases h1:2147483648<=x <;> by_cases h2:2147483648<=y <;> by_cases h3:2147483648<=d <;> simp only[h1,h2,h3,decide_true,decide_false,Bool.not_true,Bool.not_false,Bool.and_true,Bool.and_false,Bool.true_and,Bool.false_and,Bool.or_true,Bool.or_false,Bool.xor_true,Bool.xor_false,Bool.false_eq_true,if_true,if_false,show (0<32)=True by simp] <;>
  first
  | exact⟨d,0,rfl,hdl,oo,oo⟩
  | exact⟨d,1,rfl,hdl,oo,oo⟩
theorem Bez{x y c:Nat}(hx:x<4294967296)(hy:y<4294967296)(hc:c<=1):
  Ms (x:Int) (y:Int) (c:Int)=some ((((x+y+c) % 4294967296:Nat):Int),(((x+y+c) / 4294967296:Nat):Int)):=by
 unfold Ms;have e:wu64 (wu64 (wu64 (x:Int)+wu64 (y:Int))+wu64 (c:Int))=((x+y+c:Nat):Int):=by
  rw[Xu (n:=x) oo,Xu (n:=y) oo,Xu (n:=c) oo,<- Int.natCast_add,Xu oo,<- Int.natCast_add,Xu oo]
 rw[e,Afk,Av3,Av2 oo]
theorem Av8{l r out:List Nat}{cy i n:Nat}(hn:l.length=n)(hi:i<n)(hr:r.length<=n)(hl':∀ x∈l,x<4294967296)(hr':∀ x∈r,x<4294967296)(hC1:out.length=n+1)(hC2:cy<=1)(hC4:∀ x∈out,x<4294967296)(hC5:∀ (q:Nat) (h:q<out.length),i<=q->out[q]=0)(hC6:val 4294967296 out+cy*4294967296 ^ i=val 4294967296 (l.take i)+val 4294967296 (r.take i)):
  ∀ s,s=l.getD i 0+r.getD i 0+cy->(out.set i (s % 4294967296)).length=n+1/\s / 4294967296<=1/\(∀ x∈out.set i (s % 4294967296),x<4294967296)/\(∀ (q:Nat) (h:q<(out.set i (s % 4294967296)).length),i+1<=q->(out.set i (s % 4294967296))[q]=0) /\
   val 4294967296 (out.set i (s % 4294967296))+s / 4294967296*4294967296 ^ (i+1)=val 4294967296 (l.take (i+1))+val 4294967296 (r.take (i+1)):=by
 intro s hs;have h1:=Aab (b:=4294967296) oo hl' i;have h2:=Aab (b:=4294967296) oo hr' i;refine⟨by simp[hC1],oo,Tp hC4 oo,fun q hq hiq=>?_,?_⟩
 ·rw[getElem_set_ne oo];exact hC5 q (by simpa using hq) oo
 ·have hs1:=Ze (b:=4294967296) out i (s % 4294967296) oo;rw[hC5 i oo oo] at hs1;rw[Ty,Ty];have e1:s=4294967296*(s / 4294967296)+s % 4294967296:=oo;have e2:=congrArg (· * 4294967296 ^ i) (hs.symm.trans e1);simp only[Nat.add_mul] at e2;have e4:4294967296 ^ (i+1)=4294967296*4294967296 ^ i:=by rw[Nat.pow_succ,Nat.mul_comm]
  rw[e4];generalize 4294967296 ^ i=P at *;generalize l.getD i 0=a at *;generalize r.getD i 0=b at *;generalize s / 4294967296=q at *;generalize s % 4294967296=m at *;have e5:q*(4294967296*P)=4294967296*q*P:=by grind
  have e7:P*a=a*P:=Nat.mul_comm _ _;have e8:P*b=b*P:=Nat.mul_comm _ _;omega
theorem Av9(l r:List Nat)(hl:∀ x∈l,x<4294967296)(hr:∀ x∈r,x<4294967296)(h9:l.length<=100000)(hrl:r.length<=l.length):
  (jn (fun (s6:List Int × Int)=>
   bnd (idx s6.1 ((((nI l).length:Nat):Int))) fun _=>
   bnd (Fv (setI s6.1 ((((nI l).length:Nat):Int)) s6.2)) fun r122=>
   some r122)
   (fun j6=>bnd (lfix (Kx (nI l,nI r)) (List.replicate (Int.toNat (w64 (((((nI l).length:Nat):Int))+1))) (0:Int),0,0)) fun t56=>
   j6 t56))=some (L32 (val 4294967296 l+val 4294967296 r)):=by
 obtain⟨t,ht,out,cy,rfl,hC1,hC2,hC4,hC5,hC6⟩:=Bk (B:=Kx (nI l,nI r)) (fun s=>l.length-s.2.2.toNat)
  (fun s=>∃ (out:List Nat) (cy i:Nat),s=(nI out,(cy:Int),(i:Int))/\i<=l.length/\out.length=l.length+1/\cy<=1/\(∀ x∈out,x<4294967296)/\(∀ (q:Nat) (h:q<out.length),i<=q->out[q]=0)/\val 4294967296 out+cy*4294967296 ^ i=val 4294967296 (l.take i)+val 4294967296 (r.take i))
  (fun t=>∃ (out:List Nat) (cy:Nat),t=(nI out,(cy:Int))/\out.length=l.length+1/\cy<=1/\(∀ x∈out,x<4294967296)/\(∀ (h:l.length<out.length),out[l.length]=0)/\val 4294967296 out+cy*4294967296 ^ l.length=val 4294967296 l+val 4294967296 r) (by
   rintro s ⟨out,cy,i,rfl,hi',hC1,hC2,hC4,hC5,hC6⟩;unfold Kx;simp only[jn_d,Cp]
   by_cases hi:i<l.length
   ·left;obtain⟨k1,k2,k3,k4,k5⟩:=Av8 rfl hi hrl hl hr hC1 hC2 hC4 hC5 hC6 _ rfl;have h1:=Aab (b:=4294967296) oo hl i;have h2:=Aab (b:=4294967296) oo hr i;refine⟨_,?_,⟨_,_,i+1,rfl,oo,k1,k2,k3,k4,k5⟩,by simp only[Int.toNat_natCast];omega⟩;rw[if_pos oo];have fin:∀ y:Int,y=((r.getD i 0:Nat):Int)->(bnd (idx (nI l) (i:Int)) fun x76=>bnd (Ms x76 y (cy:Int)) fun r87=>bnd (idx (nI out) (i:Int)) fun _=>some (Sum.inl (β:=List Int × Int) (setI (nI out) (i:Int) r87.1,r87.2,w64 ((i:Int)+1))))=some (.inl (nI (out.set i ((l.getD i 0+r.getD i 0+cy) % 4294967296)),(((l.getD i 0+r.getD i 0+cy) / 4294967296:Nat):Int),((i+1:Nat):Int))):=by
     rintro y rfl;rw[Dw hi,Ae,<- Xb hi,Bez h1 h2 hC2,Ae,Dw oo,Ae];simp only[];rw[Xa,Bg oo]
    by_cases hm:i<r.length
    ·rw[if_pos oo,Dw hm,Ae];exact fin _ (by rw[Xb hm])
    ·rw[if_neg oo];exact fin _ (by rw[Rk hm];rfl)
   ·right;obtain rfl:i=l.length:=oo;rw[if_neg oo];rw[take_of_length_le oo,take_of_length_le oo] at hC6;exact⟨_,rfl,out,cy,rfl,hC1,hC2,hC4,fun h=>hC5 _ h oo,hC6⟩)
  (nI (List.replicate (l.length+1) 0),((0:Nat):Int),((0:Nat):Int)) ⟨_,0,0,rfl,oo,by simp,oo,by simp,by simp,by simp[val,Aak]⟩
 simp only[jn_d,Cp];rw[Bg oo,Int.toNat_natCast,Aaa];have ht':lfix (Kx (nI l,nI r)) (nI (List.replicate (l.length+1) 0),0,0)=some (nI out,(cy:Int)):=ht;rw[ht',Ae];simp only[];rw[Dw oo,Ae,Xa,Afj _ (by simp;omega),Ae];have hs1:=Ze (b:=4294967296) out l.length cy oo;rw[hC5 oo] at hs1;rw[Yc (b:=4294967296) oo _ (Tp hC4 oo),show val 4294967296 (out.set l.length cy)=val 4294967296 l+val 4294967296 r by omega];rfl
theorem Bcx(l r:List Nat)(hl:∀ x∈l,x<4294967296)(hr:∀ x∈r,x<4294967296)(h9:l.length<=100000)(h9':r.length<=100000):
  Qq (nI l) (nI r)=some (L32 (val 4294967296 l+val 4294967296 r)):=by
 unfold Qq;simp only[jn_d]
 by_cases h:l.length<r.length
 ·rw[if_pos (by rw[Cp,Cp];omega),gd_t (by rw[Cp,Bg oo];omega)];have:=Av9 r l hr hl h9' oo;simp only[jn_d] at this;rw[this,Nat.add_comm]
 ·rw[if_neg (by rw[Cp,Cp];omega),gd_t (by rw[Cp,Bg oo];omega)];have:=Av9 l r hl hr h9 oo;simp only[jn_d] at this;exact this
theorem Bcy(l r:List Nat)(hl:∀ x∈l,x<4294967296)(hr:∀ x∈r,x<4294967296)(h9:l.length<=100000)(hrl:r.length<=l.length)(hle:val 4294967296 r<=val 4294967296 l):
  Od (nI l) (nI r)=some (L32 (val 4294967296 l-val 4294967296 r)):=by
 obtain⟨t,ht,out,rfl,hC1,hd⟩:=Bk (B:=Pg (nI l) (nI r)) (fun s=>l.length-s.2.2.toNat)
  (fun s=>∃ (out:List Nat) (bw i:Nat),s=(nI out,(bw:Int),(i:Int))/\i<=l.length/\out.length=l.length/\bw<=1/\(∀ x∈out,x<4294967296)/\(∀ (q:Nat) (h:q<out.length),i<=q->out[q]=0)/\val 4294967296 out+val 4294967296 (r.take i)=val 4294967296 (l.take i)+bw*4294967296 ^ i)
  (fun t=>∃ (out:List Nat),t=nI out/\out.length=l.length/\nrm out=dig 4294967296 (val 4294967296 l-val 4294967296 r)) (by
   rintro s ⟨out,bw,i,rfl,hi',hC1,hC2,hC4,hC5,hC6⟩;unfold Pg;simp only[jn_d,Cp]
   by_cases hi:i<l.length
   ·left;have h1:=Aab (b:=4294967296) oo hl i;have h2:=Aab (b:=4294967296) oo hr i;obtain⟨d,b',hB,hd1,hb1,he⟩:=Bey h1 h2 hC2;refine⟨(nI (out.set i d),(b':Int),((i+1:Nat):Int)),?_,⟨_,_,i+1,rfl,oo,by simp[hC1],hb1,Tp hC4 hd1,fun q hq hiq=>?_,?_⟩,by simp only[Int.toNat_natCast];omega⟩
    ·rw[if_pos oo];have fin:∀ y:Int,y=((r.getD i 0:Nat):Int)->(bnd (idx (nI l) (i:Int)) fun x76=>bnd (Mu x76 y (bw:Int)) fun r87=>bnd (idx (nI out) (i:Int)) fun _=>some (Sum.inl (β:=List Int) (setI (nI out) (i:Int) r87.1,r87.2,w64 ((i:Int)+1))))=some (.inl (nI (out.set i d),(b':Int),((i+1:Nat):Int))):=by
      rintro y rfl;rw[Dw hi,Ae,<- Xb hi,hB,Ae,Dw oo,Ae];simp only[];rw[Xa,Bg oo]
     by_cases hm:i<r.length
     ·rw[if_pos oo,Dw hm,Ae];exact fin _ (by rw[Xb hm])
     ·rw[if_neg oo];exact fin _ (by rw[Rk hm];rfl)
    ·rw[getElem_set_ne oo];exact hC5 q (by simpa using hq) oo
    ·have hs1:=Ze (b:=4294967296) out i d oo;rw[hC5 i oo oo] at hs1;rw[Ty,Ty];have e3:=congrArg (· * 4294967296 ^ i) he;simp only[Nat.add_mul] at e3;have e4:4294967296 ^ (i+1)=4294967296*4294967296 ^ i:=by rw[Nat.pow_succ,Nat.mul_comm]
     rw[e4];generalize 4294967296 ^ i=P at *;generalize l.getD i 0=a at *;generalize r.getD i 0=b at *;have e5:b' * (4294967296*P)=4294967296*b' * P:=by grind
     have e7:P*a=a*P:=Nat.mul_comm _ _;have e8:P*b=b*P:=Nat.mul_comm _ _;omega
   ·right;obtain rfl:i=l.length:=oo;rw[if_neg oo];rw[take_of_length_le oo,take_of_length_le oo] at hC6;refine⟨_,rfl,out,rfl,hC1,?_⟩;rw[Yc (b:=4294967296) oo out hC4];have hlt:=Agv out hC4;rw[hC1] at hlt;have:bw=0\/bw=1:=oo;rcases this with rfl | rfl
    ·rw[show val 4294967296 out=val 4294967296 l-val 4294967296 r by omega]
    ·omega)
  (nI (List.replicate l.length 0),((0:Nat):Int),((0:Nat):Int)) ⟨_,0,0,rfl,oo,by simp,oo,by simp,by simp,by simp[val,Aak]⟩
 unfold Od;simp only[jn_d,Cp,Int.toNat_natCast,Aaa];rw[gd_t ⟨oo,oo⟩];have ht':lfix (Pg (nI l) (nI r)) (nI (List.replicate l.length 0),0,0)=some (nI out):=ht;rw[ht',Ae,Afj _ oo,Ae,hd];rfl
theorem W_lt{a:Nat}:∀ x∈dig 4294967296 a,x<4294967296:=Ow oo a
theorem Bcz{a b:Nat}(ha:(dig 4294967296 a).length<=100000)(hb:(dig 4294967296 b).length<=100000):Qq (L32 a) (L32 b)=some (L32 (a+b)):=by
 have:=Bcx _ _ (W_lt (a:=a)) (W_lt (a:=b)) ha hb
 rwa [Dm oo,Dm oo] at this
theorem Atr{a b:Nat}(h:a<=b):(dig 4294967296 a).length<=(dig 4294967296 b).length:=by
 rcases Nat.lt_or_ge (dig 4294967296 b).length (dig 4294967296 a).length with h1 | h1
 ·have:=Aa7 (b:=4294967296) oo h1;omega
 ·exact h1
theorem Awa{a b:Nat}(ha:(dig 4294967296 a).length<=100000)(h:b<=a):Od (L32 a) (L32 b)=some (L32 (a-b)):=by
 have:=Bcy _ _ (W_lt (a:=a)) (W_lt (a:=b)) ha (Atr h) (by rw[Dm oo,Dm oo];exact h)
 rwa [Dm oo,Dm oo] at this
theorem Bc0{a b:Nat}(h:(dig 4294967296 a).length+(dig 4294967296 b).length<=1000000):Eg (L32 a) (L32 b)=some (L32 (a*b)):=by
 have:=Av4 _ _ (W_lt (a:=a)) (W_lt (a:=b)) h
 rwa [Dm oo,Dm oo] at this
theorem Ar3{n:Nat}(h:n<=18446744073709551615):Uh (n:Int)=some (L32 n):=by
 unfold Uh;have:=Afj [n % 4294967296,n / 4294967296 % 4294967296] (by simp);rw[show [wu32 (n:Int),wu32 (shr_ .u64 (n:Int) 32)]=nI [n % 4294967296,n / 4294967296 % 4294967296] from by rw[Av3,Afk,Afk];rfl,this,Ae,Aui n h];rfl
theorem Bc1{s:Bool}{z:Int}(hs:z≠0->s=decide (z<0)):Ph ⟨s,L32 z.natAbs,[1]⟩=some (Int.sign z):=by
 unfold Ph;simp only[]
 by_cases h0:z=0
 ·subst h0;rfl
 ·have:(L32 z.natAbs).length≠0:=fun e=>h0 (by have:=Azy.1 e;omega)
  rw[if_neg oo,hs h0]
  by_cases h1:z<0
  ·rw[if_pos (by simpa using h1),Int.sign_eq_neg_one_of_neg h1]
  ·rw[if_neg (by simpa using h1),Int.sign_eq_one_of_pos oo]
def L16(m:Nat):List Int:=nI (dig 65536 m)
def Z16(z:Int):Ah:=⟨decide (z<0),L16 z.natAbs⟩
theorem Azz{l:List Nat}{k:Nat}:(nI l).take k=nI (l.take k):=by simp[nI]
theorem Ak8:∀ (l:List Nat),nrm (l++[0])=nrm l
 | []=>rfl
 | x::r=>by simp only[cons_append,nrm];rw[Ak8 r]
theorem Aoa:∀ (l:List Nat) {x:Nat},x≠0->nrm (l++[x])=l++[x]
 | [],x,h=>by simp[nrm,h]
 | y::r,x,h=>by
  simp only[cons_append,nrm];rw[Aoa r h];cases r <;> rfl
theorem Afl(l:List Nat)(h9:l.length<=1000000000):Br (nI l)=some (nI (nrm l)):=by
 obtain⟨t,ht,k,rfl,hk,hn⟩:=Bk (B:=Qa (nI l)) (fun s=>s.toNat)
  (fun s=>∃ k:Nat,s=(k:Int)/\k<=l.length/\nrm (l.take k)=nrm l)
  (fun t=>∃ k:Nat,t=(k:Int)/\k<=l.length/\l.take k=nrm l) (by
   rintro s ⟨k,rfl,hk,hn⟩;unfold Qa;simp only[jn_d]
   by_cases h0:k=0
   ·right;subst h0;refine⟨((0:Nat):Int),by rw[if_neg oo];rfl,0,rfl,oo,?_⟩;rw[<- hn];rfl
   ·have h1:k-1<l.length:=oo;rw[if_pos oo,show ((k:Int)-1)=((k-1:Nat):Int) from by omega,Rc oo,Dw h1,Ae];have e:l.take k=l.take (k-1)++[l[k-1]]:=by
     obtain⟨q,rfl⟩:=Nat.exists_eq_succ_of_ne_zero h0;simp only[Nat.succ_eq_add_one,Nat.add_sub_cancel] at h1 ⊢;rw[take_add_one,List.getElem?_eq_getElem h1];rfl
    by_cases hz:l[k-1]=0
    ·left;refine⟨((k-1:Nat):Int),by rw[if_pos (by simp[hz])],⟨k-1,rfl,oo,?_⟩,oo⟩;rw[<- hn,e,hz,Ak8]
    ·right;refine⟨(k:Int),by rw[if_neg (by simp;omega)],k,rfl,hk,?_⟩;rw[<- hn,e,Aoa _ hz])
  (l.length:Int) ⟨l.length,rfl,oo,by rw[take_length]⟩
 unfold Br;simp only[jn_d,Cp];rw[ht,Ae,gd_t oo,Bcm,Int.toNat_natCast,Azz,hn]
theorem Ap8(a:Nat):Int.tmod (a:Int) 65536=((a % 65536:Nat):Int):=by rw[Int.tmod_eq_emod_of_nonneg oo];omega
theorem Ap9(a:Nat):Int.tdiv (a:Int) 65536=((a / 65536:Nat):Int):=by rw[Int.tdiv_eq_ediv_of_nonneg oo];omega
theorem Fd{m : Nat}: ∀ {k : Nat}, m<65536 ^ k -> (dig 65536 m).length <= k := by
  intro k
  induction k generalizing m with
  | zero => intro h;obtain rfl : m = 0 := by simpa using h
            simp[Rt]
  | succ k ih=>
    intro h
    by_cases h0 : m = 0
    · subst h0;simp[Rt]
    · rw[Sf oo h0, length_cons];have := ih (m := m / 65536) (Nat.div_lt_of_lt_mul (by rw[Nat.pow_succ, Nat.mul_comm] at h;exact h));omega
theorem Aac{z:Int}(h1:-9223372036854775808<=z)(h2:z<=9223372036854775807):Bh z=some (Z16 z):=by
 have key:∀ m:Nat,m<18446744073709551616->lfix Jy ((m:Int),([]:List Int))=some (L16 m):=by
  intro m hm;have h4:(dig 65536 m).length<=4:=Fd oo;obtain⟨t,ht,hR⟩:=Bk (B:=Jy) (fun s=>s.1.toNat)
   (fun s=>∃ (u:Nat) (o:List Nat),s=((u:Int),nI o)/\dig 65536 m=o++dig 65536 u/\u<18446744073709551616)
   (fun t=>t=L16 m) (by
    rintro s ⟨u,o,rfl,hd,hu⟩;unfold Jy
    by_cases h0:u=0
    ·right;subst h0;exact⟨_,by simp only[];rw[if_neg oo],by rw[Rt,append_nil] at hd;unfold L16;rw[hd]⟩
    ·left;have ho:o.length<=4:=by have:=congrArg List.length hd;rw[length_append] at this;omega
     refine⟨(((u / 65536:Nat):Int),nI (o++[u % 65536])),?_,⟨u / 65536,_,rfl,?_,oo⟩,by simp;omega⟩
     ·simp only[Cp];rw[if_pos oo,gd_t oo,Ap9,Ap8,Rc oo,Qd oo];simp[nI]
     ·rw[hd,Sf oo h0,append_assoc];rfl)
   ((m:Int),nI []) ⟨m,[],rfl,rfl,hm⟩
  rw[<- hR];exact ht
 unfold Bh;simp only[jn_d]
 by_cases h:z<0
 ·rw[if_pos h,show wu64 (-(wu64 z))=((z.natAbs:Nat):Int) from by rw[Vs,Vs];omega,key _ oo,Ae];rfl
 ·rw[if_neg h,show wu64 z=((z.natAbs:Nat):Int) from by rw[Vs];omega,key _ oo,Ae];rfl
theorem Az0(l r:List Nat)(hl:∀ x∈l,x<65536)(hr:∀ x∈r,x<65536)(hb:l.length+r.length<=1000000):
  Ct (nI l) (nI r)=some (L16 (val 65536 l*val 65536 r)):=by
 have e:w64 ((((nI l).length:Nat):Int)+(((nI r).length:Nat):Int))=((l.length+r.length:Nat):Int):=by rw[Cp,Cp,Av oo oo];omega
 obtain⟨t,ht,out,rfl,hd⟩:=Bk (B:=Hc (nI l) (nI r)) (fun s=>l.length-s.2.toNat)
  (fun s=>∃ (out:List Nat) (i:Nat),s=(nI out,(i:Int))/\out.length=l.length+r.length/\i<=l.length/\(∀ x∈out,x<65536)/\(∀ (q:Nat) (h:q<out.length),i+r.length<=q->out[q]=0)/\val 65536 out=val 65536 (l.take i)*val 65536 r)
  (fun t=>∃ out,t=nI out/\out.length<=1000000000/\nrm out=dig 65536 (val 65536 l*val 65536 r)) (by
   rintro s ⟨out0,i,rfl,hC1,hC2,hC3,hC4,hC5⟩
   by_cases hi:i<l.length
   ·left;obtain⟨t,ht,out,cy,rfl,hD1,hD2,hD4,hD5,hD6⟩:=Bk (B:=Hb (nI r) (nI l) (nI out0,(i:Int))) (fun s=>r.length-s.2.2.toNat)
     (fun s=>∃ (out:List Nat) (cy j:Nat),s=(nI out,(cy:Int),(j:Int))/\out.length=l.length+r.length/\cy<65536/\j<=r.length/\(∀ x∈out,x<65536)/\(∀ (q:Nat) (h:q<out.length),i+r.length<=q->out[q]=0)/\val 65536 out+cy*65536 ^ (i+j)=val 65536 out0+l[i] * val 65536 (r.take j)*65536 ^ i)
     (fun t=>∃ (out:List Nat) (cy:Nat),t=(nI out,(cy:Int))/\out.length=l.length+r.length/\cy<65536/\(∀ x∈out,x<65536)/\(∀ (q:Nat) (h:q<out.length),i+r.length<=q->out[q]=0)/\val 65536 out+cy*65536 ^ (i+r.length)=val 65536 out0+l[i] * val 65536 (r.take r.length)*65536 ^ i) (by
      rintro s ⟨out,cy,j,rfl,hD1,hD2,hD3,hD4,hD5,hD6⟩
      by_cases hj:j<r.length
      ·left;have hk:i+j<out.length:=oo;have h1:=hl _ (getElem_mem hi);have h2:=hr _ (getElem_mem hj);have h3:=hD4 _ (getElem_mem hk);have hmm:=Aoy h1 h2;have e1:w64 ((i:Int)+(j:Int))=((i+j:Nat):Int):=by rw[Av oo oo];omega
       have e2:w64 (w64 (w64 ((l[i]:Int)*(r[j]:Int))+(out[i+j]:Int))+(cy:Int))=((l[i] * r[j] + out[i+j] + cy:Nat):Int):=by
        have e3:w64 ((l[i]:Int)*(r[j]:Int))=((l[i] * r[j]:Nat):Int):=by rw[<- Int.natCast_mul];exact Rc oo
        rw[e3,<- Int.natCast_add,Rc oo,<- Int.natCast_add,Rc oo]
       have e4:w64 (((l[i] * r[j] + out[i+j] + cy) / 65536:Nat):Int)=(((l[i] * r[j] + out[i+j] + cy) / 65536:Nat):Int):=Rc oo;refine⟨(nI (out.set (i+j) ((l[i] * r[j] + out[i+j] + cy) % 65536)),(((l[i] * r[j] + out[i+j] + cy) / 65536:Nat):Int),((j+1:Nat):Int)),?_,⟨_,_,_,rfl,Aoz hi hj rfl rfl h1 h2 hD1 hD2 hD3 hD4 hD5 hD6 hk⟩,by simp;omega⟩;unfold Hb;simp only[e1];rw[if_pos (by rw[Cp];omega),Dw hi,Ae,Dw hj,Ae,Dw hk,Ae,Ae,e2,Ap8,Ap9,e4,Xa,Bg oo]
      ·right;obtain rfl:j=r.length:=oo;refine⟨(nI out,(cy:Int)),?_,out,cy,rfl,hD1,hD2,hD4,hD5,hD6⟩;unfold Hb;simp only[];rw[if_neg (by rw[Cp];omega)])
     (nI out0,((0:Nat):Int),((0:Nat):Int)) ⟨out0,0,0,rfl,hC1,oo,oo,hC3,fun q hq hiq=>hC4 q hq oo,by simp[val]⟩
    have hk:i+r.length<out.length:=oo;refine⟨(nI (out.set (i+r.length) (cy % 65536)),((i+1:Nat):Int)),?_,⟨_,_,rfl,Ao0 hi rfl rfl hD1 hD2 hD4 hD5 hD6 hC5 rfl⟩,by simp;omega⟩;unfold Hc;simp only[jn_d];have ht':lfix (Hb (nI r) (nI l) (nI out0,(i:Int))) (nI out0,0,0)=some (nI out,(cy:Int)):=ht;rw[if_pos (by rw[Cp];omega),ht',Ae,Cp,show w64 ((i:Int)+(r.length:Int))=((i+r.length:Nat):Int) from by rw[Av oo oo];omega,Dw hk,Ae];simp only[];rw[Xa,Bg oo,Nat.mod_eq_of_lt hD2]
   ·right;refine⟨nI out0,?_,out0,rfl,oo,Aqw (i:=i) oo rfl hC1 hC3 hC5⟩;unfold Hc;simp only[];rw[if_neg (by rw[Cp];omega)])
  (nI (List.replicate (l.length+r.length) 0),((0:Nat):Int)) ⟨_,0,rfl,by simp,oo,by simp,by simp,by simp[val,Aak]⟩
 unfold Ct;simp only[e,jn_d,Int.toNat_natCast,Aaa];have ht':lfix (Hc (nI l) (nI r)) (nI (List.replicate (l.length+r.length) 0),0)=some (nI out):=ht;rw[gd_t ⟨oo,oo⟩,ht',Ae,Afl _ hd.1,Ae,hd.2];rfl
theorem Awb(a b:Nat)(ha:(dig 65536 a).length<=1000000):Ee (L16 a) (L16 b)=some (cmpN a b):=by
 unfold Ee L16;rw[Cp,Cp]
 by_cases hlen:(dig 65536 a).length=(dig 65536 b).length
 ·obtain⟨t,ht,hR⟩:=Bk (B:=Mh (nI (dig 65536 a)) (nI (dig 65536 b))) (fun s=>(s+1).toNat)
   (fun s=>∃ k:Nat,s=(k:Int)-1/\k<=(dig 65536 a).length/\∀ (j:Nat) (h:j<(dig 65536 a).length) (h':j<(dig 65536 b).length),k<=j->(dig 65536 a)[j]=(dig 65536 b)[j])
   (fun t=>(t = .inl ()/\cmpN a b=0)\/t = .inr (cmpN a b)) (by
    rintro s ⟨k,rfl,hk,heq⟩;unfold Mh
    by_cases h0:k=0
    ·right;subst h0;refine⟨_,by rw[if_neg oo],.inl ⟨rfl,Ayd oo hlen (fun j h h'=>heq j h h' oo)⟩⟩
    ·have h1:k-1<(dig 65536 a).length:=oo;have h2:k-1<(dig 65536 b).length:=oo;have hat:=Ayc (b:=65536) oo hlen h1 h2 (fun j h h' hj=>heq j h h' oo);rw[if_pos oo,show ((k:Int)-1)=((k-1:Nat):Int) from by omega,Dw h1,Ae,Dw h2,Ae]
     by_cases he:(dig 65536 a)[k-1]=(dig 65536 b)[k-1]
     ·left;refine⟨((k-1:Nat):Int)-1,by rw[if_pos (by rw[he]),Av oo oo],⟨k-1,rfl,oo,fun j h h' hj=>?_⟩,oo⟩;rcases Nat.lt_or_ge (k-1) j with hq | hq
      ·exact heq j h h' oo
      ·obtain rfl:j=k-1:=oo;exact he
     ·right;rw[if_neg oo,Ae,Ae]
      by_cases hlt:(dig 65536 a)[k-1]<(dig 65536 b)[k-1]
      ·exact⟨_,by rw[if_pos oo],.inr (by rw[hat.1 hlt])⟩
      ·exact⟨_,by rw[if_neg oo],.inr (by rw[hat.2 oo])⟩)
   (((dig 65536 a).length:Int)-1) ⟨_,rfl,Nat.le_refl _,fun j h h' hj=>oo⟩
  rw[if_pos oo,jn_d,Av oo oo,ht,Ae];rcases hR with⟨rfl,h0⟩ | rfl
  ·simp only[h0]
  ·rfl
 ·rw[if_neg oo]
  by_cases hlt:(dig 65536 a).length<(dig 65536 b).length
  ·rw[if_pos oo,(Aih (b:=65536) oo rfl rfl).1 hlt]
  ·rw[if_neg oo,(Aih (b:=65536) oo rfl rfl).2 oo]
theorem Bb2:([1]:List Int)=L16 1:=by unfold L16;rw[Aig oo];rfl
theorem Ats(l r o:List Nat)(cy i:Nat)(hl:∀ x∈l,x<65536)(hr:∀ x∈r,x<65536)(hcy:cy<=1)(hi:i<=1000001)(ho:o.length=i):
  Ih (nI r) (nI l) (nI o,(cy:Int),(i:Int))=if i<l.length\/i<r.length\/0<cy then some (.inl (nI (o++[(cy+l.getD i 0+r.getD i 0) % 65536]),(((cy+l.getD i 0+r.getD i 0) / 65536:Nat):Int),((i+1:Nat):Int))) else some (.inr (nI o)):=by
 have h1:=Ac4 hl i;have h2:=Ac4 hr i;have fin:∀ s:Nat,s<=131071->(nI o++[Int.tmod (s:Int) 65536],w64 (Int.tdiv (s:Int) 65536),w64 ((i:Int)+1))=(nI (o++[s % 65536]),((s / 65536:Nat):Int),((i+1:Nat):Int)):=by
  intro s hs;rw[Ap8,Ap9,Rc oo,Bg oo];simp[nI]
 unfold Ih;simp only[jn_d,Cp]
 by_cases hn:i<l.length
 ·rw[if_pos (show (i:Int)<(l.length:Int) by omega),if_pos trivial,if_pos (show (i:Int)<(l.length:Int) by omega),Dw hn,Ae,if_pos (show i<l.length\/i<r.length\/0<cy from .inl hn)];rw[show w64 ((cy:Int)+(l[i]:Int))=((cy+l.getD i 0:Nat):Int) from by rw[Xb hn] at *;rw[Av oo oo];omega]
  by_cases hm:i<r.length
  ·rw[if_pos (show (i:Int)<(r.length:Int) by omega),Dw hm,Ae,gd_t oo];rw[show w64 (((cy+l.getD i 0:Nat):Int)+(r[i]:Int))=((cy+l.getD i 0+r.getD i 0:Nat):Int) from by rw[Xb hm] at *;rw[Av oo oo];omega];rw[fin _ oo]
  ·rw[if_neg (show ¬ (i:Int)<(r.length:Int) by omega),gd_t oo,fin _ oo,Rk hm];rfl
 ·rw[if_neg (show ¬ (i:Int)<(l.length:Int) by omega)]
  by_cases hm:i<r.length
  ·rw[if_pos (show (i:Int)<(r.length:Int) by omega),if_pos trivial,if_neg (show ¬ (i:Int)<(l.length:Int) by omega),if_pos (show (i:Int)<(r.length:Int) by omega),Dw hm,Ae,gd_t oo,if_pos (show i<l.length\/i<r.length\/0<cy from .inr (.inl hm)),Rk hn,Nat.add_zero];rw[show w64 ((cy:Int)+(r[i]:Int))=((cy+r.getD i 0:Nat):Int) from by rw[Xb hm] at *;rw[Av oo oo];omega];rw[fin _ oo]
  ·rw[if_neg (show ¬ (i:Int)<(r.length:Int) by omega)]
   by_cases hc:0<cy
   ·rw[if_pos (by simpa using hc),if_neg (show ¬ (i:Int)<(l.length:Int) by omega),if_neg (show ¬ (i:Int)<(r.length:Int) by omega),gd_t oo,fin _ oo,if_pos (show i<l.length\/i<r.length\/0<cy from .inr (.inr hc)),Rk hn,Rk hm];rfl
   ·rw[if_neg (by simpa using hc),if_neg oo]
theorem Bc2(l r:List Nat)(hl:∀ x∈l,x<65536)(hr:∀ x∈r,x<65536)(h1:l.length<=1000000)(h2:r.length<=1000000):
  Hg (nI l) (nI r)=some (L16 (val 65536 l+val 65536 r)):=by
 obtain⟨t,ht,out,rfl,hd⟩:=Bk (B:=Ih (nI r) (nI l)) (fun s=>2*(max l.length r.length-s.2.2.toNat)+s.2.1.toNat)
  (fun s=>∃ (o:List Nat) (cy i:Nat),s=(nI o,(cy:Int),(i:Int))/\o.length=i/\cy<=1/\i<=max l.length r.length+1/\(i=max l.length r.length+1->cy=0)/\(∀ x∈o,x<65536)/\val 65536 o+cy*65536 ^ i=val 65536 (l.take i)+val 65536 (r.take i))
  (fun t=>∃ out,t=nI out/\out.length<=1000000000/\nrm out=dig 65536 (val 65536 l+val 65536 r)) (by
   rintro s ⟨o,cy,i,rfl,hC1,hC2,hC3,hC0,hC4,hC5⟩;have g1:=Ac4 hl i;have g2:=Ac4 hr i;rw[Ats l r o cy i hl hr hC2 oo hC1]
   by_cases hc:i<l.length\/i<r.length\/0<cy
   ·left;rw[if_pos hc];refine⟨_,rfl,⟨_,_,_,rfl,by simp[hC1],oo,oo,fun he=>?_,?_,?_⟩,?_⟩
    ·rw[Rk (show ¬ i<l.length by omega),Rk (show ¬ i<r.length by omega)];omega
    ·intro x hx;rcases mem_append.1 hx with hx | hx
     ·exact hC4 x hx
     ·simp at hx;omega
    ·rw[Yd,hC1,Ty,Ty];have e:val 65536 [(cy+l.getD i 0+r.getD i 0) % 65536]=(cy+l.getD i 0+r.getD i 0) % 65536:=by simp[val]
     rw[e];have e2:=Nat.div_add_mod (cy+l.getD i 0+r.getD i 0) 65536;have e3:=congrArg (· * 65536 ^ i) e2;simp only[Nat.add_mul] at e3;have e4:65536 ^ (i+1)=65536*65536 ^ i:=by rw[Nat.pow_succ,Nat.mul_comm]
     rw[e4];generalize 65536 ^ i=P at *;generalize (cy+l.getD i 0+r.getD i 0) % 65536=M at *;generalize (cy+l.getD i 0+r.getD i 0) / 65536=D at *;generalize l.getD i 0=a at *;generalize r.getD i 0=b at *;have e5:D*(65536*P)=65536*D*P:=by grind
     have e6:P*M=M*P:=Nat.mul_comm _ _;have e7:P*a=a*P:=Nat.mul_comm _ _;have e8:P*b=b*P:=Nat.mul_comm _ _;omega
    ·simp only[Int.toNat_natCast]
     by_cases hb:i<l.length\/i<r.length
     ·omega
     ·rw[Rk (show ¬ i<l.length by omega),Rk (show ¬ i<r.length by omega)];omega
   ·right;rw[if_neg hc];refine⟨_,rfl,o,rfl,oo,?_⟩;have:cy=0:=oo;subst this;rw[Yc (b:=65536) oo o hC4];rw[take_of_length_le oo,take_of_length_le oo] at hC5;rw[show val 65536 o=val 65536 l+val 65536 r by omega])
  (nI [],((0:Nat):Int),((0:Nat):Int)) ⟨[],0,0,rfl,rfl,oo,oo,oo,by simp,by simp[val]⟩
 unfold Hg;have ht':lfix (Ih (nI r) (nI l)) ([],0,0)=some (nI out):=ht;simp only[jn_d];rw[ht',Ae,Afl _ hd.1,Ae,hd.2];rfl
theorem Att(l r o:List Nat)(bw i:Nat)(hi:i<l.length)(hl:∀ x∈l,x<65536)(hr:∀ x∈r,x<65536)(hb:bw<=1)(h9:l.length<=1000000)(ho:o.length=i):
  ∃ d b':Nat,Ga (nI l) (nI r) (nI o,(bw:Int),(i:Int))=some (.inl (nI (o++[d]),(b':Int),((i+1:Nat):Int)))/\d<65536/\b'<=1/\d+bw+r.getD i 0=l.getD i 0+65536*b':=by
 have h1:=Ac4 hl i;have h2:=Ac4 hr i;unfold Ga;simp only[jn_d,Cp];rw[if_pos (show (i:Int)<(l.length:Int) by omega),Dw hi,Ae];rw[Xb hi] at *;have fin:∀ t:Int,t=(l[i]:Int)-bw-(r.getD i 0:Int)->∃ d b':Nat,(if t<0 then gd (((nI o).length+1)*8<=140737488355328) (some (Sum.inl (β:=List Int) (nI o++[w64 (t+65536)],(1:Int),w64 ((i:Int)+1)))) else gd (((nI o).length+1)*8<=140737488355328) (some (.inl (nI o++[t],(0:Int),w64 ((i:Int)+1)))))=some (.inl (nI (o++[d]),(b':Int),((i+1:Nat):Int)))/\d<65536/\b'<=1/\d+bw+r.getD i 0=l[i] + 65536*b':=by
  intro t ht;rw[gd_t (by rw[Cp];omega),gd_t (by rw[Cp];omega),Bg oo]
  by_cases h0:t<0
  ·refine⟨(t+65536).toNat,1,?_,oo,oo,oo⟩;rw[if_pos h0,Av oo oo];simp[nI,Int.toNat_of_nonneg (show 0<=t+65536 by omega)]
  ·refine⟨t.toNat,0,?_,oo,oo,oo⟩;rw[if_neg h0];simp[nI,Int.toNat_of_nonneg (show 0<=t by omega)]
 by_cases hm:i<r.length
 ·rw[if_pos (show (i:Int)<(r.length:Int) by omega),Dw hm,Ae];have:=fin (w64 (w64 ((l[i]:Int)-(bw:Int))-(r[i]:Int))) (by rw[Xb hm] at *;rw[Av (x:=(l[i]:Int)-(bw:Int)) oo oo,Av oo oo]);simpa only[Cp] using this
 ·rw[if_neg (show ¬ (i:Int)<(r.length:Int) by omega)];have:=fin (w64 ((l[i]:Int)-(bw:Int))) (by rw[Rk hm,Av oo oo];omega);simpa only[Cp] using this
theorem Bc3(l r:List Nat)(hl:∀ x∈l,x<65536)(hr:∀ x∈r,x<65536)(h1:l.length<=1000000)(h2:r.length<=l.length)(hle:val 65536 r<=val 65536 l):
  Ei (nI l) (nI r)=some (L16 (val 65536 l-val 65536 r)):=by
 obtain⟨t,ht,out,rfl,hd⟩:=Bk (B:=Ga (nI l) (nI r)) (fun s=>l.length-s.2.2.toNat)
  (fun s=>∃ (o:List Nat) (bw i:Nat),s=(nI o,(bw:Int),(i:Int))/\o.length=i/\bw<=1/\i<=l.length/\(∀ x∈o,x<65536)/\val 65536 o+val 65536 (r.take i)=val 65536 (l.take i)+bw*65536 ^ i)
  (fun t=>∃ out,t=nI out/\out.length<=1000000000/\nrm out=dig 65536 (val 65536 l-val 65536 r)) (by
   rintro s ⟨o,bw,i,rfl,hC1,hC2,hC3,hC4,hC5⟩
   by_cases hi:i<l.length
   ·left;obtain⟨d,b',hB,hd1,hb1,he⟩:=Att l r o bw i hi hl hr hC2 h1 hC1;refine⟨_,hB,⟨_,_,_,rfl,by simp[hC1],hb1,oo,?_,?_⟩,by simp;omega⟩
    ·intro x hx;rcases mem_append.1 hx with hx | hx
     ·exact hC4 x hx
     ·simp at hx;omega
    ·rw[Yd,hC1,Ty,Ty];have e:val 65536 [d]=d:=by simp[val]
     rw[e];have e3:=congrArg (· * 65536 ^ i) he;simp only[Nat.add_mul] at e3;have e4:65536 ^ (i+1)=65536*65536 ^ i:=by rw[Nat.pow_succ,Nat.mul_comm]
     rw[e4];generalize 65536 ^ i=P at *;generalize l.getD i 0=a at *;generalize r.getD i 0=b at *;have e5:b' * (65536*P)=65536*b' * P:=by grind
     have e6:P*d=d*P:=Nat.mul_comm _ _;have e7:P*a=a*P:=Nat.mul_comm _ _;have e8:P*b=b*P:=Nat.mul_comm _ _;omega
   ·right;have hil:i=l.length:=oo;refine⟨nI o,?_,o,rfl,oo,?_⟩
    ·unfold Ga;simp only[Cp];rw[if_neg oo]
    ·rw[take_of_length_le oo,take_of_length_le oo] at hC5;rw[Yc (b:=65536) oo o hC4];have hlt:=Agv o hC4;rw[hC1] at hlt;have:bw=0\/bw=1:=oo;rcases this with rfl | rfl
     ·rw[show val 65536 o=val 65536 l-val 65536 r by omega]
     ·omega)
  (nI [],((0:Nat):Int),((0:Nat):Int)) ⟨[],0,0,rfl,rfl,oo,oo,by simp,by simp[val]⟩
 unfold Ei;have ht':lfix (Ga (nI l) (nI r)) ([],0,0)=some (nI out):=ht;simp only[jn_d];rw[ht',Ae,Afl _ hd.1,Ae,hd.2];rfl
theorem Aia{a:Nat}:(L16 a).length=0↔a=0:=by
 unfold L16;rw[Cp,length_eq_zero_iff,Xe oo]
theorem Agj{a:Nat}:∀ x∈dig 65536 a,x<65536:=Ow oo a
theorem Awc{a b:Nat}(ha:(dig 65536 a).length<=1000000)(hb:(dig 65536 b).length<=1000000):Hg (L16 a) (L16 b)=some (L16 (a+b)):=by
 have:=Bc2 _ _ (Agj (a:=a)) (Agj (a:=b)) ha hb
 rwa [Dm oo,Dm oo] at this
theorem Sv{a b:Nat}(h:a<=b):(dig 65536 a).length<=(dig 65536 b).length:=by
 rcases Nat.lt_or_ge (dig 65536 b).length (dig 65536 a).length with h1 | h1
 ·have:=Aa7 (b:=65536) oo h1;omega
 ·exact h1
theorem Aml{a b:Nat}(ha:(dig 65536 a).length<=1000000)(h:b<=a):Ei (L16 a) (L16 b)=some (L16 (a-b)):=by
 have:=Bc3 _ _ (Agj (a:=a)) (Agj (a:=b)) ha (Sv h) (by rw[Dm oo,Dm oo];exact h)
 rwa [Dm oo,Dm oo] at this
theorem Ac5{a b:Nat}(h:(dig 65536 a).length+(dig 65536 b).length<=1000000):Ct (L16 a) (L16 b)=some (L16 (a*b)):=by
 have:=Az0 _ _ (Agj (a:=a)) (Agj (a:=b)) h
 rwa [Dm oo,Dm oo] at this
theorem Adw{z:Int}:(Z16 z).L=L16 z.natAbs:=rfl
theorem Oe{z:Int}:(Z16 z).Neg=decide (z<0):=rfl
theorem Aiy{b:Bool}{l:List Int}{z:Int}(h1:b=decide (z<0))(h2:l=L16 z.natAbs):(some ⟨b,l⟩:Option Ah)=some (Z16 z):=by subst h1;subst h2;rfl
theorem Bb3{x y:Int}(hx:(dig 65536 x.natAbs).length<=1000000)(hy:(dig 65536 y.natAbs).length<=1000000):Hv (Z16 x) (Z16 y)=some (Z16 (x+y)):=by
 unfold Hv;simp only[Adw]
 by_cases hs':x<0↔y<0
 ·rw[if_pos (by rw[Oe,Oe];by_cases h:x<0 <;> simp[h] <;> omega),Awc hx hy,Ae];refine Aiy ?_ ?_
  ·rw[Oe];by_cases h:x<0 <;> simp[h] <;> omega
  ·congr 1;omega
 ·rw[if_neg (by rw[Oe,Oe];by_cases h:x<0 <;> simp[h] <;> omega),Awb _ _ hx,Ae]
  by_cases h1:x.natAbs<y.natAbs
  ·rw[show cmpN x.natAbs y.natAbs = -1 from if_pos h1,if_neg dD,if_neg dD,Aml hy oo,Ae];refine Aiy ?_ ?_
   ·rw[Oe];by_cases h:y<0 <;> simp[h] <;> omega
   ·congr 1;omega
  ·by_cases h2:x.natAbs=y.natAbs
   ·rw[show cmpN x.natAbs y.natAbs=0 from (if_neg h1).trans (if_pos h2),if_pos rfl];have:x+y=0:=oo;rw[this];rfl
   ·rw[show cmpN x.natAbs y.natAbs=1 from (if_neg h1).trans (if_neg h2),if_neg dD,if_pos dD,Aml hx oo,Ae];refine Aiy ?_ ?_
    ·rw[Oe];by_cases h:x<0 <;> simp[h] <;> omega
    ·congr 1;omega
theorem Awd{z y:Int}:(!(decide (z<0) == decide (y<0)) && !decide (z.natAbs*y.natAbs=0))=decide (z*y<0):=by
 by_cases hz0:z=0
 ·subst hz0;simp
 by_cases hy0:y=0
 ·subst hy0;simp
 have h1:z.natAbs*y.natAbs≠0:=Nat.mul_ne_zero oo oo;rw[decide_eq_false h1];rcases Int.lt_or_le z 0 with hz | hz
 ·rcases Int.lt_or_le y 0 with hy | hy
  ·have:=Int.mul_pos_of_neg_of_neg hz hy;rw[decide_eq_true hz,decide_eq_true hy,decide_eq_false (show ¬ z*y<0 by omega)];rfl
  ·have:=Int.mul_neg_of_neg_of_pos hz (show 0<y by omega);rw[decide_eq_true hz,decide_eq_false (show ¬ y<0 by omega),decide_eq_true this];rfl
 ·rcases Int.lt_or_le y 0 with hy | hy
  ·have:=Int.mul_neg_of_pos_of_neg (show 0<z by omega) hy;rw[decide_eq_true hy,decide_eq_false (show ¬ z<0 by omega),decide_eq_true this];rfl
  ·have:=Int.mul_pos (show 0<z by omega) (show 0<y by omega);rw[decide_eq_false (show ¬ z<0 by omega),decide_eq_false (show ¬ y<0 by omega),decide_eq_false (show ¬ z*y<0 by omega)];rfl
set_option maxRecDepth 100000 in
theorem Ak9{x y:Int}(h:(dig 65536 x.natAbs).length+(dig 65536 y.natAbs).length<=1000000):Bc (Z16 x) (Z16 y)=some (Z16 (x*y)):=by
 unfold Bc;simp only[Adw,jn_d];rw[Ac5 h,Ae];have hsg:=Awd (z:=x) (y:=y);have e2:=Aia (a:=x.natAbs*y.natAbs)
 by_cases hs':x<0↔y<0
 ·rw[if_pos (by rw[Oe,Oe];by_cases h:x<0 <;> simp[h] <;> omega)];refine Aiy ?_ (by rw[Int.natAbs_mul]);rw[<- hsg];have e:(decide (x<0) == decide (y<0))=true:=by by_cases h:x<0 <;> simp[h] <;> omega
  rw[e];rfl
 ·rw[if_neg (by rw[Oe,Oe];by_cases h:x<0 <;> simp[h] <;> omega)];refine Aiy ?_ (by rw[Int.natAbs_mul]);rw[<- hsg];have e:(decide (x<0) == decide (y<0))=false:=by by_cases h:x<0 <;> simp[h] <;> omega
  rw[e]
  by_cases h0:x.natAbs*y.natAbs=0
  ·have:=e2.2 h0;rw[decide_eq_true h0,decide_eq_false oo];rfl
  ·have:(L16 (x.natAbs*y.natAbs)).length≠0:=fun e=>h0 (e2.1 e)
   rw[decide_eq_false h0,decide_eq_true oo];rfl
end Go.Proofs.YthlkpgdfifnagaaGreat
