import Derived.Test.YtjfndjmabhbicabGreatR2
namespace Go.Proofs.YtjfndjmabhbicabGreat
open Go Go.RowKit List
def nI(l:List Nat):List Int:=l.map (fun x:Nat=>(x:Int))
def L32(m:Nat):List Int:=nI (dig 4294967296 m)
theorem Cp{l:List Nat}:(nI l).length=l.length:=by simp[nI]
theorem Dw{l:List Nat}{j:Nat}(h:j<l.length):idx (nI l) (j:Int)=some ((l[j]:Nat):Int):=by
 rw[At (by rw[Cp];exact h)];simp[nI]
theorem Zs(n:Nat):(List.replicate n (0:Int))=nI (List.replicate n 0):=by simp[nI]
theorem Wm{l:List Nat}{j v:Nat}:setI (nI l) (j:Int) (v:Int)=nI (l.set j v):=by rw[Xv];simp[nI,map_set]
theorem Avl{n:Nat}(h:n<4294967296):wu32 (n:Int)=n:=Ajj .u32 n (by simp only[top];omega)
theorem Xj{n:Nat}(h:n<18446744073709551616):wu64 (n:Int)=n:=Ajj .u64 n (by simp only[top];omega)
theorem Ae9(l:List Nat)(h9:l.length<=1000000):Fq (nI l)=some (nI (nrm l)):=by
 obtain⟨t,ht,hR⟩:=Bk (B:=Qr) (fun s=>s.length)
  (fun s=>∃ k:Nat,k<=l.length/\s=nI (l.take k)/\∀ (j:Nat) (h:j<l.length),k<=j->l[j]=0)
  (fun t=>t=nI (nrm l)) (by
   rintro s ⟨k,hk,rfl,hz⟩;have hlen:(l.take k).length=k:=by rw[length_take];omega
   unfold Qr;simp only[jn_d,Cp,hlen]
   by_cases h0:k=0
   ·right;subst h0;rw[if_neg oo,if_neg (by simp)];refine⟨_,rfl,?_⟩;rw[Agm l (fun x hx=>by obtain⟨j,hj,rfl⟩:=getElem_of_mem hx;exact hz j hj oo)];rfl
   ·rw[if_pos oo]
    ·rw[Av oo oo,show ((k:Int)-1)=((k-1:Nat):Int) from by omega,Dw oo,Ae];have e:(l.take k)[k-1]'oo=l[k-1]:=by rw[getElem_take]
     rw[e]
     by_cases hx:l[k-1]=0
     ·left;refine⟨nI (l.take (k-1)),?_,⟨k-1,oo,rfl,fun j h hj=>?_⟩,by simp only[Cp,length_take];omega⟩
      ·rw[if_pos (by rw[hx];rfl),gd_t ⟨oo,oo⟩];congr 2;simp only[subl,nI,Int.toNat_natCast,Int.toNat_zero,drop_zero,<- map_take,take_take];rw[show min (k-1) k=k-1 by omega]
      ·rcases Nat.lt_or_ge (k-1) j with hq | hq
       ·exact hz j h oo
       ·obtain rfl:j=k-1:=oo;exact hx
     ·right;rw[if_neg (by rw[decide_eq_true_eq];omega)];refine⟨_,rfl,?_⟩;have h1:=Ax0 l k hk hz (fun h0' h'=>hx)
      conv=>rhs;rw[Aok,h1])
  (nI l) ⟨l.length,oo,by rw[take_length],fun j h hj=>oo⟩
 unfold Fq;simp only[jn_d];rw[ht,Ae,hR]
theorem Afa(n:Nat):wu32 (n:Int)=((n % 4294967296:Nat):Int):=by
 show IntKind.u32.wrap (n:Int)=_;simp[IntKind.wrap,IntKind.bits,IntKind.signed]
theorem Avm(n:Nat):shr_ .u64 (n:Int) 32=((n / 4294967296:Nat):Int):=by
 show (n:Int).fdiv (2 ^ (min (32:Int).toNat 64))=_;rw[show (2:Int) ^ (min (32:Int).toNat 64)=4294967296 from by decide,Int.fdiv_eq_ediv_of_nonneg _ oo];omega
theorem Avn(l r:List Nat)(hl:∀ x∈l,x<4294967296)(hr:∀ x∈r,x<4294967296)(hb:l.length+r.length<=1000000):
  Eh (nI l) (nI r)=some (L32 (val 4294967296 l*val 4294967296 r)):=by
 have e:w64 ((((nI l).length:Nat):Int)+(((nI r).length:Nat):Int))=((l.length+r.length:Nat):Int):=by rw[Cp,Cp,Av oo oo];omega
 obtain⟨t,ht,out,rfl,hd,hlo⟩:=Bk (B:=Ks (nI l) (nI r)) (fun s=>l.length-s.2.toNat)
  (fun s=>∃ (out:List Nat) (i:Nat),s=(nI out,(i:Int))/\out.length=l.length+r.length/\i<=l.length/\(∀ x∈out,x<4294967296)/\(∀ (q:Nat) (h:q<out.length),i+r.length<=q->out[q]=0)/\val 4294967296 out=val 4294967296 (l.take i)*val 4294967296 r)
  (fun t=>∃ out,t=nI out/\nrm out=dig 4294967296 (val 4294967296 l*val 4294967296 r)/\out.length<=1000000) (by
   rintro s ⟨out0,i,rfl,hC1,hC2,hC3,hC4,hC5⟩
   by_cases hi:i<l.length
   ·left;obtain⟨t,ht,out,cy,rfl,hD1,hD2,hD4,hD5,hD6⟩:=Bk (B:=Kr (nI r) (nI out0,(i:Int)) (l[i]:Int)) (fun s=>r.length-s.2.2.toNat)
     (fun s=>∃ (out:List Nat) (cy j:Nat),s=(nI out,(cy:Int),(j:Int))/\out.length=l.length+r.length/\cy<4294967296/\j<=r.length/\(∀ x∈out,x<4294967296)/\(∀ (q:Nat) (h:q<out.length),i+r.length<=q->out[q]=0)/\val 4294967296 out+cy*4294967296 ^ (i+j)=val 4294967296 out0+l[i] * val 4294967296 (r.take j)*4294967296 ^ i)
     (fun t=>∃ (out:List Nat) (cy:Nat),t=(nI out,(cy:Int))/\out.length=l.length+r.length/\cy<4294967296/\(∀ x∈out,x<4294967296)/\(∀ (q:Nat) (h:q<out.length),i+r.length<=q->out[q]=0)/\val 4294967296 out+cy*4294967296 ^ (i+r.length)=val 4294967296 out0+l[i] * val 4294967296 (r.take r.length)*4294967296 ^ i) (by
      rintro s ⟨out,cy,j,rfl,hD1,hD2,hD3,hD4,hD5,hD6⟩
      by_cases hj:j<r.length
      ·left;have hk:i+j<out.length:=oo;have h1:=hl _ (getElem_mem hi);have h2:=hr _ (getElem_mem hj);have h3:=hD4 _ (getElem_mem hk);have hmm:=Aol h1 h2;have e1:w64 ((i:Int)+(j:Int))=((i+j:Nat):Int):=by rw[Av oo oo];omega
       have e2:wu64 (wu64 (wu64 (wu64 (l[i]:Int)*wu64 (r[j]:Int))+wu64 (out[i+j]:Int))+(cy:Int))=((l[i] * r[j] + out[i+j] + cy:Nat):Int):=by
        rw[Xj (n:=l[i]) oo,Xj (n:=r[j]) oo,Xj (n:=out[i+j]) oo,<- Int.natCast_mul,Xj oo,<- Int.natCast_add,Xj oo,<- Int.natCast_add,Xj oo]
       have e4:wu32 ((l[i] * r[j] + out[i+j] + cy:Nat):Int)=(((l[i] * r[j] + out[i+j] + cy) % 4294967296:Nat):Int):=Afa _;refine⟨(nI (out.set (i+j) ((l[i] * r[j] + out[i+j] + cy) % 4294967296)),(((l[i] * r[j] + out[i+j] + cy) / 4294967296:Nat):Int),((j+1:Nat):Int)),?_,⟨_,_,_,rfl,Aub hi hj rfl rfl h1 h2 hD1 hD2 hD3 hD4 hD5 hD6 hk⟩,by simp;omega⟩;unfold Kr;simp only[e1];rw[if_pos (by rw[Cp];omega),Dw hj,Ae,Dw hk,Ae,Ae,e2,e4,Avm,Wm,Bj oo]
      ·right;obtain rfl:j=r.length:=oo;refine⟨(nI out,(cy:Int)),?_,out,cy,rfl,hD1,hD2,hD4,hD5,hD6⟩;unfold Kr;simp only[];rw[if_neg (by rw[Cp];omega)])
     (nI out0,((0:Nat):Int),((0:Nat):Int)) ⟨out0,0,0,rfl,hC1,oo,oo,hC3,fun q hq hiq=>hC4 q hq oo,by simp[val]⟩
    have hk:i+r.length<out.length:=oo;refine⟨(nI (out.set (i+r.length) (cy % 4294967296)),((i+1:Nat):Int)),?_,⟨_,_,rfl,Auc hi rfl rfl hD1 hD2 hD4 hD5 hD6 hC5 rfl⟩,by simp;omega⟩;unfold Ks;simp only[jn_d];have ht':lfix (Kr (nI r) (nI out0,(i:Int)) (l[i]:Int)) (nI out0,0,0)=some (nI out,(cy:Int)):=ht;rw[if_pos (by rw[Cp];omega),Dw hi,Ae,ht',Ae,Cp,show w64 ((i:Int)+(r.length:Int))=((i+r.length:Nat):Int) from by rw[Av oo oo];omega,Dw hk,Ae];simp only[];rw[Avl hD2,Wm,Bj oo,Nat.mod_eq_of_lt hD2]
   ·right;refine⟨nI out0,?_,out0,rfl,Ax1 (i:=i) oo rfl hC1 hC3 hC5,oo⟩;unfold Ks;simp only[];rw[if_neg (by rw[Cp];omega)])
  (nI (List.replicate (l.length+r.length) 0),((0:Nat):Int)) ⟨_,0,rfl,by simp,oo,by simp,by simp,by simp[val,Aad]⟩
 unfold Eh;simp only[e,jn_d,Int.toNat_natCast,Zs];have ht':lfix (Ks (nI l) (nI r)) (nI (List.replicate (l.length+r.length) 0),0)=some (nI out):=ht;rw[gd_t ⟨oo,oo⟩,ht',Ae,Ae9 _ oo,Ae,hd];rfl
theorem Bcd(a b:Nat)(ha:(dig 4294967296 a).length<=1000000):Sy (L32 a) (L32 b)=some (cmpN a b):=by
 unfold Sy L32;rw[Cp,Cp]
 by_cases hlen:(dig 4294967296 a).length=(dig 4294967296 b).length
 ·obtain⟨t,ht,hR⟩:=Bk (B:=Sb (nI (dig 4294967296 a)) (nI (dig 4294967296 b))) (fun s=>(s+1).toNat)
   (fun s=>∃ k:Nat,s=(k:Int)-1/\k<=(dig 4294967296 a).length/\∀ (j:Nat) (h:j<(dig 4294967296 a).length) (h':j<(dig 4294967296 b).length),k<=j->(dig 4294967296 a)[j]=(dig 4294967296 b)[j])
   (fun t=>(t = .inl ()/\cmpN a b=0)\/t = .inr (cmpN a b)) (by
    rintro s ⟨k,rfl,hk,heq⟩;unfold Sb
    by_cases h0:k=0
    ·right;subst h0;refine⟨_,by rw[if_neg oo],.inl ⟨rfl,Ax3 oo hlen (fun j h h'=>heq j h h' oo)⟩⟩
    ·have h1:k-1<(dig 4294967296 a).length:=oo;have h2:k-1<(dig 4294967296 b).length:=oo;have hat:=Ax2 (b:=4294967296) oo hlen h1 h2 (fun j h h' hj=>heq j h h' oo);rw[if_pos oo,show ((k:Int)-1)=((k-1:Nat):Int) from by omega,Dw h1,Ae,Dw h2,Ae]
     by_cases he:(dig 4294967296 a)[k-1]=(dig 4294967296 b)[k-1]
     ·left;refine⟨((k-1:Nat):Int)-1,by rw[if_pos (by rw[he]),Av oo oo],⟨k-1,rfl,oo,fun j h h' hj=>?_⟩,oo⟩;rcases Nat.lt_or_ge (k-1) j with hq | hq
      ·exact heq j h h' oo
      ·obtain rfl:j=k-1:=oo;exact he
     ·right;rw[if_neg oo,Ae,Ae]
      by_cases hlt:(dig 4294967296 a)[k-1]<(dig 4294967296 b)[k-1]
      ·exact⟨_,by rw[if_pos oo],.inr (by rw[hat.1 hlt])⟩
      ·exact⟨_,by rw[if_neg oo],.inr (by rw[hat.2 oo])⟩)
   (((dig 4294967296 a).length:Int)-1) ⟨_,rfl,Nat.le_refl _,fun j h h' hj=>oo⟩
  rw[if_pos oo,jn_d,Av oo oo,ht,Ae];rcases hR with⟨rfl,h0⟩ | rfl
  ·simp only[h0]
  ·rfl
 ·rw[if_neg oo]
  by_cases hlt:(dig 4294967296 a).length<(dig 4294967296 b).length
  ·rw[if_pos oo,(Ah4 (b:=4294967296) oo rfl rfl).1 hlt]
  ·rw[if_neg oo,(Ah4 (b:=4294967296) oo rfl rfl).2 oo]
theorem oneW:([1]:List Int)=L32 1:=by unfold L32;rw[Ah3 oo];rfl
theorem Azj{a:Nat}:(L32 a).length=0↔a=0:=by
 unfold L32;rw[Cp,length_eq_zero_iff,Wq oo]
theorem norm_L(a:Nat)(h:(dig 4294967296 a).length<=1000000):Fq (L32 a)=some (L32 a):=by
 unfold L32;rw[Ae9 _ h,Ban oo]
theorem Apq(a:Nat)(h:(dig 4294967296 a).length<=1000):Eh (L32 a) [1]=some (L32 a):=by
 have:=Avn (dig 4294967296 a) [1] (Ol oo a) (by simp) (by simp;omega);rw[Dm oo,show val 4294967296 [1]=1 from by simp[val],Nat.mul_one] at this;exact this
theorem Arn:Eh [1] [1]=some [1]:=by
 have:=Apq 1 (by rw[Ah3 oo];simp)
 rwa [<- oneW] at this
theorem Ts{b:Nat}(l:List Nat)(i:Nat):val b (l.take (i+1))=val b (l.take i)+b ^ i*l.getD i 0:=by
 by_cases h:i<l.length
 ·rw[Ss l i h];simp[h]
 ·rw[take_of_length_le oo,take_of_length_le oo];simp[h]
theorem Acv{l:List Nat}(hl:∀ x∈l,x<65536)(i:Nat):l.getD i 0<65536:=by
 by_cases h:i<l.length
 ·have:=hl _ (getElem_mem h);simpa[h] using this
 ·simp[h]
theorem Wn{l:List Nat}{i:Nat}(h:i<l.length):l.getD i 0=l[i]:=by simp[h]
theorem Qw{l:List Nat}{i:Nat}(h:¬ i<l.length):l.getD i 0=0:=by simp[h]
theorem Zt{b:Nat}(hb:0<b){l:List Nat}(hl:∀ x∈l,x<b)(i:Nat):l.getD i 0<b:=by
 by_cases h:i<l.length
 ·have:=hl _ (getElem_mem h);simpa[h] using this
 ·simp[h,hb]
theorem Avo(v:BitVec 32):IntKind.u32.wrap (v.toNat:Int)=(v.toNat:Int):=Ajj .u32 v.toNat (by simp only[top];omega)
theorem Avp(a b:Int):Ch .u32 a b=((BitVec.ofInt 32 a &&& BitVec.ofInt 32 b).toNat:Int):=Avo _
theorem Bed(a b:Int):Qj .u32 a b=((BitVec.ofInt 32 a ||| BitVec.ofInt 32 b).toNat:Int):=Avo _
theorem Apr(a b:Int):Ac4 .u32 a b=((BitVec.ofInt 32 a ^^^ BitVec.ofInt 32 b).toNat:Int):=Avo _
theorem Bee(v:BitVec 32):BitVec.ofInt 32 (v.toNat:Int)=v:=by
 rw[BitVec.ofInt_natCast,BitVec.ofNat_toNat,BitVec.setWidth_eq]
theorem Bce:BitVec.ofInt 32 (if IntKind.signed .u32=true then -1 else IntKind.max .u32)=BitVec.allOnes 32:=dD
theorem Avq(x:Int):wu32 x=x % 4294967296:=by
 show IntKind.u32.wrap x=_;simp[IntKind.wrap,IntKind.bits,IntKind.signed]
theorem Amb(n:Nat)(h:n<4294967296):(BitVec.ofInt 32 (n:Int)).msb=decide (2147483648<=n):=by
 rw[BitVec.msb_eq_decide,BitVec.ofInt_natCast,BitVec.toNat_ofNat,Nat.mod_eq_of_lt oo]
theorem Bef(v:BitVec 32):shr_ .u32 (v.toNat:Int) 31=if v.msb then 1 else 0:=by
 have h:=v.isLt;rw[BitVec.msb_eq_decide];show (v.toNat:Int).fdiv (2 ^ (min (31:Int).toNat 32))=_;rw[show (2:Int) ^ (min (31:Int).toNat 32)=2147483648 from by decide,Int.fdiv_eq_ediv_of_nonneg _ oo]
 by_cases h1:2 ^ (32-1)<=v.toNat
 ·rw[if_pos (by simpa using h1)];omega
 ·rw[if_neg (by simpa using h1)];omega
theorem Beg{x y b:Nat}(hx:x<4294967296)(hy:y<4294967296)(hb:b<=1):
  ∃ d b':Nat,Mr (x:Int) (y:Int) (b:Int)=some ((d:Int),(b':Int))/\d<4294967296/\b'<=1/\d+b+y=x+4294967296*b':=by
 unfold Mr;have e:wu32 (wu32 ((x:Int)-y)-b)=(((x:Int)-y-b) % 4294967296).toNat:=by rw[Avq,Avq];omega
 rw[e];generalize hd:(((x:Int)-y-b) % 4294967296).toNat=d;have hdl:d<4294967296:=oo;rw[Avp,Avp,Apr,Apr,Apr,Bed];simp only[Bee,Bce,BitVec.allOnes_xor];rw[Bef];rw[BitVec.msb_or,BitVec.msb_and,BitVec.msb_and,BitVec.msb_not,BitVec.msb_not,BitVec.msb_xor,Amb _ hx,Amb _ hy,Amb _ hdl]
 by_cases h1:2147483648<=x <;> by_cases h2:2147483648<=y <;> by_cases h3:2147483648<=d <;> simp only[h1,h2,h3,decide_true,decide_false,Bool.not_true,Bool.not_false,Bool.and_true,Bool.and_false,Bool.true_and,Bool.false_and,Bool.or_true,Bool.or_false,Bool.xor_true,Bool.xor_false,Bool.false_eq_true,if_true,if_false,show (0<32)=True by simp] <;>
  first
  | exact⟨d,0,rfl,hdl,oo,oo⟩
  | exact⟨d,1,rfl,hdl,oo,oo⟩
theorem Beh{x y c:Nat}(hx:x<4294967296)(hy:y<4294967296)(hc:c<=1):
  Mq (x:Int) (y:Int) (c:Int)=some ((((x+y+c) % 4294967296:Nat):Int),(((x+y+c) / 4294967296:Nat):Int)):=by
 unfold Mq;have e:wu64 (wu64 (wu64 (x:Int)+wu64 (y:Int))+wu64 (c:Int))=((x+y+c:Nat):Int):=by
  rw[Xj (n:=x) oo,Xj (n:=y) oo,Xj (n:=c) oo,<- Int.natCast_add,Xj oo,<- Int.natCast_add,Xj oo]
 rw[e,Afa,Avm,Avl oo]
theorem Avr{l r out:List Nat}{cy i n:Nat}(hn:l.length=n)(hi:i<n)(hr:r.length<=n)(hl':∀ x∈l,x<4294967296)(hr':∀ x∈r,x<4294967296)(hC1:out.length=n+1)(hC2:cy<=1)(hC4:∀ x∈out,x<4294967296)(hC5:∀ (q:Nat) (h:q<out.length),i<=q->out[q]=0)(hC6:val 4294967296 out+cy*4294967296 ^ i=val 4294967296 (l.take i)+val 4294967296 (r.take i)):
  ∀ s,s=l.getD i 0+r.getD i 0+cy->(out.set i (s % 4294967296)).length=n+1/\s / 4294967296<=1/\(∀ x∈out.set i (s % 4294967296),x<4294967296)/\(∀ (q:Nat) (h:q<(out.set i (s % 4294967296)).length),i+1<=q->(out.set i (s % 4294967296))[q]=0) /\
   val 4294967296 (out.set i (s % 4294967296))+s / 4294967296*4294967296 ^ (i+1)=val 4294967296 (l.take (i+1))+val 4294967296 (r.take (i+1)):=by
 intro s hs;have h1:=Zt (b:=4294967296) oo hl' i;have h2:=Zt (b:=4294967296) oo hr' i;refine⟨by simp[hC1],oo,Tg hC4 oo,fun q hq hiq=>?_,?_⟩
 ·rw[getElem_set_ne oo];exact hC5 q (by simpa using hq) oo
 ·have hs1:=Yu (b:=4294967296) out i (s % 4294967296) oo;rw[hC5 i oo oo] at hs1;rw[Ts,Ts];have e1:s=4294967296*(s / 4294967296)+s % 4294967296:=oo;have e2:=congrArg (· * 4294967296 ^ i) (hs.symm.trans e1);simp only[Nat.add_mul] at e2;have e4:4294967296 ^ (i+1)=4294967296*4294967296 ^ i:=by rw[Nat.pow_succ,Nat.mul_comm]
  rw[e4];generalize 4294967296 ^ i=P at *;generalize l.getD i 0=a at *;generalize r.getD i 0=b at *;generalize s / 4294967296=q at *;generalize s % 4294967296=m at *;have e5:q*(4294967296*P)=4294967296*q*P:=by grind
  have e7:P*a=a*P:=Nat.mul_comm _ _;have e8:P*b=b*P:=Nat.mul_comm _ _;omega
theorem Avs(l r:List Nat)(hl:∀ x∈l,x<4294967296)(hr:∀ x∈r,x<4294967296)(h9:l.length<=100000)(hrl:r.length<=l.length):
  (jn (fun (s6:List Int × Int)=>
   bnd (idx s6.1 ((((nI l).length:Nat):Int))) fun _=>
   bnd (Fq (setI s6.1 ((((nI l).length:Nat):Int)) s6.2)) fun r122=>
   some r122)
   (fun j6=>bnd (lfix (Kt (nI l,nI r)) (List.replicate (Int.toNat (w64 (((((nI l).length:Nat):Int))+1))) (0:Int),0,0)) fun t56=>
   j6 t56))=some (L32 (val 4294967296 l+val 4294967296 r)):=by
 obtain⟨t,ht,out,cy,rfl,hC1,hC2,hC4,hC5,hC6⟩:=Bk (B:=Kt (nI l,nI r)) (fun s=>l.length-s.2.2.toNat)
  (fun s=>∃ (out:List Nat) (cy i:Nat),s=(nI out,(cy:Int),(i:Int))/\i<=l.length/\out.length=l.length+1/\cy<=1/\(∀ x∈out,x<4294967296)/\(∀ (q:Nat) (h:q<out.length),i<=q->out[q]=0)/\val 4294967296 out+cy*4294967296 ^ i=val 4294967296 (l.take i)+val 4294967296 (r.take i))
  (fun t=>∃ (out:List Nat) (cy:Nat),t=(nI out,(cy:Int))/\out.length=l.length+1/\cy<=1/\(∀ x∈out,x<4294967296)/\(∀ (h:l.length<out.length),out[l.length]=0)/\val 4294967296 out+cy*4294967296 ^ l.length=val 4294967296 l+val 4294967296 r) (by
   rintro s ⟨out,cy,i,rfl,hi',hC1,hC2,hC4,hC5,hC6⟩;unfold Kt;simp only[jn_d,Cp]
   by_cases hi:i<l.length
   ·left;obtain⟨k1,k2,k3,k4,k5⟩:=Avr rfl hi hrl hl hr hC1 hC2 hC4 hC5 hC6 _ rfl;have h1:=Zt (b:=4294967296) oo hl i;have h2:=Zt (b:=4294967296) oo hr i;refine⟨_,?_,⟨_,_,i+1,rfl,oo,k1,k2,k3,k4,k5⟩,by simp only[Int.toNat_natCast];omega⟩;rw[if_pos oo];have fin:∀ y:Int,y=((r.getD i 0:Nat):Int)->(bnd (idx (nI l) (i:Int)) fun x76=>bnd (Mq x76 y (cy:Int)) fun r87=>bnd (idx (nI out) (i:Int)) fun _=>some (Sum.inl (β:=List Int × Int) (setI (nI out) (i:Int) r87.1,r87.2,w64 ((i:Int)+1))))=some (.inl (nI (out.set i ((l.getD i 0+r.getD i 0+cy) % 4294967296)),(((l.getD i 0+r.getD i 0+cy) / 4294967296:Nat):Int),((i+1:Nat):Int))):=by
     rintro y rfl;rw[Dw hi,Ae,<- Wn hi,Beh h1 h2 hC2,Ae,Dw oo,Ae];simp only[];rw[Wm,Bj oo]
    by_cases hm:i<r.length
    ·rw[if_pos oo,Dw hm,Ae];exact fin _ (by rw[Wn hm])
    ·rw[if_neg oo];exact fin _ (by rw[Qw hm];rfl)
   ·right;obtain rfl:i=l.length:=oo;rw[if_neg oo];rw[take_of_length_le oo,take_of_length_le oo] at hC6;exact⟨_,rfl,out,cy,rfl,hC1,hC2,hC4,fun h=>hC5 _ h oo,hC6⟩)
  (nI (List.replicate (l.length+1) 0),((0:Nat):Int),((0:Nat):Int)) ⟨_,0,0,rfl,oo,by simp,oo,by simp,by simp,by simp[val,Aad]⟩
 simp only[jn_d,Cp];rw[Bj oo,Int.toNat_natCast,Zs];have ht':lfix (Kt (nI l,nI r)) (nI (List.replicate (l.length+1) 0),0,0)=some (nI out,(cy:Int)):=ht;rw[ht',Ae];simp only[];rw[Dw oo,Ae,Wm,Ae9 _ (by simp;omega),Ae];have hs1:=Yu (b:=4294967296) out l.length cy oo;rw[hC5 oo] at hs1;rw[Xt (b:=4294967296) oo _ (Tg hC4 oo),show val 4294967296 (out.set l.length cy)=val 4294967296 l+val 4294967296 r by omega];rfl
theorem Bcf(l r:List Nat)(hl:∀ x∈l,x<4294967296)(hr:∀ x∈r,x<4294967296)(h9:l.length<=100000)(h9':r.length<=100000):
  Qf (nI l) (nI r)=some (L32 (val 4294967296 l+val 4294967296 r)):=by
 unfold Qf;simp only[jn_d]
 by_cases h:l.length<r.length
 ·rw[if_pos (by rw[Cp,Cp];omega),gd_t (by rw[Cp,Bj oo];omega)];have:=Avs r l hr hl h9' oo;simp only[jn_d] at this;rw[this,Nat.add_comm]
 ·rw[if_neg (by rw[Cp,Cp];omega),gd_t (by rw[Cp,Bj oo];omega)];have:=Avs l r hl hr h9 oo;simp only[jn_d] at this;exact this
theorem Bcg(l r:List Nat)(hl:∀ x∈l,x<4294967296)(hr:∀ x∈r,x<4294967296)(h9:l.length<=100000)(hrl:r.length<=l.length)(hle:val 4294967296 r<=val 4294967296 l):
  Nv (nI l) (nI r)=some (L32 (val 4294967296 l-val 4294967296 r)):=by
 obtain⟨t,ht,out,rfl,hC1,hd⟩:=Bk (B:=Ov (nI l) (nI r)) (fun s=>l.length-s.2.2.toNat)
  (fun s=>∃ (out:List Nat) (bw i:Nat),s=(nI out,(bw:Int),(i:Int))/\i<=l.length/\out.length=l.length/\bw<=1/\(∀ x∈out,x<4294967296)/\(∀ (q:Nat) (h:q<out.length),i<=q->out[q]=0)/\val 4294967296 out+val 4294967296 (r.take i)=val 4294967296 (l.take i)+bw*4294967296 ^ i)
  (fun t=>∃ (out:List Nat),t=nI out/\out.length=l.length/\nrm out=dig 4294967296 (val 4294967296 l-val 4294967296 r)) (by
   rintro s ⟨out,bw,i,rfl,hi',hC1,hC2,hC4,hC5,hC6⟩;unfold Ov;simp only[jn_d,Cp]
   by_cases hi:i<l.length
   ·left;have h1:=Zt (b:=4294967296) oo hl i;have h2:=Zt (b:=4294967296) oo hr i;obtain⟨d,b',hB,hd1,hb1,he⟩:=Beg h1 h2 hC2;refine⟨(nI (out.set i d),(b':Int),((i+1:Nat):Int)),?_,⟨_,_,i+1,rfl,oo,by simp[hC1],hb1,Tg hC4 hd1,fun q hq hiq=>?_,?_⟩,by simp only[Int.toNat_natCast];omega⟩
    ·rw[if_pos oo];have fin:∀ y:Int,y=((r.getD i 0:Nat):Int)->(bnd (idx (nI l) (i:Int)) fun x76=>bnd (Mr x76 y (bw:Int)) fun r87=>bnd (idx (nI out) (i:Int)) fun _=>some (Sum.inl (β:=List Int) (setI (nI out) (i:Int) r87.1,r87.2,w64 ((i:Int)+1))))=some (.inl (nI (out.set i d),(b':Int),((i+1:Nat):Int))):=by
      rintro y rfl;rw[Dw hi,Ae,<- Wn hi,hB,Ae,Dw oo,Ae];simp only[];rw[Wm,Bj oo]
     by_cases hm:i<r.length
     ·rw[if_pos oo,Dw hm,Ae];exact fin _ (by rw[Wn hm])
     ·rw[if_neg oo];exact fin _ (by rw[Qw hm];rfl)
    ·rw[getElem_set_ne oo];exact hC5 q (by simpa using hq) oo
    ·have hs1:=Yu (b:=4294967296) out i d oo;rw[hC5 i oo oo] at hs1;rw[Ts,Ts];have e3:=congrArg (· * 4294967296 ^ i) he;simp only[Nat.add_mul] at e3;have e4:4294967296 ^ (i+1)=4294967296*4294967296 ^ i:=by rw[Nat.pow_succ,Nat.mul_comm]
     rw[e4];generalize 4294967296 ^ i=P at *;generalize l.getD i 0=a at *;generalize r.getD i 0=b at *;have e5:b' * (4294967296*P)=4294967296*b' * P:=by grind
     have e7:P*a=a*P:=Nat.mul_comm _ _;have e8:P*b=b*P:=Nat.mul_comm _ _;omega
   ·right;obtain rfl:i=l.length:=oo;rw[if_neg oo];rw[take_of_length_le oo,take_of_length_le oo] at hC6;refine⟨_,rfl,out,rfl,hC1,?_⟩;rw[Xt (b:=4294967296) oo out hC4];have hlt:=Agl out hC4;rw[hC1] at hlt;have:bw=0\/bw=1:=oo;rcases this with rfl | rfl
    ·rw[show val 4294967296 out=val 4294967296 l-val 4294967296 r by omega]
    ·omega)
  (nI (List.replicate l.length 0),((0:Nat):Int),((0:Nat):Int)) ⟨_,0,0,rfl,oo,by simp,oo,by simp,by simp,by simp[val,Aad]⟩
 unfold Nv;simp only[jn_d,Cp,Int.toNat_natCast,Zs];rw[gd_t ⟨oo,oo⟩];have ht':lfix (Ov (nI l) (nI r)) (nI (List.replicate l.length 0),0,0)=some (nI out):=ht;rw[ht',Ae,Ae9 _ oo,Ae,hd];rfl
theorem W_lt{a:Nat}:∀ x∈dig 4294967296 a,x<4294967296:=Ol oo a
theorem Bch{a b:Nat}(ha:(dig 4294967296 a).length<=100000)(hb:(dig 4294967296 b).length<=100000):Qf (L32 a) (L32 b)=some (L32 (a+b)):=by
 have:=Bcf _ _ (W_lt (a:=a)) (W_lt (a:=b)) ha hb
 rwa [Dm oo,Dm oo] at this
theorem Atc{a b:Nat}(h:a<=b):(dig 4294967296 a).length<=(dig 4294967296 b).length:=by
 rcases Nat.lt_or_ge (dig 4294967296 b).length (dig 4294967296 a).length with h1 | h1
 ·have:=Aa0 (b:=4294967296) oo h1;omega
 ·exact h1
theorem Avt{a b:Nat}(ha:(dig 4294967296 a).length<=100000)(h:b<=a):Nv (L32 a) (L32 b)=some (L32 (a-b)):=by
 have:=Bcg _ _ (W_lt (a:=a)) (W_lt (a:=b)) ha (Atc h) (by rw[Dm oo,Dm oo];exact h)
 rwa [Dm oo,Dm oo] at this
theorem Bci{a b:Nat}(h:(dig 4294967296 a).length+(dig 4294967296 b).length<=1000000):Eh (L32 a) (L32 b)=some (L32 (a*b)):=by
 have:=Avn _ _ (W_lt (a:=a)) (W_lt (a:=b)) h
 rwa [Dm oo,Dm oo] at this
theorem Aro{n:Nat}(h:n<=18446744073709551615):Ua (n:Int)=some (L32 n):=by
 unfold Ua;have:=Ae9 [n % 4294967296,n / 4294967296 % 4294967296] (by simp);rw[show [wu32 (n:Int),wu32 (shr_ .u64 (n:Int) 32)]=nI [n % 4294967296,n / 4294967296 % 4294967296] from by rw[Avm,Afa,Afa];rfl,this,Ae,Aua n h];rfl
theorem Bcj{s:Bool}{z:Int}(hs:z≠0->s=decide (z<0)):Ow ⟨s,L32 z.natAbs,[1]⟩=some (Int.sign z):=by
 unfold Ow;simp only[]
 by_cases h0:z=0
 ·subst h0;rfl
 ·have:(L32 z.natAbs).length≠0:=fun e=>h0 (by have:=Azj.1 e;omega)
  rw[if_neg oo,hs h0]
  by_cases h1:z<0
  ·rw[if_pos (by simpa using h1),Int.sign_eq_neg_one_of_neg h1]
  ·rw[if_neg (by simpa using h1),Int.sign_eq_one_of_pos oo]
def L16(m:Nat):List Int:=nI (dig 65536 m)
def Z16(z:Int):Ag:=⟨decide (z<0),L16 z.natAbs⟩
theorem Azk{l:List Nat}{k:Nat}:(nI l).take k=nI (l.take k):=by simp[nI]
theorem Aky:∀ (l:List Nat),nrm (l++[0])=nrm l
 | []=>rfl
 | x::r=>by simp only[cons_append,nrm];rw[Aky r]
theorem Anw:∀ (l:List Nat) {x:Nat},x≠0->nrm (l++[x])=l++[x]
 | [],x,h=>by simp[nrm,h]
 | y::r,x,h=>by
  simp only[cons_append,nrm];rw[Anw r h];cases r <;> rfl
theorem Afb(l:List Nat)(h9:l.length<=1000000000):Bq (nI l)=some (nI (nrm l)):=by
 obtain⟨t,ht,k,rfl,hk,hn⟩:=Bk (B:=Po (nI l)) (fun s=>s.toNat)
  (fun s=>∃ k:Nat,s=(k:Int)/\k<=l.length/\nrm (l.take k)=nrm l)
  (fun t=>∃ k:Nat,t=(k:Int)/\k<=l.length/\l.take k=nrm l) (by
   rintro s ⟨k,rfl,hk,hn⟩;unfold Po;simp only[jn_d]
   by_cases h0:k=0
   ·right;subst h0;refine⟨((0:Nat):Int),by rw[if_neg oo];rfl,0,rfl,oo,?_⟩;rw[<- hn];rfl
   ·have h1:k-1<l.length:=oo;rw[if_pos oo,show ((k:Int)-1)=((k-1:Nat):Int) from by omega,Qp oo,Dw h1,Ae];have e:l.take k=l.take (k-1)++[l[k-1]]:=by
     obtain⟨q,rfl⟩:=Nat.exists_eq_succ_of_ne_zero h0;simp only[Nat.succ_eq_add_one,Nat.add_sub_cancel] at h1 ⊢;rw[take_add_one,List.getElem?_eq_getElem h1];rfl
    by_cases hz:l[k-1]=0
    ·left;refine⟨((k-1:Nat):Int),by rw[if_pos (by simp[hz])],⟨k-1,rfl,oo,?_⟩,oo⟩;rw[<- hn,e,hz,Aky]
    ·right;refine⟨(k:Int),by rw[if_neg (by simp;omega)],k,rfl,hk,?_⟩;rw[<- hn,e,Anw _ hz])
  (l.length:Int) ⟨l.length,rfl,oo,by rw[take_length]⟩
 unfold Bq;simp only[jn_d,Cp];rw[ht,Ae,gd_t oo,Bb4,Int.toNat_natCast,Azk,hn]
theorem Aps(a:Nat):Int.tmod (a:Int) 65536=((a % 65536:Nat):Int):=by rw[Int.tmod_eq_emod_of_nonneg oo];omega
theorem Apt(a:Nat):Int.tdiv (a:Int) 65536=((a / 65536:Nat):Int):=by rw[Int.tdiv_eq_ediv_of_nonneg oo];omega
theorem Fc{m : Nat}: ∀ {k : Nat}, m<65536 ^ k -> (dig 65536 m).length <= k := by
  intro k
  induction k generalizing m with
  | zero => intro h;obtain rfl : m = 0 := by simpa using h
            simp[Ri]
  | succ k ih=>
    intro h
    by_cases h0 : m = 0
    · subst h0;simp[Ri]
    · rw[Ry oo h0, length_cons];have := ih (m := m / 65536) (Nat.div_lt_of_lt_mul (by rw[Nat.pow_succ, Nat.mul_comm] at h;exact h));omega
theorem Zu{z:Int}(h1:-9223372036854775808<=z)(h2:z<=9223372036854775807):Bh z=some (Z16 z):=by
 have key:∀ m:Nat,m<18446744073709551616->lfix Jy ((m:Int),([]:List Int))=some (L16 m):=by
  intro m hm;have h4:(dig 65536 m).length<=4:=Fc oo;obtain⟨t,ht,hR⟩:=Bk (B:=Jy) (fun s=>s.1.toNat)
   (fun s=>∃ (u:Nat) (o:List Nat),s=((u:Int),nI o)/\dig 65536 m=o++dig 65536 u/\u<18446744073709551616)
   (fun t=>t=L16 m) (by
    rintro s ⟨u,o,rfl,hd,hu⟩;unfold Jy
    by_cases h0:u=0
    ·right;subst h0;exact⟨_,by simp only[];rw[if_neg oo],by rw[Ri,append_nil] at hd;unfold L16;rw[hd]⟩
    ·left;have ho:o.length<=4:=by have:=congrArg List.length hd;rw[length_append] at this;omega
     refine⟨(((u / 65536:Nat):Int),nI (o++[u % 65536])),?_,⟨u / 65536,_,rfl,?_,oo⟩,by simp;omega⟩
     ·simp only[Cp];rw[if_pos oo,gd_t oo,Apt,Aps,Qp oo,Pr oo];simp[nI]
     ·rw[hd,Ry oo h0,append_assoc];rfl)
   ((m:Int),nI []) ⟨m,[],rfl,rfl,hm⟩
  rw[<- hR];exact ht
 unfold Bh;simp only[jn_d]
 by_cases h:z<0
 ·rw[if_pos h,show wu64 (-(wu64 z))=((z.natAbs:Nat):Int) from by rw[Vk,Vk];omega,key _ oo,Ae];rfl
 ·rw[if_neg h,show wu64 z=((z.natAbs:Nat):Int) from by rw[Vk];omega,key _ oo,Ae];rfl
theorem Azl(l r:List Nat)(hl:∀ x∈l,x<65536)(hr:∀ x∈r,x<65536)(hb:l.length+r.length<=1000000):
  Cu (nI l) (nI r)=some (L16 (val 65536 l*val 65536 r)):=by
 have e:w64 ((((nI l).length:Nat):Int)+(((nI r).length:Nat):Int))=((l.length+r.length:Nat):Int):=by rw[Cp,Cp,Av oo oo];omega
 obtain⟨t,ht,out,rfl,hd⟩:=Bk (B:=Gx (nI l) (nI r)) (fun s=>l.length-s.2.toNat)
  (fun s=>∃ (out:List Nat) (i:Nat),s=(nI out,(i:Int))/\out.length=l.length+r.length/\i<=l.length/\(∀ x∈out,x<65536)/\(∀ (q:Nat) (h:q<out.length),i+r.length<=q->out[q]=0)/\val 65536 out=val 65536 (l.take i)*val 65536 r)
  (fun t=>∃ out,t=nI out/\out.length<=1000000000/\nrm out=dig 65536 (val 65536 l*val 65536 r)) (by
   rintro s ⟨out0,i,rfl,hC1,hC2,hC3,hC4,hC5⟩
   by_cases hi:i<l.length
   ·left;obtain⟨t,ht,out,cy,rfl,hD1,hD2,hD4,hD5,hD6⟩:=Bk (B:=Gv (nI r) (nI l) (nI out0,(i:Int))) (fun s=>r.length-s.2.2.toNat)
     (fun s=>∃ (out:List Nat) (cy j:Nat),s=(nI out,(cy:Int),(j:Int))/\out.length=l.length+r.length/\cy<65536/\j<=r.length/\(∀ x∈out,x<65536)/\(∀ (q:Nat) (h:q<out.length),i+r.length<=q->out[q]=0)/\val 65536 out+cy*65536 ^ (i+j)=val 65536 out0+l[i] * val 65536 (r.take j)*65536 ^ i)
     (fun t=>∃ (out:List Nat) (cy:Nat),t=(nI out,(cy:Int))/\out.length=l.length+r.length/\cy<65536/\(∀ x∈out,x<65536)/\(∀ (q:Nat) (h:q<out.length),i+r.length<=q->out[q]=0)/\val 65536 out+cy*65536 ^ (i+r.length)=val 65536 out0+l[i] * val 65536 (r.take r.length)*65536 ^ i) (by
      rintro s ⟨out,cy,j,rfl,hD1,hD2,hD3,hD4,hD5,hD6⟩
      by_cases hj:j<r.length
      ·left;have hk:i+j<out.length:=oo;have h1:=hl _ (getElem_mem hi);have h2:=hr _ (getElem_mem hj);have h3:=hD4 _ (getElem_mem hk);have hmm:=Aom h1 h2;have e1:w64 ((i:Int)+(j:Int))=((i+j:Nat):Int):=by rw[Av oo oo];omega
       have e2:w64 (w64 (w64 ((l[i]:Int)*(r[j]:Int))+(out[i+j]:Int))+(cy:Int))=((l[i] * r[j] + out[i+j] + cy:Nat):Int):=by
        have e3:w64 ((l[i]:Int)*(r[j]:Int))=((l[i] * r[j]:Nat):Int):=by rw[<- Int.natCast_mul];exact Qp oo
        rw[e3,<- Int.natCast_add,Qp oo,<- Int.natCast_add,Qp oo]
       have e4:w64 (((l[i] * r[j] + out[i+j] + cy) / 65536:Nat):Int)=(((l[i] * r[j] + out[i+j] + cy) / 65536:Nat):Int):=Qp oo;refine⟨(nI (out.set (i+j) ((l[i] * r[j] + out[i+j] + cy) % 65536)),(((l[i] * r[j] + out[i+j] + cy) / 65536:Nat):Int),((j+1:Nat):Int)),?_,⟨_,_,_,rfl,Aon hi hj rfl rfl h1 h2 hD1 hD2 hD3 hD4 hD5 hD6 hk⟩,by simp;omega⟩;unfold Gv;simp only[e1];rw[if_pos (by rw[Cp];omega),Dw hi,Ae,Dw hj,Ae,Dw hk,Ae,Ae,e2,Aps,Apt,e4,Wm,Bj oo]
      ·right;obtain rfl:j=r.length:=oo;refine⟨(nI out,(cy:Int)),?_,out,cy,rfl,hD1,hD2,hD4,hD5,hD6⟩;unfold Gv;simp only[];rw[if_neg (by rw[Cp];omega)])
     (nI out0,((0:Nat):Int),((0:Nat):Int)) ⟨out0,0,0,rfl,hC1,oo,oo,hC3,fun q hq hiq=>hC4 q hq oo,by simp[val]⟩
    have hk:i+r.length<out.length:=oo;refine⟨(nI (out.set (i+r.length) (cy % 65536)),((i+1:Nat):Int)),?_,⟨_,_,rfl,Aoo hi rfl rfl hD1 hD2 hD4 hD5 hD6 hC5 rfl⟩,by simp;omega⟩;unfold Gx;simp only[jn_d];have ht':lfix (Gv (nI r) (nI l) (nI out0,(i:Int))) (nI out0,0,0)=some (nI out,(cy:Int)):=ht;rw[if_pos (by rw[Cp];omega),ht',Ae,Cp,show w64 ((i:Int)+(r.length:Int))=((i+r.length:Nat):Int) from by rw[Av oo oo];omega,Dw hk,Ae];simp only[];rw[Wm,Bj oo,Nat.mod_eq_of_lt hD2]
   ·right;refine⟨nI out0,?_,out0,rfl,oo,Aqk (i:=i) oo rfl hC1 hC3 hC5⟩;unfold Gx;simp only[];rw[if_neg (by rw[Cp];omega)])
  (nI (List.replicate (l.length+r.length) 0),((0:Nat):Int)) ⟨_,0,rfl,by simp,oo,by simp,by simp,by simp[val,Aad]⟩
 unfold Cu;simp only[e,jn_d,Int.toNat_natCast,Zs];have ht':lfix (Gx (nI l) (nI r)) (nI (List.replicate (l.length+r.length) 0),0)=some (nI out):=ht;rw[gd_t ⟨oo,oo⟩,ht',Ae,Afb _ hd.1,Ae,hd.2];rfl
theorem Avu(a b:Nat)(ha:(dig 65536 a).length<=1000000):Ef (L16 a) (L16 b)=some (cmpN a b):=by
 unfold Ef L16;rw[Cp,Cp]
 by_cases hlen:(dig 65536 a).length=(dig 65536 b).length
 ·obtain⟨t,ht,hR⟩:=Bk (B:=Md (nI (dig 65536 a)) (nI (dig 65536 b))) (fun s=>(s+1).toNat)
   (fun s=>∃ k:Nat,s=(k:Int)-1/\k<=(dig 65536 a).length/\∀ (j:Nat) (h:j<(dig 65536 a).length) (h':j<(dig 65536 b).length),k<=j->(dig 65536 a)[j]=(dig 65536 b)[j])
   (fun t=>(t = .inl ()/\cmpN a b=0)\/t = .inr (cmpN a b)) (by
    rintro s ⟨k,rfl,hk,heq⟩;unfold Md
    by_cases h0:k=0
    ·right;subst h0;refine⟨_,by rw[if_neg oo],.inl ⟨rfl,Ax3 oo hlen (fun j h h'=>heq j h h' oo)⟩⟩
    ·have h1:k-1<(dig 65536 a).length:=oo;have h2:k-1<(dig 65536 b).length:=oo;have hat:=Ax2 (b:=65536) oo hlen h1 h2 (fun j h h' hj=>heq j h h' oo);rw[if_pos oo,show ((k:Int)-1)=((k-1:Nat):Int) from by omega,Dw h1,Ae,Dw h2,Ae]
     by_cases he:(dig 65536 a)[k-1]=(dig 65536 b)[k-1]
     ·left;refine⟨((k-1:Nat):Int)-1,by rw[if_pos (by rw[he]),Av oo oo],⟨k-1,rfl,oo,fun j h h' hj=>?_⟩,oo⟩;rcases Nat.lt_or_ge (k-1) j with hq | hq
      ·exact heq j h h' oo
      ·obtain rfl:j=k-1:=oo;exact he
     ·right;rw[if_neg oo,Ae,Ae]
      by_cases hlt:(dig 65536 a)[k-1]<(dig 65536 b)[k-1]
      ·exact⟨_,by rw[if_pos oo],.inr (by rw[hat.1 hlt])⟩
      ·exact⟨_,by rw[if_neg oo],.inr (by rw[hat.2 oo])⟩)
   (((dig 65536 a).length:Int)-1) ⟨_,rfl,Nat.le_refl _,fun j h h' hj=>oo⟩
  rw[if_pos oo,jn_d,Av oo oo,ht,Ae];rcases hR with⟨rfl,h0⟩ | rfl
  ·simp only[h0]
  ·rfl
 ·rw[if_neg oo]
  by_cases hlt:(dig 65536 a).length<(dig 65536 b).length
  ·rw[if_pos oo,(Ah4 (b:=65536) oo rfl rfl).1 hlt]
  ·rw[if_neg oo,(Ah4 (b:=65536) oo rfl rfl).2 oo]
theorem Bbk:([1]:List Int)=L16 1:=by unfold L16;rw[Ah3 oo];rfl
theorem Atd(l r o:List Nat)(cy i:Nat)(hl:∀ x∈l,x<65536)(hr:∀ x∈r,x<65536)(hcy:cy<=1)(hi:i<=1000001)(ho:o.length=i):
  Ig (nI r) (nI l) (nI o,(cy:Int),(i:Int))=if i<l.length\/i<r.length\/0<cy then some (.inl (nI (o++[(cy+l.getD i 0+r.getD i 0) % 65536]),(((cy+l.getD i 0+r.getD i 0) / 65536:Nat):Int),((i+1:Nat):Int))) else some (.inr (nI o)):=by
 have h1:=Acv hl i;have h2:=Acv hr i;have fin:∀ s:Nat,s<=131071->(nI o++[Int.tmod (s:Int) 65536],w64 (Int.tdiv (s:Int) 65536),w64 ((i:Int)+1))=(nI (o++[s % 65536]),((s / 65536:Nat):Int),((i+1:Nat):Int)):=by
  intro s hs;rw[Aps,Apt,Qp oo,Bj oo];simp[nI]
 unfold Ig;simp only[jn_d,Cp]
 by_cases hn:i<l.length
 ·rw[if_pos (show (i:Int)<(l.length:Int) by omega),if_pos trivial,if_pos (show (i:Int)<(l.length:Int) by omega),Dw hn,Ae,if_pos (show i<l.length\/i<r.length\/0<cy from .inl hn)];rw[show w64 ((cy:Int)+(l[i]:Int))=((cy+l.getD i 0:Nat):Int) from by rw[Wn hn] at *;rw[Av oo oo];omega]
  by_cases hm:i<r.length
  ·rw[if_pos (show (i:Int)<(r.length:Int) by omega),Dw hm,Ae,gd_t oo];rw[show w64 (((cy+l.getD i 0:Nat):Int)+(r[i]:Int))=((cy+l.getD i 0+r.getD i 0:Nat):Int) from by rw[Wn hm] at *;rw[Av oo oo];omega];rw[fin _ oo]
  ·rw[if_neg (show ¬ (i:Int)<(r.length:Int) by omega),gd_t oo,fin _ oo,Qw hm];rfl
 ·rw[if_neg (show ¬ (i:Int)<(l.length:Int) by omega)]
  by_cases hm:i<r.length
  ·rw[if_pos (show (i:Int)<(r.length:Int) by omega),if_pos trivial,if_neg (show ¬ (i:Int)<(l.length:Int) by omega),if_pos (show (i:Int)<(r.length:Int) by omega),Dw hm,Ae,gd_t oo,if_pos (show i<l.length\/i<r.length\/0<cy from .inr (.inl hm)),Qw hn,Nat.add_zero];rw[show w64 ((cy:Int)+(r[i]:Int))=((cy+r.getD i 0:Nat):Int) from by rw[Wn hm] at *;rw[Av oo oo];omega];rw[fin _ oo]
  ·rw[if_neg (show ¬ (i:Int)<(r.length:Int) by omega)]
   by_cases hc:0<cy
   ·rw[if_pos (by simpa using hc),if_neg (show ¬ (i:Int)<(l.length:Int) by omega),if_neg (show ¬ (i:Int)<(r.length:Int) by omega),gd_t oo,fin _ oo,if_pos (show i<l.length\/i<r.length\/0<cy from .inr (.inr hc)),Qw hn,Qw hm];rfl
   ·rw[if_neg (by simpa using hc),if_neg oo]
theorem Bck(l r:List Nat)(hl:∀ x∈l,x<65536)(hr:∀ x∈r,x<65536)(h1:l.length<=1000000)(h2:r.length<=1000000):
  Hc (nI l) (nI r)=some (L16 (val 65536 l+val 65536 r)):=by
 obtain⟨t,ht,out,rfl,hd⟩:=Bk (B:=Ig (nI r) (nI l)) (fun s=>2*(max l.length r.length-s.2.2.toNat)+s.2.1.toNat)
  (fun s=>∃ (o:List Nat) (cy i:Nat),s=(nI o,(cy:Int),(i:Int))/\o.length=i/\cy<=1/\i<=max l.length r.length+1/\(i=max l.length r.length+1->cy=0)/\(∀ x∈o,x<65536)/\val 65536 o+cy*65536 ^ i=val 65536 (l.take i)+val 65536 (r.take i))
  (fun t=>∃ out,t=nI out/\out.length<=1000000000/\nrm out=dig 65536 (val 65536 l+val 65536 r)) (by
   rintro s ⟨o,cy,i,rfl,hC1,hC2,hC3,hC0,hC4,hC5⟩;have g1:=Acv hl i;have g2:=Acv hr i;rw[Atd l r o cy i hl hr hC2 oo hC1]
   by_cases hc:i<l.length\/i<r.length\/0<cy
   ·left;rw[if_pos hc];refine⟨_,rfl,⟨_,_,_,rfl,by simp[hC1],oo,oo,fun he=>?_,?_,?_⟩,?_⟩
    ·rw[Qw (show ¬ i<l.length by omega),Qw (show ¬ i<r.length by omega)];omega
    ·intro x hx;rcases mem_append.1 hx with hx | hx
     ·exact hC4 x hx
     ·simp at hx;omega
    ·rw[Xu,hC1,Ts,Ts];have e:val 65536 [(cy+l.getD i 0+r.getD i 0) % 65536]=(cy+l.getD i 0+r.getD i 0) % 65536:=by simp[val]
     rw[e];have e2:=Nat.div_add_mod (cy+l.getD i 0+r.getD i 0) 65536;have e3:=congrArg (· * 65536 ^ i) e2;simp only[Nat.add_mul] at e3;have e4:65536 ^ (i+1)=65536*65536 ^ i:=by rw[Nat.pow_succ,Nat.mul_comm]
     rw[e4];generalize 65536 ^ i=P at *;generalize (cy+l.getD i 0+r.getD i 0) % 65536=M at *;generalize (cy+l.getD i 0+r.getD i 0) / 65536=D at *;generalize l.getD i 0=a at *;generalize r.getD i 0=b at *;have e5:D*(65536*P)=65536*D*P:=by grind
     have e6:P*M=M*P:=Nat.mul_comm _ _;have e7:P*a=a*P:=Nat.mul_comm _ _;have e8:P*b=b*P:=Nat.mul_comm _ _;omega
    ·simp only[Int.toNat_natCast]
     by_cases hb:i<l.length\/i<r.length
     ·omega
     ·rw[Qw (show ¬ i<l.length by omega),Qw (show ¬ i<r.length by omega)];omega
   ·right;rw[if_neg hc];refine⟨_,rfl,o,rfl,oo,?_⟩;have:cy=0:=oo;subst this;rw[Xt (b:=65536) oo o hC4];rw[take_of_length_le oo,take_of_length_le oo] at hC5;rw[show val 65536 o=val 65536 l+val 65536 r by omega])
  (nI [],((0:Nat):Int),((0:Nat):Int)) ⟨[],0,0,rfl,rfl,oo,oo,oo,by simp,by simp[val]⟩
 unfold Hc;have ht':lfix (Ig (nI r) (nI l)) ([],0,0)=some (nI out):=ht;simp only[jn_d];rw[ht',Ae,Afb _ hd.1,Ae,hd.2];rfl
theorem Ate(l r o:List Nat)(bw i:Nat)(hi:i<l.length)(hl:∀ x∈l,x<65536)(hr:∀ x∈r,x<65536)(hb:bw<=1)(h9:l.length<=1000000)(ho:o.length=i):
  ∃ d b':Nat,Fw (nI l) (nI r) (nI o,(bw:Int),(i:Int))=some (.inl (nI (o++[d]),(b':Int),((i+1:Nat):Int)))/\d<65536/\b'<=1/\d+bw+r.getD i 0=l.getD i 0+65536*b':=by
 have h1:=Acv hl i;have h2:=Acv hr i;unfold Fw;simp only[jn_d,Cp];rw[if_pos (show (i:Int)<(l.length:Int) by omega),Dw hi,Ae];rw[Wn hi] at *;have fin:∀ t:Int,t=(l[i]:Int)-bw-(r.getD i 0:Int)->∃ d b':Nat,(if t<0 then gd (((nI o).length+1)*8<=140737488355328) (some (Sum.inl (β:=List Int) (nI o++[w64 (t+65536)],(1:Int),w64 ((i:Int)+1)))) else gd (((nI o).length+1)*8<=140737488355328) (some (.inl (nI o++[t],(0:Int),w64 ((i:Int)+1)))))=some (.inl (nI (o++[d]),(b':Int),((i+1:Nat):Int)))/\d<65536/\b'<=1/\d+bw+r.getD i 0=l[i] + 65536*b':=by
  intro t ht;rw[gd_t (by rw[Cp];omega),gd_t (by rw[Cp];omega),Bj oo]
  by_cases h0:t<0
  ·refine⟨(t+65536).toNat,1,?_,oo,oo,oo⟩;rw[if_pos h0,Av oo oo];simp[nI,Int.toNat_of_nonneg (show 0<=t+65536 by omega)]
  ·refine⟨t.toNat,0,?_,oo,oo,oo⟩;rw[if_neg h0];simp[nI,Int.toNat_of_nonneg (show 0<=t by omega)]
 by_cases hm:i<r.length
 ·rw[if_pos (show (i:Int)<(r.length:Int) by omega),Dw hm,Ae];have:=fin (w64 (w64 ((l[i]:Int)-(bw:Int))-(r[i]:Int))) (by rw[Wn hm] at *;rw[Av (x:=(l[i]:Int)-(bw:Int)) oo oo,Av oo oo]);simpa only[Cp] using this
 ·rw[if_neg (show ¬ (i:Int)<(r.length:Int) by omega)];have:=fin (w64 ((l[i]:Int)-(bw:Int))) (by rw[Qw hm,Av oo oo];omega);simpa only[Cp] using this
theorem Bcl(l r:List Nat)(hl:∀ x∈l,x<65536)(hr:∀ x∈r,x<65536)(h1:l.length<=1000000)(h2:r.length<=l.length)(hle:val 65536 r<=val 65536 l):
  Ej (nI l) (nI r)=some (L16 (val 65536 l-val 65536 r)):=by
 obtain⟨t,ht,out,rfl,hd⟩:=Bk (B:=Fw (nI l) (nI r)) (fun s=>l.length-s.2.2.toNat)
  (fun s=>∃ (o:List Nat) (bw i:Nat),s=(nI o,(bw:Int),(i:Int))/\o.length=i/\bw<=1/\i<=l.length/\(∀ x∈o,x<65536)/\val 65536 o+val 65536 (r.take i)=val 65536 (l.take i)+bw*65536 ^ i)
  (fun t=>∃ out,t=nI out/\out.length<=1000000000/\nrm out=dig 65536 (val 65536 l-val 65536 r)) (by
   rintro s ⟨o,bw,i,rfl,hC1,hC2,hC3,hC4,hC5⟩
   by_cases hi:i<l.length
   ·left;obtain⟨d,b',hB,hd1,hb1,he⟩:=Ate l r o bw i hi hl hr hC2 h1 hC1;refine⟨_,hB,⟨_,_,_,rfl,by simp[hC1],hb1,oo,?_,?_⟩,by simp;omega⟩
    ·intro x hx;rcases mem_append.1 hx with hx | hx
     ·exact hC4 x hx
     ·simp at hx;omega
    ·rw[Xu,hC1,Ts,Ts];have e:val 65536 [d]=d:=by simp[val]
     rw[e];have e3:=congrArg (· * 65536 ^ i) he;simp only[Nat.add_mul] at e3;have e4:65536 ^ (i+1)=65536*65536 ^ i:=by rw[Nat.pow_succ,Nat.mul_comm]
     rw[e4];generalize 65536 ^ i=P at *;generalize l.getD i 0=a at *;generalize r.getD i 0=b at *;have e5:b' * (65536*P)=65536*b' * P:=by grind
     have e6:P*d=d*P:=Nat.mul_comm _ _;have e7:P*a=a*P:=Nat.mul_comm _ _;have e8:P*b=b*P:=Nat.mul_comm _ _;omega
   ·right;have hil:i=l.length:=oo;refine⟨nI o,?_,o,rfl,oo,?_⟩
    ·unfold Fw;simp only[Cp];rw[if_neg oo]
    ·rw[take_of_length_le oo,take_of_length_le oo] at hC5;rw[Xt (b:=65536) oo o hC4];have hlt:=Agl o hC4;rw[hC1] at hlt;have:bw=0\/bw=1:=oo;rcases this with rfl | rfl
     ·rw[show val 65536 o=val 65536 l-val 65536 r by omega]
     ·omega)
  (nI [],((0:Nat):Int),((0:Nat):Int)) ⟨[],0,0,rfl,rfl,oo,oo,by simp,by simp[val]⟩
 unfold Ej;have ht':lfix (Fw (nI l) (nI r)) ([],0,0)=some (nI out):=ht;simp only[jn_d];rw[ht',Ae,Afb _ hd.1,Ae,hd.2];rfl
theorem Ahy{a:Nat}:(L16 a).length=0↔a=0:=by
 unfold L16;rw[Cp,length_eq_zero_iff,Wq oo]
theorem Aga{a:Nat}:∀ x∈dig 65536 a,x<65536:=Ol oo a
theorem Avv{a b:Nat}(ha:(dig 65536 a).length<=1000000)(hb:(dig 65536 b).length<=1000000):Hc (L16 a) (L16 b)=some (L16 (a+b)):=by
 have:=Bck _ _ (Aga (a:=a)) (Aga (a:=b)) ha hb
 rwa [Dm oo,Dm oo] at this
theorem Sp{a b:Nat}(h:a<=b):(dig 65536 a).length<=(dig 65536 b).length:=by
 rcases Nat.lt_or_ge (dig 65536 b).length (dig 65536 a).length with h1 | h1
 ·have:=Aa0 (b:=65536) oo h1;omega
 ·exact h1
theorem Amc{a b:Nat}(ha:(dig 65536 a).length<=1000000)(h:b<=a):Ej (L16 a) (L16 b)=some (L16 (a-b)):=by
 have:=Bcl _ _ (Aga (a:=a)) (Aga (a:=b)) ha (Sp h) (by rw[Dm oo,Dm oo];exact h)
 rwa [Dm oo,Dm oo] at this
theorem Acw{a b:Nat}(h:(dig 65536 a).length+(dig 65536 b).length<=1000000):Cu (L16 a) (L16 b)=some (L16 (a*b)):=by
 have:=Azl _ _ (Aga (a:=a)) (Aga (a:=b)) h
 rwa [Dm oo,Dm oo] at this
theorem Adn{z:Int}:(Z16 z).L=L16 z.natAbs:=rfl
theorem Nw{z:Int}:(Z16 z).Neg=decide (z<0):=rfl
theorem Ail{b:Bool}{l:List Int}{z:Int}(h1:b=decide (z<0))(h2:l=L16 z.natAbs):(some ⟨b,l⟩:Option Ag)=some (Z16 z):=by subst h1;subst h2;rfl
theorem Bbl{x y:Int}(hx:(dig 65536 x.natAbs).length<=1000000)(hy:(dig 65536 y.natAbs).length<=1000000):Hu (Z16 x) (Z16 y)=some (Z16 (x+y)):=by
 unfold Hu;simp only[Adn]
 by_cases hs':x<0↔y<0
 ·rw[if_pos (by rw[Nw,Nw];by_cases h:x<0 <;> simp[h] <;> omega),Avv hx hy,Ae];refine Ail ?_ ?_
  ·rw[Nw];by_cases h:x<0 <;> simp[h] <;> omega
  ·congr 1;omega
 ·rw[if_neg (by rw[Nw,Nw];by_cases h:x<0 <;> simp[h] <;> omega),Avu _ _ hx,Ae]
  by_cases h1:x.natAbs<y.natAbs
  ·rw[show cmpN x.natAbs y.natAbs = -1 from if_pos h1,if_neg dD,if_neg dD,Amc hy oo,Ae];refine Ail ?_ ?_
   ·rw[Nw];by_cases h:y<0 <;> simp[h] <;> omega
   ·congr 1;omega
  ·by_cases h2:x.natAbs=y.natAbs
   ·rw[show cmpN x.natAbs y.natAbs=0 from (if_neg h1).trans (if_pos h2),if_pos rfl];have:x+y=0:=oo;rw[this];rfl
   ·rw[show cmpN x.natAbs y.natAbs=1 from (if_neg h1).trans (if_neg h2),if_neg dD,if_pos dD,Amc hx oo,Ae];refine Ail ?_ ?_
    ·rw[Nw];by_cases h:x<0 <;> simp[h] <;> omega
    ·congr 1;omega
theorem Avw{z y:Int}:(!(decide (z<0) == decide (y<0)) && !decide (z.natAbs*y.natAbs=0))=decide (z*y<0):=by
 by_cases hz0:z=0
 ·subst hz0;simp
 by_cases hy0:y=0
 ·subst hy0;simp
 have h1:z.natAbs*y.natAbs≠0:=Nat.mul_ne_zero oo oo;rw[decide_eq_false h1];rcases Int.lt_or_le z 0 with hz | hz
 ·rcases Int.lt_or_le y 0 with hy | hy
  ·have:=Int.mul_pos_of_neg_of_neg hz hy;rw[decide_eq_true hz,decide_eq_true hy,decide_eq_false (show ¬ z*y<0 by omega)];rfl
  ·have:=Int.mul_neg_of_neg_of_pos hz (show 0<y by omega);rw[decide_eq_true hz,decide_eq_false (show ¬ y<0 by omega),decide_eq_true this];rfl
 ·rcases Int.lt_or_le y 0 with hy | hy
  ·have:=Int.mul_neg_of_pos_of_neg (show 0<z by omega) hy;rw[decide_eq_true hy,decide_eq_false (show ¬ z<0 by omega),decide_eq_true this];rfl
  ·have:=Int.mul_pos (show 0<z by omega) (show 0<y by omega);rw[decide_eq_false (show ¬ z<0 by omega),decide_eq_false (show ¬ y<0 by omega),decide_eq_false (show ¬ z*y<0 by omega)];rfl
set_option maxRecDepth 100000 in
theorem Akz{x y:Int}(h:(dig 65536 x.natAbs).length+(dig 65536 y.natAbs).length<=1000000):Bc (Z16 x) (Z16 y)=some (Z16 (x*y)):=by
 unfold Bc;simp only[Adn,jn_d];rw[Acw h,Ae];have hsg:=Avw (z:=x) (y:=y);have e2:=Ahy (a:=x.natAbs*y.natAbs)
 by_cases hs':x<0↔y<0
 ·rw[if_pos (by rw[Nw,Nw];by_cases h:x<0 <;> simp[h] <;> omega)];refine Ail ?_ (by rw[Int.natAbs_mul]);rw[<- hsg];have e:(decide (x<0) == decide (y<0))=true:=by by_cases h:x<0 <;> simp[h] <;> omega
  rw[e];rfl
 ·rw[if_neg (by rw[Nw,Nw];by_cases h:x<0 <;> simp[h] <;> omega)];refine Ail ?_ (by rw[Int.natAbs_mul]);rw[<- hsg];have e:(decide (x<0) == decide (y<0))=false:=by by_cases h:x<0 <;> simp[h] <;> omega
  rw[e]
  by_cases h0:x.natAbs*y.natAbs=0
  ·have:=e2.2 h0;rw[decide_eq_true h0,decide_eq_false oo];rfl
  ·have:(L16 (x.natAbs*y.natAbs)).length≠0:=fun e=>h0 (e2.1 e)
   rw[decide_eq_false h0,decide_eq_true oo];rfl
end Go.Proofs.YtjfndjmabhbicabGreat
