import Derived.Test.YthlkpgdfifnagaaGreatI13
namespace Go.Proofs.YthlkpgdfifnagaaGreat
open Go Go.RowKit List
def nI(l:LM):LI:=l.map (fun x:Nat=>(x:Int))
def L32(m:Nat):LI:=nI (dig 4294967296 m)
theorem Cd{l:LM}:(nI l).length=l.length:=by simp[nI]
theorem Dh{l:LM}{j:Nat}(h:j<l.length):idx (nI l) (j:Int)=some ((l[j]:Nat):Int):=by
 rw[Aj (by rw[Cd];exact h)];simp[nI]
theorem Aar(n:Nat):(List.replicate n (0:Int))=nI (List.replicate n 0):=by simp[nI]
theorem Yc{l:LM}{j v:Nat}:setI (nI l) (j:Int) (v:Int)=nI (l.set j v):=by rw[Fo];simp[nI,map_set]
theorem Awx{n:Nat}(h:n<4294967296):wu32 (n:Int)=n:=Air .u32 n (by simp only[top];omega)
theorem Yr{n:Nat}(h:n<18446744073709551616):wu64 (n:Int)=n:=Air .u64 n (by simp only[top];omega)
theorem Ae8(l:LM)(h9:l.length<=1000000):Ff (nI l)=some (nI (nrm l)):=by
 obtain⟨t,ht,hR⟩:=Ax (B:=Sn) (fun s=>s.length)
  (fun s=>∃k:Nat,k<=l.length/\s=nI (l.take k)/\∀(j:Nat) (h:j<l.length),k<=j->l[j]=0)
  (fun t=>t=nI (nrm l)) (by
   rintro s ⟨k,hk,rfl,hz⟩;have hlen:(l.take k).length=k:=by rw[length_take];omega
   unfold Sn;simp only[jn_d,Cd,hlen]
   by_cases h0:k=0
   .right;subst h0;rw[iN oo,iN s_];refine⟨_,rfl,?_⟩;rw[Agb l (fun x hx=>by obtain⟨j,hj,rfl⟩:=getElem_of_mem hx;exact hz j hj oo)];rfl
   .rw[iP oo]
    .rw[Aq oo oo,show ((k:Int)-1)=((k-1:Nat):Int) from by omega,Dh oo,Ac];have e:(l.take k)[k-1]'oo=l[k-1]:=by rw[getElem_take]
     rw[e]
     by_cases hx:l[k-1]=0
     .left;refine⟨nI (l.take (k-1)),?_,⟨k-1,oo,rfl,fun j h hj=>?_⟩,by simp only[Cd,length_take];omega⟩
      .rw[iP (by rw[hx];rfl),gd_t ⟨oo,oo⟩];congr 2;simp only[subl,nI,Int.toNat_natCast,Int.toNat_zero,drop_zero,<-map_take,take_take];rw[show min (k-1) k=k-1 by omega]
      .rcases Nat.lt_or_ge (k-1) j with hq|hq
       .exact hz j h oo
       .obtain rfl:j=k-1:=oo;exact hx
     .right;rw[iN (by rw[dQ];omega)];refine⟨_,rfl,?_⟩;have h1:=Axg l k hk hz (fun h0' h'=>hx)
      conv=>rhs;rw[An8,h1])
  (nI l) ⟨l.length,oo,by rw[take_length],fun j h hj=>oo⟩
 unfold Ff;simp only[jn_d];rw[ht,Ac,hR]
theorem Ae9(n:Nat):wu32 (n:Int)=((n%4294967296:Nat):Int):=by
 show IntKind.u32.wrap (n:Int)=_;simp[IntKind.wrap,IntKind.bits,IntKind.signed]
theorem Awy(n:Nat):shr_ .u64 (n:Int) 32=((n/4294967296:Nat):Int):=by
 show (n:Int).fdiv (2^(min (32:Int).toNat 64))=_;rw[show (2:Int)^(min (32:Int).toNat 64)=4294967296 from by decide,Int.fdiv_eq_ediv_of_nonneg _ oo];omega
theorem Awz(l r:List Nat)(hl:∀ x∈l,x<4294967296)(hr:∀ x∈r,x<4294967296)(hb:l.length+r.length<=1000000):
  Ds (nI l) (nI r)=some (L32 (val 4294967296 l*val 4294967296 r)):=by
 have e:w64 ((((nI l).length:Nat):Int)+(((nI r).length:Nat):Int))=((l.length+r.length:Nat):Int):=by rw[Cd,Cd,Aq oo oo];omega
 obtain⟨t,ht,out,rfl,hd,hlo⟩:=Ax (B:=Lk (nI l) (nI r)) (fun s=>l.length-s.2.toNat)
  (fun s=>∃(out:LM) (i:Nat),s=(nI out,(i:Int))/\out.length=l.length+r.length/\i<=l.length/\(∀x∈out,x<4294967296)/\(∀(q:Nat) (h:q<out.length),i+r.length<=q->out[q]=0)/\val 4294967296 out=val 4294967296 (l.take i)*val 4294967296 r)
  (fun t=>∃out,t=nI out/\nrm out=dig 4294967296 (val 4294967296 l*val 4294967296 r)/\out.length<=1000000) (by
   rintro s ⟨out0,i,rfl,hC1,hC2,hC3,hC4,hC5⟩
   by_cases hi:i<l.length
   ·left;obtain⟨t,ht,out,cy,rfl,hD1,hD2,hD4,hD5,hD6⟩:=Ax (B:=Lj (nI r) (nI out0,(i:Int)) (l[i]:Int)) (fun s=>r.length-s.2.2.toNat)
     (fun s=>∃(out:LM) (cy j:Nat),s=(nI out,(cy:Int),(j:Int))/\out.length=l.length+r.length/\cy<4294967296/\j<=r.length/\(∀x∈out,x<4294967296)/\(∀(q:Nat) (h:q<out.length),i+r.length<=q->out[q]=0)/\val 4294967296 out+cy*4294967296^(i+j)=val 4294967296 out0+l[i]*val 4294967296 (r.take j)*4294967296^i)
     (fun t=>∃(out:LM) (cy:Nat),t=(nI out,(cy:Int))/\out.length=l.length+r.length/\cy<4294967296/\(∀x∈out,x<4294967296)/\(∀(q:Nat) (h:q<out.length),i+r.length<=q->out[q]=0)/\val 4294967296 out+cy*4294967296^(i+r.length)=val 4294967296 out0+l[i]*val 4294967296 (r.take r.length)*4294967296^i) (by
      rintro s ⟨out,cy,j,rfl,hD1,hD2,hD3,hD4,hD5,hD6⟩
      by_cases hj:j<r.length
      .left;have hk:i+j<out.length:=oo;have h1:=hl _ (gM hi);have h2:=hr _ (gM hj);have h3:=hD4 _ (gM hk);have hmm:=An9 h1 h2;have e1:w64 ((i:Int)+(j:Int))=((i+j:Nat):Int):=by rw[Aq oo oo];omega
       have e2:wu64 (wu64 (wu64 (wu64 (l[i]:Int)*wu64 (r[j]:Int))+wu64 (out[i+j]:Int))+(cy:Int))=((l[i]*r[j]+out[i+j]+cy:Nat):Int):=by
        rw[Yr (n:=l[i]) oo,Yr (n:=r[j]) oo,Yr (n:=out[i+j]) oo,<-Int.natCast_mul,Yr oo,<-Int.natCast_add,Yr oo,<-Int.natCast_add,Yr oo]
       have e4:wu32 ((l[i]*r[j]+out[i+j]+cy:Nat):Int)=(((l[i]*r[j]+out[i+j]+cy)%4294967296:Nat):Int):=Ae9 _;refine⟨(nI (out.set (i+j) ((l[i]*r[j]+out[i+j]+cy)%4294967296)),(((l[i]*r[j]+out[i+j]+cy)/4294967296:Nat):Int),((j+1:Nat):Int)),?_,⟨_,_,_,rfl,Auv hi hj rfl rfl h1 h2 hD1 hD2 hD3 hD4 hD5 hD6 hk⟩,by simp;omega⟩;unfold Lj;simp only[e1];rw[iP (by rw[Cd];omega),Dh hj,Ac,Dh hk,Ac,Ac,e2,e4,Awy,Yc,As oo]
      .right;obtain rfl:j=r.length:=oo;refine⟨(nI out,(cy:Int)),?_,out,cy,rfl,hD1,hD2,hD4,hD5,hD6⟩;unfold Lj;simp only[];rw[iN (by rw[Cd];omega)])
     (nI out0,((0:Nat):Int),((0:Nat):Int)) ⟨out0,0,0,rfl,hC1,oo,oo,hC3,fun q hq hiq=>hC4 q hq oo,by simp[val]⟩
    have hk:i+r.length<out.length:=oo;refine⟨(nI (out.set (i+r.length) (cy%4294967296)),((i+1:Nat):Int)),?_,⟨_,_,rfl,Auw hi rfl rfl hD1 hD2 hD4 hD5 hD6 hC5 rfl⟩,by simp;omega⟩;unfold Lk;simp only[jn_d];have ht':lfix (Lj (nI r) (nI out0,(i:Int)) (l[i]:Int)) (nI out0,0,0)=some (nI out,(cy:Int)):=ht;rw[iP (by rw[Cd];omega),Dh hi,Ac,ht',Ac,Cd,show w64 ((i:Int)+(r.length:Int))=((i+r.length:Nat):Int) from by rw[Aq oo oo];omega,Dh hk,Ac];simp only[];rw[Awx hD2,Yc,As oo,Nat.mod_eq_of_lt hD2]
   .right;refine⟨nI out0,?_,out0,rfl,Axh (i:=i) oo rfl hC1 hC3 hC5,oo⟩;unfold Lk;simp only[];rw[iN (by rw[Cd];omega)])
  (nI (List.replicate (l.length+r.length) 0),((0:Nat):Int)) ⟨_,0,rfl,s_,oo,s_,s_,by simp[val,Aav]⟩
 unfold Ds;simp only[e,jn_d,Int.toNat_natCast,Aar];have ht':lfix (Lk (nI l) (nI r)) (nI (List.replicate (l.length+r.length) 0),0)=some (nI out):=ht;rw[gd_t ⟨oo,oo⟩,ht',Ac,Ae8 _ oo,Ac,hd];rfl
theorem Bel(a b:Nat)(ha:(dig 4294967296 a).length<=1000000):Un (L32 a) (L32 b)=some (cmpN a b):=by
 unfold Un L32;rw[Cd,Cd]
 by_cases hlen:(dig 4294967296 a).length=(dig 4294967296 b).length
 ·obtain⟨t,ht,hR⟩:=Ax (B:=Tp (nI (dig 4294967296 a)) (nI (dig 4294967296 b))) (fun s=>(s+1).toNat)
   (fun s=>∃k:Nat,s=(k:Int)-1/\k<=(dig 4294967296 a).length/\∀(j:Nat) (h:j<(dig 4294967296 a).length) (h':j<(dig 4294967296 b).length),k<=j->(dig 4294967296 a)[j]=(dig 4294967296 b)[j])
   (fun t=>(t=.inl ()/\cmpN a b=0)\/t=.inr (cmpN a b)) (by
    rintro s ⟨k,rfl,hk,heq⟩;unfold Tp
    by_cases h0:k=0
    .right;subst h0;refine⟨_,by rw[iN oo],.inl ⟨rfl,Axj oo hlen (fun j h h'=>heq j h h' oo)⟩⟩
    .have h1:k-1<(dig 4294967296 a).length:=oo;have h2:k-1<(dig 4294967296 b).length:=oo;have hat:=Axi (b:=4294967296) oo hlen h1 h2 (fun j h h' hj=>heq j h h' oo);rw[iP oo,show ((k:Int)-1)=((k-1:Nat):Int) from by omega,Dh h1,Ac,Dh h2,Ac]
     by_cases he:(dig 4294967296 a)[k-1]=(dig 4294967296 b)[k-1]
     .left;refine⟨((k-1:Nat):Int)-1,by rw[iP (by rw[he]),Aq oo oo],⟨k-1,rfl,oo,fun j h h' hj=>?_⟩,oo⟩;rcases Nat.lt_or_ge (k-1) j with hq|hq
      .exact heq j h h' oo
      .obtain rfl:j=k-1:=oo;exact he
     .right;rw[iN oo,Ac,Ac]
      by_cases hlt:(dig 4294967296 a)[k-1]<(dig 4294967296 b)[k-1]
      .exact⟨_,by rw[iP oo],.inr (by rw[hat.1 hlt])⟩
      .exact⟨_,by rw[iN oo],.inr (by rw[hat.2 oo])⟩)
   (((dig 4294967296 a).length:Int)-1) ⟨_,rfl,nL _,fun j h h' hj=>oo⟩
  rw[iP oo,jn_d,Aq oo oo,ht,Ac];rcases hR with⟨rfl,h0⟩|rfl
  .simp only[h0]
  .rfl
 .rw[iN oo]
  by_cases hlt:(dig 4294967296 a).length<(dig 4294967296 b).length
  .rw[iP oo,(Ah8 (b:=4294967296) oo rfl rfl).1 hlt]
  .rw[iN oo,(Ah8 (b:=4294967296) oo rfl rfl).2 oo]
theorem oneW:([1]:LI)=L32 1:=by unfold L32;rw[Ah7 oo];rfl
theorem Bbe{a:Nat}:(L32 a).length=0↔a=0:=by
 unfold L32;rw[Cd,length_eq_zero_iff,Ye oo]
theorem norm_L(a:Nat)(h:(dig 4294967296 a).length<=1000000):Ff (L32 a)=some (L32 a):=by
 unfold L32;rw[Ae8 _ h,Bbi oo]
theorem Aqh(a:Nat)(h:(dig 4294967296 a).length<=1000):Ds (L32 a) [1]=some (L32 a):=by
 have:=Awz (dig 4294967296 a) [1] (Pp oo a) s_ (by simp;omega);rw[Cs oo,show val 4294967296 [1]=1 from by simp[val],Nat.mul_one] at this;exact this
theorem Asp:Ds [1] [1]=some [1]:=by
 have:=Aqh 1 (by rw[Ah7 oo];simp)
 rwa [<-oneW] at this
theorem Vj{b:Nat}(l:LM)(i:Nat):val b (l.take (i+1))=val b (l.take i)+b^i*l.getD i 0:=by
 by_cases h:i<l.length
 .rw[Ue l i h];simp[h]
 .rw[take_of_length_le oo,take_of_length_le oo];simp[h]
theorem Ac8{l:LM}(hl:∀x∈l,x<65536)(i:Nat):l.getD i 0<65536:=by
 by_cases h:i<l.length
 .have:=hl _ (gM h);simpa[h] using this
 .simp[h]
theorem Yd{l:LM}{i:Nat}(h:i<l.length):l.getD i 0=l[i]:=by simp[h]
theorem Sq{l:LM}{i:Nat}(h:¬i<l.length):l.getD i 0=0:=by simp[h]
theorem Aas{b:Nat}(hb:0<b){l:LM}(hl:∀x∈l,x<b)(i:Nat):l.getD i 0<b:=by
 by_cases h:i<l.length
 .have:=hl _ (gM h);simpa[h] using this
 .simp[h,hb]
theorem Aw0(v:BitVec 32):IntKind.u32.wrap (v.toNat:Int)=(v.toNat:Int):=Air .u32 v.toNat (by simp only[top];omega)
theorem Aw1(a b:Int):Df .u32 a b=((BitVec.ofInt 32 a &&& BitVec.ofInt 32 b).toNat:Int):=Aw0 _
theorem Bgk(a b:Int):Xs .u32 a b=((BitVec.ofInt 32 a ||| BitVec.ofInt 32 b).toNat:Int):=Aw0 _
theorem Aqi(a b:Int):Adb .u32 a b=((BitVec.ofInt 32 a ^^^ BitVec.ofInt 32 b).toNat:Int):=Aw0 _
theorem Bgl(v:BitVec 32):BitVec.ofInt 32 (v.toNat:Int)=v:=by
 rw[BitVec.ofInt_natCast,BitVec.ofNat_toNat,BitVec.setWidth_eq]
theorem Bem:BitVec.ofInt 32 (if IntKind.signed .u32=true then -1 else IntKind.max .u32)=BitVec.allOnes 32:=dD
theorem Aw2(x:Int):wu32 x=x%4294967296:=by
 show IntKind.u32.wrap x=_;simp[IntKind.wrap,IntKind.bits,IntKind.signed]
theorem Ame(n:Nat)(h:n<4294967296):(BitVec.ofInt 32 (n:Int)).msb=decide (2147483648<=n):=by
 rw[BitVec.msb_eq_decide,BitVec.ofInt_natCast,BitVec.toNat_ofNat,Nat.mod_eq_of_lt oo]
theorem Bgm(v:BitVec 32):shr_ .u32 (v.toNat:Int) 31=if v.msb then 1 else 0:=by
 have h:=v.isLt;rw[BitVec.msb_eq_decide];show (v.toNat:Int).fdiv (2^(min (31:Int).toNat 32))=_;rw[show (2:Int)^(min (31:Int).toNat 32)=2147483648 from by decide,Int.fdiv_eq_ediv_of_nonneg _ oo]
 by_cases h1:2^(32-1)<=v.toNat
 .rw[iP (sV h1)];omega
 .rw[iN (sV h1)];omega
theorem Bgn{x y b:Nat}(hx:x<4294967296)(hy:y<4294967296)(hb:b<=1):
  ∃d b':Nat,Nm (x:Int) (y:Int) (b:Int)=some ((d:Int),(b':Int))/\d<4294967296/\b'<=1/\d+b+y=x+4294967296*b':=by
 unfold Nm;have e:wu32 (wu32 ((x:Int)-y)-b)=(((x:Int)-y-b)%4294967296).toNat:=by rw[Aw2,Aw2];omega
 rw[e];generalize hd:(((x:Int)-y-b)%4294967296).toNat=d;have hdl:d<4294967296:=oo;rw[Aw1,Aw1,Aqi,Aqi,Aqi,Bgk];simp only[Bgl,Bem,BitVec.allOnes_xor];rw[Bgm];rw[BitVec.msb_or,BitVec.msb_and,BitVec.msb_and,BitVec.msb_not,BitVec.msb_not,BitVec.msb_xor,Ame _ hx,Ame _ hy,Ame _ hdl]
 by_cases h1:2147483648<=x <;> by_cases h2:2147483648<=y <;> by_cases h3:2147483648<=d <;> simp only[h1,h2,h3,decide_true,decide_false,Bool.not_true,Bool.not_false,Bool.and_true,Bool.and_false,Bool.true_and,Bool.false_and,Bool.or_true,Bool.or_false,Bool.xor_true,Bool.xor_false,Bool.false_eq_true,if_true,if_false,show (0<32)=True by simp] <;>
  first
  |exact⟨d,0,rfl,hdl,oo,oo⟩
  |exact⟨d,1,rfl,hdl,oo,oo⟩
theorem Bgo{x y c:Nat}(hx:x<4294967296)(hy:y<4294967296)(hc:c<=1):
  Nl (x:Int) (y:Int) (c:Int)=some ((((x+y+c)%4294967296:Nat):Int),(((x+y+c)/4294967296:Nat):Int)):=by
 unfold Nl;have e:wu64 (wu64 (wu64 (x:Int)+wu64 (y:Int))+wu64 (c:Int))=((x+y+c:Nat):Int):=by
  rw[Yr (n:=x) oo,Yr (n:=y) oo,Yr (n:=c) oo,<-Int.natCast_add,Yr oo,<-Int.natCast_add,Yr oo]
 rw[e,Ae9,Awy,Awx oo]
theorem Aw3{l r out:List Nat}{cy i n:Nat}(hn:l.length=n)(hi:i<n)(hr:r.length<=n)(hl':∀ x∈l,x<4294967296)(hr':∀ x∈r,x<4294967296)(hC1:out.length=n+1)(hC2:cy<=1)(hC4:∀ x∈out,x<4294967296)(hC5:∀ (q:Nat) (h:q<out.length),i<=q->out[q]=0)(hC6:val 4294967296 out+cy*4294967296 ^ i=val 4294967296 (l.take i)+val 4294967296 (r.take i)):
  ∀s,s=l.getD i 0+r.getD i 0+cy->(out.set i (s%4294967296)).length=n+1/\s/4294967296<=1/\(∀x∈out.set i (s%4294967296),x<4294967296)/\(∀(q:Nat) (h:q<(out.set i (s%4294967296)).length),i+1<=q->(out.set i (s%4294967296))[q]=0) /\
   val 4294967296 (out.set i (s%4294967296))+s/4294967296*4294967296^(i+1)=val 4294967296 (l.take (i+1))+val 4294967296 (r.take (i+1)):=by
 intro s hs;have h1:=Aas (b:=4294967296) oo hl' i;have h2:=Aas (b:=4294967296) oo hr' i;refine⟨by simp[hC1],oo,Va hC4 oo,fun q hq hiq=>?_,?_⟩
 .rw[getElem_set_ne oo];exact hC5 q (sV hq) oo
 .have hs1:=Zu (b:=4294967296) out i (s%4294967296) oo;rw[hC5 i oo oo] at hs1;rw[Vj,Vj];have e1:s=4294967296*(s/4294967296)+s%4294967296:=oo;have e2:=congrArg (· * 4294967296^i) (hs.symm.trans e1);simp only[Nat.add_mul] at e2;have e4:4294967296^(i+1)=4294967296*4294967296^i:=by rw[Nat.pow_succ,Nat.mul_comm]
  rw[e4];generalize 4294967296^i=P at *;generalize l.getD i 0=a at *;generalize r.getD i 0=b at *;generalize s/4294967296=q at *;generalize s%4294967296=m at *;have e5:q*(4294967296*P)=4294967296*q*P:=by grind
  have e7:P*a=a*P:=Nat.mul_comm _ _;have e8:P*b=b*P:=Nat.mul_comm _ _;omega
theorem Aw4(l r:List Nat)(hl:∀ x∈l,x<4294967296)(hr:∀ x∈r,x<4294967296)(h9:l.length<=100000)(hrl:r.length<=l.length):
  (jn (fun (s6:LI×Int)=>
   bnd (idx s6.1 ((((nI l).length:Nat):Int))) fun _=>
   bnd (Ff (setI s6.1 ((((nI l).length:Nat):Int)) s6.2)) fun r122=>
   some r122)
   (fun j6=>bnd (lfix (Ll (nI l,nI r)) (List.replicate (Int.toNat (w64 (((((nI l).length:Nat):Int))+1))) (0:Int),0,0)) fun t56=>
   j6 t56))=some (L32 (val 4294967296 l+val 4294967296 r)):=by
 obtain⟨t,ht,out,cy,rfl,hC1,hC2,hC4,hC5,hC6⟩:=Ax (B:=Ll (nI l,nI r)) (fun s=>l.length-s.2.2.toNat)
  (fun s=>∃(out:LM) (cy i:Nat),s=(nI out,(cy:Int),(i:Int))/\i<=l.length/\out.length=l.length+1/\cy<=1/\(∀x∈out,x<4294967296)/\(∀(q:Nat) (h:q<out.length),i<=q->out[q]=0)/\val 4294967296 out+cy*4294967296^i=val 4294967296 (l.take i)+val 4294967296 (r.take i))
  (fun t=>∃(out:LM) (cy:Nat),t=(nI out,(cy:Int))/\out.length=l.length+1/\cy<=1/\(∀x∈out,x<4294967296)/\(∀(h:l.length<out.length),out[l.length]=0)/\val 4294967296 out+cy*4294967296^l.length=val 4294967296 l+val 4294967296 r) (by
   rintro s ⟨out,cy,i,rfl,hi',hC1,hC2,hC4,hC5,hC6⟩;unfold Ll;simp only[jn_d,Cd]
   by_cases hi:i<l.length
   ·left;obtain⟨k1,k2,k3,k4,k5⟩:=Aw3 rfl hi hrl hl hr hC1 hC2 hC4 hC5 hC6 _ rfl;have h1:=Aas (b:=4294967296) oo hl i;have h2:=Aas (b:=4294967296) oo hr i;refine⟨_,?_,⟨_,_,i+1,rfl,oo,k1,k2,k3,k4,k5⟩,by simp only[Int.toNat_natCast];omega⟩;rw[if_pos oo];have fin:∀ y:Int,y=((r.getD i 0:Nat):Int)->(bnd (idx (nI l) (i:Int)) fun x76=>bnd (Nl x76 y (cy:Int)) fun r87=>bnd (idx (nI out) (i:Int)) fun _=>some (Sum.inl (β:=List Int × Int) (setI (nI out) (i:Int) r87.1,r87.2,w64 ((i:Int)+1))))=some (.inl (nI (out.set i ((l.getD i 0+r.getD i 0+cy) % 4294967296)),(((l.getD i 0+r.getD i 0+cy) / 4294967296:Nat):Int),((i+1:Nat):Int))):=by
     rintro y rfl;rw[Dh hi,Ac,<-Yd hi,Bgo h1 h2 hC2,Ac,Dh oo,Ac];simp only[];rw[Yc,As oo]
    by_cases hm:i<r.length
    .rw[iP oo,Dh hm,Ac];exact fin _ (by rw[Yd hm])
    .rw[iN oo];exact fin _ (by rw[Sq hm];rfl)
   .right;obtain rfl:i=l.length:=oo;rw[iN oo];rw[take_of_length_le oo,take_of_length_le oo] at hC6;exact⟨_,rfl,out,cy,rfl,hC1,hC2,hC4,fun h=>hC5 _ h oo,hC6⟩)
  (nI (List.replicate (l.length+1) 0),((0:Nat):Int),((0:Nat):Int)) ⟨_,0,0,rfl,oo,s_,oo,s_,s_,by simp[val,Aav]⟩
 simp only[jn_d,Cd];rw[As oo,Int.toNat_natCast,Aar];have ht':lfix (Ll (nI l,nI r)) (nI (List.replicate (l.length+1) 0),0,0)=some (nI out,(cy:Int)):=ht;rw[ht',Ac];simp only[];rw[Dh oo,Ac,Yc,Ae8 _ (by simp;omega),Ac];have hs1:=Zu (b:=4294967296) out l.length cy oo;rw[hC5 oo] at hs1;rw[Yt (b:=4294967296) oo _ (Va hC4 oo),show val 4294967296 (out.set l.length cy)=val 4294967296 l+val 4294967296 r by omega];rfl
theorem Ben(l r:List Nat)(hl:∀ x∈l,x<4294967296)(hr:∀ x∈r,x<4294967296)(h9:l.length<=100000)(h9':r.length<=100000):
  Sa (nI l) (nI r)=some (L32 (val 4294967296 l+val 4294967296 r)):=by
 unfold Sa;simp only[jn_d]
 by_cases h:l.length<r.length
 .rw[iP (by rw[Cd,Cd];omega),gd_t (by rw[Cd,As oo];omega)];have:=Aw4 r l hr hl h9' oo;simp only[jn_d] at this;rw[this,Nat.add_comm]
 .rw[iN (by rw[Cd,Cd];omega),gd_t (by rw[Cd,As oo];omega)];have:=Aw4 l r hl hr h9 oo;simp only[jn_d] at this;exact this
theorem Beo(l r:List Nat)(hl:∀ x∈l,x<4294967296)(hr:∀ x∈r,x<4294967296)(h9:l.length<=100000)(hrl:r.length<=l.length)(hle:val 4294967296 r<=val 4294967296 l):
  Pe (nI l) (nI r)=some (L32 (val 4294967296 l-val 4294967296 r)):=by
 obtain⟨t,ht,out,rfl,hC1,hd⟩:=Ax (B:=Qd (nI l) (nI r)) (fun s=>l.length-s.2.2.toNat)
  (fun s=>∃(out:LM) (bw i:Nat),s=(nI out,(bw:Int),(i:Int))/\i<=l.length/\out.length=l.length/\bw<=1/\(∀x∈out,x<4294967296)/\(∀(q:Nat) (h:q<out.length),i<=q->out[q]=0)/\val 4294967296 out+val 4294967296 (r.take i)=val 4294967296 (l.take i)+bw*4294967296^i)
  (fun t=>∃(out:LM),t=nI out/\out.length=l.length/\nrm out=dig 4294967296 (val 4294967296 l-val 4294967296 r)) (by
   rintro s ⟨out,bw,i,rfl,hi',hC1,hC2,hC4,hC5,hC6⟩;unfold Qd;simp only[jn_d,Cd]
   by_cases hi:i<l.length
   .left;have h1:=Aas (b:=4294967296) oo hl i;have h2:=Aas (b:=4294967296) oo hr i;obtain⟨d,b',hB,hd1,hb1,he⟩:=Bgn h1 h2 hC2;refine⟨(nI (out.set i d),(b':Int),((i+1:Nat):Int)),?_,⟨_,_,i+1,rfl,oo,by simp[hC1],hb1,Va hC4 hd1,fun q hq hiq=>?_,?_⟩,by simp only[Int.toNat_natCast];omega⟩
    ·rw[if_pos oo];have fin:∀ y:Int,y=((r.getD i 0:Nat):Int)->(bnd (idx (nI l) (i:Int)) fun x76=>bnd (Nm x76 y (bw:Int)) fun r87=>bnd (idx (nI out) (i:Int)) fun _=>some (Sum.inl (β:=List Int) (setI (nI out) (i:Int) r87.1,r87.2,w64 ((i:Int)+1))))=some (.inl (nI (out.set i d),(b':Int),((i+1:Nat):Int))):=by
      rintro y rfl;rw[Dh hi,Ac,<-Yd hi,hB,Ac,Dh oo,Ac];simp only[];rw[Yc,As oo]
     by_cases hm:i<r.length
     .rw[iP oo,Dh hm,Ac];exact fin _ (by rw[Yd hm])
     .rw[iN oo];exact fin _ (by rw[Sq hm];rfl)
    .rw[getElem_set_ne oo];exact hC5 q (sV hq) oo
    .have hs1:=Zu (b:=4294967296) out i d oo;rw[hC5 i oo oo] at hs1;rw[Vj,Vj];have e3:=congrArg (· * 4294967296^i) he;simp only[Nat.add_mul] at e3;have e4:4294967296^(i+1)=4294967296*4294967296^i:=by rw[Nat.pow_succ,Nat.mul_comm]
     rw[e4];generalize 4294967296^i=P at *;generalize l.getD i 0=a at *;generalize r.getD i 0=b at *;have e5:b'*(4294967296*P)=4294967296*b'*P:=by grind
     have e7:P*a=a*P:=Nat.mul_comm _ _;have e8:P*b=b*P:=Nat.mul_comm _ _;omega
   .right;obtain rfl:i=l.length:=oo;rw[iN oo];rw[take_of_length_le oo,take_of_length_le oo] at hC6;refine⟨_,rfl,out,rfl,hC1,?_⟩;rw[Yt (b:=4294967296) oo out hC4];have hlt:=Aga out hC4;rw[hC1] at hlt;have:bw=0\/bw=1:=oo;rcases this with rfl|rfl
    .rw[show val 4294967296 out=val 4294967296 l-val 4294967296 r by omega]
    .omega)
  (nI (List.replicate l.length 0),((0:Nat):Int),((0:Nat):Int)) ⟨_,0,0,rfl,oo,s_,oo,s_,s_,by simp[val,Aav]⟩
 unfold Pe;simp only[jn_d,Cd,Int.toNat_natCast,Aar];rw[gd_t ⟨oo,oo⟩];have ht':lfix (Qd (nI l) (nI r)) (nI (List.replicate l.length 0),0,0)=some (nI out):=ht;rw[ht',Ac,Ae8 _ oo,Ac,hd];rfl
theorem W_lt{a:Nat}:∀x∈dig 4294967296 a,x<4294967296:=Pp oo a
theorem Bep{a b:Nat}(ha:(dig 4294967296 a).length<=100000)(hb:(dig 4294967296 b).length<=100000):Sa (L32 a) (L32 b)=some (L32 (a+b)):=by
 have:=Ben _ _ (W_lt (a:=a)) (W_lt (a:=b)) ha hb
 rwa [Cs oo,Cs oo] at this
theorem Auq{a b:Nat}(h:a<=b):(dig 4294967296 a).length<=(dig 4294967296 b).length:=by
 rcases Nat.lt_or_ge (dig 4294967296 b).length (dig 4294967296 a).length with h1|h1
 .have:=Abj (b:=4294967296) oo h1;omega
 .exact h1
theorem Aw5{a b:Nat}(ha:(dig 4294967296 a).length<=100000)(h:b<=a):Pe (L32 a) (L32 b)=some (L32 (a-b)):=by
 have:=Beo _ _ (W_lt (a:=a)) (W_lt (a:=b)) ha (Auq h) (by rw[Cs oo,Cs oo];exact h)
 rwa [Cs oo,Cs oo] at this
theorem Beq{a b:Nat}(h:(dig 4294967296 a).length+(dig 4294967296 b).length<=1000000):Ds (L32 a) (L32 b)=some (L32 (a*b)):=by
 have:=Awz _ _ (W_lt (a:=a)) (W_lt (a:=b)) h
 rwa [Cs oo,Cs oo] at this
theorem Asq{n:Nat}(h:n<=18446744073709551615):Vn (n:Int)=some (L32 n):=by
 unfold Vn;have:=Ae8 [n%4294967296,n/4294967296%4294967296] s_;rw[show [wu32 (n:Int),wu32 (shr_ .u64 (n:Int) 32)]=nI [n%4294967296,n/4294967296%4294967296] from by rw[Awy,Ae9,Ae9];rfl,this,Ac,Auu n h];rfl
theorem Ber{s:Bool}{z:Int}(hs:z≠0->s=decide (z<0)):Qe ⟨s,L32 z.natAbs,[1]⟩=some (Int.sign z):=by
 unfold Qe;simp only[]
 by_cases h0:z=0
 .subst h0;rfl
 .have:(L32 z.natAbs).length≠0:=fun e=>h0 (by have:=Bbe.1 e;omega)
  rw[iN oo,hs h0]
  by_cases h1:z<0
  .rw[iP (sV h1),Int.sign_eq_neg_one_of_neg h1]
  .rw[iN (sV h1),Int.sign_eq_one_of_pos oo]
def L16(m:Nat):LI:=nI (dig 65536 m)
def Z16(z:Int):Ai:=⟨decide (z<0),L16 z.natAbs⟩
theorem Bbf{l:LM}{k:Nat}:(nI l).take k=nI (l.take k):=by simp[nI]
theorem Ak4:∀(l:LM),nrm (l++[0])=nrm l
 |[]=>rfl
 |x::r=>by simp only[cons_append,nrm];rw[Ak4 r]
theorem An3:∀(l:LM) {x:Nat},x≠0->nrm (l++[x])=l++[x]
 |[],x,h=>by simp[nrm,h]
 |y::r,x,h=>by
  simp only[cons_append,nrm];rw[An3 r h];cases r <;> rfl
theorem Afa(l:LM)(h9:l.length<=1000000000):Bl (nI l)=some (nI (nrm l)):=by
 obtain⟨t,ht,k,rfl,hk,hn⟩:=Ax (B:=Qo (nI l)) (fun s=>s.toNat)
  (fun s=>∃k:Nat,s=(k:Int)/\k<=l.length/\nrm (l.take k)=nrm l)
  (fun t=>∃k:Nat,t=(k:Int)/\k<=l.length/\l.take k=nrm l) (by
   rintro s ⟨k,rfl,hk,hn⟩;unfold Qo;simp only[jn_d]
   by_cases h0:k=0
   .right;subst h0;refine⟨((0:Nat):Int),by rw[iN oo];rfl,0,rfl,oo,?_⟩;rw[<-hn];rfl
   ·have h1:k-1<l.length:=oo;rw[if_pos oo,show ((k:Int)-1)=((k-1:Nat):Int) from by omega,Si oo,Dh h1,Ac];have e:l.take k=l.take (k-1)++[l[k-1]]:=by
     obtain⟨q,rfl⟩:=Nat.exists_eq_succ_of_ne_zero h0;simp only[Nat.succ_eq_add_one,Nat.add_sub_cancel] at h1⊢;rw[take_add_one,gE h1];rfl
    by_cases hz:l[k-1]=0
    .left;refine⟨((k-1:Nat):Int),by rw[iP (by simp[hz])],⟨k-1,rfl,oo,?_⟩,oo⟩;rw[<-hn,e,hz,Ak4]
    .right;refine⟨(k:Int),by rw[iN (by simp;omega)],k,rfl,hk,?_⟩;rw[<-hn,e,An3 _ hz])
  (l.length:Int) ⟨l.length,rfl,oo,by rw[take_length]⟩
 unfold Bl;simp only[jn_d,Cd];rw[ht,Ac,gd_t oo,Bd1,Int.toNat_natCast,Bbf,hn]
theorem Aqj(a:Nat):Int.tmod (a:Int) 65536=((a%65536:Nat):Int):=by rw[Int.tmod_eq_emod_of_nonneg oo];omega
theorem Aqk(a:Nat):Int.tdiv (a:Int) 65536=((a/65536:Nat):Int):=by rw[Int.tdiv_eq_ediv_of_nonneg oo];omega
theorem Ee{m : Nat}: ∀ {k : Nat}, m<65536 ^ k -> (dig 65536 m).length <= k := by
  intro k
  induction k generalizing m with
  | zero => intro h;obtain rfl : m = 0 := by simpa using h
            simp[Sr]
  | succ k ih=>
    intro h
    by_cases h0:m=0
    · subst h0;simp[Sr]
    · rw[Tl oo h0, length_cons];have:=ih (m:=m/65536) (Nat.div_lt_of_lt_mul (by rw[Nat.pow_succ, Nat.mul_comm] at h;exact h));omega
theorem Aat{z:Int}(h1:-9223372036854775808<=z)(h2:z<=9223372036854775807):Be z=some (Z16 z):=by
 have key:∀m:Nat,m<18446744073709551616->lfix Jy ((m:Int),([]:LI))=some (L16 m):=by
  intro m hm;have h4:(dig 65536 m).length<=4:=Ee oo;obtain⟨t,ht,hR⟩:=Ax (B:=Jy) (fun s=>s.1.toNat)
   (fun s=>∃(u:Nat) (o:LM),s=((u:Int),nI o)/\dig 65536 m=o++dig 65536 u/\u<18446744073709551616)
   (fun t=>t=L16 m) (by
    rintro s ⟨u,o,rfl,hd,hu⟩;unfold Jy
    by_cases h0:u=0
    .right;subst h0;exact⟨_,by simp only[];rw[iN oo],by rw[Sr,append_nil] at hd;unfold L16;rw[hd]⟩
    .left;have ho:o.length<=4:=by have:=congrArg List.length hd;rw[length_append] at this;omega
     refine⟨(((u/65536:Nat):Int),nI (o++[u%65536])),?_,⟨u/65536,_,rfl,?_,oo⟩,by simp;omega⟩
     .simp only[Cd];rw[iP oo,gd_t oo,Aqk,Aqj,Si oo,Re oo];simp[nI]
     .rw[hd,Tl oo h0,append_assoc];rfl)
   ((m:Int),nI []) ⟨m,[],rfl,rfl,hm⟩
  rw[<-hR];exact ht
 unfold Be;simp only[jn_d]
 by_cases h:z<0
 .rw[iP h,show wu64 (-(wu64 z))=((z.natAbs:Nat):Int) from by rw[Xe,Xe];omega,key _ oo,Ac];rfl
 .rw[iN h,show wu64 z=((z.natAbs:Nat):Int) from by rw[Xe];omega,key _ oo,Ac];rfl
theorem Bbg(l r:List Nat)(hl:∀ x∈l,x<65536)(hr:∀ x∈r,x<65536)(hb:l.length+r.length<=1000000):
  Ck (nI l) (nI r)=some (L16 (val 65536 l*val 65536 r)):=by
 have e:w64 ((((nI l).length:Nat):Int)+(((nI r).length:Nat):Int))=((l.length+r.length:Nat):Int):=by rw[Cd,Cd,Aq oo oo];omega
 obtain⟨t,ht,out,rfl,hd⟩:=Ax (B:=Hb (nI l) (nI r)) (fun s=>l.length-s.2.toNat)
  (fun s=>∃(out:LM) (i:Nat),s=(nI out,(i:Int))/\out.length=l.length+r.length/\i<=l.length/\(∀x∈out,x<65536)/\(∀(q:Nat) (h:q<out.length),i+r.length<=q->out[q]=0)/\val 65536 out=val 65536 (l.take i)*val 65536 r)
  (fun t=>∃out,t=nI out/\out.length<=1000000000/\nrm out=dig 65536 (val 65536 l*val 65536 r)) (by
   rintro s ⟨out0,i,rfl,hC1,hC2,hC3,hC4,hC5⟩
   by_cases hi:i<l.length
   ·left;obtain⟨t,ht,out,cy,rfl,hD1,hD2,hD4,hD5,hD6⟩:=Ax (B:=Ha (nI r) (nI l) (nI out0,(i:Int))) (fun s=>r.length-s.2.2.toNat)
     (fun s=>∃(out:LM) (cy j:Nat),s=(nI out,(cy:Int),(j:Int))/\out.length=l.length+r.length/\cy<65536/\j<=r.length/\(∀x∈out,x<65536)/\(∀(q:Nat) (h:q<out.length),i+r.length<=q->out[q]=0)/\val 65536 out+cy*65536^(i+j)=val 65536 out0+l[i]*val 65536 (r.take j)*65536^i)
     (fun t=>∃(out:LM) (cy:Nat),t=(nI out,(cy:Int))/\out.length=l.length+r.length/\cy<65536/\(∀x∈out,x<65536)/\(∀(q:Nat) (h:q<out.length),i+r.length<=q->out[q]=0)/\val 65536 out+cy*65536^(i+r.length)=val 65536 out0+l[i]*val 65536 (r.take r.length)*65536^i) (by
      rintro s ⟨out,cy,j,rfl,hD1,hD2,hD3,hD4,hD5,hD6⟩
      by_cases hj:j<r.length
      .left;have hk:i+j<out.length:=oo;have h1:=hl _ (gM hi);have h2:=hr _ (gM hj);have h3:=hD4 _ (gM hk);have hmm:=Aoa h1 h2;have e1:w64 ((i:Int)+(j:Int))=((i+j:Nat):Int):=by rw[Aq oo oo];omega
       have e2:w64 (w64 (w64 ((l[i]:Int)*(r[j]:Int))+(out[i+j]:Int))+(cy:Int))=((l[i]*r[j]+out[i+j]+cy:Nat):Int):=by
        have e3:w64 ((l[i]:Int)*(r[j]:Int))=((l[i]*r[j]:Nat):Int):=by rw[<-Int.natCast_mul];exact Si oo
        rw[e3,<-Int.natCast_add,Si oo,<-Int.natCast_add,Si oo]
       have e4:w64 (((l[i]*r[j]+out[i+j]+cy)/65536:Nat):Int)=(((l[i]*r[j]+out[i+j]+cy)/65536:Nat):Int):=Si oo;refine⟨(nI (out.set (i+j) ((l[i]*r[j]+out[i+j]+cy)%65536)),(((l[i]*r[j]+out[i+j]+cy)/65536:Nat):Int),((j+1:Nat):Int)),?_,⟨_,_,_,rfl,Aob hi hj rfl rfl h1 h2 hD1 hD2 hD3 hD4 hD5 hD6 hk⟩,by simp;omega⟩;unfold Ha;simp only[e1];rw[iP (by rw[Cd];omega),Dh hi,Ac,Dh hj,Ac,Dh hk,Ac,Ac,e2,Aqj,Aqk,e4,Yc,As oo]
      .right;obtain rfl:j=r.length:=oo;refine⟨(nI out,(cy:Int)),?_,out,cy,rfl,hD1,hD2,hD4,hD5,hD6⟩;unfold Ha;simp only[];rw[iN (by rw[Cd];omega)])
     (nI out0,((0:Nat):Int),((0:Nat):Int)) ⟨out0,0,0,rfl,hC1,oo,oo,hC3,fun q hq hiq=>hC4 q hq oo,by simp[val]⟩
    have hk:i+r.length<out.length:=oo;refine⟨(nI (out.set (i+r.length) (cy%65536)),((i+1:Nat):Int)),?_,⟨_,_,rfl,Aoc hi rfl rfl hD1 hD2 hD4 hD5 hD6 hC5 rfl⟩,by simp;omega⟩;unfold Hb;simp only[jn_d];have ht':lfix (Ha (nI r) (nI l) (nI out0,(i:Int))) (nI out0,0,0)=some (nI out,(cy:Int)):=ht;rw[iP (by rw[Cd];omega),ht',Ac,Cd,show w64 ((i:Int)+(r.length:Int))=((i+r.length:Nat):Int) from by rw[Aq oo oo];omega,Dh hk,Ac];simp only[];rw[Yc,As oo,Nat.mod_eq_of_lt hD2]
   .right;refine⟨nI out0,?_,out0,rfl,oo,Aqn (i:=i) oo rfl hC1 hC3 hC5⟩;unfold Hb;simp only[];rw[iN (by rw[Cd];omega)])
  (nI (List.replicate (l.length+r.length) 0),((0:Nat):Int)) ⟨_,0,rfl,s_,oo,s_,s_,by simp[val,Aav]⟩
 unfold Ck;simp only[e,jn_d,Int.toNat_natCast,Aar];have ht':lfix (Hb (nI l) (nI r)) (nI (List.replicate (l.length+r.length) 0),0)=some (nI out):=ht;rw[gd_t ⟨oo,oo⟩,ht',Ac,Afa _ hd.1,Ac,hd.2];rfl
theorem Aw6(a b:Nat)(ha:(dig 65536 a).length<=1000000):Fk (L16 a) (L16 b)=some (cmpN a b):=by
 unfold Fk L16;rw[Cd,Cd]
 by_cases hlen:(dig 65536 a).length=(dig 65536 b).length
 ·obtain⟨t,ht,hR⟩:=Ax (B:=Na (nI (dig 65536 a)) (nI (dig 65536 b))) (fun s=>(s+1).toNat)
   (fun s=>∃k:Nat,s=(k:Int)-1/\k<=(dig 65536 a).length/\∀(j:Nat) (h:j<(dig 65536 a).length) (h':j<(dig 65536 b).length),k<=j->(dig 65536 a)[j]=(dig 65536 b)[j])
   (fun t=>(t=.inl ()/\cmpN a b=0)\/t=.inr (cmpN a b)) (by
    rintro s ⟨k,rfl,hk,heq⟩;unfold Na
    by_cases h0:k=0
    .right;subst h0;refine⟨_,by rw[iN oo],.inl ⟨rfl,Axj oo hlen (fun j h h'=>heq j h h' oo)⟩⟩
    .have h1:k-1<(dig 65536 a).length:=oo;have h2:k-1<(dig 65536 b).length:=oo;have hat:=Axi (b:=65536) oo hlen h1 h2 (fun j h h' hj=>heq j h h' oo);rw[iP oo,show ((k:Int)-1)=((k-1:Nat):Int) from by omega,Dh h1,Ac,Dh h2,Ac]
     by_cases he:(dig 65536 a)[k-1]=(dig 65536 b)[k-1]
     .left;refine⟨((k-1:Nat):Int)-1,by rw[iP (by rw[he]),Aq oo oo],⟨k-1,rfl,oo,fun j h h' hj=>?_⟩,oo⟩;rcases Nat.lt_or_ge (k-1) j with hq|hq
      .exact heq j h h' oo
      .obtain rfl:j=k-1:=oo;exact he
     .right;rw[iN oo,Ac,Ac]
      by_cases hlt:(dig 65536 a)[k-1]<(dig 65536 b)[k-1]
      .exact⟨_,by rw[iP oo],.inr (by rw[hat.1 hlt])⟩
      .exact⟨_,by rw[iN oo],.inr (by rw[hat.2 oo])⟩)
   (((dig 65536 a).length:Int)-1) ⟨_,rfl,nL _,fun j h h' hj=>oo⟩
  rw[iP oo,jn_d,Aq oo oo,ht,Ac];rcases hR with⟨rfl,h0⟩|rfl
  .simp only[h0]
  .rfl
 .rw[iN oo]
  by_cases hlt:(dig 65536 a).length<(dig 65536 b).length
  .rw[iP oo,(Ah8 (b:=65536) oo rfl rfl).1 hlt]
  .rw[iN oo,(Ah8 (b:=65536) oo rfl rfl).2 oo]
theorem Bdv:([1]:LI)=L16 1:=by unfold L16;rw[Ah7 oo];rfl
theorem Aur(l r o:List Nat)(cy i:Nat)(hl:∀ x∈l,x<65536)(hr:∀ x∈r,x<65536)(hcy:cy<=1)(hi:i<=1000001)(ho:o.length=i):
  Ia (nI r) (nI l) (nI o,(cy:Int),(i:Int))=if i<l.length\/i<r.length\/0<cy then some (.inl (nI (o++[(cy+l.getD i 0+r.getD i 0)%65536]),(((cy+l.getD i 0+r.getD i 0)/65536:Nat):Int),((i+1:Nat):Int))) else some (.inr (nI o)):=by
 have h1:=Ac8 hl i;have h2:=Ac8 hr i;have fin:∀s:Nat,s<=131071->(nI o++[Int.tmod (s:Int) 65536],w64 (Int.tdiv (s:Int) 65536),w64 ((i:Int)+1))=(nI (o++[s%65536]),((s/65536:Nat):Int),((i+1:Nat):Int)):=by
  intro s hs;rw[Aqj,Aqk,Si oo,As oo];simp[nI]
 unfold Ia;simp only[jn_d,Cd]
 by_cases hn:i<l.length
 .rw[iP (oo:(i:Int)<(l.length:Int)),iP trivial,iP (oo:(i:Int)<(l.length:Int)),Dh hn,Ac,iP (show i<l.length\/i<r.length\/0<cy from .inl hn)];rw[show w64 ((cy:Int)+(l[i]:Int))=((cy+l.getD i 0:Nat):Int) from by rw[Yd hn] at *;rw[Aq oo oo];omega]
  by_cases hm:i<r.length
  .rw[iP (oo:(i:Int)<(r.length:Int)),Dh hm,Ac,gd_t oo];rw[show w64 (((cy+l.getD i 0:Nat):Int)+(r[i]:Int))=((cy+l.getD i 0+r.getD i 0:Nat):Int) from by rw[Yd hm] at *;rw[Aq oo oo];omega];rw[fin _ oo]
  .rw[iN (oo:¬(i:Int)<(r.length:Int)),gd_t oo,fin _ oo,Sq hm];rfl
 .rw[iN (oo:¬(i:Int)<(l.length:Int))]
  by_cases hm:i<r.length
  .rw[iP (oo:(i:Int)<(r.length:Int)),iP trivial,iN (oo:¬(i:Int)<(l.length:Int)),iP (oo:(i:Int)<(r.length:Int)),Dh hm,Ac,gd_t oo,iP (show i<l.length\/i<r.length\/0<cy from .inr (.inl hm)),Sq hn,Nat.add_zero];rw[show w64 ((cy:Int)+(r[i]:Int))=((cy+r.getD i 0:Nat):Int) from by rw[Yd hm] at *;rw[Aq oo oo];omega];rw[fin _ oo]
  .rw[iN (oo:¬(i:Int)<(r.length:Int))]
   by_cases hc:0<cy
   .rw[iP (sV hc),iN (oo:¬(i:Int)<(l.length:Int)),iN (oo:¬(i:Int)<(r.length:Int)),gd_t oo,fin _ oo,iP (show i<l.length\/i<r.length\/0<cy from .inr (.inr hc)),Sq hn,Sq hm];rfl
   .rw[iN (sV hc),iN oo]
theorem Bes(l r:List Nat)(hl:∀ x∈l,x<65536)(hr:∀ x∈r,x<65536)(h1:l.length<=1000000)(h2:r.length<=1000000):
  Ju (nI l) (nI r)=some (L16 (val 65536 l+val 65536 r)):=by
 obtain⟨t,ht,out,rfl,hd⟩:=Ax (B:=Ia (nI r) (nI l)) (fun s=>2*(max l.length r.length-s.2.2.toNat)+s.2.1.toNat)
  (fun s=>∃(o:LM) (cy i:Nat),s=(nI o,(cy:Int),(i:Int))/\o.length=i/\cy<=1/\i<=max l.length r.length+1/\(i=max l.length r.length+1->cy=0)/\(∀x∈o,x<65536)/\val 65536 o+cy*65536^i=val 65536 (l.take i)+val 65536 (r.take i))
  (fun t=>∃out,t=nI out/\out.length<=1000000000/\nrm out=dig 65536 (val 65536 l+val 65536 r)) (by
   rintro s ⟨o,cy,i,rfl,hC1,hC2,hC3,hC0,hC4,hC5⟩;have g1:=Ac8 hl i;have g2:=Ac8 hr i;rw[Aur l r o cy i hl hr hC2 oo hC1]
   by_cases hc:i<l.length\/i<r.length\/0<cy
   .left;rw[iP hc];refine⟨_,rfl,⟨_,_,_,rfl,by simp[hC1],oo,oo,fun he=>?_,?_,?_⟩,?_⟩
    .rw[Sq (oo:¬i<l.length),Sq (oo:¬i<r.length)];omega
    .intro x hx;rcases mem_append.1 hx with hx|hx
     .exact hC4 x hx
     .simp at hx;omega
    .rw[Yu,hC1,Vj,Vj];have e:val 65536 [(cy+l.getD i 0+r.getD i 0)%65536]=(cy+l.getD i 0+r.getD i 0)%65536:=by simp[val]
     rw[e];have e2:=Nat.div_add_mod (cy+l.getD i 0+r.getD i 0) 65536;have e3:=congrArg (· * 65536^i) e2;simp only[Nat.add_mul] at e3;have e4:65536^(i+1)=65536*65536^i:=by rw[Nat.pow_succ,Nat.mul_comm]
     rw[e4];generalize 65536^i=P at *;generalize (cy+l.getD i 0+r.getD i 0)%65536=M at *;generalize (cy+l.getD i 0+r.getD i 0)/65536=D at *;generalize l.getD i 0=a at *;generalize r.getD i 0=b at *;have e5:D*(65536*P)=65536*D*P:=by grind
     have e6:P*M=M*P:=Nat.mul_comm _ _;have e7:P*a=a*P:=Nat.mul_comm _ _;have e8:P*b=b*P:=Nat.mul_comm _ _;omega
    .simp only[Int.toNat_natCast]
     by_cases hb:i<l.length\/i<r.length
     .omega
     .rw[Sq (oo:¬i<l.length),Sq (oo:¬i<r.length)];omega
   .right;rw[iN hc];refine⟨_,rfl,o,rfl,oo,?_⟩;have:cy=0:=oo;subst this;rw[Yt (b:=65536) oo o hC4];rw[take_of_length_le oo,take_of_length_le oo] at hC5;rw[show val 65536 o=val 65536 l+val 65536 r by omega])
  (nI [],((0:Nat):Int),((0:Nat):Int)) ⟨[],0,0,rfl,rfl,oo,oo,oo,s_,by simp[val]⟩
 unfold Ju;have ht':lfix (Ia (nI r) (nI l)) ([],0,0)=some (nI out):=ht;simp only[jn_d];rw[ht',Ac,Afa _ hd.1,Ac,hd.2];rfl
theorem Aus(l r o:List Nat)(bw i:Nat)(hi:i<l.length)(hl:∀ x∈l,x<65536)(hr:∀ x∈r,x<65536)(hb:bw<=1)(h9:l.length<=1000000)(ho:o.length=i):
  ∃d b':Nat,Fm (nI l) (nI r) (nI o,(bw:Int),(i:Int))=some (.inl (nI (o++[d]),(b':Int),((i+1:Nat):Int)))/\d<65536/\b'<=1/\d+bw+r.getD i 0=l.getD i 0+65536*b':=by
 have h1:=Ac8 hl i;have h2:=Ac8 hr i;unfold Fm;simp only[jn_d,Cd];rw[iP (oo:(i:Int)<(l.length:Int)),Dh hi,Ac];rw[Yd hi] at *;have fin:∀t:Int,t=(l[i]:Int)-bw-(r.getD i 0:Int)->∃d b':Nat,(if t<0 then gd (((nI o).length+1)*8<=140737488355328) (some (Sum.inl (β:=LI) (nI o++[w64 (t+65536)],(1:Int),w64 ((i:Int)+1)))) else gd (((nI o).length+1)*8<=140737488355328) (some (.inl (nI o++[t],(0:Int),w64 ((i:Int)+1)))))=some (.inl (nI (o++[d]),(b':Int),((i+1:Nat):Int)))/\d<65536/\b'<=1/\d+bw+r.getD i 0=l[i]+65536*b':=by
  intro t ht;rw[gd_t (by rw[Cd];omega),gd_t (by rw[Cd];omega),As oo]
  by_cases h0:t<0
  .refine⟨(t+65536).toNat,1,?_,oo,oo,oo⟩;rw[iP h0,Aq oo oo];simp[nI,Int.toNat_of_nonneg (oo:0<=t+65536)]
  .refine⟨t.toNat,0,?_,oo,oo,oo⟩;rw[iN h0];simp[nI,Int.toNat_of_nonneg (oo:0<=t)]
 by_cases hm:i<r.length
 .rw[iP (oo:(i:Int)<(r.length:Int)),Dh hm,Ac];have:=fin (w64 (w64 ((l[i]:Int)-(bw:Int))-(r[i]:Int))) (by rw[Yd hm] at *;rw[Aq (x:=(l[i]:Int)-(bw:Int)) oo oo,Aq oo oo]);simpa only[Cd] using this
 .rw[iN (oo:¬(i:Int)<(r.length:Int))];have:=fin (w64 ((l[i]:Int)-(bw:Int))) (by rw[Sq hm,Aq oo oo];omega);simpa only[Cd] using this
theorem Bet(l r:List Nat)(hl:∀ x∈l,x<65536)(hr:∀ x∈r,x<65536)(h1:l.length<=1000000)(h2:r.length<=l.length)(hle:val 65536 r<=val 65536 l):
  Fi (nI l) (nI r)=some (L16 (val 65536 l-val 65536 r)):=by
 obtain⟨t,ht,out,rfl,hd⟩:=Ax (B:=Fm (nI l) (nI r)) (fun s=>l.length-s.2.2.toNat)
  (fun s=>∃(o:LM) (bw i:Nat),s=(nI o,(bw:Int),(i:Int))/\o.length=i/\bw<=1/\i<=l.length/\(∀x∈o,x<65536)/\val 65536 o+val 65536 (r.take i)=val 65536 (l.take i)+bw*65536^i)
  (fun t=>∃out,t=nI out/\out.length<=1000000000/\nrm out=dig 65536 (val 65536 l-val 65536 r)) (by
   rintro s ⟨o,bw,i,rfl,hC1,hC2,hC3,hC4,hC5⟩
   by_cases hi:i<l.length
   .left;obtain⟨d,b',hB,hd1,hb1,he⟩:=Aus l r o bw i hi hl hr hC2 h1 hC1;refine⟨_,hB,⟨_,_,_,rfl,by simp[hC1],hb1,oo,?_,?_⟩,by simp;omega⟩
    .intro x hx;rcases mem_append.1 hx with hx|hx
     .exact hC4 x hx
     .simp at hx;omega
    .rw[Yu,hC1,Vj,Vj];have e:val 65536 [d]=d:=by simp[val]
     rw[e];have e3:=congrArg (· * 65536^i) he;simp only[Nat.add_mul] at e3;have e4:65536^(i+1)=65536*65536^i:=by rw[Nat.pow_succ,Nat.mul_comm]
     rw[e4];generalize 65536^i=P at *;generalize l.getD i 0=a at *;generalize r.getD i 0=b at *;have e5:b'*(65536*P)=65536*b'*P:=by grind
     have e6:P*d=d*P:=Nat.mul_comm _ _;have e7:P*a=a*P:=Nat.mul_comm _ _;have e8:P*b=b*P:=Nat.mul_comm _ _;omega
   .right;have hil:i=l.length:=oo;refine⟨nI o,?_,o,rfl,oo,?_⟩
    .unfold Fm;simp only[Cd];rw[iN oo]
    .rw[take_of_length_le oo,take_of_length_le oo] at hC5;rw[Yt (b:=65536) oo o hC4];have hlt:=Aga o hC4;rw[hC1] at hlt;have:bw=0\/bw=1:=oo;rcases this with rfl|rfl
     .rw[show val 65536 o=val 65536 l-val 65536 r by omega]
     .omega)
  (nI [],((0:Nat):Int),((0:Nat):Int)) ⟨[],0,0,rfl,rfl,oo,oo,s_,by simp[val]⟩
 unfold Fi;have ht':lfix (Fm (nI l) (nI r)) ([],0,0)=some (nI out):=ht;simp only[jn_d];rw[ht',Ac,Afa _ hd.1,Ac,hd.2];rfl
theorem Ah6{a:Nat}:(L16 a).length=0↔a=0:=by
 unfold L16;rw[Cd,length_eq_zero_iff,Ye oo]
theorem Af7{a:Nat}:∀x∈dig 65536 a,x<65536:=Pp oo a
theorem Aw7{a b:Nat}(ha:(dig 65536 a).length<=1000000)(hb:(dig 65536 b).length<=1000000):Ju (L16 a) (L16 b)=some (L16 (a+b)):=by
 have:=Bes _ _ (Af7 (a:=a)) (Af7 (a:=b)) ha hb
 rwa [Cs oo,Cs oo] at this
theorem Uc{a b:Nat}(h:a<=b):(dig 65536 a).length<=(dig 65536 b).length:=by
 rcases Nat.lt_or_ge (dig 65536 b).length (dig 65536 a).length with h1|h1
 .have:=Abj (b:=65536) oo h1;omega
 .exact h1
theorem Amf{a b:Nat}(ha:(dig 65536 a).length<=1000000)(h:b<=a):Fi (L16 a) (L16 b)=some (L16 (a-b)):=by
 have:=Bet _ _ (Af7 (a:=a)) (Af7 (a:=b)) ha (Uc h) (by rw[Cs oo,Cs oo];exact h)
 rwa [Cs oo,Cs oo] at this
theorem Ac9{a b:Nat}(h:(dig 65536 a).length+(dig 65536 b).length<=1000000):Ck (L16 a) (L16 b)=some (L16 (a*b)):=by
 have:=Bbg _ _ (Af7 (a:=a)) (Af7 (a:=b)) h
 rwa [Cs oo,Cs oo] at this
theorem Adx{z:Int}:(Z16 z).L=L16 z.natAbs:=rfl
theorem Ph{z:Int}:(Z16 z).Neg=decide (z<0):=rfl
theorem Aio{b:Bool}{l:LI}{z:Int}(h1:b=decide (z<0))(h2:l=L16 z.natAbs):(some ⟨b,l⟩:Option Ai)=some (Z16 z):=by subst h1;subst h2;rfl
theorem Bdw{x y:Int}(hx:(dig 65536 x.natAbs).length<=1000000)(hy:(dig 65536 y.natAbs).length<=1000000):Io (Z16 x) (Z16 y)=some (Z16 (x+y)):=by
 unfold Io;simp only[Adx]
 by_cases hs':x<0↔y<0
 .rw[iP (by rw[Ph,Ph];by_cases h:x<0 <;> simp[h] <;> omega),Aw7 hx hy,Ac];refine Aio ?_ ?_
  .rw[Ph];by_cases h:x<0 <;> simp[h] <;> omega
  .congr 1;omega
 .rw[iN (by rw[Ph,Ph];by_cases h:x<0 <;> simp[h] <;> omega),Aw6 _ _ hx,Ac]
  by_cases h1:x.natAbs<y.natAbs
  .rw[show cmpN x.natAbs y.natAbs = -1 from iP h1,iN dD,iN dD,Amf hy oo,Ac];refine Aio ?_ ?_
   .rw[Ph];by_cases h:y<0 <;> simp[h] <;> omega
   .congr 1;omega
  .by_cases h2:x.natAbs=y.natAbs
   .rw[show cmpN x.natAbs y.natAbs=0 from (iN h1).trans (iP h2),iP rfl];have:x+y=0:=oo;rw[this];rfl
   .rw[show cmpN x.natAbs y.natAbs=1 from (iN h1).trans (iN h2),iN dD,iP dD,Amf hx oo,Ac];refine Aio ?_ ?_
    .rw[Ph];by_cases h:x<0 <;> simp[h] <;> omega
    .congr 1;omega
theorem Aw8{z y:Int}:(!(decide (z<0)==decide (y<0)) && !decide (z.natAbs*y.natAbs=0))=decide (z*y<0):=by
 by_cases hz0:z=0
 .subst hz0;simp
 by_cases hy0:y=0
 .subst hy0;simp
 have h1:z.natAbs*y.natAbs≠0:=Nat.mul_ne_zero oo oo;rw[dF h1];rcases Int.lt_or_le z 0 with hz|hz
 .rcases Int.lt_or_le y 0 with hy|hy
  .have:=Int.mul_pos_of_neg_of_neg hz hy;rw[dT hz,dT hy,dF (oo:¬z*y<0)];rfl
  .have:=Int.mul_neg_of_neg_of_pos hz (oo:0<y);rw[dT hz,dF (oo:¬y<0),dT this];rfl
 .rcases Int.lt_or_le y 0 with hy|hy
  .have:=Int.mul_neg_of_pos_of_neg (oo:0<z) hy;rw[dT hy,dF (oo:¬z<0),dT this];rfl
  .have:=Int.mul_pos (oo:0<z) (oo:0<y);rw[dF (oo:¬z<0),dF (oo:¬y<0),dF (oo:¬z*y<0)];rfl
set_option maxRecDepth 100000 in
theorem Ak5{x y:Int}(h:(dig 65536 x.natAbs).length+(dig 65536 y.natAbs).length<=1000000):Bd (Z16 x) (Z16 y)=some (Z16 (x*y)):=by
 unfold Bd;simp only[Adx,jn_d];rw[Ac9 h,Ac];have hsg:=Aw8 (z:=x) (y:=y);have e2:=Ah6 (a:=x.natAbs*y.natAbs)
 by_cases hs':x<0↔y<0
 .rw[iP (by rw[Ph,Ph];by_cases h:x<0 <;> simp[h] <;> omega)];refine Aio ?_ (by rw[Int.natAbs_mul]);rw[<-hsg];have e:(decide (x<0)==decide (y<0))=true:=by by_cases h:x<0 <;> simp[h] <;> omega
  rw[e];rfl
 .rw[iN (by rw[Ph,Ph];by_cases h:x<0 <;> simp[h] <;> omega)];refine Aio ?_ (by rw[Int.natAbs_mul]);rw[<-hsg];have e:(decide (x<0)==decide (y<0))=false:=by by_cases h:x<0 <;> simp[h] <;> omega
  rw[e]
  by_cases h0:x.natAbs*y.natAbs=0
  .have:=e2.2 h0;rw[dT h0,dF oo];rfl
  .have:(L16 (x.natAbs*y.natAbs)).length≠0:=fun e=>h0 (e2.1 e)
   rw[dF h0,dT oo];rfl
end Go.Proofs.YthlkpgdfifnagaaGreat
