import Derived.Test.YtlejkgngmjchdaaGreatD1
set_option maxRecDepth 100000
set_option maxHeartbeats 1000000
namespace Go.Proofs.YtlejkgngmjchdaaGreat
open Go Go.RowKit Tryz
noncomputable section
theorem Ol{j:Nat}(h:j<=9223372036854775807):w64 (j:Int)=(j:Int):=Av oo oo
theorem Bd{j:Nat}(h:j<9223372036854775807):w64 ((j:Int)+1)=((j+1:Nat):Int):=by rw[Av oo oo];omega
theorem Ac{α ρ:Type}{x:α}{k:α->Option ρ}:bnd (some x) k=k x:=rfl
theorem gd_t{ρ:Type}{p:Prop}[Decidable p]{k:Option ρ}(h:p):gd p k=k:=by unfold gd;rw[iP h]
theorem jn_d{τ ρ:Type}{k:τ->Option ρ}{x:(τ->Option ρ)->Option ρ}:jn k x=x k:=rfl
theorem Vh{α β γ:Type}(l:List α)(p:α->Bool)(B:Int->Option (Sum Int (Sum β γ)))(u:β)(v:γ)(h1:∀ (j:Nat) (h:j<l.length),B j=if p l[j]=true then some (.inl ((j+1:Nat):Int)) else some (.inr (.inr v)))(h2:B l.length=some (.inr (.inl u))):
  lfix B 0=some (if l.all p=true then .inl u else .inr v):=by
 have key:∀(m k:Nat),k<=l.length->l.length-k=m->lfix B k=some (if (l.drop k).all p=true then .inl u else .inr v):=by
  intro m
  induction m with
  |zero=>
   intro k hk hm;obtain rfl:k=l.length:=oo;rw[Ax,h2];simp
  |succ m ih=>
   intro k hk hm;have hlt:k<l.length:=oo;rw[Ax,h1 k hlt,List.drop_eq_getElem_cons hlt,List.all_cons]
   by_cases hp:p l[k]=true
   .rw[iP hp,hp,Bool.true_and];exact ih (k+1) oo oo
   .rw[iN hp];simp[hp]
 exact key l.length 0 (Nat.zero_le _) rfl
def nI(l:LM):LI:=l.map (fun x:Nat=>(x:Int))
def L32(m:Nat):LI:=nI (dig 4294967296 m)
theorem Bm{l:LM}:(nI l).length=l.length:=by simp[nI]
theorem Bu{l:LM}{j:Nat}(h:j<l.length):idx (nI l) (j:Int)=some ((l[j]:Nat):Int):=by
 rw[Az (by rw[Bm];exact h)];simp[nI]
theorem Rg(n:Nat):(List.replicate n (0:Int))=nI (List.replicate n 0):=by simp[nI]
theorem Kh{l:LM}{j v:Nat}:setI (nI l) (j:Int) (v:Int)=nI (l.set j v):=by rw[Vb];simp[nI,List.map_set]
theorem Zo{n:Nat}(h:n<4294967296):wu32 (n:Int)=n:=Ace .u32 n (by simp only[top];omega)
theorem Db{n:Nat}(h:n<18446744073709551616):wu64 (n:Int)=n:=Ace .u64 n (by simp only[top];omega)
theorem Sv(l:LM)(h9:l.length<=1000000):Bh (nI l)=some (nI (nrm l)):=by
 obtain⟨t,ht,hR⟩:=Bp (B:=Hh) (fun s=>s.length)
  (fun s=>∃k:Nat,k<=l.length/\s=nI (l.take k)/\∀(j:Nat) (h:j<l.length),k<=j->l[j]=0)
  (fun t=>t=nI (nrm l)) (by
   rintro s ⟨k,hk,rfl,hz⟩;have hlen:(l.take k).length=k:=by rw[List.length_take];omega
   unfold Hh;simp only[jn_d,Bm,hlen]
   by_cases h0:k=0
   .right;subst h0;rw[iN oo,iN s_];refine⟨_,rfl,?_⟩;rw[Adj l (fun x hx=>by obtain⟨j,hj,rfl⟩:=List.getElem_of_mem hx;exact hz j hj oo)];rfl
   .rw[iP oo]
    .rw[Av oo oo,show ((k:Int)-1)=((k-1:Nat):Int) from by omega,Bu oo,Ac];have e:(l.take k)[k-1]'oo=l[k-1]:=by rw[List.getElem_take]
     rw[e]
     by_cases hx:l[k-1]=0
     .left;refine⟨nI (l.take (k-1)),?_,⟨k-1,oo,rfl,fun j h hj=>?_⟩,by simp only[Bm,List.length_take];omega⟩
      .rw[iP (by rw[hx];rfl),gd_t ⟨oo,oo⟩];congr 2;simp only[subl,nI,Int.toNat_natCast,Int.toNat_zero,List.drop_zero,<-List.map_take,List.take_take];rw[show min (k-1) k=k-1 by omega]
      .rcases Nat.lt_or_ge (k-1) j with hq|hq
       .exact hz j h oo
       .obtain rfl:j=k-1:=oo;exact hx
     .right;rw[iN (by rw[dQ];omega)];refine⟨_,rfl,?_⟩;have h1:=Atq l k hk hz (fun h0' h'=>hx)
      conv=>rhs;rw[Akz,h1])
  (nI l) ⟨l.length,oo,by rw[List.take_length],fun j h hj=>oo⟩
 unfold Bh;simp only[jn_d];rw[ht,Ac,hR]
theorem Ua(n:Nat):wu32 (n:Int)=((n%4294967296:Nat):Int):=by
 show IntKind.u32.wrap (n:Int)=_;simp[IntKind.wrap,IntKind.bits,IntKind.signed]
theorem Au8(n:Nat):shr_ .u64 (n:Int) 32=((n/4294967296:Nat):Int):=by
 show (n:Int).fdiv (2^(min (32:Int).toNat 64))=_;rw[show (2:Int)^(min (32:Int).toNat 64)=4294967296 from by decide,Int.fdiv_eq_ediv_of_nonneg _ oo];omega
theorem Au9(l r:List Nat)(hl:∀ x∈l,x<4294967296)(hr:∀ x∈r,x<4294967296)(hb:l.length+r.length<=1000000):
  Ck (nI l) (nI r)=some (L32 (val 4294967296 l*val 4294967296 r)):=by
 have e:w64 ((((nI l).length:Nat):Int)+(((nI r).length:Nat):Int))=((l.length+r.length:Nat):Int):=by rw[Bm,Bm,Av oo oo];omega
 obtain⟨t,ht,out,rfl,hd,hlo⟩:=Bp (B:=Ld (nI l) (nI r)) (fun s=>l.length-s.2.toNat)
  (fun s=>∃(out:LM) (i:Nat),s=(nI out,(i:Int))/\out.length=l.length+r.length/\i<=l.length/\(∀x∈out,x<4294967296)/\(∀(q:Nat) (h:q<out.length),i+r.length<=q->out[q]=0)/\val 4294967296 out=val 4294967296 (l.take i)*val 4294967296 r)
  (fun t=>∃out,t=nI out/\nrm out=dig 4294967296 (val 4294967296 l*val 4294967296 r)/\out.length<=1000000) (by
   rintro s ⟨out0,i,rfl,hC1,hC2,hC3,hC4,hC5⟩
   by_cases hi:i<l.length
   ·left;obtain⟨t,ht,out,cy,rfl,hD1,hD2,hD4,hD5,hD6⟩:=Bp (B:=Lc (nI r) (nI out0,(i:Int)) (l[i]:Int)) (fun s=>r.length-s.2.2.toNat)
     (fun s=>∃(out:LM) (cy j:Nat),s=(nI out,(cy:Int),(j:Int))/\out.length=l.length+r.length/\cy<4294967296/\j<=r.length/\(∀x∈out,x<4294967296)/\(∀(q:Nat) (h:q<out.length),i+r.length<=q->out[q]=0)/\val 4294967296 out+cy*4294967296^(i+j)=val 4294967296 out0+l[i]*val 4294967296 (r.take j)*4294967296^i)
     (fun t=>∃(out:LM) (cy:Nat),t=(nI out,(cy:Int))/\out.length=l.length+r.length/\cy<4294967296/\(∀x∈out,x<4294967296)/\(∀(q:Nat) (h:q<out.length),i+r.length<=q->out[q]=0)/\val 4294967296 out+cy*4294967296^(i+r.length)=val 4294967296 out0+l[i]*val 4294967296 (r.take r.length)*4294967296^i) (by
      rintro s ⟨out,cy,j,rfl,hD1,hD2,hD3,hD4,hD5,hD6⟩
      by_cases hj:j<r.length
      .left;have hk:i+j<out.length:=oo;have h1:=hl _ (gM hi);have h2:=hr _ (gM hj);have h3:=hD4 _ (gM hk);have hmm:=Ak0 h1 h2;have e1:w64 ((i:Int)+(j:Int))=((i+j:Nat):Int):=by rw[Av oo oo];omega
       have e2:wu64 (wu64 (wu64 (wu64 (l[i]:Int)*wu64 (r[j]:Int))+wu64 (out[i+j]:Int))+(cy:Int))=((l[i]*r[j]+out[i+j]+cy:Nat):Int):=by
        rw[Db (n:=l[i]) oo,Db (n:=r[j]) oo,Db (n:=out[i+j]) oo,<-Int.natCast_mul,Db oo,<-Int.natCast_add,Db oo,<-Int.natCast_add,Db oo]
       have e4:wu32 ((l[i]*r[j]+out[i+j]+cy:Nat):Int)=(((l[i]*r[j]+out[i+j]+cy)%4294967296:Nat):Int):=Ua _;refine⟨(nI (out.set (i+j) ((l[i]*r[j]+out[i+j]+cy)%4294967296)),(((l[i]*r[j]+out[i+j]+cy)/4294967296:Nat):Int),((j+1:Nat):Int)),?_,⟨_,_,_,rfl,Arj hi hj rfl rfl h1 h2 hD1 hD2 hD3 hD4 hD5 hD6 hk⟩,by simp;omega⟩;unfold Lc;simp only[e1];rw[iP (by rw[Bm];omega),Bu hj,Ac,Bu hk,Ac,Ac,e2,e4,Au8,Kh,Bd oo]
      .right;obtain rfl:j=r.length:=oo;refine⟨(nI out,(cy:Int)),?_,out,cy,rfl,hD1,hD2,hD4,hD5,hD6⟩;unfold Lc;simp only[];rw[iN (by rw[Bm];omega)])
     (nI out0,((0:Nat):Int),((0:Nat):Int)) ⟨out0,0,0,rfl,hC1,oo,oo,hC3,fun q hq hiq=>hC4 q hq oo,by simp[val]⟩
    have hk:i+r.length<out.length:=oo;refine⟨(nI (out.set (i+r.length) (cy%4294967296)),((i+1:Nat):Int)),?_,⟨_,_,rfl,Ark hi rfl rfl hD1 hD2 hD4 hD5 hD6 hC5 rfl⟩,by simp;omega⟩;unfold Ld;simp only[jn_d];have ht':lfix (Lc (nI r) (nI out0,(i:Int)) (l[i]:Int)) (nI out0,0,0)=some (nI out,(cy:Int)):=ht;rw[iP (by rw[Bm];omega),Bu hi,Ac,ht',Ac,Bm,show w64 ((i:Int)+(r.length:Int))=((i+r.length:Nat):Int) from by rw[Av oo oo];omega,Bu hk,Ac];simp only[];rw[Zo hD2,Kh,Bd oo,Nat.mod_eq_of_lt hD2]
   .right;refine⟨nI out0,?_,out0,rfl,Atr (i:=i) oo rfl hC1 hC3 hC5,oo⟩;unfold Ld;simp only[];rw[iN (by rw[Bm];omega)])
  (nI (List.replicate (l.length+r.length) 0),((0:Nat):Int)) ⟨_,0,rfl,s_,oo,s_,s_,by simp[val,Uv]⟩
 unfold Ck;simp only[e,jn_d,Int.toNat_natCast,Rg];have ht':lfix (Ld (nI l) (nI r)) (nI (List.replicate (l.length+r.length) 0),0)=some (nI out):=ht;rw[gd_t ⟨oo,oo⟩,ht',Ac,Sv _ oo,Ac,hd];rfl
theorem Ajh(a b:Nat)(ha:(dig 4294967296 a).length<=1000000):Jd (L32 a) (L32 b)=some (cmpN a b):=by
 unfold Jd L32;rw[Bm,Bm]
 by_cases hlen:(dig 4294967296 a).length=(dig 4294967296 b).length
 ·obtain⟨t,ht,hR⟩:=Bp (B:=Qv (nI (dig 4294967296 a)) (nI (dig 4294967296 b))) (fun s=>(s+1).toNat)
   (fun s=>∃k:Nat,s=(k:Int)-1/\k<=(dig 4294967296 a).length/\∀(j:Nat) (h:j<(dig 4294967296 a).length) (h':j<(dig 4294967296 b).length),k<=j->(dig 4294967296 a)[j]=(dig 4294967296 b)[j])
   (fun t=>(t=.inl ()/\cmpN a b=0)\/t=.inr (cmpN a b)) (by
    rintro s ⟨k,rfl,hk,heq⟩;unfold Qv
    by_cases h0:k=0
    .right;subst h0;refine⟨_,by rw[iN oo],.inl ⟨rfl,Att oo hlen (fun j h h'=>heq j h h' oo)⟩⟩
    .have h1:k-1<(dig 4294967296 a).length:=oo;have h2:k-1<(dig 4294967296 b).length:=oo;have hat:=Ats (b:=4294967296) oo hlen h1 h2 (fun j h h' hj=>heq j h h' oo);rw[iP oo,show ((k:Int)-1)=((k-1:Nat):Int) from by omega,Bu h1,Ac,Bu h2,Ac]
     by_cases he:(dig 4294967296 a)[k-1]=(dig 4294967296 b)[k-1]
     .left;refine⟨((k-1:Nat):Int)-1,by rw[iP (by rw[he]),Av oo oo],⟨k-1,rfl,oo,fun j h h' hj=>?_⟩,oo⟩;rcases Nat.lt_or_ge (k-1) j with hq|hq
      .exact heq j h h' oo
      .obtain rfl:j=k-1:=oo;exact he
     .right;rw[iN oo,Ac,Ac]
      by_cases hlt:(dig 4294967296 a)[k-1]<(dig 4294967296 b)[k-1]
      .exact⟨_,by rw[iP oo],.inr (by rw[hat.1 hlt])⟩
      .exact⟨_,by rw[iN oo],.inr (by rw[hat.2 oo])⟩)
   (((dig 4294967296 a).length:Int)-1) ⟨_,rfl,nL _,fun j h h' hj=>oo⟩
  rw[iP oo,jn_d,Av oo oo,ht,Ac];rcases hR with⟨rfl,h0⟩|rfl
  .simp only[h0]
  .rfl
 .rw[iN oo]
  by_cases hlt:(dig 4294967296 a).length<(dig 4294967296 b).length
  .rw[iP oo,(Ae9 (b:=4294967296) oo rfl rfl).1 hlt]
  .rw[iN oo,(Ae9 (b:=4294967296) oo rfl rfl).2 oo]
theorem oneW:([1]:LI)=L32 1:=by unfold L32;rw[Ae8 oo];rfl
theorem Qs{a:Nat}:(L32 a).length=0↔a=0:=by
 unfold L32;rw[Bm,List.length_eq_zero_iff,Tu oo]
theorem Af8(a:Nat)(h:(dig 4294967296 a).length<=1000000):Bh (L32 a)=some (L32 a):=by
 unfold L32;rw[Sv _ h,Ax1 oo]
theorem Ali:Bh []=some []:=Sv [] s_
theorem Anp(a:Nat)(h:(dig 4294967296 a).length<=1000):Ck (L32 a) [1]=some (L32 a):=by
 have:=Au9 (dig 4294967296 a) [1] (Ng oo a) s_ (by simp;omega);rw[Ch oo,show val 4294967296 [1]=1 from by simp[val],Nat.mul_one] at this;exact this
theorem Aps:Ck [1] [1]=some [1]:=by
 have:=Anp 1 (by rw[Ae8 oo];simp)
 rwa [<-oneW] at this
theorem Se{b:Nat}(l:LM)(i:Nat):val b (l.take (i+1))=val b (l.take i)+b^i*l.getD i 0:=by
 by_cases h:i<l.length
 .rw[El l i h];simp[h]
 .rw[List.take_of_length_le oo,List.take_of_length_le oo];simp[h]
theorem Aar{l:LM}(hl:∀x∈l,x<65536)(i:Nat):l.getD i 0<65536:=by
 by_cases h:i<l.length
 .have:=hl _ (gM h);simpa[h] using this
 .simp[h]
theorem Uo{l:LM}{i:Nat}(h:i<l.length):l.getD i 0=l[i]:=by simp[h]
theorem Qg{l:LM}{i:Nat}(h:¬i<l.length):l.getD i 0=0:=by simp[h]
theorem Xd{b:Nat}(hb:0<b){l:LM}(hl:∀x∈l,x<b)(i:Nat):l.getD i 0<b:=by
 by_cases h:i<l.length
 .have:=hl _ (gM h);simpa[h] using this
 .simp[h,hb]
theorem Ava(v:BitVec 32):IntKind.u32.wrap (v.toNat:Int)=(v.toNat:Int):=Ace .u32 v.toNat (by simp only[top];omega)
theorem Avb(a b:Int):Rs .u32 a b=((BitVec.ofInt 32 a &&& BitVec.ofInt 32 b).toNat:Int):=Ava _
theorem Bdd(a b:Int):Fb .u32 a b=((BitVec.ofInt 32 a ||| BitVec.ofInt 32 b).toNat:Int):=Ava _
theorem Anq(a b:Int):Aao .u32 a b=((BitVec.ofInt 32 a ^^^ BitVec.ofInt 32 b).toNat:Int):=Ava _
theorem Bde(v:BitVec 32):BitVec.ofInt 32 (v.toNat:Int)=v:=by
 rw[BitVec.ofInt_natCast,BitVec.ofNat_toNat,BitVec.setWidth_eq]
theorem Bbk:BitVec.ofInt 32 (if IntKind.signed .u32=true then -1 else IntKind.max .u32)=BitVec.allOnes 32:=dD
theorem Avc(x:Int):wu32 x=x%4294967296:=by
 show IntKind.u32.wrap x=_;simp[IntKind.wrap,IntKind.bits,IntKind.signed]
theorem Aji(n:Nat)(h:n<4294967296):(BitVec.ofInt 32 (n:Int)).msb=decide (2147483648<=n):=by
 rw[BitVec.msb_eq_decide,BitVec.ofInt_natCast,BitVec.toNat_ofNat,Nat.mod_eq_of_lt oo]
theorem Bdf(v:BitVec 32):shr_ .u32 (v.toNat:Int) 31=if v.msb then 1 else 0:=by
 have h:=v.isLt;rw[BitVec.msb_eq_decide];show (v.toNat:Int).fdiv (2^(min (31:Int).toNat 32))=_;rw[show (2:Int)^(min (31:Int).toNat 32)=2147483648 from by decide,Int.fdiv_eq_ediv_of_nonneg _ oo]
 by_cases h1:2^(32-1)<=v.toNat
 .rw[iP (sV h1)];omega
 .rw[iN (sV h1)];omega
theorem Bdg{x y b:Nat}(hx:x<4294967296)(hy:y<4294967296)(hb:b<=1):
  ∃d b':Nat,Mo (x:Int) (y:Int) (b:Int)=some ((d:Int),(b':Int))/\d<4294967296/\b'<=1/\d+b+y=x+4294967296*b':=by
 unfold Mo;have e:wu32 (wu32 ((x:Int)-y)-b)=(((x:Int)-y-b)%4294967296).toNat:=by rw[Avc,Avc];omega
 rw[e];generalize hd:(((x:Int)-y-b)%4294967296).toNat=d;have hdl:d<4294967296:=oo;rw[Avb,Avb,Anq,Anq,Anq,Bdd];simp only[Bde,Bbk,BitVec.allOnes_xor];rw[Bdf];rw[BitVec.msb_or,BitVec.msb_and,BitVec.msb_and,BitVec.msb_not,BitVec.msb_not,BitVec.msb_xor,Aji _ hx,Aji _ hy,Aji _ hdl]
 by_cases h1:2147483648<=x <;> by_cases h2:2147483648<=y <;> by_cases h3:2147483648<=d <;> simp only[h1,h2,h3,decide_true,decide_false,Bool.not_true,Bool.not_false,Bool.and_true,Bool.and_false,Bool.true_and,Bool.false_and,Bool.or_true,Bool.or_false,Bool.xor_true,Bool.xor_false,Bool.false_eq_true,if_true,if_false,show (0<32)=True by simp] <;>
  first
  |exact⟨d,0,rfl,hdl,oo,oo⟩
  |exact⟨d,1,rfl,hdl,oo,oo⟩
theorem Az8{x y c:Nat}(hx:x<4294967296)(hy:y<4294967296)(hc:c<=1):
  Ht (x:Int) (y:Int) (c:Int)=some ((((x+y+c)%4294967296:Nat):Int),(((x+y+c)/4294967296:Nat):Int)):=by
 unfold Ht;have e:wu64 (wu64 (wu64 (x:Int)+wu64 (y:Int))+wu64 (c:Int))=((x+y+c:Nat):Int):=by
  rw[Db (n:=x) oo,Db (n:=y) oo,Db (n:=c) oo,<-Int.natCast_add,Db oo,<-Int.natCast_add,Db oo]
 rw[e,Ua,Au8,Zo oo]
theorem Avd{l r out:List Nat}{cy i n:Nat}(hn:l.length=n)(hi:i<n)(hr:r.length<=n)(hl':∀ x∈l,x<4294967296)(hr':∀ x∈r,x<4294967296)(hC1:out.length=n+1)(hC2:cy<=1)(hC4:∀ x∈out,x<4294967296)(hC5:∀ (q:Nat) (h:q<out.length),i<=q->out[q]=0)(hC6:val 4294967296 out+cy*4294967296 ^ i=val 4294967296 (l.take i)+val 4294967296 (r.take i)):
  ∀s,s=l.getD i 0+r.getD i 0+cy->(out.set i (s%4294967296)).length=n+1/\s/4294967296<=1/\(∀x∈out.set i (s%4294967296),x<4294967296)/\(∀(q:Nat) (h:q<(out.set i (s%4294967296)).length),i+1<=q->(out.set i (s%4294967296))[q]=0) /\
   val 4294967296 (out.set i (s%4294967296))+s/4294967296*4294967296^(i+1)=val 4294967296 (l.take (i+1))+val 4294967296 (r.take (i+1)):=by
 intro s hs;have h1:=Xd (b:=4294967296) oo hl' i;have h2:=Xd (b:=4294967296) oo hr' i;refine⟨by simp[hC1],oo,Ru hC4 oo,fun q hq hiq=>?_,?_⟩
 .rw[List.getElem_set_ne oo];exact hC5 q (sV hq) oo
 .have hs1:=Wa (b:=4294967296) out i (s%4294967296) oo;rw[hC5 i oo oo] at hs1;rw[Se,Se];have e1:s=4294967296*(s/4294967296)+s%4294967296:=oo;have e2:=congrArg (· * 4294967296^i) (hs.symm.trans e1);simp only[Nat.add_mul] at e2;have e4:4294967296^(i+1)=4294967296*4294967296^i:=by rw[Nat.pow_succ,Nat.mul_comm]
  rw[e4];generalize 4294967296^i=P at *;generalize l.getD i 0=a at *;generalize r.getD i 0=b at *;generalize s/4294967296=q at *;generalize s%4294967296=m at *;have e5:q*(4294967296*P)=4294967296*q*P:=by grind
  have e7:P*a=a*P:=Nat.mul_comm _ _;have e8:P*b=b*P:=Nat.mul_comm _ _;omega
theorem Ave(l r:List Nat)(hl:∀ x∈l,x<4294967296)(hr:∀ x∈r,x<4294967296)(h9:l.length<=100000)(hrl:r.length<=l.length):
  (jn (fun (s6:LI×Int)=>
   bnd (idx s6.1 ((((nI l).length:Nat):Int))) fun _=>
   bnd (Bh (setI s6.1 ((((nI l).length:Nat):Int)) s6.2)) fun r122=>
   some r122)
   (fun j6=>bnd (lfix (Le (nI l,nI r)) (List.replicate (Int.toNat (w64 (((((nI l).length:Nat):Int))+1))) (0:Int),0,0)) fun t56=>
   j6 t56))=some (L32 (val 4294967296 l+val 4294967296 r)):=by
 obtain⟨t,ht,out,cy,rfl,hC1,hC2,hC4,hC5,hC6⟩:=Bp (B:=Le (nI l,nI r)) (fun s=>l.length-s.2.2.toNat)
  (fun s=>∃(out:LM) (cy i:Nat),s=(nI out,(cy:Int),(i:Int))/\i<=l.length/\out.length=l.length+1/\cy<=1/\(∀x∈out,x<4294967296)/\(∀(q:Nat) (h:q<out.length),i<=q->out[q]=0)/\val 4294967296 out+cy*4294967296^i=val 4294967296 (l.take i)+val 4294967296 (r.take i))
  (fun t=>∃(out:LM) (cy:Nat),t=(nI out,(cy:Int))/\out.length=l.length+1/\cy<=1/\(∀x∈out,x<4294967296)/\(∀(h:l.length<out.length),out[l.length]=0)/\val 4294967296 out+cy*4294967296^l.length=val 4294967296 l+val 4294967296 r) (by
   rintro s ⟨out,cy,i,rfl,hi',hC1,hC2,hC4,hC5,hC6⟩;unfold Le;simp only[jn_d,Bm]
   by_cases hi:i<l.length
   ·left;obtain⟨k1,k2,k3,k4,k5⟩:=Avd rfl hi hrl hl hr hC1 hC2 hC4 hC5 hC6 _ rfl;have h1:=Xd (b:=4294967296) oo hl i;have h2:=Xd (b:=4294967296) oo hr i;refine⟨_,?_,⟨_,_,i+1,rfl,oo,k1,k2,k3,k4,k5⟩,by simp only[Int.toNat_natCast];omega⟩;rw[if_pos oo];have fin:∀ y:Int,y=((r.getD i 0:Nat):Int)->(bnd (idx (nI l) (i:Int)) fun x76=>bnd (Ht x76 y (cy:Int)) fun r87=>bnd (idx (nI out) (i:Int)) fun _=>some (Sum.inl (β:=List Int × Int) (setI (nI out) (i:Int) r87.1,r87.2,w64 ((i:Int)+1))))=some (.inl (nI (out.set i ((l.getD i 0+r.getD i 0+cy) % 4294967296)),(((l.getD i 0+r.getD i 0+cy) / 4294967296:Nat):Int),((i+1:Nat):Int))):=by
     rintro y rfl;rw[Bu hi,Ac,<-Uo hi,Az8 h1 h2 hC2,Ac,Bu oo,Ac];simp only[];rw[Kh,Bd oo]
    by_cases hm:i<r.length
    .rw[iP oo,Bu hm,Ac];exact fin _ (by rw[Uo hm])
    .rw[iN oo];exact fin _ (by rw[Qg hm];rfl)
   .right;obtain rfl:i=l.length:=oo;rw[iN oo];rw[List.take_of_length_le oo,List.take_of_length_le oo] at hC6;exact⟨_,rfl,out,cy,rfl,hC1,hC2,hC4,fun h=>hC5 _ h oo,hC6⟩)
  (nI (List.replicate (l.length+1) 0),((0:Nat):Int),((0:Nat):Int)) ⟨_,0,0,rfl,oo,s_,oo,s_,s_,by simp[val,Uv]⟩
 simp only[jn_d,Bm];rw[Bd oo,Int.toNat_natCast,Rg];have ht':lfix (Le (nI l,nI r)) (nI (List.replicate (l.length+1) 0),0,0)=some (nI out,(cy:Int)):=ht;rw[ht',Ac];simp only[];rw[Bu oo,Ac,Kh,Sv _ (by simp;omega),Ac];have hs1:=Wa (b:=4294967296) out l.length cy oo;rw[hC5 oo] at hs1;rw[Qb (b:=4294967296) oo _ (Ru hC4 oo),show val 4294967296 (out.set l.length cy)=val 4294967296 l+val 4294967296 r by omega];rfl
theorem Bbl(l r:List Nat)(hl:∀ x∈l,x<4294967296)(hr:∀ x∈r,x<4294967296)(h9:l.length<=100000)(h9':r.length<=100000):
  Kv (nI l) (nI r)=some (L32 (val 4294967296 l+val 4294967296 r)):=by
 unfold Kv;simp only[jn_d]
 by_cases h:l.length<r.length
 .rw[iP (by rw[Bm,Bm];omega),gd_t (by rw[Bm,Bd oo];omega)];have:=Ave r l hr hl h9' oo;simp only[jn_d] at this;rw[this,Nat.add_comm]
 .rw[iN (by rw[Bm,Bm];omega),gd_t (by rw[Bm,Bd oo];omega)];have:=Ave l r hl hr h9 oo;simp only[jn_d] at this;exact this
theorem Bbm(l r:List Nat)(hl:∀ x∈l,x<4294967296)(hr:∀ x∈r,x<4294967296)(h9:l.length<=100000)(hrl:r.length<=l.length)(hle:val 4294967296 r<=val 4294967296 l):
  Nk (nI l) (nI r)=some (L32 (val 4294967296 l-val 4294967296 r)):=by
 obtain⟨t,ht,out,rfl,hC1,hd⟩:=Bp (B:=Nz (nI l) (nI r)) (fun s=>l.length-s.2.2.toNat)
  (fun s=>∃(out:LM) (bw i:Nat),s=(nI out,(bw:Int),(i:Int))/\i<=l.length/\out.length=l.length/\bw<=1/\(∀x∈out,x<4294967296)/\(∀(q:Nat) (h:q<out.length),i<=q->out[q]=0)/\val 4294967296 out+val 4294967296 (r.take i)=val 4294967296 (l.take i)+bw*4294967296^i)
  (fun t=>∃(out:LM),t=nI out/\out.length=l.length/\nrm out=dig 4294967296 (val 4294967296 l-val 4294967296 r)) (by
   rintro s ⟨out,bw,i,rfl,hi',hC1,hC2,hC4,hC5,hC6⟩;unfold Nz;simp only[jn_d,Bm]
   by_cases hi:i<l.length
   .left;have h1:=Xd (b:=4294967296) oo hl i;have h2:=Xd (b:=4294967296) oo hr i;obtain⟨d,b',hB,hd1,hb1,he⟩:=Bdg h1 h2 hC2;refine⟨(nI (out.set i d),(b':Int),((i+1:Nat):Int)),?_,⟨_,_,i+1,rfl,oo,by simp[hC1],hb1,Ru hC4 hd1,fun q hq hiq=>?_,?_⟩,by simp only[Int.toNat_natCast];omega⟩
    ·rw[if_pos oo];have fin:∀ y:Int,y=((r.getD i 0:Nat):Int)->(bnd (idx (nI l) (i:Int)) fun x76=>bnd (Mo x76 y (bw:Int)) fun r87=>bnd (idx (nI out) (i:Int)) fun _=>some (Sum.inl (β:=List Int) (setI (nI out) (i:Int) r87.1,r87.2,w64 ((i:Int)+1))))=some (.inl (nI (out.set i d),(b':Int),((i+1:Nat):Int))):=by
      rintro y rfl;rw[Bu hi,Ac,<-Uo hi,hB,Ac,Bu oo,Ac];simp only[];rw[Kh,Bd oo]
     by_cases hm:i<r.length
     .rw[iP oo,Bu hm,Ac];exact fin _ (by rw[Uo hm])
     .rw[iN oo];exact fin _ (by rw[Qg hm];rfl)
    .rw[List.getElem_set_ne oo];exact hC5 q (sV hq) oo
    .have hs1:=Wa (b:=4294967296) out i d oo;rw[hC5 i oo oo] at hs1;rw[Se,Se];have e3:=congrArg (· * 4294967296^i) he;simp only[Nat.add_mul] at e3;have e4:4294967296^(i+1)=4294967296*4294967296^i:=by rw[Nat.pow_succ,Nat.mul_comm]
     rw[e4];generalize 4294967296^i=P at *;generalize l.getD i 0=a at *;generalize r.getD i 0=b at *;have e5:b'*(4294967296*P)=4294967296*b'*P:=by grind
     have e7:P*a=a*P:=Nat.mul_comm _ _;have e8:P*b=b*P:=Nat.mul_comm _ _;omega
   .right;obtain rfl:i=l.length:=oo;rw[iN oo];rw[List.take_of_length_le oo,List.take_of_length_le oo] at hC6;refine⟨_,rfl,out,rfl,hC1,?_⟩;rw[Qb (b:=4294967296) oo out hC4];have hlt:=Uh out hC4;rw[hC1] at hlt;have:bw=0\/bw=1:=oo;rcases this with rfl|rfl
    .rw[show val 4294967296 out=val 4294967296 l-val 4294967296 r by omega]
    .omega)
  (nI (List.replicate l.length 0),((0:Nat):Int),((0:Nat):Int)) ⟨_,0,0,rfl,oo,s_,oo,s_,s_,by simp[val,Uv]⟩
 unfold Nk;simp only[jn_d,Bm,Int.toNat_natCast,Rg];rw[gd_t ⟨oo,oo⟩];have ht':lfix (Nz (nI l) (nI r)) (nI (List.replicate l.length 0),0,0)=some (nI out):=ht;rw[ht',Ac,Sv _ oo,Ac,hd];rfl
theorem W_lt{a:Nat}:∀x∈dig 4294967296 a,x<4294967296:=Ng oo a
theorem Anr{a b:Nat}(ha:(dig 4294967296 a).length<=100000)(hb:(dig 4294967296 b).length<=100000):Kv (L32 a) (L32 b)=some (L32 (a+b)):=by
 have:=Bbl _ _ (W_lt (a:=a)) (W_lt (a:=b)) ha hb
 rwa [Ch oo,Ch oo] at this
theorem Ar1{a b:Nat}(h:a<=b):(dig 4294967296 a).length<=(dig 4294967296 b).length:=by
 rcases Nat.lt_or_ge (dig 4294967296 b).length (dig 4294967296 a).length with h1|h1
 .have:=Xv (b:=4294967296) oo h1;omega
 .exact h1
theorem Ajj{a b:Nat}(ha:(dig 4294967296 a).length<=100000)(h:b<=a):Nk (L32 a) (L32 b)=some (L32 (a-b)):=by
 have:=Bbm _ _ (W_lt (a:=a)) (W_lt (a:=b)) ha (Ar1 h) (by rw[Ch oo,Ch oo];exact h)
 rwa [Ch oo,Ch oo] at this
theorem Zp{a b:Nat}(h:(dig 4294967296 a).length+(dig 4294967296 b).length<=1000000):Ck (L32 a) (L32 b)=some (L32 (a*b)):=by
 have:=Au9 _ _ (W_lt (a:=a)) (W_lt (a:=b)) h
 rwa [Ch oo,Ch oo] at this
theorem Afc{n:Nat}(h:n<=18446744073709551615):Ku (n:Int)=some (L32 n):=by
 unfold Ku;have:=Sv [n%4294967296,n/4294967296%4294967296] s_;rw[show [wu32 (n:Int),wu32 (shr_ .u64 (n:Int) 32)]=nI [n%4294967296,n/4294967296%4294967296] from by rw[Au8,Ua,Ua];rfl,this,Ac,Ari n h];rfl
theorem Bbn{s:Bool}{z:Int}(hs:z≠0->s=decide (z<0)):Fz ⟨s,L32 z.natAbs,[1]⟩=some (Int.sign z):=by
 unfold Fz;simp only[]
 by_cases h0:z=0
 .subst h0;rfl
 .have:(L32 z.natAbs).length≠0:=fun e=>h0 (by have:=Qs.1 e;omega)
  rw[iN oo,hs h0]
  by_cases h1:z<0
  .rw[iP (sV h1),Int.sign_eq_neg_one_of_neg h1]
  .rw[iN (sV h1),Int.sign_eq_one_of_pos oo]
structure Zq(n:An)(z:Int):Prop where
 num:n.n=L32 z.natAbs
 den:n.d=[1]
 neg:z≠0->n.neg=decide (z<0)
theorem Zq.eq{n:An}{z:Int}(h:Zq n z):n=⟨n.neg,L32 z.natAbs,[1]⟩:=by
 obtain⟨s,a,d⟩:=n;obtain⟨h1,h2,h3⟩:=h;simp only at h1 h2;subst h1;subst h2;rfl
theorem Ant(x:Int):wu64 x=x%18446744073709551616:=by
 unfold wu64;rw[IntKind.wrap_u64]
theorem Anu{z:Int}(h1:-9223372036854775808<=z)(h2:z<=9223372036854775807):∃n,Lg z=some n/\Zq n z:=by
 unfold Lg
 by_cases h:z<0
 ·rw[if_pos h];have e:wu64 ((wu64 (w64 (-(w64 (z+1)))))+1)=((z.natAbs:Nat):Int):=by
   rw[Av (x:=z+1) oo oo,Av oo oo,Ant,Ant];omega
  rw[e,Afc oo];exact⟨_,rfl,rfl,rfl,fun _=>by simp[h]⟩
 .rw[iN h];have e:wu64 z=((z.natAbs:Nat):Int):=by rw[Ant];omega
  rw[e,Afc oo];exact⟨_,rfl,rfl,rfl,fun _=>by simp[h]⟩
theorem Bbo{a b:An}{x y:Int}(ha:Zq a x)(hb:Zq b y)(h:(dig 4294967296 x.natAbs).length+(dig 4294967296 y.natAbs).length<=1000000):∃n,Fy a b=some n/\Zq n (x*y):=by
 unfold Fy;rw[ha.num,hb.num,ha.den,hb.den,Zp h,Ac,Aps,Ac];refine⟨_,rfl,by simp[Int.natAbs_mul],rfl,fun h0=>?_⟩;have hx:x≠0:=fun e=>h0 (by rw[e,Int.zero_mul])
 have hy:y≠0:=fun e=>h0 (by rw[e,Int.mul_zero])
 simp only;rw[ha.neg hx,hb.neg hy];rcases Int.lt_or_gt_of_ne hx with h1|h1 <;> rcases Int.lt_or_gt_of_ne hy with h2|h2
 .have:=Int.mul_pos_of_neg_of_neg h1 h2;simp[h1,h2];omega
 .have:=Int.mul_neg_of_neg_of_pos h1 h2;rw[dT h1,dF oo,dT this];rfl
 .have:=Int.mul_neg_of_pos_of_neg h1 h2;rw[dF oo,dT h2,dT this];rfl
 .have:=Int.mul_pos h1 h2;rw[dF oo,dF oo,dF oo];rfl
theorem Avf{a b:An}{x y:Int}(ha:Zq a x)(hb:Zq b y)(hx:(dig 4294967296 x.natAbs).length<=1000)(hy:(dig 4294967296 y.natAbs).length<=1000):∃n,Gy a b=some n/\Zq n (x+y):=by
 have e1:=ha.neg;have e2:=hb.neg;unfold Gy;rw[ha.num,hb.num,ha.den,hb.den,Anp _ hx,Ac,Anp _ hy,Ac,Aps,Ac];generalize a.neg=s at *;generalize b.neg=t at *;have f1:x≠0->(s=true↔x<0):=fun h=>by rw[e1 h];simp
 have f2:y≠0->(t=true↔y<0):=fun h=>by rw[e2 h];simp
 clear e1 e2
 by_cases hs:s=t
 ·subst hs;rw[if_pos s_,Anr oo oo,Ac];have:x.natAbs+y.natAbs=(x+y).natAbs:=by
   cases s <;> simp at f1 f2 <;> omega
  rw[this];refine⟨_,rfl,rfl,rfl,fun h0=>?_⟩;simp only;cases s <;> simp at f1 f2 ⊢ <;> omega
 .rw[iN (sV hs),Ajh _ _ oo,Ac]
  by_cases hc:y.natAbs<=x.natAbs
  ·rw[if_pos (by unfold cmpN;split <;> (try split) <;> omega),Ajj oo hc,Ac];have:x.natAbs-y.natAbs=(x+y).natAbs:=by
    cases s <;> cases t <;> simp at f1 f2 hs <;> omega
   rw[this];refine⟨_,rfl,rfl,rfl,fun h0=>?_⟩;simp only;cases s <;> cases t <;> simp at f1 f2 hs ⊢ <;> omega
  ·rw[if_neg (by unfold cmpN;split <;> (try split) <;> omega),Ajj oo oo,Ac];have:y.natAbs-x.natAbs=(x+y).natAbs:=by
    cases s <;> cases t <;> simp at f1 f2 hs <;> omega
   rw[this];refine⟨_,rfl,rfl,rfl,fun h0=>?_⟩;simp only;cases s <;> cases t <;> simp at f1 f2 hs ⊢ <;> omega
theorem Ayw{n:An}{z:Int}(h:Zq n z):Fz n=some (Int.sign z):=by
 rw[h.eq];exact Bbn h.neg
theorem mulB{x y M N:Int}(hM:0<=M)(hx1:-M<=x)(hx2:x<=M)(hy1:-N<=y)(hy2:y<=N):-(M*N)<=x*y/\x*y<=M*N:=by
 have h:(x*y).natAbs<=M.natAbs*N.natAbs:=by
  rw[Int.natAbs_mul];exact Nat.mul_le_mul oo oo
 rw[<-Int.natAbs_mul] at h;have:0<=M*N:=Int.mul_nonneg hM oo;omega
def okP(p:Ad):Prop:=-268435456<=p.X/\p.X<=268435456/\-268435456<=p.Y/\p.Y<=268435456
instance(p:Ad):Decidable (okP p):=by unfold okP;infer_instance
def crs(a b c:Ad):Int:=(b.X-a.X)*(c.Y-a.Y)-(b.Y-a.Y)*(c.X-a.X)
def lft(p d:Ad):Int:=(p.X-d.X)*(p.X-d.X)+(p.Y-d.Y)*(p.Y-d.Y)
def inC(a b c d:Ad):Int:=lft a d*crs d b c+lft b d*crs d c a+lft c d*crs d a b
theorem Aib(l:List Ad)(hl:l.length<=1000000):Qw l=some (l.all fun p=>decide (okP p)):=by
 unfold Qw;rw[jn_d];have step:∀i (hi:i<l.length),Mq l (i:Int)=if okP l[i] then some (.inl (((i+1:Nat):Int))) else some (.inr (.inr false)):=by
  intro i hi;unfold Mq;rw[iP oo,Az hi,Ac,jn_d,Bd oo]
  by_cases h1:l[i].X < -268435456
  .rw[iP h1,iN (show ¬okP l[i] by unfold okP;omega)];rfl
  .rw[iN h1]
   by_cases h2:268435456<l[i].X
   .rw[iP h2,iN (show ¬okP l[i] by unfold okP;omega)];rfl
   .rw[iN h2]
    by_cases h3:l[i].Y < -268435456
    .rw[iP h3,iN (show ¬okP l[i] by unfold okP;omega)];rfl
    .rw[iN h3]
     by_cases h4:268435456<l[i].Y
     .rw[dT h4,iN (show ¬okP l[i] by unfold okP;omega)];rfl
     .rw[dF h4,iP (show okP l[i] by unfold okP;omega)];rfl
 have key:∀k i,k+i=l.length->lfix (Mq l) (i:Int)=some (if (l.drop i).all (fun p=>decide (okP p)) then .inl () else .inr false):=by
  intro k
  induction k with
  |zero=>
   intro i hi;rw[Ax];unfold Mq;rw[iN oo,List.drop_eq_nil_of_le oo];rfl
  |succ k ih=>
   intro i hi;have hlt:i<l.length:=oo;rw[Ax,step i hlt,List.drop_eq_getElem_cons hlt,List.all_cons]
   by_cases h:okP l[i]
   .rw[iP h];simp only[h,decide_true,Bool.true_and];exact ih (i+1) oo
   .rw[iN h];simp[h]
 have:=key l.length 0 oo;rw[show ((0:Nat):Int)=0 from rfl] at this;rw[this,List.drop_zero]
 by_cases h:l.all (fun p=>decide (okP p))=true
 .rw[h];rfl
 .rw[Bool.not_eq_true] at h;rw[h];rfl
theorem Il{a b c:Ad}(ha:okP a)(hb:okP b)(hc:okP c):-576460752303423488<=crs a b c/\crs a b c<=576460752303423488:=by
 unfold okP at ha hb hc;have h1:=mulB (x:=b.X-a.X) (y:=c.Y-a.Y) (M:=536870912) (N:=536870912) oo oo oo oo oo;have h2:=mulB (x:=b.Y-a.Y) (y:=c.X-a.X) (M:=536870912) (N:=536870912) oo oo oo oo oo;unfold crs;omega
theorem Sw{a b c:Ad}(ha:okP a)(hb:okP b)(hc:okP c):Na a b c=some (crs a b c):=by
 have h0:=Il ha hb hc;unfold okP at ha hb hc;have h1:=mulB (x:=b.X-a.X) (y:=c.Y-a.Y) (M:=536870912) (N:=536870912) oo oo oo oo oo;have h2:=mulB (x:=b.Y-a.Y) (y:=c.X-a.X) (M:=536870912) (N:=536870912) oo oo oo oo oo;unfold Na;unfold crs at h0⊢;rw[Av (x:=b.X-a.X) oo oo,Av (x:=c.Y-a.Y) oo oo,Av (x:=b.Y-a.Y) oo oo,Av (x:=c.X-a.X) oo oo,
  Av (x:=(b.X-a.X)*(c.Y-a.Y)) oo oo,Av (x:=(b.Y-a.Y)*(c.X-a.X)) oo oo,Av oo oo]
theorem Abw{p d:Ad}(hp:okP p)(hd:okP d):0<=lft p d/\lft p d<=576460752303423488:=by
 unfold okP at hp hd;have h1:=mulB (x:=p.X-d.X) (y:=p.X-d.X) (M:=536870912) (N:=536870912) oo oo oo oo oo;have h2:=mulB (x:=p.Y-d.Y) (y:=p.Y-d.Y) (M:=536870912) (N:=536870912) oo oo oo oo oo;have h3:0<=(p.X-d.X)*(p.X-d.X):=by rw[<-Int.natAbs_mul_self];omega
 have h4:0<=(p.Y-d.Y)*(p.Y-d.Y):=by rw[<-Int.natAbs_mul_self];omega
 unfold lft;omega
theorem Aas{p d:Ad}(hp:okP p)(hd:okP d):Sb p d=some (lft p d):=by
 have h0:=Abw hp hd;unfold okP at hp hd;have h1:=mulB (x:=p.X-d.X) (y:=p.X-d.X) (M:=536870912) (N:=536870912) oo oo oo oo oo;have h2:=mulB (x:=p.Y-d.Y) (y:=p.Y-d.Y) (M:=536870912) (N:=536870912) oo oo oo oo oo;unfold Sb;unfold lft at h0⊢;rw[Av (x:=p.X-d.X) oo oo,Av (x:=p.Y-d.Y) oo oo,
  Av (x:=(p.X-d.X)*(p.X-d.X)) oo oo,Av (x:=(p.Y-d.Y)*(p.Y-d.Y)) oo oo,Av oo oo]
theorem Alj(z:Int):Mr z=some (Int.sign z):=by
 unfold Mr
 by_cases h:z<0
 .rw[iP h,Int.sign_eq_neg_one_of_neg h]
 .rw[iN h]
  by_cases h2:0<z
  .rw[iP h2,Int.sign_eq_one_of_pos h2]
  .rw[iN h2,show z=0 by omega];rfl
theorem Afd(a b c:Ad):Sa a b c=some (if okP a/\okP b/\okP c then (Int.sign (crs a b c),0) else (0,11)):=by
 unfold Sa;rw[Aib _ s_,Ac]
 by_cases h:okP a/\okP b/\okP c
 .rw[iP (by simp[h]),Sw h.1 h.2.1 h.2.2,Ac,Alj,Ac,iP h]
 .rw[iN (by simpa[and_assoc] using h),iN h]
theorem Qt{a b c:Ad}(ha:okP a)(hb:okP b)(hc:okP c):Et a b c=some (Int.sign (crs a b c)):=by
 unfold Et;rw[Afd,iP ⟨ha,hb,hc⟩];rfl
theorem dig3{z:Int}(h1:-9223372036854775808<=z)(h2:z<=9223372036854775807):(dig 4294967296 z.natAbs).length<=2:=Ai4 oo 2 _ (by
 have:(4294967296:Nat)^2=18446744073709551616:=dD;omega)
theorem dig5{z:Int}(h1:-10000000000000000000000000000000000000<=z)(h2:z<=10000000000000000000000000000000000000):(dig 4294967296 z.natAbs).length<=4:=Ai4 oo 4 _ (by
 have:(4294967296:Nat)^4=340282366920938463463374607431768211456:=dD;omega)
theorem Ajk{u v:Int}(hu1:-576460752303423488<=u)(hu2:u<=576460752303423488)(hv1:-576460752303423488<=v)(hv2:v<=576460752303423488):
  ∃n m k,Lg u=some n/\Lg v=some m/\Fy n m=some k/\Zq k (u*v)/\-332306998946228968225951765070086144<=u*v/\u*v<=332306998946228968225951765070086144:=by
 obtain⟨n,h1,h2⟩:=Anu (z:=u) oo oo;obtain⟨m,h3,h4⟩:=Anu (z:=v) oo oo;have d1:=dig3 (z:=u) oo oo;have d2:=dig3 (z:=v) oo oo;obtain⟨k,h5,h6⟩:=Bbo h2 h4 oo;have:=mulB (x:=u) (y:=v) (M:=576460752303423488) (N:=576460752303423488) oo oo oo oo oo;exact⟨n,m,k,h1,h3,h5,h6,oo,oo⟩
theorem Ar2(a b c d:Ad):Te a b c d=some (if okP a/\okP b/\okP c/\okP d then if crs a b c=0 then (0,12) else (Int.sign (crs a b c)*Int.sign (inC a b c d),0) else (0,11)):=by
 unfold Te;rw[Aib _ s_,Ac]
 by_cases h:okP a/\okP b/\okP c/\okP d
 .obtain⟨ha,hb,hc,hd⟩:=h;rw[iP (by simp[ha,hb,hc,hd]),iP ⟨ha,hb,hc,hd⟩,Sw ha hb hc,Ac,Alj,Ac]
  by_cases h0:crs a b c=0
  .rw[iP (by rw[h0];rfl),iP h0]
  .rw[iN (by rwa [Int.sign_eq_zero_iff_zero]),iN h0];try rw[jn_d]
   have l1:=Abw ha hd;have l2:=Abw hb hd;have l3:=Abw hc hd;have c1:=Il hd hb hc;have c2:=Il hd hc ha;have c3:=Il hd ha hb;obtain⟨n1,m1,k1,e1,e2,e3,i1,b1,b2⟩:=Ajk (u:=lft a d) (v:=crs d b c) oo oo oo oo;obtain⟨n2,m2,k2,e4,e5,e6,i2,b3,b4⟩:=Ajk (u:=lft b d) (v:=crs d c a) oo oo oo oo;obtain⟨n3,m3,k3,e7,e8,e9,i3,b5,b6⟩:=Ajk (u:=lft c d) (v:=crs d a b) oo oo oo oo;have q1:=dig5 (z:=lft a d*crs d b c) oo oo;have q2:=dig5 (z:=lft b d*crs d c a) oo oo;have q3:=dig5 (z:=lft c d*crs d a b) oo oo;have q4:=dig5 (z:=lft a d*crs d b c+lft b d*crs d c a) oo oo;obtain⟨s1,f1,g1⟩:=Avf i1 i2 oo oo;obtain⟨s2,f2,g2⟩:=Avf g1 i3 oo oo;simp only[Aas ha hd,Aas hb hd,Aas hc hd,Sw hd hb hc,Sw hd hc ha,Sw hd ha hb,Ac,e1,e2,e3,e4,e5,e6,e7,e8,e9];try rw[show (⟨k1.neg,k1.n,k1.d⟩:An)=k1 from rfl]
   rw[f1,Ac,f2,Ac,Ayw g2,Ac,Av]
   .rfl
   .rcases Int.sign_trichotomy (crs a b c) with h|h|h <;> rcases Int.sign_trichotomy (lft a d*crs d b c+lft b d*crs d c a+lft c d*crs d a b) with h'|h'|h' <;> simp[h,h']
   .rcases Int.sign_trichotomy (crs a b c) with h|h|h <;> rcases Int.sign_trichotomy (lft a d*crs d b c+lft b d*crs d c a+lft c d*crs d a b) with h'|h'|h' <;> simp[h,h']
 .rw[iN (by simpa[and_assoc] using h),iN h]
theorem Alk:Mi prog 22 105 4:=.mk underlying22 (kr:prog.info? 105=some t105) kr
instance:Lj prog 22 105 4:=⟨Alk⟩
instance:Sd prog 105 [iq 0,iq 0,iq 0,iq 0]:=⟨⟨_,zeroValue105,rfl⟩⟩
theorem Apt:Mi prog 24 99 2:=.mk underlying24 (kr:prog.info? 99=some t99) kr
instance:Lj prog 24 99 2:=⟨Apt⟩
theorem Avg:Mi prog 58 3 1:=.mk underlying58 (kr:prog.info? 3=some Tryz.t3) kr
instance:Lj prog 58 3 1:=⟨Avg⟩
instance:ArrI prog 122 3 1:=⟨.mk underlying122 (kr:prog.info? 3=some Tryz.t3) kr⟩
theorem Aec:Ud prog 22:=.mk underlying22 rfl (kr:prog.info? 22=some Tryz.t22) kr
instance:OneI prog 22:=⟨Aec⟩
instance:UndI prog 22 (.slice 105):=⟨underlying22⟩
instance:UndI prog 273 (.map 44 4):=⟨underlying273⟩
def Kw(p0:List Aa):Int->Option (Sum Int (Sum Unit Int)):=fun s0=>
 if s0<(p0.length:Int) then (bnd (idx p0 s0) fun x0=>
 bnd (Xp (⟨x0.X,x0.Y,(⟨x0.Z.Lo,x0.Z.Hi⟩:Af)⟩:Aa)) fun r0=>
 if r0=true then (some (.inl (w64 (s0+1))))
 else (some (.inr (.inr 60))))
 else (some (.inr (.inl ())))
def Pz(p0:List Aa):((List (Ad×Bool))×Int)->Option (Sum ((List (Ad×Bool))×Int) (Sum Unit Int)):=fun s0=>
 if s0.2<(p0.length:Int) then (bnd (idx p0 s0.2) fun x0=>
 bnd (Df (⟨x0.X,x0.Y,(⟨x0.Z.Lo,x0.Z.Hi⟩:Af)⟩:Aa)) fun r0=>
 gd ((-9223372036854775808<=r0.X/\r0.X<=9223372036854775807)/\(-9223372036854775808<=r0.Y/\r0.Y<=9223372036854775807))<|
 bnd (some ((mget s0.1 r0).getD false)) fun x1=>
 if x1=true then (some (.inr (.inr 61)))
 else (bnd (Df (⟨x0.X,x0.Y,(⟨x0.Z.Lo,x0.Z.Hi⟩:Af)⟩:Aa)) fun r1=>
 gd ((-9223372036854775808<=r1.X/\r1.X<=9223372036854775807)/\(-9223372036854775808<=r1.Y/\r1.Y<=9223372036854775807))<|
 gd (s0.1.length<9223372036854775807)<|
 some (.inl (mput s0.1 r1 true,w64 (s0.2+1)))))
 else (some (.inr (.inl ())))
def Rh(p0:List Aa):Option Int :=
 if 1024<(p0.length:Int) then (some 2)
 else (jn (fun (s5:Unit)=>
 jn (fun (s0:Unit)=>
 some 0)
 (fun j0=>bnd (lfix (Pz p0) (([]:List (Ad×Bool)),0)) fun t0=>
 (match t0 with
 |(.inl z0)=>j0 z0
 |(.inr z0)=>some z0
 )))
 (fun j5=>bnd (lfix (Kw p0) 0) fun t1=>
 (match t1 with
 |(.inl z1)=>j5 z1
 |(.inr z1)=>some z1
 )))
def Ai(x:Aa):LV:=[iq x.X,iq x.Y,iq x.Z.Lo,iq x.Z.Hi]
instance(x0:Int)(x1:Int)(x2:Int)(x3:Int):DecI Ai [iq x0,iq x1,iq x2,iq x3] (⟨x0,x1,⟨x2,x3⟩⟩):=⟨rfl⟩
instance:EncI 105 Ai:=⟨trivial⟩
def Ki(p0:Ad)(p1:Ad)(p2:Ad):Option Bool :=
 jn (fun (s2:Bool)=>
 some s2)
 (fun j2=>bnd (Et p0 p1 p2) fun r4=>
 if r4=0 then (if (((p2.X==p0.X)&&((p2.Y==p0.Y)&&true)))=true then (j2 false)
 else (if (((p2.X==p1.X)&&((p2.Y==p1.Y)&&true)))=true then (j2 false)
 else (bnd (Fm p0 p2) fun r0=>
 bnd (Fm p1 p2) fun r1=>
 j2 (!(r0==r1)))))
 else (j2 false))
def Xe(p0:Ad)(p1:Ad)(p2:Ad)(p3:Ad):Option Bool :=
 jn (fun (s3:Bool)=>
 if s3=true then (some true)
 else (jn (fun (s5:Bool)=>
 some s5)
 (fun j5=>bnd (Et p0 p1 p2) fun r0=>
 bnd (Et p0 p1 p3) fun r1=>
 if (w64 (r0*r1))<0 then (bnd (Et p2 p3 p0) fun r2=>
 bnd (Et p2 p3 p1) fun r3=>
 j5 (decide ((w64 (r2*r3))<0)))
 else (j5 false))))
 (fun j3=>bnd (Ki p0 p1 p2) fun r5=>
 if r5=true then (j3 true)
 else (bnd (Ki p0 p1 p3) fun r4=>
 if r4=true then (j3 true)
 else (bnd (Ki p2 p3 p0) fun r6=>
 if r6=true then (j3 true)
 else (bnd (Ki p2 p3 p1) fun r7=>
 j3 r7))))
def Ja(p0:List Aa)(p1:Ab)(p2:Ab):Option Bool :=
 jn (fun (s3:Bool)=>
 if s3=true then (some false)
 else (bnd (idx p0 p1.a0) fun x0=>
 bnd (idx p0 p1.a1) fun x1=>
 bnd (idx p0 p2.a0) fun x2=>
 bnd (idx p0 p2.a1) fun x3=>
 bnd (Df (⟨x0.X,x0.Y,(⟨x0.Z.Lo,x0.Z.Hi⟩:Af)⟩:Aa)) fun r0=>
 bnd (Df (⟨x1.X,x1.Y,(⟨x1.Z.Lo,x1.Z.Hi⟩:Af)⟩:Aa)) fun r1=>
 bnd (Df (⟨x2.X,x2.Y,(⟨x2.Z.Lo,x2.Z.Hi⟩:Af)⟩:Aa)) fun r2=>
 bnd (Df (⟨x3.X,x3.Y,(⟨x3.Z.Lo,x3.Z.Hi⟩:Af)⟩:Aa)) fun r3=>
 bnd (Xe r0 r1 r2 r3) fun r4=>
 some r4))
 (fun j3=>if p1.a0=p2.a0 then (j3 true)
 else (if p1.a0=p2.a1 then (j3 true)
 else (if p1.a1=p2.a0 then (j3 true)
 else (j3 (decide (p1.a1=p2.a1))))))
def Al(x:Ab):Value:=.agg #[iq x.a0,iq x.a1]
theorem Ek(x y:Ab)(h:Al x=Al y):x=y:=by
 rcases x with⟨_,_⟩;rcases y with⟨_,_⟩;simp[Al] at h;simp[h]
instance(x:Ab):UnfI Al x (.agg #[iq x.a0,iq x.a1]):=⟨rfl⟩
instance(x0:Int)(x1:Int):Zn Al (.agg #[iq x0,iq x1]) (⟨x0,x1⟩):=⟨rfl⟩
instance:ValI prog 99 Al ((⟨0,0⟩:Ab)):=⟨Ek,fun w=>kr⟩
theorem Bbp:(match prog.underlying 99 with|some (.array _ _)|some (.struct _)=>true|_=>false)=true:=kr
theorem Abh:Maps.Keyed prog 99:=Maps.Keyed.of_law (deep_law_laid Amj (m:=3) oo (of_decide_eq_true kr) kr Bbp)
theorem Apu(x:Ab)(h:(-9223372036854775808<=x.a0/\x.a0<=9223372036854775807)/\(-9223372036854775808<=x.a1/\x.a1<=9223372036854775807)):(keyOf prog 99 (Al x)).isSome=true:=by
 refine As8 (zs:=[x.a0,x.a1]) (d:=403) kr underlying99 kr rfl underlying3 kr kr (fun z hz=>?_);simp only[List.mem_cons,List.not_mem_nil,or_false] at hz;rcases hz with rfl|rfl
 .exact Ahk h.1
 .exact Ahk h.2
instance:KeyI prog 99 Al (fun x=>(-9223372036854775808<=x.a0/\x.a0<=9223372036854775807)/\(-9223372036854775808<=x.a1/\x.a1<=9223372036854775807)):=⟨Abh,Ek,Apu⟩
instance:UndI prog 171 (.map 99 4):=⟨underlying171⟩
instance:UndI prog 24 (.slice 99):=⟨underlying24⟩
def Ar(x:Ab):LV:=[iq x.a0,iq x.a1]
instance(x0:Int)(x1:Int):DecI Ar [iq x0,iq x1] (⟨x0,x1⟩):=⟨rfl⟩
instance:EncI 99 Ar:=⟨trivial⟩
def Lq(p1:List Ab)(p0:List Aa):((List (Ab×Bool))×Int)->Option (Sum ((List (Ab×Bool))×Int) (Sum Unit Int)):=fun s0=>
 if s0.2<(p1.length:Int) then (bnd (idx p1 s0.2) fun x0=>
 jn (fun (s1:Bool)=>
 if s1=true then (some (.inr (.inr 62)))
 else (bnd (Gp x0.a0 x0.a1) fun r0=>
 gd ((-9223372036854775808<=r0.a0/\r0.a0<=9223372036854775807)/\(-9223372036854775808<=r0.a1/\r0.a1<=9223372036854775807))<|
 gd (s0.1.length<9223372036854775807)<|
 some (.inl (mput s0.1 r0 true,w64 (s0.2+1)))))
 (fun j0=>if x0.a0<0 then (j0 true)
 else (if x0.a1<0 then (j0 true)
 else (if (p0.length:Int)<=x0.a0 then (j0 true)
 else (if (p0.length:Int)<=x0.a1 then (j0 true)
 else (if x0.a0=x0.a1 then (j0 true)
 else (bnd (Gp x0.a0 x0.a1) fun r1=>
 gd ((-9223372036854775808<=r1.a0/\r1.a0<=9223372036854775807)/\(-9223372036854775808<=r1.a1/\r1.a1<=9223372036854775807))<|
 bnd (some ((mget s0.1 r1).getD false)) fun x1=>
 j0 x1)))))))
 else (some (.inr (.inl ())))
def Fd(p0:List Aa)(x0:Ab):Int->Option (Sum Int (Sum Unit Int)):=fun s0=>
 if s0<(p0.length:Int) then (bnd (idx p0 s0) fun x1=>
 bnd (idx p0 x0.a0) fun x2=>
 bnd (idx p0 x0.a1) fun x3=>
 bnd (Df (⟨x2.X,x2.Y,(⟨x2.Z.Lo,x2.Z.Hi⟩:Af)⟩:Aa)) fun r0=>
 bnd (Df (⟨x3.X,x3.Y,(⟨x3.Z.Lo,x3.Z.Hi⟩:Af)⟩:Aa)) fun r1=>
 bnd (Df (⟨x1.X,x1.Y,(⟨x1.Z.Lo,x1.Z.Hi⟩:Af)⟩:Aa)) fun r2=>
 bnd (Ki r0 r1 r2) fun r3=>
 if r3=true then (some (.inr (.inr 63)))
 else (some (.inl (w64 (s0+1)))))
 else (some (.inr (.inl ())))
def Hm(s0:Int)(p0:List Aa)(x0:Ab):(List Ab×Int)->Option (Sum (List Ab×Int) (Sum Unit Int)):=fun s1=>
 if s1.2<(((Int.toNat s0:Nat):Int)) then (bnd (idx s1.1 s1.2) fun x1=>
 bnd (Ja p0 x1 x0) fun r0=>
 if r0=true then (some (.inr (.inr 63)))
 else (some (.inl (s1.1,w64 (s1.2+1)))))
 else (some (.inr (.inl ())))
def Ju(p1:List Ab)(p0:List Aa):Int->Option (Sum Int (Sum Unit Int)):=fun s0=>
 if s0<(p1.length:Int) then (jn (fun (s1:Unit)=>
 some (.inl (w64 (s0+1))))
 (fun j0=>bnd (idx p1 s0) fun x0=>
 jn (fun (s2:Unit)=>
 gd (0<=s0/\s0<=(p1.length:Int))<|
 bnd (lfix (Hm s0 p0 x0) (subl p1 0 s0,0)) fun t0=>
 (match t0 with
 |(.inl z0)=>j0 z0
 |(.inr z0)=>some (.inr (.inr z0))
 ))
 (fun j1=>bnd (lfix (Fd p0 x0) 0) fun t1=>
 (match t1 with
 |(.inl z1)=>j1 z1
 |(.inr z1)=>some (.inr (.inr z1))
 ))))
 else (some (.inr (.inl ())))
def Pf(p0:List Aa)(p1:List Ab):Option Int :=
 jn (fun (s3:Unit)=>
 jn (fun (s0:Unit)=>
 some 0)
 (fun j0=>bnd (lfix (Ju p1 p0) 0) fun t0=>
 (match t0 with
 |(.inl z0)=>j0 z0
 |(.inr z0)=>some z0
 )))
 (fun j3=>bnd (lfix (Lq p1 p0) (([]:List (Ab×Bool)),0)) fun t1=>
 (match t1 with
 |(.inl z1)=>j3 z1
 |(.inr z1)=>some z1
 ))
def Qh(p0:Int):Option Bool :=
 some (!(decide (p0=p0)))
def Nr(p0:Int)(p1:Int):Option Int :=
 bnd (Qh p0) fun r1=>
 bnd (Qh p1) fun r4=>
 if r1=true then (if r4=true then (some 0)
 else (some (-1)))
 else (if r4=true then (some 1)
 else (if p0<p1 then (some (-1))
 else (if p1<p0 then (some 1)
 else (some 0))))
instance:UndI prog 58 (.slice 3):=⟨underlying58⟩
def Bw(p0:LI)(p1:LI):Int->Option (Sum Int (Sum Unit Int)):=fun s0=>
 if s0<(p0.length:Int) then (bnd (idx p0 s0) fun x0=>
 if (p1.length:Int)<=s0 then (some (.inr (.inr 1)))
 else (bnd (idx p1 s0) fun x1=>
 bnd (Nr x0 x1) fun r0=>
 if r0=0 then (some (.inl (w64 (s0+1))))
 else (some (.inr (.inr r0)))))
 else (some (.inr (.inl ())))
def Hx(p0:LI)(p1:LI):Option Int :=
 jn (fun (s2:Unit)=>
 if (p0.length:Int)<(p1.length:Int) then (some (-1))
 else (some 0))
 (fun j2=>bnd (lfix (Bw p0 p1) 0) fun t0=>
 (match t0 with
 |(.inl z0)=>j2 z0
 |(.inr z0)=>some z0
 ))
structure Ah where
 a0:Int
 a1:Int
 a2:Int
def Fs(p0:Ah)(p1:Ah):Option Int :=
 bnd (Hx ([p0.a0,p0.a1,p0.a2]) ([p1.a0,p1.a1,p1.a2])) fun r5=>
 some r5
def Up(p0:Int)(p1:Int)(p2:List Aa):Option Int :=
 bnd (idx p2 p0) fun x1=>
 bnd (idx p2 p1) fun x0=>
 bnd (Df (⟨x1.X,x1.Y,(⟨x1.Z.Lo,x1.Z.Hi⟩:Af)⟩:Aa)) fun r0=>
 bnd (Df (⟨x0.X,x0.Y,(⟨x0.Z.Lo,x0.Z.Hi⟩:Af)⟩:Aa)) fun r1=>
 bnd (Fm r0 r1) fun r2=>
 if r2=true then (some (-1))
 else (bnd (idx p2 p1) fun x2=>
 bnd (idx p2 p0) fun x3=>
 bnd (Df (⟨x2.X,x2.Y,(⟨x2.Z.Lo,x2.Z.Hi⟩:Af)⟩:Aa)) fun r3=>
 bnd (Df (⟨x3.X,x3.Y,(⟨x3.Z.Lo,x3.Z.Hi⟩:Af)⟩:Aa)) fun r4=>
 bnd (Fm r3 r4) fun r5=>
 if r5=true then (some 1)
 else (some 0))
def Bg(x:Ah):LV:=[iq x.a0,iq x.a1,iq x.a2]
instance(x0:Int)(x1:Int)(x2:Int):DecI Bg [iq x0,iq x1,iq x2] (⟨x0,x1,x2⟩):=⟨rfl⟩
instance:EncI 122 Bg:=⟨trivial⟩
instance(p0:List Aa):Con (Rh p0) prog 127 (fun K vs=>∃E0 G0,vs=[.slice E0 p0.length G0]/\Has K E0 p0.length G0 4 Ai p0/\True) (fun _ r v Ln=>v=iq r/\Ln=[]/\True):=⟨by
 rintro K _ r ⟨E0,G0,rfl,ha0,-⟩ hx w hK;replace ha0:=ha0.lo hK;unfold Rh at hx;refine CtS ntmps127 results127 ?_;refine pq ?_;intros;rename_i hx
 refine Cq1 (s:=10) hx rfl ?_ ?_
 .exact aI
 .refine pI ?_;intros;rename_i hx
  apply Jr (γ:=Unit) hx [0] (fun s5 y5 f=>f) [999] (fun s5 y5 l=>l);exact kk
  .intro s5 y5 hx;refine pq ?_;intros;rename_i hx
   refine pA ?_;intros;rename_i hx
   apply Jr (γ:=Unit) hx [] (fun s0 y0 f=>f) [999] (fun s0 y0 l=>l);exact kk
   .exact aI
   .refine pI ?_;intros;rename_i hx
    apply Lr (γ:=Nat) hx [22,23] (fun s1 y1 f=>(5,.map (some y1))::(24,iq s1.2)::f) [999] (fun s1 y1 l=>Be prog 44 Rq Cc y1 s1.1::l) _;exact kk;exact sk;intro s1 y1 x0 hx _;unfold Pz at hx;exact au
  .refine pI ?_;intros;rename_i hx
   apply Lr (γ:=Unit) hx [0,11,12] (fun s2 y2 f=>(13,iq s2)::f) [999] (fun s2 y2 l=>l) ();exact kk;exact sk;intro s2 y2 x1 hx _;unfold Kw at hx;exact au⟩
instance(p0:Ad)(p1:Ad)(p2:Ad):Con (Ki p0 p1 p2) prog 168 (fun _ vs=>vs=[.agg #[iq p0.X,iq p0.Y],.agg #[iq p1.X,iq p1.Y],.agg #[iq p2.X,iq p2.Y]]) (fun _ r v Ln=>v=.bool r/\Ln=[]/\True):=⟨by
 rintro _ _ r rfl hx w hK;unfold Ki at hx;have:=dl 1 [1,1,1,2,0,0,1,1,0,0,0,1,1,0,0,0,1,1,2,1,1,2,0,0,2] [0,1,2,3,4,5,6,7,8,9,10,11,12,13,14,15,16,17,19,20,18,21,22,23,24];refine CtS ntmps168 results168 ?_;exact au⟩
instance(p0:Ad)(p1:Ad)(p2:Ad)(p3:Ad):Con (Xe p0 p1 p2 p3) prog 280 (fun _ vs=>vs=[.agg #[iq p0.X,iq p0.Y],.agg #[iq p1.X,iq p1.Y],.agg #[iq p2.X,iq p2.Y],.agg #[iq p3.X,iq p3.Y]]) (fun _ r v Ln=>v=.bool r/\Ln=[]/\True):=⟨by
 rintro _ _ r rfl hx w hK;unfold Xe at hx;have:=dl 3 [1,1,1,2,1,1,1,2,0,0,0,1,1,1,2,1,1,1,2,0,0,0,2] [0,1,2,4,5,6,3,7,8,9,10,11,12,13,15,16,17,14,18,19,20,21,22];refine CtS ntmps280 results280 ?_;refine pq ?_;intros;rename_i hx
 refine pA ?_;intros;rename_i hx
 refine pA ?_;intros;rename_i hx
 apply Jr (γ:=Unit) hx [4,5,6,7] (fun s3 y3 f=>(30,.bool s3)::f) [0,1,2,3,999] (fun s3 y3 l=>l);exact kk
 .exact aI
 .exact aI⟩
instance Ae0(p0:List Aa)(p1:Ab)(p2:Ab):Con (Ja p0 p1 p2) prog 209 (fun K vs=>∃E0 G0,vs=[.slice E0 p0.length G0,.agg #[iq p1.a0,iq p1.a1],.agg #[iq p2.a0,iq p2.a1]]/\Has K E0 p0.length G0 4 Ai p0/\True) (fun _ r v Ln=>v=.bool r/\Ln=[]/\True):=⟨by
 rintro K _ r ⟨E0,G0,rfl,ha0,-⟩ hx w hK;replace ha0:=ha0.lo hK;unfold Ja at hx;have:=dl 3 [0,0,1,0,1,2,0,0,1,0,1,2,0,0,1,0,1,2,0,0,1,0,1,2,2,2] [0,1,2,3,4,6,7,8,9,10,12,13,14,15,16,18,19,20,21,22,5,11,17,23,24,25];refine CtS ntmps209 results209 ?_;refine pq ?_;intros;rename_i hx
 refine pA ?_;intros;rename_i hx
 refine pA ?_;intros;rename_i hx
 apply Jr (γ:=Unit) hx [0,4,5] (fun s3 y3 f=>(32,.bool s3)::f) [0,1,999] (fun s3 y3 l=>l);exact kk
 .exact aI
 .exact aI⟩
theorem Xf(p0:List Aa)(p1:Ab)(p2:Ab){K:LE}{E0:OA}{G0:Nat}(ha0:Has K E0 p0.length G0 4 Ai p0){r:Bool}(hx:Ja p0 p1 p2=some r)(w:World)(hK:∀e∈K,Ent.ok w e):CtL prog 209 [.slice E0 p0.length G0,.agg #[iq p1.a0,iq p1.a1],.agg #[iq p2.a0,iq p2.a1]] w fun v Ln=>v=.bool r/\Ln=[]/\True:=(Ae0 p0 p1 p2).h K _ _ ⟨_,_,rfl,ha0,trivial⟩ hx w hK
instance(p0:List Aa)(p1:List Ab):Con (Pf p0 p1) prog 128 (fun K vs=>∃E0 G0 E1 G1,vs=[.slice E0 p0.length G0,.slice E1 p1.length G1]/\Has K E0 p0.length G0 4 Ai p0/\Has K E1 p1.length G1 2 Ar p1/\True) (fun _ r v Ln=>v=iq r/\Ln=[]/\True):=⟨by
 rintro K _ r ⟨E0,G0,E1,G1,rfl,ha0,ha1,-⟩ hx w hK;replace ha0:=ha0.lo hK;replace ha1:=ha1.lo hK;unfold Pf at hx;have:=dl 15 [0,0,1,0,1,2,0,0,1,0,1,2,1,2,2] [0,1,2,3,4,6,7,8,9,10,12,5,11,13,14];refine CtS ntmps128 results128 ?_;refine pq ?_;intros;rename_i hx
 refine pA ?_;intros;rename_i hx
 refine pA ?_;intros;rename_i hx
 apply Jr (γ:=Unit) hx [0,1] (fun s3 y3 f=>f) [999] (fun s3 y3 l=>l);exact kk
 .intro s3 y3 hx;apply Jr (γ:=Unit) hx [] (fun s0 y0 f=>f) [999] (fun s0 y0 l=>l);exact kk
  .exact aI
  .refine pI ?_;intros;rename_i hx
   apply Lr (γ:=Unit) hx [0,1,66,67] (fun s1 y1 f=>(68,iq s1)::f) [999] (fun s1 y1 l=>l) ();exact kk;exact sk;intro s1 y1 x0 hx _;unfold Ju at hx;refine pq ?_;intros;rename_i hx
   refine Cq1e (s:=69) hx rfl cQ ?_ ?_
   .refine pI ?_;intros;rename_i hx
    apply Jr (γ:=Unit) hx [0,1,66,67,68] (fun s2 y2 f=>f) [999] (fun s2 y2 l=>l);exact kk
    .exact aI
    .refine pI ?_;intros;rename_i hx
     apply Jr (γ:=Unit) hx [0,1,8,9,66,67,68] (fun s4 y4 f=>f) [0,999] (fun s4 y4 l=>l);exact kk
     .intro s4 y4 hx;refine pq ?_;intros;rename_i hx
      apply LrG (γ:=OA×Nat) hx [0,1,9,66,67,68,98] (fun s5 y5 f=>(97,.slice y5.1 s5.1.length y5.2)::(99,iq s5.2)::f) [0,999] (fun s5 y5 l=>l) (fun s5 y5=>Has [.old w] y5.1 s5.1.length y5.2 2 Ar s5.1/\True) (_,_);exact kk;exact sF2;exact gG;exact pK2;intro s5 y5 x1 hx _ hG;obtain⟨_,-⟩:=hG;unfold Hm at hx;exact au
     .refine pI ?_;intros;rename_i hx
      apply Lr (γ:=Unit) hx [0,1,8,9,66,67,68,73,74] (fun s6 y6 f=>(75,iq s6)::f) [0,999] (fun s6 y6 l=>l) ();exact kk;exact sk;intro s6 y6 x2 hx _;unfold Fd at hx;exact au
   .exact aI
 .refine pI ?_;intros;rename_i hx
  apply Lr (γ:=Nat) hx [0,1,15,16] (fun s7 y7 f=>(5,.map (some y7))::(17,iq s7.2)::f) [999] (fun s7 y7 l=>Be prog 99 Al Cc y7 s7.1::l) _;exact kk;exact sk;intro s7 y7 x3 hx _;unfold Lq at hx;refine pq ?_;intros;rename_i hx
  refine Cq1e (s:=18) hx rfl cQ ?_ ?_
  .refine pI ?_;intros;rename_i hx
   refine pA ?_;intros;rename_i hx
   apply Jr (γ:=Unit) hx [0,1,5,7,15,16,17] (fun s8 y8 f=>(58,.bool s8)::f) [0,1,999] (fun s8 y8 l=>l);exact kk
   .exact aI
   .refine pI ?_;intros;rename_i hx
    refine Cq1e (s:=24) hx rfl cQ ?_ ?_
    .exact aI
    .exact aI
  .exact aI⟩
instance(p0:Int):Con (Qh p0) prog 341 (fun _ vs=>vs=[iq p0]) (fun _ r v Ln=>v=.bool r/\Ln=[]/\True):=⟨by
 rintro _ _ r rfl hx w hK;unfold Qh at hx;refine CtS ntmps341 results341 ?_;exact au⟩
instance(p0:Int)(p1:Int):Con (Nr p0 p1) prog 285 (fun _ vs=>vs=[iq p0,iq p1]) (fun _ r v Ln=>v=iq r/\Ln=[]/\True):=⟨by
 rintro _ _ r rfl hx w hK;unfold Nr at hx;refine CtS ntmps285 results285 ?_;exact au⟩
instance(p0:LI)(p1:LI):Con (Hx p0 p1) prog 222 (fun K vs=>∃E0 G0 E1 G1,vs=[.slice E0 p0.length G0,.slice E1 p1.length G1]/\Has K E0 p0.length G0 1 Ao p0/\Has K E1 p1.length G1 1 Ao p1/\True) (fun _ r v Ln=>v=iq r/\Ln=[]/\True):=⟨by
 rintro K _ r ⟨E0,G0,E1,G1,rfl,ha0,ha1,-⟩ hx w hK;replace ha0:=ha0.lo hK;replace ha1:=ha1.lo hK;unfold Hx at hx;refine CtS ntmps222 results222 ?_;refine pq ?_;intros;rename_i hx
 refine pA ?_;intros;rename_i hx
 apply Jr (γ:=Unit) hx [0,1] (fun s2 y2 f=>f) [999] (fun s2 y2 l=>l);exact kk
 .exact aI
 .refine pI ?_;intros;rename_i hx
  apply Lr (γ:=Unit) hx [0,1,9,10] (fun s0 y0 f=>(11,iq s0)::f) [999] (fun s0 y0 l=>l) ();exact kk;exact sk;intro s0 y0 x0 hx _;unfold Bw at hx;exact au⟩
instance Vi(p0:Ah)(p1:Ah):Con (Fs p0 p1) prog 221 (fun _ vs=>vs=[.agg #[iq p0.a0,iq p0.a1,iq p0.a2],.agg #[iq p1.a0,iq p1.a1,iq p1.a2]]) (fun _ r v Ln=>v=iq r/\Ln=[]/\True):=⟨by
 rintro _ _ r rfl hx w hK;unfold Fs at hx;have:=dl 1 [0,0,2,2] [0,1,2,3];refine CtS ntmps221 results221 ?_;exact au⟩
theorem Uq(p0:Ah)(p1:Ah){r:Int}(hx:Fs p0 p1=some r)(w:World):CtL prog 221 [.agg #[iq p0.a0,iq p0.a1,iq p0.a2],.agg #[iq p1.a0,iq p1.a1,iq p1.a2]] w fun v Ln=>v=iq r/\Ln=[]/\True:=(Vi p0 p1).h [] _ _ rfl hx w (fun _ h=>absurd h List.not_mem_nil)
theorem Ae1(p0:Int)(p1:Int)(p2:List Aa){K:LE}{E0:OA}{G0:Nat}(ha0:Has K E0 p2.length G0 4 Ai p2){g0_2:Nat}(hp2:Pt K g0_2 0 [.slice E0 p2.length G0]){r:Int}(hx:Up p0 p1 p2=some r)(w:World)(hK:∀e∈K,Ent.ok w e):CtL prog 215 [iq p0,iq p1,.pointer (some ⟨g0_2,0,none⟩)] w fun v Ln=>v=iq r/\Ln=[]/\True:=by
 have ha0':=Has.up0 ha0;have hp2':=Pt.low (E:=[]) (Pt.up0 hp2) hK;refine CtL.mk 28 func215 rfl ntmps215 kr rfl ?_;show T 28 _ [(0,iq p0),(1,iq p1),(2,.pointer (some ⟨g0_2,0,none⟩))] _;unfold Up at hx;refine Y7 ?_;refine T_dr [1,0,0,1,2,1,0,0,1,2,2] (.q 0 (.q 1 (.q 2 (.q 3 (.q 5 (.q 6 (.q 7 (.q 8 (.e 4 (.e 9 (.e 10 (.done) (.stop)) (.stop)) (.stop)))))))))) mixed kr kr ?_;refine P_q rfl rfl (Cd rfl hp2' (sb 0) rfl Aec) rfl ?_;refine Y ?_;obtain⟨x1,h2,hx3⟩:=Aq hx;refine P_il (Has.low (E:=[]) ha0' hK) h2 Alk Ab8 (sb 0) (fun b4 o5=>?_);refine P_q rfl rfl (Cd rfl hp2' (sb 0) rfl Aec) rfl ?_;refine Y ?_;obtain⟨x0,h0,hx0⟩:=Aq hx3;refine P_il (Has.low (E:=[]) ha0' hK) h0 Alk Ab8 (sb 0) (fun b0 o0=>?_);obtain⟨r0,h1,hx1⟩:=Aq hx0;refine Pc (fun w1 hw1=>Ts (⟨x1.X,x1.Y,(⟨x1.Z.Lo,x1.Z.Hi⟩:Af)⟩:Aa)  h1 w1) ?_;obtain⟨r1,h3,hx2⟩:=Aq hx1;refine Pc (fun w1 hw1=>Ts (⟨x0.X,x0.Y,(⟨x0.Z.Lo,x0.Z.Hi⟩:Af)⟩:Aa)  h3 w1) ?_;obtain⟨r2,h4,hx4⟩:=Aq hx2;refine Pc (fun w1 hw1=>Aag r0 r1  h4 w1) ?_;refine Y2 ?_;refine Nm (s:=16) rfl (fun h5=>?_) (fun h5=>?_)
 .have hx5:=Qc h5 hx4;refine Y8 ?_;obtain rfl:=oI hx5;exact Kf (rs:=[.tmp 5]) results215 (.tmp rfl (.nil)) (Ln:=[]) ⟨rfl,rfl,trivial⟩ Iz (by exact .refl)
 .have hx6:=Sq h5 hx4;refine Y5 ?_;refine T_dr [1,0,0,1,2,1,0,0,1,2,2] (.q 0 (.q 1 (.q 2 (.q 3 (.q 5 (.q 6 (.q 7 (.q 8 (.e 4 (.e 9 (.e 10 (.done) (.stop)) (.stop)) (.stop)))))))))) mixed kr kr ?_;refine P_q rfl rfl (Cd rfl hp2' (sb 0) rfl Aec) rfl ?_;refine Y ?_;obtain⟨x2,h6,hx7⟩:=Aq hx6;refine P_il (Has.low (E:=[]) ha0' hK) h6 Alk Ab8 (sb 0) (fun b1 o1=>?_);refine P_q rfl rfl (Cd rfl hp2' (sb 0) rfl Aec) rfl ?_;refine Y ?_;obtain⟨x3,h7,hx8⟩:=Aq hx7;refine P_il (Has.low (E:=[]) ha0' hK) h7 Alk Ab8 (sb 0) (fun b2 o2=>?_);obtain⟨r3,h8,hx9⟩:=Aq hx8;refine Pc (fun w1 hw1=>Ts (⟨x2.X,x2.Y,(⟨x2.Z.Lo,x2.Z.Hi⟩:Af)⟩:Aa)  h8 w1) ?_;obtain⟨r4,h9,hx62⟩:=Aq hx9;refine Pc (fun w1 hw1=>Ts (⟨x3.X,x3.Y,(⟨x3.Z.Lo,x3.Z.Hi⟩:Af)⟩:Aa)  h9 w1) ?_;obtain⟨r5,h64,hx65⟩:=Aq hx62;refine Pc (fun w1 hw1=>Aag r3 r4  h64 w1) ?_;refine Y2 ?_;refine Nm (s:=27) rfl (fun h66=>?_) (fun h66=>?_)
  .have hx67:=Qc h66 hx65;refine Y8 ?_;obtain rfl:=oI hx67;exact Kf (rs:=[.tmp 5]) results215 (.tmp rfl (.nil)) (Ln:=[]) ⟨rfl,rfl,trivial⟩ Iz (by exact .refl)
  .have hx68:=Sq h66 hx65;refine Y9 ?_;obtain rfl:=oI hx68;exact Kf (rs:=[.tmp 5]) results215 (.tmp rfl (.nil)) (Ln:=[]) ⟨rfl,rfl,trivial⟩ Iz (by exact .refl)
end
end Go.Proofs.YtlejkgngmjchdaaGreat
