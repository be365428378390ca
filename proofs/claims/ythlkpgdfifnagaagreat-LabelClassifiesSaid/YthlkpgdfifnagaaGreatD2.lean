import Derived.Test.YthlkpgdfifnagaaGreatD1
set_option maxRecDepth 100000
set_option maxHeartbeats 1000000
namespace Go.Proofs.YthlkpgdfifnagaaGreat
open Go Go.RowKit Tryz
noncomputable section
theorem Re{j:Nat}(h:j<=9223372036854775807):w64 (j:Int)=(j:Int):=Aq oo oo
theorem Au{j:Nat}(h:j<9223372036854775807):w64 ((j:Int)+1)=((j+1:Nat):Int):=by rw[Aq oo oo];omega
theorem Ad{α ρ:Type}{x:α}{k:α->Option ρ}:bnd (some x) k=k x:=rfl
theorem gd_t{ρ:Type}{p:Prop}[Decidable p]{k:Option ρ}(h:p):gd p k=k:=by unfold gd;rw[if_pos h]
theorem jn_d{τ ρ:Type}{k:τ->Option ρ}{x:(τ->Option ρ)->Option ρ}:jn k x=x k:=rfl
theorem Wd{α β γ:Type}(l:List α)(p:α->Bool)(B:Int->Option (Sum Int (Sum β γ)))(u:β)(v:γ)(h1:∀ (j:Nat) (h:j<l.length),B j=if p l[j]=true then some (.inl ((j+1:Nat):Int)) else some (.inr (.inr v)))(h2:B l.length=some (.inr (.inl u))):
  lfix B 0=some (if l.all p=true then .inl u else .inr v):=by
 have key:∀(m k:Nat),k<=l.length->l.length-k=m->lfix B k=some (if (l.drop k).all p=true then .inl u else .inr v):=by
  intro m
  induction m with
  |zero=>
   intro k hk hm;obtain rfl:k=l.length:=oo;rw[Ay,h2];simp
  |succ m ih=>
   intro k hk hm;have hlt:k<l.length:=oo;rw[Ay,h1 k hlt,List.drop_eq_getElem_cons hlt,List.all_cons]
   by_cases hp:p l[k]=true
   .rw[if_pos hp,hp,Bool.true_and];exact ih (k+1) oo oo
   .rw[if_neg hp];simp[hp]
 exact key l.length 0 (Nat.zero_le _) rfl
def nI(l:LM):LI:=l.map (fun x:Nat=>(x:Int))
def L32(m:Nat):LI:=nI (dig 4294967296 m)
theorem Ca{l:LM}:(nI l).length=l.length:=by simp[nI]
theorem Dg{l:LM}{j:Nat}(h:j<l.length):idx (nI l) (j:Int)=some ((l[j]:Nat):Int):=by
 rw[Am (by rw[Ca];exact h)];simp[nI]
theorem Zv(n:Nat):(List.replicate n (0:Int))=nI (List.replicate n 0):=by simp[nI]
theorem Xd{l:LM}{j v:Nat}:setI (nI l) (j:Int) (v:Int)=nI (l.set j v):=by rw[Io];simp[nI,List.map_set]
theorem Axc{n:Nat}(h:n<4294967296):wu32 (n:Int)=n:=Ahu .u32 n (by simp only[top];omega)
theorem Xz{n:Nat}(h:n<18446744073709551616):wu64 (n:Int)=n:=Ahu .u64 n (by simp only[top];omega)
theorem Aer(l:LM)(h9:l.length<=1000000):Er (nI l)=some (nI (nrm l)):=by
 obtain⟨t,ht,hR⟩:=Aw (B:=Rc) (fun s=>s.length)
  (fun s=>∃k:Nat,k<=l.length/\s=nI (l.take k)/\∀(j:Nat) (h:j<l.length),k<=j->l[j]=0)
  (fun t=>t=nI (nrm l)) (by
   rintro s ⟨k,hk,rfl,hz⟩;have hlen:(l.take k).length=k:=by rw[List.length_take];omega
   unfold Rc;simp only[jn_d,Ca,hlen]
   by_cases h0:k=0
   .right;subst h0;rw[if_neg oo,if_neg s_];refine⟨_,rfl,?_⟩;rw[Afe l (fun x hx=>by obtain⟨j,hj,rfl⟩:=List.getElem_of_mem hx;exact hz j hj oo)];rfl
   .rw[if_pos oo]
    .rw[Aq oo oo,show ((k:Int)-1)=((k-1:Nat):Int) from by omega,Dg oo,Ad];have e:(l.take k)[k-1]'oo=l[k-1]:=by rw[List.getElem_take]
     rw[e]
     by_cases hx:l[k-1]=0
     .left;refine⟨nI (l.take (k-1)),?_,⟨k-1,oo,rfl,fun j h hj=>?_⟩,by simp only[Ca,List.length_take];omega⟩
      .rw[if_pos (by rw[hx];rfl),gd_t ⟨oo,oo⟩];congr 2;simp only[subl,nI,Int.toNat_natCast,Int.toNat_zero,List.drop_zero,<-List.map_take,List.take_take];rw[show min (k-1) k=k-1 by omega]
      .rcases Nat.lt_or_ge (k-1) j with hq|hq
       .exact hz j h oo
       .obtain rfl:j=k-1:=oo;exact hx
     .right;rw[if_neg (by rw[decide_eq_true_eq];omega)];refine⟨_,rfl,?_⟩;have h1:=Avx l k hk hz (fun h0' h'=>hx)
      conv=>rhs;rw[Am0,h1])
  (nI l) ⟨l.length,oo,by rw[List.take_length],fun j h hj=>oo⟩
 unfold Er;simp only[jn_d];rw[ht,Ad,hR]
theorem Aes(n:Nat):wu32 (n:Int)=((n%4294967296:Nat):Int):=by
 show IntKind.u32.wrap (n:Int)=_;simp[IntKind.wrap,IntKind.bits,IntKind.signed]
theorem Axd(n:Nat):shr_ .u64 (n:Int) 32=((n/4294967296:Nat):Int):=by
 show (n:Int).fdiv (2^(min (32:Int).toNat 64))=_;rw[show (2:Int)^(min (32:Int).toNat 64)=4294967296 from by decide,Int.fdiv_eq_ediv_of_nonneg _ oo];omega
theorem Axe(l r:List Nat)(hl:∀ x∈l,x<4294967296)(hr:∀ x∈r,x<4294967296)(hb:l.length+r.length<=1000000):
  Dq (nI l) (nI r)=some (L32 (val 4294967296 l*val 4294967296 r)):=by
 have e:w64 ((((nI l).length:Nat):Int)+(((nI r).length:Nat):Int))=((l.length+r.length:Nat):Int):=by rw[Ca,Ca,Aq oo oo];omega
 obtain⟨t,ht,out,rfl,hd,hlo⟩:=Aw (B:=Ko (nI l) (nI r)) (fun s=>l.length-s.2.toNat)
  (fun s=>∃(out:LM) (i:Nat),s=(nI out,(i:Int))/\out.length=l.length+r.length/\i<=l.length/\(∀x∈out,x<4294967296)/\(∀(q:Nat) (h:q<out.length),i+r.length<=q->out[q]=0)/\val 4294967296 out=val 4294967296 (l.take i)*val 4294967296 r)
  (fun t=>∃out,t=nI out/\nrm out=dig 4294967296 (val 4294967296 l*val 4294967296 r)/\out.length<=1000000) (by
   rintro s ⟨out0,i,rfl,hC1,hC2,hC3,hC4,hC5⟩
   by_cases hi:i<l.length
   ·left;obtain⟨t,ht,out,cy,rfl,hD1,hD2,hD4,hD5,hD6⟩:=Aw (B:=Kn (nI r) (nI out0,(i:Int)) (l[i]:Int)) (fun s=>r.length-s.2.2.toNat)
     (fun s=>∃(out:LM) (cy j:Nat),s=(nI out,(cy:Int),(j:Int))/\out.length=l.length+r.length/\cy<4294967296/\j<=r.length/\(∀x∈out,x<4294967296)/\(∀(q:Nat) (h:q<out.length),i+r.length<=q->out[q]=0)/\val 4294967296 out+cy*4294967296^(i+j)=val 4294967296 out0+l[i]*val 4294967296 (r.take j)*4294967296^i)
     (fun t=>∃(out:LM) (cy:Nat),t=(nI out,(cy:Int))/\out.length=l.length+r.length/\cy<4294967296/\(∀x∈out,x<4294967296)/\(∀(q:Nat) (h:q<out.length),i+r.length<=q->out[q]=0)/\val 4294967296 out+cy*4294967296^(i+r.length)=val 4294967296 out0+l[i]*val 4294967296 (r.take r.length)*4294967296^i) (by
      rintro s ⟨out,cy,j,rfl,hD1,hD2,hD3,hD4,hD5,hD6⟩
      by_cases hj:j<r.length
      .left;have hk:i+j<out.length:=oo;have h1:=hl _ (List.getElem_mem hi);have h2:=hr _ (List.getElem_mem hj);have h3:=hD4 _ (List.getElem_mem hk);have hmm:=Am1 h1 h2;have e1:w64 ((i:Int)+(j:Int))=((i+j:Nat):Int):=by rw[Aq oo oo];omega
       have e2:wu64 (wu64 (wu64 (wu64 (l[i]:Int)*wu64 (r[j]:Int))+wu64 (out[i+j]:Int))+(cy:Int))=((l[i]*r[j]+out[i+j]+cy:Nat):Int):=by
        rw[Xz (n:=l[i]) oo,Xz (n:=r[j]) oo,Xz (n:=out[i+j]) oo,<-Int.natCast_mul,Xz oo,<-Int.natCast_add,Xz oo,<-Int.natCast_add,Xz oo]
       have e4:wu32 ((l[i]*r[j]+out[i+j]+cy:Nat):Int)=(((l[i]*r[j]+out[i+j]+cy)%4294967296:Nat):Int):=Aes _;refine⟨(nI (out.set (i+j) ((l[i]*r[j]+out[i+j]+cy)%4294967296)),(((l[i]*r[j]+out[i+j]+cy)/4294967296:Nat):Int),((j+1:Nat):Int)),?_,⟨_,_,_,rfl,Ato hi hj rfl rfl h1 h2 hD1 hD2 hD3 hD4 hD5 hD6 hk⟩,by simp;omega⟩;unfold Kn;simp only[e1];rw[if_pos (by rw[Ca];omega),Dg hj,Ad,Dg hk,Ad,Ad,e2,e4,Axd,Xd,Au oo]
      .right;obtain rfl:j=r.length:=oo;refine⟨(nI out,(cy:Int)),?_,out,cy,rfl,hD1,hD2,hD4,hD5,hD6⟩;unfold Kn;simp only[];rw[if_neg (by rw[Ca];omega)])
     (nI out0,((0:Nat):Int),((0:Nat):Int)) ⟨out0,0,0,rfl,hC1,oo,oo,hC3,fun q hq hiq=>hC4 q hq oo,by simp[val]⟩
    have hk:i+r.length<out.length:=oo;refine⟨(nI (out.set (i+r.length) (cy%4294967296)),((i+1:Nat):Int)),?_,⟨_,_,rfl,Atp hi rfl rfl hD1 hD2 hD4 hD5 hD6 hC5 rfl⟩,by simp;omega⟩;unfold Ko;simp only[jn_d];have ht':lfix (Kn (nI r) (nI out0,(i:Int)) (l[i]:Int)) (nI out0,0,0)=some (nI out,(cy:Int)):=ht;rw[if_pos (by rw[Ca];omega),Dg hi,Ad,ht',Ad,Ca,show w64 ((i:Int)+(r.length:Int))=((i+r.length:Nat):Int) from by rw[Aq oo oo];omega,Dg hk,Ad];simp only[];rw[Axc hD2,Xd,Au oo,Nat.mod_eq_of_lt hD2]
   .right;refine⟨nI out0,?_,out0,rfl,Avy (i:=i) oo rfl hC1 hC3 hC5,oo⟩;unfold Ko;simp only[];rw[if_neg (by rw[Ca];omega)])
  (nI (List.replicate (l.length+r.length) 0),((0:Nat):Int)) ⟨_,0,rfl,s_,oo,s_,s_,by simp[val,Zm]⟩
 unfold Dq;simp only[e,jn_d,Int.toNat_natCast,Zv];have ht':lfix (Ko (nI l) (nI r)) (nI (List.replicate (l.length+r.length) 0),0)=some (nI out):=ht;rw[gd_t ⟨oo,oo⟩,ht',Ad,Aer _ oo,Ad,hd];rfl
theorem Bdi(a b:Nat)(ha:(dig 4294967296 a).length<=1000000):Sy (L32 a) (L32 b)=some (cmpN a b):=by
 unfold Sy L32;rw[Ca,Ca]
 by_cases hlen:(dig 4294967296 a).length=(dig 4294967296 b).length
 ·obtain⟨t,ht,hR⟩:=Aw (B:=Se (nI (dig 4294967296 a)) (nI (dig 4294967296 b))) (fun s=>(s+1).toNat)
   (fun s=>∃k:Nat,s=(k:Int)-1/\k<=(dig 4294967296 a).length/\∀(j:Nat) (h:j<(dig 4294967296 a).length) (h':j<(dig 4294967296 b).length),k<=j->(dig 4294967296 a)[j]=(dig 4294967296 b)[j])
   (fun t=>(t=.inl ()/\cmpN a b=0)\/t=.inr (cmpN a b)) (by
    rintro s ⟨k,rfl,hk,heq⟩;unfold Se
    by_cases h0:k=0
    .right;subst h0;refine⟨_,by rw[if_neg oo],.inl ⟨rfl,Av0 oo hlen (fun j h h'=>heq j h h' oo)⟩⟩
    .have h1:k-1<(dig 4294967296 a).length:=oo;have h2:k-1<(dig 4294967296 b).length:=oo;have hat:=Avz (b:=4294967296) oo hlen h1 h2 (fun j h h' hj=>heq j h h' oo);rw[if_pos oo,show ((k:Int)-1)=((k-1:Nat):Int) from by omega,Dg h1,Ad,Dg h2,Ad]
     by_cases he:(dig 4294967296 a)[k-1]=(dig 4294967296 b)[k-1]
     .left;refine⟨((k-1:Nat):Int)-1,by rw[if_pos (by rw[he]),Aq oo oo],⟨k-1,rfl,oo,fun j h h' hj=>?_⟩,oo⟩;rcases Nat.lt_or_ge (k-1) j with hq|hq
      .exact heq j h h' oo
      .obtain rfl:j=k-1:=oo;exact he
     .right;rw[if_neg oo,Ad,Ad]
      by_cases hlt:(dig 4294967296 a)[k-1]<(dig 4294967296 b)[k-1]
      .exact⟨_,by rw[if_pos oo],.inr (by rw[hat.1 hlt])⟩
      .exact⟨_,by rw[if_neg oo],.inr (by rw[hat.2 oo])⟩)
   (((dig 4294967296 a).length:Int)-1) ⟨_,rfl,Nat.le_refl _,fun j h h' hj=>oo⟩
  rw[if_pos oo,jn_d,Aq oo oo,ht,Ad];rcases hR with⟨rfl,h0⟩|rfl
  .simp only[h0]
  .rfl
 .rw[if_neg oo]
  by_cases hlt:(dig 4294967296 a).length<(dig 4294967296 b).length
  .rw[if_pos oo,(Ag4 (b:=4294967296) oo rfl rfl).1 hlt]
  .rw[if_neg oo,(Ag4 (b:=4294967296) oo rfl rfl).2 oo]
theorem oneW:([1]:LI)=L32 1:=by unfold L32;rw[Ag3 oo];rfl
theorem Bao{a:Nat}:(L32 a).length=0↔a=0:=by
 unfold L32;rw[Ca,List.length_eq_zero_iff,Xa oo]
theorem norm_L(a:Nat)(h:(dig 4294967296 a).length<=1000000):Er (L32 a)=some (L32 a):=by
 unfold L32;rw[Aer _ h,Az1 oo]
theorem Ap2(a:Nat)(h:(dig 4294967296 a).length<=1000):Dq (L32 a) [1]=some (L32 a):=by
 have:=Axe (dig 4294967296 a) [1] (Oy oo a) s_ (by simp;omega);rw[Cq oo,show val 4294967296 [1]=1 from by simp[val],Nat.mul_one] at this;exact this
theorem Ar3:Dq [1] [1]=some [1]:=by
 have:=Ap2 1 (by rw[Ag3 oo];simp)
 rwa [<-oneW] at this
theorem Uk{b:Nat}(l:LM)(i:Nat):val b (l.take (i+1))=val b (l.take i)+b^i*l.getD i 0:=by
 by_cases h:i<l.length
 .rw[Sw l i h];simp[h]
 .rw[List.take_of_length_le oo,List.take_of_length_le oo];simp[h]
theorem Acl{l:LM}(hl:∀x∈l,x<65536)(i:Nat):l.getD i 0<65536:=by
 by_cases h:i<l.length
 .have:=hl _ (List.getElem_mem h);simpa[h] using this
 .simp[h]
theorem Xe{l:LM}{i:Nat}(h:i<l.length):l.getD i 0=l[i]:=by simp[h]
theorem Rs{l:LM}{i:Nat}(h:¬i<l.length):l.getD i 0=0:=by simp[h]
theorem Zw{b:Nat}(hb:0<b){l:LM}(hl:∀x∈l,x<b)(i:Nat):l.getD i 0<b:=by
 by_cases h:i<l.length
 .have:=hl _ (List.getElem_mem h);simpa[h] using this
 .simp[h,hb]
theorem Axf(v:BitVec 32):IntKind.u32.wrap (v.toNat:Int)=(v.toNat:Int):=Ahu .u32 v.toNat (by simp only[top];omega)
theorem Axg(a b:Int):De .u32 a b=((BitVec.ofInt 32 a &&& BitVec.ofInt 32 b).toNat:Int):=Axf _
theorem Be5(a b:Int):Wn .u32 a b=((BitVec.ofInt 32 a ||| BitVec.ofInt 32 b).toNat:Int):=Axf _
theorem Ap3(a b:Int):Acg .u32 a b=((BitVec.ofInt 32 a ^^^ BitVec.ofInt 32 b).toNat:Int):=Axf _
theorem Be6(v:BitVec 32):BitVec.ofInt 32 (v.toNat:Int)=v:=by
 rw[BitVec.ofInt_natCast,BitVec.ofNat_toNat,BitVec.setWidth_eq]
theorem Bdj:BitVec.ofInt 32 (if IntKind.signed .u32=true then -1 else IntKind.max .u32)=BitVec.allOnes 32:=dD
theorem Axh(x:Int):wu32 x=x%4294967296:=by
 show IntKind.u32.wrap x=_;simp[IntKind.wrap,IntKind.bits,IntKind.signed]
theorem Alv(n:Nat)(h:n<4294967296):(BitVec.ofInt 32 (n:Int)).msb=decide (2147483648<=n):=by
 rw[BitVec.msb_eq_decide,BitVec.ofInt_natCast,BitVec.toNat_ofNat,Nat.mod_eq_of_lt oo]
theorem Be7(v:BitVec 32):shr_ .u32 (v.toNat:Int) 31=if v.msb then 1 else 0:=by
 have h:=v.isLt;rw[BitVec.msb_eq_decide];show (v.toNat:Int).fdiv (2^(min (31:Int).toNat 32))=_;rw[show (2:Int)^(min (31:Int).toNat 32)=2147483648 from by decide,Int.fdiv_eq_ediv_of_nonneg _ oo]
 by_cases h1:2^(32-1)<=v.toNat
 .rw[if_pos (by simpa using h1)];omega
 .rw[if_neg (by simpa using h1)];omega
theorem Be8{x y b:Nat}(hx:x<4294967296)(hy:y<4294967296)(hb:b<=1):
  ∃d b':Nat,Mm (x:Int) (y:Int) (b:Int)=some ((d:Int),(b':Int))/\d<4294967296/\b'<=1/\d+b+y=x+4294967296*b':=by
 unfold Mm;have e:wu32 (wu32 ((x:Int)-y)-b)=(((x:Int)-y-b)%4294967296).toNat:=by rw[Axh,Axh];omega
 rw[e];generalize hd:(((x:Int)-y-b)%4294967296).toNat=d;have hdl:d<4294967296:=oo;rw[Axg,Axg,Ap3,Ap3,Ap3,Be5];simp only[Be6,Bdj,BitVec.allOnes_xor];rw[Be7];rw[BitVec.msb_or,BitVec.msb_and,BitVec.msb_and,BitVec.msb_not,BitVec.msb_not,BitVec.msb_xor,Alv _ hx,Alv _ hy,Alv _ hdl]
 by_cases h1:2147483648<=x <;> by_cases h2:2147483648<=y <;> by_cases h3:2147483648<=d <;> simp only[h1,h2,h3,decide_true,decide_false,Bool.not_true,Bool.not_false,Bool.and_true,Bool.and_false,Bool.true_and,Bool.false_and,Bool.or_true,Bool.or_false,Bool.xor_true,Bool.xor_false,Bool.false_eq_true,if_true,if_false,show (0<32)=True by simp] <;>
  first
  |exact⟨d,0,rfl,hdl,oo,oo⟩
  |exact⟨d,1,rfl,hdl,oo,oo⟩
theorem Be9{x y c:Nat}(hx:x<4294967296)(hy:y<4294967296)(hc:c<=1):
  Ml (x:Int) (y:Int) (c:Int)=some ((((x+y+c)%4294967296:Nat):Int),(((x+y+c)/4294967296:Nat):Int)):=by
 unfold Ml;have e:wu64 (wu64 (wu64 (x:Int)+wu64 (y:Int))+wu64 (c:Int))=((x+y+c:Nat):Int):=by
  rw[Xz (n:=x) oo,Xz (n:=y) oo,Xz (n:=c) oo,<-Int.natCast_add,Xz oo,<-Int.natCast_add,Xz oo]
 rw[e,Aes,Axd,Axc oo]
theorem Axi{l r out:List Nat}{cy i n:Nat}(hn:l.length=n)(hi:i<n)(hr:r.length<=n)(hl':∀ x∈l,x<4294967296)(hr':∀ x∈r,x<4294967296)(hC1:out.length=n+1)(hC2:cy<=1)(hC4:∀ x∈out,x<4294967296)(hC5:∀ (q:Nat) (h:q<out.length),i<=q->out[q]=0)(hC6:val 4294967296 out+cy*4294967296 ^ i=val 4294967296 (l.take i)+val 4294967296 (r.take i)):
  ∀s,s=l.getD i 0+r.getD i 0+cy->(out.set i (s%4294967296)).length=n+1/\s/4294967296<=1/\(∀x∈out.set i (s%4294967296),x<4294967296)/\(∀(q:Nat) (h:q<(out.set i (s%4294967296)).length),i+1<=q->(out.set i (s%4294967296))[q]=0) /\
   val 4294967296 (out.set i (s%4294967296))+s/4294967296*4294967296^(i+1)=val 4294967296 (l.take (i+1))+val 4294967296 (r.take (i+1)):=by
 intro s hs;have h1:=Zw (b:=4294967296) oo hl' i;have h2:=Zw (b:=4294967296) oo hr' i;refine⟨by simp[hC1],oo,Tt hC4 oo,fun q hq hiq=>?_,?_⟩
 .rw[List.getElem_set_ne oo];exact hC5 q (by simpa using hq) oo
 .have hs1:=Ym (b:=4294967296) out i (s%4294967296) oo;rw[hC5 i oo oo] at hs1;rw[Uk,Uk];have e1:s=4294967296*(s/4294967296)+s%4294967296:=oo;have e2:=congrArg (· * 4294967296^i) (hs.symm.trans e1);simp only[Nat.add_mul] at e2;have e4:4294967296^(i+1)=4294967296*4294967296^i:=by rw[Nat.pow_succ,Nat.mul_comm]
  rw[e4];generalize 4294967296^i=P at *;generalize l.getD i 0=a at *;generalize r.getD i 0=b at *;generalize s/4294967296=q at *;generalize s%4294967296=m at *;have e5:q*(4294967296*P)=4294967296*q*P:=by grind
  have e7:P*a=a*P:=Nat.mul_comm _ _;have e8:P*b=b*P:=Nat.mul_comm _ _;omega
theorem Axj(l r:List Nat)(hl:∀ x∈l,x<4294967296)(hr:∀ x∈r,x<4294967296)(h9:l.length<=100000)(hrl:r.length<=l.length):
  (jn (fun (s6:LI×Int)=>
   bnd (idx s6.1 ((((nI l).length:Nat):Int))) fun _=>
   bnd (Er (setI s6.1 ((((nI l).length:Nat):Int)) s6.2)) fun r122=>
   some r122)
   (fun j6=>bnd (lfix (Kq (nI l,nI r)) (List.replicate (Int.toNat (w64 (((((nI l).length:Nat):Int))+1))) (0:Int),0,0)) fun t56=>
   j6 t56))=some (L32 (val 4294967296 l+val 4294967296 r)):=by
 obtain⟨t,ht,out,cy,rfl,hC1,hC2,hC4,hC5,hC6⟩:=Aw (B:=Kq (nI l,nI r)) (fun s=>l.length-s.2.2.toNat)
  (fun s=>∃(out:LM) (cy i:Nat),s=(nI out,(cy:Int),(i:Int))/\i<=l.length/\out.length=l.length+1/\cy<=1/\(∀x∈out,x<4294967296)/\(∀(q:Nat) (h:q<out.length),i<=q->out[q]=0)/\val 4294967296 out+cy*4294967296^i=val 4294967296 (l.take i)+val 4294967296 (r.take i))
  (fun t=>∃(out:LM) (cy:Nat),t=(nI out,(cy:Int))/\out.length=l.length+1/\cy<=1/\(∀x∈out,x<4294967296)/\(∀(h:l.length<out.length),out[l.length]=0)/\val 4294967296 out+cy*4294967296^l.length=val 4294967296 l+val 4294967296 r) (by
   rintro s ⟨out,cy,i,rfl,hi',hC1,hC2,hC4,hC5,hC6⟩;unfold Kq;simp only[jn_d,Ca]
   by_cases hi:i<l.length
   ·left;obtain⟨k1,k2,k3,k4,k5⟩:=Axi rfl hi hrl hl hr hC1 hC2 hC4 hC5 hC6 _ rfl;have h1:=Zw (b:=4294967296) oo hl i;have h2:=Zw (b:=4294967296) oo hr i;refine⟨_,?_,⟨_,_,i+1,rfl,oo,k1,k2,k3,k4,k5⟩,by simp only[Int.toNat_natCast];omega⟩;rw[if_pos oo];have fin:∀ y:Int,y=((r.getD i 0:Nat):Int)->(bnd (idx (nI l) (i:Int)) fun x76=>bnd (Ml x76 y (cy:Int)) fun r87=>bnd (idx (nI out) (i:Int)) fun _=>some (Sum.inl (β:=List Int × Int) (setI (nI out) (i:Int) r87.1,r87.2,w64 ((i:Int)+1))))=some (.inl (nI (out.set i ((l.getD i 0+r.getD i 0+cy) % 4294967296)),(((l.getD i 0+r.getD i 0+cy) / 4294967296:Nat):Int),((i+1:Nat):Int))):=by
     rintro y rfl;rw[Dg hi,Ad,<-Xe hi,Be9 h1 h2 hC2,Ad,Dg oo,Ad];simp only[];rw[Xd,Au oo]
    by_cases hm:i<r.length
    .rw[if_pos oo,Dg hm,Ad];exact fin _ (by rw[Xe hm])
    .rw[if_neg oo];exact fin _ (by rw[Rs hm];rfl)
   .right;obtain rfl:i=l.length:=oo;rw[if_neg oo];rw[List.take_of_length_le oo,List.take_of_length_le oo] at hC6;exact⟨_,rfl,out,cy,rfl,hC1,hC2,hC4,fun h=>hC5 _ h oo,hC6⟩)
  (nI (List.replicate (l.length+1) 0),((0:Nat):Int),((0:Nat):Int)) ⟨_,0,0,rfl,oo,s_,oo,s_,s_,by simp[val,Zm]⟩
 simp only[jn_d,Ca];rw[Au oo,Int.toNat_natCast,Zv];have ht':lfix (Kq (nI l,nI r)) (nI (List.replicate (l.length+1) 0),0,0)=some (nI out,(cy:Int)):=ht;rw[ht',Ad];simp only[];rw[Dg oo,Ad,Xd,Aer _ (by simp;omega),Ad];have hs1:=Ym (b:=4294967296) out l.length cy oo;rw[hC5 oo] at hs1;rw[Xr (b:=4294967296) oo _ (Tt hC4 oo),show val 4294967296 (out.set l.length cy)=val 4294967296 l+val 4294967296 r by omega];rfl
theorem Bdk(l r:List Nat)(hl:∀ x∈l,x<4294967296)(hr:∀ x∈r,x<4294967296)(h9:l.length<=100000)(h9':r.length<=100000):
  Qs (nI l) (nI r)=some (L32 (val 4294967296 l+val 4294967296 r)):=by
 unfold Qs;simp only[jn_d]
 by_cases h:l.length<r.length
 .rw[if_pos (by rw[Ca,Ca];omega),gd_t (by rw[Ca,Au oo];omega)];have:=Axj r l hr hl h9' oo;simp only[jn_d] at this;rw[this,Nat.add_comm]
 .rw[if_neg (by rw[Ca,Ca];omega),gd_t (by rw[Ca,Au oo];omega)];have:=Axj l r hl hr h9 oo;simp only[jn_d] at this;exact this
theorem Bdl(l r:List Nat)(hl:∀ x∈l,x<4294967296)(hr:∀ x∈r,x<4294967296)(h9:l.length<=100000)(hrl:r.length<=l.length)(hle:val 4294967296 r<=val 4294967296 l):
  Ny (nI l) (nI r)=some (L32 (val 4294967296 l-val 4294967296 r)):=by
 obtain⟨t,ht,out,rfl,hC1,hd⟩:=Aw (B:=Pb (nI l) (nI r)) (fun s=>l.length-s.2.2.toNat)
  (fun s=>∃(out:LM) (bw i:Nat),s=(nI out,(bw:Int),(i:Int))/\i<=l.length/\out.length=l.length/\bw<=1/\(∀x∈out,x<4294967296)/\(∀(q:Nat) (h:q<out.length),i<=q->out[q]=0)/\val 4294967296 out+val 4294967296 (r.take i)=val 4294967296 (l.take i)+bw*4294967296^i)
  (fun t=>∃(out:LM),t=nI out/\out.length=l.length/\nrm out=dig 4294967296 (val 4294967296 l-val 4294967296 r)) (by
   rintro s ⟨out,bw,i,rfl,hi',hC1,hC2,hC4,hC5,hC6⟩;unfold Pb;simp only[jn_d,Ca]
   by_cases hi:i<l.length
   .left;have h1:=Zw (b:=4294967296) oo hl i;have h2:=Zw (b:=4294967296) oo hr i;obtain⟨d,b',hB,hd1,hb1,he⟩:=Be8 h1 h2 hC2;refine⟨(nI (out.set i d),(b':Int),((i+1:Nat):Int)),?_,⟨_,_,i+1,rfl,oo,by simp[hC1],hb1,Tt hC4 hd1,fun q hq hiq=>?_,?_⟩,by simp only[Int.toNat_natCast];omega⟩
    ·rw[if_pos oo];have fin:∀ y:Int,y=((r.getD i 0:Nat):Int)->(bnd (idx (nI l) (i:Int)) fun x76=>bnd (Mm x76 y (bw:Int)) fun r87=>bnd (idx (nI out) (i:Int)) fun _=>some (Sum.inl (β:=List Int) (setI (nI out) (i:Int) r87.1,r87.2,w64 ((i:Int)+1))))=some (.inl (nI (out.set i d),(b':Int),((i+1:Nat):Int))):=by
      rintro y rfl;rw[Dg hi,Ad,<-Xe hi,hB,Ad,Dg oo,Ad];simp only[];rw[Xd,Au oo]
     by_cases hm:i<r.length
     .rw[if_pos oo,Dg hm,Ad];exact fin _ (by rw[Xe hm])
     .rw[if_neg oo];exact fin _ (by rw[Rs hm];rfl)
    .rw[List.getElem_set_ne oo];exact hC5 q (by simpa using hq) oo
    .have hs1:=Ym (b:=4294967296) out i d oo;rw[hC5 i oo oo] at hs1;rw[Uk,Uk];have e3:=congrArg (· * 4294967296^i) he;simp only[Nat.add_mul] at e3;have e4:4294967296^(i+1)=4294967296*4294967296^i:=by rw[Nat.pow_succ,Nat.mul_comm]
     rw[e4];generalize 4294967296^i=P at *;generalize l.getD i 0=a at *;generalize r.getD i 0=b at *;have e5:b'*(4294967296*P)=4294967296*b'*P:=by grind
     have e7:P*a=a*P:=Nat.mul_comm _ _;have e8:P*b=b*P:=Nat.mul_comm _ _;omega
   .right;obtain rfl:i=l.length:=oo;rw[if_neg oo];rw[List.take_of_length_le oo,List.take_of_length_le oo] at hC6;refine⟨_,rfl,out,rfl,hC1,?_⟩;rw[Xr (b:=4294967296) oo out hC4];have hlt:=Afd out hC4;rw[hC1] at hlt;have:bw=0\/bw=1:=oo;rcases this with rfl|rfl
    .rw[show val 4294967296 out=val 4294967296 l-val 4294967296 r by omega]
    .omega)
  (nI (List.replicate l.length 0),((0:Nat):Int),((0:Nat):Int)) ⟨_,0,0,rfl,oo,s_,oo,s_,s_,by simp[val,Zm]⟩
 unfold Ny;simp only[jn_d,Ca,Int.toNat_natCast,Zv];rw[gd_t ⟨oo,oo⟩];have ht':lfix (Pb (nI l) (nI r)) (nI (List.replicate l.length 0),0,0)=some (nI out):=ht;rw[ht',Ad,Aer _ oo,Ad,hd];rfl
theorem W_lt{a:Nat}:∀x∈dig 4294967296 a,x<4294967296:=Oy oo a
theorem Bdm{a b:Nat}(ha:(dig 4294967296 a).length<=100000)(hb:(dig 4294967296 b).length<=100000):Qs (L32 a) (L32 b)=some (L32 (a+b)):=by
 have:=Bdk _ _ (W_lt (a:=a)) (W_lt (a:=b)) ha hb
 rwa [Cq oo,Cq oo] at this
theorem At9{a b:Nat}(h:a<=b):(dig 4294967296 a).length<=(dig 4294967296 b).length:=by
 rcases Nat.lt_or_ge (dig 4294967296 b).length (dig 4294967296 a).length with h1|h1
 .have:=Aan (b:=4294967296) oo h1;omega
 .exact h1
theorem Axk{a b:Nat}(ha:(dig 4294967296 a).length<=100000)(h:b<=a):Ny (L32 a) (L32 b)=some (L32 (a-b)):=by
 have:=Bdl _ _ (W_lt (a:=a)) (W_lt (a:=b)) ha (At9 h) (by rw[Cq oo,Cq oo];exact h)
 rwa [Cq oo,Cq oo] at this
theorem Bdn{a b:Nat}(h:(dig 4294967296 a).length+(dig 4294967296 b).length<=1000000):Dq (L32 a) (L32 b)=some (L32 (a*b)):=by
 have:=Axe _ _ (W_lt (a:=a)) (W_lt (a:=b)) h
 rwa [Cq oo,Cq oo] at this
theorem Ar4{n:Nat}(h:n<=18446744073709551615):Uf (n:Int)=some (L32 n):=by
 unfold Uf;have:=Aer [n%4294967296,n/4294967296%4294967296] s_;rw[show [wu32 (n:Int),wu32 (shr_ .u64 (n:Int) 32)]=nI [n%4294967296,n/4294967296%4294967296] from by rw[Axd,Aes,Aes];rfl,this,Ad,Atn n h];rfl
theorem Bdo{s:Bool}{z:Int}(hs:z≠0->s=decide (z<0)):Pd ⟨s,L32 z.natAbs,[1]⟩=some (Int.sign z):=by
 unfold Pd;simp only[]
 by_cases h0:z=0
 .subst h0;rfl
 .have:(L32 z.natAbs).length≠0:=fun e=>h0 (by have:=Bao.1 e;omega)
  rw[if_neg oo,hs h0]
  by_cases h1:z<0
  .rw[if_pos (by simpa using h1),Int.sign_eq_neg_one_of_neg h1]
  .rw[if_neg (by simpa using h1),Int.sign_eq_one_of_pos oo]
structure Aby(n:Bo)(z:Int):Prop where
 num:n.n=L32 z.natAbs
 den:n.d=[1]
 neg:z≠0->n.neg=decide (z<0)
theorem Aby.eq{n:Bo}{z:Int}(h:Aby n z):n=⟨n.neg,L32 z.natAbs,[1]⟩:=by
 obtain⟨s,a,d⟩:=n;obtain⟨h1,h2,h3⟩:=h;simp only at h1 h2;subst h1;subst h2;rfl
theorem Ap4(x:Int):wu64 x=x%18446744073709551616:=by
 unfold wu64;rw[IntKind.wrap_u64]
theorem Axl{z:Int}(h1:-9223372036854775808<=z)(h2:z<=9223372036854775807):∃n,Mn z=some n/\Aby n z:=by
 unfold Mn
 by_cases h:z<0
 ·rw[if_pos h];have e:wu64 ((wu64 (w64 (-(w64 (z+1)))))+1)=((z.natAbs:Nat):Int):=by
   rw[Aq (x:=z+1) oo oo,Aq oo oo,Ap4,Ap4];omega
  rw[e,Ar4 oo];exact⟨_,rfl,rfl,rfl,fun _=>by simp[h]⟩
 .rw[if_neg h];have e:wu64 z=((z.natAbs:Nat):Int):=by rw[Ap4];omega
  rw[e,Ar4 oo];exact⟨_,rfl,rfl,rfl,fun _=>by simp[h]⟩
theorem Bdp{a b:Bo}{x y:Int}(ha:Aby a x)(hb:Aby b y)(h:(dig 4294967296 x.natAbs).length+(dig 4294967296 y.natAbs).length<=1000000):∃n,Kf a b=some n/\Aby n (x*y):=by
 unfold Kf;rw[ha.num,hb.num,ha.den,hb.den,Bdn h,Ad,Ar3,Ad];refine⟨_,rfl,by simp[Int.natAbs_mul],rfl,fun h0=>?_⟩;have hx:x≠0:=fun e=>h0 (by rw[e,Int.zero_mul])
 have hy:y≠0:=fun e=>h0 (by rw[e,Int.mul_zero])
 simp only;rw[ha.neg hx,hb.neg hy];rcases Int.lt_or_gt_of_ne hx with h1|h1 <;> rcases Int.lt_or_gt_of_ne hy with h2|h2
 .have:=Int.mul_pos_of_neg_of_neg h1 h2;simp[h1,h2];omega
 .have:=Int.mul_neg_of_neg_of_pos h1 h2;rw[decide_eq_true h1,decide_eq_false oo,decide_eq_true this];rfl
 .have:=Int.mul_neg_of_pos_of_neg h1 h2;rw[decide_eq_false oo,decide_eq_true h2,decide_eq_true this];rfl
 .have:=Int.mul_pos h1 h2;rw[decide_eq_false oo,decide_eq_false oo,decide_eq_false oo];rfl
theorem Axm{a b:Bo}{x y:Int}(ha:Aby a x)(hb:Aby b y)(hx:(dig 4294967296 x.natAbs).length<=1000)(hy:(dig 4294967296 y.natAbs).length<=1000):∃n,Qt a b=some n/\Aby n (x+y):=by
 have e1:=ha.neg;have e2:=hb.neg;unfold Qt;rw[ha.num,hb.num,ha.den,hb.den,Ap2 _ hx,Ad,Ap2 _ hy,Ad,Ar3,Ad];generalize a.neg=s at *;generalize b.neg=t at *;have f1:x≠0->(s=true↔x<0):=fun h=>by rw[e1 h];simp
 have f2:y≠0->(t=true↔y<0):=fun h=>by rw[e2 h];simp
 clear e1 e2
 by_cases hs:s=t
 ·subst hs;rw[if_pos s_,Bdm oo oo,Ad];have:x.natAbs+y.natAbs=(x+y).natAbs:=by
   cases s <;> simp at f1 f2 <;> omega
  rw[this];refine⟨_,rfl,rfl,rfl,fun h0=>?_⟩;simp only;cases s <;> simp at f1 f2 ⊢ <;> omega
 .rw[if_neg (by simpa using hs),Bdi _ _ oo,Ad]
  by_cases hc:y.natAbs<=x.natAbs
  ·rw[if_pos (by unfold cmpN;split <;> (try split) <;> omega),Axk oo hc,Ad];have:x.natAbs-y.natAbs=(x+y).natAbs:=by
    cases s <;> cases t <;> simp at f1 f2 hs <;> omega
   rw[this];refine⟨_,rfl,rfl,rfl,fun h0=>?_⟩;simp only;cases s <;> cases t <;> simp at f1 f2 hs ⊢ <;> omega
  ·rw[if_neg (by unfold cmpN;split <;> (try split) <;> omega),Axk oo oo,Ad];have:y.natAbs-x.natAbs=(x+y).natAbs:=by
    cases s <;> cases t <;> simp at f1 f2 hs <;> omega
   rw[this];refine⟨_,rfl,rfl,rfl,fun h0=>?_⟩;simp only;cases s <;> cases t <;> simp at f1 f2 hs ⊢ <;> omega
theorem Bap{n:Bo}{z:Int}(h:Aby n z):Pd n=some (Int.sign z):=by
 rw[h.eq];exact Bdo h.neg
theorem mulB{x y M N:Int}(hM:0<=M)(hx1:-M<=x)(hx2:x<=M)(hy1:-N<=y)(hy2:y<=N):-(M*N)<=x*y/\x*y<=M*N:=by
 have h:(x*y).natAbs<=M.natAbs*N.natAbs:=by
  rw[Int.natAbs_mul];exact Nat.mul_le_mul oo oo
 rw[<-Int.natAbs_mul] at h;have:0<=M*N:=Int.mul_nonneg hM oo;omega
def okP(p:Ab):Prop:=-268435456<=p.X/\p.X<=268435456/\-268435456<=p.Y/\p.Y<=268435456
instance(p:Ab):Decidable (okP p):=by unfold okP;infer_instance
def crs(a b c:Ab):Int:=(b.X-a.X)*(c.Y-a.Y)-(b.Y-a.Y)*(c.X-a.X)
def lft(p d:Ab):Int:=(p.X-d.X)*(p.X-d.X)+(p.Y-d.Y)*(p.Y-d.Y)
def inC(a b c d:Ab):Int:=lft a d*crs d b c+lft b d*crs d c a+lft c d*crs d a b
theorem Akj(l:List Ab)(hl:l.length<=1000000):Sf l=some (l.all fun p=>decide (okP p)):=by
 unfold Sf;rw[jn_d];have step:∀i (hi:i<l.length),Mo l (i:Int)=if okP l[i] then some (.inl (((i+1:Nat):Int))) else some (.inr (.inr false)):=by
  intro i hi;unfold Mo;rw[if_pos oo,Am hi,Ad,jn_d,Au oo]
  by_cases h1:l[i].X < -268435456
  .rw[if_pos h1,if_neg (show ¬okP l[i] by unfold okP;omega)];rfl
  .rw[if_neg h1]
   by_cases h2:268435456<l[i].X
   .rw[if_pos h2,if_neg (show ¬okP l[i] by unfold okP;omega)];rfl
   .rw[if_neg h2]
    by_cases h3:l[i].Y < -268435456
    .rw[if_pos h3,if_neg (show ¬okP l[i] by unfold okP;omega)];rfl
    .rw[if_neg h3]
     by_cases h4:268435456<l[i].Y
     .rw[decide_eq_true h4,if_neg (show ¬okP l[i] by unfold okP;omega)];rfl
     .rw[decide_eq_false h4,if_pos (show okP l[i] by unfold okP;omega)];rfl
 have key:∀k i,k+i=l.length->lfix (Mo l) (i:Int)=some (if (l.drop i).all (fun p=>decide (okP p)) then .inl () else .inr false):=by
  intro k
  induction k with
  |zero=>
   intro i hi;rw[Ay];unfold Mo;rw[if_neg oo,List.drop_eq_nil_of_le oo];rfl
  |succ k ih=>
   intro i hi;have hlt:i<l.length:=oo;rw[Ay,step i hlt,List.drop_eq_getElem_cons hlt,List.all_cons]
   by_cases h:okP l[i]
   .rw[if_pos h];simp only[h,decide_true,Bool.true_and];exact ih (i+1) oo
   .rw[if_neg h];simp[h]
 have:=key l.length 0 oo;rw[show ((0:Nat):Int)=0 from rfl] at this;rw[this,List.drop_zero]
 by_cases h:l.all (fun p=>decide (okP p))=true
 .rw[h];rfl
 .rw[Bool.not_eq_true] at h;rw[h];rfl
theorem Hd{a b c:Ab}(ha:okP a)(hb:okP b)(hc:okP c):-576460752303423488<=crs a b c/\crs a b c<=576460752303423488:=by
 unfold okP at ha hb hc;have h1:=mulB (x:=b.X-a.X) (y:=c.Y-a.Y) (M:=536870912) (N:=536870912) oo oo oo oo oo;have h2:=mulB (x:=b.Y-a.Y) (y:=c.X-a.X) (M:=536870912) (N:=536870912) oo oo oo oo oo;unfold crs;omega
theorem Uz{a b c:Ab}(ha:okP a)(hb:okP b)(hc:okP c):Ne a b c=some (crs a b c):=by
 have h0:=Hd ha hb hc;unfold okP at ha hb hc;have h1:=mulB (x:=b.X-a.X) (y:=c.Y-a.Y) (M:=536870912) (N:=536870912) oo oo oo oo oo;have h2:=mulB (x:=b.Y-a.Y) (y:=c.X-a.X) (M:=536870912) (N:=536870912) oo oo oo oo oo;unfold Ne;unfold crs at h0⊢;rw[Aq (x:=b.X-a.X) oo oo,Aq (x:=c.Y-a.Y) oo oo,Aq (x:=b.Y-a.Y) oo oo,Aq (x:=c.X-a.X) oo oo,
  Aq (x:=(b.X-a.X)*(c.Y-a.Y)) oo oo,Aq (x:=(b.Y-a.Y)*(c.X-a.X)) oo oo,Aq oo oo]
theorem Adu{p d:Ab}(hp:okP p)(hd:okP d):0<=lft p d/\lft p d<=576460752303423488:=by
 unfold okP at hp hd;have h1:=mulB (x:=p.X-d.X) (y:=p.X-d.X) (M:=536870912) (N:=536870912) oo oo oo oo oo;have h2:=mulB (x:=p.Y-d.Y) (y:=p.Y-d.Y) (M:=536870912) (N:=536870912) oo oo oo oo oo;have h3:0<=(p.X-d.X)*(p.X-d.X):=by rw[<-Int.natAbs_mul_self];omega
 have h4:0<=(p.Y-d.Y)*(p.Y-d.Y):=by rw[<-Int.natAbs_mul_self];omega
 unfold lft;omega
theorem Acm{p d:Ab}(hp:okP p)(hd:okP d):Tu p d=some (lft p d):=by
 have h0:=Adu hp hd;unfold okP at hp hd;have h1:=mulB (x:=p.X-d.X) (y:=p.X-d.X) (M:=536870912) (N:=536870912) oo oo oo oo oo;have h2:=mulB (x:=p.Y-d.Y) (y:=p.Y-d.Y) (M:=536870912) (N:=536870912) oo oo oo oo oo;unfold Tu;unfold lft at h0⊢;rw[Aq (x:=p.X-d.X) oo oo,Aq (x:=p.Y-d.Y) oo oo,
  Aq (x:=(p.X-d.X)*(p.X-d.X)) oo oo,Aq (x:=(p.Y-d.Y)*(p.Y-d.Y)) oo oo,Aq oo oo]
theorem Anu(z:Int):Mq z=some (Int.sign z):=by
 unfold Mq
 by_cases h:z<0
 .rw[if_pos h,Int.sign_eq_neg_one_of_neg h]
 .rw[if_neg h]
  by_cases h2:0<z
  .rw[if_pos h2,Int.sign_eq_one_of_pos h2]
  .rw[if_neg h2,show z=0 by omega];rfl
theorem Ar5(a b c:Ab):Vl a b c=some (if okP a/\okP b/\okP c then (Int.sign (crs a b c),0) else (0,11)):=by
 unfold Vl;rw[Akj _ s_,Ad]
 by_cases h:okP a/\okP b/\okP c
 .rw[if_pos (by simp[h]),Uz h.1 h.2.1 h.2.2,Ad,Anu,Ad,if_pos h]
 .rw[if_neg (by simpa[and_assoc] using h),if_neg h]
theorem turn_eq{a b c:Ab}(ha:okP a)(hb:okP b)(hc:okP c):Sg a b c=some (Int.sign (crs a b c)):=by
 unfold Sg;rw[Ar5,if_pos ⟨ha,hb,hc⟩];rfl
theorem dig3{z:Int}(h1:-9223372036854775808<=z)(h2:z<=9223372036854775807):(dig 4294967296 z.natAbs).length<=2:=Arg oo 2 _ (by
 have:(4294967296:Nat)^2=18446744073709551616:=dD;omega)
theorem dig5{z:Int}(h1:-10000000000000000000000000000000000000<=z)(h2:z<=10000000000000000000000000000000000000):(dig 4294967296 z.natAbs).length<=4:=Arg oo 4 _ (by
 have:(4294967296:Nat)^4=340282366920938463463374607431768211456:=dD;omega)
theorem Alw{u v:Int}(hu1:-576460752303423488<=u)(hu2:u<=576460752303423488)(hv1:-576460752303423488<=v)(hv2:v<=576460752303423488):
  ∃n m k,Mn u=some n/\Mn v=some m/\Kf n m=some k/\Aby k (u*v)/\-332306998946228968225951765070086144<=u*v/\u*v<=332306998946228968225951765070086144:=by
 obtain⟨n,h1,h2⟩:=Axl (z:=u) oo oo;obtain⟨m,h3,h4⟩:=Axl (z:=v) oo oo;have d1:=dig3 (z:=u) oo oo;have d2:=dig3 (z:=v) oo oo;obtain⟨k,h5,h6⟩:=Bdp h2 h4 oo;have:=mulB (x:=u) (y:=v) (M:=576460752303423488) (N:=576460752303423488) oo oo oo oo oo;exact⟨n,m,k,h1,h3,h5,h6,oo,oo⟩
theorem Aua(a b c d:Ab):Uu a b c d=some (if okP a/\okP b/\okP c/\okP d then if crs a b c=0 then (0,12) else (Int.sign (crs a b c)*Int.sign (inC a b c d),0) else (0,11)):=by
 unfold Uu;rw[Akj _ s_,Ad]
 by_cases h:okP a/\okP b/\okP c/\okP d
 .obtain⟨ha,hb,hc,hd⟩:=h;rw[if_pos (by simp[ha,hb,hc,hd]),if_pos ⟨ha,hb,hc,hd⟩,Uz ha hb hc,Ad,Anu,Ad]
  by_cases h0:crs a b c=0
  .rw[if_pos (by rw[h0];rfl),if_pos h0]
  .rw[if_neg (by rwa [Int.sign_eq_zero_iff_zero]),if_neg h0];try rw[jn_d]
   have l1:=Adu ha hd;have l2:=Adu hb hd;have l3:=Adu hc hd;have c1:=Hd hd hb hc;have c2:=Hd hd hc ha;have c3:=Hd hd ha hb;obtain⟨n1,m1,k1,e1,e2,e3,i1,b1,b2⟩:=Alw (u:=lft a d) (v:=crs d b c) oo oo oo oo;obtain⟨n2,m2,k2,e4,e5,e6,i2,b3,b4⟩:=Alw (u:=lft b d) (v:=crs d c a) oo oo oo oo;obtain⟨n3,m3,k3,e7,e8,e9,i3,b5,b6⟩:=Alw (u:=lft c d) (v:=crs d a b) oo oo oo oo;have q1:=dig5 (z:=lft a d*crs d b c) oo oo;have q2:=dig5 (z:=lft b d*crs d c a) oo oo;have q3:=dig5 (z:=lft c d*crs d a b) oo oo;have q4:=dig5 (z:=lft a d*crs d b c+lft b d*crs d c a) oo oo;obtain⟨s1,f1,g1⟩:=Axm i1 i2 oo oo;obtain⟨s2,f2,g2⟩:=Axm g1 i3 oo oo;simp only[Acm ha hd,Acm hb hd,Acm hc hd,Uz hd hb hc,Uz hd hc ha,Uz hd ha hb,Ad,e1,e2,e3,e4,e5,e6,e7,e8,e9];try rw[show (⟨k1.neg,k1.n,k1.d⟩:Bo)=k1 from rfl]
   rw[f1,Ad,f2,Ad,Bap g2,Ad,Aq]
   .rfl
   .rcases Int.sign_trichotomy (crs a b c) with h|h|h <;> rcases Int.sign_trichotomy (lft a d*crs d b c+lft b d*crs d c a+lft c d*crs d a b) with h'|h'|h' <;> simp[h,h']
   .rcases Int.sign_trichotomy (crs a b c) with h|h|h <;> rcases Int.sign_trichotomy (lft a d*crs d b c+lft b d*crs d c a+lft c d*crs d a b) with h'|h'|h' <;> simp[h,h']
 .rw[if_neg (by simpa[and_assoc] using h),if_neg h]
theorem Anv:Oo prog 22 108 4:=.mk underlying22 (show prog.info? 108=some t108 from by kernel_rfl) kr
instance:Ke prog 22 108 4:=⟨Anv⟩
instance:Um prog 108 [iq 0,iq 0,iq 0,iq 0]:=⟨⟨_,zeroValue108,rfl⟩⟩
instance:Ke prog 24 103 2:=⟨.mk underlying24 (show prog.info? 103=some t103 from by kernel_rfl) kr⟩
theorem Aiv:Oo prog 42 3 1:=.mk underlying42 (show prog.info? 3=some Tryz.t3 from by kernel_rfl) kr
instance:Ke prog 42 3 1:=⟨Aiv⟩
instance:ArrI prog 101 3 1:=⟨.mk underlying101 (show prog.info? 3=some Tryz.t3 from by kernel_rfl) kr⟩
theorem Akk:Yj prog 22:=.mk underlying22 rfl (show prog.info? 22=some Tryz.t22 from by kernel_rfl) kr
instance:OneI prog 22:=⟨Akk⟩
instance:UndI prog 22 (.slice 108):=⟨underlying22⟩
instance:UndI prog 203 (.map 57 4):=⟨underlying203⟩
def Kv(p0:List Ae):Int->Option (Sum Int (Sum Unit Int)):=fun s0=>
 if s0<(p0.length:Int) then (bnd (idx p0 s0) fun x0=>
 bnd (Zo x0) fun r0=>
 if r0=true then (some (.inl (w64 (s0+1))))
 else (some (.inr (.inr 60))))
 else (some (.inr (.inl ())))
def Rg(p0:List Ae):((List (Ab×Bool))×Int)->Option (Sum ((List (Ab×Bool))×Int) (Sum Unit Int)):=fun s0=>
 if s0.2<(p0.length:Int) then (bnd (idx p0 s0.2) fun x0=>
 bnd (Oj x0) fun r0=>
 gd ((-9223372036854775808<=r0.X/\r0.X<=9223372036854775807)/\(-9223372036854775808<=r0.Y/\r0.Y<=9223372036854775807))<|
 bnd (some ((mget s0.1 r0).getD false)) fun x1=>
 if x1=true then (some (.inr (.inr 61)))
 else (bnd (Oj x0) fun r1=>
 gd ((-9223372036854775808<=r1.X/\r1.X<=9223372036854775807)/\(-9223372036854775808<=r1.Y/\r1.Y<=9223372036854775807))<|
 gd (s0.1.length<9223372036854775807)<|
 some (.inl (mput s0.1 r1 true,w64 (s0.2+1)))))
 else (some (.inr (.inl ())))
def Tb(p0:List Ae):Option Int :=
 if 1024<(p0.length:Int) then (some 2)
 else (jn (fun (s5:Unit)=>
 jn (fun (s0:Unit)=>
 some 0)
 (fun j0=>bnd (lfix (Rg p0) (([]:List (Ab×Bool)),0)) fun t0=>
 (match t0 with
 |(.inl z0)=>j0 z0
 |(.inr z0)=>some z0
 )))
 (fun j5=>bnd (lfix (Kv p0) 0) fun t1=>
 (match t1 with
 |(.inl z1)=>j5 z1
 |(.inr z1)=>some z1
 )))
def Al(x:Ae):LV:=[iq x.X,iq x.Y,iq x.Z.Lo,iq x.Z.Hi]
instance(x0:Int)(x1:Int)(x2:Int)(x3:Int):DecI Al [iq x0,iq x1,iq x2,iq x3] (⟨x0,x1,⟨x2,x3⟩⟩):=⟨rfl⟩
instance:EncI 108 Al:=⟨trivial⟩
def At(x:Ac):Value:=.agg #[iq x.a0,iq x.a1]
theorem Iu(x y:Ac)(h:At x=At y):x=y:=by
 rcases x with⟨_,_⟩;rcases y with⟨_,_⟩;simp[At] at h;simp[h]
instance(x:Ac):UnfI At x (.agg #[iq x.a0,iq x.a1]):=⟨rfl⟩
instance(x0:Int)(x1:Int):Aaf At (.agg #[iq x0,iq x1]) (⟨x0,x1⟩):=⟨rfl⟩
instance:ValI prog 103 At ((⟨0,0⟩:Ac)):=⟨Iu,fun w=>kr⟩
theorem Baq:(match prog.underlying 103 with|some (.array _ _)|some (.struct _)=>true|_=>false)=true:=kr
theorem Adv:Maps.Keyed prog 103:=Maps.Keyed.of_law (deep_law_laid Ao6 (m:=3) oo (of_decide_eq_true kr) kr Baq)
theorem Bdq(x:Ac)(h:(-9223372036854775808<=x.a0/\x.a0<=9223372036854775807)/\(-9223372036854775808<=x.a1/\x.a1<=9223372036854775807)):(keyOf prog 103 (At x)).isSome=true:=by
 refine Auq (zs:=[x.a0,x.a1]) (d:=333) kr underlying103 kr rfl underlying3 kr kr (fun z hz=>?_);simp only[List.mem_cons,List.not_mem_nil,or_false] at hz;rcases hz with rfl|rfl
 .exact Ah2 h.1
 .exact Ah2 h.2
instance:KeyI prog 103 At (fun x=>(-9223372036854775808<=x.a0/\x.a0<=9223372036854775807)/\(-9223372036854775808<=x.a1/\x.a1<=9223372036854775807)):=⟨Adv,Iu,Bdq⟩
instance:UndI prog 154 (.map 103 4):=⟨underlying154⟩
instance:UndI prog 24 (.slice 103):=⟨underlying24⟩
def Ar(x:Ac):LV:=[iq x.a0,iq x.a1]
instance(x0:Int)(x1:Int):DecI Ar [iq x0,iq x1] (⟨x0,x1⟩):=⟨rfl⟩
instance:EncI 103 Ar:=⟨trivial⟩
def Tw(p1:List Ac):((List (Ac×Bool))×Int)->Option (Sum ((List (Ac×Bool))×Int) Unit):=fun s6=>
 if s6.2<(p1.length:Int) then none
 else (some (.inr ()))
def Sq(p1:List Ac):Int->Option (Sum Int Unit):=fun s0=>
 if s0<(p1.length:Int) then none
 else (some (.inr ()))
def Qi(p0:List Ae)(p1:List Ac):Option Int :=
 jn (fun (s3:Unit)=>
 jn (fun (s9:Unit)=>
 some 0)
 (fun j9=>bnd (lfix (Sq p1) 0) fun t0=>
 j9 t0))
 (fun j3=>bnd (lfix (Tw p1) (([]:List (Ac×Bool)),0)) fun t6=>
 j3 t6)
def Ru(p0:Int):Option Bool :=
 some (!(decide (p0=p0)))
def Pf(p0:Int)(p1:Int):Option Int :=
 bnd (Ru p0) fun r1=>
 bnd (Ru p1) fun r4=>
 if r1=true then (if r4=true then (some 0)
 else (some (-1)))
 else (if r4=true then (some 1)
 else (if p0<p1 then (some (-1))
 else (if p1<p0 then (some 1)
 else (some 0))))
instance:UndI prog 42 (.slice 3):=⟨underlying42⟩
def Bp(p0:LI)(p1:LI):Int->Option (Sum Int (Sum Unit Int)):=fun s0=>
 if s0<(p0.length:Int) then (bnd (idx p0 s0) fun x0=>
 if (p1.length:Int)<=s0 then (some (.inr (.inr 1)))
 else (bnd (idx p1 s0) fun x1=>
 bnd (Pf x0 x1) fun r0=>
 if r0=0 then (some (.inl (w64 (s0+1))))
 else (some (.inr (.inr r0)))))
 else (some (.inr (.inl ())))
def He(p0:LI)(p1:LI):Option Int :=
 jn (fun (s2:Unit)=>
 if (p0.length:Int)<(p1.length:Int) then (some (-1))
 else (some 0))
 (fun j2=>bnd (lfix (Bp p0 p1) 0) fun t0=>
 (match t0 with
 |(.inl z0)=>j2 z0
 |(.inr z0)=>some z0
 ))
structure Ag where
 a0:Int
 a1:Int
 a2:Int
def Ew(p0:Ag)(p1:Ag):Option Int :=
 bnd (He ([p0.a0,p0.a1,p0.a2]) ([p1.a0,p1.a1,p1.a2])) fun r5=>
 some r5
def Xf(p0:Int)(p1:Int)(p2:List Ae):Option Int :=
 bnd (idx p2 p0) fun x1=>
 bnd (idx p2 p1) fun x0=>
 bnd (Oj x1) fun r0=>
 bnd (Oj x0) fun r1=>
 bnd (Kg r0 r1) fun r2=>
 if r2=true then (some (-1))
 else (bnd (idx p2 p1) fun x2=>
 bnd (idx p2 p0) fun x3=>
 bnd (Oj x2) fun r3=>
 bnd (Oj x3) fun r4=>
 bnd (Kg r3 r4) fun r5=>
 if r5=true then (some 1)
 else (some 0))
def Az(x:Ag):LV:=[iq x.a0,iq x.a1,iq x.a2]
instance(x0:Int)(x1:Int)(x2:Int):DecI Az [iq x0,iq x1,iq x2] (⟨x0,x1,x2⟩):=⟨rfl⟩
instance:EncI 101 Az:=⟨trivial⟩
instance(p0:List Ae):Con (Tb p0) prog 123 (fun K vs=>∃U0 E0,vs=[.slice U0 p0.length E0]/\Has K U0 p0.length E0 4 Al p0/\True) (fun _ r=>fun v Ln=>v=iq r/\Ln=[]/\True):=⟨by
 rintro K _ r ⟨U0,E0,rfl,ha0,-⟩ hx w hK;replace ha0:=ha0.lo hK;unfold Tb at hx;refine CtS ntmps123 results123 ?_;refine pq ?_;intros;rename_i hx
 refine Cq1 (s:=10) hx rfl ?_ ?_
 .exact aI
 .refine pI ?_;intros;rename_i hx
  apply Jr (γ:=Unit) hx [0] (fun s5 y5 f=>f) [999] (fun s5 y5 l=>l);exact kk
  .intro s5 y5 hx;refine pq ?_;intros;rename_i hx
   refine pA ?_;intros;rename_i hx
   apply Jr (γ:=Unit) hx [] (fun s0 y0 f=>f) [999] (fun s0 y0 l=>l);exact kk
   .exact aI
   .refine pI ?_;intros;rename_i hx
    apply Lr (γ:=Nat) hx [22,23] (fun s1 y1 f=>(5,.map (some y1))::(24,iq s1.2)::f) [999] (fun s1 y1 l=>Be prog 57 Dz By y1 s1.1::l) _;exact kk;exact sk;intro s1 y1 x0 hx _;unfold Rg at hx;exact au
  .refine pI ?_;intros;rename_i hx
   apply Lr (γ:=Unit) hx [0,11,12] (fun s2 y2 f=>(13,iq s2)::f) [999] (fun s2 y2 l=>l) ();exact kk;exact sk;intro s2 y2 x1 hx _;unfold Kv at hx;exact au⟩
instance(p0:List Ae)(p1:List Ac):Con (Qi p0 p1) prog 124 (fun K vs=>∃U0 E0 U1 E1,vs=[.slice U0 p0.length E0,.slice U1 p1.length E1]/\Has K U0 p0.length E0 4 Al p0/\Has K U1 p1.length E1 2 Ar p1/\True) (fun _ r=>fun v Ln=>v=iq r/\Ln=[]/\True):=⟨by
 rintro K _ r ⟨U0,E0,U1,E1,rfl,ha0,ha1,-⟩ hx w hK;replace ha0:=ha0.lo hK;replace ha1:=ha1.lo hK;unfold Qi at hx;refine CtS ntmps124 results124 ?_;refine pq ?_;intros;rename_i hx
 refine pA ?_;intros;rename_i hx
 refine pA ?_;intros;rename_i hx
 apply Jr (γ:=Unit) hx [0,1] (fun s3 y3 f=>f) [999] (fun s3 y3 l=>l);exact kk
 .intro s3 y3 hx;apply Jr (γ:=Unit) hx [] (fun s9 y9 f=>f) [999] (fun s9 y9 l=>l);exact kk
  .exact aI
  .refine pI ?_;intros;rename_i hx
   apply Lr (γ:=Unit) hx [0,1,66,67] (fun s0 y0 f=>(68,iq s0)::f) [999] (fun s0 y0 l=>l) ();exact kk;exact sk;intro s0 y0 x0 hx _;unfold Sq at hx;exact au
 .refine pI ?_;intros;rename_i hx
  apply Lr (γ:=Nat) hx [0,1,15,16] (fun s6 y6 f=>(5,.map (some y6))::(17,iq s6.2)::f) [999] (fun s6 y6 l=>Be prog 103 At By y6 s6.1::l) _;exact kk;exact sk;intro s6 y6 x6 hx _;unfold Tw at hx;exact au⟩
instance(p0:Int):Con (Ru p0) prog 265 (fun _ vs=>vs=[iq p0]) (fun _ r=>fun v Ln=>v=.bool r/\Ln=[]/\True):=⟨by
 rintro _ _ r rfl hx w hK;unfold Ru at hx;refine CtS ntmps265 results265 ?_;exact au⟩
instance(p0:Int)(p1:Int):Con (Pf p0 p1) prog 238 (fun _ vs=>vs=[iq p0,iq p1]) (fun _ r=>fun v Ln=>v=iq r/\Ln=[]/\True):=⟨by
 rintro _ _ r rfl hx w hK;unfold Pf at hx;refine CtS ntmps238 results238 ?_;exact au⟩
instance(p0:LI)(p1:LI):Con (He p0 p1) prog 190 (fun K vs=>∃U0 E0 U1 E1,vs=[.slice U0 p0.length E0,.slice U1 p1.length E1]/\Has K U0 p0.length E0 1 Aj p0/\Has K U1 p1.length E1 1 Aj p1/\True) (fun _ r=>fun v Ln=>v=iq r/\Ln=[]/\True):=⟨by
 rintro K _ r ⟨U0,E0,U1,E1,rfl,ha0,ha1,-⟩ hx w hK;replace ha0:=ha0.lo hK;replace ha1:=ha1.lo hK;unfold He at hx;refine CtS ntmps190 results190 ?_;refine pq ?_;intros;rename_i hx
 refine pA ?_;intros;rename_i hx
 apply Jr (γ:=Unit) hx [0,1] (fun s2 y2 f=>f) [999] (fun s2 y2 l=>l);exact kk
 .exact aI
 .refine pI ?_;intros;rename_i hx
  apply Lr (γ:=Unit) hx [0,1,9,10] (fun s0 y0 f=>(11,iq s0)::f) [999] (fun s0 y0 l=>l) ();exact kk;exact sk;intro s0 y0 x0 hx _;unfold Bp at hx;exact au⟩
instance Ya(p0:Ag)(p1:Ag):Con (Ew p0 p1) prog 189 (fun _ vs=>vs=[.agg #[iq p0.a0,iq p0.a1,iq p0.a2],.agg #[iq p1.a0,iq p1.a1,iq p1.a2]]) (fun _ r=>fun v Ln=>v=iq r/\Ln=[]/\True):=⟨by
 rintro _ _ r rfl hx w hK;unfold Ew at hx;have:=dl 1 [0,0,2,2] [0,1,2,3];refine CtS ntmps189 results189 ?_;exact au⟩
theorem Xg(p0:Ag)(p1:Ag){r:Int}(hx:Ew p0 p1=some r)(w:World):CtL prog 189 [.agg #[iq p0.a0,iq p0.a1,iq p0.a2],.agg #[iq p1.a0,iq p1.a1,iq p1.a2]] w fun v Ln=>v=iq r/\Ln=[]/\True:=(Ya p0 p1).h [] _ _ rfl hx w (fun _ h=>absurd h List.not_mem_nil)
theorem Agv(p0:Int)(p1:Int)(p2:List Ae){K:LE}{U0:OA}{E0:Nat}(ha0:Has K U0 p2.length E0 4 Al p2){g0_2:Nat}(hp2:Pt K g0_2 0 [.slice U0 p2.length E0]){r:Int}(hx:Xf p0 p1 p2=some r)(w:World)(hK:∀e∈K,Ent.ok w e):CtL prog 183 [iq p0,iq p1,.pointer (some ⟨g0_2,0,none⟩)] w fun v Ln=>v=iq r/\Ln=[]/\True:=by
 have ha0':=Has.up0 ha0;have hp2':=Pt.low (E:=[]) (Pt.up0 hp2) hK;refine CtL.mk 28 func183 rfl ntmps183 kr rfl ?_;show T 28 _ [(0,iq p0),(1,iq p1),(2,.pointer (some ⟨g0_2,0,none⟩))] _;unfold Xf at hx;refine Y7 ?_;refine T_dr [1,0,0,1,2,1,0,0,1,2,2] (.q 0 (.q 1 (.q 2 (.q 3 (.q 5 (.q 6 (.q 7 (.q 8 (.e 4 (.e 9 (.e 10 (.done) (.stop)) (.stop)) (.stop)))))))))) mixed kr kr ?_;refine P_q rfl rfl (Qv rfl hp2' (sb 0) rfl Akk) rfl ?_;refine Y ?_;obtain⟨x1,h2,hx3⟩:=Bh hx;refine P_il (Has.low (E:=[]) ha0' hK) h2 Anv Ah5 (sb 0) (fun b4 o5=>?_);refine P_q rfl rfl (Qv rfl hp2' (sb 0) rfl Akk) rfl ?_;refine Y ?_;obtain⟨x0,h0,hx0⟩:=Bh hx3;refine P_il (Has.low (E:=[]) ha0' hK) h0 Anv Ah5 (sb 0) (fun b0 o0=>?_);obtain⟨r0,h1,hx1⟩:=Bh hx0;refine Pc (fun w1 hw1=>Aap x1  h1 w1) ?_;obtain⟨r1,h3,hx2⟩:=Bh hx1;refine Pc (fun w1 hw1=>Aap x0  h3 w1) ?_;obtain⟨r2,h4,hx4⟩:=Bh hx2;refine Pc (fun w1 hw1=>Abp r0 r1  h4 w1) ?_;refine Y2 ?_;refine Yl (s:=16) rfl (fun h5=>?_) (fun h5=>?_)
 .have hx5:=Xt h5 hx4;refine Y8 ?_;obtain rfl:=Option.some.inj hx5;exact Oz (rs:=[.tmp 5]) results183 (.tmp rfl (.nil)) (Ln:=[]) ⟨rfl,rfl,trivial⟩ Fw (by exact .refl)
 .have hx6:=Adh h5 hx4;refine Y5 ?_;refine T_dr [1,0,0,1,2,1,0,0,1,2,2] (.q 0 (.q 1 (.q 2 (.q 3 (.q 5 (.q 6 (.q 7 (.q 8 (.e 4 (.e 9 (.e 10 (.done) (.stop)) (.stop)) (.stop)))))))))) mixed kr kr ?_;refine P_q rfl rfl (Qv rfl hp2' (sb 0) rfl Akk) rfl ?_;refine Y ?_;obtain⟨x2,h6,hx7⟩:=Bh hx6;refine P_il (Has.low (E:=[]) ha0' hK) h6 Anv Ah5 (sb 0) (fun b1 o1=>?_);refine P_q rfl rfl (Qv rfl hp2' (sb 0) rfl Akk) rfl ?_;refine Y ?_;obtain⟨x3,h7,hx8⟩:=Bh hx7;refine P_il (Has.low (E:=[]) ha0' hK) h7 Anv Ah5 (sb 0) (fun b2 o2=>?_);obtain⟨r3,h8,hx9⟩:=Bh hx8;refine Pc (fun w1 hw1=>Aap x2  h8 w1) ?_;obtain⟨r4,h9,hx62⟩:=Bh hx9;refine Pc (fun w1 hw1=>Aap x3  h9 w1) ?_;obtain⟨r5,h64,hx65⟩:=Bh hx62;refine Pc (fun w1 hw1=>Abp r3 r4  h64 w1) ?_;refine Y2 ?_;refine Yl (s:=27) rfl (fun h66=>?_) (fun h66=>?_)
  .have hx67:=Xt h66 hx65;refine Y8 ?_;obtain rfl:=Option.some.inj hx67;exact Oz (rs:=[.tmp 5]) results183 (.tmp rfl (.nil)) (Ln:=[]) ⟨rfl,rfl,trivial⟩ Fw (by exact .refl)
  .have hx68:=Adh h66 hx65;refine Y9 ?_;obtain rfl:=Option.some.inj hx68;exact Oz (rs:=[.tmp 5]) results183 (.tmp rfl (.nil)) (Ln:=[]) ⟨rfl,rfl,trivial⟩ Fw (by exact .refl)
end
end Go.Proofs.YthlkpgdfifnagaaGreat
