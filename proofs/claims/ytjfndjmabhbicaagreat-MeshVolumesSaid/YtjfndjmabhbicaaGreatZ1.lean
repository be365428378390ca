/- Plain laws on loops and lists that the plain functions of the program have in common. -/
import Derived.Test.YtjfndjmabhbicaaGreatFlow11
import Derived.Test.YtjfndjmabhbicaaGreatD1
namespace Go.Proofs.YtjfndjmabhbicaaGreat
open Go Go.RowKit
theorem Pw {j:Nat} (h:j<=9223372036854775807):w64 (j:Int)=(j:Int):=Ay (by omega) (by omega)
theorem Be {j:Nat} (h:j < 9223372036854775807):w64 ((j:Int)+1)=((j+1:Nat):Int):=by rw[Ay (by omega) (by omega)];omega
theorem Ad {α ρ:Type} {x:α} {k:α->Option ρ}:bnd (some x) k=k x:=rfl
theorem gd_t {ρ:Type} {p:Prop} [Decidable p] {k:Option ρ} (h:p):gd p k=k:=by unfold gd;rw[if_pos h]
theorem jn_d {τ ρ:Type} {k:τ->Option ρ} {x:(τ->Option ρ)->Option ρ}:jn k x=x k:=rfl
theorem Xd {α β γ:Type} (l:List α) (p:α->Bool) (B:Int->Option (Sum Int (Sum β γ))) (u:β) (v:γ)
  (h1:∀ (j:Nat) (h:j < l.length),B j=if p l[j]=true then some (.inl ((j+1:Nat):Int)) else some (.inr (.inr v))) (h2:B l.length=some (.inr (.inl u))) :
  lfix B 0=some (if l.all p=true then .inl u else .inr v):=by
 have key:∀ (m k:Nat),k<=l.length->l.length-k=m->lfix B k=some (if (l.drop k).all p=true then .inl u else .inr v):=by
  intro m
  induction m with
  | zero=>
   intro k hk hm
   obtain rfl:k=l.length:=by omega
   rw[Bk,h2]
   simp
  | succ m ih=>
   intro k hk hm
   have hlt:k < l.length:=by omega
   rw[Bk,h1 k hlt,List.drop_eq_getElem_cons hlt,List.all_cons]
   by_cases hp:p l[k]=true
   ·rw[if_pos hp,hp,Bool.true_and]
    exact ih (k+1) (by omega) (by omega)
   ·rw[if_neg hp]
    simp[hp]
 exact key l.length 0 (Nat.zero_le _) rfl
def nI (l:List Nat):List Int:=l.map (fun x:Nat=>(x:Int))
def L32 (m:Nat):List Int:=nI (dig 4294967296 m)
theorem Cc {l:List Nat}:(nI l).length=l.length:=by simp[nI]
theorem Ey {l:List Nat} {j:Nat} (h:j < l.length):idx (nI l) (j:Int)=some ((l[j]:Nat):Int):=by
 rw[Bb (by rw[Cc];exact h)];simp[nI]
theorem Ur (n:Nat):(List.replicate n (0:Int))=nI (List.replicate n 0):=by simp[nI]
theorem Sg {l:List Nat} {j v:Nat}:setI (nI l) (j:Int) (v:Int)=nI (l.set j v):=by rw[Vd];simp[nI,List.map_set]
theorem Ad4 {n:Nat} (h:n < 4294967296):wu32 (n:Int)=n:=Afd .u32 n (by simp only[top];omega)
theorem Pg {n:Nat} (h:n < 18446744073709551616):wu64 (n:Int)=n:=Afd .u64 n (by simp only[top];omega)
theorem Vs (l:List Nat) (h9:l.length<=1000000):Bz (nI l)=some (nI (nrm l)):=by
 obtain ⟨t,ht,hR⟩:=Bl (B:=Oa) (fun s=>s.length)
  (fun s=>∃ k:Nat,k<=l.length/\s=nI (l.take k)/\∀ (j:Nat) (h:j < l.length),k<=j->l[j]=0)
  (fun t=>t=nI (nrm l)) (by
   rintro s ⟨k,hk,rfl,hz⟩
   have hlen:(l.take k).length=k:=by rw[List.length_take];omega
   unfold Oa
   simp only[jn_d,Cc,hlen]
   by_cases h0:k=0
   ·right
    subst h0
    rw[if_neg (by omega),if_neg (by simp)]
    refine ⟨_,rfl,?_⟩
    rw[Acb l (fun x hx=>by obtain ⟨j,hj,rfl⟩:=List.getElem_of_mem hx;exact hz j hj (by omega))];rfl
   ·rw[if_pos (by omega)]
    ·rw[Ay (by omega) (by omega),show ((k:Int)-1)=((k-1:Nat):Int) from by omega,Ey (by omega),Ad]
     have e:(l.take k)[k-1]'(by omega)=l[k-1]:=by rw[List.getElem_take]
     rw[e]
     by_cases hx:l[k-1]=0
     ·left
      refine ⟨nI (l.take (k-1)),?_,⟨k-1,by omega,rfl,fun j h hj=>?_⟩,by simp only[Cc,List.length_take];omega⟩
      ·rw[if_pos (by rw[hx];rfl),gd_t ⟨by omega,by omega⟩]
       congr 2
       simp only[subl,nI,Int.toNat_natCast,Int.toNat_zero,List.drop_zero,<- List.map_take,List.take_take]
       rw[show min (k-1) k=k-1 by omega]
      ·rcases Nat.lt_or_ge (k-1) j with hq | hq
       ·exact hz j h (by omega)
       ·obtain rfl:j=k-1:=by omega
        exact hx
     ·right
      rw[if_neg (by rw[decide_eq_true_eq];omega)]
      refine ⟨_,rfl,?_⟩
      have h1:=As7 l k hk hz (fun h0' h'=>hx)
      conv=>rhs;rw[Abg,h1])
  (nI l) ⟨l.length,by omega,by rw[List.take_length],fun j h hj=>by omega⟩
 unfold Bz
 simp only[jn_d]
 rw[ht,Ad,hR]
theorem Aay (n:Nat):wu32 (n:Int)=((n % 4294967296:Nat):Int):=by
 show IntKind.u32.wrap (n:Int)=_
 simp[IntKind.wrap,IntKind.bits,IntKind.signed]
theorem Arc (n:Nat):shr_ .u64 (n:Int) 32=((n / 4294967296:Nat):Int):=by
 show (n:Int).fdiv (2 ^ (min (32:Int).toNat 64))=_
 rw[show (2:Int) ^ (min (32:Int).toNat 64)=4294967296 from by decide,Int.fdiv_eq_ediv_of_nonneg _ (by omega)]
 omega
theorem Ard (l r:List Nat) (hl:∀ x∈l,x < 4294967296) (hr:∀ x∈r,x < 4294967296) (hb:l.length+r.length<=1000000) :
  Co (nI l) (nI r)=some (L32 (val 4294967296 l*val 4294967296 r)):=by
 have e:w64 ((((nI l).length:Nat):Int)+(((nI r).length:Nat):Int))=((l.length+r.length:Nat):Int):=by rw[Cc,Cc,Ay (by omega) (by omega)];omega
 obtain ⟨t,ht,out,rfl,hd,hlo⟩:=Bl (B:=Jg (nI l) (nI r)) (fun s=>l.length-s.2.toNat)
  (fun s=>∃ (out:List Nat) (i:Nat),s=(nI out,(i:Int))/\out.length=l.length+r.length/\i<=l.length/\(∀ x∈out,x < 4294967296)/\(∀ (q:Nat) (h:q < out.length),i+r.length<=q->out[q]=0)/\val 4294967296 out=val 4294967296 (l.take i)*val 4294967296 r)
  (fun t=>∃ out,t=nI out/\nrm out=dig 4294967296 (val 4294967296 l*val 4294967296 r)/\out.length<=1000000) (by
   rintro s ⟨out0,i,rfl,hC1,hC2,hC3,hC4,hC5⟩
   by_cases hi:i < l.length
   ·left
    obtain ⟨t,ht,out,cy,rfl,hD1,hD2,hD4,hD5,hD6⟩:=Bl (B:=Jf (nI r) (nI out0,(i:Int)) (l[i]:Int)) (fun s=>r.length-s.2.2.toNat)
     (fun s=>∃ (out:List Nat) (cy j:Nat),s=(nI out,(cy:Int),(j:Int))/\out.length=l.length+r.length/\cy < 4294967296/\j<=r.length/\(∀ x∈out,x < 4294967296)/\(∀ (q:Nat) (h:q < out.length),i+r.length<=q->out[q]=0)/\val 4294967296 out+cy*4294967296 ^ (i+j)=val 4294967296 out0+l[i] * val 4294967296 (r.take j)*4294967296 ^ i)
     (fun t=>∃ (out:List Nat) (cy:Nat),t=(nI out,(cy:Int))/\out.length=l.length+r.length/\cy < 4294967296/\(∀ x∈out,x < 4294967296)/\(∀ (q:Nat) (h:q < out.length),i+r.length<=q->out[q]=0)/\val 4294967296 out+cy*4294967296 ^ (i+r.length)=val 4294967296 out0+l[i] * val 4294967296 (r.take r.length)*4294967296 ^ i) (by
      rintro s ⟨out,cy,j,rfl,hD1,hD2,hD3,hD4,hD5,hD6⟩
      by_cases hj:j < r.length
      ·left
       have hk:i+j < out.length:=by omega
       have h1:=hl _ (List.getElem_mem hi)
       have h2:=hr _ (List.getElem_mem hj)
       have h3:=hD4 _ (List.getElem_mem hk)
       have hmm:=Aki h1 h2
       have e1:w64 ((i:Int)+(j:Int))=((i+j:Nat):Int):=by rw[Ay (by omega) (by omega)];omega
       have e2:wu64 (wu64 (wu64 (wu64 (l[i]:Int)*wu64 (r[j]:Int))+wu64 (out[i+j]:Int))+(cy:Int))=((l[i] * r[j] + out[i+j] + cy:Nat):Int):=by
        rw[Pg (n:=l[i]) (by omega),Pg (n:=r[j]) (by omega),Pg (n:=out[i+j]) (by omega),<- Int.natCast_mul,Pg (by omega),<- Int.natCast_add,Pg (by omega),<- Int.natCast_add,Pg (by omega)]
       have e4:wu32 ((l[i] * r[j] + out[i+j] + cy:Nat):Int)=(((l[i] * r[j] + out[i+j] + cy) % 4294967296:Nat):Int):=Aay _
       refine ⟨(nI (out.set (i+j) ((l[i] * r[j] + out[i+j] + cy) % 4294967296)),(((l[i] * r[j] + out[i+j] + cy) / 4294967296:Nat):Int),((j+1:Nat):Int)),?_,⟨_,_,_,rfl,Ap5 hi hj rfl rfl h1 h2 hD1 hD2 hD3 hD4 hD5 hD6 hk⟩,by simp;omega⟩
       unfold Jf
       simp only[e1]
       rw[if_pos (by rw[Cc];omega),Ey hj,Ad,Ey hk,Ad,Ad,e2,e4,Arc,Sg,Be (by omega)]
      ·right
       obtain rfl:j=r.length:=by omega
       refine ⟨(nI out,(cy:Int)),?_,out,cy,rfl,hD1,hD2,hD4,hD5,hD6⟩
       unfold Jf
       simp only[]
       rw[if_neg (by rw[Cc];omega)])
     (nI out0,((0:Nat):Int),((0:Nat):Int)) ⟨out0,0,0,rfl,hC1,by omega,by omega,hC3,fun q hq hiq=>hC4 q hq (by omega),by simp[val]⟩
    have hk:i+r.length < out.length:=by omega
    refine ⟨(nI (out.set (i+r.length) (cy % 4294967296)),((i+1:Nat):Int)),?_,⟨_,_,rfl,Ap6 hi rfl rfl hD1 hD2 hD4 hD5 hD6 hC5 rfl⟩,by simp;omega⟩
    unfold Jg
    simp only[jn_d]
    have ht':lfix (Jf (nI r) (nI out0,(i:Int)) (l[i]:Int)) (nI out0,0,0)=some (nI out,(cy:Int)):=ht
    rw[if_pos (by rw[Cc];omega),Ey hi,Ad,ht',Ad,Cc,show w64 ((i:Int)+(r.length:Int))=((i+r.length:Nat):Int) from by rw[Ay (by omega) (by omega)];omega,Ey hk,Ad]
    simp only[]
    rw[Ad4 hD2,Sg,Be (by omega),Nat.mod_eq_of_lt hD2]
   ·right
    refine ⟨nI out0,?_,out0,rfl,As8 (i:=i) (by omega) rfl hC1 hC3 hC5,by omega⟩
    unfold Jg
    simp only[]
    rw[if_neg (by rw[Cc];omega)])
  (nI (List.replicate (l.length+r.length) 0),((0:Nat):Int)) ⟨_,0,rfl,by simp,by omega,by simp,by simp,by simp[val,Vb]⟩
 unfold Co
 simp only[e,jn_d,Int.toNat_natCast,Ur]
 have ht':lfix (Jg (nI l) (nI r)) (nI (List.replicate (l.length+r.length) 0),0)=some (nI out):=ht
 rw[gd_t ⟨by omega,by omega⟩,ht',Ad,Vs _ (by omega),Ad,hd];rfl
theorem Alb (a b:Nat) (ha:(dig 4294967296 a).length<=1000000):Np (L32 a) (L32 b)=some (cmpN a b):=by
 unfold Np L32
 rw[Cc,Cc]
 by_cases hlen:(dig 4294967296 a).length=(dig 4294967296 b).length
 ·obtain ⟨t,ht,hR⟩:=Bl (B:=Pb (nI (dig 4294967296 a)) (nI (dig 4294967296 b))) (fun s=>(s+1).toNat)
   (fun s=>∃ k:Nat,s=(k:Int)-1/\k<=(dig 4294967296 a).length/\∀ (j:Nat) (h:j < (dig 4294967296 a).length) (h':j < (dig 4294967296 b).length),k<=j->(dig 4294967296 a)[j]=(dig 4294967296 b)[j])
   (fun t=>(t = .inl ()/\cmpN a b=0)\/t = .inr (cmpN a b)) (by
    rintro s ⟨k,rfl,hk,heq⟩
    unfold Pb
    by_cases h0:k=0
    ·right
     subst h0
     refine ⟨_,by rw[if_neg (by omega)],.inl ⟨rfl,Ata (by omega) hlen (fun j h h'=>heq j h h' (by omega))⟩⟩
    ·have h1:k-1 < (dig 4294967296 a).length:=by omega
     have h2:k-1 < (dig 4294967296 b).length:=by omega
     have hat:=As9 (b:=4294967296) (by omega) hlen h1 h2 (fun j h h' hj=>heq j h h' (by omega))
     rw[if_pos (by omega),show ((k:Int)-1)=((k-1:Nat):Int) from by omega,Ey h1,Ad,Ey h2,Ad]
     by_cases he:(dig 4294967296 a)[k-1]=(dig 4294967296 b)[k-1]
     ·left
      refine ⟨((k-1:Nat):Int)-1,by rw[if_pos (by rw[he]),Ay (by omega) (by omega)],⟨k-1,rfl,by omega,fun j h h' hj=>?_⟩,by omega⟩
      rcases Nat.lt_or_ge (k-1) j with hq | hq
      ·exact heq j h h' (by omega)
      ·obtain rfl:j=k-1:=by omega
       exact he
     ·right
      rw[if_neg (by omega),Ad,Ad]
      by_cases hlt:(dig 4294967296 a)[k-1] < (dig 4294967296 b)[k-1]
      ·exact ⟨_,by rw[if_pos (by omega)],.inr (by rw[hat.1 hlt])⟩
      ·exact ⟨_,by rw[if_neg (by omega)],.inr (by rw[hat.2 (by omega)])⟩)
   (((dig 4294967296 a).length:Int)-1) ⟨_,rfl,Nat.le_refl _,fun j h h' hj=>by omega⟩
  rw[if_pos (by omega),jn_d,Ay (by omega) (by omega),ht,Ad]
  rcases hR with ⟨rfl,h0⟩ | rfl
  ·simp only[h0]
  ·rfl
 ·rw[if_neg (by omega)]
  by_cases hlt:(dig 4294967296 a).length < (dig 4294967296 b).length
  ·rw[if_pos (by omega),(Adt (b:=4294967296) (by omega) rfl rfl).1 hlt]
  ·rw[if_neg (by omega),(Adt (b:=4294967296) (by omega) rfl rfl).2 (by omega)]
theorem oneW:([1]:List Int)=L32 1:=by unfold L32;rw[Abh (by omega)];rfl
theorem Yh {a:Nat}:(L32 a).length=0↔a=0:=by
 unfold L32;rw[Cc,List.length_eq_zero_iff,Ads (by omega)]
theorem Ad5 (a:Nat) (h:(dig 4294967296 a).length<=1000000):Bz (L32 a)=some (L32 a):=by
 unfold L32;rw[Vs _ h,Avt (by omega)]
theorem Ajd:Bz []=some []:=Vs [] (by simp)
theorem Alc (a:Nat) (h:(dig 4294967296 a).length<=1000):Co (L32 a) [1]=some (L32 a):=by
 have:=Ard (dig 4294967296 a) [1] (Aai (by omega) a) (by simp) (by simp;omega)
 rw[Ee (by omega),show val 4294967296 [1]=1 from by simp[val],Nat.mul_one] at this
 exact this
theorem Am5:Co [1] [1]=some [1]:=by
 have:=Alc 1 (by rw[Abh (by omega)];simp)
 rwa [<- oneW] at this
theorem Qg {b:Nat} (l:List Nat) (i:Nat):val b (l.take (i+1))=val b (l.take i)+b ^ i*l.getD i 0:=by
 by_cases h:i < l.length
 ·rw[Pp l i h];simp[h]
 ·rw[List.take_of_length_le (by omega),List.take_of_length_le (by omega)];simp[h]
theorem Yi {l:List Nat} (hl:∀ x∈l,x < 65536) (i:Nat):l.getD i 0 < 65536:=by
 by_cases h:i < l.length
 ·have:=hl _ (List.getElem_mem h);simpa[h] using this
 ·simp[h]
theorem Si {l:List Nat} {i:Nat} (h:i < l.length):l.getD i 0=l[i]:=by simp[h]
theorem Oj {l:List Nat} {i:Nat} (h:¬ i < l.length):l.getD i 0=0:=by simp[h]
theorem Us {b:Nat} (hb:0 < b) {l:List Nat} (hl:∀ x∈l,x < b) (i:Nat):l.getD i 0 < b:=by
 by_cases h:i < l.length
 ·have:=hl _ (List.getElem_mem h);simpa[h] using this
 ·simp[h,hb]
theorem Are (v:BitVec 32):IntKind.u32.wrap (v.toNat:Int)=(v.toNat:Int):=Afd .u32 v.toNat (by simp only[top];omega)
theorem Arf (a b:Int):Px .u32 a b=((BitVec.ofInt 32 a &&& BitVec.ofInt 32 b).toNat:Int):=Are _
theorem Bad (a b:Int):Aad .u32 a b=((BitVec.ofInt 32 a ||| BitVec.ofInt 32 b).toNat:Int):=Are _
theorem Ald (a b:Int):Yr .u32 a b=((BitVec.ofInt 32 a ^^^ BitVec.ofInt 32 b).toNat:Int):=Are _
theorem Bae (v:BitVec 32):BitVec.ofInt 32 (v.toNat:Int)=v:=by
 rw[BitVec.ofInt_natCast,BitVec.ofNat_toNat,BitVec.setWidth_eq]
theorem Axv:BitVec.ofInt 32 (if IntKind.signed .u32=true then -1 else IntKind.max .u32)=BitVec.allOnes 32:=by decide
theorem Arg (x:Int):wu32 x=x % 4294967296:=by
 show IntKind.u32.wrap x=_
 simp[IntKind.wrap,IntKind.bits,IntKind.signed]
theorem Ahl (n:Nat) (h:n < 4294967296):(BitVec.ofInt 32 (n:Int)).msb=decide (2147483648<=n):=by
 rw[BitVec.msb_eq_decide,BitVec.ofInt_natCast,BitVec.toNat_ofNat,Nat.mod_eq_of_lt (by omega)]
theorem Baf (v:BitVec 32):shr_ .u32 (v.toNat:Int) 31=if v.msb then 1 else 0:=by
 have h:=v.isLt
 rw[BitVec.msb_eq_decide]
 show (v.toNat:Int).fdiv (2 ^ (min (31:Int).toNat 32))=_
 rw[show (2:Int) ^ (min (31:Int).toNat 32)=2147483648 from by decide,Int.fdiv_eq_ediv_of_nonneg _ (by omega)]
 by_cases h1:2 ^ (32-1)<=v.toNat
 ·rw[if_pos (by simpa using h1)];omega
 ·rw[if_neg (by simpa using h1)];omega
theorem Bag {x y b:Nat} (hx:x < 4294967296) (hy:y < 4294967296) (hb:b<=1) :
  ∃ d b':Nat,Ko (x:Int) (y:Int) (b:Int)=some ((d:Int),(b':Int))/\d < 4294967296/\b'<=1/\d+b+y=x+4294967296*b':=by
 unfold Ko
 have e:wu32 (wu32 ((x:Int)-y)-b)=(((x:Int)-y-b) % 4294967296).toNat:=by rw[Arg,Arg];omega
 rw[e]
 generalize hd:(((x:Int)-y-b) % 4294967296).toNat=d
 have hdl:d < 4294967296:=by omega
 rw[Arf,Arf,Ald,Ald,Ald,Bad]
 simp only[Bae,Axv,BitVec.allOnes_xor]
 rw[Baf]
 rw[BitVec.msb_or,BitVec.msb_and,BitVec.msb_and,BitVec.msb_not,BitVec.msb_not,BitVec.msb_xor,Ahl _ hx,Ahl _ hy,Ahl _ hdl]
 by_cases h1:2147483648<=x <;> by_cases h2:2147483648<=y <;> by_cases h3:2147483648<=d <;> simp only[h1,h2,h3,decide_true,decide_false,Bool.not_true,Bool.not_false,Bool.and_true,Bool.and_false,Bool.true_and,Bool.false_and,Bool.or_true,Bool.or_false,Bool.xor_true,Bool.xor_false,Bool.false_eq_true,if_true,if_false,show (0 < 32)=True by simp] <;>
  first
  | exact ⟨d,0,rfl,hdl,by omega,by omega⟩
  | exact ⟨d,1,rfl,hdl,by omega,by omega⟩
theorem Bah {x y c:Nat} (hx:x < 4294967296) (hy:y < 4294967296) (hc:c<=1) :
  Kn (x:Int) (y:Int) (c:Int)=some ((((x+y+c) % 4294967296:Nat):Int),(((x+y+c) / 4294967296:Nat):Int)):=by
 unfold Kn
 have e:wu64 (wu64 (wu64 (x:Int)+wu64 (y:Int))+wu64 (c:Int))=((x+y+c:Nat):Int):=by
  rw[Pg (n:=x) (by omega),Pg (n:=y) (by omega),Pg (n:=c) (by omega),<- Int.natCast_add,Pg (by omega),<- Int.natCast_add,Pg (by omega)]
 rw[e,Aay,Arc,Ad4 (by omega)]
theorem Arh {l r out:List Nat} {cy i n:Nat} (hn:l.length=n) (hi:i < n) (hr:r.length<=n) (hl':∀ x∈l,x < 4294967296) (hr':∀ x∈r,x < 4294967296)
  (hC1:out.length=n+1) (hC2:cy<=1) (hC4:∀ x∈out,x < 4294967296) (hC5:∀ (q:Nat) (h:q < out.length),i<=q->out[q]=0)
  (hC6:val 4294967296 out+cy*4294967296 ^ i=val 4294967296 (l.take i)+val 4294967296 (r.take i)) :
  ∀ s,s=l.getD i 0+r.getD i 0+cy->(out.set i (s % 4294967296)).length=n+1/\s / 4294967296<=1/\(∀ x∈out.set i (s % 4294967296),x < 4294967296)/\(∀ (q:Nat) (h:q < (out.set i (s % 4294967296)).length),i+1<=q->(out.set i (s % 4294967296))[q]=0) /\
   val 4294967296 (out.set i (s % 4294967296))+s / 4294967296*4294967296 ^ (i+1)=val 4294967296 (l.take (i+1))+val 4294967296 (r.take (i+1)):=by
 intro s hs
 have h1:=Us (b:=4294967296) (by omega) hl' i
 have h2:=Us (b:=4294967296) (by omega) hr' i
 refine ⟨by simp[hC1],by omega,Qa hC4 (by omega),fun q hq hiq=>?_,?_⟩
 ·rw[List.getElem_set_ne (by omega)];exact hC5 q (by simpa using hq) (by omega)
 ·have hs1:=Ty (b:=4294967296) out i (s % 4294967296) (by omega)
  rw[hC5 i (by omega) (by omega)] at hs1
  rw[Qg,Qg]
  have e1:s=4294967296*(s / 4294967296)+s % 4294967296:=by omega
  have e2:=congrArg (· * 4294967296 ^ i) (hs.symm.trans e1)
  simp only[Nat.add_mul] at e2
  have e4:4294967296 ^ (i+1)=4294967296*4294967296 ^ i:=by rw[Nat.pow_succ,Nat.mul_comm]
  rw[e4]
  generalize 4294967296 ^ i=P at *
  generalize l.getD i 0=a at *
  generalize r.getD i 0=b at *
  generalize s / 4294967296=q at *
  generalize s % 4294967296=m at *
  have e5:q*(4294967296*P)=4294967296*q*P:=by grind
  have e7:P*a=a*P:=Nat.mul_comm _ _
  have e8:P*b=b*P:=Nat.mul_comm _ _
  omega
theorem Ari (l r:List Nat) (hl:∀ x∈l,x < 4294967296) (hr:∀ x∈r,x < 4294967296) (h9:l.length<=100000) (hrl:r.length<=l.length) :
  (jn (fun (s6:(List Int) × Int)=>
   bnd (idx s6.1 ((((nI l).length:Nat):Int))) fun _=>
   bnd (Bz (setI s6.1 ((((nI l).length:Nat):Int)) s6.2)) fun r122=>
   some r122)
   (fun j6=>bnd (lfix (Jh (nI l,nI r)) (List.replicate (Int.toNat (w64 (((((nI l).length:Nat):Int))+1))) (0:Int),0,0)) fun t56=>
   j6 t56))=some (L32 (val 4294967296 l+val 4294967296 r)):=by
 obtain ⟨t,ht,out,cy,rfl,hC1,hC2,hC4,hC5,hC6⟩:=Bl (B:=Jh (nI l,nI r)) (fun s=>l.length-s.2.2.toNat)
  (fun s=>∃ (out:List Nat) (cy i:Nat),s=(nI out,(cy:Int),(i:Int))/\i<=l.length/\out.length=l.length+1/\cy<=1/\(∀ x∈out,x < 4294967296)/\(∀ (q:Nat) (h:q < out.length),i<=q->out[q]=0)/\val 4294967296 out+cy*4294967296 ^ i=val 4294967296 (l.take i)+val 4294967296 (r.take i))
  (fun t=>∃ (out:List Nat) (cy:Nat),t=(nI out,(cy:Int))/\out.length=l.length+1/\cy<=1/\(∀ x∈out,x < 4294967296)/\(∀ (h:l.length < out.length),out[l.length]=0)/\val 4294967296 out+cy*4294967296 ^ l.length=val 4294967296 l+val 4294967296 r) (by
   rintro s ⟨out,cy,i,rfl,hi',hC1,hC2,hC4,hC5,hC6⟩
   unfold Jh
   simp only[jn_d,Cc]
   by_cases hi:i < l.length
   ·left
    obtain ⟨k1,k2,k3,k4,k5⟩:=Arh rfl hi hrl hl hr hC1 hC2 hC4 hC5 hC6 _ rfl
    have h1:=Us (b:=4294967296) (by omega) hl i
    have h2:=Us (b:=4294967296) (by omega) hr i
    refine ⟨_,?_,⟨_,_,i+1,rfl,by omega,k1,k2,k3,k4,k5⟩,by simp only[Int.toNat_natCast];omega⟩
    rw[if_pos (by omega)]
    have fin:∀ y:Int,y=((r.getD i 0:Nat):Int)->(bnd (idx (nI l) (i:Int)) fun x76=>bnd (Kn x76 y (cy:Int)) fun r87=>bnd (idx (nI out) (i:Int)) fun _=>some (Sum.inl (β:=List Int × Int) (setI (nI out) (i:Int) r87.1,r87.2,w64 ((i:Int)+1))))=some (.inl (nI (out.set i ((l.getD i 0+r.getD i 0+cy) % 4294967296)),(((l.getD i 0+r.getD i 0+cy) / 4294967296:Nat):Int),((i+1:Nat):Int))):=by
     rintro y rfl
     rw[Ey hi,Ad,<- Si hi,Bah h1 h2 hC2,Ad,Ey (by omega),Ad]
     simp only[]
     rw[Sg,Be (by omega)]
    by_cases hm:i < r.length
    ·rw[if_pos (by omega),Ey hm,Ad]
     exact fin _ (by rw[Si hm])
    ·rw[if_neg (by omega)]
     exact fin _ (by rw[Oj hm];rfl)
   ·right
    obtain rfl:i=l.length:=by omega
    rw[if_neg (by omega)]
    rw[List.take_of_length_le (by omega),List.take_of_length_le (by omega)] at hC6
    exact ⟨_,rfl,out,cy,rfl,hC1,hC2,hC4,fun h=>hC5 _ h (by omega),hC6⟩)
  (nI (List.replicate (l.length+1) 0),((0:Nat):Int),((0:Nat):Int)) ⟨_,0,0,rfl,by omega,by simp,by omega,by simp,by simp,by simp[val,Vb]⟩
 simp only[jn_d,Cc]
 rw[Be (by omega),Int.toNat_natCast,Ur]
 have ht':lfix (Jh (nI l,nI r)) (nI (List.replicate (l.length+1) 0),0,0)=some (nI out,(cy:Int)):=ht
 rw[ht',Ad]
 simp only[]
 rw[Ey (by omega),Ad,Sg,Vs _ (by simp;omega),Ad]
 have hs1:=Ty (b:=4294967296) out l.length cy (by omega)
 rw[hC5 (by omega)] at hs1
 rw[Sb (b:=4294967296) (by omega) _ (Qa hC4 (by omega)),show val 4294967296 (out.set l.length cy)=val 4294967296 l+val 4294967296 r by omega]
 rfl
theorem Axw (l r:List Nat) (hl:∀ x∈l,x < 4294967296) (hr:∀ x∈r,x < 4294967296) (h9:l.length<=100000) (h9':r.length<=100000) :
  Nq (nI l) (nI r)=some (L32 (val 4294967296 l+val 4294967296 r)):=by
 unfold Nq
 simp only[jn_d]
 by_cases h:l.length < r.length
 ·rw[if_pos (by rw[Cc,Cc];omega),gd_t (by rw[Cc,Be (by omega)];omega)]
  have:=Ari r l hr hl h9' (by omega)
  simp only[jn_d] at this
  rw[this,Nat.add_comm]
 ·rw[if_neg (by rw[Cc,Cc];omega),gd_t (by rw[Cc,Be (by omega)];omega)]
  have:=Ari l r hl hr h9 (by omega)
  simp only[jn_d] at this
  exact this
theorem Axx (l r:List Nat) (hl:∀ x∈l,x < 4294967296) (hr:∀ x∈r,x < 4294967296) (h9:l.length<=100000) (hrl:r.length<=l.length) (hle:val 4294967296 r<=val 4294967296 l) :
  Li (nI l) (nI r)=some (L32 (val 4294967296 l-val 4294967296 r)):=by
 obtain ⟨t,ht,out,rfl,hC1,hd⟩:=Bl (B:=Lv (nI l) (nI r)) (fun s=>l.length-s.2.2.toNat)
  (fun s=>∃ (out:List Nat) (bw i:Nat),s=(nI out,(bw:Int),(i:Int))/\i<=l.length/\out.length=l.length/\bw<=1/\(∀ x∈out,x < 4294967296)/\(∀ (q:Nat) (h:q < out.length),i<=q->out[q]=0)/\val 4294967296 out+val 4294967296 (r.take i)=val 4294967296 (l.take i)+bw*4294967296 ^ i)
  (fun t=>∃ (out:List Nat),t=nI out/\out.length=l.length/\nrm out=dig 4294967296 (val 4294967296 l-val 4294967296 r)) (by
   rintro s ⟨out,bw,i,rfl,hi',hC1,hC2,hC4,hC5,hC6⟩
   unfold Lv
   simp only[jn_d,Cc]
   by_cases hi:i < l.length
   ·left
    have h1:=Us (b:=4294967296) (by omega) hl i
    have h2:=Us (b:=4294967296) (by omega) hr i
    obtain ⟨d,b',hB,hd1,hb1,he⟩:=Bag h1 h2 hC2
    refine ⟨(nI (out.set i d),(b':Int),((i+1:Nat):Int)),?_,⟨_,_,i+1,rfl,by omega,by simp[hC1],hb1,Qa hC4 hd1,fun q hq hiq=>?_,?_⟩,by simp only[Int.toNat_natCast];omega⟩
    ·rw[if_pos (by omega)]
     have fin:∀ y:Int,y=((r.getD i 0:Nat):Int)->(bnd (idx (nI l) (i:Int)) fun x76=>bnd (Ko x76 y (bw:Int)) fun r87=>bnd (idx (nI out) (i:Int)) fun _=>some (Sum.inl (β:=List Int) (setI (nI out) (i:Int) r87.1,r87.2,w64 ((i:Int)+1))))=some (.inl (nI (out.set i d),(b':Int),((i+1:Nat):Int))):=by
      rintro y rfl
      rw[Ey hi,Ad,<- Si hi,hB,Ad,Ey (by omega),Ad]
      simp only[]
      rw[Sg,Be (by omega)]
     by_cases hm:i < r.length
     ·rw[if_pos (by omega),Ey hm,Ad]
      exact fin _ (by rw[Si hm])
     ·rw[if_neg (by omega)]
      exact fin _ (by rw[Oj hm];rfl)
    ·rw[List.getElem_set_ne (by omega)];exact hC5 q (by simpa using hq) (by omega)
    ·have hs1:=Ty (b:=4294967296) out i d (by omega)
     rw[hC5 i (by omega) (by omega)] at hs1
     rw[Qg,Qg]
     have e3:=congrArg (· * 4294967296 ^ i) he
     simp only[Nat.add_mul] at e3
     have e4:4294967296 ^ (i+1)=4294967296*4294967296 ^ i:=by rw[Nat.pow_succ,Nat.mul_comm]
     rw[e4]
     generalize 4294967296 ^ i=P at *
     generalize l.getD i 0=a at *
     generalize r.getD i 0=b at *
     have e5:b' * (4294967296*P)=4294967296*b' * P:=by grind
     have e7:P*a=a*P:=Nat.mul_comm _ _
     have e8:P*b=b*P:=Nat.mul_comm _ _
     omega
   ·right
    obtain rfl:i=l.length:=by omega
    rw[if_neg (by omega)]
    rw[List.take_of_length_le (by omega),List.take_of_length_le (by omega)] at hC6
    refine ⟨_,rfl,out,rfl,hC1,?_⟩
    rw[Sb (b:=4294967296) (by omega) out hC4]
    have hlt:=Amf out hC4
    rw[hC1] at hlt
    have:bw=0\/bw=1:=by omega
    rcases this with rfl | rfl
    ·rw[show val 4294967296 out=val 4294967296 l-val 4294967296 r by omega]
    ·omega)
  (nI (List.replicate l.length 0),((0:Nat):Int),((0:Nat):Int)) ⟨_,0,0,rfl,by omega,by simp,by omega,by simp,by simp,by simp[val,Vb]⟩
 unfold Li
 simp only[jn_d,Cc,Int.toNat_natCast,Ur]
 rw[gd_t ⟨by omega,by omega⟩]
 have ht':lfix (Lv (nI l) (nI r)) (nI (List.replicate l.length 0),0,0)=some (nI out):=ht
 rw[ht',Ad,Vs _ (by omega),Ad,hd];rfl
theorem W_lt {a:Nat}:∀ x∈dig 4294967296 a,x < 4294967296:=Aai (by omega) a
theorem Arj {a b:Nat} (ha:(dig 4294967296 a).length<=100000) (hb:(dig 4294967296 b).length<=100000):Nq (L32 a) (L32 b)=some (L32 (a+b)):=by
 have:=Axw _ _ (W_lt (a:=a)) (W_lt (a:=b)) ha hb
 rwa [Ee (by omega),Ee (by omega)] at this
theorem Ao5 {a b:Nat} (h:a<=b):(dig 4294967296 a).length<=(dig 4294967296 b).length:=by
 rcases Nat.lt_or_ge (dig 4294967296 b).length (dig 4294967296 a).length with h1 | h1
 ·have:=Wd (b:=4294967296) (by omega) h1;omega
 ·exact h1
theorem Ahm {a b:Nat} (ha:(dig 4294967296 a).length<=100000) (h:b<=a):Li (L32 a) (L32 b)=some (L32 (a-b)):=by
 have:=Axx _ _ (W_lt (a:=a)) (W_lt (a:=b)) ha (Ao5 h) (by rw[Ee (by omega),Ee (by omega)];exact h)
 rwa [Ee (by omega),Ee (by omega)] at this
theorem Aby {a b:Nat} (h:(dig 4294967296 a).length+(dig 4294967296 b).length<=1000000):Co (L32 a) (L32 b)=some (L32 (a*b)):=by
 have:=Ard _ _ (W_lt (a:=a)) (W_lt (a:=b)) h
 rwa [Ee (by omega),Ee (by omega)] at this
theorem Ahn {n:Nat} (h:n<=18446744073709551615):Oh (n:Int)=some (L32 n):=by
 unfold Oh
 have:=Vs [n % 4294967296,n / 4294967296 % 4294967296] (by simp)
 rw[show [wu32 (n:Int),wu32 (shr_ .u64 (n:Int) 32)]=nI [n % 4294967296,n / 4294967296 % 4294967296] from by rw[Arc,Aay,Aay];rfl,this,Ad,Ap4 n h]
 rfl
theorem Axy {s:Bool} {z:Int} (hs:z≠0->s=decide (z < 0)):Lw ⟨s,L32 z.natAbs,[1]⟩=some (Int.sign z):=by
 unfold Lw
 simp only[]
 by_cases h0:z=0
 ·subst h0;rfl
 ·have:(L32 z.natAbs).length≠0:=fun e=>h0 (by have:=Yh.1 e;omega)
  rw[if_neg (by omega),hs h0]
  by_cases h1:z < 0
  ·rw[if_pos (by simpa using h1),Int.sign_eq_neg_one_of_neg h1]
  ·rw[if_neg (by simpa using h1),Int.sign_eq_one_of_pos (by omega)]
end Go.Proofs.YtjfndjmabhbicaaGreat
