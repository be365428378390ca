import Derived.Test.YthlkpgdfifnagaaGreatI13
namespace Go.Proofs.YthlkpgdfifnagaaGreat
open Go Go.RowKit List
def L16(m:Nat):List Int:=nI (dig 65536 m)
def Z16(z:Int):Af:=⟨decide (z<0),L16 z.natAbs⟩
theorem Ay5{l:List Nat}{k:Nat}:(nI l).take k=nI (l.take k):=by simp[nI]
theorem Ajp:∀ (l:List Nat),nrm (l++[0])=nrm l
 | []=>rfl
 | x::r=>by simp only[cons_append,nrm];rw[Ajp r]
theorem Am2:∀ (l:List Nat) {x:Nat},x≠0->nrm (l++[x])=l++[x]
 | [],x,h=>by simp[nrm,h]
 | y::r,x,h=>by
  simp only[cons_append,nrm];rw[Am2 r h];cases r <;> rfl
theorem Ads(l:List Nat)(h9:l.length<=1000000000):Bq (nI l)=some (nI (nrm l)):=by
 obtain⟨t,ht,k,rfl,hk,hn⟩:=Bn (B:=Oj (nI l)) (fun s=>s.toNat)
  (fun s=>∃ k:Nat,s=(k:Int)/\k<=l.length/\nrm (l.take k)=nrm l)
  (fun t=>∃ k:Nat,t=(k:Int)/\k<=l.length/\l.take k=nrm l) (by
   rintro s ⟨k,rfl,hk,hn⟩;unfold Oj;simp only[jn_d]
   by_cases h0:k=0
   ·right;subst h0;refine⟨((0:Nat):Int),by rw[if_neg oo];rfl,0,rfl,oo,?_⟩;rw[<- hn];rfl
   ·have h1:k-1<l.length:=oo;rw[if_pos oo,show ((k:Int)-1)=((k-1:Nat):Int) from by omega,Qb oo,Dy h1,Ad];have e:l.take k=l.take (k-1)++[l[k-1]]:=by
     obtain⟨q,rfl⟩:=Nat.exists_eq_succ_of_ne_zero h0;simp only[Nat.succ_eq_add_one,Nat.add_sub_cancel] at h1 ⊢;rw[take_add_one,List.getElem?_eq_getElem h1];rfl
    by_cases hz:l[k-1]=0
    ·left;refine⟨((k-1:Nat):Int),by rw[if_pos (by simp[hz])],⟨k-1,rfl,oo,?_⟩,oo⟩;rw[<- hn,e,hz,Ajp]
    ·right;refine⟨(k:Int),by rw[if_neg (by simp;omega)],k,rfl,hk,?_⟩;rw[<- hn,e,Am2 _ hz])
  (l.length:Int) ⟨l.length,rfl,oo,by rw[take_length]⟩
 unfold Bq;simp only[jn_d,Cl];rw[ht,Ad,gd_t oo,Aqh,Int.toNat_natCast,Ay5,hn]
theorem Aow(a:Nat):Int.tmod (a:Int) 65536=((a % 65536:Nat):Int):=by rw[Int.tmod_eq_emod_of_nonneg oo];omega
theorem Aox(a:Nat):Int.tdiv (a:Int) 65536=((a / 65536:Nat):Int):=by rw[Int.tdiv_eq_ediv_of_nonneg oo];omega
theorem Eu{m : Nat}: ∀ {k : Nat}, m<65536 ^ k -> (dig 65536 m).length <= k := by
  intro k
  induction k generalizing m with
  | zero => intro h;obtain rfl : m = 0 := by simpa using h
            simp[Qj]
  | succ k ih=>
    intro h
    by_cases h0 : m = 0
    · subst h0;simp[Qj]
    · rw[Qz oo h0, length_cons];have := ih (m := m / 65536) (Nat.div_lt_of_lt_mul (by rw[Nat.pow_succ, Nat.mul_comm] at h;exact h));omega
theorem Xv{z:Int}(h1:-9223372036854775808<=z)(h2:z<=9223372036854775807):Be z=some (Z16 z):=by
 have key:∀ m:Nat,m<18446744073709551616->lfix Ji ((m:Int),([]:List Int))=some (L16 m):=by
  intro m hm;have h4:(dig 65536 m).length<=4:=Eu oo;obtain⟨t,ht,hR⟩:=Bn (B:=Ji) (fun s=>s.1.toNat)
   (fun s=>∃ (u:Nat) (o:List Nat),s=((u:Int),nI o)/\dig 65536 m=o++dig 65536 u/\u<18446744073709551616)
   (fun t=>t=L16 m) (by
    rintro s ⟨u,o,rfl,hd,hu⟩;unfold Ji
    by_cases h0:u=0
    ·right;subst h0;exact⟨_,by simp only[];rw[if_neg oo],by rw[Qj,append_nil] at hd;unfold L16;rw[hd]⟩
    ·left;have ho:o.length<=4:=by have:=congrArg List.length hd;rw[length_append] at this;omega
     refine⟨(((u / 65536:Nat):Int),nI (o++[u % 65536])),?_,⟨u / 65536,_,rfl,?_,oo⟩,by simp;omega⟩
     ·simp only[Cl];rw[if_pos oo,gd_t oo,Aox,Aow,Qb oo,Pj oo];simp[nI]
     ·rw[hd,Qz oo h0,append_assoc];rfl)
   ((m:Int),nI []) ⟨m,[],rfl,rfl,hm⟩
  rw[<- hR];exact ht
 unfold Be;simp only[jn_d]
 by_cases h:z<0
 ·rw[if_pos h,show wu64 (-(wu64 z))=((z.natAbs:Nat):Int) from by rw[Ub,Ub];omega,key _ oo,Ad];rfl
 ·rw[if_neg h,show wu64 z=((z.natAbs:Nat):Int) from by rw[Ub];omega,key _ oo,Ad];rfl
theorem Ay6(l r:List Nat)(hl:∀ x∈l,x<65536)(hr:∀ x∈r,x<65536)(hb:l.length+r.length<=1000000):
  Cq (nI l) (nI r)=some (L16 (val 65536 l*val 65536 r)):=by
 have e:w64 ((((nI l).length:Nat):Int)+(((nI r).length:Nat):Int))=((l.length+r.length:Nat):Int):=by rw[Cl,Cl,As oo oo];omega
 obtain⟨t,ht,out,rfl,hd⟩:=Bn (B:=Gu (nI l) (nI r)) (fun s=>l.length-s.2.toNat)
  (fun s=>∃ (out:List Nat) (i:Nat),s=(nI out,(i:Int))/\out.length=l.length+r.length/\i<=l.length/\(∀ x∈out,x<65536)/\(∀ (q:Nat) (h:q<out.length),i+r.length<=q->out[q]=0)/\val 65536 out=val 65536 (l.take i)*val 65536 r)
  (fun t=>∃ out,t=nI out/\out.length<=1000000000/\nrm out=dig 65536 (val 65536 l*val 65536 r)) (by
   rintro s ⟨out0,i,rfl,hC1,hC2,hC3,hC4,hC5⟩
   by_cases hi:i<l.length
   ·left;obtain⟨t,ht,out,cy,rfl,hD1,hD2,hD4,hD5,hD6⟩:=Bn (B:=Gt (nI r) (nI l) (nI out0,(i:Int))) (fun s=>r.length-s.2.2.toNat)
     (fun s=>∃ (out:List Nat) (cy j:Nat),s=(nI out,(cy:Int),(j:Int))/\out.length=l.length+r.length/\cy<65536/\j<=r.length/\(∀ x∈out,x<65536)/\(∀ (q:Nat) (h:q<out.length),i+r.length<=q->out[q]=0)/\val 65536 out+cy*65536 ^ (i+j)=val 65536 out0+l[i] * val 65536 (r.take j)*65536 ^ i)
     (fun t=>∃ (out:List Nat) (cy:Nat),t=(nI out,(cy:Int))/\out.length=l.length+r.length/\cy<65536/\(∀ x∈out,x<65536)/\(∀ (q:Nat) (h:q<out.length),i+r.length<=q->out[q]=0)/\val 65536 out+cy*65536 ^ (i+r.length)=val 65536 out0+l[i] * val 65536 (r.take r.length)*65536 ^ i) (by
      rintro s ⟨out,cy,j,rfl,hD1,hD2,hD3,hD4,hD5,hD6⟩
      by_cases hj:j<r.length
      ·left;have hk:i+j<out.length:=oo;have h1:=hl _ (getElem_mem hi);have h2:=hr _ (getElem_mem hj);have h3:=hD4 _ (getElem_mem hk);have hmm:=Aml h1 h2;have e1:w64 ((i:Int)+(j:Int))=((i+j:Nat):Int):=by rw[As oo oo];omega
       have e2:w64 (w64 (w64 ((l[i]:Int)*(r[j]:Int))+(out[i+j]:Int))+(cy:Int))=((l[i] * r[j] + out[i+j] + cy:Nat):Int):=by
        have e3:w64 ((l[i]:Int)*(r[j]:Int))=((l[i] * r[j]:Nat):Int):=by rw[<- Int.natCast_mul];exact Qb oo
        rw[e3,<- Int.natCast_add,Qb oo,<- Int.natCast_add,Qb oo]
       have e4:w64 (((l[i] * r[j] + out[i+j] + cy) / 65536:Nat):Int)=(((l[i] * r[j] + out[i+j] + cy) / 65536:Nat):Int):=Qb oo;refine⟨(nI (out.set (i+j) ((l[i] * r[j] + out[i+j] + cy) % 65536)),(((l[i] * r[j] + out[i+j] + cy) / 65536:Nat):Int),((j+1:Nat):Int)),?_,⟨_,_,_,rfl,Amm hi hj rfl rfl h1 h2 hD1 hD2 hD3 hD4 hD5 hD6 hk⟩,by simp;omega⟩;unfold Gt;simp only[e1];rw[if_pos (by rw[Cl];omega),Dy hi,Ad,Dy hj,Ad,Dy hk,Ad,Ad,e2,Aow,Aox,e4,Ur,Bd oo]
      ·right;obtain rfl:j=r.length:=oo;refine⟨(nI out,(cy:Int)),?_,out,cy,rfl,hD1,hD2,hD4,hD5,hD6⟩;unfold Gt;simp only[];rw[if_neg (by rw[Cl];omega)])
     (nI out0,((0:Nat):Int),((0:Nat):Int)) ⟨out0,0,0,rfl,hC1,oo,oo,hC3,fun q hq hiq=>hC4 q hq oo,by simp[val]⟩
    have hk:i+r.length<out.length:=oo;refine⟨(nI (out.set (i+r.length) (cy % 65536)),((i+1:Nat):Int)),?_,⟨_,_,rfl,Amn hi rfl rfl hD1 hD2 hD4 hD5 hD6 hC5 rfl⟩,by simp;omega⟩;unfold Gu;simp only[jn_d];have ht':lfix (Gt (nI r) (nI l) (nI out0,(i:Int))) (nI out0,0,0)=some (nI out,(cy:Int)):=ht;rw[if_pos (by rw[Cl];omega),ht',Ad,Cl,show w64 ((i:Int)+(r.length:Int))=((i+r.length:Nat):Int) from by rw[As oo oo];omega,Dy hk,Ad];simp only[];rw[Ur,Bd oo,Nat.mod_eq_of_lt hD2]
   ·right;refine⟨nI out0,?_,out0,rfl,oo,Aol (i:=i) oo rfl hC1 hC3 hC5⟩;unfold Gu;simp only[];rw[if_neg (by rw[Cl];omega)])
  (nI (List.replicate (l.length+r.length) 0),((0:Nat):Int)) ⟨_,0,rfl,s_,oo,s_,s_,by simp[val,Xp]⟩
 unfold Cq;simp only[e,jn_d,Int.toNat_natCast,Xw];have ht':lfix (Gu (nI l) (nI r)) (nI (List.replicate (l.length+r.length) 0),0)=some (nI out):=ht;rw[gd_t ⟨oo,oo⟩,ht',Ad,Ads _ hd.1,Ad,hd.2];rfl
theorem Avt(a b:Nat)(ha:(dig 65536 a).length<=1000000):Ec (L16 a) (L16 b)=some (cmpN a b):=by
 unfold Ec L16;rw[Cl,Cl]
 by_cases hlen:(dig 65536 a).length=(dig 65536 b).length
 ·obtain⟨t,ht,hR⟩:=Bn (B:=Lk (nI (dig 65536 a)) (nI (dig 65536 b))) (fun s=>(s+1).toNat)
   (fun s=>∃ k:Nat,s=(k:Int)-1/\k<=(dig 65536 a).length/\∀ (j:Nat) (h:j<(dig 65536 a).length) (h':j<(dig 65536 b).length),k<=j->(dig 65536 a)[j]=(dig 65536 b)[j])
   (fun t=>(t = .inl ()/\cmpN a b=0)\/t = .inr (cmpN a b)) (by
    rintro s ⟨k,rfl,hk,heq⟩;unfold Lk
    by_cases h0:k=0
    ·right;subst h0;refine⟨_,by rw[if_neg oo],.inl ⟨rfl,Au3 oo hlen (fun j h h'=>heq j h h' oo)⟩⟩
    ·have h1:k-1<(dig 65536 a).length:=oo;have h2:k-1<(dig 65536 b).length:=oo;have hat:=Au2 (b:=65536) oo hlen h1 h2 (fun j h h' hj=>heq j h h' oo);rw[if_pos oo,show ((k:Int)-1)=((k-1:Nat):Int) from by omega,Dy h1,Ad,Dy h2,Ad]
     by_cases he:(dig 65536 a)[k-1]=(dig 65536 b)[k-1]
     ·left;refine⟨((k-1:Nat):Int)-1,by rw[if_pos (by rw[he]),As oo oo],⟨k-1,rfl,oo,fun j h h' hj=>?_⟩,oo⟩;rcases Nat.lt_or_ge (k-1) j with hq | hq
      ·exact heq j h h' oo
      ·obtain rfl:j=k-1:=oo;exact he
     ·right;rw[if_neg oo,Ad,Ad]
      by_cases hlt:(dig 65536 a)[k-1]<(dig 65536 b)[k-1]
      ·exact⟨_,by rw[if_pos oo],.inr (by rw[hat.1 hlt])⟩
      ·exact⟨_,by rw[if_neg oo],.inr (by rw[hat.2 oo])⟩)
   (((dig 65536 a).length:Int)-1) ⟨_,rfl,Nat.le_refl _,fun j h h' hj=>oo⟩
  rw[if_pos oo,jn_d,As oo oo,ht,Ad];rcases hR with⟨rfl,h0⟩ | rfl
  ·simp only[h0]
  ·rfl
 ·rw[if_neg oo]
  by_cases hlt:(dig 65536 a).length<(dig 65536 b).length
  ·rw[if_pos oo,(Af8 (b:=65536) oo rfl rfl).1 hlt]
  ·rw[if_neg oo,(Af8 (b:=65536) oo rfl rfl).2 oo]
theorem Ba5:([1]:List Int)=L16 1:=by unfold L16;rw[Af7 oo];rfl
theorem Asy(l r o:List Nat)(cy i:Nat)(hl:∀ x∈l,x<65536)(hr:∀ x∈r,x<65536)(hcy:cy<=1)(hi:i<=1000001)(ho:o.length=i):
  Hr (nI r) (nI l) (nI o,(cy:Int),(i:Int))=if i<l.length\/i<r.length\/0<cy then some (.inl (nI (o++[(cy+l.getD i 0+r.getD i 0) % 65536]),(((cy+l.getD i 0+r.getD i 0) / 65536:Nat):Int),((i+1:Nat):Int))) else some (.inr (nI o)):=by
 have h1:=Abk hl i;have h2:=Abk hr i;have fin:∀ s:Nat,s<=131071->(nI o++[Int.tmod (s:Int) 65536],w64 (Int.tdiv (s:Int) 65536),w64 ((i:Int)+1))=(nI (o++[s % 65536]),((s / 65536:Nat):Int),((i+1:Nat):Int)):=by
  intro s hs;rw[Aow,Aox,Qb oo,Bd oo];simp[nI]
 unfold Hr;simp only[jn_d,Cl]
 by_cases hn:i<l.length
 ·rw[if_pos (show (i:Int)<(l.length:Int) by omega),if_pos trivial,if_pos (show (i:Int)<(l.length:Int) by omega),Dy hn,Ad,if_pos (show i<l.length\/i<r.length\/0<cy from .inl hn)];rw[show w64 ((cy:Int)+(l[i]:Int))=((cy+l.getD i 0:Nat):Int) from by rw[Us hn] at *;rw[As oo oo];omega]
  by_cases hm:i<r.length
  ·rw[if_pos (show (i:Int)<(r.length:Int) by omega),Dy hm,Ad,gd_t oo];rw[show w64 (((cy+l.getD i 0:Nat):Int)+(r[i]:Int))=((cy+l.getD i 0+r.getD i 0:Nat):Int) from by rw[Us hm] at *;rw[As oo oo];omega];rw[fin _ oo]
  ·rw[if_neg (show ¬ (i:Int)<(r.length:Int) by omega),gd_t oo,fin _ oo,Ql hm];rfl
 ·rw[if_neg (show ¬ (i:Int)<(l.length:Int) by omega)]
  by_cases hm:i<r.length
  ·rw[if_pos (show (i:Int)<(r.length:Int) by omega),if_pos trivial,if_neg (show ¬ (i:Int)<(l.length:Int) by omega),if_pos (show (i:Int)<(r.length:Int) by omega),Dy hm,Ad,gd_t oo,if_pos (show i<l.length\/i<r.length\/0<cy from .inr (.inl hm)),Ql hn,Nat.add_zero];rw[show w64 ((cy:Int)+(r[i]:Int))=((cy+r.getD i 0:Nat):Int) from by rw[Us hm] at *;rw[As oo oo];omega];rw[fin _ oo]
  ·rw[if_neg (show ¬ (i:Int)<(r.length:Int) by omega)]
   by_cases hc:0<cy
   ·rw[if_pos (by simpa using hc),if_neg (show ¬ (i:Int)<(l.length:Int) by omega),if_neg (show ¬ (i:Int)<(r.length:Int) by omega),gd_t oo,fin _ oo,if_pos (show i<l.length\/i<r.length\/0<cy from .inr (.inr hc)),Ql hn,Ql hm];rfl
   ·rw[if_neg (by simpa using hc),if_neg oo]
theorem Bcd(l r:List Nat)(hl:∀ x∈l,x<65536)(hr:∀ x∈r,x<65536)(h1:l.length<=1000000)(h2:r.length<=1000000):
  Hc (nI l) (nI r)=some (L16 (val 65536 l+val 65536 r)):=by
 obtain⟨t,ht,out,rfl,hd⟩:=Bn (B:=Hr (nI r) (nI l)) (fun s=>2*(max l.length r.length-s.2.2.toNat)+s.2.1.toNat)
  (fun s=>∃ (o:List Nat) (cy i:Nat),s=(nI o,(cy:Int),(i:Int))/\o.length=i/\cy<=1/\i<=max l.length r.length+1/\(i=max l.length r.length+1->cy=0)/\(∀ x∈o,x<65536)/\val 65536 o+cy*65536 ^ i=val 65536 (l.take i)+val 65536 (r.take i))
  (fun t=>∃ out,t=nI out/\out.length<=1000000000/\nrm out=dig 65536 (val 65536 l+val 65536 r)) (by
   rintro s ⟨o,cy,i,rfl,hC1,hC2,hC3,hC0,hC4,hC5⟩;have g1:=Abk hl i;have g2:=Abk hr i;rw[Asy l r o cy i hl hr hC2 oo hC1]
   by_cases hc:i<l.length\/i<r.length\/0<cy
   ·left;rw[if_pos hc];refine⟨_,rfl,⟨_,_,_,rfl,by simp[hC1],oo,oo,fun he=>?_,?_,?_⟩,?_⟩
    ·rw[Ql (show ¬ i<l.length by omega),Ql (show ¬ i<r.length by omega)];omega
    ·intro x hx;rcases mem_append.1 hx with hx | hx
     ·exact hC4 x hx
     ·simp at hx;omega
    ·rw[Vs,hC1,Sj,Sj];have e:val 65536 [(cy+l.getD i 0+r.getD i 0) % 65536]=(cy+l.getD i 0+r.getD i 0) % 65536:=by simp[val]
     rw[e];have e2:=Nat.div_add_mod (cy+l.getD i 0+r.getD i 0) 65536;have e3:=congrArg (· * 65536 ^ i) e2;simp only[Nat.add_mul] at e3;have e4:65536 ^ (i+1)=65536*65536 ^ i:=by rw[Nat.pow_succ,Nat.mul_comm]
     rw[e4];generalize 65536 ^ i=P at *;generalize (cy+l.getD i 0+r.getD i 0) % 65536=M at *;generalize (cy+l.getD i 0+r.getD i 0) / 65536=D at *;generalize l.getD i 0=a at *;generalize r.getD i 0=b at *;have e5:D*(65536*P)=65536*D*P:=by grind
     have e6:P*M=M*P:=Nat.mul_comm _ _;have e7:P*a=a*P:=Nat.mul_comm _ _;have e8:P*b=b*P:=Nat.mul_comm _ _;omega
    ·simp only[Int.toNat_natCast]
     by_cases hb:i<l.length\/i<r.length
     ·omega
     ·rw[Ql (show ¬ i<l.length by omega),Ql (show ¬ i<r.length by omega)];omega
   ·right;rw[if_neg hc];refine⟨_,rfl,o,rfl,oo,?_⟩;have:cy=0:=oo;subst this;rw[Vr (b:=65536) oo o hC4];rw[take_of_length_le oo,take_of_length_le oo] at hC5;rw[show val 65536 o=val 65536 l+val 65536 r by omega])
  (nI [],((0:Nat):Int),((0:Nat):Int)) ⟨[],0,0,rfl,rfl,oo,oo,oo,s_,by simp[val]⟩
 unfold Hc;have ht':lfix (Hr (nI r) (nI l)) ([],0,0)=some (nI out):=ht;simp only[jn_d];rw[ht',Ad,Ads _ hd.1,Ad,hd.2];rfl
theorem Asz(l r o:List Nat)(bw i:Nat)(hi:i<l.length)(hl:∀ x∈l,x<65536)(hr:∀ x∈r,x<65536)(hb:bw<=1)(h9:l.length<=1000000)(ho:o.length=i):
  ∃ d b':Nat,Fu (nI l) (nI r) (nI o,(bw:Int),(i:Int))=some (.inl (nI (o++[d]),(b':Int),((i+1:Nat):Int)))/\d<65536/\b'<=1/\d+bw+r.getD i 0=l.getD i 0+65536*b':=by
 have h1:=Abk hl i;have h2:=Abk hr i;unfold Fu;simp only[jn_d,Cl];rw[if_pos (show (i:Int)<(l.length:Int) by omega),Dy hi,Ad];rw[Us hi] at *;have fin:∀ t:Int,t=(l[i]:Int)-bw-(r.getD i 0:Int)->∃ d b':Nat,(if t<0 then gd (((nI o).length+1)*8<=140737488355328) (some (Sum.inl (β:=List Int) (nI o++[w64 (t+65536)],(1:Int),w64 ((i:Int)+1)))) else gd (((nI o).length+1)*8<=140737488355328) (some (.inl (nI o++[t],(0:Int),w64 ((i:Int)+1)))))=some (.inl (nI (o++[d]),(b':Int),((i+1:Nat):Int)))/\d<65536/\b'<=1/\d+bw+r.getD i 0=l[i] + 65536*b':=by
  intro t ht;rw[gd_t (by rw[Cl];omega),gd_t (by rw[Cl];omega),Bd oo]
  by_cases h0:t<0
  ·refine⟨(t+65536).toNat,1,?_,oo,oo,oo⟩;rw[if_pos h0,As oo oo];simp[nI,Int.toNat_of_nonneg (show 0<=t+65536 by omega)]
  ·refine⟨t.toNat,0,?_,oo,oo,oo⟩;rw[if_neg h0];simp[nI,Int.toNat_of_nonneg (show 0<=t by omega)]
 by_cases hm:i<r.length
 ·rw[if_pos (show (i:Int)<(r.length:Int) by omega),Dy hm,Ad];have:=fin (w64 (w64 ((l[i]:Int)-(bw:Int))-(r[i]:Int))) (by rw[Us hm] at *;rw[As (x:=(l[i]:Int)-(bw:Int)) oo oo,As oo oo]);simpa only[Cl] using this
 ·rw[if_neg (show ¬ (i:Int)<(r.length:Int) by omega)];have:=fin (w64 ((l[i]:Int)-(bw:Int))) (by rw[Ql hm,As oo oo];omega);simpa only[Cl] using this
theorem Bce(l r:List Nat)(hl:∀ x∈l,x<65536)(hr:∀ x∈r,x<65536)(h1:l.length<=1000000)(h2:r.length<=l.length)(hle:val 65536 r<=val 65536 l):
  Eh (nI l) (nI r)=some (L16 (val 65536 l-val 65536 r)):=by
 obtain⟨t,ht,out,rfl,hd⟩:=Bn (B:=Fu (nI l) (nI r)) (fun s=>l.length-s.2.2.toNat)
  (fun s=>∃ (o:List Nat) (bw i:Nat),s=(nI o,(bw:Int),(i:Int))/\o.length=i/\bw<=1/\i<=l.length/\(∀ x∈o,x<65536)/\val 65536 o+val 65536 (r.take i)=val 65536 (l.take i)+bw*65536 ^ i)
  (fun t=>∃ out,t=nI out/\out.length<=1000000000/\nrm out=dig 65536 (val 65536 l-val 65536 r)) (by
   rintro s ⟨o,bw,i,rfl,hC1,hC2,hC3,hC4,hC5⟩
   by_cases hi:i<l.length
   ·left;obtain⟨d,b',hB,hd1,hb1,he⟩:=Asz l r o bw i hi hl hr hC2 h1 hC1;refine⟨_,hB,⟨_,_,_,rfl,by simp[hC1],hb1,oo,?_,?_⟩,by simp;omega⟩
    ·intro x hx;rcases mem_append.1 hx with hx | hx
     ·exact hC4 x hx
     ·simp at hx;omega
    ·rw[Vs,hC1,Sj,Sj];have e:val 65536 [d]=d:=by simp[val]
     rw[e];have e3:=congrArg (· * 65536 ^ i) he;simp only[Nat.add_mul] at e3;have e4:65536 ^ (i+1)=65536*65536 ^ i:=by rw[Nat.pow_succ,Nat.mul_comm]
     rw[e4];generalize 65536 ^ i=P at *;generalize l.getD i 0=a at *;generalize r.getD i 0=b at *;have e5:b' * (65536*P)=65536*b' * P:=by grind
     have e6:P*d=d*P:=Nat.mul_comm _ _;have e7:P*a=a*P:=Nat.mul_comm _ _;have e8:P*b=b*P:=Nat.mul_comm _ _;omega
   ·right;have hil:i=l.length:=oo;refine⟨nI o,?_,o,rfl,oo,?_⟩
    ·unfold Fu;simp only[Cl];rw[if_neg oo]
    ·rw[take_of_length_le oo,take_of_length_le oo] at hC5;rw[Vr (b:=65536) oo o hC4];have hlt:=Aef o hC4;rw[hC1] at hlt;have:bw=0\/bw=1:=oo;rcases this with rfl | rfl
     ·rw[show val 65536 o=val 65536 l-val 65536 r by omega]
     ·omega)
  (nI [],((0:Nat):Int),((0:Nat):Int)) ⟨[],0,0,rfl,rfl,oo,oo,s_,by simp[val]⟩
 unfold Eh;have ht':lfix (Fu (nI l) (nI r)) ([],0,0)=some (nI out):=ht;simp only[jn_d];rw[ht',Ad,Ads _ hd.1,Ad,hd.2];rfl
theorem Agc{a:Nat}:(L16 a).length=0↔a=0:=by
 unfold L16;rw[Cl,length_eq_zero_iff,Uq oo]
theorem Aej{a:Nat}:∀ x∈dig 65536 a,x<65536:=Nq oo a
theorem Avu{a b:Nat}(ha:(dig 65536 a).length<=1000000)(hb:(dig 65536 b).length<=1000000):Hc (L16 a) (L16 b)=some (L16 (a+b)):=by
 have:=Bcd _ _ (Aej (a:=a)) (Aej (a:=b)) ha hb
 rwa [Di oo,Di oo] at this
theorem Rr{a b:Nat}(h:a<=b):(dig 65536 a).length<=(dig 65536 b).length:=by
 rcases Nat.lt_or_ge (dig 65536 b).length (dig 65536 a).length with h1 | h1
 ·have:=Yq (b:=65536) oo h1;omega
 ·exact h1
theorem Ak4{a b:Nat}(ha:(dig 65536 a).length<=1000000)(h:b<=a):Eh (L16 a) (L16 b)=some (L16 (a-b)):=by
 have:=Bce _ _ (Aej (a:=a)) (Aej (a:=b)) ha (Rr h) (by rw[Di oo,Di oo];exact h)
 rwa [Di oo,Di oo] at this
theorem Abh{a b:Nat}(h:(dig 65536 a).length+(dig 65536 b).length<=1000000):Cq (L16 a) (L16 b)=some (L16 (a*b)):=by
 have:=Ay6 _ _ (Aej (a:=a)) (Aej (a:=b)) h
 rwa [Di oo,Di oo] at this
theorem Ab9{z:Int}:(Z16 z).L=L16 z.natAbs:=rfl
theorem Nh{z:Int}:(Z16 z).Neg=decide (z<0):=rfl
theorem Aho{b:Bool}{l:List Int}{z:Int}(h1:b=decide (z<0))(h2:l=L16 z.natAbs):(some ⟨b,l⟩:Option Af)=some (Z16 z):=by subst h1;subst h2;rfl
theorem Ba6{x y:Int}(hx:(dig 65536 x.natAbs).length<=1000000)(hy:(dig 65536 y.natAbs).length<=1000000):Ii (Z16 x) (Z16 y)=some (Z16 (x+y)):=by
 unfold Ii;simp only[Ab9]
 by_cases hs':x<0↔y<0
 ·rw[if_pos (by rw[Nh,Nh];by_cases h:x<0 <;> simp[h] <;> omega),Avu hx hy,Ad];refine Aho ?_ ?_
  ·rw[Nh];by_cases h:x<0 <;> simp[h] <;> omega
  ·congr 1;omega
 ·rw[if_neg (by rw[Nh,Nh];by_cases h:x<0 <;> simp[h] <;> omega),Avt _ _ hx,Ad]
  by_cases h1:x.natAbs<y.natAbs
  ·rw[show cmpN x.natAbs y.natAbs = -1 from if_pos h1,if_neg dD,if_neg dD,Ak4 hy oo,Ad];refine Aho ?_ ?_
   ·rw[Nh];by_cases h:y<0 <;> simp[h] <;> omega
   ·congr 1;omega
  ·by_cases h2:x.natAbs=y.natAbs
   ·rw[show cmpN x.natAbs y.natAbs=0 from (if_neg h1).trans (if_pos h2),if_pos rfl];have:x+y=0:=oo;rw[this];rfl
   ·rw[show cmpN x.natAbs y.natAbs=1 from (if_neg h1).trans (if_neg h2),if_neg dD,if_pos dD,Ak4 hx oo,Ad];refine Aho ?_ ?_
    ·rw[Nh];by_cases h:x<0 <;> simp[h] <;> omega
    ·congr 1;omega
theorem Avv{z y:Int}:(!(decide (z<0) == decide (y<0)) && !decide (z.natAbs*y.natAbs=0))=decide (z*y<0):=by
 by_cases hz0:z=0
 ·subst hz0;simp
 by_cases hy0:y=0
 ·subst hy0;simp
 have h1:z.natAbs*y.natAbs≠0:=Nat.mul_ne_zero oo oo;rw[decide_eq_false h1];rcases Int.lt_or_le z 0 with hz | hz
 ·rcases Int.lt_or_le y 0 with hy | hy
  ·have:=Int.mul_pos_of_neg_of_neg hz hy;rw[decide_eq_true hz,decide_eq_true hy,decide_eq_false (show ¬ z*y<0 by omega)];rfl
  ·have:=Int.mul_neg_of_neg_of_pos hz (show 0<y by omega);rw[decide_eq_true hz,decide_eq_false (show ¬ y<0 by omega),decide_eq_true this];rfl
 ·rcases Int.lt_or_le y 0 with hy | hy
  ·have:=Int.mul_neg_of_pos_of_neg (show 0<z by omega) hy;rw[decide_eq_true hy,decide_eq_false (show ¬ z<0 by omega),decide_eq_true this];rfl
  ·have:=Int.mul_pos (show 0<z by omega) (show 0<y by omega);rw[decide_eq_false (show ¬ z<0 by omega),decide_eq_false (show ¬ y<0 by omega),decide_eq_false (show ¬ z*y<0 by omega)];rfl
set_option maxRecDepth 100000 in
theorem Ajq{x y:Int}(h:(dig 65536 x.natAbs).length+(dig 65536 y.natAbs).length<=1000000):Ba (Z16 x) (Z16 y)=some (Z16 (x*y)):=by
 unfold Ba;simp only[Ab9,jn_d];rw[Abh h,Ad];have hsg:=Avv (z:=x) (y:=y);have e2:=Agc (a:=x.natAbs*y.natAbs)
 by_cases hs':x<0↔y<0
 ·rw[if_pos (by rw[Nh,Nh];by_cases h:x<0 <;> simp[h] <;> omega)];refine Aho ?_ (by rw[Int.natAbs_mul]);rw[<- hsg];have e:(decide (x<0) == decide (y<0))=true:=by by_cases h:x<0 <;> simp[h] <;> omega
  rw[e];rfl
 ·rw[if_neg (by rw[Nh,Nh];by_cases h:x<0 <;> simp[h] <;> omega)];refine Aho ?_ (by rw[Int.natAbs_mul]);rw[<- hsg];have e:(decide (x<0) == decide (y<0))=false:=by by_cases h:x<0 <;> simp[h] <;> omega
  rw[e]
  by_cases h0:x.natAbs*y.natAbs=0
  ·have:=e2.2 h0;rw[decide_eq_true h0,decide_eq_false oo];rfl
  ·have:(L16 (x.natAbs*y.natAbs)).length≠0:=fun e=>h0 (e2.1 e)
   rw[decide_eq_false h0,decide_eq_true oo];rfl
theorem Avw(a b:Nat):Int.tdiv (a:Int) (b:Int)=((a / b:Nat):Int):=(Int.ofNat_tdiv a b).symm
theorem Bd7(a b:Nat):Int.tmod (a:Int) (b:Int)=((a % b:Nat):Int):=(Int.ofNat_tmod a b).symm
theorem Si{b:Nat}(l:List Nat)(k:Nat)(h:k<l.length):val b (l.drop k)=l[k] + b*val b (l.drop (k+1)):=by
 rw[drop_eq_getElem_cons h];rfl
theorem Am3{B x H V:Nat}(hV:0<V):(x+B*H) / V=(H % V*B+x) / V+B*(H / V)/\(x+B*H) % V=(H % V*B+x) % V:=by
 have e:x+B*H=(H % V*B+x)+V*(B*(H / V)):=by
  have:=Nat.div_add_mod H V
  calc x+B*H=x+B*(V*(H / V)+H % V):=by rw[this]
   _=_:=by rw[Nat.mul_add,<- Nat.mul_assoc,Nat.mul_comm B V,Nat.mul_assoc,Nat.mul_comm B (H % V)];omega
 rw[e];exact⟨by rw[Nat.add_mul_div_left _ _ hV],by rw[Nat.add_mul_mod_self_left]⟩
theorem Ak5{B x r V:Nat}(hx:x<B)(hr:r<V):r*B+x<V*B:=by
 have:(r+1)*B<=V*B:=Nat.mul_le_mul_right _ hr;rw[Nat.succ_mul] at this;omega
theorem Aqw{r x:Nat}(hr:r<65536)(hx:x<65536):w64 (w64 ((r:Int)*65536)+(x:Int))=((r*65536+x:Nat):Int):=by
 rw[show ((r:Nat):Int)*65536=((r*65536:Nat):Int) by omega,Qb oo,<- Int.natCast_add,Qb oo]
theorem Aqx(l:List Nat)(d:Nat)(hl:∀ x∈l,x<65536)(hd:0<d)(hd2:d<=65536)(h1:l.length<=1000000):
  En (nI l) (d:Int)=some (L16 (val 65536 l / d),((val 65536 l % d:Nat):Int)):=by
 obtain⟨t,ht,o,rfl,ho1,ho3,ho2⟩:=Bn (B:=Ng (nI l) (d:Int)) (fun s=>(s.2.2+1).toNat)
  (fun s=>∃ (o:List Nat) (k:Nat),s=(nI o,((val 65536 (l.drop k) % d:Nat):Int),(k:Int)-1)/\o.length=l.length/\k<=l.length/\(∀ x∈o,x<65536)/\val 65536 (o.drop k)=val 65536 (l.drop k) / d)
  (fun t=>∃ o:List Nat,t=(nI o,((val 65536 l % d:Nat):Int))/\(∀ x∈o,x<65536)/\o.length<=1000000/\val 65536 o=val 65536 l / d) (by
   rintro s ⟨o,k,rfl,hC1,hC2,hC3,hC4⟩;unfold Ng
   by_cases hk:k=0
   ·right;subst hk;exact⟨_,by simp only[];rw[if_neg oo],o,by rw[drop_zero],hC3,oo,by simpa using hC4⟩
   ·left;have h1':k-1<l.length:=oo;have h2':k-1<o.length:=oo;have hx:=hl _ (getElem_mem h1');have hr:val 65536 (l.drop k) % d<d:=Nat.mod_lt _ hd;have e:val 65536 (l.drop (k-1))=l[k-1] + 65536*val 65536 (l.drop k):=by rw[Si l (k-1) h1',show k-1+1=k by omega]
    obtain⟨e1,e2⟩:=Am3 (B:=65536) (x:=l[k-1]) (H:=val 65536 (l.drop k)) hd;have hlt:=Ak5 hx hr;have hq:(val 65536 (l.drop k) % d*65536+l[k-1]) / d<65536:=Nat.div_lt_of_lt_mul oo;refine⟨(nI (o.set (k-1) ((val 65536 (l.drop k) % d*65536+l[k-1]) / d)),((val 65536 (l.drop (k-1)) % d:Nat):Int),((k-1:Nat):Int)-1),?_,⟨_,k-1,rfl,by simp[hC1],oo,?_,?_⟩,by simp;omega⟩
    ·simp only[];rw[if_pos oo,show ((k:Int)-1)=((k-1:Nat):Int) from by omega,Dy h1',Ad,gd_t oo,Dy h2',Ad,gd_t oo];have e3:=Aqw (r:=val 65536 (l.drop k) % d) (x:=l[k-1]) (Nat.lt_of_lt_of_le hr hd2) hx;have e4:w64 (((k-1:Nat):Int)-1)=((k-1:Nat):Int)-1:=by
      clear e e1 e2 e3 hlt hq hr hx hC4 hC3;exact As oo oo
     rw[e3,Avw,Bd7,Qb (Nat.le_trans (Nat.le_of_lt hq) dD),Ur,e,e2,e4]
    ·intro x hx';rcases mem_or_eq_of_mem_set hx' with h | rfl
     ·exact hC3 x h
     ·exact hq
    ·rw[Si _ _ (by simpa using h2'),getElem_set_self,show k-1+1=k by omega,drop_set_of_lt oo,hC4,e,e1])
  (nI (List.replicate l.length 0),0,(l.length:Int)-1) ⟨List.replicate l.length 0,l.length,by simp[val],s_,Nat.le_refl _,s_,by simp[val]⟩
 unfold En;simp only[jn_d,Cl,Int.toNat_natCast,Xw];rw[gd_t ⟨oo,oo⟩,As oo oo,ht,Ad];simp only[];rw[Ads _ oo,Ad,Vr oo o ho1,ho2];rfl
theorem Ahp:∀ {m:Nat},m≠0->65536 ^ ((dig 65536 m).length-1)<=m:=by
 intro m
 induction m using Nat.strongRecOn with
 | _ m ih=>
  intro h0;rw[Qz oo h0,length_cons,Nat.add_sub_cancel]
  by_cases h1:m / 65536=0
  ·rw[h1,Qj];simp;omega
  ·have h2:=ih (m / 65536) oo h1;have h3:(dig 65536 (m / 65536)).length≠0:=fun e=>h1 ((Uq oo).1 (length_eq_zero_iff.1 e))
   obtain⟨q,hq⟩:=Nat.exists_eq_succ_of_ne_zero h3;rw[hq] at h2 ⊢;rw[Nat.succ_sub_one] at h2;rw[Nat.succ_eq_add_one,Nat.pow_succ];generalize 65536 ^ q=z at *;omega
theorem Acz(m:Nat):m<65536 ^ (dig 65536 m).length:=by
 have:=Aef (b:=65536) (dig 65536 m) (Nq oo m)
 rwa [Di oo] at this
theorem Aca(l:List Nat)(k:Nat)(hk:k<=l.length):val 65536 l=val 65536 (l.take k)+65536 ^ k*val 65536 (l.drop k):=by
 have:=Vs (b:=65536) (l.take k) (l.drop k)
 rwa [take_append_drop,length_take,Nat.min_eq_left hk] at this
theorem Avx{l:List Nat}(hl:∀ x∈l,x<65536)(k:Nat)(hk:k<=l.length):val 65536 (l.drop k)=val 65536 l / 65536 ^ k:=by
 have h1:=Aca l k hk;have h2:=Aef (b:=65536) (l.take k) (fun x hx=>hl x (mem_of_mem_take hx));rw[length_take,Nat.min_eq_left hk] at h2;rw[h1,Nat.add_mul_div_left _ _ (Nat.pow_pos oo),Nat.div_eq_of_lt h2,Nat.zero_add]
theorem Vw{m k:Nat}(hk:k<=(dig 65536 m).length):val 65536 ((dig 65536 m).drop k)=m / 65536 ^ k:=by
 rw[Avx (Nq oo m) k hk,Di oo]
theorem Ak6{m:Nat}(h0:m≠0):∃ h:(dig 65536 m).length-1<(dig 65536 m).length,(dig 65536 m)[(dig 65536 m).length-1]=m / 65536 ^ ((dig 65536 m).length-1)/\0<m / 65536 ^ ((dig 65536 m).length-1):=by
 have h3:(dig 65536 m).length≠0:=fun e=>h0 ((Uq oo).1 (length_eq_zero_iff.1 e))
 have h1:=Vw (m:=m) (k:=(dig 65536 m).length-1) oo;refine⟨oo,?_,Nat.div_pos (Ahp h0) (Nat.pow_pos oo)⟩;rw[<- h1,Si _ _ oo,drop_eq_nil_of_le oo];simp[val]
theorem Aek{d:Nat}(h0:0<d)(h:d<65536):L16 d=[(d:Int)]:=by
 unfold L16;rw[Qz oo oo,Nat.mod_eq_of_lt h,Nat.div_eq_of_lt h,Qj];rfl
theorem Avy{R V B vt m1:Nat}(hvt:0<vt)(hV:vt*B ^ m1<=V)(hB:0<B):R / V<=R / B ^ m1 / vt:=by
 rw[Nat.div_div_eq_div_mul];have hp:0<B ^ m1:=Nat.pow_pos hB;exact Nat.div_le_div_left (by rw[Nat.mul_comm];exact hV) (Nat.mul_pos hp hvt)
theorem Wq{a:Nat}:(L16 a).length=(dig 65536 a).length:=Cl
theorem Ak7{l:List Nat}(hl:∀ x∈l,x<65536)(h:l.length<=1000000000):Bq (nI l)=some (L16 (val 65536 l)):=by
 rw[Ads l h,Vr oo l hl];rfl
theorem Am4{R V:Nat}:R-V*(R / V)=R % V:=by have:=Nat.div_add_mod R V;omega
theorem Bcf{g:Nat}(h:0<g)(h9:g<=65535):w64 ((g:Int)-1)=((g-1:Nat):Int):=by rw[As oo oo];omega
theorem Ay7{g:Nat}(h:0<g):((g-1:Nat):Int).toNat<(g:Int).toNat:=oo
theorem As0{R V g:Nat}(hg9:g<=65535)(hV:0<V)(hg:R / V<=g)(hl:(dig 65536 (V*g)).length<=1000000):
  lfix (Hh (L16 R) (L16 V)) ((g:Int),L16 (V*g))=some (((R / V:Nat):Int),L16 (V*(R / V))):=by
 obtain⟨t,ht,rfl⟩:=Bn (B:=Hh (L16 R) (L16 V)) (fun s=>s.1.toNat)
  (fun s=>∃ g':Nat,s=((g':Int),L16 (V*g'))/\R / V<=g'/\g'<=g)
  (fun t=>t=(((R / V:Nat):Int),L16 (V*(R / V)))) (by
   rintro s ⟨g',rfl,h1,h2⟩;have hlen:(dig 65536 (V*g')).length<=1000000:=Nat.le_trans (Rr (Nat.mul_le_mul_left V h2)) hl;unfold Hh;simp only[];rw[Avt _ _ hlen,Ad]
   by_cases hc:R<V*g'
   ·left;have hlt:R / V<g':=Nat.div_lt_of_lt_mul hc;have he:V*g'-V=V*(g'-1):=by rw[Nat.mul_sub,Nat.mul_one]
    have hpos:0<g':=Nat.lt_of_le_of_lt (Nat.zero_le _) hlt;have hge:V<=V*g':=Nat.le_mul_of_pos_right V hpos;refine⟨(((g'-1:Nat):Int),L16 (V*(g'-1))),?_,⟨g'-1,rfl,Nat.le_sub_one_of_lt hlt,Nat.le_trans (Nat.sub_le _ _) h2⟩,Ay7 hpos⟩;rw[if_pos (by unfold cmpN;rw[if_neg oo,if_neg oo];decide),Ak4 hlen hge,Ad,he];rw[Bcf hpos (Nat.le_trans h2 hg9)]
   ·right;have hle:g'<=R / V:=(Nat.le_div_iff_mul_le hV).2 (by rw[Nat.mul_comm];omega);obtain rfl:g'=R / V:=Nat.le_antisymm hle h1;exact⟨_,by rw[if_neg (by unfold cmpN;split <;> (try split) <;> omega)],rfl⟩)
  ((g:Int),L16 (V*g)) ⟨g,rfl,hg,Nat.le_refl _⟩
 exact ht
theorem As1{R V:Nat}(hV:V≠0)(hR:R<V*65536)(h9:(dig 65536 V).length<=100000):∃ g:Nat,R / V<=g/\g<=65535/\∀ {ρ:Type} (K:Int->Option ρ),
  (if ((((L16 V).length:Nat):Int))<=((((L16 R).length:Nat):Int)) then (bnd (idx (L16 R) (w64 (((((L16 R).length:Nat):Int))-1))) fun x259=>
   jn (fun (s44:Int)=>
   bnd (idx (L16 V) (w64 (((((L16 V).length:Nat):Int))-1))) fun x286=>
   gd (x286≠0)<|
   if 65536<=(w64 (Int.tdiv s44 x286)) then (K 65535)
   else (K (w64 (Int.tdiv s44 x286))))
   (fun j44=>if ((((L16 V).length:Nat):Int))<((((L16 R).length:Nat):Int)) then (bnd (idx (L16 R) (w64 (((((L16 R).length:Nat):Int))-2))) fun x272=>
   j44 (w64 ((w64 (x259*65536))+x272)))
   else (j44 x259)))
   else (K 0))=K (g:Int):=by
 simp only[Wq,jn_d];have hq:R / V<=65535:=by
  have:=Nat.div_lt_of_lt_mul hR;omega
 by_cases h:(dig 65536 V).length<=(dig 65536 R).length
 ·obtain⟨hi,ht1,ht2⟩:=Ak6 hV;have hR0:R≠0:=fun e=>by rw[e,Qj] at h;simp at h;exact hV ((Uq oo).1 h)
  have hlenR:(dig 65536 R).length<=(dig 65536 V).length+1:=Eu (by
   rw[Nat.pow_succ];exact Nat.lt_trans hR (Nat.mul_lt_mul_of_pos_right (Acz V) oo))
  generalize hm:(dig 65536 V).length-1=m1 at *;have hvt:=Nq (b:=65536) oo V _ (getElem_mem hi);have hVlo:V / 65536 ^ m1*65536 ^ m1<=V:=Nat.div_mul_le_self _ _;have hg:=Avy (R:=R) (B:=65536) ht2 hVlo oo;rw[ht1] at hvt;have key:∀ s44:Nat,s44=R / 65536 ^ m1->s44<4294967296->∀ {ρ:Type} (K:Int->Option ρ),(bnd (idx (L16 V) (w64 ((((dig 65536 V).length:Nat):Int)-1))) fun x286=>
    gd (x286≠0) <| if 65536<=(w64 (Int.tdiv (s44:Int) x286)) then (K 65535) else (K (w64 (Int.tdiv (s44:Int) x286))))=K ((min (R / 65536 ^ m1 / (V / 65536 ^ m1)) 65535:Nat):Int):=by
   intro s44 hs hs2 ρ K;have e:w64 ((((dig 65536 V).length:Nat):Int)-1)=((m1:Nat):Int):=by rw[As oo oo];omega
   rw[e,show idx (L16 V) ((m1:Nat):Int)=some ((V / 65536 ^ m1:Nat):Int) from by rw[<- ht1];exact Dy hi,Ad,gd_t oo,Avw,<- hs];have h4:s44 / (V / 65536 ^ m1)<=s44:=Nat.div_le_self _ _;generalize s44 / (V / 65536 ^ m1)=z at *;rw[Qb oo]
   by_cases hz:65536<=z
   ·rw[if_pos oo,show min z 65535=65535 by omega];rfl
   ·rw[if_neg oo,show min z 65535=z by omega]
  refine⟨min (R / 65536 ^ m1 / (V / 65536 ^ m1)) 65535,oo,oo,fun K=>?_⟩;obtain⟨hj,hr1,hr2⟩:=Ak6 hR0;have hrt:=Nq (b:=65536) oo R _ (getElem_mem hj);rw[if_pos oo,show w64 ((((dig 65536 R).length:Nat):Int)-1)=(((dig 65536 R).length-1:Nat):Int) from by rw[As oo oo];omega,
   show idx (L16 R) (((dig 65536 R).length-1:Nat):Int)=some (((dig 65536 R)[(dig 65536 R).length-1]:Nat):Int) from Dy hj,Ad]
  by_cases h2:(dig 65536 V).length<(dig 65536 R).length
  ·have hl2:(dig 65536 R).length-2<(dig 65536 R).length:=oo;have hrt2:=Nq (b:=65536) oo R _ (getElem_mem hl2);rw[if_pos oo,show w64 ((((dig 65536 R).length:Nat):Int)-2)=(((dig 65536 R).length-2:Nat):Int) from by rw[As oo oo];omega,
    show idx (L16 R) (((dig 65536 R).length-2:Nat):Int)=some (((dig 65536 R)[(dig 65536 R).length-2]:Nat):Int) from Dy hl2,Ad,Aqw hrt hrt2]
   refine key _ ?_ oo K;have hd:=Vw (m:=R) (k:=m1) oo;have e1:m1=(dig 65536 R).length-2:=oo;rw[<- hd,Si _ _ (by omega:m1<_)];have hd2:=Vw (m:=R) (k:=m1+1) oo;rw[hd2,hr1];rw[show (dig 65536 R).length-1=m1+1 by omega];simp only[<- e1];omega
  ·rw[if_neg oo];refine key _ ?_ oo K;rw[hr1,show (dig 65536 R).length-1=m1 by omega]
 ·refine⟨0,?_,oo,fun K=>by rw[if_neg oo];rfl⟩;have:R<V:=by
   rcases Nat.lt_or_ge R V with h' | h'
   ·exact h'
   ·exact absurd (Rr h') h
  rw[Nat.div_eq_of_lt this];exact Nat.le_refl _
theorem Aoy{a f k:Nat}(ha:a<65536 ^ k)(hf:f<=65536):a*f<65536 ^ (k+1):=by
 rw[Nat.pow_succ];exact Nat.lt_of_le_of_lt (Nat.mul_le_mul_left a hf) (Nat.mul_lt_mul_of_pos_right ha oo)
theorem Ac0{a f:Nat}(hf:f<=65536):(dig 65536 (a*f)).length<=(dig 65536 a).length+1:=Eu (Aoy (Acz a) hf)
theorem Bd8{τ ρ:Type}{K:τ->Option ρ}{X:(τ->Option ρ)->Option ρ}{v:τ}(h:∀ j,X j=j v):jn K X=K v:=h K
theorem Acb{g:Nat}(h:g<65536):(dig 65536 g).length<=1:=Eu oo
theorem Avz{g:Nat}(h:g<65536):Bq [(g:Int)]=some (L16 g):=by
 have:=Ak7 (l:=[g]) (fun x hx=>by rw[mem_singleton.1 hx];exact h) s_;simpa[nI,val] using this
theorem Av0{U V k:Nat}{q:List Nat}(hV:V≠0)(h9:(dig 65536 V).length<=100000)(hk:0<k)(hkq:k<=q.length)(hq9:q.length<=200000)(hU:k-1<(dig 65536 U).length):
  Dv (L16 U) (L16 V) (nI q,L16 (U / 65536 ^ k % V),(k:Int)-1)=some (.inl (nI (q.set (k-1) ((U / 65536 ^ k % V*65536+(dig 65536 U)[k-1]) / V)),L16 ((U / 65536 ^ k % V*65536+(dig 65536 U)[k-1]) % V),((k-1:Nat):Int)-1)):=by
 have hu:=Nq (b:=65536) oo U _ (getElem_mem hU);have hr:U / 65536 ^ k % V<V:=Nat.mod_lt _ (Nat.pos_of_ne_zero hV);have hR:=Ak5 hu hr;have hlr:(dig 65536 (U / 65536 ^ k % V)).length<=100000:=Nat.le_trans (Rr (Nat.le_of_lt hr)) h9;generalize hu':(dig 65536 U)[k-1]=u at *;generalize hr':U / 65536 ^ k % V=r0 at *;have hlR:(dig 65536 (r0*65536+u)).length<=100001:=by
  have h1:=Rr (Nat.le_of_lt hR);have h2:=Ac0 (a:=V) (f:=65536) (Nat.le_refl _);exact Nat.le_trans h1 (Nat.le_trans h2 (Nat.succ_le_succ h9))
 obtain⟨g,hg1,hg2,hg3⟩:=As1 (R:=r0*65536+u) hV hR h9;unfold Dv;simp only[];rw[if_pos oo,show ((k:Int)-1)=((k-1:Nat):Int) from by omega,show idx (L16 U) ((k-1:Nat):Int)=some ((u:Nat):Int) from by rw[<- hu'];exact Dy hU,Ad,
  gd_t (by rw[Wq];simp only[length_singleton];omega)]
 have et:Bq ([((u:Nat):Int)]++L16 r0)=some (L16 (r0*65536+u)):=by
  have:=Ak7 (l:=u::dig 65536 r0) (fun x hx=>by
   rcases mem_cons.1 hx with rfl | hx
   ·exact hu
   ·exact Nq oo r0 x hx) (by simp only[length_cons];omega)
  rw[show val 65536 (u::dig 65536 r0)=r0*65536+u from by show u+65536*val 65536 (dig 65536 r0)=_;rw[Di oo];omega] at this;exact this
 rw[et,Ad,Bd8 (fun j=>hg3 j)];have hVg:(dig 65536 (V*g)).length<=100002:=by
  have h2:=Ac0 (a:=V) (f:=g) oo;exact Nat.le_trans h2 (Nat.le_trans (Nat.succ_le_succ h9) dD)
 rw[Avz oo,Ad,Abh (by have:=Acb (g:=g) oo;omega),Ad,jn_d,As0 hg2 (Nat.pos_of_ne_zero hV) hg1 oo,Ad];simp only[];rw[Ak4 oo (by rw[Nat.mul_comm];exact Nat.div_mul_le_self _ _),Ad,show idx (nI q) ((k-1:Nat):Int)=some ((q[k-1]:Nat):Int) from Dy oo,Ad,Ur,Am4,
  show w64 (((k-1:Nat):Int)-1)=((k-1:Nat):Int)-1 from As oo oo]
theorem Av1{U k:Nat}(hk:0<k)(hU:k-1<(dig 65536 U).length):U / 65536 ^ (k-1)=(dig 65536 U)[k-1] + 65536*(U / 65536 ^ k):=by
 have h1:=Vw (m:=U) (k:=k-1) oo;have h2:=Vw (m:=U) (k:=k) oo;rw[Si _ _ hU,show k-1+1=k by omega,h2] at h1;exact h1.symm
theorem Av2{U V nq:Nat}(hV:V≠0)(h9:(dig 65536 V).length<=100000)(hq9:nq<=200000)(hU:nq<=(dig 65536 U).length)(h0:U / 65536 ^ nq<V):
  ∃ q,lfix (Dv (L16 U) (L16 V)) (nI (List.replicate nq 0),L16 (U / 65536 ^ nq),(nq:Int)-1)=some (nI q,L16 (U % V))/\(∀ x∈q,x<65536)/\q.length<=200000/\val 65536 q=U / V:=by
 obtain⟨t,ht,q,rfl,h1,h2,h3⟩:=Bn (B:=Dv (L16 U) (L16 V)) (fun s=>(s.2.2+1).toNat)
  (fun s=>∃ (q:List Nat) (k:Nat),s=(nI q,L16 (U / 65536 ^ k % V),(k:Int)-1)/\q.length=nq/\k<=nq/\(∀ x∈q,x<65536)/\val 65536 (q.drop k)=U / 65536 ^ k / V)
  (fun t=>∃ q,t=(nI q,L16 (U % V))/\(∀ x∈q,x<65536)/\q.length<=200000/\val 65536 q=U / V) (by
   rintro s ⟨q,k,rfl,hC1,hC2,hC3,hC4⟩
   by_cases hk:k=0
   ·right;subst hk;refine⟨(nI q,L16 (U % V)),?_,q,rfl,hC3,oo,by simpa using hC4⟩;unfold Dv;simp only[];rw[if_neg oo,Nat.pow_zero,Nat.div_one]
   ·left;have hk':0<k:=Nat.pos_of_ne_zero hk;have hUk:k-1<(dig 65536 U).length:=oo;obtain⟨e1,e2⟩:=Am3 (B:=65536) (x:=(dig 65536 U)[k-1]) (H:=U / 65536 ^ k) (Nat.pos_of_ne_zero hV);rw[<- Av1 hk' hUk] at e1 e2;have hlt:(U / 65536 ^ k % V*65536+(dig 65536 U)[k-1]) / V<65536:=Nat.div_lt_of_lt_mul (Ak5 (Nq oo U _ (getElem_mem hUk)) (Nat.mod_lt _ (Nat.pos_of_ne_zero hV)));refine⟨_,Av0 hV h9 hk' oo oo hUk,⟨_,k-1,by rw[e2],by simp[hC1],oo,fun x hx=>?_,?_⟩,by simp;omega⟩
    ·rcases mem_or_eq_of_mem_set hx with h | rfl
     ·exact hC3 x h
     ·exact hlt
    ·rw[Si _ _ (by simp;omega),getElem_set_self,show k-1+1=k by omega,drop_set_of_lt oo,hC4,e1])
  (nI (List.replicate nq 0),L16 (U / 65536 ^ nq),(nq:Int)-1) ⟨List.replicate nq 0,nq,by rw[Nat.mod_eq_of_lt h0],s_,Nat.le_refl _,s_,by rw[Nat.div_eq_of_lt h0];simp[val]⟩
 exact⟨q,ht,h1,h2,h3⟩
theorem Adt{a b:Nat}(hb:b≠0)(ha9:(dig 65536 a).length<=90000)(hb9:(dig 65536 b).length<=90000):Fd (L16 a) (L16 b)=some (L16 (a / b),L16 (a % b)):=by
 unfold Fd;rw[Avt _ _ oo,Ad]
 by_cases hlt:a<b
 ·rw[if_pos (by unfold cmpN;rw[if_pos hlt];decide),Nat.div_eq_of_lt hlt,Nat.mod_eq_of_lt hlt];rfl
 rw[if_neg (by unfold cmpN;rw[if_neg hlt];split <;> omega),Wq];obtain⟨hi,ht1,ht2⟩:=Ak6 hb
 by_cases h1:(dig 65536 b).length=1
 ·rw[if_pos oo];have hb1:b<65536:=by have:=Acz b;rw[h1] at this;simpa using this
  rw[Aek oo hb1,show idx [(b:Int)] 0=some (b:Int) from rfl,Ad];have:=Aqx (dig 65536 a) b (Nq oo a) oo oo oo;rw[Di oo] at this;have hm:a % b<b:=Nat.mod_lt _ oo;rw[show En (L16 a) (b:Int)=_ from this,Ad];simp only[];rw[Xv oo oo,Ad];rfl
 ·have hpos:(dig 65536 b).length≠0:=fun e=>hb ((Uq oo).1 (length_eq_zero_iff.1 e))
  rw[if_neg oo];have htop:=Nq (b:=65536) oo b _ (getElem_mem hi);rw[ht1] at htop;have htl:=Nat.div_mul_le_self b (65536 ^ ((dig 65536 b).length-1));have hbt:b<(b / 65536 ^ ((dig 65536 b).length-1)+1)*65536 ^ ((dig 65536 b).length-1):=by
   have:=Nat.lt_div_mul_add (a:=b) (b:=65536 ^ ((dig 65536 b).length-1)) (Nat.pow_pos oo);rw[Nat.add_mul,Nat.one_mul];exact this
  rw[show w64 ((((dig 65536 b).length:Nat):Int)-1)=(((dig 65536 b).length-1:Nat):Int) from by rw[As oo oo];omega,
   show idx (L16 b) (((dig 65536 b).length-1:Nat):Int)=some ((b / 65536 ^ ((dig 65536 b).length-1):Nat):Int) from by rw[<- ht1];exact Dy hi,Ad]
  generalize hm1:(dig 65536 b).length-1=m1 at *;generalize htp:b / 65536 ^ m1=tp at *;have ew:w64 ((tp:Int)+1)=((tp+1:Nat):Int):=Bd oo;rw[ew,gd_t oo,show Int.tdiv 65536 ((tp+1:Nat):Int)=((65536 / (tp+1):Nat):Int) from Avw 65536 (tp+1)];have hf1:0<65536 / (tp+1):=Nat.div_pos oo oo;have hf2:65536 / (tp+1)<=32768:=by
   have:=Nat.div_le_div_left (c:=2) (a:=65536) (show 2<=tp+1 by omega) oo;omega
  have hf3:65536 / (tp+1)*(tp+1)<=65536:=Nat.div_mul_le_self _ _;generalize hf:65536 / (tp+1)=f at *;rw[Qb oo,<- Aek hf1 oo];have hlf:=Acb (g:=f) oo;rw[Abh oo,Ad,Abh oo,Ad];have hUV:b*f<=a*f:=Nat.mul_le_mul_right f oo;have hVf:b*f≠0:=Nat.mul_ne_zero hb oo;have hlU:(dig 65536 (a*f)).length<=90001:=by
   have h2:=Ac0 (a:=a) (f:=f) oo;exact Nat.le_trans h2 (Nat.succ_le_succ ha9)
  have hlVU:=Rr hUV;have hlV0:(dig 65536 (b*f)).length≠0:=fun e=>hVf ((Uq oo).1 (length_eq_zero_iff.1 e))
  have hlo:=Ahp hVf;generalize hV:b*f=V at *;generalize hU:a*f=U at *;simp only[Wq];have e2:w64 (w64 ((((dig 65536 U).length:Nat):Int)-(((dig 65536 V).length:Nat):Int))+1)=(((dig 65536 U).length-(dig 65536 V).length+1:Nat):Int):=by
   rw[As (x:=(((dig 65536 U).length:Nat):Int)-(((dig 65536 V).length:Nat):Int)) oo oo,As oo oo];omega
  have e3:w64 ((((dig 65536 U).length:Nat):Int)-(((dig 65536 V).length:Nat):Int))=(((dig 65536 U).length-(dig 65536 V).length+1:Nat):Int)-1:=by
   rw[As oo oo];omega
  generalize hnq:(dig 65536 U).length-(dig 65536 V).length+1=nq at *;have hsub:subl (L16 U) ((nq:Nat):Int) (((dig 65536 U).length:Nat):Int)=nI ((dig 65536 U).drop nq):=by
   unfold subl;rw[Int.toNat_natCast,Int.toNat_natCast,take_of_length_le (by rw[Wq];exact Nat.le_refl _)];simp[L16,nI]
  have hdr:val 65536 ((dig 65536 U).drop nq)=U / 65536 ^ nq:=Vw oo;have h0:U / 65536 ^ nq<V:=by
   have h5:=Aef (b:=65536) ((dig 65536 U).drop nq) (fun x hx=>Nq oo U x (mem_of_mem_drop hx));rw[hdr,length_drop,show (dig 65536 U).length-nq=(dig 65536 V).length-1 by omega] at h5;exact Nat.lt_of_lt_of_le h5 hlo
  rw[e2,e3,gd_t ⟨oo,oo⟩,gd_t ⟨oo,oo⟩,hsub,gd_t (by rw[Cl,length_drop];simp only[length_nil];omega),nil_append,Ak7 (fun x hx=>Nq oo U x (mem_of_mem_drop hx)) (by rw[length_drop];omega),Ad,hdr];obtain⟨q,hq1,hq2,hq3,hq4⟩:=Av2 hVf oo oo (show nq<=(dig 65536 U).length by omega) h0;rw[jn_d,Int.toNat_natCast,Xw,hq1,Ad];simp only[];rw[Aek hf1 oo,show idx [(f:Int)] 0=some (f:Int) from rfl,Ad];have hs:=Aqx (dig 65536 (U % V)) f (Nq oo _) hf1 oo (Nat.le_trans (Rr (Nat.mod_le U V)) oo);rw[Di oo] at hs;rw[show En (L16 (U % V)) (f:Int)=_ from hs,Ad,Ak7 hq2 oo,Ad,hq4];have ed:U / V=a / b:=by rw[<- hU,<- hV];exact Nat.mul_div_mul_right _ _ hf1
  have em:U % V / f=a % b:=by rw[<- hU,<- hV,Nat.mul_mod_mul_right,Nat.mul_div_cancel _ hf1]
  rw[ed,em]
theorem Bd9{a b:Nat}(ha:(dig 65536 a).length<=90000)(hb:(dig 65536 b).length<=90000):Qi (L16 a) (L16 b)=some (L16 (Nat.gcd a b)):=by
 unfold Qi;simp only[jn_d];obtain⟨t,ht,rfl⟩:=Bn (B:=Py) (fun s=>s.2.length*65536+(val 65536 (s.2.map Int.toNat)))
  (fun s=>∃ x y:Nat,s=(L16 x,L16 y)/\Nat.gcd x y=Nat.gcd a b/\(dig 65536 x).length<=90000/\(dig 65536 y).length<=90000)
  (fun t=>t=L16 (Nat.gcd a b)) (by
   rintro s ⟨x,y,rfl,hg,hx,hy⟩;unfold Py;simp only[Wq];have hval:∀ m,val 65536 ((L16 m).map Int.toNat)=m:=fun m=>by
    unfold L16 nI;rw[map_map,show (Int.toNat ∘ fun x:Nat=>(x:Int))=id from funext fun x=>s_,map_id,Di oo]
   by_cases h0:y=0
   ·right;subst h0;refine⟨_,by rw[if_neg (by rw[Qj];simp)],?_⟩;rw[Nat.gcd_zero_right] at hg;rw[hg]
   ·left;have hy0:(dig 65536 y).length≠0:=fun e=>h0 ((Uq oo).1 (length_eq_zero_iff.1 e))
    have hm:x % y<y:=Nat.mod_lt _ (Nat.pos_of_ne_zero h0);have hml:=Rr (Nat.le_of_lt hm);refine⟨(L16 y,L16 (x % y)),by rw[if_pos oo,Adt h0 hx hy,Ad],⟨y,x % y,rfl,?_,hy,oo⟩,?_⟩
    ·rw[<- hg,Nat.gcd_comm x y,Nat.gcd_rec y x,Nat.gcd_comm]
    ·simp only[Wq,hval];omega)
  (L16 a,L16 b) ⟨a,b,rfl,rfl,ha,hb⟩
 rw[ht,Ad]
def QR(x:Rat):Ak:=⟨Z16 x.num,L16 x.den⟩
theorem Agd(m:Nat):(⟨false,L16 m⟩:Af)=Z16 (m:Int):=by
 unfold Z16;rw[decide_eq_false oo,Int.natAbs_natCast]
theorem Abi{m:Nat}:decide (0<(((L16 m).length:Nat):Int))=decide (m≠0):=by
 have:=Agc (a:=m)
 by_cases h:m=0
 ·rw[decide_eq_false (by have:=this.2 h;omega),decide_eq_false (by simp[h])]
 ·rw[decide_eq_true (by have h2:(L16 m).length≠0:=fun e=>h (this.1 e);omega),decide_eq_true h]
theorem Afl{n:Int}{d:Nat}(hd:d≠0):∃ (m:Int) (e:Nat),n=(Nat.gcd n.natAbs d:Nat)*m/\d=Nat.gcd n.natAbs d*e/\(mkRat n d).num=m/\(mkRat n d).den=e/\0<Nat.gcd n.natAbs d:=by
 have hg:0<Nat.gcd n.natAbs d:=Nat.gcd_pos_of_pos_right _ (Nat.pos_of_ne_zero hd);obtain⟨m,hm⟩:=Int.ofNat_dvd_left.2 (Nat.gcd_dvd_left n.natAbs d);obtain⟨e,he⟩:=Nat.gcd_dvd_right n.natAbs d;refine⟨m,e,hm,he,?_,?_,hg⟩
 ·rw[Rat.num_mkRat,if_neg hd,Nat.gcd_comm];generalize Nat.gcd n.natAbs d=g at *;rw[hm,Int.mul_ediv_cancel_left _ oo]
 ·rw[Rat.den_mkRat,if_neg hd,Nat.gcd_comm];generalize Nat.gcd n.natAbs d=g at *;rw[he,Nat.mul_div_cancel_left _ hg]
theorem Aoz{n:Int}{d:Nat}(hd:d≠0)(h1:(dig 65536 n.natAbs).length<=90000)(h2:(dig 65536 d).length<=90000):Do (Z16 n) ⟨false,L16 d⟩=some (QR (mkRat n d)):=by
 obtain⟨m,e,hm,he,hn1,hd1,hg⟩:=Afl (n:=n) hd;have hgl:(dig 65536 (Nat.gcd n.natAbs d)).length<=90000:=Nat.le_trans (Rr (Nat.gcd_le_right _ (Nat.pos_of_ne_zero hd))) h2;unfold Do;simp only[Ab9,jn_d];rw[Bd9 h1 h2,Ad,Adt oo h1 hgl,Ad,Adt oo h2 hgl,Ad];simp only[];unfold QR;rw[hn1,hd1];generalize Nat.gcd n.natAbs d=g at *;have e1:n.natAbs / g=m.natAbs:=by rw[hm,Int.natAbs_mul,Int.natAbs_natCast,Nat.mul_div_cancel_left _ hg]
 have e2:d / g=e:=by rw[he,Nat.mul_div_cancel_left _ hg]
 rw[e1,e2,Nh,Abi];unfold Z16
 by_cases hneg:n<0
 ·have hmn:m<0:=by
   rcases Int.lt_or_le m 0 with h | h
   ·exact h
   ·have:=Int.mul_nonneg (Int.natCast_nonneg g) h;omega
  rw[if_pos (by simpa using hneg),decide_eq_true (show m.natAbs≠0 by omega),decide_eq_true hmn]
 ·have hmn:¬ m<0:=fun h=>by
   have:=Int.mul_neg_of_pos_of_neg (show (0:Int)<(g:Int) by omega) h;omega
  rw[if_neg (by simpa using hneg),decide_eq_false hmn]
def Sml(k:Nat)(x:Rat):Prop:=x.num.natAbs<65536 ^ k/\x.den<65536 ^ k
theorem Sml.n{k:Nat}{x:Rat}(h:Sml k x):(dig 65536 x.num.natAbs).length<=k:=Eu h.1
theorem Sml.d{k:Nat}{x:Rat}(h:Sml k x):(dig 65536 x.den).length<=k:=Eu h.2
theorem Am5{n:Int}{d:Nat}(hd:d≠0):(mkRat n d).num.natAbs<=n.natAbs/\(mkRat n d).den<=d:=by
 obtain⟨m,e,hm,he,hn1,hd1,hg⟩:=Afl (n:=n) hd;rw[hn1,hd1];generalize Nat.gcd n.natAbs d=g at *;refine⟨?_,?_⟩
 ·rw[hm,Int.natAbs_mul,Int.natAbs_natCast];exact Nat.le_mul_of_pos_left _ hg
 ·rw[he];exact Nat.le_mul_of_pos_left _ hg
theorem Kw{a b i j:Nat}(ha:a<65536 ^ i)(hb:b<65536 ^ j):a*b<65536 ^ (i+j):=by
 rw[Nat.pow_add];rcases Nat.eq_zero_or_pos b with rfl | h
 ·rw[Nat.mul_zero];exact Nat.mul_pos (Nat.pow_pos oo) (Nat.pow_pos oo)
 ·exact Nat.lt_of_lt_of_le (Nat.mul_lt_mul_of_pos_right ha h) (Nat.mul_le_mul_left _ (Nat.le_of_lt hb))
theorem den0(x:Rat):x.den≠0:=x.den_nz
theorem Sml.mkRat{k:Nat}{n:Int}{d:Nat}(hd:d≠0)(h1:n.natAbs<65536 ^ k)(h2:d<65536 ^ k):Sml k (mkRat n d):=⟨Nat.lt_of_le_of_lt (Am5 hd).1 h1,Nat.lt_of_le_of_lt (Am5 hd).2 h2⟩
theorem Ao0{x y:Rat}{i j:Nat}(hx:Sml i x)(hy:Sml j y):(x.num*y.den+y.num*x.den).natAbs<65536 ^ (i+j+1):=by
 have h1:=Kw hx.1 hy.2;have h2:=Kw hy.1 hx.2;rw[Nat.add_comm j i] at h2;have h3:=Int.natAbs_add_le (x.num*y.den) (y.num*x.den);rw[Int.natAbs_mul,Int.natAbs_mul,Int.natAbs_natCast,Int.natAbs_natCast] at h3;rw[Nat.pow_succ];generalize 65536 ^ (i+j)=p at *;omega
theorem Sml.neg{x:Rat}{i:Nat}(hx:Sml i x):Sml i (-x):=by
 unfold Sml;rw[Rat.neg_num,Rat.neg_den,Int.natAbs_neg];exact hx
theorem Sml.int{z:Int}{k:Nat}(h:z.natAbs<65536 ^ k)(hk:0<k):Sml k (z:Rat):=⟨h,Nat.one_lt_pow oo oo⟩
theorem Abj{z:Int}(h1:-9223372036854775808<=z)(h2:z<=9223372036854775807):Cs z=some (QR (z:Rat)):=by
 unfold Cs;rw[Xv h1 h2,Ad,Ba5];rfl
theorem Ba7{x y:Rat}{i j:Nat}(hx:Sml i x)(hy:Sml j y)(h:i+j<=80000):Ct (QR x) (QR y)=some (QR (x+y)):=by
 unfold Ct QR;simp only[Agd];have a1:=hx.n;have a2:=hx.d;have a3:=hy.n;have a4:=hy.d;have b1:(dig 65536 (x.num*(y.den:Int)).natAbs).length<=i+j:=Eu (by rw[Int.natAbs_mul,Int.natAbs_natCast];exact Kw hx.1 hy.2);have b2:(dig 65536 (y.num*(x.den:Int)).natAbs).length<=j+i:=Eu (by rw[Int.natAbs_mul,Int.natAbs_natCast];exact Kw hy.1 hx.2);have b3:(dig 65536 (x.den*y.den)).length<=i+j:=Eu (Kw hx.2 hy.2);have b4:(dig 65536 (x.num*y.den+y.num*x.den).natAbs).length<=i+j+1:=Eu (Ao0 hx hy);rw[Ajq (by rw[Int.natAbs_natCast];omega),Ad,Ajq (by rw[Int.natAbs_natCast];omega),Ad,Ba6 oo oo,Ad,Abh oo,Ad,Aoz (Nat.mul_ne_zero (den0 x) (den0 y)) oo oo,Ad,<- Rat.add_def'];rfl
theorem Ak8{z:Int}:Eg (Z16 z)=some (Z16 (-z)):=by
 unfold Eg;simp only[jn_d,Nh,Ab9,Abi];unfold Z16;rw[Int.natAbs_neg]
 by_cases h:z<0
 ·rw[if_pos (by simpa using h),decide_eq_false oo]
 ·rw[if_neg (by simpa using h)];congr 2
  by_cases h0:z=0
  ·subst h0;rfl
  ·rw[Abi,decide_eq_true (show z.natAbs≠0 by omega),decide_eq_true (show -z<0 by omega)]
theorem Aqy{x:Rat}:Ij (QR x)=some (QR (-x)):=by
 unfold Ij QR;rw[Ak8,Ad,Rat.neg_num,Rat.neg_den]
theorem Ba8{x y:Rat}{i j:Nat}(hx:Sml i x)(hy:Sml j y)(h:i+j<=80000):Dd (QR x) (QR y)=some (QR (x-y)):=by
 unfold Dd;rw[Aqy,Ad,Ba7 hx hy.neg h,Ad,Rat.sub_eq_add_neg]
theorem Bea{x y:Rat}{i j:Nat}(hx:Sml i x)(hy:Sml j y)(h:i+j<=80000):Ds (QR x) (QR y)=some (QR (x*y)):=by
 unfold Ds QR;simp only[];have a1:=hx.n;have a2:=hx.d;have a3:=hy.n;have a4:=hy.d;have b1:(dig 65536 (x.num*y.num).natAbs).length<=i+j:=Eu (by rw[Int.natAbs_mul];exact Kw hx.1 hy.1);have b3:(dig 65536 (x.den*y.den)).length<=i+j:=Eu (Kw hx.2 hy.2);rw[Ajq oo,Ad,Abh oo,Ad,Aoz (Nat.mul_ne_zero (den0 x) (den0 y)) oo oo,Ad,<- Rat.mul_def'];rfl
theorem Av3{z:Int}:Fb (Z16 z)=some z.sign:=by
 unfold Fb;have:=Agc (a:=z.natAbs);rw[Ab9,Nh]
 by_cases h0:z=0
 ·subst h0;rfl
 ·rw[if_neg (fun e=>h0 (by have:=this.1 oo;omega))]
  by_cases h:z<0
  ·rw[if_pos (by simpa using h),Int.sign_eq_neg_one_of_neg h]
  ·rw[if_neg (by simpa using h),Int.sign_eq_one_of_pos oo]
theorem Beb{x y:Rat}{i j:Nat}(hx:Sml i x)(hy:Sml j y)(h:i+j<=80000):Kr (QR x) (QR y)=some (x-y).num.sign:=by
 unfold Kr;rw[Ba8 hx hy h,Ad];show bnd (Fb (Z16 (x-y).num)) _=_;rw[Av3,Ad]
end Go.Proofs.YthlkpgdfifnagaaGreat
