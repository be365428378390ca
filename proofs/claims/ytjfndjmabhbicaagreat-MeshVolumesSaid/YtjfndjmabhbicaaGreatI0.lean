/- Words of 64 bits. -/
import Derived.Test.YtjfndjmabhbicaaGreatZ1
import Derived.Test.YtjfndjmabhbicaaGreatX5
namespace Go.Proofs.YtjfndjmabhbicaaGreat
open Go Go.RowKit
theorem Adn (x:Int):wu64 x=x % 18446744073709551616:=by unfold wu64;rw[IntKind.wrap_u64]
theorem Ar3 {j:Nat} (h:j<=18446744073709551615):wu64 (j:Int)=(j:Int):=by rw[Adn];omega
def L16 (m:Nat):List Int:=nI (dig 65536 m)
def Z16 (z:Int):Ai:=⟨decide (z < 0),L16 z.natAbs⟩
theorem Ava {l:List Nat} {k:Nat}:(nI l).take k=nI (l.take k):=by simp[nI]
theorem Agq:∀ (l:List Nat),nrm (l++[0])=nrm l
 | []=>rfl
 | x::r=>by simp only[List.cons_append,nrm];rw[Agq r]
theorem Ajm:∀ (l:List Nat) {x:Nat},x≠0->nrm (l++[x])=l++[x]
 | [],x,h=>by simp[nrm,h]
 | y::r,x,h=>by
  simp only[List.cons_append,nrm];rw[Ajm r h]
  cases r <;> rfl
theorem Aa4 (l:List Nat) (h9:l.length<=1000000000):Ci (nI l)=some (nI (nrm l)):=by
 obtain ⟨t,ht,k,rfl,hk,hn⟩:=Bl (B:=My (nI l)) (fun s=>s.toNat)
  (fun s=>∃ k:Nat,s=(k:Int)/\k<=l.length/\nrm (l.take k)=nrm l)
  (fun t=>∃ k:Nat,t=(k:Int)/\k<=l.length/\l.take k=nrm l) (by
   rintro s ⟨k,rfl,hk,hn⟩
   unfold My
   simp only[jn_d]
   by_cases h0:k=0
   ·right;subst h0
    refine ⟨((0:Nat):Int),by rw[if_neg (by omega)];rfl,0,rfl,by omega,?_⟩
    rw[<- hn];rfl
   ·have h1:k-1 < l.length:=by omega
    rw[if_pos (by omega),show ((k:Int)-1)=((k-1:Nat):Int) from by omega,Pw (by omega),Ey h1,Ad]
    have e:l.take k=l.take (k-1)++[l[k-1]]:=by
     obtain ⟨q,rfl⟩:=Nat.exists_eq_succ_of_ne_zero h0
     simp only[Nat.succ_eq_add_one,Nat.add_sub_cancel] at h1 ⊢
     rw[List.take_add_one,List.getElem?_eq_getElem h1];rfl
    by_cases hz:l[k-1]=0
    ·left
     refine ⟨((k-1:Nat):Int),by rw[if_pos (by simp[hz])],⟨k-1,rfl,by omega,?_⟩,by omega⟩
     rw[<- hn,e,hz,Agq]
    ·right
     refine ⟨(k:Int),by rw[if_neg (by simp;omega)],k,rfl,hk,?_⟩
     rw[<- hn,e,Ajm _ hz])
  ((l.length:Nat):Int) ⟨l.length,rfl,by omega,by rw[List.take_length]⟩
 unfold Ci
 simp only[jn_d,Cc]
 rw[ht,Ad,gd_t (by omega),Aob,Int.toNat_natCast,Ava,hn]
theorem Ahx (a:Nat):Int.tmod (a:Int) 65536=((a % 65536:Nat):Int):=by rw[Int.tmod_eq_emod_of_nonneg (by omega)];omega
theorem Ahy (a:Nat):Int.tdiv (a:Int) 65536=((a / 65536:Nat):Int):=by rw[Int.tdiv_eq_ediv_of_nonneg (by omega)];omega
theorem Ael {m : Nat} : ∀ {k : Nat}, m < 65536 ^ k -> (dig 65536 m).length <= k := by
  intro k
  induction k generalizing m with
  | zero => intro h; obtain rfl : m = 0 := by simpa using h
            simp[Nj]
  | succ k ih=>
    intro h
    by_cases h0 : m = 0
    · subst h0; simp[Nj]
    · rw[Lt (by omega) h0, List.length_cons]
      have := ih (m := m / 65536) (Nat.div_lt_of_lt_mul (by rw[Nat.pow_succ, Nat.mul_comm] at h; exact h))
      omega
theorem Ajn {z:Int} (h1:-9223372036854775808<=z) (h2:z<=9223372036854775807):Hd z=some (Z16 z):=by
 have key:∀ m:Nat,m < 18446744073709551616->lfix Ir ((m:Int),([]:List Int))=some (L16 m):=by
  intro m hm
  have h4:(dig 65536 m).length<=4:=Ael (by omega)
  obtain ⟨t,ht,hR⟩:=Bl (B:=Ir) (fun s=>s.1.toNat)
   (fun s=>∃ (u:Nat) (o:List Nat),s=((u:Int),nI o)/\dig 65536 m=o++dig 65536 u/\u < 18446744073709551616)
   (fun t=>t=L16 m) (by
    rintro s ⟨u,o,rfl,hd,hu⟩
    unfold Ir
    by_cases h0:u=0
    ·right
     subst h0
     exact ⟨_,by simp only[];rw[if_neg (by omega)],by rw[Nj,List.append_nil] at hd;unfold L16;rw[hd]⟩
    ·left
     have ho:o.length<=4:=by have:=congrArg List.length hd;rw[List.length_append] at this;omega
     refine ⟨(((u / 65536:Nat):Int),nI (o++[u % 65536])),?_,⟨u / 65536,_,rfl,?_,by omega⟩,by simp;omega⟩
     ·simp only[Cc]
      rw[if_pos (by omega),gd_t (by omega),Ahy,Ahx,Pw (by omega),Ar3 (by omega)]
      simp[nI]
     ·rw[hd,Lt (by omega) h0,List.append_assoc];rfl)
   ((m:Int),nI []) ⟨m,[],rfl,rfl,hm⟩
  rw[<- hR];exact ht
 unfold Hd
 simp only[jn_d]
 by_cases h:z < 0
 ·rw[if_pos h,show wu64 (-(wu64 z))=((z.natAbs:Nat):Int) from by rw[Adn,Adn];omega,key _ (by omega),Ad];rfl
 ·rw[if_neg h,show wu64 z=((z.natAbs:Nat):Int) from by rw[Adn];omega,key _ (by omega),Ad];rfl
theorem Avb (l r:List Nat) (hl:∀ x∈l,x < 65536) (hr:∀ x∈r,x < 65536) (hb:l.length+r.length<=1000000) :
  Ef (nI l) (nI r)=some (L16 (val 65536 l*val 65536 r)):=by
 have e:w64 ((((nI l).length:Nat):Int)+(((nI r).length:Nat):Int))=((l.length+r.length:Nat):Int):=by rw[Cc,Cc,Ay (by omega) (by omega)];omega
 obtain ⟨t,ht,out,rfl,hd⟩:=Bl (B:=Gl (nI l) (nI r)) (fun s=>l.length-s.2.toNat)
  (fun s=>∃ (out:List Nat) (i:Nat),s=(nI out,(i:Int))/\out.length=l.length+r.length/\i<=l.length/\(∀ x∈out,x < 65536)/\(∀ (q:Nat) (h:q < out.length),i+r.length<=q->out[q]=0)/\val 65536 out=val 65536 (l.take i)*val 65536 r)
  (fun t=>∃ out,t=nI out/\out.length<=1000000000/\nrm out=dig 65536 (val 65536 l*val 65536 r)) (by
   rintro s ⟨out0,i,rfl,hC1,hC2,hC3,hC4,hC5⟩
   by_cases hi:i < l.length
   ·left
    obtain ⟨t,ht,out,cy,rfl,hD1,hD2,hD4,hD5,hD6⟩:=Bl (B:=Gk (nI r) (nI l) (nI out0,(i:Int))) (fun s=>r.length-s.2.2.toNat)
     (fun s=>∃ (out:List Nat) (cy j:Nat),s=(nI out,(cy:Int),(j:Int))/\out.length=l.length+r.length/\cy < 65536/\j<=r.length/\(∀ x∈out,x < 65536)/\(∀ (q:Nat) (h:q < out.length),i+r.length<=q->out[q]=0)/\val 65536 out+cy*65536 ^ (i+j)=val 65536 out0+l[i] * val 65536 (r.take j)*65536 ^ i)
     (fun t=>∃ (out:List Nat) (cy:Nat),t=(nI out,(cy:Int))/\out.length=l.length+r.length/\cy < 65536/\(∀ x∈out,x < 65536)/\(∀ (q:Nat) (h:q < out.length),i+r.length<=q->out[q]=0)/\val 65536 out+cy*65536 ^ (i+r.length)=val 65536 out0+l[i] * val 65536 (r.take r.length)*65536 ^ i) (by
      rintro s ⟨out,cy,j,rfl,hD1,hD2,hD3,hD4,hD5,hD6⟩
      by_cases hj:j < r.length
      ·left
       have hk:i+j < out.length:=by omega
       have h1:=hl _ (List.getElem_mem hi)
       have h2:=hr _ (List.getElem_mem hj)
       have h3:=hD4 _ (List.getElem_mem hk)
       have hmm:=Akj h1 h2
       have e1:w64 ((i:Int)+(j:Int))=((i+j:Nat):Int):=by rw[Ay (by omega) (by omega)];omega
       have e2:w64 (w64 (w64 ((l[i]:Int)*(r[j]:Int))+(out[i+j]:Int))+(cy:Int))=((l[i] * r[j] + out[i+j] + cy:Nat):Int):=by
        have e3:w64 ((l[i]:Int)*(r[j]:Int))=((l[i] * r[j]:Nat):Int):=by rw[<- Int.natCast_mul];exact Pw (by omega)
        rw[e3,<- Int.natCast_add,Pw (by omega),<- Int.natCast_add,Pw (by omega)]
       have e4:w64 (((l[i] * r[j] + out[i+j] + cy) / 65536:Nat):Int)=(((l[i] * r[j] + out[i+j] + cy) / 65536:Nat):Int):=Pw (by omega)
       refine ⟨(nI (out.set (i+j) ((l[i] * r[j] + out[i+j] + cy) % 65536)),(((l[i] * r[j] + out[i+j] + cy) / 65536:Nat):Int),((j+1:Nat):Int)),?_,⟨_,_,_,rfl,Akk hi hj rfl rfl h1 h2 hD1 hD2 hD3 hD4 hD5 hD6 hk⟩,by simp;omega⟩
       unfold Gk
       simp only[e1]
       rw[if_pos (by rw[Cc];omega),Ey hi,Ad,Ey hj,Ad,Ey hk,Ad,Ad,e2,Ahx,Ahy,e4,Sg,Be (by omega)]
      ·right
       obtain rfl:j=r.length:=by omega
       refine ⟨(nI out,(cy:Int)),?_,out,cy,rfl,hD1,hD2,hD4,hD5,hD6⟩
       unfold Gk
       simp only[]
       rw[if_neg (by rw[Cc];omega)])
     (nI out0,((0:Nat):Int),((0:Nat):Int)) ⟨out0,0,0,rfl,hC1,by omega,by omega,hC3,fun q hq hiq=>hC4 q hq (by omega),by simp[val]⟩
    have hk:i+r.length < out.length:=by omega
    refine ⟨(nI (out.set (i+r.length) (cy % 65536)),((i+1:Nat):Int)),?_,⟨_,_,rfl,Akl hi rfl rfl hD1 hD2 hD4 hD5 hD6 hC5 rfl⟩,by simp;omega⟩
    unfold Gl
    simp only[jn_d]
    have ht':lfix (Gk (nI r) (nI l) (nI out0,(i:Int))) (nI out0,0,0)=some (nI out,(cy:Int)):=ht
    rw[if_pos (by rw[Cc];omega),ht',Ad,Cc,show w64 ((i:Int)+(r.length:Int))=((i+r.length:Nat):Int) from by rw[Ay (by omega) (by omega)];omega,Ey hk,Ad]
    simp only[]
    rw[Sg,Be (by omega),Nat.mod_eq_of_lt hD2]
   ·right
    refine ⟨nI out0,?_,out0,rfl,by omega,Amh (i:=i) (by omega) rfl hC1 hC3 hC5⟩
    unfold Gl
    simp only[]
    rw[if_neg (by rw[Cc];omega)])
  (nI (List.replicate (l.length+r.length) 0),((0:Nat):Int)) ⟨_,0,rfl,by simp,by omega,by simp,by simp,by simp[val,Vb]⟩
 unfold Ef
 simp only[e,jn_d,Int.toNat_natCast,Ur]
 have ht':lfix (Gl (nI l) (nI r)) (nI (List.replicate (l.length+r.length) 0),0)=some (nI out):=ht
 rw[gd_t ⟨by omega,by omega⟩,ht',Ad,Aa4 _ hd.1,Ad,hd.2];rfl
theorem Aw6 (a b:Nat) (ha:(dig 65536 a).length<=1000000):Fe (L16 a) (L16 b)=some (cmpN a b):=by
 unfold Fe L16
 rw[Cc,Cc]
 by_cases hlen:(dig 65536 a).length=(dig 65536 b).length
 ·obtain ⟨t,ht,hR⟩:=Bl (B:=Ki (nI (dig 65536 a)) (nI (dig 65536 b))) (fun s=>(s+1).toNat)
   (fun s=>∃ k:Nat,s=(k:Int)-1/\k<=(dig 65536 a).length/\∀ (j:Nat) (h:j < (dig 65536 a).length) (h':j < (dig 65536 b).length),k<=j->(dig 65536 a)[j]=(dig 65536 b)[j])
   (fun t=>(t = .inl ()/\cmpN a b=0)\/t = .inr (cmpN a b)) (by
    rintro s ⟨k,rfl,hk,heq⟩
    unfold Ki
    by_cases h0:k=0
    ·right
     subst h0
     refine ⟨_,by rw[if_neg (by omega)],.inl ⟨rfl,Ata (by omega) hlen (fun j h h'=>heq j h h' (by omega))⟩⟩
    ·have h1:k-1 < (dig 65536 a).length:=by omega
     have h2:k-1 < (dig 65536 b).length:=by omega
     have hat:=As9 (b:=65536) (by omega) hlen h1 h2 (fun j h h' hj=>heq j h h' (by omega))
     rw[if_pos (by omega),show ((k:Int)-1)=((k-1:Nat):Int) from by omega,Ey h1,Ad,Ey h2,Ad]
     by_cases he:(dig 65536 a)[k-1]=(dig 65536 b)[k-1]
     ·left
      refine ⟨((k-1:Nat):Int)-1,by rw[if_pos (by rw[he]),Ay (by omega) (by omega)],⟨k-1,rfl,by omega,fun j h h' hj=>?_⟩,by omega⟩
      rcases Nat.lt_or_ge (k-1) j with hq | hq
      ·exact heq j h h' (by omega)
      ·obtain rfl:j=k-1:=by omega
       exact he
     ·right
      rw[if_neg (by omega),Ad,Ad]
      by_cases hlt:(dig 65536 a)[k-1] < (dig 65536 b)[k-1]
      ·exact ⟨_,by rw[if_pos (by omega)],.inr (by rw[hat.1 hlt])⟩
      ·exact ⟨_,by rw[if_neg (by omega)],.inr (by rw[hat.2 (by omega)])⟩)
   (((dig 65536 a).length:Int)-1) ⟨_,rfl,Nat.le_refl _,fun j h h' hj=>by omega⟩
  rw[if_pos (by omega),jn_d,Ay (by omega) (by omega),ht,Ad]
  rcases hR with ⟨rfl,h0⟩ | rfl
  ·simp only[h0]
  ·rfl
 ·rw[if_neg (by omega)]
  by_cases hlt:(dig 65536 a).length < (dig 65536 b).length
  ·rw[if_pos (by omega),(Adt (b:=65536) (by omega) rfl rfl).1 hlt]
  ·rw[if_neg (by omega),(Adt (b:=65536) (by omega) rfl rfl).2 (by omega)]
theorem Anc:([1]:List Int)=L16 1:=by unfold L16;rw[Abh (by omega)];rfl
theorem Apj (l r o:List Nat) (cy i:Nat) (hl:∀ x∈l,x < 65536) (hr:∀ x∈r,x < 65536) (hcy:cy<=1) (hi:i<=1000001) (ho:o.length=i) :
  He (nI r) (nI l) (nI o,(cy:Int),(i:Int))=if i < l.length\/i < r.length\/0 < cy then some (.inl (nI (o++[(cy+l.getD i 0+r.getD i 0) % 65536]),(((cy+l.getD i 0+r.getD i 0) / 65536:Nat):Int),((i+1:Nat):Int))) else some (.inr (nI o)):=by
 have h1:=Yi hl i
 have h2:=Yi hr i
 have fin:∀ s:Nat,s<=131071->(nI o++[Int.tmod (s:Int) 65536],w64 (Int.tdiv (s:Int) 65536),w64 ((i:Int)+1))=(nI (o++[s % 65536]),((s / 65536:Nat):Int),((i+1:Nat):Int)):=by
  intro s hs
  rw[Ahx,Ahy,Pw (by omega),Be (by omega)]
  simp[nI]
 unfold He
 simp only[jn_d,Cc]
 by_cases hn:i < l.length
 ·rw[if_pos (show (i:Int) < (l.length:Int) by omega),if_pos trivial,if_pos (show (i:Int) < (l.length:Int) by omega),Ey hn,Ad,if_pos (show i < l.length\/i < r.length\/0 < cy from .inl hn)]
  rw[show w64 ((cy:Int)+(l[i]:Int))=((cy+l.getD i 0:Nat):Int) from by rw[Si hn] at *;rw[Ay (by omega) (by omega)];omega]
  by_cases hm:i < r.length
  ·rw[if_pos (show (i:Int) < (r.length:Int) by omega),Ey hm,Ad,gd_t (by omega)]
   rw[show w64 (((cy+l.getD i 0:Nat):Int)+(r[i]:Int))=((cy+l.getD i 0+r.getD i 0:Nat):Int) from by rw[Si hm] at *;rw[Ay (by omega) (by omega)];omega]
   rw[fin _ (by omega)]
  ·rw[if_neg (show ¬ (i:Int) < (r.length:Int) by omega),gd_t (by omega),fin _ (by omega),Oj hm];rfl
 ·rw[if_neg (show ¬ (i:Int) < (l.length:Int) by omega)]
  by_cases hm:i < r.length
  ·rw[if_pos (show (i:Int) < (r.length:Int) by omega),if_pos trivial,if_neg (show ¬ (i:Int) < (l.length:Int) by omega),if_pos (show (i:Int) < (r.length:Int) by omega),Ey hm,Ad,gd_t (by omega),if_pos (show i < l.length\/i < r.length\/0 < cy from .inr (.inl hm)),Oj hn,Nat.add_zero]
   rw[show w64 ((cy:Int)+(r[i]:Int))=((cy+r.getD i 0:Nat):Int) from by rw[Si hm] at *;rw[Ay (by omega) (by omega)];omega]
   rw[fin _ (by omega)]
  ·rw[if_neg (show ¬ (i:Int) < (r.length:Int) by omega)]
   by_cases hc:0 < cy
   ·rw[if_pos (by simpa using hc),if_neg (show ¬ (i:Int) < (l.length:Int) by omega),if_neg (show ¬ (i:Int) < (r.length:Int) by omega),gd_t (by omega),fin _ (by omega),if_pos (show i < l.length\/i < r.length\/0 < cy from .inr (.inr hc)),Oj hn,Oj hm];rfl
   ·rw[if_neg (by simpa using hc),if_neg (by omega)]
theorem Ax6 (l r:List Nat) (hl:∀ x∈l,x < 65536) (hr:∀ x∈r,x < 65536) (h1:l.length<=1000000) (h2:r.length<=1000000) :
  Ku (nI l) (nI r)=some (L16 (val 65536 l+val 65536 r)):=by
 obtain ⟨t,ht,out,rfl,hd⟩:=Bl (B:=He (nI r) (nI l)) (fun s=>2*(max l.length r.length-s.2.2.toNat)+s.2.1.toNat)
  (fun s=>∃ (o:List Nat) (cy i:Nat),s=(nI o,(cy:Int),(i:Int))/\o.length=i/\cy<=1/\i<=max l.length r.length+1/\(i=max l.length r.length+1->cy=0)/\(∀ x∈o,x < 65536)/\val 65536 o+cy*65536 ^ i=val 65536 (l.take i)+val 65536 (r.take i))
  (fun t=>∃ out,t=nI out/\out.length<=1000000000/\nrm out=dig 65536 (val 65536 l+val 65536 r)) (by
   rintro s ⟨o,cy,i,rfl,hC1,hC2,hC3,hC0,hC4,hC5⟩
   have g1:=Yi hl i
   have g2:=Yi hr i
   rw[Apj l r o cy i hl hr hC2 (by omega) hC1]
   by_cases hc:i < l.length\/i < r.length\/0 < cy
   ·left
    rw[if_pos hc]
    refine ⟨_,rfl,⟨_,_,_,rfl,by simp[hC1],by omega,by omega,fun he=>?_,?_,?_⟩,?_⟩
    ·rw[Oj (show ¬ i < l.length by omega),Oj (show ¬ i < r.length by omega)]
     omega
    ·intro x hx
     rcases List.mem_append.1 hx with hx | hx
     ·exact hC4 x hx
     ·simp at hx;omega
    ·rw[Te,hC1,Qg,Qg]
     have e:val 65536 [(cy+l.getD i 0+r.getD i 0) % 65536]=(cy+l.getD i 0+r.getD i 0) % 65536:=by simp[val]
     rw[e]
     have e2:=Nat.div_add_mod (cy+l.getD i 0+r.getD i 0) 65536
     have e3:=congrArg (· * 65536 ^ i) e2
     simp only[Nat.add_mul] at e3
     have e4:65536 ^ (i+1)=65536*65536 ^ i:=by rw[Nat.pow_succ,Nat.mul_comm]
     rw[e4]
     generalize 65536 ^ i=P at *
     generalize (cy+l.getD i 0+r.getD i 0) % 65536=M at *
     generalize (cy+l.getD i 0+r.getD i 0) / 65536=D at *
     generalize l.getD i 0=a at *
     generalize r.getD i 0=b at *
     have e5:D*(65536*P)=65536*D*P:=by grind
     have e6:P*M=M*P:=Nat.mul_comm _ _
     have e7:P*a=a*P:=Nat.mul_comm _ _
     have e8:P*b=b*P:=Nat.mul_comm _ _
     omega
    ·simp only[Int.toNat_natCast]
     by_cases hb:i < l.length\/i < r.length
     ·omega
     ·rw[Oj (show ¬ i < l.length by omega),Oj (show ¬ i < r.length by omega)]
      omega
   ·right
    rw[if_neg hc]
    refine ⟨_,rfl,o,rfl,by omega,?_⟩
    have:cy=0:=by omega
    subst this
    rw[Sb (b:=65536) (by omega) o hC4]
    rw[List.take_of_length_le (by omega),List.take_of_length_le (by omega)] at hC5
    rw[show val 65536 o=val 65536 l+val 65536 r by omega])
  (nI [],((0:Nat):Int),((0:Nat):Int)) ⟨[],0,0,rfl,rfl,by omega,by omega,by omega,by simp,by simp[val]⟩
 unfold Ku
 have ht':lfix (He (nI r) (nI l)) ([],0,0)=some (nI out):=ht
 simp only[jn_d]
 rw[ht',Ad,Aa4 _ hd.1,Ad,hd.2];rfl
theorem Apk (l r o:List Nat) (bw i:Nat) (hi:i < l.length) (hl:∀ x∈l,x < 65536) (hr:∀ x∈r,x < 65536) (hb:bw<=1) (h9:l.length<=1000000) (ho:o.length=i) :
  ∃ d b':Nat,Ff (nI l) (nI r) (nI o,(bw:Int),(i:Int))=some (.inl (nI (o++[d]),(b':Int),((i+1:Nat):Int)))/\d < 65536/\b'<=1/\d+bw+r.getD i 0=l.getD i 0+65536*b':=by
 have h1:=Yi hl i
 have h2:=Yi hr i
 unfold Ff
 simp only[jn_d,Cc]
 rw[if_pos (show (i:Int) < (l.length:Int) by omega),Ey hi,Ad]
 rw[Si hi] at *
 have fin:∀ t:Int,t=(l[i]:Int)-bw-(r.getD i 0:Int)->∃ d b':Nat,(if t < 0 then gd (((nI o).length+1)*8<=140737488355328) (some (Sum.inl (β:=List Int) (nI o++[w64 (t+65536)],(1:Int),w64 ((i:Int)+1)))) else gd (((nI o).length+1)*8<=140737488355328) (some (.inl (nI o++[t],(0:Int),w64 ((i:Int)+1)))))=some (.inl (nI (o++[d]),(b':Int),((i+1:Nat):Int)))/\d < 65536/\b'<=1/\d+bw+r.getD i 0=l[i] + 65536*b':=by
  intro t ht
  rw[gd_t (by rw[Cc];omega),gd_t (by rw[Cc];omega),Be (by omega)]
  by_cases h0:t < 0
  ·refine ⟨(t+65536).toNat,1,?_,by omega,by omega,by omega⟩
   rw[if_pos h0,Ay (by omega) (by omega)]
   simp[nI,Int.toNat_of_nonneg (show 0<=t+65536 by omega)]
  ·refine ⟨t.toNat,0,?_,by omega,by omega,by omega⟩
   rw[if_neg h0]
   simp[nI,Int.toNat_of_nonneg (show 0<=t by omega)]
 by_cases hm:i < r.length
 ·rw[if_pos (show (i:Int) < (r.length:Int) by omega),Ey hm,Ad]
  have:=fin (w64 (w64 ((l[i]:Int)-(bw:Int))-(r[i]:Int))) (by rw[Si hm] at *;rw[Ay (x:=(l[i]:Int)-(bw:Int)) (by omega) (by omega),Ay (by omega) (by omega)])
  simpa only[Cc] using this
 ·rw[if_neg (show ¬ (i:Int) < (r.length:Int) by omega)]
  have:=fin (w64 ((l[i]:Int)-(bw:Int))) (by rw[Oj hm,Ay (by omega) (by omega)];omega)
  simpa only[Cc] using this
theorem Ax7 (l r:List Nat) (hl:∀ x∈l,x < 65536) (hr:∀ x∈r,x < 65536) (h1:l.length<=1000000) (h2:r.length<=l.length) (hle:val 65536 r<=val 65536 l) :
  Ih (nI l) (nI r)=some (L16 (val 65536 l-val 65536 r)):=by
 obtain ⟨t,ht,out,rfl,hd⟩:=Bl (B:=Ff (nI l) (nI r)) (fun s=>l.length-s.2.2.toNat)
  (fun s=>∃ (o:List Nat) (bw i:Nat),s=(nI o,(bw:Int),(i:Int))/\o.length=i/\bw<=1/\i<=l.length/\(∀ x∈o,x < 65536)/\val 65536 o+val 65536 (r.take i)=val 65536 (l.take i)+bw*65536 ^ i)
  (fun t=>∃ out,t=nI out/\out.length<=1000000000/\nrm out=dig 65536 (val 65536 l-val 65536 r)) (by
   rintro s ⟨o,bw,i,rfl,hC1,hC2,hC3,hC4,hC5⟩
   by_cases hi:i < l.length
   ·left
    obtain ⟨d,b',hB,hd1,hb1,he⟩:=Apk l r o bw i hi hl hr hC2 h1 hC1
    refine ⟨_,hB,⟨_,_,_,rfl,by simp[hC1],hb1,by omega,?_,?_⟩,by simp;omega⟩
    ·intro x hx
     rcases List.mem_append.1 hx with hx | hx
     ·exact hC4 x hx
     ·simp at hx;omega
    ·rw[Te,hC1,Qg,Qg]
     have e:val 65536 [d]=d:=by simp[val]
     rw[e]
     have e3:=congrArg (· * 65536 ^ i) he
     simp only[Nat.add_mul] at e3
     have e4:65536 ^ (i+1)=65536*65536 ^ i:=by rw[Nat.pow_succ,Nat.mul_comm]
     rw[e4]
     generalize 65536 ^ i=P at *
     generalize l.getD i 0=a at *
     generalize r.getD i 0=b at *
     have e5:b' * (65536*P)=65536*b' * P:=by grind
     have e6:P*d=d*P:=Nat.mul_comm _ _
     have e7:P*a=a*P:=Nat.mul_comm _ _
     have e8:P*b=b*P:=Nat.mul_comm _ _
     omega
   ·right
    have hil:i=l.length:=by omega
    refine ⟨nI o,?_,o,rfl,by omega,?_⟩
    ·unfold Ff
     simp only[Cc]
     rw[if_neg (by omega)]
    ·rw[List.take_of_length_le (by omega),List.take_of_length_le (by omega)] at hC5
     rw[Sb (b:=65536) (by omega) o hC4]
     have hlt:=Amf o hC4
     rw[hC1] at hlt
     have:bw=0\/bw=1:=by omega
     rcases this with rfl | rfl
     ·rw[show val 65536 o=val 65536 l-val 65536 r by omega]
     ·omega)
  (nI [],((0:Nat):Int),((0:Nat):Int)) ⟨[],0,0,rfl,rfl,by omega,by omega,by simp,by simp[val]⟩
 unfold Ih
 have ht':lfix (Ff (nI l) (nI r)) ([],0,0)=some (nI out):=ht
 simp only[jn_d]
 rw[ht',Ad,Aa4 _ hd.1,Ad,hd.2];rfl
theorem Ahz {a:Nat}:(L16 a).length=0↔a=0:=by
 unfold L16;rw[Cc,List.length_eq_zero_iff,Ads (by omega)]
theorem Zu {a:Nat}:∀ x∈dig 65536 a,x < 65536:=Aai (by omega) a
theorem Ax8 {a b:Nat} (ha:(dig 65536 a).length<=1000000) (hb:(dig 65536 b).length<=1000000):Ku (L16 a) (L16 b)=some (L16 (a+b)):=by
 have:=Ax6 _ _ (Zu (a:=a)) (Zu (a:=b)) ha hb
 rwa [Ee (by omega),Ee (by omega)] at this
theorem Ar4 {a b:Nat} (h:a<=b):(dig 65536 a).length<=(dig 65536 b).length:=by
 rcases Nat.lt_or_ge (dig 65536 b).length (dig 65536 a).length with h1 | h1
 ·have:=Wd (b:=65536) (by omega) h1;omega
 ·exact h1
theorem Ar5 {a b:Nat} (ha:(dig 65536 a).length<=1000000) (h:b<=a):Ih (L16 a) (L16 b)=some (L16 (a-b)):=by
 have:=Ax7 _ _ (Zu (a:=a)) (Zu (a:=b)) ha (Ar4 h) (by rw[Ee (by omega),Ee (by omega)];exact h)
 rwa [Ee (by omega),Ee (by omega)] at this
theorem And {a b:Nat} (h:(dig 65536 a).length+(dig 65536 b).length<=1000000):Ef (L16 a) (L16 b)=some (L16 (a*b)):=by
 have:=Avb _ _ (Zu (a:=a)) (Zu (a:=b)) h
 rwa [Ee (by omega),Ee (by omega)] at this
theorem Ajo {z:Int}:(Z16 z).L=L16 z.natAbs:=rfl
theorem Oc {z:Int}:(Z16 z).Neg=decide (z < 0):=rfl
theorem Aem {b:Bool} {l:List Int} {z:Int} (h1:b=decide (z < 0)) (h2:l=L16 z.natAbs):(some ⟨b,l⟩:Option Ai)=some (Z16 z):=by subst h1;subst h2;rfl
theorem Baz {x y:Int} (hx:(dig 65536 x.natAbs).length<=1000000) (hy:(dig 65536 y.natAbs).length<=1000000):Kc (Z16 x) (Z16 y)=some (Z16 (x+y)):=by
 unfold Kc
 simp only[Ajo]
 by_cases hs':x < 0↔y < 0
 ·rw[if_pos (by rw[Oc,Oc];by_cases h:x < 0 <;> simp[h] <;> omega),Ax8 hx hy,Ad]
  refine Aem ?_ ?_
  ·rw[Oc];by_cases h:x < 0 <;> simp[h] <;> omega
  ·congr 1;omega
 ·rw[if_neg (by rw[Oc,Oc];by_cases h:x < 0 <;> simp[h] <;> omega),Aw6 _ _ hx,Ad]
  by_cases h1:x.natAbs < y.natAbs
  ·rw[show cmpN x.natAbs y.natAbs = -1 from if_pos h1,if_neg (by decide),if_neg (by decide),Ar5 hy (by omega),Ad]
   refine Aem ?_ ?_
   ·rw[Oc];by_cases h:y < 0 <;> simp[h] <;> omega
   ·congr 1;omega
  ·by_cases h2:x.natAbs=y.natAbs
   ·rw[show cmpN x.natAbs y.natAbs=0 from (if_neg h1).trans (if_pos h2),if_pos rfl]
    have:x+y=0:=by omega
    rw[this];rfl
   ·rw[show cmpN x.natAbs y.natAbs=1 from (if_neg h1).trans (if_neg h2),if_neg (by decide),if_pos (by decide),Ar5 hx (by omega),Ad]
    refine Aem ?_ ?_
    ·rw[Oc];by_cases h:x < 0 <;> simp[h] <;> omega
    ·congr 1;omega
theorem Ar6 {z y:Int}:(!(decide (z < 0) == decide (y < 0)) && !decide (z.natAbs*y.natAbs=0))=decide (z*y < 0):=by
 by_cases hz0:z=0
 ·subst hz0;simp
 by_cases hy0:y=0
 ·subst hy0;simp
 have h1:z.natAbs*y.natAbs≠0:=Nat.mul_ne_zero (by omega) (by omega)
 rw[decide_eq_false h1]
 rcases Int.lt_or_le z 0 with hz | hz
 ·rcases Int.lt_or_le y 0 with hy | hy
  ·have:=Int.mul_pos_of_neg_of_neg hz hy
   rw[decide_eq_true hz,decide_eq_true hy,decide_eq_false (show ¬ z*y < 0 by omega)];rfl
  ·have:=Int.mul_neg_of_neg_of_pos hz (show 0 < y by omega)
   rw[decide_eq_true hz,decide_eq_false (show ¬ y < 0 by omega),decide_eq_true this];rfl
 ·rcases Int.lt_or_le y 0 with hy | hy
  ·have:=Int.mul_neg_of_pos_of_neg (show 0 < z by omega) hy
   rw[decide_eq_true hy,decide_eq_false (show ¬ z < 0 by omega),decide_eq_true this];rfl
  ·have:=Int.mul_pos (show 0 < z by omega) (show 0 < y by omega)
   rw[decide_eq_false (show ¬ z < 0 by omega),decide_eq_false (show ¬ y < 0 by omega),decide_eq_false (show ¬ z*y < 0 by omega)];rfl
set_option maxRecDepth 100000 in
theorem Aw7 {x y:Int} (h:(dig 65536 x.natAbs).length+(dig 65536 y.natAbs).length<=1000000):Ds (Z16 x) (Z16 y)=some (Z16 (x*y)):=by
 unfold Ds
 simp only[Ajo,jn_d]
 rw[And h,Ad]
 have hsg:=Ar6 (z:=x) (y:=y)
 have e2:=Ahz (a:=x.natAbs*y.natAbs)
 by_cases hs':x < 0↔y < 0
 ·rw[if_pos (by rw[Oc,Oc];by_cases h:x < 0 <;> simp[h] <;> omega)]
  refine Aem ?_ (by rw[Int.natAbs_mul])
  rw[<- hsg]
  have e:(decide (x < 0) == decide (y < 0))=true:=by by_cases h:x < 0 <;> simp[h] <;> omega
  rw[e];rfl
 ·rw[if_neg (by rw[Oc,Oc];by_cases h:x < 0 <;> simp[h] <;> omega)]
  refine Aem ?_ (by rw[Int.natAbs_mul])
  rw[<- hsg]
  have e:(decide (x < 0) == decide (y < 0))=false:=by by_cases h:x < 0 <;> simp[h] <;> omega
  rw[e]
  by_cases h0:x.natAbs*y.natAbs=0
  ·have:=e2.2 h0
   rw[decide_eq_true h0,decide_eq_false (by omega)];rfl
  ·have:(L16 (x.natAbs*y.natAbs)).length≠0:=fun e=>h0 (e2.1 e)
   rw[decide_eq_false h0,decide_eq_true (by omega)];rfl
end Go.Proofs.YtjfndjmabhbicaaGreat
