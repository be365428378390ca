/- Plain laws on loops and lists that the plain functions of the program have in common. -/
import Derived.Test.YtjfndjmabhbicaaGreatFlow11
import Derived.Test.YtjfndjmabhbicaaGreatD1
namespace Go.Proofs.YtjfndjmabhbicaaGreat
open Go Go.RowKit
theorem Au {j:Nat} (h:j < 9223372036854775807):w64 ((j:Int)+1)=((j+1:Nat):Int):=by rw [Ay (by omega) (by omega)];omega
theorem Ad {α ρ:Type} {x:α} {k:α->Option ρ}:bnd (some x) k=k x:=rfl
theorem gd_t {ρ:Type} {p:Prop} [Decidable p] {k:Option ρ} (h:p):gd p k=k:=by unfold gd;rw [if_pos h]
theorem jn_d {τ ρ:Type} {k:τ->Option ρ} {x:(τ->Option ρ)->Option ρ}:jn k x=x k:=rfl
theorem Rx {α β γ:Type} (l:List α) (p:α->Bool) (B:Int->Option (Sum Int (Sum β γ))) (u:β) (v:γ)
  (h1:∀ (j:Nat) (h:j < l.length),B j=if p l[j]=true then some (.inl ((j+1:Nat):Int)) else some (.inr (.inr v))) (h2:B l.length=some (.inr (.inl u))) :
  lfix B 0=some (if l.all p=true then .inl u else .inr v):=by
 have key:∀ (m k:Nat),k<=l.length->l.length-k=m->lfix B k=some (if (l.drop k).all p=true then .inl u else .inr v):=by
  intro m
  induction m with
  | zero =>
   intro k hk hm
   obtain rfl:k=l.length:=by omega
   rw [Bf,h2]
   simp
  | succ m ih =>
   intro k hk hm
   have hlt:k < l.length:=by omega
   rw [Bf,h1 k hlt,List.drop_eq_getElem_cons hlt,List.all_cons]
   by_cases hp:p l[k]=true
   ·rw [if_pos hp,hp,Bool.true_and]
    exact ih (k+1) (by omega) (by omega)
   ·rw [if_neg hp]
    simp [hp]
 exact key l.length 0 (Nat.zero_le _) rfl
def nI (l:List Nat):List Int:=l.map (fun x:Nat=>(x:Int))
def L32 (m:Nat):List Int:=nI (dig 4294967296 m)
theorem Jb {l:List Nat}:(nI l).length=l.length:=by simp [nI]
theorem Pf {l:List Nat} {j:Nat} (h:j < l.length):idx (nI l) (j:Int)=some ((l[j]:Nat):Int):=by
 rw [As (by rw [Jb];exact h)];simp [nI]
theorem Aef (n:Nat):(List.replicate n (0:Int))=nI (List.replicate n 0):=by simp [nI]
theorem Aad {l:List Nat} {j v:Nat}:setI (nI l) (j:Int) (v:Int)=nI (l.set j v):=by rw [Qj];simp [nI,List.map_set]
theorem Arh {n:Nat} (h:n < 4294967296):wu32 (n:Int)=n:=Aeg .u32 n (by simp only [top];omega)
theorem Ry {n:Nat} (h:n < 18446744073709551616):wu64 (n:Int)=n:=Aeg .u64 n (by simp only [top];omega)
theorem Acz (l:List Nat) (h9:l.length<=1000000):Fj (nI l)=some (nI (nrm l)):=by
 obtain ⟨t,ht,hR⟩:=Bk (B:=Mr) (fun s=>s.length)
  (fun s=>∃ k:Nat,k<=l.length/\s=nI (l.take k)/\∀ (j:Nat) (h:j < l.length),k<=j->l[j]=0)
  (fun t=>t=nI (nrm l)) (by
   rintro s ⟨k,hk,rfl,hz⟩
   have hlen:(l.take k).length=k:=by rw [List.length_take];omega
   unfold Mr
   simp only [jn_d,Jb,hlen]
   by_cases h0:k=0
   ·right
    subst h0
    rw [if_neg (by omega),if_neg (by simp)]
    refine ⟨_,rfl,?_⟩
    rw [Abe l (fun x hx=>by obtain ⟨j,hj,rfl⟩:=List.getElem_of_mem hx;exact hz j hj (by omega))];rfl
   ·rw [if_pos (by omega)]
    ·rw [Ay (by omega) (by omega),show ((k:Int)-1)=((k-1:Nat):Int) from by omega,Pf (by omega),Ad]
     have e:(l.take k)[k-1]'(by omega)=l[k-1]:=by rw [List.getElem_take]
     rw [e]
     by_cases hx:l[k-1]=0
     ·left
      refine ⟨nI (l.take (k-1)),?_,⟨k-1,by omega,rfl,fun j h hj=>?_⟩,by simp only [Jb,List.length_take];omega⟩
      ·rw [if_pos (by rw [hx];rfl),gd_t ⟨by omega,by omega⟩]
       congr 2
       simp only [subl,nI,Int.toNat_natCast,Int.toNat_zero,List.drop_zero,<- List.map_take,List.take_take]
       rw [show min (k-1) k=k-1 by omega]
      ·rcases Nat.lt_or_ge (k-1) j with hq | hq
       ·exact hz j h (by omega)
       ·obtain rfl:j=k-1:=by omega
        exact hx
     ·right
      rw [if_neg (by rw [decide_eq_true_eq];omega)]
      refine ⟨_,rfl,?_⟩
      have h1:=Ary l k hk hz (fun h0' h'=>hx)
      conv=>rhs;rw [Aag,h1])
  (nI l) ⟨l.length,by omega,by rw [List.take_length],fun j h hj=>by omega⟩
 unfold Fj
 simp only [jn_d]
 rw [ht,Ad,hR]
theorem Aae (n:Nat):wu32 (n:Int)=((n % 4294967296:Nat):Int):=by
 show IntKind.u32.wrap (n:Int)=_
 simp [IntKind.wrap,IntKind.bits,IntKind.signed]
theorem Ari (n:Nat):shr_ .u64 (n:Int) 32=((n / 4294967296:Nat):Int):=by
 show (n:Int).fdiv (2 ^ (min (32:Int).toNat 64))=_
 rw [show (2:Int) ^ (min (32:Int).toNat 64)=4294967296 from by decide,Int.fdiv_eq_ediv_of_nonneg _ (by omega)]
 omega
theorem Arj (l r:List Nat) (hl:∀ x∈l,x < 4294967296) (hr:∀ x∈r,x < 4294967296) (hb:l.length+r.length<=1000000) :
  Dl (nI l) (nI r)=some (L32 (val 4294967296 l*val 4294967296 r)):=by
 have e:w64 ((((nI l).length:Nat):Int)+(((nI r).length:Nat):Int))=((l.length+r.length:Nat):Int):=by rw [Jb,Jb,Ay (by omega) (by omega)];omega
 obtain ⟨t,ht,out,rfl,hd,hlo⟩:=Bk (B:=Im (nI l) (nI r)) (fun s=>l.length-s.2.toNat)
  (fun s=>∃ (out:List Nat) (i:Nat),s=(nI out,(i:Int))/\out.length=l.length+r.length/\i<=l.length/\(∀ x∈out,x < 4294967296)/\(∀ (q:Nat) (h:q < out.length),i+r.length<=q->out[q]=0)/\val 4294967296 out=val 4294967296 (l.take i)*val 4294967296 r)
  (fun t=>∃ out,t=nI out/\nrm out=dig 4294967296 (val 4294967296 l*val 4294967296 r)/\out.length<=1000000) (by
   rintro s ⟨out0,i,rfl,hC1,hC2,hC3,hC4,hC5⟩
   by_cases hi:i < l.length
   ·left
    obtain ⟨t,ht,out,cy,rfl,hD1,hD2,hD4,hD5,hD6⟩:=Bk (B:=Il (nI r) (nI out0,(i:Int)) (l[i]:Int)) (fun s=>r.length-s.2.2.toNat)
     (fun s=>∃ (out:List Nat) (cy j:Nat),s=(nI out,(cy:Int),(j:Int))/\out.length=l.length+r.length/\cy < 4294967296/\j<=r.length/\(∀ x∈out,x < 4294967296)/\(∀ (q:Nat) (h:q < out.length),i+r.length<=q->out[q]=0)/\val 4294967296 out+cy*4294967296 ^ (i+j)=val 4294967296 out0+l[i] * val 4294967296 (r.take j)*4294967296 ^ i)
     (fun t=>∃ (out:List Nat) (cy:Nat),t=(nI out,(cy:Int))/\out.length=l.length+r.length/\cy < 4294967296/\(∀ x∈out,x < 4294967296)/\(∀ (q:Nat) (h:q < out.length),i+r.length<=q->out[q]=0)/\val 4294967296 out+cy*4294967296 ^ (i+r.length)=val 4294967296 out0+l[i] * val 4294967296 (r.take r.length)*4294967296 ^ i) (by
      rintro s ⟨out,cy,j,rfl,hD1,hD2,hD3,hD4,hD5,hD6⟩
      by_cases hj:j < r.length
      ·left
       have hk:i+j < out.length:=by omega
       have h1:=hl _ (List.getElem_mem hi)
       have h2:=hr _ (List.getElem_mem hj)
       have h3:=hD4 _ (List.getElem_mem hk)
       have hmm:=Ajb h1 h2
       have e1:w64 ((i:Int)+(j:Int))=((i+j:Nat):Int):=by rw [Ay (by omega) (by omega)];omega
       have e2:wu64 (wu64 (wu64 (wu64 (l[i]:Int)*wu64 (r[j]:Int))+wu64 (out[i+j]:Int))+(cy:Int))=((l[i] * r[j] + out[i+j] + cy:Nat):Int):=by
        rw [Ry (n:=l[i]) (by omega),Ry (n:=r[j]) (by omega),Ry (n:=out[i+j]) (by omega),<- Int.natCast_mul,Ry (by omega),<- Int.natCast_add,Ry (by omega),<- Int.natCast_add,Ry (by omega)]
       have e4:wu32 ((l[i] * r[j] + out[i+j] + cy:Nat):Int)=(((l[i] * r[j] + out[i+j] + cy) % 4294967296:Nat):Int):=Aae _
       refine ⟨(nI (out.set (i+j) ((l[i] * r[j] + out[i+j] + cy) % 4294967296)),(((l[i] * r[j] + out[i+j] + cy) / 4294967296:Nat):Int),((j+1:Nat):Int)),?_,⟨_,_,_,rfl,Aop hi hj rfl rfl h1 h2 hD1 hD2 hD3 hD4 hD5 hD6 hk⟩,by simp;omega⟩
       unfold Il
       simp only [e1]
       rw [if_pos (by rw [Jb];omega),Pf hj,Ad,Pf hk,Ad,Ad,e2,e4,Ari,Aad,Au (by omega)]
      ·right
       obtain rfl:j=r.length:=by omega
       refine ⟨(nI out,(cy:Int)),?_,out,cy,rfl,hD1,hD2,hD4,hD5,hD6⟩
       unfold Il
       simp only []
       rw [if_neg (by rw [Jb];omega)])
     (nI out0,((0:Nat):Int),((0:Nat):Int)) ⟨out0,0,0,rfl,hC1,by omega,by omega,hC3,fun q hq hiq=>hC4 q hq (by omega),by simp [val]⟩
    have hk:i+r.length < out.length:=by omega
    refine ⟨(nI (out.set (i+r.length) (cy % 4294967296)),((i+1:Nat):Int)),?_,⟨_,_,rfl,Aoq hi rfl rfl hD1 hD2 hD4 hD5 hD6 hC5 rfl⟩,by simp;omega⟩
    unfold Im
    simp only [jn_d]
    have ht':lfix (Il (nI r) (nI out0,(i:Int)) (l[i]:Int)) (nI out0,0,0)=some (nI out,(cy:Int)):=ht
    rw [if_pos (by rw [Jb];omega),Pf hi,Ad,ht',Ad,Jb,show w64 ((i:Int)+(r.length:Int))=((i+r.length:Nat):Int) from by rw [Ay (by omega) (by omega)];omega,Pf hk,Ad]
    simp only []
    rw [Arh hD2,Aad,Au (by omega),Nat.mod_eq_of_lt hD2]
   ·right
    refine ⟨nI out0,?_,out0,rfl,Arz (i:=i) (by omega) rfl hC1 hC3 hC5,by omega⟩
    unfold Im
    simp only []
    rw [if_neg (by rw [Jb];omega)])
  (nI (List.replicate (l.length+r.length) 0),((0:Nat):Int)) ⟨_,0,rfl,by simp,by omega,by simp,by simp,by simp [val,Xk]⟩
 unfold Dl
 simp only [e,jn_d,Int.toNat_natCast,Aef]
 have ht':lfix (Im (nI l) (nI r)) (nI (List.replicate (l.length+r.length) 0),0)=some (nI out):=ht
 rw [gd_t ⟨by omega,by omega⟩,ht',Ad,Acz _ (by omega),Ad,hd];rfl
theorem Awu (a b:Nat) (ha:(dig 4294967296 a).length<=1000000):Ns (L32 a) (L32 b)=some (cmpN a b):=by
 unfold Ns L32
 rw [Jb,Jb]
 by_cases hlen:(dig 4294967296 a).length=(dig 4294967296 b).length
 ·obtain ⟨t,ht,hR⟩:=Bk (B:=Nj (nI (dig 4294967296 a)) (nI (dig 4294967296 b))) (fun s=>(s+1).toNat)
   (fun s=>∃ k:Nat,s=(k:Int)-1/\k<=(dig 4294967296 a).length/\∀ (j:Nat) (h:j < (dig 4294967296 a).length) (h':j < (dig 4294967296 b).length),k<=j->(dig 4294967296 a)[j]=(dig 4294967296 b)[j])
   (fun t=>(t = .inl ()/\cmpN a b=0)\/t = .inr (cmpN a b)) (by
    rintro s ⟨k,rfl,hk,heq⟩
    unfold Nj
    by_cases h0:k=0
    ·right
     subst h0
     refine ⟨_,by rw [if_neg (by omega)],.inl ⟨rfl,Aw5 (by omega) hlen (fun j h h'=>heq j h h' (by omega))⟩⟩
    ·have h1:k-1 < (dig 4294967296 a).length:=by omega
     have h2:k-1 < (dig 4294967296 b).length:=by omega
     have hat:=Aw4 (b:=4294967296) (by omega) hlen h1 h2 (fun j h h' hj=>heq j h h' (by omega))
     rw [if_pos (by omega),show ((k:Int)-1)=((k-1:Nat):Int) from by omega,Pf h1,Ad,Pf h2,Ad]
     by_cases he:(dig 4294967296 a)[k-1]=(dig 4294967296 b)[k-1]
     ·left
      refine ⟨((k-1:Nat):Int)-1,by rw [if_pos (by rw [he]),Ay (by omega) (by omega)],⟨k-1,rfl,by omega,fun j h h' hj=>?_⟩,by omega⟩
      rcases Nat.lt_or_ge (k-1) j with hq | hq
      ·exact heq j h h' (by omega)
      ·obtain rfl:j=k-1:=by omega
       exact he
     ·right
      rw [if_neg (by omega),Ad,Ad]
      by_cases hlt:(dig 4294967296 a)[k-1] < (dig 4294967296 b)[k-1]
      ·exact ⟨_,by rw [if_pos (by omega)],.inr (by rw [hat.1 hlt])⟩
      ·exact ⟨_,by rw [if_neg (by omega)],.inr (by rw [hat.2 (by omega)])⟩)
   (((dig 4294967296 a).length:Int)-1) ⟨_,rfl,Nat.le_refl _,fun j h h' hj=>by omega⟩
  rw [if_pos (by omega),jn_d,Ay (by omega) (by omega),ht,Ad]
  rcases hR with ⟨rfl,h0⟩ | rfl
  ·simp only [h0]
  ·rfl
 ·rw [if_neg (by omega)]
  by_cases hlt:(dig 4294967296 a).length < (dig 4294967296 b).length
  ·rw [if_pos (by omega),(Ams (b:=4294967296) (by omega) rfl rfl).1 hlt]
  ·rw [if_neg (by omega),(Ams (b:=4294967296) (by omega) rfl rfl).2 (by omega)]
theorem oneW:([1]:List Int)=L32 1:=by unfold L32;rw [Amq (by omega)];rfl
theorem Aub {a:Nat}:(L32 a).length=0↔a=0:=by
 unfold L32;rw [Jb,List.length_eq_zero_iff,Amo (by omega)]
theorem Ak3 (a:Nat) (h:(dig 4294967296 a).length<=1000):Dl (L32 a) [1]=some (L32 a):=by
 have:=Arj (dig 4294967296 a) [1] (Ahh (by omega) a) (by simp) (by simp;omega)
 rw [Lv (by omega),show val 4294967296 [1]=1 from by simp [val],Nat.mul_one] at this
 exact this
theorem Amh:Dl [1] [1]=some [1]:=by
 have:=Ak3 1 (by rw [Amq (by omega)];simp)
 rwa [<- oneW] at this
theorem Xh {b:Nat} (l:List Nat) (i:Nat):val b (l.take (i+1))=val b (l.take i)+b ^ i*l.getD i 0:=by
 by_cases h:i < l.length
 ·rw [Sy l i h];simp [h]
 ·rw [List.take_of_length_le (by omega),List.take_of_length_le (by omega)];simp [h]
theorem Ac0 {l:List Nat} {i:Nat} (h:i < l.length):l.getD i 0=l[i]:=by simp [h]
theorem Ai1 {l:List Nat} {i:Nat} (h:¬ i < l.length):l.getD i 0=0:=by simp [h]
theorem Tu {b:Nat} (hb:0 < b) {l:List Nat} (hl:∀ x∈l,x < b) (i:Nat):l.getD i 0 < b:=by
 by_cases h:i < l.length
 ·have:=hl _ (List.getElem_mem h);simpa [h] using this
 ·simp [h,hb]
theorem Ark (v:BitVec 32):IntKind.u32.wrap (v.toNat:Int)=(v.toNat:Int):=Aeg .u32 v.toNat (by simp only [top];omega)
theorem Arl (a b:Int):Og .u32 a b=((BitVec.ofInt 32 a &&& BitVec.ofInt 32 b).toNat:Int):=Ark _
theorem Ays (a b:Int):Akx .u32 a b=((BitVec.ofInt 32 a ||| BitVec.ofInt 32 b).toNat:Int):=Ark _
theorem Ak4 (a b:Int):Xf .u32 a b=((BitVec.ofInt 32 a ^^^ BitVec.ofInt 32 b).toNat:Int):=Ark _
theorem Ayt (v:BitVec 32):BitVec.ofInt 32 (v.toNat:Int)=v:=by
 rw [BitVec.ofInt_natCast,BitVec.ofNat_toNat,BitVec.setWidth_eq]
theorem Awv:BitVec.ofInt 32 (if IntKind.signed .u32=true then -1 else IntKind.max .u32)=BitVec.allOnes 32:=by decide
theorem Arm (x:Int):wu32 x=x % 4294967296:=by
 show IntKind.u32.wrap x=_
 simp [IntKind.wrap,IntKind.bits,IntKind.signed]
theorem Ahc (n:Nat) (h:n < 4294967296):(BitVec.ofInt 32 (n:Int)).msb=decide (2147483648<=n):=by
 rw [BitVec.msb_eq_decide,BitVec.ofInt_natCast,BitVec.toNat_ofNat,Nat.mod_eq_of_lt (by omega)]
theorem Ayu (v:BitVec 32):shr_ .u32 (v.toNat:Int) 31=if v.msb then 1 else 0:=by
 have h:=v.isLt
 rw [BitVec.msb_eq_decide]
 show (v.toNat:Int).fdiv (2 ^ (min (31:Int).toNat 32))=_
 rw [show (2:Int) ^ (min (31:Int).toNat 32)=2147483648 from by decide,Int.fdiv_eq_ediv_of_nonneg _ (by omega)]
 by_cases h1:2 ^ (32-1)<=v.toNat
 ·rw [if_pos (by simpa using h1)];omega
 ·rw [if_neg (by simpa using h1)];omega
theorem Ayv {x y b:Nat} (hx:x < 4294967296) (hy:y < 4294967296) (hb:b<=1) :
  ∃ d b':Nat,Js (x:Int) (y:Int) (b:Int)=some ((d:Int),(b':Int))/\d < 4294967296/\b'<=1/\d+b+y=x+4294967296*b':=by
 unfold Js
 have e:wu32 (wu32 ((x:Int)-y)-b)=(((x:Int)-y-b) % 4294967296).toNat:=by rw [Arm,Arm];omega
 rw [e]
 generalize hd:(((x:Int)-y-b) % 4294967296).toNat=d
 have hdl:d < 4294967296:=by omega
 rw [Arl,Arl,Ak4,Ak4,Ak4,Ays]
 simp only [Ayt,Awv,BitVec.allOnes_xor]
 rw [Ayu]
 rw [BitVec.msb_or,BitVec.msb_and,BitVec.msb_and,BitVec.msb_not,BitVec.msb_not,BitVec.msb_xor,Ahc _ hx,Ahc _ hy,Ahc _ hdl]
 by_cases h1:2147483648<=x <;> by_cases h2:2147483648<=y <;> by_cases h3:2147483648<=d <;> simp only [h1,h2,h3,decide_true,decide_false,Bool.not_true,Bool.not_false,Bool.and_true,Bool.and_false,Bool.true_and,Bool.false_and,Bool.or_true,Bool.or_false,Bool.xor_true,Bool.xor_false,Bool.false_eq_true,if_true,if_false,show (0 < 32)=True by simp] <;>
  first
  | exact ⟨d,0,rfl,hdl,by omega,by omega⟩
  | exact ⟨d,1,rfl,hdl,by omega,by omega⟩
theorem Ayw {x y c:Nat} (hx:x < 4294967296) (hy:y < 4294967296) (hc:c<=1) :
  Jq (x:Int) (y:Int) (c:Int)=some ((((x+y+c) % 4294967296:Nat):Int),(((x+y+c) / 4294967296:Nat):Int)):=by
 unfold Jq
 have e:wu64 (wu64 (wu64 (x:Int)+wu64 (y:Int))+wu64 (c:Int))=((x+y+c:Nat):Int):=by
  rw [Ry (n:=x) (by omega),Ry (n:=y) (by omega),Ry (n:=c) (by omega),<- Int.natCast_add,Ry (by omega),<- Int.natCast_add,Ry (by omega)]
 rw [e,Aae,Ari,Arh (by omega)]
theorem Arn {l r out:List Nat} {cy i n:Nat} (hn:l.length=n) (hi:i < n) (hr:r.length<=n) (hl':∀ x∈l,x < 4294967296) (hr':∀ x∈r,x < 4294967296)
  (hC1:out.length=n+1) (hC2:cy<=1) (hC4:∀ x∈out,x < 4294967296) (hC5:∀ (q:Nat) (h:q < out.length),i<=q->out[q]=0)
  (hC6:val 4294967296 out+cy*4294967296 ^ i=val 4294967296 (l.take i)+val 4294967296 (r.take i)) :
  ∀ s,s=l.getD i 0+r.getD i 0+cy->(out.set i (s % 4294967296)).length=n+1/\s / 4294967296<=1/\(∀ x∈out.set i (s % 4294967296),x < 4294967296)/\(∀ (q:Nat) (h:q < (out.set i (s % 4294967296)).length),i+1<=q->(out.set i (s % 4294967296))[q]=0) /\
   val 4294967296 (out.set i (s % 4294967296))+s / 4294967296*4294967296 ^ (i+1)=val 4294967296 (l.take (i+1))+val 4294967296 (r.take (i+1)):=by
 intro s hs
 have h1:=Tu (b:=4294967296) (by omega) hl' i
 have h2:=Tu (b:=4294967296) (by omega) hr' i
 refine ⟨by simp [hC1],by omega,Rz hC4 (by omega),fun q hq hiq=>?_,?_⟩
 ·rw [List.getElem_set_ne (by omega)];exact hC5 q (by simpa using hq) (by omega)
 ·have hs1:=Xj (b:=4294967296) out i (s % 4294967296) (by omega)
  rw [hC5 i (by omega) (by omega)] at hs1
  rw [Xh,Xh]
  have e1:s=4294967296*(s / 4294967296)+s % 4294967296:=by omega
  have e2:=congrArg (· * 4294967296 ^ i) (hs.symm.trans e1)
  simp only [Nat.add_mul] at e2
  have e4:4294967296 ^ (i+1)=4294967296*4294967296 ^ i:=by rw [Nat.pow_succ,Nat.mul_comm]
  rw [e4]
  generalize 4294967296 ^ i=P at *
  generalize l.getD i 0=a at *
  generalize r.getD i 0=b at *
  generalize s / 4294967296=q at *
  generalize s % 4294967296=m at *
  have e5:q*(4294967296*P)=4294967296*q*P:=by grind
  have e7:P*a=a*P:=Nat.mul_comm _ _
  have e8:P*b=b*P:=Nat.mul_comm _ _
  omega
theorem Aro (l r:List Nat) (hl:∀ x∈l,x < 4294967296) (hr:∀ x∈r,x < 4294967296) (h9:l.length<=100000) (hrl:r.length<=l.length) :
  (jn (fun (s6:(List Int) × Int) =>
   bnd (idx s6.1 ((((nI l).length:Nat):Int))) fun _ =>
   bnd (Fj (setI s6.1 ((((nI l).length:Nat):Int)) s6.2)) fun r122 =>
   some r122)
   (fun j6=>bnd (lfix (Io (nI l,nI r)) (List.replicate (Int.toNat (w64 (((((nI l).length:Nat):Int))+1))) (0:Int),0,0)) fun t56 =>
   j6 t56))=some (L32 (val 4294967296 l+val 4294967296 r)):=by
 obtain ⟨t,ht,out,cy,rfl,hC1,hC2,hC4,hC5,hC6⟩:=Bk (B:=Io (nI l,nI r)) (fun s=>l.length-s.2.2.toNat)
  (fun s=>∃ (out:List Nat) (cy i:Nat),s=(nI out,(cy:Int),(i:Int))/\i<=l.length/\out.length=l.length+1/\cy<=1/\(∀ x∈out,x < 4294967296)/\(∀ (q:Nat) (h:q < out.length),i<=q->out[q]=0)/\val 4294967296 out+cy*4294967296 ^ i=val 4294967296 (l.take i)+val 4294967296 (r.take i))
  (fun t=>∃ (out:List Nat) (cy:Nat),t=(nI out,(cy:Int))/\out.length=l.length+1/\cy<=1/\(∀ x∈out,x < 4294967296)/\(∀ (h:l.length < out.length),out[l.length]=0)/\val 4294967296 out+cy*4294967296 ^ l.length=val 4294967296 l+val 4294967296 r) (by
   rintro s ⟨out,cy,i,rfl,hi',hC1,hC2,hC4,hC5,hC6⟩
   unfold Io
   simp only [jn_d,Jb]
   by_cases hi:i < l.length
   ·left
    obtain ⟨k1,k2,k3,k4,k5⟩:=Arn rfl hi hrl hl hr hC1 hC2 hC4 hC5 hC6 _ rfl
    have h1:=Tu (b:=4294967296) (by omega) hl i
    have h2:=Tu (b:=4294967296) (by omega) hr i
    refine ⟨_,?_,⟨_,_,i+1,rfl,by omega,k1,k2,k3,k4,k5⟩,by simp only [Int.toNat_natCast];omega⟩
    rw [if_pos (by omega)]
    have fin:∀ y:Int,y=((r.getD i 0:Nat):Int)->(bnd (idx (nI l) (i:Int)) fun x76=>bnd (Jq x76 y (cy:Int)) fun r87=>bnd (idx (nI out) (i:Int)) fun _=>some (Sum.inl (β:=List Int × Int) (setI (nI out) (i:Int) r87.1,r87.2,w64 ((i:Int)+1))))=some (.inl (nI (out.set i ((l.getD i 0+r.getD i 0+cy) % 4294967296)),(((l.getD i 0+r.getD i 0+cy) / 4294967296:Nat):Int),((i+1:Nat):Int))):=by
     rintro y rfl
     rw [Pf hi,Ad,<- Ac0 hi,Ayw h1 h2 hC2,Ad,Pf (by omega),Ad]
     simp only []
     rw [Aad,Au (by omega)]
    by_cases hm:i < r.length
    ·rw [if_pos (by omega),Pf hm,Ad]
     exact fin _ (by rw [Ac0 hm])
    ·rw [if_neg (by omega)]
     exact fin _ (by rw [Ai1 hm];rfl)
   ·right
    obtain rfl:i=l.length:=by omega
    rw [if_neg (by omega)]
    rw [List.take_of_length_le (by omega),List.take_of_length_le (by omega)] at hC6
    exact ⟨_,rfl,out,cy,rfl,hC1,hC2,hC4,fun h=>hC5 _ h (by omega),hC6⟩)
  (nI (List.replicate (l.length+1) 0),((0:Nat):Int),((0:Nat):Int)) ⟨_,0,0,rfl,by omega,by simp,by omega,by simp,by simp,by simp [val,Xk]⟩
 simp only [jn_d,Jb]
 rw [Au (by omega),Int.toNat_natCast,Aef]
 have ht':lfix (Io (nI l,nI r)) (nI (List.replicate (l.length+1) 0),0,0)=some (nI out,(cy:Int)):=ht
 rw [ht',Ad]
 simp only []
 rw [Pf (by omega),Ad,Aad,Acz _ (by simp;omega),Ad]
 have hs1:=Xj (b:=4294967296) out l.length cy (by omega)
 rw [hC5 (by omega)] at hs1
 rw [Aeh (b:=4294967296) (by omega) _ (Rz hC4 (by omega)),show val 4294967296 (out.set l.length cy)=val 4294967296 l+val 4294967296 r by omega]
 rfl
theorem Aww (l r:List Nat) (hl:∀ x∈l,x < 4294967296) (hr:∀ x∈r,x < 4294967296) (h9:l.length<=100000) (h9':r.length<=100000) :
  Mg (nI l) (nI r)=some (L32 (val 4294967296 l+val 4294967296 r)):=by
 unfold Mg
 simp only [jn_d]
 by_cases h:l.length < r.length
 ·rw [if_pos (by rw [Jb,Jb];omega),gd_t (by rw [Jb,Au (by omega)];omega)]
  have:=Aro r l hr hl h9' (by omega)
  simp only [jn_d] at this
  rw [this,Nat.add_comm]
 ·rw [if_neg (by rw [Jb,Jb];omega),gd_t (by rw [Jb,Au (by omega)];omega)]
  have:=Aro l r hl hr h9 (by omega)
  simp only [jn_d] at this
  exact this
theorem Awx (l r:List Nat) (hl:∀ x∈l,x < 4294967296) (hr:∀ x∈r,x < 4294967296) (h9:l.length<=100000) (hrl:r.length<=l.length) (hle:val 4294967296 r<=val 4294967296 l) :
  Ki (nI l) (nI r)=some (L32 (val 4294967296 l-val 4294967296 r)):=by
 obtain ⟨t,ht,out,rfl,hC1,hd⟩:=Bk (B:=Ks (nI l) (nI r)) (fun s=>l.length-s.2.2.toNat)
  (fun s=>∃ (out:List Nat) (bw i:Nat),s=(nI out,(bw:Int),(i:Int))/\i<=l.length/\out.length=l.length/\bw<=1/\(∀ x∈out,x < 4294967296)/\(∀ (q:Nat) (h:q < out.length),i<=q->out[q]=0)/\val 4294967296 out+val 4294967296 (r.take i)=val 4294967296 (l.take i)+bw*4294967296 ^ i)
  (fun t=>∃ (out:List Nat),t=nI out/\out.length=l.length/\nrm out=dig 4294967296 (val 4294967296 l-val 4294967296 r)) (by
   rintro s ⟨out,bw,i,rfl,hi',hC1,hC2,hC4,hC5,hC6⟩
   unfold Ks
   simp only [jn_d,Jb]
   by_cases hi:i < l.length
   ·left
    have h1:=Tu (b:=4294967296) (by omega) hl i
    have h2:=Tu (b:=4294967296) (by omega) hr i
    obtain ⟨d,b',hB,hd1,hb1,he⟩:=Ayv h1 h2 hC2
    refine ⟨(nI (out.set i d),(b':Int),((i+1:Nat):Int)),?_,⟨_,_,i+1,rfl,by omega,by simp [hC1],hb1,Rz hC4 hd1,fun q hq hiq=>?_,?_⟩,by simp only [Int.toNat_natCast];omega⟩
    ·rw [if_pos (by omega)]
     have fin:∀ y:Int,y=((r.getD i 0:Nat):Int)->(bnd (idx (nI l) (i:Int)) fun x76=>bnd (Js x76 y (bw:Int)) fun r87=>bnd (idx (nI out) (i:Int)) fun _=>some (Sum.inl (β:=List Int) (setI (nI out) (i:Int) r87.1,r87.2,w64 ((i:Int)+1))))=some (.inl (nI (out.set i d),(b':Int),((i+1:Nat):Int))):=by
      rintro y rfl
      rw [Pf hi,Ad,<- Ac0 hi,hB,Ad,Pf (by omega),Ad]
      simp only []
      rw [Aad,Au (by omega)]
     by_cases hm:i < r.length
     ·rw [if_pos (by omega),Pf hm,Ad]
      exact fin _ (by rw [Ac0 hm])
     ·rw [if_neg (by omega)]
      exact fin _ (by rw [Ai1 hm];rfl)
    ·rw [List.getElem_set_ne (by omega)];exact hC5 q (by simpa using hq) (by omega)
    ·have hs1:=Xj (b:=4294967296) out i d (by omega)
     rw [hC5 i (by omega) (by omega)] at hs1
     rw [Xh,Xh]
     have e3:=congrArg (· * 4294967296 ^ i) he
     simp only [Nat.add_mul] at e3
     have e4:4294967296 ^ (i+1)=4294967296*4294967296 ^ i:=by rw [Nat.pow_succ,Nat.mul_comm]
     rw [e4]
     generalize 4294967296 ^ i=P at *
     generalize l.getD i 0=a at *
     generalize r.getD i 0=b at *
     have e5:b' * (4294967296*P)=4294967296*b' * P:=by grind
     have e7:P*a=a*P:=Nat.mul_comm _ _
     have e8:P*b=b*P:=Nat.mul_comm _ _
     omega
   ·right
    obtain rfl:i=l.length:=by omega
    rw [if_neg (by omega)]
    rw [List.take_of_length_le (by omega),List.take_of_length_le (by omega)] at hC6
    refine ⟨_,rfl,out,rfl,hC1,?_⟩
    rw [Aeh (b:=4294967296) (by omega) out hC4]
    have hlt:=Arx out hC4
    rw [hC1] at hlt
    have:bw=0\/bw=1:=by omega
    rcases this with rfl | rfl
    ·rw [show val 4294967296 out=val 4294967296 l-val 4294967296 r by omega]
    ·omega)
  (nI (List.replicate l.length 0),((0:Nat):Int),((0:Nat):Int)) ⟨_,0,0,rfl,by omega,by simp,by omega,by simp,by simp,by simp [val,Xk]⟩
 unfold Ki
 simp only [jn_d,Jb,Int.toNat_natCast,Aef]
 rw [gd_t ⟨by omega,by omega⟩]
 have ht':lfix (Ks (nI l) (nI r)) (nI (List.replicate l.length 0),0,0)=some (nI out):=ht
 rw [ht',Ad,Acz _ (by omega),Ad,hd];rfl
theorem W_lt {a:Nat}:∀ x∈dig 4294967296 a,x < 4294967296:=Ahh (by omega) a
theorem Awy {a b:Nat} (ha:(dig 4294967296 a).length<=100000) (hb:(dig 4294967296 b).length<=100000):Mg (L32 a) (L32 b)=some (L32 (a+b)):=by
 have:=Aww _ _ (W_lt (a:=a)) (W_lt (a:=b)) ha hb
 rwa [Lv (by omega),Lv (by omega)] at this
theorem Aoi {a b:Nat} (h:a<=b):(dig 4294967296 a).length<=(dig 4294967296 b).length:=by
 rcases Nat.lt_or_ge (dig 4294967296 b).length (dig 4294967296 a).length with h1 | h1
 ·have:=Yy (b:=4294967296) (by omega) h1;omega
 ·exact h1
theorem Arp {a b:Nat} (ha:(dig 4294967296 a).length<=100000) (h:b<=a):Ki (L32 a) (L32 b)=some (L32 (a-b)):=by
 have:=Awx _ _ (W_lt (a:=a)) (W_lt (a:=b)) ha (Aoi h) (by rw [Lv (by omega),Lv (by omega)];exact h)
 rwa [Lv (by omega),Lv (by omega)] at this
theorem Awz {a b:Nat} (h:(dig 4294967296 a).length+(dig 4294967296 b).length<=1000000):Dl (L32 a) (L32 b)=some (L32 (a*b)):=by
 have:=Arj _ _ (W_lt (a:=a)) (W_lt (a:=b)) h
 rwa [Lv (by omega),Lv (by omega)] at this
theorem Ami {n:Nat} (h:n<=18446744073709551615):Om (n:Int)=some (L32 n):=by
 unfold Om
 have:=Acz [n % 4294967296,n / 4294967296 % 4294967296] (by simp)
 rw [show [wu32 (n:Int),wu32 (shr_ .u64 (n:Int) 32)]=nI [n % 4294967296,n / 4294967296 % 4294967296] from by rw [Ari,Aae,Aae];rfl,this,Ad,Aoo n h]
 rfl
theorem Aw0 {s:Bool} {z:Int} (hs:z≠0->s=decide (z < 0)):Kt ⟨s,L32 z.natAbs,[1]⟩=some (Int.sign z):=by
 unfold Kt
 simp only []
 by_cases h0:z=0
 ·subst h0;rfl
 ·have:(L32 z.natAbs).length≠0:=fun e=>h0 (by have:=Aub.1 e;omega)
  rw [if_neg (by omega),hs h0]
  by_cases h1:z < 0
  ·rw [if_pos (by simpa using h1),Int.sign_eq_neg_one_of_neg h1]
  ·rw [if_neg (by simpa using h1),Int.sign_eq_one_of_pos (by omega)]
structure Wd (n:Bn) (z:Int):Prop where
 num:n.n=L32 z.natAbs
 den:n.d=[1]
 neg:z≠0->n.neg=decide (z < 0)
theorem Wd.eq {n:Bn} {z:Int} (h:Wd n z):n=⟨n.neg,L32 z.natAbs,[1]⟩:=by
 obtain ⟨s,a,d⟩:=n
 obtain ⟨h1,h2,h3⟩:=h
 simp only at h1 h2
 subst h1;subst h2;rfl
theorem Ak5 (x:Int):wu64 x=x % 18446744073709551616:=by
 unfold wu64
 rw [IntKind.wrap_u64]
theorem Arq {z:Int} (h1:-9223372036854775808<=z) (h2:z<=9223372036854775807):∃ n,Jt z=some n/\Wd n z:=by
 unfold Jt
 by_cases h:z < 0
 ·rw [if_pos h]
  have e:wu64 ((wu64 (w64 (-(w64 (z+1)))))+1)=((z.natAbs:Nat):Int):=by
   rw [Ay (x:=z+1) (by omega) (by omega),Ay (by omega) (by omega),Ak5,Ak5]
   omega
  rw [e,Ami (by omega)]
  exact ⟨_,rfl,rfl,rfl,fun _=>by simp [h]⟩
 ·rw [if_neg h]
  have e:wu64 z=((z.natAbs:Nat):Int):=by rw [Ak5];omega
  rw [e,Ami (by omega)]
  exact ⟨_,rfl,rfl,rfl,fun _=>by simp [h]⟩
theorem Aw1 {a b:Bn} {x y:Int} (ha:Wd a x) (hb:Wd b y) (h:(dig 4294967296 x.natAbs).length+(dig 4294967296 y.natAbs).length<=1000000):∃ n,Ig a b=some n/\Wd n (x*y):=by
 unfold Ig
 rw [ha.num,hb.num,ha.den,hb.den,Awz h,Ad,Amh,Ad]
 refine ⟨_,rfl,by simp [Int.natAbs_mul],rfl,fun h0=>?_⟩
 have hx:x≠0:=fun e=>h0 (by rw [e,Int.zero_mul])
 have hy:y≠0:=fun e=>h0 (by rw [e,Int.mul_zero])
 simp only
 rw [ha.neg hx,hb.neg hy]
 rcases Int.lt_or_gt_of_ne hx with h1 | h1 <;> rcases Int.lt_or_gt_of_ne hy with h2 | h2
 ·have:=Int.mul_pos_of_neg_of_neg h1 h2
  simp [h1,h2];omega
 ·have:=Int.mul_neg_of_neg_of_pos h1 h2
  rw [decide_eq_true h1,decide_eq_false (by omega),decide_eq_true this];rfl
 ·have:=Int.mul_neg_of_pos_of_neg h1 h2
  rw [decide_eq_false (by omega),decide_eq_true h2,decide_eq_true this];rfl
 ·have:=Int.mul_pos h1 h2
  rw [decide_eq_false (by omega),decide_eq_false (by omega),decide_eq_false (by omega)];rfl
theorem Arr {a b:Bn} {x y:Int} (ha:Wd a x) (hb:Wd b y) (hx:(dig 4294967296 x.natAbs).length<=1000) (hy:(dig 4294967296 y.natAbs).length<=1000):∃ n,Mh a b=some n/\Wd n (x+y):=by
 have e1:=ha.neg
 have e2:=hb.neg
 unfold Mh
 rw [ha.num,hb.num,ha.den,hb.den,Ak3 _ hx,Ad,Ak3 _ hy,Ad,Amh,Ad]
 generalize a.neg=s at *
 generalize b.neg=t at *
 have f1:x≠0->(s=true↔x < 0):=fun h=>by rw [e1 h];simp
 have f2:y≠0->(t=true↔y < 0):=fun h=>by rw [e2 h];simp
 clear e1 e2
 by_cases hs:s=t
 ·subst hs
  rw [if_pos (by simp),Awy (by omega) (by omega),Ad]
  have:x.natAbs+y.natAbs=(x+y).natAbs:=by
   cases s <;> simp at f1 f2 <;> omega
  rw [this]
  refine ⟨_,rfl,rfl,rfl,fun h0=>?_⟩
  simp only
  cases s <;> simp at f1 f2 ⊢ <;> omega
 ·rw [if_neg (by simpa using hs),Awu _ _ (by omega),Ad]
  by_cases hc:y.natAbs<=x.natAbs
  ·rw [if_pos (by unfold cmpN;split <;> (try split) <;> omega),Arp (by omega) hc,Ad]
   have:x.natAbs-y.natAbs=(x+y).natAbs:=by
    cases s <;> cases t <;> simp at f1 f2 hs <;> omega
   rw [this]
   refine ⟨_,rfl,rfl,rfl,fun h0=>?_⟩
   simp only
   cases s <;> cases t <;> simp at f1 f2 hs ⊢ <;> omega
  ·rw [if_neg (by unfold cmpN;split <;> (try split) <;> omega),Arp (by omega) (by omega),Ad]
   have:y.natAbs-x.natAbs=(x+y).natAbs:=by
    cases s <;> cases t <;> simp at f1 f2 hs <;> omega
   rw [this]
   refine ⟨_,rfl,rfl,rfl,fun h0=>?_⟩
   simp only
   cases s <;> cases t <;> simp at f1 f2 hs ⊢ <;> omega
theorem Auc {n:Bn} {z:Int} (h:Wd n z):Kt n=some (Int.sign z):=by
 rw [h.eq]
 exact Aw0 h.neg
theorem mulB {x y M N:Int} (hM:0<=M) (hx1:-M<=x) (hx2:x<=M) (hy1:-N<=y) (hy2:y<=N):-(M*N)<=x*y/\x*y<=M*N:=by
 have h:(x*y).natAbs<=M.natAbs*N.natAbs:=by
  rw [Int.natAbs_mul]
  exact Nat.mul_le_mul (by omega) (by omega)
 rw [<- Int.natAbs_mul] at h
 have:0<=M*N:=Int.mul_nonneg hM (by omega)
 omega
def okP (p:Ac):Prop:=-268435456<=p.X/\p.X<=268435456/\-268435456<=p.Y/\p.Y<=268435456
instance (p:Ac):Decidable (okP p):=by unfold okP;infer_instance
def crs (a b c:Ac):Int:=(b.X-a.X)*(c.Y-a.Y)-(b.Y-a.Y)*(c.X-a.X)
def lft (p d:Ac):Int:=(p.X-d.X)*(p.X-d.X)+(p.Y-d.Y)*(p.Y-d.Y)
def inC (a b c d:Ac):Int:=lft a d*crs d b c+lft b d*crs d c a+lft c d*crs d a b
theorem Af1 (l:List Ac) (hl:l.length<=1000000):Nk l=some (l.all fun p=>decide (okP p)):=by
 unfold Nk
 rw [jn_d]
 have step:∀ i (hi:i < l.length),Ju l (i:Int)=if okP l[i] then some (.inl (((i+1:Nat):Int))) else some (.inr (.inr false)):=by
  intro i hi
  unfold Ju
  rw [if_pos (by omega),As hi,Ad,jn_d,Au (by omega)]
  by_cases h1:l[i].X < -268435456
  ·rw [if_pos h1,if_neg (show ¬ okP l[i] by unfold okP;omega)];rfl
  ·rw [if_neg h1]
   by_cases h2:268435456 < l[i].X
   ·rw [if_pos h2,if_neg (show ¬ okP l[i] by unfold okP;omega)];rfl
   ·rw [if_neg h2]
    by_cases h3:l[i].Y < -268435456
    ·rw [if_pos h3,if_neg (show ¬ okP l[i] by unfold okP;omega)];rfl
    ·rw [if_neg h3]
     by_cases h4:268435456 < l[i].Y
     ·rw [decide_eq_true h4,if_neg (show ¬ okP l[i] by unfold okP;omega)];rfl
     ·rw [decide_eq_false h4,if_pos (show okP l[i] by unfold okP;omega)];rfl
 have key:∀ k i,k+i=l.length->lfix (Ju l) (i:Int)=some (if (l.drop i).all (fun p=>decide (okP p)) then .inl () else .inr false):=by
  intro k
  induction k with
  | zero =>
   intro i hi
   rw [Bf]
   unfold Ju
   rw [if_neg (by omega),List.drop_eq_nil_of_le (by omega)]
   rfl
  | succ k ih =>
   intro i hi
   have hlt:i < l.length:=by omega
   rw [Bf,step i hlt,List.drop_eq_getElem_cons hlt,List.all_cons]
   by_cases h:okP l[i]
   ·rw [if_pos h]
    simp only [h,decide_true,Bool.true_and]
    exact ih (i+1) (by omega)
   ·rw [if_neg h]
    simp [h]
 have:=key l.length 0 (by omega)
 rw [show ((0:Nat):Int)=0 from rfl] at this
 rw [this,List.drop_zero]
 by_cases h:l.all (fun p=>decide (okP p))=true
 ·rw [h];rfl
 ·rw [Bool.not_eq_true] at h;rw [h];rfl
theorem Lu {a b c:Ac} (ha:okP a) (hb:okP b) (hc:okP c):-576460752303423488<=crs a b c/\crs a b c<=576460752303423488:=by
 unfold okP at ha hb hc
 have h1:=mulB (x:=b.X-a.X) (y:=c.Y-a.Y) (M:=536870912) (N:=536870912) (by omega) (by omega) (by omega) (by omega) (by omega)
 have h2:=mulB (x:=b.Y-a.Y) (y:=c.X-a.X) (M:=536870912) (N:=536870912) (by omega) (by omega) (by omega) (by omega) (by omega)
 unfold crs
 omega
theorem Oa {a b c:Ac} (ha:okP a) (hb:okP b) (hc:okP c):Kb a b c=some (crs a b c):=by
 have h0:=Lu ha hb hc
 unfold okP at ha hb hc
 have h1:=mulB (x:=b.X-a.X) (y:=c.Y-a.Y) (M:=536870912) (N:=536870912) (by omega) (by omega) (by omega) (by omega) (by omega)
 have h2:=mulB (x:=b.Y-a.Y) (y:=c.X-a.X) (M:=536870912) (N:=536870912) (by omega) (by omega) (by omega) (by omega) (by omega)
 unfold Kb
 unfold crs at h0 ⊢
 rw [Ay (x:=b.X-a.X) (by omega) (by omega),Ay (x:=c.Y-a.Y) (by omega) (by omega),Ay (x:=b.Y-a.Y) (by omega) (by omega),Ay (x:=c.X-a.X) (by omega) (by omega),
  Ay (x:=(b.X-a.X)*(c.Y-a.Y)) (by omega) (by omega),Ay (x:=(b.Y-a.Y)*(c.X-a.X)) (by omega) (by omega),Ay (by omega) (by omega)]
theorem Yx {p d:Ac} (hp:okP p) (hd:okP d):0<=lft p d/\lft p d<=576460752303423488:=by
 unfold okP at hp hd
 have h1:=mulB (x:=p.X-d.X) (y:=p.X-d.X) (M:=536870912) (N:=536870912) (by omega) (by omega) (by omega) (by omega) (by omega)
 have h2:=mulB (x:=p.Y-d.Y) (y:=p.Y-d.Y) (M:=536870912) (N:=536870912) (by omega) (by omega) (by omega) (by omega) (by omega)
 have h3:0<=(p.X-d.X)*(p.X-d.X):=by rw [<- Int.natAbs_mul_self];omega
 have h4:0<=(p.Y-d.Y)*(p.Y-d.Y):=by rw [<- Int.natAbs_mul_self];omega
 unfold lft
 omega
theorem Xi {p d:Ac} (hp:okP p) (hd:okP d):Oi p d=some (lft p d):=by
 have h0:=Yx hp hd
 unfold okP at hp hd
 have h1:=mulB (x:=p.X-d.X) (y:=p.X-d.X) (M:=536870912) (N:=536870912) (by omega) (by omega) (by omega) (by omega) (by omega)
 have h2:=mulB (x:=p.Y-d.Y) (y:=p.Y-d.Y) (M:=536870912) (N:=536870912) (by omega) (by omega) (by omega) (by omega) (by omega)
 unfold Oi
 unfold lft at h0 ⊢
 rw [Ay (x:=p.X-d.X) (by omega) (by omega),Ay (x:=p.Y-d.Y) (by omega) (by omega),
  Ay (x:=(p.X-d.X)*(p.X-d.X)) (by omega) (by omega),Ay (x:=(p.Y-d.Y)*(p.Y-d.Y)) (by omega) (by omega),Ay (by omega) (by omega)]
theorem Ai2 (z:Int):Jv z=some (Int.sign z):=by
 unfold Jv
 by_cases h:z < 0
 ·rw [if_pos h,Int.sign_eq_neg_one_of_neg h]
 ·rw [if_neg h]
  by_cases h2:0 < z
  ·rw [if_pos h2,Int.sign_eq_one_of_pos h2]
  ·rw [if_neg h2,show z=0 by omega];rfl
theorem Amj (a b c:Ac):Ps a b c=some (if okP a/\okP b/\okP c then (Int.sign (crs a b c),0) else (0,11)):=by
 unfold Ps
 rw [Af1 _ (by simp),Ad]
 by_cases h:okP a/\okP b/\okP c
 ·rw [if_pos (by simp [h]),Oa h.1 h.2.1 h.2.2,Ad,Ai2,Ad,if_pos h]
 ·rw [if_neg (by simpa [and_assoc] using h),if_neg h]
theorem Qd {a b c:Ac} (ha:okP a) (hb:okP b) (hc:okP c):Hk a b c=some (Int.sign (crs a b c)):=by
 unfold Hk
 rw [Amj,if_pos ⟨ha,hb,hc⟩]
 rfl
theorem dig3 {z:Int} (h1:-9223372036854775808<=z) (h2:z<=9223372036854775807):(dig 4294967296 z.natAbs).length<=2:=Amr (by omega) 2 _ (by
 have:(4294967296:Nat) ^ 2=18446744073709551616:=by decide
 omega)
theorem dig5 {z:Int} (h1:-10000000000000000000000000000000000000<=z) (h2:z<=10000000000000000000000000000000000000):(dig 4294967296 z.natAbs).length<=4:=Amr (by omega) 4 _ (by
 have:(4294967296:Nat) ^ 4=340282366920938463463374607431768211456:=by decide
 omega)
theorem Ahd {u v:Int} (hu1:-576460752303423488<=u) (hu2:u<=576460752303423488) (hv1:-576460752303423488<=v) (hv2:v<=576460752303423488) :
  ∃ n m k,Jt u=some n/\Jt v=some m/\Ig n m=some k/\Wd k (u*v)/\-332306998946228968225951765070086144<=u*v/\u*v<=332306998946228968225951765070086144:=by
 obtain ⟨n,h1,h2⟩:=Arq (z:=u) (by omega) (by omega)
 obtain ⟨m,h3,h4⟩:=Arq (z:=v) (by omega) (by omega)
 have d1:=dig3 (z:=u) (by omega) (by omega)
 have d2:=dig3 (z:=v) (by omega) (by omega)
 obtain ⟨k,h5,h6⟩:=Aw1 h2 h4 (by omega)
 have:=mulB (x:=u) (y:=v) (M:=576460752303423488) (N:=576460752303423488) (by omega) (by omega) (by omega) (by omega) (by omega)
 exact ⟨n,m,k,h1,h3,h5,h6,by omega,by omega⟩
theorem Aoj (a b c d:Ac):Ov a b c d=some (if okP a/\okP b/\okP c/\okP d then if crs a b c=0 then (0,12) else (Int.sign (crs a b c)*Int.sign (inC a b c d),0) else (0,11)):=by
 unfold Ov
 rw [Af1 _ (by simp),Ad]
 by_cases h:okP a/\okP b/\okP c/\okP d
 ·obtain ⟨ha,hb,hc,hd⟩:=h
  rw [if_pos (by simp [ha,hb,hc,hd]),if_pos ⟨ha,hb,hc,hd⟩,Oa ha hb hc,Ad,Ai2,Ad]
  by_cases h0:crs a b c=0
  ·rw [if_pos (by rw [h0];rfl),if_pos h0]
  ·rw [if_neg (by rwa [Int.sign_eq_zero_iff_zero]),if_neg h0]
   try rw [jn_d]
   have l1:=Yx ha hd
   have l2:=Yx hb hd
   have l3:=Yx hc hd
   have c1:=Lu hd hb hc
   have c2:=Lu hd hc ha
   have c3:=Lu hd ha hb
   obtain ⟨n1,m1,k1,e1,e2,e3,i1,b1,b2⟩:=Ahd (u:=lft a d) (v:=crs d b c) (by omega) (by omega) (by omega) (by omega)
   obtain ⟨n2,m2,k2,e4,e5,e6,i2,b3,b4⟩:=Ahd (u:=lft b d) (v:=crs d c a) (by omega) (by omega) (by omega) (by omega)
   obtain ⟨n3,m3,k3,e7,e8,e9,i3,b5,b6⟩:=Ahd (u:=lft c d) (v:=crs d a b) (by omega) (by omega) (by omega) (by omega)
   have q1:=dig5 (z:=lft a d*crs d b c) (by omega) (by omega)
   have q2:=dig5 (z:=lft b d*crs d c a) (by omega) (by omega)
   have q3:=dig5 (z:=lft c d*crs d a b) (by omega) (by omega)
   have q4:=dig5 (z:=lft a d*crs d b c+lft b d*crs d c a) (by omega) (by omega)
   obtain ⟨s1,f1,g1⟩:=Arr i1 i2 (by omega) (by omega)
   obtain ⟨s2,f2,g2⟩:=Arr g1 i3 (by omega) (by omega)
   simp only [Xi ha hd,Xi hb hd,Xi hc hd,Oa hd hb hc,Oa hd hc ha,Oa hd ha hb,Ad,e1,e2,e3,e4,e5,e6,e7,e8,e9]
   try rw [show (⟨k1.neg,k1.n,k1.d⟩:Bn)=k1 from rfl]
   rw [f1,Ad,f2,Ad,Auc g2,Ad,Ay]
   ·rfl
   ·rcases Int.sign_trichotomy (crs a b c) with h | h | h <;> rcases Int.sign_trichotomy (lft a d*crs d b c+lft b d*crs d c a+lft c d*crs d a b) with h' | h' | h' <;> simp [h,h']
   ·rcases Int.sign_trichotomy (crs a b c) with h | h | h <;> rcases Int.sign_trichotomy (lft a d*crs d b c+lft b d*crs d c a+lft c d*crs d a b) with h' | h' | h' <;> simp [h,h']
 ·rw [if_neg (by simpa [and_assoc] using h),if_neg h]
end Go.Proofs.YtjfndjmabhbicaaGreat
