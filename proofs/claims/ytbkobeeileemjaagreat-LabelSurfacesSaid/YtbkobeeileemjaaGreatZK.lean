/- Z1 Z2 Z3 Z4 Z5 K1 K2 K3 K4 K5 K6 K7 K8 K9 K10 K11 in one. -/
import Derived.Test.YtbkobeeileemjaaGreatD1
import Derived.Test.YtbkobeeileemjaaGreatP0
import Derived.Test.YtbkobeeileemjaaGreatE1
/- The limbs of the program's exact numbers. -/
namespace Go.Proofs.YtbkobeeileemjaaGreat
open Go Go.RowKit
def nI (l:List Nat):List Int:=l.map (fun x:Nat=>(x:Int))
def L32 (m:Nat):List Int:=nI (dig 4294967296 m)
theorem Ij {l:List Nat}:(nI l).length=l.length:=by simp [nI]
theorem Qn {l:List Nat} {j:Nat} (h:j < l.length):idx (nI l) (j:Int)=some ((l[j]:Nat):Int):=by
 rw [Bo (by rw [Ij];exact h)];simp [nI]
theorem Ae4 (n:Nat):(List.replicate n (0:Int))=nI (List.replicate n 0):=by simp [nI]
theorem Abt {l:List Nat} {j v:Nat}:setI (nI l) (j:Int) (v:Int)=nI (l.set j v):=by rw [Ab3];simp [nI,List.map_set]
theorem Aot {n:Nat} (h:n < 4294967296):wu32 (n:Int)=n:=Aee .u32 n (by simp only [top];omega)
theorem Tl {n:Nat} (h:n < 18446744073709551616):wu64 (n:Int)=n:=Aee .u64 n (by simp only [top];omega)
theorem Ads (l:List Nat) (h9:l.length≤1000000):Fd (nI l)=some (nI (nrm l)):=by
 obtain ⟨t,ht,hR⟩:=Cu (B:=Ml) (fun s=>s.length)
  (fun s=>∃ k:Nat,k≤l.length∧s=nI (l.take k)∧∀ (j:Nat) (h:j < l.length),k≤j→l[j]=0)
  (fun t=>t=nI (nrm l)) (by
   rintro s ⟨k,hk,rfl,hz⟩
   have hlen:(l.take k).length=k:=by rw [List.length_take];omega
   unfold Ml
   simp only [jn_d,Ij,hlen]
   by_cases h0:k=0
   ·right
    subst h0
    rw [if_neg (by omega),if_neg (by simp)]
    refine ⟨_,rfl,?_⟩
    rw [Acd l (fun x hx=>by obtain ⟨j,hj,rfl⟩:=List.getElem_of_mem hx;exact hz j hj (by omega))];rfl
   ·rw [if_pos (by omega)]
    ·rw [Bw (by omega) (by omega),show ((k:Int)-1)=((k-1:Nat):Int) from by omega,Qn (by omega),Ai]
     have e:(l.take k)[k-1]'(by omega)=l[k-1]:=by rw [List.getElem_take]
     rw [e]
     by_cases hx:l[k-1]=0
     ·left
      refine ⟨nI (l.take (k-1)),?_,⟨k-1,by omega,rfl,fun j h hj=>?_⟩,by simp only [Ij,List.length_take];omega⟩
      ·rw [if_pos (by rw [hx];rfl),gd_t ⟨by omega,by omega⟩]
       congr 2
       simp only [subl,nI,Int.toNat_natCast,Int.toNat_zero,List.drop_zero,← List.map_take,List.take_take]
       rw [show min (k-1) k=k-1 by omega]
      ·rcases Nat.lt_or_ge (k-1) j with hq | hq
       ·exact hz j h (by omega)
       ·obtain rfl:j=k-1:=by omega
        exact hx
     ·right
      rw [if_neg (by rw [decide_eq_true_eq];omega)]
      refine ⟨_,rfl,?_⟩
      have h1:=An3 l k hk hz (fun h0' h'=>hx)
      conv=>rhs;rw [Aba,h1])
  (nI l) ⟨l.length,by omega,by rw [List.take_length],fun j h hj=>by omega⟩
 unfold Fd
 simp only [jn_d]
 rw [ht,Ai,hR]
theorem Abu (n:Nat):wu32 (n:Int)=((n % 4294967296:Nat):Int):=by
 show IntKind.u32.wrap (n:Int)=_
 simp [IntKind.wrap,IntKind.bits,IntKind.signed]
theorem Aou (n:Nat):shr_ .u64 (n:Int) 32=((n / 4294967296:Nat):Int):=by
 show (n:Int).fdiv (2 ^ (min (32:Int).toNat 64))=_
 rw [show (2:Int) ^ (min (32:Int).toNat 64)=4294967296 from by decide,Int.fdiv_eq_ediv_of_nonneg _ (by omega)]
 omega
theorem Aov (l r:List Nat) (hl:∀ x∈l,x < 4294967296) (hr:∀ x∈r,x < 4294967296) (hb:l.length+r.length≤1000000) :
  Ea (nI l) (nI r)=some (L32 (val 4294967296 l*val 4294967296 r)):=by
 have e:w64 ((((nI l).length:Nat):Int)+(((nI r).length:Nat):Int))=((l.length+r.length:Nat):Int):=by rw [Ij,Ij,Bw (by omega) (by omega)];omega
 obtain ⟨t,ht,out,rfl,hd,hlo⟩:=Cu (B:=Ho (nI l) (nI r)) (fun s=>l.length-s.2.toNat)
  (fun s=>∃ (out:List Nat) (i:Nat),s=(nI out,(i:Int))∧out.length=l.length+r.length∧i≤l.length∧(∀ x∈out,x < 4294967296)∧(∀ (q:Nat) (h:q < out.length),i+r.length≤q→out[q]=0)∧val 4294967296 out=val 4294967296 (l.take i)*val 4294967296 r)
  (fun t=>∃ out,t=nI out∧nrm out=dig 4294967296 (val 4294967296 l*val 4294967296 r)∧out.length≤1000000) (by
   rintro s ⟨out0,i,rfl,hC1,hC2,hC3,hC4,hC5⟩
   by_cases hi:i < l.length
   ·left
    obtain ⟨t,ht,out,cy,rfl,hD1,hD2,hD4,hD5,hD6⟩:=Cu (B:=Hn (nI r) (nI out0,(i:Int)) (l[i]:Int)) (fun s=>r.length-s.2.2.toNat)
     (fun s=>∃ (out:List Nat) (cy j:Nat),s=(nI out,(cy:Int),(j:Int))∧out.length=l.length+r.length∧cy < 4294967296∧j≤r.length∧(∀ x∈out,x < 4294967296)∧(∀ (q:Nat) (h:q < out.length),i+r.length≤q→out[q]=0)∧val 4294967296 out+cy*4294967296 ^ (i+j)=val 4294967296 out0+l[i] * val 4294967296 (r.take j)*4294967296 ^ i)
     (fun t=>∃ (out:List Nat) (cy:Nat),t=(nI out,(cy:Int))∧out.length=l.length+r.length∧cy < 4294967296∧(∀ x∈out,x < 4294967296)∧(∀ (q:Nat) (h:q < out.length),i+r.length≤q→out[q]=0)∧val 4294967296 out+cy*4294967296 ^ (i+r.length)=val 4294967296 out0+l[i] * val 4294967296 (r.take r.length)*4294967296 ^ i) (by
      rintro s ⟨out,cy,j,rfl,hD1,hD2,hD3,hD4,hD5,hD6⟩
      by_cases hj:j < r.length
      ·left
       have hk:i+j < out.length:=by omega
       have h1:=hl _ (List.getElem_mem hi)
       have h2:=hr _ (List.getElem_mem hj)
       have h3:=hD4 _ (List.getElem_mem hk)
       have hmm:=Ai6 h1 h2
       have e1:w64 ((i:Int)+(j:Int))=((i+j:Nat):Int):=by rw [Bw (by omega) (by omega)];omega
       have e2:wu64 (wu64 (wu64 (wu64 (l[i]:Int)*wu64 (r[j]:Int))+wu64 (out[i+j]:Int))+(cy:Int))=((l[i] * r[j] + out[i+j] + cy:Nat):Int):=by
        rw [Tl (n:=l[i]) (by omega),Tl (n:=r[j]) (by omega),Tl (n:=out[i+j]) (by omega),← Int.natCast_mul,Tl (by omega),← Int.natCast_add,Tl (by omega),← Int.natCast_add,Tl (by omega)]
       have e4:wu32 ((l[i] * r[j] + out[i+j] + cy:Nat):Int)=(((l[i] * r[j] + out[i+j] + cy) % 4294967296:Nat):Int):=Abu _
       refine ⟨(nI (out.set (i+j) ((l[i] * r[j] + out[i+j] + cy) % 4294967296)),(((l[i] * r[j] + out[i+j] + cy) / 4294967296:Nat):Int),((j+1:Nat):Int)),?_,⟨_,_,_,rfl,Am9 hi hj rfl rfl h1 h2 hD1 hD2 hD3 hD4 hD5 hD6 hk⟩,by simp;omega⟩
       unfold Hn
       simp only [e1]
       rw [if_pos (by rw [Ij];omega),Qn hj,Ai,Qn hk,Ai,Ai,e2,e4,Aou,Abt,Cw (by omega)]
      ·right
       obtain rfl:j=r.length:=by omega
       refine ⟨(nI out,(cy:Int)),?_,out,cy,rfl,hD1,hD2,hD4,hD5,hD6⟩
       unfold Hn
       simp only []
       rw [if_neg (by rw [Ij];omega)])
     (nI out0,((0:Nat):Int),((0:Nat):Int)) ⟨out0,0,0,rfl,hC1,by omega,by omega,hC3,fun q hq hiq=>hC4 q hq (by omega),by simp [val]⟩
    have hk:i+r.length < out.length:=by omega
    refine ⟨(nI (out.set (i+r.length) (cy % 4294967296)),((i+1:Nat):Int)),?_,⟨_,_,rfl,Ana hi rfl rfl hD1 hD2 hD4 hD5 hD6 hC5 rfl⟩,by simp;omega⟩
    unfold Ho
    simp only [jn_d]
    have ht':lfix (Hn (nI r) (nI out0,(i:Int)) (l[i]:Int)) (nI out0,0,0)=some (nI out,(cy:Int)):=ht
    rw [if_pos (by rw [Ij];omega),Qn hi,Ai,ht',Ai,Ij,show w64 ((i:Int)+(r.length:Int))=((i+r.length:Nat):Int) from by rw [Bw (by omega) (by omega)];omega,Qn hk,Ai]
    simp only []
    rw [Aot hD2,Abt,Cw (by omega),Nat.mod_eq_of_lt hD2]
   ·right
    refine ⟨nI out0,?_,out0,rfl,Apq (i:=i) (by omega) rfl hC1 hC3 hC5,by omega⟩
    unfold Ho
    simp only []
    rw [if_neg (by rw [Ij];omega)])
  (nI (List.replicate (l.length+r.length) 0),((0:Nat):Int)) ⟨_,0,rfl,by simp,by omega,by simp,by simp,by simp [val,Yh]⟩
 unfold Ea
 simp only [e,jn_d,Int.toNat_natCast,Ae4]
 have ht':lfix (Ho (nI l) (nI r)) (nI (List.replicate (l.length+r.length) 0),0)=some (nI out):=ht
 rw [gd_t ⟨by omega,by omega⟩,ht',Ai,Ads _ (by omega),Ai,hd];rfl
theorem Asp (a b:Nat) (ha:(dig 4294967296 a).length≤1000000):Oj (L32 a) (L32 b)=some (cmpN a b):=by
 unfold Oj L32
 rw [Ij,Ij]
 by_cases hlen:(dig 4294967296 a).length=(dig 4294967296 b).length
 ·obtain ⟨t,ht,hR⟩:=Cu (B:=Nn (nI (dig 4294967296 a)) (nI (dig 4294967296 b))) (fun s=>(s+1).toNat)
   (fun s=>∃ k:Nat,s=(k:Int)-1∧k≤(dig 4294967296 a).length∧∀ (j:Nat) (h:j < (dig 4294967296 a).length) (h':j < (dig 4294967296 b).length),k≤j→(dig 4294967296 a)[j]=(dig 4294967296 b)[j])
   (fun t=>(t = .inl ()∧cmpN a b=0)∨t = .inr (cmpN a b)) (by
    rintro s ⟨k,rfl,hk,heq⟩
    unfold Nn
    by_cases h0:k=0
    ·right
     subst h0
     refine ⟨_,by rw [if_neg (by omega)],.inl ⟨rfl,Ata (by omega) hlen (fun j h h'=>heq j h h' (by omega))⟩⟩
    ·have h1:k-1 < (dig 4294967296 a).length:=by omega
     have h2:k-1 < (dig 4294967296 b).length:=by omega
     have hat:=As9 (b:=4294967296) (by omega) hlen h1 h2 (fun j h h' hj=>heq j h h' (by omega))
     rw [if_pos (by omega),show ((k:Int)-1)=((k-1:Nat):Int) from by omega,Qn h1,Ai,Qn h2,Ai]
     by_cases he:(dig 4294967296 a)[k-1]=(dig 4294967296 b)[k-1]
     ·left
      refine ⟨((k-1:Nat):Int)-1,by rw [if_pos (by rw [he]),Bw (by omega) (by omega)],⟨k-1,rfl,by omega,fun j h h' hj=>?_⟩,by omega⟩
      rcases Nat.lt_or_ge (k-1) j with hq | hq
      ·exact heq j h h' (by omega)
      ·obtain rfl:j=k-1:=by omega
       exact he
     ·right
      rw [if_neg (by omega),Ai,Ai]
      by_cases hlt:(dig 4294967296 a)[k-1] < (dig 4294967296 b)[k-1]
      ·exact ⟨_,by rw [if_pos (by omega)],.inr (by rw [hat.1 hlt])⟩
      ·exact ⟨_,by rw [if_neg (by omega)],.inr (by rw [hat.2 (by omega)])⟩)
   (((dig 4294967296 a).length:Int)-1) ⟨_,rfl,Nat.le_refl _,fun j h h' hj=>by omega⟩
  rw [if_pos (by omega),jn_d,Bw (by omega) (by omega),ht,Ai]
  rcases hR with ⟨rfl,h0⟩ | rfl
  ·simp only [h0]
  ·rfl
 ·rw [if_neg (by omega)]
  by_cases hlt:(dig 4294967296 a).length < (dig 4294967296 b).length
  ·rw [if_pos (by omega),(Alx (b:=4294967296) (by omega) rfl rfl).1 hlt]
  ·rw [if_neg (by omega),(Alx (b:=4294967296) (by omega) rfl rfl).2 (by omega)]
theorem oneW:([1]:List Int)=L32 1:=by unfold L32;rw [Alv (by omega)];rfl
theorem Aq2 {a:Nat}:(L32 a).length=0↔a=0:=by
 unfold L32;rw [Ij,List.length_eq_zero_iff,Akx (by omega)]
theorem Aj9 (a:Nat) (h:(dig 4294967296 a).length≤1000):Ea (L32 a) [1]=some (L32 a):=by
 have:=Aov (dig 4294967296 a) [1] (Ags (by omega) a) (by simp) (by simp;omega)
 rw [Ky (by omega),show val 4294967296 [1]=1 from by simp [val],Nat.mul_one] at this
 exact this
theorem Ald:Ea [1] [1]=some [1]:=by
 have:=Aj9 1 (by rw [Alv (by omega)];simp)
 rwa [← oneW] at this
theorem Ym {b:Nat} (l:List Nat) (i:Nat):val b (l.take (i+1))=val b (l.take i)+b ^ i*l.getD i 0:=by
 by_cases h:i < l.length
 ·rw [Uk l i h];simp [h]
 ·rw [List.take_of_length_le (by omega),List.take_of_length_le (by omega)];simp [h]
theorem Adt {l:List Nat} {i:Nat} (h:i < l.length):l.getD i 0=l[i]:=by simp [h]
theorem Ai0 {l:List Nat} {i:Nat} (h:¬ i < l.length):l.getD i 0=0:=by simp [h]
theorem Vg {b:Nat} (hb:0 < b) {l:List Nat} (hl:∀ x∈l,x < b) (i:Nat):l.getD i 0 < b:=by
 by_cases h:i < l.length
 ·have:=hl _ (List.getElem_mem h);simpa [h] using this
 ·simp [h,hb]
theorem Aow (v:BitVec 32):IntKind.u32.wrap (v.toNat:Int)=(v.toNat:Int):=Aee .u32 v.toNat (by simp only [top];omega)
theorem Aox (a b:Int):Mn .u32 a b=((BitVec.ofInt 32 a &&& BitVec.ofInt 32 b).toNat:Int):=Aow _
theorem Ats (a b:Int):Ajz .u32 a b=((BitVec.ofInt 32 a ||| BitVec.ofInt 32 b).toNat:Int):=Aow _
theorem Aka (a b:Int):Yl .u32 a b=((BitVec.ofInt 32 a ^^^ BitVec.ofInt 32 b).toNat:Int):=Aow _
theorem Att (v:BitVec 32):BitVec.ofInt 32 (v.toNat:Int)=v:=by
 rw [BitVec.ofInt_natCast,BitVec.ofNat_toNat,BitVec.setWidth_eq]
theorem Asq:BitVec.ofInt 32 (if IntKind.signed .u32=true then -1 else IntKind.max .u32)=BitVec.allOnes 32:=by decide
theorem Aoy (x:Int):wu32 x=x % 4294967296:=by
 show IntKind.u32.wrap x=_
 simp [IntKind.wrap,IntKind.bits,IntKind.signed]
theorem Aha (n:Nat) (h:n < 4294967296):(BitVec.ofInt 32 (n:Int)).msb=decide (2147483648≤n):=by
 rw [BitVec.msb_eq_decide,BitVec.ofInt_natCast,BitVec.toNat_ofNat,Nat.mod_eq_of_lt (by omega)]
theorem Atu (v:BitVec 32):shr_ .u32 (v.toNat:Int) 31=if v.msb then 1 else 0:=by
 have h:=v.isLt
 rw [BitVec.msb_eq_decide]
 show (v.toNat:Int).fdiv (2 ^ (min (31:Int).toNat 32))=_
 rw [show (2:Int) ^ (min (31:Int).toNat 32)=2147483648 from by decide,Int.fdiv_eq_ediv_of_nonneg _ (by omega)]
 by_cases h1:2 ^ (32-1)≤v.toNat
 ·rw [if_pos (by simpa using h1)];omega
 ·rw [if_neg (by simpa using h1)];omega
theorem Atv {x y b:Nat} (hx:x < 4294967296) (hy:y < 4294967296) (hb:b≤1) :
  ∃ d b':Nat,Iy (x:Int) (y:Int) (b:Int)=some ((d:Int),(b':Int))∧d < 4294967296∧b'≤1∧d+b+y=x+4294967296*b':=by
 unfold Iy
 have e:wu32 (wu32 ((x:Int)-y)-b)=(((x:Int)-y-b) % 4294967296).toNat:=by rw [Aoy,Aoy];omega
 rw [e]
 generalize hd:(((x:Int)-y-b) % 4294967296).toNat=d
 have hdl:d < 4294967296:=by omega
 rw [Aox,Aox,Aka,Aka,Aka,Ats]
 simp only [Att,Asq,BitVec.allOnes_xor]
 rw [Atu]
 rw [BitVec.msb_or,BitVec.msb_and,BitVec.msb_and,BitVec.msb_not,BitVec.msb_not,BitVec.msb_xor,Aha _ hx,Aha _ hy,Aha _ hdl]
 by_cases h1:2147483648≤x <;> by_cases h2:2147483648≤y <;> by_cases h3:2147483648≤d <;> simp only [h1,h2,h3,decide_true,decide_false,Bool.not_true,Bool.not_false,Bool.and_true,Bool.and_false,Bool.true_and,Bool.false_and,Bool.or_true,Bool.or_false,Bool.xor_true,Bool.xor_false,Bool.false_eq_true,if_true,if_false,show (0 < 32)=True by simp] <;>
  first
  | exact ⟨d,0,rfl,hdl,by omega,by omega⟩
  | exact ⟨d,1,rfl,hdl,by omega,by omega⟩
theorem Atw {x y c:Nat} (hx:x < 4294967296) (hy:y < 4294967296) (hc:c≤1) :
  Ix (x:Int) (y:Int) (c:Int)=some ((((x+y+c) % 4294967296:Nat):Int),(((x+y+c) / 4294967296:Nat):Int)):=by
 unfold Ix
 have e:wu64 (wu64 (wu64 (x:Int)+wu64 (y:Int))+wu64 (c:Int))=((x+y+c:Nat):Int):=by
  rw [Tl (n:=x) (by omega),Tl (n:=y) (by omega),Tl (n:=c) (by omega),← Int.natCast_add,Tl (by omega),← Int.natCast_add,Tl (by omega)]
 rw [e,Abu,Aou,Aot (by omega)]
theorem Aoz {l r out:List Nat} {cy i n:Nat} (hn:l.length=n) (hi:i < n) (hr:r.length≤n) (hl':∀ x∈l,x < 4294967296) (hr':∀ x∈r,x < 4294967296)
  (hC1:out.length=n+1) (hC2:cy≤1) (hC4:∀ x∈out,x < 4294967296) (hC5:∀ (q:Nat) (h:q < out.length),i≤q→out[q]=0)
  (hC6:val 4294967296 out+cy*4294967296 ^ i=val 4294967296 (l.take i)+val 4294967296 (r.take i)) :
  ∀ s,s=l.getD i 0+r.getD i 0+cy→(out.set i (s % 4294967296)).length=n+1∧s / 4294967296≤1∧(∀ x∈out.set i (s % 4294967296),x < 4294967296)∧(∀ (q:Nat) (h:q < (out.set i (s % 4294967296)).length),i+1≤q→(out.set i (s % 4294967296))[q]=0) ∧
   val 4294967296 (out.set i (s % 4294967296))+s / 4294967296*4294967296 ^ (i+1)=val 4294967296 (l.take (i+1))+val 4294967296 (r.take (i+1)):=by
 intro s hs
 have h1:=Vg (b:=4294967296) (by omega) hl' i
 have h2:=Vg (b:=4294967296) (by omega) hr' i
 refine ⟨by simp [hC1],by omega,Ts hC4 (by omega),fun q hq hiq=>?_,?_⟩
 ·rw [List.getElem_set_ne (by omega)];exact hC5 q (by simpa using hq) (by omega)
 ·have hs1:=Yg (b:=4294967296) out i (s % 4294967296) (by omega)
  rw [hC5 i (by omega) (by omega)] at hs1
  rw [Ym,Ym]
  have e1:s=4294967296*(s / 4294967296)+s % 4294967296:=by omega
  have e2:=congrArg (· * 4294967296 ^ i) (hs.symm.trans e1)
  simp only [Nat.add_mul] at e2
  have e4:4294967296 ^ (i+1)=4294967296*4294967296 ^ i:=by rw [Nat.pow_succ,Nat.mul_comm]
  rw [e4]
  generalize 4294967296 ^ i=P at *
  generalize l.getD i 0=a at *
  generalize r.getD i 0=b at *
  generalize s / 4294967296=q at *
  generalize s % 4294967296=m at *
  have e5:q*(4294967296*P)=4294967296*q*P:=by grind
  have e7:P*a=a*P:=Nat.mul_comm _ _
  have e8:P*b=b*P:=Nat.mul_comm _ _
  omega
theorem Ao0 (l r:List Nat) (hl:∀ x∈l,x < 4294967296) (hr:∀ x∈r,x < 4294967296) (h9:l.length≤100000) (hrl:r.length≤l.length) :
  (jn (fun (s6:(List Int) × Int) =>
   bnd (idx s6.1 ((((nI l).length:Nat):Int))) fun _ =>
   bnd (Fd (setI s6.1 ((((nI l).length:Nat):Int)) s6.2)) fun r122 =>
   some r122)
   (fun j6=>bnd (lfix (Hp (nI l,nI r)) (List.replicate (Int.toNat (w64 (((((nI l).length:Nat):Int))+1))) (0:Int),0,0)) fun t56 =>
   j6 t56))=some (L32 (val 4294967296 l+val 4294967296 r)):=by
 obtain ⟨t,ht,out,cy,rfl,hC1,hC2,hC4,hC5,hC6⟩:=Cu (B:=Hp (nI l,nI r)) (fun s=>l.length-s.2.2.toNat)
  (fun s=>∃ (out:List Nat) (cy i:Nat),s=(nI out,(cy:Int),(i:Int))∧i≤l.length∧out.length=l.length+1∧cy≤1∧(∀ x∈out,x < 4294967296)∧(∀ (q:Nat) (h:q < out.length),i≤q→out[q]=0)∧val 4294967296 out+cy*4294967296 ^ i=val 4294967296 (l.take i)+val 4294967296 (r.take i))
  (fun t=>∃ (out:List Nat) (cy:Nat),t=(nI out,(cy:Int))∧out.length=l.length+1∧cy≤1∧(∀ x∈out,x < 4294967296)∧(∀ (h:l.length < out.length),out[l.length]=0)∧val 4294967296 out+cy*4294967296 ^ l.length=val 4294967296 l+val 4294967296 r) (by
   rintro s ⟨out,cy,i,rfl,hi',hC1,hC2,hC4,hC5,hC6⟩
   unfold Hp
   simp only [jn_d,Ij]
   by_cases hi:i < l.length
   ·left
    obtain ⟨k1,k2,k3,k4,k5⟩:=Aoz rfl hi hrl hl hr hC1 hC2 hC4 hC5 hC6 _ rfl
    have h1:=Vg (b:=4294967296) (by omega) hl i
    have h2:=Vg (b:=4294967296) (by omega) hr i
    refine ⟨_,?_,⟨_,_,i+1,rfl,by omega,k1,k2,k3,k4,k5⟩,by simp only [Int.toNat_natCast];omega⟩
    rw [if_pos (by omega)]
    have fin:∀ y:Int,y=((r.getD i 0:Nat):Int)→(bnd (idx (nI l) (i:Int)) fun x76=>bnd (Ix x76 y (cy:Int)) fun r87=>bnd (idx (nI out) (i:Int)) fun _=>some (Sum.inl (β:=List Int × Int) (setI (nI out) (i:Int) r87.1,r87.2,w64 ((i:Int)+1))))=some (.inl (nI (out.set i ((l.getD i 0+r.getD i 0+cy) % 4294967296)),(((l.getD i 0+r.getD i 0+cy) / 4294967296:Nat):Int),((i+1:Nat):Int))):=by
     rintro y rfl
     rw [Qn hi,Ai,← Adt hi,Atw h1 h2 hC2,Ai,Qn (by omega),Ai]
     simp only []
     rw [Abt,Cw (by omega)]
    by_cases hm:i < r.length
    ·rw [if_pos (by omega),Qn hm,Ai]
     exact fin _ (by rw [Adt hm])
    ·rw [if_neg (by omega)]
     exact fin _ (by rw [Ai0 hm];rfl)
   ·right
    obtain rfl:i=l.length:=by omega
    rw [if_neg (by omega)]
    rw [List.take_of_length_le (by omega),List.take_of_length_le (by omega)] at hC6
    exact ⟨_,rfl,out,cy,rfl,hC1,hC2,hC4,fun h=>hC5 _ h (by omega),hC6⟩)
  (nI (List.replicate (l.length+1) 0),((0:Nat):Int),((0:Nat):Int)) ⟨_,0,0,rfl,by omega,by simp,by omega,by simp,by simp,by simp [val,Yh]⟩
 simp only [jn_d,Ij]
 rw [Cw (by omega),Int.toNat_natCast,Ae4]
 have ht':lfix (Hp (nI l,nI r)) (nI (List.replicate (l.length+1) 0),0,0)=some (nI out,(cy:Int)):=ht
 rw [ht',Ai]
 simp only []
 rw [Qn (by omega),Ai,Abt,Ads _ (by simp;omega),Ai]
 have hs1:=Yg (b:=4294967296) out l.length cy (by omega)
 rw [hC5 (by omega)] at hs1
 rw [Aef (b:=4294967296) (by omega) _ (Ts hC4 (by omega)),show val 4294967296 (out.set l.length cy)=val 4294967296 l+val 4294967296 r by omega]
 rfl
theorem Asr (l r:List Nat) (hl:∀ x∈l,x < 4294967296) (hr:∀ x∈r,x < 4294967296) (h9:l.length≤100000) (h9':r.length≤100000) :
  Ma (nI l) (nI r)=some (L32 (val 4294967296 l+val 4294967296 r)):=by
 unfold Ma
 simp only [jn_d]
 by_cases h:l.length < r.length
 ·rw [if_pos (by rw [Ij,Ij];omega),gd_t (by rw [Ij,Cw (by omega)];omega)]
  have:=Ao0 r l hr hl h9' (by omega)
  simp only [jn_d] at this
  rw [this,Nat.add_comm]
 ·rw [if_neg (by rw [Ij,Ij];omega),gd_t (by rw [Ij,Cw (by omega)];omega)]
  have:=Ao0 l r hl hr h9 (by omega)
  simp only [jn_d] at this
  exact this
theorem Ass (l r:List Nat) (hl:∀ x∈l,x < 4294967296) (hr:∀ x∈r,x < 4294967296) (h9:l.length≤100000) (hrl:r.length≤l.length) (hle:val 4294967296 r≤val 4294967296 l) :
  Jt (nI l) (nI r)=some (L32 (val 4294967296 l-val 4294967296 r)):=by
 obtain ⟨t,ht,out,rfl,hC1,hd⟩:=Cu (B:=Ki (nI l) (nI r)) (fun s=>l.length-s.2.2.toNat)
  (fun s=>∃ (out:List Nat) (bw i:Nat),s=(nI out,(bw:Int),(i:Int))∧i≤l.length∧out.length=l.length∧bw≤1∧(∀ x∈out,x < 4294967296)∧(∀ (q:Nat) (h:q < out.length),i≤q→out[q]=0)∧val 4294967296 out+val 4294967296 (r.take i)=val 4294967296 (l.take i)+bw*4294967296 ^ i)
  (fun t=>∃ (out:List Nat),t=nI out∧out.length=l.length∧nrm out=dig 4294967296 (val 4294967296 l-val 4294967296 r)) (by
   rintro s ⟨out,bw,i,rfl,hi',hC1,hC2,hC4,hC5,hC6⟩
   unfold Ki
   simp only [jn_d,Ij]
   by_cases hi:i < l.length
   ·left
    have h1:=Vg (b:=4294967296) (by omega) hl i
    have h2:=Vg (b:=4294967296) (by omega) hr i
    obtain ⟨d,b',hB,hd1,hb1,he⟩:=Atv h1 h2 hC2
    refine ⟨(nI (out.set i d),(b':Int),((i+1:Nat):Int)),?_,⟨_,_,i+1,rfl,by omega,by simp [hC1],hb1,Ts hC4 hd1,fun q hq hiq=>?_,?_⟩,by simp only [Int.toNat_natCast];omega⟩
    ·rw [if_pos (by omega)]
     have fin:∀ y:Int,y=((r.getD i 0:Nat):Int)→(bnd (idx (nI l) (i:Int)) fun x76=>bnd (Iy x76 y (bw:Int)) fun r87=>bnd (idx (nI out) (i:Int)) fun _=>some (Sum.inl (β:=List Int) (setI (nI out) (i:Int) r87.1,r87.2,w64 ((i:Int)+1))))=some (.inl (nI (out.set i d),(b':Int),((i+1:Nat):Int))):=by
      rintro y rfl
      rw [Qn hi,Ai,← Adt hi,hB,Ai,Qn (by omega),Ai]
      simp only []
      rw [Abt,Cw (by omega)]
     by_cases hm:i < r.length
     ·rw [if_pos (by omega),Qn hm,Ai]
      exact fin _ (by rw [Adt hm])
     ·rw [if_neg (by omega)]
      exact fin _ (by rw [Ai0 hm];rfl)
    ·rw [List.getElem_set_ne (by omega)];exact hC5 q (by simpa using hq) (by omega)
    ·have hs1:=Yg (b:=4294967296) out i d (by omega)
     rw [hC5 i (by omega) (by omega)] at hs1
     rw [Ym,Ym]
     have e3:=congrArg (· * 4294967296 ^ i) he
     simp only [Nat.add_mul] at e3
     have e4:4294967296 ^ (i+1)=4294967296*4294967296 ^ i:=by rw [Nat.pow_succ,Nat.mul_comm]
     rw [e4]
     generalize 4294967296 ^ i=P at *
     generalize l.getD i 0=a at *
     generalize r.getD i 0=b at *
     have e5:b' * (4294967296*P)=4294967296*b' * P:=by grind
     have e7:P*a=a*P:=Nat.mul_comm _ _
     have e8:P*b=b*P:=Nat.mul_comm _ _
     omega
   ·right
    obtain rfl:i=l.length:=by omega
    rw [if_neg (by omega)]
    rw [List.take_of_length_le (by omega),List.take_of_length_le (by omega)] at hC6
    refine ⟨_,rfl,out,rfl,hC1,?_⟩
    rw [Aef (b:=4294967296) (by omega) out hC4]
    have hlt:=An2 out hC4
    rw [hC1] at hlt
    have:bw=0∨bw=1:=by omega
    rcases this with rfl | rfl
    ·rw [show val 4294967296 out=val 4294967296 l-val 4294967296 r by omega]
    ·omega)
  (nI (List.replicate l.length 0),((0:Nat):Int),((0:Nat):Int)) ⟨_,0,0,rfl,by omega,by simp,by omega,by simp,by simp,by simp [val,Yh]⟩
 unfold Jt
 simp only [jn_d,Ij,Int.toNat_natCast,Ae4]
 rw [gd_t ⟨by omega,by omega⟩]
 have ht':lfix (Ki (nI l) (nI r)) (nI (List.replicate l.length 0),0,0)=some (nI out):=ht
 rw [ht',Ai,Ads _ (by omega),Ai,hd];rfl
theorem W_lt {a:Nat}:∀ x∈dig 4294967296 a,x < 4294967296:=Ags (by omega) a
theorem Ast {a b:Nat} (ha:(dig 4294967296 a).length≤100000) (hb:(dig 4294967296 b).length≤100000):Ma (L32 a) (L32 b)=some (L32 (a+b)):=by
 have:=Asr _ _ (W_lt (a:=a)) (W_lt (a:=b)) ha hb
 rwa [Ky (by omega),Ky (by omega)] at this
theorem Ams {a b:Nat} (h:a≤b):(dig 4294967296 a).length≤(dig 4294967296 b).length:=by
 rcases Nat.lt_or_ge (dig 4294967296 b).length (dig 4294967296 a).length with h1 | h1
 ·have:=Aaw (b:=4294967296) (by omega) h1;omega
 ·exact h1
theorem Ao1 {a b:Nat} (ha:(dig 4294967296 a).length≤100000) (h:b≤a):Jt (L32 a) (L32 b)=some (L32 (a-b)):=by
 have:=Ass _ _ (W_lt (a:=a)) (W_lt (a:=b)) ha (Ams h) (by rw [Ky (by omega),Ky (by omega)];exact h)
 rwa [Ky (by omega),Ky (by omega)] at this
theorem Asu {a b:Nat} (h:(dig 4294967296 a).length+(dig 4294967296 b).length≤1000000):Ea (L32 a) (L32 b)=some (L32 (a*b)):=by
 have:=Aov _ _ (W_lt (a:=a)) (W_lt (a:=b)) h
 rwa [Ky (by omega),Ky (by omega)] at this
theorem Ale {n:Nat} (h:n≤18446744073709551615):Pn (n:Int)=some (L32 n):=by
 unfold Pn
 have:=Ads [n % 4294967296,n / 4294967296 % 4294967296] (by simp)
 rw [show [wu32 (n:Int),wu32 (shr_ .u64 (n:Int) 32)]=nI [n % 4294967296,n / 4294967296 % 4294967296] from by rw [Aou,Abu,Abu];rfl,this,Ai,Am8 n h]
 rfl
theorem Asv {s:Bool} {z:Int} (hs:z≠0→s=decide (z < 0)):Kj ⟨s,L32 z.natAbs,[1]⟩=some (Int.sign z):=by
 unfold Kj
 simp only []
 by_cases h0:z=0
 ·subst h0;rfl
 ·have:(L32 z.natAbs).length≠0:=fun e=>h0 (by have:=Aq2.1 e;omega)
  rw [if_neg (by omega),hs h0]
  by_cases h1:z < 0
  ·rw [if_pos (by simpa using h1),Int.sign_eq_neg_one_of_neg h1]
  ·rw [if_neg (by simpa using h1),Int.sign_eq_one_of_pos (by omega)]
end Go.Proofs.YtbkobeeileemjaaGreat
/- Turns and circles of the program, exactly. -/
namespace Go.Proofs.YtbkobeeileemjaaGreat
open Go Go.RowKit
/-- The number that a value stands for. -/
structure Xy (n:Ch) (z:Int):Prop where
 num:n.n=L32 z.natAbs
 den:n.d=[1]
 neg:z≠0→n.neg=decide (z < 0)
theorem Xy.eq {n:Ch} {z:Int} (h:Xy n z):n=⟨n.neg,L32 z.natAbs,[1]⟩:=by
 obtain ⟨s,a,d⟩:=n
 obtain ⟨h1,h2,h3⟩:=h
 simp only at h1 h2
 subst h1;subst h2;rfl
theorem Akb (x:Int):wu64 x=x % 18446744073709551616:=by
 unfold wu64
 rw [IntKind.wrap_u64]
theorem Ao2 {z:Int} (h1:-9223372036854775808≤z) (h2:z≤9223372036854775807):∃ n,Iz z=some n∧Xy n z:=by
 unfold Iz
 by_cases h:z < 0
 ·rw [if_pos h]
  have e:wu64 ((wu64 (w64 (-(w64 (z+1)))))+1)=((z.natAbs:Nat):Int):=by
   rw [Bw (x:=z+1) (by omega) (by omega),Bw (by omega) (by omega),Akb,Akb]
   omega
  rw [e,Ale (by omega)]
  exact ⟨_,rfl,rfl,rfl,fun _=>by simp [h]⟩
 ·rw [if_neg h]
  have e:wu64 z=((z.natAbs:Nat):Int):=by rw [Akb];omega
  rw [e,Ale (by omega)]
  exact ⟨_,rfl,rfl,rfl,fun _=>by simp [h]⟩
theorem Asw {a b:Ch} {x y:Int} (ha:Xy a x) (hb:Xy b y) (h:(dig 4294967296 x.natAbs).length+(dig 4294967296 y.natAbs).length≤1000000):∃ n,Hh a b=some n∧Xy n (x*y):=by
 unfold Hh
 rw [ha.num,hb.num,ha.den,hb.den,Asu h,Ai,Ald,Ai]
 refine ⟨_,rfl,by simp [Int.natAbs_mul],rfl,fun h0=>?_⟩
 have hx:x≠0:=fun e=>h0 (by rw [e,Int.zero_mul])
 have hy:y≠0:=fun e=>h0 (by rw [e,Int.mul_zero])
 simp only
 rw [ha.neg hx,hb.neg hy]
 rcases Int.lt_or_gt_of_ne hx with h1 | h1 <;> rcases Int.lt_or_gt_of_ne hy with h2 | h2
 ·have:=Int.mul_pos_of_neg_of_neg h1 h2
  simp [h1,h2];omega
 ·have:=Int.mul_neg_of_neg_of_pos h1 h2
  rw [decide_eq_true h1,decide_eq_false (by omega),decide_eq_true this];rfl
 ·have:=Int.mul_neg_of_pos_of_neg h1 h2
  rw [decide_eq_false (by omega),decide_eq_true h2,decide_eq_true this];rfl
 ·have:=Int.mul_pos h1 h2
  rw [decide_eq_false (by omega),decide_eq_false (by omega),decide_eq_false (by omega)];rfl
theorem Ao3 {a b:Ch} {x y:Int} (ha:Xy a x) (hb:Xy b y) (hx:(dig 4294967296 x.natAbs).length≤1000) (hy:(dig 4294967296 y.natAbs).length≤1000):∃ n,Mb a b=some n∧Xy n (x+y):=by
 have e1:=ha.neg
 have e2:=hb.neg
 unfold Mb
 rw [ha.num,hb.num,ha.den,hb.den,Aj9 _ hx,Ai,Aj9 _ hy,Ai,Ald,Ai]
 generalize a.neg=s at *
 generalize b.neg=t at *
 have f1:x≠0→(s=true↔x < 0):=fun h=>by rw [e1 h];simp
 have f2:y≠0→(t=true↔y < 0):=fun h=>by rw [e2 h];simp
 clear e1 e2
 by_cases hs:s=t
 ·subst hs
  rw [if_pos (by simp),Ast (by omega) (by omega),Ai]
  have:x.natAbs+y.natAbs=(x+y).natAbs:=by
   cases s <;> simp at f1 f2 <;> omega
  rw [this]
  refine ⟨_,rfl,rfl,rfl,fun h0=>?_⟩
  simp only
  cases s <;> simp at f1 f2 ⊢ <;> omega
 ·rw [if_neg (by simpa using hs),Asp _ _ (by omega),Ai]
  by_cases hc:y.natAbs≤x.natAbs
  ·rw [if_pos (by unfold cmpN;split <;> (try split) <;> omega),Ao1 (by omega) hc,Ai]
   have:x.natAbs-y.natAbs=(x+y).natAbs:=by
    cases s <;> cases t <;> simp at f1 f2 hs <;> omega
   rw [this]
   refine ⟨_,rfl,rfl,rfl,fun h0=>?_⟩
   simp only
   cases s <;> cases t <;> simp at f1 f2 hs ⊢ <;> omega
  ·rw [if_neg (by unfold cmpN;split <;> (try split) <;> omega),Ao1 (by omega) (by omega),Ai]
   have:y.natAbs-x.natAbs=(x+y).natAbs:=by
    cases s <;> cases t <;> simp at f1 f2 hs <;> omega
   rw [this]
   refine ⟨_,rfl,rfl,rfl,fun h0=>?_⟩
   simp only
   cases s <;> cases t <;> simp at f1 f2 hs ⊢ <;> omega
theorem Aq3 {n:Ch} {z:Int} (h:Xy n z):Kj n=some (Int.sign z):=by
 rw [h.eq]
 exact Asv h.neg
theorem mulB {x y M N:Int} (hM:0≤M) (hx1:-M≤x) (hx2:x≤M) (hy1:-N≤y) (hy2:y≤N):-(M*N)≤x*y∧x*y≤M*N:=by
 have h:(x*y).natAbs≤M.natAbs*N.natAbs:=by
  rw [Int.natAbs_mul]
  exact Nat.mul_le_mul (by omega) (by omega)
 rw [← Int.natAbs_mul] at h
 have:0≤M*N:=Int.mul_nonneg hM (by omega)
 omega
/-! ### places -/
def okP (p:Ad):Prop:=-268435456≤p.X∧p.X≤268435456∧-268435456≤p.Y∧p.Y≤268435456
instance (p:Ad):Decidable (okP p):=by unfold okP;infer_instance
def crs (a b c:Ad):Int:=(b.X-a.X)*(c.Y-a.Y)-(b.Y-a.Y)*(c.X-a.X)
def lft (p d:Ad):Int:=(p.X-d.X)*(p.X-d.X)+(p.Y-d.Y)*(p.Y-d.Y)
def inC (a b c d:Ad):Int:=lft a d*crs d b c+lft b d*crs d c a+lft c d*crs d a b
theorem Agi (l:List Ad) (hl:l.length≤1000000):Np l=some (l.all fun p=>decide (okP p)):=by
 unfold Np
 rw [jn_d]
 have step:∀ i (hi:i < l.length),Ja l (i:Int)=if okP l[i] then some (.inl (((i+1:Nat):Int))) else some (.inr (.inr false)):=by
  intro i hi
  unfold Ja
  rw [if_pos (by omega),Bo hi,Ai,jn_d,Cw (by omega)]
  by_cases h1:l[i].X < -268435456
  ·rw [if_pos h1,if_neg (show ¬ okP l[i] by unfold okP;omega)];rfl
  ·rw [if_neg h1]
   by_cases h2:268435456 < l[i].X
   ·rw [if_pos h2,if_neg (show ¬ okP l[i] by unfold okP;omega)];rfl
   ·rw [if_neg h2]
    by_cases h3:l[i].Y < -268435456
    ·rw [if_pos h3,if_neg (show ¬ okP l[i] by unfold okP;omega)];rfl
    ·rw [if_neg h3]
     by_cases h4:268435456 < l[i].Y
     ·rw [decide_eq_true h4,if_neg (show ¬ okP l[i] by unfold okP;omega)];rfl
     ·rw [decide_eq_false h4,if_pos (show okP l[i] by unfold okP;omega)];rfl
 have key:∀ k i,k+i=l.length→lfix (Ja l) (i:Int)=some (if (l.drop i).all (fun p=>decide (okP p)) then .inl () else .inr false):=by
  intro k
  induction k with
  | zero =>
   intro i hi
   rw [Cj]
   unfold Ja
   rw [if_neg (by omega),List.drop_eq_nil_of_le (by omega)]
   rfl
  | succ k ih =>
   intro i hi
   have hlt:i < l.length:=by omega
   rw [Cj,step i hlt,List.drop_eq_getElem_cons hlt,List.all_cons]
   by_cases h:okP l[i]
   ·rw [if_pos h]
    simp only [h,decide_true,Bool.true_and]
    exact ih (i+1) (by omega)
   ·rw [if_neg h]
    simp [h]
 have:=key l.length 0 (by omega)
 rw [show ((0:Nat):Int)=0 from rfl] at this
 rw [this,List.drop_zero]
 by_cases h:l.all (fun p=>decide (okP p))=true
 ·rw [h];rfl
 ·rw [Bool.not_eq_true] at h;rw [h];rfl
theorem Mh {a b c:Ad} (ha:okP a) (hb:okP b) (hc:okP c):-576460752303423488≤crs a b c∧crs a b c≤576460752303423488:=by
 unfold okP at ha hb hc
 have h1:=mulB (x:=b.X-a.X) (y:=c.Y-a.Y) (M:=536870912) (N:=536870912) (by omega) (by omega) (by omega) (by omega) (by omega)
 have h2:=mulB (x:=b.Y-a.Y) (y:=c.X-a.X) (M:=536870912) (N:=536870912) (by omega) (by omega) (by omega) (by omega) (by omega)
 unfold crs
 omega
theorem Qo {a b c:Ad} (ha:okP a) (hb:okP b) (hc:okP c):Jh a b c=some (crs a b c):=by
 have h0:=Mh ha hb hc
 unfold okP at ha hb hc
 have h1:=mulB (x:=b.X-a.X) (y:=c.Y-a.Y) (M:=536870912) (N:=536870912) (by omega) (by omega) (by omega) (by omega) (by omega)
 have h2:=mulB (x:=b.Y-a.Y) (y:=c.X-a.X) (M:=536870912) (N:=536870912) (by omega) (by omega) (by omega) (by omega) (by omega)
 unfold Jh
 unfold crs at h0 ⊢
 rw [Bw (x:=b.X-a.X) (by omega) (by omega),Bw (x:=c.Y-a.Y) (by omega) (by omega),Bw (x:=b.Y-a.Y) (by omega) (by omega),Bw (x:=c.X-a.X) (by omega) (by omega),
  Bw (x:=(b.X-a.X)*(c.Y-a.Y)) (by omega) (by omega),Bw (x:=(b.Y-a.Y)*(c.X-a.X)) (by omega) (by omega),Bw (by omega) (by omega)]
theorem Aal {p d:Ad} (hp:okP p) (hd:okP d):0≤lft p d∧lft p d≤576460752303423488:=by
 unfold okP at hp hd
 have h1:=mulB (x:=p.X-d.X) (y:=p.X-d.X) (M:=536870912) (N:=536870912) (by omega) (by omega) (by omega) (by omega) (by omega)
 have h2:=mulB (x:=p.Y-d.Y) (y:=p.Y-d.Y) (M:=536870912) (N:=536870912) (by omega) (by omega) (by omega) (by omega) (by omega)
 have h3:0≤(p.X-d.X)*(p.X-d.X):=by rw [← Int.natAbs_mul_self];omega
 have h4:0≤(p.Y-d.Y)*(p.Y-d.Y):=by rw [← Int.natAbs_mul_self];omega
 unfold lft
 omega
theorem Yn {p d:Ad} (hp:okP p) (hd:okP d):Pa p d=some (lft p d):=by
 have h0:=Aal hp hd
 unfold okP at hp hd
 have h1:=mulB (x:=p.X-d.X) (y:=p.X-d.X) (M:=536870912) (N:=536870912) (by omega) (by omega) (by omega) (by omega) (by omega)
 have h2:=mulB (x:=p.Y-d.Y) (y:=p.Y-d.Y) (M:=536870912) (N:=536870912) (by omega) (by omega) (by omega) (by omega) (by omega)
 unfold Pa
 unfold lft at h0 ⊢
 rw [Bw (x:=p.X-d.X) (by omega) (by omega),Bw (x:=p.Y-d.Y) (by omega) (by omega),
  Bw (x:=(p.X-d.X)*(p.X-d.X)) (by omega) (by omega),Bw (x:=(p.Y-d.Y)*(p.Y-d.Y)) (by omega) (by omega),Bw (by omega) (by omega)]
theorem Ai1 (z:Int):Jb z=some (Int.sign z):=by
 unfold Jb
 by_cases h:z < 0
 ·rw [if_pos h,Int.sign_eq_neg_one_of_neg h]
 ·rw [if_neg h]
  by_cases h2:0 < z
  ·rw [if_pos h2,Int.sign_eq_one_of_pos h2]
  ·rw [if_neg h2,show z=0 by omega];rfl
theorem Alf (a b c:Ad):Qv a b c=some (if okP a∧okP b∧okP c then (Int.sign (crs a b c),0) else (0,11)):=by
 unfold Qv
 rw [Agi _ (by simp),Ai]
 by_cases h:okP a∧okP b∧okP c
 ·rw [if_pos (by simp [h]),Qo h.1 h.2.1 h.2.2,Ai,Ai1,Ai,if_pos h]
 ·rw [if_neg (by simpa [and_assoc] using h),if_neg h]
theorem turn_eq {a b c:Ad} (ha:okP a) (hb:okP b) (hc:okP c):Nq a b c=some (Int.sign (crs a b c)):=by
 unfold Nq
 rw [Alf,if_pos ⟨ha,hb,hc⟩]
 rfl
theorem dig3 {z:Int} (h1:-9223372036854775808≤z) (h2:z≤9223372036854775807):(dig 4294967296 z.natAbs).length≤2:=Alw (by omega) 2 _ (by
 have:(4294967296:Nat) ^ 2=18446744073709551616:=by decide
 omega)
theorem dig5 {z:Int} (h1:-10000000000000000000000000000000000000≤z) (h2:z≤10000000000000000000000000000000000000):(dig 4294967296 z.natAbs).length≤4:=Alw (by omega) 4 _ (by
 have:(4294967296:Nat) ^ 4=340282366920938463463374607431768211456:=by decide
 omega)
theorem Ahb {u v:Int} (hu1:-576460752303423488≤u) (hu2:u≤576460752303423488) (hv1:-576460752303423488≤v) (hv2:v≤576460752303423488) :
  ∃ n m k,Iz u=some n∧Iz v=some m∧Hh n m=some k∧Xy k (u*v)∧-332306998946228968225951765070086144≤u*v∧u*v≤332306998946228968225951765070086144:=by
 obtain ⟨n,h1,h2⟩:=Ao2 (z:=u) (by omega) (by omega)
 obtain ⟨m,h3,h4⟩:=Ao2 (z:=v) (by omega) (by omega)
 have d1:=dig3 (z:=u) (by omega) (by omega)
 have d2:=dig3 (z:=v) (by omega) (by omega)
 obtain ⟨k,h5,h6⟩:=Asw h2 h4 (by omega)
 have:=mulB (x:=u) (y:=v) (M:=576460752303423488) (N:=576460752303423488) (by omega) (by omega) (by omega) (by omega) (by omega)
 exact ⟨n,m,k,h1,h3,h5,h6,by omega,by omega⟩
theorem Amt (a b c d:Ad):Qf a b c d=some (if okP a∧okP b∧okP c∧okP d then if crs a b c=0 then (0,12) else (Int.sign (crs a b c)*Int.sign (inC a b c d),0) else (0,11)):=by
 unfold Qf
 rw [Agi _ (by simp),Ai]
 by_cases h:okP a∧okP b∧okP c∧okP d
 ·obtain ⟨ha,hb,hc,hd⟩:=h
  rw [if_pos (by simp [ha,hb,hc,hd]),if_pos ⟨ha,hb,hc,hd⟩,Qo ha hb hc,Ai,Ai1,Ai]
  by_cases h0:crs a b c=0
  ·rw [if_pos (by rw [h0];rfl),if_pos h0]
  ·rw [if_neg (by rwa [Int.sign_eq_zero_iff_zero]),if_neg h0,jn_d]
   have l1:=Aal ha hd
   have l2:=Aal hb hd
   have l3:=Aal hc hd
   have c1:=Mh hd hb hc
   have c2:=Mh hd hc ha
   have c3:=Mh hd ha hb
   obtain ⟨n1,m1,k1,e1,e2,e3,i1,b1,b2⟩:=Ahb (u:=lft a d) (v:=crs d b c) (by omega) (by omega) (by omega) (by omega)
   obtain ⟨n2,m2,k2,e4,e5,e6,i2,b3,b4⟩:=Ahb (u:=lft b d) (v:=crs d c a) (by omega) (by omega) (by omega) (by omega)
   obtain ⟨n3,m3,k3,e7,e8,e9,i3,b5,b6⟩:=Ahb (u:=lft c d) (v:=crs d a b) (by omega) (by omega) (by omega) (by omega)
   have q1:=dig5 (z:=lft a d*crs d b c) (by omega) (by omega)
   have q2:=dig5 (z:=lft b d*crs d c a) (by omega) (by omega)
   have q3:=dig5 (z:=lft c d*crs d a b) (by omega) (by omega)
   have q4:=dig5 (z:=lft a d*crs d b c+lft b d*crs d c a) (by omega) (by omega)
   obtain ⟨s1,f1,g1⟩:=Ao3 i1 i2 (by omega) (by omega)
   obtain ⟨s2,f2,g2⟩:=Ao3 g1 i3 (by omega) (by omega)
   simp only [Yn ha hd,Yn hb hd,Yn hc hd,Qo hd hb hc,Qo hd hc ha,Qo hd ha hb,Ai,e1,e2,e3,e4,e5,e6,e7,e8,e9]
   rw [show (⟨k1.neg,k1.n,k1.d⟩:Ch)=k1 from rfl,f1,Ai,f2,Ai,Aq3 g2,Ai,Bw]
   ·rfl
   ·rcases Int.sign_trichotomy (crs a b c) with h | h | h <;> rcases Int.sign_trichotomy (lft a d*crs d b c+lft b d*crs d c a+lft c d*crs d a b) with h' | h' | h' <;> simp [h,h']
   ·rcases Int.sign_trichotomy (crs a b c) with h | h | h <;> rcases Int.sign_trichotomy (lft a d*crs d b c+lft b d*crs d c a+lft c d*crs d a b) with h' | h' | h' <;> simp [h,h']
 ·rw [if_neg (by simpa [and_assoc] using h),if_neg h]
end Go.Proofs.YtbkobeeileemjaaGreat
/- Turns, circles and the legal side: the reference. -/
namespace Go.Proofs.YtbkobeeileemjaaGreat
open Go Go.RowKit
theorem Ao4 (a:Int):shr_ .i64 a 30=a / 1073741824:=by
 unfold shr_
 rw [show (2:Int) ^ (min (30:Int).toNat IntKind.i64.bits)=1073741824 from by decide,Int.fdiv_eq_ediv_of_nonneg _ (by omega)]
theorem Ao5 (a:Int):Mn .i64 a 1073741823=a % 1073741824:=by
 unfold Mn
 have h1:(BitVec.ofInt 64 1073741823).toNat=2 ^ 30-1:=by decide
 have h2:(BitVec.ofInt 64 a).toNat=(a % 18446744073709551616).toNat:=by simp [BitVec.toNat_ofInt]
 have h3:(BitVec.ofInt IntKind.i64.bits a &&& BitVec.ofInt IntKind.i64.bits 1073741823).toNat=(a % 1073741824).toNat:=by
  show (BitVec.ofInt 64 a &&& BitVec.ofInt 64 1073741823).toNat=_
  rw [BitVec.toNat_and,h1,Nat.and_two_pow_sub_one_eq_mod,h2]
  omega
 rw [h3]
 show IntKind.wrap .i64 _=_
 rw [IntKind.wrap_i64]
 omega
def wval (w:Ct):Int:=w.high*1152921504606846976+w.middle*1073741824+w.low
/-- The sum of at most n products. -/
structure Akc (w:Ct) (n z:Int):Prop where
 val:wval w=z
 high:-(n*288230376151711744)≤w.high∧w.high≤n*288230376151711744
 middle:-(n*1152921504606846976)≤w.middle∧w.middle≤n*1152921504606846976
 low:0≤w.low∧w.low≤n*1152921504606846976
theorem Ae5 {w:Ct} {n z a b:Int} (h:Akc w n z) (hn0:0≤n) (hn:n≤2) (ha1:-576460752303423488≤a) (ha2:a≤576460752303423488) (hb1:-576460752303423488≤b) (hb2:b≤576460752303423488) :
  ∃ w',Eg w a b=some w'∧Akc w' (n+1) (z+a*b):=by
 obtain ⟨h0,h1,h2,h3⟩:=h
 unfold Eg
 rw [Ao4,Ao4,Ao5,Ao5]
 have ea:a=a / 1073741824*1073741824+a % 1073741824:=by omega
 have eb:b=b / 1073741824*1073741824+b % 1073741824:=by omega
 have A1:-536870912≤a / 1073741824∧a / 1073741824≤536870912:=by omega
 have B1:-536870912≤b / 1073741824∧b / 1073741824≤536870912:=by omega
 have A0:0≤a % 1073741824∧a % 1073741824≤1073741824:=by omega
 have B0:0≤b % 1073741824∧b % 1073741824≤1073741824:=by omega
 generalize a / 1073741824=a1 at *
 generalize b / 1073741824=b1 at *
 generalize a % 1073741824=a0 at *
 generalize b % 1073741824=b0 at *
 have p1:=mulB (x:=a1) (y:=b1) (M:=536870912) (N:=536870912) (by omega) (by omega) (by omega) (by omega) (by omega)
 have p2:=mulB (x:=a1) (y:=b0) (M:=536870912) (N:=1073741824) (by omega) (by omega) (by omega) (by omega) (by omega)
 have p3:=mulB (x:=a0) (y:=b1) (M:=1073741824) (N:=536870912) (by omega) (by omega) (by omega) (by omega) (by omega)
 have p4:=mulB (x:=a0) (y:=b0) (M:=1073741824) (N:=1073741824) (by omega) (by omega) (by omega) (by omega) (by omega)
 have p5:0≤a0*b0:=Int.mul_nonneg A0.1 B0.1
 have e:a*b=a1*b1*1152921504606846976+(a1*b0+a0*b1)*1073741824+a0*b0:=by
  rw [ea,eb];grind
 rw [Bw (x:=a1*b1) (by omega) (by omega),Bw (x:=a1*b0) (by omega) (by omega),Bw (x:=a0*b1) (by omega) (by omega),Bw (x:=a0*b0) (by omega) (by omega),
  Bw (x:=w.high+a1*b1) (by omega) (by omega),Bw (x:=w.middle+a1*b0) (by omega) (by omega),Bw (by omega) (by omega),Bw (by omega) (by omega)]
 refine ⟨_,rfl,?_,?_,?_,?_⟩
 ·unfold wval at h0 ⊢
  simp only
  omega
 ·simp only;omega
 ·simp only;omega
 ·simp only;omega
theorem Ae6 (z:Int):Gs z=some (Int.sign z):=by
 unfold Gs
 by_cases h:z < 0
 ·rw [if_pos h,Int.sign_eq_neg_one_of_neg h]
 ·rw [if_neg h]
  by_cases h2:0 < z
  ·rw [if_pos h2,Int.sign_eq_one_of_pos h2]
  ·rw [if_neg h2,show z=0 by omega];rfl
theorem Amu {w:Ct} {z:Int} (h:Akc w 3 z):Gg w=some (Int.sign z):=by
 obtain ⟨h0,h1,h2,h3⟩:=h
 unfold Gg
 simp only [Ao4,Ao5]
 have e1:w.low=w.low / 1073741824*1073741824+w.low % 1073741824:=by omega
 rw [Bw (x:=w.middle+w.low / 1073741824) (by omega) (by omega)]
 have e2:w.middle+w.low / 1073741824=(w.middle+w.low / 1073741824) / 1073741824*1073741824+(w.middle+w.low / 1073741824) % 1073741824:=by omega
 unfold wval at h0
 have l0:0≤w.low % 1073741824∧w.low % 1073741824 < 1073741824:=by omega
 have m0:0≤(w.middle+w.low / 1073741824) % 1073741824∧(w.middle+w.low / 1073741824) % 1073741824 < 1073741824:=by omega
 have hb:-4611686018427387904≤w.high+(w.middle+w.low / 1073741824) / 1073741824∧w.high+(w.middle+w.low / 1073741824) / 1073741824≤4611686018427387904:=by omega
 have hz:z=(w.high+(w.middle+w.low / 1073741824) / 1073741824)*1152921504606846976+(w.middle+w.low / 1073741824) % 1073741824*1073741824+w.low % 1073741824:=by omega
 clear e1 e2 h0 h1 h2 h3
 rw [Bw (x:=w.high+(w.middle+w.low / 1073741824) / 1073741824) (by omega) (by omega)]
 generalize w.high+(w.middle+w.low / 1073741824) / 1073741824=H at *
 generalize (w.middle+w.low / 1073741824) % 1073741824=M at *
 generalize w.low % 1073741824=L at *
 by_cases c:H=0
 ·rw [if_pos c,Bw (by omega) (by omega),Ae6,Ai]
  congr 1
  by_cases c2:M+L=0
  ·rw [c2,show z=0 by omega]
  ·rw [Int.sign_eq_one_of_pos (by omega),Int.sign_eq_one_of_pos (by omega)]
 ·rw [if_neg c,Ae6,Ai]
  congr 1
  by_cases c2:H < 0
  ·rw [Int.sign_eq_neg_one_of_neg c2,Int.sign_eq_neg_one_of_neg (by omega)]
  ·rw [Int.sign_eq_one_of_pos (by omega),Int.sign_eq_one_of_pos (by omega)]
theorem Amv {a b c:Ad} (ha:okP a) (hb:okP b) (hc:okP c):Nm a b c=some (crs a b c):=Qo ha hb hc
theorem Xz {a b c:Ad} (ha:okP a) (hb:okP b) (hc:okP c):Em a b c=some (Int.sign (crs a b c)):=by
 unfold Em
 rw [Amv ha hb hc,Ai,Ae6,Ai]
theorem Akd {a b c d:Ad} (ha:okP a) (hb:okP b) (hc:okP c) (hd:okP d):Jd a b c d=some (Int.sign (inC a b c d)):=by
 have l1:=Aal ha hd
 have l2:=Aal hb hd
 have l3:=Aal hc hd
 have c1:=Mh hd hb hc
 have c2:=Mh hd hc ha
 have c3:=Mh hd ha hb
 obtain ⟨w1,e1,i1⟩:=Ae5 (w:=⟨0,0,0⟩) (n:=0) (z:=0) (a:=lft a d) (b:=crs d b c) ⟨rfl,by simp,by simp,by simp⟩ (by omega) (by omega) (by omega) (by omega) (by omega) (by omega)
 obtain ⟨w2,e2,i2⟩:=Ae5 (a:=lft b d) (b:=crs d c a) i1 (by omega) (by omega) (by omega) (by omega) (by omega) (by omega)
 obtain ⟨w3,e3,i3⟩:=Ae5 (a:=lft c d) (b:=crs d a b) i2 (by omega) (by omega) (by omega) (by omega) (by omega) (by omega)
 have x1:w64 (w64 (w64 (a.X-d.X)*w64 (a.X-d.X))+w64 (w64 (a.Y-d.Y)*w64 (a.Y-d.Y)))=lft a d:=Option.some.inj (Yn ha hd)
 have x2:w64 (w64 (w64 (b.X-d.X)*w64 (b.X-d.X))+w64 (w64 (b.Y-d.Y)*w64 (b.Y-d.Y)))=lft b d:=Option.some.inj (Yn hb hd)
 have x3:w64 (w64 (w64 (c.X-d.X)*w64 (c.X-d.X))+w64 (w64 (c.Y-d.Y)*w64 (c.Y-d.Y)))=lft c d:=Option.some.inj (Yn hc hd)
 have y1:w64 (w64 (w64 (b.X-d.X)*w64 (c.Y-d.Y))-w64 (w64 (b.Y-d.Y)*w64 (c.X-d.X)))=crs d b c:=Option.some.inj (Qo hd hb hc)
 have y2:w64 (w64 (w64 (c.X-d.X)*w64 (a.Y-d.Y))-w64 (w64 (c.Y-d.Y)*w64 (a.X-d.X)))=crs d c a:=Option.some.inj (Qo hd hc ha)
 have y3:w64 (w64 (w64 (a.X-d.X)*w64 (b.Y-d.Y))-w64 (w64 (a.Y-d.Y)*w64 (b.X-d.X)))=crs d a b:=Option.some.inj (Qo hd ha hb)
 unfold Jd
 simp only [x1,x2,x3,y1,y2,y3,e1,Ai,e2,e3]
 rw [Amu (by simpa using i3),Ai]
 simp [inC]
end Go.Proofs.YtbkobeeileemjaaGreat
/- The legal side: the program and the reference. -/
namespace Go.Proofs.YtbkobeeileemjaaGreat
open Go Go.RowKit
def befP (p q:Ad):Prop:=p.X < q.X∨p.X=q.X∧p.Y < q.Y
instance (p q:Ad):Decidable (befP p q):=by unfold befP;infer_instance
def Dk (p q:Ad):Prop:=p.X=q.X∧p.Y=q.Y
instance (p q:Ad):Decidable (Dk p q):=by unfold Dk;infer_instance
theorem Abv {p q:Ad} (h:Dk p q):p=q:=by
 obtain ⟨x,y⟩:=p
 obtain ⟨x',y'⟩:=q
 obtain ⟨h1,h2⟩:=h
 simp only at h1 h2
 rw [h1,h2]
def Jx (a b:Ad):Ad:=if befP b a then b else a
theorem Ao6 (a b:Ad):Ji a b=some (decide (befP a b)):=by
 unfold Ji jn befP
 simp only
 by_cases h1:a.X < b.X
 ·simp [h1]
 ·by_cases h2:a.X=b.X
  ·simp [h2]
  ·simp [h1,h2]
theorem Aq4 (a:Ad):Fo a=some (decide (okP a)):=by
 unfold Fo
 rw [jn_d]
 by_cases h1:-268435456≤a.X
 ·rw [if_pos h1]
  by_cases h2:a.X≤268435456
  ·rw [if_pos h2]
   by_cases h3:-268435456≤a.Y
   ·rw [if_pos h3]
    by_cases h4:a.Y≤268435456
    ·rw [decide_eq_true h4,decide_eq_true (show okP a by unfold okP;omega)]
    ·rw [decide_eq_false h4,decide_eq_false (show ¬ okP a by unfold okP;omega)]
   ·rw [if_neg h3,decide_eq_false (show ¬ okP a by unfold okP;omega)]
  ·rw [if_neg h2,decide_eq_false (show ¬ okP a by unfold okP;omega)]
 ·rw [if_neg h1,decide_eq_false (show ¬ okP a by unfold okP;omega)]
theorem Ake (B:(Int × Int × Int)→Option (Sum (Int × Int × Int) (Int × Int))) (p q r:Ad)
  (hB:∀ x y i,B (x,y,i)=if i < 3 then bnd (idx [p,q,r] i) fun z=>some (.inl ((Jx ⟨x,y⟩ z).X,(Jx ⟨x,y⟩ z).Y,w64 (i+1))) else some (.inr (x,y))) (x y:Int) :
  lfix B (x,y,0)=some ((Jx (Jx (Jx ⟨x,y⟩ p) q) r).X,(Jx (Jx (Jx ⟨x,y⟩ p) q) r).Y):=by
 have w1:w64 (0+1)=1:=Bw (by omega) (by omega)
 have w2:w64 (1+1)=2:=Bw (by omega) (by omega)
 have w3:w64 (2+1)=3:=Bw (by omega) (by omega)
 have i0:idx [p,q,r] 0=some p:=rfl
 have i1:idx [p,q,r] 1=some q:=rfl
 have i2:idx [p,q,r] 2=some r:=rfl
 rw [Cj,hB,if_pos (by omega),i0,Ai,w1]
 simp only
 rw [Cj,hB,if_pos (by omega),i1,Ai,w2]
 simp only
 rw [Cj,hB,if_pos (by omega),i2,Ai,w3]
 simp only
 rw [Cj,hB,if_neg (by omega)]
/-- The first of four places is one of the last two. -/
theorem Amw {a b c d:Ad} (h1:¬ Dk a c) (h2:¬ Dk a d) (h3:¬ Dk b c) (h4:¬ Dk b d) :
  (Dk (Jx (Jx (Jx a b) c) d) c∨Dk (Jx (Jx (Jx a b) c) d) d)↔((befP c a∧befP c b)∨(befP d a∧befP d b)):=by
 have key:∀ p q:Ad,(befP q p∧Jx p q=q)∨(¬ befP q p∧Jx p q=p):=fun p q=>by
  unfold Jx
  by_cases h:befP q p
  ·exact .inl ⟨h,if_pos h⟩
  ·exact .inr ⟨h,if_neg h⟩
 rcases key a b with ⟨k1,e1⟩ | ⟨k1,e1⟩ <;> rw [e1]
 ·rcases key b c with ⟨k2,e2⟩ | ⟨k2,e2⟩ <;> rw [e2]
  ·rcases key c d with ⟨k3,e3⟩ | ⟨k3,e3⟩ <;> rw [e3] <;> unfold Dk befP at * <;> omega
  ·rcases key b d with ⟨k3,e3⟩ | ⟨k3,e3⟩ <;> rw [e3] <;> unfold Dk befP at * <;> omega
 ·rcases key a c with ⟨k2,e2⟩ | ⟨k2,e2⟩ <;> rw [e2]
  ·rcases key c d with ⟨k3,e3⟩ | ⟨k3,e3⟩ <;> rw [e3] <;> unfold Dk befP at * <;> omega
  ·rcases key a d with ⟨k3,e3⟩ | ⟨k3,e3⟩ <;> rw [e3] <;> unfold Dk befP at * <;> omega
def legP (a b c d:Ad):Prop:=Int.sign (crs a b c)*Int.sign (inC a b c d) < 0∨Int.sign (crs a b c)*Int.sign (inC a b c d)=0∧((befP c a∧befP c b)∨(befP d a∧befP d b))
instance (a b c d:Ad):Decidable (legP a b c d):=by unfold legP;infer_instance
theorem Amx (a c:Ad):crs a c c=0:=by unfold crs;grind
theorem Fh (a b:Ad):crs a b a=0:=by unfold crs;grind
theorem De (a b:Ad):crs a b b=0:=by unfold crs;grind
theorem Vh (a b:Ad):crs a a b=0:=by unfold crs;grind
theorem Df (a b c:Ad):crs b a c = -crs a b c:=by unfold crs;grind
theorem Co (a b c:Ad):crs b c a=crs a b c:=by unfold crs;grind
theorem Ao7 {a b c d:Ad} (ha:okP a) (hb:okP b) (hc:okP c) (hd:okP d) (h1:¬ Dk a c) (h2:¬ Dk a d) (h3:¬ Dk b c) (h4:¬ Dk b d):Qw a b c d=some (decide (legP a b c d)):=by
 unfold Qw
 rw [Amt,if_pos ⟨ha,hb,hc,hd⟩,Ai]
 have e:(if crs a b c=0 then ((0:Int),(12:Int)) else (Int.sign (crs a b c)*Int.sign (inC a b c d),0)).1=Int.sign (crs a b c)*Int.sign (inC a b c d):=by
  split
  ·rename_i h;rw [h];simp
  ·rfl
 rw [e]
 by_cases h0:Int.sign (crs a b c)*Int.sign (inC a b c d)=0
 ·rw [if_pos h0,jn_d,Ake _ b c d (fun x y i=>?_),Ai]
  ·dsimp only
   rw [jn_d]
   have hl:=Amw h1 h2 h3 h4
   by_cases hcc:Dk (Jx (Jx (Jx a b) c) d) c
   ·have:legP a b c d:=.inr ⟨h0,hl.1 (.inl hcc)⟩
    rw [if_pos (by simpa [Dk] using hcc),decide_eq_true this]
   ·rw [if_neg (by simpa [Dk] using hcc)]
    congr 1
    rw [Bool.eq_iff_iff]
    simp only [Bool.and_true,Bool.and_eq_true,beq_iff_eq,decide_eq_true_eq]
    unfold legP
    constructor
    ·intro h;exact .inr ⟨h0,hl.1 (.inr h)⟩
    ·rintro (h | ⟨_,h⟩)
     ·omega
     ·exact (hl.2 h).resolve_left hcc
  ·unfold Um
   simp only
   split
   ·refine congrArg (bnd _) (funext fun z=>?_)
    rw [Ao6,Ai]
    unfold Jx
    by_cases hb:befP z ⟨x,y⟩
    ·rw [if_pos (by simpa using hb),if_pos hb]
    ·rw [if_neg (by simpa using hb),if_neg hb]
   ·rfl
 ·rw [if_neg h0]
  congr 1
  rw [Bool.eq_iff_iff]
  simp only [decide_eq_true_eq]
  unfold legP
  constructor
  ·intro h;exact .inl h
  ·rintro (h | ⟨h,_⟩)
   ·exact h
   ·exact absurd h h0
theorem Acq {x y:Int}:Int.sign x*Int.sign y = -1↔(x < 0∧0 < y)∨(0 < x∧y < 0):=by
 rcases Int.lt_trichotomy x 0 with h | h | h <;> rcases Int.lt_trichotomy y 0 with h' | h' | h'
 all_goals first
  | (rw [Int.sign_eq_neg_one_of_neg h];try rw [Int.sign_eq_neg_one_of_neg h'])
  | (rw [Int.sign_eq_one_of_pos h];try rw [Int.sign_eq_neg_one_of_neg h'])
  | (rw [h])
 all_goals try rw [Int.sign_eq_one_of_pos h']
 all_goals try rw [h']
 all_goals simp
 all_goals omega
theorem Ai2 {x y:Int}:w64 (Int.sign x*Int.sign y)=Int.sign x*Int.sign y:=by
 apply Bw
 ·rcases Int.sign_trichotomy x with h | h | h <;> rcases Int.sign_trichotomy y with h' | h' | h' <;> simp [h,h']
 ·rcases Int.sign_trichotomy x with h | h | h <;> rcases Int.sign_trichotomy y with h' | h' | h' <;> simp [h,h']
theorem Ahc {x y:Int}:0≤Int.sign x*Int.sign y↔¬ Int.sign x*Int.sign y = -1:=by
 rcases Int.sign_trichotomy x with h | h | h <;> rcases Int.sign_trichotomy y with h' | h' | h' <;> simp [h,h']
/-- On two sides of a line, places differ. -/
theorem Ahd {a b c d:Ad} (h:Int.sign (crs a b c)*Int.sign (crs a b d) = -1):¬ Dk a c∧¬ Dk a d∧¬ Dk b c∧¬ Dk b d:=by
 rw [Acq] at h
 refine ⟨fun e=>?_,fun e=>?_,fun e=>?_,fun e=>?_⟩ <;> (have:=Abv e;subst this;simp only [Amx,Fh,De] at h;omega)
end Go.Proofs.YtbkobeeileemjaaGreat
/- The legal side: the reference's answer, and that it does not matter from where a side is seen. -/
namespace Go.Proofs.YtbkobeeileemjaaGreat
open Go Go.RowKit
end Go.Proofs.YtbkobeeileemjaaGreat
/- Plane geometry: identities of areas, planes over triangles. -/
namespace Go.Proofs.YtbkobeeileemjaaGreat
open Go Go.RowKit
/-- How far the plane through a, b, c (with heights ha, hb, hc) lies above the height hd at d, times twice the area of the triangle. -/
def Dt (ha hb hc hd:Int) (a b c d:Ad):Int:=ha*crs b c d+hb*crs c a d+hc*crs a b d-hd*crs a b c
/-- The height at x of the plane through a, b, c, times twice the area of the triangle. -/
def plt (ha hb hc:Int) (a b c x:Ad):Int:=ha*crs b c x+hb*crs c a x+hc*crs a b x
def sq (p:Ad):Int:=p.X*p.X+p.Y*p.Y
theorem Asx (a b c d:Ad):inC a b c d=Dt (sq a) (sq b) (sq c) (sq d) a b c d:=by unfold inC Dt lft sq crs;grind
theorem Ae7 (ha hb hc hd:Int) (a b c d:Ad):Dt ha hb hc hd a b c d=plt ha hb hc a b c d-hd*crs a b c:=rfl
theorem Vi (a b c d:Ad):crs a b c=crs b c d+crs c a d+crs a b d:=by unfold crs;grind
theorem Ahe (a b c q r u:Ad):crs b c u*crs q r a+crs c a u*crs q r b+crs a b u*crs q r c=crs a b c*crs q r u:=by unfold crs;grind
theorem Aam (hp hq hr:Int) (a b c p q r u:Ad):crs b c u*plt hp hq hr p q r a+crs c a u*plt hp hq hr p q r b+crs a b u*plt hp hq hr p q r c=crs a b c*plt hp hq hr p q r u:=by
 have h1:=Ahe a b c q r u
 have h2:=Ahe a b c r p u
 have h3:=Ahe a b c p q u
 unfold plt
 grind
/-- Across a side, the planes differ by how far they differ at the far corner. -/
theorem Wf (ha hb hc hd:Int) (a b c d x:Ad):plt hb ha hd b a d x*crs a b c-plt ha hb hc a b c x*crs b a d=Dt ha hb hc hd a b c d*crs a b x:=by
 unfold plt Dt crs;grind
theorem Aq5 (ha hb hc hd:Int) (a b c d:Ad):Dt hb ha hc hd b a c d = -Dt ha hb hc hd a b c d:=by unfold Dt crs;grind
theorem Asy (ha hb hc hd:Int) (a b c d:Ad):Dt hb hc ha hd b c a d=Dt ha hb hc hd a b c d:=by unfold Dt crs;grind
theorem Ai3 (ha hb hc hd:Int) (a b c d:Ad):Dt ha hb hd hc a b d c = -Dt ha hb hc hd a b c d:=by unfold Dt crs;grind
theorem Ahf (ha hb hc:Int) (a b c x:Ad):plt hb hc ha b c a x=plt ha hb hc a b c x:=by unfold plt;grind
theorem Ao8 (ha hb hc:Int) (a b c:Ad):plt ha hb hc a b c a=ha*crs a b c:=by unfold plt crs;grind
theorem Alg (ha hb hc:Int) (a b c:Ad):plt ha hb hc a b c b=hb*crs a b c:=by unfold plt crs;grind
theorem Alh (ha hb hc:Int) (a b c:Ad):plt ha hb hc a b c c=hc*crs a b c:=by unfold plt crs;grind
/-- The circle's test, seen from b. -/
theorem Asz (a b c d:Ad):inC a b c d=lft a b*crs b c d+lft c b*crs a b d-lft d b*crs a b c:=by unfold inC lft crs;grind
theorem Ahg {p q:Ad} (h:¬ Dk p q):0 < lft p q:=by
 unfold lft
 have h1:0≤(p.X-q.X)*(p.X-q.X):=by rw [← Int.natAbs_mul_self];omega
 have h2:0≤(p.Y-q.Y)*(p.Y-q.Y):=by rw [← Int.natAbs_mul_self];omega
 by_cases hx:p.X=q.X
 ·have hy:p.Y-q.Y≠0:=fun e=>h ⟨hx,by omega⟩
  have:0 < (p.Y-q.Y)*(p.Y-q.Y):=by
   rcases Int.lt_or_gt_of_ne hy with g | g
   ·exact Int.mul_pos_of_neg_of_neg g g
   ·exact Int.mul_pos g g
  omega
 ·have hx':p.X-q.X≠0:=by omega
  have:0 < (p.X-q.X)*(p.X-q.X):=by
   rcases Int.lt_or_gt_of_ne hx' with g | g
   ·exact Int.mul_pos_of_neg_of_neg g g
   ·exact Int.mul_pos g g
  omega
theorem Wg (p q:Ad):0≤lft p q:=by
 unfold lft
 have h1:0≤(p.X-q.X)*(p.X-q.X):=by rw [← Int.natAbs_mul_self];omega
 have h2:0≤(p.Y-q.Y)*(p.Y-q.Y):=by rw [← Int.natAbs_mul_self];omega
 omega
/-- Where the quadrangle is not convex at b, the circle leaves d out. -/
theorem Ae8 {a b c d:Ad} (h1:0 < crs a b c) (h2:crs a b d < 0) (h3:crs b c d≤0):inC a b c d < 0:=by
 have hd:¬ Dk d b:=fun e=>by
  have:=Abv e
  subst this
  simp only [De] at h2
  omega
 rw [Asz]
 have e1:lft a b*crs b c d≤0:=Int.mul_nonpos_of_nonneg_of_nonpos (Wg a b) h3
 have e2:lft c b*crs a b d≤0:=Int.mul_nonpos_of_nonneg_of_nonpos (Wg c b) (by omega)
 have e3:0 < lft d b*crs a b c:=Int.mul_pos (Ahg hd) h1
 omega
/-- .. nor where it is not convex at a. -/
theorem Ya {a b c d:Ad} (h1:0 < crs a b c) (h2:crs a b d < 0) (h3:crs c a d≤0):inC a b c d < 0:=by
 have e:inC a b c d=lft b a*crs c a d+lft c a*crs a b d-lft d a*crs a b c:=by unfold inC lft crs;grind
 have hd:¬ Dk d a:=fun e=>by
  have:=Abv e
  subst this
  simp only [Fh] at h2
  omega
 rw [e]
 have e1:lft b a*crs c a d≤0:=Int.mul_nonpos_of_nonneg_of_nonpos (Wg b a) h3
 have e2:lft c a*crs a b d≤0:=Int.mul_nonpos_of_nonneg_of_nonpos (Wg c a) (by omega)
 have e3:0 < lft d a*crs a b c:=Int.mul_pos (Ahg hd) h1
 omega
end Go.Proofs.YtbkobeeileemjaaGreat
/- Triangles whose surface is convex: walks over them, and that a closed set of triangles whose circles are empty has all of them. -/
namespace Go.Proofs.YtbkobeeileemjaaGreat
open Go Go.RowKit
theorem Ae9 {a b c x y z:Int} (hx:0 < x) (hy:0 < y) (hz:0 < z) (h1:a*y < b*x) (h2:b*z < c*y):a*z < c*x:=by
 have h3:=Int.mul_lt_mul_of_pos_right h1 hz
 have h4:=Int.mul_lt_mul_of_pos_right h2 hx
 have h5:y*(a*z) < y*(c*x):=by
  have e1:y*(a*z)=a*y*z:=by grind
  have e2:b*x*z=b*z*x:=by grind
  have e3:y*(c*x)=c*y*x:=by grind
  rw [e1,e3]
  rw [e2] at h3
  exact Int.lt_trans h3 h4
 exact Int.lt_of_mul_lt_mul_left h5 (Int.le_of_lt hy)
theorem Acr {α:Type} {p q:α→Bool} {x:α}:∀ {l:List α},(∀ y∈l,p y=true→q y=true)→x∈l→q x=true→p x=false→l.countP p < l.countP q
 | [],_,hx,_,_=>by cases hx
 | y::r,h',hx,hq,hp=>by
  have h:=h' y List.mem_cons_self
  have h2:∀ z∈r,p z=true→q z=true:=fun z hz=>h' z (List.mem_cons_of_mem _ hz)
  have hle:r.countP p≤r.countP q:=List.countP_mono_left h2
  rw [List.countP_cons,List.countP_cons]
  rcases List.mem_cons.1 hx with rfl | hx
  ·rw [hq,hp];simp;omega
  ·have:=Acr h2 hx hq hp
   by_cases c:p y=true
   ·rw [if_pos c,if_pos (h c)];omega
   ·rw [if_neg c];split <;> omega
def c3 (a b p q r:Ad):Int:=crs a b p+crs a b q+crs a b r
def p3 (ha hb hc:Int) (a b c p q r:Ad):Int:=plt ha hb hc a b c p+plt ha hb hc a b c q+plt ha hb hc a b c r
theorem Amy (ha hb hc hd:Int) (a b c d p q r:Ad):p3 hb ha hd b a d p q r*crs a b c-p3 ha hb hc a b c p q r*crs b a d=Dt ha hb hc hd a b c d*c3 a b p q r:=by
 have h1:=Wf ha hb hc hd a b c d p
 have h2:=Wf ha hb hc hd a b c d q
 have h3:=Wf ha hb hc hd a b c d r
 unfold p3 c3
 grind
theorem Ao9 (ha hb hc:Int) (a b c p q r:Ad):p3 hb hc ha b c a p q r=p3 ha hb hc a b c p q r:=by unfold p3;rw [Ahf ha hb hc a b c p,Ahf ha hb hc a b c q,Ahf ha hb hc a b c r]
abbrev T3:=Int × Int × Int
variable {P:Int→Ad} {H:Int→Int}
def Afa (P:Int→Ad) (t:T3):Int:=crs (P t.1) (P t.2.1) (P t.2.2)
def hgt3 (P:Int→Ad) (H:Int→Int) (t:T3) (p q r:Ad):Int:=p3 (H t.1) (H t.2.1) (H t.2.2) (P t.1) (P t.2.1) (P t.2.2) p q r
/-- The plane of t lies below that of s at the place. -/
def Tm (P:Int→Ad) (H:Int→Int) (p q r:Ad) (t s:T3):Prop:=hgt3 P H t p q r*Afa P s < hgt3 P H s p q r*Afa P t
instance (p q r:Ad) (t s:T3):Decidable (Tm P H p q r t s):=by unfold Tm;infer_instance
def DH (P:Int→Ad) (H:Int→Int) (a b c d:Int):Int:=Dt (H a) (H b) (H c) (H d) (P a) (P b) (P c) (P d)
/-- A set of triangles, each in its three turns. -/
structure Afb (P:Int→Ad) (X:List T3):Prop where
 rot:∀ a b c,(a,b,c)∈X→(b,c,a)∈X
 ccw:∀ a b c,(a,b,c)∈X→0 < crs (P a) (P b) (P c)
/-- From each triangle, one comes to a triangle that has the place, and each step leads to a higher plane. -/
theorem walk {X:List T3} (hX:Afb P X) (p q r:Ad) (step:∀ a b c,(a,b,c)∈X→c3 (P a) (P b) p q r < 0→∃ d,(b,a,d)∈X∧DH P H a b c d < 0) :
  ∀ t∈X,∃ s∈X,0≤c3 (P s.1) (P s.2.1) p q r∧0≤c3 (P s.2.1) (P s.2.2) p q r∧0≤c3 (P s.2.2) (P s.1) p q r∧(s=t∨Tm P H p q r t s):=by
 have key:∀ (n:Nat) (t:T3),t∈X→X.countP (fun s=>decide (Tm P H p q r t s))=n→∃ s∈X,0≤c3 (P s.1) (P s.2.1) p q r∧0≤c3 (P s.2.1) (P s.2.2) p q r∧0≤c3 (P s.2.2) (P s.1) p q r∧(s=t∨Tm P H p q r t s):=by
  intro n
  induction n using Nat.strongRecOn with
  | ind n ih =>
   intro t ht hn
   -- a step over the first side of a turn t' of t
   have go:∀ t':T3,t'∈X→hgt3 P H t' p q r=hgt3 P H t p q r→Afa P t'=Afa P t→c3 (P t'.1) (P t'.2.1) p q r < 0 →
     ∃ s∈X,0≤c3 (P s.1) (P s.2.1) p q r∧0≤c3 (P s.2.1) (P s.2.2) p q r∧0≤c3 (P s.2.2) (P s.1) p q r∧(s=t∨Tm P H p q r t s):=by
    rintro ⟨a,b,c⟩ h1 h2 h3 h4
    obtain ⟨d,h5,h6⟩:=step a b c h1 h4
    have hb:Tm P H p q r t (b,a,d):=by
     unfold Tm
     rw [← h2,← h3]
     have e:=Amy (H a) (H b) (H c) (H d) (P a) (P b) (P c) (P d) p q r
     have:0 < Dt (H a) (H b) (H c) (H d) (P a) (P b) (P c) (P d)*c3 (P a) (P b) p q r:=Int.mul_pos_of_neg_of_neg h6 h4
     show p3 _ _ _ _ _ _ p q r*crs _ _ _ < p3 _ _ _ _ _ _ p q r*crs _ _ _
     simp only
     omega
    have hpos:∀ u∈X,0 < Afa P u:=fun u hu=>hX.ccw u.1 u.2.1 u.2.2 hu
    have hlt:X.countP (fun s=>decide (Tm P H p q r (b,a,d) s)) < n:=by
     rw [← hn]
     refine Acr (x:=(b,a,d)) (fun y hy hb2=>?_) h5 (by simpa using hb) (by simp [Tm])
     rw [decide_eq_true_eq] at hb2 ⊢
     exact Ae9 (hpos t ht) (hpos _ h5) (hpos y hy) hb hb2
    obtain ⟨s,k1,k2,k3,k4,k5⟩:=ih _ hlt (b,a,d) h5 rfl
    refine ⟨s,k1,k2,k3,k4,.inr ?_⟩
    rcases k5 with rfl | k5
    ·exact hb
    ·exact Ae9 (hpos t ht) (hpos _ h5) (hpos s k1) hb k5
   obtain ⟨a,b,c⟩:=t
   by_cases g1:c3 (P a) (P b) p q r < 0
   ·exact go (a,b,c) ht rfl rfl g1
   ·by_cases g2:c3 (P b) (P c) p q r < 0
    ·exact go (b,c,a) (hX.rot _ _ _ ht) (Ao9 _ _ _ _ _ _ _ _ _) (Co _ _ _) g2
    ·by_cases g3:c3 (P c) (P a) p q r < 0
     ·exact go (c,a,b) (hX.rot _ _ _ (hX.rot _ _ _ ht)) (by unfold hgt3;rw [← Ao9]) (by unfold Afa;rw [← Co]) g3
     ·exact ⟨(a,b,c),ht,by simp only;omega,by simp only;omega,by simp only;omega,.inl rfl⟩
 exact fun t ht=>key _ t ht rfl
end Go.Proofs.YtbkobeeileemjaaGreat
/- A triangulation whose sides are legal has empty circles; a closed set of triangles with empty circles has all of them. -/
namespace Go.Proofs.YtbkobeeileemjaaGreat
open Go Go.RowKit
variable {P:Int→Ad} {H:Int→Int} {V:Int→Prop}
theorem Aan {a b c d:Int} (hd:d≠a→d≠b→d≠c→DH P H a b c d < 0):plt (H a) (H b) (H c) (P a) (P b) (P c) (P d)≤H d*crs (P a) (P b) (P c)∧(d≠a→d≠b→d≠c→plt (H a) (H b) (H c) (P a) (P b) (P c) (P d) < H d*crs (P a) (P b) (P c)):=by
 have key:d≠a→d≠b→d≠c→plt (H a) (H b) (H c) (P a) (P b) (P c) (P d) < H d*crs (P a) (P b) (P c):=fun h1 h2 h3=>by
  have:=hd h1 h2 h3
  unfold DH at this
  rw [Ae7] at this
  omega
 refine ⟨?_,key⟩
 by_cases h1:d=a
 ·subst h1;rw [Ao8];exact Int.le_refl _
 ·by_cases h2:d=b
  ·subst h2;rw [Alg];exact Int.le_refl _
  ·by_cases h3:d=c
   ·subst h3;rw [Alh];exact Int.le_refl _
   ·exact Int.le_of_lt (key h1 h2 h3)
/-- Legal sides: empty circles. -/
theorem global {X:List T3} (hX:Afb P X) (emp:∀ a b c,(a,b,c)∈X→∀ d,V d→d≠a→d≠b→d≠c→crs (P a) (P b) (P d) < 0∨crs (P b) (P c) (P d) < 0∨crs (P c) (P a) (P d) < 0)
  (leg:∀ a b c,(a,b,c)∈X→∀ d,V d→crs (P a) (P b) (P d) < 0→∃ e,(b,a,e)∈X∧DH P H a b c e < 0) :
  ∀ a b c,(a,b,c)∈X→∀ d,V d→d≠a→d≠b→d≠c→DH P H a b c d < 0:=by
 intro a b c ht d hd h1 h2 h3
 have c3d:∀ x y,c3 x y (P d) (P d) (P d)=3*crs x y (P d):=fun x y=>by unfold c3;omega
 obtain ⟨⟨x,y,z⟩,hs,g1,g2,g3,g4⟩:=walk (H:=H) hX (P d) (P d) (P d) (fun a b c h hc=>leg a b c h d hd (by rw [c3d] at hc;omega)) (a,b,c) ht
 simp only [c3d] at g1 g2 g3
 rcases g4 with e | hb
 ·cases e
  rcases emp a b c ht d hd h1 h2 h3 with h | h | h <;> omega
 ·have hτ:=hX.ccw _ _ _ ht
  have hσ:=hX.ccw _ _ _ hs
  have hp:plt (H x) (H y) (H z) (P x) (P y) (P z) (P d)=H d*crs (P x) (P y) (P z):=by
   by_cases k1:d=x
   ·subst k1;rw [Ao8]
   ·by_cases k2:d=y
    ·subst k2;rw [Alg]
    ·by_cases k3:d=z
     ·subst k3;rw [Alh]
     ·rcases emp x y z hs d hd k1 k2 k3 with h | h | h <;> omega
  unfold Tm hgt3 Afa p3 at hb
  simp only [hp] at hb
  have h4:(plt (H a) (H b) (H c) (P a) (P b) (P c) (P d)*3)*crs (P x) (P y) (P z) < (H d*crs (P a) (P b) (P c)*3)*crs (P x) (P y) (P z):=by
   have e1:(plt (H a) (H b) (H c) (P a) (P b) (P c) (P d)*3)*crs (P x) (P y) (P z)=(plt (H a) (H b) (H c) (P a) (P b) (P c) (P d)+plt (H a) (H b) (H c) (P a) (P b) (P c) (P d)+plt (H a) (H b) (H c) (P a) (P b) (P c) (P d))*crs (P x) (P y) (P z):=by grind
   have e2:(H d*crs (P a) (P b) (P c)*3)*crs (P x) (P y) (P z)=(H d*crs (P x) (P y) (P z)+H d*crs (P x) (P y) (P z)+H d*crs (P x) (P y) (P z))*crs (P a) (P b) (P c):=by grind
   rw [e1,e2]
   exact hb
  have h5:=Int.lt_of_mul_lt_mul_right h4 (Int.le_of_lt hσ)
  unfold DH
  rw [Ae7]
  omega
theorem Wi {a b c:Int} (h:crs (P a) (P b) (P c)≠0):a≠b∧b≠c∧c≠a:=by
 refine ⟨fun e=>?_,fun e=>?_,fun e=>?_⟩
 ·subst e;exact h (Vh _ _)
 ·subst e;exact h (De _ _)
 ·subst e;exact h (Fh _ _)
/-- All triangles with empty circles are in a closed set of such ones. -/
theorem Afc {X:List T3} (hX:Afb P X) (hV:∀ a b c,(a,b,c)∈X→V a∧V b∧V c) (empX:∀ a b c,(a,b,c)∈X→∀ d,V d→d≠a→d≠b→d≠c→DH P H a b c d < 0)
  (step:∀ a b c,(a,b,c)∈X→∀ d,V d→crs (P a) (P b) (P d) < 0→∃ e,(b,a,e)∈X) (hne:X≠[])
  {p q r:Int} (hp:V p) (hq:V q) (hr:V r) (hs:0 < crs (P p) (P q) (P r)) (hemp:∀ d,V d→d≠p→d≠q→d≠r→DH P H p q r d < 0):(p,q,r)∈X:=by
 obtain ⟨t0,ht0⟩:=List.exists_mem_of_ne_nil X hne
 obtain ⟨⟨a,b,c⟩,ht,g1,g2,g3,_⟩:=walk (H:=H) hX (P p) (P q) (P r) (fun a b c h hc=>by
  have hτ:=hX.ccw _ _ _ h
  obtain ⟨e,he⟩:∃ e,(b,a,e)∈X:=by
   unfold c3 at hc
   by_cases k1:crs (P a) (P b) (P p) < 0
   ·exact step a b c h p hp k1
   ·by_cases k2:crs (P a) (P b) (P q) < 0
    ·exact step a b c h q hq k2
    ·exact step a b c h r hr (by omega)
  refine ⟨e,he,empX a b c h e (hV _ _ _ he).2.2 ?_ ?_ ?_⟩
  ·exact (Wi (P:=P) (a:=b) (b:=a) (c:=e) (by have:=hX.ccw _ _ _ he;omega)).2.1.symm
  ·exact (Wi (P:=P) (a:=b) (b:=a) (c:=e) (by have:=hX.ccw _ _ _ he;omega)).2.2
  ·intro k
   subst k
   have h1:=hX.ccw _ _ _ he
   rw [Df] at h1
   omega) t0 ht0
 simp only at g1 g2 g3
 have hτ:=hX.ccw _ _ _ ht
 obtain ⟨va,vb,vc⟩:=hV _ _ _ ht
 have P1:=Aan (P:=P) (H:=H) (empX a b c ht p hp)
 have P2:=Aan (P:=P) (H:=H) (empX a b c ht q hq)
 have P3:=Aan (P:=P) (H:=H) (empX a b c ht r hr)
 have Q1:=(Aan (P:=P) (H:=H) (hemp a va)).1
 have Q2:=(Aan (P:=P) (H:=H) (hemp b vb)).1
 have Q3:=(Aan (P:=P) (H:=H) (hemp c vc)).1
 -- the surface of s at the corners of t,weighed
 have e1:c3 (P b) (P c) (P p) (P q) (P r)*plt (H p) (H q) (H r) (P p) (P q) (P r) (P a)+c3 (P c) (P a) (P p) (P q) (P r)*plt (H p) (H q) (H r) (P p) (P q) (P r) (P b)+c3 (P a) (P b) (P p) (P q) (P r)*plt (H p) (H q) (H r) (P p) (P q) (P r) (P c)
   = crs (P a) (P b) (P c)*((H p+H q+H r)*crs (P p) (P q) (P r)):=by
  have i1:=Aam (H p) (H q) (H r) (P a) (P b) (P c) (P p) (P q) (P r) (P p)
  have i2:=Aam (H p) (H q) (H r) (P a) (P b) (P c) (P p) (P q) (P r) (P q)
  have i3:=Aam (H p) (H q) (H r) (P a) (P b) (P c) (P p) (P q) (P r) (P r)
  rw [Ao8] at i1
  rw [Alg] at i2
  rw [Alh] at i3
  unfold c3
  grind
 have e2:plt (H a) (H b) (H c) (P a) (P b) (P c) (P p)+plt (H a) (H b) (H c) (P a) (P b) (P c) (P q)+plt (H a) (H b) (H c) (P a) (P b) (P c) (P r)=H a*c3 (P b) (P c) (P p) (P q) (P r)+H b*c3 (P c) (P a) (P p) (P q) (P r)+H c*c3 (P a) (P b) (P p) (P q) (P r):=by unfold plt c3;grind
 have m1:=Int.mul_le_mul_of_nonneg_left Q1 g2
 have m2:=Int.mul_le_mul_of_nonneg_left Q2 g3
 have m3:=Int.mul_le_mul_of_nonneg_left Q3 g1
 generalize hF:plt (H a) (H b) (H c) (P a) (P b) (P c) (P p)+plt (H a) (H b) (H c) (P a) (P b) (P c) (P q)+plt (H a) (H b) (H c) (P a) (P b) (P c) (P r)=F at *
 have hge:(H p+H q+H r)*crs (P a) (P b) (P c)≤F:=by
  have:crs (P p) (P q) (P r)*((H p+H q+H r)*crs (P a) (P b) (P c))≤crs (P p) (P q) (P r)*F:=by
   have e3:crs (P p) (P q) (P r)*F=c3 (P b) (P c) (P p) (P q) (P r)*(H a*crs (P p) (P q) (P r))+c3 (P c) (P a) (P p) (P q) (P r)*(H b*crs (P p) (P q) (P r))+c3 (P a) (P b) (P p) (P q) (P r)*(H c*crs (P p) (P q) (P r)):=by rw [e2];grind
   have e4:crs (P p) (P q) (P r)*((H p+H q+H r)*crs (P a) (P b) (P c))=crs (P a) (P b) (P c)*((H p+H q+H r)*crs (P p) (P q) (P r)):=by grind
   rw [e3,e4]
   omega
  exact Int.le_of_mul_le_mul_left this hs
 have hsum:(H p+H q+H r)*crs (P a) (P b) (P c)=H p*crs (P a) (P b) (P c)+H q*crs (P a) (P b) (P c)+H r*crs (P a) (P b) (P c):=by grind
 have in1:p=a∨p=b∨p=c:=by
  by_cases k1:p=a
  ·exact .inl k1
  ·by_cases k2:p=b
   ·exact .inr (.inl k2)
   ·by_cases k3:p=c
    ·exact .inr (.inr k3)
    ·have:=P1.2 k1 k2 k3;omega
 have in2:q=a∨q=b∨q=c:=by
  by_cases k1:q=a
  ·exact .inl k1
  ·by_cases k2:q=b
   ·exact .inr (.inl k2)
   ·by_cases k3:q=c
    ·exact .inr (.inr k3)
    ·have:=P2.2 k1 k2 k3;omega
 have in3:r=a∨r=b∨r=c:=by
  by_cases k1:r=a
  ·exact .inl k1
  ·by_cases k2:r=b
   ·exact .inr (.inl k2)
   ·by_cases k3:r=c
    ·exact .inr (.inr k3)
    ·have:=P3.2 k1 k2 k3;omega
 obtain ⟨d1,d2,d3⟩:=Wi (P:=P) (a:=p) (b:=q) (c:=r) (by omega)
 have o1:crs (P b) (P a) (P c) = -crs (P a) (P b) (P c):=Df _ _ _
 have o2:crs (P a) (P c) (P b) = -crs (P a) (P b) (P c):=by unfold crs;grind
 have o3:crs (P c) (P b) (P a) = -crs (P a) (P b) (P c):=by rw [Df,Co]
 rcases in1 with rfl | rfl | rfl <;> rcases in2 with rfl | rfl | rfl <;> rcases in3 with rfl | rfl | rfl
 all_goals first
  | exact absurd rfl d1
  | exact absurd rfl d2
  | exact absurd rfl d3
  | exact ht
  | exact hX.rot _ _ _ ht
  | exact hX.rot _ _ _ (hX.rot _ _ _ ht)
  | omega
end Go.Proofs.YtbkobeeileemjaaGreat
/- Triangulations as maps from sides to corners: flips keep what they are. -/
namespace Go.Proofs.YtbkobeeileemjaaGreat
open Go Go.RowKit
theorem Rt (s a b c d:Ad):crs s a b*crs s c d-crs s a c*crs s b d+crs s a d*crs s b c=0:=by unfold crs;grind
theorem Po {x y:Int} (h:0 < x*y) (hx:0 < x):0 < y:=by
 rcases Int.lt_or_le 0 y with g | g
 ·exact g
 ·have:=Int.mul_nonpos_of_nonneg_of_nonpos (Int.le_of_lt hx) g;omega
theorem Sp {x y:Int} (h:0≤x*y) (hx:0 < x):0≤y:=by
 rcases Int.lt_or_le y 0 with g | g
 ·have:=Int.mul_neg_of_pos_of_neg hx g;omega
 ·exact g
theorem Cq (s a b:Ad):crs s b a = -crs s a b:=by unfold crs;grind
/-- i between a and l, l between a and b: i comes before b. -/
theorem Yb {s a b l i:Ad} (h1:0 < crs s a l) (h2:0 < crs s l b) (h3:0 < crs s a b) (h4:0 < crs s a i) (h5:0 < crs s i l):0 < crs s i b:=by
 have h:=Rt s a l i b
 rw [Cq s i l] at h
 have e1:0 < crs s a i*crs s l b:=Int.mul_pos h4 h2
 have e2:0 < crs s a b*crs s i l:=Int.mul_pos h3 h5
 have e3:crs s a b * -crs s i l = -(crs s a b*crs s i l):=Int.mul_neg _ _
 exact Po (x:=crs s a l) (by omega) h1
/-- .. and from the other side. -/
theorem Ahh {s a b l j:Ad} (h1:0 < crs s a l) (h2:0 < crs s l b) (h3:0 < crs s a b) (h4:0 < crs s j b) (h5:0 < crs s l j):0 < crs s a j:=by
 have h:=Rt s a j l b
 have e1:0 < crs s a l*crs s j b:=Int.mul_pos h1 h4
 have e2:0 < crs s a b*crs s l j:=Int.mul_pos h3 h5
 have e3:crs s a b*crs s j l = -(crs s a b*crs s l j):=by rw [Cq s l j,Int.mul_neg]
 exact Po (x:=crs s l b) (by rw [Int.mul_comm];omega) h2
/-- On one ray. -/
theorem Afd {s j m l w:Ad} (h0:crs s j m=0) (h1:0 < crs s j l) (h2:0 < crs s m l) (h3:0 < crs s m w):0 < crs s j w:=by
 have h:=Rt s j l m w
 rw [h0,Cq s m l] at h
 have e1:0 < crs s j l*crs s m w:=Int.mul_pos h1 h3
 have e2:crs s j w * -crs s m l = -(crs s m l*crs s j w):=by rw [Int.mul_neg,Int.mul_comm]
 exact Po (x:=crs s m l) (by omega) h2
theorem Amz {s j m l w:Ad} (h0:crs s j m=0) (h1:0 < crs s l j) (h2:0 < crs s l m) (h3:0 < crs s w m):0 < crs s w j:=by
 have h:=Rt s l j w m
 have e0:crs s j m=0:=h0
 have e1:0 < crs s l j*crs s w m:=Int.mul_pos h1 h3
 have e2:crs s l m*crs s j w = -(crs s l m*crs s w j):=by rw [Cq s w j,Int.mul_neg]
 rw [e0,Int.mul_zero] at h
 exact Po (x:=crs s l m) (by omega) h2
/-- Two corners on one ray: the nearer one lies on the side to the other one. -/
theorem Apa {s a i b j:Ad} (h0:crs s a i=0) (h1:0 < crs s a b) (h2:0 < crs s i b) (h3:0 < crs s i j) (h4:0 < crs s a j) :
  (0≤crs a b i∧0≤crs b s i)∨(0≤crs i j a∧0≤crs j s a):=by
 have hp:=Rt s a b i j
 rw [h0,Cq s i b] at hp
 have s1:=Vi s a b i
 have s2:=Vi s i j a
 have r1:crs b s i=crs s i b:=by unfold crs;grind
 have r2:crs j s a=crs s a j:=by unfold crs;grind
 have r3:crs s i a=0:=by rw [Cq,h0];rfl
 by_cases c:crs s i b≤crs s a b
 ·left;omega
 ·right
  have:crs s a j≤crs s i j:=by
   rcases Int.lt_or_le (crs s i j) (crs s a j) with g | g
   ·have e1:=Int.mul_lt_mul_of_pos_left g h1
    have e2:=Int.mul_lt_mul_of_pos_right (show crs s a b < crs s i b by omega) h4
    have e3:crs s a j * -crs s i b = -(crs s i b*crs s a j):=by rw [Int.mul_neg,Int.mul_comm]
    have e4:crs s a b*crs s a j=crs s a b*crs s a j:=rfl
    omega
   ·exact g
  omega
theorem Aq6 {s a i b j:Ad} (h0:crs s a i=0) (h1:0 < crs s b a) (h2:0 < crs s b i) (h3:0 < crs s j i) (h4:0 < crs s j a) :
  (0≤crs b a i∧0≤crs s b i)∨(0≤crs j i a∧0≤crs s j a):=by
 have hp:=Rt s b a j i
 rw [h0,Cq s j a,Int.mul_zero] at hp
 have s1:=Vi s b a i
 have s2:=Vi s j i a
 have r1:crs a s i=0:=by rw [Df,h0];rfl
 have r2:crs i s a=0:=by rw [Df,Cq,h0];rfl
 by_cases c:crs s b i≤crs s b a
 ·left;omega
 ·right
  have:crs s j a≤crs s j i:=by
   rcases Int.lt_or_le (crs s j i) (crs s j a) with g | g
   ·have e1:=Int.mul_lt_mul_of_pos_left g h1
    have e2:=Int.mul_lt_mul_of_pos_right (show crs s b a < crs s b i by omega) h4
    have e3:crs s b i * -crs s j a = -(crs s b i*crs s j a):=Int.mul_neg _ _
    omega
   ·exact g
  omega
abbrev Ap:=Int→Int→Option Int
/-- A triangulation: the corner of the triangle to the left of each directed side. -/
structure Tri (P:Int→Ad) (V:Int→Prop) (ap:Ap):Prop where
 rot:∀ i j k,ap i j=some k→ap j k=some i
 ccw:∀ i j k,ap i j=some k→V i∧V j∧V k∧0 < crs (P i) (P j) (P k)
 emp:∀ i j k,ap i j=some k→∀ d,V d→d≠i→d≠j→d≠k→crs (P i) (P j) (P d) < 0∨crs (P j) (P k) (P d) < 0∨crs (P k) (P i) (P d) < 0
 cone:∀ s a b m,ap s a=some b→(ap s m≠none∨ap m s≠none)→¬ (0 < crs (P s) (P a) (P m)∧0 < crs (P s) (P m) (P b))
variable {P:Int→Ad} {H:Int→Int} {V:Int→Prop} {ap:Ap}
theorem Tri.rot2 (h:Tri P V ap) {i j k} (hk:ap i j=some k):ap k i=some j:=h.rot _ _ _ (h.rot _ _ _ hk)
theorem Tri.ne (h:Tri P V ap) {i j k} (hk:ap i j=some k):i≠j∧j≠k∧k≠i:=Wi (P:=P) (by have:=(h.ccw _ _ _ hk).2.2.2;omega)
/-- A neighbour of s is a corner of a triangle with s. -/
theorem Tri.nbr (h:Tri P V ap) {s m} (hm:ap s m≠none∨ap m s≠none):(∃ w,ap s m=some w)∨∃ w,ap s w=some m:=by
 rcases hm with hm | hm
 ·obtain ⟨w,hw⟩:=Option.ne_none_iff_exists'.1 hm
  exact .inl ⟨w,hw⟩
 ·obtain ⟨w,hw⟩:=Option.ne_none_iff_exists'.1 hm
  exact .inr ⟨w,h.rot _ _ _ hw⟩
/-- Two triangles at s whose angles have a place l in common are one. -/
theorem Tri.cones (h:Tri P V ap) {s a b i j:Int} {l:Ad} (h1:ap s a=some b) (h2:ap s i=some j) (g1:0 < crs (P s) (P a) l) (g2:0 < crs (P s) l (P b)) (g3:0 < crs (P s) (P i) l) (g4:0 < crs (P s) l (P j)):a=i:=by
 obtain ⟨vs,va,vb,cab⟩:=h.ccw _ _ _ h1
 obtain ⟨_,vi,vj,cij⟩:=h.ccw _ _ _ h2
 rcases Int.lt_trichotomy (crs (P s) (P a) (P i)) 0 with c | c | c
 ·have c':0 < crs (P s) (P i) (P a):=by rw [Cq];omega
  exact absurd ⟨c',Yb g3 g4 cij c' g1⟩ (h.cone s i j a h2 (.inl (by rw [h1];simp)))
 ·by_cases e:a=i
  ·exact e
  ·exfalso
   have n1:=h.ne h1
   have n2:=h.ne h2
   have k1:0 < crs (P s) (P i) (P b):=Afd (l:=l) (by rw [Cq,c];rfl) g3 g1 cab
   have k2:0 < crs (P s) (P a) (P j):=Afd (l:=l) c g1 g3 cij
   rcases Apa c cab k1 cij k2 with ⟨q1,q2⟩ | ⟨q1,q2⟩
   ·by_cases e2:i=b
    ·subst e2;omega
    ·rcases h.emp s a b h1 i vi (by omega) (by omega) e2 with g | g | g <;> omega
   ·by_cases e2:a=j
    ·subst e2;rw [Cq] at cij;omega
    ·have:crs (P s) (P i) (P a)=0:=by rw [Cq,c];rfl
     rcases h.emp s i j h2 a va (by omega) (by omega) e2 with g | g | g <;> omega
 ·exact absurd ⟨c,Yb g1 g2 cab c g3⟩ (h.cone s a b i h1 (.inl (by rw [h2];simp)))
end Go.Proofs.YtbkobeeileemjaaGreat
/- Flips. -/
namespace Go.Proofs.YtbkobeeileemjaaGreat
open Go Go.RowKit
variable {P:Int→Ad} {H:Int→Int} {V:Int→Prop} {ap:Ap}
/-- The diagonal i-j of the triangles i, j, k and j, i, l is exchanged for k-l. -/
def Lu (ap:Ap) (i j k l:Int):Ap:=fun a b =>
 if a=i∧b=l then some k else if a=l∧b=k then some i else if a=k∧b=i then some l else
 if a=j∧b=k then some l else if a=k∧b=l then some j else if a=l∧b=j then some k else
 if a=i∧b=j then none else if a=j∧b=i then none else ap a b
theorem Pf {i j k l a b c:Int} (h:Lu ap i j k l a b=some c) :
  (a=i∧b=l∧c=k)∨(a=l∧b=k∧c=i)∨(a=k∧b=i∧c=l)∨(a=j∧b=k∧c=l)∨(a=k∧b=l∧c=j)∨(a=l∧b=j∧c=k) ∨
  (ap a b=some c∧¬ (a=i∧b=l)∧¬ (a=l∧b=k)∧¬ (a=k∧b=i)∧¬ (a=j∧b=k)∧¬ (a=k∧b=l)∧¬ (a=l∧b=j)∧¬ (a=i∧b=j)∧¬ (a=j∧b=i)):=by
 unfold Lu at h
 by_cases k0:a=i∧b=l
 ·rw [if_pos k0] at h;exact .inl ⟨k0.1,k0.2,(Option.some.inj h).symm⟩
 rw [if_neg k0] at h
 by_cases k1:a=l∧b=k
 ·rw [if_pos k1] at h;exact .inr (.inl ⟨k1.1,k1.2,(Option.some.inj h).symm⟩)
 rw [if_neg k1] at h
 by_cases k2:a=k∧b=i
 ·rw [if_pos k2] at h;exact .inr (.inr (.inl ⟨k2.1,k2.2,(Option.some.inj h).symm⟩))
 rw [if_neg k2] at h
 by_cases k3:a=j∧b=k
 ·rw [if_pos k3] at h;exact .inr (.inr (.inr (.inl ⟨k3.1,k3.2,(Option.some.inj h).symm⟩)))
 rw [if_neg k3] at h
 by_cases k4:a=k∧b=l
 ·rw [if_pos k4] at h;exact .inr (.inr (.inr (.inr (.inl ⟨k4.1,k4.2,(Option.some.inj h).symm⟩))))
 rw [if_neg k4] at h
 by_cases k5:a=l∧b=j
 ·rw [if_pos k5] at h;exact .inr (.inr (.inr (.inr (.inr (.inl ⟨k5.1,k5.2,(Option.some.inj h).symm⟩)))))
 rw [if_neg k5] at h
 by_cases k6:a=i∧b=j
 ·rw [if_pos k6] at h;cases h
 rw [if_neg k6] at h
 by_cases k7:a=j∧b=i
 ·rw [if_pos k7] at h;cases h
 rw [if_neg k7] at h
 exact .inr (.inr (.inr (.inr (.inr (.inr ⟨h,k0,k1,k2,k3,k4,k5,k6,k7⟩)))))
theorem Apb {i j k l s m:Int} (h:Tri P V ap) (hk:ap i j=some k) (hl:ap j i=some l) (hm:Lu ap i j k l s m≠none∨Lu ap i j k l m s≠none) :
  ((ap s m≠none∨ap m s≠none)∧¬ (s=i∧m=j)∧¬ (s=j∧m=i))∨(s=k∧m=l)∨(s=l∧m=k):=by
 have a1:=h.rot _ _ _ hk
 have a2:=h.rot2 hk
 have a3:=h.rot _ _ _ hl
 have a4:=h.rot2 hl
 have n1:=h.ne hk
 have n2:=h.ne hl
 have key:∀ x y,Lu ap i j k l x y≠none→((ap x y≠none∨ap y x≠none)∧¬ (x=i∧y=j)∧¬ (x=j∧y=i))∨(x=k∧y=l)∨(x=l∧y=k):=by
  intro x y hx
  obtain ⟨c,hc⟩:=Option.ne_none_iff_exists'.1 hx
  rcases Pf hc with ⟨rfl,rfl,rfl⟩ | ⟨rfl,rfl,rfl⟩ | ⟨rfl,rfl,rfl⟩ | ⟨rfl,rfl,rfl⟩ | ⟨rfl,rfl,rfl⟩ | ⟨rfl,rfl,rfl⟩ | ⟨h0,h1⟩
  ·exact .inl ⟨.inl (by rw [a3];simp),by omega,by omega⟩
  ·exact .inr (.inr ⟨rfl,rfl⟩)
  ·exact .inl ⟨.inl (by rw [a2];simp),by omega,by omega⟩
  ·exact .inl ⟨.inl (by rw [a1];simp),by omega,by omega⟩
  ·exact .inr (.inl ⟨rfl,rfl⟩)
  ·exact .inl ⟨.inl (by rw [a4];simp),by omega,by omega⟩
  ·exact .inl ⟨.inl (by rw [h0];simp),by omega,by omega⟩
 rcases hm with hm | hm
 ·exact key s m hm
 ·rcases key m s hm with ⟨g1,g2,g3⟩ | ⟨g1,g2⟩ | ⟨g1,g2⟩
  ·exact .inl ⟨g1.symm,by omega,by omega⟩
  ·exact .inr (.inr ⟨g2,g1⟩)
  ·exact .inr (.inl ⟨g2,g1⟩)
/-- What the flip of a convex quadrangle is about. -/
structure Quad (P:Int→Ad) (V:Int→Prop) (ap:Ap) (i j k l:Int):Prop where
 tri:Tri P V ap
 hk:ap i j=some k
 hl:ap j i=some l
 c1:0 < crs (P i) (P l) (P k)
 c2:0 < crs (P j) (P k) (P l)
theorem Quad.symm {i j k l} (q:Quad P V ap i j k l):Quad P V ap j i l k:=⟨q.tri,q.hl,q.hk,q.c2,q.c1⟩
theorem Quad.ne {i j k l} (q:Quad P V ap i j k l):i≠j∧k≠l∧k≠i∧k≠j∧l≠i∧l≠j:=by
 have n1:=q.tri.ne q.hk
 have n2:=q.tri.ne q.hl
 have n3:=Wi (P:=P) (a:=i) (b:=l) (c:=k) (by have:=q.c1;omega)
 omega
theorem Quad.fresh {i j k l} (q:Quad P V ap i j k l):ap k l=none∧ap l k=none:=by
 have key:∀ {i j k l},Quad P V ap i j k l→¬ (ap k l≠none∨ap l k≠none):=fun {i j k l} q hn=>by
  refine q.tri.cone k i j l (q.tri.rot2 q.hk) hn ⟨?_,?_⟩
  ·have:=q.c1;rw [Co] at this;exact this
  ·rw [Co];exact q.c2
 have:=key q
 exact ⟨by rcases h:ap k l with _ | x;rfl;exact absurd (.inl (by rw [h];simp)) this,by rcases h:ap l k with _ | x;rfl;exact absurd (.inr (by rw [h];simp)) this⟩
theorem Apc {i j k l} (q:Quad P V ap i j k l):∀ a b c,Lu ap i j k l a b=some c→Lu ap i j k l b c=some a:=by
 intro a b c hc
 have a1:=q.tri.rot _ _ _ q.hk
 have a2:=q.tri.rot2 q.hk
 have a3:=q.tri.rot _ _ _ q.hl
 have a4:=q.tri.rot2 q.hl
 have hk:=q.hk
 have hl:=q.hl
 obtain ⟨f1,f2⟩:=q.fresh
 obtain ⟨n1,n2,n3,n4,n5,n6⟩:=q.ne
 have hr:=q.tri.rot
 rcases Pf hc with ⟨rfl,rfl,rfl⟩ | ⟨rfl,rfl,rfl⟩ | ⟨rfl,rfl,rfl⟩ | ⟨rfl,rfl,rfl⟩ | ⟨rfl,rfl,rfl⟩ | ⟨rfl,rfl,rfl⟩ | ⟨h0,h1⟩
 ·unfold Lu;grind
 ·unfold Lu;grind
 ·unfold Lu;grind
 ·unfold Lu;grind
 ·unfold Lu;grind
 ·unfold Lu;grind
 ·have h2:=hr _ _ _ h0
  unfold Lu
  grind
/-- A place in the new triangle i, l, k lies in one of the old ones. -/
theorem Aq7 {pi pj pk pl pd:Ad} (hk:0 < crs pi pj pk) (hl:0 < crs pj pi pl) (c1:0 < crs pi pl pk) (c2:0 < crs pj pk pl) (d1:0≤crs pi pl pd) (d2:0≤crs pl pk pd) (d3:0≤crs pk pi pd) :
  (0≤crs pi pj pd∧0≤crs pj pk pd∧0≤crs pk pi pd)∨(0≤crs pj pi pd∧0≤crs pi pl pd∧0≤crs pl pj pd):=by
 by_cases c:0≤crs pi pj pd
 ·left
  refine ⟨c,?_,d3⟩
  have e:crs pi pl pk*crs pj pk pd=crs pi pj pk*crs pl pk pd+crs pj pk pl*crs pk pi pd:=by unfold crs;grind
  have:=Int.mul_nonneg (Int.le_of_lt hk) d2
  have:=Int.mul_nonneg (Int.le_of_lt c2) d3
  exact Sp (x:=crs pi pl pk) (by omega) c1
 ·right
  refine ⟨by rw [Df];omega,d1,?_⟩
  have e:crs pi pl pk*crs pl pj pd=crs pj pi pl*crs pl pk pd+crs pj pk pl*crs pi pl pd:=by unfold crs;grind
  have:=Int.mul_nonneg (Int.le_of_lt hl) d2
  have:=Int.mul_nonneg (Int.le_of_lt c2) d1
  exact Sp (x:=crs pi pl pk) (by omega) c1
theorem Quad.emp1 {i j k l} (q:Quad P V ap i j k l) (d:Int) (hd:V d) (h1:d≠i) (h2:d≠l) (h3:d≠k):crs (P i) (P l) (P d) < 0∨crs (P l) (P k) (P d) < 0∨crs (P k) (P i) (P d) < 0:=by
 obtain ⟨_,_,_,ck⟩:=q.tri.ccw _ _ _ q.hk
 obtain ⟨_,_,_,cl⟩:=q.tri.ccw _ _ _ q.hl
 by_cases hj:d=j
 ·subst hj
  have:crs (P l) (P k) (P d) = -crs (P d) (P k) (P l):=by unfold crs;grind
  have:=q.c2
  omega
 ·by_cases g1:crs (P i) (P l) (P d) < 0
  ·exact .inl g1
  ·by_cases g2:crs (P l) (P k) (P d) < 0
   ·exact .inr (.inl g2)
   ·by_cases g3:crs (P k) (P i) (P d) < 0
    ·exact .inr (.inr g3)
    ·exfalso
     rcases Aq7 (pd:=P d) ck cl q.c1 q.c2 (by omega) (by omega) (by omega) with ⟨e1,e2,e3⟩ | ⟨e1,e2,e3⟩
     ·rcases q.tri.emp _ _ _ q.hk d hd h1 hj h3 with g | g | g <;> omega
     ·rcases q.tri.emp _ _ _ q.hl d hd hj h1 h2 with g | g | g <;> omega
/-- At i, no neighbour lies within the new angle. -/
theorem Quad.cone_i {i j k l} (q:Quad P V ap i j k l) (m:Int) (hm:ap i m≠none∨ap m i≠none) (hj:m≠j):¬ (0 < crs (P i) (P l) (P m)∧0 < crs (P i) (P m) (P k)):=by
 rintro ⟨g1,g2⟩
 have hk:=q.hk
 have hl:=q.tri.rot _ _ _ q.hl
 obtain ⟨vi,vj,vk,ck⟩:=q.tri.ccw _ _ _ hk
 obtain ⟨_,vl,_,cl⟩:=q.tri.ccw _ _ _ hl
 rcases Int.lt_trichotomy (crs (P i) (P j) (P m)) 0 with c | c | c
 ·exact q.tri.cone i l j m hl hm ⟨g1,by rw [Cq];omega⟩
 ·-- on the ray to j
  have ne:=q.tri.ne hk
  have ne':=q.tri.ne hl
  have cmj:crs (P i) (P m) (P j)=0:=by rw [Cq,c];rfl
  rcases q.tri.nbr hm with ⟨w,hw⟩ | ⟨w,hw⟩
  ·obtain ⟨_,vm,vw,cw⟩:=q.tri.ccw _ _ _ hw
   have k1:0 < crs (P i) (P j) (P w):=Afd (l:=P k) c ck g2 cw
   rcases Apa cmj cw k1 ck g2 with ⟨q1,q2⟩ | ⟨q1,q2⟩
   ·have nw:=q.tri.ne hw
    by_cases e:j=w
    ·subst e;omega
    ·rcases q.tri.emp _ _ _ hw j vj (by omega) (by omega) e with g | g | g <;> omega
   ·by_cases e:m=k
    ·subst e;omega
    ·rcases q.tri.emp _ _ _ hk m vm (q.tri.ne hw).1.symm hj e with g | g | g <;> omega
  ·obtain ⟨_,vw,vm,cw⟩:=q.tri.ccw _ _ _ hw
   have nw:=q.tri.ne hw
   have k1:0 < crs (P i) (P w) (P j):=Amz (l:=P l) c cl g1 cw
   rcases Aq6 cmj cw k1 cl g1 with ⟨q1,q2⟩ | ⟨q1,q2⟩
   ·by_cases e:j=w
    ·subst e;rw [De] at k1;omega
    ·have:crs (P m) (P i) (P j)=0:=by rw [Df,cmj];rfl
     rcases q.tri.emp _ _ _ hw j vj (by omega) e (by omega) with g | g | g <;> omega
   ·by_cases e:m=l
    ·subst e;rw [De] at g1;omega
    ·have:crs (P j) (P i) (P m)=0:=by rw [Df,c];rfl
     rcases q.tri.emp _ _ _ hl m vm (by omega) e hj with g | g | g <;> omega
 ·exact q.tri.cone i j k m hk hm ⟨c,g2⟩
/-- At k, no neighbour lies within a part of the old angle. -/
theorem Quad.cone_k {i j k l} (q:Quad P V ap i j k l) (m:Int) (hm:ap k m≠none∨ap m k≠none):¬ (0 < crs (P k) (P i) (P m)∧0 < crs (P k) (P m) (P l)):=by
 rintro ⟨g1,g2⟩
 have hk:=q.tri.rot2 q.hk
 obtain ⟨_,_,_,ck⟩:=q.tri.ccw _ _ _ hk
 have c2:0 < crs (P k) (P l) (P j):=by rw [Co];exact q.c2
 have c1:0 < crs (P k) (P i) (P l):=by have:=q.c1;rw [Co] at this;exact this
 refine q.tri.cone k i j m hk hm ⟨g1,?_⟩
 -- m between i and l,l between i and j
 exact Yb (l:=P l) c1 c2 ck g1 g2
theorem Quad.cone_l {i j k l} (q:Quad P V ap i j k l) (m:Int) (hm:ap l m≠none∨ap m l≠none):¬ (0 < crs (P l) (P k) (P m)∧0 < crs (P l) (P m) (P i)):=by
 rintro ⟨g1,g2⟩
 have hl:=q.tri.rot2 q.hl
 obtain ⟨_,_,_,cl⟩:=q.tri.ccw _ _ _ hl
 have c1:0 < crs (P l) (P k) (P i):=by rw [Co];exact q.c1
 have c2:0 < crs (P l) (P j) (P k):=by have:=q.c2;rw [Co] at this;exact this
 refine q.tri.cone l j i m hl hm ⟨?_,g2⟩
 exact Ahh (l:=P k) c2 c1 cl g2 g1
theorem Quad.flip {i j k l} (q:Quad P V ap i j k l):Tri P V (Lu ap i j k l):=by
 have hk:=q.hk
 have hl:=q.hl
 obtain ⟨vi,vj,vk,ck⟩:=q.tri.ccw _ _ _ hk
 obtain ⟨_,_,vl,cl⟩:=q.tri.ccw _ _ _ hl
 have c1:=q.c1
 have c2:=q.c2
 have c1':0 < crs (P l) (P k) (P i):=by rw [Co];exact c1
 have c1'':0 < crs (P k) (P i) (P l):=by rw [Co];exact c1'
 have c2':0 < crs (P k) (P l) (P j):=by rw [Co];exact c2
 have c2'':0 < crs (P l) (P j) (P k):=by rw [Co];exact c2'
 have n:=q.ne
 refine ⟨Apc q,fun a b c hc=>?_,fun a b c hc d hd h1 h2 h3=>?_,fun s a b m hc hm=>?_⟩
 ·rcases Pf hc with ⟨rfl,rfl,rfl⟩ | ⟨rfl,rfl,rfl⟩ | ⟨rfl,rfl,rfl⟩ | ⟨rfl,rfl,rfl⟩ | ⟨rfl,rfl,rfl⟩ | ⟨rfl,rfl,rfl⟩ | ⟨h0,_⟩
  ·exact ⟨vi,vl,vk,c1⟩
  ·exact ⟨vl,vk,vi,c1'⟩
  ·exact ⟨vk,vi,vl,c1''⟩
  ·exact ⟨vj,vk,vl,c2⟩
  ·exact ⟨vk,vl,vj,c2'⟩
  ·exact ⟨vl,vj,vk,c2''⟩
  ·exact q.tri.ccw _ _ _ h0
 ·rcases Pf hc with ⟨rfl,rfl,rfl⟩ | ⟨rfl,rfl,rfl⟩ | ⟨rfl,rfl,rfl⟩ | ⟨rfl,rfl,rfl⟩ | ⟨rfl,rfl,rfl⟩ | ⟨rfl,rfl,rfl⟩ | ⟨h0,_⟩
  ·exact q.emp1 d hd h1 h2 h3
  ·rcases q.emp1 d hd h3 h1 h2 with g | g | g <;> simp [g]
  ·rcases q.emp1 d hd h2 h3 h1 with g | g | g <;> simp [g]
  ·exact q.symm.emp1 d hd h1 h2 h3
  ·rcases q.symm.emp1 d hd h3 h1 h2 with g | g | g <;> simp [g]
  ·rcases q.symm.emp1 d hd h2 h3 h1 with g | g | g <;> simp [g]
  ·exact q.tri.emp _ _ _ h0 d hd h1 h2 h3
 ·have hn:=Apb q.tri hk hl hm
  rcases Pf hc with ⟨rfl,rfl,rfl⟩ | ⟨rfl,rfl,rfl⟩ | ⟨rfl,rfl,rfl⟩ | ⟨rfl,rfl,rfl⟩ | ⟨rfl,rfl,rfl⟩ | ⟨rfl,rfl,rfl⟩ | ⟨h0,h9⟩
  ·-- at i
   rcases hn with ⟨g1,g2,g3⟩ | ⟨g1,g2⟩ | ⟨g1,g2⟩
   ·exact q.cone_i m g1 (fun e=>g2 ⟨rfl,e⟩)
   ·omega
   ·omega
  ·-- at l: from k to i
   rcases hn with ⟨g1,g2,g3⟩ | ⟨g1,g2⟩ | ⟨g1,g2⟩
   ·exact q.cone_l m g1
   ·omega
   ·rintro ⟨e1,e2⟩;rw [g2,De] at e1;omega
  ·-- at k: from i to l
   rcases hn with ⟨g1,g2,g3⟩ | ⟨g1,g2⟩ | ⟨g1,g2⟩
   ·exact q.cone_k m g1
   ·rintro ⟨e1,e2⟩;rw [g2,De] at e2;omega
   ·omega
  ·rcases hn with ⟨g1,g2,g3⟩ | ⟨g1,g2⟩ | ⟨g1,g2⟩
   ·exact q.symm.cone_i m g1 (fun e=>g3 ⟨rfl,e⟩)
   ·omega
   ·omega
  ·rcases hn with ⟨g1,g2,g3⟩ | ⟨g1,g2⟩ | ⟨g1,g2⟩
   ·exact q.symm.cone_l m g1
   ·rintro ⟨e1,e2⟩;rw [g2,De] at e1;omega
   ·omega
  ·rcases hn with ⟨g1,g2,g3⟩ | ⟨g1,g2⟩ | ⟨g1,g2⟩
   ·exact q.symm.cone_k m g1
   ·omega
   ·rintro ⟨e1,e2⟩;rw [g2,De] at e2;omega
  ·rcases hn with ⟨g1,g2,g3⟩ | ⟨rfl,rfl⟩ | ⟨rfl,rfl⟩
   ·exact q.tri.cone s a b m h0 g1
   ·-- at k,l within another angle
    rintro ⟨e1,e2⟩
    have:=q.tri.cones h0 (q.tri.rot2 hk) e1 e2 c1'' c2'
    omega
   ·rintro ⟨e1,e2⟩
    have:=q.tri.cones h0 (q.tri.rot2 hl) e1 e2 c2'' c1'
    omega
end Go.Proofs.YtbkobeeileemjaaGreat
/- Flips: where nothing lies below, and how many places lie within circles. -/
namespace Go.Proofs.YtbkobeeileemjaaGreat
open Go Go.RowKit
variable {P:Int→Ad} {H:Int→Int} {V:Int→Prop} {ap:Ap}
/-- What is asked of the heights: they are convex. -/
def Acs (P:Int→Ad) (H:Int→Int) (V:Int→Prop):Prop :=
 ∀ a b c d,V a→V b→V c→V d→0 < crs (P a) (P b) (P c)→crs (P a) (P b) (P d) < 0→(crs (P b) (P c) (P d)≤0∨crs (P c) (P a) (P d)≤0)→DH P H a b c d < 0
/-- To the left of the sides that have no triangle on the right lie all places of S. -/
def Cov (P:Int→Ad) (S:Int→Prop) (ap:Ap):Prop:=∀ i j k,ap i j=some k→ap j i=none→∀ d,S d→0≤crs (P i) (P j) (P d)
theorem Acu {i j k l a b:Int} (h:Lu ap i j k l a b=none):ap a b=none∨(a=i∧b=j)∨(a=j∧b=i):=by
 unfold Lu at h
 by_cases k0:a=i∧b=l
 ·rw [if_pos k0] at h;cases h
 rw [if_neg k0] at h
 by_cases k1:a=l∧b=k
 ·rw [if_pos k1] at h;cases h
 rw [if_neg k1] at h
 by_cases k2:a=k∧b=i
 ·rw [if_pos k2] at h;cases h
 rw [if_neg k2] at h
 by_cases k3:a=j∧b=k
 ·rw [if_pos k3] at h;cases h
 rw [if_neg k3] at h
 by_cases k4:a=k∧b=l
 ·rw [if_pos k4] at h;cases h
 rw [if_neg k4] at h
 by_cases k5:a=l∧b=j
 ·rw [if_pos k5] at h;cases h
 rw [if_neg k5] at h
 by_cases k6:a=i∧b=j
 ·exact .inr (.inl k6)
 rw [if_neg k6] at h
 by_cases k7:a=j∧b=i
 ·exact .inr (.inr k7)
 rw [if_neg k7] at h
 exact .inl h
theorem Ali {i j k l:Int} (h1:l≠i):Lu ap i j k l l k=some i:=by unfold Lu;rw [if_neg (by omega)];simp
theorem Alj {i j k l:Int} (h1:k≠i) (h2:k≠l) (h3:k≠j) (h4:l≠i):Lu ap i j k l k l=some j:=by unfold Lu;rw [if_neg (by omega),if_neg (by omega),if_neg (by omega),if_neg (by omega)];simp
theorem Quad.cov {S:Int→Prop} {i j k l} (q:Quad P V ap i j k l) (h:Cov P S ap):Cov P S (Lu ap i j k l):=by
 have hk:=q.hk
 have hl:=q.hl
 have a1:=q.tri.rot _ _ _ hk
 have a2:=q.tri.rot2 hk
 have a3:=q.tri.rot _ _ _ hl
 have a4:=q.tri.rot2 hl
 obtain ⟨n1,n2,n3,n4,n5,n6⟩:=q.ne
 intro a b c hc hn d hd
 have hn':ap b a=none∨(b=i∧a=j)∨(b=j∧a=i):=Acu hn
 rcases Pf hc with ⟨rfl,rfl,rfl⟩ | ⟨rfl,rfl,rfl⟩ | ⟨rfl,rfl,rfl⟩ | ⟨rfl,rfl,rfl⟩ | ⟨rfl,rfl,rfl⟩ | ⟨rfl,rfl,rfl⟩ | ⟨h0,h9⟩
 ·exact h _ _ _ a3 (hn'.resolve_right (by omega)) d hd
 ·rw [Alj n3 n2 n4 n5] at hn;cases hn
 ·exact h _ _ _ a2 (hn'.resolve_right (by omega)) d hd
 ·exact h _ _ _ a1 (hn'.resolve_right (by omega)) d hd
 ·rw [Ali n5] at hn;cases hn
 ·exact h _ _ _ a4 (hn'.resolve_right (by omega)) d hd
 ·exact h _ _ _ h0 (hn'.resolve_right (by omega)) d hd
/-! ### places within circles -/
theorem Aao (a b c d:Int):DH P H b c a d=DH P H a b c d:=Asy _ _ _ _ _ _ _ _
theorem Wj {a c x y Q s:Int} (h:x*a-y*c = -(Q*s)) (ha:0 < a) (hc:0 < c) (hQ:0 < Q) (hx:0 < x) (hs:0≤s):0 < y:=by
 have e1:=Int.mul_pos hx ha
 have e2:=Int.mul_nonneg (Int.le_of_lt hQ) hs
 exact Po (x:=c) (by rw [Int.mul_comm];omega) hc
/-- The four planes over a quadrangle. -/
theorem Alk (hi hj hk hl hd:Int) (i j k l d:Ad):Dt hi hl hk hd i l k d*crs i j k-Dt hi hj hk hd i j k d*crs i l k = -(Dt hi hj hk hl i j k l*crs k i d):=by unfold Dt crs;grind
theorem Alm (hi hj hk hl hd:Int) (i j k l d:Ad):Dt hi hl hk hd i l k d*crs j i l-Dt hj hi hl hd j i l d*crs i l k = -(Dt hi hj hk hl i j k l*crs i l d):=by unfold Dt crs;grind
theorem Quad.swapQ {i j k l:Int}:DH P H j i l k=DH P H i j k l:=by
 unfold DH
 rw [Aq5,Ai3,Int.neg_neg]
theorem Quad.conf1 {i j k l d:Int} (hcv:Acs P H V) (q:Quad P V ap i j k l) (hQ:0 < DH P H i j k l) (hd:V d) (hC:0 < DH P H i l k d):0 < DH P H i j k d∨0 < DH P H j i l d:=by
 obtain ⟨vi,vj,vk,ck⟩:=q.tri.ccw _ _ _ q.hk
 obtain ⟨_,_,vl,cl⟩:=q.tri.ccw _ _ _ q.hl
 have p1:=Alk (H i) (H j) (H k) (H l) (H d) (P i) (P j) (P k) (P l) (P d)
 have p2:=Alm (H i) (H j) (H k) (H l) (H d) (P i) (P j) (P k) (P l) (P d)
 by_cases g1:0≤crs (P k) (P i) (P d)
 ·exact .inl (Wj p1 ck q.c1 hQ hC g1)
 ·by_cases g2:0≤crs (P i) (P l) (P d)
  ·exact .inr (Wj p2 cl q.c1 hQ hC g2)
  ·have:=hcv i l k d vi vl vk hd q.c1 (by omega) (.inr (by omega))
   omega
theorem Quad.conf2 {i j k l d:Int} (hcv:Acs P H V) (q:Quad P V ap i j k l) (hQ:0 < DH P H i j k l) (hd:V d) (hC:0 < DH P H i l k d) (hE:0 < DH P H j k l d):0 < DH P H i j k d:=by
 obtain ⟨vi,vj,vk,ck⟩:=q.tri.ccw _ _ _ q.hk
 obtain ⟨_,_,vl,cl⟩:=q.tri.ccw _ _ _ q.hl
 have p1:=Alk (H i) (H j) (H k) (H l) (H d) (P i) (P j) (P k) (P l) (P d)
 have p3:=Alm (H j) (H i) (H l) (H k) (H d) (P j) (P i) (P l) (P k) (P d)
 by_cases g1:0≤crs (P k) (P i) (P d)
 ·exact Wj p1 ck q.c1 hQ hC g1
 ·by_cases g2:0≤crs (P j) (P k) (P d)
  ·exact Wj p3 ck q.c2 (by have:=Quad.swapQ (P:=P) (H:=H) (i:=i) (j:=j) (k:=k) (l:=l);unfold DH at this hQ;omega) hE g2
  ·exfalso
   have c2':0 < crs (P k) (P l) (P j):=by rw [Co];exact q.c2
   have c1':0 < crs (P k) (P i) (P l):=by have:=q.c1;rw [Co] at this;exact this
   by_cases g3:crs (P k) (P l) (P d)≤0
   ·have:=hcv j k l d vj vk vl hd q.c2 (by omega) (.inl g3)
    omega
   ·have g4:crs (P l) (P k) (P d)≤0:=by rw [Df];omega
    have:=hcv k i l d vk vi vl hd c1' (by omega) (.inr g4)
    have e:DH P H k i l d=DH P H i l k d:=(Aao k i l d).symm
    omega
end Go.Proofs.YtbkobeeileemjaaGreat
/- Flips leave fewer places within circles. -/
namespace Go.Proofs.YtbkobeeileemjaaGreat
open Go Go.RowKit
theorem Aln {A B C E:Int→Bool}:∀ {L:List Int},(∀ d∈L,(C d).toNat+(E d).toNat≤(A d).toNat+(B d).toNat)→L.countP C+L.countP E≤L.countP A+L.countP B
 | [],_=>by simp
 | x::r,h=>by
  have h1:=h x List.mem_cons_self
  have h2:=Aln (L:=r) fun d hd=>h d (List.mem_cons_of_mem _ hd)
  simp only [List.countP_cons]
  cases hA:A x <;> cases hB:B x <;> cases hC:C x <;> cases hE:E x <;> rw [hA,hB,hC,hE] at h1 <;> simp at h1 ⊢ <;> omega
theorem Alo {A B C E:Int→Bool}:∀ {L:List Int} {x:Int},(∀ d∈L,(C d).toNat+(E d).toNat≤(A d).toNat+(B d).toNat)→x∈L→(C x).toNat+(E x).toNat < (A x).toNat+(B x).toNat→L.countP C+L.countP E < L.countP A+L.countP B
 | [],_,_,hx,_=>by cases hx
 | y::r,x,h,hx,hlt=>by
  have h1:=h y List.mem_cons_self
  have h2:∀ d∈r,(C d).toNat+(E d).toNat≤(A d).toNat+(B d).toNat:=fun d hd=>h d (List.mem_cons_of_mem _ hd)
  simp only [List.countP_cons]
  rcases List.mem_cons.1 hx with rfl | hx
  ·have:=Aln h2
   cases hA:A x <;> cases hB:B x <;> cases hC:C x <;> cases hE:E x <;> rw [hA,hB,hC,hE] at hlt <;> simp at hlt ⊢ <;> omega
  ·have:=Alo h2 hx hlt
   cases hA:A y <;> cases hB:B y <;> cases hC:C y <;> cases hE:E y <;> rw [hA,hB,hC,hE] at h1 <;> simp at h1 ⊢ <;> omega
def inds (n:Nat):List Int:=(List.range n).map fun k:Nat=>(k:Int)
def inN (n:Nat) (i:Int):Prop:=0≤i∧i < (n:Int)
theorem Ru {n:Nat} {i:Int}:i∈inds n↔inN n i:=by
 unfold inds inN
 rw [List.mem_map]
 constructor
 ·rintro ⟨k,hk,rfl⟩
  rw [List.mem_range] at hk
  omega
 ·rintro ⟨h0,h1⟩
  exact ⟨i.toNat,by rw [List.mem_range];omega,by omega⟩
theorem Vj {n:Nat}:(inds n).length=n:=by simp [inds]
variable {P:Int→Ad} {H:Int→Int} {ap:Ap} {n:Nat}
/-- How many places lie within the circle of a triangle. -/
def cnf (P:Int→Ad) (H:Int→Int) (n:Nat) (a b c:Int):Nat:=(inds n).countP fun d=>decide (0 < DH P H a b c d)
theorem As0 (a b c:Int):cnf P H n a b c≤n:=by
 have:(inds n).countP (fun d=>decide (0 < DH P H a b c d))≤(inds n).length:=List.countP_le_length
 rw [Vj] at this
 exact this
theorem Wk (a b c:Int):cnf P H n b c a=cnf P H n a b c:=by
 unfold cnf
 simp only [Aao]
theorem DH_b (a b c:Int):DH P H a b c b=0:=by unfold DH;rw [Ae7,Alg];omega
theorem DH_c (a b c:Int):DH P H a b c c=0:=by unfold DH;rw [Ae7,Alh];omega
theorem Quad.cnf_lt {i j k l:Int} (hcv:Acs P H (inN n)) (q:Quad P (inN n) ap i j k l) (hQ:0 < DH P H i j k l):cnf P H n i l k+cnf P H n j k l < cnf P H n i j k+cnf P H n j i l:=by
 obtain ⟨vi,vj,vk,ck⟩:=q.tri.ccw _ _ _ q.hk
 obtain ⟨_,_,vl,cl⟩:=q.tri.ccw _ _ _ q.hl
 have hQ':0 < DH P H j i l k:=by rw [Quad.swapQ];exact hQ
 unfold cnf
 refine Alo (x:=l) (fun d hd=>?_) (Ru.2 vl) ?_
 ·have vd:=Ru.1 hd
  have t1:=q.conf1 (d:=d) hcv hQ vd
  have t2:=q.symm.conf1 (d:=d) hcv hQ' vd
  have t3:=q.conf2 (d:=d) hcv hQ vd
  have t4:=q.symm.conf2 (d:=d) hcv hQ' vd
  by_cases hC:0 < DH P H i l k d
  ·by_cases hE:0 < DH P H j k l d
   ·have hA:=t3 hC hE
    have hB:=t4 hE hC
    simp [hC,hE,hA,hB]
   ·rcases t1 hC with hA | hB
    ·simp [hC,hE,hA]
    ·simp [hC,hE,hB]
  ·by_cases hE:0 < DH P H j k l d
   ·rcases t2 hE with hB | hA
    ·simp [hC,hE,hB]
    ·simp [hC,hE,hA]
   ·simp [hC,hE]
 ·rw [DH_b,DH_c,DH_c]
  simp [hQ]
end Go.Proofs.YtbkobeeileemjaaGreat
/- Heights: the squares of the places, and, where these say nothing, the order of places. -/
namespace Go.Proofs.YtbkobeeileemjaaGreat
open Go Go.RowKit
def plV (v:List Ae) (i:Int):Ad:=match idx v i with
 | some x=>⟨x.X,x.Y⟩
 | none=>⟨0,0⟩
/-- Places of a valid input. -/
structure Gb (v:List Ae):Prop where
 ok:∀ i,inN v.length i→okP (plV v i)
 dist:∀ i j,inN v.length i→inN v.length j→Dk (plV v i) (plV v j)→i=j
def KK:Int:=4611686018427387904
def aft (v:List Ae) (i:Int):Nat:=(inds v.length).countP fun j=>decide (befP (plV v i) (plV v j))
/-- Heights. -/
def hV (v:List Ae) (i:Int):Int:=KK ^ (v.length+1)*sq (plV v i)+KK ^ aft v i
theorem As1 (v:List Ae) (i:Int):aft v i≤v.length:=by
 have:(inds v.length).countP (fun j=>decide (befP (plV v i) (plV v j)))≤(inds v.length).length:=List.countP_le_length
 rw [Vj] at this
 exact this
theorem Acv {v:List Ae} {i j:Int} (hj:inN v.length j) (h:befP (plV v i) (plV v j)):aft v j < aft v i:=by
 unfold aft
 refine Acr (x:=j) (fun y _ hy=>?_) (Ru.2 hj) (by simpa using h) (by simp [befP])
 simp only [decide_eq_true_eq] at hy ⊢
 unfold befP at *
 omega
theorem Qp (k:Nat):1≤KK ^ k:=by
 have:0 < KK ^ k:=Int.pow_pos (by decide)
 omega
theorem Alp {a b:Nat} (h:a≤b):KK ^ a≤KK ^ b:=by
 obtain ⟨c,rfl⟩:=Nat.le.dest h
 rw [Int.pow_add]
 have h1:=Qp a
 have h2:=Qp c
 have:=Int.mul_le_mul_of_nonneg_left h2 (show 0≤KK ^ a by omega)
 omega
theorem Agj {a b:Nat} (h:a < b):KK*KK ^ a≤KK ^ b:=by
 have:=Alp (a:=a+1) (b:=b) h
 rw [Int.pow_succ,Int.mul_comm] at this
 exact this
theorem As2 (B sa sb sc sd wa wb wc wd:Int) (a b c d:Ad):Dt (B*sa+wa) (B*sb+wb) (B*sc+wc) (B*sd+wd) a b c d=B*Dt sa sb sc sd a b c d+Dt wa wb wc wd a b c d:=by unfold Dt;grind
theorem Abw (v:List Ae) (a b c d:Int):DH (plV v) (hV v) a b c d=KK ^ (v.length+1)*inC (plV v a) (plV v b) (plV v c) (plV v d)+Dt (KK ^ aft v a) (KK ^ aft v b) (KK ^ aft v c) (KK ^ aft v d) (plV v a) (plV v b) (plV v c) (plV v d):=by
 unfold DH hV
 rw [As2,← Asx]
theorem Oo {w x N C:Int} (hw0:0≤w) (hw:w≤N) (hC:0≤C) (h1:-C≤x) (h2:x≤C):-(N*C)≤w*x∧w*x≤N*C:=by
 have:=mulB (x:=w) (y:=x) (M:=N) (N:=C) (by omega) (by omega) hw h1 h2
 exact this
theorem Apd {N wa wb wc wd:Int} {a b c d:Ad} (ha:okP a) (hb:okP b) (hc:okP c) (hd:okP d) (h1:0≤wa∧wa≤N) (h2:0≤wb∧wb≤N) (h3:0≤wc∧wc≤N) (h4:0≤wd∧wd≤N) :
  -(N*2305843009213693952)≤Dt wa wb wc wd a b c d∧Dt wa wb wc wd a b c d≤N*2305843009213693952:=by
 have c1:=Mh hb hc hd
 have c2:=Mh hc ha hd
 have c3:=Mh ha hb hd
 have c4:=Mh ha hb hc
 have m1:=Oo (C:=576460752303423488) h1.1 h1.2 (by omega) c1.1 c1.2
 have m2:=Oo (C:=576460752303423488) h2.1 h2.2 (by omega) c2.1 c2.2
 have m3:=Oo (C:=576460752303423488) h3.1 h3.2 (by omega) c3.1 c3.2
 have m4:=Oo (C:=576460752303423488) h4.1 h4.2 (by omega) c4.1 c4.2
 unfold Dt
 omega
section
variable {v:List Ae} (hv:Gb v) {a b c d:Int} (ha:inN v.length a) (hb:inN v.length b) (hc:inN v.length c) (hd:inN v.length d)
include hv ha hb hc hd
theorem Ape:-(KK ^ (v.length+1)) < Dt (KK ^ aft v a) (KK ^ aft v b) (KK ^ aft v c) (KK ^ aft v d) (plV v a) (plV v b) (plV v c) (plV v d)∧Dt (KK ^ aft v a) (KK ^ aft v b) (KK ^ aft v c) (KK ^ aft v d) (plV v a) (plV v b) (plV v c) (plV v d) < KK ^ (v.length+1):=by
 have w:∀ i,0≤KK ^ aft v i∧KK ^ aft v i≤KK ^ v.length:=fun i=>⟨by have:=Qp (aft v i);omega,Alp (As1 v i)⟩
 have:=Apd (hv.ok a ha) (hv.ok b hb) (hv.ok c hc) (hv.ok d hd) (w a) (w b) (w c) (w d)
 have h1:=Qp v.length
 generalize Dt (KK ^ aft v a) (KK ^ aft v b) (KK ^ aft v c) (KK ^ aft v d) (plV v a) (plV v b) (plV v c) (plV v d)=D at *
 rw [Int.pow_succ]
 have e:KK=4611686018427387904:=rfl
 generalize KK ^ v.length=N at *
 rw [e]
 omega
/-- Within the circle: above. -/
theorem Atx (h:0 < inC (plV v a) (plV v b) (plV v c) (plV v d)):0 < DH (plV v) (hV v) a b c d:=by
 rw [Abw]
 have h1:=Ape hv ha hb hc hd
 have h2:=Qp (v.length+1)
 have:=Int.mul_le_mul_of_nonneg_left (show 1≤inC (plV v a) (plV v b) (plV v c) (plV v d) by omega) (show 0≤KK ^ (v.length+1) by omega)
 omega
theorem Ahi (h:inC (plV v a) (plV v b) (plV v c) (plV v d) < 0):DH (plV v) (hV v) a b c d < 0:=by
 rw [Abw]
 have h1:=Ape hv ha hb hc hd
 have h2:=Qp (v.length+1)
 have:=Int.mul_le_mul_of_nonneg_left (show inC (plV v a) (plV v b) (plV v c) (plV v d)≤-1 by omega) (show 0≤KK ^ (v.length+1) by omega)
 omega
/-- On the circle, where a is the first of the places: as the area across says. -/
theorem Tn (h0:inC (plV v a) (plV v b) (plV v c) (plV v d)=0) (h1:befP (plV v a) (plV v b)) (h2:befP (plV v a) (plV v c)) (h3:befP (plV v a) (plV v d)) :
  (0 < crs (plV v b) (plV v c) (plV v d)→0 < DH (plV v) (hV v) a b c d)∧(crs (plV v b) (plV v c) (plV v d) < 0→DH (plV v) (hV v) a b c d < 0):=by
 rw [Abw,h0,Int.mul_zero,Int.zero_add]
 have k1:=Agj (Acv hb h1)
 have k2:=Agj (Acv hc h2)
 have k3:=Agj (Acv hd h3)
 have e:KK=4611686018427387904:=rfl
 rw [e] at k1 k2 k3
 have w0:=Qp (aft v a)
 have w1:=Qp (aft v b)
 have w2:=Qp (aft v c)
 have w3:=Qp (aft v d)
 rw [e] at w0 w1 w2 w3
 rw [e]
 have c1:=Mh (hv.ok b hb) (hv.ok c hc) (hv.ok d hd)
 have c2:=Mh (hv.ok c hc) (hv.ok a ha) (hv.ok d hd)
 have c3:=Mh (hv.ok a ha) (hv.ok b hb) (hv.ok d hd)
 have c4:=Mh (hv.ok a ha) (hv.ok b hb) (hv.ok c hc)
 generalize (4611686018427387904:Int) ^ aft v a=wa at *
 generalize (4611686018427387904:Int) ^ aft v b=wb at *
 generalize (4611686018427387904:Int) ^ aft v c=wc at *
 generalize (4611686018427387904:Int) ^ aft v d=wd at *
 have m2:=Oo (w:=wb) (C:=576460752303423488) (by omega) (Int.le_refl _) (by omega) c2.1 c2.2
 have m3:=Oo (w:=wc) (C:=576460752303423488) (by omega) (Int.le_refl _) (by omega) c3.1 c3.2
 have m4:=Oo (w:=wd) (C:=576460752303423488) (by omega) (Int.le_refl _) (by omega) c4.1 c4.2
 unfold Dt
 constructor
 ·intro hp
  have:=Int.mul_le_mul_of_nonneg_left (show 1≤crs (plV v b) (plV v c) (plV v d) by omega) (show 0≤wa by omega)
  omega
 ·intro hp
  have:=Int.mul_le_mul_of_nonneg_left (show crs (plV v b) (plV v c) (plV v d)≤-1 by omega) (show 0≤wa by omega)
  omega
/-- .. where d is the first. -/
theorem Afe (h0:inC (plV v a) (plV v b) (plV v c) (plV v d)=0) (h1:befP (plV v d) (plV v a)) (h2:befP (plV v d) (plV v b)) (h3:befP (plV v d) (plV v c)) (hp:0 < crs (plV v a) (plV v b) (plV v c)):DH (plV v) (hV v) a b c d < 0:=by
 rw [Abw,h0,Int.mul_zero,Int.zero_add]
 have k1:=Agj (Acv ha h1)
 have k2:=Agj (Acv hb h2)
 have k3:=Agj (Acv hc h3)
 have e:KK=4611686018427387904:=rfl
 rw [e] at k1 k2 k3
 have w0:=Qp (aft v a)
 have w1:=Qp (aft v b)
 have w2:=Qp (aft v c)
 have w3:=Qp (aft v d)
 rw [e] at w0 w1 w2 w3
 rw [e]
 have c1:=Mh (hv.ok b hb) (hv.ok c hc) (hv.ok d hd)
 have c2:=Mh (hv.ok c hc) (hv.ok a ha) (hv.ok d hd)
 have c3:=Mh (hv.ok a ha) (hv.ok b hb) (hv.ok d hd)
 generalize (4611686018427387904:Int) ^ aft v a=wa at *
 generalize (4611686018427387904:Int) ^ aft v b=wb at *
 generalize (4611686018427387904:Int) ^ aft v c=wc at *
 generalize (4611686018427387904:Int) ^ aft v d=wd at *
 have m1:=Oo (w:=wa) (C:=576460752303423488) (by omega) (Int.le_refl _) (by omega) c1.1 c1.2
 have m2:=Oo (w:=wb) (C:=576460752303423488) (by omega) (Int.le_refl _) (by omega) c2.1 c2.2
 have m3:=Oo (w:=wc) (C:=576460752303423488) (by omega) (Int.le_refl _) (by omega) c3.1 c3.2
 unfold Dt
 have:=Int.mul_le_mul_of_nonneg_left (show 1≤crs (plV v a) (plV v b) (plV v c) by omega) (show 0≤wd by omega)
 omega
end
theorem Yo {v:List Ae} (hv:Gb v):Acs (plV v) (hV v) (inN v.length):=by
 intro a b c d ha hb hc hd h1 h2 h3
 rcases h3 with h3 | h3
 ·exact Ahi hv ha hb hc hd (Ae8 h1 h2 h3)
 ·exact Ahi hv ha hb hc hd (Ya h1 h2 h3)
theorem Adu (a b c d:Ad):inC b c a d=inC a b c d:=by unfold inC lft crs;grind
theorem Ik {p q r:Ad} (h1:befP p q) (h2:befP q r):befP p r:=by unfold befP at *;omega
theorem Rb {p q:Ad} (h1:befP p q) (h2:befP q p):False:=by unfold befP at *;omega
theorem Le {p q:Ad} (h:¬ Dk p q):befP p q∨befP q p:=by unfold befP Dk at *;omega
theorem Aft {a b c d:Ad} (n1:¬ Dk a b) (n2:¬ Dk a c) (n3:¬ Dk a d) (n4:¬ Dk b c) (n5:¬ Dk b d) (n6:¬ Dk c d) :
  (befP a b∧befP a c∧befP a d)∨(befP b c∧befP b a∧befP b d)∨(befP c a∧befP c b∧befP c d)∨(befP d a∧befP d b∧befP d c):=by
 rcases Le n1 with h1 | h1
 ·rcases Le n6 with h2 | h2
  ·rcases Le n2 with h3 | h3
   ·exact .inl ⟨h1,h3,Ik h3 h2⟩
   ·exact .inr (.inr (.inl ⟨h3,Ik h3 h1,h2⟩))
  ·rcases Le n3 with h3 | h3
   ·exact .inl ⟨h1,Ik h3 h2,h3⟩
   ·exact .inr (.inr (.inr ⟨h3,Ik h3 h1,h2⟩))
 ·rcases Le n6 with h2 | h2
  ·rcases Le n4 with h3 | h3
   ·exact .inr (.inl ⟨h3,h1,Ik h3 h2⟩)
   ·exact .inr (.inr (.inl ⟨Ik h3 h1,h3,h2⟩))
  ·rcases Le n5 with h3 | h3
   ·exact .inr (.inl ⟨Ik h3 h2,h1,h3⟩)
   ·exact .inr (.inr (.inr ⟨Ik h3 h1,h3,h2⟩))
/-- The legal sides are those over which the surface is convex. -/
theorem Agk {v:List Ae} (hv:Gb v) {a b c d:Int} (ha:inN v.length a) (hb:inN v.length b) (hc:inN v.length c) (hd:inN v.length d) (h1:0 < crs (plV v a) (plV v b) (plV v c)) (h2:crs (plV v a) (plV v b) (plV v d) < 0) :
  (legP (plV v a) (plV v b) (plV v c) (plV v d)↔DH (plV v) (hV v) a b c d < 0)∧DH (plV v) (hV v) a b c d≠0:=by
 have hs:Int.sign (crs (plV v a) (plV v b) (plV v c))=1:=Int.sign_eq_one_of_pos h1
 have n1:=Wi (P:=plV v) (a:=a) (b:=b) (c:=c) (by omega)
 have n2:=Wi (P:=plV v) (a:=a) (b:=b) (c:=d) (by omega)
 have ncd:c≠d:=fun e=>by subst e;omega
 have nab:¬ Dk (plV v a) (plV v b):=fun e=>n1.1 (hv.dist a b ha hb e)
 have nac:¬ Dk (plV v a) (plV v c):=fun e=>n1.2.2 (hv.dist a c ha hc e).symm
 have nad:¬ Dk (plV v a) (plV v d):=fun e=>n2.2.2 (hv.dist a d ha hd e).symm
 have nbc:¬ Dk (plV v b) (plV v c):=fun e=>n1.2.1 (hv.dist b c hb hc e)
 have nbd:¬ Dk (plV v b) (plV v d):=fun e=>n2.2.1 (hv.dist b d hb hd e)
 have ncd':¬ Dk (plV v c) (plV v d):=fun e=>ncd (hv.dist c d hc hd e)
 unfold legP
 rw [hs,Int.one_mul]
 rcases Int.lt_trichotomy (inC (plV v a) (plV v b) (plV v c) (plV v d)) 0 with g | g | g
 ·have:=Ahi hv ha hb hc hd g
  rw [Int.sign_eq_neg_one_of_neg g]
  exact ⟨⟨fun _=>this,fun _=>.inl (by omega)⟩,by omega⟩
 ·rw [g,Int.sign_zero]
  have k1:0 < crs (plV v b) (plV v c) (plV v d):=by
   rcases Int.lt_or_le 0 (crs (plV v b) (plV v c) (plV v d)) with k | k
   ·exact k
   ·have:=Ae8 h1 h2 k;omega
  have k2:0 < crs (plV v c) (plV v a) (plV v d):=by
   rcases Int.lt_or_le 0 (crs (plV v c) (plV v a) (plV v d)) with k | k
   ·exact k
   ·have:=Ya h1 h2 k;omega
  -- which of the four is the first
  have fa:=Tn hv ha hb hc hd g
  have fd:=Afe hv ha hb hc hd g
  have fb:=Tn hv hb hc ha hd (by rw [Adu];exact g)
  have fc:=Tn hv hc ha hb hd (by rw [← Adu];exact g)
  rw [Aao] at fb
  rw [← Aao] at fc
  have key:=Aft nab nac nad nbc nbd ncd'
  rcases key with ⟨b1,b2,b3⟩ | ⟨b1,b2,b3⟩ | ⟨b1,b2,b3⟩ | ⟨b1,b2,b3⟩
  ·have:=(fa b1 b2 b3).1 k1
   refine ⟨⟨fun h=>?_,fun h=>by omega⟩,by omega⟩
   rcases h with h | ⟨_,⟨h,_⟩ | ⟨h,_⟩⟩
   ·omega
   ·exact (Rb b2 h).elim
   ·exact (Rb b3 h).elim
  ·have:=(fb b1 b2 b3).1 k2
   refine ⟨⟨fun h=>?_,fun h=>by omega⟩,by omega⟩
   rcases h with h | ⟨_,⟨_,h⟩ | ⟨_,h⟩⟩
   ·omega
   ·exact (Rb b1 h).elim
   ·exact (Rb b3 h).elim
  ·have:=(fc b1 b2 b3).2 h2
   refine ⟨⟨fun h=>this,fun h=>.inr ⟨rfl,.inl ⟨b1,b2⟩⟩⟩,by omega⟩
  ·have:=fd b1 b2 b3 h1
   refine ⟨⟨fun h=>this,fun h=>.inr ⟨rfl,.inr ⟨b1,b2⟩⟩⟩,by omega⟩
 ·have:=Atx hv ha hb hc hd g
  rw [Int.sign_eq_one_of_pos g]
  refine ⟨⟨fun h=>?_,fun h=>by omega⟩,by omega⟩
  omega
end Go.Proofs.YtbkobeeileemjaaGreat
/- One more place, behind all that are there. -/
namespace Go.Proofs.YtbkobeeileemjaaGreat
open Go Go.RowKit
variable {P:Int→Ad} {V S:Int→Prop} {ap ap':Ap} {R:Int→Int→Prop} {p:Int}
/-- A side of the rim that the place sees. -/
def Vis (P:Int→Ad) (R:Int→Int→Prop) (p x y:Int):Prop:=R x y∧0 < crs (P x) (P y) (P p)
def New (P:Int→Ad) (R:Int→Int→Prop) (p i j k:Int):Prop:=(Vis P R p i j∧k=p)∨(Vis P R p k i∧j=p)∨(Vis P R p j k∧i=p)
structure Adds (P:Int→Ad) (V S:Int→Prop) (ap:Ap) (R:Int→Int→Prop) (p:Int):Prop where
 tri:Tri P V ap
 used:∀ i j k,ap i j=some k→S i
 sv:∀ i,S i→V i
 vp:V p
 np:¬ S p
 before:∀ i,S i→befP (P i) (P p)
 behind:∀ i,V i→¬ S i→i≠p→befP (P p) (P i)
 r1:∀ x y,R x y→S x∧S y∧x≠y∧∀ d,S d→crs (P x) (P y) (P d)≤0
 r2:∀ x y,Vis P R p x y→∀ d,S d→d≠x→d≠y→crs (P x) (P y) (P d)=0→crs (P y) (P p) (P d) < 0∨crs (P p) (P x) (P d) < 0
 r3:∀ x y,Vis P R p x y→((∃ z,Vis P R p y z)∨∀ d,S d→0≤crs (P y) (P p) (P d))∧((∃ w,Vis P R p w x)∨∀ d,S d→0≤crs (P p) (P x) (P d))
 r4:∀ x y,R x y→ap x y=none
 r5:∀ x y,Vis P R p x y→ap y x≠none∨((∀ i j,ap i j=none)∧∀ d,S d→0≤crs (P x) (P y) (P d))
 r6:∀ i j k,ap i j=some k→ap j i=none→R j i
theorem New.rot {i j k:Int} (h:New P R p i j k):New P R p j k i:=by
 rcases h with h | h | h
 ·exact .inr (.inl h)
 ·exact .inr (.inr h)
 ·exact .inl h
/-- A place behind the last corner of a triangle does not lie in it. -/
theorem Aq8 {x y p d:Ad} (h1:befP x p) (h2:befP y p) (h3:befP p d) (h4:0 < crs x y p):crs x y d < 0∨crs y p d < 0∨crs p x d < 0:=by
 by_cases c1:crs x y d < 0
 ·exact .inl c1
 by_cases c2:crs y p d < 0
 ·exact .inr (.inl c2)
 by_cases c3:crs p x d < 0
 ·exact .inr (.inr c3)
 exfalso
 have e1:crs y p d*(d.X-x.X)+crs p x d*(d.X-y.X)+crs x y d*(d.X-p.X)=0:=by unfold crs;grind
 have e2:crs y p d*(d.Y-x.Y)+crs p x d*(d.Y-y.Y)+crs x y d*(d.Y-p.Y)=0:=by unfold crs;grind
 have e3:=Vi x y p d
 have nn:∀ {u w:Int},0≤u→0≤w→0≤u*w:=fun h h'=>Int.mul_nonneg h h'
 have hx:x.X≤d.X∧y.X≤d.X∧p.X≤d.X:=by unfold befP at h1 h2 h3;omega
 have m1:=nn (show 0≤crs y p d by omega) (show 0≤d.X-x.X by omega)
 have m2:=nn (show 0≤crs p x d by omega) (show 0≤d.X-y.X by omega)
 have m3:=nn (show 0≤crs x y d by omega) (show 0≤d.X-p.X by omega)
 have z1:crs y p d*(d.X-x.X)=0:=by omega
 have z2:crs p x d*(d.X-y.X)=0:=by omega
 have z3:crs x y d*(d.X-p.X)=0:=by omega
 -- where a weight is not 0,the corner is on the same vertical line,and lies Tm
 have key:∀ (w:Int) (q:Ad),0≤w→befP q d→w*(d.X-q.X)=0→0≤w*(d.Y-q.Y)∧(w*(d.Y-q.Y)=0→w=0):=by
  intro w q hw hq hz
  by_cases hw0:w=0
  ·subst hw0;simp
  ·rcases Int.mul_eq_zero.1 hz with h | h
   ·exact absurd h hw0
   ·have:0 < d.Y-q.Y:=by unfold befP at hq;omega
    have:=Int.mul_pos (show 0 < w by omega) this
    exact ⟨by omega,fun h=>by omega⟩
 obtain ⟨k1,k2⟩:=key _ x (by omega) (Ik h1 h3) z1
 obtain ⟨k3,k4⟩:=key _ y (by omega) (Ik h2 h3) z2
 obtain ⟨k5,k6⟩:=key _ p (by omega) h3 z3
 have q1:=k2 (by omega)
 have q2:=k4 (by omega)
 have q3:=k6 (by omega)
 omega
section
variable (h:Adds P V S ap R p)
include h
theorem Adds.uniq {x x' y:Int} (h1:Vis P R p x y) (h2:Vis P R p x' y):x=x':=by
 by_cases e:x=x'
 ·exact e
 exfalso
 obtain ⟨s1,s2,n1,f1⟩:=h.r1 x y h1.1
 obtain ⟨s3,_,n2,f2⟩:=h.r1 x' y h2.1
 have g1:=f1 x' s3
 have g2:=f2 x s1
 have e1:crs (P x') (P y) (P x) = -crs (P x) (P y) (P x'):=by unfold crs;grind
 have z:crs (P x) (P y) (P x')=0:=by omega
 have a1:=h.r2 x y h1 x' s3 (fun q=>e q.symm) n2 z
 have a2:=h.r2 x' y h2 x s1 e n1 (by omega)
 have v1:=h1.2
 have v2:=h2.2
 have e2:crs (P y) (P p) (P x)=crs (P x) (P y) (P p):=Co _ _ _
 have e3:crs (P y) (P p) (P x')=crs (P x') (P y) (P p):=Co _ _ _
 have e4:crs (P p) (P x') (P x) = -crs (P p) (P x) (P x'):=Cq _ _ _
 omega
theorem Adds.uniq2 {x y y':Int} (h1:Vis P R p x y) (h2:Vis P R p x y'):y=y':=by
 by_cases e:y=y'
 ·exact e
 exfalso
 obtain ⟨s1,s2,n1,f1⟩:=h.r1 x y h1.1
 obtain ⟨_,s3,n2,f2⟩:=h.r1 x y' h2.1
 have g1:=f1 y' s3
 have g2:=f2 y s2
 have e1:crs (P x) (P y') (P y) = -crs (P x) (P y) (P y'):=Cq _ _ _
 have z:crs (P x) (P y) (P y')=0:=by omega
 have a1:=h.r2 x y h1 y' s3 n2.symm (fun q=>e q.symm) z
 have a2:=h.r2 x y' h2 y s2 n1.symm e (by omega)
 have v1:=h1.2
 have v2:=h2.2
 have e2:crs (P p) (P x) (P y)=crs (P x) (P y) (P p):=by rw [← Co,← Co]
 have e3:crs (P p) (P x) (P y')=crs (P x) (P y') (P p):=by rw [← Co,← Co]
 have e4:crs (P y') (P p) (P y) = -crs (P y) (P p) (P y'):=by unfold crs;grind
 omega
/-- The new triangles have no place inside. -/
theorem Adds.emp {x y:Int} (hv:Vis P R p x y) (d:Int) (hd:V d) (n1:d≠x) (n2:d≠y) (n3:d≠p):crs (P x) (P y) (P d) < 0∨crs (P y) (P p) (P d) < 0∨crs (P p) (P x) (P d) < 0:=by
 obtain ⟨s1,s2,_,f1⟩:=h.r1 x y hv.1
 by_cases hs:S d
 ·have:=f1 d hs
  by_cases c:crs (P x) (P y) (P d)=0
  ·exact .inr (h.r2 x y hv d hs n1 n2 c)
  ·exact .inl (by omega)
 ·exact Aq8 (h.before x s1) (h.before y s2) (h.behind d hd hs n3) hv.2
theorem Adds.news {i j k:Int} (hn:New P R p i j k):(S i∨i=p)∧(S j∨j=p)∧(S k∨k=p):=by
 rcases hn with ⟨hv,rfl⟩ | ⟨hv,rfl⟩ | ⟨hv,rfl⟩
 ·obtain ⟨s1,s2,_⟩:=h.r1 _ _ hv.1
  exact ⟨.inl s1,.inl s2,.inr rfl⟩
 ·obtain ⟨s1,s2,_⟩:=h.r1 _ _ hv.1
  exact ⟨.inl s2,.inr rfl,.inl s1⟩
 ·obtain ⟨s1,s2,_⟩:=h.r1 _ _ hv.1
  exact ⟨.inr rfl,.inl s1,.inl s2⟩
theorem Adds.old {i j k:Int} (hk:ap i j=some k):S i∧S j∧S k:=⟨h.used _ _ _ hk,h.used _ _ _ (h.tri.rot _ _ _ hk),h.used _ _ _ (h.tri.rot2 hk)⟩
variable (hA:∀ i j k,ap' i j=some k↔ap i j=some k∨New P R p i j k)
include hA
/-- Who is a neighbour now. -/
theorem Adds.nbrs {s m:Int} (hm:ap' s m≠none∨ap' m s≠none):(S s∧S m∧((ap s m≠none∨ap m s≠none)∨∀ i j,ap i j=none))∨(m=p∧S s∧((∃ y,Vis P R p s y)∨∃ x,Vis P R p x s))∨(s=p∧S m∧((∃ y,Vis P R p m y)∨∃ x,Vis P R p x m)):=by
 have key:∀ a b,ap' a b≠none→(S a∧S b∧((ap a b≠none∨ap b a≠none)∨∀ i j,ap i j=none))∨(b=p∧S a∧((∃ y,Vis P R p a y)∨∃ x,Vis P R p x a))∨(a=p∧S b∧((∃ y,Vis P R p b y)∨∃ x,Vis P R p x b)):=by
  intro a b hab
  obtain ⟨c,hc⟩:=Option.ne_none_iff_exists'.1 hab
  rcases (hA a b c).1 hc with g | ⟨hv,rfl⟩ | ⟨hv,rfl⟩ | ⟨hv,rfl⟩
  ·exact .inl ⟨(h.old g).1,(h.old g).2.1,.inl (.inl (by rw [g];simp))⟩
  ·obtain ⟨s1,s2,_⟩:=h.r1 _ _ hv.1
   rcases h.r5 _ _ hv with g | ⟨g,_⟩
   ·exact .inl ⟨s1,s2,.inl (.inr g)⟩
   ·exact .inl ⟨s1,s2,.inr g⟩
  ·exact .inr (.inl ⟨rfl,(h.r1 _ _ hv.1).2.1,.inr ⟨_,hv⟩⟩)
  ·exact .inr (.inr ⟨rfl,(h.r1 _ _ hv.1).1,.inl ⟨_,hv⟩⟩)
 rcases hm with hm | hm
 ·exact key s m hm
 ·rcases key m s hm with ⟨g1,g2,g3 | g3⟩ | ⟨g1,g2,g3⟩ | ⟨g1,g2,g3⟩
  ·exact .inl ⟨g2,g1,.inl g3.symm⟩
  ·exact .inl ⟨g2,g1,.inr g3⟩
  ·exact .inr (.inr ⟨g1,g2,g3⟩)
  ·exact .inr (.inl ⟨g1,g2,g3⟩)
theorem Adds.tri':Tri P V ap':=by
 have rot':∀ i j k,ap' i j=some k→ap' j k=some i:=fun i j k hk=>by
  rcases (hA i j k).1 hk with g | g
  ·exact (hA _ _ _).2 (.inl (h.tri.rot _ _ _ g))
  ·exact (hA _ _ _).2 (.inr g.rot)
 have e1:∀ x y:Int,crs (P y) (P p) (P x)=crs (P x) (P y) (P p):=fun x y=>Co _ _ _
 have e2:∀ x y:Int,crs (P p) (P x) (P y)=crs (P x) (P y) (P p):=fun x y=>by rw [← Co,← Co]
 refine ⟨rot',fun i j k hk=>?_,fun i j k hk d hd n1 n2 n3=>?_,fun s a b m hs hm=>?_⟩
 ·rcases (hA i j k).1 hk with g | ⟨hv,rfl⟩ | ⟨hv,rfl⟩ | ⟨hv,rfl⟩
  ·exact h.tri.ccw _ _ _ g
  ·obtain ⟨s1,s2,_⟩:=h.r1 _ _ hv.1
   exact ⟨h.sv _ s1,h.sv _ s2,h.vp,hv.2⟩
  ·obtain ⟨s1,s2,_⟩:=h.r1 _ _ hv.1
   exact ⟨h.sv _ s2,h.vp,h.sv _ s1,by rw [e1];exact hv.2⟩
  ·obtain ⟨s1,s2,_⟩:=h.r1 _ _ hv.1
   exact ⟨h.vp,h.sv _ s1,h.sv _ s2,by rw [e2];exact hv.2⟩
 ·rcases (hA i j k).1 hk with g | ⟨hv,rfl⟩ | ⟨hv,rfl⟩ | ⟨hv,rfl⟩
  ·exact h.tri.emp _ _ _ g d hd n1 n2 n3
  ·exact h.emp hv d hd n1 n2 n3
  ·rcases h.emp hv d hd n3 n1 n2 with g | g | g <;> simp [g]
  ·rcases h.emp hv d hd n2 n3 n1 with g | g | g <;> simp [g]
 ·rintro ⟨g1,g2⟩
  have hn:=h.nbrs hA hm
  rcases (hA s a b).1 hs with g | ⟨hv,rfl⟩ | ⟨hv,rfl⟩ | ⟨hv,rfl⟩
  ·-- an old triangle
   obtain ⟨ss,sa,sb⟩:=h.old g
   obtain ⟨_,_,_,cab⟩:=h.tri.ccw _ _ _ g
   rcases hn with ⟨_,_,hn | hn⟩ | ⟨rfl,_,hn⟩ | ⟨rfl,_,_⟩
   ·exact h.tri.cone s a b m g hn ⟨g1,g2⟩
   ·rw [hn] at g;cases g
   ·rcases hn with ⟨y,hv⟩ | ⟨x,hv⟩
    ·obtain ⟨_,_,_,f⟩:=h.r1 _ _ hv.1
     have h1:=f a sa
     have h2:=f b sb
     have h3:=hv.2
     have hp:=Rt (P s) (P a) (P b) (P y) (P m)
     rw [Cq (P s) (P m) (P b),Cq (P s) (P y) (P a),Cq (P s) (P y) (P b)] at hp
     have t1:=Int.mul_pos cab h3
     have t2:=Int.mul_nonneg (show 0≤-crs (P s) (P y) (P a) by omega) (Int.le_of_lt g2)
     have t3:=Int.mul_nonneg (Int.le_of_lt g1) (show 0≤-crs (P s) (P y) (P b) by omega)
     rw [Int.mul_neg] at hp
     omega
    ·obtain ⟨_,_,_,f⟩:=h.r1 _ _ hv.1
     have h1:=f a sa
     have h2:=f b sb
     have h3:=hv.2
     have q:∀ d,crs (P x) (P s) (P d)=crs (P s) (P d) (P x):=fun d=>(Co _ _ _).symm
     rw [q] at h1 h2 h3
     have hp:=Rt (P s) (P a) (P b) (P m) (P x)
     rw [Cq (P s) (P m) (P b)] at hp
     have t1:=Int.mul_pos cab h3
     have t2:=Int.mul_nonneg (Int.le_of_lt g1) (show 0≤-crs (P s) (P b) (P x) by omega)
     have t3:=Int.mul_nonneg (show 0≤-crs (P s) (P a) (P x) by omega) (Int.le_of_lt g2)
     have t4:crs (P s) (P a) (P x) * -crs (P s) (P m) (P b) = -crs (P s) (P a) (P x)*crs (P s) (P m) (P b):=by grind
     have t5:crs (P s) (P a) (P m) * -crs (P s) (P b) (P x) = -(crs (P s) (P a) (P m)*crs (P s) (P b) (P x)):=Int.mul_neg _ _
     omega
   ·exact h.np ss
  ·-- at x,from y to the new place
   obtain ⟨s1,s2,_,f⟩:=h.r1 _ _ hv.1
   rcases hn with ⟨_,sm,_⟩ | ⟨rfl,_,_⟩ | ⟨rfl,_,_⟩
   ·have:=f m sm;omega
   ·rw [De] at g2;omega
   ·exact h.np s1
  ·-- at y,from the new place to x
   obtain ⟨s1,s2,_,f⟩:=h.r1 _ _ hv.1
   rcases hn with ⟨_,sm,_⟩ | ⟨rfl,_,_⟩ | ⟨rfl,_,_⟩
   ·have:=f m sm
    rw [Co] at g2
    omega
   ·rw [De] at g1;omega
   ·exact h.np s2
  ·-- at the new place
   obtain ⟨s1,s2,_,f⟩:=h.r1 _ _ hv.1
   rcases hn with ⟨ss,_,_⟩ | ⟨rfl,ss,_⟩ | ⟨_,sm,hn⟩
   ·exact h.np ss
   ·exact h.np ss
   ·obtain ⟨u,w,hu,hm0⟩:∃ u w:Int,Vis P R s u w∧crs (P u) (P w) (P m)=0:=by
     rcases hn with ⟨y,hy⟩ | ⟨x,hx⟩
     ·exact ⟨m,y,hy,Fh _ _⟩
     ·exact ⟨x,m,hx,De _ _⟩
    obtain ⟨_,_,_,fu⟩:=h.r1 _ _ hu.1
    have q1:=fu a s1
    have q2:=fu b s2
    have q3:=hu.2
    have q4:=f m sm
    have hi:=Ahe (P s) (P a) (P b) (P u) (P w) (P m)
    rw [hm0,Int.mul_zero] at hi
    have r1:crs (P b) (P s) (P m)=crs (P s) (P m) (P b):=by rw [← Co]
    rw [r1] at hi
    have t1:=Int.mul_nonneg (show 0≤-crs (P a) (P b) (P m) by omega) (Int.le_of_lt q3)
    have t2:=Int.mul_nonneg (Int.le_of_lt g2) (show 0≤-crs (P u) (P w) (P a) by omega)
    have t3:=Int.mul_nonneg (Int.le_of_lt g1) (show 0≤-crs (P u) (P w) (P b) by omega)
    rw [Int.neg_mul] at t1
    rw [Int.mul_neg] at t2 t3
    have z:crs (P a) (P b) (P m)*crs (P u) (P w) (P s)=0:=by omega
    have z2:crs (P a) (P b) (P m)=0:=by
     rcases Int.mul_eq_zero.1 z with g | g
     ·exact g
     ·omega
    have hne:m≠a∧m≠b:=by
     refine ⟨fun e=>?_,fun e=>?_⟩
     ·subst e;rw [De] at g1;omega
     ·subst e;rw [De] at g2;omega
    rcases h.r2 a b hv m sm hne.1 hne.2 z2 with g | g
    ·rw [r1] at g;omega
    ·omega
theorem Adds.cov' (hc:Cov P S ap):Cov P (fun i=>S i∨i=p) ap':=by
 intro i j k hk hn d hd
 have hn':ap j i=none∧∀ x,¬ New P R p j i x:=by
  refine ⟨?_,fun x hx=>?_⟩
  ·rcases e:ap j i with _ | x
   ·rfl
   ·rw [(hA j i x).2 (.inl e)] at hn;cases hn
  ·rw [(hA j i x).2 (.inr hx)] at hn;cases hn
 rcases (hA i j k).1 hk with g | ⟨hv,rfl⟩ | ⟨hv,rfl⟩ | ⟨hv,rfl⟩
 ·rcases hd with hd | rfl
  ·exact hc _ _ _ g hn'.1 d hd
  ·have hr:=h.r6 _ _ _ g hn'.1
   have:¬ 0 < crs (P j) (P i) (P d):=fun hp=>hn'.2 d (.inl ⟨⟨hr,hp⟩,rfl⟩)
   rw [Df] at this
   omega
 ·rcases hd with hd | rfl
  ·rcases h.r5 _ _ hv with q | ⟨_,q⟩
   ·exact absurd hn'.1 q
   ·exact q d hd
  ·exact Int.le_of_lt hv.2
 ·rcases hd with hd | rfl
  ·rcases (h.r3 _ _ hv).1 with ⟨z,hz⟩ | q
   ·exact absurd (.inr (.inr ⟨hz,rfl⟩)) (hn'.2 z)
   ·exact q d hd
  ·rw [De];exact Int.le_refl _
 ·rcases hd with hd | rfl
  ·rcases (h.r3 _ _ hv).2 with ⟨z,hz⟩ | q
   ·exact absurd (.inr (.inl ⟨hz,rfl⟩)) (hn'.2 z)
   ·exact q d hd
  ·rw [Fh];exact Int.le_refl _
theorem Adds.used':∀ i j k,ap' i j=some k→S i∨i=p:=by
 intro i j k hk
 rcases (hA i j k).1 hk with g | g
 ·exact .inl (h.used _ _ _ g)
 ·exact (h.news g).1
end
end Go.Proofs.YtbkobeeileemjaaGreat
/- The rim of a triangulation, and a chain of places on one line. -/
namespace Go.Proofs.YtbkobeeileemjaaGreat
open Go Go.RowKit
theorem Di {α:Type} [DecidableEq α]:∀ {l m:List α},l.Nodup→(∀ x∈l,x∈m)→l.length≤m.length
 | [],_,_,_=>Nat.zero_le _
 | x::r,m,hd,hs=>by
  rw [List.nodup_cons] at hd
  have hx:=hs x List.mem_cons_self
  have:=Di (l:=r) (m:=m.erase x) hd.2 fun y hy=>(List.mem_erase_of_ne (fun e=>hd.1 (by rw [← e];exact hy))).2 (hs y (List.mem_cons_of_mem _ hy))
  rw [List.length_erase_of_mem hx] at this
  have:0 < m.length:=List.length_pos_of_mem hx
  simp only [List.length_cons]
  omega
theorem Tp {n:Nat}:(inds n).Nodup:=by
 unfold inds List.Nodup
 rw [List.pairwise_map]
 exact List.nodup_range.imp fun h e=>h (by omega)
variable {P:Int→Ad} {S:Int→Prop} {ap:Ap} {p:Int} {n:Nat}
/-- The sides, seen from without, that have no triangle on the outer side. -/
def Rim (ap:Ap) (x y:Int):Prop:=(∃ k,ap y x=some k)∧ap x y=none
def outs (ap:Ap) (n:Nat) (s:Int):List Int:=(inds n).filter fun m=>(ap s m).isSome
def ins (ap:Ap) (n:Nat) (s:Int):List Int:=(inds n).filter fun m=>(ap m s).isSome
theorem Tq {V:Int→Prop} (h:Tri P V ap) (hV:∀ i,V i↔inN n i) {s m:Int}:m∈outs ap n s↔∃ k,ap s m=some k:=by
 unfold outs
 rw [List.mem_filter,Ru,Option.isSome_iff_exists]
 exact ⟨fun h=>h.2,fun ⟨k,hk⟩=>⟨(hV _).1 (h.ccw _ _ _ hk).2.1,k,hk⟩⟩
theorem Wl {V:Int→Prop} (h:Tri P V ap) (hV:∀ i,V i↔inN n i) {s m:Int}:m∈ins ap n s↔∃ k,ap m s=some k:=by
 unfold ins
 rw [List.mem_filter,Ru,Option.isSome_iff_exists]
 exact ⟨fun h=>h.2,fun ⟨k,hk⟩=>⟨(hV _).1 (h.ccw _ _ _ hk).1,k,hk⟩⟩
theorem Wm {α β:Type} {f:α→β}:∀ {l:List α},(∀ x∈l,∀ y∈l,f x=f y→x=y)→l.Nodup→(l.map f).Nodup
 | [],_,_=>List.Pairwise.nil
 | a::r,hf,hd=>by
  rw [List.nodup_cons] at hd
  rw [List.map_cons,List.nodup_cons]
  refine ⟨fun hm=>?_,Wm (fun x hx y hy=>hf x (List.mem_cons_of_mem _ hx) y (List.mem_cons_of_mem _ hy)) hd.2⟩
  obtain ⟨b,hb,e⟩:=List.mem_map.1 hm
  exact hd.1 (by rw [← hf b (List.mem_cons_of_mem _ hb) a List.mem_cons_self e];exact hb)
theorem deg {V:Int→Prop} (h:Tri P V ap) (hV:∀ i,V i↔inN n i) (s:Int):(ins ap n s).length=(outs ap n s).length:=by
 apply Nat.le_antisymm
 ·have h1:((ins ap n s).map fun m=>(ap m s).getD 0).Nodup:=Wm (fun x hx y hy e=>by
   obtain ⟨k,hk⟩:=(Wl h hV).1 hx
   obtain ⟨k',hk'⟩:=(Wl h hV).1 hy
   rw [hk,hk'] at e
   simp only [Option.getD_some] at e
   subst e
   have e1:=h.rot _ _ _ hk
   have e2:=h.rot _ _ _ hk'
   rw [e1] at e2
   exact Option.some.inj e2) (Tp.filter _)
  have:=Di (m:=outs ap n s) h1 fun w hw=>by
   obtain ⟨m,hm,rfl⟩:=List.mem_map.1 hw
   obtain ⟨k,hk⟩:=(Wl h hV).1 hm
   rw [hk]
   exact (Tq h hV).2 ⟨m,h.rot _ _ _ hk⟩
  rw [List.length_map] at this
  exact this
 ·have h1:((outs ap n s).map fun m=>(ap s m).getD 0).Nodup:=Wm (fun x hx y hy e=>by
   obtain ⟨k,hk⟩:=(Tq h hV).1 hx
   obtain ⟨k',hk'⟩:=(Tq h hV).1 hy
   rw [hk,hk'] at e
   simp only [Option.getD_some] at e
   subst e
   have e1:=h.rot2 hk
   have e2:=h.rot2 hk'
   rw [e1] at e2
   exact Option.some.inj e2) (Tp.filter _)
  have:=Di (m:=ins ap n s) h1 fun w hw=>by
   obtain ⟨m,hm,rfl⟩:=List.mem_map.1 hw
   obtain ⟨k,hk⟩:=(Tq h hV).1 hm
   rw [hk]
   exact (Wl h hV).2 ⟨m,h.rot2 hk⟩
  rw [List.length_map] at this
  exact this
/-- The rim goes on. -/
theorem Apf {V:Int→Prop} (h:Tri P V ap) (hV:∀ i,V i↔inN n i) {x y:Int} (hr:Rim ap x y):∃ z,Rim ap y z:=by
 obtain ⟨⟨k,hk⟩,hn⟩:=hr
 apply Classical.byContradiction
 intro hno
 have hd:=deg h hV y
 have hx:x∈outs ap n y:=(Tq h hV).2 ⟨k,hk⟩
 have:=Di (l:=ins ap n y) (m:=(outs ap n y).erase x) (Tp.filter _) fun z hz=>by
  obtain ⟨w,hw⟩:=(Wl h hV).1 hz
  have hzx:z≠x:=fun e=>by subst e;rw [hw] at hn;cases hn
  rw [List.mem_erase_of_ne hzx,Tq h hV]
  rcases e:ap y z with _ | u
  ·exact absurd ⟨z,⟨w,hw⟩,e⟩ hno
  ·exact ⟨u,rfl⟩
 rw [List.length_erase_of_mem hx] at this
 have:0 < (outs ap n y).length:=List.length_pos_of_mem hx
 omega
theorem Apg {V:Int→Prop} (h:Tri P V ap) (hV:∀ i,V i↔inN n i) {x y:Int} (hr:Rim ap x y):∃ w,Rim ap w x:=by
 obtain ⟨⟨k,hk⟩,hn⟩:=hr
 apply Classical.byContradiction
 intro hno
 have hd:=deg h hV x
 have hx:y∈ins ap n x:=(Wl h hV).2 ⟨k,hk⟩
 have:=Di (l:=outs ap n x) (m:=(ins ap n x).erase y) (Tp.filter _) fun z hz=>by
  obtain ⟨w,hw⟩:=(Tq h hV).1 hz
  have hzx:z≠y:=fun e=>by subst e;rw [hw] at hn;cases hn
  rw [List.mem_erase_of_ne hzx,Wl h hV]
  rcases e:ap z x with _ | u
  ·exact absurd ⟨z,⟨w,hw⟩,e⟩ hno
  ·exact ⟨u,rfl⟩
 rw [List.length_erase_of_mem hx] at this
 have:0 < (ins ap n x).length:=List.length_pos_of_mem hx
 omega
/-- Between a side that the place sees and one that it does not see: all places lie to one side. -/
theorem Aq9 {x y z q d k k':Ad} (h1:crs x y d≤0) (h2:crs y z d≤0) (h3:0 < crs x y q) (h4:crs y z q≤0) (h5:crs x y z≤0) (h6:crs x y k < 0) (h7:crs y z k≤0) (h8:crs y z k' < 0):0≤crs y q d:=by
 have r:∀ u,crs x y u=crs y u x:=fun u=>(Co _ _ _).symm
 rw [r] at h1 h3 h5 h6
 -- seen from y: x=u,z=w
 have hp:=Rt y q d x z
 rw [Cq y z q,Cq y z d,Cq y z x] at hp
 by_cases c:crs y z x=0
 ·exfalso
  have p1:=Rt y x z q k
  rw [Cq y z x,Cq y q x,Cq y k x,c] at p1
  have t1:=Int.mul_nonneg (show 0≤-crs y k x by omega) (show 0≤-crs y z q by omega)
  have t2:=Int.mul_nonneg (Int.le_of_lt h3) (show 0≤-crs y z k by omega)
  have e1:-crs y k x*crs y z q = -(-crs y k x * -crs y z q):=by grind
  have e2:-crs y q x*crs y z k=crs y q x * -crs y z k:=by grind
  have z1:crs y q x * -crs y z k=0:=by omega
  have z2:crs y z k=0:=by
   rcases Int.mul_eq_zero.1 z1 with g | g <;> omega
  have p2:=Rt y z k' x k
  rw [c,z2,Cq y k x] at p2
  have t3:=Int.mul_pos_of_neg_of_neg h8 h6
  have e3:crs y z k' * -crs y k x = -(crs y z k' * crs y k x):=Int.mul_neg _ _
  omega
 ·have c':0 < -crs y z x:=by
   have:crs y z x≤0:=h5
   omega
  have t1:=Int.mul_nonneg (Int.le_of_lt h3) (show 0≤-crs y z d by omega)
  have t2:=Int.mul_nonneg (show 0≤-crs y z q by omega) (show 0≤-crs y d x by omega)
  have e2:-crs y z q * -crs y d x = -(-crs y z q*crs y d x):=by grind
  exact Sp (x:=-crs y z x) (by rw [Int.mul_comm];omega) c'
theorem Aph {x y w q d k k':Ad} (h1:crs x y d≤0) (h2:crs w x d≤0) (h3:0 < crs x y q) (h4:crs w x q≤0) (h5:crs x y w≤0) (h6:crs x y k < 0) (h7:crs w x k≤0) (h8:crs w x k' < 0):0≤crs q x d:=by
 have r:∀ u,crs w x u=crs x u w:=fun u=>(Co _ _ _).symm
 rw [r] at h2 h4 h7 h8
 rw [show crs q x d = -crs x q d from Df _ _ _]
 have hp:=Rt x q d y w
 rw [Cq x y q,Cq x y d] at hp
 by_cases c:crs x y w=0
 ·exfalso
  have p1:=Rt x y w q k
  rw [c,Cq x q w,Cq x k w] at p1
  have t1:=Int.mul_nonneg (Int.le_of_lt h3) (show 0≤-crs x k w by omega)
  have t2:=Int.mul_nonneg (show 0≤-crs x y k by omega) (show 0≤-crs x q w by omega)
  have e2:crs x y k * -crs x q w = -(-crs x y k * -crs x q w):=by grind
  have z1:crs x y q * -crs x k w=0:=by omega
  have z2:crs x k w=0:=by
   rcases Int.mul_eq_zero.1 z1 with g | g <;> omega
  have p2:=Rt x y w k k'
  rw [c,Cq x k w,Cq x k' w,z2] at p2
  have t3:=Int.mul_pos_of_neg_of_neg h6 h8
  have e3:crs x y k * -crs x k' w = -(crs x y k*crs x k' w):=Int.mul_neg _ _
  omega
 ·have c':0 < -crs x y w:=by omega
  have t1:=Int.mul_nonneg (Int.le_of_lt h3) (show 0≤-crs x d w by omega)
  have t2:=Int.mul_nonneg (show 0≤-crs x y d by omega) (show 0≤-crs x q w by omega)
  have e2:-crs x y d * -crs x q w = -(crs x q w * -crs x y d):=by grind
  have e3:-crs x y q*crs x d w=crs x y q * -crs x d w:=by grind
  refine Sp (x:=-crs x y w) ?_ c'
  have e4:-crs x y w * -crs x q d=crs x q d*crs x y w:=by grind
  rw [e4]
  omega
/-- The rim of a triangulation is what one more place is added to. -/
theorem Api (h:Tri P (inN n) ap) (hc:Cov P S ap) (used:∀ i j k,ap i j=some k→S i) (sv:∀ i,S i→inN n i) (vp:inN n p) (np:¬ S p) (before:∀ i,S i→befP (P i) (P p)) (behind:∀ i,inN n i→¬ S i→i≠p→befP (P p) (P i)):Adds P (inN n) S ap (Rim ap) p:=by
 have old:∀ {i j k},ap i j=some k→S i∧S j∧S k:=fun hk=>⟨used _ _ _ hk,used _ _ _ (h.rot _ _ _ hk),used _ _ _ (h.rot2 hk)⟩
 have r1:∀ x y,Rim ap x y→S x∧S y∧x≠y∧∀ d,S d→crs (P x) (P y) (P d)≤0:=by
  rintro x y ⟨⟨k,hk⟩,hn⟩
  refine ⟨(old hk).2.1,(old hk).1,(h.ne hk).1.symm,fun d hd=>?_⟩
  have:=hc _ _ _ hk hn d hd
  rw [Df] at this
  omega
 -- a place on the other side
 have far:∀ x y,Rim ap x y→∃ k,S k∧crs (P x) (P y) (P k) < 0:=by
  rintro x y ⟨⟨k,hk⟩,hn⟩
  refine ⟨k,(old hk).2.2,?_⟩
  have:=(h.ccw _ _ _ hk).2.2.2
  rw [Df] at this
  omega
 refine ⟨h,used,sv,vp,np,before,behind,r1,?_,?_,fun x y hr=>hr.2,?_,fun i j k hk hn=>⟨⟨k,hk⟩,hn⟩⟩
 ·rintro x y ⟨⟨⟨k,hk⟩,hn⟩,hp⟩ d hd n1 n2 z
  have ck:=(h.ccw _ _ _ hk).2.2.2
  have nk:d≠k:=fun e=>by subst e;rw [Df,z] at ck;omega
  have q1:=Rt (P x) (P k) (P d) (P y) (P p)
  have e1:crs (P x) (P d) (P y)=0:=by rw [Cq,z];rfl
  have e2:crs (P x) (P k) (P y)=crs (P y) (P x) (P k):=Co _ _ _
  have e3:crs (P x) (P d) (P p)=crs (P p) (P x) (P d):=Co _ _ _
  rw [e1,e2,e3,Int.mul_zero] at q1
  have q2:=Rt (P y) (P d) (P k) (P x) (P p)
  have f1:crs (P y) (P d) (P x)=0:=by rw [Co,z]
  have f2:crs (P y) (P k) (P x) = -crs (P y) (P x) (P k):=Cq _ _ _
  have f3:crs (P y) (P x) (P p) = -crs (P x) (P y) (P p):=Df _ _ _
  have f4:crs (P y) (P d) (P p) = -crs (P y) (P p) (P d):=Cq _ _ _
  have f5:crs (P y) (P d) (P k)=crs (P k) (P y) (P d):=Co _ _ _
  rw [f1,f2,f3,f4,f5,Int.zero_mul] at q2
  rcases h.emp _ _ _ hk d (sv d hd) n2 n1 nk with g | g | g
  ·rw [Df,z] at g;omega
  ·right
   rcases Int.lt_or_le (crs (P p) (P x) (P d)) 0 with c | c
   ·exact c
   ·have t1:=Int.mul_neg_of_neg_of_pos g hp
    have t2:=Int.mul_nonneg (Int.le_of_lt ck) c
    omega
  ·left
   rcases Int.lt_or_le (crs (P y) (P p) (P d)) 0 with c | c
   ·exact c
   ·have t1:=Int.mul_neg_of_neg_of_pos g hp
    have t2:=Int.mul_nonneg c (Int.le_of_lt ck)
    have e4:crs (P k) (P y) (P d) * -crs (P x) (P y) (P p) = -(crs (P k) (P y) (P d)*crs (P x) (P y) (P p)):=Int.mul_neg _ _
    have e5:-crs (P y) (P p) (P d) * -crs (P y) (P x) (P k)=crs (P y) (P p) (P d)*crs (P y) (P x) (P k):=Int.neg_mul_neg _ _
    omega
 ·rintro x y ⟨hr,hp⟩
  obtain ⟨s1,s2,_,f⟩:=r1 x y hr
  obtain ⟨k,sk,hk⟩:=far x y hr
  constructor
  ·obtain ⟨z,hz⟩:=Apf h (fun _=>Iff.rfl) hr
   obtain ⟨_,sz,_,fz⟩:=r1 y z hz
   obtain ⟨k',sk',hk'⟩:=far y z hz
   by_cases c:0 < crs (P y) (P z) (P p)
   ·exact .inl ⟨z,hz,c⟩
   ·exact .inr fun d hd=>Aq9 (f d hd) (fz d hd) hp (by omega) (f z sz) hk (fz k sk) hk'
  ·obtain ⟨w,hw⟩:=Apg h (fun _=>Iff.rfl) hr
   obtain ⟨sw,_,_,fw⟩:=r1 w x hw
   obtain ⟨k',sk',hk'⟩:=far w x hw
   by_cases c:0 < crs (P w) (P x) (P p)
   ·exact .inl ⟨w,hw,c⟩
   ·exact .inr fun d hd=>Aph (f d hd) (fw d hd) hp (by omega) (f w sw) hk (fw k sk) hk'
 ·rintro x y ⟨⟨⟨k,hk⟩,hn⟩,hp⟩
  exact .inl (by rw [hk];simp)
end Go.Proofs.YtbkobeeileemjaaGreat
/- Places on one line, and one beside it. -/
namespace Go.Proofs.YtbkobeeileemjaaGreat
open Go Go.RowKit
variable {P:Int→Ad} {S:Int→Prop} {ap:Ap} {p:Int} {n:Nat}
theorem Am0 {V:Int→Prop} (h:∀ i j,ap i j=none):Tri P V ap :=
 ⟨fun i j k hk=>(by rw [h] at hk;cases hk),fun i j k hk=>(by rw [h] at hk;cases hk),fun i j k hk=>(by rw [h] at hk;cases hk),fun s a b m hk=>(by rw [h] at hk;cases hk)⟩
def Ai4 (u:Nat→Int) (m:Nat) (x y:Int):Prop:=∃ i,i+1 < m∧x=u i∧y=u (i+1)
theorem Aff {u:Nat→Int} {m:Nat} (he:∀ i j,ap i j=none) (hS:∀ i,S i↔∃ k,k < m∧i=u k) (col:∀ a b c,S a→S b→S c→crs (P a) (P b) (P c)=0) (inc:∀ i,i+1 < m→0 < crs (P (u i)) (P (u (i+1))) (P p))
  (sv:∀ i,S i→inN n i) (vp:inN n p) (np:¬ S p) (before:∀ i,S i→befP (P i) (P p)) (behind:∀ i,inN n i→¬ S i→i≠p→befP (P p) (P i)):Adds P (inN n) S ap (Ai4 u m) p:=by
 have su:∀ k,k < m→S (u k):=fun k hk=>(hS _).2 ⟨k,hk,rfl⟩
 -- where on the line a place is
 have hg:∀ a b,S a→S b→0 < m→crs (P a) (P b) (P p)=crs (P (u 0)) (P b) (P p)-crs (P (u 0)) (P a) (P p):=fun a b ha hb hm=>by
  have e:=Vi (P (u 0)) (P a) (P b) (P p)
  rw [col _ _ _ (su 0 hm) ha hb] at e
  have e2:crs (P b) (P (u 0)) (P p) = -crs (P (u 0)) (P b) (P p):=Df _ _ _
  omega
 have mono:∀ i j,i < j→j < m→crs (P (u 0)) (P (u i)) (P p) < crs (P (u 0)) (P (u j)) (P p):=by
  intro i j hij
  induction j with
  | zero=>omega
  | succ j ih =>
   intro hj
   have h1:=inc j hj
   rw [hg _ _ (su j (by omega)) (su (j+1) hj) (by omega)] at h1
   by_cases e:i=j
   ·subst e;omega
   ·have:=ih (by omega) (by omega);omega
 refine ⟨Am0 he,fun i j k hk=>(by rw [he] at hk;cases hk),sv,vp,np,before,behind,?_,?_,?_,fun x y _=>he x y,?_,fun i j k hk=>(by rw [he] at hk;cases hk)⟩
 ·rintro x y ⟨i,hi,rfl,rfl⟩
  refine ⟨su i (by omega),su (i+1) hi,?_,fun d hd=>by rw [col _ _ _ (su i (by omega)) (su (i+1) hi) hd];exact Int.le_refl _⟩
  exact (Wi (P:=P) (c:=p) (by have:=inc i hi;omega)).1
 ·rintro x y ⟨⟨i,hi,rfl,rfl⟩,hp⟩ d hd n1 n2 _
  obtain ⟨j,hj,rfl⟩:=(hS d).1 hd
  have e1:crs (P (u (i+1))) (P p) (P (u j))=crs (P (u j)) (P (u (i+1))) (P p):=Co _ _ _
  have e2:crs (P p) (P (u i)) (P (u j))=crs (P (u i)) (P (u j)) (P p):=by rw [← Co,← Co]
  rw [e1,e2,hg _ _ hd (su (i+1) hi) (by omega),hg _ _ (su i (by omega)) hd (by omega)]
  have nij:j≠i:=fun e=>n1 (by rw [e])
  have nij':j≠i+1:=fun e=>n2 (by rw [e])
  rcases Nat.lt_or_ge j i with c | c
  ·have:=mono j i c (by omega);right;omega
  ·have:=mono (i+1) j (by omega) hj;left;omega
 ·rintro x y ⟨⟨i,hi,rfl,rfl⟩,hp⟩
  constructor
  ·by_cases c:i+2 < m
   ·exact .inl ⟨u (i+2),⟨i+1,c,rfl,rfl⟩,inc (i+1) c⟩
   ·right
    intro d hd
    obtain ⟨j,hj,rfl⟩:=(hS d).1 hd
    have e1:crs (P (u (i+1))) (P p) (P (u j))=crs (P (u j)) (P (u (i+1))) (P p):=Co _ _ _
    rw [e1,hg _ _ hd (su (i+1) hi) (by omega)]
    by_cases e:j=i+1
    ·subst e;omega
    ·have:=mono j (i+1) (by omega) hi;omega
  ·by_cases c:0 < i
   ·left
    obtain ⟨i',rfl⟩:∃ i',i=i' + 1:=⟨i-1,by omega⟩
    exact ⟨u i',⟨i',by omega,rfl,rfl⟩,inc i' (by omega)⟩
   ·right
    intro d hd
    obtain ⟨j,hj,rfl⟩:=(hS d).1 hd
    have e2:crs (P p) (P (u i)) (P (u j))=crs (P (u i)) (P (u j)) (P p):=by rw [← Co,← Co]
    rw [e2,hg _ _ (su i (by omega)) hd (by omega)]
    by_cases e:j=i
    ·subst e;omega
    ·have:=mono i j (by omega) hj;omega
 ·rintro x y ⟨⟨i,hi,rfl,rfl⟩,hp⟩
  exact .inr ⟨he,fun d hd=>by rw [col _ _ _ (su i (by omega)) (su (i+1) hi) hd];exact Int.le_refl _⟩
/-- Three places on a line in their order: a place beside the line sees both parts from the same side. -/
theorem Am1 {a b c q:Ad} (h1:befP a b) (h2:befP b c) (h0:crs a b c=0) (hq:0 < crs a b q):0 < crs b c q:=by
 have e1:crs b c q*(b.X-a.X)=crs a b q*(c.X-b.X)-(q.X-b.X)*crs a b c:=by unfold crs;grind
 have e2:crs b c q*(b.Y-a.Y)=crs a b q*(c.Y-b.Y)-(q.Y-b.Y)*crs a b c:=by unfold crs;grind
 have e3:(b.X-a.X)*(c.Y-b.Y)-(b.Y-a.Y)*(c.X-b.X)=crs a b c:=by unfold crs;grind
 rw [h0,Int.mul_zero,Int.sub_zero] at e1 e2
 rw [h0] at e3
 by_cases g:a.X < b.X
 ·-- then c lies further to the right
  have hc:b.X < c.X:=by
   rcases Int.lt_or_le b.X c.X with k | k
   ·exact k
   ·have hx:c.X=b.X:=by unfold befP at h2;omega
    have hy:b.Y < c.Y:=by unfold befP at h2;omega
    have z:c.X-b.X=0:=by omega
    rw [z,Int.mul_zero] at e3
    have:=Int.mul_pos (show 0 < b.X-a.X by omega) (show 0 < c.Y-b.Y by omega)
    omega
  have:=Int.mul_pos hq (show 0 < c.X-b.X by omega)
  exact Po (x:=b.X-a.X) (by rw [Int.mul_comm];omega) (by omega)
 ·have hx:a.X=b.X:=by unfold befP at h1;omega
  have hy:a.Y < b.Y:=by unfold befP at h1;omega
  have hc:b.X=c.X:=by
   have z:b.X-a.X=0:=by omega
   rw [z,Int.zero_mul] at e3
   have:(b.Y-a.Y)*(c.X-b.X)=0:=by omega
   rcases Int.mul_eq_zero.1 this with k | k <;> omega
  have hy2:b.Y < c.Y:=by unfold befP at h2;omega
  have:=Int.mul_pos hq (show 0 < c.Y-b.Y by omega)
  exact Po (x:=b.Y-a.Y) (by rw [Int.mul_comm];omega) (by omega)
/-- On one line. -/
theorem Abx {a b u w z:Ad} (hab:¬ Dk a b) (h1:crs a b u=0) (h2:crs a b w=0) (h3:crs a b z=0):crs u w z=0:=by
 have e1:(b.X-a.X)*crs u w z=(w.X-u.X)*(crs a b z-crs a b u)-(z.X-u.X)*(crs a b w-crs a b u):=by unfold crs;grind
 have e2:(b.Y-a.Y)*crs u w z=(w.Y-u.Y)*(crs a b z-crs a b u)-(z.Y-u.Y)*(crs a b w-crs a b u):=by unfold crs;grind
 rw [h1,h2,h3] at e1 e2
 simp only [Int.sub_self,Int.mul_zero] at e1 e2
 rcases Int.mul_eq_zero.1 e1 with g | g
 ·rcases Int.mul_eq_zero.1 e2 with g' | g'
  ·exact absurd ⟨by omega,by omega⟩ hab
  ·exact g'
 ·exact g
end Go.Proofs.YtbkobeeileemjaaGreat
