/- Plain laws on loops and lists that the plain functions of the program have in common. -/
import Derived.Test.YtgfiafnelibjgaaGreatFlow11
import Derived.Test.YtgfiafnelibjgaaGreatD1
namespace Go.Proofs.YtgfiafnelibjgaaGreat
open Go Go.RowKit
theorem Bj {j:Nat} (h:j < 9223372036854775807):w64 ((j:Int)+1)=((j+1:Nat):Int):=by rw [Dl (by omega) (by omega)];omega
theorem Ai {α ρ:Type} {x:α} {k:α→Option ρ}:bnd (some x) k=k x:=rfl
theorem gd_t {ρ:Type} {p:Prop} [Decidable p] {k:Option ρ} (h:p):gd p k=k:=by unfold gd;rw [if_pos h]
theorem jn_d {τ ρ:Type} {k:τ→Option ρ} {x:(τ→Option ρ)→Option ρ}:jn k x=x k:=rfl
/-- A loop over the places of a list that stops where a test fails. -/
theorem Qo {α β γ:Type} (l:List α) (p:α→Bool) (B:Int→Option (Sum Int (Sum β γ))) (u:β) (v:γ)
  (h1:∀ (j:Nat) (h:j < l.length),B j=if p l[j]=true then some (.inl ((j+1:Nat):Int)) else some (.inr (.inr v))) (h2:B l.length=some (.inr (.inl u))) :
  lfix B 0=some (if l.all p=true then .inl u else .inr v):=by
 have key:∀ (m k:Nat),k≤l.length→l.length-k=m→lfix B k=some (if (l.drop k).all p=true then .inl u else .inr v):=by
  intro m
  induction m with
  | zero =>
   intro k hk hm
   obtain rfl:k=l.length:=by omega
   rw [Gh,h2]
   simp
  | succ m ih =>
   intro k hk hm
   have hlt:k < l.length:=by omega
   rw [Gh,h1 k hlt,List.drop_eq_getElem_cons hlt,List.all_cons]
   by_cases hp:p l[k]=true
   ·rw [if_pos hp,hp,Bool.true_and]
    exact ih (k+1) (by omega) (by omega)
   ·rw [if_neg hp]
    simp [hp]
 exact key l.length 0 (Nat.zero_le _) rfl
/-- A loop that appends one element a round. -/
theorem Aib {α:Type} (n:Nat) (f:Nat→α) (B:List α × Int→Option (Sum (List α × Int) (List α)))
  (h1:∀ (j:Nat),j < n→∀ acc:List α,acc.length=j→B (acc,(j:Int))=some (.inl (acc++[f j],((j+1:Nat):Int)))) (h2:∀ acc:List α,acc.length=n→B (acc,(n:Int))=some (.inr acc)) :
  lfix B ([],0)=some ((List.range n).map f):=by
 have key:∀ (m k:Nat),k≤n→n-k=m→lfix B ((List.range k).map f,(k:Int))=some ((List.range n).map f):=by
  intro m
  induction m with
  | zero =>
   intro k hk hm
   obtain rfl:k=n:=by omega
   rw [Gh,h2 _ (by simp)]
  | succ m ih =>
   intro k hk hm
   rw [Gh,h1 k (by omega) _ (by simp)]
   have:(List.range k).map f++[f k]=(List.range (k+1)).map f:=by rw [List.range_succ,List.map_append];rfl
   simp only [this]
   exact ih (k+1) (by omega) (by omega)
 exact key n 0 (Nat.zero_le _) rfl
end Go.Proofs.YtgfiafnelibjgaaGreat
/- The limbs of the program's exact numbers. -/
namespace Go.Proofs.YtgfiafnelibjgaaGreat
open Go Go.RowKit
def nI (l:List Nat):List Int:=l.map (fun x:Nat=>(x:Int))
def L32 (m:Nat):List Int:=nI (dig 4294967296 m)
theorem Iw {l:List Nat}:(nI l).length=l.length:=by simp [nI]
theorem Nw {l:List Nat} {j:Nat} (h:j < l.length):idx (nI l) (j:Int)=some ((l[j]:Nat):Int):=by
 rw [Bg (by rw [Iw];exact h)];simp [nI]
theorem Ac1 (n:Nat):(List.replicate n (0:Int))=nI (List.replicate n 0):=by simp [nI]
theorem Yi {l:List Nat} {j v:Nat}:setI (nI l) (j:Int) (v:Int)=nI (l.set j v):=by rw [Rz];simp [nI,List.map_set]
theorem Aob {n:Nat} (h:n < 4294967296):wu32 (n:Int)=n:=Ab5 .u32 n (by simp only [top];omega)
theorem Qp {n:Nat} (h:n < 18446744073709551616):wu64 (n:Int)=n:=Ab5 .u64 n (by simp only [top];omega)
theorem Abg (l:List Nat) (h9:l.length≤1000000):Ew (nI l)=some (nI (nrm l)):=by
 obtain ⟨t,ht,hR⟩:=Dw (B:=Kz) (fun s=>s.length)
  (fun s=>∃ k:Nat,k≤l.length∧s=nI (l.take k)∧∀ (j:Nat) (h:j < l.length),k≤j→l[j]=0)
  (fun t=>t=nI (nrm l)) (by
   rintro s ⟨k,hk,rfl,hz⟩
   have hlen:(l.take k).length=k:=by rw [List.length_take];omega
   unfold Kz
   simp only [jn_d,Iw,hlen]
   by_cases h0:k=0
   ·right
    subst h0
    rw [if_neg (by omega),if_neg (by simp)]
    refine ⟨_,rfl,?_⟩
    rw [Zb l (fun x hx=>by obtain ⟨j,hj,rfl⟩:=List.getElem_of_mem hx;exact hz j hj (by omega))];rfl
   ·rw [if_pos (by omega)]
    ·rw [Dl (by omega) (by omega),show ((k:Int)-1)=((k-1:Nat):Int) from by omega,Nw (by omega),Ai]
     have e:(l.take k)[k-1]'(by omega)=l[k-1]:=by rw [List.getElem_take]
     rw [e]
     by_cases hx:l[k-1]=0
     ·left
      refine ⟨nI (l.take (k-1)),?_,⟨k-1,by omega,rfl,fun j h hj=>?_⟩,by simp only [Iw,List.length_take];omega⟩
      ·rw [if_pos (by rw [hx];rfl),gd_t ⟨by omega,by omega⟩]
       congr 2
       simp only [subl,nI,Int.toNat_natCast,Int.toNat_zero,List.drop_zero,← List.map_take,List.take_take]
       rw [show min (k-1) k=k-1 by omega]
      ·rcases Nat.lt_or_ge (k-1) j with hq | hq
       ·exact hz j h (by omega)
       ·obtain rfl:j=k-1:=by omega
        exact hx
     ·right
      rw [if_neg (by rw [decide_eq_true_eq];omega)]
      refine ⟨_,rfl,?_⟩
      have h1:=Am1 l k hk hz (fun h0' h'=>hx)
      conv=>rhs;rw [Xr,h1])
  (nI l) ⟨l.length,by omega,by rw [List.take_length],fun j h hj=>by omega⟩
 unfold Ew
 simp only [jn_d]
 rw [ht,Ai,hR]
theorem Yj (n:Nat):wu32 (n:Int)=((n % 4294967296:Nat):Int):=by
 show IntKind.u32.wrap (n:Int)=_
 simp [IntKind.wrap,IntKind.bits,IntKind.signed]
theorem Aoc (n:Nat):shr_ .u64 (n:Int) 32=((n / 4294967296:Nat):Int):=by
 show (n:Int).fdiv (2 ^ (min (32:Int).toNat 64))=_
 rw [show (2:Int) ^ (min (32:Int).toNat 64)=4294967296 from by decide,Int.fdiv_eq_ediv_of_nonneg _ (by omega)]
 omega
theorem Aod (l r:List Nat) (hl:∀ x∈l,x < 4294967296) (hr:∀ x∈r,x < 4294967296) (hb:l.length+r.length≤1000000) :
  Eb (nI l) (nI r)=some (L32 (val 4294967296 l*val 4294967296 r)):=by
 have e:w64 ((((nI l).length:Nat):Int)+(((nI r).length:Nat):Int))=((l.length+r.length:Nat):Int):=by rw [Iw,Iw,Dl (by omega) (by omega)];omega
 obtain ⟨t,ht,out,rfl,hd,hlo⟩:=Dw (B:=Id (nI l) (nI r)) (fun s=>l.length-s.2.toNat)
  (fun s=>∃ (out:List Nat) (i:Nat),s=(nI out,(i:Int))∧out.length=l.length+r.length∧i≤l.length∧(∀ x∈out,x < 4294967296)∧(∀ (q:Nat) (h:q < out.length),i+r.length≤q→out[q]=0)∧val 4294967296 out=val 4294967296 (l.take i)*val 4294967296 r)
  (fun t=>∃ out,t=nI out∧nrm out=dig 4294967296 (val 4294967296 l*val 4294967296 r)∧out.length≤1000000) (by
   rintro s ⟨out0,i,rfl,hC1,hC2,hC3,hC4,hC5⟩
   by_cases hi:i < l.length
   ·left
    obtain ⟨t,ht,out,cy,rfl,hD1,hD2,hD4,hD5,hD6⟩:=Dw (B:=Ic (nI r) (nI out0,(i:Int)) (l[i]:Int)) (fun s=>r.length-s.2.2.toNat)
     (fun s=>∃ (out:List Nat) (cy j:Nat),s=(nI out,(cy:Int),(j:Int))∧out.length=l.length+r.length∧cy < 4294967296∧j≤r.length∧(∀ x∈out,x < 4294967296)∧(∀ (q:Nat) (h:q < out.length),i+r.length≤q→out[q]=0)∧val 4294967296 out+cy*4294967296 ^ (i+j)=val 4294967296 out0+l[i] * val 4294967296 (r.take j)*4294967296 ^ i)
     (fun t=>∃ (out:List Nat) (cy:Nat),t=(nI out,(cy:Int))∧out.length=l.length+r.length∧cy < 4294967296∧(∀ x∈out,x < 4294967296)∧(∀ (q:Nat) (h:q < out.length),i+r.length≤q→out[q]=0)∧val 4294967296 out+cy*4294967296 ^ (i+r.length)=val 4294967296 out0+l[i] * val 4294967296 (r.take r.length)*4294967296 ^ i) (by
      rintro s ⟨out,cy,j,rfl,hD1,hD2,hD3,hD4,hD5,hD6⟩
      by_cases hj:j < r.length
      ·left
       have hk:i+j < out.length:=by omega
       have h1:=hl _ (List.getElem_mem hi)
       have h2:=hr _ (List.getElem_mem hj)
       have h3:=hD4 _ (List.getElem_mem hk)
       have hmm:=Af3 h1 h2
       have e1:w64 ((i:Int)+(j:Int))=((i+j:Nat):Int):=by rw [Dl (by omega) (by omega)];omega
       have e2:wu64 (wu64 (wu64 (wu64 (l[i]:Int)*wu64 (r[j]:Int))+wu64 (out[i+j]:Int))+(cy:Int))=((l[i] * r[j] + out[i+j] + cy:Nat):Int):=by
        rw [Qp (n:=l[i]) (by omega),Qp (n:=r[j]) (by omega),Qp (n:=out[i+j]) (by omega),← Int.natCast_mul,Qp (by omega),← Int.natCast_add,Qp (by omega),← Int.natCast_add,Qp (by omega)]
       have e4:wu32 ((l[i] * r[j] + out[i+j] + cy:Nat):Int)=(((l[i] * r[j] + out[i+j] + cy) % 4294967296:Nat):Int):=Yj _
       refine ⟨(nI (out.set (i+j) ((l[i] * r[j] + out[i+j] + cy) % 4294967296)),(((l[i] * r[j] + out[i+j] + cy) / 4294967296:Nat):Int),((j+1:Nat):Int)),?_,⟨_,_,_,rfl,Aku hi hj rfl rfl h1 h2 hD1 hD2 hD3 hD4 hD5 hD6 hk⟩,by simp;omega⟩
       unfold Ic
       simp only [e1]
       rw [if_pos (by rw [Iw];omega),Nw hj,Ai,Nw hk,Ai,Ai,e2,e4,Aoc,Yi,Bj (by omega)]
      ·right
       obtain rfl:j=r.length:=by omega
       refine ⟨(nI out,(cy:Int)),?_,out,cy,rfl,hD1,hD2,hD4,hD5,hD6⟩
       unfold Ic
       simp only []
       rw [if_neg (by rw [Iw];omega)])
     (nI out0,((0:Nat):Int),((0:Nat):Int)) ⟨out0,0,0,rfl,hC1,by omega,by omega,hC3,fun q hq hiq=>hC4 q hq (by omega),by simp [val]⟩
    have hk:i+r.length < out.length:=by omega
    refine ⟨(nI (out.set (i+r.length) (cy % 4294967296)),((i+1:Nat):Int)),?_,⟨_,_,rfl,Akv hi rfl rfl hD1 hD2 hD4 hD5 hD6 hC5 rfl⟩,by simp;omega⟩
    unfold Id
    simp only [jn_d]
    have ht':lfix (Ic (nI r) (nI out0,(i:Int)) (l[i]:Int)) (nI out0,0,0)=some (nI out,(cy:Int)):=ht
    rw [if_pos (by rw [Iw];omega),Nw hi,Ai,ht',Ai,Iw,show w64 ((i:Int)+(r.length:Int))=((i+r.length:Nat):Int) from by rw [Dl (by omega) (by omega)];omega,Nw hk,Ai]
    simp only []
    rw [Aob hD2,Yi,Bj (by omega),Nat.mod_eq_of_lt hD2]
   ·right
    refine ⟨nI out0,?_,out0,rfl,Am2 (i:=i) (by omega) rfl hC1 hC3 hC5,by omega⟩
    unfold Id
    simp only []
    rw [if_neg (by rw [Iw];omega)])
  (nI (List.replicate (l.length+r.length) 0),((0:Nat):Int)) ⟨_,0,rfl,by simp,by omega,by simp,by simp,by simp [val,Vf]⟩
 unfold Eb
 simp only [e,jn_d,Int.toNat_natCast,Ac1]
 have ht':lfix (Id (nI l) (nI r)) (nI (List.replicate (l.length+r.length) 0),0)=some (nI out):=ht
 rw [gd_t ⟨by omega,by omega⟩,ht',Ai,Abg _ (by omega),Ai,hd];rfl
theorem As4 (a b:Nat) (ha:(dig 4294967296 a).length≤1000000):Mf (L32 a) (L32 b)=some (cmpN a b):=by
 unfold Mf L32
 rw [Iw,Iw]
 by_cases hlen:(dig 4294967296 a).length=(dig 4294967296 b).length
 ·obtain ⟨t,ht,hR⟩:=Dw (B:=Ls (nI (dig 4294967296 a)) (nI (dig 4294967296 b))) (fun s=>(s+1).toNat)
   (fun s=>∃ k:Nat,s=(k:Int)-1∧k≤(dig 4294967296 a).length∧∀ (j:Nat) (h:j < (dig 4294967296 a).length) (h':j < (dig 4294967296 b).length),k≤j→(dig 4294967296 a)[j]=(dig 4294967296 b)[j])
   (fun t=>(t = .inl ()∧cmpN a b=0)∨t = .inr (cmpN a b)) (by
    rintro s ⟨k,rfl,hk,heq⟩
    unfold Ls
    by_cases h0:k=0
    ·right
     subst h0
     refine ⟨_,by rw [if_neg (by omega)],.inl ⟨rfl,Ar8 (by omega) hlen (fun j h h'=>heq j h h' (by omega))⟩⟩
    ·have h1:k-1 < (dig 4294967296 a).length:=by omega
     have h2:k-1 < (dig 4294967296 b).length:=by omega
     have hat:=Ar7 (b:=4294967296) (by omega) hlen h1 h2 (fun j h h' hj=>heq j h h' (by omega))
     rw [if_pos (by omega),show ((k:Int)-1)=((k-1:Nat):Int) from by omega,Nw h1,Ai,Nw h2,Ai]
     by_cases he:(dig 4294967296 a)[k-1]=(dig 4294967296 b)[k-1]
     ·left
      refine ⟨((k-1:Nat):Int)-1,by rw [if_pos (by rw [he]),Dl (by omega) (by omega)],⟨k-1,rfl,by omega,fun j h h' hj=>?_⟩,by omega⟩
      rcases Nat.lt_or_ge (k-1) j with hq | hq
      ·exact heq j h h' (by omega)
      ·obtain rfl:j=k-1:=by omega
       exact he
     ·right
      rw [if_neg (by omega),Ai,Ai]
      by_cases hlt:(dig 4294967296 a)[k-1] < (dig 4294967296 b)[k-1]
      ·exact ⟨_,by rw [if_pos (by omega)],.inr (by rw [hat.1 hlt])⟩
      ·exact ⟨_,by rw [if_neg (by omega)],.inr (by rw [hat.2 (by omega)])⟩)
   (((dig 4294967296 a).length:Int)-1) ⟨_,rfl,Nat.le_refl _,fun j h h' hj=>by omega⟩
  rw [if_pos (by omega),jn_d,Dl (by omega) (by omega),ht,Ai]
  rcases hR with ⟨rfl,h0⟩ | rfl
  ·simp only [h0]
  ·rfl
 ·rw [if_neg (by omega)]
  by_cases hlt:(dig 4294967296 a).length < (dig 4294967296 b).length
  ·rw [if_pos (by omega),(Aja (b:=4294967296) (by omega) rfl rfl).1 hlt]
  ·rw [if_neg (by omega),(Aja (b:=4294967296) (by omega) rfl rfl).2 (by omega)]
theorem oneW:([1]:List Int)=L32 1:=by unfold L32;rw [Ai8 (by omega)];rfl
theorem Aqz {a:Nat}:(L32 a).length=0↔a=0:=by
 unfold L32;rw [Iw,List.length_eq_zero_iff,Ai7 (by omega)]
theorem Aic (a:Nat) (h:(dig 4294967296 a).length≤1000):Eb (L32 a) [1]=some (L32 a):=by
 have:=Aod (dig 4294967296 a) [1] (Aem (by omega) a) (by simp) (by simp;omega)
 rw [Ke (by omega),show val 4294967296 [1]=1 from by simp [val],Nat.mul_one] at this
 exact this
theorem Aj0:Eb [1] [1]=some [1]:=by
 have:=Aic 1 (by rw [Ai8 (by omega)];simp)
 rwa [← oneW] at this
theorem Vr {b:Nat} (l:List Nat) (i:Nat):val b (l.take (i+1))=val b (l.take i)+b ^ i*l.getD i 0:=by
 by_cases h:i < l.length
 ·rw [Rk l i h];simp [h]
 ·rw [List.take_of_length_le (by omega),List.take_of_length_le (by omega)];simp [h]
theorem Abh {l:List Nat} {i:Nat} (h:i < l.length):l.getD i 0=l[i]:=by simp [h]
theorem Ag1 {l:List Nat} {i:Nat} (h:¬ i < l.length):l.getD i 0=0:=by simp [h]
theorem Si {b:Nat} (hb:0 < b) {l:List Nat} (hl:∀ x∈l,x < b) (i:Nat):l.getD i 0 < b:=by
 by_cases h:i < l.length
 ·have:=hl _ (List.getElem_mem h);simpa [h] using this
 ·simp [h,hb]
theorem Aoe (v:BitVec 32):IntKind.u32.wrap (v.toNat:Int)=(v.toNat:Int):=Ab5 .u32 v.toNat (by simp only [top];omega)
theorem Aof (a b:Int):Abd .u32 a b=((BitVec.ofInt 32 a &&& BitVec.ofInt 32 b).toNat:Int):=Aoe _
theorem At1 (a b:Int):Ahz .u32 a b=((BitVec.ofInt 32 a ||| BitVec.ofInt 32 b).toNat:Int):=Aoe _
theorem Aid (a b:Int):Vn .u32 a b=((BitVec.ofInt 32 a ^^^ BitVec.ofInt 32 b).toNat:Int):=Aoe _
theorem At2 (v:BitVec 32):BitVec.ofInt 32 (v.toNat:Int)=v:=by
 rw [BitVec.ofInt_natCast,BitVec.ofNat_toNat,BitVec.setWidth_eq]
theorem As5:BitVec.ofInt 32 (if IntKind.signed .u32=true then -1 else IntKind.max .u32)=BitVec.allOnes 32:=by decide
theorem Aog (x:Int):wu32 x=x % 4294967296:=by
 show IntKind.u32.wrap x=_
 simp [IntKind.wrap,IntKind.bits,IntKind.signed]
theorem Afh (n:Nat) (h:n < 4294967296):(BitVec.ofInt 32 (n:Int)).msb=decide (2147483648≤n):=by
 rw [BitVec.msb_eq_decide,BitVec.ofInt_natCast,BitVec.toNat_ofNat,Nat.mod_eq_of_lt (by omega)]
theorem At3 (v:BitVec 32):shr_ .u32 (v.toNat:Int) 31=if v.msb then 1 else 0:=by
 have h:=v.isLt
 rw [BitVec.msb_eq_decide]
 show (v.toNat:Int).fdiv (2 ^ (min (31:Int).toNat 32))=_
 rw [show (2:Int) ^ (min (31:Int).toNat 32)=2147483648 from by decide,Int.fdiv_eq_ediv_of_nonneg _ (by omega)]
 by_cases h1:2 ^ (32-1)≤v.toNat
 ·rw [if_pos (by simpa using h1)];omega
 ·rw [if_neg (by simpa using h1)];omega
theorem At4 {x y b:Nat} (hx:x < 4294967296) (hy:y < 4294967296) (hb:b≤1) :
  ∃ d b':Nat,Ja (x:Int) (y:Int) (b:Int)=some ((d:Int),(b':Int))∧d < 4294967296∧b'≤1∧d+b+y=x+4294967296*b':=by
 unfold Ja
 have e:wu32 (wu32 ((x:Int)-y)-b)=(((x:Int)-y-b) % 4294967296).toNat:=by rw [Aog,Aog];omega
 rw [e]
 generalize hd:(((x:Int)-y-b) % 4294967296).toNat=d
 have hdl:d < 4294967296:=by omega
 rw [Aof,Aof,Aid,Aid,Aid,At1]
 simp only [At2,As5,BitVec.allOnes_xor]
 rw [At3]
 rw [BitVec.msb_or,BitVec.msb_and,BitVec.msb_and,BitVec.msb_not,BitVec.msb_not,BitVec.msb_xor,Afh _ hx,Afh _ hy,Afh _ hdl]
 by_cases h1:2147483648≤x <;> by_cases h2:2147483648≤y <;> by_cases h3:2147483648≤d <;> simp only [h1,h2,h3,decide_true,decide_false,Bool.not_true,Bool.not_false,Bool.and_true,Bool.and_false,Bool.true_and,Bool.false_and,Bool.or_true,Bool.or_false,Bool.xor_true,Bool.xor_false,Bool.false_eq_true,if_true,if_false,show (0 < 32)=True by simp] <;>
  first
  | exact ⟨d,0,rfl,hdl,by omega,by omega⟩
  | exact ⟨d,1,rfl,hdl,by omega,by omega⟩
theorem At5 {x y c:Nat} (hx:x < 4294967296) (hy:y < 4294967296) (hc:c≤1) :
  Hd (x:Int) (y:Int) (c:Int)=some ((((x+y+c) % 4294967296:Nat):Int),(((x+y+c) / 4294967296:Nat):Int)):=by
 unfold Hd
 have e:wu64 (wu64 (wu64 (x:Int)+wu64 (y:Int))+wu64 (c:Int))=((x+y+c:Nat):Int):=by
  rw [Qp (n:=x) (by omega),Qp (n:=y) (by omega),Qp (n:=c) (by omega),← Int.natCast_add,Qp (by omega),← Int.natCast_add,Qp (by omega)]
 rw [e,Yj,Aoc,Aob (by omega)]
theorem Aoh {l r out:List Nat} {cy i n:Nat} (hn:l.length=n) (hi:i < n) (hr:r.length≤n) (hl':∀ x∈l,x < 4294967296) (hr':∀ x∈r,x < 4294967296)
  (hC1:out.length=n+1) (hC2:cy≤1) (hC4:∀ x∈out,x < 4294967296) (hC5:∀ (q:Nat) (h:q < out.length),i≤q→out[q]=0)
  (hC6:val 4294967296 out+cy*4294967296 ^ i=val 4294967296 (l.take i)+val 4294967296 (r.take i)) :
  ∀ s,s=l.getD i 0+r.getD i 0+cy→(out.set i (s % 4294967296)).length=n+1∧s / 4294967296≤1∧(∀ x∈out.set i (s % 4294967296),x < 4294967296)∧(∀ (q:Nat) (h:q < (out.set i (s % 4294967296)).length),i+1≤q→(out.set i (s % 4294967296))[q]=0) ∧
   val 4294967296 (out.set i (s % 4294967296))+s / 4294967296*4294967296 ^ (i+1)=val 4294967296 (l.take (i+1))+val 4294967296 (r.take (i+1)):=by
 intro s hs
 have h1:=Si (b:=4294967296) (by omega) hl' i
 have h2:=Si (b:=4294967296) (by omega) hr' i
 refine ⟨by simp [hC1],by omega,Qg hC4 (by omega),fun q hq hiq=>?_,?_⟩
 ·rw [List.getElem_set_ne (by omega)];exact hC5 q (by simpa using hq) (by omega)
 ·have hs1:=Ve (b:=4294967296) out i (s % 4294967296) (by omega)
  rw [hC5 i (by omega) (by omega)] at hs1
  rw [Vr,Vr]
  have e1:s=4294967296*(s / 4294967296)+s % 4294967296:=by omega
  have e2:=congrArg (· * 4294967296 ^ i) (hs.symm.trans e1)
  simp only [Nat.add_mul] at e2
  have e4:4294967296 ^ (i+1)=4294967296*4294967296 ^ i:=by rw [Nat.pow_succ,Nat.mul_comm]
  rw [e4]
  generalize 4294967296 ^ i=P at *
  generalize l.getD i 0=a at *
  generalize r.getD i 0=b at *
  generalize s / 4294967296=q at *
  generalize s % 4294967296=m at *
  have e5:q*(4294967296*P)=4294967296*q*P:=by grind
  have e7:P*a=a*P:=Nat.mul_comm _ _
  have e8:P*b=b*P:=Nat.mul_comm _ _
  omega
theorem Aoi (l r:List Nat) (hl:∀ x∈l,x < 4294967296) (hr:∀ x∈r,x < 4294967296) (h9:l.length≤100000) (hrl:r.length≤l.length) :
  (jn (fun (s6:(List Int) × Int) =>
   bnd (idx s6.1 ((((nI l).length:Nat):Int))) fun _ =>
   bnd (Ew (setI s6.1 ((((nI l).length:Nat):Int)) s6.2)) fun r122 =>
   some r122)
   (fun j6=>bnd (lfix (Ie (nI l,nI r)) (List.replicate (Int.toNat (w64 (((((nI l).length:Nat):Int))+1))) (0:Int),0,0)) fun t56 =>
   j6 t56))=some (L32 (val 4294967296 l+val 4294967296 r)):=by
 obtain ⟨t,ht,out,cy,rfl,hC1,hC2,hC4,hC5,hC6⟩:=Dw (B:=Ie (nI l,nI r)) (fun s=>l.length-s.2.2.toNat)
  (fun s=>∃ (out:List Nat) (cy i:Nat),s=(nI out,(cy:Int),(i:Int))∧i≤l.length∧out.length=l.length+1∧cy≤1∧(∀ x∈out,x < 4294967296)∧(∀ (q:Nat) (h:q < out.length),i≤q→out[q]=0)∧val 4294967296 out+cy*4294967296 ^ i=val 4294967296 (l.take i)+val 4294967296 (r.take i))
  (fun t=>∃ (out:List Nat) (cy:Nat),t=(nI out,(cy:Int))∧out.length=l.length+1∧cy≤1∧(∀ x∈out,x < 4294967296)∧(∀ (h:l.length < out.length),out[l.length]=0)∧val 4294967296 out+cy*4294967296 ^ l.length=val 4294967296 l+val 4294967296 r) (by
   rintro s ⟨out,cy,i,rfl,hi',hC1,hC2,hC4,hC5,hC6⟩
   unfold Ie
   simp only [jn_d,Iw]
   by_cases hi:i < l.length
   ·left
    obtain ⟨k1,k2,k3,k4,k5⟩:=Aoh rfl hi hrl hl hr hC1 hC2 hC4 hC5 hC6 _ rfl
    have h1:=Si (b:=4294967296) (by omega) hl i
    have h2:=Si (b:=4294967296) (by omega) hr i
    refine ⟨_,?_,⟨_,_,i+1,rfl,by omega,k1,k2,k3,k4,k5⟩,by simp only [Int.toNat_natCast];omega⟩
    rw [if_pos (by omega)]
    have fin:∀ y:Int,y=((r.getD i 0:Nat):Int)→(bnd (idx (nI l) (i:Int)) fun x76=>bnd (Hd x76 y (cy:Int)) fun r87=>bnd (idx (nI out) (i:Int)) fun _=>some (Sum.inl (β:=List Int × Int) (setI (nI out) (i:Int) r87.1,r87.2,w64 ((i:Int)+1))))=some (.inl (nI (out.set i ((l.getD i 0+r.getD i 0+cy) % 4294967296)),(((l.getD i 0+r.getD i 0+cy) / 4294967296:Nat):Int),((i+1:Nat):Int))):=by
     rintro y rfl
     rw [Nw hi,Ai,← Abh hi,At5 h1 h2 hC2,Ai,Nw (by omega),Ai]
     simp only []
     rw [Yi,Bj (by omega)]
    by_cases hm:i < r.length
    ·rw [if_pos (by omega),Nw hm,Ai]
     exact fin _ (by rw [Abh hm])
    ·rw [if_neg (by omega)]
     exact fin _ (by rw [Ag1 hm];rfl)
   ·right
    obtain rfl:i=l.length:=by omega
    rw [if_neg (by omega)]
    rw [List.take_of_length_le (by omega),List.take_of_length_le (by omega)] at hC6
    exact ⟨_,rfl,out,cy,rfl,hC1,hC2,hC4,fun h=>hC5 _ h (by omega),hC6⟩)
  (nI (List.replicate (l.length+1) 0),((0:Nat):Int),((0:Nat):Int)) ⟨_,0,0,rfl,by omega,by simp,by omega,by simp,by simp,by simp [val,Vf]⟩
 simp only [jn_d,Iw]
 rw [Bj (by omega),Int.toNat_natCast,Ac1]
 have ht':lfix (Ie (nI l,nI r)) (nI (List.replicate (l.length+1) 0),0,0)=some (nI out,(cy:Int)):=ht
 rw [ht',Ai]
 simp only []
 rw [Nw (by omega),Ai,Yi,Abg _ (by simp;omega),Ai]
 have hs1:=Ve (b:=4294967296) out l.length cy (by omega)
 rw [hC5 (by omega)] at hs1
 rw [Ab6 (b:=4294967296) (by omega) _ (Qg hC4 (by omega)),show val 4294967296 (out.set l.length cy)=val 4294967296 l+val 4294967296 r by omega]
 rfl
theorem As6 (l r:List Nat) (hl:∀ x∈l,x < 4294967296) (hr:∀ x∈r,x < 4294967296) (h9:l.length≤100000) (h9':r.length≤100000) :
  Jj (nI l) (nI r)=some (L32 (val 4294967296 l+val 4294967296 r)):=by
 unfold Jj
 simp only [jn_d]
 by_cases h:l.length < r.length
 ·rw [if_pos (by rw [Iw,Iw];omega),gd_t (by rw [Iw,Bj (by omega)];omega)]
  have:=Aoi r l hr hl h9' (by omega)
  simp only [jn_d] at this
  rw [this,Nat.add_comm]
 ·rw [if_neg (by rw [Iw,Iw];omega),gd_t (by rw [Iw,Bj (by omega)];omega)]
  have:=Aoi l r hl hr h9 (by omega)
  simp only [jn_d] at this
  exact this
theorem As7 (l r:List Nat) (hl:∀ x∈l,x < 4294967296) (hr:∀ x∈r,x < 4294967296) (h9:l.length≤100000) (hrl:r.length≤l.length) (hle:val 4294967296 r≤val 4294967296 l) :
  Jk (nI l) (nI r)=some (L32 (val 4294967296 l-val 4294967296 r)):=by
 obtain ⟨t,ht,out,rfl,hC1,hd⟩:=Dw (B:=Jt (nI l) (nI r)) (fun s=>l.length-s.2.2.toNat)
  (fun s=>∃ (out:List Nat) (bw i:Nat),s=(nI out,(bw:Int),(i:Int))∧i≤l.length∧out.length=l.length∧bw≤1∧(∀ x∈out,x < 4294967296)∧(∀ (q:Nat) (h:q < out.length),i≤q→out[q]=0)∧val 4294967296 out+val 4294967296 (r.take i)=val 4294967296 (l.take i)+bw*4294967296 ^ i)
  (fun t=>∃ (out:List Nat),t=nI out∧out.length=l.length∧nrm out=dig 4294967296 (val 4294967296 l-val 4294967296 r)) (by
   rintro s ⟨out,bw,i,rfl,hi',hC1,hC2,hC4,hC5,hC6⟩
   unfold Jt
   simp only [jn_d,Iw]
   by_cases hi:i < l.length
   ·left
    have h1:=Si (b:=4294967296) (by omega) hl i
    have h2:=Si (b:=4294967296) (by omega) hr i
    obtain ⟨d,b',hB,hd1,hb1,he⟩:=At4 h1 h2 hC2
    refine ⟨(nI (out.set i d),(b':Int),((i+1:Nat):Int)),?_,⟨_,_,i+1,rfl,by omega,by simp [hC1],hb1,Qg hC4 hd1,fun q hq hiq=>?_,?_⟩,by simp only [Int.toNat_natCast];omega⟩
    ·rw [if_pos (by omega)]
     have fin:∀ y:Int,y=((r.getD i 0:Nat):Int)→(bnd (idx (nI l) (i:Int)) fun x76=>bnd (Ja x76 y (bw:Int)) fun r87=>bnd (idx (nI out) (i:Int)) fun _=>some (Sum.inl (β:=List Int) (setI (nI out) (i:Int) r87.1,r87.2,w64 ((i:Int)+1))))=some (.inl (nI (out.set i d),(b':Int),((i+1:Nat):Int))):=by
      rintro y rfl
      rw [Nw hi,Ai,← Abh hi,hB,Ai,Nw (by omega),Ai]
      simp only []
      rw [Yi,Bj (by omega)]
     by_cases hm:i < r.length
     ·rw [if_pos (by omega),Nw hm,Ai]
      exact fin _ (by rw [Abh hm])
     ·rw [if_neg (by omega)]
      exact fin _ (by rw [Ag1 hm];rfl)
    ·rw [List.getElem_set_ne (by omega)];exact hC5 q (by simpa using hq) (by omega)
    ·have hs1:=Ve (b:=4294967296) out i d (by omega)
     rw [hC5 i (by omega) (by omega)] at hs1
     rw [Vr,Vr]
     have e3:=congrArg (· * 4294967296 ^ i) he
     simp only [Nat.add_mul] at e3
     have e4:4294967296 ^ (i+1)=4294967296*4294967296 ^ i:=by rw [Nat.pow_succ,Nat.mul_comm]
     rw [e4]
     generalize 4294967296 ^ i=P at *
     generalize l.getD i 0=a at *
     generalize r.getD i 0=b at *
     have e5:b' * (4294967296*P)=4294967296*b' * P:=by grind
     have e7:P*a=a*P:=Nat.mul_comm _ _
     have e8:P*b=b*P:=Nat.mul_comm _ _
     omega
   ·right
    obtain rfl:i=l.length:=by omega
    rw [if_neg (by omega)]
    rw [List.take_of_length_le (by omega),List.take_of_length_le (by omega)] at hC6
    refine ⟨_,rfl,out,rfl,hC1,?_⟩
    rw [Ab6 (b:=4294967296) (by omega) out hC4]
    have hlt:=Am0 out hC4
    rw [hC1] at hlt
    have:bw=0∨bw=1:=by omega
    rcases this with rfl | rfl
    ·rw [show val 4294967296 out=val 4294967296 l-val 4294967296 r by omega]
    ·omega)
  (nI (List.replicate l.length 0),((0:Nat):Int),((0:Nat):Int)) ⟨_,0,0,rfl,by omega,by simp,by omega,by simp,by simp,by simp [val,Vf]⟩
 unfold Jk
 simp only [jn_d,Iw,Int.toNat_natCast,Ac1]
 rw [gd_t ⟨by omega,by omega⟩]
 have ht':lfix (Jt (nI l) (nI r)) (nI (List.replicate l.length 0),0,0)=some (nI out):=ht
 rw [ht',Ai,Abg _ (by omega),Ai,hd];rfl
theorem W_lt {a:Nat}:∀ x∈dig 4294967296 a,x < 4294967296:=Aem (by omega) a
theorem As8 {a b:Nat} (ha:(dig 4294967296 a).length≤100000) (hb:(dig 4294967296 b).length≤100000):Jj (L32 a) (L32 b)=some (L32 (a+b)):=by
 have:=As6 _ _ (W_lt (a:=a)) (W_lt (a:=b)) ha hb
 rwa [Ke (by omega),Ke (by omega)] at this
theorem Alj {a b:Nat} (h:a≤b):(dig 4294967296 a).length≤(dig 4294967296 b).length:=by
 rcases Nat.lt_or_ge (dig 4294967296 b).length (dig 4294967296 a).length with h1 | h1
 ·have:=Wp (b:=4294967296) (by omega) h1;omega
 ·exact h1
theorem Aoj {a b:Nat} (ha:(dig 4294967296 a).length≤100000) (h:b≤a):Jk (L32 a) (L32 b)=some (L32 (a-b)):=by
 have:=As7 _ _ (W_lt (a:=a)) (W_lt (a:=b)) ha (Alj h) (by rw [Ke (by omega),Ke (by omega)];exact h)
 rwa [Ke (by omega),Ke (by omega)] at this
theorem As9 {a b:Nat} (h:(dig 4294967296 a).length+(dig 4294967296 b).length≤1000000):Eb (L32 a) (L32 b)=some (L32 (a*b)):=by
 have:=Aod _ _ (W_lt (a:=a)) (W_lt (a:=b)) h
 rwa [Ke (by omega),Ke (by omega)] at this
theorem Aj1 {n:Nat} (h:n≤18446744073709551615):Ka (n:Int)=some (L32 n):=by
 unfold Ka
 have:=Abg [n % 4294967296,n / 4294967296 % 4294967296] (by simp)
 rw [show [wu32 (n:Int),wu32 (shr_ .u64 (n:Int) 32)]=nI [n % 4294967296,n / 4294967296 % 4294967296] from by rw [Aoc,Yj,Yj];rfl,this,Ai,Akt n h]
 rfl
theorem Ata {s:Bool} {z:Int} (hs:z≠0→s=decide (z < 0)):Ju ⟨s,L32 z.natAbs,[1]⟩=some (Int.sign z):=by
 unfold Ju
 simp only []
 by_cases h0:z=0
 ·subst h0;rfl
 ·have:(L32 z.natAbs).length≠0:=fun e=>h0 (by have:=Aqz.1 e;omega)
  rw [if_neg (by omega),hs h0]
  by_cases h1:z < 0
  ·rw [if_pos (by simpa using h1),Int.sign_eq_neg_one_of_neg h1]
  ·rw [if_neg (by simpa using h1),Int.sign_eq_one_of_pos (by omega)]
end Go.Proofs.YtgfiafnelibjgaaGreat
