/- Ghost steps of the judgement T: cases, cuts, elements of slices. -/
import Derived.Test.YtbkobeeileemjaaGreatDraw
import Derived.LoopN
import Derived.Laws.IdiomCopy
namespace Go.Proofs.YtbkobeeileemjaaGreat
open Go Go.RowKit

section
variable {P:Program} {n:Nat} {N:Act→World→Prop} {Q:Exit→Act→World→Prop} {fr:List (Nat × Value)} {L:List Ent}

theorem Fr.known {a s v} (h:Fr n fr a) (hs:look fr s=some v):Fr n ((s,v)::fr) a:=by
 refine ⟨h.nod,h.size,fun t u hu=>?_⟩
 simp only [look] at hu
 cases hb:Nat.beq s t with
 | true =>
  rw [hb] at hu
  have e:=Nat.eq_of_beq_eq_true hb
  subst e
  simp only [cond_true,Option.some.injEq] at hu
  subst hu
  exact h.val _ _ hs
 | false=>rw [hb] at hu;exact h.val t u hu
theorem Dm {s:Nat} {b:Bool} (hs:look fr s=some (.bool b)) (ht:b=true→T n N ((s,.bool true)::fr) L) (hf:b=false→T n N ((s,.bool false)::fr) L):T n N fr L:=by
 intro a w ha hw
 cases b with
 | true=>exact ht rfl a w (ha.known hs) hw
 | false=>exact hf rfl a w (ha.known hs) hw
theorem Apy {s:Nat} {p:Prop} [Decidable p] (hs:look fr s=some (.bool (decide p))) (ht:p→T n N ((s,.bool true)::fr) L) (hf:¬ p→T n N ((s,.bool false)::fr) L):T n N fr L :=
 Dm hs (fun h=>ht (of_decide_eq_true h)) (fun h=>hf (of_decide_eq_false h))
theorem Fm {s:Nat} {b:Bool} (hs:look fr s=some (.bool (!b))) (ht:b=false→T n N ((s,.bool true)::fr) L) (hf:b=true→T n N ((s,.bool false)::fr) L):T n N fr L :=
 Dm hs (fun h=>ht (by simpa using h)) (fun h=>hf (by simpa using h))
theorem Hf {s:Nat} {p:Prop} [Decidable p] (hs:look fr s=some (.bool (!decide p))) (ht:¬ p→T n N ((s,.bool true)::fr) L) (hf:p→T n N ((s,.bool false)::fr) L):T n N fr L :=
 Fm hs (fun h=>ht (of_decide_eq_false h)) (fun h=>hf (of_decide_eq_true h))

/-! how exits pass -/
theorem Aob {K:Act→World→Prop} {id:Nat} (k:T n (Q (.exit id)) fr L):T n (Exit.then K Q (.exit id)) fr L:=k
theorem Aoc {K:Act→World→Prop} (k:T n (Q .ret) fr L):T n (Exit.then K Q .ret) fr L:=k
theorem Aut {id:Nat} (k:T n (Q .ret) fr L):T n (Exit.inBlock id Q .ret) fr L:=k
theorem Auu {id:Nat} (k:T n (Q .normal) fr L):T n (Exit.inBlock id Q .normal) fr L:=k

/-- What a slot holds may be written otherwise. -/
theorem Ec {s:Nat} {v v':Value} (hs:look fr s=some v) (he:v=v') (k:T n N ((s,v')::fr) L):T n N fr L:=fun a w ha hw=>k a w (ha.known (by rw [hs,he])) hw
/-- So may an entry. -/
theorem SetE.same {i:Nat} {e e':Ent} {L L'} (hL:SetE L i e e' L'):e=e'→L'=L:=by
 induction hL with
 | here=>intro h;rw [h]
 | there _ ih=>intro h;rw [ih h]
theorem En {i:Nat} {e e':Ent} {L'} (hL:SetE L i e e' L') (he:e=e') (k:T n N fr L'):T n N fr L:=by
 rw [hL.same he] at k;exact k
/-- A row of nothing, of no block. -/
theorem Ent.ok_none (w:World) (t:TypeId) (sz:Nat):Ent.ok w (.r none 0 0 t sz []):=⟨by simp,.inl ⟨rfl,rfl⟩⟩
theorem Bt (t:TypeId) (sz:Nat) (k:T n N fr (.r none 0 0 t sz []::L)):T n N fr L:=by
 intro a w ha hw
 refine k a w ha ⟨fun e he=>?_,?_⟩
 ·rcases List.mem_cons.1 he with rfl | he
  ·exact Ent.ok_none w t sz
  ·exact hw.ok e he
 ·rw [List.pairwise_cons]
  exact ⟨fun x hx=>⟨fun g hg=>(by cases hg),fun g hg=>⟨Nat.zero_le _,fun h=>(by cases h)⟩⟩,hw.sep⟩
end
end Go.Proofs.YtbkobeeileemjaaGreat
/- Operations on natural numbers (unsigned ones, and ints that are not negative), in the judgement T; digits. -/
namespace Go.Proofs.YtbkobeeileemjaaGreat
open Go Go.RowKit

/-! ### bounds of the kinds -/
def top:IntKind→Nat
 | .i8=>127 | .i16=>32767 | .i32=>2147483647 | .i64=>9223372036854775807
 | .u8=>255 | .u16=>65535 | .u32=>4294967295 | .u64=>18446744073709551615
theorem Ahe (k:IntKind) (a:Nat) (h:a≤top k):k.wrap (a:Int)=(a:Int):=by
 cases k <;> simp only [top] at h <;> simp [IntKind.wrap,IntKind.bits,IntKind.signed] <;> omega

section
variable {P:Program} {n:Nat} {fr:List (Nat × Value)} {L:List Ent}
variable {dst:Option Tmp} {ty:TypeId} {pos:String} {after:Array Edge} {guard:Option (Nat × Bool)}
variable {t t':TypeId} {x y:Operand} {k k':IntKind}

end

/-! ### digits -/
def val (b:Nat):List Nat→Nat
 | []=>0
 | x::r=>x+b*val b r
def nrm:List Nat→List Nat
 | []=>[]
 | x::r=>match nrm r with
  | []=>if x=0 then [] else [x]
  | y::s=>x::y::s
def digF (b:Nat):Nat→Nat→List Nat
 | 0,_=>[]
 | f+1,m=>if m=0 then [] else m % b::digF b f (m / b)
def dig (b m:Nat):List Nat:=digF b m m

theorem Aru {b:Nat} (hb:2≤b):∀ (m f g:Nat),m≤f→m≤g→digF b f m=digF b g m:=by
 intro m
 induction m using Nat.strongRecOn with
 | _ m ih =>
  intro f g hf hg
  by_cases h0:m=0
  ·subst h0;cases f <;> cases g <;> simp [digF]
  ·match f,g with
   | 0,_=>omega
   | _,0=>omega
   | f+1,g+1 =>
    simp only [digF,if_neg h0]
    have hlt:m / b < m:=Nat.div_lt_self (by omega) (by omega)
    rw [ih (m / b) hlt f g (by omega) (by omega)]
theorem Ac6 (b:Nat):dig b 0=[]:=rfl
theorem Tx {b m:Nat} (hb:2≤b) (h:m≠0):dig b m=m % b::dig b (m / b):=by
 unfold dig
 match m,h with
 | m+1,h =>
  rw [digF,if_neg (by omega)]
  have hlt:(m+1) / b < m+1:=Nat.div_lt_self (by omega) (by omega)
  rw [Aru hb _ m ((m+1) / b) (by omega) (Nat.le_refl _)]
theorem Apz {b m:Nat} (hb:2≤b):dig b m=[]↔m=0:=by
 constructor
 ·intro h
  by_cases h0:m=0
  ·exact h0
  ·rw [Tx hb h0] at h;cases h
 ·rintro rfl;rfl
theorem Lt {b:Nat} (hb:2≤b) (m:Nat):val b (dig b m)=m:=by
 induction m using Nat.strongRecOn with
 | _ m ih =>
  by_cases h0:m=0
  ·subst h0;rfl
  ·rw [Tx hb h0,val,ih (m / b) (Nat.div_lt_self (by omega) (by omega))]
   have:=Nat.div_add_mod m b
   omega
theorem Akq {b:Nat} (hb:2≤b) (m:Nat):∀ x∈dig b m,x < b:=by
 induction m using Nat.strongRecOn with
 | _ m ih =>
  by_cases h0:m=0
  ·subst h0;intro x hx;simp [dig,digF] at hx
  ·rw [Tx hb h0]
   intro x hx
   rcases List.mem_cons.1 hx with rfl | hx
   ·exact Nat.mod_lt _ (by omega)
   ·exact ih (m / b) (Nat.div_lt_self (by omega) (by omega)) x hx
theorem Auv {b:Nat}:∀ (l:List Nat),(∀ x∈l,x < b)→val b l < b ^ l.length
 | [],_=>by simp [val]
 | x::r,h=>by
  have h1:=h x List.mem_cons_self
  have h2:=Auv r (fun y hy=>h y (List.mem_cons_of_mem _ hy))
  rw [val,List.length_cons,Nat.pow_succ]
  have:b*val b r+b≤b*b ^ r.length:=by
   rw [← Nat.mul_succ];exact Nat.mul_le_mul_left _ h2
  rw [Nat.mul_comm (b ^ r.length) b]
  omega
theorem Ahf {b:Nat} (hb:2≤b):∀ (l:List Nat),(∀ x∈l,x < b)→nrm l=dig b (val b l)
 | [],_=>rfl
 | x::r,h=>by
  have h1:=h x List.mem_cons_self
  have ih:=Ahf hb r (fun y hy=>h y (List.mem_cons_of_mem _ hy))
  rw [nrm,val]
  cases hr:nrm r with
  | nil =>
   rw [hr] at ih
   have hv:val b r=0:=(Apz hb).1 ih.symm
   rw [hv]
   simp only [Nat.mul_zero,Nat.add_zero]
   by_cases hx:x=0
   ·subst hx;rfl
   ·rw [if_neg hx,Tx hb hx,Nat.mod_eq_of_lt h1,Nat.div_eq_of_lt h1];rfl
  | cons y s =>
   rw [hr] at ih
   have hv:val b r≠0:=fun h0=>by rw [h0] at ih;cases ih
   have hne:x+b*val b r≠0:=by
    have:0 < b*val b r:=Nat.mul_pos (by omega) (by omega)
    omega
   simp only
   rw [Tx hb hne,Nat.add_mul_mod_self_left,Nat.mod_eq_of_lt h1,Nat.add_mul_div_left _ _ (by omega),Nat.div_eq_of_lt h1,Nat.zero_add,← ih]
theorem Ac7:∀ (l:List Nat),nrm l=l.take (nrm l).length
 | []=>rfl
 | x::r=>by
  have ih:=Ac7 r
  rw [nrm]
  cases hr:nrm r with
  | nil=>by_cases hx:x=0 <;> simp [hx]
  | cons y s=>rw [hr] at ih;simp only [List.length_cons,List.take_succ_cons] at ih ⊢;rw [← ih]
theorem Aod (l:List Nat):(nrm l).length≤l.length:=by
 have:=congrArg List.length (Ac7 l)
 rw [List.length_take] at this
 omega
theorem Ad2:∀ (l:List Nat),(∀ x∈l,x=0)→nrm l=[]
 | [],_=>rfl
 | x::r,h=>by
  rw [nrm,Ad2 r (fun y hy=>h y (List.mem_cons_of_mem _ hy))]
  simp [h x List.mem_cons_self]
theorem Auw:∀ (l:List Nat) (k:Nat),k≤l.length→(∀ j (h:j < l.length),k≤j→l[j]=0)→(∀ _:0 < k,∀ h':k-1 < l.length,l[k-1]≠0)→(nrm l).length=k
 | [],k,hk,_,_=>by simp at hk;subst hk;rfl
 | x::r,0,_,h0,_=>by
  rw [Ad2 (x::r) (fun y hy=>by
   obtain ⟨j,hj,rfl⟩:=List.getElem_of_mem hy
   exact h0 j hj (Nat.zero_le _))];rfl
 | x::r,k+1,hk,h0,h1=>by
  have ih:=Auw r k (by simpa using hk) (fun j hj hkj=>by
   have:=h0 (j+1) (by simpa using hj) (by omega)
   simpa using this) (fun hk0 hk1=>by
   have:=h1 (by omega) (by simp;omega)
   have e:(x::r)[k+1-1]'(by simp;omega)=r[k-1]:=by
    have:k+1-1=(k-1)+1:=by omega
    simp only [this,List.getElem_cons_succ]
   rwa [e] at this)
  rw [nrm]
  cases hr:nrm r with
  | nil =>
   rw [hr] at ih
   simp at ih
   subst ih
   have:=h1 (by omega) (by simp)
   simp at this
   simp [this]
  | cons y s=>rw [hr] at ih;simp at ih ⊢;exact ih
theorem Aas {b:Nat}:∀ (l:List Nat) (j v:Nat) (h:j < l.length),val b (l.set j v)+l[j] * b ^ j=val b l+v*b ^ j
 | x::r,0,v,_=>by simp [val];omega
 | x::r,j+1,v,h=>by
  have hj:j < r.length:=by simpa using h
  have ih:=Aas (b:=b) r j v hj
  simp only [List.set_cons_succ,val,List.getElem_cons_succ,Nat.pow_succ]
  have e1:r[j] * (b ^ j*b)=b*(r[j] * b ^ j):=by grind
  have e2:v*(b ^ j*b)=b*(v*b ^ j):=by grind
  rw [e1,e2]
  have:=congrArg (b * ·) ih
  simp only [Nat.mul_add] at this
  omega
theorem Aat {b:Nat}:∀ (m:Nat),val b (List.replicate m 0)=0
 | 0=>rfl
 | m+1=>by simp [List.replicate_succ,val,Aat m]
theorem Ahg {b:Nat}:∀ (l r:List Nat),val b (l++r)=val b l+b ^ l.length*val b r
 | [],r=>by simp [val]
 | x::l,r=>by
  simp only [List.cons_append,val,Ahg l r,List.length_cons,Nat.pow_succ,Nat.mul_add]
  have:b ^ l.length*b*val b r=b*(b ^ l.length*val b r):=by grind
  omega
theorem Wk {b:Nat} (l:List Nat) (j:Nat) (h:j < l.length):val b (l.take (j+1))=val b (l.take j)+b ^ j*l[j]:=by
 rw [List.take_succ_eq_append_getElem h,Ahg,List.length_take,Nat.min_eq_left (by omega)]
 simp [val]

/-! ### slices that can be read: parts, and slices over the call's own blocks -/
theorem SubE.nil {L}:SubE [] L:=.of fun _ h=>by simp at h
theorem SubE.cons2 {K L e} {i:Nat} (h:nthE L i=some e) (h':SubE K L):SubE (e::K) L:=⟨fun w hw x hx=>by
 rcases List.mem_cons.1 hx with rfl | hx
 ·exact hw _ (Il h)
 ·exact h'.ok w hw _ hx⟩
theorem SubE.tail {K L e} (h:SubE K L):SubE K (e::L):=h.cons
theorem Has.take {α:Type} {K:List Ent} {A:Option Addr} {m c sz:Nat} {enc:α→List Value} {l:List α} (h:Has K A m c sz enc l) {k:Nat} (hk:k≤m):Has K A k c sz enc (l.take k):=by
 have hl:=h.len
 refine ⟨by rw [List.length_take];omega,by have:=h.nc;omega,h.cap,fun x hx=>h.esz x (List.mem_of_mem_take hx),fun h0=>?_⟩
 obtain ⟨b,o,hA,hp⟩:=h.at_ (by omega)
 refine ⟨b,o,hA,fun i hi=>?_⟩
 rw [List.length_take] at hi
 rw [List.getElem_take]
 exact hp i (by omega)
theorem Has.nrm {K:List Ent} {A:Option Addr} {m c:Nat} {enc:Nat→List Value} {l:List Nat} (h:Has K A m c 1 enc l):Has K A (YtbkobeeileemjaaGreat.nrm l).length c 1 enc (YtbkobeeileemjaaGreat.nrm l):=by
 have h1:=Aod l
 have:=h.take (k:=(YtbkobeeileemjaaGreat.nrm l).length) (by rw [← h.len];exact h1)
 rwa [← Ac7] at this
theorem Ya {α:Type} {enc:α→List Value} {sz:Nat}:∀ (l:List α) (i:Nat) (hi:i < l.length),(∀ x∈l,(enc x).length=sz)→∀ (j:Nat) (u:Value),(enc l[i])[j]? = some u→(l.flatMap enc)[i*sz+j]? = some u
 | [],i,hi,_,j,u,hu=>by simp at hi
 | x::r,0,_,he,j,u,hu=>by
  have hlt:j < (enc x).length:=(List.getElem?_eq_some_iff.1 hu).1
  rw [List.flatMap_cons,Nat.zero_mul,Nat.zero_add,List.getElem?_append_left hlt];exact hu
 | x::r,i+1,hi,he,j,u,hu=>by
  have hx:=he x List.mem_cons_self
  rw [List.flatMap_cons,List.getElem?_append_right (by rw [hx,Nat.succ_mul];omega),hx,show (i+1)*sz+j-sz=i*sz+j from by rw [Nat.succ_mul];omega]
  exact Ya r i (by simpa using hi) (fun y hy=>he y (List.mem_cons_of_mem _ hy)) j u (by simpa using hu)
/-- A slice over a whole block that is known. -/
theorem Has.ofM {α:Type} {enc:α→List Value} {sz n:Nat} {l:List α} {g:Nat} {t:TypeId} {cs:List Value} (he:∀ x∈l,(enc x).length=sz) (hn:l.length=n) (hm:n≤maxLen) (hc:cs=l.flatMap enc) :
  Has [.m g t cs] (some ⟨g,0,none⟩) n n sz enc l:=by
 subst hc
 refine ⟨hn,Nat.le_refl _,hm,he,fun _=>⟨g,0,rfl,fun i hi w hw j u hu=>?_⟩⟩
 rw [Vu (hw _ (List.mem_singleton.2 rfl)),Nat.zero_add]
 exact Ya l i hi he j u hu
theorem Has.nil {α:Type} {K:List Ent} {sz:Nat} {enc:α→List Value}:Has K none 0 0 sz enc []:=⟨rfl,Nat.le_refl _,Nat.zero_le _,fun _ h=>by simp at h,fun h=>absurd h (by omega)⟩
theorem Qe {K L:List Ent} {w:World} (h:SubE K L) (hw:Heap L w):∀ e∈K,Ent.ok w e:=h.ok w hw.ok
theorem Has.sl {α:Type} {K:List Ent} {w:World} {A n c sz} {enc:α→List Value} {l:List α} (h:Has K A n c sz enc l) (hK:∀ e∈K,Ent.ok w e):Sl w A n c sz enc l:=by
 refine ⟨h.len,h.nc,h.cap,h.esz,fun hn=>?_⟩
 obtain ⟨b,o,hA,hc⟩:=h.at_ hn
 exact ⟨b,o,hA,fun i hi j u hu=>hc i hi w hK j u hu⟩
end Go.Proofs.YtbkobeeileemjaaGreat
/- The plain laws of the arithmetic on lists of words. -/
namespace Go.Proofs.YtbkobeeileemjaaGreat
open Go Go.RowKit

theorem Arv (m:Nat) (hm:m≤18446744073709551615):nrm [m % 4294967296,m / 4294967296 % 4294967296]=dig 4294967296 m:=by
 rw [Ahf (b:=4294967296) (by omega) _ (by intro x hx;simp at hx;omega)]
 congr 1
 simp only [val]
 omega
theorem Amm {a b:Nat} (ha:a < 4294967296) (hb:b < 4294967296):a*b≤18446744065119617025:=by
 have:a*b≤4294967295*4294967295:=Nat.mul_le_mul (by omega) (by omega)
 omega
theorem Uu {l:List Nat} {j v b:Nat} (h:∀ x∈l,x < b) (hv:v < b):∀ x∈l.set j v,x < b:=by
 intro x hx
 rcases List.mem_or_eq_of_mem_set hx with h' | h'
 ·exact h x h'
 ·rw [h'];exact hv
theorem Arw {l r out out0:List Nat} {n m i j cy:Nat} (hi:i < l.length) (hj:j < r.length) (_:l.length=n) (hm:r.length=m) (h1:l[i] < 4294967296) (h2:r[j] < 4294967296)
  (hD1:out.length=n+m) (hD2:cy < 4294967296) (_:j≤m) (hD4:∀ x∈out,x < 4294967296) (hD5:∀ (q:Nat) (h:q < out.length),i+m≤q→out[q]=0)
  (hD6:val 4294967296 out+cy*4294967296 ^ (i+j)=val 4294967296 out0+l[i] * val 4294967296 (r.take j)*4294967296 ^ i) (hk:i+j < out.length) :
  (out.set (i+j) ((l[i] * r[j] + out[i+j] + cy) % 4294967296)).length=n+m∧(l[i] * r[j] + out[i+j] + cy) / 4294967296 < 4294967296∧j+1≤m ∧
   (∀ x∈out.set (i+j) ((l[i] * r[j] + out[i+j] + cy) % 4294967296),x < 4294967296) ∧
   (∀ (q:Nat) (h:q < (out.set (i+j) ((l[i] * r[j] + out[i+j] + cy) % 4294967296)).length),i+m≤q→(out.set (i+j) ((l[i] * r[j] + out[i+j] + cy) % 4294967296))[q]=0) ∧
   val 4294967296 (out.set (i+j) ((l[i] * r[j] + out[i+j] + cy) % 4294967296))+(l[i] * r[j] + out[i+j] + cy) / 4294967296*4294967296 ^ (i+(j+1)) =
    val 4294967296 out0+l[i] * val 4294967296 (r.take (j+1))*4294967296 ^ i:=by
 have h3:=hD4 out[i+j] (List.getElem_mem hk)
 have hmm:=Amm h1 h2
 refine ⟨by simp [hD1],by omega,by omega,Uu hD4 (Nat.mod_lt _ (by omega)),fun q hq hiq=>?_,?_⟩
 ·rw [List.getElem_set_ne (by omega)]
  exact hD5 q (by simpa using hq) hiq
 ·have hs:=Aas (b:=4294967296) out (i+j) ((l[i] * r[j] + out[i+j] + cy) % 4294967296) hk
  rw [Wk r j hj]
  generalize hV:val 4294967296 (out.set (i+j) ((l[i] * r[j] + out[i+j] + cy) % 4294967296))=V at hs ⊢
  have hdm:=Nat.div_add_mod (l[i] * r[j] + out[i+j] + cy) 4294967296
  generalize (l[i] * r[j] + out[i+j] + cy) / 4294967296=q at hdm ⊢
  generalize (l[i] * r[j] + out[i+j] + cy) % 4294967296=t at hdm hs
  have hp:(4294967296:Nat) ^ (i+(j+1))=4294967296 ^ (i+j)*4294967296:=by rw [← Nat.add_assoc,Nat.pow_succ]
  have hp2:(4294967296:Nat) ^ (i+j)=4294967296 ^ i*4294967296 ^ j:=Nat.pow_add _ _ _
  rw [hp]
  rw [hp2] at hs hD6 ⊢
  generalize (4294967296:Nat) ^ i=P at *
  generalize (4294967296:Nat) ^ j=R at *
  generalize val 4294967296 (r.take j)=W at *
  generalize val 4294967296 out=O at *
  generalize val 4294967296 out0=O0 at *
  generalize l[i]=a at *
  generalize r[j]=c at *
  generalize out[i+j]=o at *
  have e:=congrArg (· * (P*R)) hdm

  grind
theorem Arx {l r out out0:List Nat} {n m i j cy:Nat} (hi:i < l.length) (hn:l.length=n) (hm:r.length=m) (hD1:out.length=n+m) (hD2:cy < 4294967296) (hD4:∀ x∈out,x < 4294967296)
  (hD5:∀ (q:Nat) (h:q < out.length),i+m≤q→out[q]=0)
  (hD6:val 4294967296 out+cy*4294967296 ^ (i+j)=val 4294967296 out0+l[i] * val 4294967296 (r.take j)*4294967296 ^ i)
  (hC5:val 4294967296 out0=val 4294967296 (l.take i)*val 4294967296 r) (hj:j=m) :
  (out.set (i+m) (cy % 4294967296)).length=n+m∧i+1≤n∧(∀ x∈out.set (i+m) (cy % 4294967296),x < 4294967296) ∧
   (∀ (q:Nat) (h:q < (out.set (i+m) (cy % 4294967296)).length),i+1+m≤q→(out.set (i+m) (cy % 4294967296))[q]=0) ∧
   val 4294967296 (out.set (i+m) (cy % 4294967296))=val 4294967296 (l.take (i+1))*val 4294967296 r:=by
 subst hj
 rw [Nat.mod_eq_of_lt hD2]
 refine ⟨by simp [hD1],by omega,Uu hD4 hD2,fun q hq hiq=>?_,?_⟩
 ·rw [List.getElem_set_ne (by omega)]
  exact hD5 q (by simpa using hq) (by omega)
 ·have hk:i+j < out.length:=by omega
  have hs:=Aas (b:=4294967296) out (i+j) cy hk
  rw [hD5 (i+j) hk (Nat.le_refl _)] at hs
  rw [Wk l i hi]
  rw [List.take_of_length_le (by omega)] at hD6
  rw [hC5] at hD6
  rw [Nat.add_mul]
  have:4294967296 ^ i*l[i] * val 4294967296 r=l[i] * val 4294967296 r*4294967296 ^ i:=by grind
  omega
theorem Aux {l r out:List Nat} {n m i:Nat} (hi:i=n) (hn:l.length=n) (hC1:out.length=n+m) (hC3:∀ x∈out,x < 4294967296)
  (hC5:val 4294967296 out=val 4294967296 (l.take i)*val 4294967296 r):nrm out=dig 4294967296 (val 4294967296 l*val 4294967296 r):=by
 subst hi
 rw [Ahf (b:=4294967296) (by omega) out hC3,hC5,List.take_of_length_le (by omega)]
theorem Ap0 {b:Nat} (hb:2≤b):dig b 1=[1]:=by
 rw [Tx hb (by omega),Nat.mod_eq_of_lt (by omega),Nat.div_eq_of_lt (by omega)];rfl
theorem Ap1 {b : Nat} (hb : 2 ≤ b) : ∀ (k m : Nat), m < b ^ k → (dig b m).length ≤ k := by
  intro k
  induction k with
  | zero => intro m hm; have : m = 0 := by simpa using hm
            subst this; simp [Ac6]
  | succ k ih =>
    intro m hm
    by_cases h0 : m = 0
    · subst h0; simp [Ac6]
    · rw [Tx hb h0, List.length_cons]
      have := ih (m / b) (Nat.div_lt_of_lt_mul (by rw [Nat.pow_succ] at hm; rw [Nat.mul_comm]; exact hm))
      omega
end Go.Proofs.YtbkobeeileemjaaGreat
/- Copies of whole slices into own rows. -/
namespace Go.Proofs.YtbkobeeileemjaaGreat
open Go Go.RowKit
variable {P:Program} {n:Nat} {N:Act→World→Prop} {Q:Exit→Act→World→Prop} {fr:List (Nat × Value)} {L:List Ent}

/-! ### comparison of digits -/
def cmpN (x y:Nat):Int:=if x < y then -1 else if x=y then 0 else 1
theorem Akr {b:Nat} (hb:0 < b):∀ (l r:List Nat) (k:Nat) (hk:k < l.length) (hk':k < r.length),l.length=r.length→(∀ x∈l,x < b)→(∀ (j:Nat) (h:j < l.length) (h':j < r.length),k < j→l[j]=r[j])→l[k] < r[k]→val b l < val b r
 | [],_,_,hk,_,_,_,_,_=>by simp at hk
 | _::_,[],_,_,hk',_,_,_,_=>by simp at hk'
 | x::l,y::r,0,_,_,hlen,_,heq,hlt=>by
  have:l=r:=List.ext_getElem (by simpa using hlen) (fun j h1 h2=>heq (j+1) (by simpa using h1) (by simpa using h2) (by omega))
  subst this
  simp only [val]
  simpa using hlt
 | x::l,y::r,k+1,hk,hk',hlen,hl,heq,hlt=>by
  have ih:=Akr hb l r k (by simpa using hk) (by simpa using hk') (by simpa using hlen) (fun z hz=>hl z (List.mem_cons_of_mem _ hz))
   (fun j h1 h2 hj=>heq (j+1) (by simpa using h1) (by simpa using h2) (by omega)) (by simpa using hlt)
  have hx:=hl x List.mem_cons_self
  simp only [val]
  have:=Nat.mul_le_mul_left b (Nat.succ_le_of_lt ih)
  rw [Nat.succ_eq_add_one,Nat.mul_add] at this
  omega
theorem Abt {b x y : Nat} (hb : 2 ≤ b) (h : (dig b x).length < (dig b y).length) : x < y := by
  rcases Nat.lt_or_ge x y with h1 | h1
  · exact h1
  · exfalso
    have mono : ∀ (k x y : Nat), y ≤ k → y ≤ x → (dig b y).length ≤ (dig b x).length := by
      intro k
      induction k with
      | zero => intro x y hy _; have : y = 0 := by omega
                subst this; simp [Ac6]
      | succ k ih =>
        intro x y hy hxy
        by_cases h0 : y = 0
        · subst h0; simp [Ac6]
        · rw [Tx hb h0, Tx hb (show x ≠ 0 by omega)]
          have : y / b < y := Nat.div_lt_self (by omega) hb
          have := ih (x / b) (y / b) (by omega) (Nat.div_le_div_right hxy)
          simpa using this
    have := mono y x y (Nat.le_refl _) h1
    omega
theorem Ap2 {b x y:Nat} (hb:2≤b) {n m:Nat} (h1:(dig b x).length=n) (h2:(dig b y).length=m):(n < m→cmpN x y = -1)∧(m < n→cmpN x y=1):=by
 subst h1;subst h2
 constructor
 ·intro h;have:=Abt hb h;simp [cmpN,this]
 ·intro h;have:=Abt hb h;simp only [cmpN];rw [if_neg (by omega),if_neg (by omega)]
theorem Azf {b x y:Nat} (hb:2≤b) {k:Nat} (hlen:(dig b x).length=(dig b y).length) (hk:k < (dig b x).length) (hk':k < (dig b y).length)
  (heq:∀ (j:Nat) (h:j < (dig b x).length) (h':j < (dig b y).length),k < j→(dig b x)[j]=(dig b y)[j]) :
  ((dig b x)[k] < (dig b y)[k]→cmpN x y = -1)∧((dig b y)[k] < (dig b x)[k]→cmpN x y=1):=by
 constructor
 ·intro h
  have:=Akr (b:=b) (by omega) _ _ k hk hk' hlen (Akq hb x) heq h
  rw [Lt hb,Lt hb] at this
  simp [cmpN,this]
 ·intro h
  have:=Akr (b:=b) (by omega) _ _ k hk' hk hlen.symm (Akq hb y) (fun j h1 h2 hj=>(heq j h2 h1 hj).symm) h
  rw [Lt hb,Lt hb] at this
  simp only [cmpN];rw [if_neg (by omega),if_neg (by omega)]
theorem Azg {b x y:Nat} (hb:2≤b) (hlen:(dig b x).length=(dig b y).length) (heq:∀ (j:Nat) (h:j < (dig b x).length) (h':j < (dig b y).length),(dig b x)[j]=(dig b y)[j]):cmpN x y=0:=by
 have:dig b x=dig b y:=List.ext_getElem hlen heq
 have h2:=congrArg (val b) this
 rw [Lt hb,Lt hb] at h2
 simp [cmpN,h2]
/-! ### lists of entries that a contract is given -/
theorem Aye {K K2 L:List Ent} {w w1:World} (hK:∀ e∈K,Ent.ok w e) (h0:SubE [.old w] L) (h:SubE K2 L) (hw:Heap L w1):∀ e∈K++K2,Ent.ok w1 e:=by
 intro e he
 rcases List.mem_append.1 he with he | he
 ·exact Ent.ext (hK e he) (h0.ok w1 hw.ok _ List.mem_cons_self)
 ·exact h.ok w1 hw.ok e he
/-! ### digits by division -/
end Go.Proofs.YtbkobeeileemjaaGreat
