/- Ghost steps of the judgement T: cases, cuts, elements of slices. -/
import Derived.Test.YtbkobeeileemjaaGreatDraw
import Derived.LoopN
namespace Go.Proofs.YtbkobeeileemjaaGreat
open Go Go.RowKit

section
variable {P:Program} {n:Nat} {N:Act→World→Prop} {Q:Exit→Act→World→Prop} {fr:List (Nat × Value)} {L:List Ent}

theorem Fr.known {a s v} (h:Fr n fr a) (hs:look fr s=some v):Fr n ((s,v)::fr) a:=by
 refine ⟨h.nod,h.size,fun t u hu=>?_⟩
 simp only [look] at hu
 cases hb:Nat.beq s t with
 | true =>
  rw [hb] at hu
  have e:=Nat.eq_of_beq_eq_true hb
  subst e
  simp only [cond_true,Option.some.injEq] at hu
  subst hu
  exact h.val _ _ hs
 | false=>rw [hb] at hu;exact h.val t u hu
theorem Do {s:Nat} {b:Bool} (hs:look fr s=some (.bool b)) (ht:b=true→T n N ((s,.bool true)::fr) L) (hf:b=false→T n N ((s,.bool false)::fr) L):T n N fr L:=by
 intro a w ha hw
 cases b with
 | true=>exact ht rfl a w (ha.known hs) hw
 | false=>exact hf rfl a w (ha.known hs) hw
theorem Ah7 {s:Nat} {p:Prop} [Decidable p] (hs:look fr s=some (.bool (decide p))) (ht:p→T n N ((s,.bool true)::fr) L) (hf:¬ p→T n N ((s,.bool false)::fr) L):T n N fr L :=
 Do hs (fun h=>ht (of_decide_eq_true h)) (fun h=>hf (of_decide_eq_false h))
theorem Mz {s:Nat} {b:Bool} (hs:look fr s=some (.bool (!b))) (ht:b=false→T n N ((s,.bool true)::fr) L) (hf:b=true→T n N ((s,.bool false)::fr) L):T n N fr L :=
 Do hs (fun h=>ht (by simpa using h)) (fun h=>hf (by simpa using h))
theorem Wp {s:Nat} {p:Prop} [Decidable p] (hs:look fr s=some (.bool (!decide p))) (ht:¬ p→T n N ((s,.bool true)::fr) L) (hf:p→T n N ((s,.bool false)::fr) L):T n N fr L :=
 Mz hs (fun h=>ht (of_decide_eq_false h)) (fun h=>hf (of_decide_eq_true h))

/-! how exits pass -/
theorem Ag1 {K:Act→World→Prop} {id:Nat} (k:T n (Q (.exit id)) fr L):T n (Exit.then K Q (.exit id)) fr L:=k
theorem Ag2 {K:Act→World→Prop} (k:T n (Q .ret) fr L):T n (Exit.then K Q .ret) fr L:=k
theorem Alk {id:Nat} (k:T n (Q .ret) fr L):T n (Exit.inBlock id Q .ret) fr L:=k
theorem Alm {id:Nat} (k:T n (Q .normal) fr L):T n (Exit.inBlock id Q .normal) fr L:=k

/-- What a slot holds may be written otherwise. -/
theorem Ji {s:Nat} {v v':Value} (hs:look fr s=some v) (he:v=v') (k:T n N ((s,v')::fr) L):T n N fr L:=fun a w ha hw=>k a w (ha.known (by rw [hs,he])) hw
/-- So may an entry. -/
theorem SetE.same {i:Nat} {e e':Ent} {L L'} (hL:SetE L i e e' L'):e=e'→L'=L:=by
 induction hL with
 | here=>intro h;rw [h]
 | there _ ih=>intro h;rw [ih h]
theorem Hw {i:Nat} {e e':Ent} {L'} (hL:SetE L i e e' L') (he:e=e') (k:T n N fr L'):T n N fr L:=by
 rw [hL.same he] at k;exact k
/-- A row of nothing, of no block. -/
theorem Ent.ok_none (w:World) (t:TypeId) (sz:Nat):Ent.ok w (.r none 0 0 t sz []):=⟨by simp,.inl ⟨rfl,rfl⟩⟩
theorem Ba (t:TypeId) (sz:Nat) (k:T n N fr (.r none 0 0 t sz []::L)):T n N fr L:=by
 intro a w ha hw
 refine k a w ha ⟨fun e he=>?_,?_⟩
 ·rcases List.mem_cons.1 he with rfl | he
  ·exact Ent.ok_none w t sz
  ·exact hw.ok e he
 ·rw [List.pairwise_cons]
  exact ⟨fun x hx=>⟨fun g hg=>(by cases hg),fun g hg=>⟨Nat.zero_le _,fun h=>(by cases h)⟩⟩,hw.sep⟩
end
end Go.Proofs.YtbkobeeileemjaaGreat
/- Operations on natural numbers (unsigned ones, and ints that are not negative), in the judgement T; digits. -/
namespace Go.Proofs.YtbkobeeileemjaaGreat
open Go Go.RowKit

/-! ### bounds of the kinds -/
def top:IntKind→Nat
 | .i8=>127 | .i16=>32767 | .i32=>2147483647 | .i64=>9223372036854775807
 | .u8=>255 | .u16=>65535 | .u32=>4294967295 | .u64=>18446744073709551615
theorem Aa7 (k:IntKind) (a:Nat) (h:a≤top k):k.wrap (a:Int)=(a:Int):=by
 cases k <;> simp only [top] at h <;> simp [IntKind.wrap,IntKind.bits,IntKind.signed] <;> omega

section
variable {P:Program} {n:Nat} {fr:List (Nat × Value)} {L:List Ent}
variable {dst:Option Tmp} {ty:TypeId} {pos:String} {after:Array Edge} {guard:Option (Nat × Bool)}
variable {t t':TypeId} {x y:Operand} {k k':IntKind}

end

/-! ### digits -/
def val (b:Nat):List Nat→Nat
 | []=>0
 | x::r=>x+b*val b r
def nrm:List Nat→List Nat
 | []=>[]
 | x::r=>match nrm r with
  | []=>if x=0 then [] else [x]
  | y::s=>x::y::s
def digF (b:Nat):Nat→Nat→List Nat
 | 0,_=>[]
 | f+1,m=>if m=0 then [] else m % b::digF b f (m / b)
def dig (b m:Nat):List Nat:=digF b m m

theorem Ajp {b:Nat} (hb:2≤b):∀ (m f g:Nat),m≤f→m≤g→digF b f m=digF b g m:=by
 intro m
 induction m using Nat.strongRecOn with
 | _ m ih =>
  intro f g hf hg
  by_cases h0:m=0
  ·subst h0;cases f <;> cases g <;> simp [digF]
  ·match f,g with
   | 0,_=>omega
   | _,0=>omega
   | f+1,g+1 =>
    simp only [digF,if_neg h0]
    have hlt:m / b < m:=Nat.div_lt_self (by omega) (by omega)
    rw [ih (m / b) hlt f g (by omega) (by omega)]
theorem Rd (b:Nat):dig b 0=[]:=rfl
theorem Mb {b m:Nat} (hb:2≤b) (h:m≠0):dig b m=m % b::dig b (m / b):=by
 unfold dig
 match m,h with
 | m+1,h =>
  rw [digF,if_neg (by omega)]
  have hlt:(m+1) / b < m+1:=Nat.div_lt_self (by omega) (by omega)
  rw [Ajp hb _ m ((m+1) / b) (by omega) (Nat.le_refl _)]
theorem Ah8 {b m:Nat} (hb:2≤b):dig b m=[]↔m=0:=by
 constructor
 ·intro h
  by_cases h0:m=0
  ·exact h0
  ·rw [Mb hb h0] at h;cases h
 ·rintro rfl;rfl
theorem In {b:Nat} (hb:2≤b) (m:Nat):val b (dig b m)=m:=by
 induction m using Nat.strongRecOn with
 | _ m ih =>
  by_cases h0:m=0
  ·subst h0;rfl
  ·rw [Mb hb h0,val,ih (m / b) (Nat.div_lt_self (by omega) (by omega))]
   have:=Nat.div_add_mod m b
   omega
theorem Aa8 {b:Nat} (hb:2≤b) (m:Nat):∀ x∈dig b m,x < b:=by
 induction m using Nat.strongRecOn with
 | _ m ih =>
  by_cases h0:m=0
  ·subst h0;intro x hx;simp [dig,digF] at hx
  ·rw [Mb hb h0]
   intro x hx
   rcases List.mem_cons.1 hx with rfl | hx
   ·exact Nat.mod_lt _ (by omega)
   ·exact ih (m / b) (Nat.div_lt_self (by omega) (by omega)) x hx
theorem Aln {b:Nat}:∀ (l:List Nat),(∀ x∈l,x < b)→val b l < b ^ l.length
 | [],_=>by simp [val]
 | x::r,h=>by
  have h1:=h x List.mem_cons_self
  have h2:=Aln r (fun y hy=>h y (List.mem_cons_of_mem _ hy))
  rw [val,List.length_cons,Nat.pow_succ]
  have:b*val b r+b≤b*b ^ r.length:=by
   rw [← Nat.mul_succ];exact Nat.mul_le_mul_left _ h2
  rw [Nat.mul_comm (b ^ r.length) b]
  omega
theorem Vm {b:Nat} (hb:2≤b):∀ (l:List Nat),(∀ x∈l,x < b)→nrm l=dig b (val b l)
 | [],_=>rfl
 | x::r,h=>by
  have h1:=h x List.mem_cons_self
  have ih:=Vm hb r (fun y hy=>h y (List.mem_cons_of_mem _ hy))
  rw [nrm,val]
  cases hr:nrm r with
  | nil =>
   rw [hr] at ih
   have hv:val b r=0:=(Ah8 hb).1 ih.symm
   rw [hv]
   simp only [Nat.mul_zero,Nat.add_zero]
   by_cases hx:x=0
   ·subst hx;rfl
   ·rw [if_neg hx,Mb hb hx,Nat.mod_eq_of_lt h1,Nat.div_eq_of_lt h1];rfl
  | cons y s =>
   rw [hr] at ih
   have hv:val b r≠0:=fun h0=>by rw [h0] at ih;cases ih
   have hne:x+b*val b r≠0:=by
    have:0 < b*val b r:=Nat.mul_pos (by omega) (by omega)
    omega
   simp only
   rw [Mb hb hne,Nat.add_mul_mod_self_left,Nat.mod_eq_of_lt h1,Nat.add_mul_div_left _ _ (by omega),Nat.div_eq_of_lt h1,Nat.zero_add,← ih]
theorem Wq:∀ (l:List Nat),nrm l=l.take (nrm l).length
 | []=>rfl
 | x::r=>by
  have ih:=Wq r
  rw [nrm]
  cases hr:nrm r with
  | nil=>by_cases hx:x=0 <;> simp [hx]
  | cons y s=>rw [hr] at ih;simp only [List.length_cons,List.take_succ_cons] at ih ⊢;rw [← ih]
theorem Ag3 (l:List Nat):(nrm l).length≤l.length:=by
 have:=congrArg List.length (Wq l)
 rw [List.length_take] at this
 omega
theorem Xx:∀ (l:List Nat),(∀ x∈l,x=0)→nrm l=[]
 | [],_=>rfl
 | x::r,h=>by
  rw [nrm,Xx r (fun y hy=>h y (List.mem_cons_of_mem _ hy))]
  simp [h x List.mem_cons_self]
theorem Alo:∀ (l:List Nat) (k:Nat),k≤l.length→(∀ j (h:j < l.length),k≤j→l[j]=0)→(∀ h:0 < k,∀ h':k-1 < l.length,l[k-1]≠0)→(nrm l).length=k
 | [],k,hk,_,_=>by simp at hk;subst hk;rfl
 | x::r,0,_,h0,_=>by
  rw [Xx (x::r) (fun y hy=>by
   obtain ⟨j,hj,rfl⟩:=List.getElem_of_mem hy
   exact h0 j hj (Nat.zero_le _))];rfl
 | x::r,k+1,hk,h0,h1=>by
  have ih:=Alo r k (by simpa using hk) (fun j hj hkj=>by
   have:=h0 (j+1) (by simpa using hj) (by omega)
   simpa using this) (fun hk0 hk1=>by
   have:=h1 (by omega) (by simp;omega)
   have e:(x::r)[k+1-1]'(by simp;omega)=r[k-1]:=by
    have:k+1-1=(k-1)+1:=by omega
    simp only [this,List.getElem_cons_succ]
   rwa [e] at this)
  rw [nrm]
  cases hr:nrm r with
  | nil =>
   rw [hr] at ih
   simp at ih
   subst ih
   have:=h1 (by omega) (by simp)
   simp at this
   simp [this]
  | cons y s=>rw [hr] at ih;simp at ih ⊢;exact ih
theorem Um {b:Nat}:∀ (l:List Nat) (j v:Nat) (h:j < l.length),val b (l.set j v)+l[j] * b ^ j=val b l+v*b ^ j
 | x::r,0,v,_=>by simp [val];omega
 | x::r,j+1,v,h=>by
  have hj:j < r.length:=by simpa using h
  have ih:=Um (b:=b) r j v hj
  simp only [List.set_cons_succ,val,List.getElem_cons_succ,Nat.pow_succ]
  have e1:r[j] * (b ^ j*b)=b*(r[j] * b ^ j):=by grind
  have e2:v*(b ^ j*b)=b*(v*b ^ j):=by grind
  rw [e1,e2]
  have:=congrArg (b * ·) ih
  simp only [Nat.mul_add] at this
  omega
theorem Un {b:Nat}:∀ (m:Nat),val b (List.replicate m 0)=0
 | 0=>rfl
 | m+1=>by simp [List.replicate_succ,val,Un m]
theorem Aa9 {b:Nat}:∀ (l r:List Nat),val b (l++r)=val b l+b ^ l.length*val b r
 | [],r=>by simp [val]
 | x::l,r=>by
  simp only [List.cons_append,val,Aa9 l r,List.length_cons,Nat.pow_succ,Nat.mul_add]
  have:b ^ l.length*b*val b r=b*(b ^ l.length*val b r):=by grind
  omega
theorem Qm {b:Nat} (l:List Nat) (j:Nat) (h:j < l.length):val b (l.take (j+1))=val b (l.take j)+b ^ j*l[j]:=by
 rw [List.take_succ_eq_append_getElem h,Aa9,List.length_take,Nat.min_eq_left (by omega)]
 simp [val]

/-! ### slices that can be read: parts, and slices over the call's own blocks -/
theorem SubE.nil {L}:SubE [] L:=.of fun _ h=>by simp at h
theorem SubE.cons2 {K L e} {i:Nat} (h:nthE L i=some e) (h':SubE K L):SubE (e::K) L:=⟨fun w hw x hx=>by
 rcases List.mem_cons.1 hx with rfl | hx
 ·exact hw _ (Ey h)
 ·exact h'.ok w hw _ hx⟩
theorem SubE.tail {K L e} (h:SubE K L):SubE K (e::L):=h.cons
theorem Has.take {α:Type} {K:List Ent} {A:Option Addr} {m c sz:Nat} {enc:α→List Value} {l:List α} (h:Has K A m c sz enc l) {k:Nat} (hk:k≤m):Has K A k c sz enc (l.take k):=by
 have hl:=h.len
 refine ⟨by rw [List.length_take];omega,by have:=h.nc;omega,h.cap,fun x hx=>h.esz x (List.mem_of_mem_take hx),fun h0=>?_⟩
 obtain ⟨b,o,hA,hp⟩:=h.at_ (by omega)
 refine ⟨b,o,hA,fun i hi=>?_⟩
 rw [List.length_take] at hi
 rw [List.getElem_take]
 exact hp i (by omega)
theorem Has.nrm {K:List Ent} {A:Option Addr} {m c:Nat} {enc:Nat→List Value} {l:List Nat} (h:Has K A m c 1 enc l):Has K A (YtbkobeeileemjaaGreat.nrm l).length c 1 enc (YtbkobeeileemjaaGreat.nrm l):=by
 have h1:=Ag3 l
 have:=h.take (k:=(YtbkobeeileemjaaGreat.nrm l).length) (by rw [← h.len];exact h1)
 rwa [← Wq] at this
theorem Uo {α:Type} {enc:α→List Value} {sz:Nat}:∀ (l:List α) (i:Nat) (hi:i < l.length),(∀ x∈l,(enc x).length=sz)→∀ (j:Nat) (u:Value),(enc l[i])[j]? = some u→(l.flatMap enc)[i*sz+j]? = some u
 | [],i,hi,_,j,u,hu=>by simp at hi
 | x::r,0,_,he,j,u,hu=>by
  have hlt:j < (enc x).length:=(List.getElem?_eq_some_iff.1 hu).1
  rw [List.flatMap_cons,Nat.zero_mul,Nat.zero_add,List.getElem?_append_left hlt];exact hu
 | x::r,i+1,hi,he,j,u,hu=>by
  have hx:=he x List.mem_cons_self
  rw [List.flatMap_cons,List.getElem?_append_right (by rw [hx,Nat.succ_mul];omega),hx,show (i+1)*sz+j-sz=i*sz+j from by rw [Nat.succ_mul];omega]
  exact Uo r i (by simpa using hi) (fun y hy=>he y (List.mem_cons_of_mem _ hy)) j u (by simpa using hu)
theorem Has.small {α:Type} {K:List Ent} {A:Option Addr} {m c sz:Nat} {enc:α→List Value} {l:List α} (h:Has K A m c sz enc l):m≤c∧c≤9223372036854775807:=⟨h.nc,by have:=h.cap;unfold maxLen at this;omega⟩
/-- A slice over a whole block that is known. -/
theorem Has.ofM {α:Type} {enc:α→List Value} {sz n:Nat} {l:List α} {g:Nat} {t:TypeId} {cs:List Value} (he:∀ x∈l,(enc x).length=sz) (hn:l.length=n) (hm:n≤maxLen) (hc:cs=l.flatMap enc) :
  Has [.m g t cs] (some ⟨g,0,none⟩) n n sz enc l:=by
 subst hc
 refine ⟨hn,Nat.le_refl _,hm,he,fun _=>⟨g,0,rfl,fun i hi w hw j u hu=>?_⟩⟩
 rw [Qg (hw _ (List.mem_singleton.2 rfl)),Nat.zero_add]
 exact Uo l i hi he j u hu
theorem Has.nil {α:Type} {K:List Ent} {sz:Nat} {enc:α→List Value}:Has K none 0 0 sz enc []:=⟨rfl,Nat.le_refl _,Nat.zero_le _,fun _ h=>by simp at h,fun h=>absurd h (by omega)⟩
theorem Jj {K L:List Ent} {w:World} (h:SubE K L) (hw:Heap L w):∀ e∈K,Ent.ok w e:=h.ok w hw.ok
theorem Has.sl {α:Type} {K:List Ent} {w:World} {A n c sz} {enc:α→List Value} {l:List α} (h:Has K A n c sz enc l) (hK:∀ e∈K,Ent.ok w e):Sl w A n c sz enc l:=by
 refine ⟨h.len,h.nc,h.cap,h.esz,fun hn=>?_⟩
 obtain ⟨b,o,hA,hc⟩:=h.at_ hn
 exact ⟨b,o,hA,fun i hi j u hu=>hc i hi w hK j u hu⟩
end Go.Proofs.YtbkobeeileemjaaGreat
