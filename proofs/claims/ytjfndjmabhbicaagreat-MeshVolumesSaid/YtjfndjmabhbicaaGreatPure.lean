/- Ghost steps of the judgement T: cases, cuts, elements of slices. -/
import Derived.Test.YtjfndjmabhbicaaGreatDraw
import Derived.LoopN
import Derived.Laws.IdiomCopy
import Derived.Laws.StructEq
namespace Go.Proofs.YtjfndjmabhbicaaGreat
open Go Go.RowKit

section
variable {P:Program} {n:Nat} {N:Act->World->Prop} {Q:Exit->Act->World->Prop} {fr:List (Nat × Value)} {L:List Ent}

theorem Fr.known {a s v} (h:Fr n fr a) (hs:look fr s=some v):Fr n ((s,v)::fr) a:=by
 refine ⟨h.nod,h.size,fun t u hu=>?_⟩
 simp only[look] at hu
 cases hb:Nat.beq s t with
 | true=>
  rw[hb] at hu
  have e:=Nat.eq_of_beq_eq_true hb
  subst e
  simp only[cond_true,Option.some.injEq] at hu
  subst hu
  exact h.val _ _ hs
 | false=>rw[hb] at hu;exact h.val t u hu
theorem Hr {s:Nat} {b:Bool} (hs:look fr s=some (.bool b)) (ht:b=true->T n N ((s,.bool true)::fr) L) (hf:b=false->T n N ((s,.bool false)::fr) L):T n N fr L:=by
 intro a w ha hw
 cases b with
 | true=>exact ht rfl a w (ha.known hs) hw
 | false=>exact hf rfl a w (ha.known hs) hw
theorem An7 {s:Nat} {p:Prop} [Decidable p] (hs:look fr s=some (.bool (decide p))) (ht:p->T n N ((s,.bool true)::fr) L) (hf:¬ p->T n N ((s,.bool false)::fr) L):T n N fr L :=
 Hr hs (fun h=>ht (of_decide_eq_true h)) (fun h=>hf (of_decide_eq_false h))
theorem Abf {s:Nat} {b:Bool} (hs:look fr s=some (.bool (!b))) (ht:b=false->T n N ((s,.bool true)::fr) L) (hf:b=true->T n N ((s,.bool false)::fr) L):T n N fr L :=
 Hr hs (fun h=>ht (by simpa using h)) (fun h=>hf (by simpa using h))
theorem Afc {s:Nat} {p:Prop} [Decidable p] (hs:look fr s=some (.bool (!decide p))) (ht:¬ p->T n N ((s,.bool true)::fr) L) (hf:p->T n N ((s,.bool false)::fr) L):T n N fr L :=
 Abf hs (fun h=>ht (of_decide_eq_false h)) (fun h=>hf (of_decide_eq_true h))

theorem As5 {K:Act->World->Prop} {id:Nat} (k:T n (Q (.exit id)) fr L):T n (Exit.then K Q (.exit id)) fr L:=k
theorem As6 {K:Act->World->Prop} (k:T n (Q .ret) fr L):T n (Exit.then K Q .ret) fr L:=k
theorem Axc {id:Nat} (k:T n (Q .ret) fr L):T n (Exit.inBlock id Q .ret) fr L:=k
theorem Axd {id:Nat} (k:T n (Q .normal) fr L):T n (Exit.inBlock id Q .normal) fr L:=k

theorem Aca {s:Nat} {v v':Value} (hs:look fr s=some v) (he:v=v') (k:T n N ((s,v')::fr) L):T n N fr L:=fun a w ha hw=>k a w (ha.known (by rw[hs,he])) hw
theorem SetE.same {i:Nat} {e e':Ent} {L L'} (hL:SetE L i e e' L'):e=e'->L'=L:=by
 induction hL with
 | here=>intro h;rw[h]
 | there _ ih=>intro h;rw[ih h]
theorem Rv {i:Nat} {e e':Ent} {L'} (hL:SetE L i e e' L') (he:e=e') (k:T n N fr L'):T n N fr L:=by
 rw[hL.same he] at k;exact k
theorem Ent.ok_none (w:World) (t:TypeId) (sz:Nat):Ent.ok w (.r none 0 0 t sz []):=⟨by simp,.inl ⟨rfl,rfl⟩⟩
theorem Az (t:TypeId) (sz:Nat) (k:T n N fr (.r none 0 0 t sz []::L)):T n N fr L:=by
 intro a w ha hw
 refine k a w ha ⟨fun e he=>?_,?_⟩
 ·rcases List.mem_cons.1 he with rfl | he
  ·exact Ent.ok_none w t sz
  ·exact hw.ok e he
 ·rw[List.pairwise_cons]
  exact ⟨fun x hx=>⟨fun g hg=>(by cases hg),fun g hg=>⟨Nat.zero_le _,fun h=>(by cases h)⟩⟩,hw.sep⟩
end

def top:IntKind->Nat
 | .i8=>127 | .i16=>32767 | .i32=>2147483647 | .i64=>9223372036854775807
 | .u8=>255 | .u16=>65535 | .u32=>4294967295 | .u64=>18446744073709551615
theorem Afd (k:IntKind) (a:Nat) (h:a<=top k):k.wrap (a:Int)=(a:Int):=by
 cases k <;> simp only[top] at h <;> simp[IntKind.wrap,IntKind.bits,IntKind.signed] <;> omega

section
variable {P:Program} {n:Nat} {fr:List (Nat × Value)} {L:List Ent}
variable {dst:Option Tmp} {ty:TypeId} {pos:String} {after:Array Edge} {guard:Option (Nat × Bool)}
variable {t t':TypeId} {x y:Operand} {k k':IntKind}

end

def val (b:Nat):List Nat->Nat
 | []=>0
 | x::r=>x+b*val b r
def nrm:List Nat->List Nat
 | []=>[]
 | x::r=>match nrm r with
  | []=>if x=0 then [] else [x]
  | y::s=>x::y::s
def digF (b:Nat):Nat->Nat->List Nat
 | 0,_=>[]
 | f+1,m=>if m=0 then [] else m % b::digF b f (m / b)
def dig (b m:Nat):List Nat:=digF b m m

theorem Ap3 {b:Nat} (hb:2<=b):∀ (m f g:Nat),m<=f->m<=g->digF b f m=digF b g m:=by
 intro m
 induction m using Nat.strongRecOn with
 | _ m ih=>
  intro f g hf hg
  by_cases h0:m=0
  ·subst h0;cases f <;> cases g <;> simp[digF]
  ·match f,g with
   | 0,_=>omega
   | _,0=>omega
   | f+1,g+1=>
    simp only[digF,if_neg h0]
    have hlt:m / b < m:=Nat.div_lt_self (by omega) (by omega)
    rw[ih (m / b) hlt f g (by omega) (by omega)]
theorem Nj (b:Nat):dig b 0=[]:=rfl
theorem Lt {b m:Nat} (hb:2<=b) (h:m≠0):dig b m=m % b::dig b (m / b):=by
 unfold dig
 match m,h with
 | m+1,h=>
  rw[digF,if_neg (by omega)]
  have hlt:(m+1) / b < m+1:=Nat.div_lt_self (by omega) (by omega)
  rw[Ap3 hb _ m ((m+1) / b) (by omega) (Nat.le_refl _)]
theorem Ads {b m:Nat} (hb:2<=b):dig b m=[]↔m=0:=by
 constructor
 ·intro h
  by_cases h0:m=0
  ·exact h0
  ·rw[Lt hb h0] at h;cases h
 ·rintro rfl;rfl
theorem Ee {b:Nat} (hb:2<=b) (m:Nat):val b (dig b m)=m:=by
 induction m using Nat.strongRecOn with
 | _ m ih=>
  by_cases h0:m=0
  ·subst h0;rfl
  ·rw[Lt hb h0,val,ih (m / b) (Nat.div_lt_self (by omega) (by omega))]
   have:=Nat.div_add_mod m b
   omega
theorem Aai {b:Nat} (hb:2<=b) (m:Nat):∀ x∈dig b m,x < b:=by
 induction m using Nat.strongRecOn with
 | _ m ih=>
  by_cases h0:m=0
  ·subst h0;intro x hx;simp[dig,digF] at hx
  ·rw[Lt hb h0]
   intro x hx
   rcases List.mem_cons.1 hx with rfl | hx
   ·exact Nat.mod_lt _ (by omega)
   ·exact ih (m / b) (Nat.div_lt_self (by omega) (by omega)) x hx
theorem Amf {b:Nat}:∀ (l:List Nat),(∀ x∈l,x < b)->val b l < b ^ l.length
 | [],_=>by simp[val]
 | x::r,h=>by
  have h1:=h x List.mem_cons_self
  have h2:=Amf r (fun y hy=>h y (List.mem_cons_of_mem _ hy))
  rw[val,List.length_cons,Nat.pow_succ]
  have:b*val b r+b<=b*b ^ r.length:=by
   rw[<- Nat.mul_succ];exact Nat.mul_le_mul_left _ h2
  rw[Nat.mul_comm (b ^ r.length) b]
  omega
theorem Sb {b:Nat} (hb:2<=b):∀ (l:List Nat),(∀ x∈l,x < b)->nrm l=dig b (val b l)
 | [],_=>rfl
 | x::r,h=>by
  have h1:=h x List.mem_cons_self
  have ih:=Sb hb r (fun y hy=>h y (List.mem_cons_of_mem _ hy))
  rw[nrm,val]
  cases hr:nrm r with
  | nil=>
   rw[hr] at ih
   have hv:val b r=0:=(Ads hb).1 ih.symm
   rw[hv]
   simp only[Nat.mul_zero,Nat.add_zero]
   by_cases hx:x=0
   ·subst hx;rfl
   ·rw[if_neg hx,Lt hb hx,Nat.mod_eq_of_lt h1,Nat.div_eq_of_lt h1];rfl
  | cons y s=>
   rw[hr] at ih
   have hv:val b r≠0:=fun h0=>by rw[h0] at ih;cases ih
   have hne:x+b*val b r≠0:=by
    have:0 < b*val b r:=Nat.mul_pos (by omega) (by omega)
    omega
   simp only
   rw[Lt hb hne,Nat.add_mul_mod_self_left,Nat.mod_eq_of_lt h1,Nat.add_mul_div_left _ _ (by omega),Nat.div_eq_of_lt h1,Nat.zero_add,<- ih]
theorem Abg:∀ (l:List Nat),nrm l=l.take (nrm l).length
 | []=>rfl
 | x::r=>by
  have ih:=Abg r
  rw[nrm]
  cases hr:nrm r with
  | nil=>by_cases hx:x=0 <;> simp[hx]
  | cons y s=>rw[hr] at ih;simp only[List.length_cons,List.take_succ_cons] at ih ⊢;rw[<- ih]
theorem Amg (l:List Nat):(nrm l).length<=l.length:=by
 have:=congrArg List.length (Abg l)
 rw[List.length_take] at this
 omega
theorem Acb:∀ (l:List Nat),(∀ x∈l,x=0)->nrm l=[]
 | [],_=>rfl
 | x::r,h=>by
  rw[nrm,Acb r (fun y hy=>h y (List.mem_cons_of_mem _ hy))]
  simp[h x List.mem_cons_self]
theorem As7:∀ (l:List Nat) (k:Nat),k<=l.length->(∀ j (h:j < l.length),k<=j->l[j]=0)->(∀ h:0 < k,∀ h':k-1 < l.length,l[k-1]≠0)->(nrm l).length=k
 | [],k,hk,_,_=>by simp at hk;subst hk;rfl
 | x::r,0,_,h0,_=>by
  rw[Acb (x::r) (fun y hy=>by
   obtain ⟨j,hj,rfl⟩:=List.getElem_of_mem hy
   exact h0 j hj (Nat.zero_le _))];rfl
 | x::r,k+1,hk,h0,h1=>by
  have ih:=As7 r k (by simpa using hk) (fun j hj hkj=>by
   have:=h0 (j+1) (by simpa using hj) (by omega)
   simpa using this) (fun hk0 hk1=>by
   have:=h1 (by omega) (by simp;omega)
   have e:(x::r)[k+1-1]'(by simp;omega)=r[k-1]:=by
    have:k+1-1=(k-1)+1:=by omega
    simp only[this,List.getElem_cons_succ]
   rwa [e] at this)
  rw[nrm]
  cases hr:nrm r with
  | nil=>
   rw[hr] at ih
   simp at ih
   subst ih
   have:=h1 (by omega) (by simp)
   simp at this
   simp[this]
  | cons y s=>rw[hr] at ih;simp at ih ⊢;exact ih
theorem Ty {b:Nat}:∀ (l:List Nat) (j v:Nat) (h:j < l.length),val b (l.set j v)+l[j] * b ^ j=val b l+v*b ^ j
 | x::r,0,v,_=>by simp[val];omega
 | x::r,j+1,v,h=>by
  have hj:j < r.length:=by simpa using h
  have ih:=Ty (b:=b) r j v hj
  simp only[List.set_cons_succ,val,List.getElem_cons_succ,Nat.pow_succ]
  have e1:r[j] * (b ^ j*b)=b*(r[j] * b ^ j):=by grind
  have e2:v*(b ^ j*b)=b*(v*b ^ j):=by grind
  rw[e1,e2]
  have:=congrArg (b * ·) ih
  simp only[Nat.mul_add] at this
  omega
theorem Vb {b:Nat}:∀ (m:Nat),val b (List.replicate m 0)=0
 | 0=>rfl
 | m+1=>by simp[List.replicate_succ,val,Vb m]
theorem Te {b:Nat}:∀ (l r:List Nat),val b (l++r)=val b l+b ^ l.length*val b r
 | [],r=>by simp[val]
 | x::l,r=>by
  simp only[List.cons_append,val,Te l r,List.length_cons,Nat.pow_succ,Nat.mul_add]
  have:b ^ l.length*b*val b r=b*(b ^ l.length*val b r):=by grind
  omega
theorem Pp {b:Nat} (l:List Nat) (j:Nat) (h:j < l.length):val b (l.take (j+1))=val b (l.take j)+b ^ j*l[j]:=by
 rw[List.take_succ_eq_append_getElem h,Te,List.length_take,Nat.min_eq_left (by omega)]
 simp[val]

theorem SubE.nil {L}:SubE [] L:=.of fun _ h=>by simp at h
theorem SubE.cons2 {K L e} {i:Nat} (h:nthE L i=some e) (h':SubE K L):SubE (e::K) L:=⟨fun w hw x hx=>by
 rcases List.mem_cons.1 hx with rfl | hx
 ·exact hw _ (Eu h)
 ·exact h'.ok w hw _ hx⟩
theorem SubE.tail {K L e} (h:SubE K L):SubE K (e::L):=h.cons
theorem Has.take {α:Type} {K:List Ent} {A:Option Addr} {m c sz:Nat} {enc:α->List Value} {l:List α} (h:Has K A m c sz enc l) {k:Nat} (hk:k<=m):Has K A k c sz enc (l.take k):=by
 have hl:=h.len
 refine ⟨by rw[List.length_take];omega,by have:=h.nc;omega,h.cap,fun x hx=>h.esz x (List.mem_of_mem_take hx),fun h0=>?_⟩
 obtain ⟨b,o,hA,hp⟩:=h.at_ (by omega)
 refine ⟨b,o,hA,fun i hi=>?_⟩
 rw[List.length_take] at hi
 rw[List.getElem_take]
 exact hp i (by omega)
theorem Has.nrm {K:List Ent} {A:Option Addr} {m c:Nat} {enc:Nat->List Value} {l:List Nat} (h:Has K A m c 1 enc l):Has K A (YtjfndjmabhbicaaGreat.nrm l).length c 1 enc (YtjfndjmabhbicaaGreat.nrm l):=by
 have h1:=Amg l
 have:=h.take (k:=(YtjfndjmabhbicaaGreat.nrm l).length) (by rw[<- h.len];exact h1)
 rwa [<- Abg] at this
theorem Wc {α:Type} {enc:α->List Value} {sz:Nat}:∀ (l:List α) (i:Nat) (hi:i < l.length),(∀ x∈l,(enc x).length=sz)->∀ (j:Nat) (u:Value),(enc l[i])[j]? = some u->(l.flatMap enc)[i*sz+j]? = some u
 | [],i,hi,_,j,u,hu=>by simp at hi
 | x::r,0,_,he,j,u,hu=>by
  have hlt:j < (enc x).length:=(List.getElem?_eq_some_iff.1 hu).1
  rw[List.flatMap_cons,Nat.zero_mul,Nat.zero_add,List.getElem?_append_left hlt];exact hu
 | x::r,i+1,hi,he,j,u,hu=>by
  have hx:=he x List.mem_cons_self
  rw[List.flatMap_cons,List.getElem?_append_right (by rw[hx,Nat.succ_mul];omega),hx,show (i+1)*sz+j-sz=i*sz+j from by rw[Nat.succ_mul];omega]
  exact Wc r i (by simpa using hi) (fun y hy=>he y (List.mem_cons_of_mem _ hy)) j u (by simpa using hu)
theorem Has.small {α:Type} {K:List Ent} {A:Option Addr} {m c sz:Nat} {enc:α->List Value} {l:List α} (h:Has K A m c sz enc l):m<=c/\c<=9223372036854775807:=⟨h.nc,by have:=h.cap;unfold maxLen at this;omega⟩
theorem Has.ofM {α:Type} {enc:α->List Value} {sz n:Nat} {l:List α} {g:Nat} {t:TypeId} {cs:List Value} (he:∀ x∈l,(enc x).length=sz) (hn:l.length=n) (hm:n<=maxLen) (hc:cs=l.flatMap enc) :
  Has [.m g t cs] (some ⟨g,0,none⟩) n n sz enc l:=by
 subst hc
 refine ⟨hn,Nat.le_refl _,hm,he,fun _=>⟨g,0,rfl,fun i hi w hw j u hu=>?_⟩⟩
 rw[Sf (hw _ (List.mem_singleton.2 rfl)),Nat.zero_add]
 exact Wc l i hi he j u hu
theorem Has.nil {α:Type} {K:List Ent} {sz:Nat} {enc:α->List Value}:Has K none 0 0 sz enc []:=⟨rfl,Nat.le_refl _,Nat.zero_le _,fun _ h=>by simp at h,fun h=>absurd h (by omega)⟩
theorem An8 {K L:List Ent} {w:World} (h:SubE K L) (hw:Heap L w):∀ e∈K,Ent.ok w e:=h.ok w hw.ok
theorem Has.sl {α:Type} {K:List Ent} {w:World} {A n c sz} {enc:α->List Value} {l:List α} (h:Has K A n c sz enc l) (hK:∀ e∈K,Ent.ok w e):Sl w A n c sz enc l:=by
 refine ⟨h.len,h.nc,h.cap,h.esz,fun hn=>?_⟩
 obtain ⟨b,o,hA,hc⟩:=h.at_ hn
 exact ⟨b,o,hA,fun i hi j u hu=>hc i hi w hK j u hu⟩

theorem Ap4 (m:Nat) (hm:m<=18446744073709551615):nrm [m % 4294967296,m / 4294967296 % 4294967296]=dig 4294967296 m:=by
 rw[Sb (b:=4294967296) (by omega) _ (by intro x hx;simp at hx;omega)]
 congr 1
 simp only[val]
 omega
theorem Aki {a b:Nat} (ha:a < 4294967296) (hb:b < 4294967296):a*b<=18446744065119617025:=by
 have:a*b<=4294967295*4294967295:=Nat.mul_le_mul (by omega) (by omega)
 omega
theorem Qa {l:List Nat} {j v b:Nat} (h:∀ x∈l,x < b) (hv:v < b):∀ x∈l.set j v,x < b:=by
 intro x hx
 rcases List.mem_or_eq_of_mem_set hx with h' | h'
 ·exact h x h'
 ·rw[h'];exact hv
theorem Ap5 {l r out out0:List Nat} {n m i j cy:Nat} (hi:i < l.length) (hj:j < r.length) (hn:l.length=n) (hm:r.length=m) (h1:l[i] < 4294967296) (h2:r[j] < 4294967296)
  (hD1:out.length=n+m) (hD2:cy < 4294967296) (hD3:j<=m) (hD4:∀ x∈out,x < 4294967296) (hD5:∀ (q:Nat) (h:q < out.length),i+m<=q->out[q]=0)
  (hD6:val 4294967296 out+cy*4294967296 ^ (i+j)=val 4294967296 out0+l[i] * val 4294967296 (r.take j)*4294967296 ^ i) (hk:i+j < out.length) :
  (out.set (i+j) ((l[i] * r[j] + out[i+j] + cy) % 4294967296)).length=n+m/\(l[i] * r[j] + out[i+j] + cy) / 4294967296 < 4294967296/\j+1<=m /\
   (∀ x∈out.set (i+j) ((l[i] * r[j] + out[i+j] + cy) % 4294967296),x < 4294967296) /\
   (∀ (q:Nat) (h:q < (out.set (i+j) ((l[i] * r[j] + out[i+j] + cy) % 4294967296)).length),i+m<=q->(out.set (i+j) ((l[i] * r[j] + out[i+j] + cy) % 4294967296))[q]=0) /\
   val 4294967296 (out.set (i+j) ((l[i] * r[j] + out[i+j] + cy) % 4294967296))+(l[i] * r[j] + out[i+j] + cy) / 4294967296*4294967296 ^ (i+(j+1)) =
    val 4294967296 out0+l[i] * val 4294967296 (r.take (j+1))*4294967296 ^ i:=by
 have h3:=hD4 out[i+j] (List.getElem_mem hk)
 have hmm:=Aki h1 h2
 refine ⟨by simp[hD1],by omega,by omega,Qa hD4 (Nat.mod_lt _ (by omega)),fun q hq hiq=>?_,?_⟩
 ·rw[List.getElem_set_ne (by omega)]
  exact hD5 q (by simpa using hq) hiq
 ·have hs:=Ty (b:=4294967296) out (i+j) ((l[i] * r[j] + out[i+j] + cy) % 4294967296) hk
  rw[Pp r j hj]
  generalize hV:val 4294967296 (out.set (i+j) ((l[i] * r[j] + out[i+j] + cy) % 4294967296))=V at hs ⊢
  have hdm:=Nat.div_add_mod (l[i] * r[j] + out[i+j] + cy) 4294967296
  generalize (l[i] * r[j] + out[i+j] + cy) / 4294967296=q at hdm ⊢
  generalize (l[i] * r[j] + out[i+j] + cy) % 4294967296=t at hdm hs
  have hp:(4294967296:Nat) ^ (i+(j+1))=4294967296 ^ (i+j)*4294967296:=by rw[<- Nat.add_assoc,Nat.pow_succ]
  have hp2:(4294967296:Nat) ^ (i+j)=4294967296 ^ i*4294967296 ^ j:=Nat.pow_add _ _ _
  rw[hp]
  rw[hp2] at hs hD6 ⊢
  generalize (4294967296:Nat) ^ i=P at *
  generalize (4294967296:Nat) ^ j=R at *
  generalize val 4294967296 (r.take j)=W at *
  generalize val 4294967296 out=O at *
  generalize val 4294967296 out0=O0 at *
  generalize l[i]=a at *
  generalize r[j]=c at *
  generalize out[i+j]=o at *
  have e:=congrArg (· * (P*R)) hdm

  grind
theorem Ap6 {l r out out0:List Nat} {n m i j cy:Nat} (hi:i < l.length) (hn:l.length=n) (hm:r.length=m) (hD1:out.length=n+m) (hD2:cy < 4294967296) (hD4:∀ x∈out,x < 4294967296)
  (hD5:∀ (q:Nat) (h:q < out.length),i+m<=q->out[q]=0)
  (hD6:val 4294967296 out+cy*4294967296 ^ (i+j)=val 4294967296 out0+l[i] * val 4294967296 (r.take j)*4294967296 ^ i)
  (hC5:val 4294967296 out0=val 4294967296 (l.take i)*val 4294967296 r) (hj:j=m) :
  (out.set (i+m) (cy % 4294967296)).length=n+m/\i+1<=n/\(∀ x∈out.set (i+m) (cy % 4294967296),x < 4294967296) /\
   (∀ (q:Nat) (h:q < (out.set (i+m) (cy % 4294967296)).length),i+1+m<=q->(out.set (i+m) (cy % 4294967296))[q]=0) /\
   val 4294967296 (out.set (i+m) (cy % 4294967296))=val 4294967296 (l.take (i+1))*val 4294967296 r:=by
 subst hj
 rw[Nat.mod_eq_of_lt hD2]
 refine ⟨by simp[hD1],by omega,Qa hD4 hD2,fun q hq hiq=>?_,?_⟩
 ·rw[List.getElem_set_ne (by omega)]
  exact hD5 q (by simpa using hq) (by omega)
 ·have hk:i+j < out.length:=by omega
  have hs:=Ty (b:=4294967296) out (i+j) cy hk
  rw[hD5 (i+j) hk (Nat.le_refl _)] at hs
  rw[Pp l i hi]
  rw[List.take_of_length_le (by omega)] at hD6
  rw[hC5] at hD6
  rw[Nat.add_mul]
  have:4294967296 ^ i*l[i] * val 4294967296 r=l[i] * val 4294967296 r*4294967296 ^ i:=by grind
  omega
theorem As8 {l r out:List Nat} {n m i:Nat} (hi:i=n) (hn:l.length=n) (hC1:out.length=n+m) (hC3:∀ x∈out,x < 4294967296)
  (hC5:val 4294967296 out=val 4294967296 (l.take i)*val 4294967296 r):nrm out=dig 4294967296 (val 4294967296 l*val 4294967296 r):=by
 subst hi
 rw[Sb (b:=4294967296) (by omega) out hC3,hC5,List.take_of_length_le (by omega)]
theorem Akj {a b:Nat} (ha:a < 65536) (hb:b < 65536):a*b<=4294836225:=by
 have:a*b<=65535*65535:=Nat.mul_le_mul (by omega) (by omega)
 omega
theorem Akk {l r out out0:List Nat} {n m i j cy:Nat} (hi:i < l.length) (hj:j < r.length) (hn:l.length=n) (hm:r.length=m) (h1:l[i] < 65536) (h2:r[j] < 65536)
  (hD1:out.length=n+m) (hD2:cy < 65536) (hD3:j<=m) (hD4:∀ x∈out,x < 65536) (hD5:∀ (q:Nat) (h:q < out.length),i+m<=q->out[q]=0)
  (hD6:val 65536 out+cy*65536 ^ (i+j)=val 65536 out0+l[i] * val 65536 (r.take j)*65536 ^ i) (hk:i+j < out.length) :
  (out.set (i+j) ((l[i] * r[j] + out[i+j] + cy) % 65536)).length=n+m/\(l[i] * r[j] + out[i+j] + cy) / 65536 < 65536/\j+1<=m /\
   (∀ x∈out.set (i+j) ((l[i] * r[j] + out[i+j] + cy) % 65536),x < 65536) /\
   (∀ (q:Nat) (h:q < (out.set (i+j) ((l[i] * r[j] + out[i+j] + cy) % 65536)).length),i+m<=q->(out.set (i+j) ((l[i] * r[j] + out[i+j] + cy) % 65536))[q]=0) /\
   val 65536 (out.set (i+j) ((l[i] * r[j] + out[i+j] + cy) % 65536))+(l[i] * r[j] + out[i+j] + cy) / 65536*65536 ^ (i+(j+1)) =
    val 65536 out0+l[i] * val 65536 (r.take (j+1))*65536 ^ i:=by
 have h3:=hD4 out[i+j] (List.getElem_mem hk)
 have hmm:=Akj h1 h2
 refine ⟨by simp[hD1],by omega,by omega,Qa hD4 (Nat.mod_lt _ (by omega)),fun q hq hiq=>?_,?_⟩
 ·rw[List.getElem_set_ne (by omega)]
  exact hD5 q (by simpa using hq) hiq
 ·have hs:=Ty (b:=65536) out (i+j) ((l[i] * r[j] + out[i+j] + cy) % 65536) hk
  rw[Pp r j hj]
  generalize hV:val 65536 (out.set (i+j) ((l[i] * r[j] + out[i+j] + cy) % 65536))=V at hs ⊢
  have hdm:=Nat.div_add_mod (l[i] * r[j] + out[i+j] + cy) 65536
  generalize (l[i] * r[j] + out[i+j] + cy) / 65536=q at hdm ⊢
  generalize (l[i] * r[j] + out[i+j] + cy) % 65536=t at hdm hs
  have hp:(65536:Nat) ^ (i+(j+1))=65536 ^ (i+j)*65536:=by rw[<- Nat.add_assoc,Nat.pow_succ]
  have hp2:(65536:Nat) ^ (i+j)=65536 ^ i*65536 ^ j:=Nat.pow_add _ _ _
  rw[hp]
  rw[hp2] at hs hD6 ⊢
  generalize (65536:Nat) ^ i=P at *
  generalize (65536:Nat) ^ j=R at *
  generalize val 65536 (r.take j)=W at *
  generalize val 65536 out=O at *
  generalize val 65536 out0=O0 at *
  generalize l[i]=a at *
  generalize r[j]=c at *
  generalize out[i+j]=o at *
  have e:=congrArg (· * (P*R)) hdm

  grind
theorem Akl {l r out out0:List Nat} {n m i j cy:Nat} (hi:i < l.length) (hn:l.length=n) (hm:r.length=m) (hD1:out.length=n+m) (hD2:cy < 65536) (hD4:∀ x∈out,x < 65536)
  (hD5:∀ (q:Nat) (h:q < out.length),i+m<=q->out[q]=0)
  (hD6:val 65536 out+cy*65536 ^ (i+j)=val 65536 out0+l[i] * val 65536 (r.take j)*65536 ^ i)
  (hC5:val 65536 out0=val 65536 (l.take i)*val 65536 r) (hj:j=m) :
  (out.set (i+m) (cy % 65536)).length=n+m/\i+1<=n/\(∀ x∈out.set (i+m) (cy % 65536),x < 65536) /\
   (∀ (q:Nat) (h:q < (out.set (i+m) (cy % 65536)).length),i+1+m<=q->(out.set (i+m) (cy % 65536))[q]=0) /\
   val 65536 (out.set (i+m) (cy % 65536))=val 65536 (l.take (i+1))*val 65536 r:=by
 subst hj
 rw[Nat.mod_eq_of_lt hD2]
 refine ⟨by simp[hD1],by omega,Qa hD4 hD2,fun q hq hiq=>?_,?_⟩
 ·rw[List.getElem_set_ne (by omega)]
  exact hD5 q (by simpa using hq) (by omega)
 ·have hk:i+j < out.length:=by omega
  have hs:=Ty (b:=65536) out (i+j) cy hk
  rw[hD5 (i+j) hk (Nat.le_refl _)] at hs
  rw[Pp l i hi]
  rw[List.take_of_length_le (by omega)] at hD6
  rw[hC5] at hD6
  rw[Nat.add_mul]
  have:65536 ^ i*l[i] * val 65536 r=l[i] * val 65536 r*65536 ^ i:=by grind
  omega
theorem Amh {l r out:List Nat} {n m i:Nat} (hi:i=n) (hn:l.length=n) (hC1:out.length=n+m) (hC3:∀ x∈out,x < 65536)
  (hC5:val 65536 out=val 65536 (l.take i)*val 65536 r):nrm out=dig 65536 (val 65536 l*val 65536 r):=by
 subst hi
 rw[Sb (b:=65536) (by omega) out hC3,hC5,List.take_of_length_le (by omega)]
theorem Avt {b:Nat} (hb:2<=b) (m:Nat):nrm (dig b m)=dig b m:=by
 rw[Sb hb _ (Aai hb m),Ee hb]
theorem Abh {b:Nat} (hb:2<=b):dig b 1=[1]:=by
 rw[Lt hb (by omega),Nat.mod_eq_of_lt (by omega),Nat.div_eq_of_lt (by omega)];rfl
theorem Yt {b : Nat} (hb : 2 <= b) : ∀ (k m : Nat), m < b ^ k -> (dig b m).length <= k := by
  intro k
  induction k with
  | zero => intro m hm; have : m = 0 := by simpa using hm
            subst this; simp[Nj]
  | succ k ih=>
    intro m hm
    by_cases h0 : m = 0
    · subst h0; simp[Nj]
    · rw[Lt hb h0, List.length_cons]
      have := ih (m / b) (Nat.div_lt_of_lt_mul (by rw[Nat.pow_succ] at hm; rw[Nat.mul_comm]; exact hm))
      omega
variable {P:Program} {n:Nat} {N:Act->World->Prop} {Q:Exit->Act->World->Prop} {fr:List (Nat × Value)} {L:List Ent}

def cmpN (x y:Nat):Int:=if x < y then -1 else if x=y then 0 else 1
theorem Aio {b:Nat} (hb:0 < b):∀ (l r:List Nat) (k:Nat) (hk:k < l.length) (hk':k < r.length),l.length=r.length->(∀ x∈l,x < b)->(∀ (j:Nat) (h:j < l.length) (h':j < r.length),k < j->l[j]=r[j])->l[k] < r[k]->val b l < val b r
 | [],_,_,hk,_,_,_,_,_=>by simp at hk
 | _::_,[],_,_,hk',_,_,_,_=>by simp at hk'
 | x::l,y::r,0,_,_,hlen,_,heq,hlt=>by
  have:l=r:=List.ext_getElem (by simpa using hlen) (fun j h1 h2=>heq (j+1) (by simpa using h1) (by simpa using h2) (by omega))
  subst this
  simp only[val]
  simpa using hlt
 | x::l,y::r,k+1,hk,hk',hlen,hl,heq,hlt=>by
  have ih:=Aio hb l r k (by simpa using hk) (by simpa using hk') (by simpa using hlen) (fun z hz=>hl z (List.mem_cons_of_mem _ hz))
   (fun j h1 h2 hj=>heq (j+1) (by simpa using h1) (by simpa using h2) (by omega)) (by simpa using hlt)
  have hx:=hl x List.mem_cons_self
  simp only[val]
  have:=Nat.mul_le_mul_left b (Nat.succ_le_of_lt ih)
  rw[Nat.succ_eq_add_one,Nat.mul_add] at this
  omega
theorem Wd {b x y : Nat} (hb : 2 <= b) (h : (dig b x).length < (dig b y).length) : x < y := by
  rcases Nat.lt_or_ge x y with h1 | h1
  · exact h1
  · exfalso
    have mono : ∀ (k x y : Nat), y <= k -> y <= x -> (dig b y).length <= (dig b x).length := by
      intro k
      induction k with
      | zero => intro x y hy _; have : y = 0 := by omega
                subst this; simp[Nj]
      | succ k ih=>
        intro x y hy hxy
        by_cases h0 : y = 0
        · subst h0; simp[Nj]
        · rw[Lt hb h0, Lt hb (show x ≠ 0 by omega)]
          have : y / b < y := Nat.div_lt_self (by omega) hb
          have := ih (x / b) (y / b) (by omega) (Nat.div_le_div_right hxy)
          simpa using this
    have := mono y x y (Nat.le_refl _) h1
    omega
theorem Adt {b x y:Nat} (hb:2<=b) {n m:Nat} (h1:(dig b x).length=n) (h2:(dig b y).length=m):(n < m->cmpN x y = -1)/\(m < n->cmpN x y=1):=by
 subst h1;subst h2
 constructor
 ·intro h;have:=Wd hb h;simp[cmpN,this]
 ·intro h;have:=Wd hb h;simp only[cmpN];rw[if_neg (by omega),if_neg (by omega)]
theorem As9 {b x y:Nat} (hb:2<=b) {k:Nat} (hlen:(dig b x).length=(dig b y).length) (hk:k < (dig b x).length) (hk':k < (dig b y).length)
  (heq:∀ (j:Nat) (h:j < (dig b x).length) (h':j < (dig b y).length),k < j->(dig b x)[j]=(dig b y)[j]) :
  ((dig b x)[k] < (dig b y)[k]->cmpN x y = -1)/\((dig b y)[k] < (dig b x)[k]->cmpN x y=1):=by
 constructor
 ·intro h
  have:=Aio (b:=b) (by omega) _ _ k hk hk' hlen (Aai hb x) heq h
  rw[Ee hb,Ee hb] at this
  simp[cmpN,this]
 ·intro h
  have:=Aio (b:=b) (by omega) _ _ k hk' hk hlen.symm (Aai hb y) (fun j h1 h2 hj=>(heq j h2 h1 hj).symm) h
  rw[Ee hb,Ee hb] at this
  simp only[cmpN];rw[if_neg (by omega),if_neg (by omega)]
theorem Ata {b x y:Nat} (hb:2<=b) (hlen:(dig b x).length=(dig b y).length) (heq:∀ (j:Nat) (h:j < (dig b x).length) (h':j < (dig b y).length),(dig b x)[j]=(dig b y)[j]):cmpN x y=0:=by
 have:dig b x=dig b y:=List.ext_getElem hlen heq
 have h2:=congrArg (val b) this
 rw[Ee hb,Ee hb] at h2
 simp[cmpN,h2]
theorem Qj {K K2 L:List Ent} {w w1:World} (hK:∀ e∈K,Ent.ok w e) (h0:SubE [.old w] L) (h:SubE K2 L) (hw:Heap L w1):∀ e∈K++K2,Ent.ok w1 e:=by
 intro e he
 rcases List.mem_append.1 he with he | he
 ·exact Ent.ext (hK e he) (h0.ok w1 hw.ok _ List.mem_cons_self)
 ·exact h.ok w1 hw.ok e he
theorem SubE.appL {K K2:List Ent}:SubE K (K++K2):=.of fun _ h=>List.mem_append_left _ h
theorem SubE.appR {K K1 K2:List Ent} (h:SubE K1 K2):SubE K1 (K++K2):=⟨fun w hw=>h.ok w fun x hx=>hw x (List.mem_append_right _ hx)⟩

theorem Avu {b:Nat} (hb:2<=b):∀ (i m:Nat) (h:i < (dig b m).length),(dig b m)[i]=m / b ^ i % b:=by
 intro i
 induction i with
 | zero=>
  intro m h
  have h0:m≠0:=by intro h0;subst h0;simp[Nj] at h
  simp only[Lt hb h0,List.getElem_cons_zero,Nat.pow_zero,Nat.div_one]
 | succ i ih=>
  intro m h
  have h0:m≠0:=by intro h0;subst h0;simp[Nj] at h
  have h':i < (dig b (m / b)).length:=by rw[Lt hb h0] at h;simpa using h
  simp only[Lt hb h0,List.getElem_cons_succ]
  rw[ih _ h',Nat.div_div_eq_div_mul,Nat.pow_succ,Nat.mul_comm]
theorem An9 {b:Nat} (hb:2<=b):∀ (i m:Nat),i < (dig b m).length↔m / b ^ i≠0:=by
 intro i
 induction i with
 | zero=>
  intro m
  rw[Nat.pow_zero,Nat.div_one,List.length_pos_iff,ne_eq,Ads hb]
 | succ i ih=>
  intro m
  by_cases h0:m=0
  ·subst h0;simp[Nj]
  ·rw[Lt hb h0,List.length_cons,Nat.add_lt_add_iff_right,ih,Nat.div_div_eq_div_mul,Nat.pow_succ,Nat.mul_comm b]
variable {P:Program} {n:Nat} {fr:List (Nat × Value)} {L:List Ent} {dst:Option Nat} {ty:TypeId} {pos:String} {after:Array Edge} {guard:Option (Nat × Bool)}

inductive EqF (P:Program) (d:Nat) (xs ys:Array Value):List Field->Bool->Prop
 | nil:EqF P d xs ys [] true
 | cons {f fs a b r r'} (hn : (f.name == "_") = false) (hx : ∀ w, (part f.type xs f.offset).run P w = .ok a w) (hy : ∀ w, (part f.type ys f.offset).run P w = .ok b w)
   (he:∀ w,(Op.equalIn d f.type a b).run P w = .ok r w) (h:EqF P d xs ys fs r'):EqF P d xs ys (f::fs) (r && r')
theorem EqF.run {d xs ys fs r} (h:EqF P d xs ys fs r):∀ w,(Op.eqFields d xs ys fs).run P w = .ok r w:=by
 induction h with
 | nil=>intro w;simp[Op.eqFields]
 | cons hn hx hy he _ ih=>
  intro w
  rename_i f fs a b r r' _
  have hn' : f.name ≠ "_" := by simpa using hn
  simp only[Op.eqFields,hn',ne_eq,not_false_eq_true,if_true,Sem.run_bind,hx,hy,he,Result.andThen_ok]
  cases r with
  | true=>simp[ih w]
  | false=>simp
theorem EqF.struct {d t xs ys r fs} (ht:P.underlying t=some (.struct fs)) (hp:P.stoodInHeld t=false) (h:EqF P d xs ys fs.toList r):∀ w,(Op.equalIn (d+1) t (.agg xs) (.agg ys)).run P w = .ok r w:=by
 intro w
 have hf:P.fieldsOf t=fs:=by simp[Program.fieldsOf,ht]
 rw[run_equalIn_struct w d t xs ys (by rw[hf];exact ht) hp,hf]
 exact h.run w
theorem Avv {t t' x y xs ys r} (hx:evo fr x=some (.agg xs)) (hy:evo fr y=some (.agg ys)) (hm:P.eqGuardType P.depth t=false) (h:∀ w,(Op.equalIn 10000 t (.agg xs) (.agg ys)).run P w = .ok r w) :
  Ev P n ⟨dst,.binOp .eql t x y t',ty,pos,after,guard⟩ fr L (.bool r):=fun ac w ha _=>by
 simp[execOp,ha.eval hx,ha.eval hy,run_eqGuard_agg w .eql t x y xs ys hm,run_eql_struct,h]
theorem Avw {t t' x y xs ys r} (hx:evo fr x=some (.agg xs)) (hy:evo fr y=some (.agg ys)) (hm:P.eqGuardType P.depth t=false) (h:∀ w,(Op.equalIn 10000 t (.agg xs) (.agg ys)).run P w = .ok r w) :
  Ev P n ⟨dst,.binOp .neq t x y t',ty,pos,after,guard⟩ fr L (.bool (!r)):=fun ac w ha _=>by
 simp[execOp,ha.eval hx,ha.eval hy,run_eqGuard_agg w .neq t x y xs ys hm,run_neq_struct,h]
section
variable {ops:Array Oper} {Q:Exit->Act->World->Prop} {rest:List Oper} {op:Op} {d:Nat} {cls:Cls} {A:List (List Nat)} {RL:List Nat} {R:World->Prop} {p alt:Plan} {i:Nat}
theorem Xx {j s:Nat} {b:Bool} {a:Act} (hj:(ops[j]?).bind (·.dst)=some s) (ha:Fr n fr a) (hs:look fr s=some undef) (hsn:Nat.blt s n=true) :
  Region.wanted ⟨some d,op,ty,pos,after,some (j,b)⟩ (yielded ops a.tmps)=false:=by
 have hv:=ha.val s _ hs
 have hlt:s < a.tmps.size:=by rw[ha.size];exact (Nat.blt_eq ▸ hsn)
 have hg:a.tmps[s]? = some undef:=by
  rw[Array.getD_eq_getD_getElem?,Array.getElem?_eq_getElem hlt] at hv
  rw[Array.getElem?_eq_getElem hlt]
  simpa using hv
 have hy:yielded ops a.tmps j=none:=by
  unfold yielded
  rw[hj]
  simp[hg,undef]
 simp[Region.wanted,hy]
theorem Aoa {j s:Nat} {b:Bool} (hj:(ops[j]?).bind (·.dst)=some s) (hs:look fr s=some undef) (hsn:Nat.blt s n=true)
  (hd:Nat.blt d n=true) (k:T n (wpList P ops Q rest) ((d,undef)::fr) L) :
  T n (wpList P ops Q (⟨some d,op,ty,pos,after,some (j,b)⟩ :: rest)) fr L:=by
 intro a w ha hw
 refine wpList_step (fun K hK=>?_)
 rw[if_neg (by rw[Xx hj ha hs hsn];simp)]
 exact hK _ _ (k _ _ (ha.put hd) hw)
theorem Avx {j s:Nat} {b:Bool} (ho:ops[i]? = some ⟨some d,op,ty,pos,after,some (j,b)⟩) (hj:(ops[j]?).bind (·.dst)=some s) (hs:look fr s=some undef) (hsn:Nat.blt s n=true)
  (hd:Nat.blt d n=true) (k:T n (Bs P ops Q cls A RL R p) ((d,undef)::fr) L):T n (Bs P ops Q cls A RL R (.q i p)) fr L:=by
 intro a w ha hw
 have hwn:Region.wanted ⟨some d,op,ty,pos,after,some (j,b)⟩ (yielded ops a.tmps)=false:=Xx hj ha hs hsn
 show if _ then _ else _
 by_cases hc:Nat.beq (cls.getD i 9) 0=true
 ·rw[if_pos hc]
  exact ⟨_,ho,.inr ⟨hwn,k _ _ (ha.put hd) hw⟩⟩
 ·rw[if_neg hc]
  split
  ·exact ⟨_,ho,.inr ⟨hwn,k _ _ (ha.put hd) hw⟩⟩
  ·exact ⟨_,ho,.inr ⟨hwn,k _ _ (ha.put hd) hw⟩⟩
end

def gd {ρ:Type} (p:Prop) [Decidable p] (k:Option ρ):Option ρ:=if p then k else none
def bnd {α ρ:Type} (o:Option α) (k:α->Option ρ):Option ρ:=match o with
 | some x=>k x
 | none=>none
def jn {τ ρ:Type} (k:τ->Option ρ) (x:(τ->Option ρ)->Option ρ):Option ρ:=x k
theorem Dr {ρ:Type} {p:Prop} [Decidable p] {k:Option ρ} {r:ρ} (h:gd p k=some r):p/\k=some r:=by
 unfold gd at h;split at h
 ·exact ⟨‹_›,h⟩
 ·cases h
theorem Ar {α ρ:Type} {o:Option α} {k:α->Option ρ} {r:ρ} (h:bnd o k=some r):∃ x,o=some x/\k x=some r:=by
 cases o with
 | none=>cases h
 | some x=>exact ⟨x,rfl,h⟩
theorem Abi {τ ρ:Type} {k:τ->Option ρ} {x:(τ->Option ρ)->Option ρ} {r:ρ} (h:jn k x=some r):∃ j,j=k/\x j=some r:=⟨k,rfl,h⟩
theorem Jx {ρ:Type} {p:Prop} [Decidable p] {a b o:Option ρ} (hp:p) (h:(if p then a else b)=o):a=o:=by rw[if_pos hp] at h;exact h
theorem Xy {ρ:Type} {p:Prop} [Decidable p] {a b o:Option ρ} (hp:¬ p) (h:(if p then a else b)=o):b=o:=by rw[if_neg hp] at h;exact h
theorem Mg {ρ:Type} {p:Bool} {a b o:Option ρ} (hp:p=false) (h:(if p=true then a else b)=o):b=o:=by subst hp;exact h

def lrun {σ τ:Type} (B:σ->Option (Sum σ τ)):Nat->σ->Option τ
 | 0,_=>none
 | n+1,s=>match B s with
  | some (.inl s')=>lrun B n s'
  | some (.inr t)=>some t
  | none=>none
noncomputable def lfix {σ τ:Type} (B:σ->Option (Sum σ τ)) (s:σ):Option τ :=
 @dite (Option τ) (∃ n t,lrun B n s=some t) (Classical.propDecidable _) (fun h=>some (Classical.choose (Classical.choose_spec h))) (fun _=>none)
theorem Yu {σ τ:Type} {B:σ->Option (Sum σ τ)}:∀ {n m:Nat} {s:σ} {t:τ},lrun B n s=some t->n<=m->lrun B m s=some t
 | 0,_,_,_,h,_=>by simp[lrun] at h
 | n+1,0,_,_,_,h=>by omega
 | n+1,m+1,s,t,h,hm=>by
  simp only[lrun] at h ⊢
  split at h
  ·exact Yu h (by omega)
  ·exact h
  ·cases h
theorem Afe {σ τ:Type} {B:σ->Option (Sum σ τ)} {n m:Nat} {s:σ} {t u:τ} (h:lrun B n s=some t) (h':lrun B m s=some u):t=u:=by
 have h1:=Yu h (Nat.le_max_left n m)
 have h2:=Yu h' (Nat.le_max_right n m)
 rw[h1] at h2;injection h2
theorem Vc {σ τ:Type} {B:σ->Option (Sum σ τ)} {s:σ} {t:τ}:lfix B s=some t↔∃ n,lrun B n s=some t:=by
 unfold lfix
 constructor
 ·intro h
  split at h
  ·rename_i hx
   injection h with h
   obtain hs:=Classical.choose_spec (Classical.choose_spec hx)
   rw[h] at hs
   exact ⟨_,hs⟩
  ·cases h
 ·rintro ⟨n,h⟩
  have hx:∃ n t,lrun B n s=some t:=⟨n,t,h⟩
  rw[dif_pos hx]
  exact congrArg some (Afe (Classical.choose_spec (Classical.choose_spec hx)) h)
theorem Bk {σ τ:Type} (B:σ->Option (Sum σ τ)) (s:σ):lfix B s=match B s with
  | some (.inl s')=>lfix B s'
  | some (.inr t)=>some t
  | none=>none:=by
 apply Option.ext
 intro t
 rw[Vc]
 constructor
 ·rintro ⟨n,h⟩
  cases n with
  | zero=>simp[lrun] at h
  | succ n=>
   simp only[lrun] at h
   split at h
   ·rename_i s' hb;exact Vc.2 ⟨n,h⟩
   ·exact h
   ·cases h
 ·intro h
  cases hb:B s with
  | none=>rw[hb] at h;cases h
  | some x=>
   rw[hb] at h
   cases x with
   | inl s'=>
    obtain ⟨n,hn⟩:=Vc.1 h
    exact ⟨n+1,by simp only[lrun,hb];exact hn⟩
   | inr u=>exact ⟨1,by simp only[lrun,hb];exact h⟩
noncomputable def Zm {σ τ:Type} (B:σ->Option (Sum σ τ)) (s:σ):Nat:=@dite Nat (∃ n t,lrun B n s=some t) (Classical.propDecidable _) (fun h=>go (Classical.choose h)) (fun _=>0)
where go (n:Nat):Nat:=match n with
 | 0=>0
 | k+1=>if (lrun B k s).isSome=true then go k else k+1
theorem Akm {σ τ:Type} (B:σ->Option (Sum σ τ)) (s:σ):∀ (n:Nat) (t:τ),lrun B n s=some t->lrun B (Zm.go B s n) s=some t/\∀ m u,lrun B m s=some u->Zm.go B s n<=m
 | 0,t,h=>by simp[lrun] at h
 | n+1,t,h=>by
  unfold Zm.go
  by_cases hx:(lrun B n s).isSome=true
  ·rw[if_pos hx]
   obtain ⟨u,hu⟩:=Option.isSome_iff_exists.1 hx
   rw[Afe h hu]
   exact Akm B s n u hu
  ·rw[if_neg hx]
   refine ⟨h,fun m u hm=>?_⟩
   rcases Nat.lt_or_ge m (n+1) with hlt | hge
   ·exact absurd (by rw[Yu hm (show m<=n by omega)];rfl) hx
   ·exact hge
theorem Aff {σ τ:Type} {B:σ->Option (Sum σ τ)} {s:σ} {t:τ} (h:lfix B s=some t):lrun B (Zm B s) s=some t/\∀ m u,lrun B m s=some u->Zm B s<=m:=by
 obtain ⟨n,hn⟩:=Vc.1 h
 have hx:∃ n t,lrun B n s=some t:=⟨n,t,hn⟩
 unfold Zm
 rw[dif_pos hx]
 obtain ⟨u,hu⟩:=Classical.choose_spec hx
 have:=Afe hu hn
 subst this
 exact Akm B s _ u hu
theorem Atb {σ τ:Type} {B:σ->Option (Sum σ τ)} {s s':σ} {t:τ} (h:lfix B s=some t) (hb:B s=some (.inl s')):lfix B s'=some t/\Zm B s' < Zm B s:=by
 obtain ⟨h1,_⟩:=Aff h
 cases hn:Zm B s with
 | zero=>rw[hn] at h1;simp[lrun] at h1
 | succ n=>
  rw[hn] at h1
  simp only[lrun,hb] at h1
  exact ⟨Vc.2 ⟨n,h1⟩,Nat.lt_succ_of_le ((Aff (Vc.2 ⟨n,h1⟩)).2 n t h1)⟩
theorem Bl {σ τ:Type} {B:σ->Option (Sum σ τ)} (μ:σ->Nat) (C:σ->Prop) (R:τ->Prop) (h:∀ s,C s->(∃ s',B s=some (.inl s')/\C s'/\μ s' < μ s)\/∃ t,B s=some (.inr t)/\R t) :
  ∀ s,C s->∃ t,lfix B s=some t/\R t:=by
 have key:∀ (n:Nat) (s:σ),μ s=n->C s->∃ t,lfix B s=some t/\R t:=by
  intro n
  induction n using Nat.strongRecOn with
  | ind n ih=>
   intro s hn hs
   rw[Bk]
   rcases h s hs with ⟨s',hb,hC,hm⟩ | ⟨t,hb,hR⟩
   ·rw[hb];exact ih (μ s') (by omega) s' rfl hC
   ·rw[hb];exact ⟨t,rfl,hR⟩
 exact fun s hs=>key _ s rfl hs

def idx {α:Type} (l:List α) (i:Int):Option α:=if 0<=i then l[i.toNat]? else none
def setI {α:Type} (l:List α) (i:Int) (x:α):List α:=l.set i.toNat x
theorem Abj {α:Type} {l:List α} {i:Int} {x:α} (h:idx l i=some x):∃ (j:Nat) (hj:j < l.length),i=(j:Int)/\l[j]=x:=by
 unfold idx at h
 split at h
 ·obtain ⟨hj,hx⟩:=List.getElem?_eq_some_iff.1 h
  exact ⟨i.toNat,hj,by omega,hx⟩
 ·cases h
theorem Bb {α:Type} {l:List α} {j:Nat} (hj:j < l.length):idx l (j:Int)=some l[j]:=by
 unfold idx;rw[if_pos (by omega)];simp[hj]
theorem Ip {α:Type} {l:List α} {i:Int} {x:α}:(setI l i x).length=l.length:=by simp[setI]
theorem Vd {α:Type} {l:List α} {j:Nat} {x:α}:setI l (j:Int) x=l.set j x:=by simp[setI]
def subl {α:Type} (l:List α) (i j:Int):List α:=(l.take j.toNat).drop i.toNat

theorem Aob {α:Type} (l:List α) (j:Int):subl l 0 j=l.take j.toNat:=by simp[subl]
def w64 (x:Int):Int:=IntKind.wrap .i64 x
def wu64 (x:Int):Int:=IntKind.wrap .u64 x
def wu32 (x:Int):Int:=IntKind.wrap .u32 x
def wu8 (x:Int):Int:=IntKind.wrap .u8 x
theorem Aip (x:Int):w64 x=(x+9223372036854775808) % 18446744073709551616-9223372036854775808:=by
 unfold w64;rw[IntKind.wrap_i64]
theorem Ay {x:Int} (h:-9223372036854775808<=x) (h':x<=9223372036854775807):w64 x=x:=by rw[Aip];omega
end Go.Proofs.YtjfndjmabhbicaaGreat
