import Derived.Test.YthlkpgdfifnagaaGreatDraw
import Derived.LoopN
import Derived.Laws.IdiomCopy
import Derived.Laws.StructEq
import Derived.Laws.BytesArg
import Derived.Laws.Strings
import Derived.Maps.OwnSet
import Derived.Maps.Views
import Derived.DeepKeys4
namespace Go.Proofs.YthlkpgdfifnagaaGreat
open Go Go.RowKit
noncomputable section
section
section
variable {P:Program}{n:Nat}{N:AW}{Q:Exit->AW}{fr:lF}{L:LE}
theorem Fr.known{a s v}(h:Fr n fr a)(hs:look fr s=some v):Fr n ((s,v)::fr) a:=by
 refine⟨h.nod,h.size,fun t u hu=>?_⟩;simp only[look] at hu;cases hb:Nat.beq s t with
 |true=>
  rw[hb] at hu;have e:=Nat.eq_of_beq_eq_true hb;subst e;simp only[cond_true,Option.some.injEq] at hu;subst hu;exact h.val _ _ hs
 |false=>rw[hb] at hu;exact h.val t u hu
theorem Yl{s:Nat}{b:Bool}(hs:look fr s=some (.bool b))(ht:b=true->T n N ((s,.bool true)::fr) L)(hf:b=false->T n N ((s,.bool false)::fr) L):T n N fr L:=by
 intro a w ha hw;cases b with
 |true=>exact ht rfl a w (ha.known hs) hw
 |false=>exact hf rfl a w (ha.known hs) hw
theorem Arf{s:Nat}{p:Prop}[Decidable p](hs:look fr s=some (.bool (decide p)))(ht:p->T n N ((s,.bool true)::fr) L)(hf:¬p->T n N ((s,.bool false)::fr) L):T n N fr L :=
 Yl hs (fun h=>ht (of_decide_eq_true h)) (fun h=>hf (of_decide_eq_false h))
theorem Aee{s:Nat}{b:Bool}(hs:look fr s=some (.bool (!b)))(ht:b=false->T n N ((s,.bool true)::fr) L)(hf:b=true->T n N ((s,.bool false)::fr) L):T n N fr L :=
 Yl hs (fun h=>ht (by simpa using h)) (fun h=>hf (by simpa using h))
theorem Avu{s:Nat}{p:Prop}[Decidable p](hs:look fr s=some (.bool (!decide p)))(ht:¬p->T n N ((s,.bool true)::fr) L)(hf:p->T n N ((s,.bool false)::fr) L):T n N fr L :=
 Aee hs (fun h=>ht (of_decide_eq_false h)) (fun h=>hf (of_decide_eq_true h))
theorem Avv{K:AW}{id:Nat}(k:T n (Q (.exit id)) fr L):T n (Exit.then K Q (.exit id)) fr L:=k
theorem Avw{K:AW}(k:T n (Q .ret) fr L):T n (Exit.then K Q .ret) fr L:=k
theorem Bbz{id:Nat}(k:T n (Q .ret) fr L):T n (Exit.inBlock id Q .ret) fr L:=k
theorem Bb0{id:Nat}(k:T n (Q .normal) fr L):T n (Exit.inBlock id Q .normal) fr L:=k
theorem Ape{s:Nat}{v v':Value}(hs:look fr s=some v)(he:v=v')(k:T n N ((s,v')::fr) L):T n N fr L:=fun a w ha hw=>k a w (ha.known (by rw[hs,he])) hw
theorem SetE.same{i:Nat}{e e':Ent}{L L'}(hL:SetE L i e e' L'):e=e'->L'=L:=by
 induction hL with
 |here=>intro h;rw[h]
 |there _ ih=>intro h;rw[ih h]
theorem Amz{i:Nat}{e e':Ent}{L'}(hL:SetE L i e e' L')(he:e=e')(k:T n N fr L'):T n N fr L:=by
 rw[hL.same he] at k;exact k
theorem Ent.ok_none(w:World)(t:TypeId)(sz:Nat):Ent.ok w (.r none 0 0 t sz []):=⟨s_,.inl ⟨rfl,rfl⟩⟩
theorem Bb(t:TypeId)(sz:Nat)(k:T n N fr (.r none 0 0 t sz []::L)):T n N fr L:=by
 intro a w ha hw;refine k a w ha ⟨fun e he=>?_,?_⟩
 .rcases List.mem_cons.1 he with rfl|he
  .exact Ent.ok_none w t sz
  .exact hw.ok e he
 .rw[List.pairwise_cons];exact⟨fun x hx=>⟨fun g hg=>(by cases hg),fun g hg=>⟨Nat.zero_le _,fun h=>(by cases h)⟩⟩,hw.sep⟩
end
def top:IntKind->Nat
 |.i8=>127 | .i16=>32767 | .i32=>2147483647 | .i64=>9223372036854775807
 |.u8=>255 | .u16=>65535 | .u32=>4294967295 | .u64=>18446744073709551615
theorem Ahu(k:IntKind)(a:Nat)(h:a<=top k):k.wrap (a:Int)=(a:Int):=by
 cases k <;> simp only[top] at h <;> simp[IntKind.wrap,IntKind.bits,IntKind.signed] <;> omega
def val(b:Nat):LM->Nat
 |[]=>0
 |x::r=>x+b*val b r
def nrm:LM->LM
 |[]=>[]
 |x::r=>match nrm r with
  |[]=>if x=0 then [] else [x]
  |y::s=>x::y::s
def digF(b:Nat):Nat->Nat->LM
 |0,_=>[]
 |f+1,m=>if m=0 then [] else m%b::digF b f (m/b)
def dig(b m:Nat):LM:=digF b m m
theorem Atm{b:Nat}(hb:2<=b):∀(m f g:Nat),m<=f->m<=g->digF b f m=digF b g m:=by
 intro m
 induction m using Nat.strongRecOn with
 |_ m ih=>
  intro f g hf hg
  by_cases h0:m=0
  .subst h0;cases f <;> cases g <;> simp[digF]
  .match f,g with
   |0,_=>omega
   |_,0=>omega
   |f+1,g+1=>
    simp only[digF,if_neg h0];have hlt:m/b<m:=Nat.div_lt_self oo oo;rw[ih (m/b) hlt f g oo oo]
theorem Rj(b:Nat):dig b 0=[]:=rfl
theorem Sd{b m:Nat}(hb:2<=b)(h:m≠0):dig b m=m%b::dig b (m/b):=by
 unfold dig
 match m,h with
 |m+1,h=>
  rw[digF,if_neg oo];have hlt:(m+1)/b<m+1:=Nat.div_lt_self oo oo;rw[Atm hb _ m ((m+1)/b) oo (Nat.le_refl _)]
theorem Xa{b m:Nat}(hb:2<=b):dig b m=[]↔m=0:=by
 constructor
 .intro h
  by_cases h0:m=0
  .exact h0
  .rw[Sd hb h0] at h;cases h
 .rintro rfl;rfl
theorem Cq{b:Nat}(hb:2<=b)(m:Nat):val b (dig b m)=m:=by
 induction m using Nat.strongRecOn with
 |_ m ih=>
  by_cases h0:m=0
  .subst h0;rfl
  .rw[Sd hb h0,val,ih (m/b) (Nat.div_lt_self oo oo)];have:=Nat.div_add_mod m b;omega
theorem Oy{b:Nat}(hb:2<=b)(m:Nat):∀x∈dig b m,x<b:=by
 induction m using Nat.strongRecOn with
 |_ m ih=>
  by_cases h0:m=0
  .subst h0;intro x hx;simp[dig,digF] at hx
  .rw[Sd hb h0];intro x hx;rcases List.mem_cons.1 hx with rfl|hx
   .exact Nat.mod_lt _ oo
   .exact ih (m/b) (Nat.div_lt_self oo oo) x hx
theorem Afd{b:Nat}:∀(l:LM),(∀x∈l,x<b)->val b l<b^l.length
 |[],_=>by simp[val]
 |x::r,h=>by
  have h1:=h x List.mem_cons_self;have h2:=Afd r (fun y hy=>h y (List.mem_cons_of_mem _ hy));rw[val,List.length_cons,Nat.pow_succ];have:b*val b r+b<=b*b^r.length:=by
   rw[<-Nat.mul_succ];exact Nat.mul_le_mul_left _ h2
  rw[Nat.mul_comm (b^r.length) b];omega
theorem Xr{b:Nat}(hb:2<=b):∀(l:LM),(∀x∈l,x<b)->nrm l=dig b (val b l)
 |[],_=>rfl
 |x::r,h=>by
  have h1:=h x List.mem_cons_self;have ih:=Xr hb r (fun y hy=>h y (List.mem_cons_of_mem _ hy));rw[nrm,val];cases hr:nrm r with
  |nil=>
   rw[hr] at ih;have hv:val b r=0:=(Xa hb).1 ih.symm;rw[hv];simp only[Nat.mul_zero,Nat.add_zero]
   by_cases hx:x=0
   .subst hx;rfl
   .rw[if_neg hx,Sd hb hx,Nat.mod_eq_of_lt h1,Nat.div_eq_of_lt h1];rfl
  |cons y s=>
   rw[hr] at ih;have hv:val b r≠0:=fun h0=>by rw[h0] at ih;cases ih
   have hne:x+b*val b r≠0:=by
    have:0<b*val b r:=Nat.mul_pos oo oo;omega
   simp only;rw[Sd hb hne,Nat.add_mul_mod_self_left,Nat.mod_eq_of_lt h1,Nat.add_mul_div_left _ _ oo,Nat.div_eq_of_lt h1,Nat.zero_add,<-ih]
theorem Am0:∀(l:LM),nrm l=l.take (nrm l).length
 |[]=>rfl
 |x::r=>by
  have ih:=Am0 r;rw[nrm];cases hr:nrm r with
  |nil=>by_cases hx:x=0 <;> simp[hx]
  |cons y s=>rw[hr] at ih;simp only[List.length_cons,List.take_succ_cons] at ih⊢;rw[<-ih]
theorem Afe:∀(l:LM),(∀x∈l,x=0)->nrm l=[]
 |[],_=>rfl
 |x::r,h=>by
  rw[nrm,Afe r (fun y hy=>h y (List.mem_cons_of_mem _ hy))];simp[h x List.mem_cons_self]
theorem Avx:∀(l:LM) (k:Nat),k<=l.length->(∀j (h:j<l.length),k<=j->l[j]=0)->(∀h:0<k,∀h':k-1<l.length,l[k-1]≠0)->(nrm l).length=k
 |[],k,hk,_,_=>by simp at hk;subst hk;rfl
 |x::r,0,_,h0,_=>by
  rw[Afe (x::r) (fun y hy=>by
   obtain⟨j,hj,rfl⟩:=List.getElem_of_mem hy;exact h0 j hj (Nat.zero_le _))];rfl
 |x::r,k+1,hk,h0,h1=>by
  have ih:=Avx r k (by simpa using hk) (fun j hj hkj=>by
   have:=h0 (j+1) (by simpa using hj) oo;simpa using this) (fun hk0 hk1=>by
   have:=h1 oo (by simp;omega);have e:(x::r)[k+1-1]'(by simp;omega)=r[k-1]:=by
    have:k+1-1=(k-1)+1:=oo;simp only[this,List.getElem_cons_succ]
   rwa [e] at this)
  rw[nrm];cases hr:nrm r with
  |nil=>
   rw[hr] at ih;simp at ih;subst ih;have:=h1 oo s_;simp at this;simp[this]
  |cons y s=>rw[hr] at ih;simp at ih⊢;exact ih
theorem Ym{b:Nat}:∀(l:LM) (j v:Nat) (h:j<l.length),val b (l.set j v)+l[j]*b^j=val b l+v*b^j
 |x::r,0,v,_=>by simp[val];omega
 |x::r,j+1,v,h=>by
  have hj:j<r.length:=by simpa using h
  have ih:=Ym (b:=b) r j v hj;simp only[List.set_cons_succ,val,List.getElem_cons_succ,Nat.pow_succ];have e1:r[j]*(b^j*b)=b*(r[j]*b^j):=by grind
  have e2:v*(b^j*b)=b*(v*b^j):=by grind
  rw[e1,e2];have:=congrArg (b * ·) ih;simp only[Nat.mul_add] at this;omega
theorem Zm{b:Nat}:∀(m:Nat),val b (List.replicate m 0)=0
 |0=>rfl
 |m+1=>by simp[List.replicate_succ,val,Zm m]
theorem Xs{b:Nat}:∀(l r:LM),val b (l++r)=val b l+b^l.length*val b r
 |[],r=>by simp[val]
 |x::l,r=>by
  simp only[List.cons_append,val,Xs l r,List.length_cons,Nat.pow_succ,Nat.mul_add];have:b^l.length*b*val b r=b*(b^l.length*val b r):=by grind
  omega
theorem Sw{b:Nat}(l:LM)(j:Nat)(h:j<l.length):val b (l.take (j+1))=val b (l.take j)+b^j*l[j]:=by
 rw[List.take_succ_eq_append_getElem h,Xs,List.length_take,Nat.min_eq_left oo];simp[val]
theorem SubE.nil{L}:SubE [] L:=.of fun _ h=>by simp at h
theorem SubE.cons2{K L e}{i:Nat}(h:nthE L i=some e)(h':SubE K L):SubE (e::K) L:=⟨fun w hw x hx=>by
 rcases List.mem_cons.1 hx with rfl|hx
 .exact hw _ (Ft h)
 .exact h'.ok w hw _ hx⟩
theorem SubE.tail{K L e}(h:SubE K L):SubE K (e::L):=h.cons
theorem Has.take{α:Type}{K:LE}{A:OA}{m c sz:Nat}{enc:α->LV}{l:List α}(h:Has K A m c sz enc l){k:Nat}(hk:k<=m):Has K A k c sz enc (l.take k):=by
 have hl:=h.len;refine⟨by rw[List.length_take];omega,by have:=h.nc;omega,h.cap,fun x hx=>h.esz x (List.mem_of_mem_take hx),fun h0=>?_⟩;obtain⟨b,o,hA,hp⟩:=h.at_ oo;refine⟨b,o,hA,fun i hi=>?_⟩;rw[List.length_take] at hi;rw[List.getElem_take];exact hp i oo
theorem Aam{α:Type}{enc:α->LV}{sz:Nat}:∀(l:List α) (i:Nat) (hi:i<l.length),(∀x∈l,(enc x).length=sz)->∀(j:Nat) (u:Value),(enc l[i])[j]? = some u->(l.flatMap enc)[i*sz+j]? = some u
 |[],i,hi,_,j,u,hu=>by simp at hi
 |x::r,0,_,he,j,u,hu=>by
  have hlt:j<(enc x).length:=(List.getElem?_eq_some_iff.1 hu).1;rw[List.flatMap_cons,Nat.zero_mul,Nat.zero_add,List.getElem?_append_left hlt];exact hu
 |x::r,i+1,hi,he,j,u,hu=>by
  have hx:=he x List.mem_cons_self;rw[List.flatMap_cons,List.getElem?_append_right (by rw[hx,Nat.succ_mul];omega),hx,show (i+1)*sz+j-sz=i*sz+j from by rw[Nat.succ_mul];omega];exact Aam r i (by simpa using hi) (fun y hy=>he y (List.mem_cons_of_mem _ hy)) j u (by simpa using hu)
theorem Has.ofM{α:Type}{enc:α->List Value}{sz n:Nat}{l:List α}{g:Nat}{t:TypeId}{cs:List Value}(he:∀ x∈l,(enc x).length=sz)(hn:l.length=n)(hm:n<=maxLen)(hc:cs=l.flatMap enc):
  Has [.m g t cs] (some ⟨g,0,none⟩) n n sz enc l:=by
 subst hc;refine⟨hn,Nat.le_refl _,hm,he,fun _=>⟨g,0,rfl,fun i hi w hw j u hu=>?_⟩⟩;rw[Yv (hw _ (List.mem_singleton.2 rfl)),Nat.zero_add];exact Aam l i hi he j u hu
theorem Has.nil{α:Type}{K:LE}{sz:Nat}{enc:α->LV}:Has K none 0 0 sz enc []:=⟨rfl,Nat.le_refl _,Nat.zero_le _,fun _ h=>by simp at h,fun h=>absurd h oo⟩
theorem Ber{K L:LE}{w:World}(h:SubE K L)(hw:Heap L w):∀e∈K,Ent.ok w e:=h.ok w hw.ok
theorem Atn(m:Nat)(hm:m<=18446744073709551615):nrm [m%4294967296,m/4294967296%4294967296]=dig 4294967296 m:=by
 rw[Xr (b:=4294967296) oo _ (by intro x hx;simp at hx;omega)];congr 1;simp only[val];omega
theorem Am1{a b:Nat}(ha:a<4294967296)(hb:b<4294967296):a*b<=18446744065119617025:=by
 have:a*b<=4294967295*4294967295:=Nat.mul_le_mul oo oo;omega
theorem Tt{l:LM}{j v b:Nat}(h:∀x∈l,x<b)(hv:v<b):∀x∈l.set j v,x<b:=by
 intro x hx;rcases List.mem_or_eq_of_mem_set hx with h'|h'
 .exact h x h'
 .rw[h'];exact hv
theorem Ato{l r out out0:List Nat}{n m i j cy:Nat}(hi:i<l.length)(hj:j<r.length)(hn:l.length=n)(hm:r.length=m)(h1:l[i]<4294967296)(h2:r[j]<4294967296)(hD1:out.length=n+m)(hD2:cy<4294967296)(hD3:j<=m)(hD4:∀ x∈out,x<4294967296)(hD5:∀ (q:Nat) (h:q<out.length),i+m<=q->out[q]=0)(hD6:val 4294967296 out+cy*4294967296 ^ (i+j)=val 4294967296 out0+l[i] * val 4294967296 (r.take j)*4294967296 ^ i)(hk:i+j<out.length):
  (out.set (i+j) ((l[i]*r[j]+out[i+j]+cy)%4294967296)).length=n+m/\(l[i]*r[j]+out[i+j]+cy)/4294967296<4294967296/\j+1<=m /\
   (∀x∈out.set (i+j) ((l[i]*r[j]+out[i+j]+cy)%4294967296),x<4294967296) /\
   (∀(q:Nat) (h:q<(out.set (i+j) ((l[i]*r[j]+out[i+j]+cy)%4294967296)).length),i+m<=q->(out.set (i+j) ((l[i]*r[j]+out[i+j]+cy)%4294967296))[q]=0) /\
   val 4294967296 (out.set (i+j) ((l[i]*r[j]+out[i+j]+cy)%4294967296))+(l[i]*r[j]+out[i+j]+cy)/4294967296*4294967296^(i+(j+1)) =
    val 4294967296 out0+l[i]*val 4294967296 (r.take (j+1))*4294967296^i:=by
 have h3:=hD4 out[i+j] (List.getElem_mem hk);have hmm:=Am1 h1 h2;refine⟨by simp[hD1],oo,oo,Tt hD4 (Nat.mod_lt _ oo),fun q hq hiq=>?_,?_⟩
 .rw[List.getElem_set_ne oo];exact hD5 q (by simpa using hq) hiq
 .have hs:=Ym (b:=4294967296) out (i+j) ((l[i]*r[j]+out[i+j]+cy)%4294967296) hk;rw[Sw r j hj];generalize hV:val 4294967296 (out.set (i+j) ((l[i]*r[j]+out[i+j]+cy)%4294967296))=V at hs⊢;have hdm:=Nat.div_add_mod (l[i]*r[j]+out[i+j]+cy) 4294967296;generalize (l[i]*r[j]+out[i+j]+cy)/4294967296=q at hdm⊢;generalize (l[i]*r[j]+out[i+j]+cy)%4294967296=t at hdm hs;have hp:(4294967296:Nat)^(i+(j+1))=4294967296^(i+j)*4294967296:=by rw[<-Nat.add_assoc,Nat.pow_succ]
  have hp2:(4294967296:Nat)^(i+j)=4294967296^i*4294967296^j:=Nat.pow_add _ _ _;rw[hp];rw[hp2] at hs hD6 ⊢;generalize (4294967296:Nat)^i=P at *;generalize (4294967296:Nat)^j=R at *;generalize val 4294967296 (r.take j)=W at *;generalize val 4294967296 out=O at *;generalize val 4294967296 out0=O0 at *;generalize l[i]=a at *;generalize r[j]=c at *;generalize out[i+j]=o at *;have e:=congrArg (· * (P*R)) hdm;grind
theorem Atp{l r out out0:List Nat}{n m i j cy:Nat}(hi:i<l.length)(hn:l.length=n)(hm:r.length=m)(hD1:out.length=n+m)(hD2:cy<4294967296)(hD4:∀ x∈out,x<4294967296)(hD5:∀ (q:Nat) (h:q<out.length),i+m<=q->out[q]=0)(hD6:val 4294967296 out+cy*4294967296 ^ (i+j)=val 4294967296 out0+l[i] * val 4294967296 (r.take j)*4294967296 ^ i)(hC5:val 4294967296 out0=val 4294967296 (l.take i)*val 4294967296 r)(hj:j=m):
  (out.set (i+m) (cy%4294967296)).length=n+m/\i+1<=n/\(∀x∈out.set (i+m) (cy%4294967296),x<4294967296) /\
   (∀(q:Nat) (h:q<(out.set (i+m) (cy%4294967296)).length),i+1+m<=q->(out.set (i+m) (cy%4294967296))[q]=0) /\
   val 4294967296 (out.set (i+m) (cy%4294967296))=val 4294967296 (l.take (i+1))*val 4294967296 r:=by
 subst hj;rw[Nat.mod_eq_of_lt hD2];refine⟨by simp[hD1],oo,Tt hD4 hD2,fun q hq hiq=>?_,?_⟩
 .rw[List.getElem_set_ne oo];exact hD5 q (by simpa using hq) oo
 .have hk:i+j<out.length:=oo;have hs:=Ym (b:=4294967296) out (i+j) cy hk;rw[hD5 (i+j) hk (Nat.le_refl _)] at hs;rw[Sw l i hi];rw[List.take_of_length_le oo] at hD6;rw[hC5] at hD6;rw[Nat.add_mul];have:4294967296^i*l[i]*val 4294967296 r=l[i]*val 4294967296 r*4294967296^i:=by grind
  omega
theorem Avy{l r out:LM}{n m i:Nat}(hi:i=n)(hn:l.length=n)(hC1:out.length=n+m)(hC3:∀x∈out,x<4294967296)(hC5:val 4294967296 out=val 4294967296 (l.take i)*val 4294967296 r):nrm out=dig 4294967296 (val 4294967296 l*val 4294967296 r):=by
 subst hi;rw[Xr (b:=4294967296) oo out hC3,hC5,List.take_of_length_le oo]
theorem Am2{a b:Nat}(ha:a<65536)(hb:b<65536):a*b<=4294836225:=by
 have:a*b<=65535*65535:=Nat.mul_le_mul oo oo;omega
theorem Am3{l r out out0:List Nat}{n m i j cy:Nat}(hi:i<l.length)(hj:j<r.length)(hn:l.length=n)(hm:r.length=m)(h1:l[i]<65536)(h2:r[j]<65536)(hD1:out.length=n+m)(hD2:cy<65536)(hD3:j<=m)(hD4:∀ x∈out,x<65536)(hD5:∀ (q:Nat) (h:q<out.length),i+m<=q->out[q]=0)(hD6:val 65536 out+cy*65536 ^ (i+j)=val 65536 out0+l[i] * val 65536 (r.take j)*65536 ^ i)(hk:i+j<out.length):
  (out.set (i+j) ((l[i]*r[j]+out[i+j]+cy)%65536)).length=n+m/\(l[i]*r[j]+out[i+j]+cy)/65536<65536/\j+1<=m /\
   (∀x∈out.set (i+j) ((l[i]*r[j]+out[i+j]+cy)%65536),x<65536) /\
   (∀(q:Nat) (h:q<(out.set (i+j) ((l[i]*r[j]+out[i+j]+cy)%65536)).length),i+m<=q->(out.set (i+j) ((l[i]*r[j]+out[i+j]+cy)%65536))[q]=0) /\
   val 65536 (out.set (i+j) ((l[i]*r[j]+out[i+j]+cy)%65536))+(l[i]*r[j]+out[i+j]+cy)/65536*65536^(i+(j+1)) =
    val 65536 out0+l[i]*val 65536 (r.take (j+1))*65536^i:=by
 have h3:=hD4 out[i+j] (List.getElem_mem hk);have hmm:=Am2 h1 h2;refine⟨by simp[hD1],oo,oo,Tt hD4 (Nat.mod_lt _ oo),fun q hq hiq=>?_,?_⟩
 .rw[List.getElem_set_ne oo];exact hD5 q (by simpa using hq) hiq
 .have hs:=Ym (b:=65536) out (i+j) ((l[i]*r[j]+out[i+j]+cy)%65536) hk;rw[Sw r j hj];generalize hV:val 65536 (out.set (i+j) ((l[i]*r[j]+out[i+j]+cy)%65536))=V at hs⊢;have hdm:=Nat.div_add_mod (l[i]*r[j]+out[i+j]+cy) 65536;generalize (l[i]*r[j]+out[i+j]+cy)/65536=q at hdm⊢;generalize (l[i]*r[j]+out[i+j]+cy)%65536=t at hdm hs;have hp:(65536:Nat)^(i+(j+1))=65536^(i+j)*65536:=by rw[<-Nat.add_assoc,Nat.pow_succ]
  have hp2:(65536:Nat)^(i+j)=65536^i*65536^j:=Nat.pow_add _ _ _;rw[hp];rw[hp2] at hs hD6 ⊢;generalize (65536:Nat)^i=P at *;generalize (65536:Nat)^j=R at *;generalize val 65536 (r.take j)=W at *;generalize val 65536 out=O at *;generalize val 65536 out0=O0 at *;generalize l[i]=a at *;generalize r[j]=c at *;generalize out[i+j]=o at *;have e:=congrArg (· * (P*R)) hdm;grind
theorem Am4{l r out out0:List Nat}{n m i j cy:Nat}(hi:i<l.length)(hn:l.length=n)(hm:r.length=m)(hD1:out.length=n+m)(hD2:cy<65536)(hD4:∀ x∈out,x<65536)(hD5:∀ (q:Nat) (h:q<out.length),i+m<=q->out[q]=0)(hD6:val 65536 out+cy*65536 ^ (i+j)=val 65536 out0+l[i] * val 65536 (r.take j)*65536 ^ i)(hC5:val 65536 out0=val 65536 (l.take i)*val 65536 r)(hj:j=m):
  (out.set (i+m) (cy%65536)).length=n+m/\i+1<=n/\(∀x∈out.set (i+m) (cy%65536),x<65536) /\
   (∀(q:Nat) (h:q<(out.set (i+m) (cy%65536)).length),i+1+m<=q->(out.set (i+m) (cy%65536))[q]=0) /\
   val 65536 (out.set (i+m) (cy%65536))=val 65536 (l.take (i+1))*val 65536 r:=by
 subst hj;rw[Nat.mod_eq_of_lt hD2];refine⟨by simp[hD1],oo,Tt hD4 hD2,fun q hq hiq=>?_,?_⟩
 .rw[List.getElem_set_ne oo];exact hD5 q (by simpa using hq) oo
 .have hk:i+j<out.length:=oo;have hs:=Ym (b:=65536) out (i+j) cy hk;rw[hD5 (i+j) hk (Nat.le_refl _)] at hs;rw[Sw l i hi];rw[List.take_of_length_le oo] at hD6;rw[hC5] at hD6;rw[Nat.add_mul];have:65536^i*l[i]*val 65536 r=l[i]*val 65536 r*65536^i:=by grind
  omega
theorem Apf{l r out:LM}{n m i:Nat}(hi:i=n)(hn:l.length=n)(hC1:out.length=n+m)(hC3:∀x∈out,x<65536)(hC5:val 65536 out=val 65536 (l.take i)*val 65536 r):nrm out=dig 65536 (val 65536 l*val 65536 r):=by
 subst hi;rw[Xr (b:=65536) oo out hC3,hC5,List.take_of_length_le oo]
theorem Az1{b:Nat}(hb:2<=b)(m:Nat):nrm (dig b m)=dig b m:=by
 rw[Xr hb _ (Oy hb m),Cq hb]
theorem Ag3{b:Nat}(hb:2<=b):dig b 1=[1]:=by
 rw[Sd hb oo,Nat.mod_eq_of_lt oo,Nat.div_eq_of_lt oo];rfl
theorem Arg{b : Nat}(hb : 2 <= b): ∀ (k m : Nat), m<b ^ k -> (dig b m).length <= k := by
  intro k
  induction k with
  | zero => intro m hm;have : m = 0 := by simpa using hm
            subst this;simp[Rj]
  | succ k ih=>
    intro m hm
    by_cases h0:m=0
    · subst h0;simp[Rj]
    · rw[Sd hb h0, List.length_cons];have:=ih (m/b) (Nat.div_lt_of_lt_mul (by rw[Nat.pow_succ] at hm;rw[Nat.mul_comm];exact hm));omega
variable {P:Program}{n:Nat}{N:AW}{Q:Exit->AW}{fr:lF}{L:LE}
def cmpN(x y:Nat):Int:=if x<y then -1 else if x=y then 0 else 1
theorem Ak4{b:Nat}(hb:0<b):∀(l r:LM) (k:Nat) (hk:k<l.length) (hk':k<r.length),l.length=r.length->(∀x∈l,x<b)->(∀(j:Nat) (h:j<l.length) (h':j<r.length),k<j->l[j]=r[j])->l[k]<r[k]->val b l<val b r
 |[],_,_,hk,_,_,_,_,_=>by simp at hk
 |_::_,[],_,_,hk',_,_,_,_=>by simp at hk'
 |x::l,y::r,0,_,_,hlen,_,heq,hlt=>by
  have:l=r:=List.ext_getElem (by simpa using hlen) (fun j h1 h2=>heq (j+1) (by simpa using h1) (by simpa using h2) oo);subst this;simp only[val];simpa using hlt
 |x::l,y::r,k+1,hk,hk',hlen,hl,heq,hlt=>by
  have ih:=Ak4 hb l r k (by simpa using hk) (by simpa using hk') (by simpa using hlen) (fun z hz=>hl z (List.mem_cons_of_mem _ hz))
   (fun j h1 h2 hj=>heq (j+1) (by simpa using h1) (by simpa using h2) oo) (by simpa using hlt)
  have hx:=hl x List.mem_cons_self;simp only[val];have:=Nat.mul_le_mul_left b (Nat.succ_le_of_lt ih);rw[Nat.succ_eq_add_one,Nat.mul_add] at this;omega
theorem Aan{b x y : Nat}(hb : 2 <= b)(h : (dig b x).length<(dig b y).length): x<y := by
  rcases Nat.lt_or_ge x y with h1|h1
  · exact h1
  · exfalso;have mono : ∀ (k x y : Nat), y <= k -> y <= x -> (dig b y).length <= (dig b x).length := by
      intro k
      induction k with
      | zero => intro x y hy _;have : y = 0 := by omega
                subst this;simp[Rj]
      | succ k ih=>
        intro x y hy hxy
        by_cases h0:y=0
        · subst h0;simp[Rj]
        · rw[Sd hb h0, Sd hb (show x ≠ 0 by omega)];have:y/b<y:=Nat.div_lt_self oo hb;have:=ih (x/b) (y/b) oo (Nat.div_le_div_right hxy);simpa using this
    have:=mono y x y (Nat.le_refl _) h1;omega
theorem Ag4{b x y:Nat}(hb:2<=b){n m:Nat}(h1:(dig b x).length=n)(h2:(dig b y).length=m):(n<m->cmpN x y = -1)/\(m<n->cmpN x y=1):=by
 subst h1;subst h2;constructor
 .intro h;have:=Aan hb h;simp[cmpN,this]
 .intro h;have:=Aan hb h;simp only[cmpN];rw[if_neg oo,if_neg oo]
theorem Avz{b x y:Nat}(hb:2<=b){k:Nat}(hlen:(dig b x).length=(dig b y).length)(hk:k<(dig b x).length)(hk':k<(dig b y).length)(heq:∀ (j:Nat) (h:j<(dig b x).length) (h':j<(dig b y).length),k<j->(dig b x)[j]=(dig b y)[j]):
  ((dig b x)[k]<(dig b y)[k]->cmpN x y = -1)/\((dig b y)[k]<(dig b x)[k]->cmpN x y=1):=by
 constructor
 .intro h;have:=Ak4 (b:=b) oo _ _ k hk hk' hlen (Oy hb x) heq h;rw[Cq hb,Cq hb] at this;simp[cmpN,this]
 .intro h;have:=Ak4 (b:=b) oo _ _ k hk' hk hlen.symm (Oy hb y) (fun j h1 h2 hj=>(heq j h2 h1 hj).symm) h;rw[Cq hb,Cq hb] at this;simp only[cmpN];rw[if_neg oo,if_neg oo]
theorem Av0{b x y:Nat}(hb:2<=b)(hlen:(dig b x).length=(dig b y).length)(heq:∀(j:Nat) (h:j<(dig b x).length) (h':j<(dig b y).length),(dig b x)[j]=(dig b y)[j]):cmpN x y=0:=by
 have:dig b x=dig b y:=List.ext_getElem hlen heq;have h2:=congrArg (val b) this;rw[Cq hb,Cq hb] at h2;simp[cmpN,h2]
theorem Bb1{K K2 L:LE}{w w1:World}(hK:∀e∈K,Ent.ok w e)(h0:SubE [.old w] L)(h:SubE K2 L)(hw:Heap L w1):∀e∈K++K2,Ent.ok w1 e:=by
 intro e he;rcases List.mem_append.1 he with he|he
 .exact Ent.ext (hK e he) (h0.ok w1 hw.ok _ List.mem_cons_self)
 .exact h.ok w1 hw.ok e he
theorem SubE.appL{K K2:LE}:SubE K (K++K2):=.of fun _ h=>List.mem_append_left _ h
theorem SubE.appR{K K1 K2:LE}(h:SubE K1 K2):SubE K1 (K++K2):=⟨fun w hw=>h.ok w fun x hx=>hw x (List.mem_append_right _ hx)⟩
end
section
variable {P:Program}{n:Nat}{fr:lF}{L:LE}{dst:Option Nat}{ty:TypeId}{pos:String}{after:AE}{guard:ON}
inductive EqF(P:Program)(d:Nat)(xs ys:Array Value):List Field->Bool->Prop
 |nil:EqF P d xs ys [] true
 | cons {f fs a b r r'} (hn : (f.name == "_") = false) (hx : ∀ w, (part f.type xs f.offset).run P w = .ok a w) (hy : ∀ w, (part f.type ys f.offset).run P w = .ok b w)
   (he:∀w,(Op.equalIn d f.type a b).run P w=.ok r w) (h:EqF P d xs ys fs r'):EqF P d xs ys (f::fs) (r&&r')
theorem EqF.run{d xs ys fs r}(h:EqF P d xs ys fs r):∀w,(Op.eqFields d xs ys fs).run P w=.ok r w:=by
 induction h with
 |nil=>intro w;simp[Op.eqFields]
 |cons hn hx hy he _ ih=>
  intro w;rename_i f fs a b r r' _;have hn':f.name ≠ "_" := by simpa using hn
  simp only[Op.eqFields,hn',ne_eq,not_false_eq_true,if_true,Sem.run_bind,hx,hy,he,Result.andThen_ok];cases r with
  |true=>simp[ih w]
  |false=>simp
theorem EqF.struct{d t xs ys r fs}(ht:P.underlying t=some (.struct fs))(hp:P.stoodInHeld t=false)(h:EqF P d xs ys fs.toList r):∀w,(Op.equalIn (d+1) t (.agg xs) (.agg ys)).run P w=.ok r w:=by
 intro w;have hf:P.fieldsOf t=fs:=by simp[Program.fieldsOf,ht]
 rw[run_equalIn_struct w d t xs ys (by rw[hf];exact ht) hp,hf];exact h.run w
theorem Az2{t t' x y xs ys r}(hx:evo fr x=some (.agg xs))(hy:evo fr y=some (.agg ys))(hm:P.eqGuardType P.depth t=false)(h:∀ w,(Op.equalIn 10000 t (.agg xs) (.agg ys)).run P w = .ok r w):
  Ev P n ⟨dst,.binOp .eql t x y t',ty,pos,after,guard⟩ fr L (.bool r):=fun ac w ha _=>by
 simp[execOp,ha.eval hx,ha.eval hy,run_eqGuard_agg w .eql t x y xs ys hm,run_eql_struct,h]
theorem Az3{t t' x y xs ys r}(hx:evo fr x=some (.agg xs))(hy:evo fr y=some (.agg ys))(hm:P.eqGuardType P.depth t=false)(h:∀ w,(Op.equalIn 10000 t (.agg xs) (.agg ys)).run P w = .ok r w):
  Ev P n ⟨dst,.binOp .neq t x y t',ty,pos,after,guard⟩ fr L (.bool (!r)):=fun ac w ha _=>by
 simp[execOp,ha.eval hx,ha.eval hy,run_eqGuard_agg w .neq t x y xs ys hm,run_neq_struct,h]
section
variable {ops:Array Oper}{Q:Exit->AW}{rest:List Oper}{op:Op}{d:Nat}{cls:Cls}{A:LL}{RL:LM}{R:World->Prop}{p alt:Plan}{i:Nat}
theorem Abk{j s:Nat}{b:Bool}{a:Act}(hj:(ops[j]?).bind (·.dst)=some s)(ha:Fr n fr a)(hs:look fr s=some undef)(hsn:Nat.blt s n=true):
  Region.wanted ⟨some d,op,ty,pos,after,some (j,b)⟩ (yielded ops a.tmps)=false:=by
 have hv:=ha.val s _ hs;have hlt:s<a.tmps.size:=by rw[ha.size];exact (Nat.blt_eq▸hsn)
 have hg:a.tmps[s]? = some undef:=by
  rw[Array.getD_eq_getD_getElem?,Array.getElem?_eq_getElem hlt] at hv;rw[Array.getElem?_eq_getElem hlt];simpa using hv
 have hy:yielded ops a.tmps j=none:=by
  unfold yielded;rw[hj];simp[hg,undef]
 simp[Region.wanted,hy]
theorem Arh{j s:Nat}{b:Bool}(hj:(ops[j]?).bind (·.dst)=some s)(hs:look fr s=some undef)(hsn:Nat.blt s n=true)(hd:Nat.blt d n=true)(k:T n (wpList P ops Q rest) ((d,undef)::fr) L):
  T n (wpList P ops Q (⟨some d,op,ty,pos,after,some (j,b)⟩ :: rest)) fr L:=by
 intro a w ha hw;refine wpList_step (fun K hK=>?_);rw[if_neg (by rw[Abk hj ha hs hsn];simp)];exact hK _ _ (k _ _ (ha.put hd) hw)
theorem Az4{j s:Nat}{b:Bool}(ho:ops[i]? = some ⟨some d,op,ty,pos,after,some (j,b)⟩)(hj:(ops[j]?).bind (·.dst)=some s)(hs:look fr s=some undef)(hsn:Nat.blt s n=true)(hd:Nat.blt d n=true)(k:T n (Bf P ops Q cls A RL R p) ((d,undef)::fr) L):T n (Bf P ops Q cls A RL R (.q i p)) fr L:=by
 intro a w ha hw;have hwn:Region.wanted ⟨some d,op,ty,pos,after,some (j,b)⟩ (yielded ops a.tmps)=false:=Abk hj ha hs hsn;show if _ then _ else _
 by_cases hc:Nat.beq (cls.getD i 9) 0=true
 .rw[if_pos hc];exact⟨_,ho,.inr ⟨hwn,k _ _ (ha.put hd) hw⟩⟩
 .rw[if_neg hc];split
  .exact⟨_,ho,.inr ⟨hwn,k _ _ (ha.put hd) hw⟩⟩
  .exact⟨_,ho,.inr ⟨hwn,k _ _ (ha.put hd) hw⟩⟩
end
end
section
def gd{ρ:Type}(p:Prop)[Decidable p](k:Option ρ):Option ρ:=if p then k else none
def bnd{α ρ:Type}(o:Option α)(k:α->Option ρ):Option ρ:=match o with
 |some x=>k x
 |none=>none
def jn{τ ρ:Type}(k:τ->Option ρ)(x:(τ->Option ρ)->Option ρ):Option ρ:=x k
theorem Ek{ρ:Type}{p:Prop}[Decidable p]{k:Option ρ}{r:ρ}(h:gd p k=some r):p/\k=some r:=by
 unfold gd at h;split at h
 .exact⟨‹_›,h⟩
 .cases h
theorem Bh{α ρ:Type}{o:Option α}{k:α->Option ρ}{r:ρ}(h:bnd o k=some r):∃x,o=some x/\k x=some r:=by
 cases o with
 |none=>cases h
 |some x=>exact⟨x,rfl,h⟩
theorem Az5{τ ρ:Type}{k:τ->Option ρ}{x:(τ->Option ρ)->Option ρ}{r:ρ}(h:jn k x=some r):∃j,j=k/\x j=some r:=⟨k,rfl,h⟩
theorem Xt{ρ:Type}{p:Prop}[Decidable p]{a b o:Option ρ}(hp:p)(h:(if p then a else b)=o):a=o:=by rw[if_pos hp] at h;exact h
theorem Af1{ρ:Type}{p:Prop}[Decidable p]{a b o:Option ρ}(hp:¬p)(h:(if p then a else b)=o):b=o:=by rw[if_neg hp] at h;exact h
theorem Adh{ρ:Type}{p:Bool}{a b o:Option ρ}(hp:p=false)(h:(if p=true then a else b)=o):b=o:=by subst hp;exact h
def lrun{σ τ:Type}(B:σ->Option (Sum σ τ)):Nat->σ->Option τ
 |0,_=>none
 |n+1,s=>match B s with
  |some (.inl s')=>lrun B n s'
  |some (.inr t)=>some t
  |none=>none
def lfix{σ τ:Type}(B:σ->Option (Sum σ τ))(s:σ):Option τ :=
 @dite (Option τ) (∃n t,lrun B n s=some t) (Classical.propDecidable _) (fun h=>some (Classical.choose (Classical.choose_spec h))) (fun _=>none)
theorem Acf{σ τ:Type}{B:σ->Option (Sum σ τ)}:∀{n m:Nat} {s:σ} {t:τ},lrun B n s=some t->n<=m->lrun B m s=some t
 |0,_,_,_,h,_=>by simp[lrun] at h
 |n+1,0,_,_,_,h=>oo
 |n+1,m+1,s,t,h,hm=>by
  simp only[lrun] at h⊢;split at h
  .exact Acf h oo
  .exact h
  .cases h
theorem Ahv{σ τ:Type}{B:σ->Option (Sum σ τ)}{n m:Nat}{s:σ}{t u:τ}(h:lrun B n s=some t)(h':lrun B m s=some u):t=u:=by
 have h1:=Acf h (Nat.le_max_left n m);have h2:=Acf h' (Nat.le_max_right n m);rw[h1] at h2;injection h2
theorem Zn{σ τ:Type}{B:σ->Option (Sum σ τ)}{s:σ}{t:τ}:lfix B s=some t↔∃n,lrun B n s=some t:=by
 unfold lfix;constructor
 .intro h;split at h
  .rename_i hx;injection h with h
   obtain hs:=Classical.choose_spec (Classical.choose_spec hx);rw[h] at hs;exact⟨_,hs⟩
  .cases h
 .rintro⟨n,h⟩;have hx:∃n t,lrun B n s=some t:=⟨n,t,h⟩;rw[dif_pos hx];exact congrArg some (Ahv (Classical.choose_spec (Classical.choose_spec hx)) h)
theorem Ay{σ τ:Type}(B:σ->Option (Sum σ τ))(s:σ):lfix B s=match B s with
  |some (.inl s')=>lfix B s'
  |some (.inr t)=>some t
  |none=>none:=by
 apply Option.ext;intro t;rw[Zn];constructor
 .rintro⟨n,h⟩;cases n with
  |zero=>simp[lrun] at h
  |succ n=>
   simp only[lrun] at h;split at h
   .rename_i s' hb;exact Zn.2 ⟨n,h⟩
   .exact h
   .cases h
 .intro h;cases hb:B s with
  |none=>rw[hb] at h;cases h
  |some x=>
   rw[hb] at h;cases x with
   |inl s'=>
    obtain⟨n,hn⟩:=Zn.1 h;exact⟨n+1,by simp only[lrun,hb];exact hn⟩
   |inr u=>exact⟨1,by simp only[lrun,hb];exact h⟩
def Acz{σ τ:Type}(B:σ->Option (Sum σ τ))(s:σ):Nat:=@dite Nat (∃n t,lrun B n s=some t) (Classical.propDecidable _) (fun h=>go (Classical.choose h)) (fun _=>0)
where go (n:Nat):Nat:=match n with
 |0=>0
 |k+1=>if (lrun B k s).isSome=true then go k else k+1
theorem Am5{σ τ:Type}(B:σ->Option (Sum σ τ))(s:σ):∀(n:Nat) (t:τ),lrun B n s=some t->lrun B (Acz.go B s n) s=some t/\∀m u,lrun B m s=some u->Acz.go B s n<=m
 |0,t,h=>by simp[lrun] at h
 |n+1,t,h=>by
  unfold Acz.go
  by_cases hx:(lrun B n s).isSome=true
  .rw[if_pos hx];obtain⟨u,hu⟩:=Option.isSome_iff_exists.1 hx;rw[Ahv h hu];exact Am5 B s n u hu
  .rw[if_neg hx];refine⟨h,fun m u hm=>?_⟩;rcases Nat.lt_or_ge m (n+1) with hlt|hge
   .exact absurd (by rw[Acf hm (show m<=n by omega)];rfl) hx
   .exact hge
theorem Ahw{σ τ:Type}{B:σ->Option (Sum σ τ)}{s:σ}{t:τ}(h:lfix B s=some t):lrun B (Acz B s) s=some t/\∀m u,lrun B m s=some u->Acz B s<=m:=by
 obtain⟨n,hn⟩:=Zn.1 h;have hx:∃n t,lrun B n s=some t:=⟨n,t,hn⟩;unfold Acz;rw[dif_pos hx];obtain⟨u,hu⟩:=Classical.choose_spec hx;have:=Ahv hu hn;subst this;exact Am5 B s _ u hu
theorem Av1{σ τ:Type}{B:σ->Option (Sum σ τ)}{s s':σ}{t:τ}(h:lfix B s=some t)(hb:B s=some (.inl s')):lfix B s'=some t/\Acz B s'<Acz B s:=by
 obtain⟨h1,_⟩:=Ahw h;cases hn:Acz B s with
 |zero=>rw[hn] at h1;simp[lrun] at h1
 |succ n=>
  rw[hn] at h1;simp only[lrun,hb] at h1;exact⟨Zn.2 ⟨n,h1⟩,Nat.lt_succ_of_le ((Ahw (Zn.2 ⟨n,h1⟩)).2 n t h1)⟩
theorem Aw{σ τ:Type}{B:σ->Option (Sum σ τ)}(μ:σ->Nat)(C:σ->Prop)(R:τ->Prop)(h:∀ s,C s->(∃ s',B s=some (.inl s')/\C s'/\μ s'<μ s)\/∃ t,B s=some (.inr t)/\R t):
  ∀s,C s->∃t,lfix B s=some t/\R t:=by
 have key:∀(n:Nat) (s:σ),μ s=n->C s->∃t,lfix B s=some t/\R t:=by
  intro n
  induction n using Nat.strongRecOn with
  |ind n ih=>
   intro s hn hs;rw[Ay];rcases h s hs with⟨s',hb,hC,hm⟩|⟨t,hb,hR⟩
   .rw[hb];exact ih (μ s') oo s' rfl hC
   .rw[hb];exact⟨t,rfl,hR⟩
 exact fun s hs=>key _ s rfl hs
def idx{α:Type}(l:List α)(i:Int):Option α:=if 0<=i then l[i.toNat]? else none
def setI{α:Type}(l:List α)(i:Int)(x:α):List α:=l.set i.toNat x
theorem Abl{α:Type}{l:List α}{i:Int}{x:α}(h:idx l i=some x):∃(j:Nat) (hj:j<l.length),i=(j:Int)/\l[j]=x:=by
 unfold idx at h;split at h
 .obtain⟨hj,hx⟩:=List.getElem?_eq_some_iff.1 h;exact⟨i.toNat,hj,oo,hx⟩
 .cases h
theorem Am{α:Type}{l:List α}{j:Nat}(hj:j<l.length):idx l (j:Int)=some l[j]:=by
 unfold idx;rw[if_pos oo];simp[hj]
theorem Fn{α:Type}{l:List α}{i:Int}{x:α}:(setI l i x).length=l.length:=by simp[setI]
theorem Io{α:Type}{l:List α}{j:Nat}{x:α}:setI l (j:Int) x=l.set j x:=by simp[setI]
def subl{α:Type}(l:List α)(i j:Int):List α:=(l.take j.toNat).drop i.toNat
theorem Bb2{α:Type}(l:List α)(j:Int):subl l 0 j=l.take j.toNat:=by simp[subl]
def w64(x:Int):Int:=IntKind.wrap .i64 x
def wu64(x:Int):Int:=IntKind.wrap .u64 x
def wu32(x:Int):Int:=IntKind.wrap .u32 x
def wu8(x:Int):Int:=IntKind.wrap .u8 x
theorem Bcu(x:Int):w64 x=(x+9223372036854775808)%18446744073709551616-9223372036854775808:=by
 unfold w64;rw[IntKind.wrap_i64]
theorem Aq{x:Int}(h:-9223372036854775808<=x)(h':x<=9223372036854775807):w64 x=x:=by rw[Bcu];omega
def Abm:LE->Nat->Option (Ent×LE)
 |[],_=>none
 |e::r,0=>some (e,r)
 |e::r,i+1=>match Abm r i with
  |some (x,r')=>some (x,e::r')
  |none=>none
theorem Yn:∀{L:LE} {i:Nat} {e:Ent} {L1:LE},Abm L i=some (e,L1)->L.Perm (e::L1)
 |[],_,_,_,h=>by simp[Abm] at h
 |x::r,0,e,L1,h=>by simp[Abm] at h;obtain⟨rfl,rfl⟩:=h;exact List.Perm.refl _
 |x::r,i+1,e,L1,h=>by
  simp only[Abm] at h;split at h
  .rename_i y r' hy;injection h with h;injection h with h1 h2
   subst h1;subst h2;exact ((Yn hy).cons x).trans (List.Perm.swap _ _ _)
  .cases h
inductive Gz:LE->LE->Prop
 |refl {L}:Gz L L
 |pick {L e L1 L'} (i:Nat):Abm L i=some (e,L1)->Gz L1 L'->Gz L (e::L')
 |drop {L e L1 L'} (i:Nat):Abm L i=some (e,L1)->Gz L1 L'->Gz L L'
theorem Gz.sub{L L':LE}(h:Gz L L'):∃M,L.Perm M/\L'.Sublist M:=by
 induction h with
 |refl=>exact⟨_,List.Perm.refl _,List.Sublist.refl _⟩
 |pick i ht _ ih=>
  obtain⟨M,h1,h2⟩:=ih;exact⟨_,(Yn ht).trans (h1.cons _),h2.cons_cons _⟩
 |drop i ht _ ih=>
  obtain⟨M,h1,h2⟩:=ih;exact⟨_,(Yn ht).trans (h1.cons _),h2.cons _⟩
theorem Heap.pick{L L':LE}{w:World}(h:Heap L w)(hp:Gz L L'):Heap L' w:=by
 obtain⟨M,h1,h2⟩:=hp.sub;have h':=h.perm h1;exact⟨fun e he=>h'.ok e (h2.mem he),h'.sep.sublist h2⟩
section
variable {P:Program}{n:Nat}{N:AW}{Q:Exit->AW}{fr:lF}{L:LE}
def Met{τ γ ρ:Type}(n:Nat)(J:τ->Option ρ)(out:ρ)(I:τ->γ->lF)(H:τ->γ->LE)(G:τ->γ->Prop)(a:Act)(w:World):Prop :=
 ∃s g,J s=some out/\G s g/\Fr n (I s g) a/\Heap (H s g) w
theorem Ak5{τ γ ρ:Type}{J:τ->Option ρ}{out:ρ}(I:τ->γ->lF)(H:τ->γ->LE)(G:τ->γ->Prop){x y:Code}(k2:∀s g,J s=some out->G s g->T n (y.wp P Q) (I s g) (H s g))(k:T n (x.wp P (Exit.then (Met n J out I H G) Q)) fr L):T n ((Code.seq x y).wp P Q) fr L:=by
 intro a w ha hw;refine wp_seq (wp_mono (k a w ha hw) ?_);intro e a' w' hq;cases e with
 |normal=>obtain⟨s,g,h1,h2,h3,h4⟩:=hq;exact k2 s g h1 h2 a' w' h3 h4
 |_=>exact hq
theorem Apg{τ γ ρ:Type}{J:τ->Option ρ}{out:ρ}{I:τ->γ->List (Nat × Value)}{H:τ->γ->List Ent}{G:τ->γ->Prop}(s:τ)(g:γ)(hJ:J s=some out)(hG:G s g)(hF:SubF (I s g) fr)(hH:Gz L (H s g)):
  T n (Exit.then (Met n J out I H G) Q .normal) fr L:=fun _ _ ha hw=>⟨s,g,hJ,hG,ha.sub hF,hw.pick hH⟩
def Rnd{σ τ γ:Type}(n:Nat)(x:Sum σ τ)(I:σ->γ->lF)(H:σ->γ->LE)(G:σ->γ->Prop)(a:Act)(w:World):Prop :=
 ∃s g,x=.inl s/\G s g/\Fr n (I s g) a/\Heap (H s g) w
theorem Ak6{σ τ γ:Type}{B:σ->Option (Sum σ τ)}{s0:σ}{t:τ}(hl:lfix B s0=some t)(I:σ->γ->List (Nat × Value))(H:σ->γ->List Ent)(G:σ->γ->Prop)(g0:γ)(hG:G s0 g0)(hF:SubF (I s0 g0) fr)(hH:Gz L (H s0 g0)){c:Code}(body:∀ s g,G s g->∀ x,B s=some x->(∀ t',x = .inr t'->t'=t)->T n (c.wp P (Exit.then (Rnd n x I H G) Q)) (I s g) (H s g)):
  T n ((Code.loop c).wp P Q) fr L:=by
 refine fun a w ha hw=>?_
 refine Ay9 (fr:=fr) (L:=H s0 g0) (σ:=σ×γ) (fun s=>I s.1 s.2) (fun s=>H s.1 s.2) (fun s=>G s.1 s.2/\lfix B s.1=some t) (fun s=>Acz B s.1) (s0,g0) ⟨hG,hl⟩ hF .refl ?_ a w ha (hw.pick hH);clear ha hw a w;rintro⟨s,g⟩ ⟨hG,hs⟩;have hs0:=hs;rw[Ay] at hs;cases hb:B s with
 |none=>rw[hb] at hs;cases hs
 |some x=>
  intro a w ha hw;refine wp_mono (body s g hG x hb (fun t' hx=>?_) a w ha hw) ?_
  .subst hx;rw[hb] at hs;injection hs
  .intro e a' w' hq;cases e with
   |normal=>
    obtain⟨s',g',hx,h1,h2,h3⟩:=hq;subst hx;obtain⟨h4,h5⟩:=Av1 hs0 hb;exact⟨(s',g'),⟨h1,h4⟩,h5,h2,h3⟩
   |_=>exact hq
theorem Ahx{σ τ γ:Type}{x:Sum σ τ}{I:σ->γ->List (Nat × Value)}{H:σ->γ->List Ent}{G:σ->γ->Prop}(s:σ)(g:γ)(hx:some (.inl s)=some x)(hG:G s g)(hF:SubF (I s g) fr)(hH:Gz L (H s g)):
  T n (Exit.then (Rnd n x I H G) Q .normal) fr L:=fun _ _ ha hw=>⟨s,g,(Option.some.inj hx).symm,hG,ha.sub hF,hw.pick hH⟩
theorem Yo{σ τ:Type}{x:Sum σ τ}{t t':τ}(ht:∀t',x=.inr t'->t'=t)(hx:some (.inr t')=some x):t'=t:=ht t' (Option.some.inj hx).symm
theorem Aph(k:T n N fr L):T n N fr ([]++L):=k
theorem Yx{a:Ent}(k:T n N fr (a::L)):T n N fr ([a]++L):=k
theorem Yy{a b:Ent}(k:T n N fr (a::b::L)):T n N fr ([a,b]++L):=k
theorem Wm{a b c:Ent}(k:T n N fr (a::b::c::L)):T n N fr ([a,b,c]++L):=k
theorem Ak7{a b c d:Ent}(k:T n N fr (a::b::c::d::L)):T n N fr ([a,b,c,d]++L):=k
theorem Av2{a b c d e f:Ent}(k:T n N fr (a::b::c::d::e::f::L)):T n N fr ([a,b,c,d,e,f]++L):=k
theorem Has.at_idx{α:Type}{K:List Ent}{A m c sz}{enc:α->List Value}{l:List α}{i:Int}{x:α}(h:Has K A m c sz enc l)(hi:idx l i=some x):
  ∃(b o j:Nat),A=some ⟨b,o,none⟩/\i=(j:Int)/\j<m/\Pt K b (o+j*sz) (enc x):=by
 obtain⟨j,hj,h1,h2⟩:=Abl hi;obtain⟨b,o,hA,hp⟩:=h.elem hj;exact⟨b,o,j,hA,h1,by have:=h.len;omega,by rw[<-h2];exact hp⟩
theorem Has.ofRow{α:Type}{enc:α->List Value}{A m c t sz}{l:List α}(hz:0<sz)(he:∀ x,(enc x).length=sz){w:World}(hok:Ent.ok w (.r A m c t sz (l.flatMap enc))):
  Has [.r A m c t sz (l.flatMap enc)] A m c sz enc l:=by
 have hlen:(l.flatMap enc).length=l.length*sz:=by
  clear hok
  induction l with
  |nil=>simp
  |cons x r ih=>rw[List.flatMap_cons,List.length_append,he x,ih,List.length_cons,Nat.succ_mul];omega
 have hm:m=l.length:=by
  have h1:=hok.1;rw[hlen] at h1;exact (Nat.eq_of_mul_eq_mul_right hz h1).symm
 subst hm;exact Has.ofR hz (fun x _=>he x) hok
theorem Av3{α:Type}{enc:α->LV}{l:List α}{k A m c t sz}{i:Int}{x:α}(hk:nthE L k=some (.r A m c t sz (l.flatMap enc)))(hz:0<sz)(he:∀x,(enc x).length=sz)(hi:idx l i=some x)(kk:∀(g j:Nat),A=some ⟨g,0,none⟩->i=(j:Int)->j<m->m=l.length->Pt [.r A m c t sz (l.flatMap enc)] g (0+j*sz) (enc x)->T n N fr L):T n N fr L:=by
 intro a w ha hw;have hok:=hw.ok _ (Ft hk);have hs:=Has.ofRow hz he hok;obtain⟨b,o,j,hA,h1,h2,h3⟩:=hs.at_idx hi;have hA0:∃g,A=some ⟨g,0,none⟩:=by
  obtain⟨_,h⟩:=hok;rcases h with⟨hv,h0⟩|⟨g,cap,cur,hv,_⟩
  .omega
  .injection hv with hA;exact⟨g,hA⟩
 obtain⟨g,hg⟩:=hA0;rw[hg] at hA;injection hA with hA
 injection hA with e1 e2 _
 subst e1;subst e2;exact kk _ j hg h1 h2 hs.len.symm h3 a w ha hw
theorem Ak8{α:Type}{enc:α->LV}{l:List α}{k A m c t sz}(hk:nthE L k=some (.r A m c t sz (l.flatMap enc)))(hz:0<sz)(he:∀x,(enc x).length=sz)(kk:m=l.length->Has [.r A m c t sz (l.flatMap enc)] A m c sz enc l->T n N fr L):T n N fr L:=by
 intro a w ha hw;have hs:=Has.ofRow hz he (hw.ok _ (Ft hk));exact kk hs.len.symm hs a w ha hw
theorem Atq{α:Type}(enc:α->LV)(l:List α)(ix:Int)(u:α){j sz:Nat}{m:Nat}{x y g o A c t v ty' i L'}{ty:TypeId}{pos:String}{after:AE}{guard:ON}(hx:evo fr x=some (.pointer (some ⟨g,o,none⟩)))(hy:evo fr y=some v)(hv:v.cells=(enc u).toArray)(hL:SetE L i (.r A m c t sz (l.flatMap enc)) (.r A m c t sz ((setI l ix u).flatMap enc)) L')(hA:A=some ⟨g,0,none⟩)(ho:o=0+j*sz)(hix:ix=(j:Int))(hj:j<m)(he:∀x,(enc x).length=sz)(hz:0<sz)(h1:Tz (enc u)=true)(hsz:∀w,(sizeOf ty').run P w=.ok sz w)(k:T n N fr L'):Wh P Q n ⟨none,.store ty' x y,ty,pos,after,guard⟩ fr L N:=by
 intro a w ha hw;have hm:m=l.length:=(Has.ofRow hz he (hw.ok _ hL.mem)).len.symm;subst hm;subst hix;rw[Io] at hL;exact Au6 u hx hy hv hL hA oo hj (fun x _=>he x) (he u) hz h1 hsz k a w ha hw
theorem Ari{α:Type}{enc:α->LV}{l:List α}{i A m c t sz q L'}(hL:SetE L i (.r A m c t sz (l.flatMap enc)) (.r A q c t sz ((l.take q).flatMap enc)) L')(hq:q<=l.length)(hz:0<sz)(he:∀x,(enc x).length=sz)(k:T n N fr L'):T n N fr L:=by
 intro a w ha hw;refine k a w ha (Heap.turn (e:=.r A m c t sz (l.flatMap enc)) (e':=.r A q c t sz ((l.take q).flatMap enc)) (w:=w) (w':=w) ⟨rfl,rfl,rfl,Nat.le_refl _,fun _ _ _=>rfl⟩ ?_ (Nat.le_refl _) (fun g hg=>.inl (by cases A <;> exact hg)) hL hw);have hfl:∀m:List α,(m.flatMap enc).length=m.length*sz:=by
  intro m
  induction m with
  |nil=>simp
  |cons x r ih=>rw[List.flatMap_cons,List.length_append,he x,ih,List.length_cons,Nat.succ_mul];omega
 have hok:=hw.ok _ hL.mem;have hm:m=l.length:=(Has.ofRow hz he hok).len.symm;subst hm;have htk:(l.take q).flatMap enc=(l.flatMap enc).take (q*sz):=by
  have h0:l.flatMap enc=(l.take q).flatMap enc++(l.drop q).flatMap enc:=by rw[<-List.flatMap_append,List.take_append_drop]
  have hlt:((l.take q).flatMap enc).length=q*sz:=by rw[hfl,List.length_take,Nat.min_eq_left hq]
  rw[h0,<-hlt,List.take_left]
 refine⟨by rw[hfl,List.length_take,Nat.min_eq_left hq],?_⟩;rcases hok.2 with⟨hv,h0⟩|⟨g,cap,cur,hv,hb,hh,h3,h4,h5,h6⟩
 .injection hv with e1 e2 e3
  subst e1;subst e3;left;have:q=0:=oo;subst this;exact⟨rfl,rfl⟩
 .injection hv with e1 e2 e3
  subst e1;subst e3;refine .inr ⟨g,c,cur,rfl,hb,hh,oo,h4,h5,?_⟩;rw[htk,<-h6,List.take_take,Nat.min_eq_left (Nat.mul_le_mul_right _ hq)]
theorem Vj{α:Type}(enc:α->List Value)(l ys:List α){d:Nat}{s x t e sz bytes A m c g B q q' t' i i' news ty'}{pos:String}{after:Array Edge}{guard:Option (Nat × Bool)}{L' L2:Option Addr->Nat->List Ent}(hs:evo fr s=some (.slice A m c))(hx:evo fr x=some (.slice B q q'))(hB:B=some ⟨g,0,none⟩)(ht:Aa7 P t e sz bytes)(he:∀ x,(enc x).length=sz)(hL2:nthE L i'=some (.m g t' news))(hn:news=ys.flatMap enc)(hq:q=ys.length)(h1:Tz news=true)(hb:(l.length+ys.length)*bytes<=140737488355328)(hd:Nat.blt d n=true)(hL:∀ A' c',SetE L i (.r A m c e sz (l.flatMap enc)) (.r A' (l++ys).length c' e sz ((l++ys).flatMap enc)) (L' A' c'))(hsub:∀ A' c',HSub (L' A' c') (L2 A' c'))(h0:0<bytes)(k:∀ A' c',T n N ((d,.slice A' (l++ys).length c')::fr) (L2 A' c')):
  Wh P Q n ⟨some d,.call ⟨.builtin .append,#[s,x],#[t,t]⟩,ty',pos,after,guard⟩ fr L N:=by
 intro a w ha hw;have hm:m=l.length:=(Has.ofRow ht.pos he (hw.ok _ (hL none 0).mem)).len.symm;subst hm;have hfl:∀m:List α,(m.flatMap enc).length=m.length*sz:=by
  intro m
  induction m with
  |nil=>simp
  |cons x r ih=>rw[List.flatMap_cons,List.length_append,he x,ih,List.length_cons,Nat.succ_mul];omega
 subst hn;have hlq:l.length+q=(l++ys).length:=by rw[List.length_append,hq]
 have h63:l.length+q<=9223372036854775807:=by
  have h3:=Nat.mul_le_mul_left (l.length+ys.length) h0;rw[Nat.mul_succ,Nat.mul_zero,Nat.zero_add] at h3;omega
 refine Au7 (i:=i) (xs:=l.flatMap enc) (L':=L') (L2:=L2) hs hx hB ht hL2 (by rw[hfl,hq]) h1 (by rw[hq];exact hb) h63 hd ?_ hsub ?_ a w ha hw
 .intro A' c';have:=hL A' c';rw[hlq,<-List.flatMap_append];exact this
 .intro A' c';rw[hlq];exact k A' c'
theorem Has.low{α:Type}{K E:LE}{w:World}{A m c sz}{enc:α->LV}{l:List α}(h:Has (K++E) A m c sz enc l)(hK:∀e∈K,Ent.ok w e):Has (.old w::E) A m c sz enc l:=by
 refine⟨h.len,h.nc,h.cap,h.esz,fun hn=>?_⟩;obtain⟨b,o,hA,hc⟩:=h.at_ hn;refine⟨b,o,hA,fun i hi w' hw' j u hu=>hc i hi w' (fun e he=>?_) j u hu⟩;rcases List.mem_append.1 he with he|he
 .exact Ent.ext (hK e he) (hw' (.old w) List.mem_cons_self)
 .exact hw' e (List.mem_cons_of_mem _ he)
def slA(A:OA)(c p sz:Nat):OA:=if c=p then A else A.map (·.add (p*sz))
theorem Has.sub{α:Type}{K:List Ent}{A m c sz}{enc:α->List Value}{l:List α}(h:Has K A m c sz enc l){i j:Int}(h1:0<=i)(h2:i<=j)(h3:j<=(m:Int)):
  Has K (slA A c i.toNat sz) (j.toNat-i.toNat) (c-i.toNat) sz enc (subl l i j):=by
 have hl:=h.len;have hnc:=h.nc;refine⟨by simp[subl];omega,oo,by have:=h.cap;omega,fun x hx=>h.esz x (List.mem_of_mem_take (List.mem_of_mem_drop hx)),fun hn=>?_⟩;obtain⟨b,o,hA,hc⟩:=h.at_ oo;refine⟨b,o+i.toNat*sz,?_,fun q hq=>?_⟩
 .unfold slA;rw[if_neg oo,hA];simp[Addr.add_lit]
 .have hq':i.toNat+q<l.length:=by simp[subl] at hq;omega
  have hx:(subl l i j)[q]=l[i.toNat+q]:=by simp[subl]
  rw[hx,Nat.add_assoc,<-Nat.add_mul];exact hc _ hq'
theorem Arj{t x lo A m c e sz k1}{i:Int}{dst:Option Tmp}{ty:TypeId}{pos:String}{after:Array Edge}{guard:Option (Nat × Bool)}(hx:evo fr x=some (.slice A m c))(hl:evo fr lo=some (.int k1 i))(ht:Oo P t e sz)(h0:0<=i)(h1:i<=(m:Int)):
  Ev P n ⟨dst,.slice t x (some lo) none none,ty,pos,after,guard⟩ fr L (.slice (slA A c i.toNat sz) (m-i.toNat) (c-i.toNat)):=
 Au5 hx hl ht oo oo
theorem Ak9{t x hi A m c e sz k2}{j:Int}{dst:Option Tmp}{ty:TypeId}{pos:String}{after:Array Edge}{guard:Option (Nat × Bool)}(hx:evo fr x=some (.slice A m c))(hh:evo fr hi=some (.int k2 j))(ht:Oo P t e sz)(h0:0<=j)(h2:j<=(c:Int)):
  Ev P n ⟨dst,.slice t x none (some hi) none,ty,pos,after,guard⟩ fr L (.slice A j.toNat c):=
 Au4 hx hh ht oo oo
theorem Has.subL{α:Type}{K:List Ent}{A m c sz}{enc:α->List Value}{l:List α}(h:Has K A m c sz enc l){i:Int}(h1:0<=i)(h2:i<=(m:Int)):
  Has K (slA A c i.toNat sz) (m-i.toNat) (c-i.toNat) sz enc (subl l i (m:Int)):=h.sub h1 h2 (Int.le_refl _)
theorem Has.subH{α:Type}{K:List Ent}{A m c sz}{enc:α->List Value}{l:List α}(h:Has K A m c sz enc l){j:Int}(h1:0<=j)(h2:j<=(m:Int)):
  Has K A j.toNat c sz enc (subl l 0 j):=by
 have hs:subl l 0 j=l.take j.toNat:=by simp[subl]
 rw[hs];exact h.take oo
theorem Has.len'{α:Type}{K:LE}{A m c sz}{enc:α->LV}{l:List α}(h:Has K A m c sz enc l):Has K A l.length c sz enc l:=by
 have:=h.len;subst this;exact h
end
section
variable {P:Program}{n:Nat}{fr:lF}{L:LE}{dst:Option Tmp}{ty:TypeId}{pos:String}{after:AE}{guard:ON}
theorem Ark{t x k a}(hx:evo fr x=some (.int k a)):Ev P n ⟨dst,.unOp .neg t x,ty,pos,after,guard⟩ fr L (.int k (k.wrap (-a))):=fun ac w ha _=>by
 simp only[execOp,ha.eval hx,Op.unary,Op.intArith,Int.zero_sub];rfl
def De(k:IntKind)(a b:Int):Int:=k.wrap (BitVec.ofInt k.bits a &&& BitVec.ofInt k.bits b).toNat
def Wn(k:IntKind)(a b:Int):Int:=k.wrap (BitVec.ofInt k.bits a ||| BitVec.ofInt k.bits b).toNat
def Acg(k:IntKind)(a b:Int):Int:=k.wrap (BitVec.ofInt k.bits a ^^^ BitVec.ofInt k.bits b).toNat
theorem Af2{t t' x y k a b}(hx:evo fr x=some (.int k a))(hy:evo fr y=some (.int k b)):Ev P n ⟨dst,.binOp .and t x y t',ty,pos,after,guard⟩ fr L (.int k (De k a b)):=
 Nt hx hy fun w=>by rw[binOp_and,Op.intBits];rfl
theorem Ahy{t t' x y k a b}(hx:evo fr x=some (.int k a))(hy:evo fr y=some (.int k b)):Ev P n ⟨dst,.binOp .or t x y t',ty,pos,after,guard⟩ fr L (.int k (Wn k a b)):=
 Nt hx hy fun w=>by rw[binOp_or,Op.intBits];rfl
theorem Af3{t t' x y k a b}(hx:evo fr x=some (.int k a))(hy:evo fr y=some (.int k b)):Ev P n ⟨dst,.binOp .xor t x y t',ty,pos,after,guard⟩ fr L (.int k (Acg k a b)):=
 Nt hx hy fun w=>by rw[binOp_xor,Op.intBits];rfl
def shl_(k:IntKind)(a b:Int):Int:=k.wrap (a*2^(min b.toNat k.bits))
def shr_(k:IntKind)(a b:Int):Int:=a.fdiv (2^(min b.toNat k.bits))
theorem Az6{t t' x y k k' a b}(hx:evo fr x=some (.int k a))(hy:evo fr y=some (.int k' b))(hb:0<=b):Ev P n ⟨dst,.binOp .shl t x y t',ty,pos,after,guard⟩ fr L (.int k (shl_ k a b)):=by
 intro ac w ha _;have:Op.shift .shl k a k' b=pure (.int k (shl_ k a b)):=by
  unfold Op.shift;rw[if_neg oo];rfl
 simp[execOp,ha.eval hx,ha.eval hy,eqGuard_at_int,binOp_shl,this]
theorem Ag5{t t' x y k k' a b}(hx:evo fr x=some (.int k a))(hy:evo fr y=some (.int k' b))(hb:0<=b):Ev P n ⟨dst,.binOp .shr t x y t',ty,pos,after,guard⟩ fr L (.int k (shr_ k a b)):=by
 intro ac w ha _;have:Op.shift .shr k a k' b=pure (.int k (shr_ k a b)):=by
  unfold Op.shift;rw[if_neg oo];rfl
 simp[execOp,ha.eval hx,ha.eval hy,eqGuard_at_int,binOp_shr,this]
end
theorem SubE.app2{K E E':LE}(h:SubE E E'):SubE (K++E) (K++E'):=⟨fun w hw x hx=>by
 rcases List.mem_append.1 hx with hx|hx
 .exact hw x (List.mem_append_left _ hx)
 .exact h.ok w (fun y hy=>hw y (List.mem_append_right _ hy)) x hx⟩
theorem SubE.appR2{K E E':LE}(h:SubE E E'):SubE E (K++E'):=⟨fun w hw=>h.ok w fun x hx=>hw x (List.mem_append_right _ hx)⟩
theorem Has.up0{α:Type}{K:LE}{A:OA}{n c sz:Nat}{enc:α->LV}{l:List α}(h:Has K A n c sz enc l):Has (K++[]) A n c sz enc l:=by rw[List.append_nil];exact h
theorem Has.assoc{α:Type}{K E E':LE}{A:OA}{n c sz:Nat}{enc:α->LV}{l:List α}(h:Has (K++E++E') A n c sz enc l):Has (K++(E++E')) A n c sz enc l:=by rw[<-List.append_assoc];exact h
section
variable {P:Program}{n:Nat}{fr:lF}{L:LE}
theorem Oz{fn:Func}{R:Value->List Ent->Prop}{w0:World}{rs vs}{Ln:List Ent}(hr:fn.results=rs.toArray)(h:Res P fr L rs vs)(hR:R (Uc vs) Ln)(hlo:∀ x∈Ln,x.low=0)(hs:Gz L (Ln++[.old w0])):
  T n (bodyPost P fn (fun e w'=>∃v Ln,e=.returned v/\R v Ln/\(∀x∈Ln,x.low=0)/\Heap (Ln++[.old w0]) w') .ret) fr L :=
 As2 hr h fun _ hw=>⟨_,Ln,rfl,hR,hlo,hw.pick hs⟩
end
theorem Az7{ρ:Type}{r:ρ}{p:Prop}(h:(none:Option ρ)=some r):p:=nomatch h
theorem Nd{α:Type}{enc:α->LV}{sz:Nat}(he:∀x,(enc x).length=sz):∀m:List α,(m.flatMap enc).length=m.length*sz:=by
 intro m
 induction m with
 |nil=>simp
 |cons x r ih=>rw[List.flatMap_cons,List.length_append,he x,ih,List.length_cons,Nat.succ_mul];omega
theorem Has.dn0{α:Type}{K:LE}{A:OA}{n c sz:Nat}{enc:α->LV}{l:List α}(h:Has (K++[]) A n c sz enc l):Has K A n c sz enc l:=by rw[List.append_nil] at h;exact h
def raw(x:LV):LV:=x
def HasN{α:Type}(K:LE)(A:OA)(n c sz:Nat)(R:LE->α->LV->Prop)(l:List α):Prop :=
 ∃hl:List LV,Has K A n c sz raw hl/\hl.length=l.length/\∀(i:Nat) (h:i<l.length) (h':i<hl.length),R K l[i] hl[i]
theorem HasN.at_idx{α:Type}{K:List Ent}{A:Option Addr}{m c sz:Nat}{R:List Ent->α->List Value->Prop}{l:List α}{i:Int}{x:α}(h:HasN K A m c sz R l)(hi:idx l i=some x):
  ∃(b o j:Nat) (ys:LV),A=some ⟨b,o,none⟩/\i=(j:Int)/\j<m/\Pt K b (o+j*sz) ys/\R K x ys:=by
 obtain⟨hl,h1,h2,h3⟩:=h;obtain⟨j,hj,e1,e2⟩:=Abl hi;obtain⟨b,o,hA,hp⟩:=h1.elem (i:=j) oo;exact⟨b,o,j,_,hA,e1,by have:=h1.len;omega,hp,by rw[<-e2];exact h3 j hj oo⟩
theorem Pt.low{K E:LE}{w:World}{b o:Nat}{ys:LV}(h:Pt (K++E) b o ys)(hK:∀e∈K,Ent.ok w e):Pt (.old w::E) b o ys:=fun w' hw'=>h w' (fun e he=>by
 rcases List.mem_append.1 he with he|he
 .exact Ent.ext (hK e he) (hw' (.old w) List.mem_cons_self)
 .exact hw' e (List.mem_cons_of_mem _ he))
section
variable {P:Program}{n:Nat}{N:AW}{Q:Exit->AW}{fr:lF}{L:LE}
theorem T_mr{α:Type}{enc:α->LV}(l:List α){i g t sz cs q L'}(hL:SetE L i (.m g t cs) (.r (some ⟨g,0,none⟩) q q t sz (l.flatMap enc)) L')(hc:cs=l.flatMap enc)(hq:q=l.length)(he:∀x,(enc x).length=sz)(hm:q<=maxLen)(k:T n N fr L'):T n N fr L:=by
 intro a w ha hw;refine k a w ha (Heap.turn (e:=.m g t cs) (e':=.r (some ⟨g,0,none⟩) q q t sz (l.flatMap enc)) (w:=w) (w':=w) ⟨rfl,rfl,rfl,Nat.le_refl _,fun _ _ _=>rfl⟩ ?_ (Nat.le_refl _) (fun g hg=>.inl hg) hL hw);have hok:w.heap[g]? = some (.cells cs.toArray t (0,0)):=hw.ok _ hL.mem;subst hc;subst hq;have hl:=Nd he l;exact⟨hl,.inr ⟨g,l.length,_,rfl,Nat.zero_le _,hok,Nat.le_refl _,hm,by simpa using hl,by show List.take _ (l.flatMap enc)=_;rw[<-hl,List.take_length]⟩⟩
theorem Az8{α:Type}{enc:α->LV}{l r:List α}{i A m c t sz L'}(hp:∃k,r=l.take k)(hL:SetE L i (.r A m c t sz (l.flatMap enc)) (.r A r.length c t sz (r.flatMap enc)) L')(hz:0<sz)(he:∀x,(enc x).length=sz)(k:T n N fr L'):T n N fr L:=by
 obtain⟨q,rfl⟩:=hp;rcases Nat.le_total q l.length with h|h
 .rw[List.length_take,Nat.min_eq_left h] at hL;exact Ari hL h hz he k
 .rw[List.take_of_length_le h] at hL;intro a w ha hw;have hm:m=l.length:=(Has.ofRow hz he (hw.ok _ hL.mem)).len.symm;subst hm;rw[hL.same rfl] at k;exact k a w ha hw
theorem Api(w:World)(r:Option Nat):w.grownBy w r:=⟨rfl,rfl,rfl,Nat.le_refl _,fun _ _ _=>rfl⟩
theorem Aef(P:Program)(w:World)(base:Nat)(t ty e:TypeId)(i:TypeInfo)(size:Nat)(ht:P.underlying t=some (.slice e))(hi:P.info? e=some i)(v:Value)(n:Nat)(xs:LV)(hown:w.ownsRow base e size v n xs)(c:Nat):(Builtin.append_ #[t,t] ty #[v,.slice none 0 c]).run P w=.ok v w:=by
 rcases hown.2 with⟨rfl,rfl⟩|⟨g,cap,cur,rfl,_,_,hnc,_⟩
 .simp[Builtin.append_,run_underlying ht,sizeOf,typeInfo,hi,Builtin.lenOf,Builtin.firstCells]
 .simp[Builtin.append_,run_underlying ht,sizeOf,typeInfo,hi,Builtin.lenOf,Builtin.firstCells,hnc,storeCells]
theorem Xu{α:Type}(enc:α->List Value)(l ys:List α){d:Nat}{s x t e sz bytes A m c B q q' i ty'}{pos:String}{after:Array Edge}{guard:Option (Nat × Bool)}{L':Option Addr->Nat->List Ent}{K:List Ent}(hs:evo fr s=some (.slice A m c))(hx:evo fr x=some (.slice B q q'))(ht:Aa7 P t e sz bytes)(he:∀ x,(enc x).length=sz)(hy:Has K B q q' sz enc ys)(hK:SubE K L)(h1:∀ x,Tz (enc x)=true)(hb:(l.length+ys.length)*bytes<=140737488355328)(hd:Nat.blt d n=true)(hL:∀ A' c',SetE L i (.r A m c e sz (l.flatMap enc)) (.r A' (l++ys).length c' e sz ((l++ys).flatMap enc)) (L' A' c'))(h0:0<bytes)(k:∀ A' c',T n N ((d,.slice A' (l++ys).length c')::fr) (L' A' c')):
  Wh P Q n ⟨some d,.call ⟨.builtin .append,#[s,x],#[t,t]⟩,ty',pos,after,guard⟩ fr L N:=by
 intro a w ha hw;have hm:m=l.length:=(Has.ofRow ht.pos he (hw.ok _ (hL none 0).mem)).len.symm;subst hm;have hq:=hy.len;subst hq;have hl:=Nd he l;have hly:=Nd he ys;have h63:l.length+ys.length<=9223372036854775807:=by
  have h3:=Nat.mul_le_mul_left (l.length+ys.length) h0;rw[Nat.mul_succ,Nat.mul_zero,Nat.zero_add] at h3;omega
 obtain⟨i0,z,e1,e2,e3,e4,e5⟩:=ht.ex;have hown:w.ownsRow 0 e sz (.slice A l.length c) l.length (l.flatMap enc):=hw.ok _ (hL none 0).mem;have hsl:=hy.at hK hw;have hone:∀u∈ys.flatMap enc,u.oneCell'=true:=by
  intro u hu;obtain⟨x,_,hu⟩:=List.mem_flatMap.1 hu;exact Yk (h1 x) u hu
 have main:∃ v' w',(Builtin.append_ #[t,t] ty' #[.slice A l.length c,.slice B ys.length q']).run P w = .ok v' w'/\w'.ownsRow 0 e sz v' (l.length+ys.length) (l.flatMap enc++ys.flatMap enc) /\
   w.grownBy w' (Value.slice A l.length c).ownBlock/\(v'.ownBlock=(Value.slice A l.length c).ownBlock\/v'.ownBlock=some w.heap.size):=by
  by_cases hn:0<ys.length
  ·obtain⟨b,o,hB,hcell⟩:=hsl.at_ hn;subst hB;have hnew:∀ (j:Nat) (u:Value),(ys.flatMap enc)[j]? = some u->w.cell? ((⟨b,o,none⟩:Addr).add j)=some u:=fun j u hj=>by
    have hjl:j<(ys.flatMap enc).length:=(List.getElem?_eq_some_iff.1 hj).1;rw[hly] at hjl;have hdm:j=j/sz*sz+j%sz:=by have:=Nat.div_add_mod j sz;rw[Nat.mul_comm] at this;omega
    have hq:j/sz<ys.length:=(Nat.div_lt_iff_lt_mul ht.pos).2 hjl;have hmod:=Nat.mod_lt j ht.pos;obtain⟨u',hu'⟩:∃u',(enc ys[j/sz])[j%sz]? = some u':=⟨_,List.getElem?_eq_getElem (by rw[he ys[j/sz]];exact hmod)⟩;have hf:=Aam ys (j/sz) hq (fun x _=>he x) (j%sz) u' hu';rw[<-hdm,hj] at hf;injection hf with hf
    subst hf;have:=hcell (j/sz) hq (j%sz) u hu';rw[Addr.add_lit,hdm,<-Nat.add_assoc];exact this
   obtain⟨v',w',hr,h2,h3,_,h5⟩:=run_append_own_at (P:=P) w 0 t ty' e i0 z sz bytes ht.sl e1 e2 e3 e4 e5 ht.pos _ _ _ hown ⟨b,o,none⟩ ys.length q' (ys.flatMap enc) hly hnew hone (by unfold maxLen;omega) hb (Nat.zero_le _);exact⟨v',w',hr,h2,h3,h5⟩
  .have h0:ys=[]:=List.eq_nil_of_length_eq_zero oo;subst h0;cases B with
   |none=>exact⟨_,w,Aef P w 0 t ty' e i0 sz ht.sl e1 _ _ _ hown q',by simpa using hown,Api w _,.inl rfl⟩
   |some b=>
    obtain⟨v',w',hr,h2,h3,_,h5⟩:=run_append_own_at (P:=P) w 0 t ty' e i0 z sz bytes ht.sl e1 e2 e3 e4 e5 ht.pos _ _ _ hown b 0 q' [] s_ (fun j u hj=>by simp at hj) (fun u hu=>by simp at hu) (by unfold maxLen;omega) hb (Nat.zero_le _);exact⟨v',w',hr,h2,h3,h5⟩
 obtain⟨v',w',hr,h2,h3,h5⟩:=main;have hlq:l.length+ys.length=(l++ys).length:=by rw[List.length_append]
 have hv':∃A' c',v'=.slice A' (l.length+ys.length) c':=by
  rcases h2.2 with⟨hv,h0⟩|⟨g',cap,cur,hv,_⟩
  .exact⟨none,0,by rw[hv,h0]⟩
  .exact⟨_,_,hv⟩
 obtain⟨A',c',rfl⟩:=hv';rw[hlq] at hr h2 h5;rw[<-List.flatMap_append] at h2;have hrun:(execOp a.eval ⟨some d,.call ⟨.builtin .append,#[s,x],#[t,t]⟩,ty',pos,after,guard⟩).run P w=.ok (.value (.slice A' (l++ys).length c')) w':=by
  simp[execOp,resolve,invoke,builtin,ha.eval hs,ha.eval hx,hr]
 simp only[Oper.wp,hrun,Oper.upon_value];refine k A' c' _ _ (ha.put hd) (Heap.turn (e:=.r A l.length c e sz (l.flatMap enc)) (e':=.r A' (l++ys).length c' e sz ((l++ys).flatMap enc)) h3 h2 (Nat.le_refl _) (fun g' hg'=>?_) (hL A' c') hw);simp only[Ent.blk] at hg' ⊢;rcases h5 with h5|h5
 .left;rw[<-h5];exact hg'
 .right;rw[h5] at hg';injection hg' with hg';omega
theorem Arl{t x k a}{dst:Option Tmp}{ty:TypeId}{pos:String}{after:AE}{guard:ON}(hx:evo fr x=some (.int k a)):Ev P n ⟨dst,.unOp .xor t x,ty,pos,after,guard⟩ fr L (.int k (Acg k (if k.signed then -1 else k.max) a)):=fun ac w ha _=>by
 simp only[execOp,ha.eval hx,Op.unary,Op.intBits];rfl
end
section
variable {P:Program}{n:Nat}{fr:lF}{L:LE}{dst:Option Tmp}{ty:TypeId}{pos:String}{after:AE}{guard:ON}
theorem Adi{t t' x y a b}(hx:evo fr x=some (.int .i64 a))(hy:evo fr y=some (.int .i64 b)):Ev P n ⟨dst,.binOp .add t x y t',ty,pos,after,guard⟩ fr L (.int .i64 (w64 (a+b))):=Amj hx hy
theorem Ahz{t t' x y a b}(hx:evo fr x=some (.int .i64 a))(hy:evo fr y=some (.int .i64 b)):Ev P n ⟨dst,.binOp .sub t x y t',ty,pos,after,guard⟩ fr L (.int .i64 (w64 (a-b))):=Amk hx hy
theorem Ah0{t t' x y a b}(hx:evo fr x=some (.int .i64 a))(hy:evo fr y=some (.int .i64 b)):Ev P n ⟨dst,.binOp .mul t x y t',ty,pos,after,guard⟩ fr L (.int .i64 (w64 (a*b))):=Aml hx hy
theorem Apj{t t' x y a b}(hx:evo fr x=some (.int .i64 a))(hy:evo fr y=some (.int .i64 b))(h:b≠0):Ev P n ⟨dst,.binOp .quo t x y t',ty,pos,after,guard⟩ fr L (.int .i64 (w64 (Int.tdiv a b))):=Asz hx hy h
theorem Ah1{t x a}(hx:evo fr x=some (.int .i64 a)):Ev P n ⟨dst,.unOp .neg t x,ty,pos,after,guard⟩ fr L (.int .i64 (w64 (-a))):=Ark hx
theorem Af4{src dt x k v}(hx:evo fr x=some (.int k v))(hs:(P.underlying src).isSome=true)(hd:P.underlying dt=some (.int .i64)):Ev P n ⟨dst,.convert src dt x,ty,pos,after,guard⟩ fr L (.int .i64 (w64 v)):=Ahg hx hs hd
theorem Af5{t t' x y a b}(hx:evo fr x=some (.int .u64 a))(hy:evo fr y=some (.int .u64 b)):Ev P n ⟨dst,.binOp .add t x y t',ty,pos,after,guard⟩ fr L (.int .u64 (wu64 (a+b))):=Amj hx hy
theorem Af6{t t' x y a b}(hx:evo fr x=some (.int .u64 a))(hy:evo fr y=some (.int .u64 b)):Ev P n ⟨dst,.binOp .sub t x y t',ty,pos,after,guard⟩ fr L (.int .u64 (wu64 (a-b))):=Amk hx hy
theorem Af7{t t' x y a b}(hx:evo fr x=some (.int .u64 a))(hy:evo fr y=some (.int .u64 b)):Ev P n ⟨dst,.binOp .mul t x y t',ty,pos,after,guard⟩ fr L (.int .u64 (wu64 (a*b))):=Aml hx hy
theorem Am6{t t' x y a b}(hx:evo fr x=some (.int .u64 a))(hy:evo fr y=some (.int .u64 b))(h:b≠0):Ev P n ⟨dst,.binOp .quo t x y t',ty,pos,after,guard⟩ fr L (.int .u64 (wu64 (Int.tdiv a b))):=Asz hx hy h
theorem Am7{t x a}(hx:evo fr x=some (.int .u64 a)):Ev P n ⟨dst,.unOp .neg t x,ty,pos,after,guard⟩ fr L (.int .u64 (wu64 (-a))):=Ark hx
theorem Aao{src dt x k v}(hx:evo fr x=some (.int k v))(hs:(P.underlying src).isSome=true)(hd:P.underlying dt=some (.int .u64)):Ev P n ⟨dst,.convert src dt x,ty,pos,after,guard⟩ fr L (.int .u64 (wu64 v)):=Ahg hx hs hd
theorem Af8{t t' x y a b}(hx:evo fr x=some (.int .u32 a))(hy:evo fr y=some (.int .u32 b)):Ev P n ⟨dst,.binOp .add t x y t',ty,pos,after,guard⟩ fr L (.int .u32 (wu32 (a+b))):=Amj hx hy
theorem Af9{t t' x y a b}(hx:evo fr x=some (.int .u32 a))(hy:evo fr y=some (.int .u32 b)):Ev P n ⟨dst,.binOp .sub t x y t',ty,pos,after,guard⟩ fr L (.int .u32 (wu32 (a-b))):=Amk hx hy
theorem Aga{t t' x y a b}(hx:evo fr x=some (.int .u32 a))(hy:evo fr y=some (.int .u32 b)):Ev P n ⟨dst,.binOp .mul t x y t',ty,pos,after,guard⟩ fr L (.int .u32 (wu32 (a*b))):=Aml hx hy
theorem Ala{src dt x k v}(hx:evo fr x=some (.int k v))(hs:(P.underlying src).isSome=true)(hd:P.underlying dt=some (.int .u32)):Ev P n ⟨dst,.convert src dt x,ty,pos,after,guard⟩ fr L (.int .u32 (wu32 v)):=Ahg hx hs hd
theorem Am8{src dt x k v}(hx:evo fr x=some (.int k v))(hs:(P.underlying src).isSome=true)(hd:P.underlying dt=some (.int .u8)):Ev P n ⟨dst,.convert src dt x,ty,pos,after,guard⟩ fr L (.int .u8 (wu8 v)):=Ahg hx hs hd
end
def cpy{α:Type}(l:List α)(p:Nat)(ys:List α):List α:=l.take p++ys.take (l.length-p)++l.drop (p+ys.length)
theorem Alb{α:Type}{l:List α}{p:Nat}{ys:List α}(h:p<=l.length):(cpy l p ys).length=l.length:=by
 simp only[cpy,List.length_append,List.length_take,List.length_drop];omega
theorem Av4{α:Type}{enc:α->LV}{sz:Nat}(hz:0<sz)(he:∀x,(enc x).length=sz)(l:List α)(j:Nat)(u:Value)(hj:(l.flatMap enc)[j]? = some u):∃h:j/sz<l.length,(enc l[j/sz])[j%sz]? = some u:=by
 have hjl:j<(l.flatMap enc).length:=(List.getElem?_eq_some_iff.1 hj).1;rw[Nd he l] at hjl;have hdm:j=j/sz*sz+j%sz:=by have:=Nat.div_add_mod j sz;rw[Nat.mul_comm] at this;omega
 have hq:j/sz<l.length:=(Nat.div_lt_iff_lt_mul hz).2 hjl;have hmod:=Nat.mod_lt j hz;refine⟨hq,?_⟩;obtain⟨u',hu'⟩:∃u',(enc l[j/sz])[j%sz]? = some u':=⟨_,List.getElem?_eq_getElem (by rw[he l[j/sz]];exact hmod)⟩;have hf:=Aam l (j/sz) hq (fun x _=>he x) (j%sz) u' hu';rw[<-hdm,hj] at hf;injection hf with hf
 subst hf;exact hu'
section
variable {P:Program}{n:Nat}{N:AW}{Q:Exit->AW}{fr:lF}{L:LE}
theorem Abn{α:Type}{enc:α->LV}{sz:Nat}{z:Array Value}(x0:α)(hz:0<sz)(he:∀x,(enc x).length=sz)(h0:enc x0=z.toList)(m:Nat):madeCells z (m*sz)=((List.replicate m x0).flatMap enc).toArray:=by
 have hzs:z.size=sz:=by rw[<-he x0,h0];simp
 apply Array.ext
 .rw[size_madeCells];simp only[List.size_toArray];rw[Nd he,List.length_replicate]
 .intro i h1 h2;have h2':i<((List.replicate m x0).flatMap enc).length:=by simpa using h2
  obtain⟨v,hv⟩:∃v,((List.replicate m x0).flatMap enc)[i]? = some v:=⟨_,List.getElem?_eq_getElem h2'⟩;obtain⟨hq,hu⟩:=Av4 hz he _ i _ hv;have hx:(List.replicate m x0)[i/sz]=x0:=List.getElem_replicate _;rw[hx,h0] at hu;have hmod:i%sz<z.size:=by rw[hzs];exact Nat.mod_lt _ hz
  rw[Array.getElem?_toList,Array.getElem?_eq_getElem hmod] at hu;injection hu with hu
  have hv':((List.replicate m x0).flatMap enc).toArray[i]=v:=by
   rw[List.getElem_toArray];exact (List.getElem?_eq_some_iff.1 hv).2
  rw[hv',<-hu];simp only[madeCells,Array.getElem_map,Array.getElem_range,hzs];exact getElem!_pos z (i%sz) hmod
theorem Av5{α:Type}(enc:α->List Value)(x0:α){d:Nat}{t e x y k1 k2 i1 i2 i z sz}{ty:TypeId}{pos:String}{after:Array Edge}{guard:Option (Nat × Bool)}(hx:evo fr x=some (.int k1 i1))(hy:evo fr y=some (.int k2 i2))(h12:i1=i2)(hp:0<=i1)(ht:P.underlying t=some (.slice e))(hi:P.info? e=some i)(hz:i.zero=some z)(hzc:enc x0=z.cells.toList)(hs:i.size=sz)(hsz:0<sz)(he:∀ x,(enc x).length=sz)(hb:i.bytes*i1.toNat<=140737488355328)(hb0:0<i.bytes)(hd:Nat.blt d n=true)(k:∀ A,T n N ((d,.slice A (List.replicate i1.toNat x0).length (List.replicate i1.toNat x0).length)::fr) (.r A (List.replicate i1.toNat x0).length (List.replicate i1.toNat x0).length e sz ((List.replicate i1.toNat x0).flatMap enc)::L)):
  Wx P Q n ⟨some d,.makeSlice t x y,ty,pos,after,guard⟩ fr L N:=by
 subst h12;have h2:=Nat.mul_le_mul_right i1.toNat hb0;rw[Nat.succ_mul,Nat.zero_mul,Nat.zero_add] at h2;have hb':(i.bytes:Int)*i1<=281474976710656:=by
  have h:((i.bytes*i1.toNat:Nat):Int)<=281474976710656:=oo;rw[Int.natCast_mul,Int.toNat_of_nonneg oo] at h;exact h
 refine Bbu (by rw[Nd he]) (by rw[List.length_replicate];unfold maxLen;omega) (fun a w ha _=>?_) hd k;have hr:=run_make (P:=P) w t e i z ht hi hz k1 k2 i1 i1 hp (Int.le_refl _) hb' oo;rw[hs,Abn x0 hsz he hzc] at hr;rw[List.length_replicate];simp[execOp,ha.eval hx,ha.eval hy,hr]
end
theorem SubE.appC{K E L:LE}(h:SubE K L)(h':SubE E L):SubE (K++E) L:=⟨fun w hw x hx=>by
 rcases List.mem_append.1 hx with hx|hx
 .exact h.ok w hw _ hx
 .exact h'.ok w hw _ hx⟩
def CtK(P:Program)(f:FuncId)(vs:LV)(K Lp:LE)(R:Value->LE->Prop):Prop :=
 Wu P f/\∀Lf w,SubE K Lf->Heap (Lp++Lf) w->Calls P f vs.toArray w fun e w'=>∃v Ln,e=.returned v/\R v Ln/\Heap (Ln++Lf) w'
section
variable {P:Program}{n:Nat}{N:AW}{Q:Exit->AW}{fr:lF}{L:LE}
theorem CtK.mk{f:FuncId}{fn:Func}{c:Code}{vs:LV}{K Lp:LE}{R:Value->LE->Prop}(m:Nat)(hf:P.funcs[f]? = some fn)(hb:fn.body=some c)(hm:fn.ntmps=m)(hn:(fn.name == "runtime.NumGoroutine")=false)(hl:Nat.ble vs.length m=true)(k:∀Lf,SubE K Lf->T m (c.wp P (bodyPost P fn fun e w'=>∃v Ln,e=.returned v/\R v Ln/\Heap (Ln++Lf) w')) (Zh vs 0) (Lp++Lf)):CtK P f vs K Lp R:=by
 refine⟨⟨fn,hf,hn,by rw[hb];rfl⟩,fun Lf w hK hw=>calls_of_wp hf hb ?_⟩;rw[hm];exact k Lf hK _ w (Amn vs m (Nat.le_of_ble_eq_true hl)) hw
theorem Av6{d:Nat}{pos:String}{after:AE}{guard:ON}{f:FuncId}{xs:List Operand}{vs:LV}{ts:Array TypeId}{ty':TypeId}{K Lp Lf:LE}{R:Value->LE->Prop}(hx:evos fr xs=some vs)(hp:Gz L (Lp++Lf))(hsub:SubE K Lf)(hc:CtK P f vs K Lp R)(hd:Nat.blt d n=true)(k:∀v Ln,R v Ln->T n N ((d,v)::fr) (Ln++Lf)):Wh P Q n ⟨some d,.call ⟨.value (.func f),xs.toArray,ts⟩,ty',pos,after,guard⟩ fr L N:=by
 intro a w ha hw;simp only[Oper.wp,Ab6 hc.1 ha hx,Oper.upon_enter];refine (hc.2 Lf w hsub (hw.pick hp)).mono ?_;rintro e w' ⟨v,Ln,rfl,hR,hh⟩;exact k v Ln hR _ _ (ha.put hd) hh
theorem Bcv{fn:Func}{R:Value->List Ent->Prop}{Lf:List Ent}{rs vs}{Ln:List Ent}(hr:fn.results=rs.toArray)(h:Res P fr L rs vs)(hR:R (Uc vs) Ln)(hs:Gz L (Ln++Lf)):
  T n (bodyPost P fn (fun e w'=>∃v Ln,e=.returned v/\R v Ln/\Heap (Ln++Lf) w') .ret) fr L :=
 As2 hr h fun _ hw=>⟨_,Ln,rfl,hR,hw.pick hs⟩
theorem Av7{fn:Func}{R:Value->List Ent->Prop}{Lf:List Ent}{rs vs}{Ln:List Ent}(hr:fn.results=rs.toArray)(h:Res P fr L rs vs)(hR:R (Uc vs) Ln)(hs:Gz L (Ln++Lf)):
  T n (bodyPost P fn (fun e w'=>∃v Ln,e=.returned v/\R v Ln/\Heap (Ln++Lf) w') .normal) fr L :=
 Bfp hr h fun _ hw=>⟨_,Ln,rfl,hR,hw.pick hs⟩
theorem Agb{x a}{dst:Option Tmp}{ty:TypeId}{pos:String}{after:AE}{guard:ON}(hx:evo fr x=some (.pointer (some a))):Ev P n ⟨dst,.nilCheck x,ty,pos,after,guard⟩ fr L (.pointer (some a)):=fun ac w ha _=>by
 simp[execOp,ha.eval hx]
end
def Ent.blks:Ent->LM
 |.old _=>[]
 |.m g _ _=>[g]
 |.r (some a) _ _ _ _ _=>[a.block]
 |.r none _ _ _ _ _=>[]
 |.f S _=>S
theorem Ent.own_blks{e:Ent}{g:Nat}:e.own g↔g∈e.blks:=by
 cases e with
 |old w=>simp[Ent.own,Ent.blks]
 |m g' t cs=>simp[Ent.own,Ent.blks,eq_comm]
 |r A n c t sz xs=>cases A <;> simp[Ent.own,Ent.blks,eq_comm]
 |f S φ=>simp[Ent.own,Ent.blks]
def bun(es:LE):Ent:=.f (es.flatMap Ent.blks) (fun w=>∀e∈es,Ent.ok w e)
theorem Ent.ok_blks{e:Ent}(hl:e.low=0){w w':World}(h:Ent.ok w e)(hb:∀g∈e.blks,w'.heap[g]? = w.heap[g]?):Ent.ok w' e:=by
 have hsz:∀g,g<w.heap.size->g∈e.blks->g<w'.heap.size:=fun g hg hm=>by
  have h1:=hb g hm;rw[Array.getElem?_eq_getElem hg] at h1;exact Ei h1
 cases e with
 |old w0=>simp[Ent.low] at hl
 |m g t cs=>exact (hb g (by simp[Ent.blks])).trans h
 |r A n c t sz xs=>
  obtain⟨h1,h2⟩:=h;refine⟨h1,?_⟩;rcases h2 with h2|⟨g,cap,cur,hv,hb',hh,rest⟩
  .exact .inl h2
  .refine .inr ⟨g,cap,cur,hv,hb',?_,rest⟩;refine (hb g ?_).trans hh;rw[<-Ent.own_blks,Ent.own_r,hv];rfl
 |f S φ=>
  obtain⟨h1,h2,h3⟩:=h;exact⟨fun g hg=>hsz g (h1 g hg) hg,h3 w w' h2 hb,h3⟩
theorem Bcw{es:LE}(hl:∀e∈es,e.low=0){w:World}(h:∀e∈es,Ent.ok w e):Ent.ok w (bun es):=by
 refine⟨fun g hg=>?_,h,fun w1 w2 h1 hb e he=>Ent.ok_blks (hl e he) (h1 e he) (fun g hg=>hb g (List.mem_flatMap.2 ⟨e,he,hg⟩))⟩;obtain⟨e,he,hg⟩:=List.mem_flatMap.1 hg;exact Ent.lt (h e he) (Ent.own_blks.2 hg)
theorem Arm{es:LE}{w:World}(h:Ent.ok w (bun es)):∀e∈es,Ent.ok w e:=h.2.1
theorem Aeg{es L:LE}{w:World}(hl:∀e∈es,e.low=0)(h:Heap (es++L) w):Heap (bun es::L) w:=by
 have hp:=List.pairwise_append.1 h.sep;refine⟨fun e he=>?_,?_⟩
 .rcases List.mem_cons.1 he with rfl|he
  .exact Bcw hl (fun e he=>h.ok e (List.mem_append_left _ he))
  .exact h.ok e (List.mem_append_right _ he)
 .rw[List.pairwise_cons];refine⟨fun x hx=>⟨fun g hg=>?_,fun g hg=>⟨Nat.zero_le _,fun hb=>?_⟩⟩,hp.2.1⟩
  .obtain⟨e,he,hg⟩:=List.mem_flatMap.1 (show g∈es.flatMap Ent.blks from hg);exact (hp.2.2 e he x hx).1 g (Ent.own_blks.2 hg)
  .obtain⟨e,he,hb⟩:=List.mem_flatMap.1 (show g∈es.flatMap Ent.blks from hb);exact ((hp.2.2 e he x hx).2 g hg).2 (Ent.own_blks.2 hb)
theorem SubE.consB{K L es:LE}{e:Ent}{i j:Nat}(h:nthE L i=some (bun es))(hj:nthE es j=some e)(h':SubE K L):SubE (e::K) L:=⟨fun w hw x hx=>by
 rcases List.mem_cons.1 hx with rfl|hx
 .exact Arm (hw _ (Ft h)) _ (Ft hj)
 .exact h'.ok w hw _ hx⟩
theorem Av8{n:Nat}{N:AW}{fr:lF}{L Lr es:LE}(hp:Gz L (es++Lr))(hl:∀e∈es,e.low=0)(k:T n N fr (bun es::Lr)):T n N fr L :=
 fun a w ha hw=>k a w ha (Aeg hl (hw.pick hp))
def Av9(P:Program)(s:TypeId)(xs:LV)(f:Nat)(v:Value):Prop:=∀w,(Instr.field s (.agg xs.toArray) f).run P w=.ok v w
theorem Atr{P:Program}{n:Nat}{fr:List (Nat × Value)}{L:List Ent}{dst:Option Tmp}{ty:TypeId}{pos:String}{after:Array Edge}{guard:Option (Nat × Bool)}{s:TypeId}{x:Operand}{f:Nat}{xs:List Value}{v:Value}(hx:evo fr x=some (.agg xs.toArray))(h:Av9 P s xs f v):
  Ev P n ⟨dst,.field s x f,ty,pos,after,guard⟩ fr L v:=fun a w ha _=>by
 simp[execOp,ha.eval hx,h w]
abbrev Vec(sz:Nat):Type:={v:LV // v.length=sz}
open Go.Maps (Keyed)
def Alc(P:Program)(t:TypeId)(xs:LV):Prop:=∀(j:Nat) (h:j<xs.length) (k:IntKind) (w:World),(Instr.index t (.agg xs.toArray) (.int k (j:Int))).run P w=.ok xs[j] w
theorem Ats{P:Program}{n:Nat}{fr:lF}{L:LE}{dst:Option Tmp}{ty:TypeId}{pos:String}{after:AE}{guard:ON}{t:TypeId}{x i:Operand}{kd k:IntKind}{xs:LV}{ys:LI}{z v:Int}(hx:evo fr x=some (.agg xs.toArray))(hxs:xs=ys.map (Value.int kd))(hi:evo fr i=some (.int k z))(hV:Alc P t xs)(hz:idx ys z=some v):Ev P n ⟨dst,.index t x i,ty,pos,after,guard⟩ fr L (.int kd v):=fun a w ha _=>by
 subst hxs;unfold idx at hz;split at hz
 .rename_i h0;obtain⟨hlt,he⟩:=List.getElem?_eq_some_iff.1 hz;have:=hV z.toNat (by simpa using hlt) k w;rw[Int.toNat_of_nonneg h0] at this;simp only[execOp,ha.eval hx,ha.eval hi,this,Sem.run_bind,Result.andThen,List.getElem_map,he];rfl
 .cases hz
def RV(v:Value):Option (DataW Value×List MemPlace):=some (.held v,[])
def klOf(P:Program)(k:TypeId)(v:Value):Lit:=(keyOf P k v).getD (.bool true)
theorem Mk{P:Program}{k:TypeId}{v:Value}(h:(keyOf P k v).isSome=true):keyOf P k v=some (klOf P k v):=by
 unfold klOf;cases hk:keyOf P k v with
 |none=>rw[hk] at h;cases h
 |some l=>rfl
section
variable {κ υ:Type}
def mapD(P:Program)(k:TypeId)(ke:κ->Value)(ve:υ->Value):List (κ×υ)->DataW Value
 |[]=>.map []
 |p::r=>(mapD P k ke ve r).put (klOf P k (ke p.1)) (.held (ve p.2))
open Classical in
def mget(m:List (κ×υ))(x:κ):Option υ:=match m with
 |[]=>none
 |p::r=>if p.1=x then some p.2 else mget r x
theorem Am9{x:κ}:mget ([]:List (κ×υ)) x=none:=rfl
open Classical in
theorem Vk{p:κ×υ}{r:List (κ×υ)}{x:κ}:mget (p::r) x=if p.1=x then some p.2 else mget r x:=rfl
def mval(ve:υ->Value)(z:Value):Option υ->Value
 |some v=>ve v
 |none=>z
variable {P:Program}{k:TypeId}{ke:κ->Value}{ve:υ->Value}{b:Nat}{m:List (κ×υ)}
theorem Adj:∀{m:List (κ×υ)},Maps.IsMap (mapD P k ke ve m)
 |[]=>⟨_,rfl⟩
 |p::r=>by
  obtain⟨es,h⟩:=Adj (m:=r);unfold mapD;rw[h];exact⟨_,rfl⟩
theorem Aj1(K:Keyed P k)(hke:∀ x y,ke x=ke y->x=y){x:κ}(hx:(keyOf P k (ke x)).isSome=true)(z:Value):
  ∀{m:List (κ×υ)},(∀p∈m,(keyOf P k (ke p.1)).isSome=true)->(mapD P k ke ve m).atKey (klOf P k (ke x)) (.held z)=.held (mval ve z (mget m x))/\Maps.has (mapD P k ke ve m) (klOf P k (ke x))=(mget m x).isSome
 |[],_=>⟨rfl,rfl⟩
 |p::r,h=>by
  have ih:=Aj1 K hke hx z (m:=r) (fun q hq=>h q (List.mem_cons_of_mem _ hq));have hp:=Mk (h p List.mem_cons_self);have hxs:=Mk hx;unfold mapD
  by_cases he:p.1=x
  .rw[Vk,if_pos he,he];exact⟨Maps.atKey_put_same Adj (K.key hxs) _ _,Maps.has_put_same Adj (K.key hxs) _⟩
  .have hne:klOf P k (ke x)≠klOf P k (ke p.1):=fun e=>he (hke _ _ (K.inj hp (by rw[hxs,e])))
   rw[Vk,if_neg he,Maps.atKey_put_other hne,Maps.has_put_other hne];exact ih
section
variable {n:Nat}{fr:lF}{L:LE}{N:AW}{Q:Exit->AW}{d:Nat}{dst:Option Tmp}{ty:TypeId}{pos:String}{after:AE}{guard:ON}
theorem Aeh{L:LE}{i:Nat}{e:Ent}(h:nthE L i=some e):e∈L:=by
 induction L generalizing i with
 |nil=>simp[nthE] at h
 |cons x r ih=>
  cases i with
  |zero=>simp[nthE] at h;subst h;exact List.mem_cons_self
  |succ i=>exact List.mem_cons_of_mem _ (ih h)
theorem Aff{o:Option υ}{z0 u:υ}(h:some (o.getD z0)=some u):mval ve (ve z0) o=ve u:=by
 obtain rfl:=Option.some.inj h;cases o <;> rfl
end
end
theorem Bcx{P:Program}{k:TypeId}{q:IntKind}(hk:P.underlying k=some (.int q)){a:Int}(hw:(Lit.int q a).wf=true):(keyOf P k (.int q a)).isSome=true:=by rw[Maps.keyOf_int_mk hk hw];rfl
theorem Ah2{z:Int}(h:-9223372036854775808<=z/\z<=9223372036854775807):(Lit.int .i64 z).wf=true:=by
 have h1:IntKind.i64.min = -9223372036854775808:=rfl;have h2:IntKind.i64.max=9223372036854775807:=rfl;simp only[Lit.wf,Bool.and_eq_true,decide_eq_true_eq];omega
theorem Abo{α β:Type}{g:α->Option β}:∀(l:List α),(∀x∈l,(g x).isSome=true)->(l.mapM g).isSome=true
 |[],_=>rfl
 |x::r,h=>by
  have h1:=h x List.mem_cons_self;have ih:=Abo r (fun y hy=>h y (List.mem_cons_of_mem _ hy));rw[List.mapM_cons];cases hx:g x with
  |none=>rw[hx] at h1;cases h1
  |some y=>
   cases hr:r.mapM g with
   |none=>rw[hr] at ih;cases ih
   |some ys=>rfl
theorem Apk{P:Program}{k:TypeId}{fs:Array Field}{cs:LV}{d:Nat}(hd:P.types.size=d+1)(hu:P.underlying k=some (.struct fs))(hk:P.keyType k=true)(hc:cs.length=P.cellsOf k)(hn:fs.all (·.name != "_")=true)(hf:∀f∈fs.toList,∃q n,P.underlying f.type=some (.int q)/\(cs.drop f.offset).take (P.cellsOf f.type)=[.int q n]/\(Lit.int q n).wf=true):(keyOf P k (.agg cs.toArray)).isSome=true:=by
 unfold keyOf;rw[hu];have hfm:(Value.agg cs.toArray).formed P k=true:=by simp[Value.formed,hu,hc]
 simp only[hk,hfm,Bool.and_self,if_true,Option.isSome_map];have hcl:(Value.agg cs.toArray).cells.toList=cs:=by simp[Value.cells]
 rw[hcl,hd];unfold Program.keyLits;simp only[hu];rw[if_pos ⟨hc,hn⟩,Option.isSome_map];refine Abo _ fun f hfm=>?_
 obtain⟨q,n,h1,h2,h3⟩:=hf f hfm;rw[h2];unfold Program.keyLits;simp[h1,h3]
end
end
end Go.Proofs.YthlkpgdfifnagaaGreat
