import Derived.Test.YthlkpgdfifnagaaGreatFlow12
import Derived.Sort.Grow
import Derived.Deep.Draws
import Derived.Shelf.SlSortCmp.WholeK
import Derived.Shelf.SlSortCmp.NoneTotal
import Derived.Shelf.SlSortCmp.Whole1
import Derived.ArgAppend
import Derived.LoopN
import Derived.Laws.Externs
namespace Go.Proofs.YthlkpgdfifnagaaGreat
open Go Go.RowKit
noncomputable section
section
open Go.Maps (Keyed)
theorem Pt.m0{g:Nat}{t:TypeId}{cs:LV}{K:LE}(h:Ent.m g t cs∈K):Pt K g 0 cs:=fun w hw j u hu=>by
 have:=hw _ h;rw[Aac this];simpa using hu
section
variable {κ υ:Type}
inductive MR{σ τ:Type}(BN:σ->Option (Sum σ τ))(BS:σ->κ×υ->Option (Sum σ τ)):List (κ×υ)->σ->τ->Prop
 |nil {s t} (h:BN s=some (.inr t)):MR BN BS [] s t
 |cons {l s t} (h0:l≠[]) (h1:∀p∈l,(BS s p).isSome=true) (h2:∀p∈l,∀t',BS s p=some (.inr t')->t'=t) (h3:∀p∈l,∀s',BS s p=some (.inl s')->MR BN BS (mdel l p.1) s' t):MR BN BS l s t
variable {σ τ γ:Type}{BN:σ->Option (Sum σ τ)}{BS:σ->κ×υ->Option (Sum σ τ)}{l m:List (κ×υ)}{s:σ}{t:τ}{p:κ×υ}
theorem MR.none'(h:MR BN BS l s t)(hl:l=[]):∃x,BN s=some x/\∀t',x=.inr t'->t'=t:=by
 cases h with
 |nil h=>exact⟨_,h,fun t' e=>(Sum.inr.inj e).symm⟩
 |cons h0 _ _ _=>exact absurd hl h0
theorem MR.some'(h:MR BN BS l s t)(hp:p∈l):∃x,BS s p=some x/\(∀t',x=.inr t'->t'=t)/\∀s',x=.inl s'->MR BN BS (mdel l p.1) s' t:=by
 cases h with
 |nil h=>cases hp
 |cons _ h1 h2 h3=>
  obtain⟨x,hx⟩:=Option.isSome_iff_exists.1 (h1 p hp);exact⟨x,hx,fun t' e=>h2 p hp t' (by rw[hx,e]),fun s' e=>h3 p hp s' (by rw[hx,e])⟩
open Classical in
def mfix(BN:σ->Option (Sum σ τ))(BS:σ->κ×υ->Option (Sum σ τ))(m:List (κ×υ))(s:σ):Option τ:=if h:∃t,MR BN BS m s t then some h.choose else none
theorem Avc(h:mfix BN BS m s=some t):MR BN BS m s t:=by
 unfold mfix at h;split at h
 .rename_i hh;cases h
  exact hh.choose_spec
 .cases h
theorem MR.unique(h:MR BN BS m s t){t':τ}(h':MR BN BS m s t'):t=t':=by
 induction h with
 |nil h=>
  obtain⟨x,hx,ht⟩:=h'.none' rfl;rw[h] at hx;exact ht _ (oI hx).symm
 |@cons l s t h0 h1 h2 h3 ih=>
  obtain⟨p,hp⟩:=List.exists_mem_of_ne_nil l h0;obtain⟨x,hx,ht,hn⟩:=h'.some' hp;cases x with
  |inr t2=>rw[<-h2 p hp t2 hx,ht t2 rfl]
  |inl s2=>exact ih p hp s2 hx (hn s2 rfl)
theorem As9(h:MR BN BS m s t):mfix BN BS m s=some t:=by
 unfold mfix;rw[dif_pos ⟨t,h⟩];exact congrArg some (MR.unique (Exists.choose_spec (p:=fun t=>MR BN BS m s t) ⟨t,h⟩) h)
theorem Bbu(hp:p∈l):(mdel l p.1).length<l.length:=by
 unfold mdel;refine Nat.lt_of_le_of_ne (List.length_filter_le _ _) fun e=>?_
 have:=List.length_filter_eq_length_iff.1 e p hp;simp at this
section
variable {ρ:Type}
def mkN(BN:σ->Option (Sum σ τ))(k:τ->Option ρ):σ->Option (Sum σ ρ):=fun s=>match BN s with
 |some (.inl s')=>some (.inl s')
 |some (.inr t)=>(match k t with
  |some r=>some (.inr r)
  |none=>none)
 |none=>none
def mkS(BS:σ->κ×υ->Option (Sum σ τ))(k:τ->Option ρ):σ->κ×υ->Option (Sum σ ρ):=fun s p=>mkN (fun s=>BS s p) k s
abbrev Ali(BN:σ->Option (Sum σ τ))(BS:σ->κ×υ->Option (Sum σ τ))(m:List (κ×υ))(s:σ)(k:τ->Option ρ):Option ρ:=mfix (mkN BN k) (mkS BS k) m s
theorem Aos{BN:σ->Option (Sum σ τ)}{k:τ->Option ρ}{s:σ}{y:Sum σ ρ}(h:mkN BN k s=some y):∃x,BN s=some x/\(∀t,x=.inr t->∃r,k t=some r/\y=.inr r)/\∀s',x=.inl s'->y=.inl s':=by
 unfold mkN at h;split at h
 .rename_i s' e;cases h
  exact⟨_,e,fun t ht=>(by cases ht),fun s2 h2=>(by cases h2;rfl)⟩
 .rename_i t e;split at h
  .rename_i r er;cases h
   exact⟨_,e,fun t ht=>(by cases ht;exact⟨r,er,rfl⟩),fun s2 h2=>(by cases h2)⟩
  .cases h
 .cases h
theorem MR.noneK{k:τ->Option ρ}{r:ρ}(h:MR (mkN BN k) (mkS BS k) l s r)(hl:l=[]):∃x,BN s=some x/\∀t',x=.inr t'->k t'=some r:=by
 obtain⟨y,hy,hr⟩:=h.none' hl;obtain⟨x,hx,h1,_⟩:=Aos hy;refine⟨x,hx,fun t' e=>?_⟩;obtain⟨r',h2,h3⟩:=h1 t' e;rw[h2,hr r' h3]
theorem MR.someK{k:τ->Option ρ}{r:ρ}(h:MR (mkN BN k) (mkS BS k) l s r)(hp:p∈l):∃x,BS s p=some x/\(∀t',x=.inr t'->k t'=some r)/\∀s',x=.inl s'->MR (mkN BN k) (mkS BS k) (mdel l p.1) s' r:=by
 obtain⟨y,hy,hr,hn⟩:=h.some' hp;obtain⟨x,hx,h1,h4⟩:=Aos hy;refine⟨x,hx,fun t' e=>?_,fun s' e=>hn s' (h4 s' e)⟩;obtain⟨r',h2,h3⟩:=h1 t' e;rw[h2,hr r' h3]
theorem Be4{σ τ ρ:Type}{k:τ->Option ρ}{r:ρ}{x:Sum σ τ}{t':τ}(ht:∀t',x=.inr t'->k t'=some r)(hx:some (.inr t')=some x):k t'=some r:=ht t' (oI hx).symm
end
section
variable {P:Program}{n:Nat}{fr:lF}{L:LE}{Q:Exit->AW}
def RndM(n:Nat)(BN:σ->Option (Sum σ τ))(BS:σ->κ×υ->Option (Sum σ τ))(t:τ)(left:γ->List (κ×υ))(k:Nat)(I:σ->γ->lF)(H:σ->γ->LE)(G:σ->γ->Prop)(a:Act)(w:World):Prop :=
 ∃s g,MR BN BS (left g) s t/\(left g).length<k/\G s g/\Fr n (I s g) a/\Heap (H s g) w
theorem Aid{s0:σ}(hl:mfix BN BS m s0=some t)(left:γ->List (κ × υ))(I:σ->γ->List (Nat × Value))(H:σ->γ->List Ent)(G:σ->γ->Prop)(g0:γ)(hm:left g0=m)(hG:G s0 g0)(hF:SubF (I s0 g0) fr)(hH:Hh L (H s0 g0)){c:Code}(body:∀ s g,G s g->MR BN BS (left g) s t->T n (c.wp P (Exit.then (RndM n BN BS t left (left g).length I H G) Q)) (I s g) (H s g)):
  T n ((Code.loop c).wp P Q) fr L:=by
 refine fun a w ha hw=>?_
 refine Ba0 (fr:=fr) (L:=H s0 g0) (σ:=σ×γ) (fun s=>I s.1 s.2) (fun s=>H s.1 s.2) (fun s=>G s.1 s.2/\MR BN BS (left s.2) s.1 t) (fun s=>(left s.2).length) (s0,g0) ⟨hG,by rw[hm];exact Avc hl⟩ hF .refl ?_ a w ha (hw.pick hH);clear ha hw a w;rintro⟨s,g⟩ ⟨hG,hs⟩;intro a w ha hw;refine wp_mono (body s g hG hs a w ha hw) ?_;intro e a' w' hq;cases e with
 |normal=>
  obtain⟨s',g',h4,h5,h1,h2,h3⟩:=hq;exact⟨(s',g'),⟨h1,h4⟩,h5,h2,h3⟩
 |_=>exact hq
theorem Acn{left:γ->List (κ×υ)}{τ':Type}{x:Sum σ τ'}{I:σ->γ->lF}{H:σ->γ->LE}{G:σ->γ->Prop}(s:σ)(g:γ)(hx:some (.inl s)=some x)(hnx:∀s',x=.inl s'->MR BN BS (mdel l p.1) s' t)(hp:p∈l)(hg:left g=mdel l p.1)(hG:G s g)(hF:SubF (I s g) fr)(hH:Hh L (H s g)):T n (Exit.then (RndM n BN BS t left l.length I H G) Q .normal) fr L:=fun _ _ ha hw=>
 ⟨s,g,by rw[hg];exact hnx s (oI hx).symm,by rw[hg];exact Bbu hp,hG,ha.sub hF,hw.pick hH⟩
end
end
end
section
open Go.Lib Go.Sort
def Gw(W w:World):Prop:=∃q os',w=grow (W.drewN q) os'
theorem Gw.trans{A B C:World}(h:Gw A B)(k:Gw B C):Gw A C:=by
 obtain⟨q,os,rfl⟩:=h;obtain⟨q',os',rfl⟩:=k;exact⟨q+q',os++os',by simp[grow,World.drewN,Nat.add_assoc,Array.append_assoc]⟩
theorem Ext.gw{W w:World}(h:Ext W w):Gw W w:=by
 obtain⟨⟨h1,h2,h3,h4,h5⟩,hd⟩:=h;refine⟨w.drawn-W.drawn,w.heap.extract W.heap.size w.heap.size,?_⟩;obtain⟨hp,tp,dr,os,out⟩:=w;simp only at *;have e:hp=W.heap++hp.extract W.heap.size hp.size:=by
  apply Array.ext_getElem?;intro i
  by_cases hi:i<W.heap.size
  .rw[h5 i hi,Array.getElem?_append_left hi]
  .rw[Array.getElem?_append_right oo,Array.getElem?_extract]
   by_cases hi2:i<hp.size
   .rw[iP oo];congr 1;omega
   .rw[iN oo,Array.getElem?_eq_none oo]
 have ed:W.drawn+(dr-W.drawn)=dr:=oo;simp only[grow,World.drewN,ed,h1,h2,h3,<-e]
theorem CtL.grows{P:Program}{f:FuncId}{vs:LV}{w:World}{v:Value}(h:CtL P f vs w fun x Ln=>x=v/\Ln=[]/\True):Calls P f vs.toArray w fun e w'=>e=.returned v/\Gw w w':=by
 obtain⟨_,h⟩:=h;refine h.mono ?_;rintro e w' ⟨v',Ln,rfl,⟨rfl,-,-⟩,-,hh⟩;exact⟨rfl,Ext.gw (hh.ok (.old w) s_)⟩
end
section
open Go.Shelf Go.Sort
variable {α:Type}[Inhabited α]
theorem Aot{enc:α->LV}{k:Nat}(hk:∀x,(enc x).length=k)(h0:0<k)(d:Array α):flatK enc k d=(d.toList.flatMap enc).toArray:=by
 have hl:(d.toList.flatMap enc).length=d.size*k:=by rw[Nw hk,Array.length_toList]
 apply Array.ext
 .simp only[size_flatK,List.size_toArray,hl]
 .intro t h1 h2;have ht:t<d.size*k:=by simpa using h1
  have hq:t/k<d.size:=by rw[Nat.div_lt_iff_lt_mul h0];exact ht
  have hr:t%k<k:=Nat.mod_lt _ h0;have hg:=get_flatK enc k d t ht;rw[getElem!_pos _ t h1] at hg;rw[hg];have hx:(enc d[t/k]!)[t%k]? = some (enc d[t/k]!)[t%k]!:=by
   rw[getElem!_pos (enc d[t/k]!) (t%k) (by rw[hk];exact hr)];exact gE _
  have hd:d[t/k]! = d.toList[t/k]'(sV hq):=by
   rw[getElem!_pos d _ hq];simp
  rw[hd] at hx⊢;have:=Abi (enc:=enc) d.toList (t/k) (sV hq) (fun x _=>hk x) (t%k) _ hx;rw[Nat.mul_comm,Nat.div_add_mod] at this;have h3:=(List.getElem?_eq_some_iff.1 this).2;rw[<-h3];simp
theorem Avd{enc:α->LV}{k:Nat}(hk:∀x,(enc x).length=k)(h0:0<k){w:World}{g:Nat}{cur:Array Value}{t:TypeId}(d:Array α)(hh:w.heap[g]? = some (.cells cur t (0,0)))(hc:cur.toList.take (d.size*k)=d.toList.flatMap enc):HoldsK enc k w g 0 d:=by
 intro j hj;rw[Aot hk h0] at hj⊢;have hl:(d.toList.flatMap enc).length=d.size*k:=by rw[Nw hk,Array.length_toList]
 have hj':j<d.size*k:=by simpa[hl] using hj
 have hjl:j<(d.toList.flatMap enc).length:=by rw[hl];exact hj'
 refine⟨?_,?_⟩
 .have h7:(cur.toList.take (d.size*k))[j]? = (d.toList.flatMap enc)[j]?:=by rw[hc]
  rw[List.getElem?_take,iP hj'] at h7;have h8:cur[j]? = some (d.toList.flatMap enc)[j]:=by rw[<-Array.getElem?_toList,h7];exact gE hjl
  have h9:w.cell? ⟨g,0+j,none⟩=cur[j]?:=by simp[World.cell?,hh]
  rw[h9,h8,getElem!_pos _ j hj];simp
 .simp[World.frozen?,hh]
theorem Aje{enc:α->List Value}{k:Nat}(hk:∀ x,(enc x).length=k)(h0:0<k){w:World}{g c n:Nat}{cur:Array Value}{t:TypeId}{d d':Array α}{os:Array Obj}(hs:d'.size=d.size)(hh:w.heap[g]? = some (.cells cur t (0,0)))(hm:d.size<=c)(hcm:c<=maxLen)(hz:cur.size=c*k):
  Ent.ok (sortWorldK enc k w g 0 n d' os) (.r (some ⟨g,0,none⟩) d.size c t k (d'.toList.flatMap enc))/\w.grownBy (sortWorldK enc k w g 0 n d' os) (some g):=by
 have hl:(d'.toList.flatMap enc).length=d.size*k:=by rw[Nw hk,Array.length_toList,hs]
 have hlt:=Dq hh;have hg0:∀q,q<w.heap.size->(sortWorldK enc k w g 0 n d' os).heap[q]? = (w.heap.modify g (onCells (putCells id 0 (flatK enc k d'))))[q]?:=fun q hq=>by
  show (((Go.Sort.ahead w n).heap.modify g (onCells (putCells id 0 (flatK enc k d'))))++os)[q]? = _;rw[Array.getElem?_append_left (by rw[Array.size_modify];exact hq)];rfl
 refine⟨⟨hl,.inr ⟨g,c,putCells id 0 (flatK enc k d') cur,rfl,Nat.zero_le _,?_,hm,hcm,?_,?_⟩⟩,⟨rfl,rfl,rfl,?_,fun q hq hne=>?_⟩⟩
 .rw[hg0 g hlt,Array.getElem?_modify,iP rfl,hh];rfl
 .simp[putCells,hz]
 .apply List.ext_getElem?;intro j;rw[List.getElem?_take]
  by_cases hj:j<d.size*k
  .rw[iP hj];have hjl:j<(d'.toList.flatMap enc).length:=by rw[hl];exact hj
   have hjc:j<cur.size:=by
    rw[hz];exact Nat.lt_of_lt_of_le hj (Nat.mul_le_mul_right _ hm)
   have hsz:j<(flatK enc k d').size:=by rw[size_flatK,hs];exact hj
   have h1:(flatK enc k d')[j]! = (d'.toList.flatMap enc)[j]:=by
    rw[Aot hk h0,getElem!_pos _ j (sV hjl)];simp
   rw[Array.getElem?_toList,gE hjl];simp only[putCells,Array.getElem?_mapIdx,Array.getElem?_eq_getElem hjc,Option.map_some];rw[iP ⟨Nat.zero_le _,sV hsz⟩];simp only[Nat.sub_zero,id,h1]
  .rw[iN hj,List.getElem?_eq_none (by rw[hl];omega)]
 .show w.heap.size<=(((Go.Sort.ahead w n).heap.modify g (onCells (putCells id 0 (flatK enc k d'))))++os).size;rw[Array.size_append,Array.size_modify];exact Nat.le_add_right _ _
 .rw[hg0 q hq,Array.getElem?_modify];rw[iN (fun he=>hne (by rw[he]))]
end
section
open Go.Shelf Go.Sort
def Bf{α:Type}(cf:α->α->Int)(l:List α):List α:=l.mergeSort fun x y=>!(ltOf cf) y x
theorem Ct{α:Type}{cf:α->α->Int}{l:List α}:(Bf cf l).length=l.length:=by simp[Bf]
structure Aa0{β:Type}(p:β->Prop)(cf:β->β->Int):Prop where
 irr:∀x,p x->¬cf x x<0
 trans:∀x y z,p x->p y->p z->cf x y<0->cf y z<0->cf x z<0
 tot:∀x y,p x->p y->¬cf x y<0->¬cf y x<0->x=y
theorem Ajf{α:Type}{cf:α->α->Int}{x y:α}:ltOf cf x y=true↔cf x y<0:=by simp[ltOf]
theorem Xj{α:Type}{cf:α->α->Int}{x y:α}:ltOf cf x y=false↔¬cf x y<0:=by simp[ltOf]
theorem Aa0.swo{β:Type}{p:β->Prop}{cf:β->β->Int}(h:Aa0 p cf):SWO (ltOf fun x y:{x // p x}=>cf x.1 y.1) where
 irrefl x:=Xj.2 (h.irr x.1 x.2)
 trans x y z h1 h2:=Ajf.2 (h.trans x.1 y.1 z.1 x.2 y.2 z.2 (Ajf.1 h1) (Ajf.1 h2))
 ntrans x y z h1 h2:=by
  rw[Xj] at h1 h2 ⊢;intro h3
  by_cases h4:cf y.1 x.1<0
  .exact h2 (h.trans y.1 x.1 z.1 y.2 x.2 z.2 h4 h3)
  .have:=h.tot x.1 y.1 x.2 y.2 h1 h4;rw[this] at h3;exact h2 h3
theorem Aa0.one{β:Type}{p:β->Prop}{cf:β->β->Int}(h:Aa0 p cf)(x y:{x // p x})(h1:ltOf (fun x y:{x // p x}=>cf x.1 y.1) x y=false)(h2:ltOf (fun x y:{x // p x}=>cf x.1 y.1) y x=false):x=y :=
 Subtype.ext (h.tot x.1 y.1 x.2 y.2 (Xj.1 h1) (Xj.1 h2))
def Ad1(P:Program)(f:FuncId)(A:OA)(m c:Nat)(t:TypeId)(k:Nat)(gf:Nat)(cb:Array Value)(w:World)(xs ys:LV):Prop :=
 Calls P f #[.slice A m c,.func (.func gf) #[] cb] w fun e w'=>e=.returned (.tuple #[])/\w.grownBy w' (Ent.blk (.r A m c t k xs))/\w.drawn<=w'.drawn/\Ent.ok w' (.r A m c t k ys)
def Ad2(P:Program){β:Type}(p:β->Prop)(cf:β->β->Int)(arg:β->Value)(A:OA)(m c:Nat)(t:TypeId)(k:Nat)(gf:Nat)(cb:Array Value)(w:World)(xs:LV):Prop :=
 ∀(ys:LV) W,Ent.ok W (.r A m c t k ys)->w.grownBy W (Ent.blk (.r A m c t k xs))->w.drawn<=W.drawn->∀x y,p x->p y->Calls P gf (#[arg x,arg y]++cb) W fun e w'=>e=.returned (iq (cf x y))/\Gw W w'
theorem Aa1{α:Type}[Inhabited α](enc:α->LV)(k:Nat)(w:World)(g off n:Nat)(d:Array α)(os:Array Obj):w.drawn<=(sortWorldK enc k w g off n d os).drawn:=Nat.le_add_right _ _
theorem Aej{β:Type}{p:β->Prop}{cf:β->β->Int}(l':List {x // p x}):Bf cf (l'.map Subtype.val)=(Bf (fun x y:{x // p x}=>cf x.1 y.1) l').map Subtype.val:=by
 unfold Bf;rw[List.map_mergeSort];intro a _ b _;rfl
theorem Aek{P:Program}{ρ:Ren}(L:SlLaysF0.n6 P ρ){β:Type}{p:β->Prop}{k:Nat}(aE:∀w,(isAgg (ρ.t 24)).run P w=.ok true w)(zE:∀w,(Go.sizeOf (ρ.t 24)).run P w=.ok k w){enc:β->LV}(hk:∀x,(enc x).length=k)(h0:0<k)(h1:∀x,∀v∈enc x,v.oneCell'=true){cf:β->β->Int}(hT:Aa0 p cf){gf:Nat}{cb:Array Value}(eg:∀args w,(callFunc gf args).run P w=.ok (.enter gf args) w)(l:List β)(hb:l.length<=1000000000)(hp:∀x∈l,p x){A:OA}{m c:Nat}{t:TypeId}(w:World)(hok:Ent.ok w (.r A m c t k (l.flatMap enc)))(hcmp:Ad2 P p cf (fun x=>.agg (enc x).toArray) A m c t k gf cb w (l.flatMap enc)):Ad1 P (ρ.f 6) A m c t k gf cb w (l.flatMap enc) ((Bf cf l).flatMap enc):=by
 obtain⟨hl,h2⟩:=hok;rw[Nw hk] at hl;have hm:l.length=m:=Nat.eq_of_mul_eq_mul_right h0 hl;subst hm
 by_cases hl0:l=[]
 .subst hl0;refine (AnyF.slices_SortFunc_none L A c _ w).mono ?_;rintro e w' ⟨rfl,rfl⟩;exact⟨rfl,⟨rfl,rfl,rfl,nL _,fun _ _ _=>rfl⟩,nL _,by rw[show Bf cf ([]:List β)=[] by simp[Bf]];exact⟨s_,h2⟩⟩
 .obtain⟨l',hl'⟩:∃l':List {x // p x},l=l'.map Subtype.val:=⟨l.attach.map fun x=>⟨x.1,hp x.1 x.2⟩,by simp only[List.map_map,Function.comp_def];exact (List.attach_map_subtype_val _).symm⟩;obtain⟨x0,hx0⟩:=List.exists_mem_of_ne_nil l hl0;have:Inhabited {x // p x}:=⟨⟨x0,hp x0 hx0⟩⟩;clear hl0 hx0;subst hl';have hf:∀q:List {x // p x},(q.map Subtype.val).flatMap enc=q.flatMap fun x=>enc x.1:=fun q=>by rw[List.flatMap_map]
  have hk':∀x:{x // p x},(enc x.1).length=k:=fun x=>hk x.1
  rcases h2 with⟨hv,hz⟩|⟨g,cap,cur,hv,hbg,hh,h3,h4,h5,h6⟩
  .injection hv with e1 e2 e3
   subst e1;subst e3;rw[hz];have hl0:l'=[]:=by simpa using hz
   subst hl0;refine (AnyF.slices_SortFunc_none L none 0 _ w).mono ?_;rintro e w' ⟨rfl,rfl⟩;exact⟨rfl,⟨rfl,rfl,rfl,nL _,fun _ _ _=>rfl⟩,nL _,by simp[Bf],.inl ⟨rfl,rfl⟩⟩
  .injection hv with e1 e2 e3
   subst e1;subst e3;unfold Ad2 at hcmp;unfold Ad1;rw[Aej,hf,hf];rw[hf] at h6 hcmp;rw[List.length_map] at h3 h6 hl hb hcmp ⊢;have hH:HoldsK (fun x:{x // p x}=>enc x.1) k w g 0 l'.toArray:=Avd hk' h0 l'.toArray hh (sV h6);have hcl:CmpLays P gf cb (fun x:{x // p x}=>enc x.1) k (fun x y=>cf x.1 y.1) g 0 l'.toArray.size w:=fun q os dk hdk x y=>by
    have hr:=Aje hk' h0 (d:=l'.toArray) (d':=dk) (n:=q) (os:=os) hdk hh (sV h3) h4 h5;simp only[List.size_toArray] at hr;exact hcmp _ _ hr.1 hr.2 (Aa1 _ _ _ _ _ _ _ _) x.1 y.1 x.2 y.2
   have:=AnyQ.slices_SortFunc_total L k aE zE (fun x:{x // p x}=>enc x.1) hk' (fun x=>h1 x.1) (fun x y=>cf x.1 y.1) hT.swo gf cb g 0 c l'.toArray w eg hcl hH (Dq hh) (by simp;omega) hT.one;rw[show l'.toArray.size=l'.length by simp] at this;refine this.mono ?_;rintro e w' ⟨rfl,n,os,rfl⟩;have hs:(l'.toArray.toList.mergeSort fun x y=>!(ltOf fun x y:{x // p x}=>cf x.1 y.1) y x).toArray.size=l'.toArray.size:=s_;have hr:=Aje hk' h0 (d:=l'.toArray) (d':=(l'.toArray.toList.mergeSort fun x y=>!(ltOf fun x y:{x // p x}=>cf x.1 y.1) y x).toArray) (n:=n) (os:=os) hs hh (sV h3) h4 h5;refine⟨rfl,hr.2,Aa1 _ _ _ _ _ _ _ _,?_⟩;have h7:=hr.1;simp only[List.size_toArray] at h7;exact h7
section
variable {P:Program}{n:Nat}{N:AW}{Q:Exit->AW}{fr:lF}{L L':LE}
theorem Aou{β:Type}{p:β->Prop}{enc:β->LV}{arg:β->Value}{cf:β->β->Int}{k f gf:Nat}{cb:Array Value}(l:List β){i m c:Nat}{A:OA}{t:TypeId}{xs:List Operand}{ts:Array TypeId}{ty':TypeId}{pos:String}{after:AE}{guard:ON}(he:Xx P f)(hs:∀w,Ent.ok w (.r A m c t k (l.flatMap enc))->Ad2 P p cf arg A m c t k gf cb w (l.flatMap enc)->Ad1 P f A m c t k gf cb w (l.flatMap enc) ((Bf cf l).flatMap enc))(Lf:LV->LE)(hLf:∀ys,SetE L i (.r A m c t k (l.flatMap enc)) (.r A m c t k ys) (Lf ys))(hc:∀ys W,Heap (Lf ys) W->∀x y,p x->p y->∃xs,xs.toArray = #[arg x,arg y]++cb/\CtL P gf xs W fun v Ln=>v=iq (cf x y)/\Ln=[]/\True)(hx:evos fr xs=some [.slice A m c,.func (.func gf) #[] cb])(hL:Lf ((Bf cf l).flatMap enc)=L'){d:Nat}(hd:Nat.blt d n=true)(kk:T n N ((d,.tuple #[])::fr) L'):Wh P Q n ⟨some d,.call ⟨.value (.func f),xs.toArray,ts⟩,ty',pos,after,guard⟩ fr L N:=by
 intro a w ha hw;subst hL;have turn:∀ys W,Ent.ok W (.r A m c t k ys)->w.grownBy W (Ent.blk (.r A m c t k (l.flatMap enc)))->w.drawn<=W.drawn->Heap (Lf ys) W:=fun ys W h1 h2 h3=>
  Heap.turn (e:=.r A m c t k (l.flatMap enc)) (e':=.r A m c t k ys) h2 h1 (nL _) (fun _ hg=>.inl hg) (hLf ys) hw (hd:=h3)
 simp only[Oper.wp,Ac0 he ha hx,Oper.upon_enter];refine (hs w (hw.ok _ (hLf []).mem) fun ys W h1 h2 h3 x y px py=>?_).mono ?_
 .obtain⟨xs,e,h⟩:=hc ys W (turn ys W h1 h2 h3) x y px py;rw[<-e];exact h.grows
 .rintro e w' ⟨rfl,hg,hdr,hok⟩;exact kk _ _ (ha.put hd) (turn _ _ hok hg hdr)
end
theorem Agg{α:Type}{f:α->Value}:∀l:List α,l.flatMap (fun x=>[f x])=l.map f
 |[]=>rfl
 |x::r=>by rw[List.flatMap_cons,Agg r];rfl
section
variable {α:Type}[Inhabited α]{enc:α->Value}
theorem Aq6{w:World}{g:Nat}{cur:Array Value}{t:TypeId}(l:List α)(hh:w.heap[g]? = some (.cells cur t (0,0)))(h6:cur.toList.take l.length=l.map enc):Holds enc w g 0 l.toArray:=fun j hj=>by
 have hj':j<l.length:=by simpa using hj
 refine⟨?_,?_⟩
 .have h7:(cur.toList.take l.length)[j]? = some (enc l[j]):=by rw[h6];simp[hj']
  rw[List.getElem?_take,iP hj'] at h7;have h8:cur[j]? = some (enc l[j]):=by simpa using h7
  simp[World.cell?,hh,h8,hj']
 .simp[World.frozen?,hh]
theorem Ahj{w:World}{g c n:Nat}{cur:Array Value}{t:TypeId}{d:List α}{d':Array α}{os:Array Obj}(hs:d'.size=d.length)(hh:w.heap[g]? = some (.cells cur t (0,0)))(h3:d.length<=c)(h4:c<=maxLen)(h5:cur.size=c):
  Ent.ok (sortWorld enc w g 0 n d' os) (.r (some ⟨g,0,none⟩) d.length c t 1 (d'.toList.map enc))/\w.grownBy (sortWorld enc w g 0 n d' os) (some g):=by
 have hlt:=Dq hh;have hg0:∀k,k<w.heap.size->(sortWorld enc w g 0 n d' os).heap[k]? = (w.heap.modify g (onCells (putCells enc 0 d')))[k]?:=fun k hk=>by
  show (((Go.Sort.ahead w n).heap.modify g (onCells (putCells enc 0 d')))++os)[k]? = _;rw[Array.getElem?_append_left (by rw[Array.size_modify];exact hk)];rfl
 refine⟨⟨by rw[List.length_map,Array.length_toList,hs,Nat.mul_one],.inr ⟨g,c,putCells enc 0 d' cur,rfl,Nat.zero_le _,?_,h3,h4,?_,?_⟩⟩,⟨rfl,rfl,rfl,?_,fun k hk hne=>?_⟩⟩
 .rw[hg0 g hlt,Array.getElem?_modify,iP rfl,hh];rfl
 .simp[putCells,h5]
 .rw[Nat.mul_one];apply List.ext_getElem?;intro j;rw[List.getElem?_take]
  by_cases hj:j<d.length
  .rw[iP hj];have hj':j<d'.size:=oo;have hjc:j<cur.size:=oo;rw[List.getElem?_map,Array.getElem?_toList,show d'.toList[j]? = some d'[j] by simp[hj']];simp only[putCells,Array.getElem?_mapIdx,Array.getElem?_eq_getElem hjc,Option.map_some];rw[iP ⟨Nat.zero_le _,oo⟩];simp[hj']
  .rw[iN hj,List.getElem?_eq_none (by rw[List.length_map,Array.length_toList];omega)]
 .show w.heap.size<=(((Go.Sort.ahead w n).heap.modify g (onCells (putCells enc 0 d')))++os).size;rw[Array.size_append,Array.size_modify];exact Nat.le_add_right _ _
 .rw[hg0 k hk,Array.getElem?_modify];rw[iN (fun he=>hne (by rw[he]))]
end
theorem Ab8{α:Type}[Inhabited α](enc:α->Value)(w:World)(g off n:Nat)(d:Array α)(os:Array Obj):w.drawn<=(sortWorld enc w g off n d os).drawn:=Nat.le_add_right _ _
theorem Aq7{P:Program}{ρ:Ren}(L:SlLaysF.n6 P ρ){β:Type}{p:β->Prop}{enc:β->Value}(h1:∀x,(enc x).oneCell'=true){cf:β->β->Int}(hT:Aa0 p cf){gf:Nat}{cb:Array Value}(eg:∀args w,(callFunc gf args).run P w=.ok (.enter gf args) w)(l:List β)(hb:l.length<=1000000000)(hp:∀x∈l,p x){A:OA}{m c:Nat}{t:TypeId}(w:World)(hok:Ent.ok w (.r A m c t 1 (l.flatMap fun x=>[enc x])))(hcmp:Ad2 P p cf enc A m c t 1 gf cb w (l.flatMap fun x=>[enc x])):Ad1 P (ρ.f 6) A m c t 1 gf cb w (l.flatMap fun x=>[enc x]) ((Bf cf l).flatMap fun x=>[enc x]):=by
 rw[Agg] at hok hcmp ⊢;rw[Agg];obtain⟨hl,h2⟩:=hok;rw[List.length_map,Nat.mul_one] at hl;subst hl
 by_cases hl0:l=[]
 .subst hl0;refine (AnyF.slices_SortFunc_none {L with} A c _ w).mono ?_;rintro e w' ⟨rfl,rfl⟩;exact⟨rfl,⟨rfl,rfl,rfl,nL _,fun _ _ _=>rfl⟩,nL _,by rw[show Bf cf ([]:List β)=[] by simp[Bf]];exact⟨s_,h2⟩⟩
 .obtain⟨l',hl'⟩:∃l':List {x // p x},l=l'.map Subtype.val:=⟨l.attach.map fun x=>⟨x.1,hp x.1 x.2⟩,by simp only[List.map_map,Function.comp_def];exact (List.attach_map_subtype_val _).symm⟩;obtain⟨x0,hx0⟩:=List.exists_mem_of_ne_nil l hl0;have:Inhabited {x // p x}:=⟨⟨x0,hp x0 hx0⟩⟩;clear hx0;subst hl';rcases h2 with⟨hv,hz⟩|⟨g,cap,cur,hv,hbg,hh,h3,h4,h5,h6⟩
  .exact absurd (List.eq_nil_of_length_eq_zero hz) hl0
  .injection hv with e1 e2 e3
   subst e1;subst e3;unfold Ad2 at hcmp;unfold Ad1;rw[Aej,List.map_map,List.map_map];rw[List.map_map] at h6 hcmp;rw[List.length_map] at h3 h6 hb hcmp ⊢;rw[Nat.mul_one] at h5 h6;have hH:Holds (fun x:{x // p x}=>enc x.1) w g 0 l'.toArray:=Aq6 l' hh h6;have hcl:CmpLays1 P gf cb (fun x:{x // p x}=>enc x.1) (fun x y=>cf x.1 y.1) g 0 l'.toArray.size w:=fun q os dk hdk x y=>by
    have hr:=Ahj (enc:=fun x:{x // p x}=>enc x.1) (d:=l') (d':=dk) (n:=q) (os:=os) (sV hdk) hh h3 h4 h5;exact hcmp _ _ hr.1 hr.2 (Ab8 _ _ _ _ _ _ _) x.1 y.1 x.2 y.2
   have:=Any.slices_SortFunc_total L (fun x:{x // p x}=>enc x.1) (fun x=>h1 x.1) (fun x y=>cf x.1 y.1) hT.swo gf cb g 0 c l'.toArray w eg hcl hH (Dq hh) (by simp;omega) hT.one;rw[show l'.toArray.size=l'.length by simp] at this;refine this.mono ?_;rintro e w' ⟨rfl,n,os,rfl⟩;have hr:=Ahj (enc:=fun x:{x // p x}=>enc x.1) (d:=l') (d':=(Bf (fun x y:{x // p x}=>cf x.1 y.1) l').toArray) (n:=n) (os:=os) (by simp[Ct]) hh h3 h4 h5;exact⟨rfl,hr.2,Ab8 _ _ _ _ _ _ _,by simpa[Bf] using hr.1⟩
end
section
variable {P:Program}{n:Nat}{fr:lF}{L:LE}{dst:Option Tmp}{ty:TypeId}{pos:String}{after:AE}{guard:ON}
theorem Bbv{t m sz}{x:Operand}{g o:Nat}(hx:evo fr x=some (.pointer (some ⟨g,o,none⟩)))(ht:Api P t m sz)(hm:Nat.beq m 0=false):Ev P n ⟨dst,.slice t x none none none,ty,pos,after,guard⟩ fr L (.slice (some ⟨g,o,none⟩) m m):=fun a w ha _=>by
 obtain⟨e,hu,hs⟩:=ht;have hm':m≠0:=Nat.ne_of_beq_eq_false hm;simp[execOp,ha.eval hx,Instr.sliceAt,run_underlying hu,Instr.sureAddr,Instr.sliceBounds,hs,hm',Addr.add_lit]
end
theorem evA{G:Prop}(h:G:=by
 first
 |(with_reducible apply Ab1);exact rfl
 |(with_reducible apply Tw);exact rfl
 |(with_reducible apply Asi);exact rfl
 |(with_reducible apply Ahc);exact rfl
 |(with_reducible apply Aiy);exact rfl
 |(with_reducible apply Acv);exact rfl
 |(with_reducible apply Asz);exact rfl
 |(with_reducible apply Aqa) <;> exact rfl
 |(with_reducible apply Aqb) <;> exact rfl
 |(with_reducible apply Ba1) <;> exact rfl
 |(with_reducible apply Aed) <;> exact rfl
 |(with_reducible apply Aiw) <;> exact rfl
 |(with_reducible apply Aix) <;> exact rfl
 |(with_reducible apply Akk) <;> exact rfl
 |(with_reducible apply Ba6) <;> exact rfl
 |(with_reducible apply Ba5) <;> exact rfl
 |(with_reducible apply Ba3) <;> exact rfl
 |(with_reducible apply Ba2) <;> exact rfl
 |(with_reducible apply Ba4) <;> exact rfl
 |(with_reducible apply Ag6) <;> exact rfl
 |(with_reducible apply Ag9) <;> exact rfl
 |(with_reducible apply Ag7) <;> exact rfl
 |(with_reducible apply Aha) <;> exact rfl
 |(with_reducible apply Ag8) <;> exact rfl
 |(with_reducible apply Ahb) <;> exact rfl
 |(with_reducible apply Ag3) <;> exact rfl
 |(with_reducible apply Aiv) <;> exact rfl
 |(with_reducible apply Ag4) <;> exact rfl
 |(with_reducible apply Aug) <;> exact rfl
 |(with_reducible apply Auh) <;> exact rfl):G:=h
theorem Y{G G':Prop}(k:G')(h:G'->G:=by
 intro k
 first
 |(with_reducible apply Aw);exact k
 |(with_reducible apply Bau);exact k
 |(with_reducible apply Bef);exact k
 |(with_reducible apply Beg);exact k
 |(with_reducible apply Baw);exact k
 |(with_reducible apply Bax);exact k
 |(with_reducible apply Axf);exact k
 |(with_reducible apply Axe);exact k
 |(with_reducible apply Auc);exact k
 |(with_reducible apply Bdz);exact k
 |(with_reducible apply Bdy);exact k
 |(with_reducible apply Bav);exact k
 |(with_reducible apply Bay);exact k
 |(with_reducible apply Aql);exact k
 |(with_reducible apply Dg);exact evA;exact rfl;exact k
 |(with_reducible apply Aub);exact rfl;exact rfl;exact rfl;exact rfl;exact rfl;exact k
 |(with_reducible apply Ae4);exact rfl;exact rfl;exact rfl;exact evA;exact rfl;exact k
 |(with_reducible apply Aud);exact rfl;exact k
 |(with_reducible apply Aue);exact rfl;exact k
 |(with_reducible apply Asv);exact rfl;exact rfl;exact rfl;exact rfl;exact k
 |(with_reducible apply P_p);exact rfl;exact rfl;exact evA;exact rfl;exact k
 |(with_reducible apply Bew);exact rfl;exact rfl;exact rfl;exact rfl;exact rfl;exact rfl;exact k
 |(with_reducible apply P_pG);exact rfl;exact rfl;exact rfl;exact rfl;exact rfl;exact evA;exact rfl;exact k
 |(with_reducible apply Bbl);exact rfl;exact rfl;exact rfl;exact rfl;exact rfl;exact k):G:=h k
theorem Y2{G G':Prop}(k:G')(h:G'->G:=by
 intro k;iterate 2 refine Y ?_
 exact k):G:=h k
theorem Y3{G G':Prop}(k:G')(h:G'->G:=by
 intro k;iterate 3 refine Y ?_
 exact k):G:=h k
theorem Y4{G G':Prop}(k:G')(h:G'->G:=by
 intro k;iterate 4 refine Y ?_
 exact k):G:=h k
theorem Y5{G G':Prop}(k:G')(h:G'->G:=by
 intro k;iterate 5 refine Y ?_
 exact k):G:=h k
theorem Y6{G G':Prop}(k:G')(h:G'->G:=by
 intro k;iterate 6 refine Y ?_
 exact k):G:=h k
theorem Y7{G G':Prop}(k:G')(h:G'->G:=by
 intro k;iterate 7 refine Y ?_
 exact k):G:=h k
theorem Y8{G G':Prop}(k:G')(h:G'->G:=by
 intro k;iterate 8 refine Y ?_
 exact k):G:=h k
theorem Y9{G G':Prop}(k:G')(h:G'->G:=by
 intro k;iterate 9 refine Y ?_
 exact k):G:=h k
theorem Y10{G G':Prop}(k:G')(h:G'->G:=by
 intro k;iterate 10 refine Y ?_
 exact k):G:=h k
theorem Y11{G G':Prop}(k:G')(h:G'->G:=by
 intro k;iterate 11 refine Y ?_
 exact k):G:=h k
section
variable {P:Program}{n:Nat}{ops:Array Oper}{Q:Exit->AW}{fr:lF}{L:LE}{rest:List Oper}{N:AW}{d i i2 d2:Nat}{op:Op}{ty:TypeId}{pos:String}{after:AE}
theorem sb{e:Ent}(i:Nat)(h:nthE L i=some e:=by exact rfl):SubE [e] L:=SubE.cons2 (i:=i) h SubE.nil
def Ad3(ops:Array Oper):LL:=
 ops.toList.foldl (fun A o=>A++[o.after.toList.foldl (fun l e=>if Region.binds .any e then (if l.contains e.on then l else e.on::l)++(A.getD e.on []).filter (fun j=>!(l.contains j) && !(Nat.beq j e.on)) else l) []]) []
theorem T_dr{id:Nat}(cls:Cls)(p:Plan)(hm:P.follows .mixedOrders=true)(hd:Aae ops cls (Ad3 ops)=true)(hp:Hz ops cls p (Array.replicate ops.size false) none=true)(k:T n (Bi P ops Q cls (Ad3 ops) [] (fun _=>True) p) fr L):
  T n ((Code.region id ops true).wp P Q) fr L:=Beu cls (Ad3 ops) p hm hd hp k
theorem Mt{τ γ ρ:Type}{J:τ->Option ρ}{out:ρ}{I:τ->γ->List (Nat × Value)}{H:τ->γ->List Ent}{G:τ->γ->Prop}(s:τ)(g:γ)(hJ:J s=some out)(hG:G s g)(hH:Hh L (H s g))(hF:SubF (I s g) fr:=by repeat' first | exact SubF.nil | refine SubF.cons rfl ?_):
  T n (Exit.then (Met n J out I H G) Q .normal) fr L:=Aqp s g hJ hG hF hH
theorem Rp{σ τ γ:Type}{x:Sum σ τ}{I:σ->γ->List (Nat × Value)}{H:σ->γ->List Ent}{G:σ->γ->Prop}(s:σ)(g:γ)(hx:some (.inl s)=some x)(hG:G s g)(hH:Hh L (H s g))(hF:SubF (I s g) fr:=by repeat' first | exact SubF.nil | refine SubF.cons rfl ?_):
  T n (Exit.then (Rnd n x I H G) Q .normal) fr L:=Aiu s g hx hG hF hH
theorem Lp{σ τ γ:Type}{B:σ->Option (Sum σ τ)}{s0:σ}{t:τ}(hl:lfix B s0=some t)(I:σ->γ->List (Nat × Value))(H:σ->γ->List Ent)(G:σ->γ->Prop)(g0:γ)(hG:G s0 g0)(hH:Hh L (H s0 g0)){c:Code}(body:∀ s g,G s g->∀ x,B s=some x->(∀ t',x = .inr t'->t'=t)->T n (c.wp P (Exit.then (Rnd n x I H G) Q)) (I s g) (H s g))(hF:SubF (I s0 g0) fr:=by repeat' first | exact SubF.nil | refine SubF.cons rfl ?_):
  T n ((Code.loop c).wp P Q) fr L:=Amk hl I H G g0 hG hF hH body
theorem Ti{s:Nat}{p:Prop}[Decidable p]{ρ:Type}{x y r:Option ρ}(hx:(if p then x else y)=r)(hs:look fr s=some (.bool (decide p)))(ht:p->x=r->T n N ((s,.bool true)::fr) L)(hf:¬p->y=r->T n N ((s,.bool false)::fr) L):T n N fr L :=
 Ast hs (fun h=>ht h (Yv h hx)) (fun h=>hf h (Ag2 h hx))
theorem Tj{τ γ ρ:Type}{kk:τ->Option ρ}{xx:(τ->Option ρ)->Option ρ}{out:ρ}(hx:jn kk xx=some out)(I:τ->γ->lF)(H:τ->γ->LE)(G:τ->γ->Prop){x y:Code}(k2:∀s g,kk s=some out->G s g->T n (y.wp P Q) (I s g) (H s g))(k:∀j,xx j=some out->T n (x.wp P (Exit.then (Met n j out I H G) Q)) fr L):T n ((Code.seq x y).wp P Q) fr L :=
 Amj (J:=kk) I H G k2 (k kk hx)
theorem Tc{f:FuncId}{xs:List Operand}{vs:List Value}{ts:Array TypeId}{ty':TypeId}{X:Value}{Y:Prop}(hc:∀ w,Heap L w->CtL P f vs w fun v Ln=>v=X/\Ln=[]/\Y)(k:T n (wpList P ops Q rest) ((d,X)::fr) L)(hx:evos fr xs=some vs:=by exact rfl)(hd:Nat.blt d n=true:=by exact rfl):
  T n (wpList P ops Q (⟨some d,.call ⟨.value (.func f),xs.toArray,ts⟩,ty',pos,after,none⟩ :: rest)) fr L :=
 T_x (Ux hx hc hd (by rintro _ _ _ ⟨rfl,rfl,-⟩;exact k))
theorem Pc{cls:Cls}{A:LL}{RL:LM}{R:World->Prop}{p:Plan}{f:FuncId}{xs:List Operand}{vs:LV}{ts:Array TypeId}{ty':TypeId}{X:Value}{Y:Prop}(hc:∀w,Heap L w->CtL P f vs w fun v Ln=>v=X/\Ln=[]/\Y)(k:T n (Bi P ops Q cls A RL R p) ((d,X)::fr) L)(ho:ops[i]? = some ⟨some d,.call ⟨.value (.func f),xs.toArray,ts⟩,ty',pos,after,none⟩:=by exact rfl)(hx:evos fr xs=some vs:=by exact rfl)(hd:Nat.blt d n=true:=by exact rfl):T n (Bi P ops Q cls A RL R (.e i p .stop)) fr L :=
 P_x ho (Ux hx hc hd (by rintro _ _ _ ⟨rfl,rfl,-⟩;exact k)) Aag
theorem P_il{cls:Cls}{A0:List (List Nat)}{RL:List Nat}{R:World->Prop}{p:Plan}{α:Type}{KK:List Ent}{A m c sz}{enc:α->List Value}{l:List α}{z:Int}{x0:α}(h:Has KK A m c sz enc l)(hi:idx l z=some x0){t e ty' k}(ht:Po P t e sz)(hg:Zo P ty' k)(hK:SubE KK L){x ix:Operand}{kd:IntKind}{vs:List Value}{d1 d2:Nat}{ty1 ty2:TypeId}{pos1 pos2:String}{af1 af2:Array Edge}(kk:∀ b o,T n (Bi P ops Q cls A0 RL R p) ((d2,.agg vs.toArray)::(d1,.pointer (some ⟨b,o,none⟩))::fr) L)(hc1:Nat.beq (cls.getD i 9) 0=true:=by exact rfl)(ho1:ops[i]? = some ⟨some d1,.indexAddr t x ix,ty1,pos1,af1,none⟩:=by exact rfl)(hx:evo fr x=some (.slice A m c):=by exact rfl)(hix:evo fr ix=some (.int kd z):=by exact rfl)(hd1:Nat.blt d1 n=true:=by exact rfl)(hc2:Nat.beq (cls.getD i2 9) 0=false:=by exact rfl)(ho2:ops[i2]? = some ⟨some d2,.load ty' (.tmp d1),ty2,pos2,af2,none⟩:=by exact rfl)(hv:Aca (enc x0) 0 k=some vs:=by exact rfl)(hd2:Nat.blt d2 n=true:=by exact rfl)(hr:RL.contains i2=false:=by rfl):
  T n (Bi P ops Q cls A0 RL R (.q i (.q i2 p))) fr L:=by
 obtain⟨b,o,j,hA,hj,hl,hp⟩:=h.at_idx hi;refine P_p hc1 ho1 (Uv hx hix hA (j:=j) hj hl ht) hd1 ?_;exact P_q hc2 ho2 (Ab2 (by simp[evo,look]) hp hK hv hg) hd2 (kk _ _) hr
end
section
variable {P:Program}{n:Nat}{Q:Exit->AW}{fr:lF}{L:LE}{N:AW}
theorem Ave{α:Type}(enc:α->List Value)(x0:α){d:Nat}{t e x y k1 k2 i1 i2 i z sz}{ty:TypeId}{pos:String}{after:Array Edge}{guard:Option (Nat × Bool)}(hx:evo fr x=some (.int k1 i1))(hy:evo fr y=some (.int k2 i2))(h1:i1=0)(hp:0<=i2)(ht:P.underlying t=some (.slice e))(hi:P.info? e=some i)(hz:i.zero=some z)(hzc:enc x0=z.cells.toList)(hs:i.size=sz)(hsz:0<sz)(he:∀ x,(enc x).length=sz)(hb:i.bytes*i2.toNat<=140737488355328)(hb0:0<i.bytes)(hd:Nat.blt d n=true)(k:∀ A c,T n N ((d,.slice A 0 c)::fr) (.r A 0 c e sz []::L)):
  Wx P Q n ⟨some d,.makeSlice t x y,ty,pos,after,guard⟩ fr L N:=by
 subst h1;have h2:=Nat.mul_le_mul_right i2.toNat hb0;rw[Nat.succ_mul,Nat.zero_mul,Nat.zero_add] at h2;intro a w ha hw;have hb':(i.bytes:Int)*i2<=281474976710656:=by
  have h:((i.bytes*i2.toNat:Nat):Int)<=281474976710656:=oo;rw[Int.natCast_mul,Int.toNat_of_nonneg oo] at h;exact h
 have hr:=run_make (P:=P) w t e i z ht hi hz k1 k2 0 i2 (Int.le_refl _) hp hb' oo;rw[hs,Acg x0 hsz he hzc] at hr;have hlen:((List.replicate i2.toNat x0).flatMap enc).length=i2.toNat*sz:=by rw[Nw he,List.length_replicate]
 have hrun:(execOp a.eval ⟨some d,.makeSlice t x y,ty,pos,after,guard⟩).run P w=.ok (.value (.slice (some ⟨w.heap.size,0,none⟩) 0 i2.toNat)) (w.alloc (.cells ((List.replicate i2.toNat x0).flatMap enc).toArray e)):=by
  simp[execOp,ha.eval hx,ha.eval hy,hr]
 simp only[Oper.wp,hrun,Oper.upon_value];refine⟨Xb w _,k _ _ _ _ (ha.put hd) ?_⟩;have h':=hw.allocR e sz i2.toNat ((List.replicate i2.toNat x0).flatMap enc) hlen (by unfold maxLen;omega);refine⟨fun x hx=>?_,?_⟩
 .rcases List.mem_cons.1 hx with rfl|hx
  .exact⟨s_,.inr ⟨w.heap.size,i2.toNat,((List.replicate i2.toNat x0).flatMap enc).toArray,rfl,Nat.zero_le _,heap_alloc_new w _,Nat.zero_le _,by unfold maxLen;omega,by simp only[List.size_toArray];exact hlen,s_⟩⟩
  .exact h'.ok x (mO _ hx)
 .have hp:=h'.sep;rw[List.pairwise_cons] at hp⊢;exact⟨fun x hx=>hp.1 x hx,hp.2⟩
end
section
variable {P:Program}{n:Nat}{Q:Exit->AW}{fr:lF}{L:LE}{c:Code}{m:Nat}
theorem Bgr(m:Nat)(k:T n (Code.rounds P c Q m) fr L):T n ((Code.loop c).wp P Q) fr L:=fun a w ha hw=>wp_loop_rounds m (k a w ha hw)
theorem Be5(k:T n (c.wp P (Exit.then (Code.rounds P c Q m) Q)) fr L):T n (Code.rounds P c Q (m+1)) fr L:=k
end
section
variable {P:Program}{n:Nat}{dst:Option Tmp}{t t' ty:TypeId}{x y:Operand}{pos:String}{after:AE}{guard:ON}{fr:lF}{L:LE}{a b c:Int}
theorem Bbw(hx:evo fr x=some (iq a))(hy:evo fr y=some (iq b))(h:w64 (a+b)=c):Ev P n ⟨dst,.binOp .add t x y t',ty,pos,after,guard⟩ fr L (iq c):=h▸Aed hx hy
theorem Bbx{k:IntKind}{z:Operand}{a b c:Int}{ts}(hx:evo fr x=some (.int k a))(hy:evo fr y=some (.int k b))(hz:evo fr z=some (.int k c)):
  Ev P n ⟨dst,.call ⟨.builtin .min,#[x,y,z],ts⟩,ty,pos,after,guard⟩ fr L (.int k (min (min a b) c)):=fun ac w ha _=>by
 have e:∀a b:Int,(if b<a then b else a)=min a b:=fun a b=>by rw[Int.min_def];split <;> split <;> omega
 simp[execOp,resolve,invoke,builtin,ha.eval hx,ha.eval hy,ha.eval hz,Builtin.min_,Builtin.min2,e]
theorem Bby{k:IntKind}{z:Operand}{a b c:Int}{ts}(hx:evo fr x=some (.int k a))(hy:evo fr y=some (.int k b))(hz:evo fr z=some (.int k c)):
  Ev P n ⟨dst,.call ⟨.builtin .max,#[x,y,z],ts⟩,ty,pos,after,guard⟩ fr L (.int k (max (max a b) c)):=fun ac w ha _=>by
 have e:∀a b:Int,(if b > a then b else a)=max a b:=fun a b=>by rw[Int.max_def];split <;> split <;> omega
 simp[execOp,resolve,invoke,builtin,ha.eval hx,ha.eval hy,ha.eval hz,Builtin.max_,Builtin.max2,e]
theorem Aov{b:ByteArray}{ys:List Int}{k:IntKind}{z v:Int}(hx:evo fr x=some (.string b))(hi:evo fr y=some (.int k z))(ht:P.underlying t=some .string)(hb:b.data.toList.map (fun u=>((u.toNat:Nat):Int))=ys)(hz:idx ys z=some v):
  Ev P n ⟨dst,.index t x y,ty,pos,after,guard⟩ fr L (.int .u8 v):=fun ac w ha _=>by
 subst hb;obtain⟨j,hj,rfl,he⟩:=Acd hz;have hj':j<b.size:=by simpa using hj
 have hr:=run_index_string (P:=P) w t b k (j:Int) ht;rw[dif_pos ⟨oo,oo⟩] at hr;simp only[List.getElem_map] at he;have e2:(((b[((j:Nat):Int).toNat]'(sV hj')).toNat:Nat):Int)=v:=by rw[<-he];rfl
 rw[e2] at hr;simp only[execOp,ha.eval hx,ha.eval hi,hr,Sem.run_bind,Result.andThen];rfl
theorem Ayk{f:FuncId}{xs:List Operand}{vs:LV}{ts:Array TypeId}{v:Value}(hx:evos fr xs=some vs)(h:∀w,(callFunc f vs.toArray).run P w=.ok (.value v) w):Ev P n ⟨dst,.call ⟨.value (.func f),xs.toArray,ts⟩,ty,pos,after,guard⟩ fr L v:=fun ac w ha _=>by
 have:=ha.evals hx;simp[execOp,resolve,Deferred.ofValue,invoke,Act.eval,this,h]
end
class Ajg(a b:Int)(c:outParam Int):Prop where
 h:w64 (a+b)=c
class Ayl(a b:Int)(c:outParam Int):Prop where
 h:Int.tmod a b=c
 nz:b≠0
instance:Ajg 0 1 1:=⟨dD⟩
instance:Ajg 1 1 2:=⟨dD⟩
instance:Ajg 2 1 3:=⟨dD⟩
instance:Ajg 3 1 4:=⟨dD⟩
instance:Ajg 4 1 5:=⟨dD⟩
instance:Ajg 5 1 6:=⟨dD⟩
instance:Ayl 1 3 1:=⟨dD,dD⟩
instance:Ayl 2 3 2:=⟨dD,dD⟩
instance:Ayl 3 3 0:=⟨dD,dD⟩
class ExtI(P:Program)(f:FuncId)(vs:LV)(G:outParam Prop)(v:outParam Value):Prop where
 h:G->∀w,(callFunc f vs.toArray).run P w=.ok (.value v) w
structure Ea where
 i:Nat
 d:Nat
 g:Nat
 t:TypeId
 cs:LV
def Ea.e(x:Ea):Ent:=.m x.g x.t x.cs
def AlAt(P:Program)(ops:Array Oper)(n i d:Nat)(t:TypeId)(cs:LV):Prop :=
 (∃ty pos after,ops[i]? = some ⟨some d,.alloc t,ty,pos,after,none⟩)/\Xw P t cs/\Nat.blt d n=true
theorem Xw.one{P:Program}{t:TypeId}{cs cs':LV}(h:Xw P t cs)(h':Xw P t cs')(w:World):cs=cs':=by
 obtain⟨z,h1,h2⟩:=h;obtain⟨z',h1',h2'⟩:=h';have:=(h1 w).symm.trans (h1' w);injection this with this
 subst this;exact List.toArray_inj (h2.symm.trans h2')
theorem AlAt.one{P:Program}{ops:Array Oper}{n i d d':Nat}{t t':TypeId}{cs cs':LV}(h:AlAt P ops n i d t cs)(h':AlAt P ops n i d' t' cs')(w:World):d=d'/\t=t'/\cs=cs':=by
 obtain⟨⟨_,_,_,h1⟩,h2,_⟩:=h;obtain⟨⟨_,_,_,h1'⟩,h2',_⟩:=h';have:=h1.symm.trans h1';injection this with this
 injection this with e1 e2
 injection e1 with e1
 injection e2 with e2
 subst e1;subst e2;exact⟨rfl,rfl,h2.one h2' w⟩
def Ad4(cls:Cls)(m:Nat):LM:=(List.range m).filter fun i=>Nat.beq (cls.getD i 9) 4
def Ahk(D:Array Bool)(l:LM):Array Bool:=l.foldl (fun D i=>D.setIfInBounds i true) D
def Ahl:LM->Nat->Bool
 |[j],i=>Nat.beq j i
 |_,_=>false
def Ad5(ops:Array Oper)(cls:Cls)(fs:LM):LM->Array Bool->Bool
 |[],D=>(Region.ready .any ops D).isEmpty
 |i::r,D=>(Region.ready .any ops D).contains i&&Ad5 ops cls fs r (D.setIfInBounds i true) &&
  (if Nat.beq (cls.getD i 9) 4 then Ahl (Region.ready .any ops (Ahk D (fs.erase i))) i
  else if Nat.ble (cls.getD i 9) 1 then true
  else if Nat.beq (cls.getD i 9) 2 then Ahl (Region.ready .any ops (Ahk D fs)) i
  else Nat.beq (cls.getD i 9) 3&&Ahl (Region.ready .any ops D) i&&fs.all (fun x=>D.getD x false))
def Aq8(ops:Array Oper)(cls:Cls)(A:LL)(fs:LM):Bool:=Nat.ble cls.length ops.size &&
 fs.all fun i=>(A.getD i []).isEmpty&&(opAt ops i).after.all (fun e=>!Region.binds .any e)
section
variable {P:Program}{ops:Array Oper}{Q:Exit->AW}{cls:Cls}{A:LL}{n:Nat}
def PB(P:Program)(ops:Array Oper)(Q:Exit->AW)(cls:Cls)(n:Nat):LM->lF->LE->Prop
 |[],fr,L=>T n (Q .normal) fr L
 |i::r,fr,L=>
  if Nat.beq (cls.getD i 9) 4 then ∀d t cs,AlAt P ops n i d t cs->∀g,PB P ops Q cls n r ((d,.pointer (some ⟨g,0,none⟩))::fr) (.m g t cs::L)
  else if Nat.ble (cls.getD i 9) 1 then ∀F a w,(∀e∈F,e.low=0)->Fr n fr a->Heap (F++L) w ->
   if Nat.beq (cls.getD i 9) 0 then Axa P ops i (fun a' _=>∃fr',Fr n fr' a'/\PB P ops Q cls n r fr' L) a w else Aw9 P ops i (fun a' _=>∃fr',Fr n fr' a'/\PB P ops Q cls n r fr' L) a w
  else if Nat.beq (cls.getD i 9) 2 then ∀F a w,(∀e∈F,e.low=0)->Fr n fr a->Heap (F++L) w->Aip P ops (fun _=>True) false true i (fun a' w'=>∃fr' L',Fr n fr' a'/\Heap (F++L') w'/\PB P ops Q cls n r fr' L') a w
  else ∀a w,Fr n fr a->Heap L w->Aip P ops (fun _=>True) true true i (fun a' w'=>∃fr' L',Fr n fr' a'/\Heap L' w'/\PB P ops Q cls n r fr' L') a w
theorem Aow{l:LM}:∀{D:Array Bool} {j:Nat},(∀i∈l,i<D.size)->(On (Ahk D l) j↔j∈l\/On D j):=by
 induction l with
 |nil=>intro D j _;simp[Ahk]
 |cons x r ih=>
  intro D j h;have h1:∀i∈r,i<(D.setIfInBounds x true).size:=fun i hi=>by simpa using h i (mO _ hi)
  have:=ih (D:=D.setIfInBounds x true) (j:=j) h1;rw[Ey (h x mS)] at this;show On (Ahk (D.setIfInBounds x true) r) j↔_;rw[this,List.mem_cons];constructor
  .rintro (h|h|h)
   .exact .inl (.inr h)
   .exact .inl (.inl h)
   .exact .inr h
  .rintro ((h|h)|h)
   .exact .inr (.inl h)
   .exact .inl h
   .exact .inr (.inr h)
theorem Aq9{l:LM}:∀{D:Array Bool},(Ahk D l).size=D.size:=by
 induction l with
 |nil=>intro D;rfl
 |cons x r ih=>intro D;show (Ahk (D.setIfInBounds x true) r).size=_;rw[ih];simp
theorem Avf{l:LM}{i j:Nat}(h:Ahl l i=true)(hj:j∈l):j=i:=by
 cases l with
 |nil=>simp[Ahl] at h
 |cons x r=>cases r with
  |nil=>simp only[Ahl] at h;rw[List.mem_singleton.1 hj];exact Nat.eq_of_beq_eq_true h
  |cons y r=>simp[Ahl] at h
structure Sim2(P:Program)(ops:Array Oper)(cls:Cls)(n:Nat)(D Dc:Array Bool)(F:List Ea)(a ac:Act)(w:World):Prop where
 ex:∃E b,Sim P ops cls [] (fun _=>True) E Dc b ac w/\(∀i,On D i↔On E i\/∃x∈F,x.i=i)/\a.tmps.size=b.tmps.size/\a.defers=b.defers /\
  (∀t,(∀x∈F,x.d≠t)->a.tmps[t]? = b.tmps[t]?)
 sD:D.size=ops.size
 val:∀x∈F,a.tmps[x.d]? = some (.pointer (some ⟨x.g,0,none⟩))
 al:∀x∈F,AlAt P ops n x.i x.d x.t x.cs/\cls.getD x.i 9=4/\¬On Dc x.i
 ne:F.Pairwise fun x y=>x.i≠y.i
theorem AlAt.lt{i d:Nat}{t:TypeId}{cs:LV}(h:AlAt P ops n i d t cs):i<ops.size:=by
 obtain⟨⟨_,_,_,h⟩,_⟩:=h;exact (Array.getElem?_eq_some_iff.1 h).1
theorem AlAt.dst{i d:Nat}{t:TypeId}{cs:LV}(h:AlAt P ops n i d t cs):(opAt ops i).dst=some d:=by
 obtain⟨⟨_,_,_,h⟩,_⟩:=h;rw[Zr h]
theorem far4(F:Cr ops cls A []){i d:Nat}{t:TypeId}{cs:LV}(h:AlAt P ops n i d t cs)(h0:A.getD i []=[]){j:Nat}(hj:j<ops.size)(hne:j≠i)(hn:Acb ops (opAt ops j) d=true):i∈A.getD j []:=by
 rcases F.slots i h.lt d h.dst j hj hne hn with h|⟨_,h⟩
 .exact h
 .rw[h0] at h;simp at h
theorem Sim2.down{D Dc:Array Bool}{Fl:List Ea}{a ac:Act}{w:World}(S:Sim2 P ops cls n D Dc Fl a ac w)(F:Cr ops cls A [])(h0:∀ i,cls.getD i 9=4->A.getD i []=[]){E:Array Bool}{b:Act}(S0:Sim P ops cls [] (fun _=>True) E Dc b ac w)(hD:∀ i,On D i↔On E i\/∃ x∈Fl,x.i=i){j:Nat}(hr:j∈Region.ready .any ops D)(hc:On Dc j\/j∈Region.ready .any ops Dc):
  j∈Region.ready .any ops E/\∀x∈Fl,j≠x.i/\Acb ops (opAt ops j) x.d=false:=by
 obtain⟨hj,hn,hdep⟩:=(Bm S.sD).1 hr;have hdc:∀e∈(opAt ops j).after,Region.binds .any e=true->On Dc e.on:=by
  rcases hc with h|h
  .exact S0.cDc j hj h
  .exact ((Bm S0.sDc).1 h).2.2
 have hE:∀e∈(opAt ops j).after,Region.binds .any e=true->On E e.on:=by
  intro e he hb;rcases (hD _).1 (hdep e he hb) with h|⟨x,hx,h⟩
  .exact h
  .exact absurd (h▸hdc e he hb) (S.al x hx).2.2
 refine⟨(Bm S0.sD).2 ⟨hj,fun h=>hn ((hD j).2 (.inl h)),hE⟩,fun x hx=>?_⟩;have hne:j≠x.i:=fun e=>hn ((hD j).2 (.inr ⟨x,hx,e.symm⟩))
 refine⟨hne,?_⟩;cases hnm:Acb ops (opAt ops j) x.d with
 |false=>rfl
 |true=>
  have h:=far4 F (S.al x hx).1 (h0 _ (S.al x hx).2.1) hj hne hnm;exact absurd (S0.sub _ (Aiq F S0.cD j hj hE _ h)) (S.al x hx).2.2
theorem Sim2.ahead(F:Cr ops cls A []){D Dc:Array Bool}{Fl:List Ea}{a ac:Act}{w:World}(S:Sim2 P ops cls n D Dc Fl a ac w){i:Nat}(hr:i∈Region.ready .any ops Dc)(hc:cls.getD i 9<=1){v:Value}(hv:(Region.wanted (opAt ops i) (yielded ops ac.tmps)=true/\(∀ w',Ag1 (cls.getD i 9) false (fun _=>True) w w'->(execOp ac.eval (opAt ops i)).run P w' = .ok (.value v) w'))\/(Region.wanted (opAt ops i) (yielded ops ac.tmps)=false/\v=undef)):
  Sim2 P ops cls n D (Dc.setIfInBounds i true) Fl a (ac.put (opAt ops i).dst v) w:=by
 obtain⟨E,b,S0,hD,h1,h2,h3⟩:=S.ex;have hi:=((Bm S0.sDc).1 hr).1;refine⟨⟨E,b,S0.ahead F hr hc hv,hD,h1,h2,h3⟩,S.sD,S.val,fun x hx=>⟨(S.al x hx).1,(S.al x hx).2.1,fun h=>?_⟩,S.ne⟩;rcases (Ey (by rw[S0.sDc];exact hi)).1 h with h|h
 .have:=(S.al x hx).2.1;rw[h] at this;omega
 .exact (S.al x hx).2.2 h
theorem Alj{a b:Act}{d:Option Tmp}{v:Value}{t:Nat}(hs:a.tmps.size=b.tmps.size)(h:d≠some t->a.tmps[t]? = b.tmps[t]?):(a.put d v).tmps[t]? = (b.put d v).tmps[t]?:=by
 by_cases hd:d=some t
 .subst hd
  by_cases hlt:t<a.tmps.size
  .rw[Vr hlt,Vr oo]
  .rw[Array.getElem?_eq_none (by rw[Gj];omega),Array.getElem?_eq_none (by rw[Gj];omega)]
 .rw[Gz hd,Gz hd,h hd]
theorem Sim2.catchUp{D Dc:Array Bool}{Fl:List Ea}{a ac:Act}{w:World}(S:Sim2 P ops cls n D Dc Fl a ac w)(F:Cr ops cls A [])(h0:∀i,cls.getD i 9=4->A.getD i []=[]){i:Nat}(hr:i∈Region.ready .any ops D)(hon:On Dc i){K:AW}(k:∀a',Sim2 P ops cls n (D.setIfInBounds i true) Dc Fl a' ac w->K a' w):wpOp P ops Q i K a w:=by
 obtain⟨E,b,S0,hD,e1,e2,e3⟩:=S.ex;obtain⟨hi,hn,hdep⟩:=(Bm S.sD).1 hr;obtain⟨hrE,hfar⟩:=S.down F h0 S0 hD hr (.inl hon);obtain⟨hl,v,hv,hS⟩:=S0.late F hrE hon;have hl':∀t∈(opAt ops i).looksAt ops,a.tmps[t]? = ac.tmps[t]?:=fun t ht=>by
  rw[<-hl t ht];refine e3 t fun x hx e=>?_
  have:=(hfar x hx).2;rw[e,Wm ht] at this;cases this
 obtain⟨h1,h2⟩:=Yn F.sel (Zs hi) hl';have hdx:∀x∈Fl,(opAt ops i).dst≠some x.d:=fun x hx h=>by
  have:=(hfar x hx).2;rw[Aau h] at this;cases this
 have hiD:i<D.size:=by rw[S.sD];exact hi
 have hiE:i<E.size:=by rw[S0.sD];exact hi
 have next:Sim2 P ops cls n (D.setIfInBounds i true) Dc Fl (a.put (opAt ops i).dst v) ac w:=by
  refine⟨⟨_,_,hS,fun j=>?_,by rw[Gj,Gj];exact e1,by rw[Ow,Ow];exact e2,fun t ht=>Alj e1 fun _=>e3 t ht⟩,by simp[S.sD],fun x hx=>by rw[Gz (hdx x hx)];exact S.val x hx,S.al,S.ne⟩;rw[Ey hiD,Ey hiE,hD];constructor
  .rintro (h|h|h)
   .exact .inl (.inl h)
   .exact .inl (.inr h)
   .exact .inr h
  .rintro ((h|h)|h)
   .exact .inl h
   .exact .inr (.inl h)
   .exact .inr (.inr h)
 unfold wpOp;rw[Zs hi];dsimp only;rcases hv with⟨hwn,hv⟩|⟨hwn,rfl⟩
 .rw[iP (by rw[h2];exact hwn)];left;simp only[Oper.wp,h1,hv,Oper.upon_value];exact k _ next
 .rw[iN (by rw[h2,hwn];simp)];exact k _ next
theorem Sim2.both{D Dc:Array Bool}{Fl:List Ea}{a ac:Act}{w:World}(S:Sim2 P ops cls n D Dc Fl a ac w)(F:Cr ops cls A [])(h0:∀i,cls.getD i 9=4->A.getD i []=[]){i:Nat}(hr:i∈Region.ready .any ops D)(hrc:i∈Region.ready .any ops Dc){hard:Bool}(hh:hard=true->cls.getD i 0=3){N K:AW}(he:Aip P ops (fun _=>True) hard true i N ac w)(k:∀a' ac' w',Sim2 P ops cls n (D.setIfInBounds i true) (Dc.setIfInBounds i true) Fl a' ac' w'->N ac' w'->K a' w'):wpOp P ops Q i K a w:=by
 obtain⟨E,b,S0,hD,e1,e2,e3⟩:=S.ex;obtain⟨hi,hn,hdep⟩:=(Bm S.sD).1 hr;obtain⟨_,hnc,_⟩:=(Bm S0.sDc).1 hrc;obtain⟨hrE,hfar⟩:=S.down F h0 S0 hD hr (.inr hrc);obtain⟨hl,hS⟩:=S0.step F hrE hnc (hard:=hard) hh (lst:=true) (fun _ j hj=>by simp at hj);have hl':∀t∈(opAt ops i).looksAt ops,a.tmps[t]? = ac.tmps[t]?:=fun t ht=>by
  rw[<-hl t ht];refine e3 t fun x hx e=>?_
  have:=(hfar x hx).2;rw[e,Wm ht] at this;cases this
 obtain⟨h1,h2⟩:=Yn F.sel (Zs hi) hl';have hdx:∀x∈Fl,(opAt ops i).dst≠some x.d:=fun x hx h=>by
  have:=(hfar x hx).2;rw[Aau h] at this;cases this
 have hiD:i<D.size:=by rw[S.sD];exact hi
 have hiE:i<E.size:=by rw[S0.sD];exact hi
 have hiDc:i<Dc.size:=by rw[S0.sDc];exact hi
 have next:∀ds v w',(Ext w w'\/hard=true)->Sim2 P ops cls n (D.setIfInBounds i true) (Dc.setIfInBounds i true) Fl ({a with defers:=ds}.put (opAt ops i).dst v) ({ac with defers:=ds}.put (opAt ops i).dst v) w':=by
  intro ds v w' hx;refine⟨⟨_,_,hS ds v w' (hx.imp id fun h=>⟨h,.inl rfl⟩),fun j=>?_,by rw[Gj,Gj];exact e1,by rw[Ow,Ow],fun t ht=>Alj e1 fun _=>e3 t ht⟩,by simp[S.sD],fun x hx=>by rw[Gz (hdx x hx)];exact S.val x hx,fun x hx=>⟨(S.al x hx).1,(S.al x hx).2.1,fun h=>?_⟩,S.ne⟩
  .rw[Ey hiD,Ey hiE,hD];constructor
   .rintro (h|h|h)
    .exact .inl (.inl h)
    .exact .inl (.inr h)
    .exact .inr h
   .rintro ((h|h)|h)
    .exact .inl h
    .exact .inr (.inl h)
    .exact .inr (.inr h)
  .rcases (Ey hiDc).1 h with h|h
   .exact (hfar x hx).1 h.symm
   .exact (S.al x hx).2.2 h
 obtain⟨o,ho,he⟩:=he;have hoa:=Zr ho;unfold wpOp;rw[ho];dsimp only;rw[hoa] at h1 h2;rcases he with⟨hwn,he⟩|⟨hwn,he⟩
 .rw[iP (by rw[h2];exact hwn)];left;unfold Oper.wp at he⊢;rw[h1];refine Ak6 (e2.trans S0.nod) (fun ds v w' hh'=>?_) he;have:=next ds v w' (hh'.1.imp id fun h=>h.1);rw[hoa] at this;exact k _ _ _ this hh'.2
 .rw[iN (by rw[h2,hwn];simp)];have:=next ac.defers undef w (.inl (Ext.refl w));rw[hoa] at this;rw[show ({a with defers:=ac.defers}:Act)=a from by rw[<-S0.nod,<-e2]] at this;exact k _ _ _ this he
theorem Sim.extW{D Dc:Array Bool}{a ac:Act}{w w':World}(F:Cr ops cls A [])(S:Sim P ops cls [] (fun _=>True) D Dc a ac w)(hx:Ext w w'):Sim P ops cls [] (fun _=>True) D Dc a ac w' :=
 ⟨.inr trivial,S.extR,S.sD,S.sDc,S.cD,S.cDc,S.sub,S.cl,S.size,S.nod,S.agree,fun j hj h1 h2=>Pend.turn F hj rfl (S.pend j hj h1 h2) (fun _ _=>rfl) (fun _ _=>rfl) (.inr (.inr hx))⟩
theorem Sim2.early{D Dc:Array Bool}{Fl:List Ea}{a ac:Act}{w:World}(S:Sim2 P ops cls n D Dc Fl a ac w)(F:Cr ops cls A [])(h0:∀i,cls.getD i 9=4->A.getD i []=[]){i d:Nat}{t:TypeId}{cs:LV}(hr:i∈Region.ready .any ops D)(ha:AlAt P ops n i d t cs)(h4:cls.getD i 9=4)(hn:ac.tmps.size=n){K:AW}(k:∀a' g w',Sim2 P ops cls n (D.setIfInBounds i true) Dc (⟨i,d,g,t,cs⟩ :: Fl) a' ac w'->(∀L,Heap L w->Heap (.m g t cs::L) w')->K a' w'):wpOp P ops Q i K a w:=by
 obtain⟨E,b,S0,hD,e1,e2,e3⟩:=S.ex;obtain⟨hi,hnD,hdep⟩:=(Bm S.sD).1 hr;have hiD:i<D.size:=by rw[S.sD];exact hi
 have hnc:¬On Dc i:=fun h=>by
  have:=S0.cl i h (fun h'=>hnD ((hD i).2 (.inl h')));omega
 have hdx:∀x∈Fl,x.i≠i/\x.d≠d:=fun x hx=>by
  have hne:x.i≠i:=fun e=>hnD ((hD i).2 (.inr ⟨x,hx,e⟩))
  refine⟨hne,fun e=>?_⟩;have:=far4 F (S.al x hx).1 (h0 _ (S.al x hx).2.1) hi hne.symm (Aau (by rw[ha.dst,e]));rw[h0 i h4] at this;simp at this
 have hds:d<a.tmps.size:=by
  have:=ha.2.2;rw[e1,S0.size,hn];simpa using this
 obtain⟨⟨ty,pos,after,ho⟩,⟨z,hz1,hz2⟩,hdn⟩:=id ha;unfold wpOp;rw[ho];dsimp only;rw[iP (by rfl)];left;have hrun:(execOp a.eval ⟨some d,.alloc t,ty,pos,after,none⟩).run P w=.ok (.value (.pointer (some ⟨w.heap.size,0,none⟩))) (w.alloc (.cells cs.toArray t)):=by
  simp[execOp,Instr.alloc,hz1,newVar,newRow,hz2]
 simp only[Oper.wp,hrun,Oper.upon_value];have hext:Ext w (w.alloc (.cells cs.toArray t)):=((Heap.alloc (L:=[.old w]) ⟨fun e he=>by rw[List.mem_singleton.1 he];exact Ext.refl w,s_⟩ t cs).ok (.old w) s_);refine k _ w.heap.size _ ⟨⟨E,b,S0.extW F hext,fun j=>?_,by rw[Gj];exact e1,by rw[Ow];exact e2,fun t' ht=>?_⟩,by simp[S.sD],fun x hx=>?_,fun x hx=>?_,List.pairwise_cons.2 ⟨fun x hx=>(hdx x hx).1.symm,S.ne⟩⟩ fun L hL=>hL.alloc t cs
 .rw[Ey hiD,hD];constructor
  .rintro (h|h|⟨x,hx,h⟩)
   .exact .inr ⟨_,mS,h.symm⟩
   .exact .inl h
   .exact .inr ⟨x,mO _ hx,h⟩
  .rintro (h|⟨x,hx,h⟩)
   .exact .inr (.inl h)
   .rcases List.mem_cons.1 hx with rfl|hx
    .exact .inl h.symm
    .exact .inr (.inr ⟨x,hx,h⟩)
 .rw[Gz (by intro e;injection e with e;exact ht _ mS e)];exact e3 t' fun x hx=>ht x (mO _ hx)
 .rcases List.mem_cons.1 hx with rfl|hx
  .exact Vr hds
  .rw[Gz (by intro e;injection e with e;exact (hdx x hx).2 e.symm)];exact S.val x hx
 .rcases List.mem_cons.1 hx with rfl|hx
  .exact⟨ha,h4,hnc⟩
  .exact S.al x hx
theorem Sim2.takes{D Dc:Array Bool}{F1 F2:List Ea}{x:Ea}{a ac:Act}{w:World}(S:Sim2 P ops cls n D Dc (F1++x::F2) a ac w)(F:Cr ops cls A [])(hb4:∀ i,cls.getD i 9=4->∀ e∈(opAt ops i).after,Region.binds .any e=true->False):
  Sim2 P ops cls n D (Dc.setIfInBounds x.i true) (F1++F2) a (ac.put (some x.d) (.pointer (some ⟨x.g,0,none⟩))) w:=by
 obtain⟨E,b,S0,hD,e1,e2,e3⟩:=S.ex;have hxm:x∈F1++x::F2:=s_;obtain⟨hal,h4,hnc⟩:=S.al x hxm;have hi:=hal.lt;have hiE:x.i<E.size:=by rw[S0.sD];exact hi
 have hiDc:x.i<Dc.size:=by rw[S0.sDc];exact hi
 have hsub:∀y∈F1++F2,y∈F1++x::F2:=fun y hy=>by
  rcases List.mem_append.1 hy with h|h
  .exact List.mem_append_left _ h
  .exact List.mem_append_right _ (mO _ h)
 have hp:(x::(F1++F2)).Pairwise fun x y=>x.i≠y.i:=(List.perm_middle (a:=x) (l₁:=F1) (l₂:=F2)).pairwise_iff (fun h=>h.symm) |>.1 S.ne
 obtain⟨hp1,hp2⟩:=List.pairwise_cons.1 hp;have hbind:∀e∈(opAt ops x.i).after,Region.binds .any e=true->On E e.on:=fun e he hb=>(hb4 _ h4 e he hb).elim
 have hrE:x.i∈Region.ready .any ops E:=(Bm S0.sD).2 ⟨hi,fun h=>hnc (S0.sub _ h),hbind⟩;obtain⟨_,hS⟩:=S0.step F hrE hnc (hard:=false) (fun h=>by cases h) (lst:=true) (fun _ j hj=>by simp at hj);have hS:=hS ac.defers (.pointer (some ⟨x.g,0,none⟩)) w (.inl (Ext.refl w));rw[hal.dst,show ({b with defers:=ac.defers}:Act)=b from by rw[<-S0.nod]] at hS;refine⟨⟨_,_,hS,fun j=>?_,by rw[Gj];exact e1,by rw[Ow];exact e2,fun t ht=>?_⟩,S.sD,fun y hy=>S.val y (hsub y hy),fun y hy=>⟨(S.al y (hsub y hy)).1,(S.al y (hsub y hy)).2.1,fun h=>?_⟩,hp2⟩
 .rw[hD,Ey hiE];constructor
  .rintro (h|⟨y,hy,h⟩)
   .exact .inl (.inr h)
   .rcases List.mem_append.1 hy with hy|hy
    .exact .inr ⟨y,List.mem_append_left _ hy,h⟩
    .rcases List.mem_cons.1 hy with rfl|hy
     .exact .inl (.inl h.symm)
     .exact .inr ⟨y,List.mem_append_right _ hy,h⟩
  .rintro ((h|h)|⟨y,hy,h⟩)
   .exact .inr ⟨x,hxm,h.symm⟩
   .exact .inl h
   .exact .inr ⟨y,hsub y hy,h⟩
 .by_cases hd:x.d=t
  .subst hd;rw[S.val x hxm,Vr];have:=(Array.getElem?_eq_some_iff.1 (S.val x hxm)).1;omega
  .rw[Gz (by intro e;injection e with e;exact hd e)];refine e3 t fun y hy=>?_
   rcases List.mem_append.1 hy with hy|hy
   .exact ht y (List.mem_append_left _ hy)
   .rcases List.mem_cons.1 hy with rfl|hy
    .exact hd
    .exact ht y (List.mem_append_right _ hy)
 .rcases (Ey hiDc).1 h with h|h
  .exact hp1 y hy h.symm
  .exact (S.al y (hsub y hy)).2.2 h
structure Four(P:Program)(ops:Array Oper)(cls:Cls)(A:LL)(n:Nat)(fs:LM):Prop where
 mem:∀i,i<ops.size->(i∈fs↔cls.getD i 9=4)
 lt:∀i∈fs,i<ops.size
 anc:∀i,cls.getD i 9=4->A.getD i []=[]
 free:∀i,cls.getD i 9=4->∀e∈(opAt ops i).after,Region.binds .any e=true->False
 al:∀i∈fs,∃d t cs,AlAt P ops n i d t cs
theorem Amy{D:Array Bool}(F:Cr ops cls A [])(hs:D.size=ops.size)(hr:Region.ready .any ops D=[]):∀i,i<ops.size->On D i:=by
 intro i
 induction i using Nat.strongRecOn with
 |_ i ih=>
  intro hi
  by_cases hn:On D i
  .exact hn
  .exfalso;have:i∈Region.ready .any ops D:=(Bm hs).2 ⟨hi,hn,fun e he hb=>ih e.on (F.back i hi e he hb) (Nat.lt_trans (F.back i hi e he hb) hi)⟩;rw[hr] at this;simp at this
theorem Alk{D:Array Bool}(hs:D.size=ops.size)(h:cnt D ops.size=0):Region.ready .any ops D=[]:=List.eq_nil_iff_forall_not_mem.2 fun i hi=>by
 obtain⟨h1,h2,_⟩:=(Bm hs).1 hi;exact h2 (Afb h i h1)
theorem Sim2.next{D Dc:Array Bool}{Fl:List Ea}{a ac:Act}{w:World}(S:Sim2 P ops cls n D Dc Fl a ac w){fs gs:LM}(H:Four P ops cls A n fs)(hg:∀x∈Fl,x.i∈gs)(hgl:∀i∈gs,i<ops.size){i j:Nat}(hr:i∈Region.ready .any ops D)(hn:¬On Dc i)(hni:i∉gs)(h1:Ahl (Region.ready .any ops (Ahk Dc gs)) j=true):i=j:=by
 obtain⟨E,b,S0,hD,_,_,_⟩:=S.ex;obtain⟨hi,hnD,hdep⟩:=(Bm S.sD).1 hr;refine Avf h1 ((Bm (by rw[Aq9];exact S0.sDc)).2 ⟨hi,fun h=>?_,fun e he hb=>?_⟩)
 .rcases (Aow (by rw[S0.sDc];exact hgl)).1 h with h|h
  .exact hni h
  .exact hn h
 .rw[Aow (by rw[S0.sDc];exact hgl)];rcases (hD _).1 (hdep e he hb) with h|⟨x,hx,h⟩
  .exact .inr (S0.sub _ h)
  .exact .inl (h▸hg x hx)
theorem Sim2.fin{D Dc:Array Bool}{Fl:List Ea}{a ac:Act}{w:World}(S:Sim2 P ops cls n D Dc Fl a ac w)(F:Cr ops cls A [])(hp:Region.ready .any ops Dc=[]):Fl=[]/\(∀i,i<ops.size->On Dc i)/\(Region.ready .any ops D=[]->a=ac):=by
 obtain⟨E,b,S0,hD,e1,e2,e3⟩:=S.ex;have hc:=Amy F S0.sDc hp;have hF:Fl=[]:=List.eq_nil_iff_forall_not_mem.2 fun x hx=>(S.al x hx).2.2 (hc _ (S.al x hx).1.lt)
 subst hF;refine⟨rfl,hc,fun hr=>?_⟩;have hDE:∀i,On D i↔On E i:=fun i=>by rw[hD];simp
 have hrE:Region.ready .any ops E=[]:=List.eq_nil_iff_forall_not_mem.2 fun i hi=>by
  obtain⟨h1,h2,_⟩:=(Bm S0.sD).1 hi;exact h2 ((hDE i).1 (Amy F S.sD hr i h1))
 obtain⟨_,rfl⟩:=S0.level F hrE;have ht:a.tmps=b.tmps:=by
  apply Array.ext_getElem?;intro t;exact e3 t s_
 cases a;cases b
 simp only at ht e2;rw[ht,e2]
theorem Bbz(F:Cr ops cls A []){fs:List Nat}(H:Four P ops cls A n fs):∀ (fuel:Nat) (os:List Nat) (D Dc:Array Bool) (Fl:List Ea) (a ac:Act) (w:World),Sim2 P ops cls n D Dc Fl a ac w->Ad5 ops cls fs os Dc=true ->
  (∃fr L,Fr n fr ac/\Heap (Fl.map Ea.e++L) w/\PB P ops Q cls n os fr L)->cnt D ops.size<=fuel->wpAny P .any ops Q fuel D a w:=by
 intro fuel
 induction fuel with
 |zero=>
  intro os
  induction os with
  |nil=>
   rintro D Dc Fl a ac w S hp ⟨fr,L,hfr,hL,hK⟩ hc;have hr:=Alk S.sD oo;obtain⟨rfl,_,he⟩:=S.fin F (by simpa[Ad5] using hp);obtain rfl:=he hr;exact⟨hr,hK _ _ hfr (sV hL)⟩
  |cons i r ih=>
   rintro D Dc Fl a ac w S hp ⟨fr,L,hfr,hL,hK⟩ hc;obtain⟨E,b,S0,hD,e1,e2,e3⟩:=S.ex;simp only[Ad5,Bool.and_eq_true,List.contains_iff_mem] at hp;obtain⟨⟨hrc,hp1⟩,hp2⟩:=hp;obtain⟨hi,hni,_⟩:=(Bm S0.sDc).1 hrc;have hon:=Amy F S.sD (Alk S.sD oo) i hi;rcases (hD i).1 hon with h|⟨x,hx,rfl⟩
   .exact absurd (S0.sub _ h) hni
   .obtain⟨F1,F2,rfl⟩:=List.append_of_mem hx;have h4:=(S.al x hx).2.1;unfold PB at hK;rw[iP (by rw[h4];rfl)] at hK;refine ih D _ (F1++F2) a _ w (S.takes F H.free) hp1 ⟨_,_,hfr.put (S.al x hx).1.2.2,?_,hK _ _ _ (S.al x hx).1 x.g⟩ hc;refine hL.perm ?_;simp only[List.map_append,List.map_cons,List.append_assoc,List.cons_append];exact ((List.perm_middle (a:=x.e) (l₁:=F1.map Ea.e) (l₂:=F2.map Ea.e++L)).trans (by rw[<-List.append_assoc];exact (List.perm_middle (a:=x.e) (l₁:=F1.map Ea.e++F2.map Ea.e) (l₂:=L)).symm.trans (by rw[List.append_assoc];exact List.Perm.refl _)))
 |succ fuel ihf=>
  have early:∀ {os:List Nat} {D Dc:Array Bool} {Fl:List Ea} {a ac:Act} {w:World} {j:Nat},Sim2 P ops cls n D Dc Fl a ac w->Ad5 ops cls fs os Dc=true->(∃ fr L,Fr n fr ac/\Heap (Fl.map Ea.e++L) w/\PB P ops Q cls n os fr L)->cnt D ops.size<=fuel+1 ->
    j∈Region.ready .any ops D->cls.getD j 9=4->wpOp P ops Q j (wpAny P .any ops Q fuel (D.setIfInBounds j true)) a w:=by
   rintro os D Dc Fl a ac w j S hp ⟨fr,L,hfr,hL,hK⟩ hc hj h4;obtain⟨d,t,cs,ha⟩:=H.al j ((H.mem j ((Bm S.sD).1 hj).1).2 h4);exact S.early F H.anc hj ha h4 hfr.size fun a' g w' S' hh=>ihf os _ _ _ _ _ _ S' hp ⟨fr,L,hfr,hh _ hL,hK⟩ (Ys S.sD hj hc)
  have catchUp:∀ {os:List Nat} {D Dc:Array Bool} {Fl:List Ea} {a ac:Act} {w:World} {j:Nat},Sim2 P ops cls n D Dc Fl a ac w->Ad5 ops cls fs os Dc=true->(∃ fr L,Fr n fr ac/\Heap (Fl.map Ea.e++L) w/\PB P ops Q cls n os fr L)->cnt D ops.size<=fuel+1 ->
    j∈Region.ready .any ops D->On Dc j->wpOp P ops Q j (wpAny P .any ops Q fuel (D.setIfInBounds j true)) a w:=fun S hp hK hc hj hon=>
   S.catchUp F H.anc hj hon fun a' S'=>ihf _ _ _ _ _ _ _ S' hp hK (Ys S.sD hj hc)
  intro os
  induction os with
  |nil=>
   rintro D Dc Fl a ac w S hp ⟨fr,L,hfr,hL,hK⟩ hc;obtain⟨rfl,hon,he⟩:=S.fin F (by simpa[Ad5] using hp);refine⟨fun hr=>?_,fun j hj=>catchUp S hp ⟨fr,L,hfr,hL,hK⟩ hc hj (hon _ ((Bm S.sD).1 hj).1)⟩;obtain rfl:=he hr;exact hK _ _ hfr (sV hL)
  |cons i r ih=>
   rintro D Dc Fl a ac w S hp ⟨fr,L,hfr,hL,hK⟩ hc;obtain⟨E,b,S0,hD,e1,e2,e3⟩:=S.ex;have hp':=hp;simp only[Ad5,Bool.and_eq_true,List.contains_iff_mem] at hp;obtain⟨⟨hrc,hp1⟩,hp2⟩:=hp;obtain⟨hi,hni,_⟩:=(Bm S0.sDc).1 hrc;have hK':=hK;unfold PB at hK;have ends:(∀x∈Fl,x.i≠i)->Region.ready .any ops D=[]->Q .normal a w:=fun hx hr=>by
    rcases (hD i).1 (Amy F S.sD hr i hi) with h|⟨x,hx',h⟩
    .exact absurd (S0.sub _ h) hni
    .exact absurd h (hx x hx')
   have lows:∀e∈Fl.map Ea.e,e.low=0:=fun e he=>by obtain⟨x,_,rfl⟩:=List.mem_map.1 he;rfl
   have no4:cls.getD i 9≠4->∀x∈Fl,x.i≠i:=fun h x hx e=>h (e▸(S.al x hx).2.1)
   by_cases h4:cls.getD i 9=4
   .rw[iP (by rw[h4];rfl)] at hK hp2
    by_cases hx:∃x∈Fl,x.i=i
    .obtain⟨x,hx,rfl⟩:=hx;obtain⟨F1,F2,rfl⟩:=List.append_of_mem hx;refine ih D _ (F1++F2) a _ w (S.takes F H.free) hp1 ⟨_,_,hfr.put (S.al x hx).1.2.2,?_,hK _ _ _ (S.al x hx).1 x.g⟩ hc;refine hL.perm ?_;simp only[List.map_append,List.map_cons,List.append_assoc,List.cons_append];exact ((List.perm_middle (a:=x.e) (l₁:=F1.map Ea.e) (l₂:=F2.map Ea.e++L)).trans (by rw[<-List.append_assoc];exact (List.perm_middle (a:=x.e) (l₁:=F1.map Ea.e++F2.map Ea.e) (l₂:=L)).symm.trans (by rw[List.append_assoc];exact List.Perm.refl _)))
    .have hx':∀x∈Fl,x.i≠i:=fun x hx'' e=>hx ⟨x,hx'',e⟩
     refine⟨ends hx',fun j hj=>?_⟩
     by_cases hon:On Dc j
     .exact catchUp S hp' ⟨fr,L,hfr,hL,hK'⟩ hc hj hon
     .by_cases hj4:cls.getD j 9=4
      .exact early S hp' ⟨fr,L,hfr,hL,hK'⟩ hc hj hj4
      .have hjl:=((Bm S.sD).1 hj).1;have e:=S.next H (gs:=fs.erase i) (fun x hx''=>(List.mem_erase_of_ne (hx' x hx'')).2 ((H.mem _ (S.al x hx'').1.lt).2 (S.al x hx'').2.1)) (fun y hy=>H.lt y (List.mem_of_mem_erase hy)) hj hon (fun h=>hj4 ((H.mem j hjl).1 (List.mem_of_mem_erase h))) hp2;exact absurd (e▸h4) hj4
   .rw[iN (by intro h;exact h4 (Nat.eq_of_beq_eq_true h))] at hK hp2
    by_cases h1:cls.getD i 9<=1
    ·rw[if_pos (by simpa using h1)] at hK;have hK:=hK _ _ _ lows hfr hL;have hv:∃ v,((Region.wanted (opAt ops i) (yielded ops ac.tmps)=true/\(∀ w',Ag1 (cls.getD i 9) false (fun _=>True) w w'->(execOp ac.eval (opAt ops i)).run P w' = .ok (.value v) w'))\/(Region.wanted (opAt ops i) (yielded ops ac.tmps)=false/\v=undef)) /\
       ∃fr',Fr n fr' (ac.put (opAt ops i).dst v)/\PB P ops Q cls n r fr' L:=by
      split at hK
      .obtain⟨o,ho,h⟩:=hK;rw[Zr ho];rcases h with⟨h1,v,h2,h3⟩|⟨h1,h2⟩
       .exact⟨v,.inl ⟨h1,fun w' _=>h2 w'⟩,h3⟩
       .exact⟨undef,.inr ⟨h1,rfl⟩,h2⟩
      .rename_i hz;obtain⟨o,ho,h⟩:=hK;rw[Zr ho];rcases h with⟨h1,v,h2,h3⟩|⟨h1,h2⟩
       .refine⟨v,.inl ⟨h1,fun w' hw'=>h2 w' ?_⟩,h3⟩;rcases hw' with h0|⟨h0,_⟩|⟨_,h0⟩
        .exact absurd (by rw[h0];rfl) hz
        .cases h0
        .exact h0
       .exact⟨undef,.inr ⟨h1,rfl⟩,h2⟩
     obtain⟨v,hv,fr',hfr',hB⟩:=hv;exact ih D _ Fl a _ w (S.ahead F hrc h1 hv) hp1 ⟨fr',L,hfr',hL,hB⟩ hc
    .rw[iN (sV h1)] at hK hp2
     by_cases h2:cls.getD i 9=2
     .rw[iP (by rw[h2];rfl)] at hK hp2;refine⟨ends (no4 h4),fun j hj=>?_⟩
      by_cases hon:On Dc j
      .exact catchUp S hp' ⟨fr,L,hfr,hL,hK'⟩ hc hj hon
      .by_cases hj4:cls.getD j 9=4
       .exact early S hp' ⟨fr,L,hfr,hL,hK'⟩ hc hj hj4
       .have hjl:=((Bm S.sD).1 hj).1;obtain rfl:=S.next H (gs:=fs) (fun x hx=>(H.mem _ (S.al x hx).1.lt).2 (S.al x hx).2.1) H.lt hj hon (fun h=>hj4 ((H.mem j hjl).1 h)) hp2;exact S.both F H.anc hj hrc (hard:=false) (fun h=>by cases h) (hK _ _ _ lows hfr hL) fun a' ac' w' S' hN=>ihf _ _ _ _ _ _ _ S' hp1 hN (Ys S.sD hj hc)
     .rw[iN (by intro h;exact h2 (Nat.eq_of_beq_eq_true h))] at hK hp2;simp only[Bool.and_eq_true,List.all_eq_true] at hp2;obtain⟨⟨h3,hp2⟩,hp3⟩:=hp2;have hF:Fl=[]:=List.eq_nil_iff_forall_not_mem.2 fun x hx=>(S.al x hx).2.2 (hp3 _ ((H.mem _ (S.al x hx).1.lt).2 (S.al x hx).2.1))
      subst hF;refine⟨ends (no4 h4),fun j hj=>?_⟩
      by_cases hon:On Dc j
      .exact catchUp S hp' ⟨fr,L,hfr,hL,hK'⟩ hc hj hon
      .have hjl:=((Bm S.sD).1 hj).1;obtain rfl:=S.next H (gs:=[]) (fun x hx=>by simp at hx) (fun y hy=>by simp at hy) hj hon s_ hp2;exact S.both F H.anc hj hrc (hard:=true) (fun _=>le3 h3) (hK _ _ hfr (sV hL)) fun a' ac' w' S' hN=>ihf _ _ _ _ _ _ _ S' hp1 (by obtain⟨fr',L',h5,h6,h7⟩:=hN;exact⟨fr',L',h5,sV h6,h7⟩) (Ys S.sD hj hc)
inductive Aco(P:Program)(ops:Array Oper)(n:Nat):LM->Prop
 |nil:Aco P ops n []
 |cons {i d t cs ty pos after r}:ops[i]? = some ⟨some d,.alloc t,ty,pos,after,none⟩->Xw P t cs->Nat.blt d n=true->Aco P ops n r->Aco P ops n (i::r)
theorem Aco.mem{fs:LM}(h:Aco P ops n fs):∀i∈fs,∃d t cs,AlAt P ops n i d t cs:=by
 induction h with
 |nil=>intro i hi;simp at hi
 |cons h1 h2 h3 _ ih=>
  intro i hi;rcases List.mem_cons.1 hi with rfl|hi
  .exact⟨_,_,_,⟨_,_,_,h1⟩,h2,h3⟩
  .exact ih i hi
variable {fr:lF}{L:LE}{d i:Nat}{dst:Option Tmp}{op:Op}{ty:TypeId}{pos:String}{after:AE}{r:LM}
theorem Bgs{id:Nat}(cls:Cls)(os:LM)(hm:P.follows .mixedOrders=true)(hd:Aae ops cls (Ad3 ops)=true)(hp:Ad5 ops cls (Ad4 cls ops.size) os (Array.replicate ops.size false)=true)(h4:Aq8 ops cls (Ad3 ops) (Ad4 cls ops.size)=true)(ha:Aco P ops n (Ad4 cls ops.size))(k:PB P ops Q cls n os fr L):T n ((Code.region id ops true).wp P Q) fr L:=by
 intro a w hfr hL;refine wp_region_any hm ?_;have F:=Ag0 hd;have hmem:∀i,i∈Ad4 cls ops.size↔i<ops.size/\cls.getD i 9=4:=fun i=>by
  unfold Ad4;rw[List.mem_filter,List.mem_range];exact and_congr_right fun _=>⟨Nat.eq_of_beq_eq_true,fun h=>by rw[h];rfl⟩
 rw[Aq8,Bool.and_eq_true,List.all_eq_true] at h4;obtain⟨hlen,h4⟩:=h4;have hin:∀i,cls.getD i 9=4->i∈Ad4 cls ops.size:=fun i h=>by
  refine (hmem i).2 ⟨?_,h⟩;rcases Nat.lt_or_ge i ops.size with hi|hi
  .exact hi
  .rw[List.getD_eq_getElem?_getD,List.getElem?_eq_none (Nat.le_trans (Nat.le_of_ble_eq_true hlen) hi)] at h;simp at h
 have H:Four P ops cls (Ad3 ops) n (Ad4 cls ops.size):=by
  refine⟨fun i hi=>by rw[hmem];exact⟨fun h=>h.2,fun h=>⟨hi,h⟩⟩,fun i hi=>((hmem i).1 hi).1,fun i h=>?_,fun i h e he hb=>?_,ha.mem⟩
  .have:=h4 i (hin i h);simp only[Bool.and_eq_true,List.isEmpty_iff] at this;exact this.1
  .have:=h4 i (hin i h);simp only[Bool.and_eq_true] at this;have:=(Array.all_eq_true_iff_forall_mem.1 this.2) e he;rw[hb] at this;cases this
 refine Bbz F H ops.size os _ (Array.replicate ops.size false) [] a a w.drew ?_ hp ⟨fr,L,hfr,sV hL.drew,k⟩ (Aaf _ _);exact⟨⟨Array.replicate ops.size false,a,⟨.inr trivial,fun _ _ _ _=>trivial,s_,s_,fun i _ h=>absurd h Kw,fun i _ h=>absurd h Kw,fun _ h=>h,fun i h=>absurd h Kw,rfl,rfl,fun _ _=>rfl,fun j _ h=>absurd h Kw⟩,fun i=>s_,rfl,rfl,fun _ _=>rfl⟩,s_,fun x hx=>by simp at hx,fun x hx=>by simp at hx,.nil⟩
theorem Be6(k:T n (Q .normal) fr L):PB P ops Q cls n [] fr L:=k
theorem Aym{F L:LE}{w:World}(h:Heap (F++L) w):Heap L w:=⟨fun e he=>h.ok e (List.mem_append_right _ he),(List.pairwise_append.1 h.sep).2.1⟩
theorem Bgt(hc:Nat.ble (cls.getD i 9) 3=true)(h:∀a w,Fr n fr a->Heap L w->PB P ops Q cls n (i::r) fr L):PB P ops Q cls n (i::r) fr L:=by
 have h3:=Nat.le_of_ble_eq_true hc;unfold PB at h⊢;rw[iN (by intro e;have:=Nat.eq_of_beq_eq_true e;omega)] at h⊢;split
 .rename_i h1;rw[iP h1] at h;intro F a w hF ha hw;exact h a w ha (Aym hw) F a w hF ha hw
 .rename_i h1;rw[iN h1] at h;split
  .rename_i h2;rw[iP h2] at h;intro F a w hF ha hw;exact h a w ha (Aym hw) F a w hF ha hw
  .rename_i h2;rw[iN h2] at h;intro a w ha hw;exact h a w ha hw a w ha hw
theorem Agh{s:Nat}{v:Value}(hg:∃o p,ops[i]? = some o/\o.guard=some p)(hs:look fr s=some v)(h:PB P ops Q cls n (i::r) ((s,v)::fr) L):PB P ops Q cls n (i::r) fr L:=by
 have hf:∀a,Fr n fr a->Fr n ((s,v)::fr) a:=fun a ha=>⟨ha.nod,ha.size,fun t u hu=>by
  simp only[look] at hu;cases hb:Nat.beq s t with
  |true=>rw[hb] at hu;have e:=Nat.eq_of_beq_eq_true hb;subst e;injection hu with hu;subst hu;exact ha.val _ _ hs
  |false=>rw[hb] at hu;exact ha.val t u hu⟩
 unfold PB at h⊢;split
 .intro d t cs hal;obtain⟨o,p,h1,h2⟩:=hg;obtain⟨⟨_,_,_,h3⟩,_⟩:=hal;rw[h3] at h1;injection h1 with h1
  subst h1;cases h2
 .rename_i h4;rw[iN h4] at h;split
  .rename_i h1;rw[iP h1] at h;exact fun F a w hF ha hw=>h F a w hF (hf a ha) hw
  .rename_i h1;rw[iN h1] at h;split
   .rename_i h2;rw[iP h2] at h;exact fun F a w hF ha hw=>h F a w hF (hf a ha) hw
   .rename_i h2;rw[iN h2] at h;exact fun a w ha hw=>h a w (hf a ha) hw
section
variable {guard:ON}{v:Value}{j s:Nat}{b b':Bool}
def Xu(ops:Array Oper)(n:Nat)(fr:lF):ON->Prop
 |none=>True
 |some (j,b)=>∃s,(ops[j]?).bind (·.dst)=some s/\look fr s=some (.bool b)/\Nat.blt s n=true
theorem Xu.of{a:Act}(h:Xu ops n fr guard)(ha:Fr n fr a):Region.wanted ⟨dst,op,ty,pos,after,guard⟩ (yielded ops a.tmps)=true:=by
 cases guard with
 |none=>rfl
 |some p=>
  obtain⟨j,b⟩:=p;obtain⟨s,hj,hs,hsn⟩:=h;have:=Vp (d:=0) (op:=op) (ty:=ty) (pos:=pos) (after:=after) (b:=b) hj ha hs hsn;simpa[Region.wanted] using this
theorem wY:Xu ops n fr none:=trivial
theorem wG(hj:(ops[j]?).bind (·.dst)=some s)(hs:look fr s=some (.bool b))(hsn:Nat.blt s n=true):Xu ops n fr (some (j,b)):=⟨s,hj,hs,hsn⟩
theorem B_p(hc:Nat.beq (cls.getD i 9) 0=true)(ho:ops[i]? = some ⟨some d,op,ty,pos,after,guard⟩)(hg:Xu ops n fr guard)(h:Ev P n ⟨some d,op,ty,pos,after,guard⟩ fr [] v)(hd:Nat.blt d n=true)(k:PB P ops Q cls n r ((d,v)::fr) L):PB P ops Q cls n (i::r) fr L:=by
 have h0:=Nat.eq_of_beq_eq_true hc;unfold PB;rw[iN (by rw[h0];simp),iP (by rw[h0];rfl)];intro F a w _ ha hw;rw[iP hc];exact⟨_,ho,.inl ⟨hg.of ha,v,fun w'=>h a w' ha s_,_,ha.put hd,k⟩⟩
theorem B_q(hc:Nat.beq (cls.getD i 9) 1=true)(ho:ops[i]? = some ⟨some d,op,ty,pos,after,guard⟩)(hg:Xu ops n fr guard)(h:Ev P n ⟨some d,op,ty,pos,after,guard⟩ fr L v)(hd:Nat.blt d n=true)(k:PB P ops Q cls n r ((d,v)::fr) L):PB P ops Q cls n (i::r) fr L:=by
 have h0:=Nat.eq_of_beq_eq_true hc;unfold PB;rw[iN (by rw[h0];simp),iP (by rw[h0];rfl)];intro F a w _ ha hw;rw[iN (by rw[h0];simp)];exact⟨_,ho,.inl ⟨hg.of ha,v,fun w' hx=>h a w' ha ((Aym hw).ext hx).ok,_,ha.put hd,k⟩⟩
theorem B_no(hc:Nat.ble (cls.getD i 9) 3=true)(ho:ops[i]? = some ⟨some d,op,ty,pos,after,some (j,b)⟩)(hw0:∀a,Fr n fr a->Region.wanted ⟨some d,op,ty,pos,after,some (j,b)⟩ (yielded ops a.tmps)=false)(hd:Nat.blt d n=true)(k:PB P ops Q cls n r ((d,undef)::fr) L):PB P ops Q cls n (i::r) fr L:=by
 have h3:=Nat.le_of_ble_eq_true hc;unfold PB;rw[iN (by intro e;have:=Nat.eq_of_beq_eq_true e;omega)];split
 .intro F a w _ ha hw;split
  .exact⟨_,ho,.inr ⟨hw0 a ha,_,ha.put hd,k⟩⟩
  .exact⟨_,ho,.inr ⟨hw0 a ha,_,ha.put hd,k⟩⟩
 .split
  .intro F a w _ ha hw;exact⟨_,ho,.inr ⟨hw0 a ha,_,_,ha.put hd,hw,k⟩⟩
  .intro a w ha hw;exact⟨_,ho,.inr ⟨hw0 a ha,_,_,ha.put hd,hw,k⟩⟩
theorem Be7(hc:Nat.ble (cls.getD i 9) 3=true)(ho:ops[i]? = some ⟨some d,op,ty,pos,after,some (j,b)⟩)(hj:(ops[j]?).bind (·.dst)=some s)(hs:look fr s=some (.bool b'))(hsn:Nat.blt s n=true)(hne:(b'==b)=false)(hd:Nat.blt d n=true)(k:PB P ops Q cls n r ((d,undef)::fr) L):PB P ops Q cls n (i::r) fr L :=
 B_no hc ho (fun a ha=>by rw[Vp hj ha hs hsn,hne]) hd k
theorem Bb0(hc:Nat.ble (cls.getD i 9) 3=true)(ho:ops[i]? = some ⟨some d,op,ty,pos,after,some (j,b)⟩)(hj:(ops[j]?).bind (·.dst)=some s)(hs:look fr s=some undef)(hsn:Nat.blt s n=true)(hd:Nat.blt d n=true)(k:PB P ops Q cls n r ((d,undef)::fr) L):PB P ops Q cls n (i::r) fr L :=
 B_no hc ho (fun a ha=>Acc hj ha hs hsn) hd k
theorem B_l{t:TypeId}{cs:LV}(hc:Nat.beq (cls.getD i 9) 4=true)(ho:ops[i]? = some ⟨some d,.alloc t,ty,pos,after,none⟩)(hz:Xw P t cs)(hd:Nat.blt d n=true)(k:∀g,PB P ops Q cls n r ((d,.pointer (some ⟨g,0,none⟩))::fr) (.m g t cs::L)):PB P ops Q cls n (i::r) fr L:=by
 unfold PB;rw[iP hc];intro d' t' cs' hal g;obtain⟨rfl,rfl,rfl⟩:=AlAt.one (⟨⟨_,_,_,ho⟩,hz,hd⟩:AlAt P ops n i d t cs) hal default;exact k g
def NBz(P:Program)(ops:Array Oper)(Q:Exit->AW)(cls:Cls)(n:Nat)(r:LM)(z:Ent):AW:=fun a w=>∃fr L,Fr n fr a/\Heap (z::L) w/\PB P ops Q cls n r fr L
def NB(P:Program)(ops:Array Oper)(Q:Exit->AW)(cls:Cls)(n:Nat)(r:LM):AW:=fun a w=>∃fr L,Fr n fr a/\Heap L w/\PB P ops Q cls n r fr L
theorem Bgu{z:Ent}{L':LE}(hp:Hh L (z::L'))(k:PB P ops Q cls n r fr L'):T n (NBz P ops Q cls n r z) fr L:=fun a w ha hw=>⟨fr,L',ha,hw.pick hp,k⟩
theorem T_nb(k:PB P ops Q cls n r fr L):T n (NB P ops Q cls n r) fr L:=fun a w ha hw=>⟨fr,L,ha,hw,k⟩
theorem B_x(hc:Nat.beq (cls.getD i 9) 2=true)(ho:ops[i]? = some ⟨dst,op,ty,pos,after,guard⟩)(hg:Xu ops n fr guard)(h:∀z,Wx P noQ n ⟨dst,op,ty,pos,after,guard⟩ fr (z::L) (NBz P ops Q cls n r z)):PB P ops Q cls n (i::r) fr L:=by
 have h0:=Nat.eq_of_beq_eq_true hc;unfold PB;rw[iN (by rw[h0];simp),iN (by rw[h0];simp),iP hc];intro F a w hF ha hw;refine⟨_,ho,.inl ⟨hg.of ha,Oper.wp_mono (fun a' w' hh=>⟨.inl hh.1,?_⟩) (h (bunS F) a w ha (Adj hF hw))⟩⟩;obtain⟨fr',L',h1,h2,h3⟩:=hh.2;exact⟨fr',L',h1,Agr hF h2,h3⟩
theorem B_h(hc:Nat.beq (cls.getD i 9) 3=true)(ho:ops[i]? = some ⟨dst,op,ty,pos,after,guard⟩)(hg:Xu ops n fr guard)(h:Wh P noQ n ⟨dst,op,ty,pos,after,guard⟩ fr L (NB P ops Q cls n r)):PB P ops Q cls n (i::r) fr L:=by
 have h0:=Nat.eq_of_beq_eq_true hc;unfold PB;rw[iN (by rw[h0];simp),iN (by rw[h0];simp),iN (by rw[h0];simp)];intro a w ha hw;exact⟨_,ho,.inl ⟨hg.of ha,Oper.wp_mono (fun a' w' hh=>⟨.inr ⟨rfl,.inl rfl⟩,hh⟩) (h a w ha hw)⟩⟩
end
end
end
end Go.Proofs.YthlkpgdfifnagaaGreat
