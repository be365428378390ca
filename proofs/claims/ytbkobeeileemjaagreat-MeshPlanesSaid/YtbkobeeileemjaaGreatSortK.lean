/- Loops over a map. -/
import Derived.Test.YtbkobeeileemjaaGreatFlow12
import Derived.Sort.Grow
import Derived.Deep.Draws
import Derived.Shelf.SlSortCmp.WholeK
namespace Go.Proofs.YtbkobeeileemjaaGreat
open Go Go.RowKit
open Go.Maps (Keyed)
theorem Pt.m0 {g:Nat} {t:TypeId} {cs:List Value} {K:List Ent} (h:Ent.m g t cs∈K):Pt K g 0 cs:=fun w hw j u hu=>by
 have:=hw _ h
 rw [Qg this];simpa using hu
section
variable {κ υ:Type}
/-- From the state s, with the pairs l still to come, the loop comes to t, in whatever order they come (BN: when none is left). -/
inductive MR {σ τ:Type} (BN:σ→Option (Sum σ τ)) (BS:σ→κ × υ→Option (Sum σ τ)):List (κ × υ)→σ→τ→Prop
 | nil {s t} (h:BN s=some (.inr t)):MR BN BS [] s t
 | cons {l s t} (h0:l≠[]) (h1:∀ p∈l,(BS s p).isSome=true) (h2:∀ p∈l,∀ t',BS s p=some (.inr t')→t'=t) (h3:∀ p∈l,∀ s',BS s p=some (.inl s')→MR BN BS (mdel l p.1) s' t):MR BN BS l s t
variable {σ τ γ:Type} {BN:σ→Option (Sum σ τ)} {BS:σ→κ × υ→Option (Sum σ τ)} {l m:List (κ × υ)} {s:σ} {t:τ} {p:κ × υ}
theorem MR.none' (h:MR BN BS l s t) (hl:l=[]):∃ x,BN s=some x∧∀ t',x = .inr t'→t'=t:=by
 cases h with
 | nil h=>exact ⟨_,h,fun t' e=>(Sum.inr.inj e).symm⟩
 | cons h0 _ _ _=>exact absurd hl h0
theorem MR.some' (h:MR BN BS l s t) (hp:p∈l):∃ x,BS s p=some x∧(∀ t',x = .inr t'→t'=t)∧∀ s',x = .inl s'→MR BN BS (mdel l p.1) s' t:=by
 cases h with
 | nil h=>cases hp
 | cons _ h1 h2 h3 =>
  obtain ⟨x,hx⟩:=Option.isSome_iff_exists.1 (h1 p hp)
  exact ⟨x,hx,fun t' e=>h2 p hp t' (by rw [hx,e]),fun s' e=>h3 p hp s' (by rw [hx,e])⟩
open Classical in
/-- What the loop over the map m comes to, if that does not depend on the order. -/
noncomputable def mfix (BN:σ→Option (Sum σ τ)) (BS:σ→κ × υ→Option (Sum σ τ)) (m:List (κ × υ)) (s:σ):Option τ:=if h:∃ t,MR BN BS m s t then some h.choose else none
theorem Aju (h:mfix BN BS m s=some t):MR BN BS m s t:=by
 unfold mfix at h
 split at h
 ·rename_i hh
  cases h
  exact hh.choose_spec
 ·cases h
theorem MR.unique (h:MR BN BS m s t) {t':τ} (h':MR BN BS m s t'):t=t':=by
 induction h with
 | nil h =>
  obtain ⟨x,hx,ht⟩:=h'.none' rfl
  rw [h] at hx
  exact ht _ (Option.some.inj hx).symm
 | @cons l s t h0 h1 h2 h3 ih =>
  obtain ⟨p,hp⟩:=List.exists_mem_of_ne_nil l h0
  obtain ⟨x,hx,ht,hn⟩:=h'.some' hp
  cases x with
  | inr t2=>rw [← h2 p hp t2 hx,ht t2 rfl]
  | inl s2=>exact ih p hp s2 hx (hn s2 rfl)
theorem An8 (h:MR BN BS m s t):mfix BN BS m s=some t:=by
 unfold mfix
 rw [dif_pos ⟨t,h⟩]
 exact congrArg some (MR.unique (Exists.choose_spec (p:=fun t=>MR BN BS m s t) ⟨t,h⟩) h)
theorem An9 (hp:p∈l):(mdel l p.1).length < l.length:=by
 unfold mdel
 refine Nat.lt_of_le_of_ne (List.length_filter_le _ _) fun e=>?_
 have:=List.length_filter_eq_length_iff.1 e p hp
 simp at this
/-! ### what follows the loop, whatever the order -/
section
variable {ρ:Type}
def mkN (BN:σ→Option (Sum σ τ)) (k:τ→Option ρ):σ→Option (Sum σ ρ):=fun s=>match BN s with
 | some (.inl s')=>some (.inl s')
 | some (.inr t)=>(match k t with
  | some r=>some (.inr r)
  | none=>none)
 | none=>none
def mkS (BS:σ→κ × υ→Option (Sum σ τ)) (k:τ→Option ρ):σ→κ × υ→Option (Sum σ ρ):=fun s p=>mkN (fun s=>BS s p) k s
/-- The loop over m from s, and what follows it, if that does not depend on the order. -/
noncomputable abbrev Aig (BN:σ→Option (Sum σ τ)) (BS:σ→κ × υ→Option (Sum σ τ)) (m:List (κ × υ)) (s:σ) (k:τ→Option ρ):Option ρ:=mfix (mkN BN k) (mkS BS k) m s
theorem Af2 {BN:σ→Option (Sum σ τ)} {k:τ→Option ρ} {s:σ} {y:Sum σ ρ} (h:mkN BN k s=some y):∃ x,BN s=some x∧(∀ t,x = .inr t→∃ r,k t=some r∧y = .inr r)∧∀ s',x = .inl s'→y = .inl s':=by
 unfold mkN at h
 split at h
 ·rename_i s' e
  cases h
  exact ⟨_,e,fun t ht=>(by cases ht),fun s2 h2=>(by cases h2;rfl)⟩
 ·rename_i t e
  split at h
  ·rename_i r er
   cases h
   exact ⟨_,e,fun t ht=>(by cases ht;exact ⟨r,er,rfl⟩),fun s2 h2=>(by cases h2)⟩
  ·cases h
 ·cases h
theorem MR.noneK {k:τ→Option ρ} {r:ρ} (h:MR (mkN BN k) (mkS BS k) l s r) (hl:l=[]):∃ x,BN s=some x∧∀ t',x = .inr t'→k t'=some r:=by
 obtain ⟨y,hy,hr⟩:=h.none' hl
 obtain ⟨x,hx,h1,_⟩:=Af2 hy
 refine ⟨x,hx,fun t' e=>?_⟩
 obtain ⟨r',h2,h3⟩:=h1 t' e
 rw [h2,hr r' h3]
theorem MR.someK {k:τ→Option ρ} {r:ρ} (h:MR (mkN BN k) (mkS BS k) l s r) (hp:p∈l):∃ x,BS s p=some x∧(∀ t',x = .inr t'→k t'=some r)∧∀ s',x = .inl s'→MR (mkN BN k) (mkS BS k) (mdel l p.1) s' r:=by
 obtain ⟨y,hy,hr,hn⟩:=h.some' hp
 obtain ⟨x,hx,h1,h4⟩:=Af2 hy
 refine ⟨x,hx,fun t' e=>?_,fun s' e=>hn s' (h4 s' e)⟩
 obtain ⟨r',h2,h3⟩:=h1 t' e
 rw [h2,hr r' h3]
theorem Abp {σ τ ρ:Type} {k:τ→Option ρ} {r:ρ} {x:Sum σ τ} {t':τ} (ht:∀ t',x = .inr t'→k t'=some r) (hx:some (.inr t')=some x):k t'=some r:=ht t' (Option.some.inj hx).symm
end
section
variable {P:Program} {n:Nat} {fr:List (Nat × Value)} {L:List Ent} {Q:Exit→Act→World→Prop}
/-- What is known at the head of a round. -/
def RndM (n:Nat) (BN:σ→Option (Sum σ τ)) (BS:σ→κ × υ→Option (Sum σ τ)) (t:τ) (left:γ→List (κ × υ)) (k:Nat) (I:σ→γ→List (Nat × Value)) (H:σ→γ→List Ent) (G:σ→γ→Prop) (a:Act) (w:World):Prop :=
 ∃ s g,MR BN BS (left g) s t∧(left g).length < k∧G s g∧Fr n (I s g) a∧Heap (H s g) w
theorem Aeb {s0:σ} (hl:mfix BN BS m s0=some t) (left:γ→List (κ × υ)) (I:σ→γ→List (Nat × Value)) (H:σ→γ→List Ent) (G:σ→γ→Prop) (g0:γ) (hm:left g0=m) (hG:G s0 g0) (hF:SubF (I s0 g0) fr) (hH:Hd L (H s0 g0)) {c:Code}
  (body:∀ s g,G s g→MR BN BS (left g) s t→T n (c.wp P (Exit.then (RndM n BN BS t left (left g).length I H G) Q)) (I s g) (H s g)) :
  T n ((Code.loop c).wp P Q) fr L:=by
 refine fun a w ha hw=>?_
 refine Akr (fr:=fr) (L:=H s0 g0) (σ:=σ × γ) (fun s=>I s.1 s.2) (fun s=>H s.1 s.2) (fun s=>G s.1 s.2∧MR BN BS (left s.2) s.1 t) (fun s=>(left s.2).length) (s0,g0) ⟨hG,by rw [hm];exact Aju hl⟩ hF .refl ?_ a w ha (hw.pick hH)
 clear ha hw a w
 rintro ⟨s,g⟩ ⟨hG,hs⟩
 intro a w ha hw
 refine wp_mono (body s g hG hs a w ha hw) ?_
 intro e a' w' hq
 cases e with
 | normal =>
  obtain ⟨s',g',h4,h5,h1,h2,h3⟩:=hq
  exact ⟨(s',g'),⟨h1,h4⟩,h5,h2,h3⟩
 | _=>exact hq
theorem Rn {left:γ→List (κ × υ)} {τ':Type} {x:Sum σ τ'} {I:σ→γ→List (Nat × Value)} {H:σ→γ→List Ent} {G:σ→γ→Prop} (s:σ) (g:γ) (hx:some (.inl s)=some x) (hnx:∀ s',x = .inl s'→MR BN BS (mdel l p.1) s' t) (hp:p∈l) (hg:left g=mdel l p.1)
  (hG:G s g) (hF:SubF (I s g) fr) (hH:Hd L (H s g)):T n (Exit.then (RndM n BN BS t left l.length I H G) Q .normal) fr L:=fun _ _ ha hw =>
 ⟨s,g,by rw [hg];exact hnx s (Option.some.inj hx).symm,by rw [hg];exact An9 hp,hG,ha.sub hF,hw.pick hH⟩
end
end
end Go.Proofs.YtbkobeeileemjaaGreat
/- Calls of which the world behind is told exactly: the world before, with blocks laid and draws made. -/
namespace Go.Proofs.YtbkobeeileemjaaGreat
open Go Go.RowKit Go.Lib Go.Sort
/-- w is W, grown. -/
def Gw (W w:World):Prop:=∃ q os',w=grow (W.drewN q) os'
theorem Gw.refl (W:World):Gw W W:=⟨0,#[],by simp [grow];rfl⟩
theorem Gw.trans {A B C:World} (h:Gw A B) (k:Gw B C):Gw A C:=by
 obtain ⟨q,os,rfl⟩:=h
 obtain ⟨q',os',rfl⟩:=k
 exact ⟨q+q',os++os',by simp [grow,World.drewN,Nat.add_assoc,Array.append_assoc]⟩
theorem Gw.drew (W:World):Gw W W.drew:=⟨1,#[],by rw [grow_empty];rfl⟩
theorem Gw.alloc (W:World) (o:Obj):Gw W (W.alloc o):=⟨0,#[o],by rw [alloc_eq_grow];rfl⟩
/-- What is left as it was, with draws made, is grown. -/
theorem Ext.gw {W w:World} (h:Ext W w):Gw W w:=by
 obtain ⟨⟨h1,h2,h3,h4,h5⟩,hd⟩:=h
 refine ⟨w.drawn-W.drawn,w.heap.extract W.heap.size w.heap.size,?_⟩
 obtain ⟨hp,tp,dr,os,out⟩:=w
 simp only at *
 have e:hp=W.heap++hp.extract W.heap.size hp.size:=by
  apply Array.ext_getElem?
  intro i
  by_cases hi:i < W.heap.size
  ·rw [h5 i hi,Array.getElem?_append_left hi]
  ·rw [Array.getElem?_append_right (by omega),Array.getElem?_extract]
   by_cases hi2:i < hp.size
   ·rw [if_pos (by omega)]
    congr 1;omega
   ·rw [if_neg (by omega),Array.getElem?_eq_none (by omega)]
 have ed:W.drawn+(dr-W.drawn)=dr:=by omega
 simp only [grow,World.drewN,ed,h1,h2,h3,← e]
/-- A call that leaves the world as it was, but for new blocks and draws. -/
theorem CtL.grows {P:Program} {f:FuncId} {vs:List Value} {w:World} {v:Value} (h:CtL P f vs w fun x Ln=>x=v∧Ln=[]∧True):Calls P f vs.toArray w fun e w'=>e = .returned v∧Gw w w':=by
 obtain ⟨_,h⟩:=h
 refine h.mono ?_
 rintro e w' ⟨v',Ln,rfl,⟨rfl,-,-⟩,-,hh⟩
 exact ⟨rfl,Ext.gw (hh.ok (.old w) (by simp))⟩
end Go.Proofs.YtbkobeeileemjaaGreat
/- An own row, sorted by a comparator: the row behind the shelf's contract. -/
namespace Go.Proofs.YtbkobeeileemjaaGreat
open Go Go.RowKit Go.Shelf Go.Sort
variable {α:Type} [Inhabited α]
theorem Af3 {enc:α→List Value} {k:Nat} (hk:∀ x,(enc x).length=k) (h0:0 < k) (d:Array α):flatK enc k d=(d.toList.flatMap enc).toArray:=by
 have hl:(d.toList.flatMap enc).length=d.size*k:=by rw [Kb hk,Array.length_toList]
 apply Array.ext
 ·simp only [size_flatK,List.size_toArray,hl]
 ·intro t h1 h2
  have ht:t < d.size*k:=by simpa using h1
  have hq:t / k < d.size:=by rw [Nat.div_lt_iff_lt_mul h0];exact ht
  have hr:t % k < k:=Nat.mod_lt _ h0
  have hg:=get_flatK enc k d t ht
  rw [getElem!_pos _ t h1] at hg
  rw [hg]
  have hx:(enc d[t / k]!)[t % k]? = some (enc d[t / k]!)[t % k]!:=by
   rw [getElem!_pos (enc d[t / k]!) (t % k) (by rw [hk];exact hr)]
   exact List.getElem?_eq_getElem _
  have hd:d[t / k]! = d.toList[t / k]'(by simpa using hq):=by
   rw [getElem!_pos d _ hq];simp
  rw [hd] at hx ⊢
  have:=Uo (enc:=enc) d.toList (t / k) (by simpa using hq) (fun x _=>hk x) (t % k) _ hx
  rw [Nat.mul_comm,Nat.div_add_mod] at this
  have h3:=(List.getElem?_eq_some_iff.1 this).2
  rw [← h3]
  simp
/-- What the row holds ahead of the sort. -/
theorem Ajv {enc:α→List Value} {k:Nat} (hk:∀ x,(enc x).length=k) (h0:0 < k) {w:World} {g:Nat} {cur:Array Value} {t:TypeId} (d:Array α) (hh:w.heap[g]? = some (.cells cur t (0,0)))
  (hc:cur.toList.take (d.size*k)=d.toList.flatMap enc):HoldsK enc k w g 0 d:=by
 intro j hj
 rw [Af3 hk h0] at hj ⊢
 have hl:(d.toList.flatMap enc).length=d.size*k:=by rw [Kb hk,Array.length_toList]
 have hj':j < d.size*k:=by simpa [hl] using hj
 have hjl:j < (d.toList.flatMap enc).length:=by rw [hl];exact hj'
 refine ⟨?_,?_⟩
 ·have h7:(cur.toList.take (d.size*k))[j]? = (d.toList.flatMap enc)[j]?:=by rw [hc]
  rw [List.getElem?_take,if_pos hj'] at h7
  have h8:cur[j]? = some (d.toList.flatMap enc)[j]:=by rw [← Array.getElem?_toList,h7];exact List.getElem?_eq_getElem hjl
  have h9:w.cell? ⟨g,0+j,none⟩=cur[j]?:=by simp [World.cell?,hh]
  rw [h9,h8,getElem!_pos _ j hj]
  simp
 ·simp [World.frozen?,hh]
/-- What the row is behind the sort. -/
theorem Abq {enc:α→List Value} {k:Nat} (hk:∀ x,(enc x).length=k) (h0:0 < k) {w:World} {g c n:Nat} {cur:Array Value} {t:TypeId} {d d':Array α} {os:Array Obj} (hs:d'.size=d.size) (hh:w.heap[g]? = some (.cells cur t (0,0)))
  (hm:d.size≤c) (hcm:c≤maxLen) (hz:cur.size=c*k) :
  Ent.ok (sortWorldK enc k w g 0 n d' os) (.r (some ⟨g,0,none⟩) d.size c t k (d'.toList.flatMap enc))∧w.grownBy (sortWorldK enc k w g 0 n d' os) (some g):=by
 have hl:(d'.toList.flatMap enc).length=d.size*k:=by rw [Kb hk,Array.length_toList,hs]
 have hlt:=Ex hh
 have hg0:∀ q,q < w.heap.size→(sortWorldK enc k w g 0 n d' os).heap[q]? = (w.heap.modify g (onCells (putCells id 0 (flatK enc k d'))))[q]?:=fun q hq=>by
  show (((Go.Sort.ahead w n).heap.modify g (onCells (putCells id 0 (flatK enc k d'))))++os)[q]? = _
  rw [Array.getElem?_append_left (by rw [Array.size_modify];exact hq)]
  rfl
 refine ⟨⟨hl,.inr ⟨g,c,putCells id 0 (flatK enc k d') cur,rfl,Nat.zero_le _,?_,hm,hcm,?_,?_⟩⟩,⟨rfl,rfl,rfl,?_,fun q hq hne=>?_⟩⟩
 ·rw [hg0 g hlt,Array.getElem?_modify,if_pos rfl,hh];rfl
 ·simp [putCells,hz]
 ·apply List.ext_getElem?
  intro j
  rw [List.getElem?_take]
  by_cases hj:j < d.size*k
  ·rw [if_pos hj]
   have hjl:j < (d'.toList.flatMap enc).length:=by rw [hl];exact hj
   have hjc:j < cur.size:=by
    rw [hz];exact Nat.lt_of_lt_of_le hj (Nat.mul_le_mul_right _ hm)
   have hsz:j < (flatK enc k d').size:=by rw [size_flatK,hs];exact hj
   have h1:(flatK enc k d')[j]! = (d'.toList.flatMap enc)[j]:=by
    rw [Af3 hk h0,getElem!_pos _ j (by simpa using hjl)]
    simp
   rw [Array.getElem?_toList,List.getElem?_eq_getElem hjl]
   simp only [putCells,Array.getElem?_mapIdx,Array.getElem?_eq_getElem hjc,Option.map_some]
   rw [if_pos ⟨Nat.zero_le _,by simpa using hsz⟩]
   simp only [Nat.sub_zero,id,h1]
  ·rw [if_neg hj,List.getElem?_eq_none (by rw [hl];omega)]
 ·show w.heap.size≤(((Go.Sort.ahead w n).heap.modify g (onCells (putCells id 0 (flatK enc k d'))))++os).size
  rw [Array.size_append,Array.size_modify]
  exact Nat.le_add_right _ _
 ·rw [hg0 q hq,Array.getElem?_modify]
  rw [if_neg (fun he=>hne (by rw [he]))]
end Go.Proofs.YtbkobeeileemjaaGreat
