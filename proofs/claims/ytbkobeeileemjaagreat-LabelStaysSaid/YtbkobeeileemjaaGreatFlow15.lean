/- Loops over a map. -/
import Derived.Test.YtbkobeeileemjaaGreatFlow12
import Derived.Sort.Grow
import Derived.Deep.Draws
import Derived.Shelf.SlSortCmp.WholeK
import Derived.Shelf.SlSortCmp.NoneTotal
import Derived.Shelf.SlSortCmp.Whole1
namespace Go.Proofs.YtbkobeeileemjaaGreat
open Go Go.RowKit
open Go.Maps (Keyed)
theorem Pt.m0 {g:Nat} {t:TypeId} {cs:List Value} {K:List Ent} (h:Ent.m g t cs∈K):Pt K g 0 cs:=fun w hw j u hu=>by
 have:=hw _ h
 rw [Vu this];simpa using hu
section
variable {κ υ:Type}
/-- From the state s, with the pairs l still to come, the loop comes to t, in whatever order they come (BN: when none is left). -/
inductive MR {σ τ:Type} (BN:σ→Option (Sum σ τ)) (BS:σ→κ × υ→Option (Sum σ τ)):List (κ × υ)→σ→τ→Prop
 | nil {s t} (h:BN s=some (.inr t)):MR BN BS [] s t
 | cons {l s t} (h0:l≠[]) (h1:∀ p∈l,(BS s p).isSome=true) (h2:∀ p∈l,∀ t',BS s p=some (.inr t')→t'=t) (h3:∀ p∈l,∀ s',BS s p=some (.inl s')→MR BN BS (mdel l p.1) s' t):MR BN BS l s t
variable {σ τ γ:Type} {BN:σ→Option (Sum σ τ)} {BS:σ→κ × υ→Option (Sum σ τ)} {l m:List (κ × υ)} {s:σ} {t:τ} {p:κ × υ}
theorem MR.none' (h:MR BN BS l s t) (hl:l=[]):∃ x,BN s=some x∧∀ t',x = .inr t'→t'=t:=by
 cases h with
 | nil h=>exact ⟨_,h,fun t' e=>(Sum.inr.inj e).symm⟩
 | cons h0 _ _ _=>exact absurd hl h0
theorem MR.some' (h:MR BN BS l s t) (hp:p∈l):∃ x,BS s p=some x∧(∀ t',x = .inr t'→t'=t)∧∀ s',x = .inl s'→MR BN BS (mdel l p.1) s' t:=by
 cases h with
 | nil h=>cases hp
 | cons _ h1 h2 h3 =>
  obtain ⟨x,hx⟩:=Option.isSome_iff_exists.1 (h1 p hp)
  exact ⟨x,hx,fun t' e=>h2 p hp t' (by rw [hx,e]),fun s' e=>h3 p hp s' (by rw [hx,e])⟩
open Classical in
/-- What the loop over the map m comes to, if that does not depend on the order. -/
noncomputable def mfix (BN:σ→Option (Sum σ τ)) (BS:σ→κ × υ→Option (Sum σ τ)) (m:List (κ × υ)) (s:σ):Option τ:=if h:∃ t,MR BN BS m s t then some h.choose else none
theorem Ar6 (h:mfix BN BS m s=some t):MR BN BS m s t:=by
 unfold mfix at h
 split at h
 ·rename_i hh
  cases h
  exact hh.choose_spec
 ·cases h
theorem MR.unique (h:MR BN BS m s t) {t':τ} (h':MR BN BS m s t'):t=t':=by
 induction h with
 | nil h =>
  obtain ⟨x,hx,ht⟩:=h'.none' rfl
  rw [h] at hx
  exact ht _ (Option.some.inj hx).symm
 | @cons l s t h0 h1 h2 h3 ih =>
  obtain ⟨p,hp⟩:=List.exists_mem_of_ne_nil l h0
  obtain ⟨x,hx,ht,hn⟩:=h'.some' hp
  cases x with
  | inr t2=>rw [← h2 p hp t2 hx,ht t2 rfl]
  | inl s2=>exact ih p hp s2 hx (hn s2 rfl)
theorem Ap9 (h:MR BN BS m s t):mfix BN BS m s=some t:=by
 unfold mfix
 rw [dif_pos ⟨t,h⟩]
 exact congrArg some (MR.unique (Exists.choose_spec (p:=fun t=>MR BN BS m s t) ⟨t,h⟩) h)
theorem Axd (hp:p∈l):(mdel l p.1).length < l.length:=by
 unfold mdel
 refine Nat.lt_of_le_of_ne (List.length_filter_le _ _) fun e=>?_
 have:=List.length_filter_eq_length_iff.1 e p hp
 simp at this
/-! ### what follows the loop, whatever the order -/
section
variable {ρ:Type}
def mkN (BN:σ→Option (Sum σ τ)) (k:τ→Option ρ):σ→Option (Sum σ ρ):=fun s=>match BN s with
 | some (.inl s')=>some (.inl s')
 | some (.inr t)=>(match k t with
  | some r=>some (.inr r)
  | none=>none)
 | none=>none
def mkS (BS:σ→κ × υ→Option (Sum σ τ)) (k:τ→Option ρ):σ→κ × υ→Option (Sum σ ρ):=fun s p=>mkN (fun s=>BS s p) k s
/-- The loop over m from s, and what follows it, if that does not depend on the order. -/
noncomputable abbrev Ai8 (BN:σ→Option (Sum σ τ)) (BS:σ→κ × υ→Option (Sum σ τ)) (m:List (κ × υ)) (s:σ) (k:τ→Option ρ):Option ρ:=mfix (mkN BN k) (mkS BS k) m s
theorem Amw {BN:σ→Option (Sum σ τ)} {k:τ→Option ρ} {s:σ} {y:Sum σ ρ} (h:mkN BN k s=some y):∃ x,BN s=some x∧(∀ t,x = .inr t→∃ r,k t=some r∧y = .inr r)∧∀ s',x = .inl s'→y = .inl s':=by
 unfold mkN at h
 split at h
 ·rename_i s' e
  cases h
  exact ⟨_,e,fun t ht=>(by cases ht),fun s2 h2=>(by cases h2;rfl)⟩
 ·rename_i t e
  split at h
  ·rename_i r er
   cases h
   exact ⟨_,e,fun t ht=>(by cases ht;exact ⟨r,er,rfl⟩),fun s2 h2=>(by cases h2)⟩
  ·cases h
 ·cases h
theorem MR.noneK {k:τ→Option ρ} {r:ρ} (h:MR (mkN BN k) (mkS BS k) l s r) (hl:l=[]):∃ x,BN s=some x∧∀ t',x = .inr t'→k t'=some r:=by
 obtain ⟨y,hy,hr⟩:=h.none' hl
 obtain ⟨x,hx,h1,_⟩:=Amw hy
 refine ⟨x,hx,fun t' e=>?_⟩
 obtain ⟨r',h2,h3⟩:=h1 t' e
 rw [h2,hr r' h3]
theorem MR.someK {k:τ→Option ρ} {r:ρ} (h:MR (mkN BN k) (mkS BS k) l s r) (hp:p∈l):∃ x,BS s p=some x∧(∀ t',x = .inr t'→k t'=some r)∧∀ s',x = .inl s'→MR (mkN BN k) (mkS BS k) (mdel l p.1) s' r:=by
 obtain ⟨y,hy,hr,hn⟩:=h.some' hp
 obtain ⟨x,hx,h1,h4⟩:=Amw hy
 refine ⟨x,hx,fun t' e=>?_,fun s' e=>hn s' (h4 s' e)⟩
 obtain ⟨r',h2,h3⟩:=h1 t' e
 rw [h2,hr r' h3]
theorem Ad6 {σ τ ρ:Type} {k:τ→Option ρ} {r:ρ} {x:Sum σ τ} {t':τ} (ht:∀ t',x = .inr t'→k t'=some r) (hx:some (.inr t')=some x):k t'=some r:=ht t' (Option.some.inj hx).symm
end
section
variable {P:Program} {n:Nat} {fr:List (Nat × Value)} {L:List Ent} {Q:Exit→Act→World→Prop}
/-- What is known at the head of a round. -/
def RndM (n:Nat) (BN:σ→Option (Sum σ τ)) (BS:σ→κ × υ→Option (Sum σ τ)) (t:τ) (left:γ→List (κ × υ)) (k:Nat) (I:σ→γ→List (Nat × Value)) (H:σ→γ→List Ent) (G:σ→γ→Prop) (a:Act) (w:World):Prop :=
 ∃ s g,MR BN BS (left g) s t∧(left g).length < k∧G s g∧Fr n (I s g) a∧Heap (H s g) w
theorem Af6 {s0:σ} (hl:mfix BN BS m s0=some t) (left:γ→List (κ × υ)) (I:σ→γ→List (Nat × Value)) (H:σ→γ→List Ent) (G:σ→γ→Prop) (g0:γ) (hm:left g0=m) (hG:G s0 g0) (hF:SubF (I s0 g0) fr) (hH:Da L (H s0 g0)) {c:Code}
  (body:∀ s g,G s g→MR BN BS (left g) s t→T n (c.wp P (Exit.then (RndM n BN BS t left (left g).length I H G) Q)) (I s g) (H s g)) :
  T n ((Code.loop c).wp P Q) fr L:=by
 refine fun a w ha hw=>?_
 refine Asx (fr:=fr) (L:=H s0 g0) (σ:=σ × γ) (fun s=>I s.1 s.2) (fun s=>H s.1 s.2) (fun s=>G s.1 s.2∧MR BN BS (left s.2) s.1 t) (fun s=>(left s.2).length) (s0,g0) ⟨hG,by rw [hm];exact Ar6 hl⟩ hF .refl ?_ a w ha (hw.pick hH)
 clear ha hw a w
 rintro ⟨s,g⟩ ⟨hG,hs⟩
 intro a w ha hw
 refine wp_mono (body s g hG hs a w ha hw) ?_
 intro e a' w' hq
 cases e with
 | normal =>
  obtain ⟨s',g',h4,h5,h1,h2,h3⟩:=hq
  exact ⟨(s',g'),⟨h1,h4⟩,h5,h2,h3⟩
 | _=>exact hq
theorem Uw {left:γ→List (κ × υ)} {τ':Type} {x:Sum σ τ'} {I:σ→γ→List (Nat × Value)} {H:σ→γ→List Ent} {G:σ→γ→Prop} (s:σ) (g:γ) (hx:some (.inl s)=some x) (hnx:∀ s',x = .inl s'→MR BN BS (mdel l p.1) s' t) (hp:p∈l) (hg:left g=mdel l p.1)
  (hG:G s g) (hF:SubF (I s g) fr) (hH:Da L (H s g)):T n (Exit.then (RndM n BN BS t left l.length I H G) Q .normal) fr L:=fun _ _ ha hw =>
 ⟨s,g,by rw [hg];exact hnx s (Option.some.inj hx).symm,by rw [hg];exact Axd hp,hG,ha.sub hF,hw.pick hH⟩
end
end
end Go.Proofs.YtbkobeeileemjaaGreat
/- Calls of which the world behind is told exactly: the world before, with blocks laid and draws made. -/
namespace Go.Proofs.YtbkobeeileemjaaGreat
open Go Go.RowKit Go.Lib Go.Sort
/-- w is W, grown. -/
def Gw (W w:World):Prop:=∃ q os',w=grow (W.drewN q) os'
theorem Gw.refl (W:World):Gw W W:=⟨0,#[],by simp [grow];rfl⟩
theorem Gw.trans {A B C:World} (h:Gw A B) (k:Gw B C):Gw A C:=by
 obtain ⟨q,os,rfl⟩:=h
 obtain ⟨q',os',rfl⟩:=k
 exact ⟨q+q',os++os',by simp [grow,World.drewN,Nat.add_assoc,Array.append_assoc]⟩
theorem Gw.drew (W:World):Gw W W.drew:=⟨1,#[],by rw [grow_empty];rfl⟩
theorem Gw.alloc (W:World) (o:Obj):Gw W (W.alloc o):=⟨0,#[o],by rw [alloc_eq_grow];rfl⟩
/-- What is left as it was, with draws made, is grown. -/
theorem Ext.gw {W w:World} (h:Ext W w):Gw W w:=by
 obtain ⟨⟨h1,h2,h3,h4,h5⟩,hd⟩:=h
 refine ⟨w.drawn-W.drawn,w.heap.extract W.heap.size w.heap.size,?_⟩
 obtain ⟨hp,tp,dr,os,out⟩:=w
 simp only at *
 have e:hp=W.heap++hp.extract W.heap.size hp.size:=by
  apply Array.ext_getElem?
  intro i
  by_cases hi:i < W.heap.size
  ·rw [h5 i hi,Array.getElem?_append_left hi]
  ·rw [Array.getElem?_append_right (by omega),Array.getElem?_extract]
   by_cases hi2:i < hp.size
   ·rw [if_pos (by omega)]
    congr 1;omega
   ·rw [if_neg (by omega),Array.getElem?_eq_none (by omega)]
 have ed:W.drawn+(dr-W.drawn)=dr:=by omega
 simp only [grow,World.drewN,ed,h1,h2,h3,← e]
/-- A call that leaves the world as it was, but for new blocks and draws. -/
theorem CtL.grows {P:Program} {f:FuncId} {vs:List Value} {w:World} {v:Value} (h:CtL P f vs w fun x Ln=>x=v∧Ln=[]∧True):Calls P f vs.toArray w fun e w'=>e = .returned v∧Gw w w':=by
 obtain ⟨_,h⟩:=h
 refine h.mono ?_
 rintro e w' ⟨v',Ln,rfl,⟨rfl,-,-⟩,-,hh⟩
 exact ⟨rfl,Ext.gw (hh.ok (.old w) (by simp))⟩
end Go.Proofs.YtbkobeeileemjaaGreat
/- An own row, sorted by a comparator: the row behind the shelf's contract. -/
namespace Go.Proofs.YtbkobeeileemjaaGreat
open Go Go.RowKit Go.Shelf Go.Sort
variable {α:Type} [Inhabited α]
theorem Amx {enc:α→List Value} {k:Nat} (hk:∀ x,(enc x).length=k) (h0:0 < k) (d:Array α):flatK enc k d=(d.toList.flatMap enc).toArray:=by
 have hl:(d.toList.flatMap enc).length=d.size*k:=by rw [Ku hk,Array.length_toList]
 apply Array.ext
 ·simp only [size_flatK,List.size_toArray,hl]
 ·intro t h1 h2
  have ht:t < d.size*k:=by simpa using h1
  have hq:t / k < d.size:=by rw [Nat.div_lt_iff_lt_mul h0];exact ht
  have hr:t % k < k:=Nat.mod_lt _ h0
  have hg:=get_flatK enc k d t ht
  rw [getElem!_pos _ t h1] at hg
  rw [hg]
  have hx:(enc d[t / k]!)[t % k]? = some (enc d[t / k]!)[t % k]!:=by
   rw [getElem!_pos (enc d[t / k]!) (t % k) (by rw [hk];exact hr)]
   exact List.getElem?_eq_getElem _
  have hd:d[t / k]! = d.toList[t / k]'(by simpa using hq):=by
   rw [getElem!_pos d _ hq];simp
  rw [hd] at hx ⊢
  have:=Ya (enc:=enc) d.toList (t / k) (by simpa using hq) (fun x _=>hk x) (t % k) _ hx
  rw [Nat.mul_comm,Nat.div_add_mod] at this
  have h3:=(List.getElem?_eq_some_iff.1 this).2
  rw [← h3]
  simp
/-- What the row holds ahead of the sort. -/
theorem Ar7 {enc:α→List Value} {k:Nat} (hk:∀ x,(enc x).length=k) (h0:0 < k) {w:World} {g:Nat} {cur:Array Value} {t:TypeId} (d:Array α) (hh:w.heap[g]? = some (.cells cur t (0,0)))
  (hc:cur.toList.take (d.size*k)=d.toList.flatMap enc):HoldsK enc k w g 0 d:=by
 intro j hj
 rw [Amx hk h0] at hj ⊢
 have hl:(d.toList.flatMap enc).length=d.size*k:=by rw [Ku hk,Array.length_toList]
 have hj':j < d.size*k:=by simpa [hl] using hj
 have hjl:j < (d.toList.flatMap enc).length:=by rw [hl];exact hj'
 refine ⟨?_,?_⟩
 ·have h7:(cur.toList.take (d.size*k))[j]? = (d.toList.flatMap enc)[j]?:=by rw [hc]
  rw [List.getElem?_take,if_pos hj'] at h7
  have h8:cur[j]? = some (d.toList.flatMap enc)[j]:=by rw [← Array.getElem?_toList,h7];exact List.getElem?_eq_getElem hjl
  have h9:w.cell? ⟨g,0+j,none⟩=cur[j]?:=by simp [World.cell?,hh]
  rw [h9,h8,getElem!_pos _ j hj]
  simp
 ·simp [World.frozen?,hh]
/-- What the row is behind the sort. -/
theorem Aho {enc:α→List Value} {k:Nat} (hk:∀ x,(enc x).length=k) (h0:0 < k) {w:World} {g c n:Nat} {cur:Array Value} {t:TypeId} {d d':Array α} {os:Array Obj} (hs:d'.size=d.size) (hh:w.heap[g]? = some (.cells cur t (0,0)))
  (hm:d.size≤c) (hcm:c≤maxLen) (hz:cur.size=c*k) :
  Ent.ok (sortWorldK enc k w g 0 n d' os) (.r (some ⟨g,0,none⟩) d.size c t k (d'.toList.flatMap enc))∧w.grownBy (sortWorldK enc k w g 0 n d' os) (some g):=by
 have hl:(d'.toList.flatMap enc).length=d.size*k:=by rw [Ku hk,Array.length_toList,hs]
 have hlt:=Eg hh
 have hg0:∀ q,q < w.heap.size→(sortWorldK enc k w g 0 n d' os).heap[q]? = (w.heap.modify g (onCells (putCells id 0 (flatK enc k d'))))[q]?:=fun q hq=>by
  show (((Go.Sort.ahead w n).heap.modify g (onCells (putCells id 0 (flatK enc k d'))))++os)[q]? = _
  rw [Array.getElem?_append_left (by rw [Array.size_modify];exact hq)]
  rfl
 refine ⟨⟨hl,.inr ⟨g,c,putCells id 0 (flatK enc k d') cur,rfl,Nat.zero_le _,?_,hm,hcm,?_,?_⟩⟩,⟨rfl,rfl,rfl,?_,fun q hq hne=>?_⟩⟩
 ·rw [hg0 g hlt,Array.getElem?_modify,if_pos rfl,hh];rfl
 ·simp [putCells,hz]
 ·apply List.ext_getElem?
  intro j
  rw [List.getElem?_take]
  by_cases hj:j < d.size*k
  ·rw [if_pos hj]
   have hjl:j < (d'.toList.flatMap enc).length:=by rw [hl];exact hj
   have hjc:j < cur.size:=by
    rw [hz];exact Nat.lt_of_lt_of_le hj (Nat.mul_le_mul_right _ hm)
   have hsz:j < (flatK enc k d').size:=by rw [size_flatK,hs];exact hj
   have h1:(flatK enc k d')[j]! = (d'.toList.flatMap enc)[j]:=by
    rw [Amx hk h0,getElem!_pos _ j (by simpa using hjl)]
    simp
   rw [Array.getElem?_toList,List.getElem?_eq_getElem hjl]
   simp only [putCells,Array.getElem?_mapIdx,Array.getElem?_eq_getElem hjc,Option.map_some]
   rw [if_pos ⟨Nat.zero_le _,by simpa using hsz⟩]
   simp only [Nat.sub_zero,id,h1]
  ·rw [if_neg hj,List.getElem?_eq_none (by rw [hl];omega)]
 ·show w.heap.size≤(((Go.Sort.ahead w n).heap.modify g (onCells (putCells id 0 (flatK enc k d'))))++os).size
  rw [Array.size_append,Array.size_modify]
  exact Nat.le_add_right _ _
 ·rw [hg0 q hq,Array.getElem?_modify]
  rw [if_neg (fun he=>hne (by rw [he]))]
end Go.Proofs.YtbkobeeileemjaaGreat
/- slices.SortFunc of an own row, by a comparator of a total order that may look at what the world holds beside the row. -/
namespace Go.Proofs.YtbkobeeileemjaaGreat
open Go Go.RowKit Go.Shelf Go.Sort
/-- The list, sorted by a comparator of a total order. -/
def Ar {α:Type} (cf:α→α→Int) (l:List α):List α:=l.mergeSort fun x y=>!(ltOf cf) y x
theorem Dg {α:Type} {cf:α→α→Int} {l:List α}:(Ar cf l).length=l.length:=by simp [Ar]
/-- A total order of what p holds. -/
structure Xg {β:Type} (p:β→Prop) (cf:β→β→Int):Prop where
 irr:∀ x,p x→¬ cf x x < 0
 trans:∀ x y z,p x→p y→p z→cf x y < 0→cf y z < 0→cf x z < 0
 tot:∀ x y,p x→p y→¬ cf x y < 0→¬ cf y x < 0→x=y
theorem Ahp {α:Type} {cf:α→α→Int} {x y:α}:ltOf cf x y=true↔cf x y < 0:=by simp [ltOf]
theorem Ss {α:Type} {cf:α→α→Int} {x y:α}:ltOf cf x y=false↔¬ cf x y < 0:=by simp [ltOf]
theorem Xg.swo {β:Type} {p:β→Prop} {cf:β→β→Int} (h:Xg p cf):SWO (ltOf fun x y:{x // p x}=>cf x.1 y.1) where
 irrefl x:=Ss.2 (h.irr x.1 x.2)
 trans x y z h1 h2:=Ahp.2 (h.trans x.1 y.1 z.1 x.2 y.2 z.2 (Ahp.1 h1) (Ahp.1 h2))
 ntrans x y z h1 h2:=by
  rw [Ss] at h1 h2 ⊢
  intro h3
  by_cases h4:cf y.1 x.1 < 0
  ·exact h2 (h.trans y.1 x.1 z.1 y.2 x.2 z.2 h4 h3)
  ·have:=h.tot x.1 y.1 x.2 y.2 h1 h4
   rw [this] at h3
   exact h2 h3
theorem Xg.one {β:Type} {p:β→Prop} {cf:β→β→Int} (h:Xg p cf) (x y:{x // p x}) (h1:ltOf (fun x y:{x // p x}=>cf x.1 y.1) x y=false) (h2:ltOf (fun x y:{x // p x}=>cf x.1 y.1) y x=false):x=y :=
 Subtype.ext (h.tot x.1 y.1 x.2 y.2 (Ss.1 h1) (Ss.1 h2))
/-- What the sort does to its row. -/
def Ac9 (P:Program) (f:FuncId) (A:Option Addr) (m c:Nat) (t:TypeId) (k:Nat) (gf:Nat) (cb:Array Value) (w:World) (xs ys:List Value):Prop :=
 Calls P f #[.slice A m c,.func (.func gf) #[] cb] w fun e w'=>e = .returned (.tuple #[])∧w.grownBy w' (Ent.blk (.r A m c t k xs))∧w.drawn≤w'.drawn∧Ent.ok w' (.r A m c t k ys)
/-- What the comparator does, in every world that the sort passes through. -/
def Ada (P:Program) {β:Type} (p:β→Prop) (cf:β→β→Int) (arg:β→Value) (A:Option Addr) (m c:Nat) (t:TypeId) (k:Nat) (gf:Nat) (cb:Array Value) (w:World) (xs:List Value):Prop :=
 ∀ (ys:List Value) W,Ent.ok W (.r A m c t k ys)→w.grownBy W (Ent.blk (.r A m c t k xs))→w.drawn≤W.drawn→∀ x y,p x→p y→Calls P gf (#[arg x,arg y]++cb) W fun e w'=>e = .returned (.int .i64 (cf x y))∧Gw W w'
theorem Xh {α:Type} [Inhabited α] (enc:α→List Value) (k:Nat) (w:World) (g off n:Nat) (d:Array α) (os:Array Obj):w.drawn≤(sortWorldK enc k w g off n d os).drawn:=Nat.le_add_right _ _
theorem Abv {β:Type} {p:β→Prop} {cf:β→β→Int} (l':List {x // p x}):Ar cf (l'.map Subtype.val)=(Ar (fun x y:{x // p x}=>cf x.1 y.1) l').map Subtype.val:=by
 unfold Ar
 rw [List.map_mergeSort]
 intro a _ b _
 rfl
/-- Rows of structs. -/
theorem Abw {P:Program} {ρ:Ren} (L:SlLaysF0.n6 P ρ) {β:Type} {p:β→Prop} {k:Nat} (aE:∀ w,(isAgg (ρ.t 24)).run P w = .ok true w) (zE:∀ w,(Go.sizeOf (ρ.t 24)).run P w = .ok k w) {enc:β→List Value} (hk:∀ x,(enc x).length=k) (h0:0 < k)
  (h1:∀ x,∀ v∈enc x,v.oneCell'=true) {cf:β→β→Int} (hT:Xg p cf) {gf:Nat} {cb:Array Value} (eg:∀ args w,(callFunc gf args).run P w = .ok (.enter gf args) w)
  (l:List β) (hb:l.length≤1000000000) (hp:∀ x∈l,p x) {A:Option Addr} {m c:Nat} {t:TypeId} (w:World) (hok:Ent.ok w (.r A m c t k (l.flatMap enc)))
  (hcmp:Ada P p cf (fun x=>.agg (enc x).toArray) A m c t k gf cb w (l.flatMap enc)):Ac9 P (ρ.f 6) A m c t k gf cb w (l.flatMap enc) ((Ar cf l).flatMap enc):=by
 obtain ⟨hl,h2⟩:=hok
 rw [Ku hk] at hl
 have hm:l.length=m:=Nat.eq_of_mul_eq_mul_right h0 hl
 subst hm
 by_cases hl0:l=[]
 ·subst hl0
  refine (AnyF.slices_SortFunc_none L A c _ w).mono ?_
  rintro e w' ⟨rfl,rfl⟩
  exact ⟨rfl,⟨rfl,rfl,rfl,Nat.le_refl _,fun _ _ _=>rfl⟩,Nat.le_refl _,by rw [show Ar cf ([]:List β)=[] by simp [Ar]];exact ⟨by simp,h2⟩⟩
 ·obtain ⟨l',hl'⟩:∃ l':List {x // p x},l=l'.map Subtype.val:=⟨l.attach.map fun x=>⟨x.1,hp x.1 x.2⟩,by simp only [List.map_map,Function.comp_def];exact (List.attach_map_subtype_val _).symm⟩
  obtain ⟨x0,hx0⟩:=List.exists_mem_of_ne_nil l hl0
  have:Inhabited {x // p x}:=⟨⟨x0,hp x0 hx0⟩⟩
  clear hl0 hx0
  subst hl'
  have hf:∀ q:List {x // p x},(q.map Subtype.val).flatMap enc=q.flatMap fun x=>enc x.1:=fun q=>by rw [List.flatMap_map]
  have hk':∀ x:{x // p x},(enc x.1).length=k:=fun x=>hk x.1
  rcases h2 with ⟨hv,hz⟩ | ⟨g,cap,cur,hv,hbg,hh,h3,h4,h5,h6⟩
  ·injection hv with e1 e2 e3
   subst e1;subst e3
   rw [hz]
   have hl0:l'=[]:=by simpa using hz
   subst hl0
   refine (AnyF.slices_SortFunc_none L none 0 _ w).mono ?_
   rintro e w' ⟨rfl,rfl⟩
   exact ⟨rfl,⟨rfl,rfl,rfl,Nat.le_refl _,fun _ _ _=>rfl⟩,Nat.le_refl _,by simp [Ar],.inl ⟨rfl,rfl⟩⟩
  ·injection hv with e1 e2 e3
   subst e1;subst e3
   unfold Ada at hcmp
   unfold Ac9
   rw [Abv,hf,hf]
   rw [hf] at h6 hcmp
   rw [List.length_map] at h3 h6 hl hb hcmp ⊢
   have hH:HoldsK (fun x:{x // p x}=>enc x.1) k w g 0 l'.toArray:=Ar7 hk' h0 l'.toArray hh (by simpa using h6)
   have hcl:CmpLays P gf cb (fun x:{x // p x}=>enc x.1) k (fun x y=>cf x.1 y.1) g 0 l'.toArray.size w:=fun q os dk hdk x y=>by
    have hr:=Aho hk' h0 (d:=l'.toArray) (d':=dk) (n:=q) (os:=os) hdk hh (by simpa using h3) h4 h5
    simp only [List.size_toArray] at hr
    exact hcmp _ _ hr.1 hr.2 (Xh _ _ _ _ _ _ _ _) x.1 y.1 x.2 y.2
   have:=AnyQ.slices_SortFunc_total L k aE zE (fun x:{x // p x}=>enc x.1) hk' (fun x=>h1 x.1) (fun x y=>cf x.1 y.1) hT.swo gf cb g 0 c l'.toArray w eg hcl hH (Eg hh) (by simp;omega) hT.one
   rw [show l'.toArray.size=l'.length by simp] at this
   refine this.mono ?_
   rintro e w' ⟨rfl,n,os,rfl⟩
   have hs:(l'.toArray.toList.mergeSort fun x y=>!(ltOf fun x y:{x // p x}=>cf x.1 y.1) y x).toArray.size=l'.toArray.size:=by simp
   have hr:=Aho hk' h0 (d:=l'.toArray) (d':=(l'.toArray.toList.mergeSort fun x y=>!(ltOf fun x y:{x // p x}=>cf x.1 y.1) y x).toArray) (n:=n) (os:=os) hs hh (by simpa using h3) h4 h5
   refine ⟨rfl,hr.2,Xh _ _ _ _ _ _ _ _,?_⟩
   have h7:=hr.1
   simp only [List.size_toArray] at h7
   exact h7
section
variable {P:Program} {n:Nat} {N:Act→World→Prop} {Q:Exit→Act→World→Prop} {fr:List (Nat × Value)} {L L':List Ent}
/-- The call of a sort. -/
theorem St {β:Type} {p:β→Prop} {enc:β→List Value} {arg:β→Value} {cf:β→β→Int} {k f gf:Nat} {cb:Array Value} (l:List β) {i m c:Nat} {A:Option Addr} {t:TypeId} {xs:List Operand} {ts:Array TypeId} {ty':TypeId} {pos:String} {after:Array Edge} {guard:Option (Nat × Bool)}
  (he:Uh P f) (hs:∀ w,Ent.ok w (.r A m c t k (l.flatMap enc))→Ada P p cf arg A m c t k gf cb w (l.flatMap enc)→Ac9 P f A m c t k gf cb w (l.flatMap enc) ((Ar cf l).flatMap enc))
  (Lf:List Value→List Ent) (hLf:∀ ys,SetE L i (.r A m c t k (l.flatMap enc)) (.r A m c t k ys) (Lf ys)) (hc:∀ ys W,Heap (Lf ys) W→∀ x y,p x→p y→∃ xs,xs.toArray = #[arg x,arg y]++cb∧CtL P gf xs W fun v Ln=>v = .int .i64 (cf x y)∧Ln=[]∧True)
  (hx:evos fr xs=some [.slice A m c,.func (.func gf) #[] cb]) (hL:Lf ((Ar cf l).flatMap enc)=L')
  {d:Nat} (hd:Nat.blt d n=true) (kk:T n N ((d,.tuple #[])::fr) L'):Wh P Q n ⟨some d,.call ⟨.value (.func f),xs.toArray,ts⟩,ty',pos,after,guard⟩ fr L N:=by
 intro a w ha hw
 subst hL
 have turn:∀ ys W,Ent.ok W (.r A m c t k ys)→w.grownBy W (Ent.blk (.r A m c t k (l.flatMap enc)))→w.drawn≤W.drawn→Heap (Lf ys) W:=fun ys W h1 h2 h3 =>
  Heap.turn (e:=.r A m c t k (l.flatMap enc)) (e':=.r A m c t k ys) h2 h1 (Nat.le_refl _) (fun _ hg=>.inl hg) (hLf ys) hw (hd:=h3)
 simp only [Oper.wp,Acb he ha hx,Oper.upon_enter]
 refine (hs w (hw.ok _ (hLf []).mem) fun ys W h1 h2 h3 x y px py=>?_).mono ?_
 ·obtain ⟨xs,e,h⟩:=hc ys W (turn ys W h1 h2 h3) x y px py
  rw [← e]
  exact h.grows
 ·rintro e w' ⟨rfl,hg,hdr,hok⟩
  exact kk _ _ (ha.put hd) (turn _ _ hok hg hdr)
end
end Go.Proofs.YtbkobeeileemjaaGreat
/- slices.SortFunc of an own row of values of one cell. -/
namespace Go.Proofs.YtbkobeeileemjaaGreat
open Go Go.RowKit Go.Shelf Go.Sort
theorem Ad7 {α:Type} {f:α→Value}:∀ l:List α,l.flatMap (fun x=>[f x])=l.map f
 | []=>rfl
 | x::r=>by rw [List.flatMap_cons,Ad7 r];rfl
section
variable {α:Type} [Inhabited α] {enc:α→Value}
theorem Aoi {w:World} {g:Nat} {cur:Array Value} {t:TypeId} (l:List α) (hh:w.heap[g]? = some (.cells cur t (0,0))) (h6:cur.toList.take l.length=l.map enc):Holds enc w g 0 l.toArray:=fun j hj=>by
 have hj':j < l.length:=by simpa using hj
 refine ⟨?_,?_⟩
 ·have h7:(cur.toList.take l.length)[j]? = some (enc l[j]):=by rw [h6];simp [hj']
  rw [List.getElem?_take,if_pos hj'] at h7
  have h8:cur[j]? = some (enc l[j]):=by simpa using h7
  simp [World.cell?,hh,h8,hj']
 ·simp [World.frozen?,hh]
theorem Afa {w:World} {g c n:Nat} {cur:Array Value} {t:TypeId} {d:List α} {d':Array α} {os:Array Obj} (hs:d'.size=d.length) (hh:w.heap[g]? = some (.cells cur t (0,0))) (h3:d.length≤c) (h4:c≤maxLen) (h5:cur.size=c) :
  Ent.ok (sortWorld enc w g 0 n d' os) (.r (some ⟨g,0,none⟩) d.length c t 1 (d'.toList.map enc))∧w.grownBy (sortWorld enc w g 0 n d' os) (some g):=by
 have hlt:=Eg hh
 have hg0:∀ k,k < w.heap.size→(sortWorld enc w g 0 n d' os).heap[k]? = (w.heap.modify g (onCells (putCells enc 0 d')))[k]?:=fun k hk=>by
  show (((Go.Sort.ahead w n).heap.modify g (onCells (putCells enc 0 d')))++os)[k]? = _
  rw [Array.getElem?_append_left (by rw [Array.size_modify];exact hk)]
  rfl
 refine ⟨⟨by rw [List.length_map,Array.length_toList,hs,Nat.mul_one],.inr ⟨g,c,putCells enc 0 d' cur,rfl,Nat.zero_le _,?_,h3,h4,?_,?_⟩⟩,⟨rfl,rfl,rfl,?_,fun k hk hne=>?_⟩⟩
 ·rw [hg0 g hlt,Array.getElem?_modify,if_pos rfl,hh];rfl
 ·simp [putCells,h5]
 ·rw [Nat.mul_one]
  apply List.ext_getElem?
  intro j
  rw [List.getElem?_take]
  by_cases hj:j < d.length
  ·rw [if_pos hj]
   have hj':j < d'.size:=by omega
   have hjc:j < cur.size:=by omega
   rw [List.getElem?_map,Array.getElem?_toList,show d'.toList[j]? = some d'[j] by simp [hj']]
   simp only [putCells,Array.getElem?_mapIdx,Array.getElem?_eq_getElem hjc,Option.map_some]
   rw [if_pos ⟨Nat.zero_le _,by omega⟩]
   simp [hj']
  ·rw [if_neg hj,List.getElem?_eq_none (by rw [List.length_map,Array.length_toList];omega)]
 ·show w.heap.size≤(((Go.Sort.ahead w n).heap.modify g (onCells (putCells enc 0 d')))++os).size
  rw [Array.size_append,Array.size_modify]
  exact Nat.le_add_right _ _
 ·rw [hg0 k hk,Array.getElem?_modify]
  rw [if_neg (fun he=>hne (by rw [he]))]
end
theorem Yp {α:Type} [Inhabited α] (enc:α→Value) (w:World) (g off n:Nat) (d:Array α) (os:Array Obj):w.drawn≤(sortWorld enc w g off n d os).drawn:=Nat.le_add_right _ _
/-- Rows of values of one cell. -/
theorem Aoj {P:Program} {ρ:Ren} (L:SlLaysF.n6 P ρ) {β:Type} {p:β→Prop} {enc:β→Value} (h1:∀ x,(enc x).oneCell'=true) {cf:β→β→Int} (hT:Xg p cf) {gf:Nat} {cb:Array Value} (eg:∀ args w,(callFunc gf args).run P w = .ok (.enter gf args) w)
  (l:List β) (hb:l.length≤1000000000) (hp:∀ x∈l,p x) {A:Option Addr} {m c:Nat} {t:TypeId} (w:World) (hok:Ent.ok w (.r A m c t 1 (l.flatMap fun x=>[enc x])))
  (hcmp:Ada P p cf enc A m c t 1 gf cb w (l.flatMap fun x=>[enc x])):Ac9 P (ρ.f 6) A m c t 1 gf cb w (l.flatMap fun x=>[enc x]) ((Ar cf l).flatMap fun x=>[enc x]):=by
 rw [Ad7] at hok hcmp ⊢
 rw [Ad7]
 obtain ⟨hl,h2⟩:=hok
 rw [List.length_map,Nat.mul_one] at hl
 subst hl
 by_cases hl0:l=[]
 ·subst hl0
  refine (AnyF.slices_SortFunc_none { L with } A c _ w).mono ?_
  rintro e w' ⟨rfl,rfl⟩
  exact ⟨rfl,⟨rfl,rfl,rfl,Nat.le_refl _,fun _ _ _=>rfl⟩,Nat.le_refl _,by rw [show Ar cf ([]:List β)=[] by simp [Ar]];exact ⟨by simp,h2⟩⟩
 ·obtain ⟨l',hl'⟩:∃ l':List {x // p x},l=l'.map Subtype.val:=⟨l.attach.map fun x=>⟨x.1,hp x.1 x.2⟩,by simp only [List.map_map,Function.comp_def];exact (List.attach_map_subtype_val _).symm⟩
  obtain ⟨x0,hx0⟩:=List.exists_mem_of_ne_nil l hl0
  have:Inhabited {x // p x}:=⟨⟨x0,hp x0 hx0⟩⟩
  clear hx0
  subst hl'
  rcases h2 with ⟨hv,hz⟩ | ⟨g,cap,cur,hv,hbg,hh,h3,h4,h5,h6⟩
  ·exact absurd (List.eq_nil_of_length_eq_zero hz) hl0
  ·injection hv with e1 e2 e3
   subst e1;subst e3
   unfold Ada at hcmp
   unfold Ac9
   rw [Abv,List.map_map,List.map_map]
   rw [List.map_map] at h6 hcmp
   rw [List.length_map] at h3 h6 hb hcmp ⊢
   rw [Nat.mul_one] at h5 h6
   have hH:Holds (fun x:{x // p x}=>enc x.1) w g 0 l'.toArray:=Aoi l' hh h6
   have hcl:CmpLays1 P gf cb (fun x:{x // p x}=>enc x.1) (fun x y=>cf x.1 y.1) g 0 l'.toArray.size w:=fun q os dk hdk x y=>by
    have hr:=Afa (enc:=fun x:{x // p x}=>enc x.1) (d:=l') (d':=dk) (n:=q) (os:=os) (by simpa using hdk) hh h3 h4 h5
    exact hcmp _ _ hr.1 hr.2 (Yp _ _ _ _ _ _ _) x.1 y.1 x.2 y.2
   have:=Any.slices_SortFunc_total L (fun x:{x // p x}=>enc x.1) (fun x=>h1 x.1) (fun x y=>cf x.1 y.1) hT.swo gf cb g 0 c l'.toArray w eg hcl hH (Eg hh) (by simp;omega) hT.one
   rw [show l'.toArray.size=l'.length by simp] at this
   refine this.mono ?_
   rintro e w' ⟨rfl,n,os,rfl⟩
   have hr:=Afa (enc:=fun x:{x // p x}=>enc x.1) (d:=l') (d':=(Ar (fun x y:{x // p x}=>cf x.1 y.1) l').toArray) (n:=n) (os:=os) (by simp [Dg]) hh h3 h4 h5
   exact ⟨rfl,hr.2,Yp _ _ _ _ _ _ _,by simpa [Ar] using hr.1⟩
end Go.Proofs.YtbkobeeileemjaaGreat
/- Function values with captures; arrays as slices. -/
namespace Go.Proofs.YtbkobeeileemjaaGreat
open Go Go.RowKit
theorem SetE.perm {L i e e' L'} (h:SetE L i e e' L'):∃ Lr,L.Perm (e::Lr)∧L'.Perm (e' :: Lr):=by
 induction h with
 | @here e e' L=>exact ⟨L,List.Perm.refl _,List.Perm.refl _⟩
 | @there x L i e e' L' _ ih =>
  obtain ⟨Lr,h1,h2⟩:=ih
  exact ⟨x::Lr,(h1.cons x).trans (List.Perm.swap _ _ _),(h2.cons x).trans (List.Perm.swap _ _ _)⟩
section
variable {P:Program} {n:Nat} {fr:List (Nat × Value)} {L:List Ent}
variable {dst:Option Tmp} {ty:TypeId} {pos:String} {after:Array Edge} {guard:Option (Nat × Bool)}
theorem Aqa {t m sz} {x:Operand} {g o:Nat} (hx:evo fr x=some (.pointer (some ⟨g,o,none⟩))) (ht:Afc P t m sz) (hm:Nat.beq m 0=false):Ev P n ⟨dst,.slice t x none none none,ty,pos,after,guard⟩ fr L (.slice (some ⟨g,o,none⟩) m m):=fun a w ha _=>by
 obtain ⟨e,hu,hs⟩:=ht
 have hm':m≠0:=Nat.ne_of_beq_eq_false hm
 simp [execOp,ha.eval hx,Instr.sliceAt,run_underlying hu,Instr.sureAddr,Instr.sliceBounds,hs,Addr.add_lit]
end
end Go.Proofs.YtbkobeeileemjaaGreat
