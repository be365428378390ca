/- slices.SortFunc of an own row, by a comparator of a total order that may look at what the world holds beside the row. -/
import Derived.Test.YtjfndjmabhbicaaGreatSortK
import Derived.Shelf.SlSortCmp.NoneTotal
import Derived.Shelf.SlSortCmp.Whole1
import Derived.ArgAppend
import Derived.LoopN
import Derived.Laws.Externs
namespace Go.Proofs.YtjfndjmabhbicaaGreat
open Go Go.RowKit Go.Shelf Go.Sort
def Au {α:Type} (cf:α->α->Int) (l:List α):List α:=l.mergeSort fun x y=>!(ltOf cf) y x
theorem Bo {α:Type} {cf:α->α->Int} {l:List α}:(Au cf l).length=l.length:=by simp[Au]
structure Ww {β:Type} (p:β->Prop) (cf:β->β->Int):Prop where
 irr:∀ x,p x->¬ cf x x < 0
 trans:∀ x y z,p x->p y->p z->cf x y < 0->cf y z < 0->cf x z < 0
 tot:∀ x y,p x->p y->¬ cf x y < 0->¬ cf y x < 0->x=y
theorem Afu {α:Type} {cf:α->α->Int} {x y:α}:ltOf cf x y=true↔cf x y < 0:=by simp[ltOf]
theorem Rz {α:Type} {cf:α->α->Int} {x y:α}:ltOf cf x y=false↔¬ cf x y < 0:=by simp[ltOf]
theorem Ww.swo {β:Type} {p:β->Prop} {cf:β->β->Int} (h:Ww p cf):SWO (ltOf fun x y:{x // p x}=>cf x.1 y.1) where
 irrefl x:=Rz.2 (h.irr x.1 x.2)
 trans x y z h1 h2:=Afu.2 (h.trans x.1 y.1 z.1 x.2 y.2 z.2 (Afu.1 h1) (Afu.1 h2))
 ntrans x y z h1 h2:=by
  rw[Rz] at h1 h2 ⊢
  intro h3
  by_cases h4:cf y.1 x.1 < 0
  ·exact h2 (h.trans y.1 x.1 z.1 y.2 x.2 z.2 h4 h3)
  ·have:=h.tot x.1 y.1 x.2 y.2 h1 h4
   rw[this] at h3
   exact h2 h3
theorem Ww.one {β:Type} {p:β->Prop} {cf:β->β->Int} (h:Ww p cf) (x y:{x // p x}) (h1:ltOf (fun x y:{x // p x}=>cf x.1 y.1) x y=false) (h2:ltOf (fun x y:{x // p x}=>cf x.1 y.1) y x=false):x=y :=
 Subtype.ext (h.tot x.1 y.1 x.2 y.2 (Rz.1 h1) (Rz.1 h2))
def Abq (P:Program) (f:FuncId) (A:Option Addr) (m c:Nat) (t:TypeId) (k:Nat) (gf:Nat) (cb:Array Value) (w:World) (xs ys:List Value):Prop :=
 Calls P f #[.slice A m c,.func (.func gf) #[] cb] w fun e w'=>e = .returned (.tuple #[])/\w.grownBy w' (Ent.blk (.r A m c t k xs))/\w.drawn<=w'.drawn/\Ent.ok w' (.r A m c t k ys)
def Abr (P:Program) {β:Type} (p:β->Prop) (cf:β->β->Int) (arg:β->Value) (A:Option Addr) (m c:Nat) (t:TypeId) (k:Nat) (gf:Nat) (cb:Array Value) (w:World) (xs:List Value):Prop :=
 ∀ (ys:List Value) W,Ent.ok W (.r A m c t k ys)->w.grownBy W (Ent.blk (.r A m c t k xs))->w.drawn<=W.drawn->∀ x y,p x->p y->Calls P gf (#[arg x,arg y]++cb) W fun e w'=>e = .returned (.int .i64 (cf x y))/\Gw W w'
theorem Vm {α:Type} [Inhabited α] (enc:α->List Value) (k:Nat) (w:World) (g off n:Nat) (d:Array α) (os:Array Obj):w.drawn<=(sortWorldK enc k w g off n d os).drawn:=Nat.le_add_right _ _
theorem Aaq {β:Type} {p:β->Prop} {cf:β->β->Int} (l':List {x // p x}):Au cf (l'.map Subtype.val)=(Au (fun x y:{x // p x}=>cf x.1 y.1) l').map Subtype.val:=by
 unfold Au
 rw[List.map_mergeSort]
 intro a _ b _
 rfl
theorem Afv {P:Program} {ρ:Ren} (L:SlLaysF0.n6 P ρ) {β:Type} {p:β->Prop} {k:Nat} (aE:∀ w,(isAgg (ρ.t 24)).run P w = .ok true w) (zE:∀ w,(Go.sizeOf (ρ.t 24)).run P w = .ok k w) {enc:β->List Value} (hk:∀ x,(enc x).length=k) (h0:0 < k)
  (h1:∀ x,∀ v∈enc x,v.oneCell'=true) {cf:β->β->Int} (hT:Ww p cf) {gf:Nat} {cb:Array Value} (eg:∀ args w,(callFunc gf args).run P w = .ok (.enter gf args) w)
  (l:List β) (hb:l.length<=1000000000) (hp:∀ x∈l,p x) {A:Option Addr} {m c:Nat} {t:TypeId} (w:World) (hok:Ent.ok w (.r A m c t k (l.flatMap enc)))
  (hcmp:Abr P p cf (fun x=>.agg (enc x).toArray) A m c t k gf cb w (l.flatMap enc)):Abq P (ρ.f 6) A m c t k gf cb w (l.flatMap enc) ((Au cf l).flatMap enc):=by
 obtain ⟨hl,h2⟩:=hok
 rw[Jw hk] at hl
 have hm:l.length=m:=Nat.eq_of_mul_eq_mul_right h0 hl
 subst hm
 by_cases hl0:l=[]
 ·subst hl0
  refine (AnyF.slices_SortFunc_none L A c _ w).mono ?_
  rintro e w' ⟨rfl,rfl⟩
  exact ⟨rfl,⟨rfl,rfl,rfl,Nat.le_refl _,fun _ _ _=>rfl⟩,Nat.le_refl _,by rw[show Au cf ([]:List β)=[] by simp[Au]];exact ⟨by simp,h2⟩⟩
 ·obtain ⟨l',hl'⟩:∃ l':List {x // p x},l=l'.map Subtype.val:=⟨l.attach.map fun x=>⟨x.1,hp x.1 x.2⟩,by simp only[List.map_map,Function.comp_def];exact (List.attach_map_subtype_val _).symm⟩
  obtain ⟨x0,hx0⟩:=List.exists_mem_of_ne_nil l hl0
  have:Inhabited {x // p x}:=⟨⟨x0,hp x0 hx0⟩⟩
  clear hl0 hx0
  subst hl'
  have hf:∀ q:List {x // p x},(q.map Subtype.val).flatMap enc=q.flatMap fun x=>enc x.1:=fun q=>by rw[List.flatMap_map]
  have hk':∀ x:{x // p x},(enc x.1).length=k:=fun x=>hk x.1
  rcases h2 with ⟨hv,hz⟩ | ⟨g,cap,cur,hv,hbg,hh,h3,h4,h5,h6⟩
  ·injection hv with e1 e2 e3
   subst e1;subst e3
   rw[hz]
   have hl0:l'=[]:=by simpa using hz
   subst hl0
   refine (AnyF.slices_SortFunc_none L none 0 _ w).mono ?_
   rintro e w' ⟨rfl,rfl⟩
   exact ⟨rfl,⟨rfl,rfl,rfl,Nat.le_refl _,fun _ _ _=>rfl⟩,Nat.le_refl _,by simp[Au],.inl ⟨rfl,rfl⟩⟩
  ·injection hv with e1 e2 e3
   subst e1;subst e3
   unfold Abr at hcmp
   unfold Abq
   rw[Aaq,hf,hf]
   rw[hf] at h6 hcmp
   rw[List.length_map] at h3 h6 hl hb hcmp ⊢
   have hH:HoldsK (fun x:{x // p x}=>enc x.1) k w g 0 l'.toArray:=App hk' h0 l'.toArray hh (by simpa using h6)
   have hcl:CmpLays P gf cb (fun x:{x // p x}=>enc x.1) k (fun x y=>cf x.1 y.1) g 0 l'.toArray.size w:=fun q os dk hdk x y=>by
    have hr:=Aev hk' h0 (d:=l'.toArray) (d':=dk) (n:=q) (os:=os) hdk hh (by simpa using h3) h4 h5
    simp only[List.size_toArray] at hr
    exact hcmp _ _ hr.1 hr.2 (Vm _ _ _ _ _ _ _ _) x.1 y.1 x.2 y.2
   have:=AnyQ.slices_SortFunc_total L k aE zE (fun x:{x // p x}=>enc x.1) hk' (fun x=>h1 x.1) (fun x y=>cf x.1 y.1) hT.swo gf cb g 0 c l'.toArray w eg hcl hH (Ek hh) (by simp;omega) hT.one
   rw[show l'.toArray.size=l'.length by simp] at this
   refine this.mono ?_
   rintro e w' ⟨rfl,n,os,rfl⟩
   have hs:(l'.toArray.toList.mergeSort fun x y=>!(ltOf fun x y:{x // p x}=>cf x.1 y.1) y x).toArray.size=l'.toArray.size:=by simp
   have hr:=Aev hk' h0 (d:=l'.toArray) (d':=(l'.toArray.toList.mergeSort fun x y=>!(ltOf fun x y:{x // p x}=>cf x.1 y.1) y x).toArray) (n:=n) (os:=os) hs hh (by simpa using h3) h4 h5
   refine ⟨rfl,hr.2,Vm _ _ _ _ _ _ _ _,?_⟩
   have h7:=hr.1
   simp only[List.size_toArray] at h7
   exact h7
section
variable {P:Program} {n:Nat} {N:Act->World->Prop} {Q:Exit->Act->World->Prop} {fr:List (Nat × Value)} {L L':List Ent}
theorem Yd {β:Type} {p:β->Prop} {enc:β->List Value} {arg:β->Value} {cf:β->β->Int} {k f gf:Nat} {cb:Array Value} (l:List β) {i m c:Nat} {A:Option Addr} {t:TypeId} {xs:List Operand} {ts:Array TypeId} {ty':TypeId} {pos:String} {after:Array Edge} {guard:Option (Nat × Bool)}
  (he:Uj P f) (hs:∀ w,Ent.ok w (.r A m c t k (l.flatMap enc))->Abr P p cf arg A m c t k gf cb w (l.flatMap enc)->Abq P f A m c t k gf cb w (l.flatMap enc) ((Au cf l).flatMap enc))
  (Lf:List Value->List Ent) (hLf:∀ ys,SetE L i (.r A m c t k (l.flatMap enc)) (.r A m c t k ys) (Lf ys)) (hc:∀ ys W,Heap (Lf ys) W->∀ x y,p x->p y->∃ xs,xs.toArray = #[arg x,arg y]++cb/\CtL P gf xs W fun v Ln=>v = .int .i64 (cf x y)/\Ln=[]/\True)
  (hx:evos fr xs=some [.slice A m c,.func (.func gf) #[] cb]) (hL:Lf ((Au cf l).flatMap enc)=L')
  {d:Nat} (hd:Nat.blt d n=true) (kk:T n N ((d,.tuple #[])::fr) L'):Wh P Q n ⟨some d,.call ⟨.value (.func f),xs.toArray,ts⟩,ty',pos,after,guard⟩ fr L N:=by
 intro a w ha hw
 subst hL
 have turn:∀ ys W,Ent.ok W (.r A m c t k ys)->w.grownBy W (Ent.blk (.r A m c t k (l.flatMap enc)))->w.drawn<=W.drawn->Heap (Lf ys) W:=fun ys W h1 h2 h3=>
  Heap.turn (e:=.r A m c t k (l.flatMap enc)) (e':=.r A m c t k ys) h2 h1 (Nat.le_refl _) (fun _ hg=>.inl hg) (hLf ys) hw (hd:=h3)
 simp only[Oper.wp,Aeo he ha hx,Oper.upon_enter]
 refine (hs w (hw.ok _ (hLf []).mem) fun ys W h1 h2 h3 x y px py=>?_).mono ?_
 ·obtain ⟨xs,e,h⟩:=hc ys W (turn ys W h1 h2 h3) x y px py
  rw[<- e]
  exact h.grows
 ·rintro e w' ⟨rfl,hg,hdr,hok⟩
  exact kk _ _ (ha.put hd) (turn _ _ hok hg hdr)
end
theorem Ach {α:Type} {f:α->Value}:∀ l:List α,l.flatMap (fun x=>[f x])=l.map f
 | []=>rfl
 | x::r=>by rw[List.flatMap_cons,Ach r];rfl
section
variable {α:Type} [Inhabited α] {enc:α->Value}
theorem Amm {w:World} {g:Nat} {cur:Array Value} {t:TypeId} (l:List α) (hh:w.heap[g]? = some (.cells cur t (0,0))) (h6:cur.toList.take l.length=l.map enc):Holds enc w g 0 l.toArray:=fun j hj=>by
 have hj':j < l.length:=by simpa using hj
 refine ⟨?_,?_⟩
 ·have h7:(cur.toList.take l.length)[j]? = some (enc l[j]):=by rw[h6];simp[hj']
  rw[List.getElem?_take,if_pos hj'] at h7
  have h8:cur[j]? = some (enc l[j]):=by simpa using h7
  simp[World.cell?,hh,h8,hj']
 ·simp[World.frozen?,hh]
theorem Ac8 {w:World} {g c n:Nat} {cur:Array Value} {t:TypeId} {d:List α} {d':Array α} {os:Array Obj} (hs:d'.size=d.length) (hh:w.heap[g]? = some (.cells cur t (0,0))) (h3:d.length<=c) (h4:c<=maxLen) (h5:cur.size=c) :
  Ent.ok (sortWorld enc w g 0 n d' os) (.r (some ⟨g,0,none⟩) d.length c t 1 (d'.toList.map enc))/\w.grownBy (sortWorld enc w g 0 n d' os) (some g):=by
 have hlt:=Ek hh
 have hg0:∀ k,k < w.heap.size->(sortWorld enc w g 0 n d' os).heap[k]? = (w.heap.modify g (onCells (putCells enc 0 d')))[k]?:=fun k hk=>by
  show (((Go.Sort.ahead w n).heap.modify g (onCells (putCells enc 0 d')))++os)[k]? = _
  rw[Array.getElem?_append_left (by rw[Array.size_modify];exact hk)]
  rfl
 refine ⟨⟨by rw[List.length_map,Array.length_toList,hs,Nat.mul_one],.inr ⟨g,c,putCells enc 0 d' cur,rfl,Nat.zero_le _,?_,h3,h4,?_,?_⟩⟩,⟨rfl,rfl,rfl,?_,fun k hk hne=>?_⟩⟩
 ·rw[hg0 g hlt,Array.getElem?_modify,if_pos rfl,hh];rfl
 ·simp[putCells,h5]
 ·rw[Nat.mul_one]
  apply List.ext_getElem?
  intro j
  rw[List.getElem?_take]
  by_cases hj:j < d.length
  ·rw[if_pos hj]
   have hj':j < d'.size:=by omega
   have hjc:j < cur.size:=by omega
   rw[List.getElem?_map,Array.getElem?_toList,show d'.toList[j]? = some d'[j] by simp[hj']]
   simp only[putCells,Array.getElem?_mapIdx,Array.getElem?_eq_getElem hjc,Option.map_some]
   rw[if_pos ⟨Nat.zero_le _,by omega⟩]
   simp[hj']
  ·rw[if_neg hj,List.getElem?_eq_none (by rw[List.length_map,Array.length_toList];omega)]
 ·show w.heap.size<=(((Go.Sort.ahead w n).heap.modify g (onCells (putCells enc 0 d')))++os).size
  rw[Array.size_append,Array.size_modify]
  exact Nat.le_add_right _ _
 ·rw[hg0 k hk,Array.getElem?_modify]
  rw[if_neg (fun he=>hne (by rw[he]))]
end
theorem Wy {α:Type} [Inhabited α] (enc:α->Value) (w:World) (g off n:Nat) (d:Array α) (os:Array Obj):w.drawn<=(sortWorld enc w g off n d os).drawn:=Nat.le_add_right _ _
theorem Amn {P:Program} {ρ:Ren} (L:SlLaysF.n6 P ρ) {β:Type} {p:β->Prop} {enc:β->Value} (h1:∀ x,(enc x).oneCell'=true) {cf:β->β->Int} (hT:Ww p cf) {gf:Nat} {cb:Array Value} (eg:∀ args w,(callFunc gf args).run P w = .ok (.enter gf args) w)
  (l:List β) (hb:l.length<=1000000000) (hp:∀ x∈l,p x) {A:Option Addr} {m c:Nat} {t:TypeId} (w:World) (hok:Ent.ok w (.r A m c t 1 (l.flatMap fun x=>[enc x])))
  (hcmp:Abr P p cf enc A m c t 1 gf cb w (l.flatMap fun x=>[enc x])):Abq P (ρ.f 6) A m c t 1 gf cb w (l.flatMap fun x=>[enc x]) ((Au cf l).flatMap fun x=>[enc x]):=by
 rw[Ach] at hok hcmp ⊢
 rw[Ach]
 obtain ⟨hl,h2⟩:=hok
 rw[List.length_map,Nat.mul_one] at hl
 subst hl
 by_cases hl0:l=[]
 ·subst hl0
  refine (AnyF.slices_SortFunc_none { L with } A c _ w).mono ?_
  rintro e w' ⟨rfl,rfl⟩
  exact ⟨rfl,⟨rfl,rfl,rfl,Nat.le_refl _,fun _ _ _=>rfl⟩,Nat.le_refl _,by rw[show Au cf ([]:List β)=[] by simp[Au]];exact ⟨by simp,h2⟩⟩
 ·obtain ⟨l',hl'⟩:∃ l':List {x // p x},l=l'.map Subtype.val:=⟨l.attach.map fun x=>⟨x.1,hp x.1 x.2⟩,by simp only[List.map_map,Function.comp_def];exact (List.attach_map_subtype_val _).symm⟩
  obtain ⟨x0,hx0⟩:=List.exists_mem_of_ne_nil l hl0
  have:Inhabited {x // p x}:=⟨⟨x0,hp x0 hx0⟩⟩
  clear hx0
  subst hl'
  rcases h2 with ⟨hv,hz⟩ | ⟨g,cap,cur,hv,hbg,hh,h3,h4,h5,h6⟩
  ·exact absurd (List.eq_nil_of_length_eq_zero hz) hl0
  ·injection hv with e1 e2 e3
   subst e1;subst e3
   unfold Abr at hcmp
   unfold Abq
   rw[Aaq,List.map_map,List.map_map]
   rw[List.map_map] at h6 hcmp
   rw[List.length_map] at h3 h6 hb hcmp ⊢
   rw[Nat.mul_one] at h5 h6
   have hH:Holds (fun x:{x // p x}=>enc x.1) w g 0 l'.toArray:=Amm l' hh h6
   have hcl:CmpLays1 P gf cb (fun x:{x // p x}=>enc x.1) (fun x y=>cf x.1 y.1) g 0 l'.toArray.size w:=fun q os dk hdk x y=>by
    have hr:=Ac8 (enc:=fun x:{x // p x}=>enc x.1) (d:=l') (d':=dk) (n:=q) (os:=os) (by simpa using hdk) hh h3 h4 h5
    exact hcmp _ _ hr.1 hr.2 (Wy _ _ _ _ _ _ _) x.1 y.1 x.2 y.2
   have:=Any.slices_SortFunc_total L (fun x:{x // p x}=>enc x.1) (fun x=>h1 x.1) (fun x y=>cf x.1 y.1) hT.swo gf cb g 0 c l'.toArray w eg hcl hH (Ek hh) (by simp;omega) hT.one
   rw[show l'.toArray.size=l'.length by simp] at this
   refine this.mono ?_
   rintro e w' ⟨rfl,n,os,rfl⟩
   have hr:=Ac8 (enc:=fun x:{x // p x}=>enc x.1) (d:=l') (d':=(Au (fun x y:{x // p x}=>cf x.1 y.1) l').toArray) (n:=n) (os:=os) (by simp[Bo]) hh h3 h4 h5
   exact ⟨rfl,hr.2,Wy _ _ _ _ _ _ _,by simpa[Au] using hr.1⟩
end Go.Proofs.YtjfndjmabhbicaaGreat
namespace Go.Proofs.YtjfndjmabhbicaaGreat
open Go Go.RowKit
theorem SetE.perm {L i e e' L'} (h:SetE L i e e' L'):∃ Lr,L.Perm (e::Lr)/\L'.Perm (e' :: Lr):=by
 induction h with
 | @here e e' L=>exact ⟨L,List.Perm.refl _,List.Perm.refl _⟩
 | @there x L i e e' L' _ ih=>
  obtain ⟨Lr,h1,h2⟩:=ih
  exact ⟨x::Lr,(h1.cons x).trans (List.Perm.swap _ _ _),(h2.cons x).trans (List.Perm.swap _ _ _)⟩
section
variable {P:Program} {n:Nat} {fr:List (Nat × Value)} {L:List Ent}
variable {dst:Option Tmp} {ty:TypeId} {pos:String} {after:Array Edge} {guard:Option (Nat × Bool)}
theorem Awy {t m sz} {x:Operand} {g o:Nat} (hx:evo fr x=some (.pointer (some ⟨g,o,none⟩))) (ht:Acs P t m sz) (hm:Nat.beq m 0=false):Ev P n ⟨dst,.slice t x none none none,ty,pos,after,guard⟩ fr L (.slice (some ⟨g,o,none⟩) m m):=fun a w ha _=>by
 obtain ⟨e,hu,hs⟩:=ht
 have hm':m≠0:=Nat.ne_of_beq_eq_false hm
 simp[execOp,ha.eval hx,Instr.sliceAt,run_underlying hu,Instr.sureAddr,Instr.sliceBounds,hs,hm',Addr.add_lit]
end
theorem evA {G:Prop} (h:G:=by
 first
 | (with_reducible apply Amy);exact rfl
 | (with_reducible apply Fi);exact rfl
 | (with_reducible apply Aqw);exact rfl
 | (with_reducible apply Acq);exact rfl
 | (with_reducible apply Ae6);exact rfl
 | (with_reducible apply Acr);exact rfl
 | (with_reducible apply Anx);exact rfl
 | (with_reducible apply Ai8) <;> exact rfl
 | (with_reducible apply Ai9) <;> exact rfl
 | (with_reducible apply Aqx) <;> exact rfl
 | (with_reducible apply Aae) <;> exact rfl
 | (with_reducible apply Ae4) <;> exact rfl
 | (with_reducible apply Ae5) <;> exact rfl
 | (with_reducible apply Ad2) <;> exact rfl
 | (with_reducible apply Aq2) <;> exact rfl
 | (with_reducible apply Aq1) <;> exact rfl
 | (with_reducible apply Aqz) <;> exact rfl
 | (with_reducible apply Aqy) <;> exact rfl
 | (with_reducible apply Aq0) <;> exact rfl
 | (with_reducible apply Acx) <;> exact rfl
 | (with_reducible apply Ac0) <;> exact rfl
 | (with_reducible apply Acy) <;> exact rfl
 | (with_reducible apply Ac1) <;> exact rfl
 | (with_reducible apply Acz) <;> exact rfl
 | (with_reducible apply Ac2) <;> exact rfl
 | (with_reducible apply Acv) <;> exact rfl
 | (with_reducible apply Ae3) <;> exact rfl
 | (with_reducible apply Acw) <;> exact rfl
 | (with_reducible apply Amz) <;> exact rfl
 | (with_reducible apply Am0) <;> exact rfl):G:=h
theorem Y {G G':Prop} (k:G') (h:G'->G:=by
 intro k
 first
 | (with_reducible apply Bn);exact k
 | (with_reducible apply Aqp);exact k
 | (with_reducible apply Aw4);exact k
 | (with_reducible apply Aw5);exact k
 | (with_reducible apply Aqr);exact k
 | (with_reducible apply Aqs);exact k
 | (with_reducible apply As6);exact k
 | (with_reducible apply As5);exact k
 | (with_reducible apply Amv);exact k
 | (with_reducible apply Axd);exact k
 | (with_reducible apply Axc);exact k
 | (with_reducible apply Aqq);exact k
 | (with_reducible apply Aqt);exact k
 | (with_reducible apply Aft);exact k
 | (with_reducible apply Ba);exact evA;exact rfl;exact k
 | (with_reducible apply Amu);exact rfl;exact rfl;exact rfl;exact rfl;exact rfl;exact k
 | (with_reducible apply Oi);exact rfl;exact rfl;exact rfl;exact evA;exact rfl;exact k
 | (with_reducible apply Amw);exact rfl;exact k
 | (with_reducible apply Amx);exact rfl;exact k
 | (with_reducible apply Aoa);exact rfl;exact rfl;exact rfl;exact rfl;exact k
 | (with_reducible apply P_p);exact rfl;exact rfl;exact evA;exact rfl;exact k
 | (with_reducible apply Az5);exact rfl;exact rfl;exact rfl;exact rfl;exact rfl;exact rfl;exact k
 | (with_reducible apply P_pG);exact rfl;exact rfl;exact rfl;exact rfl;exact rfl;exact evA;exact rfl;exact k
 | (with_reducible apply Avx);exact rfl;exact rfl;exact rfl;exact rfl;exact rfl;exact k):G:=h k
theorem Y2 {G G':Prop} (k:G') (h:G'->G:=by
 intro k
 iterate 2 refine Y ?_
 exact k):G:=h k
theorem Y3 {G G':Prop} (k:G') (h:G'->G:=by
 intro k
 iterate 3 refine Y ?_
 exact k):G:=h k
theorem Y4 {G G':Prop} (k:G') (h:G'->G:=by
 intro k
 iterate 4 refine Y ?_
 exact k):G:=h k
theorem Y5 {G G':Prop} (k:G') (h:G'->G:=by
 intro k
 iterate 5 refine Y ?_
 exact k):G:=h k
theorem Y6 {G G':Prop} (k:G') (h:G'->G:=by
 intro k
 iterate 6 refine Y ?_
 exact k):G:=h k
theorem Y7 {G G':Prop} (k:G') (h:G'->G:=by
 intro k
 iterate 7 refine Y ?_
 exact k):G:=h k
theorem Y8 {G G':Prop} (k:G') (h:G'->G:=by
 intro k
 iterate 8 refine Y ?_
 exact k):G:=h k
theorem Y9 {G G':Prop} (k:G') (h:G'->G:=by
 intro k
 iterate 9 refine Y ?_
 exact k):G:=h k
theorem Y10 {G G':Prop} (k:G') (h:G'->G:=by
 intro k
 iterate 10 refine Y ?_
 exact k):G:=h k
theorem Y11 {G G':Prop} (k:G') (h:G'->G:=by
 intro k
 iterate 11 refine Y ?_
 exact k):G:=h k
section
variable {P:Program} {n:Nat} {ops:Array Oper} {Q:Exit->Act->World->Prop} {fr:List (Nat × Value)} {L:List Ent} {rest:List Oper} {N:Act->World->Prop}
variable {d i i2 d2:Nat} {op:Op} {ty:TypeId} {pos:String} {after:Array Edge}
theorem sb {e:Ent} (i:Nat) (h:nthE L i=some e:=by exact rfl):SubE [e] L:=SubE.cons2 (i:=i) h SubE.nil
def Ac9 (ops:Array Oper):List (List Nat) :=
 ops.toList.foldl (fun A o=>A++[o.after.toList.foldl (fun l e=>if Region.binds .any e then (if l.contains e.on then l else e.on::l)++(A.getD e.on []).filter (fun j=>!(l.contains j) && !(Nat.beq j e.on)) else l) []]) []
theorem T_dr {id:Nat} (cls:Cls) (p:Plan) (hm:P.follows .mixedOrders=true) (hd:Wm ops cls (Ac9 ops)=true) (hp:Hy ops cls p (Array.replicate ops.size false) none=true) (k:T n (Bs P ops Q cls (Ac9 ops) [] (fun _=>True) p) fr L) :
  T n ((Code.region id ops true).wp P Q) fr L:=Az4 cls (Ac9 ops) p hm hd hp k
theorem Mt {τ γ ρ:Type} {J:τ->Option ρ} {out:ρ} {I:τ->γ->List (Nat × Value)} {H:τ->γ->List Ent} {G:τ->γ->Prop} (s:τ) (g:γ) (hJ:J s=some out) (hG:G s g) (hH:Gp L (H s g)) (hF:SubF (I s g) fr:=by repeat' first | exact SubF.nil | refine SubF.cons rfl ?_) :
  T n (Exit.then (Met n J out I H G) Q .normal) fr L:=Alx s g hJ hG hF hH
theorem Rp {σ τ γ:Type} {x:Sum σ τ} {I:σ->γ->List (Nat × Value)} {H:σ->γ->List Ent} {G:σ->γ->Prop} (s:σ) (g:γ) (hx:some (.inl s)=some x) (hG:G s g) (hH:Gp L (H s g)) (hF:SubF (I s g) fr:=by repeat' first | exact SubF.nil | refine SubF.cons rfl ?_) :
  T n (Exit.then (Rnd n x I H G) Q .normal) fr L:=Ae0 s g hx hG hF hH
theorem Lp {σ τ γ:Type} {B:σ->Option (Sum σ τ)} {s0:σ} {t:τ} (hl:lfix B s0=some t) (I:σ->γ->List (Nat × Value)) (H:σ->γ->List Ent) (G:σ->γ->Prop) (g0:γ) (hG:G s0 g0) (hH:Gp L (H s0 g0)) {c:Code}
  (body:∀ s g,G s g->∀ x,B s=some x->(∀ t',x = .inr t'->t'=t)->T n (c.wp P (Exit.then (Rnd n x I H G) Q)) (I s g) (H s g)) (hF:SubF (I s0 g0) fr:=by repeat' first | exact SubF.nil | refine SubF.cons rfl ?_) :
  T n ((Code.loop c).wp P Q) fr L:=Aib hl I H G g0 hG hF hH body
theorem Ti {s:Nat} {p:Prop} [Decidable p] {ρ:Type} {x y r:Option ρ} (hx:(if p then x else y)=r) (hs:look fr s=some (.bool (decide p))) (ht:p->x=r->T n N ((s,.bool true)::fr) L) (hf:¬ p->y=r->T n N ((s,.bool false)::fr) L):T n N fr L :=
 An7 hs (fun h=>ht h (Jx h hx)) (fun h=>hf h (Xy h hx))
theorem Tj {τ γ ρ:Type} {kk:τ->Option ρ} {xx:(τ->Option ρ)->Option ρ} {out:ρ} (hx:jn kk xx=some out) (I:τ->γ->List (Nat × Value)) (H:τ->γ->List Ent) (G:τ->γ->Prop) {x y:Code}
  (k2:∀ s g,kk s=some out->G s g->T n (y.wp P Q) (I s g) (H s g)) (k:∀ j,xx j=some out->T n (x.wp P (Exit.then (Met n j out I H G) Q)) fr L):T n ((Code.seq x y).wp P Q) fr L :=
 Xs (J:=kk) I H G k2 (k kk hx)
theorem Tc {f:FuncId} {xs:List Operand} {vs:List Value} {ts:Array TypeId} {ty':TypeId} {X:Value} {Y:Prop} (hc:∀ w,Heap L w->CtL P f vs w fun v Ln=>v=X/\Ln=[]/\Y) (k:T n (wpList P ops Q rest) ((d,X)::fr) L) (hx:evos fr xs=some vs:=by exact rfl) (hd:Nat.blt d n=true:=by exact rfl) :
  T n (wpList P ops Q (⟨some d,.call ⟨.value (.func f),xs.toArray,ts⟩,ty',pos,after,none⟩ :: rest)) fr L :=
 T_x (Ei hx hc hd (by rintro _ _ _ ⟨rfl,rfl,-⟩;exact k))
theorem Pc {cls:Cls} {A:List (List Nat)} {RL:List Nat} {R:World->Prop} {p:Plan} {f:FuncId} {xs:List Operand} {vs:List Value} {ts:Array TypeId} {ty':TypeId} {X:Value} {Y:Prop} (hc:∀ w,Heap L w->CtL P f vs w fun v Ln=>v=X/\Ln=[]/\Y) (k:T n (Bs P ops Q cls A RL R p) ((d,X)::fr) L)
  (ho:ops[i]? = some ⟨some d,.call ⟨.value (.func f),xs.toArray,ts⟩,ty',pos,after,none⟩:=by exact rfl) (hx:evos fr xs=some vs:=by exact rfl) (hd:Nat.blt d n=true:=by exact rfl):T n (Bs P ops Q cls A RL R (.e i p .stop)) fr L :=
 P_x ho (Ei hx hc hd (by rintro _ _ _ ⟨rfl,rfl,-⟩;exact k)) Ct
theorem P_il {cls:Cls} {A0:List (List Nat)} {RL:List Nat} {R:World->Prop} {p:Plan} {α:Type} {KK:List Ent} {A m c sz} {enc:α->List Value} {l:List α} {z:Int} {x0:α} (h:Has KK A m c sz enc l) (hi:idx l z=some x0) {t e ty' k} (ht:Kh P t e sz) (hg:Nf P ty' k) (hK:SubE KK L)
  {x ix:Operand} {kd:IntKind} {vs:List Value} {d1 d2:Nat} {ty1 ty2:TypeId} {pos1 pos2:String} {af1 af2:Array Edge}
  (kk:∀ b o,T n (Bs P ops Q cls A0 RL R p) ((d2,.agg vs.toArray)::(d1,.pointer (some ⟨b,o,none⟩))::fr) L)
  (hc1:Nat.beq (cls.getD i 9) 0=true:=by exact rfl) (ho1:ops[i]? = some ⟨some d1,.indexAddr t x ix,ty1,pos1,af1,none⟩:=by exact rfl) (hx:evo fr x=some (.slice A m c):=by exact rfl) (hix:evo fr ix=some (.int kd z):=by exact rfl) (hd1:Nat.blt d1 n=true:=by exact rfl)
  (hc2:Nat.beq (cls.getD i2 9) 0=false:=by exact rfl) (ho2:ops[i2]? = some ⟨some d2,.load ty' (.tmp d1),ty2,pos2,af2,none⟩:=by exact rfl) (hv:Up (enc x0) 0 k=some vs:=by exact rfl) (hd2:Nat.blt d2 n=true:=by exact rfl) (hr:RL.contains i2=false:=by rfl) :
  T n (Bs P ops Q cls A0 RL R (.q i (.q i2 p))) fr L:=by
 obtain ⟨b,o,j,hA,hj,hl,hp⟩:=h.at_idx hi
 refine P_p hc1 ho1 (Fw hx hix hA (j:=j) hj hl ht) hd1 ?_
 exact P_q hc2 ho2 (Sv (by simp[evo,look]) hp hK hv hg) hd2 (kk _ _) hr
end
section
variable {P:Program} {n:Nat} {Q:Exit->Act->World->Prop} {fr:List (Nat × Value)} {L:List Ent} {N:Act->World->Prop}
theorem Aqf {α:Type} (enc:α->List Value) (x0:α) {d:Nat} {t e x y k1 k2 i1 i2 i z sz} {ty:TypeId} {pos:String} {after:Array Edge} {guard:Option (Nat × Bool)} (hx:evo fr x=some (.int k1 i1)) (hy:evo fr y=some (.int k2 i2)) (h1:i1=0) (hp:0<=i2)
  (ht:P.underlying t=some (.slice e)) (hi:P.info? e=some i) (hz:i.zero=some z) (hzc:enc x0=z.cells.toList) (hs:i.size=sz) (hsz:0 < sz) (he:∀ x,(enc x).length=sz) (hb:i.bytes*i2.toNat<=140737488355328) (hb0:0 < i.bytes)
  (hd:Nat.blt d n=true) (k:∀ A c,T n N ((d,.slice A 0 c)::fr) (.r A 0 c e sz []::L)) :
  Wx P Q n ⟨some d,.makeSlice t x y,ty,pos,after,guard⟩ fr L N:=by
 subst h1
 have h2:=Nat.mul_le_mul_right i2.toNat hb0
 rw[Nat.succ_mul,Nat.zero_mul,Nat.zero_add] at h2
 intro a w ha hw
 have hb':(i.bytes:Int)*i2<=281474976710656:=by
  have h:((i.bytes*i2.toNat:Nat):Int)<=281474976710656:=by omega
  rw[Int.natCast_mul,Int.toNat_of_nonneg (by omega)] at h;exact h
 have hr:=run_make (P:=P) w t e i z ht hi hz k1 k2 0 i2 (Int.le_refl _) hp hb' (by omega)
 rw[hs,Xo x0 hsz he hzc] at hr
 have hlen:((List.replicate i2.toNat x0).flatMap enc).length=i2.toNat*sz:=by rw[Jw he,List.length_replicate]
 have hrun:(execOp a.eval ⟨some d,.makeSlice t x y,ty,pos,after,guard⟩).run P w = .ok (.value (.slice (some ⟨w.heap.size,0,none⟩) 0 i2.toNat)) (w.alloc (.cells ((List.replicate i2.toNat x0).flatMap enc).toArray e)):=by
  simp[execOp,ha.eval hx,ha.eval hy,hr]
 simp only[Oper.wp,hrun,Oper.upon_value]
 refine ⟨Sq w _,k _ _ _ _ (ha.put hd) ?_⟩
 have h':=hw.allocR e sz i2.toNat ((List.replicate i2.toNat x0).flatMap enc) hlen (by unfold maxLen;omega)
 refine ⟨fun x hx=>?_,?_⟩
 ·rcases List.mem_cons.1 hx with rfl | hx
  ·exact ⟨by simp,.inr ⟨w.heap.size,i2.toNat,((List.replicate i2.toNat x0).flatMap enc).toArray,rfl,Nat.zero_le _,heap_alloc_new w _,Nat.zero_le _,by unfold maxLen;omega,by simp only[List.size_toArray];exact hlen,by simp⟩⟩
  ·exact h'.ok x (List.mem_cons_of_mem _ hx)
 ·have hp:=h'.sep
  rw[List.pairwise_cons] at hp ⊢
  exact ⟨fun x hx=>hp.1 x hx,hp.2⟩
end
section
variable {P:Program} {n:Nat} {Q:Exit->Act->World->Prop} {fr:List (Nat × Value)} {L:List Ent} {N:Act->World->Prop}
def Ada (A:Option Addr) (m c:Nat) (t:TypeId) (sz:Nat) (xs:List Value) (w:World):Prop :=
 xs.length=m*sz/\m<=c/\c<=maxLen/\((A=none/\c=0)\/∃ g o cur,A=some ⟨g,o,none⟩/\w.heap[g]? = some (.cells cur t (0,0))/\o+c*sz<=cur.size/\∀ j v,xs[j]? = some v->cur[o+j]? = some v)
def winB:Option Addr->List Nat
 | some a=>[a.block]
 | none=>[]
def qw (A:Option Addr) (m c:Nat) (t:TypeId) (sz:Nat) (xs:List Value):Ent:=.f (winB A) (Ada A m c t sz xs)
theorem Afw {A m c t sz xs} {w:World}:Ent.ok w (qw A m c t sz xs)↔Ada A m c t sz xs w:=by
 constructor
 ·exact fun h=>h.2.1
 ·intro h
  refine ⟨fun g hg=>?_,h,fun w1 w2 h1 he=>?_⟩
  ·obtain ⟨_,_,_,h⟩:=h
   rcases h with ⟨rfl,_⟩ | ⟨g',o,cur,rfl,hh,_⟩
   ·simp[winB] at hg
   ·simp[winB] at hg
    subst hg
    exact Ek hh
  ·obtain ⟨e1,e2,e3,h1⟩:=h1
   refine ⟨e1,e2,e3,?_⟩
   rcases h1 with h1 | ⟨g',o,cur,rfl,hh,h2⟩
   ·exact .inl h1
   ·exact .inr ⟨g',o,cur,rfl,by rw[he g' (by simp[winB])];exact hh,h2⟩
theorem Ai0 {A m c t sz xs g}:(qw A m c t sz xs).own g↔(Value.slice A m c).ownBlock=some g:=by
 cases A with
 | none=>simp[qw,Ent.own,winB,Value.ownBlock]
 | some a=>simp[qw,Ent.own,winB,Value.ownBlock,eq_comm]
theorem Ada.ofRow {A m c t sz xs} {w:World} (h:w.ownsRow 0 t sz (.slice A m c) m xs):Ada A m c t sz xs w:=by
 obtain ⟨h1,h2⟩:=h
 rcases h2 with ⟨hv,h0⟩ | ⟨g,cap,cur,hv,_,hh,h3,h4,h5,h6⟩
 ·injection hv with e1 e2 e3
  subst e1;subst e3
  exact ⟨h1,by omega,by unfold maxLen;omega,.inl ⟨rfl,rfl⟩⟩
 ·injection hv with e1 _ e3
  subst e1;subst e3
  refine ⟨h1,h3,h4,.inr ⟨g,0,cur,rfl,hh,by omega,fun j v hj=>?_⟩⟩
  rw[<- h6,List.getElem?_take] at hj
  split at hj
  ·rw[Nat.zero_add,<- Array.getElem?_toList];exact hj
  ·cases hj
theorem Bbt {i A m c t sz xs L'} (hL:SetE L i (.r A m c t sz xs) (qw A m c t sz xs) L') (k:T n N fr L'):T n N fr L:=by
 intro a w ha hw
 exact k a w ha (Heap.turnO (e:=.r A m c t sz xs) (e':=qw A m c t sz xs) (w:=w) (w':=w) (row:=none) ⟨rfl,rfl,rfl,Nat.le_refl _,fun _ _ _=>rfl⟩ (fun g hg=>by cases hg) (Afw.2 (Ada.ofRow (hw.ok _ hL.mem))) (Nat.le_refl _)
  (fun g hg=>.inl (Ent.own_r.2 (Ai0.1 hg))) hL hw)
theorem Has.ofQ {α:Type} {enc:α->List Value} {A m c t sz} {l:List α} (hz:0 < sz) (he:∀ x,(enc x).length=sz) {w:World} (hok:Ent.ok w (qw A m c t sz (l.flatMap enc))) :
  Has [qw A m c t sz (l.flatMap enc)] A m c sz enc l:=by
 have h:=Afw.1 hok
 have hlen:=Jw he l
 have hm:m=l.length:=by
  have h1:=h.1
  rw[hlen] at h1
  exact (Nat.eq_of_mul_eq_mul_right hz h1).symm
 subst hm
 refine ⟨rfl,h.2.1,h.2.2.1,fun x _=>he x,fun hn=>?_⟩
 obtain ⟨_,h2,_,h3⟩:=h
 rcases h3 with ⟨_,h0⟩ | ⟨g,o,cur,rfl,_⟩
 ·omega
 ·refine ⟨g,o,rfl,fun i hi w' hw' j u hu=>?_⟩
  have h':=Afw.1 (hw' _ (List.mem_singleton.2 rfl))
  obtain ⟨_,_,_,h4⟩:=h'
  rcases h4 with ⟨hA,_⟩ | ⟨g',o',cur',hA,hh,_,hc⟩
  ·cases hA
  ·injection hA with hA
   injection hA with e1 e2 _
   subst e1;subst e2
   have hf:=Wc l i hi (fun x _=>he x) j u hu
   have:=hc _ _ hf
   rw[Nat.add_assoc]
   simp only[World.cell?,hh]
   simpa using this
theorem At7 {α:Type} {enc:α->List Value} {l:List α} {k A m c t sz} (hk:nthE L k=some (qw A m c t sz (l.flatMap enc))) (hz:0 < sz) (he:∀ x,(enc x).length=sz)
  (kk:m=l.length->Has [qw A m c t sz (l.flatMap enc)] A m c sz enc l->T n N fr L):T n N fr L:=by
 intro a w ha hw
 have hs:=Has.ofQ hz he (hw.ok _ (Eu hk))
 exact kk hs.len.symm hs a w ha hw
theorem Aci {α:Type} {enc:α->List Value} {sz:Nat} (he:∀ x,(enc x).length=sz):∀ (l:List α) (q:Nat),(l.drop q).flatMap enc=(l.flatMap enc).drop (q*sz):=by
 intro l
 induction l with
 | nil=>intro q;simp
 | cons x r ih=>
  intro q
  cases q with
  | zero=>simp
  | succ q=>rw[List.drop_succ_cons,ih,List.flatMap_cons,Nat.succ_mul,Nat.add_comm (q*sz),<- List.drop_drop,<- he x,List.drop_left]
theorem At8 {α:Type} {enc:α->List Value} {l:List α} {i A m c t sz q L'} (hL:SetE L i (qw A m c t sz (l.flatMap enc)) (qw (slA A c q sz) (m-q) (c-q) t sz ((l.drop q).flatMap enc)) L') (hq:q<=m) (hz:0 < sz) (he:∀ x,(enc x).length=sz)
  (k:T n N fr L'):T n N fr L:=by
 intro a w ha hw
 have h:=Afw.1 (hw.ok _ hL.mem)
 refine k a w ha (Heap.turnO (e:=qw A m c t sz (l.flatMap enc)) (e':=qw (slA A c q sz) (m-q) (c-q) t sz ((l.drop q).flatMap enc)) (w:=w) (w':=w) (row:=none) ⟨rfl,rfl,rfl,Nat.le_refl _,fun _ _ _=>rfl⟩ (fun g hg=>by cases hg) (Afw.2 ?_) (Nat.le_refl _)
  (fun g hg=>.inl ?_) hL hw)
 ·obtain ⟨h1,h2,h3,h4⟩:=h
  refine ⟨?_,by omega,by omega,?_⟩
  ·rw[Aci he,List.length_drop,h1,Nat.sub_mul]
  ·rcases h4 with ⟨rfl,h0⟩ | ⟨g,o,cur,rfl,hh,h5,h6⟩
   ·exact .inl ⟨by unfold slA;split <;> rfl,by omega⟩
   ·by_cases e:c=q
    ·refine .inr ⟨g,o,cur,by unfold slA;rw[if_pos e],hh,by rw[<- e,Nat.sub_self,Nat.zero_mul];have:=Nat.zero_le (c*sz);omega,fun j v hj=>?_⟩
     have:m=q:=by omega
     rw[Aci he,List.drop_eq_nil_of_le (by rw[h1,this];exact Nat.le_refl _)] at hj
     simp at hj
    ·have hle:q<=c:=by omega
     refine .inr ⟨g,o+q*sz,cur,by unfold slA;rw[if_neg e];simp[Addr.add_lit],hh,by rw[Nat.sub_mul];have:=Nat.mul_le_mul_right sz hle;omega,fun j v hj=>?_⟩
     rw[Aci he,List.getElem?_drop] at hj
     rw[Nat.add_assoc]
     exact h6 _ _ hj
 ·rw[Ai0] at hg ⊢
  unfold slA at hg
  cases A with
  | none=>
   split at hg
   ·cases hg
   ·cases hg
  | some a0=>
   split at hg
   ·exact hg
   ·simp only[Value.ownBlock,Option.map_some,Addr.add_lit,Option.some.injEq] at hg ⊢
    rw[<- hg];cases a0;simp[Addr.add];split <;> rfl
theorem Akx:∀ (vs:List Value) (cs:Array Value) (o j:Nat),o+vs.length<=cs.size->(Dl cs o vs)[j]? = if o<=j/\j < o+vs.length then vs[j-o]? else cs[j]?:=by
 intro vs
 induction vs with
 | nil=>intro cs o j _;rw[if_neg (by simp only[List.length_nil];omega)];rfl
 | cons v r ih=>
  intro cs o j h
  simp only[List.length_cons] at h
  rw[Dl,ih _ _ _ (by simp;omega)]
  simp only[List.length_cons]
  by_cases e:j=o
  ·subst e
   rw[if_neg (by omega),if_pos (by omega),Array.getElem?_setIfInBounds_self_of_lt (by omega)]
   simp
  ·by_cases e2:o+1<=j/\j < o+1+r.length
   ·rw[if_pos e2,if_pos (by omega)]
    rw[show j-o=(j-(o+1))+1 by omega,List.getElem?_cons_succ]
   ·rw[if_neg e2,if_neg (by omega),Array.getElem?_setIfInBounds_ne (Ne.symm e)]
theorem Afx {α:Type} (enc:α->List Value) (l ys:List α) {d:Nat} {s x t e sz bytes A m c g B q q' t' i i' news ty'} {pos:String} {after:Array Edge} {guard:Option (Nat × Bool)} {L' L2:Option Addr->Nat->List Ent}
  (hs:evo fr s=some (.slice A m c)) (hx:evo fr x=some (.slice B q q')) (hB:B=some ⟨g,0,none⟩) (ht:Vx P t e sz bytes) (he:∀ x,(enc x).length=sz)
  (hL2:nthE L i'=some (.m g t' news)) (hn:news=ys.flatMap enc) (hq:q=ys.length) (h1:Jt news=true) (hb:(l.length+ys.length)*bytes<=140737488355328) (hd:Nat.blt d n=true)
  (hL:∀ A' c',SetE L i (qw A m c e sz (l.flatMap enc)) (qw A' (l++ys).length c' e sz ((l++ys).flatMap enc)) (L' A' c')) (hsub:∀ A' c',HSub (L' A' c') (L2 A' c'))
  (h0:0 < bytes)
  (k:∀ A' c',T n N ((d,.slice A' (l++ys).length c')::fr) (L2 A' c')) :
  Wh P Q n ⟨some d,.call ⟨.builtin .append,#[s,x],#[t,t]⟩,ty',pos,after,guard⟩ fr L N:=by
 intro a w ha hw
 have hok:=hw.ok _ (hL none 0).mem
 have hwin:=Afw.1 hok
 have hm:m=l.length:=(Has.ofQ ht.pos he hok).len.symm
 subst hm
 subst hB;subst hn;subst hq
 have hll:=Jw he l
 have hly:=Jw he ys
 obtain ⟨i0,z,e1,e2,e3,e4,e5⟩:=ht.ex
 have h63:l.length+ys.length<=9223372036854775807:=by
  have h3:=Nat.mul_le_mul_left (l.length+ys.length) h0
  rw[Nat.mul_succ,Nat.mul_zero,Nat.zero_add] at h3
  omega
 have hnew:∀ (j:Nat) (u:Value),(ys.flatMap enc)[j]? = some u->w.cell? ((⟨g,0,none⟩:Addr).add j)=some u:=fun j u hj=>by
  rw[Addr.add_lit,Sf (hw.ok _ (Eu hL2))];simpa using hj
 have main:∃ A' c' w',(Builtin.append_ #[t,t] ty' #[.slice A l.length c,.slice (some ⟨g,0,none⟩) ys.length q']).run P w = .ok (.slice A' (l++ys).length c') w'/\Ada A' (l++ys).length c' e sz ((l++ys).flatMap enc) w' /\
   w.grownBy w' (Value.slice A l.length c).ownBlock/\((Value.slice A' (l++ys).length c').ownBlock=(Value.slice A l.length c).ownBlock\/∀ g',(Value.slice A' (l++ys).length c').ownBlock=some g'->w.heap.size<=g')/\w.drawn<=w'.drawn:=by
  obtain ⟨h1',h2',h3',h4'⟩:=hwin
  have hlq:l.length+ys.length=(l++ys).length:=by rw[List.length_append]
  rcases h4' with ⟨rfl,hc0⟩ | ⟨b,o,cur,rfl,hh,hfit,hold⟩
  ·-- nothing yet
   subst hc0
   have hl0:l=[]:=List.eq_nil_of_length_eq_zero (by omega)
   subst hl0
   obtain ⟨v',w',hr,h2,h3,_,h5⟩:=run_append_own_at (P:=P) w 0 t ty' e i0 z sz bytes ht.sl e1 e2 e3 e4 e5 ht.pos (.slice none 0 0) 0 [] ⟨by simp,.inl ⟨rfl,rfl⟩⟩ ⟨g,0,none⟩ ys.length q' (ys.flatMap enc) hly hnew (Ol h1) (by unfold maxLen;omega) (by simpa using hb) (Nat.zero_le _)
   have hv':∃ A' c',v' = .slice A' (0+ys.length) c':=by
    rcases h2.2 with ⟨hv,h0⟩ | ⟨g',cap,cur,hv,_⟩
    ·exact ⟨none,0,by rw[hv,h0]⟩
    ·exact ⟨_,_,hv⟩
   obtain ⟨A',c',rfl⟩:=hv'
   simp only[List.length_nil,Nat.zero_add,List.nil_append] at hr h2 h3 h5 ⊢
   exact ⟨A',c',w',hr,Ada.ofRow h2,h3,.inr fun g' hg'=>by
    rcases h5 with h5 | h5
    ·rw[h5] at hg';cases hg'
    ·rw[h5] at hg';injection hg' with hg';omega,Abv hr⟩
  ·by_cases hroom:l.length+ys.length<=c
   ·-- there is room
    have hsz:o+l.length*sz+(ys.flatMap enc).length<=cur.size:=by
     rw[hly]
     have:=Nat.mul_le_mul_right sz hroom
     rw[Nat.add_mul] at this
     omega
    have hst:=Ju P b e (ys.flatMap enc) 0 (o+l.length*sz) cur w hh (by simpa using hsz) (Ol h1)
    have hfc:=run_firstCells_some (P:=P) w i0.size ys.length ⟨g,0,none⟩ ys.length q' (ys.flatMap enc) (by rw[e3];exact hly) hnew
    have hr:(Builtin.append_ #[t,t] ty' #[.slice (some ⟨b,o,none⟩) l.length c,.slice (some ⟨g,0,none⟩) ys.length q']).run P w = .ok (.slice (some ⟨b,o,none⟩) (l.length+ys.length) c) (if ys.flatMap enc=[] then w else Om w b (.cells (Dl cur (o+l.length*sz) (ys.flatMap enc)) e (0,0))):=by
     rw[Nat.add_zero] at hst
     rw[e3] at hfc
     simp[Builtin.append_,run_underlying ht.sl,sizeOf,typeInfo,e1,e3,Builtin.lenOf,hroom,hfc,Addr.add_lit,hst]
    rw[hlq] at hr
    refine ⟨_,_,_,hr,?_,?_,.inl rfl,Abv hr⟩
    ·refine ⟨by rw[List.flatMap_append,List.length_append,hll,hly,List.length_append,Nat.add_mul],by omega,h3',.inr ⟨b,o,Dl cur (o+l.length*sz) (ys.flatMap enc),rfl,?_,by rw[Sn];exact hfit,fun j v hj=>?_⟩⟩
     ·split
      ·rename_i h;rw[h,hh];rfl
      ·exact Uu w b _ (Ek hh)
     ·rw[Akx _ _ _ _ hsz]
      rw[List.flatMap_append] at hj
      by_cases c1:j < (l.flatMap enc).length
      ·rw[List.getElem?_append_left c1] at hj
       rw[if_neg (by omega)]
       exact hold j v hj
      ·rw[List.getElem?_append_right (by omega)] at hj
       have hjl:j-(l.flatMap enc).length < (ys.flatMap enc).length:=(List.getElem?_eq_some_iff.1 hj).1
       rw[if_pos (by omega)]
       rw[show o+j-(o+l.length*sz)=j-(l.flatMap enc).length by omega]
       exact hj
    ·split
     ·exact ⟨rfl,rfl,rfl,Nat.le_refl _,fun _ _ _=>rfl⟩
     ·exact Sk w b _
   ·-- a new block
    have holds:∀ (j:Nat) (u:Value),(l.flatMap enc)[j]? = some u->w.cell? ((⟨b,o,none⟩:Addr).add j)=some u:=fun j u hj=>by
     rw[Addr.add_lit]
     simp only[World.cell?,hh]
     simpa using hold j u hj
    obtain ⟨v',w',hr,h2,h3⟩:=run_append_arg_grows (P:=P) w t ty' e i0 z sz bytes ht.sl e1 e2 e3 e4 e5 ht.pos ⟨b,o,none⟩ l.length c (l.flatMap enc) hll holds ⟨g,0,none⟩ ys.length q' (ys.flatMap enc) hly hnew (by omega) (by unfold maxLen;omega) hb
    rcases h2.2 with ⟨hv,hz0⟩ | ⟨g',cap',cur',hv,hge,hh',h5',h6',h7',h8'⟩
    ·omega
    ·subst hv
     rw[hlq] at hr h2
     refine ⟨_,_,w',hr,?_,⟨h3.os,h3.tape,h3.output,h3.size,fun k hk _=>h3.block k hk (by simp)⟩,.inr fun g2 hg2=>?_,Abv hr⟩
     ·rw[<- List.flatMap_append] at h2
      exact Ada.ofRow ⟨h2.1,.inr ⟨g',cap',cur',rfl,Nat.zero_le _,hh',by omega,h6',h7',by rw[<- hlq,List.flatMap_append];exact h8'⟩⟩
     ·simp only[Value.ownBlock,Option.some.injEq] at hg2
      omega
 obtain ⟨A',c',w',hr,hwin',hg,hown,hdr⟩:=main
 have hrun:(execOp a.eval ⟨some d,.call ⟨.builtin .append,#[s,x],#[t,t]⟩,ty',pos,after,guard⟩).run P w = .ok (.value (.slice A' (l++ys).length c')) w':=by
  simp[execOp,resolve,invoke,builtin,ha.eval hs,ha.eval hx,hr]
 simp only[Oper.wp,hrun,Oper.upon_value]
 refine k A' c' _ _ (ha.put hd) ((Heap.turnO (e:=qw A l.length c e sz (l.flatMap enc)) (e':=qw A' (l++ys).length c' e sz ((l++ys).flatMap enc)) hg (fun g' hg'=>Ai0.2 hg') (Afw.2 hwin') (Nat.le_refl _) (fun g' hg'=>?_) (hL A' c') hw hdr).sub (hsub A' c'))
 rw[Ai0] at hg' ⊢
 rcases hown with h | h
 ·left;rw[<- h];exact hg'
 ·right;exact h g' hg'
end
section
variable {P:Program} {n:Nat} {Q:Exit->Act->World->Prop} {fr:List (Nat × Value)} {L:List Ent} {c:Code} {m:Nat}
theorem Bbu (m:Nat) (k:T n (Code.rounds P c Q m) fr L):T n ((Code.loop c).wp P Q) fr L:=fun a w ha hw=>wp_loop_rounds m (k a w ha hw)
theorem Az6 (k:T n (c.wp P (Exit.then (Code.rounds P c Q m) Q)) fr L):T n (Code.rounds P c Q (m+1)) fr L:=k
end
section
variable {P:Program} {n:Nat} {dst:Option Tmp} {t t' ty:TypeId} {x y:Operand} {pos:String} {after:Array Edge} {guard:Option (Nat × Bool)} {fr:List (Nat × Value)} {L:List Ent} {a b c:Int}
theorem Awz (hx:evo fr x=some (.int .i64 a)) (hy:evo fr y=some (.int .i64 b)) (h:w64 (a+b)=c):Ev P n ⟨dst,.binOp .add t x y t',ty,pos,after,guard⟩ fr L (.int .i64 c):=h ▸ Aae hx hy
theorem Aw0 {k:IntKind} (hx:evo fr x=some (.int k a)) (hy:evo fr y=some (.int k b)) (hb:b≠0) (h:Int.tmod a b=c):Ev P n ⟨dst,.binOp .rem t x y t',ty,pos,after,guard⟩ fr L (.int k c):=h ▸ Ad1 hx hy hb
theorem Aw1 {k:IntKind} {z:Operand} {a b c:Int} {ts} (hx:evo fr x=some (.int k a)) (hy:evo fr y=some (.int k b)) (hz:evo fr z=some (.int k c)) :
  Ev P n ⟨dst,.call ⟨.builtin .min,#[x,y,z],ts⟩,ty,pos,after,guard⟩ fr L (.int k (min (min a b) c)):=fun ac w ha _=>by
 have e:∀ a b:Int,(if b < a then b else a)=min a b:=fun a b=>by rw[Int.min_def];split <;> split <;> omega
 simp[execOp,resolve,invoke,builtin,ha.eval hx,ha.eval hy,ha.eval hz,Builtin.min_,Builtin.min2,e]
theorem Aw2 {k:IntKind} {z:Operand} {a b c:Int} {ts} (hx:evo fr x=some (.int k a)) (hy:evo fr y=some (.int k b)) (hz:evo fr z=some (.int k c)) :
  Ev P n ⟨dst,.call ⟨.builtin .max,#[x,y,z],ts⟩,ty,pos,after,guard⟩ fr L (.int k (max (max a b) c)):=fun ac w ha _=>by
 have e:∀ a b:Int,(if b > a then b else a)=max a b:=fun a b=>by rw[Int.max_def];split <;> split <;> omega
 simp[execOp,resolve,invoke,builtin,ha.eval hx,ha.eval hy,ha.eval hz,Builtin.max_,Builtin.max2,e]
theorem Az7 {f:FuncId} {xs:List Operand} {vs:List Value} {ts:Array TypeId} {v:Value} (hx:evos fr xs=some vs) (h:∀ w,(callFunc f vs.toArray).run P w = .ok (.value v) w):Ev P n ⟨dst,.call ⟨.value (.func f),xs.toArray,ts⟩,ty,pos,after,guard⟩ fr L v:=fun ac w ha _=>by
 have:=ha.evals hx
 simp[execOp,resolve,Deferred.ofValue,invoke,Act.eval,this,h]
end
class Afy (a b:Int) (c:outParam Int):Prop where
 h:w64 (a+b)=c
class Aov (a b:Int) (c:outParam Int):Prop where
 h:Int.tmod a b=c
 nz:b≠0
instance:Afy 0 1 1:=⟨by decide⟩
instance:Afy 1 1 2:=⟨by decide⟩
instance:Afy 2 1 3:=⟨by decide⟩
instance:Afy 3 1 4:=⟨by decide⟩
instance:Afy 4 1 5:=⟨by decide⟩
instance:Afy 5 1 6:=⟨by decide⟩
instance:Aov 1 3 1:=⟨by decide,by decide⟩
instance:Aov 2 3 2:=⟨by decide,by decide⟩
instance:Aov 3 3 0:=⟨by decide,by decide⟩
class ExtI (P:Program) (f:FuncId) (vs:List Value) (G:outParam Prop) (v:outParam Value):Prop where
 h:G->∀ w,(callFunc f vs.toArray).run P w = .ok (.value v) w
end Go.Proofs.YtjfndjmabhbicaaGreat
