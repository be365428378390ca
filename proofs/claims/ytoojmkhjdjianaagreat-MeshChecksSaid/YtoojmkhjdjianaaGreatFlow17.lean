/- slices.SortFunc of an own row, by a comparator of a total order that may look at what the world holds beside the row. -/
import Derived.Test.YtoojmkhjdjianaaGreatSortK
import Derived.Shelf.SlSortCmp.NoneTotal
import Derived.Shelf.SlSortCmp.Whole1
namespace Go.Proofs.YtoojmkhjdjianaaGreat
open Go Go.RowKit Go.Shelf Go.Sort
def As {α:Type} (cf:α->α->Int) (l:List α):List α:=l.mergeSort fun x y=>!(ltOf cf) y x
theorem Bd {α:Type} {cf:α->α->Int} {l:List α}:(As cf l).length=l.length:=by simp [As]
structure Vc {β:Type} (p:β->Prop) (cf:β->β->Int):Prop where
 irr:∀ x,p x->¬ cf x x < 0
 trans:∀ x y z,p x->p y->p z->cf x y < 0->cf y z < 0->cf x z < 0
 tot:∀ x y,p x->p y->¬ cf x y < 0->¬ cf y x < 0->x=y
theorem Aco {α:Type} {cf:α->α->Int} {x y:α}:ltOf cf x y=true↔cf x y < 0:=by simp [ltOf]
theorem Qj {α:Type} {cf:α->α->Int} {x y:α}:ltOf cf x y=false↔¬ cf x y < 0:=by simp [ltOf]
theorem Vc.swo {β:Type} {p:β->Prop} {cf:β->β->Int} (h:Vc p cf):SWO (ltOf fun x y:{x // p x}=>cf x.1 y.1) where
 irrefl x:=Qj.2 (h.irr x.1 x.2)
 trans x y z h1 h2:=Aco.2 (h.trans x.1 y.1 z.1 x.2 y.2 z.2 (Aco.1 h1) (Aco.1 h2))
 ntrans x y z h1 h2:=by
  rw [Qj] at h1 h2 ⊢
  intro h3
  by_cases h4:cf y.1 x.1 < 0
  ·exact h2 (h.trans y.1 x.1 z.1 y.2 x.2 z.2 h4 h3)
  ·have:=h.tot x.1 y.1 x.2 y.2 h1 h4
   rw [this] at h3
   exact h2 h3
theorem Vc.one {β:Type} {p:β->Prop} {cf:β->β->Int} (h:Vc p cf) (x y:{x // p x}) (h1:ltOf (fun x y:{x // p x}=>cf x.1 y.1) x y=false) (h2:ltOf (fun x y:{x // p x}=>cf x.1 y.1) y x=false):x=y :=
 Subtype.ext (h.tot x.1 y.1 x.2 y.2 (Qj.1 h1) (Qj.1 h2))
def Zh (P:Program) (f:FuncId) (A:Option Addr) (m c:Nat) (t:TypeId) (k:Nat) (gf:Nat) (cb:Array Value) (w:World) (xs ys:List Value):Prop :=
 Calls P f #[.slice A m c,.func (.func gf) #[] cb] w fun e w'=>e = .returned (.tuple #[])/\w.grownBy w' (Ent.blk (.r A m c t k xs))/\w.drawn<=w'.drawn/\Ent.ok w' (.r A m c t k ys)
def Zi (P:Program) {β:Type} (p:β->Prop) (cf:β->β->Int) (arg:β->Value) (A:Option Addr) (m c:Nat) (t:TypeId) (k:Nat) (gf:Nat) (cb:Array Value) (w:World) (xs:List Value):Prop :=
 ∀ (ys:List Value) W,Ent.ok W (.r A m c t k ys)->w.grownBy W (Ent.blk (.r A m c t k xs))->w.drawn<=W.drawn->∀ x y,p x->p y->Calls P gf (#[arg x,arg y]++cb) W fun e w'=>e = .returned (.int .i64 (cf x y))/\Gw W w'
theorem Tk {α:Type} [Inhabited α] (enc:α->List Value) (k:Nat) (w:World) (g off n:Nat) (d:Array α) (os:Array Obj):w.drawn<=(sortWorldK enc k w g off n d os).drawn:=Nat.le_add_right _ _
theorem Ye {β:Type} {p:β->Prop} {cf:β->β->Int} (l':List {x // p x}):As cf (l'.map Subtype.val)=(As (fun x y:{x // p x}=>cf x.1 y.1) l').map Subtype.val:=by
 unfold As
 rw [List.map_mergeSort]
 intro a _ b _
 rfl
theorem Acp {P:Program} {ρ:Ren} (L:SlLaysF0.n6 P ρ) {β:Type} {p:β->Prop} {k:Nat} (aE:∀ w,(isAgg (ρ.t 24)).run P w = .ok true w) (zE:∀ w,(Go.sizeOf (ρ.t 24)).run P w = .ok k w) {enc:β->List Value} (hk:∀ x,(enc x).length=k) (h0:0 < k)
  (h1:∀ x,∀ v∈enc x,v.oneCell'=true) {cf:β->β->Int} (hT:Vc p cf) {gf:Nat} {cb:Array Value} (eg:∀ args w,(callFunc gf args).run P w = .ok (.enter gf args) w)
  (l:List β) (hb:l.length<=1000000000) (hp:∀ x∈l,p x) {A:Option Addr} {m c:Nat} {t:TypeId} (w:World) (hok:Ent.ok w (.r A m c t k (l.flatMap enc)))
  (hcmp:Zi P p cf (fun x=>.agg (enc x).toArray) A m c t k gf cb w (l.flatMap enc)):Zh P (ρ.f 6) A m c t k gf cb w (l.flatMap enc) ((As cf l).flatMap enc):=by
 obtain ⟨hl,h2⟩:=hok
 rw [Jz hk] at hl
 have hm:l.length=m:=Nat.eq_of_mul_eq_mul_right h0 hl
 subst hm
 by_cases hl0:l=[]
 ·subst hl0
  refine (AnyF.slices_SortFunc_none L A c _ w).mono ?_
  rintro e w' ⟨rfl,rfl⟩
  exact ⟨rfl,⟨rfl,rfl,rfl,Nat.le_refl _,fun _ _ _=>rfl⟩,Nat.le_refl _,by rw [show As cf ([]:List β)=[] by simp [As]];exact ⟨by simp,h2⟩⟩
 ·obtain ⟨l',hl'⟩:∃ l':List {x // p x},l=l'.map Subtype.val:=⟨l.attach.map fun x=>⟨x.1,hp x.1 x.2⟩,by simp only [List.map_map,Function.comp_def];exact (List.attach_map_subtype_val _).symm⟩
  obtain ⟨x0,hx0⟩:=List.exists_mem_of_ne_nil l hl0
  have:Inhabited {x // p x}:=⟨⟨x0,hp x0 hx0⟩⟩
  clear hl0 hx0
  subst hl'
  have hf:∀ q:List {x // p x},(q.map Subtype.val).flatMap enc=q.flatMap fun x=>enc x.1:=fun q=>by rw [List.flatMap_map]
  have hk':∀ x:{x // p x},(enc x.1).length=k:=fun x=>hk x.1
  rcases h2 with ⟨hv,hz⟩ | ⟨g,cap,cur,hv,hbg,hh,h3,h4,h5,h6⟩
  ·injection hv with e1 e2 e3
   subst e1;subst e3
   rw [hz]
   have hl0:l'=[]:=by simpa using hz
   subst hl0
   refine (AnyF.slices_SortFunc_none L none 0 _ w).mono ?_
   rintro e w' ⟨rfl,rfl⟩
   exact ⟨rfl,⟨rfl,rfl,rfl,Nat.le_refl _,fun _ _ _=>rfl⟩,Nat.le_refl _,by simp [As],.inl ⟨rfl,rfl⟩⟩
  ·injection hv with e1 e2 e3
   subst e1;subst e3
   unfold Zi at hcmp
   unfold Zh
   rw [Ye,hf,hf]
   rw [hf] at h6 hcmp
   rw [List.length_map] at h3 h6 hl hb hcmp ⊢
   have hH:HoldsK (fun x:{x // p x}=>enc x.1) k w g 0 l'.toArray:=Amp hk' h0 l'.toArray hh (by simpa using h6)
   have hcl:CmpLays P gf cb (fun x:{x // p x}=>enc x.1) k (fun x y=>cf x.1 y.1) g 0 l'.toArray.size w:=fun q os dk hdk x y=>by
    have hr:=Add hk' h0 (d:=l'.toArray) (d':=dk) (n:=q) (os:=os) hdk hh (by simpa using h3) h4 h5
    simp only [List.size_toArray] at hr
    exact hcmp _ _ hr.1 hr.2 (Tk _ _ _ _ _ _ _ _) x.1 y.1 x.2 y.2
   have:=AnyQ.slices_SortFunc_total L k aE zE (fun x:{x // p x}=>enc x.1) hk' (fun x=>h1 x.1) (fun x y=>cf x.1 y.1) hT.swo gf cb g 0 c l'.toArray w eg hcl hH (Eo hh) (by simp;omega) hT.one
   rw [show l'.toArray.size=l'.length by simp] at this
   refine this.mono ?_
   rintro e w' ⟨rfl,n,os,rfl⟩
   have hs:(l'.toArray.toList.mergeSort fun x y=>!(ltOf fun x y:{x // p x}=>cf x.1 y.1) y x).toArray.size=l'.toArray.size:=by simp
   have hr:=Add hk' h0 (d:=l'.toArray) (d':=(l'.toArray.toList.mergeSort fun x y=>!(ltOf fun x y:{x // p x}=>cf x.1 y.1) y x).toArray) (n:=n) (os:=os) hs hh (by simpa using h3) h4 h5
   refine ⟨rfl,hr.2,Tk _ _ _ _ _ _ _ _,?_⟩
   have h7:=hr.1
   simp only [List.size_toArray] at h7
   exact h7
section
variable {P:Program} {n:Nat} {N:Act->World->Prop} {Q:Exit->Act->World->Prop} {fr:List (Nat × Value)} {L L':List Ent}
theorem Vr {β:Type} {p:β->Prop} {enc:β->List Value} {arg:β->Value} {cf:β->β->Int} {k f gf:Nat} {cb:Array Value} (l:List β) {i m c:Nat} {A:Option Addr} {t:TypeId} {xs:List Operand} {ts:Array TypeId} {ty':TypeId} {pos:String} {after:Array Edge} {guard:Option (Nat × Bool)}
  (he:Sz P f) (hs:∀ w,Ent.ok w (.r A m c t k (l.flatMap enc))->Zi P p cf arg A m c t k gf cb w (l.flatMap enc)->Zh P f A m c t k gf cb w (l.flatMap enc) ((As cf l).flatMap enc))
  (Lf:List Value->List Ent) (hLf:∀ ys,SetE L i (.r A m c t k (l.flatMap enc)) (.r A m c t k ys) (Lf ys)) (hc:∀ ys W,Heap (Lf ys) W->∀ x y,p x->p y->∃ xs,xs.toArray = #[arg x,arg y]++cb/\CtL P gf xs W fun v Ln=>v = .int .i64 (cf x y)/\Ln=[]/\True)
  (hx:evos fr xs=some [.slice A m c,.func (.func gf) #[] cb]) (hL:Lf ((As cf l).flatMap enc)=L')
  {d:Nat} (hd:Nat.blt d n=true) (kk:T n N ((d,.tuple #[])::fr) L'):Wh P Q n ⟨some d,.call ⟨.value (.func f),xs.toArray,ts⟩,ty',pos,after,guard⟩ fr L N:=by
 intro a w ha hw
 subst hL
 have turn:∀ ys W,Ent.ok W (.r A m c t k ys)->w.grownBy W (Ent.blk (.r A m c t k (l.flatMap enc)))->w.drawn<=W.drawn->Heap (Lf ys) W:=fun ys W h1 h2 h3 =>
  Heap.turn (e:=.r A m c t k (l.flatMap enc)) (e':=.r A m c t k ys) h2 h1 (Nat.le_refl _) (fun _ hg=>.inl hg) (hLf ys) hw (hd:=h3)
 simp only [Oper.wp,Ac2 he ha hx,Oper.upon_enter]
 refine (hs w (hw.ok _ (hLf []).mem) fun ys W h1 h2 h3 x y px py=>?_).mono ?_
 ·obtain ⟨xs,e,h⟩:=hc ys W (turn ys W h1 h2 h3) x y px py
  rw [<- e]
  exact h.grows
 ·rintro e w' ⟨rfl,hg,hdr,hok⟩
  exact kk _ _ (ha.put hd) (turn _ _ hok hg hdr)
end
theorem Aan {α:Type} {f:α->Value}:∀ l:List α,l.flatMap (fun x=>[f x])=l.map f
 | []=>rfl
 | x::r=>by rw [List.flatMap_cons,Aan r];rfl
section
variable {α:Type} [Inhabited α] {enc:α->Value}
theorem Ai1 {w:World} {g:Nat} {cur:Array Value} {t:TypeId} (l:List α) (hh:w.heap[g]? = some (.cells cur t (0,0))) (h6:cur.toList.take l.length=l.map enc):Holds enc w g 0 l.toArray:=fun j hj=>by
 have hj':j < l.length:=by simpa using hj
 refine ⟨?_,?_⟩
 ·have h7:(cur.toList.take l.length)[j]? = some (enc l[j]):=by rw [h6];simp [hj']
  rw [List.getElem?_take,if_pos hj'] at h7
  have h8:cur[j]? = some (enc l[j]):=by simpa using h7
  simp [World.cell?,hh,h8,hj']
 ·simp [World.frozen?,hh]
theorem Aa9 {w:World} {g c n:Nat} {cur:Array Value} {t:TypeId} {d:List α} {d':Array α} {os:Array Obj} (hs:d'.size=d.length) (hh:w.heap[g]? = some (.cells cur t (0,0))) (h3:d.length<=c) (h4:c<=maxLen) (h5:cur.size=c) :
  Ent.ok (sortWorld enc w g 0 n d' os) (.r (some ⟨g,0,none⟩) d.length c t 1 (d'.toList.map enc))/\w.grownBy (sortWorld enc w g 0 n d' os) (some g):=by
 have hlt:=Eo hh
 have hg0:∀ k,k < w.heap.size->(sortWorld enc w g 0 n d' os).heap[k]? = (w.heap.modify g (onCells (putCells enc 0 d')))[k]?:=fun k hk=>by
  show (((Go.Sort.ahead w n).heap.modify g (onCells (putCells enc 0 d')))++os)[k]? = _
  rw [Array.getElem?_append_left (by rw [Array.size_modify];exact hk)]
  rfl
 refine ⟨⟨by rw [List.length_map,Array.length_toList,hs,Nat.mul_one],.inr ⟨g,c,putCells enc 0 d' cur,rfl,Nat.zero_le _,?_,h3,h4,?_,?_⟩⟩,⟨rfl,rfl,rfl,?_,fun k hk hne=>?_⟩⟩
 ·rw [hg0 g hlt,Array.getElem?_modify,if_pos rfl,hh];rfl
 ·simp [putCells,h5]
 ·rw [Nat.mul_one]
  apply List.ext_getElem?
  intro j
  rw [List.getElem?_take]
  by_cases hj:j < d.length
  ·rw [if_pos hj]
   have hj':j < d'.size:=by omega
   have hjc:j < cur.size:=by omega
   rw [List.getElem?_map,Array.getElem?_toList,show d'.toList[j]? = some d'[j] by simp [hj']]
   simp only [putCells,Array.getElem?_mapIdx,Array.getElem?_eq_getElem hjc,Option.map_some]
   rw [if_pos ⟨Nat.zero_le _,by omega⟩]
   simp [hj']
  ·rw [if_neg hj,List.getElem?_eq_none (by rw [List.length_map,Array.length_toList];omega)]
 ·show w.heap.size<=(((Go.Sort.ahead w n).heap.modify g (onCells (putCells enc 0 d')))++os).size
  rw [Array.size_append,Array.size_modify]
  exact Nat.le_add_right _ _
 ·rw [hg0 k hk,Array.getElem?_modify]
  rw [if_neg (fun he=>hne (by rw [he]))]
end
theorem Vd {α:Type} [Inhabited α] (enc:α->Value) (w:World) (g off n:Nat) (d:Array α) (os:Array Obj):w.drawn<=(sortWorld enc w g off n d os).drawn:=Nat.le_add_right _ _
theorem Ai2 {P:Program} {ρ:Ren} (L:SlLaysF.n6 P ρ) {β:Type} {p:β->Prop} {enc:β->Value} (h1:∀ x,(enc x).oneCell'=true) {cf:β->β->Int} (hT:Vc p cf) {gf:Nat} {cb:Array Value} (eg:∀ args w,(callFunc gf args).run P w = .ok (.enter gf args) w)
  (l:List β) (hb:l.length<=1000000000) (hp:∀ x∈l,p x) {A:Option Addr} {m c:Nat} {t:TypeId} (w:World) (hok:Ent.ok w (.r A m c t 1 (l.flatMap fun x=>[enc x])))
  (hcmp:Zi P p cf enc A m c t 1 gf cb w (l.flatMap fun x=>[enc x])):Zh P (ρ.f 6) A m c t 1 gf cb w (l.flatMap fun x=>[enc x]) ((As cf l).flatMap fun x=>[enc x]):=by
 rw [Aan] at hok hcmp ⊢
 rw [Aan]
 obtain ⟨hl,h2⟩:=hok
 rw [List.length_map,Nat.mul_one] at hl
 subst hl
 by_cases hl0:l=[]
 ·subst hl0
  refine (AnyF.slices_SortFunc_none { L with } A c _ w).mono ?_
  rintro e w' ⟨rfl,rfl⟩
  exact ⟨rfl,⟨rfl,rfl,rfl,Nat.le_refl _,fun _ _ _=>rfl⟩,Nat.le_refl _,by rw [show As cf ([]:List β)=[] by simp [As]];exact ⟨by simp,h2⟩⟩
 ·obtain ⟨l',hl'⟩:∃ l':List {x // p x},l=l'.map Subtype.val:=⟨l.attach.map fun x=>⟨x.1,hp x.1 x.2⟩,by simp only [List.map_map,Function.comp_def];exact (List.attach_map_subtype_val _).symm⟩
  obtain ⟨x0,hx0⟩:=List.exists_mem_of_ne_nil l hl0
  have:Inhabited {x // p x}:=⟨⟨x0,hp x0 hx0⟩⟩
  clear hx0
  subst hl'
  rcases h2 with ⟨hv,hz⟩ | ⟨g,cap,cur,hv,hbg,hh,h3,h4,h5,h6⟩
  ·exact absurd (List.eq_nil_of_length_eq_zero hz) hl0
  ·injection hv with e1 e2 e3
   subst e1;subst e3
   unfold Zi at hcmp
   unfold Zh
   rw [Ye,List.map_map,List.map_map]
   rw [List.map_map] at h6 hcmp
   rw [List.length_map] at h3 h6 hb hcmp ⊢
   rw [Nat.mul_one] at h5 h6
   have hH:Holds (fun x:{x // p x}=>enc x.1) w g 0 l'.toArray:=Ai1 l' hh h6
   have hcl:CmpLays1 P gf cb (fun x:{x // p x}=>enc x.1) (fun x y=>cf x.1 y.1) g 0 l'.toArray.size w:=fun q os dk hdk x y=>by
    have hr:=Aa9 (enc:=fun x:{x // p x}=>enc x.1) (d:=l') (d':=dk) (n:=q) (os:=os) (by simpa using hdk) hh h3 h4 h5
    exact hcmp _ _ hr.1 hr.2 (Vd _ _ _ _ _ _ _) x.1 y.1 x.2 y.2
   have:=Any.slices_SortFunc_total L (fun x:{x // p x}=>enc x.1) (fun x=>h1 x.1) (fun x y=>cf x.1 y.1) hT.swo gf cb g 0 c l'.toArray w eg hcl hH (Eo hh) (by simp;omega) hT.one
   rw [show l'.toArray.size=l'.length by simp] at this
   refine this.mono ?_
   rintro e w' ⟨rfl,n,os,rfl⟩
   have hr:=Aa9 (enc:=fun x:{x // p x}=>enc x.1) (d:=l') (d':=(As (fun x y:{x // p x}=>cf x.1 y.1) l').toArray) (n:=n) (os:=os) (by simp [Bd]) hh h3 h4 h5
   exact ⟨rfl,hr.2,Vd _ _ _ _ _ _ _,by simpa [As] using hr.1⟩
end Go.Proofs.YtoojmkhjdjianaaGreat
namespace Go.Proofs.YtoojmkhjdjianaaGreat
open Go Go.RowKit
theorem SetE.perm {L i e e' L'} (h:SetE L i e e' L'):∃ Lr,L.Perm (e::Lr)/\L'.Perm (e' :: Lr):=by
 induction h with
 | @here e e' L=>exact ⟨L,List.Perm.refl _,List.Perm.refl _⟩
 | @there x L i e e' L' _ ih =>
  obtain ⟨Lr,h1,h2⟩:=ih
  exact ⟨x::Lr,(h1.cons x).trans (List.Perm.swap _ _ _),(h2.cons x).trans (List.Perm.swap _ _ _)⟩
section
variable {P:Program} {n:Nat} {fr:List (Nat × Value)} {L:List Ent}
variable {dst:Option Tmp} {ty:TypeId} {pos:String} {after:Array Edge} {guard:Option (Nat × Bool)}
theorem Arr {t m sz} {x:Operand} {g o:Nat} (hx:evo fr x=some (.pointer (some ⟨g,o,none⟩))) (ht:Adg P t m sz) (hm:Nat.beq m 0=false):Ev P n ⟨dst,.slice t x none none none,ty,pos,after,guard⟩ fr L (.slice (some ⟨g,o,none⟩) m m):=fun a w ha _=>by
 obtain ⟨e,hu,hs⟩:=ht
 have hm':m≠0:=Nat.ne_of_beq_eq_false hm
 simp [execOp,ha.eval hx,Instr.sliceAt,run_underlying hu,Instr.sureAddr,Instr.sliceBounds,hs,hm',Addr.add_lit]
end
theorem evA {G:Prop} (h:G:=by
 first
 | (with_reducible apply Akd);exact rfl
 | (with_reducible apply Jl);exact rfl
 | (with_reducible apply An2);exact rfl
 | (with_reducible apply Abg);exact rfl
 | (with_reducible apply Adr);exact rfl
 | (with_reducible apply Abh);exact rfl
 | (with_reducible apply Ak2);exact rfl
 | (with_reducible apply Ag9) <;> exact rfl
 | (with_reducible apply Aha) <;> exact rfl
 | (with_reducible apply An3) <;> exact rfl
 | (with_reducible apply Yo) <;> exact rfl
 | (with_reducible apply Adp) <;> exact rfl
 | (with_reducible apply Adq) <;> exact rfl
 | (with_reducible apply Ach) <;> exact rfl
 | (with_reducible apply An8) <;> exact rfl
 | (with_reducible apply An7) <;> exact rfl
 | (with_reducible apply An5) <;> exact rfl
 | (with_reducible apply An4) <;> exact rfl
 | (with_reducible apply An6) <;> exact rfl
 | (with_reducible apply Abl) <;> exact rfl
 | (with_reducible apply Abo) <;> exact rfl
 | (with_reducible apply Abm) <;> exact rfl
 | (with_reducible apply Abp) <;> exact rfl
 | (with_reducible apply Abn) <;> exact rfl
 | (with_reducible apply Abq) <;> exact rfl
 | (with_reducible apply Abj) <;> exact rfl
 | (with_reducible apply Ado) <;> exact rfl
 | (with_reducible apply Abk) <;> exact rfl
 | (with_reducible apply Afw) <;> exact rfl
 | (with_reducible apply Afx) <;> exact rfl):G:=h
theorem Y {G G':Prop} (k:G') (h:G'->G:=by
 intro k
 first
 | (with_reducible apply Ck);exact k
 | (with_reducible apply Ant);exact k
 | (with_reducible apply Atj);exact k
 | (with_reducible apply Atk);exact k
 | (with_reducible apply Anv);exact k
 | (with_reducible apply Anw);exact k
 | (with_reducible apply Ap4);exact k
 | (with_reducible apply Ap3);exact k
 | (with_reducible apply Aj9);exact k
 | (with_reducible apply Ats);exact k
 | (with_reducible apply Atr);exact k
 | (with_reducible apply Anu);exact k
 | (with_reducible apply Anx);exact k
 | (with_reducible apply Avz);exact k
 | (with_reducible apply Aw);exact evA;exact rfl;exact k
 | (with_reducible apply Aj8);exact rfl;exact rfl;exact rfl;exact rfl;exact rfl;exact k
 | (with_reducible apply Qt);exact rfl;exact rfl;exact rfl;exact evA;exact rfl;exact k
 | (with_reducible apply Aka);exact rfl;exact k
 | (with_reducible apply Akb);exact rfl;exact k
 | (with_reducible apply Ale);exact rfl;exact rfl;exact rfl;exact rfl;exact k
 | (with_reducible apply P_p);exact rfl;exact rfl;exact evA;exact rfl;exact k
 | (with_reducible apply Av0);exact rfl;exact rfl;exact rfl;exact rfl;exact rfl;exact rfl;exact k
 | (with_reducible apply P_pG);exact rfl;exact rfl;exact rfl;exact rfl;exact rfl;exact evA;exact rfl;exact k
 | (with_reducible apply Asm);exact rfl;exact rfl;exact rfl;exact rfl;exact rfl;exact k):G:=h k
theorem Y2 {G G':Prop} (k:G') (h:G'->G:=by
 intro k
 iterate 2 refine Y ?_
 exact k):G:=h k
theorem Y3 {G G':Prop} (k:G') (h:G'->G:=by
 intro k
 iterate 3 refine Y ?_
 exact k):G:=h k
theorem Y4 {G G':Prop} (k:G') (h:G'->G:=by
 intro k
 iterate 4 refine Y ?_
 exact k):G:=h k
theorem Y5 {G G':Prop} (k:G') (h:G'->G:=by
 intro k
 iterate 5 refine Y ?_
 exact k):G:=h k
theorem Y6 {G G':Prop} (k:G') (h:G'->G:=by
 intro k
 iterate 6 refine Y ?_
 exact k):G:=h k
theorem Y7 {G G':Prop} (k:G') (h:G'->G:=by
 intro k
 iterate 7 refine Y ?_
 exact k):G:=h k
theorem Y8 {G G':Prop} (k:G') (h:G'->G:=by
 intro k
 iterate 8 refine Y ?_
 exact k):G:=h k
theorem Y9 {G G':Prop} (k:G') (h:G'->G:=by
 intro k
 iterate 9 refine Y ?_
 exact k):G:=h k
theorem Y10 {G G':Prop} (k:G') (h:G'->G:=by
 intro k
 iterate 10 refine Y ?_
 exact k):G:=h k
theorem Y11 {G G':Prop} (k:G') (h:G'->G:=by
 intro k
 iterate 11 refine Y ?_
 exact k):G:=h k
section
variable {P:Program} {n:Nat} {ops:Array Oper} {Q:Exit->Act->World->Prop} {fr:List (Nat × Value)} {L:List Ent} {rest:List Oper} {N:Act->World->Prop}
variable {d i i2 d2:Nat} {op:Op} {ty:TypeId} {pos:String} {after:Array Edge}
theorem sb {e:Ent} (i:Nat) (h:nthE L i=some e:=by exact rfl):SubE [e] L:=SubE.cons2 (i:=i) h SubE.nil
def Aba (ops:Array Oper):List (List Nat) :=
 ops.toList.foldl (fun A o=>A++[o.after.toList.foldl (fun l e=>if Region.binds .any e then (if l.contains e.on then l else e.on::l)++(A.getD e.on []).filter (fun j=>!(l.contains j) && !(Nat.beq j e.on)) else l) []]) []
theorem T_dr {id:Nat} (cls:Cls) (p:Plan) (hm:P.follows .mixedOrders=true) (hd:Yu ops cls (Aba ops)=true) (hp:Ib ops cls p (Array.replicate ops.size false) none=true) (k:T n (Bx P ops Q cls (Aba ops) [] (fun _=>True) p) fr L) :
  T n ((Code.region id ops true).wp P Q) fr L:=Avy cls (Aba ops) p hm hd hp k
theorem Mt {τ γ ρ:Type} {J:τ->Option ρ} {out:ρ} {I:τ->γ->List (Nat × Value)} {H:τ->γ->List Ent} {G:τ->γ->Prop} (s:τ) (g:γ) (hJ:J s=some out) (hG:G s g) (hH:Fu L (H s g)) (hF:SubF (I s g) fr:=by repeat' first | exact SubF.nil | refine SubF.cons rfl ?_) :
  T n (Exit.then (Met n J out I H G) Q .normal) fr L:=Ajp s g hJ hG hF hH
theorem Rp {σ τ γ:Type} {x:Sum σ τ} {I:σ->γ->List (Nat × Value)} {H:σ->γ->List Ent} {G:σ->γ->Prop} (s:σ) (g:γ) (hx:some (.inl s)=some x) (hG:G s g) (hH:Fu L (H s g)) (hF:SubF (I s g) fr:=by repeat' first | exact SubF.nil | refine SubF.cons rfl ?_) :
  T n (Exit.then (Rnd n x I H G) Q .normal) fr L:=Adn s g hx hG hF hH
theorem Lp {σ τ γ:Type} {B:σ->Option (Sum σ τ)} {s0:σ} {t:τ} (hl:lfix B s0=some t) (I:σ->γ->List (Nat × Value)) (H:σ->γ->List Ent) (G:σ->γ->Prop) (g0:γ) (hG:G s0 g0) (hH:Fu L (H s0 g0)) {c:Code}
  (body:∀ s g,G s g->∀ x,B s=some x->(∀ t',x = .inr t'->t'=t)->T n (c.wp P (Exit.then (Rnd n x I H G) Q)) (I s g) (H s g)) (hF:SubF (I s0 g0) fr:=by repeat' first | exact SubF.nil | refine SubF.cons rfl ?_) :
  T n ((Code.loop c).wp P Q) fr L:=Agl hl I H G g0 hG hF hH body
theorem Ti {s:Nat} {p:Prop} [Decidable p] {ρ:Type} {x y r:Option ρ} (hx:(if p then x else y)=r) (hs:look fr s=some (.bool (decide p))) (ht:p->x=r->T n N ((s,.bool true)::fr) L) (hf:¬ p->y=r->T n N ((s,.bool false)::fr) L):T n N fr L :=
 Ak9 hs (fun h=>ht h (Hd h hx)) (fun h=>hf h (Sq h hx))
theorem Tj {τ γ ρ:Type} {kk:τ->Option ρ} {xx:(τ->Option ρ)->Option ρ} {out:ρ} (hx:jn kk xx=some out) (I:τ->γ->List (Nat × Value)) (H:τ->γ->List Ent) (G:τ->γ->Prop) {x y:Code}
  (k2:∀ s g,kk s=some out->G s g->T n (y.wp P Q) (I s g) (H s g)) (k:∀ j,xx j=some out->T n (x.wp P (Exit.then (Met n j out I H G) Q)) fr L):T n ((Code.seq x y).wp P Q) fr L :=
 Wc (J:=kk) I H G k2 (k kk hx)
theorem Tc {f:FuncId} {xs:List Operand} {vs:List Value} {ts:Array TypeId} {ty':TypeId} {X:Value} {Y:Prop} (hc:∀ w,Heap L w->CtL P f vs w fun v Ln=>v=X/\Ln=[]/\Y) (k:T n (wpList P ops Q rest) ((d,X)::fr) L) (hx:evos fr xs=some vs:=by exact rfl) (hd:Nat.blt d n=true:=by exact rfl) :
  T n (wpList P ops Q (⟨some d,.call ⟨.value (.func f),xs.toArray,ts⟩,ty',pos,after,none⟩ :: rest)) fr L :=
 T_x (Ex hx hc hd (by rintro _ _ _ ⟨rfl,rfl,-⟩;exact k))
theorem Pc {cls:Cls} {A:List (List Nat)} {RL:List Nat} {R:World->Prop} {p:Plan} {f:FuncId} {xs:List Operand} {vs:List Value} {ts:Array TypeId} {ty':TypeId} {X:Value} {Y:Prop} (hc:∀ w,Heap L w->CtL P f vs w fun v Ln=>v=X/\Ln=[]/\Y) (k:T n (Bx P ops Q cls A RL R p) ((d,X)::fr) L)
  (ho:ops[i]? = some ⟨some d,.call ⟨.value (.func f),xs.toArray,ts⟩,ty',pos,after,none⟩:=by exact rfl) (hx:evos fr xs=some vs:=by exact rfl) (hd:Nat.blt d n=true:=by exact rfl):T n (Bx P ops Q cls A RL R (.e i p .stop)) fr L :=
 P_x ho (Ex hx hc hd (by rintro _ _ _ ⟨rfl,rfl,-⟩;exact k)) Jf
theorem P_il {cls:Cls} {A0:List (List Nat)} {RL:List Nat} {R:World->Prop} {p:Plan} {α:Type} {KK:List Ent} {A m c sz} {enc:α->List Value} {l:List α} {z:Int} {x0:α} (h:Has KK A m c sz enc l) (hi:idx l z=some x0) {t e ty' k} (ht:Jc P t e sz) (hg:Nm P ty' k) (hK:SubE KK L)
  {x ix:Operand} {kd:IntKind} {vs:List Value} {d1 d2:Nat} {ty1 ty2:TypeId} {pos1 pos2:String} {af1 af2:Array Edge}
  (kk:∀ b o,T n (Bx P ops Q cls A0 RL R p) ((d2,.agg vs.toArray)::(d1,.pointer (some ⟨b,o,none⟩))::fr) L)
  (hc1:Nat.beq (cls.getD i 9) 0=true:=by exact rfl) (ho1:ops[i]? = some ⟨some d1,.indexAddr t x ix,ty1,pos1,af1,none⟩:=by exact rfl) (hx:evo fr x=some (.slice A m c):=by exact rfl) (hix:evo fr ix=some (.int kd z):=by exact rfl) (hd1:Nat.blt d1 n=true:=by exact rfl)
  (hc2:Nat.beq (cls.getD i2 9) 0=false:=by exact rfl) (ho2:ops[i2]? = some ⟨some d2,.load ty' (.tmp d1),ty2,pos2,af2,none⟩:=by exact rfl) (hv:Tg (enc x0) 0 k=some vs:=by exact rfl) (hd2:Nat.blt d2 n=true:=by exact rfl) (hr:RL.contains i2=false:=by rfl) :
  T n (Bx P ops Q cls A0 RL R (.q i (.q i2 p))) fr L:=by
 obtain ⟨b,o,j,hA,hj,hl,hp⟩:=h.at_idx hi
 refine P_p hc1 ho1 (Bo hx hix hA (j:=j) hj hl ht) hd1 ?_
 exact P_q hc2 ho2 (Hn (by simp [evo,look]) hp hK hv hg) hd2 (kk _ _) hr
end
section
variable {P:Program} {n:Nat} {Q:Exit->Act->World->Prop} {fr:List (Nat × Value)} {L:List Ent} {N:Act->World->Prop}
theorem Al7 {α:Type} (enc:α->List Value) (x0:α) {d:Nat} {t e x y k1 k2 i1 i2 i z sz} {ty:TypeId} {pos:String} {after:Array Edge} {guard:Option (Nat × Bool)} (hx:evo fr x=some (.int k1 i1)) (hy:evo fr y=some (.int k2 i2)) (h1:i1=0) (hp:0<=i2)
  (ht:P.underlying t=some (.slice e)) (hi:P.info? e=some i) (hz:i.zero=some z) (hzc:enc x0=z.cells.toList) (hs:i.size=sz) (hsz:0 < sz) (he:∀ x,(enc x).length=sz) (hb:i.bytes*i2.toNat<=140737488355328) (hb0:0 < i.bytes)
  (hd:Nat.blt d n=true) (k:∀ A c,T n N ((d,.slice A 0 c)::fr) (.r A 0 c e sz []::L)) :
  Wx P Q n ⟨some d,.makeSlice t x y,ty,pos,after,guard⟩ fr L N:=by
 subst h1
 have h2:=Nat.mul_le_mul_right i2.toNat hb0
 rw [Nat.succ_mul,Nat.zero_mul,Nat.zero_add] at h2
 intro a w ha hw
 have hb':(i.bytes:Int)*i2<=281474976710656:=by
  have h:((i.bytes*i2.toNat:Nat):Int)<=281474976710656:=by omega
  rw [Int.natCast_mul,Int.toNat_of_nonneg (by omega)] at h;exact h
 have hr:=run_make (P:=P) w t e i z ht hi hz k1 k2 0 i2 (Int.le_refl _) hp hb' (by omega)
 rw [hs,Vy x0 hsz he hzc] at hr
 have hlen:((List.replicate i2.toNat x0).flatMap enc).length=i2.toNat*sz:=by rw [Jz he,List.length_replicate]
 have hrun:(execOp a.eval ⟨some d,.makeSlice t x y,ty,pos,after,guard⟩).run P w = .ok (.value (.slice (some ⟨w.heap.size,0,none⟩) 0 i2.toNat)) (w.alloc (.cells ((List.replicate i2.toNat x0).flatMap enc).toArray e)):=by
  simp [execOp,ha.eval hx,ha.eval hy,hr]
 simp only [Oper.wp,hrun,Oper.upon_value]
 refine ⟨Rj w _,k _ _ _ _ (ha.put hd) ?_⟩
 have h':=hw.allocR e sz i2.toNat ((List.replicate i2.toNat x0).flatMap enc) hlen (by unfold maxLen;omega)
 refine ⟨fun x hx=>?_,?_⟩
 ·rcases List.mem_cons.1 hx with rfl | hx
  ·exact ⟨by simp,.inr ⟨w.heap.size,i2.toNat,((List.replicate i2.toNat x0).flatMap enc).toArray,rfl,Nat.zero_le _,heap_alloc_new w _,Nat.zero_le _,by unfold maxLen;omega,by simp only [List.size_toArray];exact hlen,by simp⟩⟩
  ·exact h'.ok x (List.mem_cons_of_mem _ hx)
 ·have hp:=h'.sep
  rw [List.pairwise_cons] at hp ⊢
  exact ⟨fun x hx=>hp.1 x hx,hp.2⟩
end
end Go.Proofs.YtoojmkhjdjianaaGreat
