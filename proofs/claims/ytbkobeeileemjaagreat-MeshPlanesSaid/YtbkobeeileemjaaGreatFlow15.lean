/- slices.SortFunc of an own row, by a comparator of a total order that may look at what the world holds beside the row. -/
import Derived.Test.YtbkobeeileemjaaGreatSortK
import Derived.Shelf.SlSortCmp.NoneTotal
import Derived.Shelf.SlSortCmp.Whole1
namespace Go.Proofs.YtbkobeeileemjaaGreat
open Go Go.RowKit Go.Shelf Go.Sort
/-- The list, sorted by a comparator of a total order. -/
def Bd {α:Type} (cf:α→α→Int) (l:List α):List α:=l.mergeSort fun x y=>!(ltOf cf) y x
theorem Fv {α:Type} {cf:α→α→Int} {l:List α}:(Bd cf l).length=l.length:=by simp [Bd]
/-- A total order of what p holds. -/
structure Su {β:Type} (p:β→Prop) (cf:β→β→Int):Prop where
 irr:∀ x,p x→¬ cf x x < 0
 trans:∀ x y z,p x→p y→p z→cf x y < 0→cf y z < 0→cf x z < 0
 tot:∀ x y,p x→p y→¬ cf x y < 0→¬ cf y x < 0→x=y
theorem Abs {α:Type} {cf:α→α→Int} {x y:α}:ltOf cf x y=true↔cf x y < 0:=by simp [ltOf]
theorem Oh {α:Type} {cf:α→α→Int} {x y:α}:ltOf cf x y=false↔¬ cf x y < 0:=by simp [ltOf]
theorem Su.swo {β:Type} {p:β→Prop} {cf:β→β→Int} (h:Su p cf):SWO (ltOf fun x y:{x // p x}=>cf x.1 y.1) where
 irrefl x:=Oh.2 (h.irr x.1 x.2)
 trans x y z h1 h2:=Abs.2 (h.trans x.1 y.1 z.1 x.2 y.2 z.2 (Abs.1 h1) (Abs.1 h2))
 ntrans x y z h1 h2:=by
  rw [Oh] at h1 h2 ⊢
  intro h3
  by_cases h4:cf y.1 x.1 < 0
  ·exact h2 (h.trans y.1 x.1 z.1 y.2 x.2 z.2 h4 h3)
  ·have:=h.tot x.1 y.1 x.2 y.2 h1 h4
   rw [this] at h3
   exact h2 h3
theorem Su.one {β:Type} {p:β→Prop} {cf:β→β→Int} (h:Su p cf) (x y:{x // p x}) (h1:ltOf (fun x y:{x // p x}=>cf x.1 y.1) x y=false) (h2:ltOf (fun x y:{x // p x}=>cf x.1 y.1) y x=false):x=y :=
 Subtype.ext (h.tot x.1 y.1 x.2 y.2 (Oh.1 h1) (Oh.1 h2))
/-- What the sort does to its row. -/
def Zb (P:Program) (f:FuncId) (A:Option Addr) (m c:Nat) (t:TypeId) (k:Nat) (gf:Nat) (cb:Array Value) (w:World) (xs ys:List Value):Prop :=
 Calls P f #[.slice A m c,.func (.func gf) #[] cb] w fun e w'=>e = .returned (.tuple #[])∧w.grownBy w' (Ent.blk (.r A m c t k xs))∧w.drawn≤w'.drawn∧Ent.ok w' (.r A m c t k ys)
/-- What the comparator does, in every world that the sort passes through. -/
def Zc (P:Program) {β:Type} (p:β→Prop) (cf:β→β→Int) (arg:β→Value) (A:Option Addr) (m c:Nat) (t:TypeId) (k:Nat) (gf:Nat) (cb:Array Value) (w:World) (xs:List Value):Prop :=
 ∀ (ys:List Value) W,Ent.ok W (.r A m c t k ys)→w.grownBy W (Ent.blk (.r A m c t k xs))→w.drawn≤W.drawn→∀ x y,p x→p y→Calls P gf (#[arg x,arg y]++cb) W fun e w'=>e = .returned (.int .i64 (cf x y))∧Gw W w'
theorem Rq {α:Type} [Inhabited α] (enc:α→List Value) (k:Nat) (w:World) (g off n:Nat) (d:Array α) (os:Array Obj):w.drawn≤(sortWorldK enc k w g off n d os).drawn:=Nat.le_add_right _ _
theorem Vt {β:Type} {p:β→Prop} {cf:β→β→Int} (l':List {x // p x}):Bd cf (l'.map Subtype.val)=(Bd (fun x y:{x // p x}=>cf x.1 y.1) l').map Subtype.val:=by
 unfold Bd
 rw [List.map_mergeSort]
 intro a _ b _
 rfl
/-- Rows of structs. -/
theorem Abt {P:Program} {ρ:Ren} (L:SlLaysF0.n6 P ρ) {β:Type} {p:β→Prop} {k:Nat} (aE:∀ w,(isAgg (ρ.t 24)).run P w = .ok true w) (zE:∀ w,(Go.sizeOf (ρ.t 24)).run P w = .ok k w) {enc:β→List Value} (hk:∀ x,(enc x).length=k) (h0:0 < k)
  (h1:∀ x,∀ v∈enc x,v.oneCell'=true) {cf:β→β→Int} (hT:Su p cf) {gf:Nat} {cb:Array Value} (eg:∀ args w,(callFunc gf args).run P w = .ok (.enter gf args) w)
  (l:List β) (hb:l.length≤1000000000) (hp:∀ x∈l,p x) {A:Option Addr} {m c:Nat} {t:TypeId} (w:World) (hok:Ent.ok w (.r A m c t k (l.flatMap enc)))
  (hcmp:Zc P p cf (fun x=>.agg (enc x).toArray) A m c t k gf cb w (l.flatMap enc)):Zb P (ρ.f 6) A m c t k gf cb w (l.flatMap enc) ((Bd cf l).flatMap enc):=by
 obtain ⟨hl,h2⟩:=hok
 rw [Kb hk] at hl
 have hm:l.length=m:=Nat.eq_of_mul_eq_mul_right h0 hl
 subst hm
 by_cases hl0:l=[]
 ·subst hl0
  refine (AnyF.slices_SortFunc_none L A c _ w).mono ?_
  rintro e w' ⟨rfl,rfl⟩
  exact ⟨rfl,⟨rfl,rfl,rfl,Nat.le_refl _,fun _ _ _=>rfl⟩,Nat.le_refl _,by rw [show Bd cf ([]:List β)=[] by simp [Bd]];exact ⟨by simp,h2⟩⟩
 ·obtain ⟨l',hl'⟩:∃ l':List {x // p x},l=l'.map Subtype.val:=⟨l.attach.map fun x=>⟨x.1,hp x.1 x.2⟩,by simp only [List.map_map,Function.comp_def];exact (List.attach_map_subtype_val _).symm⟩
  obtain ⟨x0,hx0⟩:=List.exists_mem_of_ne_nil l hl0
  have:Inhabited {x // p x}:=⟨⟨x0,hp x0 hx0⟩⟩
  clear hl0 hx0
  subst hl'
  have hf:∀ q:List {x // p x},(q.map Subtype.val).flatMap enc=q.flatMap fun x=>enc x.1:=fun q=>by rw [List.flatMap_map]
  have hk':∀ x:{x // p x},(enc x.1).length=k:=fun x=>hk x.1
  rcases h2 with ⟨hv,hz⟩ | ⟨g,cap,cur,hv,hbg,hh,h3,h4,h5,h6⟩
  ·injection hv with e1 e2 e3
   subst e1;subst e3
   rw [hz]
   have hl0:l'=[]:=by simpa using hz
   subst hl0
   refine (AnyF.slices_SortFunc_none L none 0 _ w).mono ?_
   rintro e w' ⟨rfl,rfl⟩
   exact ⟨rfl,⟨rfl,rfl,rfl,Nat.le_refl _,fun _ _ _=>rfl⟩,Nat.le_refl _,by simp [Bd],.inl ⟨rfl,rfl⟩⟩
  ·injection hv with e1 e2 e3
   subst e1;subst e3
   unfold Zc at hcmp
   unfold Zb
   rw [Vt,hf,hf]
   rw [hf] at h6 hcmp
   rw [List.length_map] at h3 h6 hl hb hcmp ⊢
   have hH:HoldsK (fun x:{x // p x}=>enc x.1) k w g 0 l'.toArray:=Ajv hk' h0 l'.toArray hh (by simpa using h6)
   have hcl:CmpLays P gf cb (fun x:{x // p x}=>enc x.1) k (fun x y=>cf x.1 y.1) g 0 l'.toArray.size w:=fun q os dk hdk x y=>by
    have hr:=Abq hk' h0 (d:=l'.toArray) (d':=dk) (n:=q) (os:=os) hdk hh (by simpa using h3) h4 h5
    simp only [List.size_toArray] at hr
    exact hcmp _ _ hr.1 hr.2 (Rq _ _ _ _ _ _ _ _) x.1 y.1 x.2 y.2
   have:=AnyQ.slices_SortFunc_total L k aE zE (fun x:{x // p x}=>enc x.1) hk' (fun x=>h1 x.1) (fun x y=>cf x.1 y.1) hT.swo gf cb g 0 c l'.toArray w eg hcl hH (Ex hh) (by simp;omega) hT.one
   rw [show l'.toArray.size=l'.length by simp] at this
   refine this.mono ?_
   rintro e w' ⟨rfl,n,os,rfl⟩
   have hs:(l'.toArray.toList.mergeSort fun x y=>!(ltOf fun x y:{x // p x}=>cf x.1 y.1) y x).toArray.size=l'.toArray.size:=by simp
   have hr:=Abq hk' h0 (d:=l'.toArray) (d':=(l'.toArray.toList.mergeSort fun x y=>!(ltOf fun x y:{x // p x}=>cf x.1 y.1) y x).toArray) (n:=n) (os:=os) hs hh (by simpa using h3) h4 h5
   refine ⟨rfl,hr.2,Rq _ _ _ _ _ _ _ _,?_⟩
   have h7:=hr.1
   simp only [List.size_toArray] at h7
   exact h7
section
variable {P:Program} {n:Nat} {N:Act→World→Prop} {Q:Exit→Act→World→Prop} {fr:List (Nat × Value)} {L L':List Ent}
/-- The call of a sort. -/
theorem Tw {β:Type} {p:β→Prop} {enc:β→List Value} {arg:β→Value} {cf:β→β→Int} {k f gf:Nat} {cb:Array Value} (l:List β) {i m c:Nat} {A:Option Addr} {t:TypeId} {xs:List Operand} {ts:Array TypeId} {ty':TypeId} {pos:String} {after:Array Edge} {guard:Option (Nat × Bool)}
  (he:Sa P f) (hs:∀ w,Ent.ok w (.r A m c t k (l.flatMap enc))→Zc P p cf arg A m c t k gf cb w (l.flatMap enc)→Zb P f A m c t k gf cb w (l.flatMap enc) ((Bd cf l).flatMap enc))
  (Lf:List Value→List Ent) (hLf:∀ ys,SetE L i (.r A m c t k (l.flatMap enc)) (.r A m c t k ys) (Lf ys)) (hc:∀ ys W,Heap (Lf ys) W→∀ x y,p x→p y→∃ xs,xs.toArray = #[arg x,arg y]++cb∧CtL P gf xs W fun v Ln=>v = .int .i64 (cf x y)∧Ln=[]∧True)
  (hx:evos fr xs=some [.slice A m c,.func (.func gf) #[] cb]) (hL:Lf ((Bd cf l).flatMap enc)=L')
  {d:Nat} (hd:Nat.blt d n=true) (kk:T n N ((d,.tuple #[])::fr) L'):Wh P Q n ⟨some d,.call ⟨.value (.func f),xs.toArray,ts⟩,ty',pos,after,guard⟩ fr L N:=by
 intro a w ha hw
 subst hL
 have turn:∀ ys W,Ent.ok W (.r A m c t k ys)→w.grownBy W (Ent.blk (.r A m c t k (l.flatMap enc)))→w.drawn≤W.drawn→Heap (Lf ys) W:=fun ys W h1 h2 h3 =>
  Heap.turn (e:=.r A m c t k (l.flatMap enc)) (e':=.r A m c t k ys) h2 h1 (Nat.le_refl _) (fun _ hg=>.inl hg) (hLf ys) hw (hd:=h3)
 simp only [Oper.wp,Aa1 he ha hx,Oper.upon_enter]
 refine (hs w (hw.ok _ (hLf []).mem) fun ys W h1 h2 h3 x y px py=>?_).mono ?_
 ·obtain ⟨xs,e,h⟩:=hc ys W (turn ys W h1 h2 h3) x y px py
  rw [← e]
  exact h.grows
 ·rintro e w' ⟨rfl,hg,hdr,hok⟩
  exact kk _ _ (ha.put hd) (turn _ _ hok hg hdr)
end
end Go.Proofs.YtbkobeeileemjaaGreat
/- slices.SortFunc of an own row of values of one cell. -/
namespace Go.Proofs.YtbkobeeileemjaaGreat
open Go Go.RowKit Go.Shelf Go.Sort
theorem Yd {α:Type} {f:α→Value}:∀ l:List α,l.flatMap (fun x=>[f x])=l.map f
 | []=>rfl
 | x::r=>by rw [List.flatMap_cons,Yd r];rfl
section
variable {α:Type} [Inhabited α] {enc:α→Value}
theorem Ahe {w:World} {g:Nat} {cur:Array Value} {t:TypeId} (l:List α) (hh:w.heap[g]? = some (.cells cur t (0,0))) (h6:cur.toList.take l.length=l.map enc):Holds enc w g 0 l.toArray:=fun j hj=>by
 have hj':j < l.length:=by simpa using hj
 refine ⟨?_,?_⟩
 ·have h7:(cur.toList.take l.length)[j]? = some (enc l[j]):=by rw [h6];simp [hj']
  rw [List.getElem?_take,if_pos hj'] at h7
  have h8:cur[j]? = some (enc l[j]):=by simpa using h7
  simp [World.cell?,hh,h8,hj']
 ·simp [World.frozen?,hh]
theorem Zd {w:World} {g c n:Nat} {cur:Array Value} {t:TypeId} {d:List α} {d':Array α} {os:Array Obj} (hs:d'.size=d.length) (hh:w.heap[g]? = some (.cells cur t (0,0))) (h3:d.length≤c) (h4:c≤maxLen) (h5:cur.size=c) :
  Ent.ok (sortWorld enc w g 0 n d' os) (.r (some ⟨g,0,none⟩) d.length c t 1 (d'.toList.map enc))∧w.grownBy (sortWorld enc w g 0 n d' os) (some g):=by
 have hlt:=Ex hh
 have hg0:∀ k,k < w.heap.size→(sortWorld enc w g 0 n d' os).heap[k]? = (w.heap.modify g (onCells (putCells enc 0 d')))[k]?:=fun k hk=>by
  show (((Go.Sort.ahead w n).heap.modify g (onCells (putCells enc 0 d')))++os)[k]? = _
  rw [Array.getElem?_append_left (by rw [Array.size_modify];exact hk)]
  rfl
 refine ⟨⟨by rw [List.length_map,Array.length_toList,hs,Nat.mul_one],.inr ⟨g,c,putCells enc 0 d' cur,rfl,Nat.zero_le _,?_,h3,h4,?_,?_⟩⟩,⟨rfl,rfl,rfl,?_,fun k hk hne=>?_⟩⟩
 ·rw [hg0 g hlt,Array.getElem?_modify,if_pos rfl,hh];rfl
 ·simp [putCells,h5]
 ·rw [Nat.mul_one]
  apply List.ext_getElem?
  intro j
  rw [List.getElem?_take]
  by_cases hj:j < d.length
  ·rw [if_pos hj]
   have hj':j < d'.size:=by omega
   have hjc:j < cur.size:=by omega
   rw [List.getElem?_map,Array.getElem?_toList,show d'.toList[j]? = some d'[j] by simp [hj']]
   simp only [putCells,Array.getElem?_mapIdx,Array.getElem?_eq_getElem hjc,Option.map_some]
   rw [if_pos ⟨Nat.zero_le _,by omega⟩]
   simp [hj']
  ·rw [if_neg hj,List.getElem?_eq_none (by rw [List.length_map,Array.length_toList];omega)]
 ·show w.heap.size≤(((Go.Sort.ahead w n).heap.modify g (onCells (putCells enc 0 d')))++os).size
  rw [Array.size_append,Array.size_modify]
  exact Nat.le_add_right _ _
 ·rw [hg0 k hk,Array.getElem?_modify]
  rw [if_neg (fun he=>hne (by rw [he]))]
end
theorem Sv {α:Type} [Inhabited α] (enc:α→Value) (w:World) (g off n:Nat) (d:Array α) (os:Array Obj):w.drawn≤(sortWorld enc w g off n d os).drawn:=Nat.le_add_right _ _
/-- Rows of values of one cell. -/
theorem Ahf {P:Program} {ρ:Ren} (L:SlLaysF.n6 P ρ) {β:Type} {p:β→Prop} {enc:β→Value} (h1:∀ x,(enc x).oneCell'=true) {cf:β→β→Int} (hT:Su p cf) {gf:Nat} {cb:Array Value} (eg:∀ args w,(callFunc gf args).run P w = .ok (.enter gf args) w)
  (l:List β) (hb:l.length≤1000000000) (hp:∀ x∈l,p x) {A:Option Addr} {m c:Nat} {t:TypeId} (w:World) (hok:Ent.ok w (.r A m c t 1 (l.flatMap fun x=>[enc x])))
  (hcmp:Zc P p cf enc A m c t 1 gf cb w (l.flatMap fun x=>[enc x])):Zb P (ρ.f 6) A m c t 1 gf cb w (l.flatMap fun x=>[enc x]) ((Bd cf l).flatMap fun x=>[enc x]):=by
 rw [Yd] at hok hcmp ⊢
 rw [Yd]
 obtain ⟨hl,h2⟩:=hok
 rw [List.length_map,Nat.mul_one] at hl
 subst hl
 by_cases hl0:l=[]
 ·subst hl0
  refine (AnyF.slices_SortFunc_none { L with } A c _ w).mono ?_
  rintro e w' ⟨rfl,rfl⟩
  exact ⟨rfl,⟨rfl,rfl,rfl,Nat.le_refl _,fun _ _ _=>rfl⟩,Nat.le_refl _,by rw [show Bd cf ([]:List β)=[] by simp [Bd]];exact ⟨by simp,h2⟩⟩
 ·obtain ⟨l',hl'⟩:∃ l':List {x // p x},l=l'.map Subtype.val:=⟨l.attach.map fun x=>⟨x.1,hp x.1 x.2⟩,by simp only [List.map_map,Function.comp_def];exact (List.attach_map_subtype_val _).symm⟩
  obtain ⟨x0,hx0⟩:=List.exists_mem_of_ne_nil l hl0
  have:Inhabited {x // p x}:=⟨⟨x0,hp x0 hx0⟩⟩
  clear hx0
  subst hl'
  rcases h2 with ⟨hv,hz⟩ | ⟨g,cap,cur,hv,hbg,hh,h3,h4,h5,h6⟩
  ·exact absurd (List.eq_nil_of_length_eq_zero hz) hl0
  ·injection hv with e1 e2 e3
   subst e1;subst e3
   unfold Zc at hcmp
   unfold Zb
   rw [Vt,List.map_map,List.map_map]
   rw [List.map_map] at h6 hcmp
   rw [List.length_map] at h3 h6 hb hcmp ⊢
   rw [Nat.mul_one] at h5 h6
   have hH:Holds (fun x:{x // p x}=>enc x.1) w g 0 l'.toArray:=Ahe l' hh h6
   have hcl:CmpLays1 P gf cb (fun x:{x // p x}=>enc x.1) (fun x y=>cf x.1 y.1) g 0 l'.toArray.size w:=fun q os dk hdk x y=>by
    have hr:=Zd (enc:=fun x:{x // p x}=>enc x.1) (d:=l') (d':=dk) (n:=q) (os:=os) (by simpa using hdk) hh h3 h4 h5
    exact hcmp _ _ hr.1 hr.2 (Sv _ _ _ _ _ _ _) x.1 y.1 x.2 y.2
   have:=Any.slices_SortFunc_total L (fun x:{x // p x}=>enc x.1) (fun x=>h1 x.1) (fun x y=>cf x.1 y.1) hT.swo gf cb g 0 c l'.toArray w eg hcl hH (Ex hh) (by simp;omega) hT.one
   rw [show l'.toArray.size=l'.length by simp] at this
   refine this.mono ?_
   rintro e w' ⟨rfl,n,os,rfl⟩
   have hr:=Zd (enc:=fun x:{x // p x}=>enc x.1) (d:=l') (d':=(Bd (fun x y:{x // p x}=>cf x.1 y.1) l').toArray) (n:=n) (os:=os) (by simp [Fv]) hh h3 h4 h5
   exact ⟨rfl,hr.2,Sv _ _ _ _ _ _ _,by simpa [Bd] using hr.1⟩
end Go.Proofs.YtbkobeeileemjaaGreat
/- Function values with captures; arrays as slices. -/
namespace Go.Proofs.YtbkobeeileemjaaGreat
open Go Go.RowKit
theorem SetE.perm {L i e e' L'} (h:SetE L i e e' L'):∃ Lr,L.Perm (e::Lr)∧L'.Perm (e' :: Lr):=by
 induction h with
 | @here e e' L=>exact ⟨L,List.Perm.refl _,List.Perm.refl _⟩
 | @there x L i e e' L' _ ih =>
  obtain ⟨Lr,h1,h2⟩:=ih
  exact ⟨x::Lr,(h1.cons x).trans (List.Perm.swap _ _ _),(h2.cons x).trans (List.Perm.swap _ _ _)⟩
section
variable {P:Program} {n:Nat} {fr:List (Nat × Value)} {L:List Ent}
variable {dst:Option Tmp} {ty:TypeId} {pos:String} {after:Array Edge} {guard:Option (Nat × Bool)}
theorem Aoc {t m sz} {x:Operand} {g o:Nat} (hx:evo fr x=some (.pointer (some ⟨g,o,none⟩))) (ht:Zr P t m sz) (hm:Nat.beq m 0=false):Ev P n ⟨dst,.slice t x none none none,ty,pos,after,guard⟩ fr L (.slice (some ⟨g,o,none⟩) m m):=fun a w ha _=>by
 obtain ⟨e,hu,hs⟩:=ht
 have hm':m≠0:=Nat.ne_of_beq_eq_false hm
 simp [execOp,ha.eval hx,Instr.sliceAt,run_underlying hu,Instr.sureAddr,Instr.sliceBounds,hs,hm',Addr.add_lit]
end
end Go.Proofs.YtbkobeeileemjaaGreat
