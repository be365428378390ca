/- slices.Sort of an own row of ints, by its contract. -/
import Derived.Test.YtbkobeeileemjaaGreatJ1
import Derived.Test.YtbkobeeileemjaaGreatFlow8
import Derived.Test.YtbkobeeileemjaaGreatSl
import Derived.Shelf.Sort.Plain
import Derived.Shelf.Slices.In.SortNone
namespace Go.Proofs.YtbkobeeileemjaaGreat
open Go Go.RowKit Go.Shelf Go.Sort
def Gu (l:List Int):List Int:=l.mergeSort fun x y=>decide (x≤y)
theorem Af2 {l:List Int}:(Gu l).length=l.length:=by simp [Gu]
theorem Xf:∀ l:List Int,l.flatMap Bs=l.map (Value.int .i64)
 | []=>rfl
 | x::r=>by rw [List.flatMap_cons,Xf r];rfl
theorem Amc (l:List Int) (hb:l.length≤1000000) {A:Option Addr} {m c:Nat} {t:TypeId} (w:World) (hok:Ent.ok w (.r A m c t 1 (l.flatMap Bs))) :
  Calls Tryz.prog 140 #[.slice A m c] w fun e w'=>e = .returned (.tuple #[])∧w.grownBy w' (Ent.blk (.r A m c t 1 (l.flatMap Bs)))∧w.drawn≤w'.drawn∧Ent.ok w' (.r A m c t 1 ((Gu l).flatMap Bs)):=by
 obtain ⟨hl,h2⟩:=hok
 rw [Xf,List.length_map,Nat.mul_one] at hl
 subst hl
 rcases h2 with ⟨hv,h0⟩ | ⟨g,cap,cur,hv,hbg,hh,h3,h4,h5,h6⟩
 ·injection hv with e1 e2 e3
  subst e1;subst e3
  have hl0:l=[]:=List.eq_nil_of_length_eq_zero h0
  subst hl0
  refine (calls_of_every_depth fun D=>AnyS.slices_Sort_int_none_alone Tryz.laysSort D none 0 w).mono ?_
  rintro e w' ⟨rfl,rfl⟩
  refine ⟨rfl,⟨rfl,rfl,rfl,Nat.le_refl _,fun _ _ _=>rfl⟩,Nat.le_refl _,by simp [Gu],.inl ⟨rfl,rfl⟩⟩
 ·injection hv with e1 e2 e3
  subst e1;subst e3
  rw [Xf,Nat.mul_one] at h6
  rw [Nat.mul_one] at h5
  have hlt:=Ef hh
  have hcell:∀ j,(hj:j < l.length)→cur[j]? = some (Value.int .i64 l[j]):=fun j hj=>by
   have h7:(cur.toList.take l.length)[j]? = some (Value.int .i64 l[j]):=by rw [h6];simp [hj]
   rw [List.getElem?_take,if_pos hj] at h7
   simpa using h7
  have hH:Holds (Value.int .i64) w g 0 l.toArray:=fun j hj=>by
   have hj':j < l.length:=by simpa using hj
   refine ⟨?_,?_⟩
   ·have:=hcell j hj'
    simp [World.cell?,hh,this,hj']
   ·simp [World.frozen?,hh]
  refine (Any.slices_Sort_int Tryz.laysSort g 0 c l w hH hlt (by omega)).mono ?_
  rintro e w' ⟨rfl,q,os,rfl⟩
  rw [show (l.mergeSort fun x y=>decide (x≤y))=Gu l from rfl]
  have hsz:(Gu l).length=l.length:=Af2
  have hg0:∀ k,k < w.heap.size→(grow (putRow (Value.int .i64) (Go.Sort.ahead w q) g 0 (Gu l).toArray) os).heap[k]? = (w.heap.modify g (onCells (putCells (Value.int .i64) 0 (Gu l).toArray)))[k]?:=fun k hk=>by
   show (((Go.Sort.ahead w q).heap.modify g (onCells (putCells (Value.int .i64) 0 (Gu l).toArray)))++os)[k]? = _
   rw [Array.getElem?_append_left (by rw [Array.size_modify];exact hk)]
   rfl
  refine ⟨rfl,⟨rfl,rfl,rfl,?_,fun k hk hne=>?_⟩,Nat.le_add_right _ _,by rw [Xf,List.length_map,hsz,Nat.mul_one],.inr ⟨g,c,putCells (Value.int .i64) 0 (Gu l).toArray cur,rfl,Nat.zero_le _,?_,h3,h4,?_,?_⟩⟩
  ·show w.heap.size≤(((Go.Sort.ahead w q).heap.modify g (onCells (putCells (Value.int .i64) 0 (Gu l).toArray)))++os).size
   rw [Array.size_append,Array.size_modify]
   exact Nat.le_add_right _ _
  ·rw [hg0 k hk,Array.getElem?_modify]
   rw [if_neg (fun he=>hne (by rw [he];rfl))]
  ·rw [hg0 g hlt,Array.getElem?_modify,if_pos rfl,hh];rfl
  ·simp [putCells,h5]
  ·rw [Nat.mul_one,Xf]
   apply List.ext_getElem?
   intro j
   rw [List.getElem?_take]
   by_cases hj:j < l.length
   ·rw [if_pos hj]
    have hj2:j < (Gu l).length:=by omega
    have hcj:=hcell j hj
    have:(putCells (Value.int .i64) 0 (Gu l).toArray cur)[j]? = some (Value.int .i64 (Gu l)[j]):=by
     simp only [putCells,Array.getElem?_mapIdx,hcj,Option.map_some]
     rw [if_pos ⟨Nat.zero_le _,by simpa using hj2⟩]
     simp [hj2]
    rw [← Array.getElem?_toList] at this
    rw [this]
    simp [hj2]
   ·rw [if_neg hj]
    rw [List.getElem?_eq_none (by rw [List.length_map,hsz];omega)]
section
variable {n:Nat} {N:Act→World→Prop} {Q:Exit→Act→World→Prop} {fr:List (Nat × Value)} {L L':List Ent}
theorem Ap2 (l:List Int) {d i m c:Nat} {A:Option Addr} {t:TypeId} {xs:List Operand} {ts:Array TypeId} {ty':TypeId} {pos:String} {after:Array Edge} {guard:Option (Nat × Bool)}
  (hx:evos fr xs=some [.slice A m c]) (hb:l.length≤1000000) (hL:SetE L i (.r A m c t 1 (l.flatMap Bs)) (.r A m c t 1 ((Gu l).flatMap Bs)) L') (hd:Nat.blt d n=true)
  (k:T n N ((d,.tuple #[])::fr) L'):Wh Tryz.prog Q n ⟨some d,.call ⟨.value (.func 140),xs.toArray,ts⟩,ty',pos,after,guard⟩ fr L N:=by
 intro a w ha hw
 have he:Sy Tryz.prog 140:=⟨_,Tryz.func140,rfl,rfl⟩
 simp only [Oper.wp,Aa4 he ha hx,Oper.upon_enter]
 refine (Amc l hb w (hw.ok _ hL.mem)).mono ?_
 rintro e w' ⟨rfl,hg,hdr,hok⟩
 exact k _ _ (ha.put hd) (Heap.turn (e:=.r A m c t 1 (l.flatMap Bs)) (e':=.r A m c t 1 ((Gu l).flatMap Bs)) hg hok (Nat.le_refl _) (fun _ hg=>.inl hg) hL hw (hd:=hdr))
end
end Go.Proofs.YtbkobeeileemjaaGreat
