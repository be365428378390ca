/- slices.Sort of an own row of ints, by its contract. -/
import Derived.Test.YtbkobeeileemjaaGreatJ1
import Derived.Test.YtbkobeeileemjaaGreatFlow8
import Derived.Test.YtbkobeeileemjaaGreatSl
import Derived.Shelf.Sort.Plain
import Derived.Shelf.Slices.In.SortNone
import Derived.Test.YtbkobeeileemjaaGreatJ2
namespace Go.Proofs.YtbkobeeileemjaaGreat
open Go Go.RowKit Go.Shelf Go.Sort
def sortI (l:List Int):List Int:=l.mergeSort fun x y=>decide (x≤y)
theorem sortI_len {l:List Int}:(sortI l).length=l.length:=by simp [sortI]
theorem flat_i64:∀ l:List Int,l.flatMap e_i64=l.map (Value.int .i64)
 | []=>rfl
 | x::r=>by rw [List.flatMap_cons,flat_i64 r];rfl
theorem sort_runs (l:List Int) (hb:l.length≤1000000) {A:Option Addr} {m c:Nat} {t:TypeId} (w:World) (hok:Ent.ok w (.r A m c t 1 (l.flatMap e_i64))) :
  Calls Tryz.prog 140 #[.slice A m c] w fun e w'=>e = .returned (.tuple #[])∧w.grownBy w' (Ent.blk (.r A m c t 1 (l.flatMap e_i64)))∧w.drawn≤w'.drawn∧Ent.ok w' (.r A m c t 1 ((sortI l).flatMap e_i64)):=by
 obtain ⟨hl,h2⟩:=hok
 rw [flat_i64,List.length_map,Nat.mul_one] at hl
 subst hl
 rcases h2 with ⟨hv,h0⟩ | ⟨g,cap,cur,hv,hbg,hh,h3,h4,h5,h6⟩
 ·injection hv with e1 e2 e3
  subst e1;subst e3
  have hl0:l=[]:=List.eq_nil_of_length_eq_zero h0
  subst hl0
  refine (calls_of_every_depth fun D=>AnyS.slices_Sort_int_none_alone Tryz.laysSort D none 0 w).mono ?_
  rintro e w' ⟨rfl,rfl⟩
  refine ⟨rfl,⟨rfl,rfl,rfl,Nat.le_refl _,fun _ _ _=>rfl⟩,Nat.le_refl _,by simp [sortI],.inl ⟨rfl,rfl⟩⟩
 ·injection hv with e1 e2 e3
  subst e1;subst e3
  rw [flat_i64,Nat.mul_one] at h6
  rw [Nat.mul_one] at h5
  have hlt:=lt_of_heap hh
  have hcell:∀ j,(hj:j < l.length)→cur[j]? = some (Value.int .i64 l[j]):=fun j hj=>by
   have h7:(cur.toList.take l.length)[j]? = some (Value.int .i64 l[j]):=by rw [h6];simp [hj]
   rw [List.getElem?_take,if_pos hj] at h7
   simpa using h7
  have hH:Holds (Value.int .i64) w g 0 l.toArray:=fun j hj=>by
   have hj':j < l.length:=by simpa using hj
   refine ⟨?_,?_⟩
   ·have:=hcell j hj'
    simp [World.cell?,hh,this,hj']
   ·simp [World.frozen?,hh]
  refine (Any.slices_Sort_int Tryz.laysSort g 0 c l w hH hlt (by omega)).mono ?_
  rintro e w' ⟨rfl,q,os,rfl⟩
  rw [show (l.mergeSort fun x y=>decide (x≤y))=sortI l from rfl]
  have hsz:(sortI l).length=l.length:=sortI_len
  have hg0:∀ k,k < w.heap.size→(grow (putRow (Value.int .i64) (Go.Sort.ahead w q) g 0 (sortI l).toArray) os).heap[k]? = (w.heap.modify g (onCells (putCells (Value.int .i64) 0 (sortI l).toArray)))[k]?:=fun k hk=>by
   show (((Go.Sort.ahead w q).heap.modify g (onCells (putCells (Value.int .i64) 0 (sortI l).toArray)))++os)[k]? = _
   rw [Array.getElem?_append_left (by rw [Array.size_modify];exact hk)]
   rfl
  refine ⟨rfl,⟨rfl,rfl,rfl,?_,fun k hk hne=>?_⟩,Nat.le_add_right _ _,by rw [flat_i64,List.length_map,hsz,Nat.mul_one],.inr ⟨g,c,putCells (Value.int .i64) 0 (sortI l).toArray cur,rfl,Nat.zero_le _,?_,h3,h4,?_,?_⟩⟩
  ·show w.heap.size≤(((Go.Sort.ahead w q).heap.modify g (onCells (putCells (Value.int .i64) 0 (sortI l).toArray)))++os).size
   rw [Array.size_append,Array.size_modify]
   exact Nat.le_add_right _ _
  ·rw [hg0 k hk,Array.getElem?_modify]
   rw [if_neg (fun he=>hne (by rw [he];rfl))]
  ·rw [hg0 g hlt,Array.getElem?_modify,if_pos rfl,hh];rfl
  ·simp [putCells,h5]
  ·rw [Nat.mul_one,flat_i64]
   apply List.ext_getElem?
   intro j
   rw [List.getElem?_take]
   by_cases hj:j < l.length
   ·rw [if_pos hj]
    have hj2:j < (sortI l).length:=by omega
    have hcj:=hcell j hj
    have:(putCells (Value.int .i64) 0 (sortI l).toArray cur)[j]? = some (Value.int .i64 (sortI l)[j]):=by
     simp only [putCells,Array.getElem?_mapIdx,hcj,Option.map_some]
     rw [if_pos ⟨Nat.zero_le _,by simpa using hj2⟩]
     simp [hj2]
    rw [← Array.getElem?_toList] at this
    rw [this]
    simp [hj2]
   ·rw [if_neg hj]
    rw [List.getElem?_eq_none (by rw [List.length_map,hsz];omega)]
section
variable {n:Nat} {N:Act→World→Prop} {Q:Exit→Act→World→Prop} {fr:List (Nat × Value)} {L L':List Ent}
theorem Wh_sort (l:List Int) {d i m c:Nat} {A:Option Addr} {t:TypeId} {xs:List Operand} {ts:Array TypeId} {ty':TypeId} {pos:String} {after:Array Edge} {guard:Option (Nat × Bool)}
  (hx:evos fr xs=some [.slice A m c]) (hb:l.length≤1000000) (hL:SetE L i (.r A m c t 1 (l.flatMap e_i64)) (.r A m c t 1 ((sortI l).flatMap e_i64)) L') (hd:Nat.blt d n=true)
  (k:T n N ((d,.tuple #[])::fr) L'):Wh Tryz.prog Q n ⟨some d,.call ⟨.value (.func 140),xs.toArray,ts⟩,ty',pos,after,guard⟩ fr L N:=by
 intro a w ha hw
 have he:Enters Tryz.prog 140:=⟨_,Tryz.func140,rfl,rfl⟩
 simp only [Oper.wp,run_call he ha hx,Oper.upon_enter]
 refine (sort_runs l hb w (hw.ok _ hL.mem)).mono ?_
 rintro e w' ⟨rfl,hg,hdr,hok⟩
 exact k _ _ (ha.put hd) (Heap.turn (e:=.r A m c t 1 (l.flatMap e_i64)) (e':=.r A m c t 1 ((sortI l).flatMap e_i64)) hg hok (Nat.le_refl _) (fun _ hg=>.inl hg) hL hw (hd:=hdr))
end
end Go.Proofs.YtbkobeeileemjaaGreat
/- The lowest ones of groups: contracts by hand. -/
namespace Go.Proofs.YtbkobeeileemjaaGreat
open Go Go.RowKit
theorem one48:OneOf Tryz.prog 48:=.mk Tryz.underlying48 rfl (show Tryz.prog.info? 48=some Tryz.t48 from by kernel_rfl) (by kernel_rfl)
instance:OneI Tryz.prog 48:=⟨one48⟩
theorem zer48:ZeroOf Tryz.prog 48 [.slice (none) (0) (0)]:=⟨_,Tryz.zeroValue48,rfl⟩
instance:ZeroI Tryz.prog 48 [.slice (none) (0) (0)]:=⟨zer48⟩
theorem elm48:ElemOf Tryz.prog 48 3 1 8:=⟨Tryz.underlying48,⟨Tryz.t3,.int .i64 (0),by kernel_rfl,by kernel_rfl,by kernel_rfl,by kernel_rfl,rfl⟩,by decide⟩
instance:ElemI Tryz.prog 48 3 1 8:=⟨elm48⟩
theorem bls48_1_0i64 (x0:Int):BuildSliceOf Tryz.prog 48 1 [(0,.int .i64 x0)] 3 [.int .i64 x0]:=fun w=>by kernel_rfl
instance (x0:Int):BuildSI Tryz.prog 48 1 [(0,.int .i64 x0)] 3 [.int .i64 x0]:=⟨bls48_1_0i64 _⟩
theorem CtL.of {P:Program} {f:FuncId} {vs:List Value} {w:World} {R S:Value→List Ent→Prop} (h:CtL P f vs w R) (k:∀ v Ln,R v Ln→S v Ln):CtL P f vs w S:=by
 obtain ⟨h1,h2⟩:=h
 exact ⟨h1,h2.mono (by rintro e w' ⟨v,Ln,h3,h4,h6,h7⟩;exact ⟨v,Ln,h3,k _ _ h4,h6,h7⟩)⟩
theorem KeyOk.low {α β:Type} {P:Program} {K:List Ent} {kv:Value} {ax:α→Value} {ry:β→Value} {ky:α→Option β} {w:World} (h:KeyOk P K kv ax ry ky) (hK:∀ e∈K,Ent.ok w e):KeyOk P [.old w] kv ax ry ky:=by
 obtain ⟨f,caps,h1,h2⟩:=h
 exact ⟨f,caps,h1,fun x y hxy w' hw'=>h2 x y hxy w' fun e he=>Ent.ext (hK e he) (hw' (.old w) List.mem_cons_self)⟩
theorem KeyOk.up {α β:Type} {P:Program} {K L:List Ent} {kv:Value} {ax:α→Value} {ry:β→Value} {ky:α→Option β} (h:KeyOk P K kv ax ry ky) (hs:SubE K L):KeyOk P L kv ax ry ky:=by
 obtain ⟨f,caps,h1,h2⟩:=h
 exact ⟨f,caps,h1,fun x y hxy w hw=>h2 x y hxy w (hs.ok w hw)⟩
def stepC (acc:List S_api_Point) (x:S_api_Point):Option (List S_api_Point):=gd ((acc.length+1)*72≤140737488355328) <| some (acc++[x])
def stepI (acc:List Int) (x:S_api_Point):Option (List Int):=gd ((acc.length+1)*8≤140737488355328) <| some (acc++[x.Id])
/-- The lowest ones, one behind the other. -/
noncomputable def collectP (ky:S_api_Point→Option S_api_XY) (l:List S_api_Point):Option (List S_api_Point) :=
 label_lowestOf_1 ky stepC l []
set_option maxRecDepth 100000 in
theorem appendSeq_ok (ky:S_api_Point→Option S_api_XY) (p1:List S_api_Point) {K:List Ent} {A0:Option Addr} {c0:Nat} (ha0:Has K A0 p1.length c0 9 e_api_Point p1) {g1 g2:Nat} {kv:Value} (hp1:Pt K g1 0 [.slice A0 p1.length c0]) (hp2:Pt K g2 0 [kv]) (hkey:KeyOk Tryz.prog K kv v_api_Point v_api_XY ky)
  {r:List S_api_Point} (hx:collectP ky p1=some r) (w:World) (hK:∀ e∈K,Ent.ok w e) :
  CtL Tryz.prog 223 [.slice none 0 0,.func (.func 222) #[] #[.pointer (some ⟨g1,0,none⟩),.pointer (some ⟨g2,0,none⟩)]] w (fun v Ln=>∃ A c,v = .slice A r.length c∧Ln=[.r A r.length c 66 9 (r.flatMap e_api_Point)]):=by
 have hb0:Has [.old w] A0 p1.length c0 9 e_api_Point p1:=Has.low (E:=[]) (by rw [List.append_nil];exact ha0) hK;have hq1:Pt [.old w] g1 0 _:=Pt.low (E:=[]) (by rw [List.append_nil];exact hp1) hK;have hq2:Pt [.old w] g2 0 _:=Pt.low (E:=[]) (by rw [List.append_nil];exact hp2) hK;have hky:=hkey.low hK;unfold collectP at hx;refine CtL.mkI 13 Tryz.func223 rfl Tryz.ntmps223 (by kernel_rfl) rfl ?_;show T 13 _ [(0,.slice none 0 0),(1,.func (.func 222) #[] #[.pointer (some ⟨g1,0,none⟩),.pointer (some ⟨g2,0,none⟩)])] _;refine I_seq ?_;refine I_reg ?_;refine I_x (Wx_box rfl rfl rfl (fun g3=>?_));refine I_val (Ev_assign rfl) rfl ?_;refine I_nil ?_;refine I_next ?_;refine I_seq ?_;refine I_seq ?_;refine I_reg ?_;refine I_val (Ev_move rfl) rfl ?_;refine I_nil ?_;refine I_next ?_;refine I_block ?_;refine T_none 66 9 ?_
 refine I_range (p:=7) (Hs:=[.m g3 47 [.slice none 0 0],.r none 0 0 66 9 []]) (Lr:=[.old w]) (K:=[.old w]) (Rf:=fun Hs'=>∃ A c,Hs'=[.m g3 47 [.slice A r.length c],.r A r.length c 66 9 (r.flatMap e_api_Point)]) rfl (by exact .pick 1 rfl (.pick 0 rfl .refl)) (loCons rfl (loCons rfl loNil)) ⟨fun w hw=>hw⟩ ?_ ?_
 ·intro l q a0 hfr hst hpe hpa htm has hbo;have hi0:∃ (A:Option Addr) (c:Nat),bunS [loopE l q,.m g3 47 [.slice none 0 0],.r none 0 0 66 9 []]=bunS [loopE l q,.m g3 47 [.slice A ([]:List S_api_Point).length c],.r A ([]:List S_api_Point).length c 66 9 (([]:List S_api_Point).flatMap e_api_Point)]:=⟨none,0,rfl⟩
  have key:=label_lowestOf_1_ok ky stepC p1 ([]:List S_api_Point) (K:=[.old w]) (kv:=kv) (l:=l)
   (Inv:=fun s e=>∃ A c,e=bunS [loopE l q,.m g3 47 [.slice A s.length c],.r A s.length c 66 9 (s.flatMap e_api_Point)]) (ye:=bunS [loopE l q,.m g3 47 [.slice none 0 0],.r none 0 0 66 9 []]) hb0 hq1 hq2 hky ?_ hi0 hx
  ·refine ⟨key.1,fun Lf w' hs hw'=>(key.2 Lf w' hs hw').mono ?_⟩
   rintro e w'' ⟨v,Ln,rfl,⟨e',rfl,A,c,rfl⟩,hh⟩;exact ⟨v,_,rfl,⟨_,⟨A,c,rfl⟩,loCons rfl (loCons rfl loNil),rfl⟩,hh⟩
  ·rintro s x s' e hs ⟨A,c,rfl⟩;obtain ⟨hb,hs⟩:=gd_some hs;obtain rfl:=Option.some.inj hs;refine YldOk.mk hfr hpa htm rfl (loCons rfl (loCons rfl loNil)) (fun Lf=>?_);rw [has,hbo];show T 13 _ ((7,.agg #[.int .i64 (x.Id),.int .i64 (x.X),.int .i64 (x.Y),.int .i64 (x.Z.Lo),.int .i64 (x.Z.Hi),.int .i64 (x.Wide),.int .i64 (x.Num),.int .i64 (x.Of),.int .i64 (x.Class)])::_) ([loopE l q,.m g3 47 [.slice A s.length c],.r A s.length c 66 9 (s.flatMap e_api_Point)]++Lf);refine I_reg ?_;refine I_x (Wx_alloc zer66 rfl (fun g5=>?_));refine I_h (Wh_store rfl rfl rfl (.here) (.put (.put (.put (.put (.put (.put (.put (.put (.put (.done)))))))))) rfl (List.cons_ne_nil _ _) agg66.2 ?_);refine I_nil ?_;refine I_begin (i:=1) (.there .here) hst ?_;refine I_block ?_;refine I_reg ?_;refine I_val (Ev_load1 rfl (i:=2) rfl rfl one47) rfl ?_;refine I_val (Ev_loadK rfl (i:=0) rfl rfl agg66) rfl ?_;refine I_x (Wx_buildSlice rfl (bls47_1_0ai64i64i64i64i64i64i64i64i64 _ _ _ _ _ _ _ _ _) rfl (fun g0=>?_));refine I_h (Wh_appendP e_api_Point s [x] rfl rfl rfl elm47 (fun _=>rfl) (i':=0) rfl rfl rfl rfl hb rfl (fun _ _=>.there (.there (.there (.there (.here))))) (fun _ _=>.drop .refl) (by decide) (fun A1 c1=>?_));refine I_h (Wh_store rfl rfl rfl (.there (.there .here)) (.put .done) rfl (List.cons_ne_nil _ _) one47.2 ?_);refine I_nil ?_;refine I_inN ?_;exact I_round (i:=1) (.there .here) hst hpe (fun w3 hw3=>⟨rfl,_,⟨A1,c1,rfl⟩,bunS_join (loCons rfl (loCons rfl (loCons rfl loNil))) (hw3.pick (.pick 1 rfl (.pick 1 rfl (.pick 1 rfl (.drop 0 rfl .refl)))))⟩)
 ·rintro D Hs' ⟨A,c,rfl⟩ -;refine I_inN ?_;refine I_next ?_;refine I_seq ?_;refine I_reg ?_;refine I_val (Ev_load1 rfl (i:=1) rfl rfl one47) rfl ?_;refine I_val (Ev_assign rfl) rfl ?_;refine I_nil ?_;refine I_next ?_;refine I_ret ?_;exact I_end (rs:=[.tmp 4]) (i:=0) Tryz.results223 (.tmp rfl .nil) (Ln:=[.r A r.length c 66 9 (r.flatMap e_api_Point)]) ⟨A,c,rfl,rfl⟩ (loCons rfl loNil) .here (.tmp rfl .nil) (.pick 2 rfl (.pick 2 rfl (.drop 0 rfl (.drop 0 rfl .refl))))
set_option maxRecDepth 100000 in
theorem collect_ok (ky:S_api_Point→Option S_api_XY) (p1:List S_api_Point) {K:List Ent} {A0:Option Addr} {c0:Nat} (ha0:Has K A0 p1.length c0 9 e_api_Point p1) {g1 g2:Nat} {kv:Value} (hp1:Pt K g1 0 [.slice A0 p1.length c0]) (hp2:Pt K g2 0 [kv]) (hkey:KeyOk Tryz.prog K kv v_api_Point v_api_XY ky)
  {r:List S_api_Point} (hx:collectP ky p1=some r) (w:World) (hK:∀ e∈K,Ent.ok w e) :
  CtL Tryz.prog 155 [.func (.func 222) #[] #[.pointer (some ⟨g1,0,none⟩),.pointer (some ⟨g2,0,none⟩)]] w (fun v Ln=>∃ A c,v = .slice A r.length c∧Ln=[.r A r.length c 66 9 (r.flatMap e_api_Point)]):=by
 have hb0:Has [.old w] A0 p1.length c0 9 e_api_Point p1:=Has.low (E:=[]) (by rw [List.append_nil];exact ha0) hK;have hq1:Pt [.old w] g1 0 _:=Pt.low (E:=[]) (by rw [List.append_nil];exact hp1) hK;have hq2:Pt [.old w] g2 0 _:=Pt.low (E:=[]) (by rw [List.append_nil];exact hp2) hK;have hky:=hkey.low hK;refine CtL.mk 5 Tryz.func155 rfl Tryz.ntmps155 (by kernel_rfl) rfl ?_;show T 5 _ [(0,.func (.func 222) #[] #[.pointer (some ⟨g1,0,none⟩),.pointer (some ⟨g2,0,none⟩)])] _;refine Y8 ?_;refine T_x (Wx_callL rfl (fun w1 hw1=>appendSeq_ok ky p1 hb0 hq1 hq2 hky hx w1 hw1.ok) rfl ?_);rintro _ _ hlo ⟨A,c,rfl,rfl⟩;refine T_app1 ?_;refine Y4 ?_;exact T_retP (rs:=[.tmp 2]) Tryz.results155 (.tmp rfl .nil) (Ln:=[.r A r.length c 66 9 (r.flatMap e_api_Point)]) ⟨A,c,rfl,rfl⟩ (loCons rfl loNil) (.pick 0 rfl (.pick 0 rfl .refl))
set_option maxRecDepth 100000 in
theorem lowestOf_ok (A:Option Addr) (n c:Nat) (f:Nat) (caps:List Value) (w:World):CtL Tryz.prog 153 [.slice A n c,.func (.func f) #[] caps.toArray] w (fun v Ln=>∃ g1 g2,v = .func (.func 222) #[] #[.pointer (some ⟨g1,0,none⟩),.pointer (some ⟨g2,0,none⟩)]∧Ln=[.m g2 186 [.func (.func f) #[] caps.toArray],.m g1 47 [.slice A n c]]):=by
 refine CtL.mk 6 Tryz.func153 rfl Tryz.ntmps153 (by kernel_rfl) rfl ?_;show T 6 _ [(0,.slice A n c),(1,.func (.func f) #[] caps.toArray)] _;refine Y2 ?_;refine T_x (Wx_box rfl rfl rfl (fun g1=>?_));refine T_x (Wx_box (cs:=[.func (.func f) #[] caps.toArray]) rfl rfl rfl (fun g2=>?_));refine Y10 ?_;exact T_retP (rs:=[.tmp 4]) Tryz.results153 (.tmp rfl .nil) (Ln:=[.m g2 186 [.func (.func f) #[] caps.toArray],.m g1 47 [.slice A n c]]) ⟨g1,g2,rfl,rfl⟩ (loCons rfl (loCons rfl loNil)) (.pick 0 rfl (.pick 0 rfl (.pick 0 rfl .refl)))
theorem placeKey:KeyOk Tryz.prog [] (.func (.func 156) #[] #[]) v_api_Point v_api_XY label_place :=
 ⟨156,[],rfl,fun x _ hxy w _=>(label_place_ok x hxy w).of fun _ _ ⟨h1,h2,_⟩=>⟨h1,h2⟩⟩
theorem cellKey (tr:S_api_Terrain) {g:Nat} {K:List Ent} (hp:Pt K g 0 [.int .i64 (tr.Cell),.int .i64 (tr.Reach),.int .i64 (tr.Slope),.int .i64 (tr.Link),.int .i64 (tr.Flat),.int .i64 (tr.Tall),.int .i64 (tr.High),.int .i64 (tr.Low),.int .i64 (tr.Brush),.int .i64 (tr.Few)]):KeyOk Tryz.prog K (.func (.func 151) #[] #[.pointer (some ⟨g,0,none⟩)]) v_api_Point v_api_XY (fun p=>label_seeds_1 p tr) :=
 ⟨151,[_],rfl,fun x _ hxy w hw=>(label_seeds_1_ok x tr hp hxy w hw).of fun _ _ ⟨h1,h2,_⟩=>⟨h1,h2⟩⟩
/-- The seeds. -/
noncomputable def label_seeds (p0:List S_api_Point) (p1:S_api_Terrain):Option (List Int) :=
 bnd (label_lowestOf_1 (fun p=>label_seeds_1 p p1) stepI p0 ([]:List Int)) fun out=>gd (out.length≤1000000) <| some (sortI out)
set_option maxRecDepth 100000 in
theorem label_seeds_ok (p0:List S_api_Point) (p1:S_api_Terrain) {K:List Ent} {A0_0:Option Addr} {c0_0:Nat} (ha0:Has K A0_0 p0.length c0_0 9 e_api_Point p0) {r:List Int} (hx:label_seeds p0 p1=some r) (w:World) (hK:∀ e∈K,Ent.ok w e) :
  CtL Tryz.prog 77 [.slice A0_0 p0.length c0_0,.agg #[.int .i64 (p1.Cell),.int .i64 (p1.Reach),.int .i64 (p1.Slope),.int .i64 (p1.Link),.int .i64 (p1.Flat),.int .i64 (p1.Tall),.int .i64 (p1.High),.int .i64 (p1.Low),.int .i64 (p1.Brush),.int .i64 (p1.Few)]] w (fun v Ln=>∃ (A0:Option Addr) (c0:Nat),v = .slice A0 r.length c0∧Ln=[.r A0 r.length c0 3 1 (r.flatMap e_i64)]∧True):=by
 obtain ⟨out,hout,hx⟩:=bnd_some hx;obtain ⟨hn,hx⟩:=gd_some hx;obtain rfl:=Option.some.inj hx;have hb0:Has [.old w] A0_0 p0.length c0_0 9 e_api_Point p0:=Has.low (E:=[]) (by rw [List.append_nil];exact ha0) hK;refine CtL.mkI 21 Tryz.func77 rfl Tryz.ntmps77 (by kernel_rfl) rfl ?_;show T 21 _ [(0,.slice A0_0 p0.length c0_0),(1,.agg #[.int .i64 (p1.Cell),.int .i64 (p1.Reach),.int .i64 (p1.Slope),.int .i64 (p1.Link),.int .i64 (p1.Flat),.int .i64 (p1.Tall),.int .i64 (p1.High),.int .i64 (p1.Low),.int .i64 (p1.Brush),.int .i64 (p1.Few)])] _;refine I_seq ?_;refine I_reg ?_;refine I_x (Wx_box rfl rfl rfl (fun g3=>?_));refine I_val (Ev_assign rfl) rfl ?_;refine I_nil ?_;refine I_next ?_;refine I_seq ?_;refine I_reg ?_;refine I_val (Ev_makeFunc rfl) rfl ?_;refine I_val (Ev_assign rfl) rfl ?_;refine I_nil ?_;refine I_next ?_;refine I_seq ?_;refine I_reg ?_;refine I_x (Wx_alloc zer48 rfl (fun g6=>?_));refine I_nil ?_;refine I_next ?_;refine I_seq ?_;refine I_seq ?_;refine I_reg ?_;refine I_val (Ev_move rfl) rfl ?_;refine I_val (Ev_move rfl) rfl ?_;refine I_x (Wx_callL rfl (fun w1 _=>lowestOf_ok A0_0 p0.length c0_0 151 [.pointer (some ⟨g3,0,none⟩)] w1) rfl ?_);rintro _ _ hlo ⟨g1,g2,rfl,rfl⟩;refine T_app2 ?_;refine I_nil ?_;refine I_next ?_;refine I_block ?_;refine T_none 3 1 ?_;obtain ⟨KK,hKK⟩:∃ KK:List Ent,KK=[.m g2 186 [.func (.func 151) #[] #[.pointer (some ⟨g3,0,none⟩)]],.m g1 47 [.slice A0_0 p0.length c0_0],.m g3 54 [.int .i64 (p1.Cell),.int .i64 (p1.Reach),.int .i64 (p1.Slope),.int .i64 (p1.Link),.int .i64 (p1.Flat),.int .i64 (p1.Tall),.int .i64 (p1.High),.int .i64 (p1.Low),.int .i64 (p1.Brush),.int .i64 (p1.Few)],.old w]:=⟨_,rfl⟩
 have k1:Pt KK g1 0 [.slice A0_0 p0.length c0_0]:=Pt.m0 (by rw [hKK];exact .tail _ (.head _));have k2:Pt KK g2 0 [.func (.func 151) #[] #[.pointer (some ⟨g3,0,none⟩)]]:=Pt.m0 (by rw [hKK];exact .head _);have k3:Pt KK g3 0 [.int .i64 (p1.Cell),.int .i64 (p1.Reach),.int .i64 (p1.Slope),.int .i64 (p1.Link),.int .i64 (p1.Flat),.int .i64 (p1.Tall),.int .i64 (p1.High),.int .i64 (p1.Low),.int .i64 (p1.Brush),.int .i64 (p1.Few)]:=Pt.m0 (by rw [hKK];exact .tail _ (.tail _ (.head _)));have k0:Has KK A0_0 p0.length c0_0 9 e_api_Point p0:=Has.up hb0 (by rw [hKK];exact SubE.cons2 (i:=3) rfl SubE.nil)
 refine I_range (p:=12) (Hs:=[.m g6 48 [.slice none 0 0],.r none 0 0 3 1 []]) (Lr:=KK) (K:=KK) (Rf:=fun Hs'=>∃ A c,Hs'=[.m g6 48 [.slice A out.length c],.r A out.length c 3 1 (out.flatMap e_i64)]) rfl (by rw [hKK];exact .pick 3 rfl (.pick 0 rfl .refl)) (loCons rfl (loCons rfl loNil)) ⟨fun w hw=>hw⟩ ?_ ?_
 ·intro l q a0 hfr hst hpe hpa htm has hbo;have hi0:∃ (A:Option Addr) (c:Nat),bunS [loopE l q,.m g6 48 [.slice none 0 0],.r none 0 0 3 1 []]=bunS [loopE l q,.m g6 48 [.slice A ([]:List Int).length c],.r A ([]:List Int).length c 3 1 (([]:List Int).flatMap e_i64)]:=⟨none,0,rfl⟩
  have key:=label_lowestOf_1_ok (fun p=>label_seeds_1 p p1) stepI p0 ([]:List Int) (K:=KK) (kv:=.func (.func 151) #[] #[.pointer (some ⟨g3,0,none⟩)]) (l:=l)
   (Inv:=fun s e=>∃ A c,e=bunS [loopE l q,.m g6 48 [.slice A s.length c],.r A s.length c 3 1 (s.flatMap e_i64)]) (ye:=bunS [loopE l q,.m g6 48 [.slice none 0 0],.r none 0 0 3 1 []]) k0 k1 k2 (cellKey p1 k3) ?_ hi0 hout
  ·refine ⟨key.1,fun Lf w' hs hw'=>(key.2 Lf w' hs hw').mono ?_⟩
   rintro e w'' ⟨v,Ln,rfl,⟨e',rfl,A,c,rfl⟩,hh⟩;exact ⟨v,_,rfl,⟨_,⟨A,c,rfl⟩,loCons rfl (loCons rfl loNil),rfl⟩,hh⟩
  ·rintro s x s' e hs ⟨A,c,rfl⟩;obtain ⟨hb,hs⟩:=gd_some hs;obtain rfl:=Option.some.inj hs;refine YldOk.mk hfr hpa htm rfl (loCons rfl (loCons rfl loNil)) (fun Lf=>?_);rw [has,hbo];show T 21 _ ((12,.agg #[.int .i64 (x.Id),.int .i64 (x.X),.int .i64 (x.Y),.int .i64 (x.Z.Lo),.int .i64 (x.Z.Hi),.int .i64 (x.Wide),.int .i64 (x.Num),.int .i64 (x.Of),.int .i64 (x.Class)])::_) ([loopE l q,.m g6 48 [.slice A s.length c],.r A s.length c 3 1 (s.flatMap e_i64)]++Lf);refine I_reg ?_;refine I_x (Wx_alloc zer66 rfl (fun g5=>?_));refine I_h (Wh_store rfl rfl rfl (.here) (.put (.put (.put (.put (.put (.put (.put (.put (.put (.done)))))))))) rfl (List.cons_ne_nil _ _) agg66.2 ?_);refine I_nil ?_;refine I_begin (i:=1) (.there .here) hst ?_;refine I_block ?_;refine I_reg ?_;refine I_val (Ev_load1 rfl (i:=2) rfl rfl one48) rfl ?_;refine I_val (Ev_field rfl fld66_0 rfl) rfl ?_;refine I_val (Ev_load1 rfl (i:=0) rfl rfl one3) rfl ?_;refine I_x (Wx_buildSlice rfl (bls48_1_0i64 _) rfl (fun g0=>?_));refine I_h (Wh_appendP e_i64 s [x.Id] rfl rfl rfl elm48 (fun _=>rfl) (i':=0) rfl rfl rfl rfl hb rfl (fun _ _=>.there (.there (.there (.there (.here))))) (fun _ _=>.drop .refl) (by decide) (fun A1 c1=>?_));refine I_h (Wh_store rfl rfl rfl (.there (.there .here)) (.put .done) rfl (List.cons_ne_nil _ _) one48.2 ?_);refine I_nil ?_;refine I_inN ?_;exact I_round (i:=1) (.there .here) hst hpe (fun w3 hw3=>⟨rfl,_,⟨A1,c1,rfl⟩,bunS_join (loCons rfl (loCons rfl (loCons rfl loNil))) (hw3.pick (.pick 1 rfl (.pick 1 rfl (.pick 1 rfl (.drop 0 rfl .refl)))))⟩)
 ·rintro D Hs' ⟨A,c,rfl⟩ -;subst hKK;refine I_inN ?_;refine I_next ?_;refine I_seq ?_;refine I_reg ?_;refine I_val (Ev_load1 rfl (i:=1) rfl rfl one48) rfl ?_;refine I_h (Wh_sort out rfl hn (.there (.there .here)) rfl ?_);refine I_nil ?_;refine I_next ?_;refine I_seq ?_;refine I_reg ?_;refine I_val (Ev_load1 rfl (i:=1) rfl rfl one48) rfl ?_;refine I_val (Ev_assign rfl) rfl ?_;refine I_nil ?_;refine I_next ?_;refine I_ret ?_;have hlen:out.length=(sortI out).length:=sortI_len.symm;refine T_slot (s:=4) (v':=.slice A (sortI out).length c) rfl (by rw [hlen]) ?_;refine T_ent (i:=2) (.there (.there .here)) (e':=.r A (sortI out).length c 3 1 ((sortI out).flatMap e_i64)) (by rw [hlen]) ?_;exact I_end (rs:=[.tmp 4]) (i:=0) Tryz.results77 (.tmp rfl .nil) (Ln:=[.r A (sortI out).length c 3 1 ((sortI out).flatMap e_i64)]) ⟨A,c,rfl,rfl,trivial⟩ (loCons rfl loNil) .here (.tmp rfl .nil) (.pick 2 rfl (.pick 5 rfl (.drop 0 rfl (.drop 0 rfl (.drop 0 rfl (.drop 0 rfl (.drop 0 rfl .refl)))))))


end Go.Proofs.YtbkobeeileemjaaGreat
