/- slices.Sort of an own row of ints, by its contract. -/
import Derived.Test.YtbkobeeileemjaaGreatJ1
import Derived.Test.YtbkobeeileemjaaGreatFlow8
import Derived.Test.YtbkobeeileemjaaGreatSl
import Derived.Shelf.Sort.Plain
import Derived.Shelf.Slices.In.SortNone
import Derived.Test.YtbkobeeileemjaaGreatFlow11
namespace Go.Proofs.YtbkobeeileemjaaGreat
open Go Go.RowKit Go.Shelf Go.Sort
def Dr (l:List Int):List Int:=l.mergeSort fun x y=>decide (x≤y)
theorem Ua {l:List Int}:(Dr l).length=l.length:=by simp [Dr]
theorem Yx:∀ l:List Int,l.flatMap Bd=l.map (Value.int .i64)
 | []=>rfl
 | x::r=>by rw [List.flatMap_cons,Yx r];rfl
theorem Aq7 (l:List Int) (hb:l.length≤1000000) {A:Option Addr} {m c:Nat} {t:TypeId} (w:World) (hok:Ent.ok w (.r A m c t 1 (l.flatMap Bd))) :
  Calls Tryz.prog 140 #[.slice A m c] w fun e w'=>e = .returned (.tuple #[])∧w.grownBy w' (Ent.blk (.r A m c t 1 (l.flatMap Bd)))∧w.drawn≤w'.drawn∧Ent.ok w' (.r A m c t 1 ((Dr l).flatMap Bd)):=by
 obtain ⟨hl,h2⟩:=hok
 rw [Yx,List.length_map,Nat.mul_one] at hl
 subst hl
 rcases h2 with ⟨hv,h0⟩ | ⟨g,cap,cur,hv,hbg,hh,h3,h4,h5,h6⟩
 ·injection hv with e1 e2 e3
  subst e1;subst e3
  have hl0:l=[]:=List.eq_nil_of_length_eq_zero h0
  subst hl0
  refine (calls_of_every_depth fun D=>AnyS.slices_Sort_int_none_alone Tryz.laysSort D none 0 w).mono ?_
  rintro e w' ⟨rfl,rfl⟩
  refine ⟨rfl,⟨rfl,rfl,rfl,Nat.le_refl _,fun _ _ _=>rfl⟩,Nat.le_refl _,by simp [Dr],.inl ⟨rfl,rfl⟩⟩
 ·injection hv with e1 e2 e3
  subst e1;subst e3
  rw [Yx,Nat.mul_one] at h6
  rw [Nat.mul_one] at h5
  have hlt:=Eg hh
  have hcell:∀ j,(hj:j < l.length)→cur[j]? = some (Value.int .i64 l[j]):=fun j hj=>by
   have h7:(cur.toList.take l.length)[j]? = some (Value.int .i64 l[j]):=by rw [h6];simp [hj]
   rw [List.getElem?_take,if_pos hj] at h7
   simpa using h7
  have hH:Holds (Value.int .i64) w g 0 l.toArray:=fun j hj=>by
   have hj':j < l.length:=by simpa using hj
   refine ⟨?_,?_⟩
   ·have:=hcell j hj'
    simp [World.cell?,hh,this,hj']
   ·simp [World.frozen?,hh]
  refine (Any.slices_Sort_int Tryz.laysSort g 0 c l w hH hlt (by omega)).mono ?_
  rintro e w' ⟨rfl,q,os,rfl⟩
  rw [show (l.mergeSort fun x y=>decide (x≤y))=Dr l from rfl]
  have hsz:(Dr l).length=l.length:=Ua
  have hg0:∀ k,k < w.heap.size→(grow (putRow (Value.int .i64) (Go.Sort.ahead w q) g 0 (Dr l).toArray) os).heap[k]? = (w.heap.modify g (onCells (putCells (Value.int .i64) 0 (Dr l).toArray)))[k]?:=fun k hk=>by
   show (((Go.Sort.ahead w q).heap.modify g (onCells (putCells (Value.int .i64) 0 (Dr l).toArray)))++os)[k]? = _
   rw [Array.getElem?_append_left (by rw [Array.size_modify];exact hk)]
   rfl
  refine ⟨rfl,⟨rfl,rfl,rfl,?_,fun k hk hne=>?_⟩,Nat.le_add_right _ _,by rw [Yx,List.length_map,hsz,Nat.mul_one],.inr ⟨g,c,putCells (Value.int .i64) 0 (Dr l).toArray cur,rfl,Nat.zero_le _,?_,h3,h4,?_,?_⟩⟩
  ·show w.heap.size≤(((Go.Sort.ahead w q).heap.modify g (onCells (putCells (Value.int .i64) 0 (Dr l).toArray)))++os).size
   rw [Array.size_append,Array.size_modify]
   exact Nat.le_add_right _ _
  ·rw [hg0 k hk,Array.getElem?_modify]
   rw [if_neg (fun he=>hne (by rw [he];rfl))]
  ·rw [hg0 g hlt,Array.getElem?_modify,if_pos rfl,hh];rfl
  ·simp [putCells,h5]
  ·rw [Nat.mul_one,Yx]
   apply List.ext_getElem?
   intro j
   rw [List.getElem?_take]
   by_cases hj:j < l.length
   ·rw [if_pos hj]
    have hj2:j < (Dr l).length:=by omega
    have hcj:=hcell j hj
    have:(putCells (Value.int .i64) 0 (Dr l).toArray cur)[j]? = some (Value.int .i64 (Dr l)[j]):=by
     simp only [putCells,Array.getElem?_mapIdx,hcj,Option.map_some]
     rw [if_pos ⟨Nat.zero_le _,by simpa using hj2⟩]
     simp [hj2]
    rw [← Array.getElem?_toList] at this
    rw [this]
    simp [hj2]
   ·rw [if_neg hj]
    rw [List.getElem?_eq_none (by rw [List.length_map,hsz];omega)]
section
variable {n:Nat} {N:Act→World→Prop} {Q:Exit→Act→World→Prop} {fr:List (Nat × Value)} {L L':List Ent}
theorem Ajs (l:List Int) {d i m c:Nat} {A:Option Addr} {t:TypeId} {xs:List Operand} {ts:Array TypeId} {ty':TypeId} {pos:String} {after:Array Edge} {guard:Option (Nat × Bool)}
  (hx:evos fr xs=some [.slice A m c]) (hb:l.length≤1000000) (hL:SetE L i (.r A m c t 1 (l.flatMap Bd)) (.r A m c t 1 ((Dr l).flatMap Bd)) L') (hd:Nat.blt d n=true)
  (k:T n N ((d,.tuple #[])::fr) L'):Wh Tryz.prog Q n ⟨some d,.call ⟨.value (.func 140),xs.toArray,ts⟩,ty',pos,after,guard⟩ fr L N:=by
 intro a w ha hw
 have he:Uh Tryz.prog 140:=⟨_,Tryz.func140,rfl,rfl⟩
 simp only [Oper.wp,Acb he ha hx,Oper.upon_enter]
 refine (Aq7 l hb w (hw.ok _ hL.mem)).mono ?_
 rintro e w' ⟨rfl,hg,hdr,hok⟩
 exact k _ _ (ha.put hd) (Heap.turn (e:=.r A m c t 1 (l.flatMap Bd)) (e':=.r A m c t 1 ((Dr l).flatMap Bd)) hg hok (Nat.le_refl _) (fun _ hg=>.inl hg) hL hw (hd:=hdr))
end
end Go.Proofs.YtbkobeeileemjaaGreat
/- The lowest ones of groups: contracts by hand. -/
namespace Go.Proofs.YtbkobeeileemjaaGreat
open Go Go.RowKit
set_option maxRecDepth 100000
theorem Aln:Lg Tryz.prog 48:=.mk Tryz.underlying48 rfl (show Tryz.prog.info? 48=some Tryz.t48 from by kernel_rfl) (by kernel_rfl)
instance:OneI Tryz.prog 48:=⟨Aln⟩
theorem Ax2:Jd Tryz.prog 48 [.slice (none) (0) (0)]:=⟨_,Tryz.zeroValue48,rfl⟩
instance:Sn Tryz.prog 48 [.slice (none) (0) (0)]:=⟨Ax2⟩
theorem Age:Sz Tryz.prog 48 3 1 8:=⟨Tryz.underlying48,⟨Tryz.t3,.int .i64 (0),by kernel_rfl,by kernel_rfl,by kernel_rfl,by kernel_rfl,rfl⟩,by decide⟩
instance:Zh Tryz.prog 48 3 1 8:=⟨Age⟩
theorem Oe (x0:Int):Cx Tryz.prog 48 1 [(0,.int .i64 x0)] 3 [.int .i64 x0]:=fun w=>by kernel_rfl
instance (x0:Int):Hl Tryz.prog 48 1 [(0,.int .i64 x0)] 3 [.int .i64 x0]:=⟨Oe _⟩
theorem CtL.of {P:Program} {f:FuncId} {vs:List Value} {w:World} {R S:Value→List Ent→Prop} (h:CtL P f vs w R) (k:∀ v Ln,R v Ln→S v Ln):CtL P f vs w S:=by
 obtain ⟨h1,h2⟩:=h
 exact ⟨h1,h2.mono (by rintro e w' ⟨v,Ln,h3,h4,h6,h7⟩;exact ⟨v,Ln,h3,k _ _ h4,h6,h7⟩)⟩
theorem Yq.low {α β:Type} {P:Program} {K:List Ent} {kv:Value} {ax:α→Value} {ry:β→Value} {ky:α→Option β} {w:World} (h:Yq P K kv ax ry ky) (hK:∀ e∈K,Ent.ok w e):Yq P [.old w] kv ax ry ky:=by
 obtain ⟨f,caps,h1,h2⟩:=h
 exact ⟨f,caps,h1,fun x y hxy w' hw'=>h2 x y hxy w' fun e he=>Ent.ext (hK e he) (hw' (.old w) List.mem_cons_self)⟩
theorem Yq.up {α β:Type} {P:Program} {K L:List Ent} {kv:Value} {ax:α→Value} {ry:β→Value} {ky:α→Option β} (h:Yq P K kv ax ry ky) (hs:SubE K L):Yq P L kv ax ry ky:=by
 obtain ⟨f,caps,h1,h2⟩:=h
 exact ⟨f,caps,h1,fun x y hxy w hw=>h2 x y hxy w (hs.ok w hw)⟩
def Agf (acc:List Aa) (x:Aa):Option (List Aa):=gd ((acc.length+1)*72≤140737488355328) <| some (acc++[x])
def Aip (acc:List Int) (x:Aa):Option (List Int):=gd ((acc.length+1)*8≤140737488355328) <| some (acc++[x.Id])
/-- The lowest ones, one behind the other. -/
noncomputable def Qh (ky:Aa→Option Ab) (l:List Aa):Option (List Aa) :=
 Ih ky Agf l []
theorem Ajt (ky:Aa→Option Ab) (p1:List Aa) {K:List Ent} {A0:Option Addr} {c0:Nat} (ha0:Has K A0 p1.length c0 9 Af p1) {g1 g2:Nat} {kv:Value} (hp1:Pt K g1 0 [.slice A0 p1.length c0]) (hp2:Pt K g2 0 [kv]) (hkey:Yq Tryz.prog K kv Cu Ew ky)
  {r:List Aa} (hx:Qh ky p1=some r) (w:World) (hK:∀ e∈K,Ent.ok w e) :
  CtL Tryz.prog 223 [.slice none 0 0,.func (.func 222) #[] #[.pointer (some ⟨g1,0,none⟩),.pointer (some ⟨g2,0,none⟩)]] w (fun v Ln=>∃ A c,v = .slice A r.length c∧Ln=[.r A r.length c 66 9 (r.flatMap Af)]):=by
 have hb0:Has [.old w] A0 p1.length c0 9 Af p1:=Has.low (E:=[]) (by rw [List.append_nil];exact ha0) hK;have hq1:Pt [.old w] g1 0 _:=Pt.low (E:=[]) (by rw [List.append_nil];exact hp1) hK;have hq2:Pt [.old w] g2 0 _:=Pt.low (E:=[]) (by rw [List.append_nil];exact hp2) hK;have hky:=hkey.low hK;unfold Qh at hx;refine CtL.mkI 13 Tryz.func223 rfl Tryz.ntmps223 (by kernel_rfl) rfl ?_;show T 13 _ [(0,.slice none 0 0),(1,.func (.func 222) #[] #[.pointer (some ⟨g1,0,none⟩),.pointer (some ⟨g2,0,none⟩)])] _;refine Aag ?_;refine Xk ?_;refine I_x (Dy rfl rfl rfl (fun g3=>?_));refine Oo (Cc rfl) rfl ?_;refine Xj ?_;refine Vc ?_;refine Aag ?_;refine Aag ?_;refine Xk ?_;refine Oo (Ye rfl) rfl ?_;refine Xj ?_;refine Vc ?_;refine Af9 ?_;refine Bt 66 9 ?_
 refine Aql (p:=7) (Hs:=[.m g3 47 [.slice none 0 0],.r none 0 0 66 9 []]) (Lr:=[.old w]) (K:=[.old w]) (Rf:=fun Hs'=>∃ A c,Hs'=[.m g3 47 [.slice A r.length c],.r A r.length c 66 9 (r.flatMap Af)]) rfl (by exact .pick 1 rfl (.pick 0 rfl .refl)) (Ba rfl (Ba rfl Bw)) ⟨fun w hw=>hw⟩ ?_ ?_
 ·intro l q a0 hfr hst hpe hpa htm has hbo;have hi0:∃ (A:Option Addr) (c:Nat),bunS [Ng l q,.m g3 47 [.slice none 0 0],.r none 0 0 66 9 []]=bunS [Ng l q,.m g3 47 [.slice A ([]:List Aa).length c],.r A ([]:List Aa).length c 66 9 (([]:List Aa).flatMap Af)]:=⟨none,0,rfl⟩
  have key:=Tn ky Agf p1 ([]:List Aa) (K:=[.old w]) (kv:=kv) (l:=l)
   (Inv:=fun s e=>∃ A c,e=bunS [Ng l q,.m g3 47 [.slice A s.length c],.r A s.length c 66 9 (s.flatMap Af)]) (ye:=bunS [Ng l q,.m g3 47 [.slice none 0 0],.r none 0 0 66 9 []]) hb0 hq1 hq2 hky ?_ hi0 hx
  ·refine ⟨key.1,fun Lf w' hs hw'=>(key.2 Lf w' hs hw').mono ?_⟩
   rintro e w'' ⟨v,Ln,rfl,⟨e',rfl,A,c,rfl⟩,hh⟩;exact ⟨v,_,rfl,⟨_,⟨A,c,rfl⟩,Ba rfl (Ba rfl Bw),rfl⟩,hh⟩
  ·rintro s x s' e hs ⟨A,c,rfl⟩;obtain ⟨hb,hs⟩:=Bh hs;obtain rfl:=Option.some.inj hs;refine Ajd.mk hfr hpa htm rfl (Ba rfl (Ba rfl Bw)) (fun Lf=>?_);rw [has,hbo];show T 13 _ ((7,.agg #[.int .i64 (x.Id),.int .i64 (x.X),.int .i64 (x.Y),.int .i64 (x.Z.Lo),.int .i64 (x.Z.Hi),.int .i64 (x.Wide),.int .i64 (x.Num),.int .i64 (x.Of),.int .i64 (x.Class)])::_) ([Ng l q,.m g3 47 [.slice A s.length c],.r A s.length c 66 9 (s.flatMap Af)]++Lf);refine Xk ?_;refine I_x (Bj Mz rfl (fun g5=>?_));refine I_h (Ay rfl rfl rfl (.here) (.put (.put (.put (.put (.put (.put (.put (.put (.put (.done)))))))))) rfl (List.cons_ne_nil _ _) Cy.2 ?_);refine Xj ?_;refine Aqi (i:=1) (.there .here) hst ?_;refine Af9 ?_;refine Xk ?_;refine Oo (Aq rfl (i:=2) rfl rfl Ajh) rfl ?_;refine Oo (Az rfl (i:=0) rfl rfl Cy) rfl ?_;refine I_x (Bv rfl (Ci _ _ _ _ _ _ _ _ _) rfl (fun g0=>?_));refine I_h (Dv Af s [x] rfl rfl rfl Ag0 (fun _=>rfl) (i':=0) rfl rfl rfl rfl hb rfl (fun _ _=>.there (.there (.there (.there (.here))))) (fun _ _=>.drop .refl) (by decide) (fun A1 c1=>?_));refine I_h (Ay rfl rfl rfl (.there (.there .here)) (.put .done) rfl (List.cons_ne_nil _ _) Ajh.2 ?_);refine Xj ?_;refine Aqh ?_;exact Aqj (i:=1) (.there .here) hst hpe (fun w3 hw3=>⟨rfl,_,⟨A1,c1,rfl⟩,Aaw (Ba rfl (Ba rfl (Ba rfl Bw))) (hw3.pick (.pick 1 rfl (.pick 1 rfl (.pick 1 rfl (.drop 0 rfl .refl)))))⟩)
 ·rintro D Hs' ⟨A,c,rfl⟩ -;refine Aqh ?_;refine Vc ?_;refine Aag ?_;refine Xk ?_;refine Oo (Aq rfl (i:=1) rfl rfl Ajh) rfl ?_;refine Oo (Cc rfl) rfl ?_;refine Xj ?_;refine Vc ?_;refine Ayf ?_;exact Ayg (rs:=[.tmp 4]) (i:=0) Tryz.results223 (.tmp rfl .nil) (Ln:=[.r A r.length c 66 9 (r.flatMap Af)]) ⟨A,c,rfl,rfl⟩ (Ba rfl Bw) .here (.tmp rfl .nil) (.pick 2 rfl (.pick 2 rfl (.drop 0 rfl (.drop 0 rfl .refl))))
theorem Agg (ky:Aa→Option Ab) (p1:List Aa) {K:List Ent} {A0:Option Addr} {c0:Nat} (ha0:Has K A0 p1.length c0 9 Af p1) {g1 g2:Nat} {kv:Value} (hp1:Pt K g1 0 [.slice A0 p1.length c0]) (hp2:Pt K g2 0 [kv]) (hkey:Yq Tryz.prog K kv Cu Ew ky)
  {r:List Aa} (hx:Qh ky p1=some r) (w:World) (hK:∀ e∈K,Ent.ok w e) :
  CtL Tryz.prog 155 [.func (.func 222) #[] #[.pointer (some ⟨g1,0,none⟩),.pointer (some ⟨g2,0,none⟩)]] w (fun v Ln=>∃ A c,v = .slice A r.length c∧Ln=[.r A r.length c 66 9 (r.flatMap Af)]):=by
 have hb0:Has [.old w] A0 p1.length c0 9 Af p1:=Has.low (E:=[]) (by rw [List.append_nil];exact ha0) hK;have hq1:Pt [.old w] g1 0 _:=Pt.low (E:=[]) (by rw [List.append_nil];exact hp1) hK;have hq2:Pt [.old w] g2 0 _:=Pt.low (E:=[]) (by rw [List.append_nil];exact hp2) hK;have hky:=hkey.low hK;refine CtL.mk 5 Tryz.func155 rfl Tryz.ntmps155 (by kernel_rfl) rfl ?_;show T 5 _ [(0,.func (.func 222) #[] #[.pointer (some ⟨g1,0,none⟩),.pointer (some ⟨g2,0,none⟩)])] _;refine Y8 ?_;refine T_x (Au rfl (fun w1 hw1=>Ajt ky p1 hb0 hq1 hq2 hky hx w1 hw1.ok) rfl ?_);rintro _ _ hlo ⟨A,c,rfl,rfl⟩;refine Do ?_;refine Y4 ?_;exact Bq (rs:=[.tmp 2]) Tryz.results155 (.tmp rfl .nil) (Ln:=[.r A r.length c 66 9 (r.flatMap Af)]) ⟨A,c,rfl,rfl⟩ (Ba rfl Bw) (.pick 0 rfl (.pick 0 rfl .refl))
theorem Yy (A:Option Addr) (n c:Nat) (f:Nat) (caps:List Value) (w:World):CtL Tryz.prog 153 [.slice A n c,.func (.func f) #[] caps.toArray] w (fun v Ln=>∃ g1 g2,v = .func (.func 222) #[] #[.pointer (some ⟨g1,0,none⟩),.pointer (some ⟨g2,0,none⟩)]∧Ln=[.m g2 186 [.func (.func f) #[] caps.toArray],.m g1 47 [.slice A n c]]):=by
 refine CtL.mk 6 Tryz.func153 rfl Tryz.ntmps153 (by kernel_rfl) rfl ?_;show T 6 _ [(0,.slice A n c),(1,.func (.func f) #[] caps.toArray)] _;refine Y2 ?_;refine T_x (Dy rfl rfl rfl (fun g1=>?_));refine T_x (Dy (cs:=[.func (.func f) #[] caps.toArray]) rfl rfl rfl (fun g2=>?_));refine Y10 ?_;exact Bq (rs:=[.tmp 4]) Tryz.results153 (.tmp rfl .nil) (Ln:=[.m g2 186 [.func (.func f) #[] caps.toArray],.m g1 47 [.slice A n c]]) ⟨g1,g2,rfl,rfl⟩ (Ba rfl (Ba rfl Bw)) (.pick 0 rfl (.pick 0 rfl (.pick 0 rfl .refl)))
theorem Alo:Yq Tryz.prog [] (.func (.func 156) #[] #[]) Cu Ew Ck :=
 ⟨156,[],rfl,fun x _ hxy w _=>(Ag2 x hxy w).of fun _ _ ⟨h1,h2,_⟩=>⟨h1,h2⟩⟩
theorem Av3 (tr:Ag) {g:Nat} {K:List Ent} (hp:Pt K g 0 [.int .i64 (tr.Cell),.int .i64 (tr.Reach),.int .i64 (tr.Slope),.int .i64 (tr.Link),.int .i64 (tr.Flat),.int .i64 (tr.Tall),.int .i64 (tr.High),.int .i64 (tr.Low),.int .i64 (tr.Brush),.int .i64 (tr.Few)]):Yq Tryz.prog K (.func (.func 151) #[] #[.pointer (some ⟨g,0,none⟩)]) Cu Ew (fun p=>Ki p tr) :=
 ⟨151,[_],rfl,fun x _ hxy w hw=>(Aeh x tr hp hxy w hw).of fun _ _ ⟨h1,h2,_⟩=>⟨h1,h2⟩⟩
/-- The seeds. -/
noncomputable def Px (p0:List Aa) (p1:Ag):Option (List Int) :=
 bnd (Ih (fun p=>Ki p p1) Aip p0 ([]:List Int)) fun out=>gd (out.length≤1000000) <| some (Dr out)
theorem Yz (p0:List Aa) (p1:Ag) {K:List Ent} {A0_0:Option Addr} {c0_0:Nat} (ha0:Has K A0_0 p0.length c0_0 9 Af p0) {r:List Int} (hx:Px p0 p1=some r) (w:World) (hK:∀ e∈K,Ent.ok w e) :
  CtL Tryz.prog 77 [.slice A0_0 p0.length c0_0,.agg #[.int .i64 (p1.Cell),.int .i64 (p1.Reach),.int .i64 (p1.Slope),.int .i64 (p1.Link),.int .i64 (p1.Flat),.int .i64 (p1.Tall),.int .i64 (p1.High),.int .i64 (p1.Low),.int .i64 (p1.Brush),.int .i64 (p1.Few)]] w (fun v Ln=>∃ (A0:Option Addr) (c0:Nat),v = .slice A0 r.length c0∧Ln=[.r A0 r.length c0 3 1 (r.flatMap Bd)]∧True):=by
 obtain ⟨out,hout,hx⟩:=Ad hx;obtain ⟨hn,hx⟩:=Bh hx;obtain rfl:=Option.some.inj hx;have hb0:Has [.old w] A0_0 p0.length c0_0 9 Af p0:=Has.low (E:=[]) (by rw [List.append_nil];exact ha0) hK;refine CtL.mkI 21 Tryz.func77 rfl Tryz.ntmps77 (by kernel_rfl) rfl ?_;show T 21 _ [(0,.slice A0_0 p0.length c0_0),(1,.agg #[.int .i64 (p1.Cell),.int .i64 (p1.Reach),.int .i64 (p1.Slope),.int .i64 (p1.Link),.int .i64 (p1.Flat),.int .i64 (p1.Tall),.int .i64 (p1.High),.int .i64 (p1.Low),.int .i64 (p1.Brush),.int .i64 (p1.Few)])] _;refine Aag ?_;refine Xk ?_;refine I_x (Dy rfl rfl rfl (fun g3=>?_));refine Oo (Cc rfl) rfl ?_;refine Xj ?_;refine Vc ?_;refine Aag ?_;refine Xk ?_;refine Oo (Aah rfl) rfl ?_;refine Oo (Cc rfl) rfl ?_;refine Xj ?_;refine Vc ?_;refine Aag ?_;refine Xk ?_;refine I_x (Bj Ax2 rfl (fun g6=>?_));refine Xj ?_;refine Vc ?_;refine Aag ?_;refine Aag ?_;refine Xk ?_;refine Oo (Ye rfl) rfl ?_;refine Oo (Ye rfl) rfl ?_;refine I_x (Au rfl (fun w1 _=>Yy A0_0 p0.length c0_0 151 [.pointer (some ⟨g3,0,none⟩)] w1) rfl ?_);rintro _ _ hlo ⟨g1,g2,rfl,rfl⟩;refine Fi ?_;refine Xj ?_;refine Vc ?_;refine Af9 ?_;refine Bt 3 1 ?_;obtain ⟨KK,hKK⟩:∃ KK:List Ent,KK=[.m g2 186 [.func (.func 151) #[] #[.pointer (some ⟨g3,0,none⟩)]],.m g1 47 [.slice A0_0 p0.length c0_0],.m g3 54 [.int .i64 (p1.Cell),.int .i64 (p1.Reach),.int .i64 (p1.Slope),.int .i64 (p1.Link),.int .i64 (p1.Flat),.int .i64 (p1.Tall),.int .i64 (p1.High),.int .i64 (p1.Low),.int .i64 (p1.Brush),.int .i64 (p1.Few)],.old w]:=⟨_,rfl⟩
 have k1:Pt KK g1 0 [.slice A0_0 p0.length c0_0]:=Pt.m0 (by rw [hKK];exact .tail _ (.head _));have k2:Pt KK g2 0 [.func (.func 151) #[] #[.pointer (some ⟨g3,0,none⟩)]]:=Pt.m0 (by rw [hKK];exact .head _);have k3:Pt KK g3 0 [.int .i64 (p1.Cell),.int .i64 (p1.Reach),.int .i64 (p1.Slope),.int .i64 (p1.Link),.int .i64 (p1.Flat),.int .i64 (p1.Tall),.int .i64 (p1.High),.int .i64 (p1.Low),.int .i64 (p1.Brush),.int .i64 (p1.Few)]:=Pt.m0 (by rw [hKK];exact .tail _ (.tail _ (.head _)));have k0:Has KK A0_0 p0.length c0_0 9 Af p0:=Has.up hb0 (by rw [hKK];exact SubE.cons2 (i:=3) rfl SubE.nil)
 refine Aql (p:=12) (Hs:=[.m g6 48 [.slice none 0 0],.r none 0 0 3 1 []]) (Lr:=KK) (K:=KK) (Rf:=fun Hs'=>∃ A c,Hs'=[.m g6 48 [.slice A out.length c],.r A out.length c 3 1 (out.flatMap Bd)]) rfl (by rw [hKK];exact .pick 3 rfl (.pick 0 rfl .refl)) (Ba rfl (Ba rfl Bw)) ⟨fun w hw=>hw⟩ ?_ ?_
 ·intro l q a0 hfr hst hpe hpa htm has hbo;have hi0:∃ (A:Option Addr) (c:Nat),bunS [Ng l q,.m g6 48 [.slice none 0 0],.r none 0 0 3 1 []]=bunS [Ng l q,.m g6 48 [.slice A ([]:List Int).length c],.r A ([]:List Int).length c 3 1 (([]:List Int).flatMap Bd)]:=⟨none,0,rfl⟩
  have key:=Tn (fun p=>Ki p p1) Aip p0 ([]:List Int) (K:=KK) (kv:=.func (.func 151) #[] #[.pointer (some ⟨g3,0,none⟩)]) (l:=l)
   (Inv:=fun s e=>∃ A c,e=bunS [Ng l q,.m g6 48 [.slice A s.length c],.r A s.length c 3 1 (s.flatMap Bd)]) (ye:=bunS [Ng l q,.m g6 48 [.slice none 0 0],.r none 0 0 3 1 []]) k0 k1 k2 (Av3 p1 k3) ?_ hi0 hout
  ·refine ⟨key.1,fun Lf w' hs hw'=>(key.2 Lf w' hs hw').mono ?_⟩
   rintro e w'' ⟨v,Ln,rfl,⟨e',rfl,A,c,rfl⟩,hh⟩;exact ⟨v,_,rfl,⟨_,⟨A,c,rfl⟩,Ba rfl (Ba rfl Bw),rfl⟩,hh⟩
  ·rintro s x s' e hs ⟨A,c,rfl⟩;obtain ⟨hb,hs⟩:=Bh hs;obtain rfl:=Option.some.inj hs;refine Ajd.mk hfr hpa htm rfl (Ba rfl (Ba rfl Bw)) (fun Lf=>?_);rw [has,hbo];show T 21 _ ((12,.agg #[.int .i64 (x.Id),.int .i64 (x.X),.int .i64 (x.Y),.int .i64 (x.Z.Lo),.int .i64 (x.Z.Hi),.int .i64 (x.Wide),.int .i64 (x.Num),.int .i64 (x.Of),.int .i64 (x.Class)])::_) ([Ng l q,.m g6 48 [.slice A s.length c],.r A s.length c 3 1 (s.flatMap Bd)]++Lf);refine Xk ?_;refine I_x (Bj Mz rfl (fun g5=>?_));refine I_h (Ay rfl rfl rfl (.here) (.put (.put (.put (.put (.put (.put (.put (.put (.put (.done)))))))))) rfl (List.cons_ne_nil _ _) Cy.2 ?_);refine Xj ?_;refine Aqi (i:=1) (.there .here) hst ?_;refine Af9 ?_;refine Xk ?_;refine Oo (Aq rfl (i:=2) rfl rfl Aln) rfl ?_;refine Oo (Ao rfl My rfl) rfl ?_;refine Oo (Aq rfl (i:=0) rfl rfl one3) rfl ?_;refine I_x (Bv rfl (Oe _) rfl (fun g0=>?_));refine I_h (Dv Bd s [x.Id] rfl rfl rfl Age (fun _=>rfl) (i':=0) rfl rfl rfl rfl hb rfl (fun _ _=>.there (.there (.there (.there (.here))))) (fun _ _=>.drop .refl) (by decide) (fun A1 c1=>?_));refine I_h (Ay rfl rfl rfl (.there (.there .here)) (.put .done) rfl (List.cons_ne_nil _ _) Aln.2 ?_);refine Xj ?_;refine Aqh ?_;exact Aqj (i:=1) (.there .here) hst hpe (fun w3 hw3=>⟨rfl,_,⟨A1,c1,rfl⟩,Aaw (Ba rfl (Ba rfl (Ba rfl Bw))) (hw3.pick (.pick 1 rfl (.pick 1 rfl (.pick 1 rfl (.drop 0 rfl .refl)))))⟩)
 ·rintro D Hs' ⟨A,c,rfl⟩ -;subst hKK;refine Aqh ?_;refine Vc ?_;refine Aag ?_;refine Xk ?_;refine Oo (Aq rfl (i:=1) rfl rfl Aln) rfl ?_;refine I_h (Ajs out rfl hn (.there (.there .here)) rfl ?_);refine Xj ?_;refine Vc ?_;refine Aag ?_;refine Xk ?_;refine Oo (Aq rfl (i:=1) rfl rfl Aln) rfl ?_;refine Oo (Cc rfl) rfl ?_;refine Xj ?_;refine Vc ?_;refine Ayf ?_;have hlen:out.length=(Dr out).length:=Ua.symm;refine Ec (s:=4) (v':=.slice A (Dr out).length c) rfl (by rw [hlen]) ?_;refine En (i:=2) (.there (.there .here)) (e':=.r A (Dr out).length c 3 1 ((Dr out).flatMap Bd)) (by rw [hlen]) ?_;exact Ayg (rs:=[.tmp 4]) (i:=0) Tryz.results77 (.tmp rfl .nil) (Ln:=[.r A (Dr out).length c 3 1 ((Dr out).flatMap Bd)]) ⟨A,c,rfl,rfl,trivial⟩ (Ba rfl Bw) .here (.tmp rfl .nil) (.pick 2 rfl (.pick 5 rfl (.drop 0 rfl (.drop 0 rfl (.drop 0 rfl (.drop 0 rfl (.drop 0 rfl .refl)))))))


end Go.Proofs.YtbkobeeileemjaaGreat
/- Walks of the program, with their plain functions: points. -/
namespace Go.Proofs.YtbkobeeileemjaaGreat
open Go Go.RowKit
set_option maxRecDepth 100000
set_option maxHeartbeats 1000000

instance:MkI Tryz.prog 48 3 1 8 Bd 0:=⟨Tryz.t3,.int .i64 (0),Tryz.underlying48,by kernel_rfl,by kernel_rfl,rfl,by kernel_rfl,by kernel_rfl⟩
noncomputable def Qi (p0:List Aa):((List Int) × Int)→Option (Sum ((List Int) × Int) (List Int)):=fun s0 =>
 if s0.2 < ((((p0).length:Nat):Int)) then (bnd (idx p0 s0.2) fun x0 =>
 gd (((s0.1).length+1)*8≤140737488355328) <|
 some (.inl (s0.1++[x0.Id],w64 (s0.2+1))))
 else (some (.inr s0.1))
noncomputable def Rk (p0:List Aa):Option (List Int) :=
 gd ((0:Int)≤((((p0).length:Nat):Int))∧8*Int.toNat ((((p0).length:Nat):Int))≤140737488355328) <|
 jn (fun (s3:List Int) =>
 gd ((s3).length≤1000000) <|
 some (Dr s3))
 (fun j3=>bnd (lfix (Qi p0) (([]:List Int),0)) fun t0 =>
 j3 t0)
noncomputable def Nl (p0:List Aa):((List Aa) × Int)→Option (Sum ((List Aa) × Int) (List Aa)):=fun s0 =>
 if s0.2 < ((((p0).length:Nat):Int)) then (jn (fun (s1:List Aa) =>
 some (.inl (s1,w64 (s0.2+1))))
 (fun j0=>bnd (idx p0 s0.2) fun x0 =>
 if x0.Num=x0.Of then (gd (((s0.1).length+1)*72≤140737488355328) <|
 j0 (s0.1++[x0]))
 else (j0 s0.1)))
 else (some (.inr s0.1))
noncomputable def Py (p0:List Aa):Option (List Aa) :=
 jn (fun (s3:List Aa) =>
 bnd (Qh Ck s3) fun r0 =>
 some r0)
 (fun j3=>bnd (lfix (Nl p0) (([]:List Aa),0)) fun t0 =>
 j3 t0)
noncomputable def Eo (p0:List Aa) (p1:Ag):Option (List Aa) :=
 bnd (Jv p0 p1) fun r2 =>
 bnd (Py r2.1) fun r0 =>
 some r0
noncomputable def Lh (p0:List Aa) (p1:Ag):Option ((List Int) × Int) :=
 bnd (Kd p0 p1) fun r2 =>
 if r2=0 then (bnd (Eo p0 p1) fun r8 =>
 bnd (Px r8 p1) fun r0 =>
 some (r0,0))
 else (some (([]:List Int),r2))
theorem Xo (p0:List Aa) {K:List Ent} {A0_0:Option Addr} {c0_0:Nat} (ha0:Has K A0_0 p0.length c0_0 9 Af (p0)) {r:List Int} (hx:Rk p0=some r) (w:World) (hK:∀ e∈K,Ent.ok w e):CtL Tryz.prog 79 [.slice (A0_0) (p0.length) (c0_0)] w fun v Ln=>∃ (A0:Option Addr) (c0:Nat),v = .slice (A0) (r.length) (c0)∧Ln=[.r A0 r.length c0 3 1 (r.flatMap Bd)]∧True:=by
 have ha0':=Has.up0 ha0;refine CtL.mk 24 Tryz.func79 rfl Tryz.ntmps79 (by kernel_rfl) rfl ?_;show T 24 _ [(0,.slice (A0_0) (p0.length) (c0_0))] _;unfold Rk at hx;refine Y8 ?_;refine Aj (Cb rfl 66 Tryz.underlying47) rfl ?_;obtain ⟨h2,hx3⟩:=Bh hx;refine T_x (Amt (z:=.int .i64 (0)) rfl rfl (m:=Int.toNat (((p0.length:Nat):Int))) rfl (by omega) Tryz.underlying48 (show Tryz.prog.info? 3=some Tryz.t3 from by kernel_rfl) (by kernel_rfl) rfl (by kernel_rfl) (by show 8*_≤_;omega) (by omega) rfl (fun A1 c4=>?_));refine Y3 ?_;refine Tj (γ:=(Option Addr) × Nat) hx3 (fun s3 y3=>[(3,.slice (y3.1) (s3.length) (y3.2))]) (fun s3 y3=>[.r (y3.1) (s3.length) (y3.2) 3 1 (s3.flatMap Bd)]++[.old w]) (fun s3 y3=>True) (fun s3 y3 hx0 hG0=>?_) (fun j3 hx3=>?_)
 ·refine Y3 ?_;obtain ⟨h0,hx1⟩:=Bh hx0;refine T_h (Ajs (s3) rfl h0 (.here) rfl ?_);refine Y9 ?_;have hn0:s3.length=(Dr s3).length:=(by rw [Ua]);refine En (.here) (e':=.r (y3.1) ((Dr s3).length) (y3.2) 3 1 ((Dr s3).flatMap Bd)) (by first | (rw [← hn0];done) | rfl) ?_;refine Ec (s:=2) (v':=.slice (y3.1) ((Dr s3).length) (y3.2)) rfl (by have hn1:(s3.length)=(Dr s3).length:=(by rw [Ua]);first | (rw [← hn1];done) | rfl) ?_;obtain rfl:=Option.some.inj hx1;exact Bq (rs:=[.tmp 2]) Tryz.results79 (.tmp rfl (.nil)) (Ln:=[.r (y3.1) ((Dr s3).length) (y3.2) 3 1 ((Dr s3).flatMap Bd)]) ⟨y3.1,y3.2,rfl,rfl,trivial⟩ (Ba rfl (Bw)) (by exact .pick 0 rfl (.refl))
 ·refine Y3 ?_;refine Aj (Cb rfl 66 Tryz.underlying47) rfl ?_;refine Y4 ?_;obtain ⟨t0,hl0,ho0⟩:=Ad hx3
  have hn2:0=(([]:List Int)).length:=by simp [Bo,Ch,List.length_append] <;> omega
  refine En (.here) (e':=.r (A1) ((([]:List Int)).length) (c4) 3 1 ((([]:List Int)).flatMap Bd)) (by first | (rw [← hn2];done) | rfl) ?_;refine Ec (s:=3) (v':=.slice (A1) ((([]:List Int)).length) (c4)) rfl (by have hn3:(0)=(([]:List Int)).length:=(by simp [Bo,Ch,List.length_append] <;> omega);first | (rw [← hn3];done) | rfl) ?_;refine Lp (σ:=(List Int) × Int) (γ:=(Option Addr) × Nat) hl0 (fun s0 y0=>[(3,.slice (y0.1) (s0.1.length) (y0.2)),(9,.slice (A0_0) (p0.length) (c0_0)),(10,.int .i64 (((p0.length:Nat):Int))),(11,.int .i64 (s0.2))]) (fun s0 y0=>[.r (y0.1) (s0.1.length) (y0.2) 3 1 (s0.1.flatMap Bd)]++[.old w]) (fun s0 y0=>True) (A1,c4) trivial (by exact .pick 0 rfl (.refl)) ?_;intro s0 y0 hG1 x0 hx2 ht0;unfold Qi at hx2;refine Y6 ?_;refine Ti hx2 (s:=12) rfl (fun h1 hx4=>?_) (fun h1 hx5=>?_)
  ·refine Y7 ?_;obtain ⟨x1,h3,hx6⟩:=Ad hx4;have hw0:=Has.low (E:=[]) ha0' hK;obtain ⟨b0,o0,j0,hA0,hj0,hl1,hp0⟩:=Has.at_idx hw0 h3;refine Aj (Be rfl rfl hA0 (j:=j0) hj0 hl1 Qm) rfl ?_;refine Aj (Co rfl hp0 (sb 1) rfl Cy) rfl ?_;refine T_x (Bj Mz rfl (fun g0=>?_));refine T_h (Ay rfl rfl rfl (.here) (.put (.put (.put (.put (.put (.put (.put (.put (.put (.done)))))))))) rfl (List.cons_ne_nil _ _) Cy.2 ?_);refine Y4 ?_;refine Aj (Ao rfl My rfl) rfl ?_;refine Aj (Aq rfl (i:=0) rfl rfl one3) rfl ?_;refine T_x (Bv rfl (Oe _) rfl (fun g1=>?_));obtain ⟨h4,hx7⟩:=Bh hx6;refine T_h (Dv Bd (s0.1) [x1.Id] rfl rfl rfl Age (fun _=>rfl) (i':=0) rfl rfl rfl rfl h4 rfl (fun _ _=>.there (.there (.here))) (fun _ _=>.drop .refl) (by decide) (fun A2 c1=>?_));refine Y8 ?_;exact Ru (s0.1++[x1.Id],w64 (s0.2+1)) (A2,c1) hx7 trivial
  ·refine Y3 ?_;obtain rfl:=Cq ht0 hx5;refine Y2 ?_;exact Mu s0.1 (y0.1,y0.2) ho0 trivial
instance label_ids_c (p0:List Aa):Con (Rk p0) Tryz.prog 79 (fun K vs=>∃ (A0_0:Option Addr) (c0_0:Nat),vs=[.slice (A0_0) ((p0).length) (c0_0)]∧Has K A0_0 (p0).length c0_0 9 Af (p0)∧True) (fun _ r=>fun v Ln=>∃ (A0:Option Addr) (c0:Nat),v = .slice (A0) ((r).length) (c0)∧Ln=[.r A0 (r).length c0 3 1 ((r).flatMap Bd)]∧True):=⟨by
 rintro K _ r ⟨A0_0,c0_0,rfl,ha0,-⟩ hx w hK;exact Xo p0 ha0 hx w hK⟩
theorem Agh (p0:List Aa) {K:List Ent} {A0_0:Option Addr} {c0_0:Nat} (ha0:Has K A0_0 p0.length c0_0 9 Af (p0)) {r:List Aa} (hx:Py p0=some r) (w:World) (hK:∀ e∈K,Ent.ok w e):CtL Tryz.prog 81 [.slice (A0_0) (p0.length) (c0_0)] w fun v Ln=>∃ (A0:Option Addr) (c0:Nat),v = .slice (A0) (r.length) (c0)∧Ln=[.r A0 r.length c0 66 9 (r.flatMap Af)]∧True:=by
 have ha0':=Has.up0 ha0;refine CtL.mk 25 Tryz.func81 rfl Tryz.ntmps81 (by kernel_rfl) rfl ?_;show T 25 _ [(0,.slice (A0_0) (p0.length) (c0_0))] _;unfold Py at hx;refine Y10 ?_;refine Tj (γ:=(Option Addr) × Nat) hx (fun s3 y3=>[(3,.slice (y3.1) (s3.length) (y3.2))]) (fun s3 y3=>[.r (y3.1) (s3.length) (y3.2) 66 9 (s3.flatMap Af)]++[.old w]) (fun s3 y3=>True) (fun s3 y3 hx0 hG0=>?_) (fun j3 hx=>?_)
 ·refine Y3 ?_;refine T_x (Au rfl (fun w1 _=>Yy (y3.1) (s3.length) (y3.2) 156 [] w1) rfl ?_);rintro _ _ hlo ⟨g0,g1,rfl,rfl⟩;refine Fi ?_;refine Cw (k:=2) rfl (by decide) (fun _=>rfl) (fun hn0 hs0=>?_);obtain ⟨r0,h0,hx1⟩:=Ad hx0;refine T_x (Au rfl (fun w1 hw1=>Agg (K:=([.r (y3.1) (s3.length) (y3.2) 66 9 (s3.flatMap Af),.m g0 47 [.slice (y3.1) (s3.length) (y3.2)],.m g1 186 [.func (.func 156) #[] #[]]]:List Ent)) Ck s3 (Hu hs0) (Pt.m0 (.tail _ (.head _))) (Pt.m0 (.tail _ (.tail _ (.head _)))) (Alo.up (K:=[]) SubE.nil) h0 w1 (oA hw1)) rfl ?_);rintro _ _ hlo ⟨A1,c1,rfl,rfl⟩;refine Do ?_;refine Y4 ?_;obtain rfl:=Option.some.inj hx1;exact Bq (rs:=[.tmp 2]) Tryz.results81 (.tmp rfl (.nil)) (Ln:=[.r (A1) (r0.length) (c1) 66 9 (r0.flatMap Af)]) ⟨A1,c1,rfl,rfl,trivial⟩ (Ba rfl (Bw)) (by exact .pick 0 rfl (.drop 0 rfl (.drop 0 rfl (.drop 0 rfl (.refl)))))
 ·refine Y3 ?_;refine Aj (Cb rfl 66 Tryz.underlying47) rfl ?_;refine Y4 ?_;obtain ⟨t0,hl0,ho0⟩:=Ad hx;refine Bt 66 9 ?_
  have hn1:0=(([]:List Aa)).length:=by simp [Bo,Ch,List.length_append] <;> omega
  refine En (.here) (e':=.r (none) ((([]:List Aa)).length) (0) 66 9 ((([]:List Aa)).flatMap Af)) (by first | (rw [← hn1];done) | rfl) ?_;refine Lp (σ:=(List Aa) × Int) (γ:=(Option Addr) × Nat) hl0 (fun s0 y0=>[(3,.slice (y0.1) (s0.1.length) (y0.2)),(6,.slice (A0_0) (p0.length) (c0_0)),(7,.int .i64 (((p0.length:Nat):Int))),(8,.int .i64 (s0.2))]) (fun s0 y0=>[.r (y0.1) (s0.1.length) (y0.2) 66 9 (s0.1.flatMap Af)]++[.old w]) (fun s0 y0=>True) (none,0) trivial (by exact .pick 0 rfl (.refl)) ?_;intro s0 y0 hG1 x0 hx2 ht0;unfold Nl at hx2;refine Y6 ?_;refine Ti hx2 (s:=9) rfl (fun h1 hx3=>?_) (fun h1 hx4=>?_)
  ·refine Y3 ?_;refine Tj (γ:=(Option Addr) × Nat) hx3 (fun s1 y1=>[(3,.slice (y1.1) (s1.length) (y1.2)),(6,.slice (A0_0) (p0.length) (c0_0)),(7,.int .i64 (((p0.length:Nat):Int))),(8,.int .i64 (s0.2))]) (fun s1 y1=>[.r (y1.1) (s1.length) (y1.2) 66 9 (s1.flatMap Af)]++[.old w]) (fun s1 y1=>True) (fun s1 y1 hx5 hG2=>?_) (fun j0 hx3=>?_)
   ·refine Y4 ?_;exact Ru (s1,w64 (s0.2+1)) (y1.1,y1.2) hx5 trivial
   ·refine Y3 ?_;obtain ⟨x1,h2,hx6⟩:=Ad hx3;have hw0:=Has.low (E:=[]) ha0' hK;obtain ⟨b0,o0,j1,hA0,hj0,hl1,hp0⟩:=Has.at_idx hw0 h2;refine Aj (Be rfl rfl hA0 (j:=j1) hj0 hl1 Qm) rfl ?_;refine Aj (Co rfl hp0 (sb 1) rfl Cy) rfl ?_;refine T_x (Bj Mz rfl (fun g2=>?_));refine T_h (Ay rfl rfl rfl (.here) (.put (.put (.put (.put (.put (.put (.put (.put (.put (.done)))))))))) rfl (List.cons_ne_nil _ _) Cy.2 ?_);refine Y4 ?_;refine Aj (Ao rfl Apg rfl) rfl ?_;refine Aj (Aq rfl (i:=0) rfl rfl one3) rfl ?_;refine Aj (Ao rfl Aj7 rfl) rfl ?_;refine Aj (Aq rfl (i:=0) rfl rfl one3) rfl ?_;refine Y3 ?_;refine Ti hx6 (s:=16) rfl (fun h3 hx7=>?_) (fun h3 hx8=>?_)
    ·refine Y3 ?_;refine Aj (Az rfl (i:=0) rfl rfl Cy) rfl ?_;refine T_x (Bv rfl (Ci _ _ _ _ _ _ _ _ _) rfl (fun g3=>?_));obtain ⟨h4,hx9⟩:=Bh hx7;refine T_h (Dv Af (s0.1) [x1] rfl rfl rfl Ag0 (fun _=>rfl) (i':=0) rfl rfl rfl rfl h4 rfl (fun _ _=>.there (.there (.here))) (fun _ _=>.drop .refl) (by decide) (fun A2 c2=>?_));refine Y3 ?_;exact Mu (s0.1++[x1]) (A2,c2) hx9 trivial
    ·refine Y3 ?_;exact Mu s0.1 (y0.1,y0.2) hx8 trivial
  ·refine Y3 ?_;obtain rfl:=Cq ht0 hx4;refine Y2 ?_;exact Mu s0.1 (y0.1,y0.2) ho0 trivial
instance label_lasts_c (p0:List Aa):Con (Py p0) Tryz.prog 81 (fun K vs=>∃ (A0_0:Option Addr) (c0_0:Nat),vs=[.slice (A0_0) ((p0).length) (c0_0)]∧Has K A0_0 (p0).length c0_0 9 Af (p0)∧True) (fun _ r=>fun v Ln=>∃ (A0:Option Addr) (c0:Nat),v = .slice (A0) ((r).length) (c0)∧Ln=[.r A0 (r).length c0 66 9 ((r).flatMap Af)]∧True):=⟨by
 rintro K _ r ⟨A0_0,c0_0,rfl,ha0,-⟩ hx w hK;exact Agh p0 ha0 hx w hK⟩
instance Abc (p0:List Aa) (p1:Ag):Con (Eo p0 p1) Tryz.prog 68 (fun K vs=>∃ (A0_0:Option Addr) (c0_0:Nat),vs=[.slice (A0_0) ((p0).length) (c0_0),.agg #[.int .i64 (p1.Cell),.int .i64 (p1.Reach),.int .i64 (p1.Slope),.int .i64 (p1.Link),.int .i64 (p1.Flat),.int .i64 (p1.Tall),.int .i64 (p1.High),.int .i64 (p1.Low),.int .i64 (p1.Brush),.int .i64 (p1.Few)]]∧Has K A0_0 (p0).length c0_0 9 Af (p0)∧True) (fun _ r=>fun v Ln=>∃ (A0:Option Addr) (c0:Nat),v = .slice (A0) ((r).length) (c0)∧Ln=[.r A0 (r).length c0 66 9 ((r).flatMap Af)]∧True):=⟨by
 rintro K _ r ⟨A0_0,c0_0,rfl,ha0,-⟩ hx w hK;replace ha0:=Has.lo ha0 hK;unfold Eo at hx;refine CtS Tryz.ntmps68 Tryz.results68 ?_;exact au⟩
theorem Th (p0:List Aa) (p1:Ag) {K:List Ent} {A0_0:Option Addr} {c0_0:Nat} (ha0:Has K A0_0 (p0).length c0_0 9 Af (p0)) {r:List Aa} (hx:Eo p0 p1=some r) (w:World) (hK:∀ e∈K,Ent.ok w e):CtL Tryz.prog 68 [.slice (A0_0) ((p0).length) (c0_0),.agg #[.int .i64 (p1.Cell),.int .i64 (p1.Reach),.int .i64 (p1.Slope),.int .i64 (p1.Link),.int .i64 (p1.Flat),.int .i64 (p1.Tall),.int .i64 (p1.High),.int .i64 (p1.Low),.int .i64 (p1.Brush),.int .i64 (p1.Few)]] w fun v Ln=>∃ (A0:Option Addr) (c0:Nat),v = .slice (A0) ((r).length) (c0)∧Ln=[.r A0 (r).length c0 66 9 ((r).flatMap Af)]∧True:=(Abc p0 p1).h K _ _ ⟨_,_,rfl,ha0,trivial⟩ hx w hK
theorem Agi (p0:List Aa) (p1:Ag) {K:List Ent} {A0_0:Option Addr} {c0_0:Nat} (ha0:Has K A0_0 p0.length c0_0 9 Af (p0)) {r:(List Int) × Int} (hx:Lh p0 p1=some r) (w:World) (hK:∀ e∈K,Ent.ok w e):CtL Tryz.prog 34 [.slice (A0_0) (p0.length) (c0_0),.agg #[.int .i64 (p1.Cell),.int .i64 (p1.Reach),.int .i64 (p1.Slope),.int .i64 (p1.Link),.int .i64 (p1.Flat),.int .i64 (p1.Tall),.int .i64 (p1.High),.int .i64 (p1.Low),.int .i64 (p1.Brush),.int .i64 (p1.Few)]] w fun v Ln=>∃ (A0:Option Addr) (c0:Nat),v = .tuple #[.slice (A0) (r.1.length) (c0),.int .i64 (r.2)]∧Ln=[.r A0 r.1.length c0 3 1 (r.1.flatMap Bd)]∧True:=by
 have ha0':=Has.up0 ha0;refine CtL.mk 18 Tryz.func34 rfl Tryz.ntmps34 (by kernel_rfl) rfl ?_;show T 18 _ [(0,.slice (A0_0) (p0.length) (c0_0)),(1,.agg #[.int .i64 (p1.Cell),.int .i64 (p1.Reach),.int .i64 (p1.Slope),.int .i64 (p1.Link),.int .i64 (p1.Flat),.int .i64 (p1.Tall),.int .i64 (p1.High),.int .i64 (p1.Low),.int .i64 (p1.Brush),.int .i64 (p1.Few)])] _;unfold Lh at hx;refine Y2 ?_;refine T_x (Dy rfl rfl rfl (fun g1=>?_));refine Y8 ?_;refine Aj (Az rfl (i:=0) rfl rfl Om) rfl ?_;obtain ⟨r2,h3,hx4⟩:=Ad hx;refine Tc (fun w1 hw1=>Wu (K:=(K++[])) p0 p1 (Has.len' ha0') h3 w1 (oP hK hw1)) ?_;refine Y9 ?_;refine Hf (s:=11) rfl (fun h5=>?_) (fun h5=>?_)
 ·have hx6:=Ne h5 hx4;refine Y10 ?_;refine Bt 3 1 ?_;obtain rfl:=Option.some.inj hx6;exact Bq (rs:=[.tmp 4,.tmp 5]) Tryz.results34 (.tmp rfl (.tmp rfl (.nil))) (Ln:=[.r (none) (0) (0) 3 1 ((([]:List Int)).flatMap Bd)]) ⟨none,0,rfl,rfl,trivial⟩ (Ba rfl (Bw)) (by exact .pick 0 rfl (.drop 0 rfl (.refl)))
 ·have hx7:=Cp h5 hx4;refine Y4 ?_;refine T_dr [0,1,2,1,2,2,2] (.q 0 (.q 1 (.q 3 (.e 2 (.e 4 (.e 5 (.e 6 (.done) (.stop)) (.stop)) (.stop)) (.stop))))) mixed (by kernel_rfl) (by kernel_rfl) ?_;refine Y ?_;refine P_q rfl rfl (Az rfl (i:=0) rfl rfl Om) rfl ?_;refine P_q rfl rfl (Az rfl (i:=0) rfl rfl Om) rfl ?_;obtain ⟨r8,h9,hx0⟩:=Ad hx7;refine P_x rfl (Au rfl (fun w1 hw1=>Th (K:=(K++[])) p0 p1 (Has.len' ha0') h9 w1 (oP hK hw1)) rfl ?_) Am;rintro _ _ hlo ⟨A1,c1,rfl,rfl,-⟩;refine Do ?_;refine Cw (k:=0) rfl (by decide) (fun _=>rfl) (fun hn0 hs0=>?_);obtain ⟨r0,h0,hx1⟩:=Ad hx0;refine P_x rfl (Au rfl (fun w1 hw1=>Yz (K:=([.r (A1) (r8.length) (c1) 66 9 (r8.flatMap Af)]:List Ent)) r8 p1 (Has.len' hs0) h0 w1 (oA hw1)) rfl ?_) Am;rintro _ _ hlo ⟨A2,c2,rfl,rfl,-⟩;refine Do ?_;refine P_x rfl (Cl (Cc rfl) rfl ?_) Am;refine P_x rfl (Cl (Cc rfl) rfl ?_) Am;refine Y3 ?_;obtain rfl:=Option.some.inj hx1;exact Bq (rs:=[.tmp 4,.tmp 5]) Tryz.results34 (.tmp rfl (.tmp rfl (.nil))) (Ln:=[.r (A2) (r0.length) (c2) 3 1 (r0.flatMap Bd)]) ⟨A2,c2,rfl,rfl,trivial⟩ (Ba rfl (Bw)) (by exact .pick 0 rfl (.drop 0 rfl (.drop 0 rfl (.refl))))
instance label_Seeds_c (p0:List Aa) (p1:Ag):Con (Lh p0 p1) Tryz.prog 34 (fun K vs=>∃ (A0_0:Option Addr) (c0_0:Nat),vs=[.slice (A0_0) ((p0).length) (c0_0),.agg #[.int .i64 (p1.Cell),.int .i64 (p1.Reach),.int .i64 (p1.Slope),.int .i64 (p1.Link),.int .i64 (p1.Flat),.int .i64 (p1.Tall),.int .i64 (p1.High),.int .i64 (p1.Low),.int .i64 (p1.Brush),.int .i64 (p1.Few)]]∧Has K A0_0 (p0).length c0_0 9 Af (p0)∧True) (fun _ r=>fun v Ln=>∃ (A0:Option Addr) (c0:Nat),v = .tuple #[.slice (A0) ((r.1).length) (c0),.int .i64 (r.2)]∧Ln=[.r A0 (r.1).length c0 3 1 ((r.1).flatMap Bd)]∧True):=⟨by
 rintro K _ r ⟨A0_0,c0_0,rfl,ha0,-⟩ hx w hK;exact Agi p0 p1 ha0 hx w hK⟩
end Go.Proofs.YtbkobeeileemjaaGreat
