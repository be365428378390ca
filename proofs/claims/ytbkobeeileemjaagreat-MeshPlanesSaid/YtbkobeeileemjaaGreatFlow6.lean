/- Steps that follow a plain function: rows of structs made, copies. -/
import Derived.Test.YtbkobeeileemjaaGreatFlow2
import Derived.Laws.BytesArg
import Derived.Laws.Strings
namespace Go.Proofs.YtbkobeeileemjaaGreat
open Go Go.RowKit
theorem Afl:∀ (vs pre old tail:List Value),old.length=vs.length→(Ei (pre++old++tail).toArray pre.length vs).toList=pre++vs++tail:=by
 intro vs
 induction vs with
 | nil=>intro pre old tail h;have:old=[]:=List.eq_nil_of_length_eq_zero (by simpa using h);subst this;simp [Ei]
 | cons v r ih =>
  intro pre old tail h
  match old,h with
  | u::old',h =>
   simp only [Ei,List.setIfInBounds_toArray]
   have:(pre++u::old' ++ tail).set pre.length v=(pre++[v])++old' ++ tail:=by
    rw [List.append_assoc,List.set_append_right _ _ (Nat.le_refl _)];simp
   rw [this]
   have:=ih (pre++[v]) old' tail (by simpa using h)
   simp at this ⊢
   exact this
def cpy {α:Type} (l:List α) (p:Nat) (ys:List α):List α:=l.take p++ys.take (l.length-p)++l.drop (p+ys.length)
theorem Cl {α:Type} {l:List α} {p:Nat} {ys:List α} (h:p≤l.length):(cpy l p ys).length=l.length:=by
 simp only [cpy,List.length_append,List.length_take,List.length_drop];omega
theorem Afm {α:Type} {enc:α→List Value} {sz:Nat} (hz:0 < sz) (he:∀ x,(enc x).length=sz) (l:List α) (j:Nat) (u:Value) (hj:(l.flatMap enc)[j]? = some u):∃ h:j / sz < l.length,(enc l[j / sz])[j % sz]? = some u:=by
 have hjl:j < (l.flatMap enc).length:=(List.getElem?_eq_some_iff.1 hj).1
 rw [Kb he l] at hjl
 have hdm:j=j / sz*sz+j % sz:=by have:=Nat.div_add_mod j sz;rw [Nat.mul_comm] at this;omega
 have hq:j / sz < l.length:=(Nat.div_lt_iff_lt_mul hz).2 hjl
 have hmod:=Nat.mod_lt j hz
 refine ⟨hq,?_⟩
 obtain ⟨u',hu'⟩:∃ u',(enc l[j / sz])[j % sz]? = some u':=⟨_,List.getElem?_eq_getElem (by rw [he l[j / sz]];exact hmod)⟩
 have hf:=Uo l (j / sz) hq (fun x _=>he x) (j % sz) u' hu'
 rw [← hdm,hj] at hf
 injection hf with hf
 subst hf;exact hu'
theorem Sl.flat {α:Type} {w:World} {A n c sz} {enc:α→List Value} {l:List α} (h:Sl w A n c sz enc l) (hz:0 < sz) (he:∀ x,(enc x).length=sz) {b o:Nat} (hA:A=some ⟨b,o,none⟩) (hn:0 < n) :
  ∀ (j:Nat) (u:Value),(l.flatMap enc)[j]? = some u→w.cell? ((⟨b,o,none⟩:Addr).add j)=some u:=by
 intro j u hj
 obtain ⟨hq,hu⟩:=Afm hz he l j u hj
 obtain ⟨b',o',hA',hc⟩:=h.at_ hn
 rw [hA] at hA'
 injection hA' with hA'
 injection hA' with e1 e2 _
 subst e1;subst e2
 have:=hc (j / sz) hq (j % sz) u hu
 have hdm:j=j / sz*sz+j % sz:=by have:=Nat.div_add_mod j sz;rw [Nat.mul_comm] at this;omega
 rw [Addr.add_lit,hdm,← Nat.add_assoc];exact this
section
variable {P:Program} {n:Nat} {N:Act→World→Prop} {Q:Exit→Act→World→Prop} {fr:List (Nat × Value)} {L:List Ent}
/-- copy into an own row, from the place p on. -/
theorem Afn {α:Type} (enc:α→List Value) (l ys:List α) (p:Nat) {x y X A m c t sz B q cx cy mx K tt t2 e ty i L' d} {pos:String} {after:Array Edge} {guard:Option (Nat × Bool)}
  (hx:evo fr x=some (.slice X mx cx)) (hy:evo fr y=some (.slice B q cy)) (hr:Has K B q cy sz enc ys) (hK:SubE K L) (hmx:mx=m-p) (hp:p≤m)
  (hX:∀ g,A=some ⟨g,0,none⟩→c≠p→X=some ⟨g,p*sz,none⟩)
  (hL:SetE L i (.r A m c t sz (l.flatMap enc)) (.r A m c t sz ((cpy l p ys).flatMap enc)) L') (ht:P.underlying tt=some (.slice e)) (hs:(P.info? e).map (·.size)=some sz) (hz:0 < sz) (he:∀ x,(enc x).length=sz) (h1:∀ x,Iu (enc x)=true) (hd:Nat.blt d n=true)
  (k:T n N ((d,.int .i64 ((min ys.length (l.length-p):Nat):Int))::fr) L') :
  Wh P Q n ⟨some d,.call ⟨.builtin .copy,#[x,y],#[tt,t2]⟩,ty,pos,after,guard⟩ fr L N:=by
 intro a w ha hw
 have hm:m=l.length:=(Has.ofRow hz he (hw.ok _ hL.mem)).len.symm
 subst hm
 subst hmx
 have hq:=hr.len
 subst hq
 have hsl:=hr.at hK hw
 obtain ⟨ii,hii,hisz⟩:∃ ii,P.info? e=some ii∧ii.size=sz:=by
  cases hq:P.info? e with
  | none=>simp [hq] at hs
  | some ii=>exact ⟨ii,rfl,by simpa [hq] using hs⟩
 obtain ⟨hl,h2⟩:=hw.ok _ hL.mem
 by_cases h0:min ys.length (l.length-p)=0
 ·have hsame:cpy l p ys=l:=by
   unfold cpy
   rcases Nat.eq_zero_or_pos ys.length with h | h
   ·have:ys=[]:=List.eq_nil_of_length_eq_zero h
    subst this;simp
   ·have h3:p=l.length:=by omega
    subst h3
    simp
  rw [hsame] at hL
  rw [hL.same rfl] at k
  rw [h0] at k
  have hload:∀ (x:Addr),(loadCells x 0).run P w = .ok #[] w:=fun x=>by simpa using run_loadCells_list (P:=P) w x [] (by simp)
  have hrun:(execOp a.eval ⟨some d,.call ⟨.builtin .copy,#[x,y],#[tt,t2]⟩,ty,pos,after,guard⟩).run P w = .ok (.value (.int .i64 ((0:Nat):Int))) w:=by
   have hn:Nat.min ys.length (l.length-p)=0:=h0
   cases X <;> cases B <;> simp [execOp,resolve,invoke,builtin,ha.eval hx,ha.eval hy,Builtin.copy_,run_underlying ht,Builtin.lenOf,Builtin.firstCells,sizeOf,typeInfo,hii,hisz,hn,storeCells,hload,goInt]
  simp only [Oper.wp,hrun,Oper.upon_value]
  exact k _ _ (ha.put hd) hw
 ·rcases h2 with ⟨_,h3⟩ | ⟨g,cap,cur,hv,_,hb,h3,h4,h5,h6⟩
  ·omega
  ·injection hv with hg _ hcap
   subst hg;subst hcap
   have hX':=hX g rfl (by omega)
   subst hX'
   obtain ⟨b,o,hB,_⟩:=hsl.at_ (by omega)
   subst hB
   have hcells:=hsl.flat hz he rfl (by omega)
   have hfl:=Kb he
   -- what is copied
   have hzs:((ys.take (l.length-p)).flatMap enc).length=min ys.length (l.length-p)*sz:=by rw [hfl,List.length_take,Nat.min_comm]
   have htk:∀ (j:Nat) (u:Value),((ys.take (l.length-p)).flatMap enc)[j]? = some u→w.cell? ((⟨b,o,none⟩:Addr).add j)=some u:=by
    intro j u hj
    refine hcells j u ?_
    have:ys.flatMap enc=(ys.take (l.length-p)).flatMap enc++(ys.drop (l.length-p)).flatMap enc:=by rw [← List.flatMap_append,List.take_append_drop]
    rw [this,List.getElem?_append_left ((List.getElem?_eq_some_iff.1 hj).1)]
    exact hj
   have hload:=run_loadCells_list (P:=P) w (⟨b,o,none⟩:Addr) _ htk
   rw [hzs] at hload
   have hone:Iu ((ys.take (l.length-p)).flatMap enc)=true:=by
    generalize ys.take (l.length-p)=zs
    induction zs with
    | nil=>rfl
    | cons x r ih =>
     rw [List.flatMap_cons]
     have ap:∀ p q:List Value,Iu p=true→Iu q=true→Iu (p++q)=true:=by
      intro p q hp hq
      induction p with
      | nil=>exact hq
      | cons z p ihp=>simp only [List.cons_append,Iu,Bool.and_eq_true] at hp ⊢;exact ⟨hp.1,ihp hp.2⟩
     exact ap _ _ (h1 x) ih
   have hmul:p*sz+min ys.length (l.length-p)*sz≤l.length*sz:=by rw [← Nat.add_mul];exact Nat.mul_le_mul_right _ (by omega)
   have hmul2:l.length*sz≤c*sz:=Nat.mul_le_mul_right _ h3
   have hst:=Js P g t ((ys.take (l.length-p)).flatMap enc) 0 (p*sz) cur w hb (by rw [hzs,h5];omega) (Nr hone)
   have hpos:0 < min ys.length (l.length-p)*sz:=Nat.mul_pos (by omega) hz
   have hne:(ys.take (l.length-p)).flatMap enc≠[]:=by intro h;rw [h] at hzs;simp only [List.length_nil] at hzs;omega
   rw [if_neg hne] at hst
   have hrun:(execOp a.eval ⟨some d,.call ⟨.builtin .copy,#[x,y],#[tt,t2]⟩,ty,pos,after,guard⟩).run P w = .ok (.value (.int .i64 ((min ys.length (l.length-p):Nat):Int))) (Lj w g (.cells (Ei cur (p*sz+0) ((ys.take (l.length-p)).flatMap enc)) t (0,0))):=by
    have hn:Nat.min ys.length (l.length-p)=min ys.length (l.length-p):=rfl
    simp [execOp,resolve,invoke,builtin,ha.eval hx,ha.eval hy,Builtin.copy_,run_underlying ht,Builtin.lenOf,Builtin.firstCells,sizeOf,typeInfo,hii,hisz,hload,hst,goInt,hn]
   simp only [Oper.wp,hrun,Oper.upon_value]
   have hcl:(cpy l p ys).length=l.length:=Cl hp
   refine k _ _ (ha.put hd) (Heap.turn (e:=.r (some ⟨g,0,none⟩) l.length c t sz (l.flatMap enc)) (e':=.r (some ⟨g,0,none⟩) l.length c t sz ((cpy l p ys).flatMap enc)) (Ry w g _) ?_ (Nat.le_refl _) (fun _ hg=>.inl hg) hL hw)
   refine ⟨by rw [hfl,hcl],.inr ⟨g,c,_,rfl,Nat.zero_le _,Uj w g _ (Ex hb),h3,h4,by rw [Rz];exact h5,?_⟩⟩
   have hcur:cur=((l.take p).flatMap enc++((l.drop p).take (min ys.length (l.length-p))).flatMap enc++((l.drop (p+ys.length)).flatMap enc++cur.toList.drop (l.length*sz))).toArray:=by
    have e1:l.flatMap enc=(l.take p).flatMap enc++((l.drop p).take (min ys.length (l.length-p))).flatMap enc++(l.drop (p+ys.length)).flatMap enc:=by
     rw [← List.flatMap_append,← List.flatMap_append]
     congr 1
     rw [List.append_assoc]
     have e2:(l.drop p).take (min ys.length (l.length-p))++l.drop (p+ys.length)=l.drop p:=by
      rcases Nat.le_total ys.length (l.length-p) with h | h
      ·rw [Nat.min_eq_left h,← List.drop_drop,List.take_append_drop]
      ·rw [Nat.min_eq_right h,List.take_of_length_le (by simp),List.drop_eq_nil_of_le (show l.length≤p+ys.length by omega),List.append_nil]
     rw [e2,List.take_append_drop]
    have e3:cur.toList=l.flatMap enc++cur.toList.drop (l.length*sz):=by
     have:=List.take_append_drop (l.length*sz) cur.toList
     rw [h6] at this;exact this.symm
    rw [e1,List.append_assoc] at e3
    rw [← Array.toArray_toList (xs:=cur)]
    congr 1
   have hpl:((l.take p).flatMap enc).length=p*sz:=by rw [hfl,List.length_take,Nat.min_eq_left hp]
   have hmid:=Afl ((ys.take (l.length-p)).flatMap enc) ((l.take p).flatMap enc) (((l.drop p).take (min ys.length (l.length-p))).flatMap enc) ((l.drop (p+ys.length)).flatMap enc++cur.toList.drop (l.length*sz))
    (by rw [hzs,hfl,List.length_take,List.length_drop];congr 1;omega)
   rw [hpl,← hcur] at hmid
   rw [Nat.add_zero,hmid]
   have hwhole:(l.take p).flatMap enc++(ys.take (l.length-p)).flatMap enc++((l.drop (p+ys.length)).flatMap enc++cur.toList.drop (l.length*sz))=(cpy l p ys).flatMap enc++cur.toList.drop (l.length*sz):=by
    simp only [cpy,List.flatMap_append,List.append_assoc]
   rw [hwhole]
   have hc2:((cpy l p ys).flatMap enc).length=l.length*sz:=by rw [hfl,hcl]
   rw [← hc2,List.take_left]
theorem Ahy {A:Option Addr} {c sz g:Nat} (h:A=some ⟨g,0,none⟩) (_hc:c≠0):A=some ⟨g,0*sz,none⟩:=by rw [Nat.zero_mul];exact h
theorem Tm {α:Type} {enc:α→List Value} {sz:Nat} {z:Array Value} (x0:α) (hz:0 < sz) (he:∀ x,(enc x).length=sz) (h0:enc x0=z.toList) (m:Nat):madeCells z (m*sz)=((List.replicate m x0).flatMap enc).toArray:=by
 have hzs:z.size=sz:=by rw [← he x0,h0];simp
 apply Array.ext
 ·rw [size_madeCells];simp only [List.size_toArray];rw [Kb he,List.length_replicate]
 ·intro i h1 h2
  have h2':i < ((List.replicate m x0).flatMap enc).length:=by simpa using h2
  obtain ⟨v,hv⟩:∃ v,((List.replicate m x0).flatMap enc)[i]? = some v:=⟨_,List.getElem?_eq_getElem h2'⟩
  obtain ⟨hq,hu⟩:=Afm hz he _ i _ hv
  have hx:(List.replicate m x0)[i / sz]=x0:=List.getElem_replicate _
  rw [hx,h0] at hu
  have hmod:i % sz < z.size:=by rw [hzs];exact Nat.mod_lt _ hz
  rw [Array.getElem?_toList,Array.getElem?_eq_getElem hmod] at hu
  injection hu with hu
  have hv':((List.replicate m x0).flatMap enc).toArray[i]=v:=by
   rw [List.getElem_toArray]
   exact (List.getElem?_eq_some_iff.1 hv).2
  rw [hv',← hu]
  simp only [madeCells,Array.getElem_map,Array.getElem_range,hzs]
  exact getElem!_pos z (i % sz) hmod
/-- make([]T, m), T a struct. -/
theorem Ak1 {α:Type} (enc:α→List Value) (x0:α) {d:Nat} {t e x y k1 k2 i1 i2 i z sz} {ty:TypeId} {pos:String} {after:Array Edge} {guard:Option (Nat × Bool)} (hx:evo fr x=some (.int k1 i1)) (hy:evo fr y=some (.int k2 i2)) (h12:i1=i2) (hp:0≤i1)
  (ht:P.underlying t=some (.slice e)) (hi:P.info? e=some i) (hz:i.zero=some z) (hzc:enc x0=z.cells.toList) (hs:i.size=sz) (hsz:0 < sz) (he:∀ x,(enc x).length=sz) (hb:i.bytes*i1.toNat≤140737488355328) (hb0:0 < i.bytes)
  (hd:Nat.blt d n=true) (k:∀ A,T n N ((d,.slice A (List.replicate i1.toNat x0).length (List.replicate i1.toNat x0).length)::fr) (.r A (List.replicate i1.toNat x0).length (List.replicate i1.toNat x0).length e sz ((List.replicate i1.toNat x0).flatMap enc)::L)) :
  Wx P Q n ⟨some d,.makeSlice t x y,ty,pos,after,guard⟩ fr L N:=by
 subst h12
 have h2:=Nat.mul_le_mul_right i1.toNat hb0
 rw [Nat.succ_mul,Nat.zero_mul,Nat.zero_add] at h2
 have hb':(i.bytes:Int)*i1≤281474976710656:=by
  have h:((i.bytes*i1.toNat:Nat):Int)≤281474976710656:=by omega
  rw [Int.natCast_mul,Int.toNat_of_nonneg (by omega)] at h;exact h
 refine Ahw (by rw [Kb he]) (by rw [List.length_replicate];unfold maxLen;omega) (fun a w ha _=>?_) hd k
 have hr:=run_make (P:=P) w t e i z ht hi hz k1 k2 i1 i1 hp (Int.le_refl _) hb' (by omega)
 rw [hs,Tm x0 hsz he hzc] at hr
 rw [List.length_replicate]
 simp [execOp,ha.eval hx,ha.eval hy,hr]
end
end Go.Proofs.YtbkobeeileemjaaGreat
/- Calls that write what a pointer leads to. -/
namespace Go.Proofs.YtbkobeeileemjaaGreat
open Go Go.RowKit
theorem SubE.appC {K E L:List Ent} (h:SubE K L) (h':SubE E L):SubE (K++E) L:=⟨fun w hw x hx=>by
 rcases List.mem_append.1 hx with hx | hx
 ·exact h.ok w hw _ hx
 ·exact h'.ok w hw _ hx⟩
/-- A function that may write the entries Lp, and reads those of K, which lie elsewhere. -/
def CtK (P:Program) (f:FuncId) (vs:List Value) (K Lp:List Ent) (R:Value→List Ent→Prop):Prop :=
 Sa P f∧∀ Lf w,SubE K Lf→Heap (Lp++Lf) w→Calls P f vs.toArray w fun e w'=>∃ v Ln,e = .returned v∧R v Ln∧Heap (Ln++Lf) w'
section
variable {P:Program} {n:Nat} {N:Act→World→Prop} {Q:Exit→Act→World→Prop} {fr:List (Nat × Value)} {L:List Ent}
theorem CtK.mk {f : FuncId} {fn : Func} {c : Code} {vs : List Value} {K Lp : List Ent} {R : Value → List Ent → Prop} (m : Nat) (hf : P.funcs[f]? = some fn) (hb : fn.body = some c) (hm : fn.ntmps = m) (hn : (fn.name == "runtime.NumGoroutine") = false)
  (hl:Nat.ble vs.length m=true) (k:∀ Lf,SubE K Lf→T m (c.wp P (bodyPost P fn fun e w'=>∃ v Ln,e = .returned v∧R v Ln∧Heap (Ln++Lf) w')) (Sb vs 0) (Lp++Lf)):CtK P f vs K Lp R:=by
 refine ⟨⟨fn,hf,hn,by rw [hb];rfl⟩,fun Lf w hK hw=>calls_of_wp hf hb ?_⟩
 rw [hm]
 exact k Lf hK _ w (Adr vs m (Nat.le_of_ble_eq_true hl)) hw
theorem Jg {d:Nat} {pos:String} {after:Array Edge} {guard:Option (Nat × Bool)} {f:FuncId} {xs:List Operand} {vs:List Value} {ts:Array TypeId} {ty':TypeId} {K Lp Lf:List Ent} {R:Value→List Ent→Prop} (hx:evos fr xs=some vs) (hp:Hd L (Lp++Lf)) (hsub:SubE K Lf) (hc:CtK P f vs K Lp R) (hd:Nat.blt d n=true)
  (k:∀ v Ln,R v Ln→T n N ((d,v)::fr) (Ln++Lf)):Wh P Q n ⟨some d,.call ⟨.value (.func f),xs.toArray,ts⟩,ty',pos,after,guard⟩ fr L N:=by
 intro a w ha hw
 simp only [Oper.wp,Aa1 hc.1 ha hx,Oper.upon_enter]
 refine (hc.2 Lf w hsub (hw.pick hp)).mono ?_
 rintro e w' ⟨v,Ln,rfl,hR,hh⟩
 exact k v Ln hR _ _ (ha.put hd) hh
theorem Xt {fn:Func} {R:Value→List Ent→Prop} {Lf:List Ent} {rs vs} {Ln:List Ent} (hr:fn.results=rs.toArray) (h:Res P fr L rs vs) (hR:R (Mx vs) Ln) (hs:Hd L (Ln++Lf)) :
  T n (bodyPost P fn (fun e w'=>∃ v Ln,e = .returned v∧R v Ln∧Heap (Ln++Lf) w') .ret) fr L :=
 Akz hr h fun _ hw=>⟨_,Ln,rfl,hR,hw.pick hs⟩
theorem Adt {fn:Func} {R:Value→List Ent→Prop} {Lf:List Ent} {rs vs} {Ln:List Ent} (hr:fn.results=rs.toArray) (h:Res P fr L rs vs) (hR:R (Mx vs) Ln) (hs:Hd L (Ln++Lf)) :
  T n (bodyPost P fn (fun e w'=>∃ v Ln,e = .returned v∧R v Ln∧Heap (Ln++Lf) w') .normal) fr L :=
 Ak0 hr h fun _ hw=>⟨_,Ln,rfl,hR,hw.pick hs⟩
theorem Yt {x a} {dst:Option Tmp} {ty:TypeId} {pos:String} {after:Array Edge} {guard:Option (Nat × Bool)} (hx:evo fr x=some (.pointer (some a))):Ev P n ⟨dst,.nilCheck x,ty,pos,after,guard⟩ fr L (.pointer (some a)):=fun ac w ha _=>by
 simp [execOp,ha.eval hx]
end
end Go.Proofs.YtbkobeeileemjaaGreat
/- Several entries as one. -/
namespace Go.Proofs.YtbkobeeileemjaaGreat
open Go Go.RowKit
def Ent.blks:Ent→List Nat
 | .old _=>[]
 | .m g _ _=>[g]
 | .r (some a) _ _ _ _ _=>[a.block]
 | .r none _ _ _ _ _=>[]
 | .f S _=>S
theorem Ent.own_blks {e:Ent} {g:Nat}:e.own g↔g∈e.blks:=by
 cases e with
 | old w=>simp [Ent.own,Ent.blks]
 | m g' t cs=>simp [Ent.own,Ent.blks,eq_comm]
 | r A n c t sz xs=>cases A <;> simp [Ent.own,Ent.blks,eq_comm]
 | f S φ=>simp [Ent.own,Ent.blks]
def bun (es:List Ent):Ent:=.f (es.flatMap Ent.blks) (fun w=>∀ e∈es,Ent.ok w e)
/-- What an entry says depends on its blocks alone. -/
theorem Ent.ok_blks {e:Ent} (hl:e.low=0) {w w':World} (h:Ent.ok w e) (hb:∀ g∈e.blks,w'.heap[g]? = w.heap[g]?):Ent.ok w' e:=by
 have hsz:∀ g,g < w.heap.size→g∈e.blks→g < w'.heap.size:=fun g hg hm=>by
  have h1:=hb g hm
  rw [Array.getElem?_eq_getElem hg] at h1
  exact Ex h1
 cases e with
 | old w0=>simp [Ent.low] at hl
 | m g t cs=>exact (hb g (by simp [Ent.blks])).trans h
 | r A n c t sz xs =>
  obtain ⟨h1,h2⟩:=h
  refine ⟨h1,?_⟩
  rcases h2 with h2 | ⟨g,cap,cur,hv,hb',hh,rest⟩
  ·exact .inl h2
  ·refine .inr ⟨g,cap,cur,hv,hb',?_,rest⟩
   refine (hb g ?_).trans hh
   rw [← Ent.own_blks,Ent.own_r,hv];rfl
 | f S φ =>
  obtain ⟨h1,h2,h3⟩:=h
  exact ⟨fun g hg=>hsz g (h1 g hg) hg,h3 w w' h2 hb,h3⟩
theorem Api {es:List Ent} (hl:∀ e∈es,e.low=0) {w:World} (h:∀ e∈es,Ent.ok w e):Ent.ok w (bun es):=by
 refine ⟨fun g hg=>?_,h,fun w1 w2 h1 hb e he=>Ent.ok_blks (hl e he) (h1 e he) (fun g hg=>hb g (List.mem_flatMap.2 ⟨e,he,hg⟩))⟩
 obtain ⟨e,he,hg⟩:=List.mem_flatMap.1 hg
 exact Ent.lt (h e he) (Ent.own_blks.2 hg)
theorem Ahz {es:List Ent} {w:World} (h:Ent.ok w (bun es)):∀ e∈es,Ent.ok w e:=h.2.1
theorem Wl {es L:List Ent} {w:World} (hl:∀ e∈es,e.low=0) (h:Heap (es++L) w):Heap (bun es::L) w:=by
 have hp:=List.pairwise_append.1 h.sep
 refine ⟨fun e he=>?_,?_⟩
 ·rcases List.mem_cons.1 he with rfl | he
  ·exact Api hl (fun e he=>h.ok e (List.mem_append_left _ he))
  ·exact h.ok e (List.mem_append_right _ he)
 ·rw [List.pairwise_cons]
  refine ⟨fun x hx=>⟨fun g hg=>?_,fun g hg=>⟨Nat.zero_le _,fun hb=>?_⟩⟩,hp.2.1⟩
  ·obtain ⟨e,he,hg⟩:=List.mem_flatMap.1 (show g∈es.flatMap Ent.blks from hg)
   exact (hp.2.2 e he x hx).1 g (Ent.own_blks.2 hg)
  ·obtain ⟨e,he,hb⟩:=List.mem_flatMap.1 (show g∈es.flatMap Ent.blks from hb)
   exact ((hp.2.2 e he x hx).2 g hg).2 (Ent.own_blks.2 hb)
theorem SubE.consB {K L es:List Ent} {e:Ent} {i j:Nat} (h:nthE L i=some (bun es)) (hj:nthE es j=some e) (h':SubE K L):SubE (e::K) L:=⟨fun w hw x hx=>by
 rcases List.mem_cons.1 hx with rfl | hx
 ·exact Ahz (hw _ (Ey h)) _ (Ey hj)
 ·exact h'.ok w hw _ hx⟩
theorem Im {n:Nat} {N:Act→World→Prop} {fr:List (Nat × Value)} {L Lr es:List Ent} (hp:Hd L (es++Lr)) (hl:∀ e∈es,e.low=0) (k:T n N fr (bun es::Lr)):T n N fr L :=
 fun a w ha hw=>k a w ha (Wl hl (hw.pick hp))
/-- A field of a struct's value. -/
def Ak2 (P:Program) (s:TypeId) (xs:List Value) (f:Nat) (v:Value):Prop:=∀ w,(Instr.field s (.agg xs.toArray) f).run P w = .ok v w
theorem Aji {P:Program} {n:Nat} {fr:List (Nat × Value)} {L:List Ent} {dst:Option Tmp} {ty:TypeId} {pos:String} {after:Array Edge} {guard:Option (Nat × Bool)} {s:TypeId} {x:Operand} {f:Nat} {xs:List Value} {v:Value} (hx:evo fr x=some (.agg xs.toArray)) (h:Ak2 P s xs f v) :
  Ev P n ⟨dst,.field s x f,ty,pos,after,guard⟩ fr L v:=fun a w ha _=>by
 simp [execOp,ha.eval hx,h w]
end Go.Proofs.YtbkobeeileemjaaGreat
/- Rows whose elements hold slices. -/
namespace Go.Proofs.YtbkobeeileemjaaGreat
open Go Go.RowKit
/-- The cells of an element. -/
abbrev Vec (sz:Nat):Type:={v:List Value // v.length=sz}
/-- What the elements of a row hold. -/
def RowN {α:Type} {sz:Nat} (K:List Ent) (R:List Ent→α→List Value→Prop) (hs:List (Vec sz)) (l:List α):Prop :=
 hs.length=l.length∧∀ (i:Nat) (h:i < l.length) (h':i < hs.length),R K l[i] hs[i].1
theorem RowN.nil {α:Type} {sz:Nat} {K:List Ent} {R:List Ent→α→List Value→Prop}:RowN (sz:=sz) K R [] ([]:List α):=⟨rfl,fun i h=>absurd h (by simp)⟩
theorem RowN.len {α:Type} {sz:Nat} {K:List Ent} {R:List Ent→α→List Value→Prop} {hs:List (Vec sz)} {l:List α} (h:RowN K R hs l):hs.length=l.length:=h.1
theorem RowN.up {α:Type} {sz:Nat} {K L:List Ent} {R:List Ent→α→List Value→Prop} {hs:List (Vec sz)} {l:List α} (hm:∀ {K L:List Ent} {x:α} {ys:List Value},SubE K L→R K x ys→R L x ys) (h:RowN K R hs l) (hK:SubE K L):RowN L R hs l :=
 ⟨h.1,fun i a b=>hm hK (h.2 i a b)⟩
section
variable {n:Nat} {N:Act→World→Prop} {fr:List (Nat × Value)} {L:List Ent}
end
end Go.Proofs.YtbkobeeileemjaaGreat
