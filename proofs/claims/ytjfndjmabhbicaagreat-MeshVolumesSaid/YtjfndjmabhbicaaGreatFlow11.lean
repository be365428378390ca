/- Steps that follow a plain function: rows of structs made, copies. -/
import Derived.Test.YtjfndjmabhbicaaGreatFlow2
import Derived.Laws.BytesArg
import Derived.Laws.Strings
import Derived.Maps.OwnSet
import Derived.Maps.Views
import Derived.DeepKeys4
import Derived.RangeFuncRecord
import Derived.TacticsIn
import Derived.RangeFuncSeq
import Derived.Lib.LazyBuf
import Derived.ChangeKeysEq
import Derived.DeepKeys
namespace Go.Proofs.YtjfndjmabhbicaaGreat
open Go Go.RowKit
theorem Ajw:∀ (vs pre old tail:List Value),old.length=vs.length->(Dl (pre++old++tail).toArray pre.length vs).toList=pre++vs++tail:=by
 intro vs
 induction vs with
 | nil=>intro pre old tail h;have:old=[]:=List.eq_nil_of_length_eq_zero (by simpa using h);subst this;simp[Dl]
 | cons v r ih=>
  intro pre old tail h
  match old,h with
  | u::old',h=>
   simp only[Dl,List.setIfInBounds_toArray]
   have:(pre++u::old' ++ tail).set pre.length v=(pre++[v])++old' ++ tail:=by
    rw[List.append_assoc,List.set_append_right _ _ (Nat.le_refl _)];simp
   rw[this]
   have:=ih (pre++[v]) old' tail (by simpa using h)
   simp at this ⊢
   exact this
def cpy {α:Type} (l:List α) (p:Nat) (ys:List α):List α:=l.take p++ys.take (l.length-p)++l.drop (p+ys.length)
theorem Pe {α:Type} {l:List α} {p:Nat} {ys:List α} (h:p<=l.length):(cpy l p ys).length=l.length:=by
 simp only[cpy,List.length_append,List.length_take,List.length_drop];omega
theorem Ajx {α:Type} {enc:α->List Value} {sz:Nat} (hz:0 < sz) (he:∀ x,(enc x).length=sz) (l:List α) (j:Nat) (u:Value) (hj:(l.flatMap enc)[j]? = some u):∃ h:j / sz < l.length,(enc l[j / sz])[j % sz]? = some u:=by
 have hjl:j < (l.flatMap enc).length:=(List.getElem?_eq_some_iff.1 hj).1
 rw[Jw he l] at hjl
 have hdm:j=j / sz*sz+j % sz:=by have:=Nat.div_add_mod j sz;rw[Nat.mul_comm] at this;omega
 have hq:j / sz < l.length:=(Nat.div_lt_iff_lt_mul hz).2 hjl
 have hmod:=Nat.mod_lt j hz
 refine ⟨hq,?_⟩
 obtain ⟨u',hu'⟩:∃ u',(enc l[j / sz])[j % sz]? = some u':=⟨_,List.getElem?_eq_getElem (by rw[he l[j / sz]];exact hmod)⟩
 have hf:=Wc l (j / sz) hq (fun x _=>he x) (j % sz) u' hu'
 rw[<- hdm,hj] at hf
 injection hf with hf
 subst hf;exact hu'
theorem Sl.flat {α:Type} {w:World} {A n c sz} {enc:α->List Value} {l:List α} (h:Sl w A n c sz enc l) (hz:0 < sz) (he:∀ x,(enc x).length=sz) {b o:Nat} (hA:A=some ⟨b,o,none⟩) (hn:0 < n) :
  ∀ (j:Nat) (u:Value),(l.flatMap enc)[j]? = some u->w.cell? ((⟨b,o,none⟩:Addr).add j)=some u:=by
 intro j u hj
 obtain ⟨hq,hu⟩:=Ajx hz he l j u hj
 obtain ⟨b',o',hA',hc⟩:=h.at_ hn
 rw[hA] at hA'
 injection hA' with hA'
 injection hA' with e1 e2 _
 subst e1;subst e2
 have:=hc (j / sz) hq (j % sz) u hu
 have hdm:j=j / sz*sz+j % sz:=by have:=Nat.div_add_mod j sz;rw[Nat.mul_comm] at this;omega
 rw[Addr.add_lit,hdm,<- Nat.add_assoc];exact this
section
variable {P:Program} {n:Nat} {N:Act->World->Prop} {Q:Exit->Act->World->Prop} {fr:List (Nat × Value)} {L:List Ent}
theorem Ajy {α:Type} (enc:α->List Value) (l ys:List α) (p:Nat) {x y X A m c t sz B q cx cy mx K tt t2 e ty i L' d} {pos:String} {after:Array Edge} {guard:Option (Nat × Bool)}
  (hx:evo fr x=some (.slice X mx cx)) (hy:evo fr y=some (.slice B q cy)) (hr:Has K B q cy sz enc ys) (hK:SubE K L) (hmx:mx=m-p) (hp:p<=m)
  (hX:∀ g,A=some ⟨g,0,none⟩->c≠p->X=some ⟨g,p*sz,none⟩)
  (hL:SetE L i (.r A m c t sz (l.flatMap enc)) (.r A m c t sz ((cpy l p ys).flatMap enc)) L') (ht:P.underlying tt=some (.slice e)) (hs:(P.info? e).map (·.size)=some sz) (hz:0 < sz) (he:∀ x,(enc x).length=sz) (h1:∀ x,Jt (enc x)=true) (hd:Nat.blt d n=true)
  (k:T n N ((d,.int .i64 ((min ys.length (l.length-p):Nat):Int))::fr) L') :
  Wh P Q n ⟨some d,.call ⟨.builtin .copy,#[x,y],#[tt,t2]⟩,ty,pos,after,guard⟩ fr L N:=by
 intro a w ha hw
 have hm:m=l.length:=(Has.ofRow hz he (hw.ok _ hL.mem)).len.symm
 subst hm
 subst hmx
 have hq:=hr.len
 subst hq
 have hsl:=hr.at hK hw
 obtain ⟨ii,hii,hisz⟩:∃ ii,P.info? e=some ii/\ii.size=sz:=by
  cases hq:P.info? e with
  | none=>simp[hq] at hs
  | some ii=>exact ⟨ii,rfl,by simpa[hq] using hs⟩
 obtain ⟨hl,h2⟩:=hw.ok _ hL.mem
 by_cases h0:min ys.length (l.length-p)=0
 ·have hsame:cpy l p ys=l:=by
   unfold cpy
   rcases Nat.eq_zero_or_pos ys.length with h | h
   ·have:ys=[]:=List.eq_nil_of_length_eq_zero h
    subst this;simp
   ·have h3:p=l.length:=by omega
    subst h3
    simp
  rw[hsame] at hL
  rw[hL.same rfl] at k
  rw[h0] at k
  have hload:∀ (x:Addr),(loadCells x 0).run P w = .ok #[] w:=fun x=>by simpa using run_loadCells_list (P:=P) w x [] (by simp)
  have hrun:(execOp a.eval ⟨some d,.call ⟨.builtin .copy,#[x,y],#[tt,t2]⟩,ty,pos,after,guard⟩).run P w = .ok (.value (.int .i64 ((0:Nat):Int))) w:=by
   have hn:Nat.min ys.length (l.length-p)=0:=h0
   cases X <;> cases B <;> simp[execOp,resolve,invoke,builtin,ha.eval hx,ha.eval hy,Builtin.copy_,run_underlying ht,Builtin.lenOf,Builtin.firstCells,sizeOf,typeInfo,hii,hisz,hn,storeCells,hload,goInt]
  simp only[Oper.wp,hrun,Oper.upon_value]
  exact k _ _ (ha.put hd) hw
 ·rcases h2 with ⟨_,h3⟩ | ⟨g,cap,cur,hv,_,hb,h3,h4,h5,h6⟩
  ·omega
  ·injection hv with hg _ hcap
   subst hg;subst hcap
   have hX':=hX g rfl (by omega)
   subst hX'
   obtain ⟨b,o,hB,_⟩:=hsl.at_ (by omega)
   subst hB
   have hcells:=hsl.flat hz he rfl (by omega)
   have hfl:=Jw he
   have hzs:((ys.take (l.length-p)).flatMap enc).length=min ys.length (l.length-p)*sz:=by rw[hfl,List.length_take,Nat.min_comm]
   have htk:∀ (j:Nat) (u:Value),((ys.take (l.length-p)).flatMap enc)[j]? = some u->w.cell? ((⟨b,o,none⟩:Addr).add j)=some u:=by
    intro j u hj
    refine hcells j u ?_
    have:ys.flatMap enc=(ys.take (l.length-p)).flatMap enc++(ys.drop (l.length-p)).flatMap enc:=by rw[<- List.flatMap_append,List.take_append_drop]
    rw[this,List.getElem?_append_left ((List.getElem?_eq_some_iff.1 hj).1)]
    exact hj
   have hload:=run_loadCells_list (P:=P) w (⟨b,o,none⟩:Addr) _ htk
   rw[hzs] at hload
   have hone:Jt ((ys.take (l.length-p)).flatMap enc)=true:=by
    generalize ys.take (l.length-p)=zs
    induction zs with
    | nil=>rfl
    | cons x r ih=>
     rw[List.flatMap_cons]
     have ap:∀ p q:List Value,Jt p=true->Jt q=true->Jt (p++q)=true:=by
      intro p q hp hq
      induction p with
      | nil=>exact hq
      | cons z p ihp=>simp only[List.cons_append,Jt,Bool.and_eq_true] at hp ⊢;exact ⟨hp.1,ihp hp.2⟩
     exact ap _ _ (h1 x) ih
   have hmul:p*sz+min ys.length (l.length-p)*sz<=l.length*sz:=by rw[<- Nat.add_mul];exact Nat.mul_le_mul_right _ (by omega)
   have hmul2:l.length*sz<=c*sz:=Nat.mul_le_mul_right _ h3
   have hst:=Ju P g t ((ys.take (l.length-p)).flatMap enc) 0 (p*sz) cur w hb (by rw[hzs,h5];omega) (Ol hone)
   have hpos:0 < min ys.length (l.length-p)*sz:=Nat.mul_pos (by omega) hz
   have hne:(ys.take (l.length-p)).flatMap enc≠[]:=by intro h;rw[h] at hzs;simp only[List.length_nil] at hzs;omega
   rw[if_neg hne] at hst
   have hrun:(execOp a.eval ⟨some d,.call ⟨.builtin .copy,#[x,y],#[tt,t2]⟩,ty,pos,after,guard⟩).run P w = .ok (.value (.int .i64 ((min ys.length (l.length-p):Nat):Int))) (Om w g (.cells (Dl cur (p*sz+0) ((ys.take (l.length-p)).flatMap enc)) t (0,0))):=by
    have hn:Nat.min ys.length (l.length-p)=min ys.length (l.length-p):=rfl
    simp[execOp,resolve,invoke,builtin,ha.eval hx,ha.eval hy,Builtin.copy_,run_underlying ht,Builtin.lenOf,Builtin.firstCells,sizeOf,typeInfo,hii,hisz,hload,hst,goInt,hn]
   simp only[Oper.wp,hrun,Oper.upon_value]
   have hcl:(cpy l p ys).length=l.length:=Pe hp
   refine k _ _ (ha.put hd) (Heap.turn (e:=.r (some ⟨g,0,none⟩) l.length c t sz (l.flatMap enc)) (e':=.r (some ⟨g,0,none⟩) l.length c t sz ((cpy l p ys).flatMap enc)) (Sk w g _) ?_ (Nat.le_refl _) (fun _ hg=>.inl hg) hL hw)
   refine ⟨by rw[hfl,hcl],.inr ⟨g,c,_,rfl,Nat.zero_le _,Uu w g _ (Ek hb),h3,h4,by rw[Sn];exact h5,?_⟩⟩
   have hcur:cur=((l.take p).flatMap enc++((l.drop p).take (min ys.length (l.length-p))).flatMap enc++((l.drop (p+ys.length)).flatMap enc++cur.toList.drop (l.length*sz))).toArray:=by
    have e1:l.flatMap enc=(l.take p).flatMap enc++((l.drop p).take (min ys.length (l.length-p))).flatMap enc++(l.drop (p+ys.length)).flatMap enc:=by
     rw[<- List.flatMap_append,<- List.flatMap_append]
     congr 1
     rw[List.append_assoc]
     have e2:(l.drop p).take (min ys.length (l.length-p))++l.drop (p+ys.length)=l.drop p:=by
      rcases Nat.le_total ys.length (l.length-p) with h | h
      ·rw[Nat.min_eq_left h,<- List.drop_drop,List.take_append_drop]
      ·rw[Nat.min_eq_right h,List.take_of_length_le (by simp),List.drop_eq_nil_of_le (show l.length<=p+ys.length by omega),List.append_nil]
     rw[e2,List.take_append_drop]
    have e3:cur.toList=l.flatMap enc++cur.toList.drop (l.length*sz):=by
     have:=List.take_append_drop (l.length*sz) cur.toList
     rw[h6] at this;exact this.symm
    rw[e1,List.append_assoc] at e3
    rw[<- Array.toArray_toList (xs:=cur)]
    congr 1
   have hpl:((l.take p).flatMap enc).length=p*sz:=by rw[hfl,List.length_take,Nat.min_eq_left hp]
   have hmid:=Ajw ((ys.take (l.length-p)).flatMap enc) ((l.take p).flatMap enc) (((l.drop p).take (min ys.length (l.length-p))).flatMap enc) ((l.drop (p+ys.length)).flatMap enc++cur.toList.drop (l.length*sz))
    (by rw[hzs,hfl,List.length_take,List.length_drop];congr 1;omega)
   rw[hpl,<- hcur] at hmid
   rw[Nat.add_zero,hmid]
   have hwhole:(l.take p).flatMap enc++(ys.take (l.length-p)).flatMap enc++((l.drop (p+ys.length)).flatMap enc++cur.toList.drop (l.length*sz))=(cpy l p ys).flatMap enc++cur.toList.drop (l.length*sz):=by
    simp only[cpy,List.flatMap_append,List.append_assoc]
   rw[hwhole]
   have hc2:((cpy l p ys).flatMap enc).length=l.length*sz:=by rw[hfl,hcl]
   rw[<- hc2,List.take_left]
theorem Ani {A:Option Addr} {c sz g:Nat} (h:A=some ⟨g,0,none⟩) (_hc:c≠0):A=some ⟨g,0*sz,none⟩:=by rw[Nat.zero_mul];exact h
theorem Xo {α:Type} {enc:α->List Value} {sz:Nat} {z:Array Value} (x0:α) (hz:0 < sz) (he:∀ x,(enc x).length=sz) (h0:enc x0=z.toList) (m:Nat):madeCells z (m*sz)=((List.replicate m x0).flatMap enc).toArray:=by
 have hzs:z.size=sz:=by rw[<- he x0,h0];simp
 apply Array.ext
 ·rw[size_madeCells];simp only[List.size_toArray];rw[Jw he,List.length_replicate]
 ·intro i h1 h2
  have h2':i < ((List.replicate m x0).flatMap enc).length:=by simpa using h2
  obtain ⟨v,hv⟩:∃ v,((List.replicate m x0).flatMap enc)[i]? = some v:=⟨_,List.getElem?_eq_getElem h2'⟩
  obtain ⟨hq,hu⟩:=Ajx hz he _ i _ hv
  have hx:(List.replicate m x0)[i / sz]=x0:=List.getElem_replicate _
  rw[hx,h0] at hu
  have hmod:i % sz < z.size:=by rw[hzs];exact Nat.mod_lt _ hz
  rw[Array.getElem?_toList,Array.getElem?_eq_getElem hmod] at hu
  injection hu with hu
  have hv':((List.replicate m x0).flatMap enc).toArray[i]=v:=by
   rw[List.getElem_toArray]
   exact (List.getElem?_eq_some_iff.1 hv).2
  rw[hv',<- hu]
  simp only[madeCells,Array.getElem_map,Array.getElem_range,hzs]
  exact getElem!_pos z (i % sz) hmod
theorem Asa {α:Type} (enc:α->List Value) (x0:α) {d:Nat} {t e x y k1 k2 i1 i2 i z sz} {ty:TypeId} {pos:String} {after:Array Edge} {guard:Option (Nat × Bool)} (hx:evo fr x=some (.int k1 i1)) (hy:evo fr y=some (.int k2 i2)) (h12:i1=i2) (hp:0<=i1)
  (ht:P.underlying t=some (.slice e)) (hi:P.info? e=some i) (hz:i.zero=some z) (hzc:enc x0=z.cells.toList) (hs:i.size=sz) (hsz:0 < sz) (he:∀ x,(enc x).length=sz) (hb:i.bytes*i1.toNat<=140737488355328) (hb0:0 < i.bytes)
  (hd:Nat.blt d n=true) (k:∀ A,T n N ((d,.slice A (List.replicate i1.toNat x0).length (List.replicate i1.toNat x0).length)::fr) (.r A (List.replicate i1.toNat x0).length (List.replicate i1.toNat x0).length e sz ((List.replicate i1.toNat x0).flatMap enc)::L)) :
  Wx P Q n ⟨some d,.makeSlice t x y,ty,pos,after,guard⟩ fr L N:=by
 subst h12
 have h2:=Nat.mul_le_mul_right i1.toNat hb0
 rw[Nat.succ_mul,Nat.zero_mul,Nat.zero_add] at h2
 have hb':(i.bytes:Int)*i1<=281474976710656:=by
  have h:((i.bytes*i1.toNat:Nat):Int)<=281474976710656:=by omega
  rw[Int.natCast_mul,Int.toNat_of_nonneg (by omega)] at h;exact h
 refine Ane (by rw[Jw he]) (by rw[List.length_replicate];unfold maxLen;omega) (fun a w ha _=>?_) hd k
 have hr:=run_make (P:=P) w t e i z ht hi hz k1 k2 i1 i1 hp (Int.le_refl _) hb' (by omega)
 rw[hs,Xo x0 hsz he hzc] at hr
 rw[List.length_replicate]
 simp[execOp,ha.eval hx,ha.eval hy,hr]
end
theorem SubE.appC {K E L:List Ent} (h:SubE K L) (h':SubE E L):SubE (K++E) L:=⟨fun w hw x hx=>by
 rcases List.mem_append.1 hx with hx | hx
 ·exact h.ok w hw _ hx
 ·exact h'.ok w hw _ hx⟩
def CtK (P:Program) (f:FuncId) (vs:List Value) (K Lp:List Ent) (R:Value->List Ent->Prop):Prop :=
 Uj P f/\∀ Lf w,SubE K Lf->Heap (Lp++Lf) w->Calls P f vs.toArray w fun e w'=>∃ v Ln,e = .returned v/\R v Ln/\Heap (Ln++Lf) w'
section
variable {P:Program} {n:Nat} {N:Act->World->Prop} {Q:Exit->Act->World->Prop} {fr:List (Nat × Value)} {L:List Ent}
theorem CtK.mk {f : FuncId} {fn : Func} {c : Code} {vs : List Value} {K Lp : List Ent} {R : Value -> List Ent -> Prop} (m : Nat) (hf : P.funcs[f]? = some fn) (hb : fn.body = some c) (hm : fn.ntmps = m) (hn : (fn.name == "runtime.NumGoroutine") = false)
  (hl:Nat.ble vs.length m=true) (k:∀ Lf,SubE K Lf->T m (c.wp P (bodyPost P fn fun e w'=>∃ v Ln,e = .returned v/\R v Ln/\Heap (Ln++Lf) w')) (Uk vs 0) (Lp++Lf)):CtK P f vs K Lp R:=by
 refine ⟨⟨fn,hf,hn,by rw[hb];rfl⟩,fun Lf w hK hw=>calls_of_wp hf hb ?_⟩
 rw[hm]
 exact k Lf hK _ w (Ah1 vs m (Nat.le_of_ble_eq_true hl)) hw
theorem Aew {d:Nat} {pos:String} {after:Array Edge} {guard:Option (Nat × Bool)} {f:FuncId} {xs:List Operand} {vs:List Value} {ts:Array TypeId} {ty':TypeId} {K Lp Lf:List Ent} {R:Value->List Ent->Prop} (hx:evos fr xs=some vs) (hp:Gp L (Lp++Lf)) (hsub:SubE K Lf) (hc:CtK P f vs K Lp R) (hd:Nat.blt d n=true)
  (k:∀ v Ln,R v Ln->T n N ((d,v)::fr) (Ln++Lf)):Wh P Q n ⟨some d,.call ⟨.value (.func f),xs.toArray,ts⟩,ty',pos,after,guard⟩ fr L N:=by
 intro a w ha hw
 simp only[Oper.wp,Aeo hc.1 ha hx,Oper.upon_enter]
 refine (hc.2 Lf w hsub (hw.pick hp)).mono ?_
 rintro e w' ⟨v,Ln,rfl,hR,hh⟩
 exact k v Ln hR _ _ (ha.put hd) hh
theorem Ah5 {fn:Func} {R:Value->List Ent->Prop} {Lf:List Ent} {rs vs} {Ln:List Ent} (hr:fn.results=rs.toArray) (h:Res P fr L rs vs) (hR:R (Ph vs) Ln) (hs:Gp L (Ln++Lf)) :
  T n (bodyPost P fn (fun e w'=>∃ v Ln,e = .returned v/\R v Ln/\Heap (Ln++Lf) w') .ret) fr L :=
 Ar8 hr h fun _ hw=>⟨_,Ln,rfl,hR,hw.pick hs⟩
theorem Asb {fn:Func} {R:Value->List Ent->Prop} {Lf:List Ent} {rs vs} {Ln:List Ent} (hr:fn.results=rs.toArray) (h:Res P fr L rs vs) (hR:R (Ph vs) Ln) (hs:Gp L (Ln++Lf)) :
  T n (bodyPost P fn (fun e w'=>∃ v Ln,e = .returned v/\R v Ln/\Heap (Ln++Lf) w') .normal) fr L :=
 Ar9 hr h fun _ hw=>⟨_,Ln,rfl,hR,hw.pick hs⟩
theorem Acq {x a} {dst:Option Tmp} {ty:TypeId} {pos:String} {after:Array Edge} {guard:Option (Nat × Bool)} (hx:evo fr x=some (.pointer (some a))):Ev P n ⟨dst,.nilCheck x,ty,pos,after,guard⟩ fr L (.pointer (some a)):=fun ac w ha _=>by
 simp[execOp,ha.eval hx]
end
def Ent.blks:Ent->List Nat
 | .old _=>[]
 | .m g _ _=>[g]
 | .r (some a) _ _ _ _ _=>[a.block]
 | .r none _ _ _ _ _=>[]
 | .f S _=>S
theorem Ent.own_blks {e:Ent} {g:Nat}:e.own g↔g∈e.blks:=by
 cases e with
 | old w=>simp[Ent.own,Ent.blks]
 | m g' t cs=>simp[Ent.own,Ent.blks,eq_comm]
 | r A n c t sz xs=>cases A <;> simp[Ent.own,Ent.blks,eq_comm]
 | f S φ=>simp[Ent.own,Ent.blks]
def bun (es:List Ent):Ent:=.f (es.flatMap Ent.blks) (fun w=>∀ e∈es,Ent.ok w e)
theorem Ent.ok_blks {e:Ent} (hl:e.low=0) {w w':World} (h:Ent.ok w e) (hb:∀ g∈e.blks,w'.heap[g]? = w.heap[g]?):Ent.ok w' e:=by
 have hsz:∀ g,g < w.heap.size->g∈e.blks->g < w'.heap.size:=fun g hg hm=>by
  have h1:=hb g hm
  rw[Array.getElem?_eq_getElem hg] at h1
  exact Ek h1
 cases e with
 | old w0=>simp[Ent.low] at hl
 | m g t cs=>exact (hb g (by simp[Ent.blks])).trans h
 | r A n c t sz xs=>
  obtain ⟨h1,h2⟩:=h
  refine ⟨h1,?_⟩
  rcases h2 with h2 | ⟨g,cap,cur,hv,hb',hh,rest⟩
  ·exact .inl h2
  ·refine .inr ⟨g,cap,cur,hv,hb',?_,rest⟩
   refine (hb g ?_).trans hh
   rw[<- Ent.own_blks,Ent.own_r,hv];rfl
 | f S φ=>
  obtain ⟨h1,h2,h3⟩:=h
  exact ⟨fun g hg=>hsz g (h1 g hg) hg,h3 w w' h2 hb,h3⟩
theorem Ayb {es:List Ent} (hl:∀ e∈es,e.low=0) {w:World} (h:∀ e∈es,Ent.ok w e):Ent.ok w (bun es):=by
 refine ⟨fun g hg=>?_,h,fun w1 w2 h1 hb e he=>Ent.ok_blks (hl e he) (h1 e he) (fun g hg=>hb g (List.mem_flatMap.2 ⟨e,he,hg⟩))⟩
 obtain ⟨e,he,hg⟩:=List.mem_flatMap.1 hg
 exact Ent.lt (h e he) (Ent.own_blks.2 hg)
theorem Anj {es:List Ent} {w:World} (h:Ent.ok w (bun es)):∀ e∈es,Ent.ok w e:=h.2.1
theorem Aa8 {es L:List Ent} {w:World} (hl:∀ e∈es,e.low=0) (h:Heap (es++L) w):Heap (bun es::L) w:=by
 have hp:=List.pairwise_append.1 h.sep
 refine ⟨fun e he=>?_,?_⟩
 ·rcases List.mem_cons.1 he with rfl | he
  ·exact Ayb hl (fun e he=>h.ok e (List.mem_append_left _ he))
  ·exact h.ok e (List.mem_append_right _ he)
 ·rw[List.pairwise_cons]
  refine ⟨fun x hx=>⟨fun g hg=>?_,fun g hg=>⟨Nat.zero_le _,fun hb=>?_⟩⟩,hp.2.1⟩
  ·obtain ⟨e,he,hg⟩:=List.mem_flatMap.1 (show g∈es.flatMap Ent.blks from hg)
   exact (hp.2.2 e he x hx).1 g (Ent.own_blks.2 hg)
  ·obtain ⟨e,he,hb⟩:=List.mem_flatMap.1 (show g∈es.flatMap Ent.blks from hb)
   exact ((hp.2.2 e he x hx).2 g hg).2 (Ent.own_blks.2 hb)
theorem SubE.consB {K L es:List Ent} {e:Ent} {i j:Nat} (h:nthE L i=some (bun es)) (hj:nthE es j=some e) (h':SubE K L):SubE (e::K) L:=⟨fun w hw x hx=>by
 rcases List.mem_cons.1 hx with rfl | hx
 ·exact Anj (hw _ (Eu h)) _ (Eu hj)
 ·exact h'.ok w hw _ hx⟩
theorem Ajz {n:Nat} {N:Act->World->Prop} {fr:List (Nat × Value)} {L Lr es:List Ent} (hp:Gp L (es++Lr)) (hl:∀ e∈es,e.low=0) (k:T n N fr (bun es::Lr)):T n N fr L :=
 fun a w ha hw=>k a w ha (Aa8 hl (hw.pick hp))
def Ah6 (P:Program) (s:TypeId) (xs:List Value) (f:Nat) (v:Value):Prop:=∀ w,(Instr.field s (.agg xs.toArray) f).run P w = .ok v w
theorem Agt {P:Program} {n:Nat} {fr:List (Nat × Value)} {L:List Ent} {dst:Option Tmp} {ty:TypeId} {pos:String} {after:Array Edge} {guard:Option (Nat × Bool)} {s:TypeId} {x:Operand} {f:Nat} {xs:List Value} {v:Value} (hx:evo fr x=some (.agg xs.toArray)) (h:Ah6 P s xs f v) :
  Ev P n ⟨dst,.field s x f,ty,pos,after,guard⟩ fr L v:=fun a w ha _=>by
 simp[execOp,ha.eval hx,h w]
abbrev Vec (sz:Nat):Type:={v:List Value // v.length=sz}
def RowN {α:Type} {sz:Nat} (K:List Ent) (R:List Ent->α->List Value->Prop) (hs:List (Vec sz)) (l:List α):Prop :=
 hs.length=l.length/\∀ (i:Nat) (h:i < l.length) (h':i < hs.length),R K l[i] hs[i].1
theorem RowN.nil {α:Type} {sz:Nat} {K:List Ent} {R:List Ent->α->List Value->Prop}:RowN (sz:=sz) K R [] ([]:List α):=⟨rfl,fun i h=>absurd h (by simp)⟩
theorem RowN.len {α:Type} {sz:Nat} {K:List Ent} {R:List Ent->α->List Value->Prop} {hs:List (Vec sz)} {l:List α} (h:RowN K R hs l):hs.length=l.length:=h.1
theorem RowN.up {α:Type} {sz:Nat} {K L:List Ent} {R:List Ent->α->List Value->Prop} {hs:List (Vec sz)} {l:List α} (hm:∀ {K L:List Ent} {x:α} {ys:List Value},SubE K L->R K x ys->R L x ys) (h:RowN K R hs l) (hK:SubE K L):RowN L R hs l :=
 ⟨h.1,fun i a b=>hm hK (h.2 i a b)⟩
section
variable {n:Nat} {N:Act->World->Prop} {fr:List (Nat × Value)} {L:List Ent}
end
open Go.Maps (Keyed)
def Alr (P:Program) (t:TypeId) (xs:List Value):Prop:=∀ (j:Nat) (h:j < xs.length) (k:IntKind) (w:World),(Instr.index t (.agg xs.toArray) (.int k (j:Int))).run P w = .ok xs[j] w
theorem Apq {P:Program} {n:Nat} {fr:List (Nat × Value)} {L:List Ent} {dst:Option Tmp} {ty:TypeId} {pos:String} {after:Array Edge} {guard:Option (Nat × Bool)} {t:TypeId} {x i:Operand} {kd k:IntKind} {xs:List Value} {ys:List Int} {z v:Int}
  (hx:evo fr x=some (.agg xs.toArray)) (hxs:xs=ys.map (Value.int kd)) (hi:evo fr i=some (.int k z)) (hV:Alr P t xs) (hz:idx ys z=some v):Ev P n ⟨dst,.index t x i,ty,pos,after,guard⟩ fr L (.int kd v):=fun a w ha _=>by
 subst hxs
 unfold idx at hz
 split at hz
 ·rename_i h0
  obtain ⟨hlt,he⟩:=List.getElem?_eq_some_iff.1 hz
  have:=hV z.toNat (by simpa using hlt) k w
  rw[Int.toNat_of_nonneg h0] at this
  simp only[execOp,ha.eval hx,ha.eval hi,this,Sem.run_bind,Result.andThen,List.getElem_map,he]
  rfl
 ·cases hz
def RV (v:Value):Option (DataW Value × List MemPlace):=some (.held v,[])
noncomputable def klOf (P:Program) (k:TypeId) (v:Value):Lit:=(keyOf P k v).getD (.bool true)
theorem Ks {P:Program} {k:TypeId} {v:Value} (h:(keyOf P k v).isSome=true):keyOf P k v=some (klOf P k v):=by
 unfold klOf
 cases hk:keyOf P k v with
 | none=>rw[hk] at h;cases h
 | some l=>rfl
section
variable {κ υ:Type}
noncomputable def mapD (P:Program) (k:TypeId) (ke:κ->Value) (ve:υ->Value):List (κ × υ)->DataW Value
 | []=>.map []
 | p::r=>(mapD P k ke ve r).put (klOf P k (ke p.1)) (.held (ve p.2))
open Classical in
noncomputable def mget (m:List (κ × υ)) (x:κ):Option υ:=match m with
 | []=>none
 | p::r=>if p.1=x then some p.2 else mget r x
theorem Asc {x:κ}:mget ([]:List (κ × υ)) x=none:=rfl
open Classical in
theorem Sr {p:κ × υ} {r:List (κ × υ)} {x:κ}:mget (p::r) x=if p.1=x then some p.2 else mget r x:=rfl
def mval (ve:υ->Value) (z:Value):Option υ->Value
 | some v=>ve v
 | none=>z
def Asd (P:Program) (k:TypeId) (ke:κ->Value) (ve:υ->Value) (b:Nat) (m:List (κ × υ)) (w:World):Prop :=
 (∀ p∈m,(keyOf P k (ke p.1)).isSome=true)/\w.ownsMap P k RV b m.length (mapD P k ke ve m)
variable {P:Program} {k:TypeId} {ke:κ->Value} {ve:υ->Value} {b:Nat} {m:List (κ × υ)}
theorem Asd.still {w w':World} (h:Asd P k ke ve b m w) (hb:w'.heap[b]? = w.heap[b]?):Asd P k ke ve b m w':=by
 obtain ⟨h1,es,clock,h2,h3⟩:=h
 exact ⟨h1,es,clock,by rw[hb];exact h2,h3⟩
theorem Zy:∀ {m:List (κ × υ)},Maps.IsMap (mapD P k ke ve m)
 | []=>⟨_,rfl⟩
 | p::r=>by
  obtain ⟨es,h⟩:=Zy (m:=r)
  unfold mapD
  rw[h]
  exact ⟨_,rfl⟩
theorem Agu (K:Keyed P k) (hke:∀ x y,ke x=ke y->x=y) {x:κ} (hx:(keyOf P k (ke x)).isSome=true) (z:Value) :
  ∀ {m:List (κ × υ)},(∀ p∈m,(keyOf P k (ke p.1)).isSome=true)->(mapD P k ke ve m).atKey (klOf P k (ke x)) (.held z) = .held (mval ve z (mget m x))/\Maps.has (mapD P k ke ve m) (klOf P k (ke x))=(mget m x).isSome
 | [],_=>⟨rfl,rfl⟩
 | p::r,h=>by
  have ih:=Agu K hke hx z (m:=r) (fun q hq=>h q (List.mem_cons_of_mem _ hq))
  have hp:=Ks (h p List.mem_cons_self)
  have hxs:=Ks hx
  unfold mapD
  by_cases he:p.1=x
  ·rw[Sr,if_pos he,he]
   exact ⟨Maps.atKey_put_same Zy (K.key hxs) _ _,Maps.has_put_same Zy (K.key hxs) _⟩
  ·have hne:klOf P k (ke x)≠klOf P k (ke p.1):=fun e=>he (hke _ _ (K.inj hp (by rw[hxs,e])))
   rw[Sr,if_neg he,Maps.atKey_put_other hne,Maps.has_put_other hne]
   exact ih
section
variable {n:Nat} {fr:List (Nat × Value)} {L:List Ent} {N:Act->World->Prop} {Q:Exit->Act->World->Prop} {d:Nat} {dst:Option Tmp} {ty:TypeId} {pos:String} {after:Array Edge} {guard:Option (Nat × Bool)}
theorem Aa9 {L:List Ent} {i:Nat} {e:Ent} (h:nthE L i=some e):e∈L:=by
 induction L generalizing i with
 | nil=>simp[nthE] at h
 | cons x r ih=>
  cases i with
  | zero=>simp[nthE] at h;subst h;exact List.mem_cons_self
  | succ i=>exact List.mem_cons_of_mem _ (ih h)
theorem Agv {o:Option υ} {z0 u:υ} (h:some (o.getD z0)=some u):mval ve (ve z0) o=ve u:=by
 obtain rfl:=Option.some.inj h
 cases o <;> rfl
end
end
theorem Ah7 {z:Int} (h:-9223372036854775808<=z/\z<=9223372036854775807):(Lit.int .i64 z).wf=true:=by
 have h1:IntKind.i64.min = -9223372036854775808:=rfl
 have h2:IntKind.i64.max=9223372036854775807:=rfl
 simp only[Lit.wf,Bool.and_eq_true,decide_eq_true_eq]
 omega
theorem Xp {α β:Type} {g:α->Option β}:∀ (l:List α),(∀ x∈l,(g x).isSome=true)->(l.mapM g).isSome=true
 | [],_=>rfl
 | x::r,h=>by
  have h1:=h x List.mem_cons_self
  have ih:=Xp r (fun y hy=>h y (List.mem_cons_of_mem _ hy))
  rw[List.mapM_cons]
  cases hx:g x with
  | none=>rw[hx] at h1;cases h1
  | some y=>
   cases hr:r.mapM g with
   | none=>rw[hr] at ih;cases ih
   | some ys=>rfl
theorem Als {P : Program} {k : TypeId} {fs : Array Field} {cs : List Value} {d : Nat} (hd : P.types.size = d + 1) (hu : P.underlying k = some (.struct fs)) (hk : P.keyType k = true) (hc : cs.length = P.cellsOf k) (hn : fs.all (·.name != "_") = true)
  (hf:∀ f∈fs.toList,∃ q n,P.underlying f.type=some (.int q)/\(cs.drop f.offset).take (P.cellsOf f.type)=[.int q n]/\(Lit.int q n).wf=true):(keyOf P k (.agg cs.toArray)).isSome=true:=by
 unfold keyOf
 rw[hu]
 have hfm:(Value.agg cs.toArray).formed P k=true:=by simp[Value.formed,hu,hc]
 simp only[hk,hfm,Bool.and_self,if_true,Option.isSome_map]
 have hcl:(Value.agg cs.toArray).cells.toList=cs:=by simp[Value.cells]
 rw[hcl,hd]
 unfold Program.keyLits
 simp only[hu]
 rw[if_pos ⟨hc,hn⟩,Option.isSome_map]
 refine Xp _ fun f hfm=>?_
 obtain ⟨q,n,h1,h2,h3⟩:=hf f hfm
 rw[h2]
 unfold Program.keyLits
 simp[h1,h3]
def FL (ro:Option Nat):Fence:={ Fence.wide with round:=ro }
def Dp (ds:List Deferred) (N:Act->World->Prop) (a:Act) (w:World):Prop:=a.defers=[]/\N { a with defers:=ds } w
section
variable {P:Program} {n m:Nat} {ro:Option Nat} {ds:List Deferred} {ops:Array Oper} {Q:Exit->Act->World->Prop} {fr:List (Nat × Value)} {L:List Ent} {rest:List Oper} {N:Act->World->Prop}
variable {dst:Option Tmp} {d:Nat} {op:Op} {ty:TypeId} {pos:String} {after:Array Edge} {guard:Option (Nat × Bool)}
def Aw9 (P:Program) (l:Nat) (vs:List Value) (e:Ent) (R:Ent->Prop):Prop :=
 ∀ Lf w,Heap (e::Lf) w->YieldAt (FL none) 0 P l vs.toArray w fun en w'=>en = .returned (.bool true)/\∃ e',R e'/\Heap (e' :: Lf) w'
end
def Ase (l:Nat) (r:Loop):Ent:=.f [l] fun w=>w.heap[l]? = some (.loop r)
def bunS (es:List Ent):Ent:=.f (es.flatMap Ent.blks) fun w=>(∀ e∈es,Ent.ok w e)/\es.Pairwise Ent.sep
theorem Apr {es L:List Ent} {w:World} (hl:∀ e∈es,e.low=0) (h:Heap (es++L) w):Heap (bunS es::L) w:=by
 have hp:=List.pairwise_append.1 h.sep
 have hb:=Aa8 hl h
 refine ⟨fun e he=>?_,?_⟩
 ·rcases List.mem_cons.1 he with rfl | he
  ·obtain ⟨h1,h2,h3⟩:=hb.ok _ List.mem_cons_self
   exact ⟨h1,⟨h2,hp.1⟩,fun w1 w2 h4 h5=>⟨h3 w1 w2 h4.1 h5,h4.2⟩⟩
  ·exact hb.ok e (List.mem_cons_of_mem _ he)
 ·have:=hb.sep
  rw[List.pairwise_cons] at this ⊢
  exact ⟨fun x hx=>this.1 x hx,this.2⟩
theorem Agw {es L:List Ent} {w:World} (hl:∀ e∈es,e.low=0) (h:Heap (bunS es::L) w):Heap (es++L) w:=by
 have hs:=h.sep
 rw[List.pairwise_cons] at hs
 obtain ⟨_,⟨h2,h3⟩,_⟩:=h.ok _ List.mem_cons_self
 refine ⟨fun e he=>?_,List.pairwise_append.2 ⟨h3,hs.2,fun e he x hx=>⟨fun g hg=>?_,fun g hg=>⟨by rw[Ent.low_lo (hl e he)];exact Nat.zero_le _,fun hb=>?_⟩⟩⟩⟩
 ·rcases List.mem_append.1 he with he | he
  ·exact h2 e he
  ·exact h.ok e (List.mem_cons_of_mem _ he)
 ·exact (hs.1 x hx).1 g (List.mem_flatMap.2 ⟨e,he,Ent.own_blks.1 hg⟩)
 ·exact ((hs.1 x hx).2 g hg).2 (List.mem_flatMap.2 ⟨e,he,Ent.own_blks.1 hb⟩)
section
variable {P:Program} {n m:Nat} {ro:Option Nat} {ds:List Deferred} {Q:Exit->Act->World->Prop} {fr:List (Nat × Value)} {L L':List Ent} {N:Act->World->Prop}
theorem Aw9.mk {l:Nat} {r:Loop} {p:Tmp} {v:Value} {a0:Act} {Hs:List Ent} {R:Ent->Prop} (hfr:Fr n fr a0) (hp:r.params = #[p]) (ht:r.tmps=a0.tmps) (hpn:Nat.blt p n=true) (hl:∀ e∈Hs,e.low=0)
  (k:∀ Lf,T n (Dp [] (r.assign.wpIn (FL (some l)) 0 P (Exit.then (fun a1 w1=>∃ w2,(Instr.beginRound l).run P w1 = .ok () w2/\r.body.wpIn (FL (some l)) 0 P (roundPost P l fun en w'=>en = .returned (.bool true)/\∃ e',R e'/\Heap (e' :: Lf) w') a1 w2) (fun _ _ _=>False))))
   ((p,v)::fr) (Ase l r::(Hs++Lf))):Aw9 P l [v] (bunS (Ase l r::Hs)) R:=by
 intro Lf w hw
 have hw':=Agw (By rfl hl) hw
 obtain ⟨_,h2,_⟩:=hw'.ok (Ase l r) (by simp)
 have hy:=run_yield (P:=P) (args:=#[v]) h2 (by rw[hp];rfl)
 refine ⟨_,_,_,_,hy,roundIn_of_wpIn trivial ?_⟩
 rw[hp,ht]
 have hf:Fr n ((p,v)::fr) { tmps:=a0.tmps.setIfInBounds p v,defers:=[] }:=by
  have:=hfr.put (v:=v) hpn
  refine ⟨rfl,this.size,this.val⟩
 have h5:=(k Lf _ w hf hw').2
 have he:(Array.foldl (fun tmps (x:Tmp × Value)=>match x with | (t,a)=>tmps.setIfInBounds t a) a0.tmps (#[p].zip #[v]))=a0.tmps.setIfInBounds p v:=by simp
 rw[he]
 exact h5
end
theorem Pt.up0 {K:List Ent} {b o:Nat} {ys:List Value} (h:Pt K b o ys):Pt (K++[]) b o ys:=by rw[List.append_nil];exact h
theorem Acr {P:Program} {n:Nat} {fr:List (Nat × Value)} {L:List Ent} {dst:Option Tmp} {ty:TypeId} {pos:String} {after:Array Edge} {guard:Option (Nat × Bool)} {f:Nat} {xs:List Operand} {vs:List Value} (hx:evos fr xs=some vs) :
  Ev P n ⟨dst,.makeFunc (.func f) #[] xs.toArray,ty,pos,after,guard⟩ fr L (.func (.func f) #[] vs.toArray):=fun a w ha _=>by
 have:=ha.evals hx
 simp[execOp,this,Instr.makeFunc,Result.andThen]
section
variable {P:Program} {n:Nat} {N:Act->World->Prop} {Q:Exit->Act->World->Prop} {fr:List (Nat × Value)} {L:List Ent}
variable {dst:Option Tmp} {ty:TypeId} {pos:String} {after:Array Edge} {guard:Option (Nat × Bool)}
theorem Aps {t e t':TypeId} {x y:Operand} {A:Option Addr} {m c:Nat} (ht:P.underlying t=some (.slice e)) (hx:evo fr x=some (.slice A m c)) (hy:evo fr y=some (.slice none 0 0)) :
  Ev P n ⟨dst,.binOp .eql t x y t',ty,pos,after,guard⟩ fr L (.bool A.isNone):=fun a w ha _=>by
 simp[execOp,ha.eval hx,ha.eval hy,eqGuard_at_slice,run_eql_slice_nil w t e A m c ht,Result.andThen]
theorem HasN.nc {α:Type} {K:List Ent} {A:Option Addr} {n c sz:Nat} {R:List Ent->α->List Value->Prop} {l:List α} (h:HasN K A n c sz R l):n<=c:=by
 obtain ⟨hl,h1,_⟩:=h;exact h1.nc
theorem HasN.sub {α:Type} {K:List Ent} {A:Option Addr} {m c sz:Nat} {R:List Ent->α->List Value->Prop} {l:List α} (h:HasN K A m c sz R l) {i j:Int} (h1:0<=i) (h2:i<=j) (h3:j<=(m:Int)) :
  HasN K (slA A c i.toNat sz) (j.toNat-i.toNat) (c-i.toNat) sz R (subl l i j):=by
 have hlen:=h.len
 obtain ⟨hl,g1,g2,g3⟩:=h
 refine ⟨subl hl i j,g1.sub h1 h2 h3,by simp[subl];omega,fun q hq hq'=>?_⟩
 have e1:(subl l i j)[q]=l[i.toNat+q]'(by simp[subl] at hq;omega):=by simp[subl]
 have e2:(subl hl i j)[q]=hl[i.toNat+q]'(by simp[subl] at hq';omega):=by simp[subl]
 rw[e1,e2];exact g3 _ _ _
theorem HasN.subL {α:Type} {K:List Ent} {A:Option Addr} {m c sz:Nat} {R:List Ent->α->List Value->Prop} {l:List α} (h:HasN K A m c sz R l) {i:Int} (h1:0<=i) (h2:i<=(m:Int)) :
  HasN K (slA A c i.toNat sz) (m-i.toNat) (c-i.toNat) sz R (subl l i (m:Int)):=h.sub h1 h2 (Int.le_refl _)
theorem HasN.subH {α:Type} {K:List Ent} {A:Option Addr} {m c sz:Nat} {R:List Ent->α->List Value->Prop} {l:List α} (h:HasN K A m c sz R l) {j:Int} (h1:0<=j) (h2:j<=(m:Int)) :
  HasN K A j.toNat c sz R (subl l 0 j):=by
 have hlen:=h.len
 obtain ⟨hl,g1,g2,g3⟩:=h
 refine ⟨subl hl 0 j,g1.subH h1 h2,by simp[subl];omega,fun q hq hq'=>?_⟩
 have e1:(subl l 0 j)[q]=l[q]'(by simp[subl] at hq;omega):=by simp[subl]
 have e2:(subl hl 0 j)[q]=hl[q]'(by simp[subl] at hq';omega):=by simp[subl]
 rw[e1,e2];exact g3 _ _ _
end
section
variable {P:Program} {n:Nat} {N:Act->World->Prop} {Q:Exit->Act->World->Prop} {fr:List (Nat × Value)} {L:List Ent}
variable {dst:Option Tmp} {ty:TypeId} {pos:String} {after:Array Edge} {guard:Option (Nat × Bool)}
theorem Nf.arr {t k m e i} (hu:P.underlying t=some (.array m e)) (hi:P.info? t=some i) (hk:i.size=k):Nf P t k:=by
 refine ⟨fun w=>?_,fun w=>by simp[sizeOf,typeInfo,hi,hk]⟩
 simp[isAgg,run_underlying hu]
def Acs (P:Program) (t:TypeId) (m sz:Nat):Prop:=∃ e,P.underlying t=some (.array m e)/\∀ w,(sizeOf e).run P w = .ok sz w
theorem Acs.mk {t m e sz i} (hu:P.underlying t=some (.array m e)) (hi:P.info? e=some i) (hk:i.size=sz):Acs P t m sz :=
 ⟨e,hu,fun w=>by simp[sizeOf,typeInfo,hi,hk]⟩
theorem Db {t x ix g o k m sz} {z:Int} (hx:evo fr x=some (.pointer (some ⟨g,o,none⟩))) (hi:evo fr ix=some (.int k z)) (ht:Acs P t m sz) (h0:0<=z) (h1:z < (m:Int)) {off:Nat} (ho:z.toNat*sz=off) :
  Ev P n ⟨dst,.indexAddr t x ix,ty,pos,after,guard⟩ fr L (.pointer (some ⟨g,o+off,none⟩)):=fun a w ha _=>by
 obtain ⟨e,hu,hs⟩:=ht
 subst ho
 simp[execOp,ha.eval hx,ha.eval hi,Instr.indexAt,asIntOf,run_underlying hu,Instr.sureAddr,h0,h1,hs,Addr.add_lit]
def Ah8 (P:Program) (t:TypeId) (xs ys:List Value):Prop:=∀ (j:Nat) (h:j < ys.length) (k:IntKind) (w:World),(Instr.index t (.agg xs.toArray) (.int k (j:Int))).run P w = .ok ys[j] w
theorem Alt {α:Type} {f:α->Value} {t:TypeId} {x i:Operand} {k:IntKind} {xs zs:List Value} {ys:List α} {z:Int} {v:α}
  (hx:evo fr x=some (.agg xs.toArray)) (hzs:zs=ys.map f) (hi:evo fr i=some (.int k z)) (hV:Ah8 P t xs zs) (hz:idx ys z=some v) {v':Value} (hv:f v=v'):Ev P n ⟨dst,.index t x i,ty,pos,after,guard⟩ fr L v':=fun a w ha _=>by
 subst hzs;subst hv
 unfold idx at hz
 split at hz
 ·rename_i h0
  obtain ⟨hlt,he⟩:=List.getElem?_eq_some_iff.1 hz
  have:=hV z.toNat (by simpa using hlt) k w
  rw[Int.toNat_of_nonneg h0] at this
  simp only[execOp,ha.eval hx,ha.eval hi,this,Sem.run_bind,Result.andThen,List.getElem_map,he]
  rfl
 ·cases hz
theorem Adp {α:Type} {l:List α} {i:Int} {x:α} (h:idx l i=some x):0<=i/\i < (l.length:Int):=by
 obtain ⟨j,hj,rfl,_⟩:=Abj h
 omega
theorem Ave {α:Type} {enc:α->List Value} {ys:List α} {w:World} {g t o sz:Nat} {cs post:List Value} {z:Int} {v:α} (hw:Ent.ok w (.m g t cs)) (hz:idx ys z=some v) (hc:cs.drop o=ys.flatMap enc++post)
  (he:∀ x,(enc x).length=sz) (j:Nat) (u:Value) (hu:(enc v)[j]? = some u):w.cell? ⟨g,o+z.toNat*sz+j,none⟩=some u:=by
 obtain ⟨q,hq,rfl,rfl⟩:=Abj hz
 rw[Sf hw]
 have h1:=Wc ys q hq (fun x _=>he x) j u hu
 have h2:(cs.drop o)[q*sz+j]? = some u:=by
  rw[hc,List.getElem?_append_left]
  ·exact h1
  ·exact (List.getElem?_eq_some_iff.1 h1).1
 rw[List.getElem?_drop] at h2
 rw[show o+(q:Int).toNat*sz+j=o+(q*sz+j) by simp[Nat.add_assoc]]
 exact h2
theorem Asf {α:Type} (enc:α->List Value) {ys:List α} {x g o i t cs post ty'} {z:Int} {v:α} {u:Value} (hx:evo fr x=some (.pointer (some ⟨g,o+z.toNat*1,none⟩))) (hi:nthE L i=some (.m g t cs)) (hz:idx ys z=some v)
  (hc:cs.drop o=ys.flatMap enc++post) (he:∀ x,(enc x).length=1) (hu:enc v=[u]) (ht:Qe P ty'):Ev P n ⟨dst,.load ty' x,ty,pos,after,guard⟩ fr L u:=fun a w ha hw=>by
 have h:=Ave (g:=g) (t:=t) (hw _ (Eu hi)) hz hc he 0 u (by rw[hu];rfl)
 simp only[Nat.add_zero] at h
 rw[Nat.mul_one] at h hx
 simp[execOp,ha.eval hx,Instr.loadAt,Instr.sureAddr,Ts ht _ u h]
end
section
variable {P:Program}
inductive EqI (P:Program) (d:Nat) (e:TypeId) (c:Nat) (xs ys:Array Value):List Nat->Bool->Prop
 | nil:EqI P d e c xs ys [] true
 | cons {i is a b r r'} (hx:∀ w,(part e xs (i*c)).run P w = .ok a w) (hy:∀ w,(part e ys (i*c)).run P w = .ok b w)
   (he:∀ w,(Op.equalIn d e a b).run P w = .ok r w) (h:EqI P d e c xs ys is r'):EqI P d e c xs ys (i::is) (r && r')
theorem EqI.run {d e c xs ys is r} (h:EqI P d e c xs ys is r):∀ w,(Op.eqItems d e c xs ys is).run P w = .ok r w:=by
 induction h with
 | nil=>intro w;simp[Op.eqItems]
 | cons hx hy he _ ih=>
  intro w
  rename_i i is a b r r' _
  simp only[Op.eqItems,Sem.run_bind,hx,hy,he,Result.andThen_ok]
  cases r with
  | true=>simp[ih w]
  | false=>simp
theorem EqI.array {d t e m c xs ys r i} (hu:P.underlying t=some (.array m e)) (hi:P.info? e=some i) (hc:P.cellsOf e=c) (h:EqI P d e c xs ys (List.range m) r):∀ w,(Op.equalIn (d+1) t (.agg xs) (.agg ys)).run P w = .ok r w:=by
 intro w
 subst hc
 rw[run_equalIn_array w d xs ys hu hi]
 exact h.run w
theorem Apt {k:TypeId} {m e d:Nat} {q:IntKind} {zs:List Int} (hd:P.types.size=d+1) (hu:P.underlying k=some (.array m e)) (hk:P.keyType k=true) (hc:zs.length=m) (he:P.underlying e=some (.int q)) (h1:P.cellsOf e=1) (hm:P.cellsOf k=m)
  (hf:∀ z∈zs,(Lit.int q z).wf=true):(keyOf P k (.agg (zs.map (Value.int q)).toArray)).isSome=true:=by
 unfold keyOf
 rw[hu]
 have hfm:(Value.agg (zs.map (Value.int q)).toArray).formed P k=true:=by simp[Value.formed,hu,hm,hc]
 simp only[hk,hfm,Bool.and_self,if_true,Option.isSome_map]
 have hcl:(Value.agg (zs.map (Value.int q)).toArray).cells.toList=zs.map (Value.int q):=by simp[Value.cells]
 rw[hcl,hd]
 unfold Program.keyLits
 simp only[hu]
 rw[if_pos (by simp[hm,hc]),Option.isSome_map]
 refine Xp _ fun i hi=>?_
 rw[List.mem_range] at hi
 rw[h1,Nat.mul_one]
 have hlt:i < zs.length:=by omega
 have:((zs.map (Value.int q)).drop i).take 1=[.int q zs[i]]:=by
  rw[List.drop_eq_getElem_cons (by simpa using hlt)]
  simp
 rw[this]
 unfold Program.keyLits
 simp[he,hf zs[i] (List.getElem_mem hlt)]
end
end Go.Proofs.YtjfndjmabhbicaaGreat
