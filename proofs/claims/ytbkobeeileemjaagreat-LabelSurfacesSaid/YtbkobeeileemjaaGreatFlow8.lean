/- Steps that follow a plain function: rows of structs made, copies. -/
import Derived.Test.YtbkobeeileemjaaGreatFlow2
import Derived.Laws.BytesArg
import Derived.Laws.Strings
import Derived.Maps.OwnSet
import Derived.Maps.Views
import Derived.DeepKeys4
namespace Go.Proofs.YtbkobeeileemjaaGreat
open Go Go.RowKit
def cpy {α:Type} (l:List α) (p:Nat) (ys:List α):List α:=l.take p++ys.take (l.length-p)++l.drop (p+ys.length)
theorem Ca {α:Type} {l:List α} {p:Nat} {ys:List α} (h:p≤l.length):(cpy l p ys).length=l.length:=by
 simp only [cpy,List.length_append,List.length_take,List.length_drop];omega
theorem Anz {α:Type} {enc:α→List Value} {sz:Nat} (hz:0 < sz) (he:∀ x,(enc x).length=sz) (l:List α) (j:Nat) (u:Value) (hj:(l.flatMap enc)[j]? = some u):∃ h:j / sz < l.length,(enc l[j / sz])[j % sz]? = some u:=by
 have hjl:j < (l.flatMap enc).length:=(List.getElem?_eq_some_iff.1 hj).1
 rw [Kp he l] at hjl
 have hdm:j=j / sz*sz+j % sz:=by have:=Nat.div_add_mod j sz;rw [Nat.mul_comm] at this;omega
 have hq:j / sz < l.length:=(Nat.div_lt_iff_lt_mul hz).2 hjl
 have hmod:=Nat.mod_lt j hz
 refine ⟨hq,?_⟩
 obtain ⟨u',hu'⟩:∃ u',(enc l[j / sz])[j % sz]? = some u':=⟨_,List.getElem?_eq_getElem (by rw [he l[j / sz]];exact hmod)⟩
 have hf:=Vt l (j / sz) hq (fun x _=>he x) (j % sz) u' hu'
 rw [← hdm,hj] at hf
 injection hf with hf
 subst hf;exact hu'
section
variable {P:Program} {n:Nat} {N:Act→World→Prop} {Q:Exit→Act→World→Prop} {fr:List (Nat × Value)} {L:List Ent}
theorem Aea {α:Type} {enc:α→List Value} {sz:Nat} {z:Array Value} (x0:α) (hz:0 < sz) (he:∀ x,(enc x).length=sz) (h0:enc x0=z.toList) (m:Nat):madeCells z (m*sz)=((List.replicate m x0).flatMap enc).toArray:=by
 have hzs:z.size=sz:=by rw [← he x0,h0];simp
 apply Array.ext
 ·rw [size_madeCells];simp only [List.size_toArray];rw [Kp he,List.length_replicate]
 ·intro i h1 h2
  have h2':i < ((List.replicate m x0).flatMap enc).length:=by simpa using h2
  obtain ⟨v,hv⟩:∃ v,((List.replicate m x0).flatMap enc)[i]? = some v:=⟨_,List.getElem?_eq_getElem h2'⟩
  obtain ⟨hq,hu⟩:=Anz hz he _ i _ hv
  have hx:(List.replicate m x0)[i / sz]=x0:=List.getElem_replicate _
  rw [hx,h0] at hu
  have hmod:i % sz < z.size:=by rw [hzs];exact Nat.mod_lt _ hz
  rw [Array.getElem?_toList,Array.getElem?_eq_getElem hmod] at hu
  injection hu with hu
  have hv':((List.replicate m x0).flatMap enc).toArray[i]=v:=by
   rw [List.getElem_toArray]
   exact (List.getElem?_eq_some_iff.1 hv).2
  rw [hv',← hu]
  simp only [madeCells,Array.getElem_map,Array.getElem_range,hzs]
  exact getElem!_pos z (i % sz) hmod
end
end Go.Proofs.YtbkobeeileemjaaGreat
/- Calls that write what a pointer leads to. -/
namespace Go.Proofs.YtbkobeeileemjaaGreat
open Go Go.RowKit
theorem SubE.appC {K E L:List Ent} (h:SubE K L) (h':SubE E L):SubE (K++E) L:=⟨fun w hw x hx=>by
 rcases List.mem_append.1 hx with hx | hx
 ·exact h.ok w hw _ hx
 ·exact h'.ok w hw _ hx⟩
/-- A function that may write the entries Lp, and reads those of K, which lie elsewhere. -/
def CtK (P:Program) (f:FuncId) (vs:List Value) (K Lp:List Ent) (R:Value→List Ent→Prop):Prop :=
 Sy P f∧∀ Lf w,SubE K Lf→Heap (Lp++Lf) w→Calls P f vs.toArray w fun e w'=>∃ v Ln,e = .returned v∧R v Ln∧Heap (Ln++Lf) w'
section
variable {P:Program} {n:Nat} {N:Act→World→Prop} {Q:Exit→Act→World→Prop} {fr:List (Nat × Value)} {L:List Ent}
theorem CtK.mk {f : FuncId} {fn : Func} {c : Code} {vs : List Value} {K Lp : List Ent} {R : Value → List Ent → Prop} (m : Nat) (hf : P.funcs[f]? = some fn) (hb : fn.body = some c) (hm : fn.ntmps = m) (hn : (fn.name == "runtime.NumGoroutine") = false)
  (hl:Nat.ble vs.length m=true) (k:∀ Lf,SubE K Lf→T m (c.wp P (bodyPost P fn fun e w'=>∃ v Ln,e = .returned v∧R v Ln∧Heap (Ln++Lf) w')) (Vr vs 0) (Lp++Lf)):CtK P f vs K Lp R:=by
 refine ⟨⟨fn,hf,hn,by rw [hb];rfl⟩,fun Lf w hK hw=>calls_of_wp hf hb ?_⟩
 rw [hm]
 exact k Lf hK _ w (Adk vs m (Nat.le_of_ble_eq_true hl)) hw
theorem Je {d:Nat} {pos:String} {after:Array Edge} {guard:Option (Nat × Bool)} {f:FuncId} {xs:List Operand} {vs:List Value} {ts:Array TypeId} {ty':TypeId} {K Lp Lf:List Ent} {R:Value→List Ent→Prop} (hx:evos fr xs=some vs) (hp:Nf L (Lp++Lf)) (hsub:SubE K Lf) (hc:CtK P f vs K Lp R) (hd:Nat.blt d n=true)
  (k:∀ v Ln,R v Ln→T n N ((d,v)::fr) (Ln++Lf)):Wh P Q n ⟨some d,.call ⟨.value (.func f),xs.toArray,ts⟩,ty',pos,after,guard⟩ fr L N:=by
 intro a w ha hw
 simp only [Oper.wp,Aa4 hc.1 ha hx,Oper.upon_enter]
 refine (hc.2 Lf w hsub (hw.pick hp)).mono ?_
 rintro e w' ⟨v,Ln,rfl,hR,hh⟩
 exact k v Ln hR _ _ (ha.put hd) hh
theorem Zv {fn:Func} {R:Value→List Ent→Prop} {Lf:List Ent} {rs vs} {Ln:List Ent} (hr:fn.results=rs.toArray) (h:Res P fr L rs vs) (hR:R (Uj vs) Ln) (hs:Nf L (Ln++Lf)) :
  T n (bodyPost P fn (fun e w'=>∃ v Ln,e = .returned v∧R v Ln∧Heap (Ln++Lf) w') .ret) fr L :=
 Arn hr h fun _ hw=>⟨_,Ln,rfl,hR,hw.pick hs⟩
theorem Aeb {fn:Func} {R:Value→List Ent→Prop} {Lf:List Ent} {rs vs} {Ln:List Ent} (hr:fn.results=rs.toArray) (h:Res P fr L rs vs) (hR:R (Uj vs) Ln) (hs:Nf L (Ln++Lf)) :
  T n (bodyPost P fn (fun e w'=>∃ v Ln,e = .returned v∧R v Ln∧Heap (Ln++Lf) w') .normal) fr L :=
 Ati hr h fun _ hw=>⟨_,Ln,rfl,hR,hw.pick hs⟩
theorem Ah5 {x a} {dst:Option Tmp} {ty:TypeId} {pos:String} {after:Array Edge} {guard:Option (Nat × Bool)} (hx:evo fr x=some (.pointer (some a))):Ev P n ⟨dst,.nilCheck x,ty,pos,after,guard⟩ fr L (.pointer (some a)):=fun ac w ha _=>by
 simp [execOp,ha.eval hx]
end
end Go.Proofs.YtbkobeeileemjaaGreat
/- Several entries as one. -/
namespace Go.Proofs.YtbkobeeileemjaaGreat
open Go Go.RowKit
def Ent.blks:Ent→List Nat
 | .old _=>[]
 | .m g _ _=>[g]
 | .r (some a) _ _ _ _ _=>[a.block]
 | .r none _ _ _ _ _=>[]
 | .f S _=>S
theorem Ent.own_blks {e:Ent} {g:Nat}:e.own g↔g∈e.blks:=by
 cases e with
 | old w=>simp [Ent.own,Ent.blks]
 | m g' t cs=>simp [Ent.own,Ent.blks,eq_comm]
 | r A n c t sz xs=>cases A <;> simp [Ent.own,Ent.blks,eq_comm]
 | f S φ=>simp [Ent.own,Ent.blks]
def bun (es:List Ent):Ent:=.f (es.flatMap Ent.blks) (fun w=>∀ e∈es,Ent.ok w e)
/-- What an entry says depends on its blocks alone. -/
theorem Ent.ok_blks {e:Ent} (hl:e.low=0) {w w':World} (h:Ent.ok w e) (hb:∀ g∈e.blks,w'.heap[g]? = w.heap[g]?):Ent.ok w' e:=by
 have hsz:∀ g,g < w.heap.size→g∈e.blks→g < w'.heap.size:=fun g hg hm=>by
  have h1:=hb g hm
  rw [Array.getElem?_eq_getElem hg] at h1
  exact Ef h1
 cases e with
 | old w0=>simp [Ent.low] at hl
 | m g t cs=>exact (hb g (by simp [Ent.blks])).trans h
 | r A n c t sz xs =>
  obtain ⟨h1,h2⟩:=h
  refine ⟨h1,?_⟩
  rcases h2 with h2 | ⟨g,cap,cur,hv,hb',hh,rest⟩
  ·exact .inl h2
  ·refine .inr ⟨g,cap,cur,hv,hb',?_,rest⟩
   refine (hb g ?_).trans hh
   rw [← Ent.own_blks,Ent.own_r,hv];rfl
 | f S φ =>
  obtain ⟨h1,h2,h3⟩:=h
  exact ⟨fun g hg=>hsz g (h1 g hg) hg,h3 w w' h2 hb,h3⟩
theorem Ar8 {es:List Ent} (hl:∀ e∈es,e.low=0) {w:World} (h:∀ e∈es,Ent.ok w e):Ent.ok w (bun es):=by
 refine ⟨fun g hg=>?_,h,fun w1 w2 h1 hb e he=>Ent.ok_blks (hl e he) (h1 e he) (fun g hg=>hb g (List.mem_flatMap.2 ⟨e,he,hg⟩))⟩
 obtain ⟨e,he,hg⟩:=List.mem_flatMap.1 hg
 exact Ent.lt (h e he) (Ent.own_blks.2 hg)
theorem Ap8 {es:List Ent} {w:World} (h:Ent.ok w (bun es)):∀ e∈es,Ent.ok w e:=h.2.1
theorem Akw {es L:List Ent} {w:World} (hl:∀ e∈es,e.low=0) (h:Heap (es++L) w):Heap (bun es::L) w:=by
 have hp:=List.pairwise_append.1 h.sep
 refine ⟨fun e he=>?_,?_⟩
 ·rcases List.mem_cons.1 he with rfl | he
  ·exact Ar8 hl (fun e he=>h.ok e (List.mem_append_left _ he))
  ·exact h.ok e (List.mem_append_right _ he)
 ·rw [List.pairwise_cons]
  refine ⟨fun x hx=>⟨fun g hg=>?_,fun g hg=>⟨Nat.zero_le _,fun hb=>?_⟩⟩,hp.2.1⟩
  ·obtain ⟨e,he,hg⟩:=List.mem_flatMap.1 (show g∈es.flatMap Ent.blks from hg)
   exact (hp.2.2 e he x hx).1 g (Ent.own_blks.2 hg)
  ·obtain ⟨e,he,hb⟩:=List.mem_flatMap.1 (show g∈es.flatMap Ent.blks from hb)
   exact ((hp.2.2 e he x hx).2 g hg).2 (Ent.own_blks.2 hb)
theorem SubE.consB {K L es:List Ent} {e:Ent} {i j:Nat} (h:nthE L i=some (bun es)) (hj:nthE es j=some e) (h':SubE K L):SubE (e::K) L:=⟨fun w hw x hx=>by
 rcases List.mem_cons.1 hx with rfl | hx
 ·exact Ap8 (hw _ (Kd h)) _ (Kd hj)
 ·exact h'.ok w hw _ hx⟩
theorem Ut {n:Nat} {N:Act→World→Prop} {fr:List (Nat × Value)} {L Lr es:List Ent} (hp:Nf L (es++Lr)) (hl:∀ e∈es,e.low=0) (k:T n N fr (bun es::Lr)):T n N fr L :=
 fun a w ha hw=>k a w ha (Akw hl (hw.pick hp))
end Go.Proofs.YtbkobeeileemjaaGreat
/- Rows whose elements hold slices. -/
namespace Go.Proofs.YtbkobeeileemjaaGreat
open Go Go.RowKit
/-- The cells of an element. -/
abbrev Vec (sz:Nat):Type:={v:List Value // v.length=sz}
/-- What the elements of a row hold. -/
def RowN {α:Type} {sz:Nat} (K:List Ent) (R:List Ent→α→List Value→Prop) (hs:List (Vec sz)) (l:List α):Prop :=
 hs.length=l.length∧∀ (i:Nat) (h:i < l.length) (h':i < hs.length),R K l[i] hs[i].1
theorem RowN.nil {α:Type} {sz:Nat} {K:List Ent} {R:List Ent→α→List Value→Prop}:RowN (sz:=sz) K R [] ([]:List α):=⟨rfl,fun i h=>absurd h (by simp)⟩
theorem RowN.len {α:Type} {sz:Nat} {K:List Ent} {R:List Ent→α→List Value→Prop} {hs:List (Vec sz)} {l:List α} (h:RowN K R hs l):hs.length=l.length:=h.1
theorem RowN.up {α:Type} {sz:Nat} {K L:List Ent} {R:List Ent→α→List Value→Prop} {hs:List (Vec sz)} {l:List α} (hm:∀ {K L:List Ent} {x:α} {ys:List Value},SubE K L→R K x ys→R L x ys) (h:RowN K R hs l) (hK:SubE K L):RowN L R hs l :=
 ⟨h.1,fun i a b=>hm hK (h.2 i a b)⟩
section
variable {n:Nat} {N:Act→World→Prop} {fr:List (Nat × Value)} {L:List Ent}
end
end Go.Proofs.YtbkobeeileemjaaGreat
/- Maps of the call's own, as lists of what was put (the latest first); values of arrays at an index. -/
namespace Go.Proofs.YtbkobeeileemjaaGreat
open Go Go.RowKit
open Go.Maps (Keyed)
/-! ### an array's value at an index -/
def An0 (P:Program) (t:TypeId) (xs:List Value):Prop:=∀ (j:Nat) (h:j < xs.length) (k:IntKind) (w:World),(Instr.index t (.agg xs.toArray) (.int k (j:Int))).run P w = .ok xs[j] w
theorem Amg {P:Program} {n:Nat} {fr:List (Nat × Value)} {L:List Ent} {dst:Option Tmp} {ty:TypeId} {pos:String} {after:Array Edge} {guard:Option (Nat × Bool)} {t:TypeId} {x i:Operand} {kd k:IntKind} {xs:List Value} {ys:List Int} {z v:Int}
  (hx:evo fr x=some (.agg xs.toArray)) (hxs:xs=ys.map (Value.int kd)) (hi:evo fr i=some (.int k z)) (hV:An0 P t xs) (hz:idx ys z=some v):Ev P n ⟨dst,.index t x i,ty,pos,after,guard⟩ fr L (.int kd v):=fun a w ha _=>by
 subst hxs
 unfold idx at hz
 split at hz
 ·rename_i h0
  obtain ⟨hlt,he⟩:=List.getElem?_eq_some_iff.1 hz
  have:=hV z.toNat (by simpa using hlt) k w
  rw [Int.toNat_of_nonneg h0] at this
  simp only [execOp,ha.eval hx,ha.eval hi,this,Sem.run_bind,Result.andThen,List.getElem_map,he]
  rfl
 ·cases hz
/-! ### maps -/
/-- A value, read as itself. -/
def RV (v:Value):Option (DataW Value × List MemPlace):=some (.held v,[])
noncomputable def klOf (P:Program) (k:TypeId) (v:Value):Lit:=(keyOf P k v).getD (.bool true)
theorem It {P:Program} {k:TypeId} {v:Value} (h:(keyOf P k v).isSome=true):keyOf P k v=some (klOf P k v):=by
 unfold klOf
 cases hk:keyOf P k v with
 | none=>rw [hk] at h;cases h
 | some l=>rfl
section
variable {κ υ:Type}
noncomputable def mapD (P:Program) (k:TypeId) (ke:κ→Value) (ve:υ→Value):List (κ × υ)→DataW Value
 | []=>.map []
 | p::r=>(mapD P k ke ve r).put (klOf P k (ke p.1)) (.held (ve p.2))
open Classical in
/-- What a map holds at a key. -/
noncomputable def mget (m:List (κ × υ)) (x:κ):Option υ:=match m with
 | []=>none
 | p::r=>if p.1=x then some p.2 else mget r x
theorem Ah6 {x:κ}:mget ([]:List (κ × υ)) x=none:=rfl
open Classical in
theorem Qu {p:κ × υ} {r:List (κ × υ)} {x:κ}:mget (p::r) x=if p.1=x then some p.2 else mget r x:=rfl
def mval (ve:υ→Value) (z:Value):Option υ→Value
 | some v=>ve v
 | none=>z
/-- The block b holds a map in which the pairs m have been put. -/
def An1 (P:Program) (k:TypeId) (ke:κ→Value) (ve:υ→Value) (b:Nat) (m:List (κ × υ)) (w:World):Prop :=
 (∀ p∈m,(keyOf P k (ke p.1)).isSome=true)∧w.ownsMap P k RV b m.length (mapD P k ke ve m)
variable {P:Program} {k:TypeId} {ke:κ→Value} {ve:υ→Value} {b:Nat} {m:List (κ × υ)}
theorem An1.still {w w':World} (h:An1 P k ke ve b m w) (hb:w'.heap[b]? = w.heap[b]?):An1 P k ke ve b m w':=by
 obtain ⟨h1,es,clock,h2,h3⟩:=h
 exact ⟨h1,es,clock,by rw [hb];exact h2,h3⟩
theorem Zw:∀ {m:List (κ × υ)},Maps.IsMap (mapD P k ke ve m)
 | []=>⟨_,rfl⟩
 | p::r=>by
  obtain ⟨es,h⟩:=Zw (m:=r)
  unfold mapD
  rw [h]
  exact ⟨_,rfl⟩
theorem Af4 (K:Keyed P k) (hke:∀ x y,ke x=ke y→x=y) {x:κ} (hx:(keyOf P k (ke x)).isSome=true) (z:Value) :
  ∀ {m:List (κ × υ)},(∀ p∈m,(keyOf P k (ke p.1)).isSome=true)→(mapD P k ke ve m).atKey (klOf P k (ke x)) (.held z) = .held (mval ve z (mget m x))∧Maps.has (mapD P k ke ve m) (klOf P k (ke x))=(mget m x).isSome
 | [],_=>⟨rfl,rfl⟩
 | p::r,h=>by
  have ih:=Af4 K hke hx z (m:=r) (fun q hq=>h q (List.mem_cons_of_mem _ hq))
  have hp:=It (h p List.mem_cons_self)
  have hxs:=It hx
  unfold mapD
  by_cases he:p.1=x
  ·rw [Qu,if_pos he,he]
   exact ⟨Maps.atKey_put_same Zw (K.key hxs) _ _,Maps.has_put_same Zw (K.key hxs) _⟩
  ·have hne:klOf P k (ke x)≠klOf P k (ke p.1):=fun e=>he (hke _ _ (K.inj hp (by rw [hxs,e])))
   rw [Qu,if_neg he,Maps.atKey_put_other hne,Maps.has_put_other hne]
   exact ih
section
variable {n:Nat} {fr:List (Nat × Value)} {L:List Ent} {N:Act→World→Prop} {Q:Exit→Act→World→Prop} {d:Nat} {dst:Option Tmp} {ty:TypeId} {pos:String} {after:Array Edge} {guard:Option (Nat × Bool)}
theorem Aa8 {L:List Ent} {i:Nat} {e:Ent} (h:nthE L i=some e):e∈L:=by
 induction L generalizing i with
 | nil=>simp [nthE] at h
 | cons x r ih =>
  cases i with
  | zero=>simp [nthE] at h;subst h;exact List.mem_cons_self
  | succ i=>exact List.mem_cons_of_mem _ (ih h)
theorem Af5 {o:Option υ} {z0 u:υ} (h:some (o.getD z0)=some u):mval ve (ve z0) o=ve u:=by
 obtain rfl:=Option.some.inj h
 cases o <;> rfl
end
end
theorem Ar9 {P:Program} {k:TypeId} {q:IntKind} (hk:P.underlying k=some (.int q)) {a:Int} (hw:(Lit.int q a).wf=true):(keyOf P k (.int q a)).isSome=true:=by rw [Maps.keyOf_int_mk hk hw];rfl
theorem Aec {z:Int} (h:-9223372036854775808≤z∧z≤9223372036854775807):(Lit.int .i64 z).wf=true:=by
 have h1:IntKind.i64.min = -9223372036854775808:=rfl
 have h2:IntKind.i64.max=9223372036854775807:=rfl
 simp only [Lit.wf,Bool.and_eq_true,decide_eq_true_eq]
 omega
theorem Xk {α β:Type} {g:α→Option β}:∀ (l:List α),(∀ x∈l,(g x).isSome=true)→(l.mapM g).isSome=true
 | [],_=>rfl
 | x::r,h=>by
  have h1:=h x List.mem_cons_self
  have ih:=Xk r (fun y hy=>h y (List.mem_cons_of_mem _ hy))
  rw [List.mapM_cons]
  cases hx:g x with
  | none=>rw [hx] at h1;cases h1
  | some y =>
   cases hr:r.mapM g with
   | none=>rw [hr] at ih;cases ih
   | some ys=>rfl
/-- A struct of integers is a key. -/
theorem Ajl {P : Program} {k : TypeId} {fs : Array Field} {cs : List Value} {d : Nat} (hd : P.types.size = d + 1) (hu : P.underlying k = some (.struct fs)) (hk : P.keyType k = true) (hc : cs.length = P.cellsOf k) (hn : fs.all (·.name != "_") = true)
  (hf:∀ f∈fs.toList,∃ q n,P.underlying f.type=some (.int q)∧(cs.drop f.offset).take (P.cellsOf f.type)=[.int q n]∧(Lit.int q n).wf=true):(keyOf P k (.agg cs.toArray)).isSome=true:=by
 unfold keyOf
 rw [hu]
 have hfm:(Value.agg cs.toArray).formed P k=true:=by simp [Value.formed,hu,hc]
 simp only [hk,hfm,Bool.and_self,if_true,Option.isSome_map]
 have hcl:(Value.agg cs.toArray).cells.toList=cs:=by simp [Value.cells]
 rw [hcl,hd]
 unfold Program.keyLits
 simp only [hu]
 rw [if_pos ⟨hc,hn⟩,Option.isSome_map]
 refine Xk _ fun f hfm=>?_
 obtain ⟨q,n,h1,h2,h3⟩:=hf f hfm
 rw [h2]
 unfold Program.keyLits
 simp [h1,h3]
end Go.Proofs.YtbkobeeileemjaaGreat
