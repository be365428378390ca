/- Operations that make or write memory, calls, and how a function is entered and left, in the judgement T. -/
import Derived.Test.YtjfndjmabhbicaaGreatOps
namespace Go.Proofs.YtjfndjmabhbicaaGreat
open Go Go.RowKit

def Wx (P:Program) (Q:Exit->Act->World->Prop) (n:Nat) (o:Oper) (fr:List (Nat × Value)) (L:List Ent) (N:Act->World->Prop):Prop :=
 ∀ a w,Fr n fr a->Heap L w->o.wp P a w (fun a' w'=>Ext w w'/\N a' w') Q
def Wh (P:Program) (Q:Exit->Act->World->Prop) (n:Nat) (o:Oper) (fr:List (Nat × Value)) (L:List Ent) (N:Act->World->Prop):Prop :=
 ∀ a w,Fr n fr a->Heap L w->o.wp P a w N Q

section
variable {P:Program} {n:Nat} {ops:Array Oper} {Q:Exit->Act->World->Prop} {fr:List (Nat × Value)} {L:List Ent} {rest:List Oper} {N:Act->World->Prop}
variable {dst:Option Tmp} {d:Nat} {op:Op} {ty:TypeId} {pos:String} {after:Array Edge} {guard:Option (Nat × Bool)}

theorem T_x (h:Wx P Q n ⟨dst,op,ty,pos,after,none⟩ fr L (wpList P ops Q rest)):T n (wpList P ops Q (⟨dst,op,ty,pos,after,none⟩ :: rest)) fr L:=by
 intro a w ha hw
 refine wpList_plain rfl (fun K hK=>?_)
 exact Oper.wp_mono (fun a' w' h=>hK a' w' h.2) (h a w ha hw)
theorem T_h (h:Wh P Q n ⟨dst,op,ty,pos,after,none⟩ fr L (wpList P ops Q rest)):T n (wpList P ops Q (⟨dst,op,ty,pos,after,none⟩ :: rest)) fr L:=by
 intro a w ha hw
 refine wpList_plain rfl (fun K hK=>?_)
 exact Oper.wp_mono (fun a' w' h=>hK a' w' h) (h a w ha hw)
theorem T_xG {j s:Nat} {b:Bool} (hj:(ops[j]?).bind (·.dst)=some s) (hs:look fr s=some (.bool b)) (hsn:Nat.blt s n=true)
  (h:Wx P Q n ⟨dst,op,ty,pos,after,some (j,b)⟩ fr L (wpList P ops Q rest)):T n (wpList P ops Q (⟨dst,op,ty,pos,after,some (j,b)⟩ :: rest)) fr L:=by
 intro a w ha hw
 refine wpList_step (fun K hK=>?_)
 have hwn:Region.wanted ⟨dst,op,ty,pos,after,some (j,b)⟩ (yielded ops a.tmps)=true:=by
  have:=Ri (d:=0) (op:=op) (ty:=ty) (pos:=pos) (after:=after) (b:=b) hj ha hs hsn
  simpa[Region.wanted] using this
 rw[if_pos hwn]
 exact Oper.wp_mono (fun a' w' h=>hK a' w' h.2) (h a w ha hw)

theorem Sq (w:World) (o:Obj):Ext w (w.alloc o):=⟨(Below.refl _ _).alloc (Nat.le_refl _) _,Nat.le_refl _⟩

theorem Alm {v:Nat->Value} {t:TypeId} {cs:List Value}
  (hrun:∀ a w,Fr n fr a->Heap L w->(execOp a.eval ⟨some d,op,ty,pos,after,guard⟩).run P w = .ok (.value (v w.heap.size)) (w.alloc (.cells cs.toArray t)))
  (hd:Nat.blt d n=true) (k:∀ g,T n N ((d,v g)::fr) (.m g t cs::L)):Wx P Q n ⟨some d,op,ty,pos,after,guard⟩ fr L N:=by
 intro a w ha hw
 simp only[Oper.wp,hrun a w ha hw,Oper.upon_value]
 exact ⟨Sq w _,k _ _ _ (ha.put hd) (hw.alloc t cs)⟩

theorem Ui {t x v} {cs:List Value} (hx:evo fr x=some v) (hc:v.cells=cs.toArray) (hd:Nat.blt d n=true)
  (k:∀ g,T n N ((d,.pointer (some ⟨g,0,none⟩))::fr) (.m g t cs::L)):Wx P Q n ⟨some d,.box t x,ty,pos,after,guard⟩ fr L N :=
 Alm (v:=fun g=>.pointer (some ⟨g,0,none⟩)) (fun a w ha _=>by simp[execOp,ha.eval hx,Instr.box,newVar,newRow,hc]) hd k
def Md (P:Program) (t:TypeId) (cs:List Value):Prop:=∃ z,(∀ w,(zeroValue t).run P w = .ok z w)/\z.cells=cs.toArray
theorem Kz {t} {cs:List Value} (hz:Md P t cs) (hd:Nat.blt d n=true)
  (k:∀ g,T n N ((d,.pointer (some ⟨g,0,none⟩))::fr) (.m g t cs::L)):Wx P Q n ⟨some d,.alloc t,ty,pos,after,guard⟩ fr L N:=by
 obtain ⟨z,h1,h2⟩:=hz
 exact Alm (v:=fun g=>.pointer (some ⟨g,0,none⟩)) (fun a w _ _=>by simp[execOp,Instr.alloc,h1,newVar,newRow,h2]) hd k
def De (P:Program) (t:TypeId) (len:Nat) (ps:List (Nat × Value)) (e:TypeId) (cs:List Value):Prop :=
 ∀ w,(Instr.buildSlice t len ps.toArray).run P w = .ok (.slice (some ⟨w.heap.size,0,none⟩) len len) (w.alloc (.cells cs.toArray e))
theorem Di {t len xs ps e} {cs:List Value} (hx:evps fr xs=some ps) (hb:De P t len ps e cs) (hd:Nat.blt d n=true)
  (k:∀ g,T n N ((d,.slice (some ⟨g,0,none⟩) len len)::fr) (.m g e cs::L)):Wx P Q n ⟨some d,.buildSlice t len xs.toArray,ty,pos,after,guard⟩ fr L N :=
 Alm (v:=fun g=>.slice (some ⟨g,0,none⟩) len len) (fun a w ha _=>by
  have:=ha.evalps hx
  simp[execOp,this,hb w]) hd k

theorem Heap.allocR {w:World} (h:Heap L w) (t:TypeId) (sz m:Nat) (cs:List Value) (hl:cs.length=m*sz) (hm:m<=maxLen) :
  Heap (.r (some ⟨w.heap.size,0,none⟩) m m t sz cs::L) (w.alloc (.cells cs.toArray t)):=by
 have h':=h.alloc t cs
 refine ⟨fun e he=>?_,?_⟩
 ·rcases List.mem_cons.1 he with rfl | he
  ·refine ⟨hl,.inr ⟨w.heap.size,m,cs.toArray,rfl,Nat.zero_le _,heap_alloc_new w _,Nat.le_refl _,hm,by simpa using hl,?_⟩⟩
   rw[<- hl];simp
  ·exact h'.ok e (List.mem_cons_of_mem _ he)
 ·have hp:=h'.sep
  rw[List.pairwise_cons] at hp ⊢
  exact ⟨fun x hx=>hp.1 x hx,hp.2⟩

theorem Ane {t:TypeId} {sz m:Nat} {cs:List Value} (hl:cs.length=m*sz) (hm:m<=maxLen)
  (hrun:∀ a w,Fr n fr a->Heap L w->(execOp a.eval ⟨some d,op,ty,pos,after,guard⟩).run P w = .ok (.value (.slice (some ⟨w.heap.size,0,none⟩) m m)) (w.alloc (.cells cs.toArray t)))
  (hd:Nat.blt d n=true) (k:∀ A,T n N ((d,.slice A m m)::fr) (.r A m m t sz cs::L)):Wx P Q n ⟨some d,op,ty,pos,after,guard⟩ fr L N:=by
 intro a w ha hw
 simp only[Oper.wp,hrun a w ha hw,Oper.upon_value]
 exact ⟨Sq w _,k _ _ _ (ha.put hd) (hw.allocR t sz m cs hl hm)⟩

theorem Af9 (z:Value) (m:Nat):madeCells #[z] m=(List.replicate m z).toArray:=by
 apply Array.ext
 ·simp[madeCells]
 ·intro i h1 h2
  simp[madeCells] at *
  have:i % 1=0:=Nat.mod_one i
  simp[this]
theorem Ar7 {t e x y k1 k2 i1 i2 i z} {m:Nat} (hx:evo fr x=some (.int k1 i1)) (hy:evo fr y=some (.int k2 i2)) (h1:i1=(m:Int)) (h2:i2=(m:Int))
  (ht:P.underlying t=some (.slice e)) (hi:P.info? e=some i) (hz:i.zero=some z) (hzc:z.cells = #[z]) (hs:i.size=1) (hb:i.bytes*m<=281474976710656) (hm:m<=9223372036854775807)
  (hd:Nat.blt d n=true) (k:∀ A,T n N ((d,.slice A m m)::fr) (.r A m m e 1 (List.replicate m z)::L)):Wx P Q n ⟨some d,.makeSlice t x y,ty,pos,after,guard⟩ fr L N:=by
 refine Ane (by simp) (by unfold maxLen;omega) (fun a w ha _=>?_) hd k
 have hb':(i.bytes:Int)*((m:Nat):Int)<=281474976710656:=by
  have h:((i.bytes*m:Nat):Int)<=281474976710656:=by omega
  rwa [Int.natCast_mul] at h
 have hr:=run_make (P:=P) w t e i z ht hi hz k1 k2 m m (by omega) (Int.le_refl _) hb' (by omega)
 subst h1;subst h2
 simp only[Int.toNat_natCast,hs,Nat.mul_one,hzc,Af9] at hr
 simp[execOp,ha.eval hx,ha.eval hy,hr]

theorem Has.ofR {α:Type} {enc:α->List Value} {A c t sz} {l:List α} (_hz:0 < sz) (he:∀ x∈l,(enc x).length=sz) {w:World} (hok:Ent.ok w (.r A l.length c t sz (l.flatMap enc))) :
  Has [.r A l.length c t sz (l.flatMap enc)] A l.length c sz enc l:=by
 obtain ⟨h1,h2⟩:=hok
 have hc:l.length<=c/\c<=maxLen:=by
  rcases h2 with ⟨hv,h0⟩ | ⟨g,cap,cur,hv,_,_,h3,h4,_⟩
  ·injection hv with _ h5 h6;subst h6;omega
  ·injection hv with _ h5 h6;subst h6;exact ⟨h3,h4⟩
 refine ⟨rfl,hc.1,hc.2,he,fun hn=>?_⟩
 rcases h2 with ⟨_,h0⟩ | ⟨g,cap,cur,hv,_,_,h3,h4,_⟩
 ·omega
 ·injection hv with hA h5 h6
  subst hA
  refine ⟨g,0,rfl,fun i hi w' hw' j u hu=>?_⟩
  obtain ⟨_,h2'⟩:=hw' _ (List.mem_singleton.2 rfl)
  rcases h2' with ⟨hv',_⟩ | ⟨g',cap',cur',hv',_,hh,h3',h4',h5',h6'⟩
  ·cases hv'
  ·injection hv' with hA' _ _
   injection hA' with hA'
   injection hA' with hg
   subst hg
   have hlt:j < sz:=by
    rw[<- he l[i] (List.getElem_mem hi)]
    exact (List.getElem?_eq_some_iff.1 hu).1
   have hflat:∀ (l:List α) (i:Nat) (hi:i < l.length),(∀ x∈l,(enc x).length=sz)->∀ j u,(enc l[i])[j]? = some u->j < sz->(l.flatMap enc)[i*sz+j]? = some u:=by
    intro l
    induction l with
    | nil=>intro i hi;simp at hi
    | cons x r ih=>
     intro i hi he j u hu hlt
     rw[List.flatMap_cons]
     cases i with
     | zero=>
      simp only[Nat.zero_mul,Nat.zero_add]
      rw[List.getElem?_append_left (by rw[he x List.mem_cons_self];exact hlt)]
      simpa using hu
     | succ i=>
      rw[List.getElem?_append_right (by rw[he x List.mem_cons_self,Nat.succ_mul];omega),he x List.mem_cons_self,show (i+1)*sz+j-sz=i*sz+j from by rw[Nat.succ_mul];omega]
      exact ih i (by simpa using hi) (fun y hy=>he y (List.mem_cons_of_mem _ hy)) j u (by simpa using hu) hlt
   have hx:=hflat l i hi he j u hu hlt
   rw[<- h6'] at hx
   have hx':cur'.toList[i*sz+j]? = some u:=by
    rw[List.getElem?_take] at hx
    split at hx
    ·exact hx
    ·cases hx
   simp only[World.cell?,hh,Nat.zero_add]
   simpa using hx'

def Jt:List Value->Bool
 | []=>true
 | v::r=>v.oneCell' && Jt r
theorem Ol:∀ {l:List Value},Jt l=true->∀ u∈l,u.oneCell'=true
 | [],_,u,hu=>by simp at hu
 | v::r,h,u,hu=>by
  simp only[Jt,Bool.and_eq_true] at h
  rcases List.mem_cons.1 hu with rfl | hu
  ·exact h.1
  ·exact Ol h.2 u hu

def Om (w:World) (g:Nat) (o:Obj):World:={ w with heap:=w.heap.setIfInBounds g o }
theorem Sk (w:World) (g:Nat) (o:Obj):w.grownBy (Om w g o) (some g) :=
 ⟨rfl,rfl,rfl,by simp[Om],fun k _ hne=>by
  have:g≠k:=fun h=>hne (by rw[h])
  simp[Om,Array.getElem?_setIfInBounds_ne this]⟩
theorem Uu (w:World) (g:Nat) (o:Obj) (h:g < w.heap.size):(Om w g o).heap[g]? = some o:=by
 simp[Om,h]

theorem Aen {w:World} {g o:Nat} {cs:Array Value} {t:TypeId} {v:Value} (h:w.heap[g]? = some (.cells cs t (0,0))) :
  w.setCell ⟨g,o,none⟩ v=Om w g (.cells (cs.setIfInBounds o v) t (0,0)):=by
 have hlt:=Ek h
 simp only[World.setCell,Om]
 congr 1
 apply Array.ext
 ·simp
 ·intro i h1 h2
  simp only[Array.getElem_modify]
  have hg:w.heap[g] = .cells cs t (0,0):=by
   rw[Array.getElem?_eq_getElem hlt] at h;injection h
  by_cases hi:g=i
  ·subst hi;simp[hg]
  ·have hi':i < w.heap.size:=by simpa using h1
   rw[Array.getElem_setIfInBounds_ne hi' hi];simp[hi]
theorem Aga (w:World) (g:Nat) (o o':Obj):Om (Om w g o) g o'=Om w g o':=by simp[Om]

def Dl (cs:Array Value) (o:Nat):List Value->Array Value
 | []=>cs
 | v::r=>Dl (cs.setIfInBounds o v) (o+1) r
theorem Sn (vs:List Value):∀ (cs:Array Value) (o:Nat),(Dl cs o vs).size=cs.size:=by
 induction vs with
 | nil=>intros;rfl
 | cons v r ih=>intro cs o;simp[Dl,ih]

theorem Ju (P:Program) (g:Nat) (t:TypeId):∀ (vs:List Value) (i o:Nat) (cs:Array Value) (w:World),w.heap[g]? = some (.cells cs t (0,0))->o+i+vs.length<=cs.size->(∀ u∈vs,u.oneCell'=true) ->
  (storeCells ⟨g,o,none⟩ vs i).run P w = .ok () (if vs=[] then w else Om w g (.cells (Dl cs (o+i) vs) t (0,0)))
 | [],i,o,cs,w,h,_,_=>by simp[storeCells]
 | v::r,i,o,cs,w,h,hl,h1=>by
  have hc:w.cell? ⟨g,o+i,none⟩=some (cs[o+i]'(by simp at hl;omega)):=by
   have hlt:o+i < cs.size:=by simp at hl;omega
   simp[World.cell?,h,hlt]
  have hf:w.frozen? ⟨g,o+i,none⟩=false:=by simp[World.frozen?,h]
  have hst:(store ⟨g,o+i,none⟩ v).run P w = .ok () (w.setCell ⟨g,o+i,none⟩ v):=by
   rw[run_store P w _ v _ (h1 v List.mem_cons_self)]
   simp[hc,hf]
  simp only[storeCells,Addr.add_lit,Sem.run_bind,hst,Result.andThen_ok]
  rw[Aen h]
  have hlt:=Ek h
  rw[Ju P g t r (i+1) o (cs.setIfInBounds (o+i) v) _ (Uu w g _ hlt) (by simp at hl ⊢;omega) (fun u hu=>h1 u (List.mem_cons_of_mem _ hu))]
  cases r with
  | nil=>simp[Dl]
  | cons v' r'=>simp[Aga,Dl,Nat.add_assoc]

theorem Spl.spec {cs o vs cs'} (h:Spl cs o vs cs'):o+vs.length<=cs.length\/vs=[]:=by
 induction h with
 | done=>exact .inr rfl
 | put h ih=>left;rcases ih with ih | rfl <;> simp at * <;> omega
 | skip h ih=>rcases ih with ih | rfl;left;simp;omega;exact .inr rfl
theorem Aa5 (c:Value) (vs:List Value):∀ (cs:List Value) (o:Nat),(Dl (c::cs).toArray (o+1) vs).toList=c::(Dl cs.toArray o vs).toList:=by
 induction vs with
 | nil=>intro cs o;simp[Dl]
 | cons v r ih=>
  intro cs o
  simp only[Dl,List.setIfInBounds_toArray,List.set_cons_succ]
  rw[ih]
theorem Spl.write {cs o vs cs'} (h:Spl cs o vs cs'):(Dl cs.toArray o vs).toList=cs':=by
 induction h with
 | done=>simp[Dl]
 | put h ih=>
  simp only[Dl,List.setIfInBounds_toArray,List.set_cons_zero]
  rw[Aa5,ih]
 | skip h ih=>rw[Aa5,ih]

theorem Heap.store {w:World} {i g t cs cs' L'} (h:Heap L w) (hs:SetE L i (.m g t cs) (.m g t cs') L'):Heap L' (Om w g (.cells cs'.toArray t (0,0))) :=
 Heap.turn (e:=.m g t cs) (e':=.m g t cs') (Sk w g _) (Uu w g _ (Ek (h.ok _ hs.mem))) (Nat.le_refl _) (fun _ hg=>.inl hg) hs h

theorem Fm {x y g o t cs cs' v vs ty' i L'} (hx:evo fr x=some (.pointer (some ⟨g,o,none⟩))) (hy:evo fr y=some v) (hv:v.cells=vs.toArray)
  (hL:SetE L i (.m g t cs) (.m g t cs') L') (hs:Spl cs o vs cs') (h1:Jt vs=true) (h0:vs≠[]) (hsz:∀ w,(sizeOf ty').run P w = .ok vs.length w)
  (k:T n N fr L'):Wh P Q n ⟨none,.store ty' x y,ty,pos,after,guard⟩ fr L N:=by
 intro a w ha hw
 have hb:w.heap[g]? = some (.cells cs.toArray t (0,0)):=hw.ok _ hL.mem
 have hl:o+0+vs.length<=cs.toArray.size:=by
  rcases hs.spec with h | h
  ·simpa using h
  ·exact absurd h h0
 have hst:=Ju P g t vs 0 o cs.toArray w hb hl (Ol h1)
 rw[if_neg h0] at hst
 have hw':(Dl cs.toArray (o+0) vs)=cs'.toArray:=by
  have:=hs.write
  rw[<- this];simp
 rw[hw'] at hst
 have hrun:(execOp a.eval ⟨none,.store ty' x y,ty,pos,after,guard⟩).run P w = .ok .skip (Om w g (.cells cs'.toArray t (0,0))):=by
  simp[execOp,ha.eval hx,ha.eval hy,Instr.storeAt,Instr.sureAddr,storeVar,hv,hsz w,hst]
 simp only[Oper.wp,hrun,Oper.upon_skip]
 exact k _ _ ha (hw.store hL)

theorem Ah0 {α:Type} {enc:α->List Value} {sz:Nat} (l:List α) (he:∀ x∈l,(enc x).length=sz) (x:α) (hx:(enc x).length=sz) :
  ∀ (j:Nat) (tail:List Value),j < l.length->(Dl (l.flatMap enc++tail).toArray (j*sz) (enc x)).toList=(l.set j x).flatMap enc++tail:=by
 have wa:∀ (vs pre old tail:List Value),old.length=vs.length->(Dl (pre++old++tail).toArray pre.length vs).toList=pre++vs++tail:=by
  intro vs
  induction vs with
  | nil=>intro pre old tail h;have:old=[]:=List.eq_nil_of_length_eq_zero (by simpa using h);subst this;simp[Dl]
  | cons v r ih=>
   intro pre old tail h
   match old,h with
   | u::old',h=>
    simp only[Dl,List.setIfInBounds_toArray]
    have:(pre++u::old' ++ tail).set pre.length v=(pre++[v])++old' ++ tail:=by
     rw[List.append_assoc,List.set_append_right _ _ (Nat.le_refl _)];simp
    rw[this]
    have:=ih (pre++[v]) old' tail (by simpa using h)
    simp at this ⊢
    exact this
 intro j tail hj
 have hsplit:l=l.take j++l[j]::l.drop (j+1):=by
  rw[<- List.drop_eq_getElem_cons hj,List.take_append_drop]
 have hlen:((l.take j).flatMap enc).length=j*sz:=by
  have:∀ (m:List α),(∀ y∈m,(enc y).length=sz)->(m.flatMap enc).length=m.length*sz:=by
   intro m
   induction m with
   | nil=>intro _;simp
   | cons y r ih=>intro h;rw[List.flatMap_cons,List.length_append,h y List.mem_cons_self,ih (fun z hz=>h z (List.mem_cons_of_mem _ hz)),List.length_cons,Nat.succ_mul];omega
  rw[this _ (fun y hy=>he y (List.mem_of_mem_take hy)),List.length_take]
  congr 1;omega
 have h1:l.flatMap enc++tail=(l.take j).flatMap enc++enc l[j]++((l.drop (j+1)).flatMap enc++tail):=by
  have h0:=congrArg (fun m:List α=>m.flatMap enc++tail) hsplit
  simp only[List.flatMap_append,List.flatMap_cons,List.append_assoc] at h0 ⊢
  exact h0
 have h2:(l.set j x).flatMap enc++tail=(l.take j).flatMap enc++enc x++((l.drop (j+1)).flatMap enc++tail):=by
  rw[List.set_eq_take_append_cons_drop,if_pos hj]
  simp[List.flatMap_append,List.flatMap_cons,List.append_assoc]
 rw[h1,h2,<- hlen]
 exact wa _ _ _ _ (by rw[hx,he _ (List.getElem_mem hj)])

theorem Apl {α:Type} {enc:α->List Value} {l:List α} {x y g o A c t sz v ty' i L'} {j:Nat} (u:α) (hx:evo fr x=some (.pointer (some ⟨g,o,none⟩))) (hy:evo fr y=some v) (hv:v.cells=(enc u).toArray)
  (hL:SetE L i (.r A l.length c t sz (l.flatMap enc)) (.r A l.length c t sz ((l.set j u).flatMap enc)) L') (hA:A=some ⟨g,0,none⟩) (ho:o=j*sz) (hj:j < l.length)
  (he:∀ x∈l,(enc x).length=sz) (hu:(enc u).length=sz) (hz:0 < sz) (h1:Jt (enc u)=true) (hsz:∀ w,(sizeOf ty').run P w = .ok sz w)
  (k:T n N fr L'):Wh P Q n ⟨none,.store ty' x y,ty,pos,after,guard⟩ fr L N:=by
 intro a w ha hw
 subst ho;subst hA
 obtain ⟨hl,h2⟩:=hw.ok _ hL.mem
 rcases h2 with ⟨hv',_⟩ | ⟨g',cap,cur,hv',_,hb,h3,h4,h5,h6⟩
 ·cases hv'
 ·injection hv' with hg _ hcap
  injection hg with hg
  injection hg with hg
  subst hg;subst hcap
  have hne:enc u≠[]:=by intro h;rw[h] at hu;simp at hu;omega
  have hle:l.length*sz<=c*sz:=Nat.mul_le_mul_right _ h3
  have hjl:j*sz+sz<=l.length*sz:=by rw[<- Nat.succ_mul];exact Nat.mul_le_mul_right _ hj
  have hst:=Ju P g t (enc u) 0 (j*sz) cur w hb (by rw[hu,h5];omega) (Ol h1)
  rw[if_neg hne] at hst
  have hrun:(execOp a.eval ⟨none,.store ty' x y,ty,pos,after,guard⟩).run P w = .ok .skip (Om w g (.cells (Dl cur (j*sz+0) (enc u)) t (0,0))):=by
   simp[execOp,ha.eval hx,ha.eval hy,Instr.storeAt,Instr.sureAddr,storeVar,hv,hu,hsz w,hst]
  simp only[Oper.wp,hrun,Oper.upon_skip]
  refine k _ _ ha (Heap.turn (e:=.r (some ⟨g,0,none⟩) l.length c t sz (l.flatMap enc)) (e':=.r (some ⟨g,0,none⟩) l.length c t sz ((l.set j u).flatMap enc)) (Sk w g _) ?_ (Nat.le_refl _) (fun _ hg=>.inl hg) hL hw)
  have hcur:cur=(l.flatMap enc++cur.toList.drop (l.length*sz)).toArray:=by
   rw[<- h6,List.take_append_drop]
  have hwr:(Dl cur (j*sz+0) (enc u)).toList=(l.set j u).flatMap enc++cur.toList.drop (l.length*sz):=by
   rw[Nat.add_zero]
   conv=>lhs;rw[hcur]
   exact Ah0 l he u hu j _ hj
  have hfl:((l.set j u).flatMap enc).length=l.length*sz:=by
   have e1:(Dl cur (j*sz+0) (enc u)).toList.length=c*sz:=by rw[Array.length_toList,Sn,h5]
   have e2:=congrArg List.length hwr
   have e3:cur.toList.length=c*sz:=by rw[Array.length_toList,h5]
   rw[e1,List.length_append,List.length_drop,e3] at e2
   generalize ((l.set j u).flatMap enc).length=p at e2 ⊢
   generalize l.length*sz=q at e2 hle ⊢
   generalize c*sz=q' at e2 hle
   omega
  refine ⟨hfl,.inr ⟨g,c,_,rfl,Nat.zero_le _,Uu w g _ (Ek hb),h3,h4,by rw[Sn];exact h5,?_⟩⟩
  rw[hwr,<- hfl];simp

structure Vx (P:Program) (t e:TypeId) (sz bytes:Nat):Prop where
 sl:P.underlying t=some (.slice e)
 ex:∃ i z,P.info? e=some i/\i.zero=some z/\i.size=sz/\i.bytes=bytes/\z.cells.size=sz
 pos:0 < sz
theorem Apm {s x t e sz bytes A m c g B q q' t' i i' xs news ty'} {L' L2:Option Addr->Nat->List Ent} (hs:evo fr s=some (.slice A m c)) (hx:evo fr x=some (.slice B q q')) (hB:B=some ⟨g,0,none⟩) (ht:Vx P t e sz bytes)
  (hL2:nthE L i'=some (.m g t' news)) (hn:news.length=q*sz) (h1:Jt news=true) (hb:(m+q)*bytes<=140737488355328) (h63:m+q<=9223372036854775807) (hd:Nat.blt d n=true)
  (hL:∀ A' c',SetE L i (.r A m c e sz xs) (.r A' (m+q) c' e sz (xs++news)) (L' A' c')) (hsub:∀ A' c',HSub (L' A' c') (L2 A' c'))
  (k:∀ A' c',T n N ((d,.slice A' (m+q) c')::fr) (L2 A' c')) :
  Wh P Q n ⟨some d,.call ⟨.builtin .append,#[s,x],#[t,t]⟩,ty',pos,after,guard⟩ fr L N:=by
 intro a w ha hw
 subst hB
 obtain ⟨i0,z,e1,e2,e3,e4,e5⟩:=ht.ex
 have hown:w.ownsRow 0 e sz (.slice A m c) m xs:=hw.ok _ (hL none 0).mem
 have hnew:∀ (j:Nat) (u:Value),news[j]? = some u->w.cell? ((⟨g,0,none⟩:Addr).add j)=some u:=fun j u hj=>by
  rw[Addr.add_lit,Sf (hw.ok _ (Eu hL2))];simpa using hj
 obtain ⟨v',w',hr,h2,h3,_,h5⟩:=run_append_own_at (P:=P) w 0 t ty' e i0 z sz bytes ht.sl e1 e2 e3 e4 e5 ht.pos (.slice A m c) m xs hown ⟨g,0,none⟩ q q' news hn hnew (Ol h1) (by unfold maxLen;omega) hb (Nat.zero_le _)
 have hv':∃ A' c',v' = .slice A' (m+q) c':=by
  rcases h2.2 with ⟨hv,h0⟩ | ⟨g',cap,cur,hv,_⟩
  ·exact ⟨none,0,by rw[hv,h0]⟩
  ·exact ⟨_,_,hv⟩
 obtain ⟨A',c',rfl⟩:=hv'
 have hrun:(execOp a.eval ⟨some d,.call ⟨.builtin .append,#[s,x],#[t,t]⟩,ty',pos,after,guard⟩).run P w = .ok (.value (.slice A' (m+q) c')) w':=by
  simp[execOp,resolve,invoke,builtin,ha.eval hs,ha.eval hx,hr]
 simp only[Oper.wp,hrun,Oper.upon_value]
 refine k A' c' _ _ (ha.put hd) ((Heap.turn (e:=.r A m c e sz xs) (e':=.r A' (m+q) c' e sz (xs++news)) h3 h2 (Nat.le_refl _) (fun g' hg'=>?_) (hL A' c') hw).sub (hsub A' c'))
 simp only[Ent.blk] at hg' ⊢
 rcases h5 with h5 | h5
 ·left;rw[<- h5];exact hg'
 ·right;rw[h5] at hg';injection hg' with hg';omega

def Uj (P : Program) (f : FuncId) : Prop := ∃ fn, P.funcs[f]? = some fn /\ (fn.name == "runtime.NumGoroutine") = false /\ fn.body.isNone = false
def CtL (P:Program) (f:FuncId) (vs:List Value) (w:World) (R:Value->List Ent->Prop):Prop :=
 Uj P f/\Calls P f vs.toArray w fun e w'=>∃ v Ln,e = .returned v/\R v Ln/\(∀ x∈Ln,x.low=0)/\Heap (Ln++[.old w]) w'
def CtM (P:Program) (f:FuncId) (vs:List Value) (Lp:List Ent) (R:Value->List Ent->Prop):Prop :=
 Uj P f/\∀ Lf w,Heap (Lp++Lf) w->Calls P f vs.toArray w fun e w'=>∃ v Ln,e = .returned v/\R v Ln/\Heap (Ln++Lf) w'

theorem Gn:∀ x∈([]:List Ent),x.low=0:=fun _ h=>by simp at h
theorem By {e:Ent} {l:List Ent} (h:e.low=0) (h':∀ x∈l,x.low=0):∀ x∈e::l,x.low=0:=fun x hx=>by
 rcases List.mem_cons.1 hx with rfl | hx
 ·exact h
 ·exact h' x hx

theorem Aeo {f:FuncId} {xs:List Operand} {vs:List Value} {ts:Array TypeId} {ty':TypeId} {a:Act} {w:World} (hf:Uj P f) (ha:Fr n fr a) (hx:evos fr xs=some vs) :
  (execOp a.eval ⟨dst,.call ⟨.value (.func f),xs.toArray,ts⟩,ty',pos,after,guard⟩).run P w = .ok (.enter f vs.toArray) w:=by
 obtain ⟨fn,h1,h2,h3⟩:=hf
 have:=ha.evals hx
 have h2' : fn.name ≠ "runtime.NumGoroutine" := by simpa using h2
 have h3':fn.body≠none:=by intro h;rw[h] at h3;cases h3
 simp[execOp,resolve,Deferred.ofValue,invoke,callFunc,Act.eval,this,h1,h2',h3']

theorem Ei {f:FuncId} {xs:List Operand} {vs:List Value} {ts:Array TypeId} {ty':TypeId} {R:Value->List Ent->Prop} (hx:evos fr xs=some vs) (hc:∀ w,Heap L w->CtL P f vs w R) (hd:Nat.blt d n=true)
  (k:∀ v Ln,(∀ x∈Ln,x.low=0)->R v Ln->T n N ((d,v)::fr) (Ln++L)):Wx P Q n ⟨some d,.call ⟨.value (.func f),xs.toArray,ts⟩,ty',pos,after,guard⟩ fr L N:=by
 intro a w ha hw
 obtain ⟨hf,hcall⟩:=hc w hw
 simp only[Oper.wp,Aeo hf ha hx,Oper.upon_enter]
 refine hcall.mono ?_
 rintro e w' ⟨v,Ln,rfl,hR,hl,hh⟩
 exact ⟨hh.ok (.old w) (by simp),k v Ln hl hR _ _ (ha.put hd) (hw.join hl hh)⟩
def Uk:List Value->Nat->List (Nat × Value)
 | [],_=>[]
 | v::r,i=>(i,v)::Uk r (i+1)
theorem Aco:∀ (vs:List Value) (i t:Nat) (v:Value),look (Uk vs i) t=some v->i<=t/\vs[t-i]? = some v
 | [],i,t,v,h=>by simp[Uk,look] at h
 | u::r,i,t,v,h=>by
  simp only[Uk,look] at h
  cases hb:Nat.beq i t with
  | true=>
   rw[hb] at h
   have e:=Nat.eq_of_beq_eq_true hb
   subst e
   simpa using h
  | false=>
   rw[hb] at h
   have e:=Nat.ne_of_beq_eq_false hb
   obtain ⟨h1,h2⟩:=Aco r (i+1) t v h
   refine ⟨by omega,?_⟩
   rw[show t-i=(t-(i+1))+1 from by omega]
   simpa using h2

theorem Ah1 (vs:List Value) (m:Nat) (hm:vs.length<=m):Fr m (Uk vs 0) { tmps:=vs.toArray++Array.replicate (m-vs.toArray.size) undef,defers:=[] }:=by
 refine ⟨rfl,by simp;omega,fun t v hv=>?_⟩
 obtain ⟨_,h⟩:=Aco vs 0 t v hv
 simp only[Nat.sub_zero] at h
 have hlt:t < vs.length:=(List.getElem?_eq_some_iff.1 h).1
 rw[Array.getD_eq_getD_getElem?,Array.getElem?_append_left (by simpa using hlt)]
 simp[h]

theorem CtL.mk {f : FuncId} {fn : Func} {c : Code} {vs : List Value} {w : World} {R : Value -> List Ent -> Prop} (m : Nat) (hf : P.funcs[f]? = some fn) (hb : fn.body = some c) (hm : fn.ntmps = m) (hn : (fn.name == "runtime.NumGoroutine") = false)
  (hl:Nat.ble vs.length m=true) (k:T m (c.wp P (bodyPost P fn fun e w'=>∃ v Ln,e = .returned v/\R v Ln/\(∀ x∈Ln,x.low=0)/\Heap (Ln++[.old w]) w')) (Uk vs 0) [.old w]):CtL P f vs w R:=by
 refine ⟨⟨fn,hf,hn,by rw[hb];rfl⟩,calls_of_wp hf hb ?_⟩
 rw[hm]
 exact k _ w (Ah1 vs m (Nat.le_of_ble_eq_true hl)) (Heap.old w)
theorem CtM.mk {f : FuncId} {fn : Func} {c : Code} {vs : List Value} {Lp : List Ent} {R : Value -> List Ent -> Prop} (m : Nat) (hf : P.funcs[f]? = some fn) (hb : fn.body = some c) (hm : fn.ntmps = m) (hn : (fn.name == "runtime.NumGoroutine") = false)
  (hl:Nat.ble vs.length m=true) (k:∀ Lf,T m (c.wp P (bodyPost P fn fun e w'=>∃ v Ln,e = .returned v/\R v Ln/\Heap (Ln++Lf) w')) (Uk vs 0) (Lp++Lf)):CtM P f vs Lp R:=by
 refine ⟨⟨fn,hf,hn,by rw[hb];rfl⟩,fun Lf w hw=>calls_of_wp hf hb ?_⟩
 rw[hm]
 exact k Lf _ w (Ah1 vs m (Nat.le_of_ble_eq_true hl)) hw

inductive Res (P:Program) (fr:List (Nat × Value)) (L:List Ent):List ResultVar->List Value->Prop
 | nil:Res P fr L [] []
 | tmp {t v rs vs}:look fr t=some v->Res P fr L rs vs->Res P fr L (.tmp t::rs) (v::vs)
 | cell {t ty g i tt cs k rs vs}:look fr t=some (.pointer (some ⟨g,0,none⟩))->nthE L i=some (.m g tt cs)->cs.length=k->Nf P ty k->Res P fr L rs vs->Res P fr L (.cell t ty::rs) (.agg cs.toArray::vs)
 | cell1 {t ty g i tt v rs vs}:look fr t=some (.pointer (some ⟨g,0,none⟩))->nthE L i=some (.m g tt [v])->Qe P ty->Res P fr L rs vs->Res P fr L (.cell t ty::rs) (v::vs)

def Ph:List Value->Value
 | [v]=>v
 | vs=>.tuple vs.toArray

def rone (tmps:Array Value):ResultVar->Sem Value
 | .tmp t=>pure (tmps.getD t undef)
 | .cell a t=>do loadVar t (<- asAddr (tmps.getD a undef))
theorem Aln (fn:Func) (tmps:Array Value):results fn tmps=(do
  let vs <- fn.results.mapM (rone tmps)
  pure (if h:vs.size=1 then vs[0] else .tuple vs)):=rfl

theorem Res.run {fn:Func} {rs vs} (hr:fn.results=rs.toArray) (h:Res P fr L rs vs) {a:Act} {w:World} (ha:Fr n fr a) (hw:Heap L w):(results fn a.tmps).run P w = .ok (Ph vs) w:=by
 have key:∀ {rs vs},Res P fr L rs vs->(rs.mapM (rone a.tmps)).run P w = .ok vs w:=by
  intro rs vs h
  induction h with
  | nil=>simp
  | @tmp t v rs vs h1 _ ih=>
   have h2:(rone a.tmps (.tmp t)).run P w = .ok v w:=by
    show (pure (a.tmps.getD t undef):Sem Value).run P w=_
    rw[ha.val _ _ h1];rfl
   simp only[List.mapM_cons,Sem.run_bind,h2,Result.andThen_ok,ih,Sem.run_pure]
  | @cell t ty g i tt cs k rs vs h1 h2 h3 h4 _ ih=>
   have hl:=Xc h4 ⟨g,0,none⟩ cs h3 (w:=w) (fun j v hj=>by rw[Addr.add_lit,Sf (hw.ok _ (Eu h2))];simpa using hj)
   have h2:(rone a.tmps (.cell t ty)).run P w = .ok (.agg cs.toArray) w:=by
    show ((asAddr (a.tmps.getD t undef)) >>= fun x=>loadVar ty x).run P w=_
    rw[ha.val _ _ h1]
    simp[asAddr,hl]
   simp only[List.mapM_cons,Sem.run_bind,h2,Result.andThen_ok,ih,Sem.run_pure]
  | @cell1 t ty g i tt v rs vs h1 h2 h3 _ ih=>
   have hl:=Ts h3 ⟨g,0,none⟩ v (w:=w) (by rw[Sf (hw.ok _ (Eu h2))];rfl)
   have h2:(rone a.tmps (.cell t ty)).run P w = .ok v w:=by
    show ((asAddr (a.tmps.getD t undef)) >>= fun x=>loadVar ty x).run P w=_
    rw[ha.val _ _ h1]
    simp[asAddr,hl]
   simp only[List.mapM_cons,Sem.run_bind,h2,Result.andThen_ok,ih,Sem.run_pure]
 have hk:=key h
 rw[Aln,hr,List.mapM_toArray]
 simp only[Sem.run_bind,Sem.run_map,hk,Result.andThen_ok,Sem.run_pure]
 match vs with
 | []=>simp[Ph]
 | [v]=>simp[Ph]
 | v::u::r=>simp[Ph]

theorem Ar8 {fn:Func} {R:Ending->World->Prop} {rs vs} (hr:fn.results=rs.toArray) (h:Res P fr L rs vs) (k:∀ w,Heap L w->R (.returned (Ph vs)) w):T n (bodyPost P fn R .ret) fr L :=
 fun _ w ha hw=>bodyPost_ret (h.run hr ha hw) ha.nod (k w hw)
theorem Ar9 {fn:Func} {R:Ending->World->Prop} {rs vs} (hr:fn.results=rs.toArray) (h:Res P fr L rs vs) (k:∀ w,Heap L w->R (.returned (Ph vs)) w):T n (bodyPost P fn R .normal) fr L :=
 fun _ w ha hw=>bodyPost_end (h.run hr ha hw) ha.nod (k w hw)

end
end Go.Proofs.YtjfndjmabhbicaaGreat
