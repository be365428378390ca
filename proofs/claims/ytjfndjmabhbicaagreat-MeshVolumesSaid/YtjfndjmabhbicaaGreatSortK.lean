/- Maps in which entries are also deleted, and ranges over maps. -/
import Derived.Test.YtjfndjmabhbicaaGreatFlow11
import Derived.Maps.Range
import Derived.Maps.OwnSet
import Derived.Sort.Grow
import Derived.Deep.Draws
import Derived.Shelf.SlSortCmp.WholeK
namespace Go.Proofs.YtjfndjmabhbicaaGreat
open Go Go.RowKit
open Go.Maps (Keyed)
section
variable {κ υ:Type}
open Classical in
noncomputable def mdel (m:List (κ × υ)) (x:κ):List (κ × υ):=m.filter fun p=>decide (p.1≠x)
noncomputable def mput (m:List (κ × υ)) (x:κ) (v:υ):List (κ × υ):=(x,v)::mdel m x
def Dx (m:List (κ × υ)):Prop:=m.Pairwise fun p q=>p.1≠q.1
theorem Oq {m:List (κ × υ)} {x:κ} {p:κ × υ}:p∈mdel m x↔p∈m/\p.1≠x:=by simp[mdel]
theorem Dx.del {m:List (κ × υ)} (h:Dx m) (x:κ):Dx (mdel m x):=List.Pairwise.filter _ h
theorem Dx.put {m:List (κ × υ)} (h:Dx m) (x:κ) (v:υ):Dx (mput m x v) :=
 List.pairwise_cons.2 ⟨fun q hq=>fun e=>(Oq.1 hq).2 e.symm,h.del x⟩
theorem Mf:∀ {m:List (κ × υ)} {p:κ × υ},Dx m->p∈m->mget m p.1=some p.2
 | q::r,p,h,hp=>by
  obtain ⟨h1,h2⟩:=List.pairwise_cons.1 h
  rcases List.mem_cons.1 hp with rfl | hp
  ·rw[Sr,if_pos rfl]
  ·rw[Sr,if_neg (h1 p hp),Mf h2 hp]
theorem Ed {x:κ} {v:υ}:∀ {m:List (κ × υ)},mget m x=some v->(x,v)∈m
 | q::r,h=>by
  rw[Sr] at h
  split at h
  ·rename_i e
   cases h
   exact List.mem_cons.2 (.inl (by rw[<- e]))
  ·exact List.mem_cons_of_mem _ (Ed h)
theorem Ajq {m:List (κ × υ)} (h:Dx m) {x:κ} {v:υ}:mget m x=some v↔(x,v)∈m:=⟨Ed,fun hp=>Mf h hp⟩
open Classical in
theorem Ta {m:List (κ × υ)} {x y:κ} (h:Dx m):mget (mdel m x) y=if y=x then none else mget m y:=by
 by_cases e:y=x
 ·simp only[e,if_true]
  cases hg:mget (mdel m x) x with
  | none=>rfl
  | some v=>exact absurd rfl (Oq.1 (Ed hg)).2
 ·simp only[e,if_false]
  cases hg:mget m y with
  | some v=>exact (Ajq (h.del x)).2 (Oq.2 ⟨Ed hg,e⟩)
  | none=>
   cases hg':mget (mdel m x) y with
   | none=>rfl
   | some v=>rw[(Ajq h).2 (Oq.1 (Ed hg')).1] at hg;cases hg
open Classical in
theorem Po {m:List (κ × υ)} {x y:κ} {v:υ} (h:Dx m):mget (mput m x v) y=if y=x then some v else mget m y:=by
 unfold mput
 rw[Sr]
 by_cases e:y=x
 ·simp[e]
 ·have:¬ (x=y):=fun e'=>e e'.symm
  simp only[this,e,if_false]
  rw[Ta h,if_neg e]
noncomputable def ent2 (P:Program) (k:TypeId) (ke:κ->Value) (ve:υ->Value) (p:κ × υ):Lit × DataW Value:=(klOf P k (ke p.1),.held (ve p.2))
noncomputable def Tb (P:Program) (k:TypeId) (ke:κ->Value) (ve:υ->Value) (m:List (κ × υ)):DataW Value:=.map ((m.map (ent2 P k ke ve)).foldr DataW.insert [])
def Sa (P:Program) (k:TypeId) (ke:κ->Value) (m:List (κ × υ)):Prop:=∀ p∈m,(keyOf P k (ke p.1)).isSome=true
def Xm (P:Program) (k:TypeId) (ke:κ->Value) (ve:υ->Value) (b:Nat) (m:List (κ × υ)) (w:World):Prop :=
 Sa P k ke m/\Dx m/\w.ownsMap P k RV b m.length (Tb P k ke ve m)
def Aw (P:Program) (k:TypeId) (ke:κ->Value) (ve:υ->Value) (b:Nat) (m:List (κ × υ)):Ent:=.f [b] (Xm P k ke ve b m)
variable {P:Program} {k:TypeId} {ke:κ->Value} {ve:υ->Value} {b:Nat} {m:List (κ × υ)}
theorem Xm.still {w w':World} (h:Xm P k ke ve b m w) (hb:w'.heap[b]? = w.heap[b]?):Xm P k ke ve b m w':=by
 obtain ⟨h1,h0,es,clock,h2,h3⟩:=h
 exact ⟨h1,h0,es,clock,by rw[hb];exact h2,h3⟩
theorem Aa6 {w:World} (h:Xm P k ke ve b m w):Ent.ok w (Aw P k ke ve b m) :=
 ⟨fun g hg=>by simp at hg;subst hg;exact h.2.2.lt,h,fun w1 w2 h1 h2=>h1.still (h2 b (by simp))⟩
theorem Ado (K:Keyed P k) (hke:∀ x y,ke x=ke y->x=y) {x y:κ} (hx:(keyOf P k (ke x)).isSome=true) (hy:(keyOf P k (ke y)).isSome=true) (h:x≠y):klOf P k (ke x)≠klOf P k (ke y):=fun e=>
 h (hke _ _ (K.inj (Ks hx) (by rw[e];exact Ks hy)))
theorem Ajr (K:Keyed P k) (hke:∀ x y,ke x=ke y->x=y):∀ {m:List (κ × υ)},Sa P k ke m->Dx m->Tb P k ke ve m=mapD P k ke ve m
 | [],_,_=>rfl
 | p::r,h,ho=>by
  obtain ⟨h1,h2⟩:=List.pairwise_cons.1 ho
  have ih:=Ajr K hke (m:=r) (fun q hq=>h q (List.mem_cons_of_mem _ hq)) h2
  unfold mapD
  rw[<- ih]
  show DataW.map _=DataW.map _
  congr 1
  show DataW.insert _ _=DataW.insert _ _
  congr 1
  refine (List.filter_eq_self.2 fun q hq=>?_).symm
  obtain ⟨z,hz,rfl⟩:=List.mem_map.1 ((WideShapes.sorted_perm _).mem_iff.1 hq)
  have:=Ado K hke (h z (List.mem_cons_of_mem _ hz)) (h p List.mem_cons_self) (fun e=>h1 z hz e.symm)
  simp[ent2,Maps.sameKey_ne this]
theorem Aeq (K:Keyed P k) (hke:∀ x y,ke x=ke y->x=y) {x:κ} (hx:(keyOf P k (ke x)).isSome=true) (z:Value) (h:Sa P k ke m) (ho:Dx m) :
  (Tb P k ke ve m).atKey (klOf P k (ke x)) (.held z) = .held (mval ve z (mget m x))/\Maps.has (Tb P k ke ve m) (klOf P k (ke x))=(mget m x).isSome:=by
 rw[Ajr K hke h ho]
 exact Agu K hke hx z h
theorem Ags (K:Keyed P k) (hke:∀ x y,ke x=ke y->x=y) {x:κ} (hx:(keyOf P k (ke x)).isSome=true) (h:Sa P k ke m) (ho:Dx m) :
  (Tb P k ke ve m).del (klOf P k (ke x))=Tb P k ke ve (mdel m x):=by
 unfold Tb
 rw[DataW.del_eq]
 congr 1
 refine (Maps.sorted_del K.one (E:=m.map (ent2 P k ke ve)) (fun p hp=>?_) ?_ ?_).symm
 ·obtain ⟨z,hz,rfl⟩:=List.mem_map.1 hp
  exact ⟨_,Ks (h z hz)⟩
 ·rw[List.pairwise_map]
  exact List.Pairwise.imp_of_mem (fun hp hq e=>Ado K hke (h _ hp) (h _ hq) e) ho
 ·rw[List.filter_map]
  refine List.Perm.of_eq ?_
  congr 1
  unfold mdel
  refine List.filter_congr fun p hp=>?_
  show _ = !((klOf P k (ke p.1)).sameKey (klOf P k (ke x)))
  by_cases e:p.1=x
  ·subst e
   rw[WideAt.sameKey_self (K.key (Ks hx))]
   simp
  ·rw[Maps.sameKey_ne (Ado K hke (h p hp) hx e)]
   simp[e]
theorem Apn (K:Keyed P k) (hke:∀ x y,ke x=ke y->x=y) {x:κ} {v:υ} (hx:(keyOf P k (ke x)).isSome=true) (h:Sa P k ke m) (ho:Dx m) :
  (Tb P k ke ve m).put (klOf P k (ke x)) (.held (ve v))=Tb P k ke ve (mput m x v):=by
 have hd:=Ags (ve:=ve) K hke hx h ho
 unfold Tb at hd ⊢
 rw[DataW.del_eq] at hd
 have hd':=DataW.map.inj hd
 show DataW.map (DataW.insert _ (ChangeMaps.delKey _ _))=_
 rw[hd']
 rfl
theorem Zl {H:Type} {R:Value->Option (DataW H × List MemPlace)} {w:World} {n:Nat} {D:DataW H} (h:w.ownsMap P k R b n D):w.ownsMap P k R b (Maps.size D) D:=by
 obtain ⟨es,clock,hb,F,_,rfl⟩:=h
 exact ⟨es,clock,hb,F,by simp[Maps.size,Go.length_sorted],rfl⟩
theorem Zv (m:List (κ × υ)):Maps.size (Tb P k ke ve m)=m.length:=by simp[Tb,Maps.size,Go.length_sorted]
theorem Sa.del (h:Sa P k ke m) (x:κ):Sa P k ke (mdel m x):=fun p hp=>h p (Oq.1 hp).1
theorem Sa.put (h:Sa P k ke m) {x:κ} (hx:(keyOf P k (ke x)).isSome=true) (v:υ):Sa P k ke (mput m x v):=fun p hp=>by
 rcases List.mem_cons.1 hp with rfl | hp
 ·exact hx
 ·exact h.del x p hp
end
section
variable {κ υ:Type} {P:Program} {k:TypeId} {ke:κ->Value} {ve:υ->Value} {b:Nat} {m:List (κ × υ)}
variable {n:Nat} {fr:List (Nat × Value)} {L:List Ent} {N:Act->World->Prop} {Q:Exit->Act->World->Prop} {d:Nat} {dst:Option Tmp} {ty:TypeId} {pos:String} {after:Array Edge} {guard:Option (Nat × Bool)}
theorem Heap.allocMap2 {w:World} (h:Heap L w):Heap (Aw P k ke ve w.heap.size []::L) (w.alloc (.map #[] 0)):=by
 have hx:=Sq w (.map #[] 0)
 refine ⟨fun e he=>?_,?_⟩
 ·rcases List.mem_cons.1 he with rfl | he
  ·exact Aa6 ⟨fun p hp=>by simp at hp,List.Pairwise.nil,World.ownsMap_made w P k RV⟩
  ·exact Ent.ext (h.ok e he) hx
 ·rw[List.pairwise_cons]
  refine ⟨fun x hx=>⟨fun g hg=>?_,fun g hg=>⟨Nat.zero_le _,fun he=>?_⟩⟩,h.sep⟩
  ·have hg:g∈[w.heap.size]:=hg
   simp at hg
   subst hg
   exact ⟨Ent.lo_le (h.ok x hx),fun he=>by have:=Ent.lt (h.ok x hx) he;omega⟩
  ·have he:g∈[w.heap.size]:=he
   simp at he
   have:=Ent.lt (h.ok x hx) hg;omega
theorem Ajs (P':Program) (k:TypeId) (ke:κ->Value) (ve:υ->Value) {t:TypeId} (hd:Nat.blt d n=true) (kk:∀ g,T n N ((d,.map (some g))::fr) (Aw P' k ke ve g []::L)) :
  Wx P Q n ⟨some d,.makeMap t none,ty,pos,after,guard⟩ fr L N:=by
 intro a w ha hw
 have hrun:(execOp a.eval ⟨some d,.makeMap t none,ty,pos,after,guard⟩).run P w = .ok (.value (.map (some w.heap.size))) (w.alloc (.map #[] 0)):=by
  simp[execOp,run_makeMap]
 simp only[Oper.wp,hrun,Oper.upon_value]
 exact ⟨Sq w _,kk _ _ _ (ha.put hd) hw.allocMap2⟩
theorem Ah2 (P':Program) (k:TypeId) (ke:κ->Value) (ve:υ->Value) {t kt et:TypeId} {x:Operand} {q:IntKind} {z:Int} (ht:P.underlying t=some (.map kt et)) (hx:evo fr x=some (.int q z)) (hd:Nat.blt d n=true) (kk:∀ g,T n N ((d,.map (some g))::fr) (Aw P' k ke ve g []::L)) :
  Wx P Q n ⟨some d,.makeMap t (some x),ty,pos,after,guard⟩ fr L N:=by
 intro a w ha hw
 have hrun:(execOp a.eval ⟨some d,.makeMap t (some x),ty,pos,after,guard⟩).run P w = .ok (.value (.map (some w.heap.size))) (w.alloc (.map #[] 0)):=by
  simp[execOp,Instr.makeMap,ha.eval hx,run_underlying ht,asInt,asIntOf,Result.andThen]
 simp only[Oper.wp,hrun,Oper.upon_value]
 exact ⟨Sq w _,kk _ _ _ (ha.put hd) hw.allocMap2⟩
def Xn (P:Program) (k:TypeId) (ke:κ->Value) (ve:υ->Value) (g:Nat) (m:List (κ × υ)) (e:Ent):Prop:=∀ w,Ent.ok w e->Xm P k ke ve g m w
theorem Rt:Xn P k ke ve b m (Aw P k ke ve b m):=fun _ h=>h.2.1
theorem Aw8 {t e:TypeId} {g:Nat} {x:κ} {z:Value} {ok:Bool} {w:World} (K:Keyed P k) (ht:P.underlying t=some (.map k e)) (hz:(zeroValue e).run P w = .ok z w) (hke:∀ x y,ke x=ke y->x=y)
  (hM:Xm P k ke ve g m w) (hx:(keyOf P k (ke x)).isSome=true) :
  (Instr.lookup t (.map (some g)) (ke x) ok).run P w = .ok (if ok then .tuple #[mval ve z (mget m x),.bool (mget m x).isSome] else mval ve z (mget m x)) w:=by
 have hl:=Aeq (ve:=ve) K hke hx z hM.1 hM.2.1
 cases ok with
 | true=>
  obtain ⟨v,ps,hrun,hv⟩:=hM.2.2.look_ok K ht hz (zd:=.held z) (zp:=[]) rfl (Ks hx)
  rw[hl.1] at hv
  rw[hl.2] at hrun
  have hvv:v=mval ve z (mget m x):=by
   have:=congrArg (fun o=>o.map Prod.fst) hv
   simpa[RV] using this
  rw[hvv] at hrun
  simpa using hrun
 | false=>
  obtain ⟨es,clock,hb,F,_,hD⟩:=hM.2.2
  have key:∃ v ps,(Instr.lookup t (.map (some g)) (ke x) false).run P w = .ok v w/\RV v=some ((Tb P k ke ve m).atKey (klOf P k (ke x)) (.held z),ps):=by
   rw[hD]
   rcases Maps.fit_look false K ht hz hb F (Ks hx) with ⟨hrun,_,hat⟩ | ⟨e0,y,_,_,hrun,hRv,hat,_⟩
   ·exact ⟨z,[],by simpa using hrun,by rw[hat];rfl⟩
   ·exact ⟨e0.val,y.2,by simpa using hrun,by rw[hat];exact hRv⟩
  obtain ⟨v,ps,hrun,hv⟩:=key
  rw[hl.1] at hv
  have hvv:v=mval ve z (mget m x):=by
   have:=congrArg (fun o=>o.map Prod.fst) hv
   simpa[RV] using this
  rw[hvv] at hrun
  simpa using hrun
theorem Aer {t e:TypeId} {g:Nat} {mo ko:Operand} {x:κ} {i:Nat} {z0 u:υ} {kv vv:Value} {en:Ent} (K:Keyed P k) (ht:P.underlying t=some (.map k e)) (hz:∀ w,(zeroValue e).run P w = .ok (ve z0) w) (hke:∀ x y,ke x=ke y->x=y)
  (hm:evo fr mo=some (.map (some g))) (hk:evo fr ko=some kv) (hkv:kv=ke x) (hL:nthE L i=some en) (hH:Xn P k ke ve g m en) (hx:(keyOf P k (ke x)).isSome=true) (hu:some ((mget m x).getD z0)=some u) (hvv:vv=ve u) :
  Ev P n ⟨dst,.lookup t mo ko false,ty,pos,after,guard⟩ fr L vv:=fun a w ha hw=>by
 subst hkv;subst hvv
 have:=Aw8 (ok:=false) K ht (hz w) hke (hH w (hw _ (Aa9 hL))) hx
 simp only[Bool.false_eq_true,if_false] at this
 rw[Agv (ve:=ve) hu] at this
 simp[execOp,ha.eval hm,ha.eval hk,this]
theorem Zw {t e:TypeId} {g:Nat} {mo ko:Operand} {x:κ} {i:Nat} {z0 u:υ} {kv vv:Value} {en:Ent} (K:Keyed P k) (ht:P.underlying t=some (.map k e)) (hz:∀ w,(zeroValue e).run P w = .ok (ve z0) w) (hke:∀ x y,ke x=ke y->x=y)
  (hm:evo fr mo=some (.map (some g))) (hk:evo fr ko=some kv) (hkv:kv=ke x) (hL:nthE L i=some en) (hH:Xn P k ke ve g m en) (hx:(keyOf P k (ke x)).isSome=true) (hu:some ((mget m x).getD z0)=some u) (hvv:vv=ve u) :
  Ev P n ⟨dst,.lookup t mo ko true,ty,pos,after,guard⟩ fr L (.tuple #[vv,.bool (mget m x).isSome]):=fun a w ha hw=>by
 subst hkv;subst hvv
 have:=Aw8 (ok:=true) K ht (hz w) hke (hH w (hw _ (Aa9 hL))) hx
 simp only[if_true] at this
 rw[Agv (ve:=ve) hu] at this
 simp[execOp,ha.eval hm,ha.eval hk,this]
theorem Aes {t e:TypeId} {g:Nat} {mo ko vo:Operand} {kv vv:Value} {x:κ} {y:υ} {i:Nat} {L':List Ent} (K:Keyed P k) (hke:∀ x y,ke x=ke y->x=y) (ht:P.underlying t=some (.map k e))
  (hm:evo fr mo=some (.map (some g))) (hk:evo fr ko=some kv) (hkv:kv=ke x) (hv:evo fr vo=some vv) (hvv:vv=ve y) (hL:SetE L i (Aw P k ke ve g m) (Aw P k ke ve g (mput m x y)) L') (hx:(keyOf P k (ke x)).isSome=true) (hn:m.length < maxLen)
  (kk:T n N fr L'):Wh P Q n ⟨none,.mapUpdate t mo ko vo,ty,pos,after,guard⟩ fr L N:=by
 intro a w ha hw
 subst hkv;subst hvv
 obtain ⟨_,hM,_⟩:=hw.ok _ hL.mem
 obtain ⟨w',hrun,hown,hg⟩:=hM.2.2.update K ht hn (Ks hx) (val:=ve y) (d:=.held (ve y)) (ps:=[]) rfl
 have hex:(execOp a.eval ⟨none,.mapUpdate t mo ko vo,ty,pos,after,guard⟩).run P w = .ok .skip w':=by
  simp[execOp,ha.eval hm,ha.eval hk,ha.eval hv,hrun,Result.andThen]
 simp only[Oper.wp,hex,Oper.upon_skip]
 rw[Apn K hke hx hM.1 hM.2.1] at hown
 have hown:=Zl hown
 rw[Zv] at hown
 exact kk _ _ ha (Heap.turnO (e:=Aw P k ke ve g m) (e':=Aw P k ke ve g (mput m x y)) hg (fun g' hg'=>by cases hg';exact List.mem_singleton.2 rfl) (Aa6 ⟨hM.1.put hx y,hM.2.1.put x y,hown⟩) (Nat.le_refl _) (fun g' hg'=>.inl hg') hL hw)
theorem Alp {t e:TypeId} {g:Nat} {mo ko:Operand} {kv:Value} {x:κ} {i:Nat} {L':List Ent} (K:Keyed P k) (hke:∀ x y,ke x=ke y->x=y) (ht:P.underlying t=some (.map k e))
  (hm:evo fr mo=some (.map (some g))) (hk:evo fr ko=some kv) (hkv:kv=ke x) (hL:SetE L i (Aw P k ke ve g m) (Aw P k ke ve g (mdel m x)) L') (hx:(keyOf P k (ke x)).isSome=true)
  (kk:T n N fr L'):Wh P Q n ⟨none,.call ⟨.builtin .delete,#[mo,ko],#[t,k]⟩,ty,pos,after,guard⟩ fr L N:=by
 intro a w ha hw
 subst hkv
 obtain ⟨_,hM,_⟩:=hw.ok _ hL.mem
 obtain ⟨w',hrun,hown,hg⟩:=hM.2.2.drop K ht (Ks hx) ty
 have hex:(execOp a.eval ⟨none,.call ⟨.builtin .delete,#[mo,ko],#[t,k]⟩,ty,pos,after,guard⟩).run P w = .ok (.value (.tuple #[])) w':=by
  simp[execOp,resolve,invoke,builtin,ha.eval hm,ha.eval hk,hrun,Result.andThen]
 simp only[Oper.wp,hex,Oper.upon_value]
 rw[Ags K hke hx hM.1 hM.2.1] at hown
 have hown:=Zl hown
 rw[Zv] at hown
 exact kk _ _ ha (Heap.turnO (e:=Aw P k ke ve g m) (e':=Aw P k ke ve g (mdel m x)) hg.grown (fun g' hg'=>by cases hg';exact List.mem_singleton.2 rfl) (Aa6 ⟨hM.1.del x,hM.2.1.del x,hown⟩) (Nat.le_refl _) (fun g' hg'=>.inl hg') hL hw)
theorem Alq {t e:TypeId} {g:Nat} {mo:Operand} {i:Nat} {en:Ent} (ht:P.underlying t=some (.map k e)) (hm:evo fr mo=some (.map (some g))) (hL:nthE L i=some en) (hH:Xn P k ke ve g m en) :
  Ev P n ⟨dst,.call ⟨.builtin .len,#[mo],#[t]⟩,ty,pos,after,guard⟩ fr L (.int .i64 (m.length:Int)):=fun a w ha hw=>by
 have hM:=hH w (hw _ (Aa9 hL))
 have hl:=hM.2.2.len (t:=t) ht ty
 rw[Zv] at hl
 simp[execOp,resolve,invoke,builtin,ha.eval hm,hl,Result.andThen]
def Aa7 (P:Program) (k:TypeId) (ke:κ->Value) (ve:υ->Value) (b r:Nat) (m l:List (κ × υ)) (c:Option (κ × υ)) (w:World):Prop :=
 Sa P k ke m/\Dx m/\Dx l/\(∀ p∈l,p∈m)/\(∃ lf cnt,w.ranges P k RV b r m.length (Tb P k ke ve m) lf cnt/\∀ kl,lf kl=true↔∃ p∈l,klOf P k (ke p.1)=kl) /\
 ∀ p,c=some p->(Instr.entry (.pointer (some ⟨r,0,none⟩))).run P w = .ok (.tuple #[ke p.1,ve p.2]) w
def rngE (P:Program) (k:TypeId) (ke:κ->Value) (ve:υ->Value) (b r:Nat) (m l:List (κ × υ)) (c:Option (κ × υ)):Ent:=.f [b,r] (Aa7 P k ke ve b r m l c)
theorem Ajt {r:Nat} {w w':World} {es:Array MapEntry} {clock since c0:Nat} {seen:Array Nat} {v:Value} (hb:w.heap[b]? = some (.map es clock)) (hr:w.heap[r]? = some (.mapIter (some b) since seen c0)) (hb':w'.heap[b]? = w.heap[b]?) (hr':w'.heap[r]? = w.heap[r]?)
  (h:(Instr.entry (.pointer (some ⟨r,0,none⟩))).run P w = .ok v w):(Instr.entry (.pointer (some ⟨r,0,none⟩))).run P w' = .ok v w':=by
 rw[hb] at hb'
 rw[hr] at hr'
 simp only[Instr.entry,getObj,Sem.run_bind,Sem.run,hr,hb,hr',hb',Result.andThen] at h ⊢
 cases hs:seen.back? with
 | none=>simp only[hs] at h;cases h
 | some st=>
  simp only[hs,getObj,Sem.run_bind,Sem.run,hb,hb',Result.andThen] at h ⊢
  by_cases hc:(clock != c0)=true
  ·simp only[hc,if_true] at h;cases h
  ·simp only[hc,Bool.false_eq_true,if_false] at h ⊢
   cases hf:es.find? (·.born == st) with
   | none=>simp only[hf] at h;cases h
   | some e=>
    simp only[hf] at h ⊢
    cases h
    rfl
theorem Aa7.still {r:Nat} {l:List (κ × υ)} {c:Option (κ × υ)} {w w':World} (h:Aa7 P k ke ve b r m l c w) (hb:w'.heap[b]? = w.heap[b]?) (hr:w'.heap[r]? = w.heap[r]?):Aa7 P k ke ve b r m l c w':=by
 obtain ⟨h1,h2,h3,h4,⟨lf,cnt,⟨es,clock,since,seen,c0,g1,g2,g3,g4,g5,g6⟩,h5⟩,h6⟩:=h
 refine ⟨h1,h2,h3,h4,⟨lf,cnt,⟨es,clock,since,seen,c0,by rw[hb];exact g1,g2,g3,g4,by rw[hr];exact g5,g6⟩,h5⟩,fun p hp=>Ajt g1 g5 hb hr (h6 p hp)⟩
theorem Ang {r:Nat} {l:List (κ × υ)} {c:Option (κ × υ)} {w:World} (h:Aa7 P k ke ve b r m l c w):Ent.ok w (rngE P k ke ve b r m l c):=by
 refine ⟨fun g hg=>?_,h,fun w1 w2 h1 h2=>h1.still (h2 b (by simp)) (h2 r (by simp))⟩
 obtain ⟨_,_,_,_,⟨lf,cnt,hr,_⟩,_⟩:=h
 rcases List.mem_cons.1 hg with rfl | hg
 ·exact hr.owns.lt
 ·rw[List.mem_singleton.1 hg];exact hr.lt
theorem Aa7.map {r:Nat} {l:List (κ × υ)} {c:Option (κ × υ)} {w:World} (h:Aa7 P k ke ve b r m l c w):Xm P k ke ve b m w:=by
 obtain ⟨h1,h2,_,_,⟨lf,cnt,hr,_⟩,_⟩:=h
 exact ⟨h1,h2,hr.owns⟩
theorem Aet {r:Nat} {l:List (κ × υ)} {c:Option (κ × υ)}:Xn P k ke ve b m (rngE P k ke ve b r m l c):=fun _ h=>h.2.1.map
theorem Ab5 {t e:TypeId} {g:Nat} {mo:Operand} {i:Nat} {L':Nat->List Ent} (K:Keyed P k) (hke:∀ x y,ke x=ke y->x=y) (ht:P.underlying t=some (.map k e)) (hm:evo fr mo=some (.map (some g)))
  (hL:∀ r,SetE L i (Aw P k ke ve g m) (rngE P k ke ve g r m m none) (L' r)) (hd:Nat.blt d n=true)
  (kk:∀ r,T n N ((d,.pointer (some ⟨r,0,none⟩))::fr) (L' r)):Wx P Q n ⟨some d,.range t mo,ty,pos,after,guard⟩ fr L N:=by
 intro a w ha hw
 obtain ⟨_,hM,_⟩:=hw.ok _ (hL 0).mem
 obtain ⟨w',hrun,hrg,hg,hsz⟩:=hM.2.2.range K ht
 have hex:(execOp a.eval ⟨some d,.range t mo,ty,pos,after,guard⟩).run P w = .ok (.value (.pointer (some ⟨w.heap.size,0,none⟩))) w':=by
  simp[execOp,ha.eval hm,hrun]
 simp only[Oper.wp,hex,Oper.upon_value]
 have hR:Aa7 P k ke ve g w.heap.size m m none w':=by
  refine ⟨hM.1,hM.2.1,hM.2.1,fun p hp=>hp,⟨_,_,hrg,fun kl=>?_⟩,fun p hp=>by cases hp⟩
  unfold Tb
  rw[Maps.has_eq,List.any_eq_true]
  constructor
  ·rintro ⟨q,hq,hqk⟩
   obtain ⟨p,hp,rfl⟩:=List.mem_map.1 ((WideShapes.sorted_perm _).mem_iff.1 hq)
   exact ⟨p,hp,WideAt.sameKey_eq hqk⟩
  ·rintro ⟨p,hp,rfl⟩
   exact ⟨ent2 P k ke ve p,(WideShapes.sorted_perm _).mem_iff.2 (List.mem_map.2 ⟨p,hp,rfl⟩),WideAt.sameKey_self (K.key (Ks (hM.1 p hp)))⟩
 refine ⟨?_,kk w.heap.size _ _ (ha.put hd) (Heap.turnO (e:=Aw P k ke ve g m) (e':=rngE P k ke ve g w.heap.size m m none) (row:=none) hg (fun g' hg'=>by cases hg') (Ang hR) (Nat.le_refl _) (fun g' hg'=>?_) (hL _) hw)⟩
 ·exact ⟨⟨hg.os,hg.tape,hg.output,hg.size,fun i hi=>hg.block i hi (by simp)⟩,by first | exact Nat.le_refl _ | exact Abv (by assumption)⟩
 ·rcases List.mem_cons.1 hg' with rfl | hg'
  ·exact .inl (List.mem_singleton.2 rfl)
  ·rw[List.mem_singleton.1 hg'];exact .inr (Nat.le_refl _)
theorem Aeu {g r:Nat} {it:Operand} {i:Nat} {l:List (κ × υ)} {c:Option (κ × υ)} {L':List (κ × υ)->Option (κ × υ)->List Ent} (K:Keyed P k) (hke:∀ x y,ke x=ke y->x=y) (hve:∀ x y,ve x=ve y->x=y)
  (hit:evo fr it=some (.pointer (some ⟨r,0,none⟩))) (hL:∀ l' c',SetE L i (rngE P k ke ve g r m l c) (rngE P k ke ve g r m l' c') (L' l' c')) (hd:Nat.blt d n=true)
  (kN:l=[]->T n N ((d,.tuple #[.bool false])::fr) L)
  (kS:∀ p,p∈l->T n N ((d,.tuple #[.bool true,ke p.1,ve p.2])::fr) (L' (mdel l p.1) (some p))):Wh P Q n ⟨some d,.next it false,ty,pos,after,guard⟩ fr L N:=by
 intro a w ha hw
 have hok:=hw.ok _ (hL [] none).mem
 obtain ⟨_,⟨h1,h2,h3,h4,⟨lf,cnt,hr,h5⟩,_⟩,_⟩:=hok
 rcases hr.next K ty with ⟨_,h0,hrun⟩ | ⟨key,v,kl,y,w',cnt',hkey,hlk,hv,hat,hrun,hrg,_,hgr,hsz,hen⟩
 ·have hl:l=[]:=by
   cases l with
   | nil=>rfl
   | cons p q=>have:=(h5 (klOf P k (ke p.1))).2 ⟨p,List.mem_cons_self,rfl⟩;rw[h0] at this;cases this
  have hex:(execOp a.eval ⟨some d,.next it false,ty,pos,after,guard⟩).run P w = .ok (.value (.tuple #[.bool false])) w:=by
   simp[execOp,ha.eval hit,hrun,Result.andThen]
  simp only[Oper.wp,hex,Oper.upon_value]
  exact kN hl _ _ (ha.put hd) hw
 ·obtain ⟨p,hp,hpk⟩:=(h5 kl).1 hlk
  have hx:=h1 p (h4 p hp)
  have hkk:key=ke p.1:=K.inj hkey (by rw[<- hpk];exact Ks hx)
  subst hkk
  have hvv:v=ve p.2:=by
   have e1:=hat (.held v)
   rw[<- hpk,(Aeq (ve:=ve) K hke hx v h1 h2).1,Mf h2 (h4 p hp)] at e1
   unfold RV at hv
   have hv:=Option.some.inj hv
   rw[<- hv] at e1
   exact (DataW.held.inj e1).symm
  subst hvv
  have hex:(execOp a.eval ⟨some d,.next it false,ty,pos,after,guard⟩).run P w = .ok (.value (.tuple #[.bool true,ke p.1,ve p.2])) w':=by
   simp[execOp,ha.eval hit,hrun,Result.andThen]
  simp only[Oper.wp,hex,Oper.upon_value]
  have hR:Aa7 P k ke ve g r m (mdel l p.1) (some p) w':=by
   refine ⟨h1,h2,h3.del _,fun q hq=>h4 q (Oq.1 hq).1,⟨_,_,hrg,fun kl'=>?_⟩,fun q hq=>by cases hq;exact hen⟩
   simp only[Bool.and_eq_true,Bool.not_eq_true',h5 kl']
   constructor
   ·rintro ⟨⟨q,hq,rfl⟩,hs⟩
    refine ⟨q,Oq.2 ⟨hq,fun e=>?_⟩,rfl⟩
    rw[e,hpk,WideAt.sameKey_self (K.key hkey)] at hs
    cases hs
   ·rintro ⟨q,hq,rfl⟩
    obtain ⟨q1,q2⟩:=Oq.1 hq
    refine ⟨⟨q,q1,rfl⟩,?_⟩
    rw[<- hpk]
    exact Maps.sameKey_ne (Ado K hke (h1 q (h4 q q1)) hx q2)
  exact kS p hp _ _ (ha.put hd) (Heap.turnO (e:=rngE P k ke ve g r m l c) (e':=rngE P k ke ve g r m (mdel l p.1) (some p)) (row:=some r) hgr (fun g' hg'=>by cases hg';exact List.mem_cons_of_mem _ (List.mem_singleton.2 rfl)) (Ang hR) (Nat.le_refl _) (fun g' hg'=>.inl hg') (hL _ _) hw)
theorem Ab6 {g r:Nat} {it:Operand} {i:Nat} {l:List (κ × υ)} {p:κ × υ} {kv vv:Value} (hit:evo fr it=some (.pointer (some ⟨r,0,none⟩))) (hL:nthE L i=some (rngE P k ke ve g r m l (some p))) (hk:kv=ke p.1) (hv:vv=ve p.2) :
  Ev P n ⟨dst,.entry it,ty,pos,after,guard⟩ fr L (.tuple #[kv,vv]):=fun a w ha hw=>by
 subst hk;subst hv
 obtain ⟨_,hR,_⟩:=hw _ (Aa9 hL)
 have:=hR.2.2.2.2.2 p rfl
 simp[execOp,ha.eval hit,this]
theorem Zx {N:Act->World->Prop} {g r:Nat} {i:Nat} {l:List (κ × υ)} {c:Option (κ × υ)} {L':List Ent} (hL:SetE L i (rngE P k ke ve g r m l c) (Aw P k ke ve g m) L') (kk:T n N fr L'):T n N fr L:=by
 intro a w ha hw
 obtain ⟨_,hR,_⟩:=hw.ok _ hL.mem
 exact kk a w ha (Heap.turnO (e:=rngE P k ke ve g r m l c) (e':=Aw P k ke ve g m) (row:=none) ⟨rfl,rfl,rfl,Nat.le_refl _,fun _ _ _=>rfl⟩ (fun g' hg'=>by cases hg') (Aa6 hR.map) (Nat.le_refl _) (fun g' hg'=>.inl (by rw[List.mem_singleton.1 hg'];exact List.mem_cons_self)) hL hw)
end
open Go.Maps (Keyed)
theorem Pt.m0 {g:Nat} {t:TypeId} {cs:List Value} {K:List Ent} (h:Ent.m g t cs∈K):Pt K g 0 cs:=fun w hw j u hu=>by
 have:=hw _ h
 rw[Sf this];simpa using hu
section
variable {κ υ:Type}
inductive MR {σ τ:Type} (BN:σ->Option (Sum σ τ)) (BS:σ->κ × υ->Option (Sum σ τ)):List (κ × υ)->σ->τ->Prop
 | nil {s t} (h:BN s=some (.inr t)):MR BN BS [] s t
 | cons {l s t} (h0:l≠[]) (h1:∀ p∈l,(BS s p).isSome=true) (h2:∀ p∈l,∀ t',BS s p=some (.inr t')->t'=t) (h3:∀ p∈l,∀ s',BS s p=some (.inl s')->MR BN BS (mdel l p.1) s' t):MR BN BS l s t
variable {σ τ γ:Type} {BN:σ->Option (Sum σ τ)} {BS:σ->κ × υ->Option (Sum σ τ)} {l m:List (κ × υ)} {s:σ} {t:τ} {p:κ × υ}
theorem MR.none' (h:MR BN BS l s t) (hl:l=[]):∃ x,BN s=some x/\∀ t',x = .inr t'->t'=t:=by
 cases h with
 | nil h=>exact ⟨_,h,fun t' e=>(Sum.inr.inj e).symm⟩
 | cons h0 _ _ _=>exact absurd hl h0
theorem MR.some' (h:MR BN BS l s t) (hp:p∈l):∃ x,BS s p=some x/\(∀ t',x = .inr t'->t'=t)/\∀ s',x = .inl s'->MR BN BS (mdel l p.1) s' t:=by
 cases h with
 | nil h=>cases hp
 | cons _ h1 h2 h3=>
  obtain ⟨x,hx⟩:=Option.isSome_iff_exists.1 (h1 p hp)
  exact ⟨x,hx,fun t' e=>h2 p hp t' (by rw[hx,e]),fun s' e=>h3 p hp s' (by rw[hx,e])⟩
open Classical in
noncomputable def mfix (BN:σ->Option (Sum σ τ)) (BS:σ->κ × υ->Option (Sum σ τ)) (m:List (κ × υ)) (s:σ):Option τ:=if h:∃ t,MR BN BS m s t then some h.choose else none
theorem Apo (h:mfix BN BS m s=some t):MR BN BS m s t:=by
 unfold mfix at h
 split at h
 ·rename_i hh
  cases h
  exact hh.choose_spec
 ·cases h
theorem MR.unique (h:MR BN BS m s t) {t':τ} (h':MR BN BS m s t'):t=t':=by
 induction h with
 | nil h=>
  obtain ⟨x,hx,ht⟩:=h'.none' rfl
  rw[h] at hx
  exact ht _ (Option.some.inj hx).symm
 | @cons l s t h0 h1 h2 h3 ih=>
  obtain ⟨p,hp⟩:=List.exists_mem_of_ne_nil l h0
  obtain ⟨x,hx,ht,hn⟩:=h'.some' hp
  cases x with
  | inr t2=>rw[<- h2 p hp t2 hx,ht t2 rfl]
  | inl s2=>exact ih p hp s2 hx (hn s2 rfl)
theorem Avc (h:MR BN BS m s t):mfix BN BS m s=some t:=by
 unfold mfix
 rw[dif_pos ⟨t,h⟩]
 exact congrArg some (MR.unique (Exists.choose_spec (p:=fun t=>MR BN BS m s t) ⟨t,h⟩) h)
theorem Avd (hp:p∈l):(mdel l p.1).length < l.length:=by
 unfold mdel
 refine Nat.lt_of_le_of_ne (List.length_filter_le _ _) fun e=>?_
 have:=List.length_filter_eq_length_iff.1 e p hp
 simp at this
section
variable {ρ:Type}
def mkN (BN:σ->Option (Sum σ τ)) (k:τ->Option ρ):σ->Option (Sum σ ρ):=fun s=>match BN s with
 | some (.inl s')=>some (.inl s')
 | some (.inr t)=>(match k t with
  | some r=>some (.inr r)
  | none=>none)
 | none=>none
def mkS (BS:σ->κ × υ->Option (Sum σ τ)) (k:τ->Option ρ):σ->κ × υ->Option (Sum σ ρ):=fun s p=>mkN (fun s=>BS s p) k s
noncomputable abbrev Anh (BN:σ->Option (Sum σ τ)) (BS:σ->κ × υ->Option (Sum σ τ)) (m:List (κ × υ)) (s:σ) (k:τ->Option ρ):Option ρ:=mfix (mkN BN k) (mkS BS k) m s
theorem Aju {BN:σ->Option (Sum σ τ)} {k:τ->Option ρ} {s:σ} {y:Sum σ ρ} (h:mkN BN k s=some y):∃ x,BN s=some x/\(∀ t,x = .inr t->∃ r,k t=some r/\y = .inr r)/\∀ s',x = .inl s'->y = .inl s':=by
 unfold mkN at h
 split at h
 ·rename_i s' e
  cases h
  exact ⟨_,e,fun t ht=>(by cases ht),fun s2 h2=>(by cases h2;rfl)⟩
 ·rename_i t e
  split at h
  ·rename_i r er
   cases h
   exact ⟨_,e,fun t ht=>(by cases ht;exact ⟨r,er,rfl⟩),fun s2 h2=>(by cases h2)⟩
  ·cases h
 ·cases h
theorem MR.noneK {k:τ->Option ρ} {r:ρ} (h:MR (mkN BN k) (mkS BS k) l s r) (hl:l=[]):∃ x,BN s=some x/\∀ t',x = .inr t'->k t'=some r:=by
 obtain ⟨y,hy,hr⟩:=h.none' hl
 obtain ⟨x,hx,h1,_⟩:=Aju hy
 refine ⟨x,hx,fun t' e=>?_⟩
 obtain ⟨r',h2,h3⟩:=h1 t' e
 rw[h2,hr r' h3]
theorem MR.someK {k:τ->Option ρ} {r:ρ} (h:MR (mkN BN k) (mkS BS k) l s r) (hp:p∈l):∃ x,BS s p=some x/\(∀ t',x = .inr t'->k t'=some r)/\∀ s',x = .inl s'->MR (mkN BN k) (mkS BS k) (mdel l p.1) s' r:=by
 obtain ⟨y,hy,hr,hn⟩:=h.some' hp
 obtain ⟨x,hx,h1,h4⟩:=Aju hy
 refine ⟨x,hx,fun t' e=>?_,fun s' e=>hn s' (h4 s' e)⟩
 obtain ⟨r',h2,h3⟩:=h1 t' e
 rw[h2,hr r' h3]
theorem Ah3 {σ τ ρ:Type} {k:τ->Option ρ} {r:ρ} {x:Sum σ τ} {t':τ} (ht:∀ t',x = .inr t'->k t'=some r) (hx:some (.inr t')=some x):k t'=some r:=ht t' (Option.some.inj hx).symm
end
section
variable {P:Program} {n:Nat} {fr:List (Nat × Value)} {L:List Ent} {Q:Exit->Act->World->Prop}
def RndM (n:Nat) (BN:σ->Option (Sum σ τ)) (BS:σ->κ × υ->Option (Sum σ τ)) (t:τ) (left:γ->List (κ × υ)) (k:Nat) (I:σ->γ->List (Nat × Value)) (H:σ->γ->List Ent) (G:σ->γ->Prop) (a:Act) (w:World):Prop :=
 ∃ s g,MR BN BS (left g) s t/\(left g).length < k/\G s g/\Fr n (I s g) a/\Heap (H s g) w
theorem Ah4 {s0:σ} (hl:mfix BN BS m s0=some t) (left:γ->List (κ × υ)) (I:σ->γ->List (Nat × Value)) (H:σ->γ->List Ent) (G:σ->γ->Prop) (g0:γ) (hm:left g0=m) (hG:G s0 g0) (hF:SubF (I s0 g0) fr) (hH:Gp L (H s0 g0)) {c:Code}
  (body:∀ s g,G s g->MR BN BS (left g) s t->T n (c.wp P (Exit.then (RndM n BN BS t left (left g).length I H G) Q)) (I s g) (H s g)) :
  T n ((Code.loop c).wp P Q) fr L:=by
 refine fun a w ha hw=>?_
 refine Aqv (fr:=fr) (L:=H s0 g0) (σ:=σ × γ) (fun s=>I s.1 s.2) (fun s=>H s.1 s.2) (fun s=>G s.1 s.2/\MR BN BS (left s.2) s.1 t) (fun s=>(left s.2).length) (s0,g0) ⟨hG,by rw[hm];exact Apo hl⟩ hF .refl ?_ a w ha (hw.pick hH)
 clear ha hw a w
 rintro ⟨s,g⟩ ⟨hG,hs⟩
 intro a w ha hw
 refine wp_mono (body s g hG hs a w ha hw) ?_
 intro e a' w' hq
 cases e with
 | normal=>
  obtain ⟨s',g',h4,h5,h1,h2,h3⟩:=hq
  exact ⟨(s',g'),⟨h1,h4⟩,h5,h2,h3⟩
 | _=>exact hq
theorem Ux {left:γ->List (κ × υ)} {τ':Type} {x:Sum σ τ'} {I:σ->γ->List (Nat × Value)} {H:σ->γ->List Ent} {G:σ->γ->Prop} (s:σ) (g:γ) (hx:some (.inl s)=some x) (hnx:∀ s',x = .inl s'->MR BN BS (mdel l p.1) s' t) (hp:p∈l) (hg:left g=mdel l p.1)
  (hG:G s g) (hF:SubF (I s g) fr) (hH:Gp L (H s g)):T n (Exit.then (RndM n BN BS t left l.length I H G) Q .normal) fr L:=fun _ _ ha hw=>
 ⟨s,g,by rw[hg];exact hnx s (Option.some.inj hx).symm,by rw[hg];exact Avd hp,hG,ha.sub hF,hw.pick hH⟩
end
end
end Go.Proofs.YtjfndjmabhbicaaGreat
namespace Go.Proofs.YtjfndjmabhbicaaGreat
open Go Go.RowKit Go.Lib Go.Sort
def Gw (W w:World):Prop:=∃ q os',w=grow (W.drewN q) os'
theorem Gw.refl (W:World):Gw W W:=⟨0,#[],by simp[grow];rfl⟩
theorem Gw.trans {A B C:World} (h:Gw A B) (k:Gw B C):Gw A C:=by
 obtain ⟨q,os,rfl⟩:=h
 obtain ⟨q',os',rfl⟩:=k
 exact ⟨q+q',os++os',by simp[grow,World.drewN,Nat.add_assoc,Array.append_assoc]⟩
theorem Gw.drew (W:World):Gw W W.drew:=⟨1,#[],by rw[grow_empty];rfl⟩
theorem Gw.alloc (W:World) (o:Obj):Gw W (W.alloc o):=⟨0,#[o],by rw[alloc_eq_grow];rfl⟩
theorem Ext.gw {W w:World} (h:Ext W w):Gw W w:=by
 obtain ⟨⟨h1,h2,h3,h4,h5⟩,hd⟩:=h
 refine ⟨w.drawn-W.drawn,w.heap.extract W.heap.size w.heap.size,?_⟩
 obtain ⟨hp,tp,dr,os,out⟩:=w
 simp only at *
 have e:hp=W.heap++hp.extract W.heap.size hp.size:=by
  apply Array.ext_getElem?
  intro i
  by_cases hi:i < W.heap.size
  ·rw[h5 i hi,Array.getElem?_append_left hi]
  ·rw[Array.getElem?_append_right (by omega),Array.getElem?_extract]
   by_cases hi2:i < hp.size
   ·rw[if_pos (by omega)]
    congr 1;omega
   ·rw[if_neg (by omega),Array.getElem?_eq_none (by omega)]
 have ed:W.drawn+(dr-W.drawn)=dr:=by omega
 simp only[grow,World.drewN,ed,h1,h2,h3,<- e]
theorem CtL.grows {P:Program} {f:FuncId} {vs:List Value} {w:World} {v:Value} (h:CtL P f vs w fun x Ln=>x=v/\Ln=[]/\True):Calls P f vs.toArray w fun e w'=>e = .returned v/\Gw w w':=by
 obtain ⟨_,h⟩:=h
 refine h.mono ?_
 rintro e w' ⟨v',Ln,rfl,⟨rfl,-,-⟩,-,hh⟩
 exact ⟨rfl,Ext.gw (hh.ok (.old w) (by simp))⟩
end Go.Proofs.YtjfndjmabhbicaaGreat
namespace Go.Proofs.YtjfndjmabhbicaaGreat
open Go Go.RowKit Go.Shelf Go.Sort
variable {α:Type} [Inhabited α]
theorem Ajv {enc:α->List Value} {k:Nat} (hk:∀ x,(enc x).length=k) (h0:0 < k) (d:Array α):flatK enc k d=(d.toList.flatMap enc).toArray:=by
 have hl:(d.toList.flatMap enc).length=d.size*k:=by rw[Jw hk,Array.length_toList]
 apply Array.ext
 ·simp only[size_flatK,List.size_toArray,hl]
 ·intro t h1 h2
  have ht:t < d.size*k:=by simpa using h1
  have hq:t / k < d.size:=by rw[Nat.div_lt_iff_lt_mul h0];exact ht
  have hr:t % k < k:=Nat.mod_lt _ h0
  have hg:=get_flatK enc k d t ht
  rw[getElem!_pos _ t h1] at hg
  rw[hg]
  have hx:(enc d[t / k]!)[t % k]? = some (enc d[t / k]!)[t % k]!:=by
   rw[getElem!_pos (enc d[t / k]!) (t % k) (by rw[hk];exact hr)]
   exact List.getElem?_eq_getElem _
  have hd:d[t / k]! = d.toList[t / k]'(by simpa using hq):=by
   rw[getElem!_pos d _ hq];simp
  rw[hd] at hx ⊢
  have:=Wc (enc:=enc) d.toList (t / k) (by simpa using hq) (fun x _=>hk x) (t % k) _ hx
  rw[Nat.mul_comm,Nat.div_add_mod] at this
  have h3:=(List.getElem?_eq_some_iff.1 this).2
  rw[<- h3]
  simp
theorem App {enc:α->List Value} {k:Nat} (hk:∀ x,(enc x).length=k) (h0:0 < k) {w:World} {g:Nat} {cur:Array Value} {t:TypeId} (d:Array α) (hh:w.heap[g]? = some (.cells cur t (0,0)))
  (hc:cur.toList.take (d.size*k)=d.toList.flatMap enc):HoldsK enc k w g 0 d:=by
 intro j hj
 rw[Ajv hk h0] at hj ⊢
 have hl:(d.toList.flatMap enc).length=d.size*k:=by rw[Jw hk,Array.length_toList]
 have hj':j < d.size*k:=by simpa[hl] using hj
 have hjl:j < (d.toList.flatMap enc).length:=by rw[hl];exact hj'
 refine ⟨?_,?_⟩
 ·have h7:(cur.toList.take (d.size*k))[j]? = (d.toList.flatMap enc)[j]?:=by rw[hc]
  rw[List.getElem?_take,if_pos hj'] at h7
  have h8:cur[j]? = some (d.toList.flatMap enc)[j]:=by rw[<- Array.getElem?_toList,h7];exact List.getElem?_eq_getElem hjl
  have h9:w.cell? ⟨g,0+j,none⟩=cur[j]?:=by simp[World.cell?,hh]
  rw[h9,h8,getElem!_pos _ j hj]
  simp
 ·simp[World.frozen?,hh]
theorem Aev {enc:α->List Value} {k:Nat} (hk:∀ x,(enc x).length=k) (h0:0 < k) {w:World} {g c n:Nat} {cur:Array Value} {t:TypeId} {d d':Array α} {os:Array Obj} (hs:d'.size=d.size) (hh:w.heap[g]? = some (.cells cur t (0,0)))
  (hm:d.size<=c) (hcm:c<=maxLen) (hz:cur.size=c*k) :
  Ent.ok (sortWorldK enc k w g 0 n d' os) (.r (some ⟨g,0,none⟩) d.size c t k (d'.toList.flatMap enc))/\w.grownBy (sortWorldK enc k w g 0 n d' os) (some g):=by
 have hl:(d'.toList.flatMap enc).length=d.size*k:=by rw[Jw hk,Array.length_toList,hs]
 have hlt:=Ek hh
 have hg0:∀ q,q < w.heap.size->(sortWorldK enc k w g 0 n d' os).heap[q]? = (w.heap.modify g (onCells (putCells id 0 (flatK enc k d'))))[q]?:=fun q hq=>by
  show (((Go.Sort.ahead w n).heap.modify g (onCells (putCells id 0 (flatK enc k d'))))++os)[q]? = _
  rw[Array.getElem?_append_left (by rw[Array.size_modify];exact hq)]
  rfl
 refine ⟨⟨hl,.inr ⟨g,c,putCells id 0 (flatK enc k d') cur,rfl,Nat.zero_le _,?_,hm,hcm,?_,?_⟩⟩,⟨rfl,rfl,rfl,?_,fun q hq hne=>?_⟩⟩
 ·rw[hg0 g hlt,Array.getElem?_modify,if_pos rfl,hh];rfl
 ·simp[putCells,hz]
 ·apply List.ext_getElem?
  intro j
  rw[List.getElem?_take]
  by_cases hj:j < d.size*k
  ·rw[if_pos hj]
   have hjl:j < (d'.toList.flatMap enc).length:=by rw[hl];exact hj
   have hjc:j < cur.size:=by
    rw[hz];exact Nat.lt_of_lt_of_le hj (Nat.mul_le_mul_right _ hm)
   have hsz:j < (flatK enc k d').size:=by rw[size_flatK,hs];exact hj
   have h1:(flatK enc k d')[j]! = (d'.toList.flatMap enc)[j]:=by
    rw[Ajv hk h0,getElem!_pos _ j (by simpa using hjl)]
    simp
   rw[Array.getElem?_toList,List.getElem?_eq_getElem hjl]
   simp only[putCells,Array.getElem?_mapIdx,Array.getElem?_eq_getElem hjc,Option.map_some]
   rw[if_pos ⟨Nat.zero_le _,by simpa using hsz⟩]
   simp only[Nat.sub_zero,id,h1]
  ·rw[if_neg hj,List.getElem?_eq_none (by rw[hl];omega)]
 ·show w.heap.size<=(((Go.Sort.ahead w n).heap.modify g (onCells (putCells id 0 (flatK enc k d'))))++os).size
  rw[Array.size_append,Array.size_modify]
  exact Nat.le_add_right _ _
 ·rw[hg0 q hq,Array.getElem?_modify]
  rw[if_neg (fun he=>hne (by rw[he]))]
end Go.Proofs.YtjfndjmabhbicaaGreat
