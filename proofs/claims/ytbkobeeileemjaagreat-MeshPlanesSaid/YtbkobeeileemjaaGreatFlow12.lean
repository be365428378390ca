/- Maps in which entries are also deleted, and ranges over maps. -/
import Derived.Test.YtbkobeeileemjaaGreatFlow11
import Derived.Maps.Range
import Derived.Maps.OwnSet
namespace Go.Proofs.YtbkobeeileemjaaGreat
open Go Go.RowKit
open Go.Maps (Keyed)
section
variable {κ υ:Type}
open Classical in
noncomputable def mdel (m:List (κ × υ)) (x:κ):List (κ × υ):=m.filter fun p=>decide (p.1≠x)
noncomputable def mput (m:List (κ × υ)) (x:κ) (v:υ):List (κ × υ):=(x,v)::mdel m x
def Es (m:List (κ × υ)):Prop:=m.Pairwise fun p q=>p.1≠q.1
theorem Kv {m:List (κ × υ)} {x:κ} {p:κ × υ}:p∈mdel m x↔p∈m∧p.1≠x:=by simp [mdel]
theorem Es.del {m:List (κ × υ)} (h:Es m) (x:κ):Es (mdel m x):=List.Pairwise.filter _ h
theorem Es.put {m:List (κ × υ)} (h:Es m) (x:κ) (v:υ):Es (mput m x v) :=
 List.pairwise_cons.2 ⟨fun q hq=>fun e=>(Kv.1 hq).2 e.symm,h.del x⟩
theorem My:∀ {m:List (κ × υ)} {p:κ × υ},Es m→p∈m→mget m p.1=some p.2
 | q::r,p,h,hp=>by
  obtain ⟨h1,h2⟩:=List.pairwise_cons.1 h
  rcases List.mem_cons.1 hp with rfl | hp
  ·rw [Pe,if_pos rfl]
  ·rw [Pe,if_neg (h1 p hp),My h2 hp]
theorem Hk {x:κ} {v:υ}:∀ {m:List (κ × υ)},mget m x=some v→(x,v)∈m
 | q::r,h=>by
  rw [Pe] at h
  split at h
  ·rename_i e
   cases h
   exact List.mem_cons.2 (.inl (by rw [← e]))
  ·exact List.mem_cons_of_mem _ (Hk h)
theorem Afh {m:List (κ × υ)} (h:Es m) {x:κ} {v:υ}:mget m x=some v↔(x,v)∈m:=⟨Hk,fun hp=>My h hp⟩
open Classical in
theorem Pk {m:List (κ × υ)} {x y:κ} (h:Es m):mget (mdel m x) y=if y=x then none else mget m y:=by
 by_cases e:y=x
 ·simp only [e,if_true]
  cases hg:mget (mdel m x) x with
  | none=>rfl
  | some v=>exact absurd rfl (Kv.1 (Hk hg)).2
 ·simp only [e,if_false]
  cases hg:mget m y with
  | some v=>exact (Afh (h.del x)).2 (Kv.2 ⟨Hk hg,e⟩)
  | none =>
   cases hg':mget (mdel m x) y with
   | none=>rfl
   | some v=>rw [(Afh h).2 (Kv.1 (Hk hg')).1] at hg;cases hg
open Classical in
theorem Pm {m:List (κ × υ)} {x y:κ} {v:υ} (h:Es m):mget (mput m x v) y=if y=x then some v else mget m y:=by
 unfold mput
 rw [Pe]
 by_cases e:y=x
 ·simp [e]
 ·have:¬ (x=y):=fun e'=>e e'.symm
  simp only [this,e,if_false]
  rw [Pk h,if_neg e]
noncomputable def ent2 (P:Program) (k:TypeId) (ke:κ→Value) (ve:υ→Value) (p:κ × υ):Lit × DataW Value:=(klOf P k (ke p.1),.held (ve p.2))
noncomputable def Pn (P:Program) (k:TypeId) (ke:κ→Value) (ve:υ→Value) (m:List (κ × υ)):DataW Value:=.map ((m.map (ent2 P k ke ve)).foldr DataW.insert [])
def Oj (P:Program) (k:TypeId) (ke:κ→Value) (m:List (κ × υ)):Prop:=∀ p∈m,(keyOf P k (ke p.1)).isSome=true
/-- The block b holds the map m (the order of the list says nothing). -/
def Th (P:Program) (k:TypeId) (ke:κ→Value) (ve:υ→Value) (b:Nat) (m:List (κ × υ)) (w:World):Prop :=
 Oj P k ke m∧Es m∧w.ownsMap P k RV b m.length (Pn P k ke ve m)
def Ay (P:Program) (k:TypeId) (ke:κ→Value) (ve:υ→Value) (b:Nat) (m:List (κ × υ)):Ent:=.f [b] (Th P k ke ve b m)
variable {P:Program} {k:TypeId} {ke:κ→Value} {ve:υ→Value} {b:Nat} {m:List (κ × υ)}
theorem Th.still {w w':World} (h:Th P k ke ve b m w) (hb:w'.heap[b]? = w.heap[b]?):Th P k ke ve b m w':=by
 obtain ⟨h1,h0,es,clock,h2,h3⟩:=h
 exact ⟨h1,h0,es,clock,by rw [hb];exact h2,h3⟩
theorem Wj {w:World} (h:Th P k ke ve b m w):Ent.ok w (Ay P k ke ve b m) :=
 ⟨fun g hg=>by simp at hg;subst hg;exact h.2.2.lt,h,fun w1 w2 h1 h2=>h1.still (h2 b (by simp))⟩
theorem Aab (K:Keyed P k) (hke:∀ x y,ke x=ke y→x=y) {x y:κ} (hx:(keyOf P k (ke x)).isSome=true) (hy:(keyOf P k (ke y)).isSome=true) (h:x≠y):klOf P k (ke x)≠klOf P k (ke y):=fun e =>
 h (hke _ _ (K.inj (Ih hx) (by rw [e];exact Ih hy)))
theorem Afi (K:Keyed P k) (hke:∀ x y,ke x=ke y→x=y):∀ {m:List (κ × υ)},Oj P k ke m→Es m→Pn P k ke ve m=mapD P k ke ve m
 | [],_,_=>rfl
 | p::r,h,ho=>by
  obtain ⟨h1,h2⟩:=List.pairwise_cons.1 ho
  have ih:=Afi K hke (m:=r) (fun q hq=>h q (List.mem_cons_of_mem _ hq)) h2
  unfold mapD
  rw [← ih]
  show DataW.map _=DataW.map _
  congr 1
  show DataW.insert _ _=DataW.insert _ _
  congr 1
  refine (List.filter_eq_self.2 fun q hq=>?_).symm
  obtain ⟨z,hz,rfl⟩:=List.mem_map.1 ((WideShapes.sorted_perm _).mem_iff.1 hq)
  have:=Aab K hke (h z (List.mem_cons_of_mem _ hz)) (h p List.mem_cons_self) (fun e=>h1 z hz e.symm)
  simp [ent2,Maps.sameKey_ne this]
theorem Aa2 (K:Keyed P k) (hke:∀ x y,ke x=ke y→x=y) {x:κ} (hx:(keyOf P k (ke x)).isSome=true) (z:Value) (h:Oj P k ke m) (ho:Es m) :
  (Pn P k ke ve m).atKey (klOf P k (ke x)) (.held z) = .held (mval ve z (mget m x))∧Maps.has (Pn P k ke ve m) (klOf P k (ke x))=(mget m x).isSome:=by
 rw [Afi K hke h ho]
 exact Ac7 K hke hx z h
theorem Acv (K:Keyed P k) (hke:∀ x y,ke x=ke y→x=y) {x:κ} (hx:(keyOf P k (ke x)).isSome=true) (h:Oj P k ke m) (ho:Es m) :
  (Pn P k ke ve m).del (klOf P k (ke x))=Pn P k ke ve (mdel m x):=by
 unfold Pn
 rw [DataW.del_eq]
 congr 1
 refine (Maps.sorted_del K.one (E:=m.map (ent2 P k ke ve)) (fun p hp=>?_) ?_ ?_).symm
 ·obtain ⟨z,hz,rfl⟩:=List.mem_map.1 hp
  exact ⟨_,Ih (h z hz)⟩
 ·rw [List.pairwise_map]
  exact List.Pairwise.imp_of_mem (fun hp hq e=>Aab K hke (h _ hp) (h _ hq) e) ho
 ·rw [List.filter_map]
  refine List.Perm.of_eq ?_
  congr 1
  unfold mdel
  refine List.filter_congr fun p hp=>?_
  show _ = !((klOf P k (ke p.1)).sameKey (klOf P k (ke x)))
  by_cases e:p.1=x
  ·subst e
   rw [WideAt.sameKey_self (K.key (Ih hx))]
   simp
  ·rw [Maps.sameKey_ne (Aab K hke (h p hp) hx e)]
   simp [e]
theorem Ajh (K:Keyed P k) (hke:∀ x y,ke x=ke y→x=y) {x:κ} {v:υ} (hx:(keyOf P k (ke x)).isSome=true) (h:Oj P k ke m) (ho:Es m) :
  (Pn P k ke ve m).put (klOf P k (ke x)) (.held (ve v))=Pn P k ke ve (mput m x v):=by
 have hd:=Acv (ve:=ve) K hke hx h ho
 unfold Pn at hd ⊢
 rw [DataW.del_eq] at hd
 have hd':=DataW.map.inj hd
 show DataW.map (DataW.insert _ (ChangeMaps.delKey _ _))=_
 rw [hd']
 rfl
theorem Vd {H:Type} {R:Value→Option (DataW H × List MemPlace)} {w:World} {n:Nat} {D:DataW H} (h:w.ownsMap P k R b n D):w.ownsMap P k R b (Maps.size D) D:=by
 obtain ⟨es,clock,hb,F,_,rfl⟩:=h
 exact ⟨es,clock,hb,F,by simp [Maps.size,Go.length_sorted],rfl⟩
theorem Vk (m:List (κ × υ)):Maps.size (Pn P k ke ve m)=m.length:=by simp [Pn,Maps.size,Go.length_sorted]
theorem Oj.del (h:Oj P k ke m) (x:κ):Oj P k ke (mdel m x):=fun p hp=>h p (Kv.1 hp).1
theorem Oj.put (h:Oj P k ke m) {x:κ} (hx:(keyOf P k (ke x)).isSome=true) (v:υ):Oj P k ke (mput m x v):=fun p hp=>by
 rcases List.mem_cons.1 hp with rfl | hp
 ·exact hx
 ·exact h.del x p hp
end
/-! ### the operations -/
section
variable {κ υ:Type} {P:Program} {k:TypeId} {ke:κ→Value} {ve:υ→Value} {b:Nat} {m:List (κ × υ)}
variable {n:Nat} {fr:List (Nat × Value)} {L:List Ent} {N:Act→World→Prop} {Q:Exit→Act→World→Prop} {d:Nat} {dst:Option Tmp} {ty:TypeId} {pos:String} {after:Array Edge} {guard:Option (Nat × Bool)}
theorem Heap.allocMap2 {w:World} (h:Heap L w):Heap (Ay P k ke ve w.heap.size []::L) (w.alloc (.map #[] 0)):=by
 have hx:=Oy w (.map #[] 0)
 refine ⟨fun e he=>?_,?_⟩
 ·rcases List.mem_cons.1 he with rfl | he
  ·exact Wj ⟨fun p hp=>by simp at hp,List.Pairwise.nil,World.ownsMap_made w P k RV⟩
  ·exact Ent.ext (h.ok e he) hx
 ·rw [List.pairwise_cons]
  refine ⟨fun x hx=>⟨fun g hg=>?_,fun g hg=>⟨Nat.zero_le _,fun he=>?_⟩⟩,h.sep⟩
  ·have hg:g∈[w.heap.size]:=hg
   simp at hg
   subst hg
   exact ⟨Ent.lo_le (h.ok x hx),fun he=>by have:=Ent.lt (h.ok x hx) he;omega⟩
  ·have he:g∈[w.heap.size]:=he
   simp at he
   have:=Ent.lt (h.ok x hx) hg;omega
theorem Tk (P':Program) (k:TypeId) (ke:κ→Value) (ve:υ→Value) {t:TypeId} (hd:Nat.blt d n=true) (kk:∀ g,T n N ((d,.map (some g))::fr) (Ay P' k ke ve g []::L)) :
  Wx P Q n ⟨some d,.makeMap t none,ty,pos,after,guard⟩ fr L N:=by
 intro a w ha hw
 have hrun:(execOp a.eval ⟨some d,.makeMap t none,ty,pos,after,guard⟩).run P w = .ok (.value (.map (some w.heap.size))) (w.alloc (.map #[] 0)):=by
  simp [execOp,run_makeMap]
 simp only [Oper.wp,hrun,Oper.upon_value]
 exact ⟨Oy w _,kk _ _ _ (ha.put hd) hw.allocMap2⟩
theorem Ads (P':Program) (k:TypeId) (ke:κ→Value) (ve:υ→Value) {t kt et:TypeId} {x:Operand} {q:IntKind} {z:Int} (ht:P.underlying t=some (.map kt et)) (hx:evo fr x=some (.int q z)) (hd:Nat.blt d n=true) (kk:∀ g,T n N ((d,.map (some g))::fr) (Ay P' k ke ve g []::L)) :
  Wx P Q n ⟨some d,.makeMap t (some x),ty,pos,after,guard⟩ fr L N:=by
 intro a w ha hw
 have hrun:(execOp a.eval ⟨some d,.makeMap t (some x),ty,pos,after,guard⟩).run P w = .ok (.value (.map (some w.heap.size))) (w.alloc (.map #[] 0)):=by
  simp [execOp,Instr.makeMap,ha.eval hx,run_underlying ht,asInt,asIntOf,Result.andThen]
 simp only [Oper.wp,hrun,Oper.upon_value]
 exact ⟨Oy w _,kk _ _ _ (ha.put hd) hw.allocMap2⟩
/-- The entry e says that the block g holds the map m. -/
def Tl (P:Program) (k:TypeId) (ke:κ→Value) (ve:υ→Value) (g:Nat) (m:List (κ × υ)) (e:Ent):Prop:=∀ w,Ent.ok w e→Th P k ke ve g m w
theorem Il:Tl P k ke ve b m (Ay P k ke ve b m):=fun _ h=>h.2.1
theorem Ao0 {t e:TypeId} {g:Nat} {x:κ} {z:Value} {ok:Bool} {w:World} (K:Keyed P k) (ht:P.underlying t=some (.map k e)) (hz:(zeroValue e).run P w = .ok z w) (hke:∀ x y,ke x=ke y→x=y)
  (hM:Th P k ke ve g m w) (hx:(keyOf P k (ke x)).isSome=true) :
  (Instr.lookup t (.map (some g)) (ke x) ok).run P w = .ok (if ok then .tuple #[mval ve z (mget m x),.bool (mget m x).isSome] else mval ve z (mget m x)) w:=by
 have hl:=Aa2 (ve:=ve) K hke hx z hM.1 hM.2.1
 cases ok with
 | true =>
  obtain ⟨v,ps,hrun,hv⟩:=hM.2.2.look_ok K ht hz (zd:=.held z) (zp:=[]) rfl (Ih hx)
  rw [hl.1] at hv
  rw [hl.2] at hrun
  have hvv:v=mval ve z (mget m x):=by
   have:=congrArg (fun o=>o.map Prod.fst) hv
   simpa [RV] using this
  rw [hvv] at hrun
  simpa using hrun
 | false =>
  obtain ⟨es,clock,hb,F,_,hD⟩:=hM.2.2
  have key:∃ v ps,(Instr.lookup t (.map (some g)) (ke x) false).run P w = .ok v w∧RV v=some ((Pn P k ke ve m).atKey (klOf P k (ke x)) (.held z),ps):=by
   rw [hD]
   rcases Maps.fit_look false K ht hz hb F (Ih hx) with ⟨hrun,_,hat⟩ | ⟨e0,y,_,_,hrun,hRv,hat,_⟩
   ·exact ⟨z,[],by simpa using hrun,by rw [hat];rfl⟩
   ·exact ⟨e0.val,y.2,by simpa using hrun,by rw [hat];exact hRv⟩
  obtain ⟨v,ps,hrun,hv⟩:=key
  rw [hl.1] at hv
  have hvv:v=mval ve z (mget m x):=by
   have:=congrArg (fun o=>o.map Prod.fst) hv
   simpa [RV] using this
  rw [hvv] at hrun
  simpa using hrun
theorem Afj {t e:TypeId} {g:Nat} {mo ko:Operand} {x:κ} {i:Nat} {z0 u:υ} {kv vv:Value} {en:Ent} (K:Keyed P k) (ht:P.underlying t=some (.map k e)) (hz:∀ w,(zeroValue e).run P w = .ok (ve z0) w) (hke:∀ x y,ke x=ke y→x=y)
  (hm:evo fr mo=some (.map (some g))) (hk:evo fr ko=some kv) (hkv:kv=ke x) (hL:nthE L i=some en) (hH:Tl P k ke ve g m en) (hx:(keyOf P k (ke x)).isSome=true) (hu:some ((mget m x).getD z0)=some u) (hvv:vv=ve u) :
  Ev P n ⟨dst,.lookup t mo ko false,ty,pos,after,guard⟩ fr L vv:=fun a w ha hw=>by
 subst hkv;subst hvv
 have:=Ao0 (ok:=false) K ht (hz w) hke (hH w (hw _ (Xl hL))) hx
 simp only [Bool.false_eq_true,if_false] at this
 rw [Ac8 (ve:=ve) hu] at this
 simp [execOp,ha.eval hm,ha.eval hk,this]
theorem Mf {t e:TypeId} {g:Nat} {mo ko:Operand} {x:κ} {i:Nat} {z0 u:υ} {kv vv:Value} {en:Ent} (K:Keyed P k) (ht:P.underlying t=some (.map k e)) (hz:∀ w,(zeroValue e).run P w = .ok (ve z0) w) (hke:∀ x y,ke x=ke y→x=y)
  (hm:evo fr mo=some (.map (some g))) (hk:evo fr ko=some kv) (hkv:kv=ke x) (hL:nthE L i=some en) (hH:Tl P k ke ve g m en) (hx:(keyOf P k (ke x)).isSome=true) (hu:some ((mget m x).getD z0)=some u) (hvv:vv=ve u) :
  Ev P n ⟨dst,.lookup t mo ko true,ty,pos,after,guard⟩ fr L (.tuple #[vv,.bool (mget m x).isSome]):=fun a w ha hw=>by
 subst hkv;subst hvv
 have:=Ao0 (ok:=true) K ht (hz w) hke (hH w (hw _ (Xl hL))) hx
 simp only [if_true] at this
 rw [Ac8 (ve:=ve) hu] at this
 simp [execOp,ha.eval hm,ha.eval hk,this]
theorem Sc {t e:TypeId} {g:Nat} {mo ko vo:Operand} {kv vv:Value} {x:κ} {y:υ} {i:Nat} {L':List Ent} (K:Keyed P k) (hke:∀ x y,ke x=ke y→x=y) (ht:P.underlying t=some (.map k e))
  (hm:evo fr mo=some (.map (some g))) (hk:evo fr ko=some kv) (hkv:kv=ke x) (hv:evo fr vo=some vv) (hvv:vv=ve y) (hL:SetE L i (Ay P k ke ve g m) (Ay P k ke ve g (mput m x y)) L') (hx:(keyOf P k (ke x)).isSome=true) (hn:m.length < maxLen)
  (kk:T n N fr L'):Wh P Q n ⟨none,.mapUpdate t mo ko vo,ty,pos,after,guard⟩ fr L N:=by
 intro a w ha hw
 subst hkv;subst hvv
 obtain ⟨_,hM,_⟩:=hw.ok _ hL.mem
 obtain ⟨w',hrun,hown,hg⟩:=hM.2.2.update K ht hn (Ih hx) (val:=ve y) (d:=.held (ve y)) (ps:=[]) rfl
 have hex:(execOp a.eval ⟨none,.mapUpdate t mo ko vo,ty,pos,after,guard⟩).run P w = .ok .skip w':=by
  simp [execOp,ha.eval hm,ha.eval hk,ha.eval hv,hrun,Result.andThen]
 simp only [Oper.wp,hex,Oper.upon_skip]
 rw [Ajh K hke hx hM.1 hM.2.1] at hown
 have hown:=Vd hown
 rw [Vk] at hown
 exact kk _ _ ha (Heap.turnO (e:=Ay P k ke ve g m) (e':=Ay P k ke ve g (mput m x y)) hg (fun g' hg'=>by cases hg';exact List.mem_singleton.2 rfl) (Wj ⟨hM.1.put hx y,hM.2.1.put x y,hown⟩) (Nat.le_refl _) (fun g' hg'=>.inl hg') hL hw)
/-- 'delete(m, k)'. -/
theorem Sd {t e:TypeId} {g:Nat} {mo ko:Operand} {kv:Value} {x:κ} {i:Nat} {L':List Ent} (K:Keyed P k) (hke:∀ x y,ke x=ke y→x=y) (ht:P.underlying t=some (.map k e))
  (hm:evo fr mo=some (.map (some g))) (hk:evo fr ko=some kv) (hkv:kv=ke x) (hL:SetE L i (Ay P k ke ve g m) (Ay P k ke ve g (mdel m x)) L') (hx:(keyOf P k (ke x)).isSome=true)
  (kk:T n N fr L'):Wh P Q n ⟨none,.call ⟨.builtin .delete,#[mo,ko],#[t,k]⟩,ty,pos,after,guard⟩ fr L N:=by
 intro a w ha hw
 subst hkv
 obtain ⟨_,hM,_⟩:=hw.ok _ hL.mem
 obtain ⟨w',hrun,hown,hg⟩:=hM.2.2.drop K ht (Ih hx) ty
 have hex:(execOp a.eval ⟨none,.call ⟨.builtin .delete,#[mo,ko],#[t,k]⟩,ty,pos,after,guard⟩).run P w = .ok (.value (.tuple #[])) w':=by
  simp [execOp,resolve,invoke,builtin,ha.eval hm,ha.eval hk,hrun,Result.andThen]
 simp only [Oper.wp,hex,Oper.upon_value]
 rw [Acv K hke hx hM.1 hM.2.1] at hown
 have hown:=Vd hown
 rw [Vk] at hown
 exact kk _ _ ha (Heap.turnO (e:=Ay P k ke ve g m) (e':=Ay P k ke ve g (mdel m x)) hg.grown (fun g' hg'=>by cases hg';exact List.mem_singleton.2 rfl) (Wj ⟨hM.1.del x,hM.2.1.del x,hown⟩) (Nat.le_refl _) (fun g' hg'=>.inl hg') hL hw)
/-- 'len(m)'. -/
theorem Aa3 {t e:TypeId} {g:Nat} {mo:Operand} {i:Nat} {en:Ent} (ht:P.underlying t=some (.map k e)) (hm:evo fr mo=some (.map (some g))) (hL:nthE L i=some en) (hH:Tl P k ke ve g m en) :
  Ev P n ⟨dst,.call ⟨.builtin .len,#[mo],#[t]⟩,ty,pos,after,guard⟩ fr L (.int .i64 (m.length:Int)):=fun a w ha hw=>by
 have hM:=hH w (hw _ (Xl hL))
 have hl:=hM.2.2.len (t:=t) ht ty
 rw [Vk] at hl
 simp [execOp,resolve,invoke,builtin,ha.eval hm,hl,Result.andThen]
/-! ### ranges over a map -/
/-- The block r is an iterator over the map m in the block b; the pairs of l are still to come; c is the pair that came last. -/
def Wk (P:Program) (k:TypeId) (ke:κ→Value) (ve:υ→Value) (b r:Nat) (m l:List (κ × υ)) (c:Option (κ × υ)) (w:World):Prop :=
 Oj P k ke m∧Es m∧Es l∧(∀ p∈l,p∈m)∧(∃ lf cnt,w.ranges P k RV b r m.length (Pn P k ke ve m) lf cnt∧∀ kl,lf kl=true↔∃ p∈l,klOf P k (ke p.1)=kl) ∧
 ∀ p,c=some p→(Instr.entry (.pointer (some ⟨r,0,none⟩))).run P w = .ok (.tuple #[ke p.1,ve p.2]) w
def rngE (P:Program) (k:TypeId) (ke:κ→Value) (ve:υ→Value) (b r:Nat) (m l:List (κ × υ)) (c:Option (κ × υ)):Ent:=.f [b,r] (Wk P k ke ve b r m l c)
theorem Afk {r:Nat} {w w':World} {es:Array MapEntry} {clock since c0:Nat} {seen:Array Nat} {v:Value} (hb:w.heap[b]? = some (.map es clock)) (hr:w.heap[r]? = some (.mapIter (some b) since seen c0)) (hb':w'.heap[b]? = w.heap[b]?) (hr':w'.heap[r]? = w.heap[r]?)
  (h:(Instr.entry (.pointer (some ⟨r,0,none⟩))).run P w = .ok v w):(Instr.entry (.pointer (some ⟨r,0,none⟩))).run P w' = .ok v w':=by
 rw [hb] at hb'
 rw [hr] at hr'
 simp only [Instr.entry,getObj,Sem.run_bind,Sem.run,hr,hb,hr',hb',Result.andThen] at h ⊢
 cases hs:seen.back? with
 | none=>simp only [hs] at h;cases h
 | some st =>
  simp only [hs,getObj,Sem.run_bind,Sem.run,hb,hb',Result.andThen] at h ⊢
  by_cases hc:(clock != c0)=true
  ·simp only [hc,if_true] at h;cases h
  ·simp only [hc,Bool.false_eq_true,if_false] at h ⊢
   cases hf:es.find? (·.born == st) with
   | none=>simp only [hf] at h;cases h
   | some e =>
    simp only [hf] at h ⊢
    cases h
    rfl
theorem Wk.still {r:Nat} {l:List (κ × υ)} {c:Option (κ × υ)} {w w':World} (h:Wk P k ke ve b r m l c w) (hb:w'.heap[b]? = w.heap[b]?) (hr:w'.heap[r]? = w.heap[r]?):Wk P k ke ve b r m l c w':=by
 obtain ⟨h1,h2,h3,h4,⟨lf,cnt,⟨es,clock,since,seen,c0,g1,g2,g3,g4,g5,g6⟩,h5⟩,h6⟩:=h
 refine ⟨h1,h2,h3,h4,⟨lf,cnt,⟨es,clock,since,seen,c0,by rw [hb];exact g1,g2,g3,g4,by rw [hr];exact g5,g6⟩,h5⟩,fun p hp=>Afk g1 g5 hb hr (h6 p hp)⟩
theorem Ahx {r:Nat} {l:List (κ × υ)} {c:Option (κ × υ)} {w:World} (h:Wk P k ke ve b r m l c w):Ent.ok w (rngE P k ke ve b r m l c):=by
 refine ⟨fun g hg=>?_,h,fun w1 w2 h1 h2=>h1.still (h2 b (by simp)) (h2 r (by simp))⟩
 obtain ⟨_,_,_,_,⟨lf,cnt,hr,_⟩,_⟩:=h
 rcases List.mem_cons.1 hg with rfl | hg
 ·exact hr.owns.lt
 ·rw [List.mem_singleton.1 hg];exact hr.lt
theorem Wk.map {r:Nat} {l:List (κ × υ)} {c:Option (κ × υ)} {w:World} (h:Wk P k ke ve b r m l c w):Th P k ke ve b m w:=by
 obtain ⟨h1,h2,_,_,⟨lf,cnt,hr,_⟩,_⟩:=h
 exact ⟨h1,h2,hr.owns⟩
theorem Aa4 {r:Nat} {l:List (κ × υ)} {c:Option (κ × υ)}:Tl P k ke ve b m (rngE P k ke ve b r m l c):=fun _ h=>h.2.1.map
/-- 'range m'. -/
theorem Xr {t e:TypeId} {g:Nat} {mo:Operand} {i:Nat} {L':Nat→List Ent} (K:Keyed P k) (hke:∀ x y,ke x=ke y→x=y) (ht:P.underlying t=some (.map k e)) (hm:evo fr mo=some (.map (some g)))
  (hL:∀ r,SetE L i (Ay P k ke ve g m) (rngE P k ke ve g r m m none) (L' r)) (hd:Nat.blt d n=true)
  (kk:∀ r,T n N ((d,.pointer (some ⟨r,0,none⟩))::fr) (L' r)):Wx P Q n ⟨some d,.range t mo,ty,pos,after,guard⟩ fr L N:=by
 intro a w ha hw
 obtain ⟨_,hM,_⟩:=hw.ok _ (hL 0).mem
 obtain ⟨w',hrun,hrg,hg,hsz⟩:=hM.2.2.range K ht
 have hex:(execOp a.eval ⟨some d,.range t mo,ty,pos,after,guard⟩).run P w = .ok (.value (.pointer (some ⟨w.heap.size,0,none⟩))) w':=by
  simp [execOp,ha.eval hm,hrun]
 simp only [Oper.wp,hex,Oper.upon_value]
 have hR:Wk P k ke ve g w.heap.size m m none w':=by
  refine ⟨hM.1,hM.2.1,hM.2.1,fun p hp=>hp,⟨_,_,hrg,fun kl=>?_⟩,fun p hp=>by cases hp⟩
  unfold Pn
  rw [Maps.has_eq,List.any_eq_true]
  constructor
  ·rintro ⟨q,hq,hqk⟩
   obtain ⟨p,hp,rfl⟩:=List.mem_map.1 ((WideShapes.sorted_perm _).mem_iff.1 hq)
   exact ⟨p,hp,WideAt.sameKey_eq hqk⟩
  ·rintro ⟨p,hp,rfl⟩
   exact ⟨ent2 P k ke ve p,(WideShapes.sorted_perm _).mem_iff.2 (List.mem_map.2 ⟨p,hp,rfl⟩),WideAt.sameKey_self (K.key (Ih (hM.1 p hp)))⟩
 refine ⟨?_,kk w.heap.size _ _ (ha.put hd) (Heap.turnO (e:=Ay P k ke ve g m) (e':=rngE P k ke ve g w.heap.size m m none) (row:=none) hg (fun g' hg'=>by cases hg') (Ahx hR) (Nat.le_refl _) (fun g' hg'=>?_) (hL _) hw)⟩
 ·exact ⟨⟨hg.os,hg.tape,hg.output,hg.size,fun i hi=>hg.block i hi (by simp)⟩,by first | exact Nat.le_refl _ | exact Agm (by assumption)⟩
 ·rcases List.mem_cons.1 hg' with rfl | hg'
  ·exact .inl (List.mem_singleton.2 rfl)
  ·rw [List.mem_singleton.1 hg'];exact .inr (Nat.le_refl _)
/-- The next pair, in an order that nobody knows. -/
theorem Aa5 {g r:Nat} {it:Operand} {i:Nat} {l:List (κ × υ)} {c:Option (κ × υ)} {L':List (κ × υ)→Option (κ × υ)→List Ent} (K:Keyed P k) (hke:∀ x y,ke x=ke y→x=y) (hve:∀ x y,ve x=ve y→x=y)
  (hit:evo fr it=some (.pointer (some ⟨r,0,none⟩))) (hL:∀ l' c',SetE L i (rngE P k ke ve g r m l c) (rngE P k ke ve g r m l' c') (L' l' c')) (hd:Nat.blt d n=true)
  (kN:l=[]→T n N ((d,.tuple #[.bool false])::fr) L)
  (kS:∀ p,p∈l→T n N ((d,.tuple #[.bool true,ke p.1,ve p.2])::fr) (L' (mdel l p.1) (some p))):Wh P Q n ⟨some d,.next it false,ty,pos,after,guard⟩ fr L N:=by
 intro a w ha hw
 have hok:=hw.ok _ (hL [] none).mem
 obtain ⟨_,⟨h1,h2,h3,h4,⟨lf,cnt,hr,h5⟩,_⟩,_⟩:=hok
 rcases hr.next K ty with ⟨_,h0,hrun⟩ | ⟨key,v,kl,y,w',cnt',hkey,hlk,hv,hat,hrun,hrg,_,hgr,hsz,hen⟩
 ·have hl:l=[]:=by
   cases l with
   | nil=>rfl
   | cons p q=>have:=(h5 (klOf P k (ke p.1))).2 ⟨p,List.mem_cons_self,rfl⟩;rw [h0] at this;cases this
  have hex:(execOp a.eval ⟨some d,.next it false,ty,pos,after,guard⟩).run P w = .ok (.value (.tuple #[.bool false])) w:=by
   simp [execOp,ha.eval hit,hrun,Result.andThen]
  simp only [Oper.wp,hex,Oper.upon_value]
  exact kN hl _ _ (ha.put hd) hw
 ·obtain ⟨p,hp,hpk⟩:=(h5 kl).1 hlk
  have hx:=h1 p (h4 p hp)
  have hkk:key=ke p.1:=K.inj hkey (by rw [← hpk];exact Ih hx)
  subst hkk
  have hvv:v=ve p.2:=by
   have e1:=hat (.held v)
   rw [← hpk,(Aa2 (ve:=ve) K hke hx v h1 h2).1,My h2 (h4 p hp)] at e1
   unfold RV at hv
   have hv:=Option.some.inj hv
   rw [← hv] at e1
   exact (DataW.held.inj e1).symm
  subst hvv
  have hex:(execOp a.eval ⟨some d,.next it false,ty,pos,after,guard⟩).run P w = .ok (.value (.tuple #[.bool true,ke p.1,ve p.2])) w':=by
   simp [execOp,ha.eval hit,hrun,Result.andThen]
  simp only [Oper.wp,hex,Oper.upon_value]
  have hR:Wk P k ke ve g r m (mdel l p.1) (some p) w':=by
   refine ⟨h1,h2,h3.del _,fun q hq=>h4 q (Kv.1 hq).1,⟨_,_,hrg,fun kl'=>?_⟩,fun q hq=>by cases hq;exact hen⟩
   simp only [Bool.and_eq_true,Bool.not_eq_true',h5 kl']
   constructor
   ·rintro ⟨⟨q,hq,rfl⟩,hs⟩
    refine ⟨q,Kv.2 ⟨hq,fun e=>?_⟩,rfl⟩
    rw [e,hpk,WideAt.sameKey_self (K.key hkey)] at hs
    cases hs
   ·rintro ⟨q,hq,rfl⟩
    obtain ⟨q1,q2⟩:=Kv.1 hq
    refine ⟨⟨q,q1,rfl⟩,?_⟩
    rw [← hpk]
    exact Maps.sameKey_ne (Aab K hke (h1 q (h4 q q1)) hx q2)
  exact kS p hp _ _ (ha.put hd) (Heap.turnO (e:=rngE P k ke ve g r m l c) (e':=rngE P k ke ve g r m (mdel l p.1) (some p)) (row:=some r) hgr (fun g' hg'=>by cases hg';exact List.mem_cons_of_mem _ (List.mem_singleton.2 rfl)) (Ahx hR) (Nat.le_refl _) (fun g' hg'=>.inl hg') (hL _ _) hw)
theorem Xs {g r:Nat} {it:Operand} {i:Nat} {l:List (κ × υ)} {p:κ × υ} {kv vv:Value} (hit:evo fr it=some (.pointer (some ⟨r,0,none⟩))) (hL:nthE L i=some (rngE P k ke ve g r m l (some p))) (hk:kv=ke p.1) (hv:vv=ve p.2) :
  Ev P n ⟨dst,.entry it,ty,pos,after,guard⟩ fr L (.tuple #[kv,vv]):=fun a w ha hw=>by
 subst hk;subst hv
 obtain ⟨_,hR,_⟩:=hw _ (Xl hL)
 have:=hR.2.2.2.2.2 p rfl
 simp [execOp,ha.eval hit,this]
/-- The iterator is let go. -/
theorem Vl {N:Act→World→Prop} {g r:Nat} {i:Nat} {l:List (κ × υ)} {c:Option (κ × υ)} {L':List Ent} (hL:SetE L i (rngE P k ke ve g r m l c) (Ay P k ke ve g m) L') (kk:T n N fr L'):T n N fr L:=by
 intro a w ha hw
 obtain ⟨_,hR,_⟩:=hw.ok _ hL.mem
 exact kk a w ha (Heap.turnO (e:=rngE P k ke ve g r m l c) (e':=Ay P k ke ve g m) (row:=none) ⟨rfl,rfl,rfl,Nat.le_refl _,fun _ _ _=>rfl⟩ (fun g' hg'=>by cases hg') (Wj hR.map) (Nat.le_refl _) (fun g' hg'=>.inl (by rw [List.mem_singleton.1 hg'];exact List.mem_cons_self)) hL hw)
end
end Go.Proofs.YtbkobeeileemjaaGreat
