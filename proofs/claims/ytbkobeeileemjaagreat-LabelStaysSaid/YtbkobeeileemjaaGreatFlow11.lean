/- Ranges over functions: regions that call yield, rounds, the statement. -/
import Derived.Test.YtbkobeeileemjaaGreatFlow8
import Derived.RangeFuncRecord
import Derived.TacticsIn
import Derived.RangeFuncSeq
import Derived.Lib.LazyBuf
import Derived.ChangeKeysEq
import Derived.DeepKeys
namespace Go.Proofs.YtbkobeeileemjaaGreat
open Go Go.RowKit
/-- The fence without bars, in the round of a loop. -/
def FL (ro:Option Nat):Fence:={ Fence.wide with round:=ro }
/-- What N says, with these deferred calls. -/
def Dp (ds:List Deferred) (N:Act→World→Prop) (a:Act) (w:World):Prop:=a.defers=[]∧N { a with defers:=ds } w
theorem Ahv {a:Act} {ds:List Deferred} {d:Option Tmp} {v:Value}:({ a with defers:=ds }:Act).put d v = { (a.put d v) with defers:=ds }:=by cases d <;> rfl
theorem Axh {a:Act} {d:Option Tmp} {v:Value}:(a.put d v).defers=a.defers:=by cases d <;> rfl
theorem Ak4 {a:Act} {ds:List Deferred}:({ a with defers:=ds }:Act).eval=a.eval:=by funext x;cases x <;> rfl
theorem Asd {ro:Option Nat} {m:Nat} {P:Program} {row:String} {args:Array Value} {w:World} {R:Value→World→Prop} (h:Rows P row args w R):RowsIn (FL ro) m P row args w R:=fun c cs _=>by
 obtain ⟨v,w',h1,h2⟩:=h c cs
 exact ⟨v,w',h1,(StepsIn.of_steps h2).mono fun x _=>fenced_wide P x⟩
theorem Ahw {ro:Option Nat} {m:Nat} {P:Program} {f:FuncId} {args:Array Value} {w:World} {R:Ending→World→Prop} (h:Calls P f args w R):CallsIn (FL ro) m P f args w R:=(callsIn_wide (n:=m)).2 h
theorem Axi {P:Program} {ro:Option Nat} {m:Nat} {o:Oper} {a:Act} {ds:List Deferred} {N:Act→World→Prop} {Q:Exit→Act→World→Prop} {r:Result Next}
  (h:o.upon P a (Dp ds N) (fun _ _ _=>False) r):o.uponIn (FL ro) m P { a with defers:=ds } N Q r:=by
 unfold Oper.upon at h
 split at h
 ·rw [Oper.uponIn_value,Ahv];exact h.2
 ·rw [Oper.uponIn_skip,Ahv];exact h.2
 ·have:=h.1;rw [Axh] at this;cases this
 ·rw [Oper.uponIn_enter]
  refine ⟨(fun h=>nomatch h),Ahw (h.mono ?_)⟩
  intro e w' he
  cases e with
  | returned v=>have:=he.2;rw [← Ahv] at this;exact this
  | panicked c=>exact he.elim
  | outgrown=>obtain ⟨_,_,h⟩:=he;exact h.elim
 ·rw [Oper.uponIn_row]
  refine ⟨(fun h=>nomatch h),Asd (h.mono ?_)⟩
  intro v w' he
  have:=he.2;rw [← Ahv] at this;exact this
 ·exact h.elim
 ·exact h.elim
section
variable {P:Program} {n m:Nat} {ro:Option Nat} {ds:List Deferred} {ops:Array Oper} {Q:Exit→Act→World→Prop} {fr:List (Nat × Value)} {L:List Ent} {rest:List Oper} {N:Act→World→Prop}
variable {dst:Option Tmp} {d:Nat} {op:Op} {ty:TypeId} {pos:String} {after:Array Edge} {guard:Option (Nat × Bool)}
theorem Avi (hnd:∀ c,op≠.defer c) {a:Act} {w:World} (h:(⟨dst,op,ty,pos,after,none⟩:Oper).wp P a w (Dp ds (wpListIn (FL ro) m P ops Q rest)) (fun _ _ _=>False)) :
  wpListIn (FL ro) m P ops Q (⟨dst,op,ty,pos,after,none⟩ :: rest) { a with defers:=ds } w:=by
 refine wpListIn_plain rfl (fun K hK=>⟨fun _ _=>trivial,?_⟩)
 rw [Ak4,Oper.semAt_eq _ _ _ hnd]
 refine Axi (N:=K) ?_
 exact Oper.wp_mono (fun a' w' h=>⟨h.1,hK _ _ h.2⟩) h
theorem I_x (h:Wx P (fun _ _ _=>False) n ⟨dst,op,ty,pos,after,none⟩ fr L (Dp ds (wpListIn (FL ro) m P ops Q rest))) (hnd:∀ c,op≠.defer c:=by intro c h;cases h) :
  T n (Dp ds (wpListIn (FL ro) m P ops Q (⟨dst,op,ty,pos,after,none⟩ :: rest))) fr L :=
 fun a w ha hw=>⟨ha.nod,Avi hnd (Oper.wp_mono (fun _ _ h=>h.2) (h a w ha hw))⟩
theorem I_h (h:Wh P (fun _ _ _=>False) n ⟨dst,op,ty,pos,after,none⟩ fr L (Dp ds (wpListIn (FL ro) m P ops Q rest))) (hnd:∀ c,op≠.defer c:=by intro c h;cases h) :
  T n (Dp ds (wpListIn (FL ro) m P ops Q (⟨dst,op,ty,pos,after,none⟩ :: rest))) fr L :=
 fun a w ha hw=>⟨ha.nod,Avi hnd (h a w ha hw)⟩
theorem Oo {v:Value} (h:Ev P n ⟨some d,op,ty,pos,after,none⟩ fr L v) (hd:Nat.blt d n=true) (k:T n (Dp ds (wpListIn (FL ro) m P ops Q rest)) ((d,v)::fr) L) (hnd:∀ c,op≠.defer c:=by intro c h;cases h) :
  T n (Dp ds (wpListIn (FL ro) m P ops Q (⟨some d,op,ty,pos,after,none⟩ :: rest))) fr L:=by
 refine I_h (fun a w ha hw=>?_) hnd
 simp only [Oper.wp,h a w ha hw.ok,Oper.upon_value]
 exact k _ _ (ha.put hd) hw
theorem Xj (k:T n (Dp ds (Q .normal)) fr L):T n (Dp ds (wpListIn (FL ro) m P ops Q [])) fr L:=k
theorem Azq (k:T n (Q .normal) fr L):T n (Dp [] (wpListIn (FL ro) m P ops Q [])) fr L:=fun a w ha hw=>⟨ha.nod,by
 have:=k a w ha hw
 have he:({ a with defers:=[] }:Act)=a:=by rw [← ha.nod]
 show Q .normal _ w
 rw [he];exact this⟩
theorem Xk {id:Nat} {l:List Oper} (k:T n (Dp ds (wpListIn (FL ro) m P l.toArray Q l)) fr L):T n (Dp ds ((Code.region id l.toArray false).wpIn (FL ro) m P Q)) fr L :=
 fun a w ha hw=>⟨ha.nod,wpIn_region_lit (k a w ha hw).2⟩
theorem Azr {id:Nat} {l:List Oper} (k:T n (Dp [] (wpListIn (FL none) 0 P l.toArray Q l)) fr L):T n ((Code.region id l.toArray false).wp P Q) fr L :=
 fun a w ha hw=>by
  have h:=(k a w ha hw).2
  have he:({ a with defers:=[] }:Act)=a:=by rw [← ha.nod]
  rw [he] at h
  exact (wpIn_wide (n:=0)).1 (wpIn_region_lit h)
theorem Aag {x y:Code} (k:T n (Dp ds (x.wpIn (FL ro) m P (Exit.then (y.wpIn (FL ro) m P Q) Q))) fr L):T n (Dp ds ((Code.seq x y).wpIn (FL ro) m P Q)) fr L :=
 fun a w ha hw=>⟨ha.nod,wpIn_seq (k a w ha hw).2⟩
theorem Vc {y:Code} {Q':Exit→Act→World→Prop} (k:T n (Dp ds (y.wpIn (FL ro) m P Q)) fr L):T n (Dp ds (Exit.then (y.wpIn (FL ro) m P Q) Q' .normal)) fr L:=k
theorem Af9 {id:Nat} {c:Code} (k:T n (Dp ds (c.wpIn (FL ro) m P (Exit.inBlock id Q))) fr L):T n (Dp ds ((Code.block id c).wpIn (FL ro) m P Q)) fr L :=
 fun a w ha hw=>⟨ha.nod,wpIn_block (k a w ha hw).2⟩
theorem Aqh {id:Nat} (k:T n (Dp ds (Q .normal)) fr L):T n (Dp ds (Exit.inBlock id Q .normal)) fr L:=k
theorem Ayf (k:T n (Dp ds (Q .ret)) fr L):T n (Dp ds (Code.ret.wpIn (FL ro) m P Q)) fr L :=
 fun a w ha hw=>⟨ha.nod,wpIn_ret (k a w ha hw).2⟩
/-- A round of the loop l, from what e says. -/
def Ajd (P:Program) (l:Nat) (vs:List Value) (e:Ent) (R:Ent→Prop):Prop :=
 ∀ Lf w,Heap (e::Lf) w→YieldAt (FL none) 0 P l vs.toArray w fun en w'=>en = .returned (.bool true)∧∃ e',R e'∧Heap (e' :: Lf) w'
theorem Axj {l:Nat} {cf:Operand} {xs:List Operand} {vs:List Value} {ts:Array TypeId} {e:Ent} {R:Ent→Prop} {i:Nat} {L1:List Ent} (hcf:evo fr cf=some (.func (.yield l) #[] #[])) (hx:evos fr xs=some vs)
  (hL:Aab L i=some (e,L1)) (hY:Ajd P l vs e R) (hd:Nat.blt d n=true) (k:∀ e',R e'→T n (Dp ds (wpListIn (FL none) 0 P ops Q rest)) ((d,.bool true)::fr) (e' :: L1)) :
  T n (Dp ds (wpListIn (FL none) 0 P ops Q (⟨some d,.call ⟨.value cf,xs.toArray,ts⟩,ty,pos,after,none⟩ :: rest))) fr L:=by
 intro a w ha hw
 refine ⟨ha.nod,wpListIn_plain rfl (fun K hK=>⟨fun _ _=>trivial,?_⟩)⟩
 obtain ⟨fn,tmps,assign,body,hy,hR⟩:=hY L1 w (hw.perm (Vt hL))
 have h1:=ha.evals hx
 rw [Ak4,Oper.semAt_eq _ _ _ (by intro c h;cases h)]
 have hrun:(execOp a.eval ⟨some d,.call ⟨.value cf,xs.toArray,ts⟩,ty,pos,after,none⟩).run P w = .ok (.round l fn tmps assign body) w:=by
  simp [execOp,resolve,Deferred.ofValue,invoke,ha.eval hcf,h1,hy]
 rw [hrun,Oper.uponIn_round]
 refine ⟨(fun h=>nomatch h),hR.mono ?_⟩
 rintro en w' ⟨rfl,e',hR',hh⟩
 have:=k e' hR' _ w' (ha.put (v:=.bool true) hd) hh
 refine hK _ _ ?_
 rw [Ahv]
 exact this.2
end
/-! ### the caller -/
def Ng (l:Nat) (r:Loop):Ent:=.f [l] fun w=>w.heap[l]? = some (.loop r)
def defE (D:Nat):Ent:=.f [D] fun w=>w.heap[D]? = some (.deferred (some []))
def Baj (D:Nat):Ent:=.f [D] fun w=>w.heap[D]? = some (.deferred none)
/-- Several entries as one that can be laid open again. -/
def bunS (es:List Ent):Ent:=.f (es.flatMap Ent.blks) fun w=>(∀ e∈es,Ent.ok w e)∧es.Pairwise Ent.sep
theorem Aaw {es L:List Ent} {w:World} (hl:∀ e∈es,e.low=0) (h:Heap (es++L) w):Heap (bunS es::L) w:=by
 have hp:=List.pairwise_append.1 h.sep
 have hb:=Ao8 hl h
 refine ⟨fun e he=>?_,?_⟩
 ·rcases List.mem_cons.1 he with rfl | he
  ·obtain ⟨h1,h2,h3⟩:=hb.ok _ List.mem_cons_self
   exact ⟨h1,⟨h2,hp.1⟩,fun w1 w2 h4 h5=>⟨h3 w1 w2 h4.1 h5,h4.2⟩⟩
  ·exact hb.ok e (List.mem_cons_of_mem _ he)
 ·have:=hb.sep
  rw [List.pairwise_cons] at this ⊢
  exact ⟨fun x hx=>this.1 x hx,this.2⟩
theorem Aed {es L:List Ent} {w:World} (hl:∀ e∈es,e.low=0) (h:Heap (bunS es::L) w):Heap (es++L) w:=by
 have hs:=h.sep
 rw [List.pairwise_cons] at hs
 obtain ⟨_,⟨h2,h3⟩,_⟩:=h.ok _ List.mem_cons_self
 refine ⟨fun e he=>?_,List.pairwise_append.2 ⟨h3,hs.2,fun e he x hx=>⟨fun g hg=>?_,fun g hg=>⟨by rw [Ent.low_lo (hl e he)];exact Nat.zero_le _,fun hb=>?_⟩⟩⟩⟩
 ·rcases List.mem_append.1 he with he | he
  ·exact h2 e he
  ·exact h.ok e (List.mem_cons_of_mem _ he)
 ·exact (hs.1 x hx).1 g (List.mem_flatMap.2 ⟨e,he,Ent.own_blks.1 hg⟩)
 ·exact ((hs.1 x hx).2 g hg).2 (List.mem_flatMap.2 ⟨e,he,Ent.own_blks.1 hb⟩)
/-- A new block of any kind. -/
theorem Heap.allocF {L:List Ent} {w:World} (h:Heap L w) (o:Obj):Heap (.f [w.heap.size] (fun w'=>w'.heap[w.heap.size]? = some o)::L) (w.alloc o):=by
 have hx:=Pz w o
 have hnew:(w.alloc o).heap[w.heap.size]? = some o:=World.alloc_heap_new w o
 refine ⟨fun e he=>?_,?_⟩
 ·rcases List.mem_cons.1 he with rfl | he
  ·exact ⟨fun g hg=>by simp at hg;subst hg;exact Eg hnew,hnew,fun w1 w2 h1 h2=>(h2 _ (by simp)).trans h1⟩
  ·exact Ent.ext (h.ok e he) hx
 ·rw [List.pairwise_cons]
  refine ⟨fun x hx=>⟨fun g hg=>?_,fun g hg=>⟨Nat.zero_le _,fun he=>?_⟩⟩,h.sep⟩
  ·have hg:g∈[w.heap.size]:=hg
   simp at hg
   subst hg
   exact ⟨Ent.lo_le (h.ok x hx),fun he=>by have:=Ent.lt (h.ok x hx) he;omega⟩
  ·have he:g∈[w.heap.size]:=he
   simp at he
   have:=Ent.lt (h.ok x hx) hg;omega
/-- The block of such an entry is written. -/
theorem Heap.putF {L L':List Ent} {w:World} {i g:Nat} {o o':Obj} (h:Heap L w) (hs:SetE L i (.f [g] fun w=>w.heap[g]? = some o) (.f [g] fun w=>w.heap[g]? = some o') L'):Heap L' (w.putObj g o'):=by
 obtain ⟨h1,h2,_⟩:=h.ok _ hs.mem
 have hlt:=h1 g (by simp)
 refine Heap.turnO (Tr w g o') (fun g' hg'=>by cases hg';exact List.mem_singleton.2 rfl) (e:=.f [g] fun w=>w.heap[g]? = some o) (e':=.f [g] fun w=>w.heap[g]? = some o') ?_ (Nat.le_refl _) (fun g' hg'=>.inl hg') hs h
 have hnew:(w.putObj g o').heap[g]? = some o':=World.putObj_heap_same hlt
 refine ⟨fun g' hg'=>?_,hnew,fun w1 w2 h3 h4=>(h4 _ (by simp)).trans h3⟩
 simp at hg';subst hg';exact Eg hnew
section
variable {P:Program} {n m:Nat} {ro:Option Nat} {ds:List Deferred} {Q:Exit→Act→World→Prop} {fr:List (Nat × Value)} {L L':List Ent} {N:Act→World→Prop}
theorem Aqi {l i:Nat} {r:Loop} {body:Code} (hL:SetE L i (Ng l r) (Ng l { r with state:=.busy }) L') (hr:r.state = .ready) (k:T n (Dp [] (body.wpIn (FL ro) m P Q)) fr L') :
  T n (Dp [] (Exit.then (fun a1 w1=>∃ w2,(Instr.beginRound l).run P w1 = .ok () w2∧body.wpIn (FL ro) m P Q a1 w2) (fun _ _ _=>False) .normal)) fr L:=fun a w ha hw=>by
 obtain ⟨_,h2,_⟩:=hw.ok _ hL.mem
 exact ⟨ha.nod,_,run_beginRound h2 hr,(k a _ ha (hw.putF hL)).2⟩
theorem Aqj {l i:Nat} {r:Loop} {R:Ending→World→Prop} (hL:SetE L i (Ng l { r with state:=.busy }) (Ng l r) L') (hr:r.state = .ready) (hp:r.pending=none) (k:∀ w,Heap L' w→R (.returned (.bool true)) w) :
  T n (Dp [] (roundPost P l R .normal)) fr L:=fun a w ha hw=>by
 obtain ⟨_,h2,_⟩:=hw.ok _ hL.mem
 have he:({ ({ r with state:=.busy }:Loop) with state:=if (none:Option Code).isNone then .ready else .done,pending:=(none:Option Code) }:Loop)=r:=by
  cases r;simp at hr hp;subst hr;subst hp;rfl
 have h3:=run_endRound (P:=P) none h2
 rw [he] at h3
 exact ⟨ha.nod,_,_,h3,k _ (hw.putF hL)⟩
/-- A round, out of the walks of what it assigns and of its body. -/
theorem Ajd.mk {l:Nat} {r:Loop} {p:Tmp} {v:Value} {a0:Act} {Hs:List Ent} {R:Ent→Prop} (hfr:Fr n fr a0) (hp:r.params = #[p]) (ht:r.tmps=a0.tmps) (hpn:Nat.blt p n=true) (hl:∀ e∈Hs,e.low=0)
  (k:∀ Lf,T n (Dp [] (r.assign.wpIn (FL (some l)) 0 P (Exit.then (fun a1 w1=>∃ w2,(Instr.beginRound l).run P w1 = .ok () w2∧r.body.wpIn (FL (some l)) 0 P (roundPost P l fun en w'=>en = .returned (.bool true)∧∃ e',R e'∧Heap (e' :: Lf) w') a1 w2) (fun _ _ _=>False))))
   ((p,v)::fr) (Ng l r::(Hs++Lf))):Ajd P l [v] (bunS (Ng l r::Hs)) R:=by
 intro Lf w hw
 have hw':=Aed (Ba rfl hl) hw
 obtain ⟨_,h2,_⟩:=hw'.ok (Ng l r) (by simp)
 have hy:=run_yield (P:=P) (args:=#[v]) h2 (by rw [hp];rfl)
 refine ⟨_,_,_,_,hy,roundIn_of_wpIn trivial ?_⟩
 rw [hp,ht]
 have hf:Fr n ((p,v)::fr) { tmps:=a0.tmps.setIfInBounds p v,defers:=[] }:=by
  have:=hfr.put (v:=v) hpn
  refine ⟨rfl,this.size,this.val⟩
 have h5:=(k Lf _ w hf hw').2
 have he:(Array.foldl (fun tmps (x:Tmp × Value)=>match x with | (t,a)=>tmps.setIfInBounds t a) a0.tmps (#[p].zip #[v]))=a0.tmps.setIfInBounds p v:=by simp
 rw [he]
 exact h5
def Aqk (D:Nat):Deferred:={ target:=.collected D,args:=#[] }
/-- The statement. -/
theorem Aql {g:Operand} {p:Tmp} {assign body:Code} {gf:Nat} {caps:List Value} {K Hs Lr:List Ent} {Rf:List Ent→Prop}
  (hg:evo fr g=some (.func (.func gf) #[] caps.toArray)) (hp:Da L (Hs++Lr)) (hlo:∀ e∈Hs,e.low=0) (hK:SubE K Lr)
  (hit:∀ (l:Nat) (r:Loop) (a0:Act),Fr n fr a0→r.state = .ready→r.pending=none→r.params = #[p]→r.tmps=a0.tmps→r.assign=assign→r.body=body →
   CtK P gf (.func (.yield l) #[] #[]::caps) K [bunS (Ng l r::Hs)] (fun _ Ln=>∃ Hs',Rf Hs'∧(∀ e∈Hs',e.low=0)∧Ln=[bunS (Ng l r::Hs')]))
  (k:∀ D Hs',Rf Hs'→(∀ e∈Hs',e.low=0)→T n (Dp [Aqk D] (Q .normal)) fr (defE D::(Hs' ++ Lr))) :
  T n (Dp [] ((Code.rangeFunc g #[p] assign body).wpIn (FL none) 0 P Q)) fr L:=by
 intro a w ha hw
 refine ⟨ha.nod,wpIn_rangeFunc fun fn _=>?_⟩
 have hw0:=hw.pick hp
 obtain ⟨r,hr⟩:∃ r:Loop,r = { state:=.ready,pending:=none,fn,tmps:=a.tmps,params:=#[p],assign,body,defers:=w.heap.size }:=⟨_,rfl⟩
 have hc:=hit (w.heap.size+1) r a ha (by rw [hr]) (by rw [hr]) (by rw [hr]) (by rw [hr]) (by rw [hr]) (by rw [hr])
 have h1:=hw0.allocF (.deferred (some []))
 have h2:=h1.allocF (.loop r)
 rw [World.size_alloc] at h2
 have h3:Heap (Ng (w.heap.size+1) r::(Hs++defE w.heap.size::Lr)) ((w.alloc (.deferred (some []))).alloc (.loop r)) :=
  h2.perm (((List.perm_middle (l₁:=Hs) (l₂:=Lr) (a:=defE w.heap.size)).symm).cons _)
 have hl':∀ e∈Ng (w.heap.size+1) r::Hs,e.low=0:=Ba rfl hlo
 have h4:=Aaw (es:=Ng (w.heap.size+1) r::Hs) hl' h3
 obtain ⟨fn',e1,e2,e3⟩:=hc.1
 have e2' : fn'.name ≠ "runtime.NumGoroutine" := by simpa using e2
 have e3':fn'.body≠none:=by intro h;rw [h] at e3;cases e3
 refine ⟨w.heap.size+1,[Aqk w.heap.size],(w.alloc (.deferred (some []))).alloc (.loop r),{ target:=.fn (.func gf) caps.toArray,args:=#[.func (.yield (w.heap.size+1)) #[] #[]] },(w.alloc (.deferred (some []))).alloc (.loop r),gf,#[.func (.yield (w.heap.size+1)) #[] #[]]++caps.toArray,(w.alloc (.deferred (some []))).alloc (.loop r),?_,?_,fun _ _=>trivial,?_,(fun h=>nomatch h),?_⟩
 ·have:=run_enterLoop_outer (P:=P) (w:=w) fn a.tmps #[p] assign body
  rw [← hr] at this
  exact this
 ·have:({ a with defers:=[] }:Act).eval g = .func (.func gf) #[] caps.toArray:=by rw [Ak4];exact ha.eval hg
  simp only [resolve,this]
  simp [go_sem]
 ·simp [invoke,callFunc,e1,e2',e3']
 ·refine Ahw (ro:=none) ?_
  have hcall:=hc.2 (defE w.heap.size::Lr) _ (SubE.appR2 (K:=[defE w.heap.size]) hK) h4
  have:(#[.func (.yield (w.heap.size+1)) #[] #[]]++caps.toArray:Array Value)=(.func (.yield (w.heap.size+1)) #[] #[]::caps).toArray:=by simp
  rw [this]
  refine hcall.mono ?_
  rintro e w3 ⟨v,Ln,rfl,⟨Hs',hR,hl2,rfl⟩,hh⟩
  have hh':=Aed (es:=Ng (w.heap.size+1) r::Hs') (Ba rfl hl2) hh
  obtain ⟨_,h5,_⟩:=hh'.ok (Ng (w.heap.size+1) r) (by simp)
  have h6:=run_endLoop (P:=P) h5 (by rw [hr];simp)
  have hp0:r.pending=none:=by rw [hr]
  rw [hp0] at h6
  refine ⟨none,_,h6,?_⟩
  have h7:=hh'.putF (o':=.loop { r with state:=.exhausted }) (.here)
  have h8:Heap (defE w.heap.size::(Hs' ++ Lr)) (w3.putObj (w.heap.size+1) (.loop { r with state:=.exhausted })) :=
   (h7.sub (.drop .refl)).perm List.perm_middle
  have:=(k w.heap.size Hs' hR hl2 a _ ha h8).2
  rw [hp0] at this
  exact this
/-- The end of such a function. -/
theorem Ayg {fn:Func} {R:Value→List Ent→Prop} {w0:World} {D i:Nat} {rs:List ResultVar} {vs:List Value} {Ln:List Ent} (hr:fn.results=rs.toArray) (_:Res P fr L rs vs) (hR:R (Rm vs) Ln) (hlo:∀ x∈Ln,x.low=0)
  (hL:SetE L i (defE D) (Baj D) L') (h':Res P fr L' rs vs) (hs:Da L' (Ln++[.old w0])) :
  T n (Dp [Aqk D] (bodyPostM (FL none) 0 P fn (fun e w'=>∃ v Ln,e = .returned v∧R v Ln∧(∀ x∈Ln,x.low=0)∧Heap (Ln++[.old w0]) w') .ret)) fr L:=fun a w ha hw=>by
 obtain ⟨_,h2,_⟩:=hw.ok _ hL.mem
 have h3:=hw.putF hL
 refine ⟨ha.nod,?_⟩
 show LeavesInM _ _ _ _ _ _ [Aqk D] _ _
 refine ⟨by simp,.inl ⟨D,_,rfl,run_takeDeferred h2,?_⟩⟩
 exact ⟨_,(h'.run hr ha h3:(results fn a.tmps).run P _=_),_,Ln,rfl,hR,hlo,h3.pick hs⟩
theorem CtL.mkI {f : FuncId} {fn : Func} {c : Code} {vs : List Value} {w : World} {R : Value → List Ent → Prop} (m : Nat) (hf : P.funcs[f]? = some fn) (hb : fn.body = some c) (hm : fn.ntmps = m) (hn : (fn.name == "runtime.NumGoroutine") = false)
  (hl:Nat.ble vs.length m=true) (k:T m (Dp [] (c.wpIn (FL none) 0 P (bodyPostM (FL none) 0 P fn fun e w'=>∃ v Ln,e = .returned v∧R v Ln∧(∀ x∈Ln,x.low=0)∧Heap (Ln++[.old w]) w'))) (Vx vs 0) [.old w]):CtL P f vs w R:=by
 refine ⟨⟨fn,hf,hn,by rw [hb];rfl⟩,(callsIn_wide (n:=0)).1 (callsIn_of_wp_marks hf hb trivial ?_)⟩
 rw [hm]
 exact (k _ w (Afw vs m (Nat.le_of_ble_eq_true hl)) (Heap.old w)).2
end
theorem Pt.up0 {K:List Ent} {b o:Nat} {ys:List Value} (h:Pt K b o ys):Pt (K++[]) b o ys:=by rw [List.append_nil];exact h
/-! ### function values -/
/-- A function value that computes ky, on what K says. -/
def Yq {α β:Type} (P:Program) (K:List Ent) (kv:Value) (ax:α→Value) (ry:β→Value) (ky:α→Option β):Prop :=
 ∃ f caps,kv = .func (.func f) #[] (List.toArray caps)∧∀ x y,ky x=some y→∀ w,(∀ e∈K,Ent.ok w e)→CtL P f (ax x::caps) w fun v Ln=>v=ry y∧Ln=[]
theorem Aoo {α β:Type} {P:Program} {n:Nat} {Q:Exit→Act→World→Prop} {fr:List (Nat × Value)} {L K:List Ent} {N:Act→World→Prop} {d:Nat} {pos:String} {after:Array Edge} {guard:Option (Nat × Bool)} {kv:Value} {ax:α→Value} {ry:β→Value} {ky:α→Option β} {cf x:Operand} {ts:Array TypeId} {ty':TypeId} {u:α} {y:β}
  (hk:Yq P K kv ax ry ky) (hcf:evo fr cf=some kv) (hx:evo fr x=some (ax u)) (hy:ky u=some y) (hK:SubE K L) (hd:Nat.blt d n=true)
  (k:T n N ((d,ry y)::fr) L):Wx P Q n ⟨some d,.call ⟨.value cf,#[x],ts⟩,ty',pos,after,guard⟩ fr L N:=by
 intro a w ha hw
 obtain ⟨f,caps,rfl,hc⟩:=hk
 obtain ⟨hf,hcall⟩:=hc u y hy w (hK.ok w hw.ok)
 have hrun:(execOp a.eval ⟨some d,.call ⟨.value cf,#[x],ts⟩,ty',pos,after,guard⟩).run P w = .ok (.enter f (ax u::caps).toArray) w:=by
  obtain ⟨fn,h1,h2,h3⟩:=hf
  have h2' : fn.name ≠ "runtime.NumGoroutine" := by simpa using h2
  have h3':fn.body≠none:=by intro h;rw [h] at h3;cases h3
  simp [execOp,resolve,Deferred.ofValue,invoke,callFunc,ha.eval hcf,ha.eval hx,h1,h2',h3']
 simp only [Oper.wp,hrun,Oper.upon_enter]
 refine hcall.mono ?_
 rintro e w' ⟨v,Ln,rfl,⟨rfl,rfl⟩,hl,hh⟩
 exact ⟨hh.ok (.old w) (by simp),k _ _ (ha.put hd) (hw.join hl hh)⟩
theorem Aah {P:Program} {n:Nat} {fr:List (Nat × Value)} {L:List Ent} {dst:Option Tmp} {ty:TypeId} {pos:String} {after:Array Edge} {guard:Option (Nat × Bool)} {f:Nat} {xs:List Operand} {vs:List Value} (hx:evos fr xs=some vs) :
  Ev P n ⟨dst,.makeFunc (.func f) #[] xs.toArray,ty,pos,after,guard⟩ fr L (.func (.func f) #[] vs.toArray):=fun a w ha _=>by
 have:=ha.evals hx
 simp [execOp,this,Instr.makeFunc]
end Go.Proofs.YtbkobeeileemjaaGreat
/- Slices with a bound on their capacity, slices held against nil. -/
namespace Go.Proofs.YtbkobeeileemjaaGreat
open Go Go.RowKit
section
variable {P:Program} {n:Nat} {N:Act→World→Prop} {Q:Exit→Act→World→Prop} {fr:List (Nat × Value)} {L:List Ent}
variable {dst:Option Tmp} {ty:TypeId} {pos:String} {after:Array Edge} {guard:Option (Nat × Bool)}
theorem Aee {t e t':TypeId} {x y:Operand} {A:Option Addr} {m c:Nat} (ht:P.underlying t=some (.slice e)) (hx:evo fr x=some (.slice A m c)) (hy:evo fr y=some (.slice none 0 0)) :
  Ev P n ⟨dst,.binOp .eql t x y t',ty,pos,after,guard⟩ fr L (.bool A.isNone):=fun a w ha _=>by
 simp [execOp,ha.eval hx,ha.eval hy,eqGuard_at_slice,run_eql_slice_nil w t e A m c ht,Result.andThen]
theorem HasN.nc {α:Type} {K:List Ent} {A:Option Addr} {n c sz:Nat} {R:List Ent→α→List Value→Prop} {l:List α} (h:HasN K A n c sz R l):n≤c:=by
 obtain ⟨hl,h1,_⟩:=h;exact h1.nc
theorem HasN.sub {α:Type} {K:List Ent} {A:Option Addr} {m c sz:Nat} {R:List Ent→α→List Value→Prop} {l:List α} (h:HasN K A m c sz R l) {i j:Int} (h1:0≤i) (h2:i≤j) (h3:j≤(m:Int)) :
  HasN K (slA A c i.toNat sz) (j.toNat-i.toNat) (c-i.toNat) sz R (subl l i j):=by
 have hlen:=h.len
 obtain ⟨hl,g1,g2,g3⟩:=h
 refine ⟨subl hl i j,g1.sub h1 h2 h3,by simp [subl];omega,fun q hq hq'=>?_⟩
 have e1:(subl l i j)[q]=l[i.toNat+q]'(by simp [subl] at hq;omega):=by simp [subl]
 have e2:(subl hl i j)[q]=hl[i.toNat+q]'(by simp [subl] at hq';omega):=by simp [subl]
 rw [e1,e2];exact g3 _ _ _
theorem HasN.subL {α:Type} {K:List Ent} {A:Option Addr} {m c sz:Nat} {R:List Ent→α→List Value→Prop} {l:List α} (h:HasN K A m c sz R l) {i:Int} (h1:0≤i) (h2:i≤(m:Int)) :
  HasN K (slA A c i.toNat sz) (m-i.toNat) (c-i.toNat) sz R (subl l i (m:Int)):=h.sub h1 h2 (Int.le_refl _)
theorem HasN.subH {α:Type} {K:List Ent} {A:Option Addr} {m c sz:Nat} {R:List Ent→α→List Value→Prop} {l:List α} (h:HasN K A m c sz R l) {j:Int} (h1:0≤j) (h2:j≤(m:Int)) :
  HasN K A j.toNat c sz R (subl l 0 j):=by
 have hlen:=h.len
 obtain ⟨hl,g1,g2,g3⟩:=h
 refine ⟨subl hl 0 j,g1.subH h1 h2,by simp [subl];omega,fun q hq hq'=>?_⟩
 have e1:(subl l 0 j)[q]=l[q]'(by simp [subl] at hq;omega):=by simp [subl]
 have e2:(subl hl 0 j)[q]=hl[q]'(by simp [subl] at hq';omega):=by simp [subl]
 rw [e1,e2];exact g3 _ _ _
end
end Go.Proofs.YtbkobeeileemjaaGreat
/- Arrays: places of their elements, their equality, arrays as keys of maps. -/
namespace Go.Proofs.YtbkobeeileemjaaGreat
open Go Go.RowKit
section
variable {P:Program} {n:Nat} {N:Act→World→Prop} {Q:Exit→Act→World→Prop} {fr:List (Nat × Value)} {L:List Ent}
variable {dst:Option Tmp} {ty:TypeId} {pos:String} {after:Array Edge} {guard:Option (Nat × Bool)}
theorem Nh.arr {t k m e i} (hu:P.underlying t=some (.array m e)) (hi:P.info? t=some i) (hk:i.size=k):Nh P t k:=by
 refine ⟨fun w=>?_,fun w=>by simp [sizeOf,typeInfo,hi,hk]⟩
 simp [isAgg,run_underlying hu]
/-- The type is an array of m elements of sz cells. -/
def Afc (P:Program) (t:TypeId) (m sz:Nat):Prop:=∃ e,P.underlying t=some (.array m e)∧∀ w,(sizeOf e).run P w = .ok sz w
theorem Afc.mk {t m e sz i} (hu:P.underlying t=some (.array m e)) (hi:P.info? e=some i) (hk:i.size=sz):Afc P t m sz :=
 ⟨e,hu,fun w=>by simp [sizeOf,typeInfo,hi,hk]⟩
theorem Bk {t x ix g o k m sz} {z:Int} (hx:evo fr x=some (.pointer (some ⟨g,o,none⟩))) (hi:evo fr ix=some (.int k z)) (ht:Afc P t m sz) (h0:0≤z) (h1:z < (m:Int)) {off:Nat} (ho:z.toNat*sz=off) :
  Ev P n ⟨dst,.indexAddr t x ix,ty,pos,after,guard⟩ fr L (.pointer (some ⟨g,o+off,none⟩)):=fun a w ha _=>by
 obtain ⟨e,hu,hs⟩:=ht
 subst ho
 simp [execOp,ha.eval hx,ha.eval hi,Instr.indexAt,asIntOf,run_underlying hu,Instr.sureAddr,h0,h1,hs,Addr.add_lit]
/-- The value of an array of arrays of cells at an index. -/
def Ak5 (P:Program) (t:TypeId) (xs ys:List Value):Prop:=∀ (j:Nat) (h:j < ys.length) (k:IntKind) (w:World),(Instr.index t (.agg xs.toArray) (.int k (j:Int))).run P w = .ok ys[j] w
theorem Aop {α:Type} {f:α→Value} {t:TypeId} {x i:Operand} {k:IntKind} {xs zs:List Value} {ys:List α} {z:Int} {v:α}
  (hx:evo fr x=some (.agg xs.toArray)) (hzs:zs=ys.map f) (hi:evo fr i=some (.int k z)) (hV:Ak5 P t xs zs) (hz:idx ys z=some v) {v':Value} (hv:f v=v'):Ev P n ⟨dst,.index t x i,ty,pos,after,guard⟩ fr L v':=fun a w ha _=>by
 subst hzs;subst hv
 unfold idx at hz
 split at hz
 ·rename_i h0
  obtain ⟨hlt,he⟩:=List.getElem?_eq_some_iff.1 hz
  have:=hV z.toNat (by simpa using hlt) k w
  rw [Int.toNat_of_nonneg h0] at this
  simp only [execOp,ha.eval hx,ha.eval hi,this,Sem.run_bind,Result.andThen,List.getElem_map,he]
  rfl
 ·cases hz
/-! ### loads at an index that is computed -/
theorem Aga {α:Type} {l:List α} {i:Int} {x:α} (h:idx l i=some x):0≤i∧i < (l.length:Int):=by
 obtain ⟨j,hj,rfl,_⟩:=Aaa h
 omega
theorem Axk {α:Type} {enc:α→List Value} {ys:List α} {w:World} {g t o sz:Nat} {cs post:List Value} {z:Int} {v:α} (hw:Ent.ok w (.m g t cs)) (hz:idx ys z=some v) (hc:cs.drop o=ys.flatMap enc++post)
  (he:∀ x,(enc x).length=sz) (j:Nat) (u:Value) (hu:(enc v)[j]? = some u):w.cell? ⟨g,o+z.toNat*sz+j,none⟩=some u:=by
 obtain ⟨q,hq,rfl,rfl⟩:=Aaa hz
 rw [Vu hw]
 have h1:=Ya ys q hq (fun x _=>he x) j u hu
 have h2:(cs.drop o)[q*sz+j]? = some u:=by
  rw [hc,List.getElem?_append_left]
  ·exact h1
  ·exact (List.getElem?_eq_some_iff.1 h1).1
 rw [List.getElem?_drop] at h2
 rw [show o+(q:Int).toNat*sz+j=o+(q*sz+j) by simp [Nat.add_assoc]]
 exact h2
theorem Am1 {α:Type} (enc:α→List Value) {ys:List α} {x g o i t cs post ty'} {z:Int} {v:α} {u:Value} (hx:evo fr x=some (.pointer (some ⟨g,o+z.toNat*1,none⟩))) (hi:nthE L i=some (.m g t cs)) (hz:idx ys z=some v)
  (hc:cs.drop o=ys.flatMap enc++post) (he:∀ x,(enc x).length=1) (hu:enc v=[u]) (ht:Lg P ty'):Ev P n ⟨dst,.load ty' x,ty,pos,after,guard⟩ fr L u:=fun a w ha hw=>by
 have h:=Axk (g:=g) (t:=t) (hw _ (Il hi)) hz hc he 0 u (by rw [hu];rfl)
 simp only [Nat.add_zero] at h
 rw [Nat.mul_one] at h hx
 simp [execOp,ha.eval hx,Instr.loadAt,Instr.sureAddr,Vv ht _ u h]
end
section
variable {P:Program}
/-! ### equality of arrays -/
inductive EqI (P:Program) (d:Nat) (e:TypeId) (c:Nat) (xs ys:Array Value):List Nat→Bool→Prop
 | nil:EqI P d e c xs ys [] true
 | cons {i is a b r r'} (hx:∀ w,(part e xs (i*c)).run P w = .ok a w) (hy:∀ w,(part e ys (i*c)).run P w = .ok b w)
   (he:∀ w,(Op.equalIn d e a b).run P w = .ok r w) (h:EqI P d e c xs ys is r'):EqI P d e c xs ys (i::is) (r && r')
theorem EqI.run {d e c xs ys is r} (h:EqI P d e c xs ys is r):∀ w,(Op.eqItems d e c xs ys is).run P w = .ok r w:=by
 induction h with
 | nil=>intro w;simp [Op.eqItems]
 | cons hx hy he _ ih =>
  intro w
  rename_i i is a b r r' _
  simp only [Op.eqItems,Sem.run_bind,hx,hy,he,Result.andThen_ok]
  cases r with
  | true=>simp [ih w]
  | false=>simp
theorem EqI.array {d t e m c xs ys r i} (hu:P.underlying t=some (.array m e)) (hi:P.info? e=some i) (hc:P.cellsOf e=c) (h:EqI P d e c xs ys (List.range m) r):∀ w,(Op.equalIn (d+1) t (.agg xs) (.agg ys)).run P w = .ok r w:=by
 intro w
 subst hc
 rw [run_equalIn_array w d xs ys hu hi]
 exact h.run w
/-! ### an array of integers is a key -/
theorem Ase {k:TypeId} {m e d:Nat} {q:IntKind} {zs:List Int} (hd:P.types.size=d+1) (hu:P.underlying k=some (.array m e)) (hk:P.keyType k=true) (hc:zs.length=m) (he:P.underlying e=some (.int q)) (h1:P.cellsOf e=1) (hm:P.cellsOf k=m)
  (hf:∀ z∈zs,(Lit.int q z).wf=true):(keyOf P k (.agg (zs.map (Value.int q)).toArray)).isSome=true:=by
 unfold keyOf
 rw [hu]
 have hfm:(Value.agg (zs.map (Value.int q)).toArray).formed P k=true:=by simp [Value.formed,hu,hm,hc]
 simp only [hk,hfm,Bool.and_self,if_true,Option.isSome_map]
 have hcl:(Value.agg (zs.map (Value.int q)).toArray).cells.toList=zs.map (Value.int q):=by simp [Value.cells]
 rw [hcl,hd]
 unfold Program.keyLits
 simp only [hu]
 rw [if_pos (by simp [hm,hc]),Option.isSome_map]
 refine Zg _ fun i hi=>?_
 rw [List.mem_range] at hi
 rw [h1,Nat.mul_one]
 have hlt:i < zs.length:=by omega
 have:((zs.map (Value.int q)).drop i).take 1=[.int q zs[i]]:=by
  rw [List.drop_eq_getElem_cons (by simpa using hlt)]
  simp
 rw [this]
 unfold Program.keyLits
 simp [he,hf zs[i] (List.getElem_mem hlt)]
end
end Go.Proofs.YtbkobeeileemjaaGreat
