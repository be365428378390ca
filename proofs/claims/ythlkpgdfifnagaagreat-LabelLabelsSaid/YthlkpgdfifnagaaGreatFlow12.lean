import Derived.Test.YthlkpgdfifnagaaGreatFlow8
import Derived.RangeFuncRecord
import Derived.TacticsIn
import Derived.RangeFuncSeq
import Derived.Lib.LazyBuf
import Derived.ChangeKeysEq
import Derived.DeepKeys
import Derived.Maps.Range
import Derived.Maps.OwnSet
namespace Go.Proofs.YthlkpgdfifnagaaGreat
open Go Go.RowKit
noncomputable section
def FL(ro:Option Nat):Fence:={Fence.wide with round:=ro}
def Dp(ds:List Deferred)(N:AW)(a:Act)(w:World):Prop:=a.defers=[]/\N {a with defers:=ds} w
theorem Aj2{a:Act}{ds:List Deferred}{d:Option Tmp}{v:Value}:({a with defers:=ds}:Act).put d v = { (a.put d v) with defers:=ds}:=by cases d <;> rfl
theorem Bcl{a:Act}{d:Option Tmp}{v:Value}:(a.put d v).defers=a.defers:=by cases d <;> rfl
theorem Anh{a:Act}{ds:List Deferred}:({a with defers:=ds}:Act).eval=a.eval:=by funext x;cases x <;> rfl
theorem Av0{ro:Option Nat}{m:Nat}{P:Program}{row:String}{args:Array Value}{w:World}{R:Value->World->Prop}(h:Rows P row args w R):RowsIn (FL ro) m P row args w R:=fun c cs _=>by
 obtain⟨v,w',h1,h2⟩:=h c cs;exact⟨v,w',h1,(StepsIn.of_steps h2).mono fun x _=>fenced_wide P x⟩
theorem Aj3{ro:Option Nat}{m:Nat}{P:Program}{f:FuncId}{args:Array Value}{w:World}{R:Ending->World->Prop}(h:Calls P f args w R):CallsIn (FL ro) m P f args w R:=(callsIn_wide (n:=m)).2 h
theorem Bcm{P:Program}{ro:Option Nat}{m:Nat}{o:Oper}{a:Act}{ds:List Deferred}{N:AW}{Q:Exit->AW}{r:Result Next}(h:o.upon P a (Dp ds N) (fun _ _ _=>False) r):o.uponIn (FL ro) m P {a with defers:=ds} N Q r:=by
 unfold Oper.upon at h;split at h
 .rw[Oper.uponIn_value,Aj2];exact h.2
 .rw[Oper.uponIn_skip,Aj2];exact h.2
 .have:=h.1;rw[Bcl] at this;cases this
 .rw[Oper.uponIn_enter];refine⟨(fun h=>nomatch h),Aj3 (h.mono ?_)⟩;intro e w' he;cases e with
  |returned v=>have:=he.2;rw[<-Aj2] at this;exact this
  |panicked c=>exact he.elim
  |outgrown=>obtain⟨_,_,h⟩:=he;exact h.elim
 .rw[Oper.uponIn_row];refine⟨(fun h=>nomatch h),Av0 (h.mono ?_)⟩;intro v w' he;have:=he.2;rw[<-Aj2] at this;exact this
 .exact h.elim
 .exact h.elim
section
variable {P:Program}{n m:Nat}{ro:Option Nat}{ds:List Deferred}{ops:Array Oper}{Q:Exit->AW}{fr:lF}{L:LE}{rest:List Oper}{N:AW}{dst:Option Tmp}{d:Nat}{op:Op}{ty:TypeId}{pos:String}{after:AE}{guard:ON}
theorem Azp(hnd:∀ c,op≠.defer c){a:Act}{w:World}(h:(⟨dst,op,ty,pos,after,none⟩:Oper).wp P a w (Dp ds (wpListIn (FL ro) m P ops Q rest)) (fun _ _ _=>False)):
  wpListIn (FL ro) m P ops Q (⟨dst,op,ty,pos,after,none⟩ :: rest) {a with defers:=ds} w:=by
 refine wpListIn_plain rfl (fun K hK=>⟨fun _ _=>trivial,?_⟩);rw[Anh,Oper.semAt_eq _ _ _ hnd];refine Bcm (N:=K) ?_;exact Oper.wp_mono (fun a' w' h=>⟨h.1,hK _ _ h.2⟩) h
theorem I_x(h:Wx P (fun _ _ _=>False) n ⟨dst,op,ty,pos,after,none⟩ fr L (Dp ds (wpListIn (FL ro) m P ops Q rest)))(hnd:∀ c,op≠.defer c:=by intro c h;cases h):
  T n (Dp ds (wpListIn (FL ro) m P ops Q (⟨dst,op,ty,pos,after,none⟩ :: rest))) fr L :=
 fun a w ha hw=>⟨ha.nod,Azp hnd (Oper.wp_mono (fun _ _ h=>h.2) (h a w ha hw))⟩
theorem I_h(h:Wh P (fun _ _ _=>False) n ⟨dst,op,ty,pos,after,none⟩ fr L (Dp ds (wpListIn (FL ro) m P ops Q rest)))(hnd:∀ c,op≠.defer c:=by intro c h;cases h):
  T n (Dp ds (wpListIn (FL ro) m P ops Q (⟨dst,op,ty,pos,after,none⟩ :: rest))) fr L :=
 fun a w ha hw=>⟨ha.nod,Azp hnd (h a w ha hw)⟩
theorem Tx{v:Value}(h:Ev P n ⟨some d,op,ty,pos,after,none⟩ fr L v)(hd:Nat.blt d n=true)(k:T n (Dp ds (wpListIn (FL ro) m P ops Q rest)) ((d,v)::fr) L)(hnd:∀ c,op≠.defer c:=by intro c h;cases h):
  T n (Dp ds (wpListIn (FL ro) m P ops Q (⟨some d,op,ty,pos,after,none⟩ :: rest))) fr L:=by
 refine I_h (fun a w ha hw=>?_) hnd;simp only[Oper.wp,h a w ha hw.ok,Oper.upon_value];exact k _ _ (ha.put hd) hw
theorem Aa8(k:T n (Dp ds (Q .normal)) fr L):T n (Dp ds (wpListIn (FL ro) m P ops Q [])) fr L:=k
theorem Bfn(k:T n (Q .normal) fr L):T n (Dp [] (wpListIn (FL ro) m P ops Q [])) fr L:=fun a w ha hw=>⟨ha.nod,by
 have:=k a w ha hw;have he:({a with defers:=[]}:Act)=a:=by rw[<-ha.nod]
 show Q .normal _ w;rw[he];exact this⟩
theorem Aa9{id:Nat}{l:List Oper}(k:T n (Dp ds (wpListIn (FL ro) m P l.toArray Q l)) fr L):T n (Dp ds ((Code.region id l.toArray false).wpIn (FL ro) m P Q)) fr L :=
 fun a w ha hw=>⟨ha.nod,wpIn_region_lit (k a w ha hw).2⟩
theorem Bfo{id:Nat}{l:List Oper}(k:T n (Dp [] (wpListIn (FL none) 0 P l.toArray Q l)) fr L):T n ((Code.region id l.toArray false).wp P Q) fr L :=
 fun a w ha hw=>by
  have h:=(k a w ha hw).2;have he:({a with defers:=[]}:Act)=a:=by rw[<-ha.nod]
  rw[he] at h;exact (wpIn_wide (n:=0)).1 (wpIn_region_lit h)
theorem Acu{x y:Code}(k:T n (Dp ds (x.wpIn (FL ro) m P (Exit.then (y.wpIn (FL ro) m P Q) Q))) fr L):T n (Dp ds ((Code.seq x y).wpIn (FL ro) m P Q)) fr L :=
 fun a w ha hw=>⟨ha.nod,wpIn_seq (k a w ha hw).2⟩
theorem Zh{y:Code}{Q':Exit->AW}(k:T n (Dp ds (y.wpIn (FL ro) m P Q)) fr L):T n (Dp ds (Exit.then (y.wpIn (FL ro) m P Q) Q' .normal)) fr L:=k
theorem Aii{id:Nat}{c:Code}(k:T n (Dp ds (c.wpIn (FL ro) m P (Exit.inBlock id Q))) fr L):T n (Dp ds ((Code.block id c).wpIn (FL ro) m P Q)) fr L :=
 fun a w ha hw=>⟨ha.nod,wpIn_block (k a w ha hw).2⟩
theorem Ats{id:Nat}(k:T n (Dp ds (Q .normal)) fr L):T n (Dp ds (Exit.inBlock id Q .normal)) fr L:=k
theorem Bd8(k:T n (Dp ds (Q .ret)) fr L):T n (Dp ds (Code.ret.wpIn (FL ro) m P Q)) fr L :=
 fun a w ha hw=>⟨ha.nod,wpIn_ret (k a w ha hw).2⟩
def Alx(P:Program)(l:Nat)(vs:LV)(e:Ent)(R:Ent->Prop):Prop :=
 ∀Lf w,Heap (e::Lf) w->YieldAt (FL none) 0 P l vs.toArray w fun en w'=>en=.returned (.bool true)/\∃e',R e'/\Heap (e' :: Lf) w'
theorem Bcn{l:Nat}{cf:Operand}{xs:List Operand}{vs:List Value}{ts:Array TypeId}{e:Ent}{R:Ent->Prop}{i:Nat}{L1:List Ent}(hcf:evo fr cf=some (.func (.yield l) #[] #[]))(hx:evos fr xs=some vs)(hL:Acf L i=some (e,L1))(hY:Alx P l vs e R)(hd:Nat.blt d n=true)(k:∀ e',R e'->T n (Dp ds (wpListIn (FL none) 0 P ops Q rest)) ((d,.bool true)::fr) (e' :: L1)):
  T n (Dp ds (wpListIn (FL none) 0 P ops Q (⟨some d,.call ⟨.value cf,xs.toArray,ts⟩,ty,pos,after,none⟩ :: rest))) fr L:=by
 intro a w ha hw;refine⟨ha.nod,wpListIn_plain rfl (fun K hK=>⟨fun _ _=>trivial,?_⟩)⟩;obtain⟨fn,tmps,assign,body,hy,hR⟩:=hY L1 w (hw.perm (Zv hL));have h1:=ha.evals hx;rw[Anh,Oper.semAt_eq _ _ _ (by intro c h;cases h)];have hrun:(execOp a.eval ⟨some d,.call ⟨.value cf,xs.toArray,ts⟩,ty,pos,after,none⟩).run P w=.ok (.round l fn tmps assign body) w:=by
  simp[execOp,resolve,Deferred.ofValue,invoke,ha.eval hcf,h1,hy]
 rw[hrun,Oper.uponIn_round];refine⟨(fun h=>nomatch h),hR.mono ?_⟩;rintro en w' ⟨rfl,e',hR',hh⟩;have:=k e' hR' _ w' (ha.put (v:=.bool true) hd) hh;refine hK _ _ ?_;rw[Aj2];exact this.2
end
def Sp(l:Nat)(r:Loop):Ent:=.f [l] fun w=>w.heap[l]? = some (.loop r)
def defE(D:Nat):Ent:=.f [D] fun w=>w.heap[D]? = some (.deferred (some []))
def Bg7(D:Nat):Ent:=.f [D] fun w=>w.heap[D]? = some (.deferred none)
def bunS(es:LE):Ent:=.f (es.flatMap Ent.blks) fun w=>(∀e∈es,Ent.ok w e)/\es.Pairwise Ent.sep
theorem Adj{es L:LE}{w:World}(hl:∀e∈es,e.low=0)(h:Heap (es++L) w):Heap (bunS es::L) w:=by
 have hp:=List.pairwise_append.1 h.sep;have hb:=Aff hl h;refine⟨fun e he=>?_,?_⟩
 .rcases List.mem_cons.1 he with rfl|he
  .obtain⟨h1,h2,h3⟩:=hb.ok _ mS;exact⟨h1,⟨h2,hp.1⟩,fun w1 w2 h4 h5=>⟨h3 w1 w2 h4.1 h5,h4.2⟩⟩
  .exact hb.ok e (mO _ he)
 .have:=hb.sep;rw[List.pairwise_cons] at this⊢;exact⟨fun x hx=>this.1 x hx,this.2⟩
theorem Agr{es L:LE}{w:World}(hl:∀e∈es,e.low=0)(h:Heap (bunS es::L) w):Heap (es++L) w:=by
 have hs:=h.sep;rw[List.pairwise_cons] at hs;obtain⟨_,⟨h2,h3⟩,_⟩:=h.ok _ mS;refine⟨fun e he=>?_,List.pairwise_append.2 ⟨h3,hs.2,fun e he x hx=>⟨fun g hg=>?_,fun g hg=>⟨by rw[Ent.low_lo (hl e he)];exact Nat.zero_le _,fun hb=>?_⟩⟩⟩⟩
 .rcases List.mem_append.1 he with he|he
  .exact h2 e he
  .exact h.ok e (mO _ he)
 .exact (hs.1 x hx).1 g (List.mem_flatMap.2 ⟨e,he,Ent.own_blks.1 hg⟩)
 .exact ((hs.1 x hx).2 g hg).2 (List.mem_flatMap.2 ⟨e,he,Ent.own_blks.1 hb⟩)
theorem Heap.allocF{L:LE}{w:World}(h:Heap L w)(o:Obj):Heap (.f [w.heap.size] (fun w'=>w'.heap[w.heap.size]? = some o)::L) (w.alloc o):=by
 have hx:=Xb w o;have hnew:(w.alloc o).heap[w.heap.size]? = some o:=World.alloc_heap_new w o;refine⟨fun e he=>?_,?_⟩
 .rcases List.mem_cons.1 he with rfl|he
  .exact⟨fun g hg=>by simp at hg;subst hg;exact Dq hnew,hnew,fun w1 w2 h1 h2=>(h2 _ s_).trans h1⟩
  .exact Ent.ext (h.ok e he) hx
 .rw[List.pairwise_cons];refine⟨fun x hx=>⟨fun g hg=>?_,fun g hg=>⟨Nat.zero_le _,fun he=>?_⟩⟩,h.sep⟩
  .have hg:g∈[w.heap.size]:=hg;simp at hg;subst hg;exact⟨Ent.lo_le (h.ok x hx),fun he=>by have:=Ent.lt (h.ok x hx) he;omega⟩
  .have he:g∈[w.heap.size]:=he;simp at he;have:=Ent.lt (h.ok x hx) hg;omega
theorem Heap.putF{L L':LE}{w:World}{i g:Nat}{o o':Obj}(h:Heap L w)(hs:SetE L i (.f [g] fun w=>w.heap[g]? = some o) (.f [g] fun w=>w.heap[g]? = some o') L'):Heap L' (w.putObj g o'):=by
 obtain⟨h1,h2,_⟩:=h.ok _ hs.mem;have hlt:=h1 g s_;refine Heap.turnO (Yl w g o') (fun g' hg'=>by cases hg';exact List.mem_singleton.2 rfl) (e:=.f [g] fun w=>w.heap[g]? = some o) (e':=.f [g] fun w=>w.heap[g]? = some o') ?_ (nL _) (fun g' hg'=>.inl hg') hs h;have hnew:(w.putObj g o').heap[g]? = some o':=World.putObj_heap_same hlt;refine⟨fun g' hg'=>?_,hnew,fun w1 w2 h3 h4=>(h4 _ s_).trans h3⟩;simp at hg';subst hg';exact Dq hnew
section
variable {P:Program}{n m:Nat}{ro:Option Nat}{ds:List Deferred}{Q:Exit->AW}{fr:lF}{L L':LE}{N:AW}
theorem Att{l i:Nat}{r:Loop}{body:Code}(hL:SetE L i (Sp l r) (Sp l { r with state:=.busy }) L')(hr:r.state = .ready)(k:T n (Dp [] (body.wpIn (FL ro) m P Q)) fr L'):
  T n (Dp [] (Exit.then (fun a1 w1=>∃w2,(Instr.beginRound l).run P w1=.ok () w2/\body.wpIn (FL ro) m P Q a1 w2) (fun _ _ _=>False) .normal)) fr L:=fun a w ha hw=>by
 obtain⟨_,h2,_⟩:=hw.ok _ hL.mem;exact⟨ha.nod,_,run_beginRound h2 hr,(k a _ ha (hw.putF hL)).2⟩
theorem Atu{l i:Nat}{r:Loop}{R:Ending->World->Prop}(hL:SetE L i (Sp l { r with state:=.busy }) (Sp l r) L')(hr:r.state = .ready)(hp:r.pending=none)(k:∀ w,Heap L' w->R (.returned (.bool true)) w):
  T n (Dp [] (roundPost P l R .normal)) fr L:=fun a w ha hw=>by
 obtain⟨_,h2,_⟩:=hw.ok _ hL.mem;have he:({ ({r with state:=.busy}:Loop) with state:=if (none:Option Code).isNone then .ready else .done,pending:=(none:Option Code)}:Loop)=r:=by
  cases r;simp at hr hp;subst hr;subst hp;rfl
 have h3:=run_endRound (P:=P) none h2;rw[he] at h3;exact⟨ha.nod,_,_,h3,k _ (hw.putF hL)⟩
theorem Alx.mk{l:Nat}{r:Loop}{p:Tmp}{v:Value}{a0:Act}{Hs:List Ent}{R:Ent->Prop}(hfr:Fr n fr a0)(hp:r.params = #[p])(ht:r.tmps=a0.tmps)(hpn:Nat.blt p n=true)(hl:∀ e∈Hs,e.low=0)(k:∀ Lf,T n (Dp [] (r.assign.wpIn (FL (some l)) 0 P (Exit.then (fun a1 w1=>∃ w2,(Instr.beginRound l).run P w1 = .ok () w2/\r.body.wpIn (FL (some l)) 0 P (roundPost P l fun en w'=>en = .returned (.bool true)/\∃ e',R e'/\Heap (e' :: Lf) w') a1 w2) (fun _ _ _=>False))))
   ((p,v)::fr) (Sp l r::(Hs++Lf))):Alx P l [v] (bunS (Sp l r::Hs)) R:=by
 intro Lf w hw;have hw':=Agr (Bq rfl hl) hw;obtain⟨_,h2,_⟩:=hw'.ok (Sp l r) s_;have hy:=run_yield (P:=P) (args:=#[v]) h2 (by rw[hp];rfl);refine⟨_,_,_,_,hy,roundIn_of_wpIn trivial ?_⟩;rw[hp,ht];have hf:Fr n ((p,v)::fr) {tmps:=a0.tmps.setIfInBounds p v,defers:=[]}:=by
  have:=hfr.put (v:=v) hpn;refine⟨rfl,this.size,this.val⟩
 have h5:=(k Lf _ w hf hw').2;have he:(Array.foldl (fun tmps (x:Tmp×Value)=>match x with|(t,a)=>tmps.setIfInBounds t a) a0.tmps (#[p].zip #[v]))=a0.tmps.setIfInBounds p v:=s_;rw[he];exact h5
def Atv(D:Nat):Deferred:={target:=.collected D,args:=#[]}
theorem Atw{g:Operand}{p:Tmp}{assign body:Code}{gf:Nat}{caps:List Value}{K Hs Lr:List Ent}{Rf:List Ent->Prop}(hg:evo fr g=some (.func (.func gf) #[] caps.toArray))(hp:Hh L (Hs++Lr))(hlo:∀ e∈Hs,e.low=0)(hK:SubE K Lr)(hit:∀ (l:Nat) (r:Loop) (a0:Act),Fr n fr a0->r.state = .ready->r.pending=none->r.params = #[p]->r.tmps=a0.tmps->r.assign=assign->r.body=body ->
   CtK P gf (.func (.yield l) #[] #[]::caps) K [bunS (Sp l r::Hs)] (fun _ Ln=>∃Hs',Rf Hs'/\(∀e∈Hs',e.low=0)/\Ln=[bunS (Sp l r::Hs')]))(k:∀D Hs',Rf Hs'->(∀e∈Hs',e.low=0)->T n (Dp [Atv D] (Q .normal)) fr (defE D::(Hs'++Lr))):
  T n (Dp [] ((Code.rangeFunc g #[p] assign body).wpIn (FL none) 0 P Q)) fr L:=by
 intro a w ha hw;refine⟨ha.nod,wpIn_rangeFunc fun fn _=>?_⟩;have hw0:=hw.pick hp;obtain⟨r,hr⟩:∃r:Loop,r = {state:=.ready,pending:=none,fn,tmps:=a.tmps,params:=#[p],assign,body,defers:=w.heap.size}:=⟨_,rfl⟩;have hc:=hit (w.heap.size+1) r a ha (by rw[hr]) (by rw[hr]) (by rw[hr]) (by rw[hr]) (by rw[hr]) (by rw[hr]);have h1:=hw0.allocF (.deferred (some []));have h2:=h1.allocF (.loop r);rw[World.size_alloc] at h2;have h3:Heap (Sp (w.heap.size+1) r::(Hs++defE w.heap.size::Lr)) ((w.alloc (.deferred (some []))).alloc (.loop r)):=
  h2.perm (((List.perm_middle (l₁:=Hs) (l₂:=Lr) (a:=defE w.heap.size)).symm).cons _)
 have hl':∀e∈Sp (w.heap.size+1) r::Hs,e.low=0:=Bq rfl hlo;have h4:=Adj (es:=Sp (w.heap.size+1) r::Hs) hl' h3;obtain⟨fn',e1,e2,e3⟩:=hc.1;have e2':fn'.name ≠ "runtime.NumGoroutine" := by simpa using e2
 have e3':fn'.body≠none:=by intro h;rw[h] at e3;cases e3
 refine⟨w.heap.size+1,[Atv w.heap.size],(w.alloc (.deferred (some []))).alloc (.loop r),{target:=.fn (.func gf) caps.toArray,args:=#[.func (.yield (w.heap.size+1)) #[] #[]]},(w.alloc (.deferred (some []))).alloc (.loop r),gf,#[.func (.yield (w.heap.size+1)) #[] #[]]++caps.toArray,(w.alloc (.deferred (some []))).alloc (.loop r),?_,?_,fun _ _=>trivial,?_,(fun h=>nomatch h),?_⟩
 .have:=run_enterLoop_outer (P:=P) (w:=w) fn a.tmps #[p] assign body;rw[<-hr] at this;exact this
 .have:({a with defers:=[]}:Act).eval g=.func (.func gf) #[] caps.toArray:=by rw[Anh];exact ha.eval hg
  simp only[resolve,this];simp[go_sem]
 .simp[invoke,callFunc,e1,e2',e3']
 .refine Aj3 (ro:=none) ?_;have hcall:=hc.2 (defE w.heap.size::Lr) _ (SubE.appR2 (K:=[defE w.heap.size]) hK) h4;have:(#[.func (.yield (w.heap.size+1)) #[] #[]]++caps.toArray:Array Value)=(.func (.yield (w.heap.size+1)) #[] #[]::caps).toArray:=s_;rw[this];refine hcall.mono ?_;rintro e w3 ⟨v,Ln,rfl,⟨Hs',hR,hl2,rfl⟩,hh⟩;have hh':=Agr (es:=Sp (w.heap.size+1) r::Hs') (Bq rfl hl2) hh;obtain⟨_,h5,_⟩:=hh'.ok (Sp (w.heap.size+1) r) s_;have h6:=run_endLoop (P:=P) h5 (by rw[hr];simp);have hp0:r.pending=none:=by rw[hr]
  rw[hp0] at h6;refine⟨none,_,h6,?_⟩;have h7:=hh'.putF (o':=.loop {r with state:=.exhausted}) (.here);have h8:Heap (defE w.heap.size::(Hs'++Lr)) (w3.putObj (w.heap.size+1) (.loop {r with state:=.exhausted})):=
   (h7.sub (.drop .refl)).perm List.perm_middle
  have:=(k w.heap.size Hs' hR hl2 a _ ha h8).2;rw[hp0] at this;exact this
theorem Bd9{fn:Func}{R:Value->List Ent->Prop}{w0:World}{D i:Nat}{rs:List ResultVar}{vs:List Value}{Ln:List Ent}(hr:fn.results=rs.toArray)(h:Res P fr L rs vs)(hR:R (Vh vs) Ln)(hlo:∀ x∈Ln,x.low=0)(hL:SetE L i (defE D) (Bg7 D) L')(h':Res P fr L' rs vs)(hs:Hh L' (Ln++[.old w0])):
  T n (Dp [Atv D] (bodyPostM (FL none) 0 P fn (fun e w'=>∃v Ln,e=.returned v/\R v Ln/\(∀x∈Ln,x.low=0)/\Heap (Ln++[.old w0]) w') .ret)) fr L:=fun a w ha hw=>by
 obtain⟨_,h2,_⟩:=hw.ok _ hL.mem;have h3:=hw.putF hL;refine⟨ha.nod,?_⟩;show LeavesInM _ _ _ _ _ _ [Atv D] _ _;refine⟨s_,.inl ⟨D,_,rfl,run_takeDeferred h2,?_⟩⟩;exact⟨_,(h'.run hr ha h3:(results fn a.tmps).run P _=_),_,Ln,rfl,hR,hlo,h3.pick hs⟩
theorem CtL.mkI{f:FuncId}{fn:Func}{c:Code}{vs:LV}{w:World}{R:Value->LE->Prop}(m:Nat)(hf:P.funcs[f]? = some fn)(hb:fn.body=some c)(hm:fn.ntmps=m)(hn:(fn.name == "runtime.NumGoroutine")=false)(hl:Nat.ble vs.length m=true)(k:T m (Dp [] (c.wpIn (FL none) 0 P (bodyPostM (FL none) 0 P fn fun e w'=>∃v Ln,e=.returned v/\R v Ln/\(∀x∈Ln,x.low=0)/\Heap (Ln++[.old w]) w'))) (Aaq vs 0) [.old w]):CtL P f vs w R:=by
 refine⟨⟨fn,hf,hn,by rw[hb];rfl⟩,(callsIn_wide (n:=0)).1 (callsIn_of_wp_marks hf hb trivial ?_)⟩;rw[hm];exact (k _ w (An0 vs m (Nat.le_of_ble_eq_true hl)) (Heap.old w)).2
end
theorem Pt.up0{K:LE}{b o:Nat}{ys:LV}(h:Pt K b o ys):Pt (K++[]) b o ys:=by rw[List.append_nil];exact h
def Ab9{α β:Type}(P:Program)(K:LE)(kv:Value)(ax:α->Value)(ry:β->Value)(ky:α->Option β):Prop :=
 ∃f caps,kv=.func (.func f) #[] (List.toArray caps)/\∀x y,ky x=some y->∀w,(∀e∈K,Ent.ok w e)->CtL P f (ax x::caps) w fun v Ln=>v=ry y/\Ln=[]
theorem Ars{α β:Type}{P:Program}{n:Nat}{Q:Exit->AW}{fr:lF}{L K:LE}{N:AW}{d:Nat}{pos:String}{after:AE}{guard:ON}{kv:Value}{ax:α->Value}{ry:β->Value}{ky:α->Option β}{cf x:Operand}{ts:Array TypeId}{ty':TypeId}{u:α}{y:β}(hk:Ab9 P K kv ax ry ky)(hcf:evo fr cf=some kv)(hx:evo fr x=some (ax u))(hy:ky u=some y)(hK:SubE K L)(hd:Nat.blt d n=true)(k:T n N ((d,ry y)::fr) L):Wx P Q n ⟨some d,.call ⟨.value cf,#[x],ts⟩,ty',pos,after,guard⟩ fr L N:=by
 intro a w ha hw;obtain⟨f,caps,rfl,hc⟩:=hk;obtain⟨hf,hcall⟩:=hc u y hy w (hK.ok w hw.ok);have hrun:(execOp a.eval ⟨some d,.call ⟨.value cf,#[x],ts⟩,ty',pos,after,guard⟩).run P w=.ok (.enter f (ax u::caps).toArray) w:=by
  obtain⟨fn,h1,h2,h3⟩:=hf;have h2':fn.name ≠ "runtime.NumGoroutine" := by simpa using h2
  have h3':fn.body≠none:=by intro h;rw[h] at h3;cases h3
  simp[execOp,resolve,Deferred.ofValue,invoke,callFunc,ha.eval hcf,ha.eval hx,h1,h2',h3']
 simp only[Oper.wp,hrun,Oper.upon_enter];refine hcall.mono ?_;rintro e w' ⟨v,Ln,rfl,⟨rfl,rfl⟩,hl,hh⟩;exact⟨hh.ok (.old w) s_,k _ _ (ha.put hd) (hw.join hl hh)⟩
theorem Acv{P:Program}{n:Nat}{fr:List (Nat × Value)}{L:List Ent}{dst:Option Tmp}{ty:TypeId}{pos:String}{after:Array Edge}{guard:Option (Nat × Bool)}{f:Nat}{xs:List Operand}{vs:List Value}(hx:evos fr xs=some vs):
  Ev P n ⟨dst,.makeFunc (.func f) #[] xs.toArray,ty,pos,after,guard⟩ fr L (.func (.func f) #[] vs.toArray):=fun a w ha _=>by
 have:=ha.evals hx;simp[execOp,this,Instr.makeFunc,Result.andThen]
section
variable {P:Program}{n:Nat}{N:AW}{Q:Exit->AW}{fr:lF}{L:LE}{dst:Option Tmp}{ty:TypeId}{pos:String}{after:AE}{guard:ON}
theorem Ags{t e t':TypeId}{x y:Operand}{A:Option Addr}{m c:Nat}(ht:P.underlying t=some (.slice e))(hx:evo fr x=some (.slice A m c))(hy:evo fr y=some (.slice none 0 0)):
  Ev P n ⟨dst,.binOp .eql t x y t',ty,pos,after,guard⟩ fr L (.bool A.isNone):=fun a w ha _=>by
 simp[execOp,ha.eval hx,ha.eval hy,eqGuard_at_slice,run_eql_slice_nil w t e A m c ht,Result.andThen]
theorem Azq{t x hi mx A m c e sz k1 k2}{j:Int}(hx:evo fr x=some (.slice A m c))(hh:evo fr hi=some (.int k1 j))(hm:evo fr mx=some (.int k2 j))(ht:Po P t e sz)(h0:0<=j)(h1:j<=(c:Int)):
  Ev P n ⟨dst,.slice t x none (some hi) (some mx),ty,pos,after,guard⟩ fr L (.slice A j.toNat j.toNat):=fun a w ha _=>by
 obtain⟨q,rfl⟩:∃q:Nat,j=(q:Int):=⟨j.toNat,oo⟩;have h2:q<=c:=oo;have:(if q=0 then A else A.map (·.add (0*sz)))=A:=by
  split
  .rfl
  .cases A <;> simp[Addr.add]
 simp[execOp,ha.eval hx,ha.eval hh,ha.eval hm,Instr.sliceAt,Instr.slice,run_underlying ht.1,Instr.sliceBounds,Instr.sliceBound,asIntOf,h2,ht.2 w,Addr.add]
theorem Has.subHM{α:Type}{K:List Ent}{A m c sz}{enc:α->List Value}{l:List α}(h:Has K A m c sz enc l){j:Int}(h1:0<=j)(h2:j<=(m:Int)):
  Has K A j.toNat j.toNat sz enc (subl l 0 j):=by
 have h3:=h.subH h1 h2;exact⟨h3.len,nL _,by have:=h.cap;have:=h.nc;omega,h3.esz,h3.at_⟩
theorem Art{α : Type}(enc : α -> List Value)(l ys : List α){d : Nat}{s x t e sz bytes A m B q q' ty'}{K : List Ent}(hs : evo fr s = some (.slice A m m))(hx : evo fr x = some (.slice B q q'))(ht : Ab4 P t e sz bytes)(he : ∀ x, (enc x).length = sz)(hl : Has K A m m sz enc l)(hy : Has K B q q' sz enc ys)(hK : SubE K L)(hne : ys ≠ [])(hb : (l.length + ys.length) * bytes <= 140737488355328)(hd : Nat.blt d n = true)(h0 : 0<bytes)(k : ∀ A' c', T n N ((d, .slice A' (l ++ ys).length c') :: fr) (.r A' (l ++ ys).length c' e sz ((l ++ ys).flatMap enc) :: L)):
    Wh P Q n ⟨some d, .call ⟨.builtin .append, #[s, x], #[t, t]⟩, ty', pos, after, guard⟩ fr L N:=by
  intro a w ha hw;have hm := hl.len;subst hm;have hq := hy.len;subst hq;have hll := Nw he l;have hly := Nw he ys;have hn : 0<ys.length := List.length_pos_iff.2 hne;have h63 : l.length + ys.length <= 9223372036854775807 := by
    have h3:=Nat.mul_le_mul_left (l.length+ys.length) h0;rw[Nat.mul_succ, Nat.mul_zero, Nat.zero_add] at h3;omega
  obtain⟨i0, z, e1, e2, e3, e4, e5⟩ := ht.ex;subst e3;subst e4;have cellsOf : ∀ {C : Option Addr} {c0 : Nat} {zs : List α}, Has K C zs.length c0 i0.size enc zs -> ∀ b o, C = some ⟨b, o, none⟩ -> (∀ i (hi : i<zs.length) j u, (enc zs[i])[j]? = some u -> w.cell? ⟨b, o + i * i0.size + j, none⟩ = some u) ->
      ∀(j:Nat) (u:Value), (zs.flatMap enc)[j]? = some u->w.cell? ((⟨b, o, none⟩:Addr).add j)=some u:=by
    intro C c0 zs _ b o _ hcell j u hj;have hlz:=Nw he zs;have hjl:j<(zs.flatMap enc).length:=(List.getElem?_eq_some_iff.1 hj).1;rw[hlz] at hjl;have hdm:j=j/i0.size*i0.size+j%i0.size:=by have:=Nat.div_add_mod j i0.size;rw[Nat.mul_comm] at this;omega
    have hq:j/i0.size<zs.length:=(Nat.div_lt_iff_lt_mul ht.pos).2 hjl;have hmod:=Nat.mod_lt j ht.pos;obtain⟨u', hu'⟩:∃u', (enc zs[j/i0.size])[j%i0.size]? = some u':=⟨_, gE (by rw[he zs[j/i0.size]];exact hmod)⟩;have hf:=Abi zs (j/i0.size) hq (fun x _ => he x) (j%i0.size) u' hu';rw[<-hdm, hj] at hf;injection hf with hf
    subst hf;have:=hcell (j/i0.size) hq (j%i0.size) u hu';rw[Addr.add_lit, hdm, <-Nat.add_assoc];exact this
  have hsl:=hy.at hK hw;obtain⟨b, o, hB, hcell⟩:=hsl.at_ hn;subst hB;have hnew:=cellsOf hy b o rfl hcell;have hlen:(l.flatMap enc++ys.flatMap enc).length=(l.length+ys.length)*i0.size:=by rw[List.length_append, hll, hly, Nat.add_mul]
  have main : ∃ old, (Builtin.append_ #[t, t] ty' #[.slice A l.length l.length, .slice (some ⟨b, o, none⟩) ys.length q']).run P w = .ok (.slice (some ⟨w.heap.size, 0, none⟩) (l.length + ys.length) (grownCap w (l.length + ys.length) old e))
        (w.drew.alloc (.cells ((l.flatMap enc).toArray++(ys.flatMap enc).toArray++Builtin.zeroCells z.cells (grownCap w (l.length+ys.length) old e - (l.length+ys.length))) e)):= by
    by_cases hl0:0<l.length
    · obtain⟨b1, o1, hA, hc1⟩:=(hl.at hK hw).at_ hl0;subst hA;have hold:=cellsOf hl b1 o1 rfl hc1;exact⟨l.length, run_append_grow (P:=P) w t ty' e i0 z ht.sl e1 e2 ⟨b1, o1, none⟩ l.length l.length (l.flatMap enc) hll hold ⟨b, o, none⟩ ys.length q' (ys.flatMap enc) hly hnew oo oo (growslice_fits oo hb)⟩
    · have hl1:l=[]:=List.eq_nil_of_length_eq_zero oo;subst hl1;cases A with
      | none=>
        refine⟨0, ?_⟩;have:=run_append_nil (P:=P) w t ty' e i0 z ht.sl e1 e2 ⟨b, o, none⟩ ys.length q' (ys.flatMap enc) hly hnew hn (by simp at h63;omega) (by simp only[List.length_nil, Nat.zero_add] at hb;omega);simpa using this
      | some a1=>
        refine⟨0, ?_⟩;have:=run_append_grow (P:=P) w t ty' e i0 z ht.sl e1 e2 a1 0 0 [] s_ (fun j u hj => by simp at hj) ⟨b, o, none⟩ ys.length q' (ys.flatMap enc) hly hnew oo (by simp at h63;omega) (growslice_fits oo (sV hb));simpa using this
  obtain⟨old, hr⟩ := main;have hrun : (execOp a.eval ⟨some d, .call ⟨.builtin .append, #[s, x], #[t, t]⟩, ty', pos, after, guard⟩).run P w = .ok (.value (.slice (some ⟨w.heap.size, 0, none⟩) (l.length + ys.length) (grownCap w (l.length + ys.length) old e)))
      (w.drew.alloc (.cells ((l.flatMap enc).toArray++(ys.flatMap enc).toArray++Builtin.zeroCells z.cells (grownCap w (l.length+ys.length) old e - (l.length+ys.length))) e)):= by
    simp[execOp, resolve, invoke, builtin, ha.eval hs, ha.eval hx, hr]
  simp only[Oper.wp, hrun, Oper.upon_value];have hlq:l.length+ys.length=(l++ys).length:=by rw[List.length_append]
  have hge:=grownCap_ge w (l.length+ys.length) old e;have hcm:grownCap w (l.length+ys.length) old e <= maxLen:=grownCap_le_maxLen w (l.length+ys.length) old e (by unfold maxLen;omega);have hwd:Heap L w.drew:=hw.ext ⟨⟨rfl, rfl, rfl, nL _, fun _ _ => rfl⟩, Nat.le_succ _⟩;have hh:=hwd.allocF (.cells ((l.flatMap enc).toArray++(ys.flatMap enc).toArray++Builtin.zeroCells z.cells (grownCap w (l.length+ys.length) old e - (l.length+ys.length))) e);have hk:=k (some ⟨w.heap.size, 0, none⟩) (grownCap w (l.length+ys.length) old e);rw[<-hlq] at hk;refine hk _ _ (ha.put hd) ⟨fun x hx => ?_, ?_⟩
  · rcases List.mem_cons.1 hx with rfl|hx
    · refine⟨by rw[List.flatMap_append];exact hlen, .inr ⟨w.heap.size, _, _, rfl, Nat.zero_le _, heap_alloc_new w.drew _, hge, hcm, ?_, ?_⟩⟩
      · simp only[Array.size_append, List.size_toArray, size_zeroCells, e5, hll, hly, <-Nat.add_mul];congr 1;omega
      · rw[List.flatMap_append];simp only[Array.toList_append, List.append_assoc];rw[<-List.append_assoc, <-hlen];exact List.take_left
    · exact hh.ok x (mO _ hx)
  · have hp:=hh.sep;rw[List.pairwise_cons] at hp⊢;refine⟨fun x hx => ⟨fun g hg => (hp.1 x hx).1 g (by have hg:w.heap.size=g:=hg;subst hg;exact List.mem_singleton.2 rfl), fun g hg => ⟨Nat.zero_le _, fun hb => ((hp.1 x hx).2 g hg).2 (by have hb:w.heap.size=g:=hb;subst hb;exact List.mem_singleton.2 rfl)⟩⟩, hp.2⟩
end
section
variable {P:Program}{n:Nat}{N:AW}{Q:Exit->AW}{fr:lF}{L:LE}{dst:Option Tmp}{ty:TypeId}{pos:String}{after:AE}{guard:ON}
theorem Zo.arr{t k m e i}(hu:P.underlying t=some (.array m e))(hi:P.info? t=some i)(hk:i.size=k):Zo P t k:=by
 refine⟨fun w=>?_,fun w=>by simp[sizeOf,typeInfo,hi,hk]⟩;simp[isAgg,run_underlying hu]
def Api(P:Program)(t:TypeId)(m sz:Nat):Prop:=∃e,P.underlying t=some (.array m e)/\∀w,(sizeOf e).run P w=.ok sz w
theorem Api.mk{t m e sz i}(hu:P.underlying t=some (.array m e))(hi:P.info? e=some i)(hk:i.size=sz):Api P t m sz :=
 ⟨e,hu,fun w=>by simp[sizeOf,typeInfo,hi,hk]⟩
theorem Agt{t x ix g o k m sz}{z:Int}(hx:evo fr x=some (.pointer (some ⟨g,o,none⟩)))(hi:evo fr ix=some (.int k z))(ht:Api P t m sz)(h0:0<=z)(h1:z<(m:Int)){off:Nat}(ho:z.toNat*sz=off):
  Ev P n ⟨dst,.indexAddr t x ix,ty,pos,after,guard⟩ fr L (.pointer (some ⟨g,o+off,none⟩)):=fun a w ha _=>by
 obtain⟨e,hu,hs⟩:=ht;subst ho;simp[execOp,ha.eval hx,ha.eval hi,Instr.indexAt,asIntOf,run_underlying hu,Instr.sureAddr,h0,h1,hs,Addr.add_lit]
def Ani(P:Program)(t:TypeId)(xs ys:LV):Prop:=∀(j:Nat) (h:j<ys.length) (k:IntKind) (w:World),(Instr.index t (.agg xs.toArray) (.int k (j:Int))).run P w=.ok ys[j] w
theorem Aru{α:Type}{f:α->Value}{t:TypeId}{x i:Operand}{k:IntKind}{xs zs:LV}{ys:List α}{z:Int}{v:α}(hx:evo fr x=some (.agg xs.toArray))(hzs:zs=ys.map f)(hi:evo fr i=some (.int k z))(hV:Ani P t xs zs)(hz:idx ys z=some v){v':Value}(hv:f v=v'):Ev P n ⟨dst,.index t x i,ty,pos,after,guard⟩ fr L v':=fun a w ha _=>by
 subst hzs;subst hv;unfold idx at hz;split at hz
 .rename_i h0;obtain⟨hlt,he⟩:=List.getElem?_eq_some_iff.1 hz;have:=hV z.toNat (sV hlt) k w;rw[Int.toNat_of_nonneg h0] at this;simp only[execOp,ha.eval hx,ha.eval hi,this,Sem.run_bind,Result.andThen,List.getElem_map,he];rfl
 .cases hz
theorem Afr{α:Type}{l:List α}{i:Int}{x:α}(h:idx l i=some x):0<=i/\i<(l.length:Int):=by
 obtain⟨j,hj,rfl,_⟩:=Acd h;omega
theorem Bco{α:Type}{enc:α->LV}{ys:List α}{w:World}{g t o sz:Nat}{cs post:LV}{z:Int}{v:α}(hw:Ent.ok w (.m g t cs))(hz:idx ys z=some v)(hc:cs.drop o=ys.flatMap enc++post)(he:∀x,(enc x).length=sz)(j:Nat)(u:Value)(hu:(enc v)[j]? = some u):w.cell? ⟨g,o+z.toNat*sz+j,none⟩=some u:=by
 obtain⟨q,hq,rfl,rfl⟩:=Acd hz;rw[Aac hw];have h1:=Abi ys q hq (fun x _=>he x) j u hu;have h2:(cs.drop o)[q*sz+j]? = some u:=by
  rw[hc,List.getElem?_append_left]
  .exact h1
  .exact (List.getElem?_eq_some_iff.1 h1).1
 rw[List.getElem?_drop] at h2;rw[show o+(q:Int).toNat*sz+j=o+(q*sz+j) by simp[Nat.add_assoc]];exact h2
theorem Azr{α:Type}(enc:α->LV){ys:List α}{x g o i t cs post ty'}{z:Int}{v:α}{u:Value}(hx:evo fr x=some (.pointer (some ⟨g,o+z.toNat*1,none⟩)))(hi:nthE L i=some (.m g t cs))(hz:idx ys z=some v)(hc:cs.drop o=ys.flatMap enc++post)(he:∀x,(enc x).length=1)(hu:enc v=[u])(ht:Zp P ty'):Ev P n ⟨dst,.load ty' x,ty,pos,after,guard⟩ fr L u:=fun a w ha hw=>by
 have h:=Bco (g:=g) (t:=t) (hw _ (Gd hi)) hz hc he 0 u (by rw[hu];rfl);simp only[Nat.add_zero] at h;rw[Nat.mul_one] at h hx;simp[execOp,ha.eval hx,Instr.loadAt,Instr.sureAddr,Aad ht _ u h]
end
section
variable {P:Program}
inductive EqI(P:Program)(d:Nat)(e:TypeId)(c:Nat)(xs ys:Array Value):LM->Bool->Prop
 |nil:EqI P d e c xs ys [] true
 | cons {i is a b r r'} (hx:∀ w,(part e xs (i*c)).run P w = .ok a w) (hy:∀ w,(part e ys (i*c)).run P w = .ok b w)
   (he:∀w,(Op.equalIn d e a b).run P w=.ok r w) (h:EqI P d e c xs ys is r'):EqI P d e c xs ys (i::is) (r&&r')
theorem EqI.run{d e c xs ys is r}(h:EqI P d e c xs ys is r):∀w,(Op.eqItems d e c xs ys is).run P w=.ok r w:=by
 induction h with
 |nil=>intro w;simp[Op.eqItems]
 |cons hx hy he _ ih=>
  intro w;rename_i i is a b r r' _;simp only[Op.eqItems,Sem.run_bind,hx,hy,he,Result.andThen_ok];cases r with
  |true=>simp[ih w]
  |false=>simp
theorem EqI.array{d t e m c xs ys r i}(hu:P.underlying t=some (.array m e))(hi:P.info? e=some i)(hc:P.cellsOf e=c)(h:EqI P d e c xs ys (List.range m) r):∀w,(Op.equalIn (d+1) t (.agg xs) (.agg ys)).run P w=.ok r w:=by
 intro w;subst hc;rw[run_equalIn_array w d xs ys hu hi];exact h.run w
theorem Av1{k:TypeId}{m e d:Nat}{q:IntKind}{zs:LI}(hd:P.types.size=d+1)(hu:P.underlying k=some (.array m e))(hk:P.keyType k=true)(hc:zs.length=m)(he:P.underlying e=some (.int q))(h1:P.cellsOf e=1)(hm:P.cellsOf k=m)(hf:∀z∈zs,(Lit.int q z).wf=true):(keyOf P k (.agg (zs.map (Value.int q)).toArray)).isSome=true:=by
 unfold keyOf;rw[hu];have hfm:(Value.agg (zs.map (Value.int q)).toArray).formed P k=true:=by simp[Value.formed,hu,hm,hc]
 simp only[hk,hfm,Bool.and_self,if_true,Option.isSome_map];have hcl:(Value.agg (zs.map (Value.int q)).toArray).cells.toList=zs.map (Value.int q):=by simp[Value.cells]
 rw[hcl,hd];unfold Program.keyLits;simp only[hu];rw[iP (by simp[hm,hc]),Option.isSome_map];refine Ach _ fun i hi=>?_
 rw[List.mem_range] at hi;rw[h1,Nat.mul_one];have hlt:i<zs.length:=oo;have:((zs.map (Value.int q)).drop i).take 1=[.int q zs[i]]:=by
  rw[List.drop_eq_getElem_cons (sV hlt)];simp
 rw[this];unfold Program.keyLits;simp[he,hf zs[i] (gM hlt)]
end
open Go.Maps (Keyed)
section
variable {κ υ:Type}
open Classical in
def mdel(m:List (κ×υ))(x:κ):List (κ×υ):=m.filter fun p=>decide (p.1≠x)
def mput(m:List (κ×υ))(x:κ)(v:υ):List (κ×υ):=(x,v)::mdel m x
def Cx(m:List (κ×υ)):Prop:=m.Pairwise fun p q=>p.1≠q.1
theorem Mo{m:List (κ×υ)}{x:κ}{p:κ×υ}:p∈mdel m x↔p∈m/\p.1≠x:=by simp[mdel]
theorem Cx.del{m:List (κ×υ)}(h:Cx m)(x:κ):Cx (mdel m x):=List.Pairwise.filter _ h
theorem Cx.put{m:List (κ×υ)}(h:Cx m)(x:κ)(v:υ):Cx (mput m x v):=
 List.pairwise_cons.2 ⟨fun q hq e=>(Mo.1 hq).2 e.symm,h.del x⟩
theorem Up:∀{m:List (κ×υ)} {p:κ×υ},Cx m->p∈m->mget m p.1=some p.2
 |q::r,p,h,hp=>by
  obtain⟨h1,h2⟩:=List.pairwise_cons.1 h;rcases List.mem_cons.1 hp with rfl|hp
  .rw[Wo,iP rfl]
  .rw[Wo,iN (h1 p hp),Up h2 hp]
theorem He{x:κ}{v:υ}:∀{m:List (κ×υ)},mget m x=some v->(x,v)∈m
 |q::r,h=>by
  rw[Wo] at h;split at h
  .rename_i e;cases h
   exact List.mem_cons.2 (.inl (by rw[<-e]))
  .exact mO _ (He h)
theorem Apj{m:List (κ×υ)}(h:Cx m){x:κ}{v:υ}:mget m x=some v↔(x,v)∈m:=⟨He,fun hp=>Up h hp⟩
open Classical in
theorem Xn{m:List (κ×υ)}{x y:κ}(h:Cx m):mget (mdel m x) y=if y=x then none else mget m y:=by
 by_cases e:y=x
 .simp only[e,if_true];cases hg:mget (mdel m x) x with
  |none=>rfl
  |some v=>exact absurd rfl (Mo.1 (He hg)).2
 .simp only[e,if_false];cases hg:mget m y with
  |some v=>exact (Apj (h.del x)).2 (Mo.2 ⟨He hg,e⟩)
  |none=>
   cases hg':mget (mdel m x) y with
   |none=>rfl
   |some v=>rw[(Apj h).2 (Mo.1 (He hg')).1] at hg;cases hg
open Classical in
theorem Mq{m:List (κ×υ)}{x y:κ}{v:υ}(h:Cx m):mget (mput m x v) y=if y=x then some v else mget m y:=by
 unfold mput;rw[Wo]
 by_cases e:y=x
 .simp[e]
 .have:¬(x=y):=fun e'=>e e'.symm
  simp only[this,e,if_false];rw[Xn h,iN e]
def ent2(P:Program)(k:TypeId)(ke:κ->Value)(ve:υ->Value)(p:κ×υ):Lit×DataW Value:=(klOf P k (ke p.1),.held (ve p.2))
def Zi(P:Program)(k:TypeId)(ke:κ->Value)(ve:υ->Value)(m:List (κ×υ)):DataW Value:=.map ((m.map (ent2 P k ke ve)).foldr DataW.insert [])
def Xv(P:Program)(k:TypeId)(ke:κ->Value)(m:List (κ×υ)):Prop:=∀p∈m,(keyOf P k (ke p.1)).isSome=true
def Abv(P:Program)(k:TypeId)(ke:κ->Value)(ve:υ->Value)(b:Nat)(m:List (κ×υ))(w:World):Prop :=
 Xv P k ke m/\Cx m/\w.ownsMap P k RV b m.length (Zi P k ke ve m)
def Bg(P:Program)(k:TypeId)(ke:κ->Value)(ve:υ->Value)(b:Nat)(m:List (κ×υ)):Ent:=.f [b] (Abv P k ke ve b m)
variable {P:Program}{k:TypeId}{ke:κ->Value}{ve:υ->Value}{b:Nat}{m:List (κ×υ)}
theorem Abv.still{w w':World}(h:Abv P k ke ve b m w)(hb:w'.heap[b]? = w.heap[b]?):Abv P k ke ve b m w':=by
 obtain⟨h1,h0,es,clock,h2,h3⟩:=h;exact⟨h1,h0,es,clock,by rw[hb];exact h2,h3⟩
theorem Afs{w:World}(h:Abv P k ke ve b m w):Ent.ok w (Bg P k ke ve b m):=
 ⟨fun g hg=>by simp at hg;subst hg;exact h.2.2.lt,h,fun w1 w2 h1 h2=>h1.still (h2 b s_)⟩
theorem Aij(K:Keyed P k)(hke:∀x y,ke x=ke y->x=y){x y:κ}(hx:(keyOf P k (ke x)).isSome=true)(hy:(keyOf P k (ke y)).isSome=true)(h:x≠y):klOf P k (ke x)≠klOf P k (ke y):=fun e=>
 h (hke _ _ (K.inj (Nc hx) (by rw[e];exact Nc hy)))
theorem Apk(K:Keyed P k)(hke:∀x y,ke x=ke y->x=y):∀{m:List (κ×υ)},Xv P k ke m->Cx m->Zi P k ke ve m=mapD P k ke ve m
 |[],_,_=>rfl
 |p::r,h,ho=>by
  obtain⟨h1,h2⟩:=List.pairwise_cons.1 ho;have ih:=Apk K hke (m:=r) (fun q hq=>h q (mO _ hq)) h2;unfold mapD;rw[<-ih];show DataW.map _=DataW.map _;congr 1;show DataW.insert _ _=DataW.insert _ _;congr 1;refine (List.filter_eq_self.2 fun q hq=>?_).symm;obtain⟨z,hz,rfl⟩:=List.mem_map.1 ((WideShapes.sorted_perm _).mem_iff.1 hq);have:=Aij K hke (h z (mO _ hz)) (h p mS) (fun e=>h1 z hz e.symm);simp[ent2,Maps.sameKey_ne this]
theorem Aj4(K:Keyed P k)(hke:∀ x y,ke x=ke y->x=y){x:κ}(hx:(keyOf P k (ke x)).isSome=true)(z:Value)(h:Xv P k ke m)(ho:Cx m):
  (Zi P k ke ve m).atKey (klOf P k (ke x)) (.held z)=.held (mval ve z (mget m x))/\Maps.has (Zi P k ke ve m) (klOf P k (ke x))=(mget m x).isSome:=by
 rw[Apk K hke h ho];exact Ak9 K hke hx z h
theorem Aly(K:Keyed P k)(hke:∀ x y,ke x=ke y->x=y){x:κ}(hx:(keyOf P k (ke x)).isSome=true)(h:Xv P k ke m)(ho:Cx m):
  (Zi P k ke ve m).del (klOf P k (ke x))=Zi P k ke ve (mdel m x):=by
 unfold Zi;rw[DataW.del_eq];congr 1;refine (Maps.sorted_del K.one (E:=m.map (ent2 P k ke ve)) (fun p hp=>?_) ?_ ?_).symm
 .obtain⟨z,hz,rfl⟩:=List.mem_map.1 hp;exact⟨_,Nc (h z hz)⟩
 .rw[List.pairwise_map];exact List.Pairwise.imp_of_mem (fun hp hq e=>Aij K hke (h _ hp) (h _ hq) e) ho
 .rw[List.filter_map];refine List.Perm.of_eq ?_;congr 1;unfold mdel;refine List.filter_congr fun p hp=>?_
  show _ = !((klOf P k (ke p.1)).sameKey (klOf P k (ke x)))
  by_cases e:p.1=x
  .subst e;rw[WideAt.sameKey_self (K.key (Nc hx))];simp
  .rw[Maps.sameKey_ne (Aij K hke (h p hp) hx e)];simp[e]
theorem Av2(K:Keyed P k)(hke:∀ x y,ke x=ke y->x=y){x:κ}{v:υ}(hx:(keyOf P k (ke x)).isSome=true)(h:Xv P k ke m)(ho:Cx m):
  (Zi P k ke ve m).put (klOf P k (ke x)) (.held (ve v))=Zi P k ke ve (mput m x v):=by
 have hd:=Aly (ve:=ve) K hke hx h ho;unfold Zi at hd⊢;rw[DataW.del_eq] at hd;have hd':=DataW.map.inj hd;show DataW.map (DataW.insert _ (ChangeMaps.delKey _ _))=_;rw[hd'];rfl
theorem Ad8{H:Type}{R:Value->Option (DataW H×List MemPlace)}{w:World}{n:Nat}{D:DataW H}(h:w.ownsMap P k R b n D):w.ownsMap P k R b (Maps.size D) D:=by
 obtain⟨es,clock,hb,F,_,rfl⟩:=h;exact⟨es,clock,hb,F,by simp[Maps.size,Go.length_sorted],rfl⟩
theorem Aev(m:List (κ×υ)):Maps.size (Zi P k ke ve m)=m.length:=by simp[Zi,Maps.size,Go.length_sorted]
theorem Xv.del(h:Xv P k ke m)(x:κ):Xv P k ke (mdel m x):=fun p hp=>h p (Mo.1 hp).1
theorem Xv.put(h:Xv P k ke m){x:κ}(hx:(keyOf P k (ke x)).isSome=true)(v:υ):Xv P k ke (mput m x v):=fun p hp=>by
 rcases List.mem_cons.1 hp with rfl|hp
 .exact hx
 .exact h.del x p hp
end
section
variable {κ υ:Type}{P:Program}{k:TypeId}{ke:κ->Value}{ve:υ->Value}{b:Nat}{m:List (κ×υ)}{n:Nat}{fr:lF}{L:LE}{N:AW}{Q:Exit->AW}{d:Nat}{dst:Option Tmp}{ty:TypeId}{pos:String}{after:AE}{guard:ON}
theorem Heap.allocMap2{w:World}(h:Heap L w):Heap (Bg P k ke ve w.heap.size []::L) (w.alloc (.map #[] 0)):=by
 have hx:=Xb w (.map #[] 0);refine⟨fun e he=>?_,?_⟩
 .rcases List.mem_cons.1 he with rfl|he
  .exact Afs ⟨fun p hp=>by simp at hp,List.Pairwise.nil,World.ownsMap_made w P k RV⟩
  .exact Ent.ext (h.ok e he) hx
 .rw[List.pairwise_cons];refine⟨fun x hx=>⟨fun g hg=>?_,fun g hg=>⟨Nat.zero_le _,fun he=>?_⟩⟩,h.sep⟩
  .have hg:g∈[w.heap.size]:=hg;simp at hg;subst hg;exact⟨Ent.lo_le (h.ok x hx),fun he=>by have:=Ent.lt (h.ok x hx) he;omega⟩
  .have he:g∈[w.heap.size]:=he;simp at he;have:=Ent.lt (h.ok x hx) hg;omega
theorem Ahq(P':Program)(k:TypeId)(ke:κ->Value)(ve:υ->Value){t:TypeId}(hd:Nat.blt d n=true)(kk:∀ g,T n N ((d,.map (some g))::fr) (Bg P' k ke ve g []::L)):
  Wx P Q n ⟨some d,.makeMap t none,ty,pos,after,guard⟩ fr L N:=by
 intro a w ha hw;have hrun:(execOp a.eval ⟨some d,.makeMap t none,ty,pos,after,guard⟩).run P w=.ok (.value (.map (some w.heap.size))) (w.alloc (.map #[] 0)):=by
  simp[execOp,run_makeMap]
 simp only[Oper.wp,hrun,Oper.upon_value];exact⟨Xb w _,kk _ _ _ (ha.put hd) hw.allocMap2⟩
theorem Aft(P':Program)(k:TypeId)(ke:κ->Value)(ve:υ->Value){t kt et:TypeId}{x:Operand}{q:IntKind}{z:Int}(ht:P.underlying t=some (.map kt et))(hx:evo fr x=some (.int q z))(hd:Nat.blt d n=true)(kk:∀ g,T n N ((d,.map (some g))::fr) (Bg P' k ke ve g []::L)):
  Wx P Q n ⟨some d,.makeMap t (some x),ty,pos,after,guard⟩ fr L N:=by
 intro a w ha hw;have hrun:(execOp a.eval ⟨some d,.makeMap t (some x),ty,pos,after,guard⟩).run P w=.ok (.value (.map (some w.heap.size))) (w.alloc (.map #[] 0)):=by
  simp[execOp,Instr.makeMap,ha.eval hx,run_underlying ht,asInt,asIntOf,Result.andThen]
 simp only[Oper.wp,hrun,Oper.upon_value];exact⟨Xb w _,kk _ _ _ (ha.put hd) hw.allocMap2⟩
def Acw(P:Program)(k:TypeId)(ke:κ->Value)(ve:υ->Value)(g:Nat)(m:List (κ×υ))(e:Ent):Prop:=∀w,Ent.ok w e->Abv P k ke ve g m w
theorem Vo:Acw P k ke ve b m (Bg P k ke ve b m):=fun _ h=>h.2.1
theorem Azs{t e:TypeId}{g:Nat}{x:κ}{z:Value}{ok:Bool}{w:World}(K:Keyed P k)(ht:P.underlying t=some (.map k e))(hz:(zeroValue e).run P w = .ok z w)(hke:∀ x y,ke x=ke y->x=y)(hM:Abv P k ke ve g m w)(hx:(keyOf P k (ke x)).isSome=true):
  (Instr.lookup t (.map (some g)) (ke x) ok).run P w=.ok (if ok then .tuple #[mval ve z (mget m x),.bool (mget m x).isSome] else mval ve z (mget m x)) w:=by
 have hl:=Aj4 (ve:=ve) K hke hx z hM.1 hM.2.1;cases ok with
 |true=>
  obtain⟨v,ps,hrun,hv⟩:=hM.2.2.look_ok K ht hz (zd:=.held z) (zp:=[]) rfl (Nc hx);rw[hl.1] at hv;rw[hl.2] at hrun;have hvv:v=mval ve z (mget m x):=by
   have:=congrArg (fun o=>o.map Prod.fst) hv;simpa[RV] using this
  rw[hvv] at hrun;simpa using hrun
 |false=>
  obtain⟨es,clock,hb,F,_,hD⟩:=hM.2.2;have key:∃v ps,(Instr.lookup t (.map (some g)) (ke x) false).run P w=.ok v w/\RV v=some ((Zi P k ke ve m).atKey (klOf P k (ke x)) (.held z),ps):=by
   rw[hD];rcases Maps.fit_look false K ht hz hb F (Nc hx) with⟨hrun,_,hat⟩|⟨e0,y,_,_,hrun,hRv,hat,_⟩
   .exact⟨z,[],sV hrun,by rw[hat];rfl⟩
   .exact⟨e0.val,y.2,sV hrun,by rw[hat];exact hRv⟩
  obtain⟨v,ps,hrun,hv⟩:=key;rw[hl.1] at hv;have hvv:v=mval ve z (mget m x):=by
   have:=congrArg (fun o=>o.map Prod.fst) hv;simpa[RV] using this
  rw[hvv] at hrun;simpa using hrun
theorem Apl{t e:TypeId}{g:Nat}{mo ko:Operand}{x:κ}{i:Nat}{z0 u:υ}{kv vv:Value}{en:Ent}(K:Keyed P k)(ht:P.underlying t=some (.map k e))(hz:∀ w,(zeroValue e).run P w = .ok (ve z0) w)(hke:∀ x y,ke x=ke y->x=y)(hm:evo fr mo=some (.map (some g)))(hk:evo fr ko=some kv)(hkv:kv=ke x)(hL:nthE L i=some en)(hH:Acw P k ke ve g m en)(hx:(keyOf P k (ke x)).isSome=true)(hu:some ((mget m x).getD z0)=some u)(hvv:vv=ve u):
  Ev P n ⟨dst,.lookup t mo ko false,ty,pos,after,guard⟩ fr L vv:=fun a w ha hw=>by
 subst hkv;subst hvv;have:=Azs (ok:=false) K ht (hz w) hke (hH w (hw _ (Afg hL))) hx;simp only[Bool.false_eq_true,if_false] at this;rw[Agc (ve:=ve) hu] at this;simp[execOp,ha.eval hm,ha.eval hk,this]
theorem Aew{t e:TypeId}{g:Nat}{mo ko:Operand}{x:κ}{i:Nat}{z0 u:υ}{kv vv:Value}{en:Ent}(K:Keyed P k)(ht:P.underlying t=some (.map k e))(hz:∀ w,(zeroValue e).run P w = .ok (ve z0) w)(hke:∀ x y,ke x=ke y->x=y)(hm:evo fr mo=some (.map (some g)))(hk:evo fr ko=some kv)(hkv:kv=ke x)(hL:nthE L i=some en)(hH:Acw P k ke ve g m en)(hx:(keyOf P k (ke x)).isSome=true)(hu:some ((mget m x).getD z0)=some u)(hvv:vv=ve u):
  Ev P n ⟨dst,.lookup t mo ko true,ty,pos,after,guard⟩ fr L (.tuple #[vv,.bool (mget m x).isSome]):=fun a w ha hw=>by
 subst hkv;subst hvv;have:=Azs (ok:=true) K ht (hz w) hke (hH w (hw _ (Afg hL))) hx;simp only[if_true] at this;rw[Agc (ve:=ve) hu] at this;simp[execOp,ha.eval hm,ha.eval hk,this]
theorem Aex{t e:TypeId}{g:Nat}{mo ko vo:Operand}{kv vv:Value}{x:κ}{y:υ}{i:Nat}{L':LE}(K:Keyed P k)(hke:∀x y,ke x=ke y->x=y)(ht:P.underlying t=some (.map k e))(hm:evo fr mo=some (.map (some g)))(hk:evo fr ko=some kv)(hkv:kv=ke x)(hv:evo fr vo=some vv)(hvv:vv=ve y)(hL:SetE L i (Bg P k ke ve g m) (Bg P k ke ve g (mput m x y)) L')(hx:(keyOf P k (ke x)).isSome=true)(hn:m.length<maxLen)(kk:T n N fr L'):Wh P Q n ⟨none,.mapUpdate t mo ko vo,ty,pos,after,guard⟩ fr L N:=by
 intro a w ha hw;subst hkv;subst hvv;obtain⟨_,hM,_⟩:=hw.ok _ hL.mem;obtain⟨w',hrun,hown,hg⟩:=hM.2.2.update K ht hn (Nc hx) (val:=ve y) (d:=.held (ve y)) (ps:=[]) rfl;have hex:(execOp a.eval ⟨none,.mapUpdate t mo ko vo,ty,pos,after,guard⟩).run P w=.ok .skip w':=by
  simp[execOp,ha.eval hm,ha.eval hk,ha.eval hv,hrun,Result.andThen]
 simp only[Oper.wp,hex,Oper.upon_skip];rw[Av2 K hke hx hM.1 hM.2.1] at hown;have hown:=Ad8 hown;rw[Aev] at hown;exact kk _ _ ha (Heap.turnO (e:=Bg P k ke ve g m) (e':=Bg P k ke ve g (mput m x y)) hg (fun g' hg'=>by cases hg';exact List.mem_singleton.2 rfl) (Afs ⟨hM.1.put hx y,hM.2.1.put x y,hown⟩) (nL _) (fun g' hg'=>.inl hg') hL hw)
theorem Arv{t e:TypeId}{g:Nat}{mo ko:Operand}{kv:Value}{x:κ}{i:Nat}{L':LE}(K:Keyed P k)(hke:∀x y,ke x=ke y->x=y)(ht:P.underlying t=some (.map k e))(hm:evo fr mo=some (.map (some g)))(hk:evo fr ko=some kv)(hkv:kv=ke x)(hL:SetE L i (Bg P k ke ve g m) (Bg P k ke ve g (mdel m x)) L')(hx:(keyOf P k (ke x)).isSome=true)(kk:T n N fr L'):Wh P Q n ⟨none,.call ⟨.builtin .delete,#[mo,ko],#[t,k]⟩,ty,pos,after,guard⟩ fr L N:=by
 intro a w ha hw;subst hkv;obtain⟨_,hM,_⟩:=hw.ok _ hL.mem;obtain⟨w',hrun,hown,hg⟩:=hM.2.2.drop K ht (Nc hx) ty;have hex:(execOp a.eval ⟨none,.call ⟨.builtin .delete,#[mo,ko],#[t,k]⟩,ty,pos,after,guard⟩).run P w=.ok (.value (.tuple #[])) w':=by
  simp[execOp,resolve,invoke,builtin,ha.eval hm,ha.eval hk,hrun,Result.andThen]
 simp only[Oper.wp,hex,Oper.upon_value];rw[Aly K hke hx hM.1 hM.2.1] at hown;have hown:=Ad8 hown;rw[Aev] at hown;exact kk _ _ ha (Heap.turnO (e:=Bg P k ke ve g m) (e':=Bg P k ke ve g (mdel m x)) hg.grown (fun g' hg'=>by cases hg';exact List.mem_singleton.2 rfl) (Afs ⟨hM.1.del x,hM.2.1.del x,hown⟩) (nL _) (fun g' hg'=>.inl hg') hL hw)
theorem Arw{t e:TypeId}{g:Nat}{mo:Operand}{i:Nat}{en:Ent}(ht:P.underlying t=some (.map k e))(hm:evo fr mo=some (.map (some g)))(hL:nthE L i=some en)(hH:Acw P k ke ve g m en):
  Ev P n ⟨dst,.call ⟨.builtin .len,#[mo],#[t]⟩,ty,pos,after,guard⟩ fr L (.int .i64 (m.length:Int)):=fun a w ha hw=>by
 have hM:=hH w (hw _ (Afg hL));have hl:=hM.2.2.len (t:=t) ht ty;rw[Aev] at hl;simp[execOp,resolve,invoke,builtin,ha.eval hm,hl,Result.andThen]
def Afu(P:Program)(k:TypeId)(ke:κ->Value)(ve:υ->Value)(b r:Nat)(m l:List (κ×υ))(c:Option (κ×υ))(w:World):Prop :=
 Xv P k ke m/\Cx m/\Cx l/\(∀p∈l,p∈m)/\(∃lf cnt,w.ranges P k RV b r m.length (Zi P k ke ve m) lf cnt/\∀kl,lf kl=true↔∃p∈l,klOf P k (ke p.1)=kl) /\
 ∀p,c=some p->(Instr.entry (.pointer (some ⟨r,0,none⟩))).run P w=.ok (.tuple #[ke p.1,ve p.2]) w
def rngE(P:Program)(k:TypeId)(ke:κ->Value)(ve:υ->Value)(b r:Nat)(m l:List (κ×υ))(c:Option (κ×υ)):Ent:=.f [b,r] (Afu P k ke ve b r m l c)
theorem Apm{r:Nat}{w w':World}{es:Array MapEntry}{clock since c0:Nat}{seen:Array Nat}{v:Value}(hb:w.heap[b]? = some (.map es clock))(hr:w.heap[r]? = some (.mapIter (some b) since seen c0))(hb':w'.heap[b]? = w.heap[b]?)(hr':w'.heap[r]? = w.heap[r]?)(h:(Instr.entry (.pointer (some ⟨r,0,none⟩))).run P w=.ok v w):(Instr.entry (.pointer (some ⟨r,0,none⟩))).run P w'=.ok v w':=by
 rw[hb] at hb';rw[hr] at hr';simp only[Instr.entry,getObj,Sem.run_bind,Sem.run,hr,hb,hr',hb',Result.andThen] at h⊢;cases hs:seen.back? with
 |none=>simp only[hs] at h;cases h
 |some st=>
  simp only[hs,getObj,Sem.run_bind,Sem.run,hb,hb',Result.andThen] at h⊢
  by_cases hc:(clock != c0)=true
  .simp only[hc,if_true] at h;cases h
  .simp only[hc,Bool.false_eq_true,if_false] at h⊢;cases hf:es.find? (·.born==st) with
   |none=>simp only[hf] at h;cases h
   |some e=>
    simp only[hf] at h⊢;cases h
    rfl
theorem Afu.still{r:Nat}{l:List (κ×υ)}{c:Option (κ×υ)}{w w':World}(h:Afu P k ke ve b r m l c w)(hb:w'.heap[b]? = w.heap[b]?)(hr:w'.heap[r]? = w.heap[r]?):Afu P k ke ve b r m l c w':=by
 obtain⟨h1,h2,h3,h4,⟨lf,cnt,⟨es,clock,since,seen,c0,g1,g2,g3,g4,g5,g6⟩,h5⟩,h6⟩:=h;refine⟨h1,h2,h3,h4,⟨lf,cnt,⟨es,clock,since,seen,c0,by rw[hb];exact g1,g2,g3,g4,by rw[hr];exact g5,g6⟩,h5⟩,fun p hp=>Apm g1 g5 hb hr (h6 p hp)⟩
theorem Atx{r:Nat}{l:List (κ×υ)}{c:Option (κ×υ)}{w:World}(h:Afu P k ke ve b r m l c w):Ent.ok w (rngE P k ke ve b r m l c):=by
 refine⟨fun g hg=>?_,h,fun w1 w2 h1 h2=>h1.still (h2 b s_) (h2 r s_)⟩;obtain⟨_,_,_,_,⟨lf,cnt,hr,_⟩,_⟩:=h;rcases List.mem_cons.1 hg with rfl|hg
 .exact hr.owns.lt
 .rw[List.mem_singleton.1 hg];exact hr.lt
theorem Afu.map{r:Nat}{l:List (κ×υ)}{c:Option (κ×υ)}{w:World}(h:Afu P k ke ve b r m l c w):Abv P k ke ve b m w:=by
 obtain⟨h1,h2,_,_,⟨lf,cnt,hr,_⟩,_⟩:=h;exact⟨h1,h2,hr.owns⟩
theorem Arx{r:Nat}{l:List (κ×υ)}{c:Option (κ×υ)}:Acw P k ke ve b m (rngE P k ke ve b r m l c):=fun _ h=>h.2.1.map
theorem Adk{t e:TypeId}{g:Nat}{mo:Operand}{i:Nat}{L':Nat->LE}(K:Keyed P k)(hke:∀x y,ke x=ke y->x=y)(ht:P.underlying t=some (.map k e))(hm:evo fr mo=some (.map (some g)))(hL:∀r,SetE L i (Bg P k ke ve g m) (rngE P k ke ve g r m m none) (L' r))(hd:Nat.blt d n=true)(kk:∀r,T n N ((d,.pointer (some ⟨r,0,none⟩))::fr) (L' r)):Wx P Q n ⟨some d,.range t mo,ty,pos,after,guard⟩ fr L N:=by
 intro a w ha hw;obtain⟨_,hM,_⟩:=hw.ok _ (hL 0).mem;obtain⟨w',hrun,hrg,hg,hsz⟩:=hM.2.2.range K ht;have hex:(execOp a.eval ⟨some d,.range t mo,ty,pos,after,guard⟩).run P w=.ok (.value (.pointer (some ⟨w.heap.size,0,none⟩))) w':=by
  simp[execOp,ha.eval hm,hrun]
 simp only[Oper.wp,hex,Oper.upon_value];have hR:Afu P k ke ve g w.heap.size m m none w':=by
  refine⟨hM.1,hM.2.1,hM.2.1,fun p hp=>hp,⟨_,_,hrg,fun kl=>?_⟩,fun p hp=>by cases hp⟩;unfold Zi;rw[Maps.has_eq,List.any_eq_true];constructor
  .rintro⟨q,hq,hqk⟩;obtain⟨p,hp,rfl⟩:=List.mem_map.1 ((WideShapes.sorted_perm _).mem_iff.1 hq);exact⟨p,hp,WideAt.sameKey_eq hqk⟩
  .rintro⟨p,hp,rfl⟩;exact⟨ent2 P k ke ve p,(WideShapes.sorted_perm _).mem_iff.2 (List.mem_map.2 ⟨p,hp,rfl⟩),WideAt.sameKey_self (K.key (Nc (hM.1 p hp)))⟩
 refine⟨?_,kk w.heap.size _ _ (ha.put hd) (Heap.turnO (e:=Bg P k ke ve g m) (e':=rngE P k ke ve g w.heap.size m m none) (row:=none) hg (fun g' hg'=>by cases hg') (Atx hR) (nL _) (fun g' hg'=>?_) (hL _) hw)⟩
 .exact⟨⟨hg.os,hg.tape,hg.output,hg.size,fun i hi=>hg.block i hi s_⟩,by first|exact nL _|exact Ash (by assumption)⟩
 .rcases List.mem_cons.1 hg' with rfl|hg'
  .exact .inl (List.mem_singleton.2 rfl)
  .rw[List.mem_singleton.1 hg'];exact .inr (nL _)
theorem Afv{g r:Nat}{it:Operand}{i:Nat}{l:List (κ×υ)}{c:Option (κ×υ)}{L':List (κ×υ)->Option (κ×υ)->LE}(K:Keyed P k)(hke:∀x y,ke x=ke y->x=y)(hve:∀x y,ve x=ve y->x=y)(hit:evo fr it=some (.pointer (some ⟨r,0,none⟩)))(hL:∀l' c',SetE L i (rngE P k ke ve g r m l c) (rngE P k ke ve g r m l' c') (L' l' c'))(hd:Nat.blt d n=true)(kN:l=[]->T n N ((d,.tuple #[.bool false])::fr) L)(kS:∀p,p∈l->T n N ((d,.tuple #[.bool true,ke p.1,ve p.2])::fr) (L' (mdel l p.1) (some p))):Wh P Q n ⟨some d,.next it false,ty,pos,after,guard⟩ fr L N:=by
 intro a w ha hw;have hok:=hw.ok _ (hL [] none).mem;obtain⟨_,⟨h1,h2,h3,h4,⟨lf,cnt,hr,h5⟩,_⟩,_⟩:=hok;rcases hr.next K ty with⟨_,h0,hrun⟩|⟨key,v,kl,y,w',cnt',hkey,hlk,hv,hat,hrun,hrg,_,hgr,hsz,hen⟩
 ·have hl:l=[]:=by
   cases l with
   |nil=>rfl
   |cons p q=>have:=(h5 (klOf P k (ke p.1))).2 ⟨p,mS,rfl⟩;rw[h0] at this;cases this
  have hex:(execOp a.eval ⟨some d,.next it false,ty,pos,after,guard⟩).run P w=.ok (.value (.tuple #[.bool false])) w:=by
   simp[execOp,ha.eval hit,hrun,Result.andThen]
  simp only[Oper.wp,hex,Oper.upon_value];exact kN hl _ _ (ha.put hd) hw
 ·obtain⟨p,hp,hpk⟩:=(h5 kl).1 hlk;have hx:=h1 p (h4 p hp);have hkk:key=ke p.1:=K.inj hkey (by rw[<- hpk];exact Nc hx);subst hkk;have hvv:v=ve p.2:=by
   have e1:=hat (.held v);rw[<-hpk,(Aj4 (ve:=ve) K hke hx v h1 h2).1,Up h2 (h4 p hp)] at e1;unfold RV at hv;have hv:=oI hv;rw[<-hv] at e1;exact (DataW.held.inj e1).symm
  subst hvv;have hex:(execOp a.eval ⟨some d,.next it false,ty,pos,after,guard⟩).run P w=.ok (.value (.tuple #[.bool true,ke p.1,ve p.2])) w':=by
   simp[execOp,ha.eval hit,hrun,Result.andThen]
  simp only[Oper.wp,hex,Oper.upon_value];have hR:Afu P k ke ve g r m (mdel l p.1) (some p) w':=by
   refine⟨h1,h2,h3.del _,fun q hq=>h4 q (Mo.1 hq).1,⟨_,_,hrg,fun kl'=>?_⟩,fun q hq=>by cases hq;exact hen⟩;simp only[Bool.and_eq_true,Bool.not_eq_true',h5 kl'];constructor
   .rintro⟨⟨q,hq,rfl⟩,hs⟩;refine⟨q,Mo.2 ⟨hq,fun e=>?_⟩,rfl⟩;rw[e,hpk,WideAt.sameKey_self (K.key hkey)] at hs;cases hs
   .rintro⟨q,hq,rfl⟩;obtain⟨q1,q2⟩:=Mo.1 hq;refine⟨⟨q,q1,rfl⟩,?_⟩;rw[<-hpk];exact Maps.sameKey_ne (Aij K hke (h1 q (h4 q q1)) hx q2)
  exact kS p hp _ _ (ha.put hd) (Heap.turnO (e:=rngE P k ke ve g r m l c) (e':=rngE P k ke ve g r m (mdel l p.1) (some p)) (row:=some r) hgr (fun g' hg'=>by cases hg';exact mO _ (List.mem_singleton.2 rfl)) (Atx hR) (nL _) (fun g' hg'=>.inl hg') (hL _ _) hw)
theorem Av3{g r:Nat}{it:Operand}{i:Nat}{l:List (κ × υ)}{p:κ × υ}{kv vv:Value}(hit:evo fr it=some (.pointer (some ⟨r,0,none⟩)))(hL:nthE L i=some (rngE P k ke ve g r m l (some p)))(hk:kv=ke p.1)(hv:vv=ve p.2):
  Ev P n ⟨dst,.entry it,ty,pos,after,guard⟩ fr L (.tuple #[kv,vv]):=fun a w ha hw=>by
 subst hk;subst hv;obtain⟨_,hR,_⟩:=hw _ (Afg hL);have:=hR.2.2.2.2.2 p rfl;simp[execOp,ha.eval hit,this]
theorem Abw{N:AW}{g r:Nat}{i:Nat}{l:List (κ×υ)}{c:Option (κ×υ)}{L':LE}(hL:SetE L i (rngE P k ke ve g r m l c) (Bg P k ke ve g m) L')(kk:T n N fr L'):T n N fr L:=by
 intro a w ha hw;obtain⟨_,hR,_⟩:=hw.ok _ hL.mem;exact kk a w ha (Heap.turnO (e:=rngE P k ke ve g r m l c) (e':=Bg P k ke ve g m) (row:=none) ⟨rfl,rfl,rfl,nL _,fun _ _ _=>rfl⟩ (fun g' hg'=>by cases hg') (Afs hR.map) (nL _) (fun g' hg'=>.inl (by rw[List.mem_singleton.1 hg'];exact mS)) hL hw)
end
end
end Go.Proofs.YthlkpgdfifnagaaGreat
