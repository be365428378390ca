import Derived.Test.YtlejkgngmjchdaaGreatFlow11
import Derived.Maps.Range
import Derived.Maps.OwnSet
import Derived.Sort.Grow
import Derived.Deep.Draws
import Derived.Shelf.SlSortCmp.WholeK
import Derived.Shelf.SlSortCmp.NoneTotal
import Derived.Shelf.SlSortCmp.Whole1
import Derived.ArgAppend
import Derived.LoopN
import Derived.Laws.Externs
namespace Go.Proofs.YtlejkgngmjchdaaGreat
open Go Go.RowKit
noncomputable section
section
open Go.Maps (Keyed)
section
variable {κ υ:Type}
open Classical in
def mdel(m:List (κ×υ))(x:κ):List (κ×υ):=m.filter fun p=>decide (p.1≠x)
def mput(m:List (κ×υ))(x:κ)(v:υ):List (κ×υ):=(x,v)::mdel m x
def Ep(m:List (κ×υ)):Prop:=m.Pairwise fun p q=>p.1≠q.1
theorem Ql{m:List (κ×υ)}{x:κ}{p:κ×υ}:p∈mdel m x↔p∈m/\p.1≠x:=by simp[mdel]
theorem Ep.del{m:List (κ×υ)}(h:Ep m)(x:κ):Ep (mdel m x):=List.Pairwise.filter _ h
theorem Ep.put{m:List (κ×υ)}(h:Ep m)(x:κ)(v:υ):Ep (mput m x v):=
 List.pairwise_cons.2 ⟨fun q hq e=>(Ql.1 hq).2 e.symm,h.del x⟩
theorem Nv:∀{m:List (κ×υ)} {p:κ×υ},Ep m->p∈m->mget m p.1=some p.2
 |q::r,p,h,hp=>by
  obtain⟨h1,h2⟩:=List.pairwise_cons.1 h;rcases List.mem_cons.1 hp with rfl|hp
  .rw[Uy,iP rfl]
  .rw[Uy,iN (h1 p hp),Nv h2 hp]
theorem Er{x:κ}{v:υ}:∀{m:List (κ×υ)},mget m x=some v->(x,v)∈m
 |q::r,h=>by
  rw[Uy] at h;split at h
  .rename_i e;cases h
   exact List.mem_cons.2 (.inl (by rw[<-e]))
  .exact mO _ (Er h)
theorem Al8{m:List (κ×υ)}(h:Ep m){x:κ}{v:υ}:mget m x=some v↔(x,v)∈m:=⟨Er,fun hp=>Nv h hp⟩
open Classical in
theorem Vp{m:List (κ×υ)}{x y:κ}(h:Ep m):mget (mdel m x) y=if y=x then none else mget m y:=by
 by_cases e:y=x
 .simp only[e,if_true];cases hg:mget (mdel m x) x with
  |none=>rfl
  |some v=>exact absurd rfl (Ql.1 (Er hg)).2
 .simp only[e,if_false];cases hg:mget m y with
  |some v=>exact (Al8 (h.del x)).2 (Ql.2 ⟨Er hg,e⟩)
  |none=>
   cases hg':mget (mdel m x) y with
   |none=>rfl
   |some v=>rw[(Al8 h).2 (Ql.1 (Er hg')).1] at hg;cases hg
open Classical in
theorem Rl{m:List (κ×υ)}{x y:κ}{v:υ}(h:Ep m):mget (mput m x v) y=if y=x then some v else mget m y:=by
 unfold mput;rw[Uy]
 by_cases e:y=x
 .simp[e]
 .have:¬(x=y):=fun e'=>e e'.symm
  simp only[this,e,if_false];rw[Vp h,iN e]
def ent2(P:Program)(k:TypeId)(ke:κ->Value)(ve:υ->Value)(p:κ×υ):Lit×DataW Value:=(klOf P k (ke p.1),.held (ve p.2))
def Vq(P:Program)(k:TypeId)(ke:κ->Value)(ve:υ->Value)(m:List (κ×υ)):DataW Value:=.map ((m.map (ent2 P k ke ve)).foldr DataW.insert [])
def Ui(P:Program)(k:TypeId)(ke:κ->Value)(m:List (κ×υ)):Prop:=∀p∈m,(keyOf P k (ke p.1)).isSome=true
def Yo(P:Program)(k:TypeId)(ke:κ->Value)(ve:υ->Value)(b:Nat)(m:List (κ×υ))(w:World):Prop :=
 Ui P k ke m/\Ep m/\w.ownsMap P k RV b m.length (Vq P k ke ve m)
def Be(P:Program)(k:TypeId)(ke:κ->Value)(ve:υ->Value)(b:Nat)(m:List (κ×υ)):Ent:=.f [b] (Yo P k ke ve b m)
variable {P:Program}{k:TypeId}{ke:κ->Value}{ve:υ->Value}{b:Nat}{m:List (κ×υ)}
theorem Yo.still{w w':World}(h:Yo P k ke ve b m w)(hb:w'.heap[b]? = w.heap[b]?):Yo P k ke ve b m w':=by
 obtain⟨h1,h0,es,clock,h2,h3⟩:=h;exact⟨h1,h0,es,clock,by rw[hb];exact h2,h3⟩
theorem Acy{w:World}(h:Yo P k ke ve b m w):Ent.ok w (Be P k ke ve b m):=
 ⟨fun g hg=>by simp at hg;subst hg;exact h.2.2.lt,h,fun w1 w2 h1 h2=>h1.still (h2 b s_)⟩
theorem Afi(K:Keyed P k)(hke:∀x y,ke x=ke y->x=y){x y:κ}(hx:(keyOf P k (ke x)).isSome=true)(hy:(keyOf P k (ke y)).isSome=true)(h:x≠y):klOf P k (ke x)≠klOf P k (ke y):=fun e=>
 h (hke _ _ (K.inj (Ms hx) (by rw[e];exact Ms hy)))
theorem Al9(K:Keyed P k)(hke:∀x y,ke x=ke y->x=y):∀{m:List (κ×υ)},Ui P k ke m->Ep m->Vq P k ke ve m=mapD P k ke ve m
 |[],_,_=>rfl
 |p::r,h,ho=>by
  obtain⟨h1,h2⟩:=List.pairwise_cons.1 ho;have ih:=Al9 K hke (m:=r) (fun q hq=>h q (mO _ hq)) h2;unfold mapD;rw[<-ih];show DataW.map _=DataW.map _;congr 1;show DataW.insert _ _=DataW.insert _ _;congr 1;refine (List.filter_eq_self.2 fun q hq=>?_).symm;obtain⟨z,hz,rfl⟩:=List.mem_map.1 ((WideShapes.sorted_perm _).mem_iff.1 hq);have:=Afi K hke (h z (mO _ hz)) (h p mS) (fun e=>h1 z hz e.symm);simp[ent2,Maps.sameKey_ne this]
theorem Agv(K:Keyed P k)(hke:∀ x y,ke x=ke y->x=y){x:κ}(hx:(keyOf P k (ke x)).isSome=true)(z:Value)(h:Ui P k ke m)(ho:Ep m):
  (Vq P k ke ve m).atKey (klOf P k (ke x)) (.held z)=.held (mval ve z (mget m x))/\Maps.has (Vq P k ke ve m) (klOf P k (ke x))=(mget m x).isSome:=by
 rw[Al9 K hke h ho];exact Aiy K hke hx z h
theorem Ait(K:Keyed P k)(hke:∀ x y,ke x=ke y->x=y){x:κ}(hx:(keyOf P k (ke x)).isSome=true)(h:Ui P k ke m)(ho:Ep m):
  (Vq P k ke ve m).del (klOf P k (ke x))=Vq P k ke ve (mdel m x):=by
 unfold Vq;rw[DataW.del_eq];congr 1;refine (Maps.sorted_del K.one (E:=m.map (ent2 P k ke ve)) (fun p hp=>?_) ?_ ?_).symm
 .obtain⟨z,hz,rfl⟩:=List.mem_map.1 hp;exact⟨_,Ms (h z hz)⟩
 .rw[List.pairwise_map];exact List.Pairwise.imp_of_mem (fun hp hq e=>Afi K hke (h _ hp) (h _ hq) e) ho
 .rw[List.filter_map];refine List.Perm.of_eq ?_;congr 1;unfold mdel;refine List.filter_congr fun p hp=>?_
  show _ = !((klOf P k (ke p.1)).sameKey (klOf P k (ke x)))
  by_cases e:p.1=x
  .subst e;rw[WideAt.sameKey_self (K.key (Ms hx))];simp
  .rw[Maps.sameKey_ne (Afi K hke (h p hp) hx e)];simp[e]
theorem Asr(K:Keyed P k)(hke:∀ x y,ke x=ke y->x=y){x:κ}{v:υ}(hx:(keyOf P k (ke x)).isSome=true)(h:Ui P k ke m)(ho:Ep m):
  (Vq P k ke ve m).put (klOf P k (ke x)) (.held (ve v))=Vq P k ke ve (mput m x v):=by
 have hd:=Ait (ve:=ve) K hke hx h ho;unfold Vq at hd⊢;rw[DataW.del_eq] at hd;have hd':=DataW.map.inj hd;show DataW.map (DataW.insert _ (ChangeMaps.delKey _ _))=_;rw[hd'];rfl
theorem Abn{H:Type}{R:Value->Option (DataW H×List MemPlace)}{w:World}{n:Nat}{D:DataW H}(h:w.ownsMap P k R b n D):w.ownsMap P k R b (Maps.size D) D:=by
 obtain⟨es,clock,hb,F,_,rfl⟩:=h;exact⟨es,clock,hb,F,by simp[Maps.size,Go.length_sorted],rfl⟩
theorem Ab3(m:List (κ×υ)):Maps.size (Vq P k ke ve m)=m.length:=by simp[Vq,Maps.size,Go.length_sorted]
theorem Ui.del(h:Ui P k ke m)(x:κ):Ui P k ke (mdel m x):=fun p hp=>h p (Ql.1 hp).1
theorem Ui.put(h:Ui P k ke m){x:κ}(hx:(keyOf P k (ke x)).isSome=true)(v:υ):Ui P k ke (mput m x v):=fun p hp=>by
 rcases List.mem_cons.1 hp with rfl|hp
 .exact hx
 .exact h.del x p hp
end
section
variable {κ υ:Type}{P:Program}{k:TypeId}{ke:κ->Value}{ve:υ->Value}{b:Nat}{m:List (κ×υ)}{n:Nat}{fr:lF}{L:LE}{N:AW}{Q:Exit->AW}{d:Nat}{dst:Option Tmp}{ty:TypeId}{pos:String}{after:AE}{guard:ON}
theorem Heap.allocMap2{w:World}(h:Heap L w):Heap (Be P k ke ve w.heap.size []::L) (w.alloc (.map #[] 0)):=by
 have hx:=Aa3 w (.map #[] 0);refine⟨fun e he=>?_,?_⟩
 .rcases List.mem_cons.1 he with rfl|he
  .exact Acy ⟨fun p hp=>by simp at hp,List.Pairwise.nil,World.ownsMap_made w P k RV⟩
  .exact Ent.ext (h.ok e he) hx
 .rw[List.pairwise_cons];refine⟨fun x hx=>⟨fun g hg=>?_,fun g hg=>⟨Nat.zero_le _,fun he=>?_⟩⟩,h.sep⟩
  .have hg:g∈[w.heap.size]:=hg;simp at hg;subst hg;exact⟨Ent.lo_le (h.ok x hx),fun he=>by have:=Ent.lt (h.ok x hx) he;omega⟩
  .have he:g∈[w.heap.size]:=he;simp at he;have:=Ent.lt (h.ok x hx) hg;omega
theorem Ama(P':Program)(k:TypeId)(ke:κ->Value)(ve:υ->Value){t:TypeId}(hd:Nat.blt d n=true)(kk:∀ g,T n N ((d,.map (some g))::fr) (Be P' k ke ve g []::L)):
  Wx P Q n ⟨some d,.makeMap t none,ty,pos,after,guard⟩ fr L N:=by
 intro a w ha hw;have hrun:(execOp a.eval ⟨some d,.makeMap t none,ty,pos,after,guard⟩).run P w=.ok (.value (.map (some w.heap.size))) (w.alloc (.map #[] 0)):=by
  simp[execOp,run_makeMap]
 simp only[Oper.wp,hrun,Oper.upon_value];exact⟨Aa3 w _,kk _ _ _ (ha.put hd) hw.allocMap2⟩
def Zy(P:Program)(k:TypeId)(ke:κ->Value)(ve:υ->Value)(g:Nat)(m:List (κ×υ))(e:Ent):Prop:=∀w,Ent.ok w e->Yo P k ke ve g m w
theorem Si:Zy P k ke ve b m (Be P k ke ve b m):=fun _ h=>h.2.1
theorem Bal{t e:TypeId}{g:Nat}{x:κ}{z:Value}{ok:Bool}{w:World}(K:Keyed P k)(ht:P.underlying t=some (.map k e))(hz:(zeroValue e).run P w = .ok z w)(hke:∀ x y,ke x=ke y->x=y)(hM:Yo P k ke ve g m w)(hx:(keyOf P k (ke x)).isSome=true):
  (Instr.lookup t (.map (some g)) (ke x) ok).run P w=.ok (if ok then .tuple #[mval ve z (mget m x),.bool (mget m x).isSome] else mval ve z (mget m x)) w:=by
 have hl:=Agv (ve:=ve) K hke hx z hM.1 hM.2.1;cases ok with
 |true=>
  obtain⟨v,ps,hrun,hv⟩:=hM.2.2.look_ok K ht hz (zd:=.held z) (zp:=[]) rfl (Ms hx);rw[hl.1] at hv;rw[hl.2] at hrun;have hvv:v=mval ve z (mget m x):=by
   have:=congrArg (fun o=>o.map Prod.fst) hv;simpa[RV] using this
  rw[hvv] at hrun;simpa using hrun
 |false=>
  obtain⟨es,clock,hb,F,_,hD⟩:=hM.2.2;have key:∃v ps,(Instr.lookup t (.map (some g)) (ke x) false).run P w=.ok v w/\RV v=some ((Vq P k ke ve m).atKey (klOf P k (ke x)) (.held z),ps):=by
   rw[hD];rcases Maps.fit_look false K ht hz hb F (Ms hx) with⟨hrun,_,hat⟩|⟨e0,y,_,_,hrun,hRv,hat,_⟩
   .exact⟨z,[],sV hrun,by rw[hat];rfl⟩
   .exact⟨e0.val,y.2,sV hrun,by rw[hat];exact hRv⟩
  obtain⟨v,ps,hrun,hv⟩:=key;rw[hl.1] at hv;have hvv:v=mval ve z (mget m x):=by
   have:=congrArg (fun o=>o.map Prod.fst) hv;simpa[RV] using this
  rw[hvv] at hrun;simpa using hrun
theorem Agw{t e:TypeId}{g:Nat}{mo ko:Operand}{x:κ}{i:Nat}{z0 u:υ}{kv vv:Value}{en:Ent}(K:Keyed P k)(ht:P.underlying t=some (.map k e))(hz:∀ w,(zeroValue e).run P w = .ok (ve z0) w)(hke:∀ x y,ke x=ke y->x=y)(hm:evo fr mo=some (.map (some g)))(hk:evo fr ko=some kv)(hkv:kv=ke x)(hL:nthE L i=some en)(hH:Zy P k ke ve g m en)(hx:(keyOf P k (ke x)).isSome=true)(hu:some ((mget m x).getD z0)=some u)(hvv:vv=ve u):
  Ev P n ⟨dst,.lookup t mo ko false,ty,pos,after,guard⟩ fr L vv:=fun a w ha hw=>by
 subst hkv;subst hvv;have:=Bal (ok:=false) K ht (hz w) hke (hH w (hw _ (Add hL))) hx;simp only[Bool.false_eq_true,if_false] at this;rw[Aiz (ve:=ve) hu] at this;simp[execOp,ha.eval hm,ha.eval hk,this]
theorem Agx{t e:TypeId}{g:Nat}{mo ko:Operand}{x:κ}{i:Nat}{z0 u:υ}{kv vv:Value}{en:Ent}(K:Keyed P k)(ht:P.underlying t=some (.map k e))(hz:∀ w,(zeroValue e).run P w = .ok (ve z0) w)(hke:∀ x y,ke x=ke y->x=y)(hm:evo fr mo=some (.map (some g)))(hk:evo fr ko=some kv)(hkv:kv=ke x)(hL:nthE L i=some en)(hH:Zy P k ke ve g m en)(hx:(keyOf P k (ke x)).isSome=true)(hu:some ((mget m x).getD z0)=some u)(hvv:vv=ve u):
  Ev P n ⟨dst,.lookup t mo ko true,ty,pos,after,guard⟩ fr L (.tuple #[vv,.bool (mget m x).isSome]):=fun a w ha hw=>by
 subst hkv;subst hvv;have:=Bal (ok:=true) K ht (hz w) hke (hH w (hw _ (Add hL))) hx;simp only[if_true] at this;rw[Aiz (ve:=ve) hu] at this;simp[execOp,ha.eval hm,ha.eval hk,this]
theorem Agy{t e:TypeId}{g:Nat}{mo ko vo:Operand}{kv vv:Value}{x:κ}{y:υ}{i:Nat}{L':LE}(K:Keyed P k)(hke:∀x y,ke x=ke y->x=y)(ht:P.underlying t=some (.map k e))(hm:evo fr mo=some (.map (some g)))(hk:evo fr ko=some kv)(hkv:kv=ke x)(hv:evo fr vo=some vv)(hvv:vv=ve y)(hL:SetE L i (Be P k ke ve g m) (Be P k ke ve g (mput m x y)) L')(hx:(keyOf P k (ke x)).isSome=true)(hn:m.length<maxLen)(kk:T n N fr L'):Wh P Q n ⟨none,.mapUpdate t mo ko vo,ty,pos,after,guard⟩ fr L N:=by
 intro a w ha hw;subst hkv;subst hvv;obtain⟨_,hM,_⟩:=hw.ok _ hL.mem;obtain⟨w',hrun,hown,hg⟩:=hM.2.2.update K ht hn (Ms hx) (val:=ve y) (d:=.held (ve y)) (ps:=[]) rfl;have hex:(execOp a.eval ⟨none,.mapUpdate t mo ko vo,ty,pos,after,guard⟩).run P w=.ok .skip w':=by
  simp[execOp,ha.eval hm,ha.eval hk,ha.eval hv,hrun,Result.andThen]
 simp only[Oper.wp,hex,Oper.upon_skip];rw[Asr K hke hx hM.1 hM.2.1] at hown;have hown:=Abn hown;rw[Ab3] at hown;exact kk _ _ ha (Heap.turnO (e:=Be P k ke ve g m) (e':=Be P k ke ve g (mput m x y)) hg (fun g' hg'=>by cases hg';exact List.mem_singleton.2 rfl) (Acy ⟨hM.1.put hx y,hM.2.1.put x y,hown⟩) (nL _) (fun g' hg'=>.inl hg') hL hw)
theorem Aog{t e:TypeId}{g:Nat}{mo ko:Operand}{kv:Value}{x:κ}{i:Nat}{L':LE}(K:Keyed P k)(hke:∀x y,ke x=ke y->x=y)(ht:P.underlying t=some (.map k e))(hm:evo fr mo=some (.map (some g)))(hk:evo fr ko=some kv)(hkv:kv=ke x)(hL:SetE L i (Be P k ke ve g m) (Be P k ke ve g (mdel m x)) L')(hx:(keyOf P k (ke x)).isSome=true)(kk:T n N fr L'):Wh P Q n ⟨none,.call ⟨.builtin .delete,#[mo,ko],#[t,k]⟩,ty,pos,after,guard⟩ fr L N:=by
 intro a w ha hw;subst hkv;obtain⟨_,hM,_⟩:=hw.ok _ hL.mem;obtain⟨w',hrun,hown,hg⟩:=hM.2.2.drop K ht (Ms hx) ty;have hex:(execOp a.eval ⟨none,.call ⟨.builtin .delete,#[mo,ko],#[t,k]⟩,ty,pos,after,guard⟩).run P w=.ok (.value (.tuple #[])) w':=by
  simp[execOp,resolve,invoke,builtin,ha.eval hm,ha.eval hk,hrun,Result.andThen]
 simp only[Oper.wp,hex,Oper.upon_value];rw[Ait K hke hx hM.1 hM.2.1] at hown;have hown:=Abn hown;rw[Ab3] at hown;exact kk _ _ ha (Heap.turnO (e:=Be P k ke ve g m) (e':=Be P k ke ve g (mdel m x)) hg.grown (fun g' hg'=>by cases hg';exact List.mem_singleton.2 rfl) (Acy ⟨hM.1.del x,hM.2.1.del x,hown⟩) (nL _) (fun g' hg'=>.inl hg') hL hw)
theorem Aoh{t e:TypeId}{g:Nat}{mo:Operand}{i:Nat}{en:Ent}(ht:P.underlying t=some (.map k e))(hm:evo fr mo=some (.map (some g)))(hL:nthE L i=some en)(hH:Zy P k ke ve g m en):
  Ev P n ⟨dst,.call ⟨.builtin .len,#[mo],#[t]⟩,ty,pos,after,guard⟩ fr L (.int .i64 (m.length:Int)):=fun a w ha hw=>by
 have hM:=hH w (hw _ (Add hL));have hl:=hM.2.2.len (t:=t) ht ty;rw[Ab3] at hl;simp[execOp,resolve,invoke,builtin,ha.eval hm,hl,Result.andThen]
def Acz(P:Program)(k:TypeId)(ke:κ->Value)(ve:υ->Value)(b r:Nat)(m l:List (κ×υ))(c:Option (κ×υ))(w:World):Prop :=
 Ui P k ke m/\Ep m/\Ep l/\(∀p∈l,p∈m)/\(∃lf cnt,w.ranges P k RV b r m.length (Vq P k ke ve m) lf cnt/\∀kl,lf kl=true↔∃p∈l,klOf P k (ke p.1)=kl) /\
 ∀p,c=some p->(Instr.entry (.pointer (some ⟨r,0,none⟩))).run P w=.ok (.tuple #[ke p.1,ve p.2]) w
def rngE(P:Program)(k:TypeId)(ke:κ->Value)(ve:υ->Value)(b r:Nat)(m l:List (κ×υ))(c:Option (κ×υ)):Ent:=.f [b,r] (Acz P k ke ve b r m l c)
theorem Amb{r:Nat}{w w':World}{es:Array MapEntry}{clock since c0:Nat}{seen:Array Nat}{v:Value}(hb:w.heap[b]? = some (.map es clock))(hr:w.heap[r]? = some (.mapIter (some b) since seen c0))(hb':w'.heap[b]? = w.heap[b]?)(hr':w'.heap[r]? = w.heap[r]?)(h:(Instr.entry (.pointer (some ⟨r,0,none⟩))).run P w=.ok v w):(Instr.entry (.pointer (some ⟨r,0,none⟩))).run P w'=.ok v w':=by
 rw[hb] at hb';rw[hr] at hr';simp only[Instr.entry,getObj,Sem.run_bind,Sem.run,hr,hb,hr',hb',Result.andThen] at h⊢;cases hs:seen.back? with
 |none=>simp only[hs] at h;cases h
 |some st=>
  simp only[hs,getObj,Sem.run_bind,Sem.run,hb,hb',Result.andThen] at h⊢
  by_cases hc:(clock != c0)=true
  .simp only[hc,if_true] at h;cases h
  .simp only[hc,Bool.false_eq_true,if_false] at h⊢;cases hf:es.find? (·.born==st) with
   |none=>simp only[hf] at h;cases h
   |some e=>
    simp only[hf] at h⊢;cases h
    rfl
theorem Acz.still{r:Nat}{l:List (κ×υ)}{c:Option (κ×υ)}{w w':World}(h:Acz P k ke ve b r m l c w)(hb:w'.heap[b]? = w.heap[b]?)(hr:w'.heap[r]? = w.heap[r]?):Acz P k ke ve b r m l c w':=by
 obtain⟨h1,h2,h3,h4,⟨lf,cnt,⟨es,clock,since,seen,c0,g1,g2,g3,g4,g5,g6⟩,h5⟩,h6⟩:=h;refine⟨h1,h2,h3,h4,⟨lf,cnt,⟨es,clock,since,seen,c0,by rw[hb];exact g1,g2,g3,g4,by rw[hr];exact g5,g6⟩,h5⟩,fun p hp=>Amb g1 g5 hb hr (h6 p hp)⟩
theorem Aqr{r:Nat}{l:List (κ×υ)}{c:Option (κ×υ)}{w:World}(h:Acz P k ke ve b r m l c w):Ent.ok w (rngE P k ke ve b r m l c):=by
 refine⟨fun g hg=>?_,h,fun w1 w2 h1 h2=>h1.still (h2 b s_) (h2 r s_)⟩;obtain⟨_,_,_,_,⟨lf,cnt,hr,_⟩,_⟩:=h;rcases List.mem_cons.1 hg with rfl|hg
 .exact hr.owns.lt
 .rw[List.mem_singleton.1 hg];exact hr.lt
theorem Acz.map{r:Nat}{l:List (κ×υ)}{c:Option (κ×υ)}{w:World}(h:Acz P k ke ve b r m l c w):Yo P k ke ve b m w:=by
 obtain⟨h1,h2,_,_,⟨lf,cnt,hr,_⟩,_⟩:=h;exact⟨h1,h2,hr.owns⟩
theorem Aoi{r:Nat}{l:List (κ×υ)}{c:Option (κ×υ)}:Zy P k ke ve b m (rngE P k ke ve b r m l c):=fun _ h=>h.2.1.map
theorem Ad1{t e:TypeId}{g:Nat}{mo:Operand}{i:Nat}{L':Nat->LE}(K:Keyed P k)(hke:∀x y,ke x=ke y->x=y)(ht:P.underlying t=some (.map k e))(hm:evo fr mo=some (.map (some g)))(hL:∀r,SetE L i (Be P k ke ve g m) (rngE P k ke ve g r m m none) (L' r))(hd:Nat.blt d n=true)(kk:∀r,T n N ((d,.pointer (some ⟨r,0,none⟩))::fr) (L' r)):Wx P Q n ⟨some d,.range t mo,ty,pos,after,guard⟩ fr L N:=by
 intro a w ha hw;obtain⟨_,hM,_⟩:=hw.ok _ (hL 0).mem;obtain⟨w',hrun,hrg,hg,hsz⟩:=hM.2.2.range K ht;have hex:(execOp a.eval ⟨some d,.range t mo,ty,pos,after,guard⟩).run P w=.ok (.value (.pointer (some ⟨w.heap.size,0,none⟩))) w':=by
  simp[execOp,ha.eval hm,hrun]
 simp only[Oper.wp,hex,Oper.upon_value];have hR:Acz P k ke ve g w.heap.size m m none w':=by
  refine⟨hM.1,hM.2.1,hM.2.1,fun p hp=>hp,⟨_,_,hrg,fun kl=>?_⟩,fun p hp=>by cases hp⟩;unfold Vq;rw[Maps.has_eq,List.any_eq_true];constructor
  .rintro⟨q,hq,hqk⟩;obtain⟨p,hp,rfl⟩:=List.mem_map.1 ((WideShapes.sorted_perm _).mem_iff.1 hq);exact⟨p,hp,WideAt.sameKey_eq hqk⟩
  .rintro⟨p,hp,rfl⟩;exact⟨ent2 P k ke ve p,(WideShapes.sorted_perm _).mem_iff.2 (List.mem_map.2 ⟨p,hp,rfl⟩),WideAt.sameKey_self (K.key (Ms (hM.1 p hp)))⟩
 refine⟨?_,kk w.heap.size _ _ (ha.put hd) (Heap.turnO (e:=Be P k ke ve g m) (e':=rngE P k ke ve g w.heap.size m m none) (row:=none) hg (fun g' hg'=>by cases hg') (Aqr hR) (nL _) (fun g' hg'=>?_) (hL _) hw)⟩
 .exact⟨⟨hg.os,hg.tape,hg.output,hg.size,fun i hi=>hg.block i hi s_⟩,by first|exact nL _|exact Ad4 (by assumption)⟩
 .rcases List.mem_cons.1 hg' with rfl|hg'
  .exact .inl (List.mem_singleton.2 rfl)
  .rw[List.mem_singleton.1 hg'];exact .inr (nL _)
theorem Agz{g r:Nat}{it:Operand}{i:Nat}{l:List (κ×υ)}{c:Option (κ×υ)}{L':List (κ×υ)->Option (κ×υ)->LE}(K:Keyed P k)(hke:∀x y,ke x=ke y->x=y)(hve:∀x y,ve x=ve y->x=y)(hit:evo fr it=some (.pointer (some ⟨r,0,none⟩)))(hL:∀l' c',SetE L i (rngE P k ke ve g r m l c) (rngE P k ke ve g r m l' c') (L' l' c'))(hd:Nat.blt d n=true)(kN:l=[]->T n N ((d,.tuple #[.bool false])::fr) L)(kS:∀p,p∈l->T n N ((d,.tuple #[.bool true,ke p.1,ve p.2])::fr) (L' (mdel l p.1) (some p))):Wh P Q n ⟨some d,.next it false,ty,pos,after,guard⟩ fr L N:=by
 intro a w ha hw;have hok:=hw.ok _ (hL [] none).mem;obtain⟨_,⟨h1,h2,h3,h4,⟨lf,cnt,hr,h5⟩,_⟩,_⟩:=hok;rcases hr.next K ty with⟨_,h0,hrun⟩|⟨key,v,kl,y,w',cnt',hkey,hlk,hv,hat,hrun,hrg,_,hgr,hsz,hen⟩
 ·have hl:l=[]:=by
   cases l with
   |nil=>rfl
   |cons p q=>have:=(h5 (klOf P k (ke p.1))).2 ⟨p,mS,rfl⟩;rw[h0] at this;cases this
  have hex:(execOp a.eval ⟨some d,.next it false,ty,pos,after,guard⟩).run P w=.ok (.value (.tuple #[.bool false])) w:=by
   simp[execOp,ha.eval hit,hrun,Result.andThen]
  simp only[Oper.wp,hex,Oper.upon_value];exact kN hl _ _ (ha.put hd) hw
 ·obtain⟨p,hp,hpk⟩:=(h5 kl).1 hlk;have hx:=h1 p (h4 p hp);have hkk:key=ke p.1:=K.inj hkey (by rw[<- hpk];exact Ms hx);subst hkk;have hvv:v=ve p.2:=by
   have e1:=hat (.held v);rw[<-hpk,(Agv (ve:=ve) K hke hx v h1 h2).1,Nv h2 (h4 p hp)] at e1;unfold RV at hv;have hv:=oI hv;rw[<-hv] at e1;exact (DataW.held.inj e1).symm
  subst hvv;have hex:(execOp a.eval ⟨some d,.next it false,ty,pos,after,guard⟩).run P w=.ok (.value (.tuple #[.bool true,ke p.1,ve p.2])) w':=by
   simp[execOp,ha.eval hit,hrun,Result.andThen]
  simp only[Oper.wp,hex,Oper.upon_value];have hR:Acz P k ke ve g r m (mdel l p.1) (some p) w':=by
   refine⟨h1,h2,h3.del _,fun q hq=>h4 q (Ql.1 hq).1,⟨_,_,hrg,fun kl'=>?_⟩,fun q hq=>by cases hq;exact hen⟩;simp only[Bool.and_eq_true,Bool.not_eq_true',h5 kl'];constructor
   .rintro⟨⟨q,hq,rfl⟩,hs⟩;refine⟨q,Ql.2 ⟨hq,fun e=>?_⟩,rfl⟩;rw[e,hpk,WideAt.sameKey_self (K.key hkey)] at hs;cases hs
   .rintro⟨q,hq,rfl⟩;obtain⟨q1,q2⟩:=Ql.1 hq;refine⟨⟨q,q1,rfl⟩,?_⟩;rw[<-hpk];exact Maps.sameKey_ne (Afi K hke (h1 q (h4 q q1)) hx q2)
  exact kS p hp _ _ (ha.put hd) (Heap.turnO (e:=rngE P k ke ve g r m l c) (e':=rngE P k ke ve g r m (mdel l p.1) (some p)) (row:=some r) hgr (fun g' hg'=>by cases hg';exact mO _ (List.mem_singleton.2 rfl)) (Aqr hR) (nL _) (fun g' hg'=>.inl hg') (hL _ _) hw)
theorem Ass{g r:Nat}{it:Operand}{i:Nat}{l:List (κ × υ)}{p:κ × υ}{kv vv:Value}(hit:evo fr it=some (.pointer (some ⟨r,0,none⟩)))(hL:nthE L i=some (rngE P k ke ve g r m l (some p)))(hk:kv=ke p.1)(hv:vv=ve p.2):
  Ev P n ⟨dst,.entry it,ty,pos,after,guard⟩ fr L (.tuple #[kv,vv]):=fun a w ha hw=>by
 subst hk;subst hv;obtain⟨_,hR,_⟩:=hw _ (Add hL);have:=hR.2.2.2.2.2 p rfl;simp[execOp,ha.eval hit,this]
theorem Ab4{N:AW}{g r:Nat}{i:Nat}{l:List (κ×υ)}{c:Option (κ×υ)}{L':LE}(hL:SetE L i (rngE P k ke ve g r m l c) (Be P k ke ve g m) L')(kk:T n N fr L'):T n N fr L:=by
 intro a w ha hw;obtain⟨_,hR,_⟩:=hw.ok _ hL.mem;exact kk a w ha (Heap.turnO (e:=rngE P k ke ve g r m l c) (e':=Be P k ke ve g m) (row:=none) ⟨rfl,rfl,rfl,nL _,fun _ _ _=>rfl⟩ (fun g' hg'=>by cases hg') (Acy hR.map) (nL _) (fun g' hg'=>.inl (by rw[List.mem_singleton.1 hg'];exact mS)) hL hw)
end
end
section
open Go.Maps (Keyed)
theorem Pt.m0{g:Nat}{t:TypeId}{cs:LV}{K:LE}(h:Ent.m g t cs∈K):Pt K g 0 cs:=fun w hw j u hu=>by
 have:=hw _ h;rw[Us this];simpa using hu
section
variable {κ υ:Type}
inductive MR{σ τ:Type}(BN:σ->Option (Sum σ τ))(BS:σ->κ×υ->Option (Sum σ τ)):List (κ×υ)->σ->τ->Prop
 |nil {s t} (h:BN s=some (.inr t)):MR BN BS [] s t
 |cons {l s t} (h0:l≠[]) (h1:∀p∈l,(BS s p).isSome=true) (h2:∀p∈l,∀t',BS s p=some (.inr t')->t'=t) (h3:∀p∈l,∀s',BS s p=some (.inl s')->MR BN BS (mdel l p.1) s' t):MR BN BS l s t
variable {σ τ γ:Type}{BN:σ->Option (Sum σ τ)}{BS:σ->κ×υ->Option (Sum σ τ)}{l m:List (κ×υ)}{s:σ}{t:τ}{p:κ×υ}
theorem MR.none'(h:MR BN BS l s t)(hl:l=[]):∃x,BN s=some x/\∀t',x=.inr t'->t'=t:=by
 cases h with
 |nil h=>exact⟨_,h,fun t' e=>(Sum.inr.inj e).symm⟩
 |cons h0 _ _ _=>exact absurd hl h0
theorem MR.some'(h:MR BN BS l s t)(hp:p∈l):∃x,BS s p=some x/\(∀t',x=.inr t'->t'=t)/\∀s',x=.inl s'->MR BN BS (mdel l p.1) s' t:=by
 cases h with
 |nil h=>cases hp
 |cons _ h1 h2 h3=>
  obtain⟨x,hx⟩:=Option.isSome_iff_exists.1 (h1 p hp);exact⟨x,hx,fun t' e=>h2 p hp t' (by rw[hx,e]),fun s' e=>h3 p hp s' (by rw[hx,e])⟩
open Classical in
def mfix(BN:σ->Option (Sum σ τ))(BS:σ->κ×υ->Option (Sum σ τ))(m:List (κ×υ))(s:σ):Option τ:=if h:∃t,MR BN BS m s t then some h.choose else none
theorem Ast(h:mfix BN BS m s=some t):MR BN BS m s t:=by
 unfold mfix at h;split at h
 .rename_i hh;cases h
  exact hh.choose_spec
 .cases h
theorem MR.unique(h:MR BN BS m s t){t':τ}(h':MR BN BS m s t'):t=t':=by
 induction h with
 |nil h=>
  obtain⟨x,hx,ht⟩:=h'.none' rfl;rw[h] at hx;exact ht _ (oI hx).symm
 |@cons l s t h0 h1 h2 h3 ih=>
  obtain⟨p,hp⟩:=List.exists_mem_of_ne_nil l h0;obtain⟨x,hx,ht,hn⟩:=h'.some' hp;cases x with
  |inr t2=>rw[<-h2 p hp t2 hx,ht t2 rfl]
  |inl s2=>exact ih p hp s2 hx (hn s2 rfl)
theorem Azg(h:MR BN BS m s t):mfix BN BS m s=some t:=by
 unfold mfix;rw[dif_pos ⟨t,h⟩];exact congrArg some (MR.unique (Exists.choose_spec (p:=fun t=>MR BN BS m s t) ⟨t,h⟩) h)
theorem Azh(hp:p∈l):(mdel l p.1).length<l.length:=by
 unfold mdel;refine Nat.lt_of_le_of_ne (List.length_filter_le _ _) fun e=>?_
 have:=List.length_filter_eq_length_iff.1 e p hp;simp at this
section
variable {ρ:Type}
def mkN(BN:σ->Option (Sum σ τ))(k:τ->Option ρ):σ->Option (Sum σ ρ):=fun s=>match BN s with
 |some (.inl s')=>some (.inl s')
 |some (.inr t)=>(match k t with
  |some r=>some (.inr r)
  |none=>none)
 |none=>none
def mkS(BS:σ->κ×υ->Option (Sum σ τ))(k:τ->Option ρ):σ->κ×υ->Option (Sum σ ρ):=fun s p=>mkN (fun s=>BS s p) k s
abbrev Aqs(BN:σ->Option (Sum σ τ))(BS:σ->κ×υ->Option (Sum σ τ))(m:List (κ×υ))(s:σ)(k:τ->Option ρ):Option ρ:=mfix (mkN BN k) (mkS BS k) m s
theorem Amc{BN:σ->Option (Sum σ τ)}{k:τ->Option ρ}{s:σ}{y:Sum σ ρ}(h:mkN BN k s=some y):∃x,BN s=some x/\(∀t,x=.inr t->∃r,k t=some r/\y=.inr r)/\∀s',x=.inl s'->y=.inl s':=by
 unfold mkN at h;split at h
 .rename_i s' e;cases h
  exact⟨_,e,fun t ht=>(by cases ht),fun s2 h2=>(by cases h2;rfl)⟩
 .rename_i t e;split at h
  .rename_i r er;cases h
   exact⟨_,e,fun t ht=>(by cases ht;exact⟨r,er,rfl⟩),fun s2 h2=>(by cases h2)⟩
  .cases h
 .cases h
theorem MR.noneK{k:τ->Option ρ}{r:ρ}(h:MR (mkN BN k) (mkS BS k) l s r)(hl:l=[]):∃x,BN s=some x/\∀t',x=.inr t'->k t'=some r:=by
 obtain⟨y,hy,hr⟩:=h.none' hl;obtain⟨x,hx,h1,_⟩:=Amc hy;refine⟨x,hx,fun t' e=>?_⟩;obtain⟨r',h2,h3⟩:=h1 t' e;rw[h2,hr r' h3]
theorem MR.someK{k:τ->Option ρ}{r:ρ}(h:MR (mkN BN k) (mkS BS k) l s r)(hp:p∈l):∃x,BS s p=some x/\(∀t',x=.inr t'->k t'=some r)/\∀s',x=.inl s'->MR (mkN BN k) (mkS BS k) (mdel l p.1) s' r:=by
 obtain⟨y,hy,hr,hn⟩:=h.some' hp;obtain⟨x,hx,h1,h4⟩:=Amc hy;refine⟨x,hx,fun t' e=>?_,fun s' e=>hn s' (h4 s' e)⟩;obtain⟨r',h2,h3⟩:=h1 t' e;rw[h2,hr r' h3]
theorem Bcj{σ τ ρ:Type}{k:τ->Option ρ}{r:ρ}{x:Sum σ τ}{t':τ}(ht:∀t',x=.inr t'->k t'=some r)(hx:some (.inr t')=some x):k t'=some r:=ht t' (oI hx).symm
end
section
variable {P:Program}{n:Nat}{fr:lF}{L:LE}{Q:Exit->AW}
def RndM(n:Nat)(BN:σ->Option (Sum σ τ))(BS:σ->κ×υ->Option (Sum σ τ))(t:τ)(left:γ->List (κ×υ))(k:Nat)(I:σ->γ->lF)(H:σ->γ->LE)(G:σ->γ->Prop)(a:Act)(w:World):Prop :=
 ∃s g,MR BN BS (left g) s t/\(left g).length<k/\G s g/\Fr n (I s g) a/\Heap (H s g) w
theorem Aj9{s0:σ}(hl:mfix BN BS m s0=some t)(left:γ->List (κ × υ))(I:σ->γ->List (Nat × Value))(H:σ->γ->List Ent)(G:σ->γ->Prop)(g0:γ)(hm:left g0=m)(hG:G s0 g0)(hF:SubF (I s0 g0) fr)(hH:Ix L (H s0 g0)){c:Code}(body:∀ s g,G s g->MR BN BS (left g) s t->T n (c.wp P (Exit.then (RndM n BN BS t left (left g).length I H G) Q)) (I s g) (H s g)):
  T n ((Code.loop c).wp P Q) fr L:=by
 refine fun a w ha hw=>?_
 refine Aw4 (fr:=fr) (L:=H s0 g0) (σ:=σ×γ) (fun s=>I s.1 s.2) (fun s=>H s.1 s.2) (fun s=>G s.1 s.2/\MR BN BS (left s.2) s.1 t) (fun s=>(left s.2).length) (s0,g0) ⟨hG,by rw[hm];exact Ast hl⟩ hF .refl ?_ a w ha (hw.pick hH);clear ha hw a w;rintro⟨s,g⟩ ⟨hG,hs⟩;intro a w ha hw;refine wp_mono (body s g hG hs a w ha hw) ?_;intro e a' w' hq;cases e with
 |normal=>
  obtain⟨s',g',h4,h5,h1,h2,h3⟩:=hq;exact⟨(s',g'),⟨h1,h4⟩,h5,h2,h3⟩
 |_=>exact hq
theorem Zz{left:γ->List (κ×υ)}{τ':Type}{x:Sum σ τ'}{I:σ->γ->lF}{H:σ->γ->LE}{G:σ->γ->Prop}(s:σ)(g:γ)(hx:some (.inl s)=some x)(hnx:∀s',x=.inl s'->MR BN BS (mdel l p.1) s' t)(hp:p∈l)(hg:left g=mdel l p.1)(hG:G s g)(hF:SubF (I s g) fr)(hH:Ix L (H s g)):T n (Exit.then (RndM n BN BS t left l.length I H G) Q .normal) fr L:=fun _ _ ha hw=>
 ⟨s,g,by rw[hg];exact hnx s (oI hx).symm,by rw[hg];exact Azh hp,hG,ha.sub hF,hw.pick hH⟩
end
end
end
section
open Go.Lib Go.Sort
def Gw(W w:World):Prop:=∃q os',w=grow (W.drewN q) os'
theorem Gw.trans{A B C:World}(h:Gw A B)(k:Gw B C):Gw A C:=by
 obtain⟨q,os,rfl⟩:=h;obtain⟨q',os',rfl⟩:=k;exact⟨q+q',os++os',by simp[grow,World.drewN,Nat.add_assoc,Array.append_assoc]⟩
theorem Ext.gw{W w:World}(h:Ext W w):Gw W w:=by
 obtain⟨⟨h1,h2,h3,h4,h5⟩,hd⟩:=h;refine⟨w.drawn-W.drawn,w.heap.extract W.heap.size w.heap.size,?_⟩;obtain⟨hp,tp,dr,os,out⟩:=w;simp only at *;have e:hp=W.heap++hp.extract W.heap.size hp.size:=by
  apply Array.ext_getElem?;intro i
  by_cases hi:i<W.heap.size
  .rw[h5 i hi,Array.getElem?_append_left hi]
  .rw[Array.getElem?_append_right oo,Array.getElem?_extract]
   by_cases hi2:i<hp.size
   .rw[iP oo];congr 1;omega
   .rw[iN oo,Array.getElem?_eq_none oo]
 have ed:W.drawn+(dr-W.drawn)=dr:=oo;simp only[grow,World.drewN,ed,h1,h2,h3,<-e]
theorem CtL.grows{P:Program}{f:FuncId}{vs:LV}{w:World}{v:Value}(h:CtL P f vs w fun x Ln=>x=v/\Ln=[]/\True):Calls P f vs.toArray w fun e w'=>e=.returned v/\Gw w w':=by
 obtain⟨_,h⟩:=h;refine h.mono ?_;rintro e w' ⟨v',Ln,rfl,⟨rfl,-,-⟩,-,hh⟩;exact⟨rfl,Ext.gw (hh.ok (.old w) s_)⟩
end
section
open Go.Shelf Go.Sort
variable {α:Type}[Inhabited α]
theorem Amd{enc:α->LV}{k:Nat}(hk:∀x,(enc x).length=k)(h0:0<k)(d:Array α):flatK enc k d=(d.toList.flatMap enc).toArray:=by
 have hl:(d.toList.flatMap enc).length=d.size*k:=by rw[Ga hk,Array.length_toList]
 apply Array.ext
 .simp only[size_flatK,List.size_toArray,hl]
 .intro t h1 h2;have ht:t<d.size*k:=by simpa using h1
  have hq:t/k<d.size:=by rw[Nat.div_lt_iff_lt_mul h0];exact ht
  have hr:t%k<k:=Nat.mod_lt _ h0;have hg:=get_flatK enc k d t ht;rw[getElem!_pos _ t h1] at hg;rw[hg];have hx:(enc d[t/k]!)[t%k]? = some (enc d[t/k]!)[t%k]!:=by
   rw[getElem!_pos (enc d[t/k]!) (t%k) (by rw[hk];exact hr)];exact gE _
  have hd:d[t/k]! = d.toList[t/k]'(sV hq):=by
   rw[getElem!_pos d _ hq];simp
  rw[hd] at hx⊢;have:=Xu (enc:=enc) d.toList (t/k) (sV hq) (fun x _=>hk x) (t%k) _ hx;rw[Nat.mul_comm,Nat.div_add_mod] at this;have h3:=(List.getElem?_eq_some_iff.1 this).2;rw[<-h3];simp
theorem Asu{enc:α->LV}{k:Nat}(hk:∀x,(enc x).length=k)(h0:0<k){w:World}{g:Nat}{cur:Array Value}{t:TypeId}(d:Array α)(hh:w.heap[g]? = some (.cells cur t (0,0)))(hc:cur.toList.take (d.size*k)=d.toList.flatMap enc):HoldsK enc k w g 0 d:=by
 intro j hj;rw[Amd hk h0] at hj⊢;have hl:(d.toList.flatMap enc).length=d.size*k:=by rw[Ga hk,Array.length_toList]
 have hj':j<d.size*k:=by simpa[hl] using hj
 have hjl:j<(d.toList.flatMap enc).length:=by rw[hl];exact hj'
 refine⟨?_,?_⟩
 .have h7:(cur.toList.take (d.size*k))[j]? = (d.toList.flatMap enc)[j]?:=by rw[hc]
  rw[List.getElem?_take,iP hj'] at h7;have h8:cur[j]? = some (d.toList.flatMap enc)[j]:=by rw[<-Array.getElem?_toList,h7];exact gE hjl
  have h9:w.cell? ⟨g,0+j,none⟩=cur[j]?:=by simp[World.cell?,hh]
  rw[h9,h8,getElem!_pos _ j hj];simp
 .simp[World.frozen?,hh]
theorem Ag0{enc:α->List Value}{k:Nat}(hk:∀ x,(enc x).length=k)(h0:0<k){w:World}{g c n:Nat}{cur:Array Value}{t:TypeId}{d d':Array α}{os:Array Obj}(hs:d'.size=d.size)(hh:w.heap[g]? = some (.cells cur t (0,0)))(hm:d.size<=c)(hcm:c<=maxLen)(hz:cur.size=c*k):
  Ent.ok (sortWorldK enc k w g 0 n d' os) (.r (some ⟨g,0,none⟩) d.size c t k (d'.toList.flatMap enc))/\w.grownBy (sortWorldK enc k w g 0 n d' os) (some g):=by
 have hl:(d'.toList.flatMap enc).length=d.size*k:=by rw[Ga hk,Array.length_toList,hs]
 have hlt:=Ec hh;have hg0:∀q,q<w.heap.size->(sortWorldK enc k w g 0 n d' os).heap[q]? = (w.heap.modify g (onCells (putCells id 0 (flatK enc k d'))))[q]?:=fun q hq=>by
  show (((Go.Sort.ahead w n).heap.modify g (onCells (putCells id 0 (flatK enc k d'))))++os)[q]? = _;rw[Array.getElem?_append_left (by rw[Array.size_modify];exact hq)];rfl
 refine⟨⟨hl,.inr ⟨g,c,putCells id 0 (flatK enc k d') cur,rfl,Nat.zero_le _,?_,hm,hcm,?_,?_⟩⟩,⟨rfl,rfl,rfl,?_,fun q hq hne=>?_⟩⟩
 .rw[hg0 g hlt,Array.getElem?_modify,iP rfl,hh];rfl
 .simp[putCells,hz]
 .apply List.ext_getElem?;intro j;rw[List.getElem?_take]
  by_cases hj:j<d.size*k
  .rw[iP hj];have hjl:j<(d'.toList.flatMap enc).length:=by rw[hl];exact hj
   have hjc:j<cur.size:=by
    rw[hz];exact Nat.lt_of_lt_of_le hj (Nat.mul_le_mul_right _ hm)
   have hsz:j<(flatK enc k d').size:=by rw[size_flatK,hs];exact hj
   have h1:(flatK enc k d')[j]! = (d'.toList.flatMap enc)[j]:=by
    rw[Amd hk h0,getElem!_pos _ j (sV hjl)];simp
   rw[Array.getElem?_toList,gE hjl];simp only[putCells,Array.getElem?_mapIdx,Array.getElem?_eq_getElem hjc,Option.map_some];rw[iP ⟨Nat.zero_le _,sV hsz⟩];simp only[Nat.sub_zero,id,h1]
  .rw[iN hj,List.getElem?_eq_none (by rw[hl];omega)]
 .show w.heap.size<=(((Go.Sort.ahead w n).heap.modify g (onCells (putCells id 0 (flatK enc k d'))))++os).size;rw[Array.size_append,Array.size_modify];exact Nat.le_add_right _ _
 .rw[hg0 q hq,Array.getElem?_modify];rw[iN (fun he=>hne (by rw[he]))]
end
section
open Go.Shelf Go.Sort
def Ba{α:Type}(cf:α->α->Int)(l:List α):List α:=l.mergeSort fun x y=>!(ltOf cf) y x
theorem Do{α:Type}{cf:α->α->Int}{l:List α}:(Ba cf l).length=l.length:=by simp[Ba]
structure Yx{β:Type}(p:β->Prop)(cf:β->β->Int):Prop where
 irr:∀x,p x->¬cf x x<0
 trans:∀x y z,p x->p y->p z->cf x y<0->cf y z<0->cf x z<0
 tot:∀x y,p x->p y->¬cf x y<0->¬cf y x<0->x=y
theorem Ag1{α:Type}{cf:α->α->Int}{x y:α}:ltOf cf x y=true↔cf x y<0:=by simp[ltOf]
theorem Ub{α:Type}{cf:α->α->Int}{x y:α}:ltOf cf x y=false↔¬cf x y<0:=by simp[ltOf]
theorem Yx.swo{β:Type}{p:β->Prop}{cf:β->β->Int}(h:Yx p cf):SWO (ltOf fun x y:{x // p x}=>cf x.1 y.1) where
 irrefl x:=Ub.2 (h.irr x.1 x.2)
 trans x y z h1 h2:=Ag1.2 (h.trans x.1 y.1 z.1 x.2 y.2 z.2 (Ag1.1 h1) (Ag1.1 h2))
 ntrans x y z h1 h2:=by
  rw[Ub] at h1 h2 ⊢;intro h3
  by_cases h4:cf y.1 x.1<0
  .exact h2 (h.trans y.1 x.1 z.1 y.2 x.2 z.2 h4 h3)
  .have:=h.tot x.1 y.1 x.2 y.2 h1 h4;rw[this] at h3;exact h2 h3
theorem Yx.one{β:Type}{p:β->Prop}{cf:β->β->Int}(h:Yx p cf)(x y:{x // p x})(h1:ltOf (fun x y:{x // p x}=>cf x.1 y.1) x y=false)(h2:ltOf (fun x y:{x // p x}=>cf x.1 y.1) y x=false):x=y :=
 Subtype.ext (h.tot x.1 y.1 x.2 y.2 (Ub.1 h1) (Ub.1 h2))
def Ac0(P:Program)(f:FuncId)(A:OA)(m c:Nat)(t:TypeId)(k:Nat)(gf:Nat)(cb:Array Value)(w:World)(xs ys:LV):Prop :=
 Calls P f #[.slice A m c,.func (.func gf) #[] cb] w fun e w'=>e=.returned (.tuple #[])/\w.grownBy w' (Ent.blk (.r A m c t k xs))/\w.drawn<=w'.drawn/\Ent.ok w' (.r A m c t k ys)
def Ac1(P:Program){β:Type}(p:β->Prop)(cf:β->β->Int)(arg:β->Value)(A:OA)(m c:Nat)(t:TypeId)(k:Nat)(gf:Nat)(cb:Array Value)(w:World)(xs:LV):Prop :=
 ∀(ys:LV) W,Ent.ok W (.r A m c t k ys)->w.grownBy W (Ent.blk (.r A m c t k xs))->w.drawn<=W.drawn->∀x y,p x->p y->Calls P gf (#[arg x,arg y]++cb) W fun e w'=>e=.returned (.int .i64 (cf x y))/\Gw W w'
theorem Xm{α:Type}[Inhabited α](enc:α->LV)(k:Nat)(w:World)(g off n:Nat)(d:Array α)(os:Array Obj):w.drawn<=(sortWorldK enc k w g off n d os).drawn:=Nat.le_add_right _ _
theorem Ab5{β:Type}{p:β->Prop}{cf:β->β->Int}(l':List {x // p x}):Ba cf (l'.map Subtype.val)=(Ba (fun x y:{x // p x}=>cf x.1 y.1) l').map Subtype.val:=by
 unfold Ba;rw[List.map_mergeSort];intro a _ b _;rfl
theorem Ag2{P:Program}{ρ:Ren}(L:SlLaysF0.n6 P ρ){β:Type}{p:β->Prop}{k:Nat}(aE:∀w,(isAgg (ρ.t 24)).run P w=.ok true w)(zE:∀w,(Go.sizeOf (ρ.t 24)).run P w=.ok k w){enc:β->LV}(hk:∀x,(enc x).length=k)(h0:0<k)(h1:∀x,∀v∈enc x,v.oneCell'=true){cf:β->β->Int}(hT:Yx p cf){gf:Nat}{cb:Array Value}(eg:∀args w,(callFunc gf args).run P w=.ok (.enter gf args) w)(l:List β)(hb:l.length<=1000000000)(hp:∀x∈l,p x){A:OA}{m c:Nat}{t:TypeId}(w:World)(hok:Ent.ok w (.r A m c t k (l.flatMap enc)))(hcmp:Ac1 P p cf (fun x=>.agg (enc x).toArray) A m c t k gf cb w (l.flatMap enc)):Ac0 P (ρ.f 6) A m c t k gf cb w (l.flatMap enc) ((Ba cf l).flatMap enc):=by
 obtain⟨hl,h2⟩:=hok;rw[Ga hk] at hl;have hm:l.length=m:=Nat.eq_of_mul_eq_mul_right h0 hl;subst hm
 by_cases hl0:l=[]
 .subst hl0;refine (AnyF.slices_SortFunc_none L A c _ w).mono ?_;rintro e w' ⟨rfl,rfl⟩;exact⟨rfl,⟨rfl,rfl,rfl,nL _,fun _ _ _=>rfl⟩,nL _,by rw[show Ba cf ([]:List β)=[] by simp[Ba]];exact⟨s_,h2⟩⟩
 .obtain⟨l',hl'⟩:∃l':List {x // p x},l=l'.map Subtype.val:=⟨l.attach.map fun x=>⟨x.1,hp x.1 x.2⟩,by simp only[List.map_map,Function.comp_def];exact (List.attach_map_subtype_val _).symm⟩;obtain⟨x0,hx0⟩:=List.exists_mem_of_ne_nil l hl0;have:Inhabited {x // p x}:=⟨⟨x0,hp x0 hx0⟩⟩;clear hl0 hx0;subst hl';have hf:∀q:List {x // p x},(q.map Subtype.val).flatMap enc=q.flatMap fun x=>enc x.1:=fun q=>by rw[List.flatMap_map]
  have hk':∀x:{x // p x},(enc x.1).length=k:=fun x=>hk x.1
  rcases h2 with⟨hv,hz⟩|⟨g,cap,cur,hv,hbg,hh,h3,h4,h5,h6⟩
  .injection hv with e1 e2 e3
   subst e1;subst e3;rw[hz];have hl0:l'=[]:=by simpa using hz
   subst hl0;refine (AnyF.slices_SortFunc_none L none 0 _ w).mono ?_;rintro e w' ⟨rfl,rfl⟩;exact⟨rfl,⟨rfl,rfl,rfl,nL _,fun _ _ _=>rfl⟩,nL _,by simp[Ba],.inl ⟨rfl,rfl⟩⟩
  .injection hv with e1 e2 e3
   subst e1;subst e3;unfold Ac1 at hcmp;unfold Ac0;rw[Ab5,hf,hf];rw[hf] at h6 hcmp;rw[List.length_map] at h3 h6 hl hb hcmp ⊢;have hH:HoldsK (fun x:{x // p x}=>enc x.1) k w g 0 l'.toArray:=Asu hk' h0 l'.toArray hh (sV h6);have hcl:CmpLays P gf cb (fun x:{x // p x}=>enc x.1) k (fun x y=>cf x.1 y.1) g 0 l'.toArray.size w:=fun q os dk hdk x y=>by
    have hr:=Ag0 hk' h0 (d:=l'.toArray) (d':=dk) (n:=q) (os:=os) hdk hh (sV h3) h4 h5;simp only[List.size_toArray] at hr;exact hcmp _ _ hr.1 hr.2 (Xm _ _ _ _ _ _ _ _) x.1 y.1 x.2 y.2
   have:=AnyQ.slices_SortFunc_total L k aE zE (fun x:{x // p x}=>enc x.1) hk' (fun x=>h1 x.1) (fun x y=>cf x.1 y.1) hT.swo gf cb g 0 c l'.toArray w eg hcl hH (Ec hh) (by simp;omega) hT.one;rw[show l'.toArray.size=l'.length by simp] at this;refine this.mono ?_;rintro e w' ⟨rfl,n,os,rfl⟩;have hs:(l'.toArray.toList.mergeSort fun x y=>!(ltOf fun x y:{x // p x}=>cf x.1 y.1) y x).toArray.size=l'.toArray.size:=s_;have hr:=Ag0 hk' h0 (d:=l'.toArray) (d':=(l'.toArray.toList.mergeSort fun x y=>!(ltOf fun x y:{x // p x}=>cf x.1 y.1) y x).toArray) (n:=n) (os:=os) hs hh (sV h3) h4 h5;refine⟨rfl,hr.2,Xm _ _ _ _ _ _ _ _,?_⟩;have h7:=hr.1;simp only[List.size_toArray] at h7;exact h7
section
variable {P:Program}{n:Nat}{N:AW}{Q:Exit->AW}{fr:lF}{L L':LE}
theorem Ame{β:Type}{p:β->Prop}{enc:β->LV}{arg:β->Value}{cf:β->β->Int}{k f gf:Nat}{cb:Array Value}(l:List β){i m c:Nat}{A:OA}{t:TypeId}{xs:List Operand}{ts:Array TypeId}{ty':TypeId}{pos:String}{after:AE}{guard:ON}(he:Wp P f)(hs:∀w,Ent.ok w (.r A m c t k (l.flatMap enc))->Ac1 P p cf arg A m c t k gf cb w (l.flatMap enc)->Ac0 P f A m c t k gf cb w (l.flatMap enc) ((Ba cf l).flatMap enc))(Lf:LV->LE)(hLf:∀ys,SetE L i (.r A m c t k (l.flatMap enc)) (.r A m c t k ys) (Lf ys))(hc:∀ys W,Heap (Lf ys) W->∀x y,p x->p y->∃xs,xs.toArray = #[arg x,arg y]++cb/\CtL P gf xs W fun v Ln=>v=.int .i64 (cf x y)/\Ln=[]/\True)(hx:evos fr xs=some [.slice A m c,.func (.func gf) #[] cb])(hL:Lf ((Ba cf l).flatMap enc)=L'){d:Nat}(hd:Nat.blt d n=true)(kk:T n N ((d,.tuple #[])::fr) L'):Wh P Q n ⟨some d,.call ⟨.value (.func f),xs.toArray,ts⟩,ty',pos,after,guard⟩ fr L N:=by
 intro a w ha hw;subst hL;have turn:∀ys W,Ent.ok W (.r A m c t k ys)->w.grownBy W (Ent.blk (.r A m c t k (l.flatMap enc)))->w.drawn<=W.drawn->Heap (Lf ys) W:=fun ys W h1 h2 h3=>
  Heap.turn (e:=.r A m c t k (l.flatMap enc)) (e':=.r A m c t k ys) h2 h1 (nL _) (fun _ hg=>.inl hg) (hLf ys) hw (hd:=h3)
 simp only[Oper.wp,Ag8 he ha hx,Oper.upon_enter];refine (hs w (hw.ok _ (hLf []).mem) fun ys W h1 h2 h3 x y px py=>?_).mono ?_
 .obtain⟨xs,e,h⟩:=hc ys W (turn ys W h1 h2 h3) x y px py;rw[<-e];exact h.grows
 .rintro e w' ⟨rfl,hg,hdr,hok⟩;exact kk _ _ (ha.put hd) (turn _ _ hok hg hdr)
end
theorem Ad2{α:Type}{f:α->Value}:∀l:List α,l.flatMap (fun x=>[f x])=l.map f
 |[]=>rfl
 |x::r=>by rw[List.flatMap_cons,Ad2 r];rfl
section
variable {α:Type}[Inhabited α]{enc:α->Value}
theorem Aoj{w:World}{g:Nat}{cur:Array Value}{t:TypeId}(l:List α)(hh:w.heap[g]? = some (.cells cur t (0,0)))(h6:cur.toList.take l.length=l.map enc):Holds enc w g 0 l.toArray:=fun j hj=>by
 have hj':j<l.length:=by simpa using hj
 refine⟨?_,?_⟩
 .have h7:(cur.toList.take l.length)[j]? = some (enc l[j]):=by rw[h6];simp[hj']
  rw[List.getElem?_take,iP hj'] at h7;have h8:cur[j]? = some (enc l[j]):=by simpa using h7
  simp[World.cell?,hh,h8,hj']
 .simp[World.frozen?,hh]
theorem Aej{w:World}{g c n:Nat}{cur:Array Value}{t:TypeId}{d:List α}{d':Array α}{os:Array Obj}(hs:d'.size=d.length)(hh:w.heap[g]? = some (.cells cur t (0,0)))(h3:d.length<=c)(h4:c<=maxLen)(h5:cur.size=c):
  Ent.ok (sortWorld enc w g 0 n d' os) (.r (some ⟨g,0,none⟩) d.length c t 1 (d'.toList.map enc))/\w.grownBy (sortWorld enc w g 0 n d' os) (some g):=by
 have hlt:=Ec hh;have hg0:∀k,k<w.heap.size->(sortWorld enc w g 0 n d' os).heap[k]? = (w.heap.modify g (onCells (putCells enc 0 d')))[k]?:=fun k hk=>by
  show (((Go.Sort.ahead w n).heap.modify g (onCells (putCells enc 0 d')))++os)[k]? = _;rw[Array.getElem?_append_left (by rw[Array.size_modify];exact hk)];rfl
 refine⟨⟨by rw[List.length_map,Array.length_toList,hs,Nat.mul_one],.inr ⟨g,c,putCells enc 0 d' cur,rfl,Nat.zero_le _,?_,h3,h4,?_,?_⟩⟩,⟨rfl,rfl,rfl,?_,fun k hk hne=>?_⟩⟩
 .rw[hg0 g hlt,Array.getElem?_modify,iP rfl,hh];rfl
 .simp[putCells,h5]
 .rw[Nat.mul_one];apply List.ext_getElem?;intro j;rw[List.getElem?_take]
  by_cases hj:j<d.length
  .rw[iP hj];have hj':j<d'.size:=oo;have hjc:j<cur.size:=oo;rw[List.getElem?_map,Array.getElem?_toList,show d'.toList[j]? = some d'[j] by simp[hj']];simp only[putCells,Array.getElem?_mapIdx,Array.getElem?_eq_getElem hjc,Option.map_some];rw[iP ⟨Nat.zero_le _,oo⟩];simp[hj']
  .rw[iN hj,List.getElem?_eq_none (by rw[List.length_map,Array.length_toList];omega)]
 .show w.heap.size<=(((Go.Sort.ahead w n).heap.modify g (onCells (putCells enc 0 d')))++os).size;rw[Array.size_append,Array.size_modify];exact Nat.le_add_right _ _
 .rw[hg0 k hk,Array.getElem?_modify];rw[iN (fun he=>hne (by rw[he]))]
end
theorem Yy{α:Type}[Inhabited α](enc:α->Value)(w:World)(g off n:Nat)(d:Array α)(os:Array Obj):w.drawn<=(sortWorld enc w g off n d os).drawn:=Nat.le_add_right _ _
theorem Aok{P:Program}{ρ:Ren}(L:SlLaysF.n6 P ρ){β:Type}{p:β->Prop}{enc:β->Value}(h1:∀x,(enc x).oneCell'=true){cf:β->β->Int}(hT:Yx p cf){gf:Nat}{cb:Array Value}(eg:∀args w,(callFunc gf args).run P w=.ok (.enter gf args) w)(l:List β)(hb:l.length<=1000000000)(hp:∀x∈l,p x){A:OA}{m c:Nat}{t:TypeId}(w:World)(hok:Ent.ok w (.r A m c t 1 (l.flatMap fun x=>[enc x])))(hcmp:Ac1 P p cf enc A m c t 1 gf cb w (l.flatMap fun x=>[enc x])):Ac0 P (ρ.f 6) A m c t 1 gf cb w (l.flatMap fun x=>[enc x]) ((Ba cf l).flatMap fun x=>[enc x]):=by
 rw[Ad2] at hok hcmp ⊢;rw[Ad2];obtain⟨hl,h2⟩:=hok;rw[List.length_map,Nat.mul_one] at hl;subst hl
 by_cases hl0:l=[]
 .subst hl0;refine (AnyF.slices_SortFunc_none {L with} A c _ w).mono ?_;rintro e w' ⟨rfl,rfl⟩;exact⟨rfl,⟨rfl,rfl,rfl,nL _,fun _ _ _=>rfl⟩,nL _,by rw[show Ba cf ([]:List β)=[] by simp[Ba]];exact⟨s_,h2⟩⟩
 .obtain⟨l',hl'⟩:∃l':List {x // p x},l=l'.map Subtype.val:=⟨l.attach.map fun x=>⟨x.1,hp x.1 x.2⟩,by simp only[List.map_map,Function.comp_def];exact (List.attach_map_subtype_val _).symm⟩;obtain⟨x0,hx0⟩:=List.exists_mem_of_ne_nil l hl0;have:Inhabited {x // p x}:=⟨⟨x0,hp x0 hx0⟩⟩;clear hx0;subst hl';rcases h2 with⟨hv,hz⟩|⟨g,cap,cur,hv,hbg,hh,h3,h4,h5,h6⟩
  .exact absurd (List.eq_nil_of_length_eq_zero hz) hl0
  .injection hv with e1 e2 e3
   subst e1;subst e3;unfold Ac1 at hcmp;unfold Ac0;rw[Ab5,List.map_map,List.map_map];rw[List.map_map] at h6 hcmp;rw[List.length_map] at h3 h6 hb hcmp ⊢;rw[Nat.mul_one] at h5 h6;have hH:Holds (fun x:{x // p x}=>enc x.1) w g 0 l'.toArray:=Aoj l' hh h6;have hcl:CmpLays1 P gf cb (fun x:{x // p x}=>enc x.1) (fun x y=>cf x.1 y.1) g 0 l'.toArray.size w:=fun q os dk hdk x y=>by
    have hr:=Aej (enc:=fun x:{x // p x}=>enc x.1) (d:=l') (d':=dk) (n:=q) (os:=os) (sV hdk) hh h3 h4 h5;exact hcmp _ _ hr.1 hr.2 (Yy _ _ _ _ _ _ _) x.1 y.1 x.2 y.2
   have:=Any.slices_SortFunc_total L (fun x:{x // p x}=>enc x.1) (fun x=>h1 x.1) (fun x y=>cf x.1 y.1) hT.swo gf cb g 0 c l'.toArray w eg hcl hH (Ec hh) (by simp;omega) hT.one;rw[show l'.toArray.size=l'.length by simp] at this;refine this.mono ?_;rintro e w' ⟨rfl,n,os,rfl⟩;have hr:=Aej (enc:=fun x:{x // p x}=>enc x.1) (d:=l') (d':=(Ba (fun x y:{x // p x}=>cf x.1 y.1) l').toArray) (n:=n) (os:=os) (by simp[Do]) hh h3 h4 h5;exact⟨rfl,hr.2,Yy _ _ _ _ _ _ _,by simpa[Ba] using hr.1⟩
end
section
variable {P:Program}{n:Nat}{fr:lF}{L:LE}{dst:Option Tmp}{ty:TypeId}{pos:String}{after:AE}{guard:ON}
theorem Azi{t m sz}{x:Operand}{g o:Nat}(hx:evo fr x=some (.pointer (some ⟨g,o,none⟩)))(ht:Ahl P t m sz)(hm:Nat.beq m 0=false):Ev P n ⟨dst,.slice t x none none none,ty,pos,after,guard⟩ fr L (.slice (some ⟨g,o,none⟩) m m):=fun a w ha _=>by
 obtain⟨e,hu,hs⟩:=ht;have hm':m≠0:=Nat.ne_of_beq_eq_false hm;simp[execOp,ha.eval hx,Instr.sliceAt,run_underlying hu,Instr.sureAddr,Instr.sliceBounds,hs,hm',Addr.add_lit]
end
theorem evA{G:Prop}(h:G:=by
 first
 |(with_reducible apply Aqx);exact rfl
 |(with_reducible apply Sk);exact rfl
 |(with_reducible apply Aw5);exact rfl
 |(with_reducible apply Aev);exact rfl
 |(with_reducible apply Ahh);exact rfl
 |(with_reducible apply Aew);exact rfl
 |(with_reducible apply Aq9);exact rfl
 |(with_reducible apply Amh) <;> exact rfl
 |(with_reducible apply Ami) <;> exact rfl
 |(with_reducible apply Aw6) <;> exact rfl
 |(with_reducible apply Acb) <;> exact rfl
 |(with_reducible apply Ahf) <;> exact rfl
 |(with_reducible apply Ahg) <;> exact rfl
 |(with_reducible apply Ag6) <;> exact rfl
 |(with_reducible apply Axb) <;> exact rfl
 |(with_reducible apply Axa) <;> exact rfl
 |(with_reducible apply Aw8) <;> exact rfl
 |(with_reducible apply Aw7) <;> exact rfl
 |(with_reducible apply Aw9) <;> exact rfl
 |(with_reducible apply Aeo) <;> exact rfl
 |(with_reducible apply Aes) <;> exact rfl
 |(with_reducible apply Aep) <;> exact rfl
 |(with_reducible apply Aet) <;> exact rfl
 |(with_reducible apply Aeq) <;> exact rfl
 |(with_reducible apply Aeu) <;> exact rfl
 |(with_reducible apply Aea) <;> exact rfl
 |(with_reducible apply Afu) <;> exact rfl
 |(with_reducible apply Aeb) <;> exact rfl
 |(with_reducible apply Aqy) <;> exact rfl
 |(with_reducible apply Aqz) <;> exact rfl):G:=h
theorem Y{G G':Prop}(k:G')(h:G'->G:=by
 intro k
 first
 |(with_reducible apply Bk);exact k
 |(with_reducible apply Awx);exact k
 |(with_reducible apply Bam);exact k
 |(with_reducible apply Ban);exact k
 |(with_reducible apply Awz);exact k
 |(with_reducible apply Aw0);exact k
 |(with_reducible apply Atp);exact k
 |(with_reducible apply Ato);exact k
 |(with_reducible apply Aqu);exact k
 |(with_reducible apply Az2);exact k
 |(with_reducible apply Az1);exact k
 |(with_reducible apply Awy);exact k
 |(with_reducible apply Aw1);exact k
 |(with_reducible apply Am9);exact k
 |(with_reducible apply Ay);exact evA;exact rfl;exact k
 |(with_reducible apply Aqt);exact rfl;exact rfl;exact rfl;exact rfl;exact rfl;exact k
 |(with_reducible apply Pv);exact rfl;exact rfl;exact rfl;exact evA;exact rfl;exact k
 |(with_reducible apply Aqv);exact rfl;exact k
 |(with_reducible apply Aqw);exact rfl;exact k
 |(with_reducible apply Ao9);exact rfl;exact rfl;exact rfl;exact rfl;exact k
 |(with_reducible apply P_p);exact rfl;exact rfl;exact evA;exact rfl;exact k
 |(with_reducible apply Bas);exact rfl;exact rfl;exact rfl;exact rfl;exact rfl;exact rfl;exact k
 |(with_reducible apply P_pG);exact rfl;exact rfl;exact rfl;exact rfl;exact rfl;exact evA;exact rfl;exact k
 |(with_reducible apply Ax5);exact rfl;exact rfl;exact rfl;exact rfl;exact rfl;exact k):G:=h k
theorem Y2{G G':Prop}(k:G')(h:G'->G:=by
 intro k;iterate 2 refine Y ?_
 exact k):G:=h k
theorem Y3{G G':Prop}(k:G')(h:G'->G:=by
 intro k;iterate 3 refine Y ?_
 exact k):G:=h k
theorem Y4{G G':Prop}(k:G')(h:G'->G:=by
 intro k;iterate 4 refine Y ?_
 exact k):G:=h k
theorem Y5{G G':Prop}(k:G')(h:G'->G:=by
 intro k;iterate 5 refine Y ?_
 exact k):G:=h k
theorem Y6{G G':Prop}(k:G')(h:G'->G:=by
 intro k;iterate 6 refine Y ?_
 exact k):G:=h k
theorem Y7{G G':Prop}(k:G')(h:G'->G:=by
 intro k;iterate 7 refine Y ?_
 exact k):G:=h k
theorem Y8{G G':Prop}(k:G')(h:G'->G:=by
 intro k;iterate 8 refine Y ?_
 exact k):G:=h k
theorem Y9{G G':Prop}(k:G')(h:G'->G:=by
 intro k;iterate 9 refine Y ?_
 exact k):G:=h k
theorem Y10{G G':Prop}(k:G')(h:G'->G:=by
 intro k;iterate 10 refine Y ?_
 exact k):G:=h k
theorem Y11{G G':Prop}(k:G')(h:G'->G:=by
 intro k;iterate 11 refine Y ?_
 exact k):G:=h k
theorem Y12{G G':Prop}(k:G')(h:G'->G:=by
 intro k;iterate 12 refine Y ?_
 exact k):G:=h k
section
variable {P:Program}{n:Nat}{ops:Array Oper}{Q:Exit->AW}{fr:lF}{L:LE}{rest:List Oper}{N:AW}{d i i2 d2:Nat}{op:Op}{ty:TypeId}{pos:String}{after:AE}
theorem sb{e:Ent}(i:Nat)(h:nthE L i=some e:=by exact rfl):SubE [e] L:=SubE.cons2 (i:=i) h SubE.nil
def Abo(ops:Array Oper):LL:=
 ops.toList.foldl (fun A o=>A++[o.after.toList.foldl (fun l e=>if Region.binds .any e then (if l.contains e.on then l else e.on::l)++(A.getD e.on []).filter (fun j=>!(l.contains j) && !(Nat.beq j e.on)) else l) []]) []
theorem T_dr{id:Nat}(cls:Cls)(p:Plan)(hm:P.follows .mixedOrders=true)(hd:Wl ops cls (Abo ops)=true)(hp:Ig ops cls p (Array.replicate ops.size false) none=true)(k:T n (Bo P ops Q cls (Abo ops) [] (fun _=>True) p) fr L):
  T n ((Code.region id ops true).wp P Q) fr L:=Baq cls (Abo ops) p hm hd hp k
theorem Mt{τ γ ρ:Type}{J:τ->Option ρ}{out:ρ}{I:τ->γ->List (Nat × Value)}{H:τ->γ->List Ent}{G:τ->γ->Prop}(s:τ)(g:γ)(hJ:J s=some out)(hG:G s g)(hH:Ix L (H s g))(hF:SubF (I s g) fr:=by repeat' first | exact SubF.nil | refine SubF.cons rfl ?_):
  T n (Exit.then (Met n J out I H G) Q .normal) fr L:=Anb s g hJ hG hF hH
theorem Rp{σ τ γ:Type}{x:Sum σ τ}{I:σ->γ->List (Nat × Value)}{H:σ->γ->List Ent}{G:σ->γ->Prop}(s:σ)(g:γ)(hx:some (.inl s)=some x)(hG:G s g)(hH:Ix L (H s g))(hF:SubF (I s g) fr:=by repeat' first | exact SubF.nil | refine SubF.cons rfl ?_):
  T n (Exit.then (Rnd n x I H G) Q .normal) fr L:=Afr s g hx hG hF hH
theorem Lp{σ τ γ:Type}{B:σ->Option (Sum σ τ)}{s0:σ}{t:τ}(hl:lfix B s0=some t)(I:σ->γ->List (Nat × Value))(H:σ->γ->List Ent)(G:σ->γ->Prop)(g0:γ)(hG:G s0 g0)(hH:Ix L (H s0 g0)){c:Code}(body:∀ s g,G s g->∀ x,B s=some x->(∀ t',x = .inr t'->t'=t)->T n (c.wp P (Exit.then (Rnd n x I H G) Q)) (I s g) (H s g))(hF:SubF (I s0 g0) fr:=by repeat' first | exact SubF.nil | refine SubF.cons rfl ?_):
  T n ((Code.loop c).wp P Q) fr L:=Ai6 hl I H G g0 hG hF hH body
theorem Ti{s:Nat}{p:Prop}[Decidable p]{ρ:Type}{x y r:Option ρ}(hx:(if p then x else y)=r)(hs:look fr s=some (.bool (decide p)))(ht:p->x=r->T n N ((s,.bool true)::fr) L)(hf:¬p->y=r->T n N ((s,.bool false)::fr) L):T n N fr L :=
 Ao7 hs (fun h=>ht h (Qc h hx)) (fun h=>hf h (Acf h hx))
theorem Tj{τ γ ρ:Type}{kk:τ->Option ρ}{xx:(τ->Option ρ)->Option ρ}{out:ρ}(hx:jn kk xx=some out)(I:τ->γ->lF)(H:τ->γ->LE)(G:τ->γ->Prop){x y:Code}(k2:∀s g,kk s=some out->G s g->T n (y.wp P Q) (I s g) (H s g))(k:∀j,xx j=some out->T n (x.wp P (Exit.then (Met n j out I H G) Q)) fr L):T n ((Code.seq x y).wp P Q) fr L :=
 Xw (J:=kk) I H G k2 (k kk hx)
theorem Tc{f:FuncId}{xs:List Operand}{vs:List Value}{ts:Array TypeId}{ty':TypeId}{X:Value}{Y:Prop}(hc:∀ w,Heap L w->CtL P f vs w fun v Ln=>v=X/\Ln=[]/\Y)(k:T n (wpList P ops Q rest) ((d,X)::fr) L)(hx:evos fr xs=some vs:=by exact rfl)(hd:Nat.blt d n=true:=by exact rfl):
  T n (wpList P ops Q (⟨some d,.call ⟨.value (.func f),xs.toArray,ts⟩,ty',pos,after,none⟩ :: rest)) fr L :=
 T_x (Gl hx hc hd (by rintro _ _ _ ⟨rfl,rfl,-⟩;exact k))
theorem Pc{cls:Cls}{A:LL}{RL:LM}{R:World->Prop}{p:Plan}{f:FuncId}{xs:List Operand}{vs:LV}{ts:Array TypeId}{ty':TypeId}{X:Value}{Y:Prop}(hc:∀w,Heap L w->CtL P f vs w fun v Ln=>v=X/\Ln=[]/\Y)(k:T n (Bo P ops Q cls A RL R p) ((d,X)::fr) L)(ho:ops[i]? = some ⟨some d,.call ⟨.value (.func f),xs.toArray,ts⟩,ty',pos,after,none⟩:=by exact rfl)(hx:evos fr xs=some vs:=by exact rfl)(hd:Nat.blt d n=true:=by exact rfl):T n (Bo P ops Q cls A RL R (.e i p .stop)) fr L :=
 P_x ho (Gl hx hc hd (by rintro _ _ _ ⟨rfl,rfl,-⟩;exact k)) Oh
theorem P_il{cls:Cls}{A0:List (List Nat)}{RL:List Nat}{R:World->Prop}{p:Plan}{α:Type}{KK:List Ent}{A m c sz}{enc:α->List Value}{l:List α}{z:Int}{x0:α}(h:Has KK A m c sz enc l)(hi:idx l z=some x0){t e ty' k}(ht:Mi P t e sz)(hg:Uc P ty' k)(hK:SubE KK L){x ix:Operand}{kd:IntKind}{vs:List Value}{d1 d2:Nat}{ty1 ty2:TypeId}{pos1 pos2:String}{af1 af2:Array Edge}(kk:∀ b o,T n (Bo P ops Q cls A0 RL R p) ((d2,.agg vs.toArray)::(d1,.pointer (some ⟨b,o,none⟩))::fr) L)(hc1:Nat.beq (cls.getD i 9) 0=true:=by exact rfl)(ho1:ops[i]? = some ⟨some d1,.indexAddr t x ix,ty1,pos1,af1,none⟩:=by exact rfl)(hx:evo fr x=some (.slice A m c):=by exact rfl)(hix:evo fr ix=some (.int kd z):=by exact rfl)(hd1:Nat.blt d1 n=true:=by exact rfl)(hc2:Nat.beq (cls.getD i2 9) 0=false:=by exact rfl)(ho2:ops[i2]? = some ⟨some d2,.load ty' (.tmp d1),ty2,pos2,af2,none⟩:=by exact rfl)(hv:Aaa (enc x0) 0 k=some vs:=by exact rfl)(hd2:Nat.blt d2 n=true:=by exact rfl)(hr:RL.contains i2=false:=by rfl):
  T n (Bo P ops Q cls A0 RL R (.q i (.q i2 p))) fr L:=by
 obtain⟨b,o,j,hA,hj,hl,hp⟩:=h.at_idx hi;refine P_p hc1 ho1 (By hx hix hA (j:=j) hj hl ht) hd1 ?_;exact P_q hc2 ho2 (Yp (by simp[evo,look]) hp hK hv hg) hd2 (kk _ _) hr
end
section
variable {P:Program}{n:Nat}{Q:Exit->AW}{fr:lF}{L:LE}{N:AW}
def Ac2(A:OA)(m c:Nat)(t:TypeId)(sz:Nat)(xs:LV)(w:World):Prop :=
 xs.length=m*sz/\m<=c/\c<=maxLen/\((A=none/\c=0)\/∃g o cur,A=some ⟨g,o,none⟩/\w.heap[g]? = some (.cells cur t (0,0))/\o+c*sz<=cur.size/\∀j v,xs[j]? = some v->cur[o+j]? = some v)
def winB:OA->LM
 |some a=>[a.block]
 |none=>[]
def qw(A:OA)(m c:Nat)(t:TypeId)(sz:Nat)(xs:LV):Ent:=.f (winB A) (Ac2 A m c t sz xs)
theorem Ac3{A m c t sz xs}{w:World}:Ent.ok w (qw A m c t sz xs)↔Ac2 A m c t sz xs w:=by
 constructor
 .exact fun h=>h.2.1
 .intro h;refine⟨fun g hg=>?_,h,fun w1 w2 h1 he=>?_⟩
  .obtain⟨_,_,_,h⟩:=h;rcases h with⟨rfl,_⟩|⟨g',o,cur,rfl,hh,_⟩
   .simp[winB] at hg
   .simp[winB] at hg;subst hg;exact Ec hh
  .obtain⟨e1,e2,e3,h1⟩:=h1;refine⟨e1,e2,e3,?_⟩;rcases h1 with h1|⟨g',o,cur,rfl,hh,h2⟩
   .exact .inl h1
   .exact .inr ⟨g',o,cur,rfl,by rw[he g' (by simp[winB])];exact hh,h2⟩
theorem Aka{A m c t sz xs g}:(qw A m c t sz xs).own g↔(Value.slice A m c).ownBlock=some g:=by
 cases A with
 |none=>simp[qw,Ent.own,winB,Value.ownBlock]
 |some a=>simp[qw,Ent.own,winB,Value.ownBlock,eq_comm]
theorem Ac2.ofRow{A m c t sz xs}{w:World}(h:w.ownsRow 0 t sz (.slice A m c) m xs):Ac2 A m c t sz xs w:=by
 obtain⟨h1,h2⟩:=h;rcases h2 with⟨hv,h0⟩|⟨g,cap,cur,hv,_,hh,h3,h4,h5,h6⟩
 .injection hv with e1 e2 e3
  subst e1;subst e3;exact⟨h1,oo,by unfold maxLen;omega,.inl ⟨rfl,rfl⟩⟩
 .injection hv with e1 _ e3
  subst e1;subst e3;refine⟨h1,h3,h4,.inr ⟨g,0,cur,rfl,hh,oo,fun j v hj=>?_⟩⟩;rw[<-h6,List.getElem?_take] at hj;split at hj
  .rw[Nat.zero_add,<-Array.getElem?_toList];exact hj
  .cases hj
theorem Bea{i A m c t sz xs L'}(hL:SetE L i (.r A m c t sz xs) (qw A m c t sz xs) L')(k:T n N fr L'):T n N fr L:=by
 intro a w ha hw;exact k a w ha (Heap.turnO (e:=.r A m c t sz xs) (e':=qw A m c t sz xs) (w:=w) (w':=w) (row:=none) ⟨rfl,rfl,rfl,nL _,fun _ _ _=>rfl⟩ (fun g hg=>by cases hg) (Ac3.2 (Ac2.ofRow (hw.ok _ hL.mem))) (nL _)
  (fun g hg=>.inl (Ent.own_r.2 (Aka.1 hg))) hL hw)
theorem Has.ofQ{α:Type}{enc:α->List Value}{A m c t sz}{l:List α}(hz:0<sz)(he:∀ x,(enc x).length=sz){w:World}(hok:Ent.ok w (qw A m c t sz (l.flatMap enc))):
  Has [qw A m c t sz (l.flatMap enc)] A m c sz enc l:=by
 have h:=Ac3.1 hok;have hlen:=Ga he l;have hm:m=l.length:=by
  have h1:=h.1;rw[hlen] at h1;exact (Nat.eq_of_mul_eq_mul_right hz h1).symm
 subst hm;refine⟨rfl,h.2.1,h.2.2.1,fun x _=>he x,fun hn=>?_⟩;obtain⟨_,h2,_,h3⟩:=h;rcases h3 with⟨_,h0⟩|⟨g,o,cur,rfl,_⟩
 .omega
 .refine⟨g,o,rfl,fun i hi w' hw' j u hu=>?_⟩;have h':=Ac3.1 (hw' _ (List.mem_singleton.2 rfl));obtain⟨_,_,_,h4⟩:=h';rcases h4 with⟨hA,_⟩|⟨g',o',cur',hA,hh,_,hc⟩
  .cases hA
  .injection hA with hA
   injection hA with e1 e2 _
   subst e1;subst e2;have hf:=Xu l i hi (fun x _=>he x) j u hu;have:=hc _ _ hf;rw[Nat.add_assoc];simp only[World.cell?,hh];simpa using this
theorem Awu{α:Type}{enc:α->LV}{l:List α}{k A m c t sz}(hk:nthE L k=some (qw A m c t sz (l.flatMap enc)))(hz:0<sz)(he:∀x,(enc x).length=sz)(kk:m=l.length->Has [qw A m c t sz (l.flatMap enc)] A m c sz enc l->T n N fr L):T n N fr L:=by
 intro a w ha hw;have hs:=Has.ofQ hz he (hw.ok _ (Ee hk));exact kk hs.len.symm hs a w ha hw
theorem Uw{α:Type}{enc:α->LV}{sz:Nat}(he:∀x,(enc x).length=sz):∀(l:List α) (q:Nat),(l.drop q).flatMap enc=(l.flatMap enc).drop (q*sz):=by
 intro l
 induction l with
 |nil=>intro q;simp
 |cons x r ih=>
  intro q;cases q with
  |zero=>simp
  |succ q=>rw[List.drop_succ_cons,ih,List.flatMap_cons,Nat.succ_mul,Nat.add_comm (q*sz),<-List.drop_drop,<-he x,List.drop_left]
theorem Awv{α:Type}{enc:α->LV}{l:List α}{i A m c t sz q L'}(hL:SetE L i (qw A m c t sz (l.flatMap enc)) (qw (slA A c q sz) (m-q) (c-q) t sz ((l.drop q).flatMap enc)) L')(hq:q<=m)(hz:0<sz)(he:∀x,(enc x).length=sz)(k:T n N fr L'):T n N fr L:=by
 intro a w ha hw;have h:=Ac3.1 (hw.ok _ hL.mem);refine k a w ha (Heap.turnO (e:=qw A m c t sz (l.flatMap enc)) (e':=qw (slA A c q sz) (m-q) (c-q) t sz ((l.drop q).flatMap enc)) (w:=w) (w':=w) (row:=none) ⟨rfl,rfl,rfl,nL _,fun _ _ _=>rfl⟩ (fun g hg=>by cases hg) (Ac3.2 ?_) (nL _)
  (fun g hg=>.inl ?_) hL hw)
 .obtain⟨h1,h2,h3,h4⟩:=h;refine⟨?_,oo,oo,?_⟩
  .rw[Uw he,List.length_drop,h1,Nat.sub_mul]
  .rcases h4 with⟨rfl,h0⟩|⟨g,o,cur,rfl,hh,h5,h6⟩
   .exact .inl ⟨by unfold slA;split <;> rfl,oo⟩
   .by_cases e:c=q
    .refine .inr ⟨g,o,cur,by unfold slA;rw[iP e],hh,by rw[<-e,Nat.sub_self,Nat.zero_mul];have:=Nat.zero_le (c*sz);omega,fun j v hj=>?_⟩;have:m=q:=oo;rw[Uw he,List.drop_eq_nil_of_le (by rw[h1,this];exact nL _)] at hj;simp at hj
    .have hle:q<=c:=oo;refine .inr ⟨g,o+q*sz,cur,by unfold slA;rw[iN e];simp[Addr.add_lit],hh,by rw[Nat.sub_mul];have:=Nat.mul_le_mul_right sz hle;omega,fun j v hj=>?_⟩;rw[Uw he,List.getElem?_drop] at hj;rw[Nat.add_assoc];exact h6 _ _ hj
 .rw[Aka] at hg⊢;unfold slA at hg;cases A with
  |none=>
   split at hg
   .cases hg
   .cases hg
  |some a0=>
   split at hg
   .exact hg
   .simp only[Value.ownBlock,Option.map_some,Addr.add_lit,Option.some.injEq] at hg⊢;rw[<-hg];cases a0;simp[Addr.add];split <;> rfl
theorem Qm:∀(vs:LV) (cs:Array Value) (o j:Nat),o+vs.length<=cs.size->(Ct cs o vs)[j]? = if o<=j/\j<o+vs.length then vs[j-o]? else cs[j]?:=by
 intro vs
 induction vs with
 |nil=>intro cs o j _;rw[iN (by simp only[List.length_nil];omega)];rfl
 |cons v r ih=>
  intro cs o j h;simp only[List.length_cons] at h;rw[Ct,ih _ _ _ (by simp;omega)];simp only[List.length_cons]
  by_cases e:j=o
  .subst e;rw[iN oo,iP oo,Array.getElem?_setIfInBounds_self_of_lt oo];simp
  .by_cases e2:o+1<=j/\j<o+1+r.length
   .rw[iP e2,iP oo];rw[show j-o=(j-(o+1))+1 by omega,List.getElem?_cons_succ]
   .rw[iN e2,iN oo,Array.getElem?_setIfInBounds_ne (Ne.symm e)]
theorem Ag3{α:Type}(enc:α->List Value)(l ys:List α){d:Nat}{s x t e sz bytes A m c g B q q' t' i i' news ty'}{pos:String}{after:Array Edge}{guard:Option (Nat × Bool)}{L' L2:Option Addr->Nat->List Ent}(hs:evo fr s=some (.slice A m c))(hx:evo fr x=some (.slice B q q'))(hB:B=some ⟨g,0,none⟩)(ht:Yq P t e sz bytes)(he:∀ x,(enc x).length=sz)(hL2:nthE L i'=some (.m g t' news))(hn:news=ys.flatMap enc)(hq:q=ys.length)(h1:Lx news=true)(hb:(l.length+ys.length)*bytes<=140737488355328)(hd:Nat.blt d n=true)(hL:∀ A' c',SetE L i (qw A m c e sz (l.flatMap enc)) (qw A' (l++ys).length c' e sz ((l++ys).flatMap enc)) (L' A' c'))(hsub:∀ A' c',HSub (L' A' c') (L2 A' c'))(h0:0<bytes)(k:∀ A' c',T n N ((d,.slice A' (l++ys).length c')::fr) (L2 A' c')):
  Wh P Q n ⟨some d,.call ⟨.builtin .append,#[s,x],#[t,t]⟩,ty',pos,after,guard⟩ fr L N:=by
 intro a w ha hw;have hok:=hw.ok _ (hL none 0).mem;have hwin:=Ac3.1 hok;have hm:m=l.length:=(Has.ofQ ht.pos he hok).len.symm;subst hm;subst hB;subst hn;subst hq;have hll:=Ga he l;have hly:=Ga he ys;obtain⟨i0,z,e1,e2,e3,e4,e5⟩:=ht.ex;have h63:l.length+ys.length<=9223372036854775807:=by
  have h3:=Nat.mul_le_mul_left (l.length+ys.length) h0;rw[Nat.mul_succ,Nat.mul_zero,Nat.zero_add] at h3;omega
 have hnew:∀(j:Nat) (u:Value),(ys.flatMap enc)[j]? = some u->w.cell? ((⟨g,0,none⟩:Addr).add j)=some u:=fun j u hj=>by
  rw[Addr.add_lit,Us (hw.ok _ (Ee hL2))];simpa using hj
 have main:∃ A' c' w',(Builtin.append_ #[t,t] ty' #[.slice A l.length c,.slice (some ⟨g,0,none⟩) ys.length q']).run P w = .ok (.slice A' (l++ys).length c') w'/\Ac2 A' (l++ys).length c' e sz ((l++ys).flatMap enc) w' /\
   w.grownBy w' (Value.slice A l.length c).ownBlock/\((Value.slice A' (l++ys).length c').ownBlock=(Value.slice A l.length c).ownBlock\/∀g',(Value.slice A' (l++ys).length c').ownBlock=some g'->w.heap.size<=g')/\w.drawn<=w'.drawn:=by
  obtain⟨h1',h2',h3',h4'⟩:=hwin;have hlq:l.length+ys.length=(l++ys).length:=by rw[List.length_append]
  rcases h4' with⟨rfl,hc0⟩|⟨b,o,cur,rfl,hh,hfit,hold⟩
  ·-- nothing yet
   subst hc0;have hl0:l=[]:=List.eq_nil_of_length_eq_zero oo;subst hl0;obtain⟨v',w',hr,h2,h3,_,h5⟩:=run_append_own_at (P:=P) w 0 t ty' e i0 z sz bytes ht.sl e1 e2 e3 e4 e5 ht.pos (.slice none 0 0) 0 [] ⟨s_,.inl ⟨rfl,rfl⟩⟩ ⟨g,0,none⟩ ys.length q' (ys.flatMap enc) hly hnew (Ou h1) (by unfold maxLen;omega) (sV hb) (Nat.zero_le _);have hv':∃A' c',v'=.slice A' (0+ys.length) c':=by
    rcases h2.2 with⟨hv,h0⟩|⟨g',cap,cur,hv,_⟩
    .exact⟨none,0,by rw[hv,h0]⟩
    .exact⟨_,_,hv⟩
   obtain⟨A',c',rfl⟩:=hv';simp only[List.length_nil,Nat.zero_add,List.nil_append] at hr h2 h3 h5 ⊢;exact⟨A',c',w',hr,Ac2.ofRow h2,h3,.inr fun g' hg'=>by
    rcases h5 with h5|h5
    .rw[h5] at hg';cases hg'
    .rw[h5] at hg';injection hg' with hg';omega,Ad4 hr⟩
  .by_cases hroom:l.length+ys.length<=c
   ·-- there is room
    have hsz:o+l.length*sz+(ys.flatMap enc).length<=cur.size:=by
     rw[hly];have:=Nat.mul_le_mul_right sz hroom;rw[Nat.add_mul] at this;omega
    have hst:=Io P b e (ys.flatMap enc) 0 (o+l.length*sz) cur w hh (sV hsz) (Ou h1);have hfc:=run_firstCells_some (P:=P) w i0.size ys.length ⟨g,0,none⟩ ys.length q' (ys.flatMap enc) (by rw[e3];exact hly) hnew;have hr:(Builtin.append_ #[t,t] ty' #[.slice (some ⟨b,o,none⟩) l.length c,.slice (some ⟨g,0,none⟩) ys.length q']).run P w=.ok (.slice (some ⟨b,o,none⟩) (l.length+ys.length) c) (if ys.flatMap enc=[] then w else Pw w b (.cells (Ct cur (o+l.length*sz) (ys.flatMap enc)) e (0,0))):=by
     rw[Nat.add_zero] at hst;rw[e3] at hfc;simp[Builtin.append_,run_underlying ht.sl,sizeOf,typeInfo,e1,e3,Builtin.lenOf,hroom,hfc,Addr.add_lit,hst]
    rw[hlq] at hr;refine⟨_,_,_,hr,?_,?_,.inl rfl,Ad4 hr⟩
    .refine⟨by rw[List.flatMap_append,List.length_append,hll,hly,List.length_append,Nat.add_mul],oo,h3',.inr ⟨b,o,Ct cur (o+l.length*sz) (ys.flatMap enc),rfl,?_,by rw[Mx];exact hfit,fun j v hj=>?_⟩⟩
     .split
      .rename_i h;rw[h,hh];rfl
      .exact Ux w b _ (Ec hh)
     .rw[Qm _ _ _ _ hsz];rw[List.flatMap_append] at hj
      by_cases c1:j<(l.flatMap enc).length
      .rw[List.getElem?_append_left c1] at hj;rw[iN oo];exact hold j v hj
      .rw[List.getElem?_append_right oo] at hj;have hjl:j-(l.flatMap enc).length<(ys.flatMap enc).length:=(List.getElem?_eq_some_iff.1 hj).1;rw[iP oo];rw[show o+j-(o+l.length*sz)=j-(l.flatMap enc).length by omega];exact hj
    .split
     .exact⟨rfl,rfl,rfl,nL _,fun _ _ _=>rfl⟩
     .exact Ta w b _
   ·-- a new block
    have holds:∀(j:Nat) (u:Value),(l.flatMap enc)[j]? = some u->w.cell? ((⟨b,o,none⟩:Addr).add j)=some u:=fun j u hj=>by
     rw[Addr.add_lit];simp only[World.cell?,hh];simpa using hold j u hj
    obtain⟨v',w',hr,h2,h3⟩:=run_append_arg_grows (P:=P) w t ty' e i0 z sz bytes ht.sl e1 e2 e3 e4 e5 ht.pos ⟨b,o,none⟩ l.length c (l.flatMap enc) hll holds ⟨g,0,none⟩ ys.length q' (ys.flatMap enc) hly hnew oo (by unfold maxLen;omega) hb;rcases h2.2 with⟨hv,hz0⟩|⟨g',cap',cur',hv,hge,hh',h5',h6',h7',h8'⟩
    .omega
    .subst hv;rw[hlq] at hr h2;refine⟨_,_,w',hr,?_,⟨h3.os,h3.tape,h3.output,h3.size,fun k hk _=>h3.block k hk s_⟩,.inr fun g2 hg2=>?_,Ad4 hr⟩
     .rw[<-List.flatMap_append] at h2;exact Ac2.ofRow ⟨h2.1,.inr ⟨g',cap',cur',rfl,Nat.zero_le _,hh',oo,h6',h7',by rw[<-hlq,List.flatMap_append];exact h8'⟩⟩
     .simp only[Value.ownBlock,Option.some.injEq] at hg2;omega
 obtain⟨A',c',w',hr,hwin',hg,hown,hdr⟩:=main;have hrun:(execOp a.eval ⟨some d,.call ⟨.builtin .append,#[s,x],#[t,t]⟩,ty',pos,after,guard⟩).run P w=.ok (.value (.slice A' (l++ys).length c')) w':=by
  simp[execOp,resolve,invoke,builtin,ha.eval hs,ha.eval hx,hr]
 simp only[Oper.wp,hrun,Oper.upon_value];refine k A' c' _ _ (ha.put hd) ((Heap.turnO (e:=qw A l.length c e sz (l.flatMap enc)) (e':=qw A' (l++ys).length c' e sz ((l++ys).flatMap enc)) hg (fun g' hg'=>Aka.2 hg') (Ac3.2 hwin') (nL _) (fun g' hg'=>?_) (hL A' c') hw hdr).sub (hsub A' c'));rw[Aka] at hg' ⊢;rcases hown with h|h
 .left;rw[<-h];exact hg'
 .right;exact h g' hg'
end
section
variable {P:Program}{n:Nat}{Q:Exit->AW}{fr:lF}{L:LE}{c:Code}{m:Nat}
theorem Beb(m:Nat)(k:T n (Code.rounds P c Q m) fr L):T n ((Code.loop c).wp P Q) fr L:=fun a w ha hw=>wp_loop_rounds m (k a w ha hw)
theorem Bck(k:T n (c.wp P (Exit.then (Code.rounds P c Q m) Q)) fr L):T n (Code.rounds P c Q (m+1)) fr L:=k
end
section
variable {P:Program}{n:Nat}{dst:Option Tmp}{t t' ty:TypeId}{x y:Operand}{pos:String}{after:AE}{guard:ON}{fr:lF}{L:LE}{a b c:Int}
theorem Azj(hx:evo fr x=some (.int .i64 a))(hy:evo fr y=some (.int .i64 b))(h:w64 (a+b)=c):Ev P n ⟨dst,.binOp .add t x y t',ty,pos,after,guard⟩ fr L (.int .i64 c):=h▸Acb hx hy
theorem Amf{b:ByteArray}{ys:List Int}{k:IntKind}{z v:Int}(hx:evo fr x=some (.string b))(hi:evo fr y=some (.int k z))(ht:P.underlying t=some .string)(hb:b.data.toList.map (fun u=>((u.toNat:Nat):Int))=ys)(hz:idx ys z=some v):
  Ev P n ⟨dst,.index t x y,ty,pos,after,guard⟩ fr L (.int .u8 v):=fun ac w ha _=>by
 subst hb;obtain⟨j,hj,rfl,he⟩:=Zh hz;have hj':j<b.size:=by simpa using hj
 have hr:=run_index_string (P:=P) w t b k (j:Int) ht;rw[dif_pos ⟨oo,oo⟩] at hr;simp only[List.getElem_map] at he;have e2:(((b[((j:Nat):Int).toNat]'(sV hj')).toNat:Nat):Int)=v:=by rw[<-he];rfl
 rw[e2] at hr;simp only[execOp,ha.eval hx,ha.eval hi,hr,Sem.run_bind,Result.andThen];rfl
end
class Ag4(a b:Int)(c:outParam Int):Prop where
 h:w64 (a+b)=c
class Aww(a b:Int)(c:outParam Int):Prop where
 h:Int.tmod a b=c
 nz:b≠0
instance:Ag4 0 1 1:=⟨dD⟩
instance:Ag4 1 1 2:=⟨dD⟩
instance:Ag4 2 1 3:=⟨dD⟩
instance:Ag4 3 1 4:=⟨dD⟩
instance:Ag4 4 1 5:=⟨dD⟩
instance:Ag4 5 1 6:=⟨dD⟩
instance:Aww 1 3 1:=⟨dD,dD⟩
instance:Aww 2 3 2:=⟨dD,dD⟩
instance:Aww 3 3 0:=⟨dD,dD⟩
class ExtI(P:Program)(f:FuncId)(vs:LV)(G:outParam Prop)(v:outParam Value):Prop where
 h:G->∀w,(callFunc f vs.toArray).run P w=.ok (.value v) w
end
end Go.Proofs.YtlejkgngmjchdaaGreat
