import Derived.Test.YtlejkgngmjchdaaGreatFlow
import Derived.Laws.BytesArg
import Derived.Laws.Strings
import Derived.Maps.OwnSet
import Derived.Maps.Views
import Derived.DeepKeys4
import Derived.RangeFuncRecord
import Derived.TacticsIn
import Derived.RangeFuncSeq
import Derived.Lib.LazyBuf
import Derived.ChangeKeysEq
import Derived.DeepKeys
namespace Go.Proofs.YtlejkgngmjchdaaGreat
open Go Go.RowKit
noncomputable section
section
theorem Ga{α:Type}{enc:α->LV}{sz:Nat}(he:∀x,(enc x).length=sz):∀m:List α,(m.flatMap enc).length=m.length*sz:=by
 intro m
 induction m with
 |nil=>simp
 |cons x r ih=>rw[List.flatMap_cons,List.length_append,he x,ih,List.length_cons,Nat.succ_mul];omega
theorem Has.dn0{α:Type}{K:LE}{A:OA}{n c sz:Nat}{enc:α->LV}{l:List α}(h:Has (K++[]) A n c sz enc l):Has K A n c sz enc l:=by rw[List.append_nil] at h;exact h
def raw(x:LV):LV:=x
def HasN{α:Type}(K:LE)(A:OA)(n c sz:Nat)(R:LE->α->LV->Prop)(l:List α):Prop :=
 ∃hl:List LV,Has K A n c sz raw hl/\hl.length=l.length/\∀(i:Nat) (h:i<l.length) (h':i<hl.length),R K l[i] hl[i]
theorem HasN.at_idx{α:Type}{K:List Ent}{A:Option Addr}{m c sz:Nat}{R:List Ent->α->List Value->Prop}{l:List α}{i:Int}{x:α}(h:HasN K A m c sz R l)(hi:idx l i=some x):
  ∃(b o j:Nat) (ys:LV),A=some ⟨b,o,none⟩/\i=(j:Int)/\j<m/\Pt K b (o+j*sz) ys/\R K x ys:=by
 obtain⟨hl,h1,h2,h3⟩:=h;obtain⟨j,hj,e1,e2⟩:=Zh hi;obtain⟨b,o,hA,hp⟩:=h1.elem (i:=j) oo;exact⟨b,o,j,_,hA,e1,by have:=h1.len;omega,hp,by rw[<-e2];exact h3 j hj oo⟩
theorem Pt.low{K E:LE}{w:World}{b o:Nat}{ys:LV}(h:Pt (K++E) b o ys)(hK:∀e∈K,Ent.ok w e):Pt (.old w::E) b o ys:=fun w' hw'=>h w' (fun e he=>by
 rcases List.mem_append.1 he with he|he
 .exact Ent.ext (hK e he) (hw' (.old w) mS)
 .exact hw' e (mO _ he))
section
variable {P:Program}{n:Nat}{N:AW}{Q:Exit->AW}{fr:lF}{L:LE}
theorem T_mr{α:Type}{enc:α->LV}(l:List α){i g t sz cs q L'}(hL:SetE L i (.m g t cs) (.r (some ⟨g,0,none⟩) q q t sz (l.flatMap enc)) L')(hc:cs=l.flatMap enc)(hq:q=l.length)(he:∀x,(enc x).length=sz)(hm:q<=maxLen)(k:T n N fr L'):T n N fr L:=by
 intro a w ha hw;refine k a w ha (Heap.turn (e:=.m g t cs) (e':=.r (some ⟨g,0,none⟩) q q t sz (l.flatMap enc)) (w:=w) (w':=w) ⟨rfl,rfl,rfl,nL _,fun _ _ _=>rfl⟩ ?_ (nL _) (fun g hg=>.inl hg) hL hw);have hok:w.heap[g]? = some (.cells cs.toArray t (0,0)):=hw.ok _ hL.mem;subst hc;subst hq;have hl:=Ga he l;exact⟨hl,.inr ⟨g,l.length,_,rfl,Nat.zero_le _,hok,nL _,hm,sV hl,by show List.take _ (l.flatMap enc)=_;rw[<-hl,List.take_length]⟩⟩
theorem Akr{α:Type}{enc:α->LV}{l r:List α}{i A m c t sz L'}(hp:∃k,r=l.take k)(hL:SetE L i (.r A m c t sz (l.flatMap enc)) (.r A r.length c t sz (r.flatMap enc)) L')(hz:0<sz)(he:∀x,(enc x).length=sz)(k:T n N fr L'):T n N fr L:=by
 obtain⟨q,rfl⟩:=hp;rcases Nat.le_total q l.length with h|h
 .rw[List.length_take,Nat.min_eq_left h] at hL;exact Apa hL h hz he k
 .rw[List.take_of_length_le h] at hL;intro a w ha hw;have hm:m=l.length:=(Has.ofRow hz he (hw.ok _ hL.mem)).len.symm;subst hm;rw[hL.same rfl] at k;exact k a w ha hw
theorem Aop(w:World)(r:Option Nat):w.grownBy w r:=⟨rfl,rfl,rfl,nL _,fun _ _ _=>rfl⟩
theorem Ada(P:Program)(w:World)(base:Nat)(t ty e:TypeId)(i:TypeInfo)(size:Nat)(ht:P.underlying t=some (.slice e))(hi:P.info? e=some i)(v:Value)(n:Nat)(xs:LV)(hown:w.ownsRow base e size v n xs)(c:Nat):(Builtin.append_ #[t,t] ty #[v,.slice none 0 c]).run P w=.ok v w:=by
 rcases hown.2 with⟨rfl,rfl⟩|⟨g,cap,cur,rfl,_,_,hnc,_⟩
 .simp[Builtin.append_,run_underlying ht,sizeOf,typeInfo,hi,Builtin.lenOf,Builtin.firstCells]
 .simp[Builtin.append_,run_underlying ht,sizeOf,typeInfo,hi,Builtin.lenOf,Builtin.firstCells,hnc,storeCells]
theorem Ahe{α:Type}(enc:α->List Value)(l ys:List α){d:Nat}{s x t e sz bytes A m c B q q' i ty'}{pos:String}{after:Array Edge}{guard:Option (Nat × Bool)}{L':Option Addr->Nat->List Ent}{K:List Ent}(hs:evo fr s=some (.slice A m c))(hx:evo fr x=some (.slice B q q'))(ht:Yq P t e sz bytes)(he:∀ x,(enc x).length=sz)(hy:Has K B q q' sz enc ys)(hK:SubE K L)(h1:∀ x,Lx (enc x)=true)(hb:(l.length+ys.length)*bytes<=140737488355328)(hd:Nat.blt d n=true)(hL:∀ A' c',SetE L i (.r A m c e sz (l.flatMap enc)) (.r A' (l++ys).length c' e sz ((l++ys).flatMap enc)) (L' A' c'))(h0:0<bytes)(k:∀ A' c',T n N ((d,.slice A' (l++ys).length c')::fr) (L' A' c')):
  Wh P Q n ⟨some d,.call ⟨.builtin .append,#[s,x],#[t,t]⟩,ty',pos,after,guard⟩ fr L N:=by
 intro a w ha hw;have hm:m=l.length:=(Has.ofRow ht.pos he (hw.ok _ (hL none 0).mem)).len.symm;subst hm;have hq:=hy.len;subst hq;have hl:=Ga he l;have hly:=Ga he ys;have h63:l.length+ys.length<=9223372036854775807:=by
  have h3:=Nat.mul_le_mul_left (l.length+ys.length) h0;rw[Nat.mul_succ,Nat.mul_zero,Nat.zero_add] at h3;omega
 obtain⟨i0,z,e1,e2,e3,e4,e5⟩:=ht.ex;have hown:w.ownsRow 0 e sz (.slice A l.length c) l.length (l.flatMap enc):=hw.ok _ (hL none 0).mem;have hsl:=hy.at hK hw;have hone:∀u∈ys.flatMap enc,u.oneCell'=true:=by
  intro u hu;obtain⟨x,_,hu⟩:=List.mem_flatMap.1 hu;exact Ou (h1 x) u hu
 have main:∃ v' w',(Builtin.append_ #[t,t] ty' #[.slice A l.length c,.slice B ys.length q']).run P w = .ok v' w'/\w'.ownsRow 0 e sz v' (l.length+ys.length) (l.flatMap enc++ys.flatMap enc) /\
   w.grownBy w' (Value.slice A l.length c).ownBlock/\(v'.ownBlock=(Value.slice A l.length c).ownBlock\/v'.ownBlock=some w.heap.size):=by
  by_cases hn:0<ys.length
  ·obtain⟨b,o,hB,hcell⟩:=hsl.at_ hn;subst hB;have hnew:∀ (j:Nat) (u:Value),(ys.flatMap enc)[j]? = some u->w.cell? ((⟨b,o,none⟩:Addr).add j)=some u:=fun j u hj=>by
    have hjl:j<(ys.flatMap enc).length:=(List.getElem?_eq_some_iff.1 hj).1;rw[hly] at hjl;have hdm:j=j/sz*sz+j%sz:=by have:=Nat.div_add_mod j sz;rw[Nat.mul_comm] at this;omega
    have hq:j/sz<ys.length:=(Nat.div_lt_iff_lt_mul ht.pos).2 hjl;have hmod:=Nat.mod_lt j ht.pos;obtain⟨u',hu'⟩:∃u',(enc ys[j/sz])[j%sz]? = some u':=⟨_,gE (by rw[he ys[j/sz]];exact hmod)⟩;have hf:=Xu ys (j/sz) hq (fun x _=>he x) (j%sz) u' hu';rw[<-hdm,hj] at hf;injection hf with hf
    subst hf;have:=hcell (j/sz) hq (j%sz) u hu';rw[Addr.add_lit,hdm,<-Nat.add_assoc];exact this
   obtain⟨v',w',hr,h2,h3,_,h5⟩:=run_append_own_at (P:=P) w 0 t ty' e i0 z sz bytes ht.sl e1 e2 e3 e4 e5 ht.pos _ _ _ hown ⟨b,o,none⟩ ys.length q' (ys.flatMap enc) hly hnew hone (by unfold maxLen;omega) hb (Nat.zero_le _);exact⟨v',w',hr,h2,h3,h5⟩
  .have h0:ys=[]:=List.eq_nil_of_length_eq_zero oo;subst h0;cases B with
   |none=>exact⟨_,w,Ada P w 0 t ty' e i0 sz ht.sl e1 _ _ _ hown q',sV hown,Aop w _,.inl rfl⟩
   |some b=>
    obtain⟨v',w',hr,h2,h3,_,h5⟩:=run_append_own_at (P:=P) w 0 t ty' e i0 z sz bytes ht.sl e1 e2 e3 e4 e5 ht.pos _ _ _ hown b 0 q' [] s_ (fun j u hj=>by simp at hj) (fun u hu=>by simp at hu) (by unfold maxLen;omega) hb (Nat.zero_le _);exact⟨v',w',hr,h2,h3,h5⟩
 obtain⟨v',w',hr,h2,h3,h5⟩:=main;have hlq:l.length+ys.length=(l++ys).length:=by rw[List.length_append]
 have hv':∃A' c',v'=.slice A' (l.length+ys.length) c':=by
  rcases h2.2 with⟨hv,h0⟩|⟨g',cap,cur,hv,_⟩
  .exact⟨none,0,by rw[hv,h0]⟩
  .exact⟨_,_,hv⟩
 obtain⟨A',c',rfl⟩:=hv';rw[hlq] at hr h2 h5;rw[<-List.flatMap_append] at h2;have hrun:(execOp a.eval ⟨some d,.call ⟨.builtin .append,#[s,x],#[t,t]⟩,ty',pos,after,guard⟩).run P w=.ok (.value (.slice A' (l++ys).length c')) w':=by
  simp[execOp,resolve,invoke,builtin,ha.eval hs,ha.eval hx,hr]
 simp only[Oper.wp,hrun,Oper.upon_value];refine k A' c' _ _ (ha.put hd) (Heap.turn (e:=.r A l.length c e sz (l.flatMap enc)) (e':=.r A' (l++ys).length c' e sz ((l++ys).flatMap enc)) h3 h2 (nL _) (fun g' hg'=>?_) (hL A' c') hw);simp only[Ent.blk] at hg' ⊢;rcases h5 with h5|h5
 .left;rw[<-h5];exact hg'
 .right;rw[h5] at hg';injection hg' with hg';omega
theorem Aq9{t x k a}{dst:Option Tmp}{ty:TypeId}{pos:String}{after:AE}{guard:ON}(hx:evo fr x=some (.int k a)):Ev P n ⟨dst,.unOp .xor t x,ty,pos,after,guard⟩ fr L (.int k (Aao k (if k.signed then -1 else k.max) a)):=fun ac w ha _=>by
 simp only[execOp,ha.eval hx,Op.unary,Op.intBits];rfl
end
section
variable {P:Program}{n:Nat}{fr:lF}{L:LE}{dst:Option Tmp}{ty:TypeId}{pos:String}{after:AE}{guard:ON}
theorem Acb{t t' x y a b}(hx:evo fr x=some (.int .i64 a))(hy:evo fr y=some (.int .i64 b)):Ev P n ⟨dst,.binOp .add t x y t',ty,pos,after,guard⟩ fr L (.int .i64 (w64 (a+b))):=Akc hx hy
theorem Ahf{t t' x y a b}(hx:evo fr x=some (.int .i64 a))(hy:evo fr y=some (.int .i64 b)):Ev P n ⟨dst,.binOp .sub t x y t',ty,pos,after,guard⟩ fr L (.int .i64 (w64 (a-b))):=Akd hx hy
theorem Ahg{t t' x y a b}(hx:evo fr x=some (.int .i64 a))(hy:evo fr y=some (.int .i64 b)):Ev P n ⟨dst,.binOp .mul t x y t',ty,pos,after,guard⟩ fr L (.int .i64 (w64 (a*b))):=Ake hx hy
theorem Aoq{t t' x y a b}(hx:evo fr x=some (.int .i64 a))(hy:evo fr y=some (.int .i64 b))(h:b≠0):Ev P n ⟨dst,.binOp .quo t x y t',ty,pos,after,guard⟩ fr L (.int .i64 (w64 (Int.tdiv a b))):=Akf hx hy h
theorem Ahh{t x a}(hx:evo fr x=some (.int .i64 a)):Ev P n ⟨dst,.unOp .neg t x,ty,pos,after,guard⟩ fr L (.int .i64 (w64 (-a))):=Apc hx
theorem Ue{src dt x k v}(hx:evo fr x=some (.int k v))(hs:(P.underlying src).isSome=true)(hd:P.underlying dt=some (.int .i64)):Ev P n ⟨dst,.convert src dt x,ty,pos,after,guard⟩ fr L (.int .i64 (w64 v)):=Afj hx hs hd
theorem Aeo{t t' x y a b}(hx:evo fr x=some (.int .u64 a))(hy:evo fr y=some (.int .u64 b)):Ev P n ⟨dst,.binOp .add t x y t',ty,pos,after,guard⟩ fr L (.int .u64 (wu64 (a+b))):=Akc hx hy
theorem Aep{t t' x y a b}(hx:evo fr x=some (.int .u64 a))(hy:evo fr y=some (.int .u64 b)):Ev P n ⟨dst,.binOp .sub t x y t',ty,pos,after,guard⟩ fr L (.int .u64 (wu64 (a-b))):=Akd hx hy
theorem Aeq{t t' x y a b}(hx:evo fr x=some (.int .u64 a))(hy:evo fr y=some (.int .u64 b)):Ev P n ⟨dst,.binOp .mul t x y t',ty,pos,after,guard⟩ fr L (.int .u64 (wu64 (a*b))):=Ake hx hy
theorem Aer{t t' x y a b}(hx:evo fr x=some (.int .u64 a))(hy:evo fr y=some (.int .u64 b))(h:b≠0):Ev P n ⟨dst,.binOp .quo t x y t',ty,pos,after,guard⟩ fr L (.int .u64 (wu64 (Int.tdiv a b))):=Akf hx hy h
theorem Amu{t x a}(hx:evo fr x=some (.int .u64 a)):Ev P n ⟨dst,.unOp .neg t x,ty,pos,after,guard⟩ fr L (.int .u64 (wu64 (-a))):=Apc hx
theorem Dq{src dt x k v}(hx:evo fr x=some (.int k v))(hs:(P.underlying src).isSome=true)(hd:P.underlying dt=some (.int .u64)):Ev P n ⟨dst,.convert src dt x,ty,pos,after,guard⟩ fr L (.int .u64 (wu64 v)):=Afj hx hs hd
theorem Aes{t t' x y a b}(hx:evo fr x=some (.int .u32 a))(hy:evo fr y=some (.int .u32 b)):Ev P n ⟨dst,.binOp .add t x y t',ty,pos,after,guard⟩ fr L (.int .u32 (wu32 (a+b))):=Akc hx hy
theorem Aet{t t' x y a b}(hx:evo fr x=some (.int .u32 a))(hy:evo fr y=some (.int .u32 b)):Ev P n ⟨dst,.binOp .sub t x y t',ty,pos,after,guard⟩ fr L (.int .u32 (wu32 (a-b))):=Akd hx hy
theorem Aeu{t t' x y a b}(hx:evo fr x=some (.int .u32 a))(hy:evo fr y=some (.int .u32 b)):Ev P n ⟨dst,.binOp .mul t x y t',ty,pos,after,guard⟩ fr L (.int .u32 (wu32 (a*b))):=Ake hx hy
theorem Amv{t t' x y a b}(hx:evo fr x=some (.int .u32 a))(hy:evo fr y=some (.int .u32 b))(h:b≠0):Ev P n ⟨dst,.binOp .quo t x y t',ty,pos,after,guard⟩ fr L (.int .u32 (wu32 (Int.tdiv a b))):=Akf hx hy h
theorem Nb{src dt x k v}(hx:evo fr x=some (.int k v))(hs:(P.underlying src).isSome=true)(hd:P.underlying dt=some (.int .u32)):Ev P n ⟨dst,.convert src dt x,ty,pos,after,guard⟩ fr L (.int .u32 (wu32 v)):=Afj hx hs hd
theorem Amw{src dt x k v}(hx:evo fr x=some (.int k v))(hs:(P.underlying src).isSome=true)(hd:P.underlying dt=some (.int .u8)):Ev P n ⟨dst,.convert src dt x,ty,pos,after,guard⟩ fr L (.int .u8 (wu8 v)):=Afj hx hs hd
end
theorem Amx:∀(vs pre old tail:LV),old.length=vs.length->(Ct (pre++old++tail).toArray pre.length vs).toList=pre++vs++tail:=by
 intro vs
 induction vs with
 |nil=>intro pre old tail h;have:old=[]:=List.eq_nil_of_length_eq_zero (sV h);subst this;simp[Ct]
 |cons v r ih=>
  intro pre old tail h
  match old,h with
  |u::old',h=>
   simp only[Ct,List.setIfInBounds_toArray];have:(pre++u::old'++tail).set pre.length v=(pre++[v])++old'++tail:=by
    rw[List.append_assoc,List.set_append_right _ _ (nL _)];simp
   rw[this];have:=ih (pre++[v]) old' tail (sV h);simp at this⊢;exact this
def cpy{α:Type}(l:List α)(p:Nat)(ys:List α):List α:=l.take p++ys.take (l.length-p)++l.drop (p+ys.length)
theorem Qx{α:Type}{l:List α}{p:Nat}{ys:List α}(h:p<=l.length):(cpy l p ys).length=l.length:=by
 simp only[cpy,List.length_append,List.length_take,List.length_drop];omega
theorem Amy{α:Type}{enc:α->LV}{sz:Nat}(hz:0<sz)(he:∀x,(enc x).length=sz)(l:List α)(j:Nat)(u:Value)(hj:(l.flatMap enc)[j]? = some u):∃h:j/sz<l.length,(enc l[j/sz])[j%sz]? = some u:=by
 have hjl:j<(l.flatMap enc).length:=(List.getElem?_eq_some_iff.1 hj).1;rw[Ga he l] at hjl;have hdm:j=j/sz*sz+j%sz:=by have:=Nat.div_add_mod j sz;rw[Nat.mul_comm] at this;omega
 have hq:j/sz<l.length:=(Nat.div_lt_iff_lt_mul hz).2 hjl;have hmod:=Nat.mod_lt j hz;refine⟨hq,?_⟩;obtain⟨u',hu'⟩:∃u',(enc l[j/sz])[j%sz]? = some u':=⟨_,gE (by rw[he l[j/sz]];exact hmod)⟩;have hf:=Xu l (j/sz) hq (fun x _=>he x) (j%sz) u' hu';rw[<-hdm,hj] at hf;injection hf with hf
 subst hf;exact hu'
theorem Sl.flat{α:Type}{w:World}{A n c sz}{enc:α->List Value}{l:List α}(h:Sl w A n c sz enc l)(hz:0<sz)(he:∀ x,(enc x).length=sz){b o:Nat}(hA:A=some ⟨b,o,none⟩)(hn:0<n):
  ∀(j:Nat) (u:Value),(l.flatMap enc)[j]? = some u->w.cell? ((⟨b,o,none⟩:Addr).add j)=some u:=by
 intro j u hj;obtain⟨hq,hu⟩:=Amy hz he l j u hj;obtain⟨b',o',hA',hc⟩:=h.at_ hn;rw[hA] at hA';injection hA' with hA'
 injection hA' with e1 e2 _
 subst e1;subst e2;have:=hc (j/sz) hq (j%sz) u hu;have hdm:j=j/sz*sz+j%sz:=by have:=Nat.div_add_mod j sz;rw[Nat.mul_comm] at this;omega
 rw[Addr.add_lit,hdm,<-Nat.add_assoc];exact this
section
variable {P:Program}{n:Nat}{N:AW}{Q:Exit->AW}{fr:lF}{L:LE}
theorem Amz{α:Type}(enc:α->List Value)(l ys:List α)(p:Nat){x y X A m c t sz B q cx cy mx K tt t2 e ty i L' d}{pos:String}{after:Array Edge}{guard:Option (Nat × Bool)}(hx:evo fr x=some (.slice X mx cx))(hy:evo fr y=some (.slice B q cy))(hr:Has K B q cy sz enc ys)(hK:SubE K L)(hmx:mx=m-p)(hp:p<=m)(hX:∀ g,A=some ⟨g,0,none⟩->c≠p->X=some ⟨g,p*sz,none⟩)(hL:SetE L i (.r A m c t sz (l.flatMap enc)) (.r A m c t sz ((cpy l p ys).flatMap enc)) L')(ht:P.underlying tt=some (.slice e))(hs:(P.info? e).map (·.size)=some sz)(hz:0<sz)(he:∀ x,(enc x).length=sz)(h1:∀ x,Lx (enc x)=true)(hd:Nat.blt d n=true)(k:T n N ((d,.int .i64 ((min ys.length (l.length-p):Nat):Int))::fr) L'):
  Wh P Q n ⟨some d,.call ⟨.builtin .copy,#[x,y],#[tt,t2]⟩,ty,pos,after,guard⟩ fr L N:=by
 intro a w ha hw;have hm:m=l.length:=(Has.ofRow hz he (hw.ok _ hL.mem)).len.symm;subst hm;subst hmx;have hq:=hr.len;subst hq;have hsl:=hr.at hK hw;obtain⟨ii,hii,hisz⟩:∃ii,P.info? e=some ii/\ii.size=sz:=by
  cases hq:P.info? e with
  |none=>simp[hq] at hs
  |some ii=>exact⟨ii,rfl,by simpa[hq] using hs⟩
 obtain⟨hl,h2⟩:=hw.ok _ hL.mem
 by_cases h0:min ys.length (l.length-p)=0
 ·have hsame:cpy l p ys=l:=by
   unfold cpy;rcases Nat.eq_zero_or_pos ys.length with h|h
   .have:ys=[]:=List.eq_nil_of_length_eq_zero h;subst this;simp
   .have h3:p=l.length:=oo;subst h3;simp
  rw[hsame] at hL;rw[hL.same rfl] at k;rw[h0] at k;have hload:∀(x:Addr),(loadCells x 0).run P w=.ok #[] w:=fun x=>by simpa using run_loadCells_list (P:=P) w x [] s_
  have hrun:(execOp a.eval ⟨some d,.call ⟨.builtin .copy,#[x,y],#[tt,t2]⟩,ty,pos,after,guard⟩).run P w=.ok (.value (.int .i64 ((0:Nat):Int))) w:=by
   have hn:Nat.min ys.length (l.length-p)=0:=h0;cases X <;> cases B <;> simp[execOp,resolve,invoke,builtin,ha.eval hx,ha.eval hy,Builtin.copy_,run_underlying ht,Builtin.lenOf,Builtin.firstCells,sizeOf,typeInfo,hii,hisz,hn,storeCells,hload,goInt]
  simp only[Oper.wp,hrun,Oper.upon_value];exact k _ _ (ha.put hd) hw
 .rcases h2 with⟨_,h3⟩|⟨g,cap,cur,hv,_,hb,h3,h4,h5,h6⟩
  .omega
  .injection hv with hg _ hcap
   subst hg;subst hcap;have hX':=hX g rfl oo;subst hX';obtain⟨b,o,hB,_⟩:=hsl.at_ oo;subst hB;have hcells:=hsl.flat hz he rfl oo;have hfl:=Ga he;have hzs:((ys.take (l.length-p)).flatMap enc).length=min ys.length (l.length-p)*sz:=by rw[hfl,List.length_take,Nat.min_comm]
   have htk:∀(j:Nat) (u:Value),((ys.take (l.length-p)).flatMap enc)[j]? = some u->w.cell? ((⟨b,o,none⟩:Addr).add j)=some u:=by
    intro j u hj;refine hcells j u ?_;have:ys.flatMap enc=(ys.take (l.length-p)).flatMap enc++(ys.drop (l.length-p)).flatMap enc:=by rw[<-List.flatMap_append,List.take_append_drop]
    rw[this,List.getElem?_append_left ((List.getElem?_eq_some_iff.1 hj).1)];exact hj
   have hload:=run_loadCells_list (P:=P) w (⟨b,o,none⟩:Addr) _ htk;rw[hzs] at hload;have hone:Lx ((ys.take (l.length-p)).flatMap enc)=true:=by
    generalize ys.take (l.length-p)=zs
    induction zs with
    |nil=>rfl
    |cons x r ih=>
     rw[List.flatMap_cons];have ap:∀p q:LV,Lx p=true->Lx q=true->Lx (p++q)=true:=by
      intro p q hp hq
      induction p with
      |nil=>exact hq
      |cons z p ihp=>simp only[List.cons_append,Lx,Bool.and_eq_true] at hp⊢;exact⟨hp.1,ihp hp.2⟩
     exact ap _ _ (h1 x) ih
   have hmul:p*sz+min ys.length (l.length-p)*sz<=l.length*sz:=by rw[<-Nat.add_mul];exact Nat.mul_le_mul_right _ oo
   have hmul2:l.length*sz<=c*sz:=Nat.mul_le_mul_right _ h3;have hst:=Io P g t ((ys.take (l.length-p)).flatMap enc) 0 (p*sz) cur w hb (by rw[hzs,h5];omega) (Ou hone);have hpos:0<min ys.length (l.length-p)*sz:=Nat.mul_pos oo hz;have hne:(ys.take (l.length-p)).flatMap enc≠[]:=by intro h;rw[h] at hzs;simp only[List.length_nil] at hzs;omega
   rw[iN hne] at hst;have hrun:(execOp a.eval ⟨some d,.call ⟨.builtin .copy,#[x,y],#[tt,t2]⟩,ty,pos,after,guard⟩).run P w=.ok (.value (.int .i64 ((min ys.length (l.length-p):Nat):Int))) (Pw w g (.cells (Ct cur (p*sz+0) ((ys.take (l.length-p)).flatMap enc)) t (0,0))):=by
    have hn:Nat.min ys.length (l.length-p)=min ys.length (l.length-p):=rfl;simp[execOp,resolve,invoke,builtin,ha.eval hx,ha.eval hy,Builtin.copy_,run_underlying ht,Builtin.lenOf,Builtin.firstCells,sizeOf,typeInfo,hii,hisz,hload,hst,goInt,hn]
   simp only[Oper.wp,hrun,Oper.upon_value];have hcl:(cpy l p ys).length=l.length:=Qx hp;refine k _ _ (ha.put hd) (Heap.turn (e:=.r (some ⟨g,0,none⟩) l.length c t sz (l.flatMap enc)) (e':=.r (some ⟨g,0,none⟩) l.length c t sz ((cpy l p ys).flatMap enc)) (Ta w g _) ?_ (nL _) (fun _ hg=>.inl hg) hL hw);refine⟨by rw[hfl,hcl],.inr ⟨g,c,_,rfl,Nat.zero_le _,Ux w g _ (Ec hb),h3,h4,by rw[Mx];exact h5,?_⟩⟩;have hcur:cur=((l.take p).flatMap enc++((l.drop p).take (min ys.length (l.length-p))).flatMap enc++((l.drop (p+ys.length)).flatMap enc++cur.toList.drop (l.length*sz))).toArray:=by
    have e1:l.flatMap enc=(l.take p).flatMap enc++((l.drop p).take (min ys.length (l.length-p))).flatMap enc++(l.drop (p+ys.length)).flatMap enc:=by
     rw[<-List.flatMap_append,<-List.flatMap_append];congr 1;rw[List.append_assoc];have e2:(l.drop p).take (min ys.length (l.length-p))++l.drop (p+ys.length)=l.drop p:=by
      rcases Nat.le_total ys.length (l.length-p) with h|h
      .rw[Nat.min_eq_left h,<-List.drop_drop,List.take_append_drop]
      .rw[Nat.min_eq_right h,List.take_of_length_le s_,List.drop_eq_nil_of_le (oo:l.length<=p+ys.length),List.append_nil]
     rw[e2,List.take_append_drop]
    have e3:cur.toList=l.flatMap enc++cur.toList.drop (l.length*sz):=by
     have:=List.take_append_drop (l.length*sz) cur.toList;rw[h6] at this;exact this.symm
    rw[e1,List.append_assoc] at e3;rw[<-Array.toArray_toList (xs:=cur)];congr 1
   have hpl:((l.take p).flatMap enc).length=p*sz:=by rw[hfl,List.length_take,Nat.min_eq_left hp]
   have hmid:=Amx ((ys.take (l.length-p)).flatMap enc) ((l.take p).flatMap enc) (((l.drop p).take (min ys.length (l.length-p))).flatMap enc) ((l.drop (p+ys.length)).flatMap enc++cur.toList.drop (l.length*sz))
    (by rw[hzs,hfl,List.length_take,List.length_drop];congr 1;omega)
   rw[hpl,<-hcur] at hmid;rw[Nat.add_zero,hmid];have hwhole:(l.take p).flatMap enc++(ys.take (l.length-p)).flatMap enc++((l.drop (p+ys.length)).flatMap enc++cur.toList.drop (l.length*sz))=(cpy l p ys).flatMap enc++cur.toList.drop (l.length*sz):=by
    simp only[cpy,List.flatMap_append,List.append_assoc]
   rw[hwhole];have hc2:((cpy l p ys).flatMap enc).length=l.length*sz:=by rw[hfl,hcl]
   rw[<-hc2,List.take_left]
theorem Ara{A:OA}{c sz g:Nat}(h:A=some ⟨g,0,none⟩)(_hc:c≠0):A=some ⟨g,0*sz,none⟩:=by rw[Nat.zero_mul];exact h
theorem Ahi{α:Type}{enc:α->LV}{sz:Nat}{z:Array Value}(x0:α)(hz:0<sz)(he:∀x,(enc x).length=sz)(h0:enc x0=z.toList)(m:Nat):madeCells z (m*sz)=((List.replicate m x0).flatMap enc).toArray:=by
 have hzs:z.size=sz:=by rw[<-he x0,h0];simp
 apply Array.ext
 .rw[size_madeCells];simp only[List.size_toArray];rw[Ga he,List.length_replicate]
 .intro i h1 h2;have h2':i<((List.replicate m x0).flatMap enc).length:=by simpa using h2
  obtain⟨v,hv⟩:∃v,((List.replicate m x0).flatMap enc)[i]? = some v:=⟨_,gE h2'⟩;obtain⟨hq,hu⟩:=Amy hz he _ i _ hv;have hx:(List.replicate m x0)[i/sz]=x0:=List.getElem_replicate _;rw[hx,h0] at hu;have hmod:i%sz<z.size:=by rw[hzs];exact Nat.mod_lt _ hz
  rw[Array.getElem?_toList,Array.getElem?_eq_getElem hmod] at hu;injection hu with hu
  have hv':((List.replicate m x0).flatMap enc).toArray[i]=v:=by
   rw[List.getElem_toArray];exact (List.getElem?_eq_some_iff.1 hv).2
  rw[hv',<-hu];simp only[madeCells,Array.getElem_map,Array.getElem_range,hzs];exact getElem!_pos z (i%sz) hmod
theorem Axl{α:Type}(enc:α->List Value)(x0:α){d:Nat}{t e x y k1 k2 i1 i2 i z sz}{ty:TypeId}{pos:String}{after:Array Edge}{guard:Option (Nat × Bool)}(hx:evo fr x=some (.int k1 i1))(hy:evo fr y=some (.int k2 i2))(h12:i1=i2)(hp:0<=i1)(ht:P.underlying t=some (.slice e))(hi:P.info? e=some i)(hz:i.zero=some z)(hzc:enc x0=z.cells.toList)(hs:i.size=sz)(hsz:0<sz)(he:∀ x,(enc x).length=sz)(hb:i.bytes*i1.toNat<=140737488355328)(hb0:0<i.bytes)(hd:Nat.blt d n=true)(k:∀ A,T n N ((d,.slice A (List.replicate i1.toNat x0).length (List.replicate i1.toNat x0).length)::fr) (.r A (List.replicate i1.toNat x0).length (List.replicate i1.toNat x0).length e sz ((List.replicate i1.toNat x0).flatMap enc)::L)):
  Wx P Q n ⟨some d,.makeSlice t x y,ty,pos,after,guard⟩ fr L N:=by
 subst h12;have h2:=Nat.mul_le_mul_right i1.toNat hb0;rw[Nat.succ_mul,Nat.zero_mul,Nat.zero_add] at h2;have hb':(i.bytes:Int)*i1<=281474976710656:=by
  have h:((i.bytes*i1.toNat:Nat):Int)<=281474976710656:=oo;rw[Int.natCast_mul,Int.toNat_of_nonneg oo] at h;exact h
 refine Aq0 (by rw[Ga he]) (by rw[List.length_replicate];unfold maxLen;omega) (fun a w ha _=>?_) hd k;have hr:=run_make (P:=P) w t e i z ht hi hz k1 k2 i1 i1 hp (Int.le_refl _) hb' oo;rw[hs,Ahi x0 hsz he hzc] at hr;rw[List.length_replicate];simp[execOp,ha.eval hx,ha.eval hy,hr]
end
theorem SubE.appC{K E L:LE}(h:SubE K L)(h':SubE E L):SubE (K++E) L:=⟨fun w hw x hx=>by
 rcases List.mem_append.1 hx with hx|hx
 .exact h.ok w hw _ hx
 .exact h'.ok w hw _ hx⟩
def CtK(P:Program)(f:FuncId)(vs:LV)(K Lp:LE)(R:Value->LE->Prop):Prop :=
 Wp P f/\∀Lf w,SubE K Lf->Heap (Lp++Lf) w->Calls P f vs.toArray w fun e w'=>∃v Ln,e=.returned v/\R v Ln/\Heap (Ln++Lf) w'
section
variable {P:Program}{n:Nat}{N:AW}{Q:Exit->AW}{fr:lF}{L:LE}
theorem CtK.mk{f:FuncId}{fn:Func}{c:Code}{vs:LV}{K Lp:LE}{R:Value->LE->Prop}(m:Nat)(hf:P.funcs[f]? = some fn)(hb:fn.body=some c)(hm:fn.ntmps=m)(hn:(fn.name == "runtime.NumGoroutine")=false)(hl:Nat.ble vs.length m=true)(k:∀Lf,SubE K Lf->T m (c.wp P (bodyPost P fn fun e w'=>∃v Ln,e=.returned v/\R v Ln/\Heap (Ln++Lf) w')) (Yr vs 0) (Lp++Lf)):CtK P f vs K Lp R:=by
 refine⟨⟨fn,hf,hn,by rw[hb];rfl⟩,fun Lf w hK hw=>calls_of_wp hf hb ?_⟩;rw[hm];exact k Lf hK _ w (Aq1 vs m (Nat.le_of_ble_eq_true hl)) hw
theorem Adb{d:Nat}{pos:String}{after:AE}{guard:ON}{f:FuncId}{xs:List Operand}{vs:LV}{ts:Array TypeId}{ty':TypeId}{K Lp Lf:LE}{R:Value->LE->Prop}(hx:evos fr xs=some vs)(hp:Ix L (Lp++Lf))(hsub:SubE K Lf)(hc:CtK P f vs K Lp R)(hd:Nat.blt d n=true)(k:∀v Ln,R v Ln->T n N ((d,v)::fr) (Ln++Lf)):Wh P Q n ⟨some d,.call ⟨.value (.func f),xs.toArray,ts⟩,ty',pos,after,guard⟩ fr L N:=by
 intro a w ha hw;simp only[Oper.wp,Ag8 hc.1 ha hx,Oper.upon_enter];refine (hc.2 Lf w hsub (hw.pick hp)).mono ?_;rintro e w' ⟨v,Ln,rfl,hR,hh⟩;exact k v Ln hR _ _ (ha.put hd) hh
theorem Aor{fn:Func}{R:Value->List Ent->Prop}{Lf:List Ent}{rs vs}{Ln:List Ent}(hr:fn.results=rs.toArray)(h:Res P fr L rs vs)(hR:R (Tb vs) Ln)(hs:Ix L (Ln++Lf)):
  T n (bodyPost P fn (fun e w'=>∃v Ln,e=.returned v/\R v Ln/\Heap (Ln++Lf) w') .ret) fr L :=
 Aq2 hr h fun _ hw=>⟨_,Ln,rfl,hR,hw.pick hs⟩
theorem Axm{fn:Func}{R:Value->List Ent->Prop}{Lf:List Ent}{rs vs}{Ln:List Ent}(hr:fn.results=rs.toArray)(h:Res P fr L rs vs)(hR:R (Tb vs) Ln)(hs:Ix L (Ln++Lf)):
  T n (bodyPost P fn (fun e w'=>∃v Ln,e=.returned v/\R v Ln/\Heap (Ln++Lf) w') .normal) fr L :=
 Bec hr h fun _ hw=>⟨_,Ln,rfl,hR,hw.pick hs⟩
theorem Aev{x a}{dst:Option Tmp}{ty:TypeId}{pos:String}{after:AE}{guard:ON}(hx:evo fr x=some (.pointer (some a))):Ev P n ⟨dst,.nilCheck x,ty,pos,after,guard⟩ fr L (.pointer (some a)):=fun ac w ha _=>by
 simp[execOp,ha.eval hx]
end
def Ent.blks:Ent->LM
 |.old _=>[]
 |.m g _ _=>[g]
 |.r (some a) _ _ _ _ _=>[a.block]
 |.r none _ _ _ _ _=>[]
 |.f S _=>S
theorem Ent.own_blks{e:Ent}{g:Nat}:e.own g↔g∈e.blks:=by
 cases e with
 |old w=>simp[Ent.own,Ent.blks]
 |m g' t cs=>simp[Ent.own,Ent.blks,eq_comm]
 |r A n c t sz xs=>cases A <;> simp[Ent.own,Ent.blks,eq_comm]
 |f S φ=>simp[Ent.own,Ent.blks]
def bun(es:LE):Ent:=.f (es.flatMap Ent.blks) (fun w=>∀e∈es,Ent.ok w e)
theorem Ent.ok_blks{e:Ent}(hl:e.low=0){w w':World}(h:Ent.ok w e)(hb:∀g∈e.blks,w'.heap[g]? = w.heap[g]?):Ent.ok w' e:=by
 have hsz:∀g,g<w.heap.size->g∈e.blks->g<w'.heap.size:=fun g hg hm=>by
  have h1:=hb g hm;rw[Array.getElem?_eq_getElem hg] at h1;exact Ec h1
 cases e with
 |old w0=>simp[Ent.low] at hl
 |m g t cs=>exact (hb g (by simp[Ent.blks])).trans h
 |r A n c t sz xs=>
  obtain⟨h1,h2⟩:=h;refine⟨h1,?_⟩;rcases h2 with h2|⟨g,cap,cur,hv,hb',hh,rest⟩
  .exact .inl h2
  .refine .inr ⟨g,cap,cur,hv,hb',?_,rest⟩;refine (hb g ?_).trans hh;rw[<-Ent.own_blks,Ent.own_r,hv];rfl
 |f S φ=>
  obtain⟨h1,h2,h3⟩:=h;exact⟨fun g hg=>hsz g (h1 g hg) hg,h3 w w' h2 hb,h3⟩
theorem Bcs{es:LE}(hl:∀e∈es,e.low=0){w:World}(h:∀e∈es,Ent.ok w e):Ent.ok w (bun es):=by
 refine⟨fun g hg=>?_,h,fun w1 w2 h1 hb e he=>Ent.ok_blks (hl e he) (h1 e he) (fun g hg=>hb g (List.mem_flatMap.2 ⟨e,he,hg⟩))⟩;obtain⟨e,he,hg⟩:=List.mem_flatMap.1 hg;exact Ent.lt (h e he) (Ent.own_blks.2 hg)
theorem Arb{es:LE}{w:World}(h:Ent.ok w (bun es)):∀e∈es,Ent.ok w e:=h.2.1
theorem Adc{es L:LE}{w:World}(hl:∀e∈es,e.low=0)(h:Heap (es++L) w):Heap (bun es::L) w:=by
 have hp:=List.pairwise_append.1 h.sep;refine⟨fun e he=>?_,?_⟩
 .rcases List.mem_cons.1 he with rfl|he
  .exact Bcs hl (fun e he=>h.ok e (List.mem_append_left _ he))
  .exact h.ok e (List.mem_append_right _ he)
 .rw[List.pairwise_cons];refine⟨fun x hx=>⟨fun g hg=>?_,fun g hg=>⟨Nat.zero_le _,fun hb=>?_⟩⟩,hp.2.1⟩
  .obtain⟨e,he,hg⟩:=List.mem_flatMap.1 (show g∈es.flatMap Ent.blks from hg);exact (hp.2.2 e he x hx).1 g (Ent.own_blks.2 hg)
  .obtain⟨e,he,hb⟩:=List.mem_flatMap.1 (show g∈es.flatMap Ent.blks from hb);exact ((hp.2.2 e he x hx).2 g hg).2 (Ent.own_blks.2 hb)
theorem SubE.consB{K L es:LE}{e:Ent}{i j:Nat}(h:nthE L i=some (bun es))(hj:nthE es j=some e)(h':SubE K L):SubE (e::K) L:=⟨fun w hw x hx=>by
 rcases List.mem_cons.1 hx with rfl|hx
 .exact Arb (hw _ (Ee h)) _ (Ee hj)
 .exact h'.ok w hw _ hx⟩
theorem Ahj{n:Nat}{N:AW}{fr:lF}{L Lr es:LE}(hp:Ix L (es++Lr))(hl:∀e∈es,e.low=0)(k:T n N fr (bun es::Lr)):T n N fr L :=
 fun a w ha hw=>k a w ha (Adc hl (hw.pick hp))
def Axn(P:Program)(s:TypeId)(xs:LV)(f:Nat)(v:Value):Prop:=∀w,(Instr.field s (.agg xs.toArray) f).run P w=.ok v w
theorem As4{P:Program}{n:Nat}{fr:List (Nat × Value)}{L:List Ent}{dst:Option Tmp}{ty:TypeId}{pos:String}{after:Array Edge}{guard:Option (Nat × Bool)}{s:TypeId}{x:Operand}{f:Nat}{xs:List Value}{v:Value}(hx:evo fr x=some (.agg xs.toArray))(h:Axn P s xs f v):
  Ev P n ⟨dst,.field s x f,ty,pos,after,guard⟩ fr L v:=fun a w ha _=>by
 simp[execOp,ha.eval hx,h w]
abbrev Vec(sz:Nat):Type:={v:LV // v.length=sz}
section
variable {n:Nat}{N:AW}{fr:lF}{L:LE}
theorem Bct{a b c d e f g:Ent}(k:T n N fr (a::b::c::d::e::f::g::L)):T n N fr ([a,b,c,d,e,f,g]++L):=k
end
open Go.Maps (Keyed)
def Bcu(P:Program)(t:TypeId)(xs:LV):Prop:=∀(j:Nat) (h:j<xs.length) (k:IntKind) (w:World),(Instr.index t (.agg xs.toArray) (.int k (j:Int))).run P w=.ok xs[j] w
def RV(v:Value):Option (DataW Value×List MemPlace):=some (.held v,[])
def klOf(P:Program)(k:TypeId)(v:Value):Lit:=(keyOf P k v).getD (.bool true)
theorem Ms{P:Program}{k:TypeId}{v:Value}(h:(keyOf P k v).isSome=true):keyOf P k v=some (klOf P k v):=by
 unfold klOf;cases hk:keyOf P k v with
 |none=>rw[hk] at h;cases h
 |some l=>rfl
section
variable {κ υ:Type}
def mapD(P:Program)(k:TypeId)(ke:κ->Value)(ve:υ->Value):List (κ×υ)->DataW Value
 |[]=>.map []
 |p::r=>(mapD P k ke ve r).put (klOf P k (ke p.1)) (.held (ve p.2))
open Classical in
def mget(m:List (κ×υ))(x:κ):Option υ:=match m with
 |[]=>none
 |p::r=>if p.1=x then some p.2 else mget r x
theorem Axo{x:κ}:mget ([]:List (κ×υ)) x=none:=rfl
open Classical in
theorem Uy{p:κ×υ}{r:List (κ×υ)}{x:κ}:mget (p::r) x=if p.1=x then some p.2 else mget r x:=rfl
def mval(ve:υ->Value)(z:Value):Option υ->Value
 |some v=>ve v
 |none=>z
variable {P:Program}{k:TypeId}{ke:κ->Value}{ve:υ->Value}{b:Nat}{m:List (κ×υ)}
theorem Acc:∀{m:List (κ×υ)},Maps.IsMap (mapD P k ke ve m)
 |[]=>⟨_,rfl⟩
 |p::r=>by
  obtain⟨es,h⟩:=Acc (m:=r);unfold mapD;rw[h];exact⟨_,rfl⟩
theorem Aiy(K:Keyed P k)(hke:∀ x y,ke x=ke y->x=y){x:κ}(hx:(keyOf P k (ke x)).isSome=true)(z:Value):
  ∀{m:List (κ×υ)},(∀p∈m,(keyOf P k (ke p.1)).isSome=true)->(mapD P k ke ve m).atKey (klOf P k (ke x)) (.held z)=.held (mval ve z (mget m x))/\Maps.has (mapD P k ke ve m) (klOf P k (ke x))=(mget m x).isSome
 |[],_=>⟨rfl,rfl⟩
 |p::r,h=>by
  have ih:=Aiy K hke hx z (m:=r) (fun q hq=>h q (mO _ hq));have hp:=Ms (h p mS);have hxs:=Ms hx;unfold mapD
  by_cases he:p.1=x
  .rw[Uy,iP he,he];exact⟨Maps.atKey_put_same Acc (K.key hxs) _ _,Maps.has_put_same Acc (K.key hxs) _⟩
  .have hne:klOf P k (ke x)≠klOf P k (ke p.1):=fun e=>he (hke _ _ (K.inj hp (by rw[hxs,e])))
   rw[Uy,iN he,Maps.atKey_put_other hne,Maps.has_put_other hne];exact ih
section
variable {n:Nat}{fr:lF}{L:LE}{N:AW}{Q:Exit->AW}{d:Nat}{dst:Option Tmp}{ty:TypeId}{pos:String}{after:AE}{guard:ON}
theorem Add{L:LE}{i:Nat}{e:Ent}(h:nthE L i=some e):e∈L:=by
 induction L generalizing i with
 |nil=>simp[nthE] at h
 |cons x r ih=>
  cases i with
  |zero=>simp[nthE] at h;subst h;exact mS
  |succ i=>exact mO _ (ih h)
theorem Aiz{o:Option υ}{z0 u:υ}(h:some (o.getD z0)=some u):mval ve (ve z0) o=ve u:=by
 obtain rfl:=oI h;cases o <;> rfl
end
end
theorem Bcv{P:Program}{k:TypeId}{q:IntKind}(hk:P.underlying k=some (.int q)){a:Int}(hw:(Lit.int q a).wf=true):(keyOf P k (.int q a)).isSome=true:=by rw[Maps.keyOf_int_mk hk hw];rfl
theorem Ahk{z:Int}(h:-9223372036854775808<=z/\z<=9223372036854775807):(Lit.int .i64 z).wf=true:=by
 have h1:IntKind.i64.min = -9223372036854775808:=rfl;have h2:IntKind.i64.max=9223372036854775807:=rfl;simp only[Lit.wf,Bool.and_eq_true,dQ];omega
theorem Aai{α β:Type}{g:α->Option β}:∀(l:List α),(∀x∈l,(g x).isSome=true)->(l.mapM g).isSome=true
 |[],_=>rfl
 |x::r,h=>by
  have h1:=h x mS;have ih:=Aai r (fun y hy=>h y (mO _ hy));rw[List.mapM_cons];cases hx:g x with
  |none=>rw[hx] at h1;cases h1
  |some y=>
   cases hr:r.mapM g with
   |none=>rw[hr] at ih;cases ih
   |some ys=>rfl
theorem Aos{P:Program}{k:TypeId}{fs:Array Field}{cs:LV}{d:Nat}(hd:P.types.size=d+1)(hu:P.underlying k=some (.struct fs))(hk:P.keyType k=true)(hc:cs.length=P.cellsOf k)(hn:fs.all (·.name != "_")=true)(hf:∀f∈fs.toList,∃q n,P.underlying f.type=some (.int q)/\(cs.drop f.offset).take (P.cellsOf f.type)=[.int q n]/\(Lit.int q n).wf=true):(keyOf P k (.agg cs.toArray)).isSome=true:=by
 unfold keyOf;rw[hu];have hfm:(Value.agg cs.toArray).formed P k=true:=by simp[Value.formed,hu,hc]
 simp only[hk,hfm,Bool.and_self,if_true,Option.isSome_map];have hcl:(Value.agg cs.toArray).cells.toList=cs:=by simp[Value.cells]
 rw[hcl,hd];unfold Program.keyLits;simp only[hu];rw[iP ⟨hc,hn⟩,Option.isSome_map];refine Aai _ fun f hfm=>?_
 obtain⟨q,n,h1,h2,h3⟩:=hf f hfm;rw[h2];unfold Program.keyLits;simp[h1,h3]
end
def bunS(es:LE):Ent:=.f (es.flatMap Ent.blks) fun w=>(∀e∈es,Ent.ok w e)/\es.Pairwise Ent.sep
theorem As5{es L:LE}{w:World}(hl:∀e∈es,e.low=0)(h:Heap (es++L) w):Heap (bunS es::L) w:=by
 have hp:=List.pairwise_append.1 h.sep;have hb:=Adc hl h;refine⟨fun e he=>?_,?_⟩
 .rcases List.mem_cons.1 he with rfl|he
  .obtain⟨h1,h2,h3⟩:=hb.ok _ mS;exact⟨h1,⟨h2,hp.1⟩,fun w1 w2 h4 h5=>⟨h3 w1 w2 h4.1 h5,h4.2⟩⟩
  .exact hb.ok e (mO _ he)
 .have:=hb.sep;rw[List.pairwise_cons] at this⊢;exact⟨fun x hx=>this.1 x hx,this.2⟩
theorem As6{es L:LE}{w:World}(hl:∀e∈es,e.low=0)(h:Heap (bunS es::L) w):Heap (es++L) w:=by
 have hs:=h.sep;rw[List.pairwise_cons] at hs;obtain⟨_,⟨h2,h3⟩,_⟩:=h.ok _ mS;refine⟨fun e he=>?_,List.pairwise_append.2 ⟨h3,hs.2,fun e he x hx=>⟨fun g hg=>?_,fun g hg=>⟨by rw[Ent.low_lo (hl e he)];exact Nat.zero_le _,fun hb=>?_⟩⟩⟩⟩
 .rcases List.mem_append.1 he with he|he
  .exact h2 e he
  .exact h.ok e (mO _ he)
 .exact (hs.1 x hx).1 g (List.mem_flatMap.2 ⟨e,he,Ent.own_blks.1 hg⟩)
 .exact ((hs.1 x hx).2 g hg).2 (List.mem_flatMap.2 ⟨e,he,Ent.own_blks.1 hb⟩)
theorem Pt.up0{K:LE}{b o:Nat}{ys:LV}(h:Pt K b o ys):Pt (K++[]) b o ys:=by rw[List.append_nil];exact h
theorem Aew{P:Program}{n:Nat}{fr:List (Nat × Value)}{L:List Ent}{dst:Option Tmp}{ty:TypeId}{pos:String}{after:Array Edge}{guard:Option (Nat × Bool)}{f:Nat}{xs:List Operand}{vs:List Value}(hx:evos fr xs=some vs):
  Ev P n ⟨dst,.makeFunc (.func f) #[] xs.toArray,ty,pos,after,guard⟩ fr L (.func (.func f) #[] vs.toArray):=fun a w ha _=>by
 have:=ha.evals hx;simp[execOp,this,Instr.makeFunc,Result.andThen]
section
variable {P:Program}{n:Nat}{N:AW}{Q:Exit->AW}{fr:lF}{L:LE}{dst:Option Tmp}{ty:TypeId}{pos:String}{after:AE}{guard:ON}
theorem As7{t e t':TypeId}{x y:Operand}{A:Option Addr}{m c:Nat}(ht:P.underlying t=some (.slice e))(hx:evo fr x=some (.slice A m c))(hy:evo fr y=some (.slice none 0 0)):
  Ev P n ⟨dst,.binOp .eql t x y t',ty,pos,after,guard⟩ fr L (.bool A.isNone):=fun a w ha _=>by
 simp[execOp,ha.eval hx,ha.eval hy,eqGuard_at_slice,run_eql_slice_nil w t e A m c ht,Result.andThen]
end
section
variable {P:Program}{n:Nat}{N:AW}{Q:Exit->AW}{fr:lF}{L:LE}{dst:Option Tmp}{ty:TypeId}{pos:String}{after:AE}{guard:ON}
theorem Uc.arr{t k m e i}(hu:P.underlying t=some (.array m e))(hi:P.info? t=some i)(hk:i.size=k):Uc P t k:=by
 refine⟨fun w=>?_,fun w=>by simp[sizeOf,typeInfo,hi,hk]⟩;simp[isAgg,run_underlying hu]
def Ahl(P:Program)(t:TypeId)(m sz:Nat):Prop:=∃e,P.underlying t=some (.array m e)/\∀w,(sizeOf e).run P w=.ok sz w
theorem Ahl.mk{t m e sz i}(hu:P.underlying t=some (.array m e))(hi:P.info? e=some i)(hk:i.size=sz):Ahl P t m sz :=
 ⟨e,hu,fun w=>by simp[sizeOf,typeInfo,hi,hk]⟩
theorem So{t x ix g o k m sz}{z:Int}(hx:evo fr x=some (.pointer (some ⟨g,o,none⟩)))(hi:evo fr ix=some (.int k z))(ht:Ahl P t m sz)(h0:0<=z)(h1:z<(m:Int)){off:Nat}(ho:z.toNat*sz=off):
  Ev P n ⟨dst,.indexAddr t x ix,ty,pos,after,guard⟩ fr L (.pointer (some ⟨g,o+off,none⟩)):=fun a w ha _=>by
 obtain⟨e,hu,hs⟩:=ht;subst ho;simp[execOp,ha.eval hx,ha.eval hi,Instr.indexAt,asIntOf,run_underlying hu,Instr.sureAddr,h0,h1,hs,Addr.add_lit]
def Aks(P:Program)(t:TypeId)(xs ys:LV):Prop:=∀(j:Nat) (h:j<ys.length) (k:IntKind) (w:World),(Instr.index t (.agg xs.toArray) (.int k (j:Int))).run P w=.ok ys[j] w
theorem Aot{α:Type}{f:α->Value}{t:TypeId}{x i:Operand}{k:IntKind}{xs zs:LV}{ys:List α}{z:Int}{v:α}(hx:evo fr x=some (.agg xs.toArray))(hzs:zs=ys.map f)(hi:evo fr i=some (.int k z))(hV:Aks P t xs zs)(hz:idx ys z=some v){v':Value}(hv:f v=v'):Ev P n ⟨dst,.index t x i,ty,pos,after,guard⟩ fr L v':=fun a w ha _=>by
 subst hzs;subst hv;unfold idx at hz;split at hz
 .rename_i h0;obtain⟨hlt,he⟩:=List.getElem?_eq_some_iff.1 hz;have:=hV z.toNat (sV hlt) k w;rw[Int.toNat_of_nonneg h0] at this;simp only[execOp,ha.eval hx,ha.eval hi,this,Sem.run_bind,Result.andThen,List.getElem_map,he];rfl
 .cases hz
theorem Aa5{α:Type}{l:List α}{i:Int}{x:α}(h:idx l i=some x):0<=i/\i<(l.length:Int):=by
 obtain⟨j,hj,rfl,_⟩:=Zh h;omega
theorem Arc{α:Type}{enc:α->LV}{ys:List α}{w:World}{g t o sz:Nat}{cs post:LV}{z:Int}{v:α}(hw:Ent.ok w (.m g t cs))(hz:idx ys z=some v)(hc:cs.drop o=ys.flatMap enc++post)(he:∀x,(enc x).length=sz)(j:Nat)(u:Value)(hu:(enc v)[j]? = some u):w.cell? ⟨g,o+z.toNat*sz+j,none⟩=some u:=by
 obtain⟨q,hq,rfl,rfl⟩:=Zh hz;rw[Us hw];have h1:=Xu ys q hq (fun x _=>he x) j u hu;have h2:(cs.drop o)[q*sz+j]? = some u:=by
  rw[hc,List.getElem?_append_left]
  .exact h1
  .exact (List.getElem?_eq_some_iff.1 h1).1
 rw[List.getElem?_drop] at h2;rw[show o+(q:Int).toNat*sz+j=o+(q*sz+j) by simp[Nat.add_assoc]];exact h2
theorem Axp{α:Type}(enc:α->LV){ys:List α}{x g o i t cs post ty'}{z:Int}{v:α}{u:Value}(hx:evo fr x=some (.pointer (some ⟨g,o+z.toNat*1,none⟩)))(hi:nthE L i=some (.m g t cs))(hz:idx ys z=some v)(hc:cs.drop o=ys.flatMap enc++post)(he:∀x,(enc x).length=1)(hu:enc v=[u])(ht:Ud P ty'):Ev P n ⟨dst,.load ty' x,ty,pos,after,guard⟩ fr L u:=fun a w ha hw=>by
 have h:=Arc (g:=g) (t:=t) (hw _ (Ee hi)) hz hc he 0 u (by rw[hu];rfl);simp only[Nat.add_zero] at h;rw[Nat.mul_one] at h hx;simp[execOp,ha.eval hx,Instr.loadAt,Instr.sureAddr,Wi ht _ u h]
theorem Ai0{α:Type}(enc:α->LV){ys:List α}{x g o i t cs post ty' sz}{z:Int}{v:α}{vs:LV}(hx:evo fr x=some (.pointer (some ⟨g,o+z.toNat*sz,none⟩)))(hi:nthE L i=some (.m g t cs))(hz:idx ys z=some v)(hc:cs.drop o=ys.flatMap enc++post)(he:∀x,(enc x).length=sz)(hu:enc v=vs)(ht:Uc P ty' sz):Ev P n ⟨dst,.load ty' x,ty,pos,after,guard⟩ fr L (.agg vs.toArray):=fun a w ha hw=>by
 subst hu;have hc':∀j u,(enc v)[j]? = some u->w.cell? ((⟨g,o+z.toNat*sz,none⟩:Addr).add j)=some u:=fun j u hj=>by
  rw[Addr.add_lit];exact Arc (g:=g) (t:=t) (hw _ (Ee hi)) hz hc he j u hj
 simp[execOp,ha.eval hx,Instr.loadAt,Instr.sureAddr,Wg ht _ (enc v) (he v) hc']
end
section
variable {P:Program}
inductive EqI(P:Program)(d:Nat)(e:TypeId)(c:Nat)(xs ys:Array Value):LM->Bool->Prop
 |nil:EqI P d e c xs ys [] true
 | cons {i is a b r r'} (hx:∀ w,(part e xs (i*c)).run P w = .ok a w) (hy:∀ w,(part e ys (i*c)).run P w = .ok b w)
   (he:∀w,(Op.equalIn d e a b).run P w=.ok r w) (h:EqI P d e c xs ys is r'):EqI P d e c xs ys (i::is) (r&&r')
theorem EqI.run{d e c xs ys is r}(h:EqI P d e c xs ys is r):∀w,(Op.eqItems d e c xs ys is).run P w=.ok r w:=by
 induction h with
 |nil=>intro w;simp[Op.eqItems]
 |cons hx hy he _ ih=>
  intro w;rename_i i is a b r r' _;simp only[Op.eqItems,Sem.run_bind,hx,hy,he,Result.andThen_ok];cases r with
  |true=>simp[ih w]
  |false=>simp
theorem EqI.array{d t e m c xs ys r i}(hu:P.underlying t=some (.array m e))(hi:P.info? e=some i)(hc:P.cellsOf e=c)(h:EqI P d e c xs ys (List.range m) r):∀w,(Op.equalIn (d+1) t (.agg xs) (.agg ys)).run P w=.ok r w:=by
 intro w;subst hc;rw[run_equalIn_array w d xs ys hu hi];exact h.run w
theorem As8{k:TypeId}{m e d:Nat}{q:IntKind}{zs:LI}(hd:P.types.size=d+1)(hu:P.underlying k=some (.array m e))(hk:P.keyType k=true)(hc:zs.length=m)(he:P.underlying e=some (.int q))(h1:P.cellsOf e=1)(hm:P.cellsOf k=m)(hf:∀z∈zs,(Lit.int q z).wf=true):(keyOf P k (.agg (zs.map (Value.int q)).toArray)).isSome=true:=by
 unfold keyOf;rw[hu];have hfm:(Value.agg (zs.map (Value.int q)).toArray).formed P k=true:=by simp[Value.formed,hu,hm,hc]
 simp only[hk,hfm,Bool.and_self,if_true,Option.isSome_map];have hcl:(Value.agg (zs.map (Value.int q)).toArray).cells.toList=zs.map (Value.int q):=by simp[Value.cells]
 rw[hcl,hd];unfold Program.keyLits;simp only[hu];rw[iP (by simp[hm,hc]),Option.isSome_map];refine Aai _ fun i hi=>?_
 rw[List.mem_range] at hi;rw[h1,Nat.mul_one];have hlt:i<zs.length:=oo;have:((zs.map (Value.int q)).drop i).take 1=[.int q zs[i]]:=by
  rw[List.drop_eq_getElem_cons (sV hlt)];simp
 rw[this];unfold Program.keyLits;simp[he,hf zs[i] (gM hlt)]
end
end
end Go.Proofs.YtlejkgngmjchdaaGreat
