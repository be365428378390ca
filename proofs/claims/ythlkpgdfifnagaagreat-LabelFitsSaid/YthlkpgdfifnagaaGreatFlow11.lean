import Derived.Test.YthlkpgdfifnagaaGreatFlow
import Derived.Laws.BytesArg
import Derived.Laws.Strings
import Derived.Maps.OwnSet
import Derived.Maps.Views
import Derived.DeepKeys4
import Derived.RangeFuncRecord
import Derived.TacticsIn
import Derived.RangeFuncSeq
import Derived.Lib.LazyBuf
import Derived.ChangeKeysEq
import Derived.DeepKeys
namespace Go.Proofs.YthlkpgdfifnagaaGreat
open Go Go.RowKit
theorem Ayl{ρ:Type}{r:ρ}{p:Prop}(h:(none:Option ρ)=some r):p:=nomatch h
theorem Nm{α:Type}{enc:α->List Value}{sz:Nat}(he:∀ x,(enc x).length=sz):∀ m:List α,(m.flatMap enc).length=m.length*sz:=by
 intro m
 induction m with
 | nil=>simp
 | cons x r ih=>rw[List.flatMap_cons,List.length_append,he x,ih,List.length_cons,Nat.succ_mul];omega
theorem Has.dn0{α:Type}{K:List Ent}{A:Option Addr}{n c sz:Nat}{enc:α->List Value}{l:List α}(h:Has (K++[]) A n c sz enc l):Has K A n c sz enc l:=by rw[List.append_nil] at h;exact h
def raw(x:List Value):List Value:=x
def HasN{α:Type}(K:List Ent)(A:Option Addr)(n c sz:Nat)(R:List Ent->α->List Value->Prop)(l:List α):Prop :=
 ∃ hl:List (List Value),Has K A n c sz raw hl/\hl.length=l.length/\∀ (i:Nat) (h:i<l.length) (h':i<hl.length),R K l[i] hl[i]
theorem HasN.len{α:Type}{K:List Ent}{A:Option Addr}{n c sz:Nat}{R:List Ent->α->List Value->Prop}{l:List α}(h:HasN K A n c sz R l):l.length=n:=by
 obtain⟨hl,h1,h2,_⟩:=h;rw[<- h2];exact h1.len
theorem HasN.len'{α:Type}{K:List Ent}{A:Option Addr}{n c sz:Nat}{R:List Ent->α->List Value->Prop}{l:List α}(h:HasN K A n c sz R l):HasN K A l.length c sz R l:=by
 have:=h.len;subst this;exact h
theorem HasN.at_idx{α:Type}{K:List Ent}{A:Option Addr}{m c sz:Nat}{R:List Ent->α->List Value->Prop}{l:List α}{i:Int}{x:α}(h:HasN K A m c sz R l)(hi:idx l i=some x):
  ∃ (b o j:Nat) (ys:List Value),A=some ⟨b,o,none⟩/\i=(j:Int)/\j<m/\Pt K b (o+j*sz) ys/\R K x ys:=by
 obtain⟨hl,h1,h2,h3⟩:=h;obtain⟨j,hj,e1,e2⟩:=Aah hi;obtain⟨b,o,hA,hp⟩:=h1.elem (i:=j) oo;exact⟨b,o,j,_,hA,e1,by have:=h1.len;omega,hp,by rw[<- e2];exact h3 j hj oo⟩
theorem Pt.low{K E:List Ent}{w:World}{b o:Nat}{ys:List Value}(h:Pt (K++E) b o ys)(hK:∀ e∈K,Ent.ok w e):Pt (.old w::E) b o ys:=fun w' hw'=>h w' (fun e he=>by
 rcases List.mem_append.1 he with he | he
 ·exact Ent.ext (hK e he) (hw' (.old w) List.mem_cons_self)
 ·exact hw' e (List.mem_cons_of_mem _ he))
section
variable {P:Program} {n:Nat} {N:Act->World->Prop} {Q:Exit->Act->World->Prop} {fr:List (Nat × Value)} {L:List Ent}
theorem T_mr{α:Type}{enc:α->List Value}(l:List α){i g t sz cs q L'}(hL:SetE L i (.m g t cs) (.r (some ⟨g,0,none⟩) q q t sz (l.flatMap enc)) L')(hc:cs=l.flatMap enc)(hq:q=l.length)(he:∀ x,(enc x).length=sz)(hm:q<=maxLen)(k:T n N fr L'):T n N fr L:=by
 intro a w ha hw;refine k a w ha (Heap.turn (e:=.m g t cs) (e':=.r (some ⟨g,0,none⟩) q q t sz (l.flatMap enc)) (w:=w) (w':=w) ⟨rfl,rfl,rfl,Nat.le_refl _,fun _ _ _=>rfl⟩ ?_ (Nat.le_refl _) (fun g hg=>.inl hg) hL hw);have hok:w.heap[g]? = some (.cells cs.toArray t (0,0)):=hw.ok _ hL.mem;subst hc;subst hq;have hl:=Nm he l;exact⟨hl,.inr ⟨g,l.length,_,rfl,Nat.zero_le _,hok,Nat.le_refl _,hm,by simpa using hl,by show List.take _ (l.flatMap enc)=_;rw[<- hl,List.take_length]⟩⟩
theorem Af4{α:Type}{enc:α->List Value}{l r:List α}{i A m c t sz L'}(hp:∃ k,r=l.take k)(hL:SetE L i (.r A m c t sz (l.flatMap enc)) (.r A r.length c t sz (r.flatMap enc)) L')(hz:0<sz)(he:∀ x,(enc x).length=sz)(k:T n N fr L'):T n N fr L:=by
 obtain⟨q,rfl⟩:=hp;rcases Nat.le_total q l.length with h | h
 ·rw[List.length_take,Nat.min_eq_left h] at hL;exact Aqi hL h hz he k
 ·rw[List.take_of_length_le h] at hL;intro a w ha hw;have hm:m=l.length:=(Has.ofRow hz he (hw.ok _ hL.mem)).len.symm;subst hm;rw[hL.same rfl] at k;exact k a w ha hw
theorem Aoe(w:World)(r:Option Nat):w.grownBy w r:=⟨rfl,rfl,rfl,Nat.le_refl _,fun _ _ _=>rfl⟩
theorem Adi(P:Program)(w:World)(base:Nat)(t ty e:TypeId)(i:TypeInfo)(size:Nat)(ht:P.underlying t=some (.slice e))(hi:P.info? e=some i)(v:Value)(n:Nat)(xs:List Value)(hown:w.ownsRow base e size v n xs)(c:Nat):(Builtin.append_ #[t,t] ty #[v,.slice none 0 c]).run P w = .ok v w:=by
 rcases hown.2 with⟨rfl,rfl⟩|⟨g,cap,cur,rfl,_,_,hnc,_⟩
 ·simp[Builtin.append_,run_underlying ht,sizeOf,typeInfo,hi,Builtin.lenOf,Builtin.firstCells]
 ·simp[Builtin.append_,run_underlying ht,sizeOf,typeInfo,hi,Builtin.lenOf,Builtin.firstCells,hnc,storeCells]
theorem Acq{α:Type}(enc:α->List Value)(l ys:List α){d:Nat}{s x t e sz bytes A m c B q q' i ty'}{pos:String}{after:Array Edge}{guard:Option (Nat × Bool)}{L':Option Addr->Nat->List Ent}{K:List Ent}(hs:evo fr s=some (.slice A m c))(hx:evo fr x=some (.slice B q q'))(ht:Xf P t e sz bytes)(he:∀ x,(enc x).length=sz)(hy:Has K B q q' sz enc ys)(hK:SubE K L)(h1:∀ x,Tf (enc x)=true)(hb:(l.length+ys.length)*bytes<=140737488355328)(hd:Nat.blt d n=true)(hL:∀ A' c',SetE L i (.r A m c e sz (l.flatMap enc)) (.r A' (l++ys).length c' e sz ((l++ys).flatMap enc)) (L' A' c'))(h0:0<bytes)(k:∀ A' c',T n N ((d,.slice A' (l++ys).length c')::fr) (L' A' c')):
  Wh P Q n ⟨some d,.call ⟨.builtin .append,#[s,x],#[t,t]⟩,ty',pos,after,guard⟩ fr L N:=by
 intro a w ha hw;have hm:m=l.length:=(Has.ofRow ht.pos he (hw.ok _ (hL none 0).mem)).len.symm;subst hm;have hq:=hy.len;subst hq;have hl:=Nm he l;have hly:=Nm he ys;have h63:l.length+ys.length<=9223372036854775807:=by
  have h3:=Nat.mul_le_mul_left (l.length+ys.length) h0;rw[Nat.mul_succ,Nat.mul_zero,Nat.zero_add] at h3;omega
 obtain⟨i0,z,e1,e2,e3,e4,e5⟩:=ht.ex;have hown:w.ownsRow 0 e sz (.slice A l.length c) l.length (l.flatMap enc):=hw.ok _ (hL none 0).mem;have hsl:=hy.at hK hw;have hone:∀ u∈ys.flatMap enc,u.oneCell'=true:=by
  intro u hu;obtain⟨x,_,hu⟩:=List.mem_flatMap.1 hu;exact Sd (h1 x) u hu
 have main:∃ v' w',(Builtin.append_ #[t,t] ty' #[.slice A l.length c,.slice B ys.length q']).run P w = .ok v' w'/\w'.ownsRow 0 e sz v' (l.length+ys.length) (l.flatMap enc++ys.flatMap enc) /\
   w.grownBy w' (Value.slice A l.length c).ownBlock/\(v'.ownBlock=(Value.slice A l.length c).ownBlock\/v'.ownBlock=some w.heap.size):=by
  by_cases hn:0<ys.length
  ·obtain⟨b,o,hB,hcell⟩:=hsl.at_ hn;subst hB;have hnew:∀ (j:Nat) (u:Value),(ys.flatMap enc)[j]? = some u->w.cell? ((⟨b,o,none⟩:Addr).add j)=some u:=fun j u hj=>by
    have hjl:j<(ys.flatMap enc).length:=(List.getElem?_eq_some_iff.1 hj).1;rw[hly] at hjl;have hdm:j=j / sz*sz+j % sz:=by have:=Nat.div_add_mod j sz;rw[Nat.mul_comm] at this;omega
    have hq:j / sz<ys.length:=(Nat.div_lt_iff_lt_mul ht.pos).2 hjl;have hmod:=Nat.mod_lt j ht.pos;obtain⟨u',hu'⟩:∃ u',(enc ys[j / sz])[j % sz]? = some u':=⟨_,List.getElem?_eq_getElem (by rw[he ys[j / sz]];exact hmod)⟩;have hf:=Yp ys (j / sz) hq (fun x _=>he x) (j % sz) u' hu';rw[<- hdm,hj] at hf;injection hf with hf
    subst hf;have:=hcell (j / sz) hq (j % sz) u hu';rw[Addr.add_lit,hdm,<- Nat.add_assoc];exact this
   obtain⟨v',w',hr,h2,h3,_,h5⟩:=run_append_own_at (P:=P) w 0 t ty' e i0 z sz bytes ht.sl e1 e2 e3 e4 e5 ht.pos _ _ _ hown ⟨b,o,none⟩ ys.length q' (ys.flatMap enc) hly hnew hone (by unfold maxLen;omega) hb (Nat.zero_le _);exact⟨v',w',hr,h2,h3,h5⟩
  ·have h0:ys=[]:=List.eq_nil_of_length_eq_zero oo;subst h0;cases B with
   | none=>exact⟨_,w,Adi P w 0 t ty' e i0 sz ht.sl e1 _ _ _ hown q',by simpa using hown,Aoe w _,.inl rfl⟩
   | some b=>
    obtain⟨v',w',hr,h2,h3,_,h5⟩:=run_append_own_at (P:=P) w 0 t ty' e i0 z sz bytes ht.sl e1 e2 e3 e4 e5 ht.pos _ _ _ hown b 0 q' [] s_ (fun j u hj=>by simp at hj) (fun u hu=>by simp at hu) (by unfold maxLen;omega) hb (Nat.zero_le _);exact⟨v',w',hr,h2,h3,h5⟩
 obtain⟨v',w',hr,h2,h3,h5⟩:=main;have hlq:l.length+ys.length=(l++ys).length:=by rw[List.length_append]
 have hv':∃ A' c',v' = .slice A' (l.length+ys.length) c':=by
  rcases h2.2 with⟨hv,h0⟩|⟨g',cap,cur,hv,_⟩
  ·exact⟨none,0,by rw[hv,h0]⟩
  ·exact⟨_,_,hv⟩
 obtain⟨A',c',rfl⟩:=hv';rw[hlq] at hr h2 h5;rw[<- List.flatMap_append] at h2;have hrun:(execOp a.eval ⟨some d,.call ⟨.builtin .append,#[s,x],#[t,t]⟩,ty',pos,after,guard⟩).run P w = .ok (.value (.slice A' (l++ys).length c')) w':=by
  simp[execOp,resolve,invoke,builtin,ha.eval hs,ha.eval hx,hr]
 simp only[Oper.wp,hrun,Oper.upon_value];refine k A' c' _ _ (ha.put hd) (Heap.turn (e:=.r A l.length c e sz (l.flatMap enc)) (e':=.r A' (l++ys).length c' e sz ((l++ys).flatMap enc)) h3 h2 (Nat.le_refl _) (fun g' hg'=>?_) (hL A' c') hw);simp only[Ent.blk] at hg' ⊢;rcases h5 with h5 | h5
 ·left;rw[<- h5];exact hg'
 ·right;rw[h5] at hg';injection hg' with hg';omega
theorem Ap4{t x k a}{dst:Option Tmp}{ty:TypeId}{pos:String}{after:Array Edge}{guard:Option (Nat × Bool)}(hx:evo fr x=some (.int k a)):Ev P n ⟨dst,.unOp .xor t x,ty,pos,after,guard⟩ fr L (.int k (Abd k (if k.signed then -1 else k.max) a)):=fun ac w ha _=>by
 simp only[execOp,ha.eval hx,Op.unary,Op.intBits];rfl
end
section
variable {P:Program} {n:Nat} {fr:List (Nat × Value)} {L:List Ent}
variable {dst:Option Tmp} {ty:TypeId} {pos:String} {after:Array Edge} {guard:Option (Nat × Bool)}
theorem Acr{t t' x y a b}(hx:evo fr x=some (.int .i64 a))(hy:evo fr y=some (.int .i64 b)):Ev P n ⟨dst,.binOp .add t x y t',ty,pos,after,guard⟩ fr L (.int .i64 (w64 (a+b))):=Alm hx hy
theorem Agx{t t' x y a b}(hx:evo fr x=some (.int .i64 a))(hy:evo fr y=some (.int .i64 b)):Ev P n ⟨dst,.binOp .sub t x y t',ty,pos,after,guard⟩ fr L (.int .i64 (w64 (a-b))):=Aln hx hy
theorem Agy{t t' x y a b}(hx:evo fr x=some (.int .i64 a))(hy:evo fr y=some (.int .i64 b)):Ev P n ⟨dst,.binOp .mul t x y t',ty,pos,after,guard⟩ fr L (.int .i64 (w64 (a*b))):=Alo hx hy
theorem Acs{t t' x y a b}(hx:evo fr x=some (.int .i64 a))(hy:evo fr y=some (.int .i64 b))(h:b≠0):Ev P n ⟨dst,.binOp .quo t x y t',ty,pos,after,guard⟩ fr L (.int .i64 (w64 (Int.tdiv a b))):=Arz hx hy h
theorem Agz{t x a}(hx:evo fr x=some (.int .i64 a)):Ev P n ⟨dst,.unOp .neg t x,ty,pos,after,guard⟩ fr L (.int .i64 (w64 (-a))):=Aqk hx
theorem Ae4{src dt x k v}(hx:evo fr x=some (.int k v))(hs:(P.underlying src).isSome=true)(hd:P.underlying dt=some (.int .i64)):Ev P n ⟨dst,.convert src dt x,ty,pos,after,guard⟩ fr L (.int .i64 (w64 v)):=Agh hx hs hd
theorem Ae5{t t' x y a b}(hx:evo fr x=some (.int .u64 a))(hy:evo fr y=some (.int .u64 b)):Ev P n ⟨dst,.binOp .add t x y t',ty,pos,after,guard⟩ fr L (.int .u64 (wu64 (a+b))):=Alm hx hy
theorem Ae6{t t' x y a b}(hx:evo fr x=some (.int .u64 a))(hy:evo fr y=some (.int .u64 b)):Ev P n ⟨dst,.binOp .sub t x y t',ty,pos,after,guard⟩ fr L (.int .u64 (wu64 (a-b))):=Aln hx hy
theorem Ae7{t t' x y a b}(hx:evo fr x=some (.int .u64 a))(hy:evo fr y=some (.int .u64 b)):Ev P n ⟨dst,.binOp .mul t x y t',ty,pos,after,guard⟩ fr L (.int .u64 (wu64 (a*b))):=Alo hx hy
theorem Amb{t t' x y a b}(hx:evo fr x=some (.int .u64 a))(hy:evo fr y=some (.int .u64 b))(h:b≠0):Ev P n ⟨dst,.binOp .quo t x y t',ty,pos,after,guard⟩ fr L (.int .u64 (wu64 (Int.tdiv a b))):=Arz hx hy h
theorem Amc{t x a}(hx:evo fr x=some (.int .u64 a)):Ev P n ⟨dst,.unOp .neg t x,ty,pos,after,guard⟩ fr L (.int .u64 (wu64 (-a))):=Aqk hx
theorem Ym{src dt x k v}(hx:evo fr x=some (.int k v))(hs:(P.underlying src).isSome=true)(hd:P.underlying dt=some (.int .u64)):Ev P n ⟨dst,.convert src dt x,ty,pos,after,guard⟩ fr L (.int .u64 (wu64 v)):=Agh hx hs hd
theorem Ae8{t t' x y a b}(hx:evo fr x=some (.int .u32 a))(hy:evo fr y=some (.int .u32 b)):Ev P n ⟨dst,.binOp .add t x y t',ty,pos,after,guard⟩ fr L (.int .u32 (wu32 (a+b))):=Alm hx hy
theorem Ae9{t t' x y a b}(hx:evo fr x=some (.int .u32 a))(hy:evo fr y=some (.int .u32 b)):Ev P n ⟨dst,.binOp .sub t x y t',ty,pos,after,guard⟩ fr L (.int .u32 (wu32 (a-b))):=Aln hx hy
theorem Afa{t t' x y a b}(hx:evo fr x=some (.int .u32 a))(hy:evo fr y=some (.int .u32 b)):Ev P n ⟨dst,.binOp .mul t x y t',ty,pos,after,guard⟩ fr L (.int .u32 (wu32 (a*b))):=Alo hx hy
theorem Akf{src dt x k v}(hx:evo fr x=some (.int k v))(hs:(P.underlying src).isSome=true)(hd:P.underlying dt=some (.int .u32)):Ev P n ⟨dst,.convert src dt x,ty,pos,after,guard⟩ fr L (.int .u32 (wu32 v)):=Agh hx hs hd
theorem Amd{src dt x k v}(hx:evo fr x=some (.int k v))(hs:(P.underlying src).isSome=true)(hd:P.underlying dt=some (.int .u8)):Ev P n ⟨dst,.convert src dt x,ty,pos,after,guard⟩ fr L (.int .u8 (wu8 v)):=Agh hx hs hd
end
def cpy{α:Type}(l:List α)(p:Nat)(ys:List α):List α:=l.take p++ys.take (l.length-p)++l.drop (p+ys.length)
theorem Aba{α:Type}{l:List α}{p:Nat}{ys:List α}(h:p<=l.length):(cpy l p ys).length=l.length:=by
 simp only[cpy,List.length_append,List.length_take,List.length_drop];omega
theorem Auo{α:Type}{enc:α->List Value}{sz:Nat}(hz:0<sz)(he:∀ x,(enc x).length=sz)(l:List α)(j:Nat)(u:Value)(hj:(l.flatMap enc)[j]? = some u):∃ h:j / sz<l.length,(enc l[j / sz])[j % sz]? = some u:=by
 have hjl:j<(l.flatMap enc).length:=(List.getElem?_eq_some_iff.1 hj).1;rw[Nm he l] at hjl;have hdm:j=j / sz*sz+j % sz:=by have:=Nat.div_add_mod j sz;rw[Nat.mul_comm] at this;omega
 have hq:j / sz<l.length:=(Nat.div_lt_iff_lt_mul hz).2 hjl;have hmod:=Nat.mod_lt j hz;refine⟨hq,?_⟩;obtain⟨u',hu'⟩:∃ u',(enc l[j / sz])[j % sz]? = some u':=⟨_,List.getElem?_eq_getElem (by rw[he l[j / sz]];exact hmod)⟩;have hf:=Yp l (j / sz) hq (fun x _=>he x) (j % sz) u' hu';rw[<- hdm,hj] at hf;injection hf with hf
 subst hf;exact hu'
section
variable {P:Program} {n:Nat} {N:Act->World->Prop} {Q:Exit->Act->World->Prop} {fr:List (Nat × Value)} {L:List Ent}
theorem Ag0{α:Type}{enc:α->List Value}{sz:Nat}{z:Array Value}(x0:α)(hz:0<sz)(he:∀ x,(enc x).length=sz)(h0:enc x0=z.toList)(m:Nat):madeCells z (m*sz)=((List.replicate m x0).flatMap enc).toArray:=by
 have hzs:z.size=sz:=by rw[<- he x0,h0];simp
 apply Array.ext
 ·rw[size_madeCells];simp only[List.size_toArray];rw[Nm he,List.length_replicate]
 ·intro i h1 h2;have h2':i<((List.replicate m x0).flatMap enc).length:=by simpa using h2
  obtain⟨v,hv⟩:∃ v,((List.replicate m x0).flatMap enc)[i]? = some v:=⟨_,List.getElem?_eq_getElem h2'⟩;obtain⟨hq,hu⟩:=Auo hz he _ i _ hv;have hx:(List.replicate m x0)[i / sz]=x0:=List.getElem_replicate _;rw[hx,h0] at hu;have hmod:i % sz<z.size:=by rw[hzs];exact Nat.mod_lt _ hz
  rw[Array.getElem?_toList,Array.getElem?_eq_getElem hmod] at hu;injection hu with hu
  have hv':((List.replicate m x0).flatMap enc).toArray[i]=v:=by
   rw[List.getElem_toArray];exact (List.getElem?_eq_some_iff.1 hv).2
  rw[hv',<- hu];simp only[madeCells,Array.getElem_map,Array.getElem_range,hzs];exact getElem!_pos z (i % sz) hmod
theorem Aup{α:Type}(enc:α->List Value)(x0:α){d:Nat}{t e x y k1 k2 i1 i2 i z sz}{ty:TypeId}{pos:String}{after:Array Edge}{guard:Option (Nat × Bool)}(hx:evo fr x=some (.int k1 i1))(hy:evo fr y=some (.int k2 i2))(h12:i1=i2)(hp:0<=i1)(ht:P.underlying t=some (.slice e))(hi:P.info? e=some i)(hz:i.zero=some z)(hzc:enc x0=z.cells.toList)(hs:i.size=sz)(hsz:0<sz)(he:∀ x,(enc x).length=sz)(hb:i.bytes*i1.toNat<=140737488355328)(hb0:0<i.bytes)(hd:Nat.blt d n=true)(k:∀ A,T n N ((d,.slice A (List.replicate i1.toNat x0).length (List.replicate i1.toNat x0).length)::fr) (.r A (List.replicate i1.toNat x0).length (List.replicate i1.toNat x0).length e sz ((List.replicate i1.toNat x0).flatMap enc)::L)):
  Wx P Q n ⟨some d,.makeSlice t x y,ty,pos,after,guard⟩ fr L N:=by
 subst h12;have h2:=Nat.mul_le_mul_right i1.toNat hb0;rw[Nat.succ_mul,Nat.zero_mul,Nat.zero_add] at h2;have hb':(i.bytes:Int)*i1<=281474976710656:=by
  have h:((i.bytes*i1.toNat:Nat):Int)<=281474976710656:=oo;rw[Int.natCast_mul,Int.toNat_of_nonneg oo] at h;exact h
 refine Ar2 (by rw[Nm he]) (by rw[List.length_replicate];unfold maxLen;omega) (fun a w ha _=>?_) hd k;have hr:=run_make (P:=P) w t e i z ht hi hz k1 k2 i1 i1 hp (Int.le_refl _) hb' oo;rw[hs,Ag0 x0 hsz he hzc] at hr;rw[List.length_replicate];simp[execOp,ha.eval hx,ha.eval hy,hr]
end
theorem SubE.appC{K E L:List Ent}(h:SubE K L)(h':SubE E L):SubE (K++E) L:=⟨fun w hw x hx=>by
 rcases List.mem_append.1 hx with hx | hx
 ·exact h.ok w hw _ hx
 ·exact h'.ok w hw _ hx⟩
def CtK(P:Program)(f:FuncId)(vs:List Value)(K Lp:List Ent)(R:Value->List Ent->Prop):Prop :=
 Wi P f/\∀ Lf w,SubE K Lf->Heap (Lp++Lf) w->Calls P f vs.toArray w fun e w'=>∃ v Ln,e = .returned v/\R v Ln/\Heap (Ln++Lf) w'
section
variable {P:Program} {n:Nat} {N:Act->World->Prop} {Q:Exit->Act->World->Prop} {fr:List (Nat × Value)} {L:List Ent}
theorem CtK.mk{f : FuncId}{fn : Func}{c : Code}{vs : List Value}{K Lp : List Ent}{R : Value -> List Ent -> Prop}(m : Nat)(hf : P.funcs[f]? = some fn)(hb : fn.body = some c)(hm : fn.ntmps = m)(hn : (fn.name == "runtime.NumGoroutine") = false)(hl:Nat.ble vs.length m=true)(k:∀ Lf,SubE K Lf->T m (c.wp P (bodyPost P fn fun e w'=>∃ v Ln,e = .returned v/\R v Ln/\Heap (Ln++Lf) w')) (Xg vs 0) (Lp++Lf)):CtK P f vs K Lp R:=by
 refine⟨⟨fn,hf,hn,by rw[hb];rfl⟩,fun Lf w hK hw=>calls_of_wp hf hb ?_⟩;rw[hm];exact k Lf hK _ w (Alq vs m (Nat.le_of_ble_eq_true hl)) hw
theorem Ag1{d:Nat}{pos:String}{after:Array Edge}{guard:Option (Nat × Bool)}{f:FuncId}{xs:List Operand}{vs:List Value}{ts:Array TypeId}{ty':TypeId}{K Lp Lf:List Ent}{R:Value->List Ent->Prop}(hx:evos fr xs=some vs)(hp:Hd L (Lp++Lf))(hsub:SubE K Lf)(hc:CtK P f vs K Lp R)(hd:Nat.blt d n=true)(k:∀ v Ln,R v Ln->T n N ((d,v)::fr) (Ln++Lf)):Wh P Q n ⟨some d,.call ⟨.value (.func f),xs.toArray,ts⟩,ty',pos,after,guard⟩ fr L N:=by
 intro a w ha hw;simp only[Oper.wp,Ad4 hc.1 ha hx,Oper.upon_enter];refine (hc.2 Lf w hsub (hw.pick hp)).mono ?_;rintro e w' ⟨v,Ln,rfl,hR,hh⟩;exact k v Ln hR _ _ (ha.put hd) hh
theorem Bbq{fn:Func}{R:Value->List Ent->Prop}{Lf:List Ent}{rs vs}{Ln:List Ent}(hr:fn.results=rs.toArray)(h:Res P fr L rs vs)(hR:R (Tg vs) Ln)(hs:Hd L (Ln++Lf)):
  T n (bodyPost P fn (fun e w'=>∃ v Ln,e = .returned v/\R v Ln/\Heap (Ln++Lf) w') .ret) fr L :=
 Ax5 hr h fun _ hw=>⟨_,Ln,rfl,hR,hw.pick hs⟩
theorem Aof{fn:Func}{R:Value->List Ent->Prop}{Lf:List Ent}{rs vs}{Ln:List Ent}(hr:fn.results=rs.toArray)(h:Res P fr L rs vs)(hR:R (Tg vs) Ln)(hs:Hd L (Ln++Lf)):
  T n (bodyPost P fn (fun e w'=>∃ v Ln,e = .returned v/\R v Ln/\Heap (Ln++Lf) w') .normal) fr L :=
 Be1 hr h fun _ hw=>⟨_,Ln,rfl,hR,hw.pick hs⟩
theorem Afb{x a}{dst:Option Tmp}{ty:TypeId}{pos:String}{after:Array Edge}{guard:Option (Nat × Bool)}(hx:evo fr x=some (.pointer (some a))):Ev P n ⟨dst,.nilCheck x,ty,pos,after,guard⟩ fr L (.pointer (some a)):=fun ac w ha _=>by
 simp[execOp,ha.eval hx]
end
def Ent.blks:Ent->List Nat
 | .old _=>[]
 | .m g _ _=>[g]
 | .r (some a) _ _ _ _ _=>[a.block]
 | .r none _ _ _ _ _=>[]
 | .f S _=>S
theorem Ent.own_blks{e:Ent}{g:Nat}:e.own g↔g∈e.blks:=by
 cases e with
 | old w=>simp[Ent.own,Ent.blks]
 | m g' t cs=>simp[Ent.own,Ent.blks,eq_comm]
 | r A n c t sz xs=>cases A <;> simp[Ent.own,Ent.blks,eq_comm]
 | f S φ=>simp[Ent.own,Ent.blks]
def bun(es:List Ent):Ent:=.f (es.flatMap Ent.blks) (fun w=>∀ e∈es,Ent.ok w e)
theorem Ent.ok_blks{e:Ent}(hl:e.low=0){w w':World}(h:Ent.ok w e)(hb:∀ g∈e.blks,w'.heap[g]? = w.heap[g]?):Ent.ok w' e:=by
 have hsz:∀ g,g<w.heap.size->g∈e.blks->g<w'.heap.size:=fun g hg hm=>by
  have h1:=hb g hm;rw[Array.getElem?_eq_getElem hg] at h1;exact Dw h1
 cases e with
 | old w0=>simp[Ent.low] at hl
 | m g t cs=>exact (hb g (by simp[Ent.blks])).trans h
 | r A n c t sz xs=>
  obtain⟨h1,h2⟩:=h;refine⟨h1,?_⟩;rcases h2 with h2 | ⟨g,cap,cur,hv,hb',hh,rest⟩
  ·exact .inl h2
  ·refine .inr ⟨g,cap,cur,hv,hb',?_,rest⟩;refine (hb g ?_).trans hh;rw[<- Ent.own_blks,Ent.own_r,hv];rfl
 | f S φ=>
  obtain⟨h1,h2,h3⟩:=h;exact⟨fun g hg=>hsz g (h1 g hg) hg,h3 w w' h2 hb,h3⟩
theorem Bbr{es:List Ent}(hl:∀ e∈es,e.low=0){w:World}(h:∀ e∈es,Ent.ok w e):Ent.ok w (bun es):=by
 refine⟨fun g hg=>?_,h,fun w1 w2 h1 hb e he=>Ent.ok_blks (hl e he) (h1 e he) (fun g hg=>hb g (List.mem_flatMap.2 ⟨e,he,hg⟩))⟩;obtain⟨e,he,hg⟩:=List.mem_flatMap.1 hg;exact Ent.lt (h e he) (Ent.own_blks.2 hg)
theorem Ap5{es:List Ent}{w:World}(h:Ent.ok w (bun es)):∀ e∈es,Ent.ok w e:=h.2.1
theorem Af5{es L:List Ent}{w:World}(hl:∀ e∈es,e.low=0)(h:Heap (es++L) w):Heap (bun es::L) w:=by
 have hp:=List.pairwise_append.1 h.sep;refine⟨fun e he=>?_,?_⟩
 ·rcases List.mem_cons.1 he with rfl | he
  ·exact Bbr hl (fun e he=>h.ok e (List.mem_append_left _ he))
  ·exact h.ok e (List.mem_append_right _ he)
 ·rw[List.pairwise_cons];refine⟨fun x hx=>⟨fun g hg=>?_,fun g hg=>⟨Nat.zero_le _,fun hb=>?_⟩⟩,hp.2.1⟩
  ·obtain⟨e,he,hg⟩:=List.mem_flatMap.1 (show g∈es.flatMap Ent.blks from hg);exact (hp.2.2 e he x hx).1 g (Ent.own_blks.2 hg)
  ·obtain⟨e,he,hb⟩:=List.mem_flatMap.1 (show g∈es.flatMap Ent.blks from hb);exact ((hp.2.2 e he x hx).2 g hg).2 (Ent.own_blks.2 hb)
theorem SubE.consB{K L es:List Ent}{e:Ent}{i j:Nat}(h:nthE L i=some (bun es))(hj:nthE es j=some e)(h':SubE K L):SubE (e::K) L:=⟨fun w hw x hx=>by
 rcases List.mem_cons.1 hx with rfl | hx
 ·exact Ap5 (hw _ (Fp h)) _ (Fp hj)
 ·exact h'.ok w hw _ hx⟩
theorem Auq{n:Nat}{N:Act->World->Prop}{fr:List (Nat × Value)}{L Lr es:List Ent}(hp:Hd L (es++Lr))(hl:∀ e∈es,e.low=0)(k:T n N fr (bun es::Lr)):T n N fr L :=
 fun a w ha hw=>k a w ha (Af5 hl (hw.pick hp))
def Aog(P:Program)(s:TypeId)(xs:List Value)(f:Nat)(v:Value):Prop:=∀ w,(Instr.field s (.agg xs.toArray) f).run P w = .ok v w
theorem Ai5{P:Program}{n:Nat}{fr:List (Nat × Value)}{L:List Ent}{dst:Option Tmp}{ty:TypeId}{pos:String}{after:Array Edge}{guard:Option (Nat × Bool)}{s:TypeId}{x:Operand}{f:Nat}{xs:List Value}{v:Value}(hx:evo fr x=some (.agg xs.toArray))(h:Aog P s xs f v):
  Ev P n ⟨dst,.field s x f,ty,pos,after,guard⟩ fr L v:=fun a w ha _=>by
 simp[execOp,ha.eval hx,h w]
abbrev Vec(sz:Nat):Type:={v:List Value // v.length=sz}
section
variable {n:Nat} {N:Act->World->Prop} {fr:List (Nat × Value)} {L:List Ent}
end
open Go.Maps (Keyed)
def Akg(P:Program)(t:TypeId)(xs:List Value):Prop:=∀ (j:Nat) (h:j<xs.length) (k:IntKind) (w:World),(Instr.index t (.agg xs.toArray) (.int k (j:Int))).run P w = .ok xs[j] w
theorem Ase{P:Program}{n:Nat}{fr:List (Nat × Value)}{L:List Ent}{dst:Option Tmp}{ty:TypeId}{pos:String}{after:Array Edge}{guard:Option (Nat × Bool)}{t:TypeId}{x i:Operand}{kd k:IntKind}{xs:List Value}{ys:List Int}{z v:Int}(hx:evo fr x=some (.agg xs.toArray))(hxs:xs=ys.map (Value.int kd))(hi:evo fr i=some (.int k z))(hV:Akg P t xs)(hz:idx ys z=some v):Ev P n ⟨dst,.index t x i,ty,pos,after,guard⟩ fr L (.int kd v):=fun a w ha _=>by
 subst hxs;unfold idx at hz;split at hz
 ·rename_i h0;obtain⟨hlt,he⟩:=List.getElem?_eq_some_iff.1 hz;have:=hV z.toNat (by simpa using hlt) k w;rw[Int.toNat_of_nonneg h0] at this;simp only[execOp,ha.eval hx,ha.eval hi,this,Sem.run_bind,Result.andThen,List.getElem_map,he];rfl
 ·cases hz
def RV(v:Value):Option (DataW Value × List MemPlace):=some (.held v,[])
noncomputable def klOf(P:Program)(k:TypeId)(v:Value):Lit:=(keyOf P k v).getD (.bool true)
theorem Lw{P:Program}{k:TypeId}{v:Value}(h:(keyOf P k v).isSome=true):keyOf P k v=some (klOf P k v):=by
 unfold klOf;cases hk:keyOf P k v with
 | none=>rw[hk] at h;cases h
 | some l=>rfl
section
variable {κ υ:Type}
noncomputable def mapD(P:Program)(k:TypeId)(ke:κ->Value)(ve:υ->Value):List (κ × υ)->DataW Value
 | []=>.map []
 | p::r=>(mapD P k ke ve r).put (klOf P k (ke p.1)) (.held (ve p.2))
open Classical in
noncomputable def mget(m:List (κ × υ))(x:κ):Option υ:=match m with
 | []=>none
 | p::r=>if p.1=x then some p.2 else mget r x
theorem Aur{x:κ}:mget ([]:List (κ × υ)) x=none:=rfl
open Classical in
theorem Tm{p:κ × υ}{r:List (κ × υ)}{x:κ}:mget (p::r) x=if p.1=x then some p.2 else mget r x:=rfl
def mval(ve:υ->Value)(z:Value):Option υ->Value
 | some v=>ve v
 | none=>z
variable {P:Program} {k:TypeId} {ke:κ->Value} {ve:υ->Value} {b:Nat} {m:List (κ × υ)}
theorem Acu:∀ {m:List (κ × υ)},Maps.IsMap (mapD P k ke ve m)
 | []=>⟨_,rfl⟩
 | p::r=>by
  obtain⟨es,h⟩:=Acu (m:=r);unfold mapD;rw[h];exact⟨_,rfl⟩
theorem Ai6(K:Keyed P k)(hke:∀ x y,ke x=ke y->x=y){x:κ}(hx:(keyOf P k (ke x)).isSome=true)(z:Value):
  ∀ {m:List (κ × υ)},(∀ p∈m,(keyOf P k (ke p.1)).isSome=true)->(mapD P k ke ve m).atKey (klOf P k (ke x)) (.held z) = .held (mval ve z (mget m x))/\Maps.has (mapD P k ke ve m) (klOf P k (ke x))=(mget m x).isSome
 | [],_=>⟨rfl,rfl⟩
 | p::r,h=>by
  have ih:=Ai6 K hke hx z (m:=r) (fun q hq=>h q (List.mem_cons_of_mem _ hq));have hp:=Lw (h p List.mem_cons_self);have hxs:=Lw hx;unfold mapD
  by_cases he:p.1=x
  ·rw[Tm,if_pos he,he];exact⟨Maps.atKey_put_same Acu (K.key hxs) _ _,Maps.has_put_same Acu (K.key hxs) _⟩
  ·have hne:klOf P k (ke x)≠klOf P k (ke p.1):=fun e=>he (hke _ _ (K.inj hp (by rw[hxs,e])))
   rw[Tm,if_neg he,Maps.atKey_put_other hne,Maps.has_put_other hne];exact ih
section
variable {n:Nat} {fr:List (Nat × Value)} {L:List Ent} {N:Act->World->Prop} {Q:Exit->Act->World->Prop} {d:Nat} {dst:Option Tmp} {ty:TypeId} {pos:String} {after:Array Edge} {guard:Option (Nat × Bool)}
theorem Adj{L:List Ent}{i:Nat}{e:Ent}(h:nthE L i=some e):e∈L:=by
 induction L generalizing i with
 | nil=>simp[nthE] at h
 | cons x r ih=>
  cases i with
  | zero=>simp[nthE] at h;subst h;exact List.mem_cons_self
  | succ i=>exact List.mem_cons_of_mem _ (ih h)
theorem Ai7{o:Option υ}{z0 u:υ}(h:some (o.getD z0)=some u):mval ve (ve z0) o=ve u:=by
 obtain rfl:=Option.some.inj h;cases o <;> rfl
end
end
theorem Bbs{P:Program}{k:TypeId}{q:IntKind}(hk:P.underlying k=some (.int q)){a:Int}(hw:(Lit.int q a).wf=true):(keyOf P k (.int q a)).isSome=true:=by rw[Maps.keyOf_int_mk hk hw];rfl
theorem Ag2{z:Int}(h:-9223372036854775808<=z/\z<=9223372036854775807):(Lit.int .i64 z).wf=true:=by
 have h1:IntKind.i64.min = -9223372036854775808:=rfl;have h2:IntKind.i64.max=9223372036854775807:=rfl;simp only[Lit.wf,Bool.and_eq_true,decide_eq_true_eq];omega
theorem Aaa{α β:Type}{g:α->Option β}:∀ (l:List α),(∀ x∈l,(g x).isSome=true)->(l.mapM g).isSome=true
 | [],_=>rfl
 | x::r,h=>by
  have h1:=h x List.mem_cons_self;have ih:=Aaa r (fun y hy=>h y (List.mem_cons_of_mem _ hy));rw[List.mapM_cons];cases hx:g x with
  | none=>rw[hx] at h1;cases h1
  | some y=>
   cases hr:r.mapM g with
   | none=>rw[hr] at ih;cases ih
   | some ys=>rfl
theorem Aoh{P : Program}{k : TypeId}{fs : Array Field}{cs : List Value}{d : Nat}(hd : P.types.size = d + 1)(hu : P.underlying k = some (.struct fs))(hk : P.keyType k = true)(hc : cs.length = P.cellsOf k)(hn : fs.all (·.name != "_") = true)(hf:∀ f∈fs.toList,∃ q n,P.underlying f.type=some (.int q)/\(cs.drop f.offset).take (P.cellsOf f.type)=[.int q n]/\(Lit.int q n).wf=true):(keyOf P k (.agg cs.toArray)).isSome=true:=by
 unfold keyOf;rw[hu];have hfm:(Value.agg cs.toArray).formed P k=true:=by simp[Value.formed,hu,hc]
 simp only[hk,hfm,Bool.and_self,if_true,Option.isSome_map];have hcl:(Value.agg cs.toArray).cells.toList=cs:=by simp[Value.cells]
 rw[hcl,hd];unfold Program.keyLits;simp only[hu];rw[if_pos ⟨hc,hn⟩,Option.isSome_map];refine Aaa _ fun f hfm=>?_
 obtain⟨q,n,h1,h2,h3⟩:=hf f hfm;rw[h2];unfold Program.keyLits;simp[h1,h3]
end Go.Proofs.YthlkpgdfifnagaaGreat
namespace Go.Proofs.YthlkpgdfifnagaaGreat
open Go Go.RowKit
def FL(ro:Option Nat):Fence:={ Fence.wide with round:=ro }
def Dp(ds:List Deferred)(N:Act->World->Prop)(a:Act)(w:World):Prop:=a.defers=[]/\N { a with defers:=ds } w
theorem Ag3{a:Act}{ds:List Deferred}{d:Option Tmp}{v:Value}:({ a with defers:=ds }:Act).put d v = { (a.put d v) with defers:=ds }:=by cases d <;> rfl
theorem Aym{a:Act}{d:Option Tmp}{v:Value}:(a.put d v).defers=a.defers:=by cases d <;> rfl
theorem Akh{a:Act}{ds:List Deferred}:({ a with defers:=ds }:Act).eval=a.eval:=by funext x;cases x <;> rfl
theorem Asf{ro:Option Nat}{m:Nat}{P:Program}{row:String}{args:Array Value}{w:World}{R:Value->World->Prop}(h:Rows P row args w R):RowsIn (FL ro) m P row args w R:=fun c cs _=>by
 obtain⟨v,w',h1,h2⟩:=h c cs;exact⟨v,w',h1,(StepsIn.of_steps h2).mono fun x _=>fenced_wide P x⟩
theorem Ag4{ro:Option Nat}{m:Nat}{P:Program}{f:FuncId}{args:Array Value}{w:World}{R:Ending->World->Prop}(h:Calls P f args w R):CallsIn (FL ro) m P f args w R:=(callsIn_wide (n:=m)).2 h
theorem Ayn{P:Program}{ro:Option Nat}{m:Nat}{o:Oper}{a:Act}{ds:List Deferred}{N:Act->World->Prop}{Q:Exit->Act->World->Prop}{r:Result Next}(h:o.upon P a (Dp ds N) (fun _ _ _=>False) r):o.uponIn (FL ro) m P { a with defers:=ds } N Q r:=by
 unfold Oper.upon at h;split at h
 ·rw[Oper.uponIn_value,Ag3];exact h.2
 ·rw[Oper.uponIn_skip,Ag3];exact h.2
 ·have:=h.1;rw[Aym] at this;cases this
 ·rw[Oper.uponIn_enter];refine⟨(fun h=>nomatch h),Ag4 (h.mono ?_)⟩;intro e w' he;cases e with
  | returned v=>have:=he.2;rw[<- Ag3] at this;exact this
  | panicked c=>exact he.elim
  | outgrown=>obtain⟨_,_,h⟩:=he;exact h.elim
 ·rw[Oper.uponIn_row];refine⟨(fun h=>nomatch h),Asf (h.mono ?_)⟩;intro v w' he;have:=he.2;rw[<- Ag3] at this;exact this
 ·exact h.elim
 ·exact h.elim
section
variable {P:Program} {n m:Nat} {ro:Option Nat} {ds:List Deferred} {ops:Array Oper} {Q:Exit->Act->World->Prop} {fr:List (Nat × Value)} {L:List Ent} {rest:List Oper} {N:Act->World->Prop}
variable {dst:Option Tmp} {d:Nat} {op:Op} {ty:TypeId} {pos:String} {after:Array Edge} {guard:Option (Nat × Bool)}
theorem Aus(hnd:∀ c,op≠.defer c){a:Act}{w:World}(h:(⟨dst,op,ty,pos,after,none⟩:Oper).wp P a w (Dp ds (wpListIn (FL ro) m P ops Q rest)) (fun _ _ _=>False)):
  wpListIn (FL ro) m P ops Q (⟨dst,op,ty,pos,after,none⟩ :: rest) { a with defers:=ds } w:=by
 refine wpListIn_plain rfl (fun K hK=>⟨fun _ _=>trivial,?_⟩);rw[Akh,Oper.semAt_eq _ _ _ hnd];refine Ayn (N:=K) ?_;exact Oper.wp_mono (fun a' w' h=>⟨h.1,hK _ _ h.2⟩) h
theorem I_x(h:Wx P (fun _ _ _=>False) n ⟨dst,op,ty,pos,after,none⟩ fr L (Dp ds (wpListIn (FL ro) m P ops Q rest)))(hnd:∀ c,op≠.defer c:=by intro c h;cases h):
  T n (Dp ds (wpListIn (FL ro) m P ops Q (⟨dst,op,ty,pos,after,none⟩ :: rest))) fr L :=
 fun a w ha hw=>⟨ha.nod,Aus hnd (Oper.wp_mono (fun _ _ h=>h.2) (h a w ha hw))⟩
theorem I_h(h:Wh P (fun _ _ _=>False) n ⟨dst,op,ty,pos,after,none⟩ fr L (Dp ds (wpListIn (FL ro) m P ops Q rest)))(hnd:∀ c,op≠.defer c:=by intro c h;cases h):
  T n (Dp ds (wpListIn (FL ro) m P ops Q (⟨dst,op,ty,pos,after,none⟩ :: rest))) fr L :=
 fun a w ha hw=>⟨ha.nod,Aus hnd (h a w ha hw)⟩
theorem Re{v:Value}(h:Ev P n ⟨some d,op,ty,pos,after,none⟩ fr L v)(hd:Nat.blt d n=true)(k:T n (Dp ds (wpListIn (FL ro) m P ops Q rest)) ((d,v)::fr) L)(hnd:∀ c,op≠.defer c:=by intro c h;cases h):
  T n (Dp ds (wpListIn (FL ro) m P ops Q (⟨some d,op,ty,pos,after,none⟩ :: rest))) fr L:=by
 refine I_h (fun a w ha hw=>?_) hnd;simp only[Oper.wp,h a w ha hw.ok,Oper.upon_value];exact k _ _ (ha.put hd) hw
theorem Xk(k:T n (Dp ds (Q .normal)) fr L):T n (Dp ds (wpListIn (FL ro) m P ops Q [])) fr L:=k
theorem Bbt(k:T n (Q .normal) fr L):T n (Dp [] (wpListIn (FL ro) m P ops Q [])) fr L:=fun a w ha hw=>⟨ha.nod,by
 have:=k a w ha hw;have he:({ a with defers:=[] }:Act)=a:=by rw[<- ha.nod]
 show Q .normal _ w;rw[he];exact this⟩
theorem Xl{id:Nat}{l:List Oper}(k:T n (Dp ds (wpListIn (FL ro) m P l.toArray Q l)) fr L):T n (Dp ds ((Code.region id l.toArray false).wpIn (FL ro) m P Q)) fr L :=
 fun a w ha hw=>⟨ha.nod,wpIn_region_lit (k a w ha hw).2⟩
theorem Bbu{id:Nat}{l:List Oper}(k:T n (Dp [] (wpListIn (FL none) 0 P l.toArray Q l)) fr L):T n ((Code.region id l.toArray false).wp P Q) fr L :=
 fun a w ha hw=>by
  have h:=(k a w ha hw).2;have he:({ a with defers:=[] }:Act)=a:=by rw[<- ha.nod]
  rw[he] at h;exact (wpIn_wide (n:=0)).1 (wpIn_region_lit h)
theorem Aab{x y:Code}(k:T n (Dp ds (x.wpIn (FL ro) m P (Exit.then (y.wpIn (FL ro) m P Q) Q))) fr L):T n (Dp ds ((Code.seq x y).wpIn (FL ro) m P Q)) fr L :=
 fun a w ha hw=>⟨ha.nod,wpIn_seq (k a w ha hw).2⟩
theorem Vo{y:Code}{Q':Exit->Act->World->Prop}(k:T n (Dp ds (y.wpIn (FL ro) m P Q)) fr L):T n (Dp ds (Exit.then (y.wpIn (FL ro) m P Q) Q' .normal)) fr L:=k
theorem Af6{id:Nat}{c:Code}(k:T n (Dp ds (c.wpIn (FL ro) m P (Exit.inBlock id Q))) fr L):T n (Dp ds ((Code.block id c).wpIn (FL ro) m P Q)) fr L :=
 fun a w ha hw=>⟨ha.nod,wpIn_block (k a w ha hw).2⟩
theorem Ap6{id:Nat}(k:T n (Dp ds (Q .normal)) fr L):T n (Dp ds (Exit.inBlock id Q .normal)) fr L:=k
theorem Baw(k:T n (Dp ds (Q .ret)) fr L):T n (Dp ds (Code.ret.wpIn (FL ro) m P Q)) fr L :=
 fun a w ha hw=>⟨ha.nod,wpIn_ret (k a w ha hw).2⟩
def Ai8(P:Program)(l:Nat)(vs:List Value)(e:Ent)(R:Ent->Prop):Prop :=
 ∀ Lf w,Heap (e::Lf) w->YieldAt (FL none) 0 P l vs.toArray w fun en w'=>en = .returned (.bool true)/\∃ e',R e'/\Heap (e' :: Lf) w'
theorem Ayo{l:Nat}{cf:Operand}{xs:List Operand}{vs:List Value}{ts:Array TypeId}{e:Ent}{R:Ent->Prop}{i:Nat}{L1:List Ent}(hcf:evo fr cf=some (.func (.yield l) #[] #[]))(hx:evos fr xs=some vs)(hL:Aai L i=some (e,L1))(hY:Ai8 P l vs e R)(hd:Nat.blt d n=true)(k:∀ e',R e'->T n (Dp ds (wpListIn (FL none) 0 P ops Q rest)) ((d,.bool true)::fr) (e' :: L1)):
  T n (Dp ds (wpListIn (FL none) 0 P ops Q (⟨some d,.call ⟨.value cf,xs.toArray,ts⟩,ty,pos,after,none⟩ :: rest))) fr L:=by
 intro a w ha hw;refine⟨ha.nod,wpListIn_plain rfl (fun K hK=>⟨fun _ _=>trivial,?_⟩)⟩;obtain⟨fn,tmps,assign,body,hy,hR⟩:=hY L1 w (hw.perm (Wp hL));have h1:=ha.evals hx;rw[Akh,Oper.semAt_eq _ _ _ (by intro c h;cases h)];have hrun:(execOp a.eval ⟨some d,.call ⟨.value cf,xs.toArray,ts⟩,ty,pos,after,none⟩).run P w = .ok (.round l fn tmps assign body) w:=by
  simp[execOp,resolve,Deferred.ofValue,invoke,ha.eval hcf,h1,hy]
 rw[hrun,Oper.uponIn_round];refine⟨(fun h=>nomatch h),hR.mono ?_⟩;rintro en w' ⟨rfl,e',hR',hh⟩;have:=k e' hR' _ w' (ha.put (v:=.bool true) hd) hh;refine hK _ _ ?_;rw[Ag3];exact this.2
end
def Pz(l:Nat)(r:Loop):Ent:=.f [l] fun w=>w.heap[l]? = some (.loop r)
def defE(D:Nat):Ent:=.f [D] fun w=>w.heap[D]? = some (.deferred (some []))
def Bdu(D:Nat):Ent:=.f [D] fun w=>w.heap[D]? = some (.deferred none)
def bunS(es:List Ent):Ent:=.f (es.flatMap Ent.blks) fun w=>(∀ e∈es,Ent.ok w e)/\es.Pairwise Ent.sep
theorem Abb{es L:List Ent}{w:World}(hl:∀ e∈es,e.low=0)(h:Heap (es++L) w):Heap (bunS es::L) w:=by
 have hp:=List.pairwise_append.1 h.sep;have hb:=Af5 hl h;refine⟨fun e he=>?_,?_⟩
 ·rcases List.mem_cons.1 he with rfl | he
  ·obtain⟨h1,h2,h3⟩:=hb.ok _ List.mem_cons_self;exact⟨h1,⟨h2,hp.1⟩,fun w1 w2 h4 h5=>⟨h3 w1 w2 h4.1 h5,h4.2⟩⟩
  ·exact hb.ok e (List.mem_cons_of_mem _ he)
 ·have:=hb.sep;rw[List.pairwise_cons] at this ⊢;exact⟨fun x hx=>this.1 x hx,this.2⟩
theorem Aec{es L:List Ent}{w:World}(hl:∀ e∈es,e.low=0)(h:Heap (bunS es::L) w):Heap (es++L) w:=by
 have hs:=h.sep;rw[List.pairwise_cons] at hs;obtain⟨_,⟨h2,h3⟩,_⟩:=h.ok _ List.mem_cons_self;refine⟨fun e he=>?_,List.pairwise_append.2 ⟨h3,hs.2,fun e he x hx=>⟨fun g hg=>?_,fun g hg=>⟨by rw[Ent.low_lo (hl e he)];exact Nat.zero_le _,fun hb=>?_⟩⟩⟩⟩
 ·rcases List.mem_append.1 he with he | he
  ·exact h2 e he
  ·exact h.ok e (List.mem_cons_of_mem _ he)
 ·exact (hs.1 x hx).1 g (List.mem_flatMap.2 ⟨e,he,Ent.own_blks.1 hg⟩)
 ·exact ((hs.1 x hx).2 g hg).2 (List.mem_flatMap.2 ⟨e,he,Ent.own_blks.1 hb⟩)
theorem Heap.allocF{L:List Ent}{w:World}(h:Heap L w)(o:Obj):Heap (.f [w.heap.size] (fun w'=>w'.heap[w.heap.size]? = some o)::L) (w.alloc o):=by
 have hx:=Ve w o;have hnew:(w.alloc o).heap[w.heap.size]? = some o:=World.alloc_heap_new w o;refine⟨fun e he=>?_,?_⟩
 ·rcases List.mem_cons.1 he with rfl | he
  ·exact⟨fun g hg=>by simp at hg;subst hg;exact Dw hnew,hnew,fun w1 w2 h1 h2=>(h2 _ s_).trans h1⟩
  ·exact Ent.ext (h.ok e he) hx
 ·rw[List.pairwise_cons];refine⟨fun x hx=>⟨fun g hg=>?_,fun g hg=>⟨Nat.zero_le _,fun he=>?_⟩⟩,h.sep⟩
  ·have hg:g∈[w.heap.size]:=hg;simp at hg;subst hg;exact⟨Ent.lo_le (h.ok x hx),fun he=>by have:=Ent.lt (h.ok x hx) he;omega⟩
  ·have he:g∈[w.heap.size]:=he;simp at he;have:=Ent.lt (h.ok x hx) hg;omega
theorem Heap.putF{L L':List Ent}{w:World}{i g:Nat}{o o':Obj}(h:Heap L w)(hs:SetE L i (.f [g] fun w=>w.heap[g]? = some o) (.f [g] fun w=>w.heap[g]? = some o') L'):Heap L' (w.putObj g o'):=by
 obtain⟨h1,h2,_⟩:=h.ok _ hs.mem;have hlt:=h1 g s_;refine Heap.turnO (Uy w g o') (fun g' hg'=>by cases hg';exact List.mem_singleton.2 rfl) (e:=.f [g] fun w=>w.heap[g]? = some o) (e':=.f [g] fun w=>w.heap[g]? = some o') ?_ (Nat.le_refl _) (fun g' hg'=>.inl hg') hs h;have hnew:(w.putObj g o').heap[g]? = some o':=World.putObj_heap_same hlt;refine⟨fun g' hg'=>?_,hnew,fun w1 w2 h3 h4=>(h4 _ s_).trans h3⟩;simp at hg';subst hg';exact Dw hnew
section
variable {P:Program} {n m:Nat} {ro:Option Nat} {ds:List Deferred} {Q:Exit->Act->World->Prop} {fr:List (Nat × Value)} {L L':List Ent} {N:Act->World->Prop}
theorem Ap7{l i:Nat}{r:Loop}{body:Code}(hL:SetE L i (Pz l r) (Pz l { r with state:=.busy }) L')(hr:r.state = .ready)(k:T n (Dp [] (body.wpIn (FL ro) m P Q)) fr L'):
  T n (Dp [] (Exit.then (fun a1 w1=>∃ w2,(Instr.beginRound l).run P w1 = .ok () w2/\body.wpIn (FL ro) m P Q a1 w2) (fun _ _ _=>False) .normal)) fr L:=fun a w ha hw=>by
 obtain⟨_,h2,_⟩:=hw.ok _ hL.mem;exact⟨ha.nod,_,run_beginRound h2 hr,(k a _ ha (hw.putF hL)).2⟩
theorem Ap8{l i:Nat}{r:Loop}{R:Ending->World->Prop}(hL:SetE L i (Pz l { r with state:=.busy }) (Pz l r) L')(hr:r.state = .ready)(hp:r.pending=none)(k:∀ w,Heap L' w->R (.returned (.bool true)) w):
  T n (Dp [] (roundPost P l R .normal)) fr L:=fun a w ha hw=>by
 obtain⟨_,h2,_⟩:=hw.ok _ hL.mem;have he:({ ({ r with state:=.busy }:Loop) with state:=if (none:Option Code).isNone then .ready else .done,pending:=(none:Option Code) }:Loop)=r:=by
  cases r;simp at hr hp;subst hr;subst hp;rfl
 have h3:=run_endRound (P:=P) none h2;rw[he] at h3;exact⟨ha.nod,_,_,h3,k _ (hw.putF hL)⟩
theorem Ai8.mk{l:Nat}{r:Loop}{p:Tmp}{v:Value}{a0:Act}{Hs:List Ent}{R:Ent->Prop}(hfr:Fr n fr a0)(hp:r.params = #[p])(ht:r.tmps=a0.tmps)(hpn:Nat.blt p n=true)(hl:∀ e∈Hs,e.low=0)(k:∀ Lf,T n (Dp [] (r.assign.wpIn (FL (some l)) 0 P (Exit.then (fun a1 w1=>∃ w2,(Instr.beginRound l).run P w1 = .ok () w2/\r.body.wpIn (FL (some l)) 0 P (roundPost P l fun en w'=>en = .returned (.bool true)/\∃ e',R e'/\Heap (e' :: Lf) w') a1 w2) (fun _ _ _=>False))))
   ((p,v)::fr) (Pz l r::(Hs++Lf))):Ai8 P l [v] (bunS (Pz l r::Hs)) R:=by
 intro Lf w hw;have hw':=Aec (Br rfl hl) hw;obtain⟨_,h2,_⟩:=hw'.ok (Pz l r) s_;have hy:=run_yield (P:=P) (args:=#[v]) h2 (by rw[hp];rfl);refine⟨_,_,_,_,hy,roundIn_of_wpIn trivial ?_⟩;rw[hp,ht];have hf:Fr n ((p,v)::fr) { tmps:=a0.tmps.setIfInBounds p v,defers:=[] }:=by
  have:=hfr.put (v:=v) hpn;refine⟨rfl,this.size,this.val⟩
 have h5:=(k Lf _ w hf hw').2;have he:(Array.foldl (fun tmps (x:Tmp × Value)=>match x with | (t,a)=>tmps.setIfInBounds t a) a0.tmps (#[p].zip #[v]))=a0.tmps.setIfInBounds p v:=s_;rw[he];exact h5
def Ap9(D:Nat):Deferred:={ target:=.collected D,args:=#[] }
theorem Aqa{g:Operand}{p:Tmp}{assign body:Code}{gf:Nat}{caps:List Value}{K Hs Lr:List Ent}{Rf:List Ent->Prop}(hg:evo fr g=some (.func (.func gf) #[] caps.toArray))(hp:Hd L (Hs++Lr))(hlo:∀ e∈Hs,e.low=0)(hK:SubE K Lr)(hit:∀ (l:Nat) (r:Loop) (a0:Act),Fr n fr a0->r.state = .ready->r.pending=none->r.params = #[p]->r.tmps=a0.tmps->r.assign=assign->r.body=body ->
   CtK P gf (.func (.yield l) #[] #[]::caps) K [bunS (Pz l r::Hs)] (fun _ Ln=>∃ Hs',Rf Hs'/\(∀ e∈Hs',e.low=0)/\Ln=[bunS (Pz l r::Hs')]))(k:∀ D Hs',Rf Hs'->(∀ e∈Hs',e.low=0)->T n (Dp [Ap9 D] (Q .normal)) fr (defE D::(Hs' ++ Lr))):
  T n (Dp [] ((Code.rangeFunc g #[p] assign body).wpIn (FL none) 0 P Q)) fr L:=by
 intro a w ha hw;refine⟨ha.nod,wpIn_rangeFunc fun fn _=>?_⟩;have hw0:=hw.pick hp;obtain⟨r,hr⟩:∃ r:Loop,r = { state:=.ready,pending:=none,fn,tmps:=a.tmps,params:=#[p],assign,body,defers:=w.heap.size }:=⟨_,rfl⟩;have hc:=hit (w.heap.size+1) r a ha (by rw[hr]) (by rw[hr]) (by rw[hr]) (by rw[hr]) (by rw[hr]) (by rw[hr]);have h1:=hw0.allocF (.deferred (some []));have h2:=h1.allocF (.loop r);rw[World.size_alloc] at h2;have h3:Heap (Pz (w.heap.size+1) r::(Hs++defE w.heap.size::Lr)) ((w.alloc (.deferred (some []))).alloc (.loop r)):=
  h2.perm (((List.perm_middle (l₁:=Hs) (l₂:=Lr) (a:=defE w.heap.size)).symm).cons _)
 have hl':∀ e∈Pz (w.heap.size+1) r::Hs,e.low=0:=Br rfl hlo;have h4:=Abb (es:=Pz (w.heap.size+1) r::Hs) hl' h3;obtain⟨fn',e1,e2,e3⟩:=hc.1;have e2' : fn'.name ≠ "runtime.NumGoroutine" := by simpa using e2
 have e3':fn'.body≠none:=by intro h;rw[h] at e3;cases e3
 refine⟨w.heap.size+1,[Ap9 w.heap.size],(w.alloc (.deferred (some []))).alloc (.loop r),{ target:=.fn (.func gf) caps.toArray,args:=#[.func (.yield (w.heap.size+1)) #[] #[]] },(w.alloc (.deferred (some []))).alloc (.loop r),gf,#[.func (.yield (w.heap.size+1)) #[] #[]]++caps.toArray,(w.alloc (.deferred (some []))).alloc (.loop r),?_,?_,fun _ _=>trivial,?_,(fun h=>nomatch h),?_⟩
 ·have:=run_enterLoop_outer (P:=P) (w:=w) fn a.tmps #[p] assign body;rw[<- hr] at this;exact this
 ·have:({ a with defers:=[] }:Act).eval g = .func (.func gf) #[] caps.toArray:=by rw[Akh];exact ha.eval hg
  simp only[resolve,this];simp[go_sem]
 ·simp[invoke,callFunc,e1,e2',e3']
 ·refine Ag4 (ro:=none) ?_;have hcall:=hc.2 (defE w.heap.size::Lr) _ (SubE.appR2 (K:=[defE w.heap.size]) hK) h4;have:(#[.func (.yield (w.heap.size+1)) #[] #[]]++caps.toArray:Array Value)=(.func (.yield (w.heap.size+1)) #[] #[]::caps).toArray:=s_;rw[this];refine hcall.mono ?_;rintro e w3 ⟨v,Ln,rfl,⟨Hs',hR,hl2,rfl⟩,hh⟩;have hh':=Aec (es:=Pz (w.heap.size+1) r::Hs') (Br rfl hl2) hh;obtain⟨_,h5,_⟩:=hh'.ok (Pz (w.heap.size+1) r) s_;have h6:=run_endLoop (P:=P) h5 (by rw[hr];simp);have hp0:r.pending=none:=by rw[hr]
  rw[hp0] at h6;refine⟨none,_,h6,?_⟩;have h7:=hh'.putF (o':=.loop { r with state:=.exhausted }) (.here);have h8:Heap (defE w.heap.size::(Hs' ++ Lr)) (w3.putObj (w.heap.size+1) (.loop { r with state:=.exhausted })):=
   (h7.sub (.drop .refl)).perm List.perm_middle
  have:=(k w.heap.size Hs' hR hl2 a _ ha h8).2;rw[hp0] at this;exact this
theorem Bax{fn:Func}{R:Value->List Ent->Prop}{w0:World}{D i:Nat}{rs:List ResultVar}{vs:List Value}{Ln:List Ent}(hr:fn.results=rs.toArray)(h:Res P fr L rs vs)(hR:R (Tg vs) Ln)(hlo:∀ x∈Ln,x.low=0)(hL:SetE L i (defE D) (Bdu D) L')(h':Res P fr L' rs vs)(hs:Hd L' (Ln++[.old w0])):
  T n (Dp [Ap9 D] (bodyPostM (FL none) 0 P fn (fun e w'=>∃ v Ln,e = .returned v/\R v Ln/\(∀ x∈Ln,x.low=0)/\Heap (Ln++[.old w0]) w') .ret)) fr L:=fun a w ha hw=>by
 obtain⟨_,h2,_⟩:=hw.ok _ hL.mem;have h3:=hw.putF hL;refine⟨ha.nod,?_⟩;show LeavesInM _ _ _ _ _ _ [Ap9 D] _ _;refine⟨s_,.inl ⟨D,_,rfl,run_takeDeferred h2,?_⟩⟩;exact⟨_,(h'.run hr ha h3:(results fn a.tmps).run P _=_),_,Ln,rfl,hR,hlo,h3.pick hs⟩
theorem CtL.mkI{f : FuncId}{fn : Func}{c : Code}{vs : List Value}{w : World}{R : Value -> List Ent -> Prop}(m : Nat)(hf : P.funcs[f]? = some fn)(hb : fn.body = some c)(hm : fn.ntmps = m)(hn : (fn.name == "runtime.NumGoroutine") = false)(hl:Nat.ble vs.length m=true)(k:T m (Dp [] (c.wpIn (FL none) 0 P (bodyPostM (FL none) 0 P fn fun e w'=>∃ v Ln,e = .returned v/\R v Ln/\(∀ x∈Ln,x.low=0)/\Heap (Ln++[.old w]) w'))) (Xg vs 0) [.old w]):CtL P f vs w R:=by
 refine⟨⟨fn,hf,hn,by rw[hb];rfl⟩,(callsIn_wide (n:=0)).1 (callsIn_of_wp_marks hf hb trivial ?_)⟩;rw[hm];exact (k _ w (Alq vs m (Nat.le_of_ble_eq_true hl)) (Heap.old w)).2
end
theorem Pt.up0{K:List Ent}{b o:Nat}{ys:List Value}(h:Pt K b o ys):Pt (K++[]) b o ys:=by rw[List.append_nil];exact h
def Zj{α β:Type}(P:Program)(K:List Ent)(kv:Value)(ax:α->Value)(ry:β->Value)(ky:α->Option β):Prop :=
 ∃ f caps,kv = .func (.func f) #[] (List.toArray caps)/\∀ x y,ky x=some y->∀ w,(∀ e∈K,Ent.ok w e)->CtL P f (ax x::caps) w fun v Ln=>v=ry y/\Ln=[]
theorem Aoi{α β:Type}{P:Program}{n:Nat}{Q:Exit->Act->World->Prop}{fr:List (Nat × Value)}{L K:List Ent}{N:Act->World->Prop}{d:Nat}{pos:String}{after:Array Edge}{guard:Option (Nat × Bool)}{kv:Value}{ax:α->Value}{ry:β->Value}{ky:α->Option β}{cf x:Operand}{ts:Array TypeId}{ty':TypeId}{u:α}{y:β}(hk:Zj P K kv ax ry ky)(hcf:evo fr cf=some kv)(hx:evo fr x=some (ax u))(hy:ky u=some y)(hK:SubE K L)(hd:Nat.blt d n=true)(k:T n N ((d,ry y)::fr) L):Wx P Q n ⟨some d,.call ⟨.value cf,#[x],ts⟩,ty',pos,after,guard⟩ fr L N:=by
 intro a w ha hw;obtain⟨f,caps,rfl,hc⟩:=hk;obtain⟨hf,hcall⟩:=hc u y hy w (hK.ok w hw.ok);have hrun:(execOp a.eval ⟨some d,.call ⟨.value cf,#[x],ts⟩,ty',pos,after,guard⟩).run P w = .ok (.enter f (ax u::caps).toArray) w:=by
  obtain⟨fn,h1,h2,h3⟩:=hf;have h2' : fn.name ≠ "runtime.NumGoroutine" := by simpa using h2
  have h3':fn.body≠none:=by intro h;rw[h] at h3;cases h3
  simp[execOp,resolve,Deferred.ofValue,invoke,callFunc,ha.eval hcf,ha.eval hx,h1,h2',h3']
 simp only[Oper.wp,hrun,Oper.upon_enter];refine hcall.mono ?_;rintro e w' ⟨v,Ln,rfl,⟨rfl,rfl⟩,hl,hh⟩;exact⟨hh.ok (.old w) s_,k _ _ (ha.put hd) (hw.join hl hh)⟩
theorem Aac{P:Program}{n:Nat}{fr:List (Nat × Value)}{L:List Ent}{dst:Option Tmp}{ty:TypeId}{pos:String}{after:Array Edge}{guard:Option (Nat × Bool)}{f:Nat}{xs:List Operand}{vs:List Value}(hx:evos fr xs=some vs):
  Ev P n ⟨dst,.makeFunc (.func f) #[] xs.toArray,ty,pos,after,guard⟩ fr L (.func (.func f) #[] vs.toArray):=fun a w ha _=>by
 have:=ha.evals hx;simp[execOp,this,Instr.makeFunc,Result.andThen]
section
variable {P:Program} {n:Nat} {N:Act->World->Prop} {Q:Exit->Act->World->Prop} {fr:List (Nat × Value)} {L:List Ent}
variable {dst:Option Tmp} {ty:TypeId} {pos:String} {after:Array Edge} {guard:Option (Nat × Bool)}
theorem Asg{t e t':TypeId}{x y:Operand}{A:Option Addr}{m c:Nat}(ht:P.underlying t=some (.slice e))(hx:evo fr x=some (.slice A m c))(hy:evo fr y=some (.slice none 0 0)):
  Ev P n ⟨dst,.binOp .eql t x y t',ty,pos,after,guard⟩ fr L (.bool A.isNone):=fun a w ha _=>by
 simp[execOp,ha.eval hx,ha.eval hy,eqGuard_at_slice,run_eql_slice_nil w t e A m c ht,Result.andThen]
end
section
variable {P:Program} {n:Nat} {N:Act->World->Prop} {Q:Exit->Act->World->Prop} {fr:List (Nat × Value)} {L:List Ent}
variable {dst:Option Tmp} {ty:TypeId} {pos:String} {after:Array Edge} {guard:Option (Nat × Bool)}
theorem Rw.arr{t k m e i}(hu:P.underlying t=some (.array m e))(hi:P.info? t=some i)(hk:i.size=k):Rw P t k:=by
 refine⟨fun w=>?_,fun w=>by simp[sizeOf,typeInfo,hi,hk]⟩;simp[isAgg,run_underlying hu]
def Ai9(P:Program)(t:TypeId)(m sz:Nat):Prop:=∃ e,P.underlying t=some (.array m e)/\∀ w,(sizeOf e).run P w = .ok sz w
theorem Ai9.mk{t m e sz i}(hu:P.underlying t=some (.array m e))(hi:P.info? e=some i)(hk:i.size=sz):Ai9 P t m sz :=
 ⟨e,hu,fun w=>by simp[sizeOf,typeInfo,hi,hk]⟩
theorem Va{t x ix g o k m sz}{z:Int}(hx:evo fr x=some (.pointer (some ⟨g,o,none⟩)))(hi:evo fr ix=some (.int k z))(ht:Ai9 P t m sz)(h0:0<=z)(h1:z<(m:Int)){off:Nat}(ho:z.toNat*sz=off):
  Ev P n ⟨dst,.indexAddr t x ix,ty,pos,after,guard⟩ fr L (.pointer (some ⟨g,o+off,none⟩)):=fun a w ha _=>by
 obtain⟨e,hu,hs⟩:=ht;subst ho;simp[execOp,ha.eval hx,ha.eval hi,Instr.indexAt,asIntOf,run_underlying hu,Instr.sureAddr,h0,h1,hs,Addr.add_lit]
def Aki(P:Program)(t:TypeId)(xs ys:List Value):Prop:=∀ (j:Nat) (h:j<ys.length) (k:IntKind) (w:World),(Instr.index t (.agg xs.toArray) (.int k (j:Int))).run P w = .ok ys[j] w
theorem Aoj{α:Type}{f:α->Value}{t:TypeId}{x i:Operand}{k:IntKind}{xs zs:List Value}{ys:List α}{z:Int}{v:α}(hx:evo fr x=some (.agg xs.toArray))(hzs:zs=ys.map f)(hi:evo fr i=some (.int k z))(hV:Aki P t xs zs)(hz:idx ys z=some v){v':Value}(hv:f v=v'):Ev P n ⟨dst,.index t x i,ty,pos,after,guard⟩ fr L v':=fun a w ha _=>by
 subst hzs;subst hv;unfold idx at hz;split at hz
 ·rename_i h0;obtain⟨hlt,he⟩:=List.getElem?_eq_some_iff.1 hz;have:=hV z.toNat (by simpa using hlt) k w;rw[Int.toNat_of_nonneg h0] at this;simp only[execOp,ha.eval hx,ha.eval hi,this,Sem.run_bind,Result.andThen,List.getElem_map,he];rfl
 ·cases hz
theorem Aqb{α:Type}{l:List α}{i:Int}{x:α}(h:idx l i=some x):0<=i/\i<(l.length:Int):=by
 obtain⟨j,hj,rfl,_⟩:=Aah h;omega
theorem Ayp{α:Type}{enc:α->List Value}{ys:List α}{w:World}{g t o sz:Nat}{cs post:List Value}{z:Int}{v:α}(hw:Ent.ok w (.m g t cs))(hz:idx ys z=some v)(hc:cs.drop o=ys.flatMap enc++post)(he:∀ x,(enc x).length=sz)(j:Nat)(u:Value)(hu:(enc v)[j]? = some u):w.cell? ⟨g,o+z.toNat*sz+j,none⟩=some u:=by
 obtain⟨q,hq,rfl,rfl⟩:=Aah hz;rw[Ux hw];have h1:=Yp ys q hq (fun x _=>he x) j u hu;have h2:(cs.drop o)[q*sz+j]? = some u:=by
  rw[hc,List.getElem?_append_left]
  ·exact h1
  ·exact (List.getElem?_eq_some_iff.1 h1).1
 rw[List.getElem?_drop] at h2;rw[show o+(q:Int).toNat*sz+j=o+(q*sz+j) by simp[Nat.add_assoc]];exact h2
theorem Aut{α:Type}(enc:α->List Value){ys:List α}{x g o i t cs post ty'}{z:Int}{v:α}{u:Value}(hx:evo fr x=some (.pointer (some ⟨g,o+z.toNat*1,none⟩)))(hi:nthE L i=some (.m g t cs))(hz:idx ys z=some v)(hc:cs.drop o=ys.flatMap enc++post)(he:∀ x,(enc x).length=1)(hu:enc v=[u])(ht:Tl P ty'):Ev P n ⟨dst,.load ty' x,ty,pos,after,guard⟩ fr L u:=fun a w ha hw=>by
 have h:=Ayp (g:=g) (t:=t) (hw _ (Fp hi)) hz hc he 0 u (by rw[hu];rfl);simp only[Nat.add_zero] at h;rw[Nat.mul_one] at h hx;simp[execOp,ha.eval hx,Instr.loadAt,Instr.sureAddr,Wu ht _ u h]
end
section
variable {P:Program}
inductive EqI(P:Program)(d:Nat)(e:TypeId)(c:Nat)(xs ys:Array Value):List Nat->Bool->Prop
 | nil:EqI P d e c xs ys [] true
 | cons {i is a b r r'} (hx:∀ w,(part e xs (i*c)).run P w = .ok a w) (hy:∀ w,(part e ys (i*c)).run P w = .ok b w)
   (he:∀ w,(Op.equalIn d e a b).run P w = .ok r w) (h:EqI P d e c xs ys is r'):EqI P d e c xs ys (i::is) (r && r')
theorem EqI.run{d e c xs ys is r}(h:EqI P d e c xs ys is r):∀ w,(Op.eqItems d e c xs ys is).run P w = .ok r w:=by
 induction h with
 | nil=>intro w;simp[Op.eqItems]
 | cons hx hy he _ ih=>
  intro w;rename_i i is a b r r' _;simp only[Op.eqItems,Sem.run_bind,hx,hy,he,Result.andThen_ok];cases r with
  | true=>simp[ih w]
  | false=>simp
theorem EqI.array{d t e m c xs ys r i}(hu:P.underlying t=some (.array m e))(hi:P.info? e=some i)(hc:P.cellsOf e=c)(h:EqI P d e c xs ys (List.range m) r):∀ w,(Op.equalIn (d+1) t (.agg xs) (.agg ys)).run P w = .ok r w:=by
 intro w;subst hc;rw[run_equalIn_array w d xs ys hu hi];exact h.run w
theorem Ash{k:TypeId}{m e d:Nat}{q:IntKind}{zs:List Int}(hd:P.types.size=d+1)(hu:P.underlying k=some (.array m e))(hk:P.keyType k=true)(hc:zs.length=m)(he:P.underlying e=some (.int q))(h1:P.cellsOf e=1)(hm:P.cellsOf k=m)(hf:∀ z∈zs,(Lit.int q z).wf=true):(keyOf P k (.agg (zs.map (Value.int q)).toArray)).isSome=true:=by
 unfold keyOf;rw[hu];have hfm:(Value.agg (zs.map (Value.int q)).toArray).formed P k=true:=by simp[Value.formed,hu,hm,hc]
 simp only[hk,hfm,Bool.and_self,if_true,Option.isSome_map];have hcl:(Value.agg (zs.map (Value.int q)).toArray).cells.toList=zs.map (Value.int q):=by simp[Value.cells]
 rw[hcl,hd];unfold Program.keyLits;simp only[hu];rw[if_pos (by simp[hm,hc]),Option.isSome_map];refine Aaa _ fun i hi=>?_
 rw[List.mem_range] at hi;rw[h1,Nat.mul_one];have hlt:i<zs.length:=oo;have:((zs.map (Value.int q)).drop i).take 1=[.int q zs[i]]:=by
  rw[List.drop_eq_getElem_cons (by simpa using hlt)];simp
 rw[this];unfold Program.keyLits;simp[he,hf zs[i] (List.getElem_mem hlt)]
end
end Go.Proofs.YthlkpgdfifnagaaGreat
