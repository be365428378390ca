/- More steps that follow a plain function. -/
import Derived.Test.YtbkobeeileemjaaGreatFlow
import Derived.Laws.BytesArg
import Derived.Laws.Strings
import Derived.Maps.OwnSet
import Derived.Maps.Views
import Derived.DeepKeys4
namespace Go.Proofs.YtbkobeeileemjaaGreat
open Go Go.RowKit
theorem Acf {ρ:Type} {r:ρ} {p:Prop} (h:(none:Option ρ)=some r):p:=nomatch h
theorem Ku {α:Type} {enc:α→List Value} {sz:Nat} (he:∀ x,(enc x).length=sz):∀ m:List α,(m.flatMap enc).length=m.length*sz:=by
 intro m
 induction m with
 | nil=>simp
 | cons x r ih=>rw [List.flatMap_cons,List.length_append,he x,ih,List.length_cons,Nat.succ_mul];omega
/-! ### slices whose elements hold slices -/
def raw (x:List Value):List Value:=x
def HasN {α:Type} (K:List Ent) (A:Option Addr) (n c sz:Nat) (R:List Ent→α→List Value→Prop) (l:List α):Prop :=
 ∃ hl:List (List Value),Has K A n c sz raw hl∧hl.length=l.length∧∀ (i:Nat) (h:i < l.length) (h':i < hl.length),R K l[i] hl[i]
theorem HasN.len {α:Type} {K:List Ent} {A:Option Addr} {n c sz:Nat} {R:List Ent→α→List Value→Prop} {l:List α} (h:HasN K A n c sz R l):l.length=n:=by
 obtain ⟨hl,h1,h2,_⟩:=h;rw [← h2];exact h1.len
theorem HasN.len' {α:Type} {K:List Ent} {A:Option Addr} {n c sz:Nat} {R:List Ent→α→List Value→Prop} {l:List α} (h:HasN K A n c sz R l):HasN K A l.length c sz R l:=by
 have:=h.len;subst this;exact h
theorem HasN.up {α:Type} {K L:List Ent} {A:Option Addr} {n c sz:Nat} {R:List Ent→α→List Value→Prop} {l:List α} (hm:∀ {K L:List Ent} {x:α} {ys:List Value},SubE K L→R K x ys→R L x ys) (h:HasN K A n c sz R l) (hK:SubE K L):HasN L A n c sz R l:=by
 obtain ⟨hl,h1,h2,h3⟩:=h
 exact ⟨hl,h1.up hK,h2,fun i h h'=>hm hK (h3 i h h')⟩
theorem HasN.nil {α:Type} {K:List Ent} {sz:Nat} {R:List Ent→α→List Value→Prop}:HasN K none 0 0 sz R ([]:List α):=⟨[],Has.nil,rfl,fun i h=>absurd h (by simp)⟩
theorem HasN.up0 {α:Type} {K:List Ent} {A:Option Addr} {n c sz:Nat} {R:List Ent→α→List Value→Prop} {l:List α} (h:HasN K A n c sz R l):HasN (K++[]) A n c sz R l:=by rw [List.append_nil];exact h
theorem HasN.assoc {α:Type} {K E E':List Ent} {A:Option Addr} {n c sz:Nat} {R:List Ent→α→List Value→Prop} {l:List α} (h:HasN (K++E++E') A n c sz R l):HasN (K++(E++E')) A n c sz R l:=by rw [← List.append_assoc];exact h
theorem HasN.at_idx {α:Type} {K:List Ent} {A:Option Addr} {m c sz:Nat} {R:List Ent→α→List Value→Prop} {l:List α} {i:Int} {x:α} (h:HasN K A m c sz R l) (hi:idx l i=some x) :
  ∃ (b o j:Nat) (ys:List Value),A=some ⟨b,o,none⟩∧i=(j:Int)∧j < m∧Pt K b (o+j*sz) ys∧R K x ys:=by
 obtain ⟨hl,h1,h2,h3⟩:=h
 obtain ⟨j,hj,e1,e2⟩:=Aaa hi
 obtain ⟨b,o,hA,hp⟩:=h1.elem (i:=j) (by omega)
 exact ⟨b,o,j,_,hA,e1,by have:=h1.len;omega,hp,by rw [← e2];exact h3 j hj (by omega)⟩
theorem Pt.low {K E:List Ent} {w:World} {b o:Nat} {ys:List Value} (h:Pt (K++E) b o ys) (hK:∀ e∈K,Ent.ok w e):Pt (.old w::E) b o ys:=fun w' hw'=>h w' (fun e he=>by
 rcases List.mem_append.1 he with he | he
 ·exact Ent.ext (hK e he) (hw' (.old w) List.mem_cons_self)
 ·exact hw' e (List.mem_cons_of_mem _ he))
section
variable {P:Program} {n:Nat} {N:Act→World→Prop} {Q:Exit→Act→World→Prop} {fr:List (Nat × Value)} {L:List Ent}
/-- A block is an own row. -/
theorem T_mr {α:Type} {enc:α→List Value} (l:List α) {i g t sz cs q L'} (hL:SetE L i (.m g t cs) (.r (some ⟨g,0,none⟩) q q t sz (l.flatMap enc)) L') (hc:cs=l.flatMap enc) (hq:q=l.length) (he:∀ x,(enc x).length=sz) (hm:q≤maxLen)
  (k:T n N fr L'):T n N fr L:=by
 intro a w ha hw
 refine k a w ha (Heap.turn (e:=.m g t cs) (e':=.r (some ⟨g,0,none⟩) q q t sz (l.flatMap enc)) (w:=w) (w':=w) ⟨rfl,rfl,rfl,Nat.le_refl _,fun _ _ _=>rfl⟩ ?_ (Nat.le_refl _) (fun g hg=>.inl hg) hL hw)
 have hok:w.heap[g]? = some (.cells cs.toArray t (0,0)):=hw.ok _ hL.mem
 subst hc;subst hq
 have hl:=Ku he l
 exact ⟨hl,.inr ⟨g,l.length,_,rfl,Nat.zero_le _,hok,Nat.le_refl _,hm,by simpa using hl,by show List.take _ (l.flatMap enc)=_;rw [← hl,List.take_length]⟩⟩
theorem Agt (w:World) (r:Option Nat):w.grownBy w r:=⟨rfl,rfl,rfl,Nat.le_refl _,fun _ _ _=>rfl⟩
theorem Vk (P:Program) (w:World) (base:Nat) (t ty e:TypeId) (i:TypeInfo) (size:Nat) (ht:P.underlying t=some (.slice e)) (hi:P.info? e=some i)
  (v:Value) (n:Nat) (xs:List Value) (hown:w.ownsRow base e size v n xs) (c:Nat):(Builtin.append_ #[t,t] ty #[v,.slice none 0 c]).run P w = .ok v w:=by
 rcases hown.2 with ⟨rfl,rfl⟩ | ⟨g,cap,cur,rfl,_,_,hnc,_⟩
 ·simp [Builtin.append_,run_underlying ht,sizeOf,typeInfo,hi,Builtin.lenOf,Builtin.firstCells]
 ·simp [Builtin.append_,run_underlying ht,sizeOf,typeInfo,hi,Builtin.lenOf,Builtin.firstCells,hnc,storeCells]
/-- append of a slice that reads as a list. -/
theorem Abe {α:Type} (enc:α→List Value) (l ys:List α) {d:Nat} {s x t e sz bytes A m c B q q' i ty'} {pos:String} {after:Array Edge} {guard:Option (Nat × Bool)} {L':Option Addr→Nat→List Ent} {K:List Ent}
  (hs:evo fr s=some (.slice A m c)) (hx:evo fr x=some (.slice B q q')) (ht:Sz P t e sz bytes) (he:∀ x,(enc x).length=sz)
  (hy:Has K B q q' sz enc ys) (hK:SubE K L) (h1:∀ x,Mo (enc x)=true) (hb:(l.length+ys.length)*bytes≤140737488355328) (hd:Nat.blt d n=true)
  (hL:∀ A' c',SetE L i (.r A m c e sz (l.flatMap enc)) (.r A' (l++ys).length c' e sz ((l++ys).flatMap enc)) (L' A' c'))
  (h0:0 < bytes)
  (k:∀ A' c',T n N ((d,.slice A' (l++ys).length c')::fr) (L' A' c')) :
  Wh P Q n ⟨some d,.call ⟨.builtin .append,#[s,x],#[t,t]⟩,ty',pos,after,guard⟩ fr L N:=by
 intro a w ha hw
 have hm:m=l.length:=(Has.ofRow ht.pos he (hw.ok _ (hL none 0).mem)).len.symm
 subst hm
 have hq:=hy.len
 subst hq
 have hl:=Ku he l
 have hly:=Ku he ys
 have h63:l.length+ys.length≤9223372036854775807:=by
  have h3:=Nat.mul_le_mul_left (l.length+ys.length) h0
  rw [Nat.mul_succ,Nat.mul_zero,Nat.zero_add] at h3
  omega
 obtain ⟨i0,z,e1,e2,e3,e4,e5⟩:=ht.ex
 have hown:w.ownsRow 0 e sz (.slice A l.length c) l.length (l.flatMap enc):=hw.ok _ (hL none 0).mem
 have hsl:=hy.at hK hw
 have hone:∀ u∈ys.flatMap enc,u.oneCell'=true:=by
  intro u hu
  obtain ⟨x,_,hu⟩:=List.mem_flatMap.1 hu
  exact Pk (h1 x) u hu
 have main:∃ v' w',(Builtin.append_ #[t,t] ty' #[.slice A l.length c,.slice B ys.length q']).run P w = .ok v' w'∧w'.ownsRow 0 e sz v' (l.length+ys.length) (l.flatMap enc++ys.flatMap enc) ∧
   w.grownBy w' (Value.slice A l.length c).ownBlock∧(v'.ownBlock=(Value.slice A l.length c).ownBlock∨v'.ownBlock=some w.heap.size):=by
  by_cases hn:0 < ys.length
  ·obtain ⟨b,o,hB,hcell⟩:=hsl.at_ hn
   subst hB
   have hnew:∀ (j:Nat) (u:Value),(ys.flatMap enc)[j]? = some u→w.cell? ((⟨b,o,none⟩:Addr).add j)=some u:=fun j u hj=>by
    have hjl:j < (ys.flatMap enc).length:=(List.getElem?_eq_some_iff.1 hj).1
    rw [hly] at hjl
    have hdm:j=j / sz*sz+j % sz:=by have:=Nat.div_add_mod j sz;rw [Nat.mul_comm] at this;omega
    have hq:j / sz < ys.length:=(Nat.div_lt_iff_lt_mul ht.pos).2 hjl
    have hmod:=Nat.mod_lt j ht.pos
    obtain ⟨u',hu'⟩:∃ u',(enc ys[j / sz])[j % sz]? = some u':=⟨_,List.getElem?_eq_getElem (by rw [he ys[j / sz]];exact hmod)⟩
    have hf:=Ya ys (j / sz) hq (fun x _=>he x) (j % sz) u' hu'
    rw [← hdm,hj] at hf
    injection hf with hf
    subst hf
    have:=hcell (j / sz) hq (j % sz) u hu'
    rw [Addr.add_lit,hdm,← Nat.add_assoc];exact this
   obtain ⟨v',w',hr,h2,h3,_,h5⟩:=run_append_own_at (P:=P) w 0 t ty' e i0 z sz bytes ht.sl e1 e2 e3 e4 e5 ht.pos _ _ _ hown ⟨b,o,none⟩ ys.length q' (ys.flatMap enc) hly hnew hone (by unfold maxLen;omega) hb (Nat.zero_le _)
   exact ⟨v',w',hr,h2,h3,h5⟩
  ·have h0:ys=[]:=List.eq_nil_of_length_eq_zero (by omega)
   subst h0
   cases B with
   | none=>exact ⟨_,w,Vk P w 0 t ty' e i0 sz ht.sl e1 _ _ _ hown q',by simpa using hown,Agt w _,.inl rfl⟩
   | some b =>
    obtain ⟨v',w',hr,h2,h3,_,h5⟩:=run_append_own_at (P:=P) w 0 t ty' e i0 z sz bytes ht.sl e1 e2 e3 e4 e5 ht.pos _ _ _ hown b 0 q' [] (by simp) (fun j u hj=>by simp at hj) (fun u hu=>by simp at hu) (by unfold maxLen;omega) hb (Nat.zero_le _)
    exact ⟨v',w',hr,h2,h3,h5⟩
 obtain ⟨v',w',hr,h2,h3,h5⟩:=main
 have hlq:l.length+ys.length=(l++ys).length:=by rw [List.length_append]
 have hv':∃ A' c',v' = .slice A' (l.length+ys.length) c':=by
  rcases h2.2 with ⟨hv,h0⟩ | ⟨g',cap,cur,hv,_⟩
  ·exact ⟨none,0,by rw [hv,h0]⟩
  ·exact ⟨_,_,hv⟩
 obtain ⟨A',c',rfl⟩:=hv'
 rw [hlq] at hr h2 h5
 rw [← List.flatMap_append] at h2
 have hrun:(execOp a.eval ⟨some d,.call ⟨.builtin .append,#[s,x],#[t,t]⟩,ty',pos,after,guard⟩).run P w = .ok (.value (.slice A' (l++ys).length c')) w':=by
  simp [execOp,resolve,invoke,builtin,ha.eval hs,ha.eval hx,hr]
 simp only [Oper.wp,hrun,Oper.upon_value]
 refine k A' c' _ _ (ha.put hd) (Heap.turn (e:=.r A l.length c e sz (l.flatMap enc)) (e':=.r A' (l++ys).length c' e sz ((l++ys).flatMap enc)) h3 h2 (Nat.le_refl _) (fun g' hg'=>?_) (hL A' c') hw)
 simp only [Ent.blk] at hg' ⊢
 rcases h5 with h5 | h5
 ·left;rw [← h5];exact hg'
 ·right;rw [h5] at hg';injection hg' with hg';omega
theorem Ao7 {t x k a} {dst:Option Tmp} {ty:TypeId} {pos:String} {after:Array Edge} {guard:Option (Nat × Bool)} (hx:evo fr x=some (.int k a)):Ev P n ⟨dst,.unOp .xor t x,ty,pos,after,guard⟩ fr L (.int k (Aav k (if k.signed then -1 else k.max) a)):=fun ac w ha _=>by
 simp only [execOp,ha.eval hx,Op.unary,Op.intBits]
 rfl
end
/-! ### numbers, by kind -/
section
variable {P:Program} {n:Nat} {fr:List (Nat × Value)} {L:List Ent}
variable {dst:Option Tmp} {ty:TypeId} {pos:String} {after:Array Edge} {guard:Option (Nat × Bool)}
theorem Abf {t t' x y a b} (hx:evo fr x=some (.int .i64 a)) (hy:evo fr y=some (.int .i64 b)):Ev P n ⟨dst,.binOp .add t x y t',ty,pos,after,guard⟩ fr L (.int .i64 (w64 (a+b))):=Ak7 hx hy
theorem Agu {t t' x y a b} (hx:evo fr x=some (.int .i64 a)) (hy:evo fr y=some (.int .i64 b)):Ev P n ⟨dst,.binOp .sub t x y t',ty,pos,after,guard⟩ fr L (.int .i64 (w64 (a-b))):=Ak8 hx hy
theorem Agv {t t' x y a b} (hx:evo fr x=some (.int .i64 a)) (hy:evo fr y=some (.int .i64 b)):Ev P n ⟨dst,.binOp .mul t x y t',ty,pos,after,guard⟩ fr L (.int .i64 (w64 (a*b))):=Ak9 hx hy
theorem Anp {t t' x y a b} (hx:evo fr x=some (.int .i64 a)) (hy:evo fr y=some (.int .i64 b)) (h:b≠0):Ev P n ⟨dst,.binOp .quo t x y t',ty,pos,after,guard⟩ fr L (.int .i64 (w64 (Int.tdiv a b))):=Aqm hx hy h
theorem Agw {t x a} (hx:evo fr x=some (.int .i64 a)):Ev P n ⟨dst,.unOp .neg t x,ty,pos,after,guard⟩ fr L (.int .i64 (w64 (-a))):=Axc hx
theorem Zd {src dt x k v} (hx:evo fr x=some (.int k v)) (hs:(P.underlying src).isSome=true) (hd:P.underlying dt=some (.int .i64)):Ev P n ⟨dst,.convert src dt x,ty,pos,after,guard⟩ fr L (.int .i64 (w64 v)):=Agb hx hs hd
theorem Aep {t t' x y a b} (hx:evo fr x=some (.int .u64 a)) (hy:evo fr y=some (.int .u64 b)):Ev P n ⟨dst,.binOp .add t x y t',ty,pos,after,guard⟩ fr L (.int .u64 (wu64 (a+b))):=Ak7 hx hy
theorem Aeq {t t' x y a b} (hx:evo fr x=some (.int .u64 a)) (hy:evo fr y=some (.int .u64 b)):Ev P n ⟨dst,.binOp .sub t x y t',ty,pos,after,guard⟩ fr L (.int .u64 (wu64 (a-b))):=Ak8 hx hy
theorem Aer {t t' x y a b} (hx:evo fr x=some (.int .u64 a)) (hy:evo fr y=some (.int .u64 b)):Ev P n ⟨dst,.binOp .mul t x y t',ty,pos,after,guard⟩ fr L (.int .u64 (wu64 (a*b))):=Ak9 hx hy
theorem Ze {t t' x y a b} (hx:evo fr x=some (.int .u64 a)) (hy:evo fr y=some (.int .u64 b)) (h:b≠0):Ev P n ⟨dst,.binOp .quo t x y t',ty,pos,after,guard⟩ fr L (.int .u64 (wu64 (Int.tdiv a b))):=Aqm hx hy h
theorem Hk {src dt x k v} (hx:evo fr x=some (.int k v)) (hs:(P.underlying src).isSome=true) (hd:P.underlying dt=some (.int .u64)):Ev P n ⟨dst,.convert src dt x,ty,pos,after,guard⟩ fr L (.int .u64 (wu64 v)):=Agb hx hs hd
theorem Aes {t t' x y a b} (hx:evo fr x=some (.int .u32 a)) (hy:evo fr y=some (.int .u32 b)):Ev P n ⟨dst,.binOp .add t x y t',ty,pos,after,guard⟩ fr L (.int .u32 (wu32 (a+b))):=Ak7 hx hy
theorem Aet {t t' x y a b} (hx:evo fr x=some (.int .u32 a)) (hy:evo fr y=some (.int .u32 b)):Ev P n ⟨dst,.binOp .sub t x y t',ty,pos,after,guard⟩ fr L (.int .u32 (wu32 (a-b))):=Ak8 hx hy
theorem Aeu {t t' x y a b} (hx:evo fr x=some (.int .u32 a)) (hy:evo fr y=some (.int .u32 b)):Ev P n ⟨dst,.binOp .mul t x y t',ty,pos,after,guard⟩ fr L (.int .u32 (wu32 (a*b))):=Ak9 hx hy
theorem Qk {src dt x k v} (hx:evo fr x=some (.int k v)) (hs:(P.underlying src).isSome=true) (hd:P.underlying dt=some (.int .u32)):Ev P n ⟨dst,.convert src dt x,ty,pos,after,guard⟩ fr L (.int .u32 (wu32 v)):=Agb hx hs hd
theorem Aev {src dt x k v} (hx:evo fr x=some (.int k v)) (hs:(P.underlying src).isSome=true) (hd:P.underlying dt=some (.int .u8)):Ev P n ⟨dst,.convert src dt x,ty,pos,after,guard⟩ fr L (.int .u8 (wu8 v)):=Agb hx hs hd
end
end Go.Proofs.YtbkobeeileemjaaGreat
/- Steps that follow a plain function: rows of structs made, copies. -/
namespace Go.Proofs.YtbkobeeileemjaaGreat
open Go Go.RowKit
def cpy {α:Type} (l:List α) (p:Nat) (ys:List α):List α:=l.take p++ys.take (l.length-p)++l.drop (p+ys.length)
theorem Ch {α:Type} {l:List α} {p:Nat} {ys:List α} (h:p≤l.length):(cpy l p ys).length=l.length:=by
 simp only [cpy,List.length_append,List.length_take,List.length_drop];omega
theorem As5 {α:Type} {enc:α→List Value} {sz:Nat} (hz:0 < sz) (he:∀ x,(enc x).length=sz) (l:List α) (j:Nat) (u:Value) (hj:(l.flatMap enc)[j]? = some u):∃ h:j / sz < l.length,(enc l[j / sz])[j % sz]? = some u:=by
 have hjl:j < (l.flatMap enc).length:=(List.getElem?_eq_some_iff.1 hj).1
 rw [Ku he l] at hjl
 have hdm:j=j / sz*sz+j % sz:=by have:=Nat.div_add_mod j sz;rw [Nat.mul_comm] at this;omega
 have hq:j / sz < l.length:=(Nat.div_lt_iff_lt_mul hz).2 hjl
 have hmod:=Nat.mod_lt j hz
 refine ⟨hq,?_⟩
 obtain ⟨u',hu'⟩:∃ u',(enc l[j / sz])[j % sz]? = some u':=⟨_,List.getElem?_eq_getElem (by rw [he l[j / sz]];exact hmod)⟩
 have hf:=Ya l (j / sz) hq (fun x _=>he x) (j % sz) u' hu'
 rw [← hdm,hj] at hf
 injection hf with hf
 subst hf;exact hu'
section
variable {P:Program} {n:Nat} {N:Act→World→Prop} {Q:Exit→Act→World→Prop} {fr:List (Nat × Value)} {L:List Ent}
theorem Zf {α:Type} {enc:α→List Value} {sz:Nat} {z:Array Value} (x0:α) (hz:0 < sz) (he:∀ x,(enc x).length=sz) (h0:enc x0=z.toList) (m:Nat):madeCells z (m*sz)=((List.replicate m x0).flatMap enc).toArray:=by
 have hzs:z.size=sz:=by rw [← he x0,h0];simp
 apply Array.ext
 ·rw [size_madeCells];simp only [List.size_toArray];rw [Ku he,List.length_replicate]
 ·intro i h1 h2
  have h2':i < ((List.replicate m x0).flatMap enc).length:=by simpa using h2
  obtain ⟨v,hv⟩:∃ v,((List.replicate m x0).flatMap enc)[i]? = some v:=⟨_,List.getElem?_eq_getElem h2'⟩
  obtain ⟨hq,hu⟩:=As5 hz he _ i _ hv
  have hx:(List.replicate m x0)[i / sz]=x0:=List.getElem_replicate _
  rw [hx,h0] at hu
  have hmod:i % sz < z.size:=by rw [hzs];exact Nat.mod_lt _ hz
  rw [Array.getElem?_toList,Array.getElem?_eq_getElem hmod] at hu
  injection hu with hu
  have hv':((List.replicate m x0).flatMap enc).toArray[i]=v:=by
   rw [List.getElem_toArray]
   exact (List.getElem?_eq_some_iff.1 hv).2
  rw [hv',← hu]
  simp only [madeCells,Array.getElem_map,Array.getElem_range,hzs]
  exact getElem!_pos z (i % sz) hmod
/-- make([]T, m), T a struct. -/
theorem As6 {α:Type} (enc:α→List Value) (x0:α) {d:Nat} {t e x y k1 k2 i1 i2 i z sz} {ty:TypeId} {pos:String} {after:Array Edge} {guard:Option (Nat × Bool)} (hx:evo fr x=some (.int k1 i1)) (hy:evo fr y=some (.int k2 i2)) (h12:i1=i2) (hp:0≤i1)
  (ht:P.underlying t=some (.slice e)) (hi:P.info? e=some i) (hz:i.zero=some z) (hzc:enc x0=z.cells.toList) (hs:i.size=sz) (hsz:0 < sz) (he:∀ x,(enc x).length=sz) (hb:i.bytes*i1.toNat≤140737488355328) (hb0:0 < i.bytes)
  (hd:Nat.blt d n=true) (k:∀ A,T n N ((d,.slice A (List.replicate i1.toNat x0).length (List.replicate i1.toNat x0).length)::fr) (.r A (List.replicate i1.toNat x0).length (List.replicate i1.toNat x0).length e sz ((List.replicate i1.toNat x0).flatMap enc)::L)) :
  Wx P Q n ⟨some d,.makeSlice t x y,ty,pos,after,guard⟩ fr L N:=by
 subst h12
 have h2:=Nat.mul_le_mul_right i1.toNat hb0
 rw [Nat.succ_mul,Nat.zero_mul,Nat.zero_add] at h2
 have hb':(i.bytes:Int)*i1≤281474976710656:=by
  have h:((i.bytes*i1.toNat:Nat):Int)≤281474976710656:=by omega
  rw [Int.natCast_mul,Int.toNat_of_nonneg (by omega)] at h;exact h
 refine Ao5 (by rw [Ku he]) (by rw [List.length_replicate];unfold maxLen;omega) (fun a w ha _=>?_) hd k
 have hr:=run_make (P:=P) w t e i z ht hi hz k1 k2 i1 i1 hp (Int.le_refl _) hb' (by omega)
 rw [hs,Zf x0 hsz he hzc] at hr
 rw [List.length_replicate]
 simp [execOp,ha.eval hx,ha.eval hy,hr]
end
end Go.Proofs.YtbkobeeileemjaaGreat
/- Calls that write what a pointer leads to. -/
namespace Go.Proofs.YtbkobeeileemjaaGreat
open Go Go.RowKit
theorem SubE.appC {K E L:List Ent} (h:SubE K L) (h':SubE E L):SubE (K++E) L:=⟨fun w hw x hx=>by
 rcases List.mem_append.1 hx with hx | hx
 ·exact h.ok w hw _ hx
 ·exact h'.ok w hw _ hx⟩
/-- A function that may write the entries Lp, and reads those of K, which lie elsewhere. -/
def CtK (P:Program) (f:FuncId) (vs:List Value) (K Lp:List Ent) (R:Value→List Ent→Prop):Prop :=
 Uh P f∧∀ Lf w,SubE K Lf→Heap (Lp++Lf) w→Calls P f vs.toArray w fun e w'=>∃ v Ln,e = .returned v∧R v Ln∧Heap (Ln++Lf) w'
section
variable {P:Program} {n:Nat} {N:Act→World→Prop} {Q:Exit→Act→World→Prop} {fr:List (Nat × Value)} {L:List Ent}
theorem CtK.mk {f : FuncId} {fn : Func} {c : Code} {vs : List Value} {K Lp : List Ent} {R : Value → List Ent → Prop} (m : Nat) (hf : P.funcs[f]? = some fn) (hb : fn.body = some c) (hm : fn.ntmps = m) (hn : (fn.name == "runtime.NumGoroutine") = false)
  (hl:Nat.ble vs.length m=true) (k:∀ Lf,SubE K Lf→T m (c.wp P (bodyPost P fn fun e w'=>∃ v Ln,e = .returned v∧R v Ln∧Heap (Ln++Lf) w')) (Vx vs 0) (Lp++Lf)):CtK P f vs K Lp R:=by
 refine ⟨⟨fn,hf,hn,by rw [hb];rfl⟩,fun Lf w hK hw=>calls_of_wp hf hb ?_⟩
 rw [hm]
 exact k Lf hK _ w (Afw vs m (Nat.le_of_ble_eq_true hl)) hw
theorem Kv {d:Nat} {pos:String} {after:Array Edge} {guard:Option (Nat × Bool)} {f:FuncId} {xs:List Operand} {vs:List Value} {ts:Array TypeId} {ty':TypeId} {K Lp Lf:List Ent} {R:Value→List Ent→Prop} (hx:evos fr xs=some vs) (hp:Da L (Lp++Lf)) (hsub:SubE K Lf) (hc:CtK P f vs K Lp R) (hd:Nat.blt d n=true)
  (k:∀ v Ln,R v Ln→T n N ((d,v)::fr) (Ln++Lf)):Wh P Q n ⟨some d,.call ⟨.value (.func f),xs.toArray,ts⟩,ty',pos,after,guard⟩ fr L N:=by
 intro a w ha hw
 simp only [Oper.wp,Acb hc.1 ha hx,Oper.upon_enter]
 refine (hc.2 Lf w hsub (hw.pick hp)).mono ?_
 rintro e w' ⟨v,Ln,rfl,hR,hh⟩
 exact k v Ln hR _ _ (ha.put hd) hh
theorem Adm {fn:Func} {R:Value→List Ent→Prop} {Lf:List Ent} {rs vs} {Ln:List Ent} (hr:fn.results=rs.toArray) (h:Res P fr L rs vs) (hR:R (Rm vs) Ln) (hs:Da L (Ln++Lf)) :
  T n (bodyPost P fn (fun e w'=>∃ v Ln,e = .returned v∧R v Ln∧Heap (Ln++Lf) w') .ret) fr L :=
 Ax3 hr h fun _ hw=>⟨_,Ln,rfl,hR,hw.pick hs⟩
theorem Agx {fn:Func} {R:Value→List Ent→Prop} {Lf:List Ent} {rs vs} {Ln:List Ent} (hr:fn.results=rs.toArray) (h:Res P fr L rs vs) (hR:R (Rm vs) Ln) (hs:Da L (Ln++Lf)) :
  T n (bodyPost P fn (fun e w'=>∃ v Ln,e = .returned v∧R v Ln∧Heap (Ln++Lf) w') .normal) fr L :=
 Ax4 hr h fun _ hw=>⟨_,Ln,rfl,hR,hw.pick hs⟩
theorem Aew {x a} {dst:Option Tmp} {ty:TypeId} {pos:String} {after:Array Edge} {guard:Option (Nat × Bool)} (hx:evo fr x=some (.pointer (some a))):Ev P n ⟨dst,.nilCheck x,ty,pos,after,guard⟩ fr L (.pointer (some a)):=fun ac w ha _=>by
 simp [execOp,ha.eval hx]
end
end Go.Proofs.YtbkobeeileemjaaGreat
/- Several entries as one. -/
namespace Go.Proofs.YtbkobeeileemjaaGreat
open Go Go.RowKit
def Ent.blks:Ent→List Nat
 | .old _=>[]
 | .m g _ _=>[g]
 | .r (some a) _ _ _ _ _=>[a.block]
 | .r none _ _ _ _ _=>[]
 | .f S _=>S
theorem Ent.own_blks {e:Ent} {g:Nat}:e.own g↔g∈e.blks:=by
 cases e with
 | old w=>simp [Ent.own,Ent.blks]
 | m g' t cs=>simp [Ent.own,Ent.blks,eq_comm]
 | r A n c t sz xs=>cases A <;> simp [Ent.own,Ent.blks,eq_comm]
 | f S φ=>simp [Ent.own,Ent.blks]
def bun (es:List Ent):Ent:=.f (es.flatMap Ent.blks) (fun w=>∀ e∈es,Ent.ok w e)
/-- What an entry says depends on its blocks alone. -/
theorem Ent.ok_blks {e:Ent} (hl:e.low=0) {w w':World} (h:Ent.ok w e) (hb:∀ g∈e.blks,w'.heap[g]? = w.heap[g]?):Ent.ok w' e:=by
 have hsz:∀ g,g < w.heap.size→g∈e.blks→g < w'.heap.size:=fun g hg hm=>by
  have h1:=hb g hm
  rw [Array.getElem?_eq_getElem hg] at h1
  exact Eg h1
 cases e with
 | old w0=>simp [Ent.low] at hl
 | m g t cs=>exact (hb g (by simp [Ent.blks])).trans h
 | r A n c t sz xs =>
  obtain ⟨h1,h2⟩:=h
  refine ⟨h1,?_⟩
  rcases h2 with h2 | ⟨g,cap,cur,hv,hb',hh,rest⟩
  ·exact .inl h2
  ·refine .inr ⟨g,cap,cur,hv,hb',?_,rest⟩
   refine (hb g ?_).trans hh
   rw [← Ent.own_blks,Ent.own_r,hv];rfl
 | f S φ =>
  obtain ⟨h1,h2,h3⟩:=h
  exact ⟨fun g hg=>hsz g (h1 g hg) hg,h3 w w' h2 hb,h3⟩
theorem Aym {es:List Ent} (hl:∀ e∈es,e.low=0) {w:World} (h:∀ e∈es,Ent.ok w e):Ent.ok w (bun es):=by
 refine ⟨fun g hg=>?_,h,fun w1 w2 h1 hb e he=>Ent.ok_blks (hl e he) (h1 e he) (fun g hg=>hb g (List.mem_flatMap.2 ⟨e,he,hg⟩))⟩
 obtain ⟨e,he,hg⟩:=List.mem_flatMap.1 hg
 exact Ent.lt (h e he) (Ent.own_blks.2 hg)
theorem Av5 {es:List Ent} {w:World} (h:Ent.ok w (bun es)):∀ e∈es,Ent.ok w e:=h.2.1
theorem Ao8 {es L:List Ent} {w:World} (hl:∀ e∈es,e.low=0) (h:Heap (es++L) w):Heap (bun es::L) w:=by
 have hp:=List.pairwise_append.1 h.sep
 refine ⟨fun e he=>?_,?_⟩
 ·rcases List.mem_cons.1 he with rfl | he
  ·exact Aym hl (fun e he=>h.ok e (List.mem_append_left _ he))
  ·exact h.ok e (List.mem_append_right _ he)
 ·rw [List.pairwise_cons]
  refine ⟨fun x hx=>⟨fun g hg=>?_,fun g hg=>⟨Nat.zero_le _,fun hb=>?_⟩⟩,hp.2.1⟩
  ·obtain ⟨e,he,hg⟩:=List.mem_flatMap.1 (show g∈es.flatMap Ent.blks from hg)
   exact (hp.2.2 e he x hx).1 g (Ent.own_blks.2 hg)
  ·obtain ⟨e,he,hb⟩:=List.mem_flatMap.1 (show g∈es.flatMap Ent.blks from hb)
   exact ((hp.2.2 e he x hx).2 g hg).2 (Ent.own_blks.2 hb)
theorem SubE.consB {K L es:List Ent} {e:Ent} {i j:Nat} (h:nthE L i=some (bun es)) (hj:nthE es j=some e) (h':SubE K L):SubE (e::K) L:=⟨fun w hw x hx=>by
 rcases List.mem_cons.1 hx with rfl | hx
 ·exact Av5 (hw _ (Il h)) _ (Il hj)
 ·exact h'.ok w hw _ hx⟩
theorem Wq {n:Nat} {N:Act→World→Prop} {fr:List (Nat × Value)} {L Lr es:List Ent} (hp:Da L (es++Lr)) (hl:∀ e∈es,e.low=0) (k:T n N fr (bun es::Lr)):T n N fr L :=
 fun a w ha hw=>k a w ha (Ao8 hl (hw.pick hp))
/-- A field of a struct's value. -/
def As7 (P:Program) (s:TypeId) (xs:List Value) (f:Nat) (v:Value):Prop:=∀ w,(Instr.field s (.agg xs.toArray) f).run P w = .ok v w
theorem Are {P:Program} {n:Nat} {fr:List (Nat × Value)} {L:List Ent} {dst:Option Tmp} {ty:TypeId} {pos:String} {after:Array Edge} {guard:Option (Nat × Bool)} {s:TypeId} {x:Operand} {f:Nat} {xs:List Value} {v:Value} (hx:evo fr x=some (.agg xs.toArray)) (h:As7 P s xs f v) :
  Ev P n ⟨dst,.field s x f,ty,pos,after,guard⟩ fr L v:=fun a w ha _=>by
 simp [execOp,ha.eval hx,h w]
end Go.Proofs.YtbkobeeileemjaaGreat
/- Rows whose elements hold slices. -/
namespace Go.Proofs.YtbkobeeileemjaaGreat
open Go Go.RowKit
/-- The cells of an element. -/
abbrev Vec (sz:Nat):Type:={v:List Value // v.length=sz}
def Rq {sz:Nat} (x:Vec sz):List Value:=x.1
/-- What the elements of a row hold. -/
def RowN {α:Type} {sz:Nat} (K:List Ent) (R:List Ent→α→List Value→Prop) (hs:List (Vec sz)) (l:List α):Prop :=
 hs.length=l.length∧∀ (i:Nat) (h:i < l.length) (h':i < hs.length),R K l[i] hs[i].1
theorem RowN.nil {α:Type} {sz:Nat} {K:List Ent} {R:List Ent→α→List Value→Prop}:RowN (sz:=sz) K R [] ([]:List α):=⟨rfl,fun i h=>absurd h (by simp)⟩
theorem RowN.len {α:Type} {sz:Nat} {K:List Ent} {R:List Ent→α→List Value→Prop} {hs:List (Vec sz)} {l:List α} (h:RowN K R hs l):hs.length=l.length:=h.1
theorem RowN.up {α:Type} {sz:Nat} {K L:List Ent} {R:List Ent→α→List Value→Prop} {hs:List (Vec sz)} {l:List α} (hm:∀ {K L:List Ent} {x:α} {ys:List Value},SubE K L→R K x ys→R L x ys) (h:RowN K R hs l) (hK:SubE K L):RowN L R hs l :=
 ⟨h.1,fun i a b=>hm hK (h.2 i a b)⟩
theorem RowN.snoc {α:Type} {sz:Nat} {K:List Ent} {R:List Ent→α→List Value→Prop} {hs:List (Vec sz)} {l:List α} {y:Vec sz} {x:α} (h:RowN K R hs l) (hx:R K x y.1):RowN K R (hs++[y]) (l++[x]):=by
 refine ⟨by simp [h.1],fun i a b=>?_⟩
 by_cases hi:i < l.length
 ·have hi':i < hs.length:=by rw [h.1];exact hi
  rw [List.getElem_append_left hi,List.getElem_append_left hi']
  exact h.2 i hi hi'
 ·have e1:i=l.length:=by simp at a;omega
  subst e1
  have e2:=h.1
  simp only [List.getElem_append_right (Nat.le_refl _),Nat.sub_self,List.getElem_singleton]
  rw [List.getElem_append_right (by omega)]
  simp [e2]
  exact hx
theorem HasN.ofRowN {α:Type} {sz:Nat} {K:List Ent} {R:List Ent→α→List Value→Prop} {A:Option Addr} {n c:Nat} {hs:List (Vec sz)} {l:List α} (h1:Has K A n c sz Rq hs) (h2:RowN K R hs l):HasN K A n c sz R l:=by
 refine ⟨hs.map (·.1),⟨by rw [List.length_map];exact h1.len,h1.nc,h1.cap,?_,fun h0=>?_⟩,by rw [List.length_map];exact h2.1,fun i a b=>?_⟩
 ·intro x hx
  obtain ⟨y,_,rfl⟩:=List.mem_map.1 hx
  exact y.2
 ·obtain ⟨b,o,hA,hp⟩:=h1.at_ h0
  refine ⟨b,o,hA,fun i hi=>?_⟩
  have hi':i < hs.length:=by simpa using hi
  have:=hp i hi'
  simpa [raw,Rq] using this
 ·simp only [List.getElem_map]
  exact h2.2 i a (by simpa using b)
section
variable {n:Nat} {N:Act→World→Prop} {fr:List (Nat × Value)} {L:List Ent}
end
end Go.Proofs.YtbkobeeileemjaaGreat
/- Maps of the call's own, as lists of what was put (the latest first); values of arrays at an index. -/
namespace Go.Proofs.YtbkobeeileemjaaGreat
open Go Go.RowKit
open Go.Maps (Keyed)
/-! ### an array's value at an index -/
def Ajx (P:Program) (t:TypeId) (xs:List Value):Prop:=∀ (j:Nat) (h:j < xs.length) (k:IntKind) (w:World),(Instr.index t (.agg xs.toArray) (.int k (j:Int))).run P w = .ok xs[j] w
theorem Aap {P:Program} {n:Nat} {fr:List (Nat × Value)} {L:List Ent} {dst:Option Tmp} {ty:TypeId} {pos:String} {after:Array Edge} {guard:Option (Nat × Bool)} {t:TypeId} {x i:Operand} {kd k:IntKind} {xs:List Value} {ys:List Int} {z v:Int}
  (hx:evo fr x=some (.agg xs.toArray)) (hxs:xs=ys.map (Value.int kd)) (hi:evo fr i=some (.int k z)) (hV:Ajx P t xs) (hz:idx ys z=some v):Ev P n ⟨dst,.index t x i,ty,pos,after,guard⟩ fr L (.int kd v):=fun a w ha _=>by
 subst hxs
 unfold idx at hz
 split at hz
 ·rename_i h0
  obtain ⟨hlt,he⟩:=List.getElem?_eq_some_iff.1 hz
  have:=hV z.toNat (by simpa using hlt) k w
  rw [Int.toNat_of_nonneg h0] at this
  simp only [execOp,ha.eval hx,ha.eval hi,this,Sem.run_bind,Result.andThen,List.getElem_map,he]
  rfl
 ·cases hz
/-! ### maps -/
/-- A value, read as itself. -/
def RV (v:Value):Option (DataW Value × List MemPlace):=some (.held v,[])
noncomputable def klOf (P:Program) (k:TypeId) (v:Value):Lit:=(keyOf P k v).getD (.bool true)
theorem Jg {P:Program} {k:TypeId} {v:Value} (h:(keyOf P k v).isSome=true):keyOf P k v=some (klOf P k v):=by
 unfold klOf
 cases hk:keyOf P k v with
 | none=>rw [hk] at h;cases h
 | some l=>rfl
section
variable {κ υ:Type}
noncomputable def mapD (P:Program) (k:TypeId) (ke:κ→Value) (ve:υ→Value):List (κ × υ)→DataW Value
 | []=>.map []
 | p::r=>(mapD P k ke ve r).put (klOf P k (ke p.1)) (.held (ve p.2))
open Classical in
/-- What a map holds at a key. -/
noncomputable def mget (m:List (κ × υ)) (x:κ):Option υ:=match m with
 | []=>none
 | p::r=>if p.1=x then some p.2 else mget r x
theorem As8 {x:κ}:mget ([]:List (κ × υ)) x=none:=rfl
open Classical in
theorem Rr {p:κ × υ} {r:List (κ × υ)} {x:κ}:mget (p::r) x=if p.1=x then some p.2 else mget r x:=rfl
def mval (ve:υ→Value) (z:Value):Option υ→Value
 | some v=>ve v
 | none=>z
/-- The block b holds a map in which the pairs m have been put. -/
def As9 (P:Program) (k:TypeId) (ke:κ→Value) (ve:υ→Value) (b:Nat) (m:List (κ × υ)) (w:World):Prop :=
 (∀ p∈m,(keyOf P k (ke p.1)).isSome=true)∧w.ownsMap P k RV b m.length (mapD P k ke ve m)
variable {P:Program} {k:TypeId} {ke:κ→Value} {ve:υ→Value} {b:Nat} {m:List (κ × υ)}
theorem As9.still {w w':World} (h:As9 P k ke ve b m w) (hb:w'.heap[b]? = w.heap[b]?):As9 P k ke ve b m w':=by
 obtain ⟨h1,es,clock,h2,h3⟩:=h
 exact ⟨h1,es,clock,by rw [hb];exact h2,h3⟩
theorem Abg:∀ {m:List (κ × υ)},Maps.IsMap (mapD P k ke ve m)
 | []=>⟨_,rfl⟩
 | p::r=>by
  obtain ⟨es,h⟩:=Abg (m:=r)
  unfold mapD
  rw [h]
  exact ⟨_,rfl⟩
theorem Air (K:Keyed P k) (hke:∀ x y,ke x=ke y→x=y) {x:κ} (hx:(keyOf P k (ke x)).isSome=true) (z:Value) :
  ∀ {m:List (κ × υ)},(∀ p∈m,(keyOf P k (ke p.1)).isSome=true)→(mapD P k ke ve m).atKey (klOf P k (ke x)) (.held z) = .held (mval ve z (mget m x))∧Maps.has (mapD P k ke ve m) (klOf P k (ke x))=(mget m x).isSome
 | [],_=>⟨rfl,rfl⟩
 | p::r,h=>by
  have ih:=Air K hke hx z (m:=r) (fun q hq=>h q (List.mem_cons_of_mem _ hq))
  have hp:=Jg (h p List.mem_cons_self)
  have hxs:=Jg hx
  unfold mapD
  by_cases he:p.1=x
  ·rw [Rr,if_pos he,he]
   exact ⟨Maps.atKey_put_same Abg (K.key hxs) _ _,Maps.has_put_same Abg (K.key hxs) _⟩
  ·have hne:klOf P k (ke x)≠klOf P k (ke p.1):=fun e=>he (hke _ _ (K.inj hp (by rw [hxs,e])))
   rw [Rr,if_neg he,Maps.atKey_put_other hne,Maps.has_put_other hne]
   exact ih
section
variable {n:Nat} {fr:List (Nat × Value)} {L:List Ent} {N:Act→World→Prop} {Q:Exit→Act→World→Prop} {d:Nat} {dst:Option Tmp} {ty:TypeId} {pos:String} {after:Array Edge} {guard:Option (Nat × Bool)}
theorem Acg {L:List Ent} {i:Nat} {e:Ent} (h:nthE L i=some e):e∈L:=by
 induction L generalizing i with
 | nil=>simp [nthE] at h
 | cons x r ih =>
  cases i with
  | zero=>simp [nthE] at h;subst h;exact List.mem_cons_self
  | succ i=>exact List.mem_cons_of_mem _ (ih h)
theorem Adn {o:Option υ} {z0 u:υ} (h:some (o.getD z0)=some u):mval ve (ve z0) o=ve u:=by
 obtain rfl:=Option.some.inj h
 cases o <;> rfl
end
end
theorem Ayn {P:Program} {k:TypeId} {q:IntKind} (hk:P.underlying k=some (.int q)) {a:Int} (hw:(Lit.int q a).wf=true):(keyOf P k (.int q a)).isSome=true:=by rw [Maps.keyOf_int_mk hk hw];rfl
theorem Agy {z:Int} (h:-9223372036854775808≤z∧z≤9223372036854775807):(Lit.int .i64 z).wf=true:=by
 have h1:IntKind.i64.min = -9223372036854775808:=rfl
 have h2:IntKind.i64.max=9223372036854775807:=rfl
 simp only [Lit.wf,Bool.and_eq_true,decide_eq_true_eq]
 omega
theorem Zg {α β:Type} {g:α→Option β}:∀ (l:List α),(∀ x∈l,(g x).isSome=true)→(l.mapM g).isSome=true
 | [],_=>rfl
 | x::r,h=>by
  have h1:=h x List.mem_cons_self
  have ih:=Zg r (fun y hy=>h y (List.mem_cons_of_mem _ hy))
  rw [List.mapM_cons]
  cases hx:g x with
  | none=>rw [hx] at h1;cases h1
  | some y =>
   cases hr:r.mapM g with
   | none=>rw [hr] at ih;cases ih
   | some ys=>rfl
/-- A struct of integers is a key. -/
theorem Anq {P : Program} {k : TypeId} {fs : Array Field} {cs : List Value} {d : Nat} (hd : P.types.size = d + 1) (hu : P.underlying k = some (.struct fs)) (hk : P.keyType k = true) (hc : cs.length = P.cellsOf k) (hn : fs.all (·.name != "_") = true)
  (hf:∀ f∈fs.toList,∃ q n,P.underlying f.type=some (.int q)∧(cs.drop f.offset).take (P.cellsOf f.type)=[.int q n]∧(Lit.int q n).wf=true):(keyOf P k (.agg cs.toArray)).isSome=true:=by
 unfold keyOf
 rw [hu]
 have hfm:(Value.agg cs.toArray).formed P k=true:=by simp [Value.formed,hu,hc]
 simp only [hk,hfm,Bool.and_self,if_true,Option.isSome_map]
 have hcl:(Value.agg cs.toArray).cells.toList=cs:=by simp [Value.cells]
 rw [hcl,hd]
 unfold Program.keyLits
 simp only [hu]
 rw [if_pos ⟨hc,hn⟩,Option.isSome_map]
 refine Zg _ fun f hfm=>?_
 obtain ⟨q,n,h1,h2,h3⟩:=hf f hfm
 rw [h2]
 unfold Program.keyLits
 simp [h1,h3]
end Go.Proofs.YtbkobeeileemjaaGreat
