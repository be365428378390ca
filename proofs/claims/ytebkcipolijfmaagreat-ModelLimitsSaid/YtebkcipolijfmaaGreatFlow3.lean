/- More steps that follow a plain function. -/
import Derived.Test.YtebkcipolijfmaaGreatFlow
namespace Go.Proofs.YtebkcipolijfmaaGreat
open Go Go.RowKit
theorem Adm {ρ:Type} {r:ρ} {p:Prop} (h:(none:Option ρ)=some r):p:=nomatch h
theorem Iz {α:Type} {enc:α→List Value} {sz:Nat} (he:∀ x,(enc x).length=sz):∀ m:List α,(m.flatMap enc).length=m.length*sz:=by
 intro m
 induction m with
 | nil=>simp
 | cons x r ih=>rw [List.flatMap_cons,List.length_append,he x,ih,List.length_cons,Nat.succ_mul];omega
theorem Has.dn0 {α:Type} {K:List Ent} {A:Option Addr} {n c sz:Nat} {enc:α→List Value} {l:List α} (h:Has (K++[]) A n c sz enc l):Has K A n c sz enc l:=by rw [List.append_nil] at h;exact h

/-! ### slices whose elements hold slices -/
def raw (x:List Value):List Value:=x
def HasN {α:Type} (K:List Ent) (A:Option Addr) (n c sz:Nat) (R:List Ent→α→List Value→Prop) (l:List α):Prop :=
 ∃ hl:List (List Value),Has K A n c sz raw hl∧hl.length=l.length∧∀ (i:Nat) (h:i < l.length) (h':i < hl.length),R K l[i] hl[i]
theorem HasN.len {α:Type} {K:List Ent} {A:Option Addr} {n c sz:Nat} {R:List Ent→α→List Value→Prop} {l:List α} (h:HasN K A n c sz R l):l.length=n:=by
 obtain ⟨hl,h1,h2,_⟩:=h;rw [← h2];exact h1.len
theorem HasN.len' {α:Type} {K:List Ent} {A:Option Addr} {n c sz:Nat} {R:List Ent→α→List Value→Prop} {l:List α} (h:HasN K A n c sz R l):HasN K A l.length c sz R l:=by
 have:=h.len;subst this;exact h
theorem HasN.up {α:Type} {K L:List Ent} {A:Option Addr} {n c sz:Nat} {R:List Ent→α→List Value→Prop} {l:List α} (hm:∀ {K L:List Ent} {x:α} {ys:List Value},SubE K L→R K x ys→R L x ys) (h:HasN K A n c sz R l) (hK:SubE K L):HasN L A n c sz R l:=by
 obtain ⟨hl,h1,h2,h3⟩:=h
 exact ⟨hl,h1.up hK,h2,fun i h h'=>hm hK (h3 i h h')⟩
theorem HasN.nil {α:Type} {K:List Ent} {sz:Nat} {R:List Ent→α→List Value→Prop}:HasN K none 0 0 sz R ([]:List α):=⟨[],Has.nil,rfl,fun i h=>absurd h (by simp)⟩
theorem HasN.up0 {α:Type} {K:List Ent} {A:Option Addr} {n c sz:Nat} {R:List Ent→α→List Value→Prop} {l:List α} (h:HasN K A n c sz R l):HasN (K++[]) A n c sz R l:=by rw [List.append_nil];exact h
theorem HasN.dn0 {α:Type} {K:List Ent} {A:Option Addr} {n c sz:Nat} {R:List Ent→α→List Value→Prop} {l:List α} (h:HasN (K++[]) A n c sz R l):HasN K A n c sz R l:=by rw [List.append_nil] at h;exact h
theorem HasN.assoc {α:Type} {K E E':List Ent} {A:Option Addr} {n c sz:Nat} {R:List Ent→α→List Value→Prop} {l:List α} (h:HasN (K++E++E') A n c sz R l):HasN (K++(E++E')) A n c sz R l:=by rw [← List.append_assoc];exact h
theorem HasN.at_idx {α:Type} {K:List Ent} {A:Option Addr} {m c sz:Nat} {R:List Ent→α→List Value→Prop} {l:List α} {i:Int} {x:α} (h:HasN K A m c sz R l) (hi:idx l i=some x) :
  ∃ (b o j:Nat) (ys:List Value),A=some ⟨b,o,none⟩∧i=(j:Int)∧j < m∧Pt K b (o+j*sz) ys∧R K x ys:=by
 obtain ⟨hl,h1,h2,h3⟩:=h
 obtain ⟨j,hj,e1,e2⟩:=Xb hi
 obtain ⟨b,o,hA,hp⟩:=h1.elem (i:=j) (by omega)
 exact ⟨b,o,j,_,hA,e1,by have:=h1.len;omega,hp,by rw [← e2];exact h3 j hj (by omega)⟩
theorem Pt.low {K E:List Ent} {w:World} {b o:Nat} {ys:List Value} (h:Pt (K++E) b o ys) (hK:∀ e∈K,Ent.ok w e):Pt (.old w::E) b o ys:=fun w' hw'=>h w' (fun e he=>by
 rcases List.mem_append.1 he with he | he
 ·exact Ent.ext (hK e he) (hw' (.old w) List.mem_cons_self)
 ·exact hw' e (List.mem_cons_of_mem _ he))
section
variable {P:Program} {n:Nat} {N:Act→World→Prop} {Q:Exit→Act→World→Prop} {fr:List (Nat × Value)} {L:List Ent}
/-- A block is an own row. -/
theorem T_mr {α:Type} {enc:α→List Value} (l:List α) {i g t sz cs q L'} (hL:SetE L i (.m g t cs) (.r (some ⟨g,0,none⟩) q q t sz (l.flatMap enc)) L') (hc:cs=l.flatMap enc) (hq:q=l.length) (he:∀ x,(enc x).length=sz) (hm:q≤maxLen)
  (k:T n N fr L'):T n N fr L:=by
 intro a w ha hw
 refine k a w ha (Heap.turn (e:=.m g t cs) (e':=.r (some ⟨g,0,none⟩) q q t sz (l.flatMap enc)) (w:=w) (w':=w) ⟨rfl,rfl,rfl,Nat.le_refl _,fun _ _ _=>rfl⟩ ?_ (Nat.le_refl _) (fun g hg=>.inl hg) hL hw)
 have hok:w.heap[g]? = some (.cells cs.toArray t (0,0)):=hw.ok _ hL.mem
 subst hc;subst hq
 have hl:=Iz he l
 exact ⟨hl,.inr ⟨g,l.length,_,rfl,Nat.zero_le _,hok,Nat.le_refl _,hm,by simpa using hl,by show List.take _ (l.flatMap enc)=_;rw [← hl,List.take_length]⟩⟩
theorem Ako (w:World) (r:Option Nat):w.grownBy w r:=⟨rfl,rfl,rfl,Nat.le_refl _,fun _ _ _=>rfl⟩
theorem Aav (P:Program) (w:World) (base:Nat) (t ty e:TypeId) (i:TypeInfo) (size:Nat) (ht:P.underlying t=some (.slice e)) (hi:P.info? e=some i)
  (v:Value) (n:Nat) (xs:List Value) (hown:w.ownsRow base e size v n xs) (c:Nat):(Builtin.append_ #[t,t] ty #[v,.slice none 0 c]).run P w = .ok v w:=by
 rcases hown.2 with ⟨rfl,rfl⟩ | ⟨g,cap,cur,rfl,_,_,hnc,_⟩
 ·simp [Builtin.append_,run_underlying ht,sizeOf,typeInfo,hi,Builtin.lenOf,Builtin.firstCells]
 ·simp [Builtin.append_,run_underlying ht,sizeOf,typeInfo,hi,Builtin.lenOf,Builtin.firstCells,hnc,storeCells]
/-- append of a slice that reads as a list. -/
theorem Akp {α:Type} (enc:α→List Value) (l ys:List α) {d:Nat} {s x t e sz bytes A m c B q q' i ty'} {pos:String} {after:Array Edge} {guard:Option (Nat × Bool)} {L':Option Addr→Nat→List Ent} {K:List Ent}
  (hs:evo fr s=some (.slice A m c)) (hx:evo fr x=some (.slice B q q')) (ht:Sh P t e sz bytes) (he:∀ x,(enc x).length=sz)
  (hy:Has K B q q' sz enc ys) (hK:SubE K L) (h1:∀ x,Jj (enc x)=true) (hb:(l.length+ys.length)*bytes≤140737488355328) (hd:Nat.blt d n=true)
  (hL:∀ A' c',SetE L i (.r A m c e sz (l.flatMap enc)) (.r A' (l++ys).length c' e sz ((l++ys).flatMap enc)) (L' A' c'))
  (h0:0 < bytes)
  (k:∀ A' c',T n N ((d,.slice A' (l++ys).length c')::fr) (L' A' c')) :
  Wh P Q n ⟨some d,.call ⟨.builtin .append,#[s,x],#[t,t]⟩,ty',pos,after,guard⟩ fr L N:=by
 intro a w ha hw
 have hm:m=l.length:=(Has.ofRow ht.pos he (hw.ok _ (hL none 0).mem)).len.symm
 subst hm
 have hq:=hy.len
 subst hq
 have hl:=Iz he l
 have hly:=Iz he ys
 have h63:l.length+ys.length≤9223372036854775807:=by
  have h3:=Nat.mul_le_mul_left (l.length+ys.length) h0
  rw [Nat.mul_succ,Nat.mul_zero,Nat.zero_add] at h3
  omega
 obtain ⟨i0,z,e1,e2,e3,e4,e5⟩:=ht.ex
 have hown:w.ownsRow 0 e sz (.slice A l.length c) l.length (l.flatMap enc):=hw.ok _ (hL none 0).mem
 have hsl:=hy.at hK hw
 have hone:∀ u∈ys.flatMap enc,u.oneCell'=true:=by
  intro u hu
  obtain ⟨x,_,hu⟩:=List.mem_flatMap.1 hu
  exact Mv (h1 x) u hu
 have main:∃ v' w',(Builtin.append_ #[t,t] ty' #[.slice A l.length c,.slice B ys.length q']).run P w = .ok v' w'∧w'.ownsRow 0 e sz v' (l.length+ys.length) (l.flatMap enc++ys.flatMap enc) ∧
   w.grownBy w' (Value.slice A l.length c).ownBlock∧(v'.ownBlock=(Value.slice A l.length c).ownBlock∨v'.ownBlock=some w.heap.size):=by
  by_cases hn:0 < ys.length
  ·obtain ⟨b,o,hB,hcell⟩:=hsl.at_ hn
   subst hB
   have hnew:∀ (j:Nat) (u:Value),(ys.flatMap enc)[j]? = some u→w.cell? ((⟨b,o,none⟩:Addr).add j)=some u:=fun j u hj=>by
    have hjl:j < (ys.flatMap enc).length:=(List.getElem?_eq_some_iff.1 hj).1
    rw [hly] at hjl
    have hdm:j=j / sz*sz+j % sz:=by have:=Nat.div_add_mod j sz;rw [Nat.mul_comm] at this;omega
    have hq:j / sz < ys.length:=(Nat.div_lt_iff_lt_mul ht.pos).2 hjl
    have hmod:=Nat.mod_lt j ht.pos
    obtain ⟨u',hu'⟩:∃ u',(enc ys[j / sz])[j % sz]? = some u':=⟨_,List.getElem?_eq_getElem (by rw [he ys[j / sz]];exact hmod)⟩
    have hf:=Vj ys (j / sz) hq (fun x _=>he x) (j % sz) u' hu'
    rw [← hdm,hj] at hf
    injection hf with hf
    subst hf
    have:=hcell (j / sz) hq (j % sz) u hu'
    rw [Addr.add_lit,hdm,← Nat.add_assoc];exact this
   obtain ⟨v',w',hr,h2,h3,_,h5⟩:=run_append_own_at (P:=P) w 0 t ty' e i0 z sz bytes ht.sl e1 e2 e3 e4 e5 ht.pos _ _ _ hown ⟨b,o,none⟩ ys.length q' (ys.flatMap enc) hly hnew hone (by unfold maxLen;omega) hb (Nat.zero_le _)
   exact ⟨v',w',hr,h2,h3,h5⟩
  ·have h0:ys=[]:=List.eq_nil_of_length_eq_zero (by omega)
   subst h0
   cases B with
   | none=>exact ⟨_,w,Aav P w 0 t ty' e i0 sz ht.sl e1 _ _ _ hown q',by simpa using hown,Ako w _,.inl rfl⟩
   | some b =>
    obtain ⟨v',w',hr,h2,h3,_,h5⟩:=run_append_own_at (P:=P) w 0 t ty' e i0 z sz bytes ht.sl e1 e2 e3 e4 e5 ht.pos _ _ _ hown b 0 q' [] (by simp) (fun j u hj=>by simp at hj) (fun u hu=>by simp at hu) (by unfold maxLen;omega) hb (Nat.zero_le _)
    exact ⟨v',w',hr,h2,h3,h5⟩
 obtain ⟨v',w',hr,h2,h3,h5⟩:=main
 have hlq:l.length+ys.length=(l++ys).length:=by rw [List.length_append]
 have hv':∃ A' c',v' = .slice A' (l.length+ys.length) c':=by
  rcases h2.2 with ⟨hv,h0⟩ | ⟨g',cap,cur,hv,_⟩
  ·exact ⟨none,0,by rw [hv,h0]⟩
  ·exact ⟨_,_,hv⟩
 obtain ⟨A',c',rfl⟩:=hv'
 rw [hlq] at hr h2 h5
 rw [← List.flatMap_append] at h2
 have hrun:(execOp a.eval ⟨some d,.call ⟨.builtin .append,#[s,x],#[t,t]⟩,ty',pos,after,guard⟩).run P w = .ok (.value (.slice A' (l++ys).length c')) w':=by
  simp [execOp,resolve,invoke,builtin,ha.eval hs,ha.eval hx,hr]
 simp only [Oper.wp,hrun,Oper.upon_value]
 refine k A' c' _ _ (ha.put hd) (Heap.turn (e:=.r A l.length c e sz (l.flatMap enc)) (e':=.r A' (l++ys).length c' e sz ((l++ys).flatMap enc)) h3 h2 (Nat.le_refl _) (fun g' hg'=>?_) (hL A' c') hw)
 simp only [Ent.blk] at hg' ⊢
 rcases h5 with h5 | h5
 ·left;rw [← h5];exact hg'
 ·right;rw [h5] at hg';injection hg' with hg';omega
theorem Amv {t x k a} {dst:Option Tmp} {ty:TypeId} {pos:String} {after:Array Edge} {guard:Option (Nat × Bool)} (hx:evo fr x=some (.int k a)):Ev P n ⟨dst,.unOp .xor t x,ty,pos,after,guard⟩ fr L (.int k (Xs k (if k.signed then -1 else k.max) a)):=fun ac w ha _=>by
 simp only [execOp,ha.eval hx,Op.unary,Op.intBits]
 rfl
end
/-! ### numbers, by kind -/
section
variable {P:Program} {n:Nat} {fr:List (Nat × Value)} {L:List Ent}
variable {dst:Option Tmp} {ty:TypeId} {pos:String} {after:Array Edge} {guard:Option (Nat × Bool)}
theorem Zo {t t' x y a b} (hx:evo fr x=some (.int .i64 a)) (hy:evo fr y=some (.int .i64 b)):Ev P n ⟨dst,.binOp .add t x y t',ty,pos,after,guard⟩ fr L (.int .i64 (w64 (a+b))):=Ags hx hy
theorem Aen {t t' x y a b} (hx:evo fr x=some (.int .i64 a)) (hy:evo fr y=some (.int .i64 b)):Ev P n ⟨dst,.binOp .sub t x y t',ty,pos,after,guard⟩ fr L (.int .i64 (w64 (a-b))):=Agt hx hy
theorem Aeo {t t' x y a b} (hx:evo fr x=some (.int .i64 a)) (hy:evo fr y=some (.int .i64 b)):Ev P n ⟨dst,.binOp .mul t x y t',ty,pos,after,guard⟩ fr L (.int .i64 (w64 (a*b))):=Agu hx hy
theorem Akq {t t' x y a b} (hx:evo fr x=some (.int .i64 a)) (hy:evo fr y=some (.int .i64 b)) (h:b≠0):Ev P n ⟨dst,.binOp .quo t x y t',ty,pos,after,guard⟩ fr L (.int .i64 (w64 (Int.tdiv a b))):=Alw hx hy h
theorem Aep {t x a} (hx:evo fr x=some (.int .i64 a)):Ev P n ⟨dst,.unOp .neg t x,ty,pos,after,guard⟩ fr L (.int .i64 (w64 (-a))):=Al0 hx
theorem Tl {src dt x k v} (hx:evo fr x=some (.int k v)) (hs:(P.underlying src).isSome=true) (hd:P.underlying dt=some (.int .i64)):Ev P n ⟨dst,.convert src dt x,ty,pos,after,guard⟩ fr L (.int .i64 (w64 v)):=Adf hx hs hd
theorem Acm {t t' x y a b} (hx:evo fr x=some (.int .u64 a)) (hy:evo fr y=some (.int .u64 b)):Ev P n ⟨dst,.binOp .add t x y t',ty,pos,after,guard⟩ fr L (.int .u64 (wu64 (a+b))):=Ags hx hy
theorem Acn {t t' x y a b} (hx:evo fr x=some (.int .u64 a)) (hy:evo fr y=some (.int .u64 b)):Ev P n ⟨dst,.binOp .sub t x y t',ty,pos,after,guard⟩ fr L (.int .u64 (wu64 (a-b))):=Agt hx hy
theorem Aco {t t' x y a b} (hx:evo fr x=some (.int .u64 a)) (hy:evo fr y=some (.int .u64 b)):Ev P n ⟨dst,.binOp .mul t x y t',ty,pos,after,guard⟩ fr L (.int .u64 (wu64 (a*b))):=Agu hx hy
theorem Qt {t t' x y a b} (hx:evo fr x=some (.int .u64 a)) (hy:evo fr y=some (.int .u64 b)) (h:b≠0):Ev P n ⟨dst,.binOp .quo t x y t',ty,pos,after,guard⟩ fr L (.int .u64 (wu64 (Int.tdiv a b))):=Alw hx hy h
theorem Ajb {t x a} (hx:evo fr x=some (.int .u64 a)):Ev P n ⟨dst,.unOp .neg t x,ty,pos,after,guard⟩ fr L (.int .u64 (wu64 (-a))):=Al0 hx
theorem Eg {src dt x k v} (hx:evo fr x=some (.int k v)) (hs:(P.underlying src).isSome=true) (hd:P.underlying dt=some (.int .u64)):Ev P n ⟨dst,.convert src dt x,ty,pos,after,guard⟩ fr L (.int .u64 (wu64 v)):=Adf hx hs hd
theorem Acp {t t' x y a b} (hx:evo fr x=some (.int .u32 a)) (hy:evo fr y=some (.int .u32 b)):Ev P n ⟨dst,.binOp .add t x y t',ty,pos,after,guard⟩ fr L (.int .u32 (wu32 (a+b))):=Ags hx hy
theorem Acq {t t' x y a b} (hx:evo fr x=some (.int .u32 a)) (hy:evo fr y=some (.int .u32 b)):Ev P n ⟨dst,.binOp .sub t x y t',ty,pos,after,guard⟩ fr L (.int .u32 (wu32 (a-b))):=Agt hx hy
theorem Acr {t t' x y a b} (hx:evo fr x=some (.int .u32 a)) (hy:evo fr y=some (.int .u32 b)):Ev P n ⟨dst,.binOp .mul t x y t',ty,pos,after,guard⟩ fr L (.int .u32 (wu32 (a*b))):=Agu hx hy
theorem Li {src dt x k v} (hx:evo fr x=some (.int k v)) (hs:(P.underlying src).isSome=true) (hd:P.underlying dt=some (.int .u32)):Ev P n ⟨dst,.convert src dt x,ty,pos,after,guard⟩ fr L (.int .u32 (wu32 v)):=Adf hx hs hd
theorem Acs {src dt x k v} (hx:evo fr x=some (.int k v)) (hs:(P.underlying src).isSome=true) (hd:P.underlying dt=some (.int .u8)):Ev P n ⟨dst,.convert src dt x,ty,pos,after,guard⟩ fr L (.int .u8 (wu8 v)):=Adf hx hs hd
end
end Go.Proofs.YtebkcipolijfmaaGreat
/- Steps that follow a plain function: rows of structs made, copies. -/
namespace Go.Proofs.YtebkcipolijfmaaGreat
open Go Go.RowKit
theorem Ajc:∀ (vs pre old tail:List Value),old.length=vs.length→(Dv (pre++old++tail).toArray pre.length vs).toList=pre++vs++tail:=by
 intro vs
 induction vs with
 | nil=>intro pre old tail h;have:old=[]:=List.eq_nil_of_length_eq_zero (by simpa using h);subst this;simp [Dv]
 | cons v r ih =>
  intro pre old tail h
  match old,h with
  | u::old',h =>
   simp only [Dv,List.setIfInBounds_toArray]
   have:(pre++u::old' ++ tail).set pre.length v=(pre++[v])++old' ++ tail:=by
    rw [List.append_assoc,List.set_append_right _ _ (Nat.le_refl _)];simp
   rw [this]
   have:=ih (pre++[v]) old' tail (by simpa using h)
   simp at this ⊢
   exact this
def cpy {α:Type} (l:List α) (p:Nat) (ys:List α):List α:=l.take p++ys.take (l.length-p)++l.drop (p+ys.length)
theorem Co {α:Type} {l:List α} {p:Nat} {ys:List α} (h:p≤l.length):(cpy l p ys).length=l.length:=by
 simp only [cpy,List.length_append,List.length_take,List.length_drop];omega
theorem Ajd {α:Type} {enc:α→List Value} {sz:Nat} (hz:0 < sz) (he:∀ x,(enc x).length=sz) (l:List α) (j:Nat) (u:Value) (hj:(l.flatMap enc)[j]? = some u):∃ h:j / sz < l.length,(enc l[j / sz])[j % sz]? = some u:=by
 have hjl:j < (l.flatMap enc).length:=(List.getElem?_eq_some_iff.1 hj).1
 rw [Iz he l] at hjl
 have hdm:j=j / sz*sz+j % sz:=by have:=Nat.div_add_mod j sz;rw [Nat.mul_comm] at this;omega
 have hq:j / sz < l.length:=(Nat.div_lt_iff_lt_mul hz).2 hjl
 have hmod:=Nat.mod_lt j hz
 refine ⟨hq,?_⟩
 obtain ⟨u',hu'⟩:∃ u',(enc l[j / sz])[j % sz]? = some u':=⟨_,List.getElem?_eq_getElem (by rw [he l[j / sz]];exact hmod)⟩
 have hf:=Vj l (j / sz) hq (fun x _=>he x) (j % sz) u' hu'
 rw [← hdm,hj] at hf
 injection hf with hf
 subst hf;exact hu'
theorem Sl.flat {α:Type} {w:World} {A n c sz} {enc:α→List Value} {l:List α} (h:Sl w A n c sz enc l) (hz:0 < sz) (he:∀ x,(enc x).length=sz) {b o:Nat} (hA:A=some ⟨b,o,none⟩) (hn:0 < n) :
  ∀ (j:Nat) (u:Value),(l.flatMap enc)[j]? = some u→w.cell? ((⟨b,o,none⟩:Addr).add j)=some u:=by
 intro j u hj
 obtain ⟨hq,hu⟩:=Ajd hz he l j u hj
 obtain ⟨b',o',hA',hc⟩:=h.at_ hn
 rw [hA] at hA'
 injection hA' with hA'
 injection hA' with e1 e2 _
 subst e1;subst e2
 have:=hc (j / sz) hq (j % sz) u hu
 have hdm:j=j / sz*sz+j % sz:=by have:=Nat.div_add_mod j sz;rw [Nat.mul_comm] at this;omega
 rw [Addr.add_lit,hdm,← Nat.add_assoc];exact this
section
variable {P:Program} {n:Nat} {N:Act→World→Prop} {Q:Exit→Act→World→Prop} {fr:List (Nat × Value)} {L:List Ent}
/-- copy into an own row, from the place p on. -/
theorem Aje {α:Type} (enc:α→List Value) (l ys:List α) (p:Nat) {x y X A m c t sz B q cx cy mx K tt t2 e ty i L' d} {pos:String} {after:Array Edge} {guard:Option (Nat × Bool)}
  (hx:evo fr x=some (.slice X mx cx)) (hy:evo fr y=some (.slice B q cy)) (hr:Has K B q cy sz enc ys) (hK:SubE K L) (hmx:mx=m-p) (hp:p≤m)
  (hX:∀ g,A=some ⟨g,0,none⟩→c≠p→X=some ⟨g,p*sz,none⟩)
  (hL:SetE L i (.r A m c t sz (l.flatMap enc)) (.r A m c t sz ((cpy l p ys).flatMap enc)) L') (ht:P.underlying tt=some (.slice e)) (hs:(P.info? e).map (·.size)=some sz) (hz:0 < sz) (he:∀ x,(enc x).length=sz) (h1:∀ x,Jj (enc x)=true) (hd:Nat.blt d n=true)
  (k:T n N ((d,.int .i64 ((min ys.length (l.length-p):Nat):Int))::fr) L') :
  Wh P Q n ⟨some d,.call ⟨.builtin .copy,#[x,y],#[tt,t2]⟩,ty,pos,after,guard⟩ fr L N:=by
 intro a w ha hw
 have hm:m=l.length:=(Has.ofRow hz he (hw.ok _ hL.mem)).len.symm
 subst hm
 subst hmx
 have hq:=hr.len
 subst hq
 have hsl:=hr.at hK hw
 obtain ⟨ii,hii,hisz⟩:∃ ii,P.info? e=some ii∧ii.size=sz:=by
  cases hq:P.info? e with
  | none=>simp [hq] at hs
  | some ii=>exact ⟨ii,rfl,by simpa [hq] using hs⟩
 obtain ⟨hl,h2⟩:=hw.ok _ hL.mem
 by_cases h0:min ys.length (l.length-p)=0
 ·have hsame:cpy l p ys=l:=by
   unfold cpy
   rcases Nat.eq_zero_or_pos ys.length with h | h
   ·have:ys=[]:=List.eq_nil_of_length_eq_zero h
    subst this;simp
   ·have h3:p=l.length:=by omega
    subst h3
    simp
  rw [hsame] at hL
  rw [hL.same rfl] at k
  rw [h0] at k
  have hload:∀ (x:Addr),(loadCells x 0).run P w = .ok #[] w:=fun x=>by simpa using run_loadCells_list (P:=P) w x [] (by simp)
  have hrun:(execOp a.eval ⟨some d,.call ⟨.builtin .copy,#[x,y],#[tt,t2]⟩,ty,pos,after,guard⟩).run P w = .ok (.value (.int .i64 ((0:Nat):Int))) w:=by
   have hn:Nat.min ys.length (l.length-p)=0:=h0
   cases X <;> cases B <;> simp [execOp,resolve,invoke,builtin,ha.eval hx,ha.eval hy,Builtin.copy_,run_underlying ht,Builtin.lenOf,Builtin.firstCells,sizeOf,typeInfo,hii,hisz,hn,storeCells,hload,goInt]
  simp only [Oper.wp,hrun,Oper.upon_value]
  exact k _ _ (ha.put hd) hw
 ·rcases h2 with ⟨_,h3⟩ | ⟨g,cap,cur,hv,_,hb,h3,h4,h5,h6⟩
  ·omega
  ·injection hv with hg _ hcap
   subst hg;subst hcap
   have hX':=hX g rfl (by omega)
   subst hX'
   obtain ⟨b,o,hB,_⟩:=hsl.at_ (by omega)
   subst hB
   have hcells:=hsl.flat hz he rfl (by omega)
   have hfl:=Iz he
   -- what is copied
   have hzs:((ys.take (l.length-p)).flatMap enc).length=min ys.length (l.length-p)*sz:=by rw [hfl,List.length_take,Nat.min_comm]
   have htk:∀ (j:Nat) (u:Value),((ys.take (l.length-p)).flatMap enc)[j]? = some u→w.cell? ((⟨b,o,none⟩:Addr).add j)=some u:=by
    intro j u hj
    refine hcells j u ?_
    have:ys.flatMap enc=(ys.take (l.length-p)).flatMap enc++(ys.drop (l.length-p)).flatMap enc:=by rw [← List.flatMap_append,List.take_append_drop]
    rw [this,List.getElem?_append_left ((List.getElem?_eq_some_iff.1 hj).1)]
    exact hj
   have hload:=run_loadCells_list (P:=P) w (⟨b,o,none⟩:Addr) _ htk
   rw [hzs] at hload
   have hone:Jj ((ys.take (l.length-p)).flatMap enc)=true:=by
    generalize ys.take (l.length-p)=zs
    induction zs with
    | nil=>rfl
    | cons x r ih =>
     rw [List.flatMap_cons]
     have ap:∀ p q:List Value,Jj p=true→Jj q=true→Jj (p++q)=true:=by
      intro p q hp hq
      induction p with
      | nil=>exact hq
      | cons z p ihp=>simp only [List.cons_append,Jj,Bool.and_eq_true] at hp ⊢;exact ⟨hp.1,ihp hp.2⟩
     exact ap _ _ (h1 x) ih
   have hmul:p*sz+min ys.length (l.length-p)*sz≤l.length*sz:=by rw [← Nat.add_mul];exact Nat.mul_le_mul_right _ (by omega)
   have hmul2:l.length*sz≤c*sz:=Nat.mul_le_mul_right _ h3
   have hst:=Ix P g t ((ys.take (l.length-p)).flatMap enc) 0 (p*sz) cur w hb (by rw [hzs,h5];omega) (Mv hone)
   have hpos:0 < min ys.length (l.length-p)*sz:=Nat.mul_pos (by omega) hz
   have hne:(ys.take (l.length-p)).flatMap enc≠[]:=by intro h;rw [h] at hzs;simp only [List.length_nil] at hzs;omega
   rw [if_neg hne] at hst
   have hrun:(execOp a.eval ⟨some d,.call ⟨.builtin .copy,#[x,y],#[tt,t2]⟩,ty,pos,after,guard⟩).run P w = .ok (.value (.int .i64 ((min ys.length (l.length-p):Nat):Int))) (Mw w g (.cells (Dv cur (p*sz+0) ((ys.take (l.length-p)).flatMap enc)) t (0,0))):=by
    have hn:Nat.min ys.length (l.length-p)=min ys.length (l.length-p):=rfl
    simp [execOp,resolve,invoke,builtin,ha.eval hx,ha.eval hy,Builtin.copy_,run_underlying ht,Builtin.lenOf,Builtin.firstCells,sizeOf,typeInfo,hii,hisz,hload,hst,goInt,hn]
   simp only [Oper.wp,hrun,Oper.upon_value]
   have hcl:(cpy l p ys).length=l.length:=Co hp
   refine k _ _ (ha.put hd) (Heap.turn (e:=.r (some ⟨g,0,none⟩) l.length c t sz (l.flatMap enc)) (e':=.r (some ⟨g,0,none⟩) l.length c t sz ((cpy l p ys).flatMap enc)) (Rj w g _) ?_ (Nat.le_refl _) (fun _ hg=>.inl hg) hL hw)
   refine ⟨by rw [hfl,hcl],.inr ⟨g,c,_,rfl,Nat.zero_le _,Uh w g _ (Ek hb),h3,h4,by rw [Rk];exact h5,?_⟩⟩
   have hcur:cur=((l.take p).flatMap enc++((l.drop p).take (min ys.length (l.length-p))).flatMap enc++((l.drop (p+ys.length)).flatMap enc++cur.toList.drop (l.length*sz))).toArray:=by
    have e1:l.flatMap enc=(l.take p).flatMap enc++((l.drop p).take (min ys.length (l.length-p))).flatMap enc++(l.drop (p+ys.length)).flatMap enc:=by
     rw [← List.flatMap_append,← List.flatMap_append]
     congr 1
     rw [List.append_assoc]
     have e2:(l.drop p).take (min ys.length (l.length-p))++l.drop (p+ys.length)=l.drop p:=by
      rcases Nat.le_total ys.length (l.length-p) with h | h
      ·rw [Nat.min_eq_left h,← List.drop_drop,List.take_append_drop]
      ·rw [Nat.min_eq_right h,List.take_of_length_le (by simp),List.drop_eq_nil_of_le (show l.length≤p+ys.length by omega),List.append_nil]
     rw [e2,List.take_append_drop]
    have e3:cur.toList=l.flatMap enc++cur.toList.drop (l.length*sz):=by
     have:=List.take_append_drop (l.length*sz) cur.toList
     rw [h6] at this;exact this.symm
    rw [e1,List.append_assoc] at e3
    rw [← Array.toArray_toList (xs:=cur)]
    congr 1
   have hpl:((l.take p).flatMap enc).length=p*sz:=by rw [hfl,List.length_take,Nat.min_eq_left hp]
   have hmid:=Ajc ((ys.take (l.length-p)).flatMap enc) ((l.take p).flatMap enc) (((l.drop p).take (min ys.length (l.length-p))).flatMap enc) ((l.drop (p+ys.length)).flatMap enc++cur.toList.drop (l.length*sz))
    (by rw [hzs,hfl,List.length_take,List.length_drop];congr 1;omega)
   rw [hpl,← hcur] at hmid
   rw [Nat.add_zero,hmid]
   have hwhole:(l.take p).flatMap enc++(ys.take (l.length-p)).flatMap enc++((l.drop (p+ys.length)).flatMap enc++cur.toList.drop (l.length*sz))=(cpy l p ys).flatMap enc++cur.toList.drop (l.length*sz):=by
    simp only [cpy,List.flatMap_append,List.append_assoc]
   rw [hwhole]
   have hc2:((cpy l p ys).flatMap enc).length=l.length*sz:=by rw [hfl,hcl]
   rw [← hc2,List.take_left]
theorem Amw {A:Option Addr} {c sz g:Nat} (h:A=some ⟨g,0,none⟩) (_hc:c≠0):A=some ⟨g,0*sz,none⟩:=by rw [Nat.zero_mul];exact h
theorem Wy {α:Type} {enc:α→List Value} {sz:Nat} {z:Array Value} (x0:α) (hz:0 < sz) (he:∀ x,(enc x).length=sz) (h0:enc x0=z.toList) (m:Nat):madeCells z (m*sz)=((List.replicate m x0).flatMap enc).toArray:=by
 have hzs:z.size=sz:=by rw [← he x0,h0];simp
 apply Array.ext
 ·rw [size_madeCells];simp only [List.size_toArray];rw [Iz he,List.length_replicate]
 ·intro i h1 h2
  have h2':i < ((List.replicate m x0).flatMap enc).length:=by simpa using h2
  obtain ⟨v,hv⟩:∃ v,((List.replicate m x0).flatMap enc)[i]? = some v:=⟨_,List.getElem?_eq_getElem h2'⟩
  obtain ⟨hq,hu⟩:=Ajd hz he _ i _ hv
  have hx:(List.replicate m x0)[i / sz]=x0:=List.getElem_replicate _
  rw [hx,h0] at hu
  have hmod:i % sz < z.size:=by rw [hzs];exact Nat.mod_lt _ hz
  rw [Array.getElem?_toList,Array.getElem?_eq_getElem hmod] at hu
  injection hu with hu
  have hv':((List.replicate m x0).flatMap enc).toArray[i]=v:=by
   rw [List.getElem_toArray]
   exact (List.getElem?_eq_some_iff.1 hv).2
  rw [hv',← hu]
  simp only [madeCells,Array.getElem_map,Array.getElem_range,hzs]
  exact getElem!_pos z (i % sz) hmod
/-- make([]T, m), T a struct. -/
theorem Aqs {α:Type} (enc:α→List Value) (x0:α) {d:Nat} {t e x y k1 k2 i1 i2 i z sz} {ty:TypeId} {pos:String} {after:Array Edge} {guard:Option (Nat × Bool)} (hx:evo fr x=some (.int k1 i1)) (hy:evo fr y=some (.int k2 i2)) (h12:i1=i2) (hp:0≤i1)
  (ht:P.underlying t=some (.slice e)) (hi:P.info? e=some i) (hz:i.zero=some z) (hzc:enc x0=z.cells.toList) (hs:i.size=sz) (hsz:0 < sz) (he:∀ x,(enc x).length=sz) (hb:i.bytes*i1.toNat≤140737488355328) (hb0:0 < i.bytes)
  (hd:Nat.blt d n=true) (k:∀ A,T n N ((d,.slice A (List.replicate i1.toNat x0).length (List.replicate i1.toNat x0).length)::fr) (.r A (List.replicate i1.toNat x0).length (List.replicate i1.toNat x0).length e sz ((List.replicate i1.toNat x0).flatMap enc)::L)) :
  Wx P Q n ⟨some d,.makeSlice t x y,ty,pos,after,guard⟩ fr L N:=by
 subst h12
 have h2:=Nat.mul_le_mul_right i1.toNat hb0
 rw [Nat.succ_mul,Nat.zero_mul,Nat.zero_add] at h2
 have hb':(i.bytes:Int)*i1≤281474976710656:=by
  have h:((i.bytes*i1.toNat:Nat):Int)≤281474976710656:=by omega
  rw [Int.natCast_mul,Int.toNat_of_nonneg (by omega)] at h;exact h
 refine Amo (by rw [Iz he]) (by rw [List.length_replicate];unfold maxLen;omega) (fun a w ha _=>?_) hd k
 have hr:=run_make (P:=P) w t e i z ht hi hz k1 k2 i1 i1 hp (Int.le_refl _) hb' (by omega)
 rw [hs,Wy x0 hsz he hzc] at hr
 rw [List.length_replicate]
 simp [execOp,ha.eval hx,ha.eval hy,hr]
end
end Go.Proofs.YtebkcipolijfmaaGreat
