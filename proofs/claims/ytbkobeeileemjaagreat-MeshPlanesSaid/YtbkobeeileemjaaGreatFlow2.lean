/- More steps that follow a plain function. -/
import Derived.Test.YtbkobeeileemjaaGreatFlow
namespace Go.Proofs.YtbkobeeileemjaaGreat
open Go Go.RowKit
theorem Aak {ρ:Type} {r:ρ} {p:Prop} (h:(none:Option ρ)=some r):p:=nomatch h
theorem Kb {α:Type} {enc:α→List Value} {sz:Nat} (he:∀ x,(enc x).length=sz):∀ m:List α,(m.flatMap enc).length=m.length*sz:=by
 intro m
 induction m with
 | nil=>simp
 | cons x r ih=>rw [List.flatMap_cons,List.length_append,he x,ih,List.length_cons,Nat.succ_mul];omega
theorem Has.dn0 {α:Type} {K:List Ent} {A:Option Addr} {n c sz:Nat} {enc:α→List Value} {l:List α} (h:Has (K++[]) A n c sz enc l):Has K A n c sz enc l:=by rw [List.append_nil] at h;exact h

/-! ### slices whose elements hold slices -/
def raw (x:List Value):List Value:=x
def HasN {α:Type} (K:List Ent) (A:Option Addr) (n c sz:Nat) (R:List Ent→α→List Value→Prop) (l:List α):Prop :=
 ∃ hl:List (List Value),Has K A n c sz raw hl∧hl.length=l.length∧∀ (i:Nat) (h:i < l.length) (h':i < hl.length),R K l[i] hl[i]
theorem HasN.len {α:Type} {K:List Ent} {A:Option Addr} {n c sz:Nat} {R:List Ent→α→List Value→Prop} {l:List α} (h:HasN K A n c sz R l):l.length=n:=by
 obtain ⟨hl,h1,h2,_⟩:=h;rw [← h2];exact h1.len
theorem HasN.len' {α:Type} {K:List Ent} {A:Option Addr} {n c sz:Nat} {R:List Ent→α→List Value→Prop} {l:List α} (h:HasN K A n c sz R l):HasN K A l.length c sz R l:=by
 have:=h.len;subst this;exact h
theorem HasN.up {α:Type} {K L:List Ent} {A:Option Addr} {n c sz:Nat} {R:List Ent→α→List Value→Prop} {l:List α} (hm:∀ {K L:List Ent} {x:α} {ys:List Value},SubE K L→R K x ys→R L x ys) (h:HasN K A n c sz R l) (hK:SubE K L):HasN L A n c sz R l:=by
 obtain ⟨hl,h1,h2,h3⟩:=h
 exact ⟨hl,h1.up hK,h2,fun i h h'=>hm hK (h3 i h h')⟩
theorem HasN.nil {α:Type} {K:List Ent} {sz:Nat} {R:List Ent→α→List Value→Prop}:HasN K none 0 0 sz R ([]:List α):=⟨[],Has.nil,rfl,fun i h=>absurd h (by simp)⟩
theorem HasN.up0 {α:Type} {K:List Ent} {A:Option Addr} {n c sz:Nat} {R:List Ent→α→List Value→Prop} {l:List α} (h:HasN K A n c sz R l):HasN (K++[]) A n c sz R l:=by rw [List.append_nil];exact h
theorem HasN.dn0 {α:Type} {K:List Ent} {A:Option Addr} {n c sz:Nat} {R:List Ent→α→List Value→Prop} {l:List α} (h:HasN (K++[]) A n c sz R l):HasN K A n c sz R l:=by rw [List.append_nil] at h;exact h
theorem HasN.assoc {α:Type} {K E E':List Ent} {A:Option Addr} {n c sz:Nat} {R:List Ent→α→List Value→Prop} {l:List α} (h:HasN (K++E++E') A n c sz R l):HasN (K++(E++E')) A n c sz R l:=by rw [← List.append_assoc];exact h
theorem HasN.at_idx {α:Type} {K:List Ent} {A:Option Addr} {m c sz:Nat} {R:List Ent→α→List Value→Prop} {l:List α} {i:Int} {x:α} (h:HasN K A m c sz R l) (hi:idx l i=some x) :
  ∃ (b o j:Nat) (ys:List Value),A=some ⟨b,o,none⟩∧i=(j:Int)∧j < m∧Pt K b (o+j*sz) ys∧R K x ys:=by
 obtain ⟨hl,h1,h2,h3⟩:=h
 obtain ⟨j,hj,e1,e2⟩:=Rx hi
 obtain ⟨b,o,hA,hp⟩:=h1.elem (i:=j) (by omega)
 exact ⟨b,o,j,_,hA,e1,by have:=h1.len;omega,hp,by rw [← e2];exact h3 j hj (by omega)⟩
theorem Pt.low {K E:List Ent} {w:World} {b o:Nat} {ys:List Value} (h:Pt (K++E) b o ys) (hK:∀ e∈K,Ent.ok w e):Pt (.old w::E) b o ys:=fun w' hw'=>h w' (fun e he=>by
 rcases List.mem_append.1 he with he | he
 ·exact Ent.ext (hK e he) (hw' (.old w) List.mem_cons_self)
 ·exact hw' e (List.mem_cons_of_mem _ he))
section
variable {P:Program} {n:Nat} {N:Act→World→Prop} {Q:Exit→Act→World→Prop} {fr:List (Nat × Value)} {L:List Ent}
/-- A block is an own row. -/
theorem T_mr {α:Type} {enc:α→List Value} (l:List α) {i g t sz cs q L'} (hL:SetE L i (.m g t cs) (.r (some ⟨g,0,none⟩) q q t sz (l.flatMap enc)) L') (hc:cs=l.flatMap enc) (hq:q=l.length) (he:∀ x,(enc x).length=sz) (hm:q≤maxLen)
  (k:T n N fr L'):T n N fr L:=by
 intro a w ha hw
 refine k a w ha (Heap.turn (e:=.m g t cs) (e':=.r (some ⟨g,0,none⟩) q q t sz (l.flatMap enc)) (w:=w) (w':=w) ⟨rfl,rfl,rfl,Nat.le_refl _,fun _ _ _=>rfl⟩ ?_ (Nat.le_refl _) (fun g hg=>.inl hg) hL hw)
 have hok:w.heap[g]? = some (.cells cs.toArray t (0,0)):=hw.ok _ hL.mem
 subst hc;subst hq
 have hl:=Kb he l
 exact ⟨hl,.inr ⟨g,l.length,_,rfl,Nat.zero_le _,hok,Nat.le_refl _,hm,by simpa using hl,by show List.take _ (l.flatMap enc)=_;rw [← hl,List.take_length]⟩⟩
theorem Ahg (w:World) (r:Option Nat):w.grownBy w r:=⟨rfl,rfl,rfl,Nat.le_refl _,fun _ _ _=>rfl⟩
theorem Xf (P:Program) (w:World) (base:Nat) (t ty e:TypeId) (i:TypeInfo) (size:Nat) (ht:P.underlying t=some (.slice e)) (hi:P.info? e=some i)
  (v:Value) (n:Nat) (xs:List Value) (hown:w.ownsRow base e size v n xs) (c:Nat):(Builtin.append_ #[t,t] ty #[v,.slice none 0 c]).run P w = .ok v w:=by
 rcases hown.2 with ⟨rfl,rfl⟩ | ⟨g,cap,cur,rfl,_,_,hnc,_⟩
 ·simp [Builtin.append_,run_underlying ht,sizeOf,typeInfo,hi,Builtin.lenOf,Builtin.firstCells]
 ·simp [Builtin.append_,run_underlying ht,sizeOf,typeInfo,hi,Builtin.lenOf,Builtin.firstCells,hnc,storeCells]
/-- append of a slice that reads as a list. -/
theorem Ahh {α:Type} (enc:α→List Value) (l ys:List α) {d:Nat} {s x t e sz bytes A m c B q q' i ty'} {pos:String} {after:Array Edge} {guard:Option (Nat × Bool)} {L':Option Addr→Nat→List Ent} {K:List Ent}
  (hs:evo fr s=some (.slice A m c)) (hx:evo fr x=some (.slice B q q')) (ht:Tg P t e sz bytes) (he:∀ x,(enc x).length=sz)
  (hy:Has K B q q' sz enc ys) (hK:SubE K L) (h1:∀ x,Iu (enc x)=true) (hb:(l.length+ys.length)*bytes≤140737488355328) (hd:Nat.blt d n=true)
  (hL:∀ A' c',SetE L i (.r A m c e sz (l.flatMap enc)) (.r A' (l++ys).length c' e sz ((l++ys).flatMap enc)) (L' A' c'))
  (h0:0 < bytes)
  (k:∀ A' c',T n N ((d,.slice A' (l++ys).length c')::fr) (L' A' c')) :
  Wh P Q n ⟨some d,.call ⟨.builtin .append,#[s,x],#[t,t]⟩,ty',pos,after,guard⟩ fr L N:=by
 intro a w ha hw
 have hm:m=l.length:=(Has.ofRow ht.pos he (hw.ok _ (hL none 0).mem)).len.symm
 subst hm
 have hq:=hy.len
 subst hq
 have hl:=Kb he l
 have hly:=Kb he ys
 have h63:l.length+ys.length≤9223372036854775807:=by
  have h3:=Nat.mul_le_mul_left (l.length+ys.length) h0
  rw [Nat.mul_succ,Nat.mul_zero,Nat.zero_add] at h3
  omega
 obtain ⟨i0,z,e1,e2,e3,e4,e5⟩:=ht.ex
 have hown:w.ownsRow 0 e sz (.slice A l.length c) l.length (l.flatMap enc):=hw.ok _ (hL none 0).mem
 have hsl:=hy.at hK hw
 have hone:∀ u∈ys.flatMap enc,u.oneCell'=true:=by
  intro u hu
  obtain ⟨x,_,hu⟩:=List.mem_flatMap.1 hu
  exact Nr (h1 x) u hu
 have main:∃ v' w',(Builtin.append_ #[t,t] ty' #[.slice A l.length c,.slice B ys.length q']).run P w = .ok v' w'∧w'.ownsRow 0 e sz v' (l.length+ys.length) (l.flatMap enc++ys.flatMap enc) ∧
   w.grownBy w' (Value.slice A l.length c).ownBlock∧(v'.ownBlock=(Value.slice A l.length c).ownBlock∨v'.ownBlock=some w.heap.size):=by
  by_cases hn:0 < ys.length
  ·obtain ⟨b,o,hB,hcell⟩:=hsl.at_ hn
   subst hB
   have hnew:∀ (j:Nat) (u:Value),(ys.flatMap enc)[j]? = some u→w.cell? ((⟨b,o,none⟩:Addr).add j)=some u:=fun j u hj=>by
    have hjl:j < (ys.flatMap enc).length:=(List.getElem?_eq_some_iff.1 hj).1
    rw [hly] at hjl
    have hdm:j=j / sz*sz+j % sz:=by have:=Nat.div_add_mod j sz;rw [Nat.mul_comm] at this;omega
    have hq:j / sz < ys.length:=(Nat.div_lt_iff_lt_mul ht.pos).2 hjl
    have hmod:=Nat.mod_lt j ht.pos
    obtain ⟨u',hu'⟩:∃ u',(enc ys[j / sz])[j % sz]? = some u':=⟨_,List.getElem?_eq_getElem (by rw [he ys[j / sz]];exact hmod)⟩
    have hf:=Uo ys (j / sz) hq (fun x _=>he x) (j % sz) u' hu'
    rw [← hdm,hj] at hf
    injection hf with hf
    subst hf
    have:=hcell (j / sz) hq (j % sz) u hu'
    rw [Addr.add_lit,hdm,← Nat.add_assoc];exact this
   obtain ⟨v',w',hr,h2,h3,_,h5⟩:=run_append_own_at (P:=P) w 0 t ty' e i0 z sz bytes ht.sl e1 e2 e3 e4 e5 ht.pos _ _ _ hown ⟨b,o,none⟩ ys.length q' (ys.flatMap enc) hly hnew hone (by unfold maxLen;omega) hb (Nat.zero_le _)
   exact ⟨v',w',hr,h2,h3,h5⟩
  ·have h0:ys=[]:=List.eq_nil_of_length_eq_zero (by omega)
   subst h0
   cases B with
   | none=>exact ⟨_,w,Xf P w 0 t ty' e i0 sz ht.sl e1 _ _ _ hown q',by simpa using hown,Ahg w _,.inl rfl⟩
   | some b =>
    obtain ⟨v',w',hr,h2,h3,_,h5⟩:=run_append_own_at (P:=P) w 0 t ty' e i0 z sz bytes ht.sl e1 e2 e3 e4 e5 ht.pos _ _ _ hown b 0 q' [] (by simp) (fun j u hj=>by simp at hj) (fun u hu=>by simp at hu) (by unfold maxLen;omega) hb (Nat.zero_le _)
    exact ⟨v',w',hr,h2,h3,h5⟩
 obtain ⟨v',w',hr,h2,h3,h5⟩:=main
 have hlq:l.length+ys.length=(l++ys).length:=by rw [List.length_append]
 have hv':∃ A' c',v' = .slice A' (l.length+ys.length) c':=by
  rcases h2.2 with ⟨hv,h0⟩ | ⟨g',cap,cur,hv,_⟩
  ·exact ⟨none,0,by rw [hv,h0]⟩
  ·exact ⟨_,_,hv⟩
 obtain ⟨A',c',rfl⟩:=hv'
 rw [hlq] at hr h2 h5
 rw [← List.flatMap_append] at h2
 have hrun:(execOp a.eval ⟨some d,.call ⟨.builtin .append,#[s,x],#[t,t]⟩,ty',pos,after,guard⟩).run P w = .ok (.value (.slice A' (l++ys).length c')) w':=by
  simp [execOp,resolve,invoke,builtin,ha.eval hs,ha.eval hx,hr]
 simp only [Oper.wp,hrun,Oper.upon_value]
 refine k A' c' _ _ (ha.put hd) (Heap.turn (e:=.r A l.length c e sz (l.flatMap enc)) (e':=.r A' (l++ys).length c' e sz ((l++ys).flatMap enc)) h3 h2 (Nat.le_refl _) (fun g' hg'=>?_) (hL A' c') hw)
 simp only [Ent.blk] at hg' ⊢
 rcases h5 with h5 | h5
 ·left;rw [← h5];exact hg'
 ·right;rw [h5] at hg';injection hg' with hg';omega
theorem Aiq {t x k a} {dst:Option Tmp} {ty:TypeId} {pos:String} {after:Array Edge} {guard:Option (Nat × Bool)} (hx:evo fr x=some (.int k a)):Ev P n ⟨dst,.unOp .xor t x,ty,pos,after,guard⟩ fr L (.int k (Us k (if k.signed then -1 else k.max) a)):=fun ac w ha _=>by
 simp only [execOp,ha.eval hx,Op.unary,Op.intBits]
 rfl
end
/-! ### numbers, by kind -/
section
variable {P:Program} {n:Nat} {fr:List (Nat × Value)} {L:List Ent}
variable {dst:Option Tmp} {ty:TypeId} {pos:String} {after:Array Edge} {guard:Option (Nat × Bool)}
theorem Vu {t t' x y a b} (hx:evo fr x=some (.int .i64 a)) (hy:evo fr y=some (.int .i64 b)):Ev P n ⟨dst,.binOp .add t x y t',ty,pos,after,guard⟩ fr L (.int .i64 (w64 (a+b))):=Aev hx hy
theorem Abw {t t' x y a b} (hx:evo fr x=some (.int .i64 a)) (hy:evo fr y=some (.int .i64 b)):Ev P n ⟨dst,.binOp .sub t x y t',ty,pos,after,guard⟩ fr L (.int .i64 (w64 (a-b))):=Aew hx hy
theorem Abx {t t' x y a b} (hx:evo fr x=some (.int .i64 a)) (hy:evo fr y=some (.int .i64 b)):Ev P n ⟨dst,.binOp .mul t x y t',ty,pos,after,guard⟩ fr L (.int .i64 (w64 (a*b))):=Aex hx hy
theorem Ahi {t t' x y a b} (hx:evo fr x=some (.int .i64 a)) (hy:evo fr y=some (.int .i64 b)) (h:b≠0):Ev P n ⟨dst,.binOp .quo t x y t',ty,pos,after,guard⟩ fr L (.int .i64 (w64 (Int.tdiv a b))):=Ai0 hx hy h
theorem Aby {t x a} (hx:evo fr x=some (.int .i64 a)):Ev P n ⟨dst,.unOp .neg t x,ty,pos,after,guard⟩ fr L (.int .i64 (w64 (-a))):=Aii hx
theorem Zg {src dt x k v} (hx:evo fr x=some (.int k v)) (hs:(P.underlying src).isSome=true) (hd:P.underlying dt=some (.int .i64)):Ev P n ⟨dst,.convert src dt x,ty,pos,after,guard⟩ fr L (.int .i64 (w64 v)):=Aal hx hs hd
theorem Zh {t t' x y a b} (hx:evo fr x=some (.int .u64 a)) (hy:evo fr y=some (.int .u64 b)):Ev P n ⟨dst,.binOp .add t x y t',ty,pos,after,guard⟩ fr L (.int .u64 (wu64 (a+b))):=Aev hx hy
theorem Zi {t t' x y a b} (hx:evo fr x=some (.int .u64 a)) (hy:evo fr y=some (.int .u64 b)):Ev P n ⟨dst,.binOp .sub t x y t',ty,pos,after,guard⟩ fr L (.int .u64 (wu64 (a-b))):=Aew hx hy
theorem Zj {t t' x y a b} (hx:evo fr x=some (.int .u64 a)) (hy:evo fr y=some (.int .u64 b)):Ev P n ⟨dst,.binOp .mul t x y t',ty,pos,after,guard⟩ fr L (.int .u64 (wu64 (a*b))):=Aex hx hy
theorem Zk {t t' x y a b} (hx:evo fr x=some (.int .u64 a)) (hy:evo fr y=some (.int .u64 b)) (h:b≠0):Ev P n ⟨dst,.binOp .quo t x y t',ty,pos,after,guard⟩ fr L (.int .u64 (wu64 (Int.tdiv a b))):=Ai0 hx hy h
theorem Af7 {t x a} (hx:evo fr x=some (.int .u64 a)):Ev P n ⟨dst,.unOp .neg t x,ty,pos,after,guard⟩ fr L (.int .u64 (wu64 (-a))):=Aii hx
theorem Ga {src dt x k v} (hx:evo fr x=some (.int k v)) (hs:(P.underlying src).isSome=true) (hd:P.underlying dt=some (.int .u64)):Ev P n ⟨dst,.convert src dt x,ty,pos,after,guard⟩ fr L (.int .u64 (wu64 v)):=Aal hx hs hd
theorem Zl {t t' x y a b} (hx:evo fr x=some (.int .u32 a)) (hy:evo fr y=some (.int .u32 b)):Ev P n ⟨dst,.binOp .add t x y t',ty,pos,after,guard⟩ fr L (.int .u32 (wu32 (a+b))):=Aev hx hy
theorem Zm {t t' x y a b} (hx:evo fr x=some (.int .u32 a)) (hy:evo fr y=some (.int .u32 b)):Ev P n ⟨dst,.binOp .sub t x y t',ty,pos,after,guard⟩ fr L (.int .u32 (wu32 (a-b))):=Aew hx hy
theorem Zn {t t' x y a b} (hx:evo fr x=some (.int .u32 a)) (hy:evo fr y=some (.int .u32 b)):Ev P n ⟨dst,.binOp .mul t x y t',ty,pos,after,guard⟩ fr L (.int .u32 (wu32 (a*b))):=Aex hx hy
theorem Jy {src dt x k v} (hx:evo fr x=some (.int k v)) (hs:(P.underlying src).isSome=true) (hd:P.underlying dt=some (.int .u32)):Ev P n ⟨dst,.convert src dt x,ty,pos,after,guard⟩ fr L (.int .u32 (wu32 v)):=Aal hx hs hd
theorem Af8 {src dt x k v} (hx:evo fr x=some (.int k v)) (hs:(P.underlying src).isSome=true) (hd:P.underlying dt=some (.int .u8)):Ev P n ⟨dst,.convert src dt x,ty,pos,after,guard⟩ fr L (.int .u8 (wu8 v)):=Aal hx hs hd
end
end Go.Proofs.YtbkobeeileemjaaGreat
