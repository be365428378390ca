/- Maps that are only read, through a pointer: known wherever the entries K stand. -/
import Derived.Test.YtbkobeeileemjaaGreatFlow19
namespace Go.Proofs.YtbkobeeileemjaaGreat
open Go Go.RowKit
open Go.Maps (Keyed)
section
variable {κ υ:Type}
def MapK (K:List Ent) (P:Program) (k:TypeId) (ke:κ→Value) (ve:υ→Value) (g:Nat) (m:List (κ × υ)):Prop:=∀ w,(∀ e∈K,Ent.ok w e)→Xp P k ke ve g m w
variable {P:Program} {k:TypeId} {ke:κ→Value} {ve:υ→Value} {g:Nat} {m:List (κ × υ)} {K E:List Ent} {w:World}
theorem MapK.m0 (h:Bc P k ke ve g m∈K):MapK K P k ke ve g m:=fun w hw=>Ez w (hw _ h)
theorem MapK.up0 (h:MapK K P k ke ve g m):MapK (K++[]) P k ke ve g m:=by rw [List.append_nil];exact h
theorem MapK.low (h:MapK (K++E) P k ke ve g m) (hK:∀ e∈K,Ent.ok w e):MapK (.old w::E) P k ke ve g m:=fun w' hw'=>h w' (fun e he=>by
 rcases List.mem_append.1 he with he | he
 ·exact Ent.ext (hK e he) (hw' (.old w) List.mem_cons_self)
 ·exact hw' e (List.mem_cons_of_mem _ he))
variable {n:Nat} {fr:List (Nat × Value)} {L:List Ent} {dst:Option Tmp} {ty:TypeId} {pos:String} {after:Array Edge} {guard:Option (Nat × Bool)} {K':List Ent}
theorem Ael {t e:TypeId} {mo ko:Operand} {x:κ} {z0 u:υ} {kv vv:Value} (K:Keyed P k) (ht:P.underlying t=some (.map k e)) (hz:∀ w,(zeroValue e).run P w = .ok (ve z0) w) (hke:∀ x y,ke x=ke y→x=y)
  (hm:evo fr mo=some (.map (some g))) (hk:evo fr ko=some kv) (hkv:kv=ke x) (hM:MapK K' P k ke ve g m) (hS:SubE K' L) (hx:(keyOf P k (ke x)).isSome=true) (hu:some ((mget m x).getD z0)=some u) (hvv:vv=ve u) :
  Ev P n ⟨dst,.lookup t mo ko false,ty,pos,after,guard⟩ fr L vv:=fun a w ha hw=>by
 subst hkv;subst hvv
 have:=As3 (ok:=false) K ht (hz w) hke (hM w (hS.ok w hw)) hx
 simp only [Bool.false_eq_true,if_false] at this
 rw [Adn (ve:=ve) hu] at this
 simp [execOp,ha.eval hm,ha.eval hk,this]
end
section
variable {P:Program} {n:Nat} {N:Act→World→Prop} {Q:Exit→Act→World→Prop} {fr:List (Nat × Value)} {L:List Ent}
theorem Ail {α:Type} {enc:α→List Value} {sz:Nat} (l:List α) (he:∀ x,(enc x).length=sz) {u x0:α} {d:Nat} {v:Value} (hu:enc u=(enc x0).set d v) (hd:d < sz) {j:Nat} (tail:List Value) (hj:j < l.length) (hx:l[j]=x0) :
  (Ey (l.flatMap enc++tail).toArray (j*sz+d) [v]).toList=(l.set j u).flatMap enc++tail:=by
 have hsplit:l=l.take j++l[j]::l.drop (j+1):=by rw [← List.drop_eq_getElem_cons hj,List.take_append_drop]
 have hlen:((l.take j).flatMap enc).length=j*sz:=by
  have:∀ (m:List α),(m.flatMap enc).length=m.length*sz:=by
   intro m
   induction m with
   | nil=>simp
   | cons y r ih=>rw [List.flatMap_cons,List.length_append,he y,ih,List.length_cons,Nat.succ_mul];omega
  rw [this,List.length_take,Nat.min_eq_left (by omega)]
 have h1:l.flatMap enc++tail=(l.take j).flatMap enc++(enc x0++((l.drop (j+1)).flatMap enc++tail)):=by
  have h0:=congrArg (fun m:List α=>m.flatMap enc++tail) hsplit
  simp only [List.flatMap_append,List.flatMap_cons,List.append_assoc,hx] at h0 ⊢
  exact h0
 have h2:(l.set j u).flatMap enc++tail=(l.take j).flatMap enc++(enc u++((l.drop (j+1)).flatMap enc++tail)):=by
  rw [List.set_eq_take_append_cons_drop,if_pos hj]
  simp [List.flatMap_append,List.flatMap_cons,List.append_assoc]
 rw [h1,h2,hu]
 simp only [Ey,List.setIfInBounds_toArray]
 rw [List.set_append_right _ _ (by omega),hlen,Nat.add_sub_cancel_left,List.set_append_left _ _ (by rw [he];exact hd)]
/-- A store of one cell of an element. -/
theorem Asm {α:Type} (enc:α→List Value) (l:List α) (ix:Int) (x0 u:α) (d:Nat) {j sz:Nat} {m:Nat} {x y g o A c t v ty' i L'} {ty:TypeId} {pos:String} {after:Array Edge} {guard:Option (Nat × Bool)}
  (hx:evo fr x=some (.pointer (some ⟨g,o,none⟩))) (hy:evo fr y=some v) (hv:v.cells = #[v])
  (hL:SetE L i (.r A m c t sz (l.flatMap enc)) (.r A m c t sz ((setI l ix u).flatMap enc)) L') (hA:A=some ⟨g,0,none⟩) (ho:o=0+j*sz+d) (hix:ix=(j:Int)) (hj:j < m)
  (he:∀ x,(enc x).length=sz) (hz:d < sz) (hi:idx l ix=some x0) (hu:enc u=(enc x0).set d v) (h1:Mo [v]=true) (hsz:∀ w,(sizeOf ty').run P w = .ok 1 w)
  (k:T n N fr L'):Wh P Q n ⟨none,.store ty' x y,ty,pos,after,guard⟩ fr L N:=by
 intro a w ha hw
 have hm:m=l.length:=(Has.ofRow (by omega) he (hw.ok _ hL.mem)).len.symm
 subst hm
 subst hix
 rw [Xf] at hL
 rw [Bf hj] at hi
 have hx0:=Option.some.inj hi
 subst ho;subst hA
 obtain ⟨hl,h2⟩:=hw.ok _ hL.mem
 rcases h2 with ⟨hv',_⟩ | ⟨g',cap,cur,hv',_,hb,h3,h4,h5,h6⟩
 ·cases hv'
 ·injection hv' with hg _ hcap
  injection hg with hg
  injection hg with hg
  subst hg;subst hcap
  have hle:l.length*sz≤c*sz:=Nat.mul_le_mul_right _ h3
  have hjl:j*sz+sz≤l.length*sz:=by rw [← Nat.succ_mul];exact Nat.mul_le_mul_right _ hj
  have hst:=Lk P g t [v] 0 (0+j*sz+d) cur w hb (by rw [h5];simp only [List.length_cons,List.length_nil];omega) (Pk h1)
  rw [if_neg (by simp)] at hst
  have hrun:(execOp a.eval ⟨none,.store ty' x y,ty,pos,after,guard⟩).run P w = .ok .skip (Ou w g (.cells (Ey cur (0+j*sz+d+0) [v]) t (0,0))):=by
   simp [execOp,ha.eval hx,ha.eval hy,Instr.storeAt,Instr.sureAddr,storeVar,hv,hsz w] at hst ⊢
   simp [hst]
  simp only [Oper.wp,hrun,Oper.upon_skip]
  refine k _ _ ha (Heap.turn (e:=.r (some ⟨g,0,none⟩) l.length c t sz (l.flatMap enc)) (e':=.r (some ⟨g,0,none⟩) l.length c t sz ((l.set j u).flatMap enc)) (Tr w g _) ?_ (Nat.le_refl _) (fun _ hg=>.inl hg) hL hw)
  have hcur:cur=(l.flatMap enc++cur.toList.drop (l.length*sz)).toArray:=by
   rw [← h6,List.take_append_drop]
  have hwr:(Ey cur (0+j*sz+d+0) [v]).toList=(l.set j u).flatMap enc++cur.toList.drop (l.length*sz):=by
   rw [Nat.add_zero,Nat.zero_add]
   conv=>lhs;rw [hcur]
   exact Ail l he hu hz _ hj hx0
  have hfl:((l.set j u).flatMap enc).length=l.length*sz:=by
   have e1:(Ey cur (0+j*sz+d+0) [v]).toList.length=c*sz:=by rw [Array.length_toList,Ts,h5]
   have e2:=congrArg List.length hwr
   have e3:cur.toList.length=c*sz:=by rw [Array.length_toList,h5]
   rw [e1,List.length_append,List.length_drop,e3] at e2
   generalize ((l.set j u).flatMap enc).length=p at e2 ⊢
   generalize l.length*sz=q at e2 hle ⊢
   generalize c*sz=q' at e2 hle
   omega
  refine ⟨hfl,.inr ⟨g,c,_,rfl,Nat.zero_le _,Aam w g _ (Eg hb),h3,h4,by rw [Ts];exact h5,?_⟩⟩
  rw [hwr,← hfl];simp
/-- The elements of a reading, cell by cell. -/
theorem HasN.toRowN {α:Type} {sz:Nat} {K:List Ent} {R:List Ent→α→List Value→Prop} {A:Option Addr} {n c:Nat} {l:List α} (h:HasN K A n c sz R l):∃ hs:List (Vec sz),Has K A n c sz Rq hs∧RowN K R hs l:=by
 obtain ⟨hs,hh,hl,hr⟩:=h
 have hsz:∀ x∈hs,x.length=sz:=hh.esz
 refine ⟨hs.pmap (fun x hx=>⟨x,hx⟩) hsz,⟨by rw [List.length_pmap];exact hh.len,hh.nc,hh.cap,fun x _=>x.2,fun h0=>?_⟩,by rw [List.length_pmap];exact hl,fun i a b=>?_⟩
 ·obtain ⟨b,o,hA,hp⟩:=hh.at_ h0
  refine ⟨b,o,hA,fun i hi=>?_⟩
  rw [List.length_pmap] at hi
  have:=hp i hi
  simpa [raw,Rq] using this
 ·rw [List.length_pmap] at b
  have:=hr i a b
  simpa using this
theorem RowN.app {α:Type} {sz:Nat} {K:List Ent} {R:List Ent→α→List Value→Prop} {hs hs':List (Vec sz)} {l l':List α} (h:RowN K R hs l) (h':RowN K R hs' l'):RowN K R (hs++hs') (l++l'):=by
 refine ⟨by simp [h.1,h'.1],fun i a b=>?_⟩
 by_cases hi:i < l.length
 ·have hi':i < hs.length:=by rw [h.1];exact hi
  rw [List.getElem_append_left hi,List.getElem_append_left hi']
  exact h.2 i hi hi'
 ·have hi2:l.length≤i:=by omega
  have hi3:hs.length≤i:=by rw [h.1];exact hi2
  rw [List.getElem_append_right hi2,List.getElem_append_right hi3]
  have e1:=h.1
  have:∀ (m m':Nat) (e:m=m') (x:m < l'.length) (y:m' < hs'.length),R K l'[m] hs'[m'].1:=fun m m' e x y=>by subst e;exact h'.2 m x y
  exact this _ _ (by omega) _ _
theorem RowN.one {α:Type} {sz:Nat} {K:List Ent} {R:List Ent→α→List Value→Prop} {hs:List (Vec sz)} {l:List α} (h:RowN K R hs l) (h1:∀ {x:α} {ys:List Value},R K x ys→Mo ys=true):∀ x∈hs,Mo (Rq x)=true:=fun x hx=>by
 obtain ⟨i,hi,rfl⟩:=List.getElem_of_mem hx
 exact h1 (h.2 i (by rw [← h.1];exact hi) hi)
theorem Am8 {α:Type} (enc:α→List Value) (l ys:List α) {d:Nat} {s x t e sz bytes A m c B q q' i ty'} {pos:String} {after:Array Edge} {guard:Option (Nat × Bool)} {L':Option Addr→Nat→List Ent} {K:List Ent}
  (hs:evo fr s=some (.slice A m c)) (hx:evo fr x=some (.slice B q q')) (ht:Sz P t e sz bytes) (he:∀ x,(enc x).length=sz)
  (hy:Has K B q q' sz enc ys) (hK:SubE K L) (h1:∀ x∈ys,Mo (enc x)=true) (hb:(l.length+ys.length)*bytes≤140737488355328) (hd:Nat.blt d n=true)
  (hL:∀ A' c',SetE L i (.r A m c e sz (l.flatMap enc)) (.r A' (l++ys).length c' e sz ((l++ys).flatMap enc)) (L' A' c'))
  (h0:0 < bytes)
  (k:∀ A' c',T n N ((d,.slice A' (l++ys).length c')::fr) (L' A' c')) :
  Wh P Q n ⟨some d,.call ⟨.builtin .append,#[s,x],#[t,t]⟩,ty',pos,after,guard⟩ fr L N:=by
 intro a w ha hw
 have hm:m=l.length:=(Has.ofRow ht.pos he (hw.ok _ (hL none 0).mem)).len.symm
 subst hm
 have hq:=hy.len
 subst hq
 have hl:=Ku he l
 have hly:=Ku he ys
 have h63:l.length+ys.length≤9223372036854775807:=by
  have h3:=Nat.mul_le_mul_left (l.length+ys.length) h0
  rw [Nat.mul_succ,Nat.mul_zero,Nat.zero_add] at h3
  omega
 obtain ⟨i0,z,e1,e2,e3,e4,e5⟩:=ht.ex
 have hown:w.ownsRow 0 e sz (.slice A l.length c) l.length (l.flatMap enc):=hw.ok _ (hL none 0).mem
 have hsl:=hy.at hK hw
 have hone:∀ u∈ys.flatMap enc,u.oneCell'=true:=by
  intro u hu
  obtain ⟨x,hx,hu⟩:=List.mem_flatMap.1 hu
  exact Pk (h1 x hx) u hu
 have main:∃ v' w',(Builtin.append_ #[t,t] ty' #[.slice A l.length c,.slice B ys.length q']).run P w = .ok v' w'∧w'.ownsRow 0 e sz v' (l.length+ys.length) (l.flatMap enc++ys.flatMap enc) ∧
   w.grownBy w' (Value.slice A l.length c).ownBlock∧(v'.ownBlock=(Value.slice A l.length c).ownBlock∨v'.ownBlock=some w.heap.size):=by
  by_cases hn:0 < ys.length
  ·obtain ⟨b,o,hB,hcell⟩:=hsl.at_ hn
   subst hB
   have hnew:∀ (j:Nat) (u:Value),(ys.flatMap enc)[j]? = some u→w.cell? ((⟨b,o,none⟩:Addr).add j)=some u:=fun j u hj=>by
    have hjl:j < (ys.flatMap enc).length:=(List.getElem?_eq_some_iff.1 hj).1
    rw [hly] at hjl
    have hdm:j=j / sz*sz+j % sz:=by have:=Nat.div_add_mod j sz;rw [Nat.mul_comm] at this;omega
    have hq:j / sz < ys.length:=(Nat.div_lt_iff_lt_mul ht.pos).2 hjl
    have hmod:=Nat.mod_lt j ht.pos
    obtain ⟨u',hu'⟩:∃ u',(enc ys[j / sz])[j % sz]? = some u':=⟨_,List.getElem?_eq_getElem (by rw [he ys[j / sz]];exact hmod)⟩
    have hf:=Ya ys (j / sz) hq (fun x _=>he x) (j % sz) u' hu'
    rw [← hdm,hj] at hf
    injection hf with hf
    subst hf
    have:=hcell (j / sz) hq (j % sz) u hu'
    rw [Addr.add_lit,hdm,← Nat.add_assoc];exact this
   obtain ⟨v',w',hr,h2,h3,_,h5⟩:=run_append_own_at (P:=P) w 0 t ty' e i0 z sz bytes ht.sl e1 e2 e3 e4 e5 ht.pos _ _ _ hown ⟨b,o,none⟩ ys.length q' (ys.flatMap enc) hly hnew hone (by unfold maxLen;omega) hb (Nat.zero_le _)
   exact ⟨v',w',hr,h2,h3,h5⟩
  ·have h0:ys=[]:=List.eq_nil_of_length_eq_zero (by omega)
   subst h0
   cases B with
   | none=>exact ⟨_,w,Vk P w 0 t ty' e i0 sz ht.sl e1 _ _ _ hown q',by simpa using hown,Agt w _,.inl rfl⟩
   | some b =>
    obtain ⟨v',w',hr,h2,h3,_,h5⟩:=run_append_own_at (P:=P) w 0 t ty' e i0 z sz bytes ht.sl e1 e2 e3 e4 e5 ht.pos _ _ _ hown b 0 q' [] (by simp) (fun j u hj=>by simp at hj) (fun u hu=>by simp at hu) (by unfold maxLen;omega) hb (Nat.zero_le _)
    exact ⟨v',w',hr,h2,h3,h5⟩
 obtain ⟨v',w',hr,h2,h3,h5⟩:=main
 have hlq:l.length+ys.length=(l++ys).length:=by rw [List.length_append]
 have hv':∃ A' c',v' = .slice A' (l.length+ys.length) c':=by
  rcases h2.2 with ⟨hv,h0⟩ | ⟨g',cap,cur,hv,_⟩
  ·exact ⟨none,0,by rw [hv,h0]⟩
  ·exact ⟨_,_,hv⟩
 obtain ⟨A',c',rfl⟩:=hv'
 rw [hlq] at hr h2 h5
 rw [← List.flatMap_append] at h2
 have hrun:(execOp a.eval ⟨some d,.call ⟨.builtin .append,#[s,x],#[t,t]⟩,ty',pos,after,guard⟩).run P w = .ok (.value (.slice A' (l++ys).length c')) w':=by
  simp [execOp,resolve,invoke,builtin,ha.eval hs,ha.eval hx,hr]
 simp only [Oper.wp,hrun,Oper.upon_value]
 refine k A' c' _ _ (ha.put hd) (Heap.turn (e:=.r A l.length c e sz (l.flatMap enc)) (e':=.r A' (l++ys).length c' e sz ((l++ys).flatMap enc)) h3 h2 (Nat.le_refl _) (fun g' hg'=>?_) (hL A' c') hw)
 simp only [Ent.blk] at hg' ⊢
 rcases h5 with h5 | h5
 ·left;rw [← h5];exact hg'
 ·right;rw [h5] at hg';injection hg' with hg';omega
end
end Go.Proofs.YtbkobeeileemjaaGreat
