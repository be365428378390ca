/- Own rows that lose their front: windows. -/
import Derived.Test.YtoojmkhjdjianaaGreatFlow17
import Derived.ArgAppend
import Derived.LoopN
import Derived.Laws.Externs
namespace Go.Proofs.YtoojmkhjdjianaaGreat
open Go Go.RowKit
section
variable {P:Program} {n:Nat} {Q:Exit->Act->World->Prop} {fr:List (Nat × Value)} {L:List Ent} {N:Act->World->Prop}
def Abt (A:Option Addr) (m c:Nat) (t:TypeId) (sz:Nat) (xs:List Value) (w:World):Prop :=
 xs.length=m*sz/\m<=c/\c<=maxLen/\((A=none/\c=0)\/∃ g o cur,A=some ⟨g,o,none⟩/\w.heap[g]? = some (.cells cur t (0,0))/\o+c*sz<=cur.size/\∀ j v,xs[j]? = some v->cur[o+j]? = some v)
def winB:Option Addr->List Nat
 | some a=>[a.block]
 | none=>[]
def qw (A:Option Addr) (m c:Nat) (t:TypeId) (sz:Nat) (xs:List Value):Ent:=.f (winB A) (Abt A m c t sz xs)
theorem Aeg {A m c t sz xs} {w:World}:Ent.ok w (qw A m c t sz xs)↔Abt A m c t sz xs w:=by
 constructor
 ·exact fun h=>h.2.1
 ·intro h
  refine ⟨fun g hg=>?_,h,fun w1 w2 h1 he=>?_⟩
  ·obtain ⟨_,_,_,h⟩:=h
   rcases h with ⟨rfl,_⟩ | ⟨g',o,cur,rfl,hh,_⟩
   ·simp [winB] at hg
   ·simp [winB] at hg
    subst hg
    exact Eo hh
  ·obtain ⟨e1,e2,e3,h1⟩:=h1
   refine ⟨e1,e2,e3,?_⟩
   rcases h1 with h1 | ⟨g',o,cur,rfl,hh,h2⟩
   ·exact .inl h1
   ·exact .inr ⟨g',o,cur,rfl,by rw [he g' (by simp [winB])];exact hh,h2⟩
theorem Ag2 {A m c t sz xs g}:(qw A m c t sz xs).own g↔(Value.slice A m c).ownBlock=some g:=by
 cases A with
 | none=>simp [qw,Ent.own,winB,Value.ownBlock]
 | some a=>simp [qw,Ent.own,winB,Value.ownBlock,eq_comm]
theorem Abt.ofRow {A m c t sz xs} {w:World} (h:w.ownsRow 0 t sz (.slice A m c) m xs):Abt A m c t sz xs w:=by
 obtain ⟨h1,h2⟩:=h
 rcases h2 with ⟨hv,h0⟩ | ⟨g,cap,cur,hv,_,hh,h3,h4,h5,h6⟩
 ·injection hv with e1 e2 e3
  subst e1;subst e3
  exact ⟨h1,by omega,by unfold maxLen;omega,.inl ⟨rfl,rfl⟩⟩
 ·injection hv with e1 _ e3
  subst e1;subst e3
  refine ⟨h1,h3,h4,.inr ⟨g,0,cur,rfl,hh,by omega,fun j v hj=>?_⟩⟩
  rw [<- h6,List.getElem?_take] at hj
  split at hj
  ·rw [Nat.zero_add,<- Array.getElem?_toList];exact hj
  ·cases hj
theorem Axd {i A m c t sz xs L'} (hL:SetE L i (.r A m c t sz xs) (qw A m c t sz xs) L') (k:T n N fr L'):T n N fr L:=by
 intro a w ha hw
 exact k a w ha (Heap.turnO (e:=.r A m c t sz xs) (e':=qw A m c t sz xs) (w:=w) (w':=w) (row:=none) ⟨rfl,rfl,rfl,Nat.le_refl _,fun _ _ _=>rfl⟩ (fun g hg=>by cases hg) (Aeg.2 (Abt.ofRow (hw.ok _ hL.mem))) (Nat.le_refl _)
  (fun g hg=>.inl (Ent.own_r.2 (Ag2.1 hg))) hL hw)
theorem Has.ofQ {α:Type} {enc:α->List Value} {A m c t sz} {l:List α} (hz:0 < sz) (he:∀ x,(enc x).length=sz) {w:World} (hok:Ent.ok w (qw A m c t sz (l.flatMap enc))) :
  Has [qw A m c t sz (l.flatMap enc)] A m c sz enc l:=by
 have h:=Aeg.1 hok
 have hlen:=Jz he l
 have hm:m=l.length:=by
  have h1:=h.1
  rw [hlen] at h1
  exact (Nat.eq_of_mul_eq_mul_right hz h1).symm
 subst hm
 refine ⟨rfl,h.2.1,h.2.2.1,fun x _=>he x,fun hn=>?_⟩
 obtain ⟨_,h2,_,h3⟩:=h
 rcases h3 with ⟨_,h0⟩ | ⟨g,o,cur,rfl,_⟩
 ·omega
 ·refine ⟨g,o,rfl,fun i hi w' hw' j u hu=>?_⟩
  have h':=Aeg.1 (hw' _ (List.mem_singleton.2 rfl))
  obtain ⟨_,_,_,h4⟩:=h'
  rcases h4 with ⟨hA,_⟩ | ⟨g',o',cur',hA,hh,_,hc⟩
  ·cases hA
  ·injection hA with hA
   injection hA with e1 e2 _
   subst e1;subst e2
   have hf:=Uv l i hi (fun x _=>he x) j u hu
   have:=hc _ _ hf
   rw [Nat.add_assoc]
   simp only [World.cell?,hh]
   simpa using this
theorem Aq1 {α:Type} {enc:α->List Value} {l:List α} {k A m c t sz} (hk:nthE L k=some (qw A m c t sz (l.flatMap enc))) (hz:0 < sz) (he:∀ x,(enc x).length=sz)
  (kk:m=l.length->Has [qw A m c t sz (l.flatMap enc)] A m c sz enc l->T n N fr L):T n N fr L:=by
 intro a w ha hw
 have hs:=Has.ofQ hz he (hw.ok _ (Eh hk))
 exact kk hs.len.symm hs a w ha hw
theorem Aa4 {α:Type} {enc:α->List Value} {sz:Nat} (he:∀ x,(enc x).length=sz):∀ (l:List α) (q:Nat),(l.drop q).flatMap enc=(l.flatMap enc).drop (q*sz):=by
 intro l
 induction l with
 | nil=>intro q;simp
 | cons x r ih =>
  intro q
  cases q with
  | zero=>simp
  | succ q=>rw [List.drop_succ_cons,ih,List.flatMap_cons,Nat.succ_mul,Nat.add_comm (q*sz),<- List.drop_drop,<- he x,List.drop_left]
theorem Aq2 {α:Type} {enc:α->List Value} {l:List α} {i A m c t sz q L'} (hL:SetE L i (qw A m c t sz (l.flatMap enc)) (qw (slA A c q sz) (m-q) (c-q) t sz ((l.drop q).flatMap enc)) L') (hq:q<=m) (hz:0 < sz) (he:∀ x,(enc x).length=sz)
  (k:T n N fr L'):T n N fr L:=by
 intro a w ha hw
 have h:=Aeg.1 (hw.ok _ hL.mem)
 refine k a w ha (Heap.turnO (e:=qw A m c t sz (l.flatMap enc)) (e':=qw (slA A c q sz) (m-q) (c-q) t sz ((l.drop q).flatMap enc)) (w:=w) (w':=w) (row:=none) ⟨rfl,rfl,rfl,Nat.le_refl _,fun _ _ _=>rfl⟩ (fun g hg=>by cases hg) (Aeg.2 ?_) (Nat.le_refl _)
  (fun g hg=>.inl ?_) hL hw)
 ·obtain ⟨h1,h2,h3,h4⟩:=h
  refine ⟨?_,by omega,by omega,?_⟩
  ·rw [Aa4 he,List.length_drop,h1,Nat.sub_mul]
  ·rcases h4 with ⟨rfl,h0⟩ | ⟨g,o,cur,rfl,hh,h5,h6⟩
   ·exact .inl ⟨by unfold slA;split <;> rfl,by omega⟩
   ·by_cases e:c=q
    ·refine .inr ⟨g,o,cur,by unfold slA;rw [if_pos e],hh,by rw [<- e,Nat.sub_self,Nat.zero_mul];have:=Nat.zero_le (c*sz);omega,fun j v hj=>?_⟩
     have:m=q:=by omega
     rw [Aa4 he,List.drop_eq_nil_of_le (by rw [h1,this];exact Nat.le_refl _)] at hj
     simp at hj
    ·have hle:q<=c:=by omega
     refine .inr ⟨g,o+q*sz,cur,by unfold slA;rw [if_neg e];simp [Addr.add_lit],hh,by rw [Nat.sub_mul];have:=Nat.mul_le_mul_right sz hle;omega,fun j v hj=>?_⟩
     rw [Aa4 he,List.getElem?_drop] at hj
     rw [Nat.add_assoc]
     exact h6 _ _ hj
 ·rw [Ag2] at hg ⊢
  unfold slA at hg
  cases A with
  | none =>
   split at hg
   ·cases hg
   ·cases hg
  | some a0 =>
   split at hg
   ·exact hg
   ·simp only [Value.ownBlock,Option.map_some,Addr.add_lit,Option.some.injEq] at hg ⊢
    rw [<- hg];cases a0;simp [Addr.add];split <;> rfl
theorem Aio:∀ (vs:List Value) (cs:Array Value) (o j:Nat),o+vs.length<=cs.size->(En cs o vs)[j]? = if o<=j/\j < o+vs.length then vs[j-o]? else cs[j]?:=by
 intro vs
 induction vs with
 | nil=>intro cs o j _;rw [if_neg (by simp only [List.length_nil];omega)];rfl
 | cons v r ih =>
  intro cs o j h
  simp only [List.length_cons] at h
  rw [En,ih _ _ _ (by simp;omega)]
  simp only [List.length_cons]
  by_cases e:j=o
  ·subst e
   rw [if_neg (by omega),if_pos (by omega),Array.getElem?_setIfInBounds_self_of_lt (by omega)]
   simp
  ·by_cases e2:o+1<=j/\j < o+1+r.length
   ·rw [if_pos e2,if_pos (by omega)]
    rw [show j-o=(j-(o+1))+1 by omega,List.getElem?_cons_succ]
   ·rw [if_neg e2,if_neg (by omega),Array.getElem?_setIfInBounds_ne (Ne.symm e)]
theorem Aeh {α:Type} (enc:α->List Value) (l ys:List α) {d:Nat} {s x t e sz bytes A m c g B q q' t' i i' news ty'} {pos:String} {after:Array Edge} {guard:Option (Nat × Bool)} {L' L2:Option Addr->Nat->List Ent}
  (hs:evo fr s=some (.slice A m c)) (hx:evo fr x=some (.slice B q q')) (hB:B=some ⟨g,0,none⟩) (ht:Uq P t e sz bytes) (he:∀ x,(enc x).length=sz)
  (hL2:nthE L i'=some (.m g t' news)) (hn:news=ys.flatMap enc) (hq:q=ys.length) (h1:Mx news=true) (hb:(l.length+ys.length)*bytes<=140737488355328) (hd:Nat.blt d n=true)
  (hL:∀ A' c',SetE L i (qw A m c e sz (l.flatMap enc)) (qw A' (l++ys).length c' e sz ((l++ys).flatMap enc)) (L' A' c')) (hsub:∀ A' c',HSub (L' A' c') (L2 A' c'))
  (h0:0 < bytes)
  (k:∀ A' c',T n N ((d,.slice A' (l++ys).length c')::fr) (L2 A' c')) :
  Wh P Q n ⟨some d,.call ⟨.builtin .append,#[s,x],#[t,t]⟩,ty',pos,after,guard⟩ fr L N:=by
 intro a w ha hw
 have hok:=hw.ok _ (hL none 0).mem
 have hwin:=Aeg.1 hok
 have hm:m=l.length:=(Has.ofQ ht.pos he hok).len.symm
 subst hm
 subst hB;subst hn;subst hq
 have hll:=Jz he l
 have hly:=Jz he ys
 obtain ⟨i0,z,e1,e2,e3,e4,e5⟩:=ht.ex
 have h63:l.length+ys.length<=9223372036854775807:=by
  have h3:=Nat.mul_le_mul_left (l.length+ys.length) h0
  rw [Nat.mul_succ,Nat.mul_zero,Nat.zero_add] at h3
  omega
 have hnew:∀ (j:Nat) (u:Value),(ys.flatMap enc)[j]? = some u->w.cell? ((⟨g,0,none⟩:Addr).add j)=some u:=fun j u hj=>by
  rw [Addr.add_lit,Rc (hw.ok _ (Eh hL2))];simpa using hj
 have main:∃ A' c' w',(Builtin.append_ #[t,t] ty' #[.slice A l.length c,.slice (some ⟨g,0,none⟩) ys.length q']).run P w = .ok (.slice A' (l++ys).length c') w'/\Abt A' (l++ys).length c' e sz ((l++ys).flatMap enc) w' /\
   w.grownBy w' (Value.slice A l.length c).ownBlock/\((Value.slice A' (l++ys).length c').ownBlock=(Value.slice A l.length c).ownBlock\/∀ g',(Value.slice A' (l++ys).length c').ownBlock=some g'->w.heap.size<=g')/\w.drawn<=w'.drawn:=by
  obtain ⟨h1',h2',h3',h4'⟩:=hwin
  have hlq:l.length+ys.length=(l++ys).length:=by rw [List.length_append]
  rcases h4' with ⟨rfl,hc0⟩ | ⟨b,o,cur,rfl,hh,hfit,hold⟩
  ·-- nothing yet
   subst hc0
   have hl0:l=[]:=List.eq_nil_of_length_eq_zero (by omega)
   subst hl0
   obtain ⟨v',w',hr,h2,h3,_,h5⟩:=run_append_own_at (P:=P) w 0 t ty' e i0 z sz bytes ht.sl e1 e2 e3 e4 e5 ht.pos (.slice none 0 0) 0 [] ⟨by simp,.inl ⟨rfl,rfl⟩⟩ ⟨g,0,none⟩ ys.length q' (ys.flatMap enc) hly hnew (Ol h1) (by unfold maxLen;omega) (by simpa using hb) (Nat.zero_le _)
   have hv':∃ A' c',v' = .slice A' (0+ys.length) c':=by
    rcases h2.2 with ⟨hv,h0⟩ | ⟨g',cap,cur,hv,_⟩
    ·exact ⟨none,0,by rw [hv,h0]⟩
    ·exact ⟨_,_,hv⟩
   obtain ⟨A',c',rfl⟩:=hv'
   simp only [List.length_nil,Nat.zero_add,List.nil_append] at hr h2 h3 h5 ⊢
   exact ⟨A',c',w',hr,Abt.ofRow h2,h3,.inr fun g' hg'=>by
    rcases h5 with h5 | h5
    ·rw [h5] at hg';cases hg'
    ·rw [h5] at hg';injection hg' with hg';omega,Aah hr⟩
  ·by_cases hroom:l.length+ys.length<=c
   ·-- there is room
    have hsz:o+l.length*sz+(ys.flatMap enc).length<=cur.size:=by
     rw [hly]
     have:=Nat.mul_le_mul_right sz hroom
     rw [Nat.add_mul] at this
     omega
    have hst:=Lh P b e (ys.flatMap enc) 0 (o+l.length*sz) cur w hh (by simpa using hsz) (Ol h1)
    have hfc:=run_firstCells_some (P:=P) w i0.size ys.length ⟨g,0,none⟩ ys.length q' (ys.flatMap enc) (by rw [e3];exact hly) hnew
    have hr:(Builtin.append_ #[t,t] ty' #[.slice (some ⟨b,o,none⟩) l.length c,.slice (some ⟨g,0,none⟩) ys.length q']).run P w = .ok (.slice (some ⟨b,o,none⟩) (l.length+ys.length) c) (if ys.flatMap enc=[] then w else Nv w b (.cells (En cur (o+l.length*sz) (ys.flatMap enc)) e (0,0))):=by
     rw [Nat.add_zero] at hst
     rw [e3] at hfc
     simp [Builtin.append_,run_underlying ht.sl,sizeOf,typeInfo,e1,e3,Builtin.lenOf,hroom,hfc,Addr.add_lit,hst]
    rw [hlq] at hr
    refine ⟨_,_,_,hr,?_,?_,.inl rfl,Aah hr⟩
    ·refine ⟨by rw [List.flatMap_append,List.length_append,hll,hly,List.length_append,Nat.add_mul],by omega,h3',.inr ⟨b,o,En cur (o+l.length*sz) (ys.flatMap enc),rfl,?_,by rw [Up];exact hfit,fun j v hj=>?_⟩⟩
     ·split
      ·rename_i h;rw [h,hh];rfl
      ·exact Wv w b _ (Eo hh)
     ·rw [Aio _ _ _ _ hsz]
      rw [List.flatMap_append] at hj
      by_cases c1:j < (l.flatMap enc).length
      ·rw [List.getElem?_append_left c1] at hj
       rw [if_neg (by omega)]
       exact hold j v hj
      ·rw [List.getElem?_append_right (by omega)] at hj
       have hjl:j-(l.flatMap enc).length < (ys.flatMap enc).length:=(List.getElem?_eq_some_iff.1 hj).1
       rw [if_pos (by omega)]
       rw [show o+j-(o+l.length*sz)=j-(l.flatMap enc).length by omega]
       exact hj
    ·split
     ·exact ⟨rfl,rfl,rfl,Nat.le_refl _,fun _ _ _=>rfl⟩
     ·exact Uo w b _
   ·-- a new block
    have holds:∀ (j:Nat) (u:Value),(l.flatMap enc)[j]? = some u->w.cell? ((⟨b,o,none⟩:Addr).add j)=some u:=fun j u hj=>by
     rw [Addr.add_lit]
     simp only [World.cell?,hh]
     simpa using hold j u hj
    obtain ⟨v',w',hr,h2,h3⟩:=run_append_arg_grows (P:=P) w t ty' e i0 z sz bytes ht.sl e1 e2 e3 e4 e5 ht.pos ⟨b,o,none⟩ l.length c (l.flatMap enc) hll holds ⟨g,0,none⟩ ys.length q' (ys.flatMap enc) hly hnew (by omega) (by unfold maxLen;omega) hb
    rcases h2.2 with ⟨hv,hz0⟩ | ⟨g',cap',cur',hv,hge,hh',h5',h6',h7',h8'⟩
    ·omega
    ·subst hv
     rw [hlq] at hr h2
     refine ⟨_,_,w',hr,?_,⟨h3.os,h3.tape,h3.output,h3.size,fun k hk _=>h3.block k hk (by simp)⟩,.inr fun g2 hg2=>?_,Aah hr⟩
     ·rw [<- List.flatMap_append] at h2
      exact Abt.ofRow ⟨h2.1,.inr ⟨g',cap',cur',rfl,Nat.zero_le _,hh',by omega,h6',h7',by rw [<- hlq,List.flatMap_append];exact h8'⟩⟩
     ·simp only [Value.ownBlock,Option.some.injEq] at hg2
      omega
 obtain ⟨A',c',w',hr,hwin',hg,hown,hdr⟩:=main
 have hrun:(execOp a.eval ⟨some d,.call ⟨.builtin .append,#[s,x],#[t,t]⟩,ty',pos,after,guard⟩).run P w = .ok (.value (.slice A' (l++ys).length c')) w':=by
  simp [execOp,resolve,invoke,builtin,ha.eval hs,ha.eval hx,hr]
 simp only [Oper.wp,hrun,Oper.upon_value]
 refine k A' c' _ _ (ha.put hd) ((Heap.turnO (e:=qw A l.length c e sz (l.flatMap enc)) (e':=qw A' (l++ys).length c' e sz ((l++ys).flatMap enc)) hg (fun g' hg'=>Ag2.2 hg') (Aeg.2 hwin') (Nat.le_refl _) (fun g' hg'=>?_) (hL A' c') hw hdr).sub (hsub A' c'))
 rw [Ag2] at hg' ⊢
 rcases hown with h | h
 ·left;rw [<- h];exact hg'
 ·right;exact h g' hg'
end
section
variable {P:Program} {n:Nat} {Q:Exit->Act->World->Prop} {fr:List (Nat × Value)} {L:List Ent} {c:Code} {m:Nat}
theorem Axe (m:Nat) (k:T n (Code.rounds P c Q m) fr L):T n ((Code.loop c).wp P Q) fr L:=fun a w ha hw=>wp_loop_rounds m (k a w ha hw)
theorem Av1 (k:T n (c.wp P (Exit.then (Code.rounds P c Q m) Q)) fr L):T n (Code.rounds P c Q (m+1)) fr L:=k
end
section
variable {P:Program} {n:Nat} {dst:Option Tmp} {t t' ty:TypeId} {x y:Operand} {pos:String} {after:Array Edge} {guard:Option (Nat × Bool)} {fr:List (Nat × Value)} {L:List Ent} {a b c:Int}
theorem Atd (hx:evo fr x=some (.int .i64 a)) (hy:evo fr y=some (.int .i64 b)) (h:w64 (a+b)=c):Ev P n ⟨dst,.binOp .add t x y t',ty,pos,after,guard⟩ fr L (.int .i64 c):=h ▸ Yo hx hy
theorem Ate {k:IntKind} (hx:evo fr x=some (.int k a)) (hy:evo fr y=some (.int k b)) (hb:b≠0) (h:Int.tmod a b=c):Ev P n ⟨dst,.binOp .rem t x y t',ty,pos,after,guard⟩ fr L (.int k c):=h ▸ Aai hx hy hb
theorem Atf {k:IntKind} {z:Operand} {a b c:Int} {ts} (hx:evo fr x=some (.int k a)) (hy:evo fr y=some (.int k b)) (hz:evo fr z=some (.int k c)) :
  Ev P n ⟨dst,.call ⟨.builtin .min,#[x,y,z],ts⟩,ty,pos,after,guard⟩ fr L (.int k (min (min a b) c)):=fun ac w ha _=>by
 have e:∀ a b:Int,(if b < a then b else a)=min a b:=fun a b=>by rw [Int.min_def];split <;> split <;> omega
 simp [execOp,resolve,invoke,builtin,ha.eval hx,ha.eval hy,ha.eval hz,Builtin.min_,Builtin.min2,e]
theorem Atg {k:IntKind} {z:Operand} {a b c:Int} {ts} (hx:evo fr x=some (.int k a)) (hy:evo fr y=some (.int k b)) (hz:evo fr z=some (.int k c)) :
  Ev P n ⟨dst,.call ⟨.builtin .max,#[x,y,z],ts⟩,ty,pos,after,guard⟩ fr L (.int k (max (max a b) c)):=fun ac w ha _=>by
 have e:∀ a b:Int,(if b > a then b else a)=max a b:=fun a b=>by rw [Int.max_def];split <;> split <;> omega
 simp [execOp,resolve,invoke,builtin,ha.eval hx,ha.eval hy,ha.eval hz,Builtin.max_,Builtin.max2,e]
theorem Av2 {f:FuncId} {xs:List Operand} {vs:List Value} {ts:Array TypeId} {v:Value} (hx:evos fr xs=some vs) (h:∀ w,(callFunc f vs.toArray).run P w = .ok (.value v) w):Ev P n ⟨dst,.call ⟨.value (.func f),xs.toArray,ts⟩,ty,pos,after,guard⟩ fr L v:=fun ac w ha _=>by
 have:=ha.evals hx
 simp [execOp,resolve,Deferred.ofValue,invoke,Act.eval,this,h]
end
class Aei (a b:Int) (c:outParam Int):Prop where
 h:w64 (a+b)=c
class Alu (a b:Int) (c:outParam Int):Prop where
 h:Int.tmod a b=c
 nz:b≠0
instance:Aei 0 1 1:=⟨by decide⟩
instance:Aei 1 1 2:=⟨by decide⟩
instance:Aei 2 1 3:=⟨by decide⟩
instance:Aei 3 1 4:=⟨by decide⟩
instance:Aei 4 1 5:=⟨by decide⟩
instance:Aei 5 1 6:=⟨by decide⟩
instance:Alu 1 3 1:=⟨by decide,by decide⟩
instance:Alu 2 3 2:=⟨by decide,by decide⟩
instance:Alu 3 3 0:=⟨by decide,by decide⟩
class ExtI (P:Program) (f:FuncId) (vs:List Value) (G:outParam Prop) (v:outParam Value):Prop where
 h:G->∀ w,(callFunc f vs.toArray).run P w = .ok (.value v) w
end Go.Proofs.YtoojmkhjdjianaaGreat
