/- The walk's plain steps, taken by themselves. -/
import Derived.Test.YtbkobeeileemjaaGreatFlow15
import Derived.ArgAppend
import Derived.LoopN
import Derived.Laws.Externs
namespace Go.Proofs.YtbkobeeileemjaaGreat
open Go Go.RowKit
/-- The value of an operation: by its kind. -/
theorem evA {G:Prop} (h:G:=by
 first
 | (with_reducible apply Aiz);exact rfl
 | (with_reducible apply Dz);exact rfl
 | (with_reducible apply Amr);exact rfl
 | (with_reducible apply Yt);exact rfl
 | (with_reducible apply Aby);exact rfl
 | (with_reducible apply Zq);exact rfl
 | (with_reducible apply Aiq);exact rfl
 | (with_reducible apply Agc) <;> exact rfl
 | (with_reducible apply Agd) <;> exact rfl
 | (with_reducible apply Ams) <;> exact rfl
 | (with_reducible apply Vu) <;> exact rfl
 | (with_reducible apply Abw) <;> exact rfl
 | (with_reducible apply Abx) <;> exact rfl
 | (with_reducible apply Ab9) <;> exact rfl
 | (with_reducible apply Amx) <;> exact rfl
 | (with_reducible apply Amw) <;> exact rfl
 | (with_reducible apply Amu) <;> exact rfl
 | (with_reducible apply Amt) <;> exact rfl
 | (with_reducible apply Amv) <;> exact rfl
 | (with_reducible apply Zh) <;> exact rfl
 | (with_reducible apply Zl) <;> exact rfl
 | (with_reducible apply Zi) <;> exact rfl
 | (with_reducible apply Zm) <;> exact rfl
 | (with_reducible apply Zj) <;> exact rfl
 | (with_reducible apply Zn) <;> exact rfl
 | (with_reducible apply Yz) <;> exact rfl
 | (with_reducible apply Abr) <;> exact rfl
 | (with_reducible apply Za) <;> exact rfl
 | (with_reducible apply Ai2) <;> exact rfl
 | (with_reducible apply Ai3) <;> exact rfl):G:=h
/-- One plain step. -/
theorem Y {G G':Prop} (k:G') (h:G'→G:=by
 intro k
 first
 | (with_reducible apply Gh);exact k
 | (with_reducible apply Agn);exact k
 | (with_reducible apply Akn);exact k
 | (with_reducible apply Ako);exact k
 | (with_reducible apply Agp);exact k
 | (with_reducible apply Agq);exact k
 | (with_reducible apply Ag2);exact k
 | (with_reducible apply Ag1);exact k
 | (with_reducible apply Adh);exact k
 | (with_reducible apply Alm);exact k
 | (with_reducible apply Alk);exact k
 | (with_reducible apply Ago);exact k
 | (with_reducible apply Agr);exact k
 | (with_reducible apply Aqb);exact k
 | (with_reducible apply Ak);exact evA;exact rfl;exact k
 | (with_reducible apply Adg);exact rfl;exact rfl;exact rfl;exact rfl;exact rfl;exact k
 | (with_reducible apply Hy);exact rfl;exact rfl;exact rfl;exact evA;exact rfl;exact k
 | (with_reducible apply Adi);exact rfl;exact k
 | (with_reducible apply Adj);exact rfl;exact k
 | (with_reducible apply Ae5);exact rfl;exact rfl;exact rfl;exact rfl;exact k
 | (with_reducible apply P_p);exact rfl;exact rfl;exact evA;exact rfl;exact k
 | (with_reducible apply Aqc);exact rfl;exact rfl;exact rfl;exact rfl;exact rfl;exact rfl;exact k
 | (with_reducible apply P_pG);exact rfl;exact rfl;exact rfl;exact rfl;exact rfl;exact evA;exact rfl;exact k
 | (with_reducible apply Aop);exact rfl;exact rfl;exact rfl;exact rfl;exact rfl;exact k):G:=h k
theorem Y2 {G G':Prop} (k:G') (h:G'→G:=by
 intro k
 iterate 2 refine Y ?_
 exact k):G:=h k
theorem Y3 {G G':Prop} (k:G') (h:G'→G:=by
 intro k
 iterate 3 refine Y ?_
 exact k):G:=h k
theorem Y4 {G G':Prop} (k:G') (h:G'→G:=by
 intro k
 iterate 4 refine Y ?_
 exact k):G:=h k
theorem Y5 {G G':Prop} (k:G') (h:G'→G:=by
 intro k
 iterate 5 refine Y ?_
 exact k):G:=h k
theorem Y6 {G G':Prop} (k:G') (h:G'→G:=by
 intro k
 iterate 6 refine Y ?_
 exact k):G:=h k
theorem Y7 {G G':Prop} (k:G') (h:G'→G:=by
 intro k
 iterate 7 refine Y ?_
 exact k):G:=h k
theorem Y8 {G G':Prop} (k:G') (h:G'→G:=by
 intro k
 iterate 8 refine Y ?_
 exact k):G:=h k
theorem Y9 {G G':Prop} (k:G') (h:G'→G:=by
 intro k
 iterate 9 refine Y ?_
 exact k):G:=h k
theorem Y10 {G G':Prop} (k:G') (h:G'→G:=by
 intro k
 iterate 10 refine Y ?_
 exact k):G:=h k
theorem Y11 {G G':Prop} (k:G') (h:G'→G:=by
 intro k
 iterate 11 refine Y ?_
 exact k):G:=h k
theorem Y12 {G G':Prop} (k:G') (h:G'→G:=by
 intro k
 iterate 12 refine Y ?_
 exact k):G:=h k

section
variable {P:Program} {n:Nat} {ops:Array Oper} {Q:Exit→Act→World→Prop} {fr:List (Nat × Value)} {L:List Ent} {rest:List Oper} {N:Act→World→Prop}
variable {d i i2 d2:Nat} {op:Op} {ty:TypeId} {pos:String} {after:Array Edge}
theorem sb {e:Ent} (i:Nat) (h:nthE L i=some e:=by exact rfl):SubE [e] L:=SubE.cons2 (i:=i) h SubE.nil
/-- What must come before an operation. -/
def Yw (ops:Array Oper):List (List Nat) :=
 ops.toList.foldl (fun A o=>A++[o.after.toList.foldl (fun l e=>if Region.binds .any e then (if l.contains e.on then l else e.on::l)++(A.getD e.on []).filter (fun j=>!(l.contains j) && !(Nat.beq j e.on)) else l) []]) []
theorem T_dr {id:Nat} (cls:Cls) (p:Plan) (hm:P.follows .mixedOrders=true) (hd:Vr ops cls (Yw ops)=true) (hp:Gt ops cls p (Array.replicate ops.size false) none=true) (k:T n (Ce P ops Q cls (Yw ops) [] (fun _=>True) p) fr L) :
  T n ((Code.region id ops true).wp P Q) fr L:=Aqa cls (Yw ops) p hm hd hp k
theorem Mt {τ γ ρ:Type} {J:τ→Option ρ} {out:ρ} {I:τ→γ→List (Nat × Value)} {H:τ→γ→List Ent} {G:τ→γ→Prop} (s:τ) (g:γ) (hJ:J s=some out) (hG:G s g) (hH:Hd L (H s g)) (hF:SubF (I s g) fr:=by repeat' first | exact SubF.nil | refine SubF.cons rfl ?_) :
  T n (Exit.then (Met n J out I H G) Q .normal) fr L:=Al8 s g hJ hG hF hH
theorem Rp {σ τ γ:Type} {x:Sum σ τ} {I:σ→γ→List (Nat × Value)} {H:σ→γ→List Ent} {G:σ→γ→Prop} (s:σ) (g:γ) (hx:some (.inl s)=some x) (hG:G s g) (hH:Hd L (H s g)) (hF:SubF (I s g) fr:=by repeat' first | exact SubF.nil | refine SubF.cons rfl ?_) :
  T n (Exit.then (Rnd n x I H G) Q .normal) fr L:=Af5 s g hx hG hF hH
theorem Lp {σ τ γ:Type} {B:σ→Option (Sum σ τ)} {s0:σ} {t:τ} (hl:lfix B s0=some t) (I:σ→γ→List (Nat × Value)) (H:σ→γ→List Ent) (G:σ→γ→Prop) (g0:γ) (hG:G s0 g0) (hH:Hd L (H s0 g0)) {c:Code}
  (body:∀ s g,G s g→∀ x,B s=some x→(∀ t',x = .inr t'→t'=t)→T n (c.wp P (Exit.then (Rnd n x I H G) Q)) (I s g) (H s g)) (hF:SubF (I s0 g0) fr:=by repeat' first | exact SubF.nil | refine SubF.cons rfl ?_) :
  T n ((Code.loop c).wp P Q) fr L:=Aih hl I H G g0 hG hF hH body
theorem Ti {s:Nat} {p:Prop} [Decidable p] {ρ:Type} {x y r:Option ρ} (hx:(if p then x else y)=r) (hs:look fr s=some (.bool (decide p))) (ht:p→x=r→T n N ((s,.bool true)::fr) L) (hf:¬ p→y=r→T n N ((s,.bool false)::fr) L):T n N fr L :=
 Ah7 hs (fun h=>ht h (Eh h hx)) (fun h=>hf h (Sw h hx))
theorem Tj {τ γ ρ:Type} {kk:τ→Option ρ} {xx:(τ→Option ρ)→Option ρ} {out:ρ} (hx:jn kk xx=some out) (I:τ→γ→List (Nat × Value)) (H:τ→γ→List Ent) (G:τ→γ→Prop) {x y:Code}
  (k2:∀ s g,kk s=some out→G s g→T n (y.wp P Q) (I s g) (H s g)) (k:∀ j,xx j=some out→T n (x.wp P (Exit.then (Met n j out I H G) Q)) fr L):T n ((Code.seq x y).wp P Q) fr L :=
 Nh (J:=kk) I H G k2 (k kk hx)
theorem Tc {f:FuncId} {xs:List Operand} {vs:List Value} {ts:Array TypeId} {ty':TypeId} {X:Value} {Y:Prop} (hc:∀ w,Heap L w→CtL P f vs w fun v Ln=>v=X∧Ln=[]∧Y) (k:T n (wpList P ops Q rest) ((d,X)::fr) L) (hx:evos fr xs=some vs:=by exact rfl) (hd:Nat.blt d n=true:=by exact rfl) :
  T n (wpList P ops Q (⟨some d,.call ⟨.value (.func f),xs.toArray,ts⟩,ty',pos,after,none⟩ :: rest)) fr L :=
 T_x (Ar hx hc hd (by rintro _ _ _ ⟨rfl,rfl,-⟩;exact k))
theorem Pc {cls:Cls} {A:List (List Nat)} {RL:List Nat} {R:World→Prop} {p:Plan} {f:FuncId} {xs:List Operand} {vs:List Value} {ts:Array TypeId} {ty':TypeId} {X:Value} {Y:Prop} (hc:∀ w,Heap L w→CtL P f vs w fun v Ln=>v=X∧Ln=[]∧Y) (k:T n (Ce P ops Q cls A RL R p) ((d,X)::fr) L)
  (ho:ops[i]? = some ⟨some d,.call ⟨.value (.func f),xs.toArray,ts⟩,ty',pos,after,none⟩:=by exact rfl) (hx:evos fr xs=some vs:=by exact rfl) (hd:Nat.blt d n=true:=by exact rfl):T n (Ce P ops Q cls A RL R (.e i p .stop)) fr L :=
 P_x ho (Ar hx hc hd (by rintro _ _ _ ⟨rfl,rfl,-⟩;exact k)) Al
/-- An element of a slice is read: the address, then the value. -/
theorem P_il {cls:Cls} {A0:List (List Nat)} {RL:List Nat} {R:World→Prop} {p:Plan} {α:Type} {KK:List Ent} {A m c sz} {enc:α→List Value} {l:List α} {z:Int} {x0:α} (h:Has KK A m c sz enc l) (hi:idx l z=some x0) {t e ty' k} (ht:Ir P t e sz) (hg:Lb P ty' k) (hK:SubE KK L)
  {x ix:Operand} {kd:IntKind} {vs:List Value} {d1 d2:Nat} {ty1 ty2:TypeId} {pos1 pos2:String} {af1 af2:Array Edge}
  (kk:∀ b o,T n (Ce P ops Q cls A0 RL R p) ((d2,.agg vs.toArray)::(d1,.pointer (some ⟨b,o,none⟩))::fr) L)
  (hc1:Nat.beq (cls.getD i 9) 0=true:=by exact rfl) (ho1:ops[i]? = some ⟨some d1,.indexAddr t x ix,ty1,pos1,af1,none⟩:=by exact rfl) (hx:evo fr x=some (.slice A m c):=by exact rfl) (hix:evo fr ix=some (.int kd z):=by exact rfl) (hd1:Nat.blt d1 n=true:=by exact rfl)
  (hc2:Nat.beq (cls.getD i2 9) 0=false:=by exact rfl) (ho2:ops[i2]? = some ⟨some d2,.load ty' (.tmp d1),ty2,pos2,af2,none⟩:=by exact rfl) (hv:Ru (enc x0) 0 k=some vs:=by exact rfl) (hd2:Nat.blt d2 n=true:=by exact rfl) (hr:RL.contains i2=false:=by rfl) :
  T n (Ce P ops Q cls A0 RL R (.q i (.q i2 p))) fr L:=by
 obtain ⟨b,o,j,hA,hj,hl,hp⟩:=h.at_idx hi
 refine P_p hc1 ho1 (Bo hx hix hA (j:=j) hj hl ht) hd1 ?_
 exact P_q hc2 ho2 (Mn (by simp [evo,look]) hp hK hv hg) hd2 (kk _ _) hr
end
end Go.Proofs.YtbkobeeileemjaaGreat
/- make([]T, 0, m) of structs. -/
namespace Go.Proofs.YtbkobeeileemjaaGreat
open Go Go.RowKit
section
variable {P:Program} {n:Nat} {Q:Exit→Act→World→Prop} {fr:List (Nat × Value)} {L:List Ent} {N:Act→World→Prop}
theorem Ajr {α:Type} (enc:α→List Value) (x0:α) {d:Nat} {t e x y k1 k2 i1 i2 i z sz} {ty:TypeId} {pos:String} {after:Array Edge} {guard:Option (Nat × Bool)} (hx:evo fr x=some (.int k1 i1)) (hy:evo fr y=some (.int k2 i2)) (h1:i1=0) (hp:0≤i2)
  (ht:P.underlying t=some (.slice e)) (hi:P.info? e=some i) (hz:i.zero=some z) (hzc:enc x0=z.cells.toList) (hs:i.size=sz) (hsz:0 < sz) (he:∀ x,(enc x).length=sz) (hb:i.bytes*i2.toNat≤140737488355328) (hb0:0 < i.bytes)
  (hd:Nat.blt d n=true) (k:∀ A c,T n N ((d,.slice A 0 c)::fr) (.r A 0 c e sz []::L)) :
  Wx P Q n ⟨some d,.makeSlice t x y,ty,pos,after,guard⟩ fr L N:=by
 subst h1
 have h2:=Nat.mul_le_mul_right i2.toNat hb0
 rw [Nat.succ_mul,Nat.zero_mul,Nat.zero_add] at h2
 intro a w ha hw
 have hb':(i.bytes:Int)*i2≤281474976710656:=by
  have h:((i.bytes*i2.toNat:Nat):Int)≤281474976710656:=by omega
  rw [Int.natCast_mul,Int.toNat_of_nonneg (by omega)] at h;exact h
 have hr:=run_make (P:=P) w t e i z ht hi hz k1 k2 0 i2 (Int.le_refl _) hp hb' (by omega)
 rw [hs,Tm x0 hsz he hzc] at hr
 have hlen:((List.replicate i2.toNat x0).flatMap enc).length=i2.toNat*sz:=by rw [Kb he,List.length_replicate]
 have hrun:(execOp a.eval ⟨some d,.makeSlice t x y,ty,pos,after,guard⟩).run P w = .ok (.value (.slice (some ⟨w.heap.size,0,none⟩) 0 i2.toNat)) (w.alloc (.cells ((List.replicate i2.toNat x0).flatMap enc).toArray e)):=by
  simp [execOp,ha.eval hx,ha.eval hy,hr]
 simp only [Oper.wp,hrun,Oper.upon_value]
 refine ⟨Oy w _,k _ _ _ _ (ha.put hd) ?_⟩
 have h':=hw.allocR e sz i2.toNat ((List.replicate i2.toNat x0).flatMap enc) hlen (by unfold maxLen;omega)
 refine ⟨fun x hx=>?_,?_⟩
 ·rcases List.mem_cons.1 hx with rfl | hx
  ·exact ⟨by simp,.inr ⟨w.heap.size,i2.toNat,((List.replicate i2.toNat x0).flatMap enc).toArray,rfl,Nat.zero_le _,heap_alloc_new w _,Nat.zero_le _,by unfold maxLen;omega,by simp only [List.size_toArray];exact hlen,by simp⟩⟩
  ·exact h'.ok x (List.mem_cons_of_mem _ hx)
 ·have hp:=h'.sep
  rw [List.pairwise_cons] at hp ⊢
  exact ⟨fun x hx=>hp.1 x hx,hp.2⟩
end
end Go.Proofs.YtbkobeeileemjaaGreat
/- Own rows that lose their front: windows. -/
namespace Go.Proofs.YtbkobeeileemjaaGreat
open Go Go.RowKit
section
variable {P:Program} {n:Nat} {Q:Exit→Act→World→Prop} {fr:List (Nat × Value)} {L:List Ent} {N:Act→World→Prop}
/-- The window's cells. -/
def Ao6 (A:Option Addr) (m c:Nat) (t:TypeId) (sz:Nat) (xs:List Value) (w:World):Prop :=
 xs.length=m*sz∧m≤c∧c≤maxLen∧((A=none∧c=0)∨∃ g o cur,A=some ⟨g,o,none⟩∧w.heap[g]? = some (.cells cur t (0,0))∧o+c*sz≤cur.size∧∀ j v,xs[j]? = some v→cur[o+j]? = some v)
theorem Ao6.ofRow {A m c t sz xs} {w:World} (h:w.ownsRow 0 t sz (.slice A m c) m xs):Ao6 A m c t sz xs w:=by
 obtain ⟨h1,h2⟩:=h
 rcases h2 with ⟨hv,h0⟩ | ⟨g,cap,cur,hv,_,hh,h3,h4,h5,h6⟩
 ·injection hv with e1 e2 e3
  subst e1;subst e3
  exact ⟨h1,by omega,by unfold maxLen;omega,.inl ⟨rfl,rfl⟩⟩
 ·injection hv with e1 _ e3
  subst e1;subst e3
  refine ⟨h1,h3,h4,.inr ⟨g,0,cur,rfl,hh,by omega,fun j v hj=>?_⟩⟩
  rw [← h6,List.getElem?_take] at hj
  split at hj
  ·rw [Nat.zero_add,← Array.getElem?_toList];exact hj
  ·cases hj
end
end Go.Proofs.YtbkobeeileemjaaGreat
/- Loops laid open round by round; sums of literals; calls that the model answers itself. -/
namespace Go.Proofs.YtbkobeeileemjaaGreat
open Go Go.RowKit
section
variable {P:Program} {n:Nat} {Q:Exit→Act→World→Prop} {fr:List (Nat × Value)} {L:List Ent} {c:Code} {m:Nat}
theorem Ao7 (m:Nat) (k:T n (Code.rounds P c Q m) fr L):T n ((Code.loop c).wp P Q) fr L:=fun a w ha hw=>wp_loop_rounds m (k a w ha hw)
theorem Alq (k:T n (c.wp P (Exit.then (Code.rounds P c Q m) Q)) fr L):T n (Code.rounds P c Q (m+1)) fr L:=k
end
section
variable {P:Program} {n:Nat} {dst:Option Tmp} {t t' ty:TypeId} {x y:Operand} {pos:String} {after:Array Edge} {guard:Option (Nat × Bool)} {fr:List (Nat × Value)} {L:List Ent} {a b c:Int}
theorem Anz (hx:evo fr x=some (.int .i64 a)) (hy:evo fr y=some (.int .i64 b)) (h:w64 (a+b)=c):Ev P n ⟨dst,.binOp .add t x y t',ty,pos,after,guard⟩ fr L (.int .i64 c):=h ▸ Vu hx hy
theorem An0 {k:IntKind} (hx:evo fr x=some (.int k a)) (hy:evo fr y=some (.int k b)) (hb:b≠0) (h:Int.tmod a b=c):Ev P n ⟨dst,.binOp .rem t x y t',ty,pos,after,guard⟩ fr L (.int k c):=h ▸ Aey hx hy hb
theorem An1 {k:IntKind} {z:Operand} {a b c:Int} {ts} (hx:evo fr x=some (.int k a)) (hy:evo fr y=some (.int k b)) (hz:evo fr z=some (.int k c)) :
  Ev P n ⟨dst,.call ⟨.builtin .min,#[x,y,z],ts⟩,ty,pos,after,guard⟩ fr L (.int k (min (min a b) c)):=fun ac w ha _=>by
 have e:∀ a b:Int,(if b < a then b else a)=min a b:=fun a b=>by rw [Int.min_def];split <;> split <;> omega
 simp [execOp,resolve,invoke,builtin,ha.eval hx,ha.eval hy,ha.eval hz,Builtin.min_,Builtin.min2,e]
theorem An2 {k:IntKind} {z:Operand} {a b c:Int} {ts} (hx:evo fr x=some (.int k a)) (hy:evo fr y=some (.int k b)) (hz:evo fr z=some (.int k c)) :
  Ev P n ⟨dst,.call ⟨.builtin .max,#[x,y,z],ts⟩,ty,pos,after,guard⟩ fr L (.int k (max (max a b) c)):=fun ac w ha _=>by
 have e:∀ a b:Int,(if b > a then b else a)=max a b:=fun a b=>by rw [Int.max_def];split <;> split <;> omega
 simp [execOp,resolve,invoke,builtin,ha.eval hx,ha.eval hy,ha.eval hz,Builtin.max_,Builtin.max2,e]
theorem Ap3 {f:FuncId} {xs:List Operand} {vs:List Value} {ts:Array TypeId} {v:Value} (hx:evos fr xs=some vs) (h:∀ w,(callFunc f vs.toArray).run P w = .ok (.value v) w):Ev P n ⟨dst,.call ⟨.value (.func f),xs.toArray,ts⟩,ty,pos,after,guard⟩ fr L v:=fun ac w ha _=>by
 have:=ha.evals hx
 simp [execOp,resolve,Deferred.ofValue,invoke,Act.eval,this,h]
end
class Abe (a b:Int) (c:outParam Int):Prop where
 h:w64 (a+b)=c
class Aib (a b:Int) (c:outParam Int):Prop where
 h:Int.tmod a b=c
 nz:b≠0
instance:Abe 0 1 1:=⟨by decide⟩
instance:Abe 1 1 2:=⟨by decide⟩
instance:Abe 2 1 3:=⟨by decide⟩
instance:Abe 3 1 4:=⟨by decide⟩
instance:Abe 4 1 5:=⟨by decide⟩
instance:Abe 5 1 6:=⟨by decide⟩
instance:Aib 1 3 1:=⟨by decide,by decide⟩
instance:Aib 2 3 2:=⟨by decide,by decide⟩
instance:Aib 3 3 0:=⟨by decide,by decide⟩
class ExtI (P:Program) (f:FuncId) (vs:List Value) (G:outParam Prop) (v:outParam Value):Prop where
 h:G→∀ w,(callFunc f vs.toArray).run P w = .ok (.value v) w
end Go.Proofs.YtbkobeeileemjaaGreat
