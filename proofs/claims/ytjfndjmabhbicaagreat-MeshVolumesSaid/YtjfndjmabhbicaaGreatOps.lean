/- No run takes back a draw. -/
import Derived.Below
import Derived.Control
import Derived.WalkKit
import Derived.Deep.LoopGhost
import Derived.Maps.AppendAt
namespace Go.Proofs.YtjfndjmabhbicaaGreat
open Go
def Agf {ε α:Type} (Φ:α->Prop):Except ε α->Prop
 | .ok a=>Φ a
 | .error _=>True
theorem Agf.bind {ε α β:Type} {Φ:β->Prop} {e:Except ε α} {f:α->Except ε β} (h:∀ a,Agf Φ (f a)):Agf Φ (e >>= f):=by
 cases e with
 | ok a=>exact h a
 | error e=>exact trivial
theorem Ade (p:Program) (w:World) (a:Addr) (u:TypeId) (k:Addr) (v:Value) (b:Bool):Agf (fun r=>r.1.drawn=w.drawn) (w.viewStore p a u k v b):=by
 unfold World.viewStore
 repeat' (first | exact rfl | exact trivial | (refine Agf.bind fun _=>?_) | split)
theorem Ad0 (p:Program) (w:World) (a:Addr) (v:Value) (b:Bool):Agf (fun r=>r.1.drawn=w.drawn) (w.farStore p a v b):=by
 unfold World.farStore
 split
 ·have:=Ade p w ‹_› ‹_› a v b
  split
  ·rename_i h;rw[h] at this;exact this
  ·exact trivial
 ·exact trivial
theorem Abu {α:Type}:∀ (q:Ask α) (w:World),w.drawn<=(w.ask q).2.drawn
 | .done _,w=>Nat.le_refl _
 | .ask what range k,w=>by
  unfold World.ask
  dsimp only
  split
  ·exact Abu (k 0) w
  ·exact Nat.le_trans (Nat.le_succ _) (Abu (k _) { w with drawn:=w.drawn+1 })
theorem Ao0 (w:World) (c:Sys):w.drawn<=(w.sys c).2.drawn:=by
 unfold World.sys
 have:=Abu (Kernel.perform c w.os) w
 split
 ·exact Nat.le_refl _
 ·rename_i h;rw[h] at this;exact this
def Ai7 {α:Type} (n:Nat):Result α->Prop
 | .ok _ w=>n<=w.drawn
 | .halt _ w=>n<=w.drawn
theorem Ai7.mono {α:Type} {n m:Nat} {r:Result α} (h:Ai7 m r) (hn:n<=m):Ai7 n r:=by
 cases r <;> exact Nat.le_trans hn h
theorem Gi {α:Type} (P:Program):∀ (s:Sem α) (w:World),Ai7 w.drawn (s.run P w)
 | .pure a,w=>Nat.le_refl _
 | .load m a k,w=>by
  unfold Sem.run
  split
  ·exact Gi P (k _) w
  ·split
   ·exact Gi P (k _) w
   ·exact Nat.le_refl _
 | .store m a v k,w=>by
  have key:Ai7 w.drawn (match w.cell? a with
   | some _ => if w.frozen? a then Result.halt (.unsupported (.unsafePointer "a write to bytes that a string shares")) w else k.run P (w.setCell a v)
   | none=>match w.farStore P a v (m == .atomic) with
    | .ok (w,_)=>k.run P w
    | .error h=>.halt h w):=by
   split
   ·split
    ·exact Nat.le_refl _
    ·exact Gi P k (w.setCell a v)
   ·have:=Ad0 P w a v (m == .atomic)
    split
    ·rename_i h
     rw[h] at this
     exact (Gi P k _).mono (Nat.le_of_eq this.symm)
    ·exact Nat.le_refl _
  cases v with
  | agg _=>exact Nat.le_refl _
  | tuple _=>exact Nat.le_refl _
  | _=>exact key
 | .new o k,w=>by unfold Sem.run;exact Gi P (k _) { w with heap:=w.heap.push o }
 | .shape r k,w=>by unfold Sem.run;exact Gi P (k _) w
 | .freeze a n k,w=>by
  unfold Sem.run
  refine (Gi P k (w.freeze a n)).mono ?_
  unfold World.freeze;split <;> exact Nat.le_refl _
 | .frozen a k,w=>by unfold Sem.run;exact Gi P (k _) w
 | .getObj r k,w=>by
  unfold Sem.run
  split
  ·exact Nat.le_refl _
  ·exact Gi P (k _) w
  ·exact Nat.le_refl _
 | .setObj r o k,w=>by
  unfold Sem.run
  split
  ·exact Nat.le_refl _
  ·exact Gi P k { w with heap:=w.heap.setIfInBounds r o }
  ·exact Nat.le_refl _
 | .choose q k,w=>by
  unfold Sem.run
  split
  ·exact Gi P (k _) w
  ·exact (Gi P (k _) { w with drawn:=w.drawn+1 }).mono (Nat.le_succ _)
 | .sys c k,w=>by unfold Sem.run;exact (Gi P (k _) _).mono (Ao0 w c)
 | .program k,w=>by unfold Sem.run;exact Gi P (k _) w
 | .mark _ k,w=>by unfold Sem.run;exact Gi P k w
 | .halt h,w=>Nat.le_refl _
theorem Abv {α:Type} {P:Program} {s:Sem α} {w w':World} {v:α} (h:s.run P w = .ok v w'):w.drawn<=w'.drawn:=by
 have:=Gi P s w
 rw[h] at this
 exact this
end Go.Proofs.YtjfndjmabhbicaaGreat
namespace Go.Proofs.YtjfndjmabhbicaaGreat
open Go Go.RowKit

def look:List (Nat × Value)->Nat->Option Value
 | [],_=>none
 | (k,v)::r,t=>bif Nat.beq k t then some v else look r t

structure Fr (n:Nat) (fr:List (Nat × Value)) (a:Act):Prop where
 nod:a.defers=[]
 size:a.tmps.size=n
 val:∀ t v,look fr t=some v->a.tmps.getD t undef=v

def evo (fr:List (Nat × Value)):Operand->Option Value
 | .tmp t=>look fr t
 | .const v=>some v
 | .global g=>some (.pointer (some ⟨g,0,none⟩))
 | .func f=>some (.func (.func f) #[] #[])

def evos (fr:List (Nat × Value)):List Operand->Option (List Value)
 | []=>some []
 | x::r=>match evo fr x,evos fr r with
  | some v,some vs=>some (v::vs)
  | _,_=>none

theorem Fr.eval {n fr a} (h:Fr n fr a) {x v} (hx:evo fr x=some v):a.eval x=v:=by
 cases x with
 | tmp t=>exact h.val t v hx
 | const c=>simp only[evo,Option.some.injEq] at hx;simpa only[Act.eval] using hx
 | global g=>simp only[evo,Option.some.injEq] at hx;simpa only[Act.eval] using hx
 | func f=>simp only[evo,Option.some.injEq] at hx;simpa only[Act.eval] using hx

theorem Fr.evals {n fr a} (h:Fr n fr a):∀ {xs vs},evos fr xs=some vs->xs.map a.eval=vs:=by
 intro xs
 induction xs with
 | nil=>intro vs hv;simp[evos] at hv;subst hv;rfl
 | cons x r ih=>
  intro vs hv
  simp only[evos] at hv
  split at hv
  ·rename_i v vs' h1 h2
   injection hv with hv;subst hv
   simp[h.eval h1,ih h2]
  ·cases hv

theorem Fr.put {n fr a d v} (h:Fr n fr a) (hd:Nat.blt d n=true):Fr n ((d,v)::fr) (a.put (some d) v):=by
 have hd':d < n:=(Nat.blt_eq ▸ hd)
 refine ⟨h.nod,by simp[Act.put,h.size],fun t u hu=>?_⟩
 simp only[look] at hu
 cases hb:Nat.beq d t with
 | true=>
  rw[hb] at hu
  have e:d=t:=Nat.eq_of_beq_eq_true hb
  subst e
  simp only[cond_true,Option.some.injEq] at hu
  subst hu
  simp[Act.put,h.size,hd']
 | false=>
  rw[hb] at hu
  have e:d≠t:=Nat.ne_of_beq_eq_false hb
  have:=h.val t u hu
  simp only[Act.put]
  rw[<- this]
  simp[Array.getElem?_setIfInBounds_ne e]

structure SubF (fr' fr:List (Nat × Value)):Prop where
 get:∀ t v,look fr' t=some v->look fr t=some v
theorem SubF.nil {fr}:SubF [] fr:=⟨fun _ _ h=>by simp[look] at h⟩
theorem SubF.refl {fr}:SubF fr fr:=⟨fun _ _ h=>h⟩
theorem SubF.cons {t v fr' fr} (h:look fr t=some v) (h':SubF fr' fr):SubF ((t,v)::fr') fr:=by
 refine ⟨fun s u hu=>?_⟩
 simp only[look] at hu
 cases hb:Nat.beq t s with
 | true=>
  rw[hb] at hu
  simp only[cond_true,Option.some.injEq] at hu
  subst hu
  rw[<- Nat.eq_of_beq_eq_true hb];exact h
 | false=>rw[hb] at hu;exact h'.get s u hu
theorem Fr.sub {n fr fr' a} (h:Fr n fr a) (hs:SubF fr' fr):Fr n fr' a:=⟨h.nod,h.size,fun t v hv=>h.val t v (hs.get t v hv)⟩

inductive Ent where
 | old (w0:World)
 | m (g:Nat) (t:TypeId) (cs:List Value)
 | r (A:Option Addr) (n c:Nat) (t:TypeId) (sz:Nat) (xs:List Value)
 | f (S:List Nat) (φ:World->Prop)

def Ent.ok (w:World):Ent->Prop
 | .old w0=>Below w0.heap.size w0 w/\w0.drawn<=w.drawn
 | .m g t cs=>w.heap[g]? = some (.cells cs.toArray t (0,0))
 | .r A n c t sz xs=>w.ownsRow 0 t sz (.slice A n c) n xs
 | .f S φ=>(∀ g∈S,g < w.heap.size)/\φ w/\∀ w1 w2:World,φ w1->(∀ g∈S,w2.heap[g]? = w1.heap[g]?)->φ w2

def Ent.blk:Ent->Option Nat
 | .old _=>none
 | .m g _ _=>some g
 | .r A n c _ _ _=>(Value.slice A n c).ownBlock
 | .f _ _=>none
def Ent.own:Ent->Nat->Prop
 | .old _,_=>False
 | .m g _ _,k=>g=k
 | .r (some a) _ _ _ _ _,k=>a.block=k
 | .r none _ _ _ _ _,_=>False
 | .f S _,k=>k∈S
theorem Ent.own_r {A n c t sz xs k}:(Ent.r A n c t sz xs).own k↔(Value.slice A n c).ownBlock=some k:=by
 cases A <;> simp[Ent.own,Value.ownBlock]

def Ent.lo:Ent->Nat
 | .old w0=>w0.heap.size
 | _=>0

def Ent.low:Ent->Nat
 | .old _=>1
 | _=>0
theorem Ent.low_lo {e:Ent} (h:e.low=0):e.lo=0:=by
 cases e with
 | old w0=>simp[Ent.low] at h
 | _=>rfl

def Ent.sep (e e':Ent):Prop :=
 (∀ g,e.own g->e'.lo<=g/\¬ e'.own g)/\(∀ g,e'.own g->e.lo<=g/\¬ e.own g)

theorem Ent.sep.symm {e e':Ent} (h:e.sep e'):e'.sep e:=⟨h.2,h.1⟩

structure Heap (L:List Ent) (w:World):Prop where
 ok:∀ e∈L,e.ok w
 sep:L.Pairwise Ent.sep

def Ext (w w':World):Prop:=Below w.heap.size w w'/\w.drawn<=w'.drawn
theorem Ext.refl (w:World):Ext w w:=⟨Below.refl _ _,Nat.le_refl _⟩
theorem Ext.trans {a b c:World} (h:Ext a b) (k:Ext b c):Ext a c:=⟨Below.trans h.1 (Below.mono k.1 h.1.size),Nat.le_trans h.2 k.2⟩

theorem Ek {w:World} {g:Nat} {o:Obj} (h:w.heap[g]? = some o):g < w.heap.size:=by
 rcases Nat.lt_or_ge g w.heap.size with hlt | hge
 ·exact hlt
 ·rw[Array.getElem?_eq_none hge] at h;cases h

theorem Ent.lt {e:Ent} {w:World} (h:Ent.ok w e) {g:Nat} (hg:e.own g):g < w.heap.size:=by
 cases e with
 | old w0=>cases hg
 | m g' t cs=>have hg:g'=g:=hg;subst hg;exact Ek h
 | r A n c t sz xs=>
  rw[Ent.own_r] at hg
  obtain ⟨_,h2⟩:=h
  rcases h2 with ⟨hv,_⟩ | ⟨g',cap,cur,hv,_,hh,_⟩
  ·rw[hv] at hg;simp[Value.ownBlock] at hg
  ·rw[hv] at hg;simp[Value.ownBlock] at hg;subst hg;exact Ek hh
 | f S φ=>exact h.1 g hg

theorem Ent.keep {e:Ent} {w w':World} {row:Option Nat} (h:Ent.ok w e) (hg:w.grownBy w' row) (hr:∀ g,row=some g->e.lo<=g/\¬ e.own g) (hlo:e.lo<=w.heap.size) (hd:w.drawn<=w'.drawn):Ent.ok w' e:=by
 cases e with
 | old w0=>
  refine ⟨Below.trans h.1 ⟨hg.os,hg.tape,hg.output,hg.size,fun k hk=>hg.block k ?_ ?_⟩,Nat.le_trans h.2 hd⟩
  ·exact Nat.lt_of_lt_of_le hk hlo
  ·intro he
   have:=(hr k he.symm).1
   simp only[Ent.lo] at this
   omega
 | m g t cs=>
  have hlt:=Ek (show w.heap[g]? = some _ from h)
  exact (hg.block g hlt (fun he=>(hr g he.symm).2 rfl)).trans h
 | r A n c t sz xs=>
  obtain ⟨h1,h2⟩:=h
  refine ⟨h1,?_⟩
  rcases h2 with h2 | ⟨g,cap,cur,hv,hb,hh,rest⟩
  ·exact .inl h2
  ·refine .inr ⟨g,cap,cur,hv,hb,?_,rest⟩
   refine (hg.block g (Ek hh) (fun he=>(hr g he.symm).2 ?_)).trans hh
   rw[Ent.own_r,hv];rfl
 | f S φ=>
  obtain ⟨h1,h2,h3⟩:=h
  exact ⟨fun g hgs=>Nat.lt_of_lt_of_le (h1 g hgs) hg.size,h3 w w' h2 (fun g hgs=>hg.block g (h1 g hgs) (fun he=>(hr g he.symm).2 hgs)),h3⟩

theorem Ent.lo_le {e:Ent} {w:World} (h:Ent.ok w e):e.lo<=w.heap.size:=by
 cases e with
 | old w0=>exact h.1.size
 | _=>exact Nat.zero_le _

theorem Ext.grown {w w':World} (h:Ext w w'):w.grownBy w' none:=⟨h.1.os,h.1.tape,h.1.output,h.1.size,fun k hk _=>h.1.block k hk⟩
theorem Ent.ext {e:Ent} {w w':World} (h:Ent.ok w e) (hx:Ext w w'):Ent.ok w' e:=Ent.keep h hx.grown (fun _ he=>by cases he) (Ent.lo_le h) hx.2

def nthE:List Ent->Nat->Option Ent
 | [],_=>none
 | e::_,0=>some e
 | _::r,i+1=>nthE r i
theorem Eu:∀ {L:List Ent} {i e},nthE L i=some e->e∈L
 | [],_,_,h=>by simp[nthE] at h
 | e::r,0,e',h=>by simp[nthE] at h;subst h;exact List.mem_cons_self
 | e::r,i+1,e',h=>List.mem_cons_of_mem _ (Eu (by simpa[nthE] using h))

inductive SetE:List Ent->Nat->Ent->Ent->List Ent->Prop
 | here {e e' L}:SetE (e::L) 0 e e' (e' :: L)
 | there {x L i e e' L'}:SetE L i e e' L'->SetE (x::L) (i+1) e e' (x::L')

theorem SetE.mem {L i e e' L'} (h:SetE L i e e' L'):e∈L:=by
 induction h with
 | here=>exact List.mem_cons_self
 | there _ ih=>exact List.mem_cons_of_mem _ ih

theorem Heap.turnO {e e':Ent} {w w':World} {row:Option Nat} (hg:w.grownBy w' row) (hrow:∀ g,row=some g->e.own g) (hok:Ent.ok w' e')
  (hlo:e'.lo<=e.lo) (hb:∀ g,e'.own g->e.own g\/w.heap.size<=g) {L i L'} (hs:SetE L i e e' L') (h:Heap L w) (hd:w.drawn<=w'.drawn:=by first | exact Nat.le_refl _ | exact Abv (by assumption)):Heap L' w':=by
 have two:∀ y:Ent,y.sep e->Ent.ok w y->y.sep e'/\Ent.ok w' y:=by
  intro y hy hyo
  refine ⟨⟨fun g hgb=>?_,fun g hgb=>?_⟩,Ent.keep hyo hg (fun g he=>hy.2 g (hrow g he)) (Ent.lo_le hyo) hd⟩
  ·have h1:=hy.1 g hgb
   refine ⟨Nat.le_trans hlo h1.1,fun he=>?_⟩
   rcases hb g he with h2 | h2
   ·exact h1.2 h2
   ·have:=Ent.lt hyo hgb;omega
  ·rcases hb g hgb with h2 | h2
   ·exact hy.2 g h2
   ·exact ⟨by have:=Ent.lo_le hyo;omega,fun he=>by have:=Ent.lt hyo he;omega⟩
 have key:(∀ x∈L',Ent.ok w' x)/\L'.Pairwise Ent.sep/\(∀ y,(∀ x∈L,y.sep x)->Ent.ok w y->(∀ x∈L',y.sep x)/\Ent.ok w' y):=by
  obtain ⟨hok',hsep⟩:=h
  clear hlo hb
  induction hs with
  | @here e e' L=>
   rw[List.pairwise_cons] at hsep
   refine ⟨fun x hx=>?_,?_,fun y hy hyo=>?_⟩
   ·rcases List.mem_cons.1 hx with rfl | hx
    ·exact hok
    ·exact (two x (hsep.1 x hx).symm (hok' x (List.mem_cons_of_mem _ hx))).2
   ·rw[List.pairwise_cons]
    exact ⟨fun x hx=>(two x (hsep.1 x hx).symm (hok' x (List.mem_cons_of_mem _ hx))).1.symm,hsep.2⟩
   ·obtain ⟨h1,h2⟩:=two y (hy e List.mem_cons_self) hyo
    refine ⟨fun x hx=>?_,h2⟩
    rcases List.mem_cons.1 hx with rfl | hx
    ·exact h1
    ·exact hy x (List.mem_cons_of_mem _ hx)
  | @there z L i e₀ e₁ L' hs ih=>
   rw[List.pairwise_cons] at hsep
   obtain ⟨i1,i2,i3⟩:=ih hrow hok two (fun x hx=>hok' x (List.mem_cons_of_mem _ hx)) hsep.2
   obtain ⟨z1,z2⟩:=i3 z hsep.1 (hok' z List.mem_cons_self)
   refine ⟨fun x hx=>?_,?_,fun y hy hyo=>?_⟩
   ·rcases List.mem_cons.1 hx with rfl | hx
    ·exact z2
    ·exact i1 x hx
   ·rw[List.pairwise_cons];exact ⟨z1,i2⟩
   ·obtain ⟨y1,y2⟩:=i3 y (fun x hx=>hy x (List.mem_cons_of_mem _ hx)) hyo
    refine ⟨fun x hx=>?_,y2⟩
    rcases List.mem_cons.1 hx with rfl | hx
    ·exact hy _ List.mem_cons_self
    ·exact y1 x hx
 exact ⟨key.1,key.2.1⟩

theorem Heap.turn {e e':Ent} {w w':World} (hg:w.grownBy w' e.blk) (hok:Ent.ok w' e')
  (hlo:e'.lo<=e.lo) (hb:∀ g,e'.blk=some g->e.blk=some g\/w.heap.size<=g) {L i L'} (hs:SetE L i e e' L') (h:Heap L w)
  (h1:∀ g,e.blk=some g↔e.own g:=by intro g;first | exact Ent.own_r.symm | (simp[Ent.blk,Ent.own,Value.ownBlock];done)) (h2:∀ g,e'.blk=some g↔e'.own g:=by intro g;first | exact Ent.own_r.symm | (simp[Ent.blk,Ent.own,Value.ownBlock];done)) (hd:w.drawn<=w'.drawn:=by first | exact Nat.le_refl _ | exact Abv (by assumption)):Heap L' w' :=
 Heap.turnO hg (fun g hr=>(h1 g).1 hr) hok hlo (fun g hr=>by rcases hb g ((h2 g).2 hr) with h | h;exact .inl ((h1 g).1 h);exact .inr h) hs h hd
theorem Heap.ext {L w w'} (h:Heap L w) (hx:Ext w w'):Heap L w':=⟨fun e he=>Ent.ext (h.ok e he) hx,h.sep⟩

theorem Heap.join {L Ln w w'} (h:Heap L w) (hl:∀ e∈Ln,e.low=0) (hn:Heap (Ln++[.old w]) w'):Heap (Ln++L) w':=by
 replace hl:∀ e∈Ln,e.lo=0:=fun e he=>Ent.low_lo (hl e he)
 have hold:Ext w w':=hn.ok (.old w) (by simp)
 refine ⟨fun e he=>?_,?_⟩
 ·rcases List.mem_append.1 he with he | he
  ·exact hn.ok e (by simp[he])
  ·exact Ent.ext (h.ok e he) hold
 ·rw[List.pairwise_append]
  have hp:=hn.sep
  rw[List.pairwise_append] at hp
  refine ⟨hp.1,h.sep,fun a ha b hb=>?_⟩
  have hs:=hp.2.2 a ha (.old w) (by simp)
  refine ⟨fun g hg=>?_,fun g hg=>?_⟩
  ·have:=(hs.1 g hg).1
   simp only[Ent.lo] at this
   refine ⟨Nat.le_trans (Ent.lo_le (h.ok b hb)) this,fun he=>?_⟩
   have:=Ent.lt (h.ok b hb) he
   omega
  ·have hlt:=Ent.lt (h.ok b hb) hg
   refine ⟨by rw[hl a ha];exact Nat.zero_le _,fun he=>?_⟩
   have:=(hs.1 g he).1
   simp only[Ent.lo] at this
   omega

theorem Heap.old (w:World):Heap [.old w] w:=⟨fun e he=>by simp at he;subst he;exact ⟨Below.refl _ _,Nat.le_refl _⟩,by simp⟩

theorem Heap.alloc {L w} (h:Heap L w) (t:TypeId) (cs:List Value):Heap (.m w.heap.size t cs::L) (w.alloc (.cells cs.toArray t)):=by
 have hx:Ext w (w.alloc (.cells cs.toArray t)):=⟨(Below.refl _ _).alloc (Nat.le_refl _) _,Nat.le_refl _⟩
 refine ⟨fun e he=>?_,?_⟩
 ·rcases List.mem_cons.1 he with rfl | he
  ·exact heap_alloc_new w _
  ·exact Ent.ext (h.ok e he) hx
 ·rw[List.pairwise_cons]
  refine ⟨fun x hx=>⟨fun g hg=>?_,fun g hg=>⟨Nat.zero_le _,fun he=>?_⟩⟩,h.sep⟩
  ·have hg:w.heap.size=g:=hg
   subst hg
   exact ⟨Ent.lo_le (h.ok x hx),fun he=>by have:=Ent.lt (h.ok x hx) he;omega⟩
  ·have he:w.heap.size=g:=he
   have:=Ent.lt (h.ok x hx) hg
   omega

inductive HSub:List Ent->List Ent->Prop
 | refl {L}:HSub L L
 | keep {e L L'}:HSub L L'->HSub (e::L) (e::L')
 | drop {e L L'}:HSub L L'->HSub (e::L) L'
theorem HSub.sublist {L L'} (h:HSub L L'):L'.Sublist L:=by
 induction h with
 | refl=>exact List.Sublist.refl _
 | keep _ ih=>exact ih.cons_cons _
 | drop _ ih=>exact ih.cons _
theorem Heap.sub {L L' w} (h:Heap L w) (hs:HSub L L'):Heap L' w:=⟨fun e he=>h.ok e (hs.sublist.mem he),h.sep.sublist hs.sublist⟩
theorem Heap.perm {L L' w} (h:Heap L w) (hs:L.Perm L'):Heap L' w:=⟨fun e he=>h.ok e (hs.mem_iff.2 he),h.sep.perm hs (fun h=>h.symm)⟩

def T (n:Nat) (N:Act->World->Prop) (fr:List (Nat × Value)) (L:List Ent):Prop:=∀ a w,Fr n fr a->Heap L w->N a w

def Ev (P:Program) (n:Nat) (o:Oper) (fr:List (Nat × Value)) (L:List Ent) (v:Value):Prop :=
 ∀ a w,Fr n fr a->(∀ e∈L,Ent.ok w e)->(execOp a.eval o).run P w = .ok (.value v) w

section rules
variable {P:Program} {n:Nat} {ops:Array Oper} {Q:Exit->Act->World->Prop} {fr:List (Nat × Value)} {L:List Ent} {rest:List Oper} {o:Oper}
variable {d:Nat} {op:Op} {ty:TypeId} {pos:String} {after:Array Edge}

theorem Ba {v:Value} (h:Ev P n ⟨some d,op,ty,pos,after,none⟩ fr L v) (hd:Nat.blt d n=true) (k:T n (wpList P ops Q rest) ((d,v)::fr) L) :
  T n (wpList P ops Q (⟨some d,op,ty,pos,after,none⟩ :: rest)) fr L:=by
 intro a w ha hw
 refine wpList_plain rfl (fun K hK=>?_)
 simp only[Oper.wp,h a w ha hw.ok,Oper.upon_value]
 exact hK _ _ (k _ _ (ha.put hd) hw)

theorem Ri {j s:Nat} {b b':Bool} {a:Act} (hj:(ops[j]?).bind (·.dst)=some s) (ha:Fr n fr a) (hs:look fr s=some (.bool b')) (hsn:Nat.blt s n=true) :
  Region.wanted ⟨some d,op,ty,pos,after,some (j,b)⟩ (yielded ops a.tmps)=(b' == b):=by
 have hv:=ha.val s _ hs
 have hlt:s < a.tmps.size:=by rw[ha.size];exact (Nat.blt_eq ▸ hsn)
 have hg:a.tmps[s]? = some (.bool b'):=by
  rw[Array.getD_eq_getD_getElem?,Array.getElem?_eq_getElem hlt] at hv
  rw[Array.getElem?_eq_getElem hlt]
  simpa using hv
 have hy:yielded ops a.tmps j=some b':=by
  unfold yielded
  rw[hj]
  simp[hg]
 simp only[Region.wanted,hy]
 cases b' <;> cases b <;> rfl

theorem Oi {j s:Nat} {b:Bool} {v:Value} (hj:(ops[j]?).bind (·.dst)=some s) (hs:look fr s=some (.bool b)) (hsn:Nat.blt s n=true)
  (h:Ev P n ⟨some d,op,ty,pos,after,some (j,b)⟩ fr L v) (hd:Nat.blt d n=true) (k:T n (wpList P ops Q rest) ((d,v)::fr) L) :
  T n (wpList P ops Q (⟨some d,op,ty,pos,after,some (j,b)⟩ :: rest)) fr L:=by
 intro a w ha hw
 refine wpList_step (fun K hK=>?_)
 rw[if_pos (by rw[Ri hj ha hs hsn];simp)]
 simp only[Oper.wp,h a w ha hw.ok,Oper.upon_value]
 exact hK _ _ (k _ _ (ha.put hd) hw)

theorem Amu {j s:Nat} {b b':Bool} (hj:(ops[j]?).bind (·.dst)=some s) (hs:look fr s=some (.bool b')) (hsn:Nat.blt s n=true) (hne:(b' == b)=false)
  (hd:Nat.blt d n=true) (k:T n (wpList P ops Q rest) ((d,undef)::fr) L) :
  T n (wpList P ops Q (⟨some d,op,ty,pos,after,some (j,b)⟩ :: rest)) fr L:=by
 intro a w ha hw
 refine wpList_step (fun K hK=>?_)
 rw[if_neg (by rw[Ri hj ha hs hsn,hne];simp)]
 exact hK _ _ (k _ _ (ha.put hd) hw)

theorem Aw4 (k:T n (Q .normal) fr L):T n (wpList P ops Q []) fr L:=k

theorem Aw5 {id:Nat} {l:List Oper} (k:T n (wpList P l.toArray Q l) fr L):T n ((Code.region id l.toArray false).wp P Q) fr L :=
 fun a w ha hw=>wp_region_lit (k a w ha hw)
theorem Bn {x y:Code} (k:T n (x.wp P (Exit.then (y.wp P Q) Q)) fr L):T n ((Code.seq x y).wp P Q) fr L:=fun a w ha hw=>wp_seq (k a w ha hw)
theorem Aqp {y:Code} {Q':Exit->Act->World->Prop} (k:T n (y.wp P Q) fr L):T n (Exit.then (y.wp P Q) Q' .normal) fr L:=k
theorem Amv {id:Nat} {c:Code} (k:T n (c.wp P (Exit.inBlock id Q)) fr L):T n ((Code.block id c).wp P Q) fr L:=fun a w ha hw=>wp_block (k a w ha hw)
theorem Aqq {id:Nat} (k:T n (Q (.exit id)) fr L):T n ((Code.exit id).wp P Q) fr L:=fun a w ha hw=>wp_exit (k a w ha hw)
theorem Aqr (k:T n (Q .normal) fr L):T n (Code.skip.wp P Q) fr L:=fun a w ha hw=>wp_skip (k a w ha hw)
theorem Aqs (k:T n (Q .ret) fr L):T n (Code.ret.wp P Q) fr L:=fun a w ha hw=>wp_ret (k a w ha hw)
theorem Aqt {id:Nat} (k:T n (Q .normal) fr L):T n (Exit.inBlock id Q (.exit id)) fr L:=fun a w ha hw=>by simpa[Exit.inBlock] using k a w ha hw
theorem Axq {id id':Nat} (hne:Nat.beq id' id=false) (k:T n (Q (.exit id')) fr L):T n (Exit.inBlock id Q (.exit id')) fr L:=fun a w ha hw=>by
 have:id'≠id:=Nat.ne_of_beq_eq_false hne
 simpa[Exit.inBlock,this] using k a w ha hw

theorem Aqu {c:Operand} {x y:Code} {b:Bool} (hc:evo fr c=some (.bool b)) (ht:b=true->T n (x.wp P Q) fr L) (hf:b=false->T n (y.wp P Q) fr L) :
  T n ((Code.cond c x y).wp P Q) fr L:=by
 intro a w ha hw
 exact wp_cond_split (ha.eval hc) (fun h=>ht h a w ha hw) (fun h=>hf h a w ha hw)
theorem Amw {c:Operand} {x y:Code} (hc:evo fr c=some (.bool true)) (ht:T n (x.wp P Q) fr L):T n ((Code.cond c x y).wp P Q) fr L :=
 Aqu hc (fun _=>ht) (fun h=>by cases h)
theorem Amx {c:Operand} {x y:Code} (hc:evo fr c=some (.bool false)) (hf:T n (y.wp P Q) fr L):T n ((Code.cond c x y).wp P Q) fr L :=
 Aqu hc (fun h=>by cases h) (fun _=>hf)

theorem Aqv {σ:Type} (I:σ->List (Nat × Value)) (H:σ->List Ent) (C:σ->Prop) (μ:σ->Nat) (s0:σ) (hC:C s0) (hF:SubF (I s0) fr) (hH:HSub L (H s0)) {c:Code}
  (body:∀ s,C s->T n (c.wp P (Exit.then (fun a' w'=>∃ s',C s'/\μ s' < μ s/\Fr n (I s') a'/\Heap (H s') w') Q)) (I s) (H s)) :
  T n ((Code.loop c).wp P Q) fr L:=by
 intro a w ha hw
 refine wp_loop_ghost (fun m a w=>∃ s,C s/\μ s=m/\Fr n (I s) a/\Heap (H s) w) (μ s0) ⟨s0,hC,rfl,ha.sub hF,hw.sub hH⟩ ?_
 rintro m a w ⟨s,hs,rfl,hfr,hh⟩
 refine wp_mono (body s hs a w hfr hh) ?_
 intro e a' w' hq
 cases e with
 | normal=>obtain ⟨s',h1,h2,h3,h4⟩:=hq;exact ⟨μ s',h2,s',h1,rfl,h3,h4⟩
 | _=>exact hq
end rules

def nth:List Value->Nat->Option Value
 | [],_=>none
 | v::_,0=>some v
 | _::r,i+1=>nth r i
theorem Ahf:∀ (cs:List Value) (i:Nat),nth cs i=cs[i]?
 | [],_=>by simp[nth]
 | v::r,0=>by simp[nth]
 | v::r,i+1=>by simp[nth,Ahf r i]
def Zn:List Value->Nat->Option (List Value)
 | _,0=>some []
 | [],_+1=>none
 | v::r,k+1=>match Zn r k with
  | some l=>some (v::l)
  | none=>none
def Up:List Value->Nat->Nat->Option (List Value)
 | cs,0,k=>Zn cs k
 | [],_+1,_=>none
 | _::r,o+1,k=>Up r o k
theorem Ack:∀ {cs:List Value} {k} {vs:List Value},Zn cs k=some vs->vs.length=k/\∀ (j:Nat) (v:Value),vs[j]? = some v->cs[j]? = some v
 | cs,0,vs,h=>by simp[Zn] at h;subst h;exact ⟨rfl,fun j v hj=>by simp at hj⟩
 | [],k+1,vs,h=>by simp[Zn] at h
 | c::r,k+1,vs,h=>by
  simp only[Zn] at h
  split at h
  ·rename_i l hl
   injection h with h;subst h
   obtain ⟨h1,h2⟩:=Ack hl
   refine ⟨by simp[h1],fun j v hj=>?_⟩
   cases j with
   | zero=>simpa using hj
   | succ j=>simp at hj ⊢;exact h2 j v hj
  ·cases h
theorem Zo:∀ {cs:List Value} {o k} {vs:List Value},Up cs o k=some vs->vs.length=k/\∀ (j:Nat) (v:Value),vs[j]? = some v->cs[o+j]? = some v
 | cs,0,k,vs,h=>by
  have h':Zn cs k=some vs:=by cases cs <;> simpa[Up] using h
  simpa using Ack h'
 | [],o+1,k,vs,h=>by simp[Up] at h
 | c::r,o+1,k,vs,h=>by
  obtain ⟨h1,h2⟩:=Zo (cs:=r) (by simpa[Up] using h)
  refine ⟨h1,fun j v hj=>?_⟩
  rw[show o+1+j=(o+j)+1 from by omega]
  simpa using h2 j v hj

inductive Spl:List Value->Nat->List Value->List Value->Prop
 | done {cs}:Spl cs 0 [] cs
 | put {c cs v vs cs'}:Spl cs 0 vs cs'->Spl (c::cs) 0 (v::vs) (v::cs')
 | skip {c cs o vs cs'}:Spl cs o vs cs'->Spl (c::cs) (o+1) vs (c::cs')

section
variable {P:Program}

def Nf (P:Program) (t:TypeId) (k:Nat):Prop:=(∀ w,(isAgg t).run P w = .ok true w)/\∀ w,(sizeOf t).run P w = .ok k w
def Qe (P:Program) (t:TypeId):Prop:=(∀ w,(isAgg t).run P w = .ok false w)/\∀ w,(sizeOf t).run P w = .ok 1 w
def Cw (P:Program) (s:TypeId) (f off:Nat):Prop :=
 ∃ fs fld k,P.underlying s=some (.struct fs)/\fs[f]? = some fld/\fld.offset=off/\(∀ w,(sizeOf fld.type).run P w = .ok k w)/\(k == 0)=false
def Kh (P:Program) (t e:TypeId) (sz:Nat):Prop:=P.underlying t=some (.slice e)/\∀ w,(sizeOf e).run P w = .ok sz w

theorem Nf.mk {t k d i} (hu:P.underlying t=some d) (hd:(d matches .struct _)=true) (hi:P.info? t=some i) (hk:i.size=k):Nf P t k:=by
 refine ⟨fun w=>?_,fun w=>by simp[sizeOf,typeInfo,hi,hk]⟩
 cases d <;> simp at hd
 simp[isAgg,run_underlying hu]
theorem Qe.mk {t d i} (hu:P.underlying t=some d) (hd:(d matches .struct _ | .array _ _)=false) (hi:P.info? t=some i) (hk:i.size=1):Qe P t:=by
 refine ⟨fun w=>?_,fun w=>by simp[sizeOf,typeInfo,hi,hk]⟩
 cases d <;> simp at hd <;> simp[isAgg,run_underlying hu]
theorem Cw.mk {s f off fs fld i k} (hu:P.underlying s=some (.struct fs)) (hf:fs[f]? = some fld) (ho:fld.offset=off) (hi:P.info? fld.type=some i) (hk:i.size=k) (h0:(k == 0)=false):Cw P s f off :=
 ⟨fs,fld,k,hu,hf,ho,fun w=>by simp[sizeOf,typeInfo,hi,hk],h0⟩
theorem Kh.mk {t e sz i} (hu:P.underlying t=some (.slice e)) (hi:P.info? e=some i) (hk:i.size=sz):Kh P t e sz :=
 ⟨hu,fun w=>by simp[sizeOf,typeInfo,hi,hk]⟩

variable {n:Nat} {fr:List (Nat × Value)} {L:List Ent}
variable {dst:Option Tmp} {ty:TypeId} {pos:String} {after:Array Edge} {guard:Option (Nat × Bool)}

theorem Amy {x v} (h:evo fr x=some v):Ev P n ⟨dst,.move x,ty,pos,after,guard⟩ fr L v:=fun a w ha _=>by
 simp[execOp,ha.eval h]
theorem Fi {x v} (h:evo fr x=some v):Ev P n ⟨dst,.assign x,ty,pos,after,guard⟩ fr L v:=fun a w ha _=>by
 simp[execOp,ha.eval h]
theorem Ai8 {c x y v} (hc:evo fr c=some (.bool true)) (hx:evo fr x=some v):Ev P n ⟨dst,.pick c x y,ty,pos,after,guard⟩ fr L v:=fun a w ha _=>by
 simp[execOp,ha.eval hc,ha.eval hx,asBool]
theorem Ai9 {c x y v} (hc:evo fr c=some (.bool false)) (hy:evo fr y=some v):Ev P n ⟨dst,.pick c x y,ty,pos,after,guard⟩ fr L v:=fun a w ha _=>by
 simp[execOp,ha.eval hc,ha.eval hy,asBool]
theorem Aqw {x t b} (h:evo fr x=some (.bool b)):Ev P n ⟨dst,.unOp .not t x,ty,pos,after,guard⟩ fr L (.bool (!b)):=fun a w ha _=>by
 simp[execOp,ha.eval h,Op.unary]

theorem Kx {op:BinOp} {t t' x y k a b v} (hx:evo fr x=some (.int k a)) (hy:evo fr y=some (.int k b))
  (h:∀ w:World,(binOp op t (.int k a) (.int k b)).run P w = .ok v w):Ev P n ⟨dst,.binOp op t x y t',ty,pos,after,guard⟩ fr L v:=fun ac w ha _=>by
 simp[execOp,ha.eval hx,ha.eval hy,eqGuard_at_int,h]
theorem Ahg {t t' x y k a b} (hx:evo fr x=some (.int k a)) (hy:evo fr y=some (.int k b)):Ev P n ⟨dst,.binOp .add t x y t',ty,pos,after,guard⟩ fr L (.int k (k.wrap (a+b))) :=
 Kx hx hy fun w=>by rw[binOp_add,Op.intArith];rfl
theorem Ahh {t t' x y k a b} (hx:evo fr x=some (.int k a)) (hy:evo fr y=some (.int k b)):Ev P n ⟨dst,.binOp .sub t x y t',ty,pos,after,guard⟩ fr L (.int k (k.wrap (a-b))) :=
 Kx hx hy fun w=>by rw[binOp_sub,Op.intArith];rfl
theorem Ahi {t t' x y k a b} (hx:evo fr x=some (.int k a)) (hy:evo fr y=some (.int k b)):Ev P n ⟨dst,.binOp .mul t x y t',ty,pos,after,guard⟩ fr L (.int k (k.wrap (a*b))) :=
 Kx hx hy fun w=>by rw[binOp_mul,Op.intArith];rfl
theorem Ahj {t t' x y k a b} (hx:evo fr x=some (.int k a)) (hy:evo fr y=some (.int k b)) (h:b≠0):Ev P n ⟨dst,.binOp .quo t x y t',ty,pos,after,guard⟩ fr L (.int k (k.wrap (a.tdiv b))) :=
 Kx hx hy fun w=>by rw[binOp_quo,Op.intDiv,if_neg h];rfl
theorem Ad1 {t t' x y k a b} (hx:evo fr x=some (.int k a)) (hy:evo fr y=some (.int k b)) (h:b≠0):Ev P n ⟨dst,.binOp .rem t x y t',ty,pos,after,guard⟩ fr L (.int k (a.tmod b)) :=
 Kx hx hy fun w=>by rw[binOp_rem,Op.intDiv,if_neg h];rfl
theorem Aqx {t t' x y k a b} (hx:evo fr x=some (.int k a)) (hy:evo fr y=some (.int k b)):Ev P n ⟨dst,.binOp .lss t x y t',ty,pos,after,guard⟩ fr L (.bool (decide (a < b))) :=
 Kx hx hy fun w=>by rw[binOp_lss];rfl
theorem Aqy {t t' x y k a b} (hx:evo fr x=some (.int k a)) (hy:evo fr y=some (.int k b)):Ev P n ⟨dst,.binOp .leq t x y t',ty,pos,after,guard⟩ fr L (.bool (decide (a<=b))) :=
 Kx hx hy fun w=>by rw[binOp_leq];rfl
theorem Aqz {t t' x y k a b} (hx:evo fr x=some (.int k a)) (hy:evo fr y=some (.int k b)):Ev P n ⟨dst,.binOp .gtr t x y t',ty,pos,after,guard⟩ fr L (.bool (decide (b < a))) :=
 Kx hx hy fun w=>by rw[binOp_gtr];rfl
theorem Aq0 {t t' x y k a b} (hx:evo fr x=some (.int k a)) (hy:evo fr y=some (.int k b)):Ev P n ⟨dst,.binOp .geq t x y t',ty,pos,after,guard⟩ fr L (.bool (decide (b<=a))) :=
 Kx hx hy fun w=>by rw[binOp_geq];rfl
theorem Aq1 {t t' x y k a b} (hx:evo fr x=some (.int k a)) (hy:evo fr y=some (.int k b)):Ev P n ⟨dst,.binOp .eql t x y t',ty,pos,after,guard⟩ fr L (.bool (decide (a=b))) :=
 Kx hx hy fun w=>by rw[binOp_eql];rfl
theorem Aq2 {t t' x y k a b} (hx:evo fr x=some (.int k a)) (hy:evo fr y=some (.int k b)):Ev P n ⟨dst,.binOp .neq t x y t',ty,pos,after,guard⟩ fr L (.bool (!decide (a=b))) :=
 Kx hx hy fun w=>by rw[binOp_neq];rfl
theorem Uq (w:World) (d:Nat) {t:TypeId} (a b:Bool) (h:P.underlying t=some .bool):(Op.equalIn (d+1) t (.bool a) (.bool b)).run P w = .ok (a == b) w:=by
 simp[Op.equalIn,run_underlying h]
theorem Aq3 (w:World) {t:TypeId} (a b:Bool) (h:P.underlying t=some .bool):(binOp .eql t (.bool a) (.bool b)).run P w = .ok (.bool (a == b)) w:=by
 simp only[binOp];simp[Op.equal,Op.maxDepth,Uq w 9999 a b h]
theorem Aq4 (w:World) {t:TypeId} (a b:Bool) (h:P.underlying t=some .bool):(binOp .neq t (.bool a) (.bool b)).run P w = .ok (.bool (!(a == b))) w:=by
 simp only[binOp];simp[Op.equal,Op.maxDepth,Uq w 9999 a b h]
theorem Auo {t t' x y a b} (hx:evo fr x=some (.bool a)) (hy:evo fr y=some (.bool b)) (h:P.underlying t=some .bool):Ev P n ⟨dst,.binOp .eql t x y t',ty,pos,after,guard⟩ fr L (.bool (a == b)):=fun ac w ha _=>by
 simp[execOp,ha.eval hx,ha.eval hy,eqGuard_at_bool,Aq3 w a b h]
theorem Aup {t t' x y a b} (hx:evo fr x=some (.bool a)) (hy:evo fr y=some (.bool b)) (h:P.underlying t=some .bool):Ev P n ⟨dst,.binOp .neq t x y t',ty,pos,after,guard⟩ fr L (.bool (!(a == b))):=fun ac w ha _=>by
 simp[execOp,ha.eval hx,ha.eval hy,eqGuard_at_bool,Aq4 w a b h]

theorem Cs {s x f off b o sp} (hx:evo fr x=some (.pointer (some ⟨b,o,sp⟩))) (hf:Cw P s f off) (hs:sp=none) :
  Ev P n ⟨dst,.fieldAddr s x f,ty,pos,after,guard⟩ fr L (.pointer (some ⟨b,o+off,none⟩)):=fun a w ha _=>by
 obtain ⟨fs,fld,k,h1,h2,rfl,h4,h5⟩:=hf
 subst hs
 have h5':k≠0:=by intro h;subst h;simp at h5
 simp[execOp,ha.eval hx,Instr.fieldAt,run_underlying h1,h2,Instr.sureAddr,fieldPlace,h4,h5',Addr.add_lit]

theorem Sf {w:World} {g t cs} (h:Ent.ok w (.m g t cs)) (o:Nat):w.cell? ⟨g,o,none⟩=cs[o]?:=by
 have h':w.heap[g]? = some (.cells cs.toArray t (0,0)):=h
 simp[World.cell?,h']

theorem Xc {t k} (h:Nf P t k) (a:Addr) (ys:List Value) (hl:ys.length=k) {w:World} (hc:∀ j v,ys[j]? = some v->w.cell? (a.add j)=some v) :
  (loadVar t a).run P w = .ok (.agg ys.toArray) w:=by
 subst hl
 simp[loadVar,h.1 w,h.2 w,run_loadCells_list _ _ ys hc]
theorem Ts {t} (h:Qe P t) (a:Addr) (v:Value) {w:World} (hc:w.cell? a=some v):(loadVar t a).run P w = .ok v w:=by
 simp[loadVar,h.1 w,hc]

theorem Bf {x g o i t cs v ty'} (hx:evo fr x=some (.pointer (some ⟨g,o,none⟩))) (hi:nthE L i=some (.m g t cs)) (hv:nth cs o=some v) (ht:Qe P ty') :
  Ev P n ⟨dst,.load ty' x,ty,pos,after,guard⟩ fr L v:=fun a w ha hw=>by
 have hc:w.cell? ⟨g,o,none⟩=some v:=by rw[Sf (hw _ (Eu hi)),<- Ahf];exact hv
 simp[execOp,ha.eval hx,Instr.loadAt,Instr.sureAddr,Ts ht _ v hc]
theorem Ew {x g o i t cs vs k ty'} (hx:evo fr x=some (.pointer (some ⟨g,o,none⟩))) (hi:nthE L i=some (.m g t cs)) (hv:Up cs o k=some vs) (ht:Nf P ty' k) :
  Ev P n ⟨dst,.load ty' x,ty,pos,after,guard⟩ fr L (.agg vs.toArray):=fun a w ha hw=>by
 obtain ⟨h1,h2⟩:=Zo hv
 have hc:∀ j v,vs[j]? = some v->w.cell? ((⟨g,o,none⟩:Addr).add j)=some v:=fun j v hj=>by
  rw[Addr.add_lit,Sf (hw _ (Eu hi))];exact h2 j v hj
 simp[execOp,ha.eval hx,Instr.loadAt,Instr.sureAddr,Xc ht _ vs h1 hc]

def Pt (K:List Ent) (b o:Nat) (ys:List Value):Prop:=∀ w,(∀ e∈K,Ent.ok w e)->∀ j u,ys[j]? = some u->w.cell? ⟨b,o+j,none⟩=some u
structure SubE (K L:List Ent):Prop where
 ok:∀ w:World,(∀ e∈L,Ent.ok w e)->∀ e∈K,Ent.ok w e
theorem SubE.of {K L:List Ent} (h:∀ e∈K,e∈L):SubE K L:=⟨fun _ hw e he=>hw e (h e he)⟩
theorem SubE.refl {L}:SubE L L:=⟨fun _ h=>h⟩
theorem SubE.cons {K L e} (h:SubE K L):SubE K (e::L):=⟨fun w hw=>h.ok w (fun x hx=>hw x (List.mem_cons_of_mem _ hx))⟩
theorem SubE.nth {L i e} (h:nthE L i=some e):SubE [e] L:=.of fun x hx=>by simp at hx;subst hx;exact Eu h

theorem Abw {x b o ys v K ty'} {d:Nat} (hx:evo fr x=some (.pointer (some ⟨b,o+d,none⟩))) (hp:Pt K b o ys) (hK:SubE K L) (hv:nth ys d=some v) (ht:Qe P ty') :
  Ev P n ⟨dst,.load ty' x,ty,pos,after,guard⟩ fr L v:=fun a w ha hw=>by
 have hc:w.cell? ⟨b,o+d,none⟩=some v:=hp w (hK.ok w hw) d v (by rw[<- Ahf];exact hv)
 simp[execOp,ha.eval hx,Instr.loadAt,Instr.sureAddr,Ts ht _ v hc]
theorem Dy {x b o ys v K ty'} (hx:evo fr x=some (.pointer (some ⟨b,o,none⟩))) (hp:Pt K b o ys) (hK:SubE K L) (hv:nth ys 0=some v) (ht:Qe P ty') :
  Ev P n ⟨dst,.load ty' x,ty,pos,after,guard⟩ fr L v:=Abw (d:=0) (by simpa using hx) hp hK hv ht
theorem Abx {x b o ys vs k K ty'} {d:Nat} (hx:evo fr x=some (.pointer (some ⟨b,o+d,none⟩))) (hp:Pt K b o ys) (hK:SubE K L) (hv:Up ys d k=some vs) (ht:Nf P ty' k) :
  Ev P n ⟨dst,.load ty' x,ty,pos,after,guard⟩ fr L (.agg vs.toArray):=fun a w ha hw=>by
 obtain ⟨h1,h2⟩:=Zo hv
 have hc:∀ j v,vs[j]? = some v->w.cell? ((⟨b,o+d,none⟩:Addr).add j)=some v:=fun j v hj=>by
  rw[Addr.add_lit,Nat.add_assoc];exact hp w (hK.ok w hw) _ v (h2 j v hj)
 simp[execOp,ha.eval hx,Instr.loadAt,Instr.sureAddr,Xc ht _ vs h1 hc]
theorem Sv {x b o ys vs k K ty'} (hx:evo fr x=some (.pointer (some ⟨b,o,none⟩))) (hp:Pt K b o ys) (hK:SubE K L) (hv:Up ys 0 k=some vs) (ht:Nf P ty' k) :
  Ev P n ⟨dst,.load ty' x,ty,pos,after,guard⟩ fr L (.agg vs.toArray):=Abx (d:=0) (by simpa using hx) hp hK hv ht

structure Sl {α:Type} (w:World) (A:Option Addr) (n c sz:Nat) (enc:α->List Value) (l:List α):Prop where
 len:l.length=n
 nc:n<=c
 cap:c<=maxLen
 esz:∀ x∈l,(enc x).length=sz
 at_:0 < n->∃ b o,A=some ⟨b,o,none⟩/\∀ i (h:i < l.length) j u,(enc l[i])[j]? = some u->w.cell? ⟨b,o+i*sz+j,none⟩=some u
structure Has {α:Type} (K:List Ent) (A:Option Addr) (n c sz:Nat) (enc:α->List Value) (l:List α):Prop where
 len:l.length=n
 nc:n<=c
 cap:c<=maxLen
 esz:∀ x∈l,(enc x).length=sz
 at_:0 < n->∃ b o,A=some ⟨b,o,none⟩/\∀ i (h:i < l.length),Pt K b (o+i*sz) (enc l[i])

theorem Sl.has {α:Type} {w:World} {A n c sz} {enc:α->List Value} {l:List α} (h:Sl w A n c sz enc l):Has [.old w] A n c sz enc l:=by
 refine ⟨h.len,h.nc,h.cap,h.esz,fun hn=>?_⟩
 obtain ⟨b,o,hA,hc⟩:=h.at_ hn
 refine ⟨b,o,hA,fun i hi w' hw' j u hu=>?_⟩
 have hb:Below w.heap.size w w':=(hw' (.old w) (by simp)).1
 have:=hc i hi j u hu
 rw[<- this]
 exact hb.cell (p:=⟨b,o+i*sz+j,none⟩) (World.block_lt_of_cell? _ _ this)
theorem Has.at {α:Type} {K L:List Ent} {w:World} {A n c sz} {enc:α->List Value} {l:List α} (h:Has K A n c sz enc l) (hK:SubE K L) (hw:Heap L w):Sl w A n c sz enc l:=by
 refine ⟨h.len,h.nc,h.cap,h.esz,fun hn=>?_⟩
 obtain ⟨b,o,hA,hc⟩:=h.at_ hn
 exact ⟨b,o,hA,fun i hi j u hu=>hc i hi w (hK.ok w hw.ok) j u hu⟩
theorem Has.up {α:Type} {K L:List Ent} {A n c sz} {enc:α->List Value} {l:List α} (h:Has K A n c sz enc l) (hK:SubE K L):Has L A n c sz enc l:=by
 refine ⟨h.len,h.nc,h.cap,h.esz,fun hn=>?_⟩
 obtain ⟨b,o,hA,hc⟩:=h.at_ hn
 exact ⟨b,o,hA,fun i hi w hw j u hu=>hc i hi w (hK.ok w hw) j u hu⟩
theorem Has.elem {α:Type} {K:List Ent} {A n c sz} {enc:α->List Value} {l:List α} (h:Has K A n c sz enc l) {i:Nat} (hi:i < l.length) :
  ∃ b o,A=some ⟨b,o,none⟩/\Pt K b (o+i*sz) (enc l[i]):=by
 obtain ⟨b,o,hA,hc⟩:=h.at_ (by have:=h.len;omega)
 exact ⟨b,o,hA,hc i hi⟩

theorem Fw {t e sz x ix A m c b o k i} {j:Nat} (hx:evo fr x=some (.slice A m c)) (hi:evo fr ix=some (.int k i)) (hA:A=some ⟨b,o,none⟩) (hj:i=(j:Int)) (hlt:j < m) (ht:Kh P t e sz) :
  Ev P n ⟨dst,.indexAddr t x ix,ty,pos,after,guard⟩ fr L (.pointer (some ⟨b,o+j*sz,none⟩)):=fun a w ha _=>by
 subst hA;subst hj
 simp[execOp,ha.eval hx,ha.eval hi,Instr.indexAt,asIntOf,run_underlying ht.1,hlt,ht.2 w,Addr.add_lit]
theorem Jq {t x A m c ty'} (hx:evo fr x=some (.slice A m c)) (e:TypeId) (ht:P.underlying t=some (.slice e)) :
  Ev P n ⟨dst,.call ⟨.builtin .len,#[x],#[t]⟩,ty',pos,after,guard⟩ fr L (.int .i64 (m:Int)):=fun a w ha _=>by
 simp[execOp,resolve,invoke,builtin,ha.eval hx,Builtin.len_,run_underlying ht,goInt]
theorem Ao1 {t x hi A m c e sz k2 j} {q:Nat} (hx:evo fr x=some (.slice A m c)) (hh:evo fr hi=some (.int k2 j)) (ht:Kh P t e sz)
  (hq:j=(q:Int)) (h2:q<=c) :
  Ev P n ⟨dst,.slice t x none (some hi) none,ty,pos,after,guard⟩ fr L (.slice A q c):=fun a w ha _=>by
 subst hq
 have:(if c=0 then A else A.map (·.add (0*sz)))=A:=by
  split
  ·rfl
  ·cases A <;> simp[Addr.add]
 simp[execOp,ha.eval hx,ha.eval hh,Instr.sliceAt,Instr.slice,run_underlying ht.1,Instr.sliceBounds,Instr.sliceBound,asIntOf,h2,ht.2 w,Addr.add]
theorem Ao2 {t x lo A m c e sz k1 i} {p:Nat} (hx:evo fr x=some (.slice A m c)) (hl:evo fr lo=some (.int k1 i)) (ht:Kh P t e sz)
  (hp:i=(p:Int)) (h1:p<=m) :
  Ev P n ⟨dst,.slice t x (some lo) none none,ty,pos,after,guard⟩ fr L (.slice (if c=p then A else A.map (·.add (p*sz))) (m-p) (c-p)):=fun a w ha _=>by
 subst hp
 simp[execOp,ha.eval hx,ha.eval hl,Instr.sliceAt,Instr.slice,run_underlying ht.1,Instr.sliceBounds,Instr.sliceBound,asIntOf,h1,ht.2 w]

theorem Ad2 {x i vs v} (hx:evo fr x=some (.tuple vs)) (hv:vs[i]? = some v):Ev P n ⟨dst,.extract x i,ty,pos,after,guard⟩ fr L v:=fun a w ha _=>by
 simp[execOp,ha.eval hx,Instr.extract,hv]

def evps (fr:List (Nat × Value)):List (Nat × Operand)->Option (List (Nat × Value))
 | []=>some []
 | (i,x)::r=>match evo fr x,evps fr r with
  | some v,some vs=>some ((i,v)::vs)
  | _,_=>none
theorem Fr.evalps {a} (h:Fr n fr a):∀ {xs vs},evps fr xs=some vs->xs.map (fun (i,x)=>(i,a.eval x))=vs:=by
 intro xs
 induction xs with
 | nil=>intro vs hv;simp[evps] at hv;subst hv;rfl
 | cons x r ih=>
  obtain ⟨i,x⟩:=x
  intro vs hv
  simp only[evps] at hv
  split at hv
  ·rename_i v vs' h1 h2
   injection hv with hv;subst hv
   simp[h.eval h1,ih h2]
  ·cases hv
def Gs (P:Program) (t:TypeId) (ps:List (Nat × Value)) (cs:List Value):Prop:=∀ w,(Instr.build t ps.toArray).run P w = .ok (.agg cs.toArray) w
theorem Js {t xs ps cs} (hx:evps fr xs=some ps) (hb:Gs P t ps cs):Ev P n ⟨dst,.build t xs.toArray,ty,pos,after,guard⟩ fr L (.agg cs.toArray):=fun a w ha _=>by
 have:=ha.evalps hx
 simp[execOp,this,hb w]

theorem Amz {x y k a b ts ty'} (hx:evo fr x=some (.int k a)) (hy:evo fr y=some (.int k b)) :
  Ev P n ⟨dst,.call ⟨.builtin .min,#[x,y],ts⟩,ty',pos,after,guard⟩ fr L (.int k (min a b)):=fun ac w ha _=>by
 have e:(if b < a then b else a)=min a b:=by rw[Int.min_def];split <;> split <;> omega
 simp[execOp,resolve,invoke,builtin,ha.eval hx,ha.eval hy,Builtin.min_,Builtin.min2,e]
theorem Am0 {x y k a b ts ty'} (hx:evo fr x=some (.int k a)) (hy:evo fr y=some (.int k b)) :
  Ev P n ⟨dst,.call ⟨.builtin .max,#[x,y],ts⟩,ty',pos,after,guard⟩ fr L (.int k (max a b)):=fun ac w ha _=>by
 have e:(if b > a then b else a)=max a b:=by rw[Int.max_def];split <;> split <;> omega
 simp[execOp,resolve,invoke,builtin,ha.eval hx,ha.eval hy,Builtin.max_,Builtin.max2,e]
theorem Adk {src dt x k k' v} (hx:evo fr x=some (.int k v)) (hs:(P.underlying src).isSome=true) (hd:P.underlying dt=some (.int k')) :
  Ev P n ⟨dst,.convert src dt x,ty,pos,after,guard⟩ fr L (.int k' (k'.wrap v)):=fun ac w ha _=>by
 obtain ⟨d,hs⟩:=Option.isSome_iff_exists.1 hs
 simp[execOp,ha.eval hx,convert,run_underlying hs,run_underlying hd,Conv.intToInt]
end
end Go.Proofs.YtjfndjmabhbicaaGreat
