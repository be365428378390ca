/- No run takes back a draw. -/
import Derived.Below
import Derived.Control
import Derived.WalkKit
import Derived.Deep.LoopGhost
import Derived.Maps.AppendAt
namespace Go.Proofs.YtoojmkhjdjianaaGreat
open Go
def Aey {ε α:Type} (Φ:α->Prop):Except ε α->Prop
 | .ok a=>Φ a
 | .error _=>True
theorem Aey.bind {ε α β:Type} {Φ:β->Prop} {e:Except ε α} {f:α->Except ε β} (h:∀ a,Aey Φ (f a)):Aey Φ (e >>= f):=by
 cases e with
 | ok a=>exact h a
 | error e=>exact trivial
theorem Abv (p:Program) (w:World) (a:Addr) (u:TypeId) (k:Addr) (v:Value) (b:Bool):Aey (fun r=>r.1.drawn=w.drawn) (w.viewStore p a u k v b):=by
 unfold World.viewStore
 repeat' (first | exact rfl | exact trivial | (refine Aey.bind fun _=>?_) | split)
theorem Acg (p:Program) (w:World) (a:Addr) (v:Value) (b:Bool):Aey (fun r=>r.1.drawn=w.drawn) (w.farStore p a v b):=by
 unfold World.farStore
 split
 ·have:=Abv p w ‹_› ‹_› a v b
  split
  ·rename_i h;rw [h] at this;exact this
  ·exact trivial
 ·exact trivial
theorem Aag {α:Type}:∀ (q:Ask α) (w:World),w.drawn<=(w.ask q).2.drawn
 | .done _,w=>Nat.le_refl _
 | .ask what range k,w=>by
  unfold World.ask
  dsimp only
  split
  ·exact Aag (k 0) w
  ·exact Nat.le_trans (Nat.le_succ _) (Aag (k _) { w with drawn:=w.drawn+1 })
theorem Aly (w:World) (c:Sys):w.drawn<=(w.sys c).2.drawn:=by
 unfold World.sys
 have:=Aag (Kernel.perform c w.os) w
 split
 ·exact Nat.le_refl _
 ·rename_i h;rw [h] at this;exact this
def Ag8 {α:Type} (n:Nat):Result α->Prop
 | .ok _ w=>n<=w.drawn
 | .halt _ w=>n<=w.drawn
theorem Ag8.mono {α:Type} {n m:Nat} {r:Result α} (h:Ag8 m r) (hn:n<=m):Ag8 n r:=by
 cases r <;> exact Nat.le_trans hn h
theorem Fo {α:Type} (P:Program):∀ (s:Sem α) (w:World),Ag8 w.drawn (s.run P w)
 | .pure a,w=>Nat.le_refl _
 | .load m a k,w=>by
  unfold Sem.run
  split
  ·exact Fo P (k _) w
  ·split
   ·exact Fo P (k _) w
   ·exact Nat.le_refl _
 | .store m a v k,w=>by
  have key:Ag8 w.drawn (match w.cell? a with
   | some _ => if w.frozen? a then Result.halt (.unsupported (.unsafePointer "a write to bytes that a string shares")) w else k.run P (w.setCell a v)
   | none=>match w.farStore P a v (m == .atomic) with
    | .ok (w,_)=>k.run P w
    | .error h=>.halt h w):=by
   split
   ·split
    ·exact Nat.le_refl _
    ·exact Fo P k (w.setCell a v)
   ·have:=Acg P w a v (m == .atomic)
    split
    ·rename_i h
     rw [h] at this
     exact (Fo P k _).mono (Nat.le_of_eq this.symm)
    ·exact Nat.le_refl _
  cases v with
  | agg _=>exact Nat.le_refl _
  | tuple _=>exact Nat.le_refl _
  | _=>exact key
 | .new o k,w=>by unfold Sem.run;exact Fo P (k _) { w with heap:=w.heap.push o }
 | .shape r k,w=>by unfold Sem.run;exact Fo P (k _) w
 | .freeze a n k,w=>by
  unfold Sem.run
  refine (Fo P k (w.freeze a n)).mono ?_
  unfold World.freeze;split <;> exact Nat.le_refl _
 | .frozen a k,w=>by unfold Sem.run;exact Fo P (k _) w
 | .getObj r k,w=>by
  unfold Sem.run
  split
  ·exact Nat.le_refl _
  ·exact Fo P (k _) w
  ·exact Nat.le_refl _
 | .setObj r o k,w=>by
  unfold Sem.run
  split
  ·exact Nat.le_refl _
  ·exact Fo P k { w with heap:=w.heap.setIfInBounds r o }
  ·exact Nat.le_refl _
 | .choose q k,w=>by
  unfold Sem.run
  split
  ·exact Fo P (k _) w
  ·exact (Fo P (k _) { w with drawn:=w.drawn+1 }).mono (Nat.le_succ _)
 | .sys c k,w=>by unfold Sem.run;exact (Fo P (k _) _).mono (Aly w c)
 | .program k,w=>by unfold Sem.run;exact Fo P (k _) w
 | .mark _ k,w=>by unfold Sem.run;exact Fo P k w
 | .halt h,w=>Nat.le_refl _
theorem Aah {α:Type} {P:Program} {s:Sem α} {w w':World} {v:α} (h:s.run P w = .ok v w'):w.drawn<=w'.drawn:=by
 have:=Fo P s w
 rw [h] at this
 exact this
end Go.Proofs.YtoojmkhjdjianaaGreat
namespace Go.Proofs.YtoojmkhjdjianaaGreat
open Go Go.RowKit

def look:List (Nat × Value)->Nat->Option Value
 | [],_=>none
 | (k,v)::r,t=>bif Nat.beq k t then some v else look r t

structure Fr (n:Nat) (fr:List (Nat × Value)) (a:Act):Prop where
 nod:a.defers=[]
 size:a.tmps.size=n
 val:∀ t v,look fr t=some v->a.tmps.getD t undef=v

def evo (fr:List (Nat × Value)):Operand->Option Value
 | .tmp t=>look fr t
 | .const v=>some v
 | .global g=>some (.pointer (some ⟨g,0,none⟩))
 | .func f=>some (.func (.func f) #[] #[])

def evos (fr:List (Nat × Value)):List Operand->Option (List Value)
 | []=>some []
 | x::r=>match evo fr x,evos fr r with
  | some v,some vs=>some (v::vs)
  | _,_=>none

theorem Fr.eval {n fr a} (h:Fr n fr a) {x v} (hx:evo fr x=some v):a.eval x=v:=by
 cases x with
 | tmp t=>exact h.val t v hx
 | const c=>simp only [evo,Option.some.injEq] at hx;simpa only [Act.eval] using hx
 | global g=>simp only [evo,Option.some.injEq] at hx;simpa only [Act.eval] using hx
 | func f=>simp only [evo,Option.some.injEq] at hx;simpa only [Act.eval] using hx

theorem Fr.evals {n fr a} (h:Fr n fr a):∀ {xs vs},evos fr xs=some vs->xs.map a.eval=vs:=by
 intro xs
 induction xs with
 | nil=>intro vs hv;simp [evos] at hv;subst hv;rfl
 | cons x r ih =>
  intro vs hv
  simp only [evos] at hv
  split at hv
  ·rename_i v vs' h1 h2
   injection hv with hv;subst hv
   simp [h.eval h1,ih h2]
  ·cases hv

theorem Fr.put {n fr a d v} (h:Fr n fr a) (hd:Nat.blt d n=true):Fr n ((d,v)::fr) (a.put (some d) v):=by
 have hd':d < n:=(Nat.blt_eq ▸ hd)
 refine ⟨h.nod,by simp [Act.put,h.size],fun t u hu=>?_⟩
 simp only [look] at hu
 cases hb:Nat.beq d t with
 | true =>
  rw [hb] at hu
  have e:d=t:=Nat.eq_of_beq_eq_true hb
  subst e
  simp only [cond_true,Option.some.injEq] at hu
  subst hu
  simp [Act.put,h.size,hd']
 | false =>
  rw [hb] at hu
  have e:d≠t:=Nat.ne_of_beq_eq_false hb
  have:=h.val t u hu
  simp only [Act.put]
  rw [<- this]
  simp [Array.getElem?_setIfInBounds_ne e]

structure SubF (fr' fr:List (Nat × Value)):Prop where
 get:∀ t v,look fr' t=some v->look fr t=some v
theorem SubF.nil {fr}:SubF [] fr:=⟨fun _ _ h=>by simp [look] at h⟩
theorem SubF.refl {fr}:SubF fr fr:=⟨fun _ _ h=>h⟩
theorem SubF.cons {t v fr' fr} (h:look fr t=some v) (h':SubF fr' fr):SubF ((t,v)::fr') fr:=by
 refine ⟨fun s u hu=>?_⟩
 simp only [look] at hu
 cases hb:Nat.beq t s with
 | true =>
  rw [hb] at hu
  simp only [cond_true,Option.some.injEq] at hu
  subst hu
  rw [<- Nat.eq_of_beq_eq_true hb];exact h
 | false=>rw [hb] at hu;exact h'.get s u hu
theorem Fr.sub {n fr fr' a} (h:Fr n fr a) (hs:SubF fr' fr):Fr n fr' a:=⟨h.nod,h.size,fun t v hv=>h.val t v (hs.get t v hv)⟩

inductive Ent where
 | old (w0:World)
 | m (g:Nat) (t:TypeId) (cs:List Value)
 | r (A:Option Addr) (n c:Nat) (t:TypeId) (sz:Nat) (xs:List Value)
 | f (S:List Nat) (φ:World->Prop)

def Ent.ok (w:World):Ent->Prop
 | .old w0=>Below w0.heap.size w0 w/\w0.drawn<=w.drawn
 | .m g t cs=>w.heap[g]? = some (.cells cs.toArray t (0,0))
 | .r A n c t sz xs=>w.ownsRow 0 t sz (.slice A n c) n xs
 | .f S φ=>(∀ g∈S,g < w.heap.size)/\φ w/\∀ w1 w2:World,φ w1->(∀ g∈S,w2.heap[g]? = w1.heap[g]?)->φ w2

def Ent.blk:Ent->Option Nat
 | .old _=>none
 | .m g _ _=>some g
 | .r A n c _ _ _=>(Value.slice A n c).ownBlock
 | .f _ _=>none
def Ent.own:Ent->Nat->Prop
 | .old _,_=>False
 | .m g _ _,k=>g=k
 | .r (some a) _ _ _ _ _,k=>a.block=k
 | .r none _ _ _ _ _,_=>False
 | .f S _,k=>k∈S
theorem Ent.own_r {A n c t sz xs k}:(Ent.r A n c t sz xs).own k↔(Value.slice A n c).ownBlock=some k:=by
 cases A <;> simp [Ent.own,Value.ownBlock]

def Ent.lo:Ent->Nat
 | .old w0=>w0.heap.size
 | _=>0

def Ent.low:Ent->Nat
 | .old _=>1
 | _=>0
theorem Ent.low_lo {e:Ent} (h:e.low=0):e.lo=0:=by
 cases e with
 | old w0=>simp [Ent.low] at h
 | _=>rfl

def Ent.sep (e e':Ent):Prop :=
 (∀ g,e.own g->e'.lo<=g/\¬ e'.own g)/\(∀ g,e'.own g->e.lo<=g/\¬ e.own g)

theorem Ent.sep.symm {e e':Ent} (h:e.sep e'):e'.sep e:=⟨h.2,h.1⟩

structure Heap (L:List Ent) (w:World):Prop where
 ok:∀ e∈L,e.ok w
 sep:L.Pairwise Ent.sep

def Ext (w w':World):Prop:=Below w.heap.size w w'/\w.drawn<=w'.drawn
theorem Ext.refl (w:World):Ext w w:=⟨Below.refl _ _,Nat.le_refl _⟩
theorem Ext.trans {a b c:World} (h:Ext a b) (k:Ext b c):Ext a c:=⟨Below.trans h.1 (Below.mono k.1 h.1.size),Nat.le_trans h.2 k.2⟩

theorem Eo {w:World} {g:Nat} {o:Obj} (h:w.heap[g]? = some o):g < w.heap.size:=by
 rcases Nat.lt_or_ge g w.heap.size with hlt | hge
 ·exact hlt
 ·rw [Array.getElem?_eq_none hge] at h;cases h

theorem Ent.lt {e:Ent} {w:World} (h:Ent.ok w e) {g:Nat} (hg:e.own g):g < w.heap.size:=by
 cases e with
 | old w0=>cases hg
 | m g' t cs=>have hg:g'=g:=hg;subst hg;exact Eo h
 | r A n c t sz xs =>
  rw [Ent.own_r] at hg
  obtain ⟨_,h2⟩:=h
  rcases h2 with ⟨hv,_⟩ | ⟨g',cap,cur,hv,_,hh,_⟩
  ·rw [hv] at hg;simp [Value.ownBlock] at hg
  ·rw [hv] at hg;simp [Value.ownBlock] at hg;subst hg;exact Eo hh
 | f S φ=>exact h.1 g hg

theorem Ent.keep {e:Ent} {w w':World} {row:Option Nat} (h:Ent.ok w e) (hg:w.grownBy w' row) (hr:∀ g,row=some g->e.lo<=g/\¬ e.own g) (hlo:e.lo<=w.heap.size) (hd:w.drawn<=w'.drawn):Ent.ok w' e:=by
 cases e with
 | old w0 =>
  refine ⟨Below.trans h.1 ⟨hg.os,hg.tape,hg.output,hg.size,fun k hk=>hg.block k ?_ ?_⟩,Nat.le_trans h.2 hd⟩
  ·exact Nat.lt_of_lt_of_le hk hlo
  ·intro he
   have:=(hr k he.symm).1
   simp only [Ent.lo] at this
   omega
 | m g t cs =>
  have hlt:=Eo (show w.heap[g]? = some _ from h)
  exact (hg.block g hlt (fun he=>(hr g he.symm).2 rfl)).trans h
 | r A n c t sz xs =>
  obtain ⟨h1,h2⟩:=h
  refine ⟨h1,?_⟩
  rcases h2 with h2 | ⟨g,cap,cur,hv,hb,hh,rest⟩
  ·exact .inl h2
  ·refine .inr ⟨g,cap,cur,hv,hb,?_,rest⟩
   refine (hg.block g (Eo hh) (fun he=>(hr g he.symm).2 ?_)).trans hh
   rw [Ent.own_r,hv];rfl
 | f S φ =>
  obtain ⟨h1,h2,h3⟩:=h
  exact ⟨fun g hgs=>Nat.lt_of_lt_of_le (h1 g hgs) hg.size,h3 w w' h2 (fun g hgs=>hg.block g (h1 g hgs) (fun he=>(hr g he.symm).2 hgs)),h3⟩

theorem Ent.lo_le {e:Ent} {w:World} (h:Ent.ok w e):e.lo<=w.heap.size:=by
 cases e with
 | old w0=>exact h.1.size
 | _=>exact Nat.zero_le _

theorem Ext.grown {w w':World} (h:Ext w w'):w.grownBy w' none:=⟨h.1.os,h.1.tape,h.1.output,h.1.size,fun k hk _=>h.1.block k hk⟩
theorem Ent.ext {e:Ent} {w w':World} (h:Ent.ok w e) (hx:Ext w w'):Ent.ok w' e:=Ent.keep h hx.grown (fun _ he=>by cases he) (Ent.lo_le h) hx.2

def nthE:List Ent->Nat->Option Ent
 | [],_=>none
 | e::_,0=>some e
 | _::r,i+1=>nthE r i
theorem Eh:∀ {L:List Ent} {i e},nthE L i=some e->e∈L
 | [],_,_,h=>by simp [nthE] at h
 | e::r,0,e',h=>by simp [nthE] at h;subst h;exact List.mem_cons_self
 | e::r,i+1,e',h=>List.mem_cons_of_mem _ (Eh (by simpa [nthE] using h))

inductive SetE:List Ent->Nat->Ent->Ent->List Ent->Prop
 | here {e e' L}:SetE (e::L) 0 e e' (e' :: L)
 | there {x L i e e' L'}:SetE L i e e' L'->SetE (x::L) (i+1) e e' (x::L')

theorem SetE.mem {L i e e' L'} (h:SetE L i e e' L'):e∈L:=by
 induction h with
 | here=>exact List.mem_cons_self
 | there _ ih=>exact List.mem_cons_of_mem _ ih

theorem Heap.turnO {e e':Ent} {w w':World} {row:Option Nat} (hg:w.grownBy w' row) (hrow:∀ g,row=some g->e.own g) (hok:Ent.ok w' e')
  (hlo:e'.lo<=e.lo) (hb:∀ g,e'.own g->e.own g\/w.heap.size<=g) {L i L'} (hs:SetE L i e e' L') (h:Heap L w) (hd:w.drawn<=w'.drawn:=by first | exact Nat.le_refl _ | exact Aah (by assumption)):Heap L' w':=by
 have two:∀ y:Ent,y.sep e->Ent.ok w y->y.sep e'/\Ent.ok w' y:=by
  intro y hy hyo
  refine ⟨⟨fun g hgb=>?_,fun g hgb=>?_⟩,Ent.keep hyo hg (fun g he=>hy.2 g (hrow g he)) (Ent.lo_le hyo) hd⟩
  ·have h1:=hy.1 g hgb
   refine ⟨Nat.le_trans hlo h1.1,fun he=>?_⟩
   rcases hb g he with h2 | h2
   ·exact h1.2 h2
   ·have:=Ent.lt hyo hgb;omega
  ·rcases hb g hgb with h2 | h2
   ·exact hy.2 g h2
   ·exact ⟨by have:=Ent.lo_le hyo;omega,fun he=>by have:=Ent.lt hyo he;omega⟩
 have key:(∀ x∈L',Ent.ok w' x)/\L'.Pairwise Ent.sep/\(∀ y,(∀ x∈L,y.sep x)->Ent.ok w y->(∀ x∈L',y.sep x)/\Ent.ok w' y):=by
  obtain ⟨hok',hsep⟩:=h
  clear hlo hb
  induction hs with
  | @here e e' L =>
   rw [List.pairwise_cons] at hsep
   refine ⟨fun x hx=>?_,?_,fun y hy hyo=>?_⟩
   ·rcases List.mem_cons.1 hx with rfl | hx
    ·exact hok
    ·exact (two x (hsep.1 x hx).symm (hok' x (List.mem_cons_of_mem _ hx))).2
   ·rw [List.pairwise_cons]
    exact ⟨fun x hx=>(two x (hsep.1 x hx).symm (hok' x (List.mem_cons_of_mem _ hx))).1.symm,hsep.2⟩
   ·obtain ⟨h1,h2⟩:=two y (hy e List.mem_cons_self) hyo
    refine ⟨fun x hx=>?_,h2⟩
    rcases List.mem_cons.1 hx with rfl | hx
    ·exact h1
    ·exact hy x (List.mem_cons_of_mem _ hx)
  | @there z L i e₀ e₁ L' hs ih =>
   rw [List.pairwise_cons] at hsep
   obtain ⟨i1,i2,i3⟩:=ih hrow hok two (fun x hx=>hok' x (List.mem_cons_of_mem _ hx)) hsep.2
   obtain ⟨z1,z2⟩:=i3 z hsep.1 (hok' z List.mem_cons_self)
   refine ⟨fun x hx=>?_,?_,fun y hy hyo=>?_⟩
   ·rcases List.mem_cons.1 hx with rfl | hx
    ·exact z2
    ·exact i1 x hx
   ·rw [List.pairwise_cons];exact ⟨z1,i2⟩
   ·obtain ⟨y1,y2⟩:=i3 y (fun x hx=>hy x (List.mem_cons_of_mem _ hx)) hyo
    refine ⟨fun x hx=>?_,y2⟩
    rcases List.mem_cons.1 hx with rfl | hx
    ·exact hy _ List.mem_cons_self
    ·exact y1 x hx
 exact ⟨key.1,key.2.1⟩

theorem Heap.turn {e e':Ent} {w w':World} (hg:w.grownBy w' e.blk) (hok:Ent.ok w' e')
  (hlo:e'.lo<=e.lo) (hb:∀ g,e'.blk=some g->e.blk=some g\/w.heap.size<=g) {L i L'} (hs:SetE L i e e' L') (h:Heap L w)
  (h1:∀ g,e.blk=some g↔e.own g:=by intro g;first | exact Ent.own_r.symm | (simp [Ent.blk,Ent.own,Value.ownBlock];done)) (h2:∀ g,e'.blk=some g↔e'.own g:=by intro g;first | exact Ent.own_r.symm | (simp [Ent.blk,Ent.own,Value.ownBlock];done)) (hd:w.drawn<=w'.drawn:=by first | exact Nat.le_refl _ | exact Aah (by assumption)):Heap L' w' :=
 Heap.turnO hg (fun g hr=>(h1 g).1 hr) hok hlo (fun g hr=>by rcases hb g ((h2 g).2 hr) with h | h;exact .inl ((h1 g).1 h);exact .inr h) hs h hd
theorem Heap.ext {L w w'} (h:Heap L w) (hx:Ext w w'):Heap L w':=⟨fun e he=>Ent.ext (h.ok e he) hx,h.sep⟩

theorem Heap.join {L Ln w w'} (h:Heap L w) (hl:∀ e∈Ln,e.low=0) (hn:Heap (Ln++[.old w]) w'):Heap (Ln++L) w':=by
 replace hl:∀ e∈Ln,e.lo=0:=fun e he=>Ent.low_lo (hl e he)
 have hold:Ext w w':=hn.ok (.old w) (by simp)
 refine ⟨fun e he=>?_,?_⟩
 ·rcases List.mem_append.1 he with he | he
  ·exact hn.ok e (by simp [he])
  ·exact Ent.ext (h.ok e he) hold
 ·rw [List.pairwise_append]
  have hp:=hn.sep
  rw [List.pairwise_append] at hp
  refine ⟨hp.1,h.sep,fun a ha b hb=>?_⟩
  have hs:=hp.2.2 a ha (.old w) (by simp)
  refine ⟨fun g hg=>?_,fun g hg=>?_⟩
  ·have:=(hs.1 g hg).1
   simp only [Ent.lo] at this
   refine ⟨Nat.le_trans (Ent.lo_le (h.ok b hb)) this,fun he=>?_⟩
   have:=Ent.lt (h.ok b hb) he
   omega
  ·have hlt:=Ent.lt (h.ok b hb) hg
   refine ⟨by rw [hl a ha];exact Nat.zero_le _,fun he=>?_⟩
   have:=(hs.1 g he).1
   simp only [Ent.lo] at this
   omega

theorem Heap.old (w:World):Heap [.old w] w:=⟨fun e he=>by simp at he;subst he;exact ⟨Below.refl _ _,Nat.le_refl _⟩,by simp⟩

theorem Heap.alloc {L w} (h:Heap L w) (t:TypeId) (cs:List Value):Heap (.m w.heap.size t cs::L) (w.alloc (.cells cs.toArray t)):=by
 have hx:Ext w (w.alloc (.cells cs.toArray t)):=⟨(Below.refl _ _).alloc (Nat.le_refl _) _,Nat.le_refl _⟩
 refine ⟨fun e he=>?_,?_⟩
 ·rcases List.mem_cons.1 he with rfl | he
  ·exact heap_alloc_new w _
  ·exact Ent.ext (h.ok e he) hx
 ·rw [List.pairwise_cons]
  refine ⟨fun x hx=>⟨fun g hg=>?_,fun g hg=>⟨Nat.zero_le _,fun he=>?_⟩⟩,h.sep⟩
  ·have hg:w.heap.size=g:=hg
   subst hg
   exact ⟨Ent.lo_le (h.ok x hx),fun he=>by have:=Ent.lt (h.ok x hx) he;omega⟩
  ·have he:w.heap.size=g:=he
   have:=Ent.lt (h.ok x hx) hg
   omega

inductive HSub:List Ent->List Ent->Prop
 | refl {L}:HSub L L
 | keep {e L L'}:HSub L L'->HSub (e::L) (e::L')
 | drop {e L L'}:HSub L L'->HSub (e::L) L'
theorem HSub.sublist {L L'} (h:HSub L L'):L'.Sublist L:=by
 induction h with
 | refl=>exact List.Sublist.refl _
 | keep _ ih=>exact ih.cons_cons _
 | drop _ ih=>exact ih.cons _
theorem Heap.sub {L L' w} (h:Heap L w) (hs:HSub L L'):Heap L' w:=⟨fun e he=>h.ok e (hs.sublist.mem he),h.sep.sublist hs.sublist⟩
theorem Heap.perm {L L' w} (h:Heap L w) (hs:L.Perm L'):Heap L' w:=⟨fun e he=>h.ok e (hs.mem_iff.2 he),h.sep.perm hs (fun h=>h.symm)⟩

def T (n:Nat) (N:Act->World->Prop) (fr:List (Nat × Value)) (L:List Ent):Prop:=∀ a w,Fr n fr a->Heap L w->N a w

def Ev (P:Program) (n:Nat) (o:Oper) (fr:List (Nat × Value)) (L:List Ent) (v:Value):Prop :=
 ∀ a w,Fr n fr a->(∀ e∈L,Ent.ok w e)->(execOp a.eval o).run P w = .ok (.value v) w

section rules
variable {P:Program} {n:Nat} {ops:Array Oper} {Q:Exit->Act->World->Prop} {fr:List (Nat × Value)} {L:List Ent} {rest:List Oper} {o:Oper}
variable {d:Nat} {op:Op} {ty:TypeId} {pos:String} {after:Array Edge}

theorem Aw {v:Value} (h:Ev P n ⟨some d,op,ty,pos,after,none⟩ fr L v) (hd:Nat.blt d n=true) (k:T n (wpList P ops Q rest) ((d,v)::fr) L) :
  T n (wpList P ops Q (⟨some d,op,ty,pos,after,none⟩ :: rest)) fr L:=by
 intro a w ha hw
 refine wpList_plain rfl (fun K hK=>?_)
 simp only [Oper.wp,h a w ha hw.ok,Oper.upon_value]
 exact hK _ _ (k _ _ (ha.put hd) hw)

theorem Mg {j s:Nat} {b b':Bool} {a:Act} (hj:(ops[j]?).bind (·.dst)=some s) (ha:Fr n fr a) (hs:look fr s=some (.bool b')) (hsn:Nat.blt s n=true) :
  Region.wanted ⟨some d,op,ty,pos,after,some (j,b)⟩ (yielded ops a.tmps)=(b' == b):=by
 have hv:=ha.val s _ hs
 have hlt:s < a.tmps.size:=by rw [ha.size];exact (Nat.blt_eq ▸ hsn)
 have hg:a.tmps[s]? = some (.bool b'):=by
  rw [Array.getD_eq_getD_getElem?,Array.getElem?_eq_getElem hlt] at hv
  rw [Array.getElem?_eq_getElem hlt]
  simpa using hv
 have hy:yielded ops a.tmps j=some b':=by
  unfold yielded
  rw [hj]
  simp [hg]
 simp only [Region.wanted,hy]
 cases b' <;> cases b <;> rfl

theorem Qt {j s:Nat} {b:Bool} {v:Value} (hj:(ops[j]?).bind (·.dst)=some s) (hs:look fr s=some (.bool b)) (hsn:Nat.blt s n=true)
  (h:Ev P n ⟨some d,op,ty,pos,after,some (j,b)⟩ fr L v) (hd:Nat.blt d n=true) (k:T n (wpList P ops Q rest) ((d,v)::fr) L) :
  T n (wpList P ops Q (⟨some d,op,ty,pos,after,some (j,b)⟩ :: rest)) fr L:=by
 intro a w ha hw
 refine wpList_step (fun K hK=>?_)
 rw [if_pos (by rw [Mg hj ha hs hsn];simp)]
 simp only [Oper.wp,h a w ha hw.ok,Oper.upon_value]
 exact hK _ _ (k _ _ (ha.put hd) hw)

theorem Aj8 {j s:Nat} {b b':Bool} (hj:(ops[j]?).bind (·.dst)=some s) (hs:look fr s=some (.bool b')) (hsn:Nat.blt s n=true) (hne:(b' == b)=false)
  (hd:Nat.blt d n=true) (k:T n (wpList P ops Q rest) ((d,undef)::fr) L) :
  T n (wpList P ops Q (⟨some d,op,ty,pos,after,some (j,b)⟩ :: rest)) fr L:=by
 intro a w ha hw
 refine wpList_step (fun K hK=>?_)
 rw [if_neg (by rw [Mg hj ha hs hsn,hne];simp)]
 exact hK _ _ (k _ _ (ha.put hd) hw)

theorem Atj (k:T n (Q .normal) fr L):T n (wpList P ops Q []) fr L:=k

theorem Atk {id:Nat} {l:List Oper} (k:T n (wpList P l.toArray Q l) fr L):T n ((Code.region id l.toArray false).wp P Q) fr L :=
 fun a w ha hw=>wp_region_lit (k a w ha hw)
theorem Ck {x y:Code} (k:T n (x.wp P (Exit.then (y.wp P Q) Q)) fr L):T n ((Code.seq x y).wp P Q) fr L:=fun a w ha hw=>wp_seq (k a w ha hw)
theorem Ant {y:Code} {Q':Exit->Act->World->Prop} (k:T n (y.wp P Q) fr L):T n (Exit.then (y.wp P Q) Q' .normal) fr L:=k
theorem Aj9 {id:Nat} {c:Code} (k:T n (c.wp P (Exit.inBlock id Q)) fr L):T n ((Code.block id c).wp P Q) fr L:=fun a w ha hw=>wp_block (k a w ha hw)
theorem Anu {id:Nat} (k:T n (Q (.exit id)) fr L):T n ((Code.exit id).wp P Q) fr L:=fun a w ha hw=>wp_exit (k a w ha hw)
theorem Anv (k:T n (Q .normal) fr L):T n (Code.skip.wp P Q) fr L:=fun a w ha hw=>wp_skip (k a w ha hw)
theorem Anw (k:T n (Q .ret) fr L):T n (Code.ret.wp P Q) fr L:=fun a w ha hw=>wp_ret (k a w ha hw)
theorem Anx {id:Nat} (k:T n (Q .normal) fr L):T n (Exit.inBlock id Q (.exit id)) fr L:=fun a w ha hw=>by simpa [Exit.inBlock] using k a w ha hw
theorem At7 {id id':Nat} (hne:Nat.beq id' id=false) (k:T n (Q (.exit id')) fr L):T n (Exit.inBlock id Q (.exit id')) fr L:=fun a w ha hw=>by
 have:id'≠id:=Nat.ne_of_beq_eq_false hne
 simpa [Exit.inBlock,this] using k a w ha hw

theorem Anz {c:Operand} {x y:Code} {b:Bool} (hc:evo fr c=some (.bool b)) (ht:b=true->T n (x.wp P Q) fr L) (hf:b=false->T n (y.wp P Q) fr L) :
  T n ((Code.cond c x y).wp P Q) fr L:=by
 intro a w ha hw
 exact wp_cond_split (ha.eval hc) (fun h=>ht h a w ha hw) (fun h=>hf h a w ha hw)
theorem Aka {c:Operand} {x y:Code} (hc:evo fr c=some (.bool true)) (ht:T n (x.wp P Q) fr L):T n ((Code.cond c x y).wp P Q) fr L :=
 Anz hc (fun _=>ht) (fun h=>by cases h)
theorem Akb {c:Operand} {x y:Code} (hc:evo fr c=some (.bool false)) (hf:T n (y.wp P Q) fr L):T n ((Code.cond c x y).wp P Q) fr L :=
 Anz hc (fun h=>by cases h) (fun _=>hf)

theorem An0 {σ:Type} (I:σ->List (Nat × Value)) (H:σ->List Ent) (C:σ->Prop) (μ:σ->Nat) (s0:σ) (hC:C s0) (hF:SubF (I s0) fr) (hH:HSub L (H s0)) {c:Code}
  (body:∀ s,C s->T n (c.wp P (Exit.then (fun a' w'=>∃ s',C s'/\μ s' < μ s/\Fr n (I s') a'/\Heap (H s') w') Q)) (I s) (H s)) :
  T n ((Code.loop c).wp P Q) fr L:=by
 intro a w ha hw
 refine wp_loop_ghost (fun m a w=>∃ s,C s/\μ s=m/\Fr n (I s) a/\Heap (H s) w) (μ s0) ⟨s0,hC,rfl,ha.sub hF,hw.sub hH⟩ ?_
 rintro m a w ⟨s,hs,rfl,hfr,hh⟩
 refine wp_mono (body s hs a w hfr hh) ?_
 intro e a' w' hq
 cases e with
 | normal=>obtain ⟨s',h1,h2,h3,h4⟩:=hq;exact ⟨μ s',h2,s',h1,rfl,h3,h4⟩
 | _=>exact hq
end rules
end Go.Proofs.YtoojmkhjdjianaaGreat
