import Derived.Below
import Derived.Control
import Derived.WalkKit
import Derived.Deep.LoopGhost
import Derived.Maps.AppendAt
namespace Go.Proofs.YtlejkgngmjchdaaGreat
open Go
theorem gM{α:Type _}{l:List α}{n:Nat}(h:n<l.length):l[n]∈l:=List.getElem_mem h
theorem mS{α:Type _}{a:α}{l:List α}:a∈a::l:=List.mem_cons_self
theorem mO{α:Type _}{a:α}{l:List α}(y:α)(h:a∈l):a∈y::l:=List.mem_cons_of_mem y h
theorem nL(n:Nat):n<=n:=Nat.le_refl n
theorem dF{p:Prop}[h:Decidable p](hp:¬p):decide p=false:=decide_eq_false hp
theorem dT{p:Prop}[h:Decidable p](hp:p):decide p=true:=decide_eq_true hp
theorem dQ{p:Prop}[Decidable p]:(decide p=true)=p:=decide_eq_true_eq
theorem oI{α:Type _}{a b:α}(h:some a=some b):a=b:=Option.some.inj h
theorem gE{α:Type _}{l:List α}{i:Nat}(h:i<l.length):l[i]?=some l[i]:=List.getElem?_eq_getElem h
theorem iN{c:Prop}{h:Decidable c}(hc:¬c){α:Sort _}{t e:α}:ite c t e=e:=if_neg hc
theorem iP{c:Prop}{h:Decidable c}(hc:c){α:Sort _}{t e:α}:ite c t e=t:=if_pos hc
theorem aS{p:Prop}(h:p:=by with_reducible assumption):p:=h
theorem iI{p:Prop}(h:p:=by exact inferInstance):p:=h
theorem sV{p q:Prop}(h:p)(k:p->q:=by intro h;simpa using h):q:=k h
abbrev OA:=Option Addr
abbrev lF:=List (Nat×Value)
abbrev LL:=List (List Nat)
abbrev LV:=List Value
abbrev LI:=List Int
abbrev LM:=List Nat
abbrev ON:=Option (Nat×Bool)
abbrev AE:=Array Edge
abbrev AW:=Act->World->Prop
def Aiu{ε α:Type}(Φ:α->Prop):Except ε α->Prop
 |.ok a=>Φ a
 |.error _=>True
theorem Aiu.bind{ε α β:Type}{Φ:β->Prop}{e:Except ε α}{f:α->Except ε β}(h:∀a,Aiu Φ (f a)):Aiu Φ (e >>= f):=by
 cases e with
 |ok a=>exact h a
 |error e=>exact trivial
theorem Ae3(p:Program)(w:World)(a:Addr)(u:TypeId)(k:Addr)(v:Value)(b:Bool):Aiu (fun r=>r.1.drawn=w.drawn) (w.viewStore p a u k v b):=by
 unfold World.viewStore
 repeat' (first|exact rfl|exact trivial|(refine Aiu.bind fun _=>?_)|split)
theorem Ag5(p:Program)(w:World)(a:Addr)(v:Value)(b:Bool):Aiu (fun r=>r.1.drawn=w.drawn) (w.farStore p a v b):=by
 unfold World.farStore;split
 .have:=Ae3 p w ‹_› ‹_› a v b;split
  .rename_i h;rw[h] at this;exact this
  .exact trivial
 .exact trivial
theorem Ad3{α:Type}:∀(q:Ask α) (w:World),w.drawn<=(w.ask q).2.drawn
 |.done _,w=>nL _
 |.ask what range k,w=>by
  unfold World.ask;dsimp only;split
  .exact Ad3 (k 0) w
  .exact Nat.le_trans (Nat.le_succ _) (Ad3 (k _) {w with drawn:=w.drawn+1})
theorem Asv(w:World)(c:Sys):w.drawn<=(w.sys c).2.drawn:=by
 unfold World.sys;have:=Ad3 (Kernel.perform c w.os) w;split
 .exact nL _
 .rename_i h;rw[h] at this;exact this
def Amg{α:Type}(n:Nat):Result α->Prop
 |.ok _ w=>n<=w.drawn
 |.halt _ w=>n<=w.drawn
theorem Amg.mono{α:Type}{n m:Nat}{r:Result α}(h:Amg m r)(hn:n<=m):Amg n r:=by
 cases r <;> exact Nat.le_trans hn h
theorem Hp{α:Type}(P:Program):∀(s:Sem α) (w:World),Amg w.drawn (s.run P w)
 |.pure a,w=>nL _
 |.load m a k,w=>by
  unfold Sem.run;split
  .exact Hp P (k _) w
  .split
   .exact Hp P (k _) w
   .exact nL _
 |.store m a v k,w=>by
  have key:Amg w.drawn (match w.cell? a with
   |some _ => if w.frozen? a then Result.halt (.unsupported (.unsafePointer "a write to bytes that a string shares")) w else k.run P (w.setCell a v)
   |none=>match w.farStore P a v (m == .atomic) with
    |.ok (w,_)=>k.run P w
    |.error h=>.halt h w):=by
   split
   .split
    .exact nL _
    .exact Hp P k (w.setCell a v)
   .have:=Ag5 P w a v (m == .atomic);split
    .rename_i h;rw[h] at this;exact (Hp P k _).mono (Nat.le_of_eq this.symm)
    .exact nL _
  cases v with
  |agg _=>exact nL _
  |tuple _=>exact nL _
  |_=>exact key
 |.new o k,w=>by unfold Sem.run;exact Hp P (k _) {w with heap:=w.heap.push o}
 |.shape r k,w=>by unfold Sem.run;exact Hp P (k _) w
 |.freeze a n k,w=>by
  unfold Sem.run;refine (Hp P k (w.freeze a n)).mono ?_;unfold World.freeze;split <;> exact nL _
 |.frozen a k,w=>by unfold Sem.run;exact Hp P (k _) w
 |.getObj r k,w=>by
  unfold Sem.run;split
  .exact nL _
  .exact Hp P (k _) w
  .exact nL _
 |.setObj r o k,w=>by
  unfold Sem.run;split
  .exact nL _
  .exact Hp P k {w with heap:=w.heap.setIfInBounds r o}
  .exact nL _
 |.choose q k,w=>by
  unfold Sem.run;split
  .exact Hp P (k _) w
  .exact (Hp P (k _) {w with drawn:=w.drawn+1}).mono (Nat.le_succ _)
 |.sys c k,w=>by unfold Sem.run;exact (Hp P (k _) _).mono (Asv w c)
 |.program k,w=>by unfold Sem.run;exact Hp P (k _) w
 |.mark _ k,w=>by unfold Sem.run;exact Hp P k w
 |.halt h,w=>nL _
theorem Ad4{α:Type}{P:Program}{s:Sem α}{w w':World}{v:α}(h:s.run P w=.ok v w'):w.drawn<=w'.drawn:=by
 have:=Hp P s w;rw[h] at this;exact this
section
open Go.RowKit
def look:lF->Nat->Option Value
 |[],_=>none
 |(k,v)::r,t=>bif Nat.beq k t then some v else look r t
structure Fr(n:Nat)(fr:lF)(a:Act):Prop where
 nod:a.defers=[]
 size:a.tmps.size=n
 val:∀t v,look fr t=some v->a.tmps.getD t undef=v
def evo(fr:lF):Operand->Option Value
 |.tmp t=>look fr t
 |.const v=>some v
 |.global g=>some (.pointer (some ⟨g,0,none⟩))
 |.func f=>some (.func (.func f) #[] #[])
def evos(fr:lF):List Operand->Option LV
 |[]=>some []
 |x::r=>match evo fr x,evos fr r with
  |some v,some vs=>some (v::vs)
  |_,_=>none
theorem Fr.eval{n fr a}(h:Fr n fr a){x v}(hx:evo fr x=some v):a.eval x=v:=by
 cases x with
 |tmp t=>exact h.val t v hx
 |const c=>simp only[evo,Option.some.injEq] at hx;simpa only[Act.eval] using hx
 |global g=>simp only[evo,Option.some.injEq] at hx;simpa only[Act.eval] using hx
 |func f=>simp only[evo,Option.some.injEq] at hx;simpa only[Act.eval] using hx
theorem Fr.evals{n fr a}(h:Fr n fr a):∀{xs vs},evos fr xs=some vs->xs.map a.eval=vs:=by
 intro xs
 induction xs with
 |nil=>intro vs hv;simp[evos] at hv;subst hv;rfl
 |cons x r ih=>
  intro vs hv;simp only[evos] at hv;split at hv
  .rename_i v vs' h1 h2;injection hv with hv;subst hv
   simp[h.eval h1,ih h2]
  .cases hv
theorem Fr.put{n fr a d v}(h:Fr n fr a)(hd:Nat.blt d n=true):Fr n ((d,v)::fr) (a.put (some d) v):=by
 have hd':d<n:=(Nat.blt_eq▸hd);refine⟨h.nod,by simp[Act.put,h.size],fun t u hu=>?_⟩;simp only[look] at hu;cases hb:Nat.beq d t with
 |true=>
  rw[hb] at hu;have e:d=t:=Nat.eq_of_beq_eq_true hb;subst e;simp only[cond_true,Option.some.injEq] at hu;subst hu;simp[Act.put,h.size,hd']
 |false=>
  rw[hb] at hu;have e:d≠t:=Nat.ne_of_beq_eq_false hb;have:=h.val t u hu;simp only[Act.put];rw[<-this];simp[Array.getElem?_setIfInBounds_ne e]
structure SubF(fr' fr:lF):Prop where
 get:∀t v,look fr' t=some v->look fr t=some v
theorem SubF.nil{fr}:SubF [] fr:=⟨fun _ _ h=>by simp[look] at h⟩
theorem SubF.cons{t v fr' fr}(h:look fr t=some v)(h':SubF fr' fr):SubF ((t,v)::fr') fr:=by
 refine⟨fun s u hu=>?_⟩;simp only[look] at hu;cases hb:Nat.beq t s with
 |true=>
  rw[hb] at hu;simp only[cond_true,Option.some.injEq] at hu;subst hu;rw[<-Nat.eq_of_beq_eq_true hb];exact h
 |false=>rw[hb] at hu;exact h'.get s u hu
theorem Fr.sub{n fr fr' a}(h:Fr n fr a)(hs:SubF fr' fr):Fr n fr' a:=⟨h.nod,h.size,fun t v hv=>h.val t v (hs.get t v hv)⟩
inductive Ent where
 |old (w0:World)
 |m (g:Nat) (t:TypeId) (cs:LV)
 |r (A:OA) (n c:Nat) (t:TypeId) (sz:Nat) (xs:LV)
 |f (S:LM) (φ:World->Prop)
abbrev LE:=List Ent
def Ent.ok(w:World):Ent->Prop
 |.old w0=>Below w0.heap.size w0 w/\w0.drawn<=w.drawn
 |.m g t cs=>w.heap[g]? = some (.cells cs.toArray t (0,0))
 |.r A n c t sz xs=>w.ownsRow 0 t sz (.slice A n c) n xs
 |.f S φ=>(∀g∈S,g<w.heap.size)/\φ w/\∀w1 w2:World,φ w1->(∀g∈S,w2.heap[g]? = w1.heap[g]?)->φ w2
def Ent.blk:Ent->Option Nat
 |.old _=>none
 |.m g _ _=>some g
 |.r A n c _ _ _=>(Value.slice A n c).ownBlock
 |.f _ _=>none
def Ent.own:Ent->Nat->Prop
 |.old _,_=>False
 |.m g _ _,k=>g=k
 |.r (some a) _ _ _ _ _,k=>a.block=k
 |.r none _ _ _ _ _,_=>False
 |.f S _,k=>k∈S
theorem Ent.own_r{A n c t sz xs k}:(Ent.r A n c t sz xs).own k↔(Value.slice A n c).ownBlock=some k:=by
 cases A <;> simp[Ent.own,Value.ownBlock]
def Ent.lo:Ent->Nat
 |.old w0=>w0.heap.size
 |_=>0
def Ent.low:Ent->Nat
 |.old _=>1
 |_=>0
theorem Ent.low_lo{e:Ent}(h:e.low=0):e.lo=0:=by
 cases e with
 |old w0=>simp[Ent.low] at h
 |_=>rfl
def Ent.sep(e e':Ent):Prop :=
 (∀g,e.own g->e'.lo<=g/\¬e'.own g)/\(∀g,e'.own g->e.lo<=g/\¬e.own g)
theorem Ent.sep.symm{e e':Ent}(h:e.sep e'):e'.sep e:=⟨h.2,h.1⟩
structure Heap(L:LE)(w:World):Prop where
 ok:∀e∈L,e.ok w
 sep:L.Pairwise Ent.sep
def Ext(w w':World):Prop:=Below w.heap.size w w'/\w.drawn<=w'.drawn
theorem Ext.refl(w:World):Ext w w:=⟨Below.refl _ _,nL _⟩
theorem Ext.trans{a b c:World}(h:Ext a b)(k:Ext b c):Ext a c:=⟨Below.trans h.1 (Below.mono k.1 h.1.size),Nat.le_trans h.2 k.2⟩
theorem Ec{w:World}{g:Nat}{o:Obj}(h:w.heap[g]? = some o):g<w.heap.size:=by
 rcases Nat.lt_or_ge g w.heap.size with hlt|hge
 .exact hlt
 .rw[Array.getElem?_eq_none hge] at h;cases h
theorem Ent.lt{e:Ent}{w:World}(h:Ent.ok w e){g:Nat}(hg:e.own g):g<w.heap.size:=by
 cases e with
 |old w0=>cases hg
 |m g' t cs=>have hg:g'=g:=hg;subst hg;exact Ec h
 |r A n c t sz xs=>
  rw[Ent.own_r] at hg;obtain⟨_,h2⟩:=h;rcases h2 with⟨hv,_⟩|⟨g',cap,cur,hv,_,hh,_⟩
  .rw[hv] at hg;simp[Value.ownBlock] at hg
  .rw[hv] at hg;simp[Value.ownBlock] at hg;subst hg;exact Ec hh
 |f S φ=>exact h.1 g hg
theorem Ent.keep{e:Ent}{w w':World}{row:Option Nat}(h:Ent.ok w e)(hg:w.grownBy w' row)(hr:∀g,row=some g->e.lo<=g/\¬e.own g)(hlo:e.lo<=w.heap.size)(hd:w.drawn<=w'.drawn):Ent.ok w' e:=by
 cases e with
 |old w0=>
  refine⟨Below.trans h.1 ⟨hg.os,hg.tape,hg.output,hg.size,fun k hk=>hg.block k ?_ ?_⟩,Nat.le_trans h.2 hd⟩
  .exact Nat.lt_of_lt_of_le hk hlo
  .intro he;have:=(hr k he.symm).1;simp only[Ent.lo] at this;omega
 |m g t cs=>
  have hlt:=Ec (show w.heap[g]? = some _ from h);exact (hg.block g hlt (fun he=>(hr g he.symm).2 rfl)).trans h
 |r A n c t sz xs=>
  obtain⟨h1,h2⟩:=h;refine⟨h1,?_⟩;rcases h2 with h2|⟨g,cap,cur,hv,hb,hh,rest⟩
  .exact .inl h2
  .refine .inr ⟨g,cap,cur,hv,hb,?_,rest⟩;refine (hg.block g (Ec hh) (fun he=>(hr g he.symm).2 ?_)).trans hh;rw[Ent.own_r,hv];rfl
 |f S φ=>
  obtain⟨h1,h2,h3⟩:=h;exact⟨fun g hgs=>Nat.lt_of_lt_of_le (h1 g hgs) hg.size,h3 w w' h2 (fun g hgs=>hg.block g (h1 g hgs) (fun he=>(hr g he.symm).2 hgs)),h3⟩
theorem Ent.lo_le{e:Ent}{w:World}(h:Ent.ok w e):e.lo<=w.heap.size:=by
 cases e with
 |old w0=>exact h.1.size
 |_=>exact Nat.zero_le _
theorem Ext.grown{w w':World}(h:Ext w w'):w.grownBy w' none:=⟨h.1.os,h.1.tape,h.1.output,h.1.size,fun k hk _=>h.1.block k hk⟩
theorem Ent.ext{e:Ent}{w w':World}(h:Ent.ok w e)(hx:Ext w w'):Ent.ok w' e:=Ent.keep h hx.grown (fun _ he=>by cases he) (Ent.lo_le h) hx.2
def nthE:LE->Nat->Option Ent
 |[],_=>none
 |e::_,0=>some e
 |_::r,i+1=>nthE r i
theorem Ee:∀{L:LE} {i e},nthE L i=some e->e∈L
 |[],_,_,h=>by simp[nthE] at h
 |e::r,0,e',h=>by simp[nthE] at h;subst h;exact mS
 |e::r,i+1,e',h=>mO _ (Ee (by simpa[nthE] using h))
inductive SetE:LE->Nat->Ent->Ent->LE->Prop
 |here {e e' L}:SetE (e::L) 0 e e' (e' :: L)
 |there {x L i e e' L'}:SetE L i e e' L'->SetE (x::L) (i+1) e e' (x::L')
theorem SetE.mem{L i e e' L'}(h:SetE L i e e' L'):e∈L:=by
 induction h with
 |here=>exact mS
 |there _ ih=>exact mO _ ih
theorem Heap.turnO{e e':Ent}{w w':World}{row:Option Nat}(hg:w.grownBy w' row)(hrow:∀g,row=some g->e.own g)(hok:Ent.ok w' e')(hlo:e'.lo<=e.lo)(hb:∀g,e'.own g->e.own g\/w.heap.size<=g){L i L'}(hs:SetE L i e e' L')(h:Heap L w)(hd:w.drawn<=w'.drawn:=by first|exact nL _|exact Ad4 (by assumption)):Heap L' w':=by
 have two:∀y:Ent,y.sep e->Ent.ok w y->y.sep e'/\Ent.ok w' y:=by
  intro y hy hyo;refine⟨⟨fun g hgb=>?_,fun g hgb=>?_⟩,Ent.keep hyo hg (fun g he=>hy.2 g (hrow g he)) (Ent.lo_le hyo) hd⟩
  .have h1:=hy.1 g hgb;refine⟨Nat.le_trans hlo h1.1,fun he=>?_⟩;rcases hb g he with h2|h2
   .exact h1.2 h2
   .have:=Ent.lt hyo hgb;omega
  .rcases hb g hgb with h2|h2
   .exact hy.2 g h2
   .exact⟨by have:=Ent.lo_le hyo;omega,fun he=>by have:=Ent.lt hyo he;omega⟩
 have key:(∀x∈L',Ent.ok w' x)/\L'.Pairwise Ent.sep/\(∀y,(∀x∈L,y.sep x)->Ent.ok w y->(∀x∈L',y.sep x)/\Ent.ok w' y):=by
  obtain⟨hok',hsep⟩:=h;clear hlo hb
  induction hs with
  |@here e e' L=>
   rw[List.pairwise_cons] at hsep;refine⟨fun x hx=>?_,?_,fun y hy hyo=>?_⟩
   .rcases List.mem_cons.1 hx with rfl|hx
    .exact hok
    .exact (two x (hsep.1 x hx).symm (hok' x (mO _ hx))).2
   .rw[List.pairwise_cons];exact⟨fun x hx=>(two x (hsep.1 x hx).symm (hok' x (mO _ hx))).1.symm,hsep.2⟩
   .obtain⟨h1,h2⟩:=two y (hy e mS) hyo;refine⟨fun x hx=>?_,h2⟩;rcases List.mem_cons.1 hx with rfl|hx
    .exact h1
    .exact hy x (mO _ hx)
  |@there z L i e₀ e₁ L' hs ih=>
   rw[List.pairwise_cons] at hsep;obtain⟨i1,i2,i3⟩:=ih hrow hok two (fun x hx=>hok' x (mO _ hx)) hsep.2;obtain⟨z1,z2⟩:=i3 z hsep.1 (hok' z mS);refine⟨fun x hx=>?_,?_,fun y hy hyo=>?_⟩
   .rcases List.mem_cons.1 hx with rfl|hx
    .exact z2
    .exact i1 x hx
   .rw[List.pairwise_cons];exact⟨z1,i2⟩
   .obtain⟨y1,y2⟩:=i3 y (fun x hx=>hy x (mO _ hx)) hyo;refine⟨fun x hx=>?_,y2⟩;rcases List.mem_cons.1 hx with rfl|hx
    .exact hy _ mS
    .exact y1 x hx
 exact⟨key.1,key.2.1⟩
theorem Heap.turn{e e':Ent}{w w':World}(hg:w.grownBy w' e.blk)(hok:Ent.ok w' e')(hlo:e'.lo<=e.lo)(hb:∀g,e'.blk=some g->e.blk=some g\/w.heap.size<=g){L i L'}(hs:SetE L i e e' L')(h:Heap L w)(h1:∀g,e.blk=some g↔e.own g:=by intro g;first|exact Ent.own_r.symm|(simp[Ent.blk,Ent.own,Value.ownBlock];done))(h2:∀g,e'.blk=some g↔e'.own g:=by intro g;first|exact Ent.own_r.symm|(simp[Ent.blk,Ent.own,Value.ownBlock];done))(hd:w.drawn<=w'.drawn:=by first|exact nL _|exact Ad4 (by assumption)):Heap L' w' :=
 Heap.turnO hg (fun g hr=>(h1 g).1 hr) hok hlo (fun g hr=>by rcases hb g ((h2 g).2 hr) with h|h;exact .inl ((h1 g).1 h);exact .inr h) hs h hd
theorem Heap.ext{L w w'}(h:Heap L w)(hx:Ext w w'):Heap L w':=⟨fun e he=>Ent.ext (h.ok e he) hx,h.sep⟩
theorem Heap.join{L Ln w w'}(h:Heap L w)(hl:∀e∈Ln,e.low=0)(hn:Heap (Ln++[.old w]) w'):Heap (Ln++L) w':=by
 replace hl:∀e∈Ln,e.lo=0:=fun e he=>Ent.low_lo (hl e he)
 have hold:Ext w w':=hn.ok (.old w) (by simp);refine⟨fun e he=>?_,?_⟩
 .rcases List.mem_append.1 he with he|he
  .exact hn.ok e (by simp[he])
  .exact Ent.ext (h.ok e he) hold
 .rw[List.pairwise_append];have hp:=hn.sep;rw[List.pairwise_append] at hp;refine⟨hp.1,h.sep,fun a ha b hb=>?_⟩;have hs:=hp.2.2 a ha (.old w) (by simp);refine⟨fun g hg=>?_,fun g hg=>?_⟩
  .have:=(hs.1 g hg).1;simp only[Ent.lo] at this;refine⟨Nat.le_trans (Ent.lo_le (h.ok b hb)) this,fun he=>?_⟩;have:=Ent.lt (h.ok b hb) he;omega
  .have hlt:=Ent.lt (h.ok b hb) hg;refine⟨by rw[hl a ha];exact Nat.zero_le _,fun he=>?_⟩;have:=(hs.1 g he).1;simp only[Ent.lo] at this;omega
theorem Heap.old(w:World):Heap [.old w] w:=⟨fun e he=>by simp at he;subst he;exact⟨Below.refl _ _,nL _⟩,by simp⟩
theorem Heap.alloc{L w}(h:Heap L w)(t:TypeId)(cs:LV):Heap (.m w.heap.size t cs::L) (w.alloc (.cells cs.toArray t)):=by
 have hx:Ext w (w.alloc (.cells cs.toArray t)):=⟨(Below.refl _ _).alloc (nL _) _,nL _⟩;refine⟨fun e he=>?_,?_⟩
 .rcases List.mem_cons.1 he with rfl|he
  .exact heap_alloc_new w _
  .exact Ent.ext (h.ok e he) hx
 .rw[List.pairwise_cons];refine⟨fun x hx=>⟨fun g hg=>?_,fun g hg=>⟨Nat.zero_le _,fun he=>?_⟩⟩,h.sep⟩
  .have hg:w.heap.size=g:=hg;subst hg;exact⟨Ent.lo_le (h.ok x hx),fun he=>by have:=Ent.lt (h.ok x hx) he;omega⟩
  .have he:w.heap.size=g:=he;have:=Ent.lt (h.ok x hx) hg;omega
inductive HSub:LE->LE->Prop
 |refl {L}:HSub L L
 |keep {e L L'}:HSub L L'->HSub (e::L) (e::L')
 |drop {e L L'}:HSub L L'->HSub (e::L) L'
theorem HSub.sublist{L L'}(h:HSub L L'):L'.Sublist L:=by
 induction h with
 |refl=>exact List.Sublist.refl _
 |keep _ ih=>exact ih.cons_cons _
 |drop _ ih=>exact ih.cons _
theorem Heap.sub{L L' w}(h:Heap L w)(hs:HSub L L'):Heap L' w:=⟨fun e he=>h.ok e (hs.sublist.mem he),h.sep.sublist hs.sublist⟩
theorem Heap.perm{L L' w}(h:Heap L w)(hs:L.Perm L'):Heap L' w:=⟨fun e he=>h.ok e (hs.mem_iff.2 he),h.sep.perm hs (fun h=>h.symm)⟩
def T(n:Nat)(N:AW)(fr:lF)(L:LE):Prop:=∀a w,Fr n fr a->Heap L w->N a w
def Ev(P:Program)(n:Nat)(o:Oper)(fr:lF)(L:LE)(v:Value):Prop :=
 ∀a w,Fr n fr a->(∀e∈L,Ent.ok w e)->(execOp a.eval o).run P w=.ok (.value v) w
section rules
variable {P:Program}{n:Nat}{ops:Array Oper}{Q:Exit->AW}{fr:lF}{L:LE}{rest:List Oper}{o:Oper}{d:Nat}{op:Op}{ty:TypeId}{pos:String}{after:AE}
theorem Ay{v:Value}(h:Ev P n ⟨some d,op,ty,pos,after,none⟩ fr L v)(hd:Nat.blt d n=true)(k:T n (wpList P ops Q rest) ((d,v)::fr) L):
  T n (wpList P ops Q (⟨some d,op,ty,pos,after,none⟩ :: rest)) fr L:=by
 intro a w ha hw;refine wpList_plain rfl (fun K hK=>?_);simp only[Oper.wp,h a w ha hw.ok,Oper.upon_value];exact hK _ _ (k _ _ (ha.put hd) hw)
theorem Sj{j s:Nat}{b b':Bool}{a:Act}(hj:(ops[j]?).bind (·.dst)=some s)(ha:Fr n fr a)(hs:look fr s=some (.bool b'))(hsn:Nat.blt s n=true):
  Region.wanted ⟨some d,op,ty,pos,after,some (j,b)⟩ (yielded ops a.tmps)=(b'==b):=by
 have hv:=ha.val s _ hs;have hlt:s<a.tmps.size:=by rw[ha.size];exact (Nat.blt_eq▸hsn)
 have hg:a.tmps[s]? = some (.bool b'):=by
  rw[Array.getD_eq_getD_getElem?,Array.getElem?_eq_getElem hlt] at hv;rw[Array.getElem?_eq_getElem hlt];simpa using hv
 have hy:yielded ops a.tmps j=some b':=by
  unfold yielded;rw[hj];simp[hg]
 simp only[Region.wanted,hy];cases b' <;> cases b <;> rfl
theorem Pv{j s:Nat}{b:Bool}{v:Value}(hj:(ops[j]?).bind (·.dst)=some s)(hs:look fr s=some (.bool b))(hsn:Nat.blt s n=true)(h:Ev P n ⟨some d,op,ty,pos,after,some (j,b)⟩ fr L v)(hd:Nat.blt d n=true)(k:T n (wpList P ops Q rest) ((d,v)::fr) L):
  T n (wpList P ops Q (⟨some d,op,ty,pos,after,some (j,b)⟩ :: rest)) fr L:=by
 intro a w ha hw;refine wpList_step (fun K hK=>?_);rw[iP (by rw[Sj hj ha hs hsn];simp)];simp only[Oper.wp,h a w ha hw.ok,Oper.upon_value];exact hK _ _ (k _ _ (ha.put hd) hw)
theorem Aqt{j s:Nat}{b b':Bool}(hj:(ops[j]?).bind (·.dst)=some s)(hs:look fr s=some (.bool b'))(hsn:Nat.blt s n=true)(hne:(b' == b)=false)(hd:Nat.blt d n=true)(k:T n (wpList P ops Q rest) ((d,undef)::fr) L):
  T n (wpList P ops Q (⟨some d,op,ty,pos,after,some (j,b)⟩ :: rest)) fr L:=by
 intro a w ha hw;refine wpList_step (fun K hK=>?_);rw[iN (by rw[Sj hj ha hs hsn,hne];simp)];exact hK _ _ (k _ _ (ha.put hd) hw)
theorem Bam(k:T n (Q .normal) fr L):T n (wpList P ops Q []) fr L:=k
theorem Ban{id:Nat}{l:List Oper}(k:T n (wpList P l.toArray Q l) fr L):T n ((Code.region id l.toArray false).wp P Q) fr L :=
 fun a w ha hw=>wp_region_lit (k a w ha hw)
theorem Bk{x y:Code}(k:T n (x.wp P (Exit.then (y.wp P Q) Q)) fr L):T n ((Code.seq x y).wp P Q) fr L:=fun a w ha hw=>wp_seq (k a w ha hw)
theorem Awx{y:Code}{Q':Exit->AW}(k:T n (y.wp P Q) fr L):T n (Exit.then (y.wp P Q) Q' .normal) fr L:=k
theorem Aqu{id:Nat}{c:Code}(k:T n (c.wp P (Exit.inBlock id Q)) fr L):T n ((Code.block id c).wp P Q) fr L:=fun a w ha hw=>wp_block (k a w ha hw)
theorem Awy{id:Nat}(k:T n (Q (.exit id)) fr L):T n ((Code.exit id).wp P Q) fr L:=fun a w ha hw=>wp_exit (k a w ha hw)
theorem Awz(k:T n (Q .normal) fr L):T n (Code.skip.wp P Q) fr L:=fun a w ha hw=>wp_skip (k a w ha hw)
theorem Aw0(k:T n (Q .ret) fr L):T n (Code.ret.wp P Q) fr L:=fun a w ha hw=>wp_ret (k a w ha hw)
theorem Aw1{id:Nat}(k:T n (Q .normal) fr L):T n (Exit.inBlock id Q (.exit id)) fr L:=fun a w ha hw=>by simpa[Exit.inBlock] using k a w ha hw
theorem Aw2{id id':Nat}(hne:Nat.beq id' id=false)(k:T n (Q (.exit id')) fr L):T n (Exit.inBlock id Q (.exit id')) fr L:=fun a w ha hw=>by
 have:id'≠id:=Nat.ne_of_beq_eq_false hne;simpa[Exit.inBlock,this] using k a w ha hw
theorem Aw3{c:Operand}{x y:Code}{b:Bool}(hc:evo fr c=some (.bool b))(ht:b=true->T n (x.wp P Q) fr L)(hf:b=false->T n (y.wp P Q) fr L):
  T n ((Code.cond c x y).wp P Q) fr L:=by
 intro a w ha hw;exact wp_cond_split (ha.eval hc) (fun h=>ht h a w ha hw) (fun h=>hf h a w ha hw)
theorem Aqv{c:Operand}{x y:Code}(hc:evo fr c=some (.bool true))(ht:T n (x.wp P Q) fr L):T n ((Code.cond c x y).wp P Q) fr L :=
 Aw3 hc (fun _=>ht) (fun h=>by cases h)
theorem Aqw{c:Operand}{x y:Code}(hc:evo fr c=some (.bool false))(hf:T n (y.wp P Q) fr L):T n ((Code.cond c x y).wp P Q) fr L :=
 Aw3 hc (fun h=>by cases h) (fun _=>hf)
theorem Aw4{σ:Type}(I:σ->List (Nat × Value))(H:σ->List Ent)(C:σ->Prop)(μ:σ->Nat)(s0:σ)(hC:C s0)(hF:SubF (I s0) fr)(hH:HSub L (H s0)){c:Code}(body:∀ s,C s->T n (c.wp P (Exit.then (fun a' w'=>∃ s',C s'/\μ s'<μ s/\Fr n (I s') a'/\Heap (H s') w') Q)) (I s) (H s)):
  T n ((Code.loop c).wp P Q) fr L:=by
 intro a w ha hw;refine wp_loop_ghost (fun m a w=>∃s,C s/\μ s=m/\Fr n (I s) a/\Heap (H s) w) (μ s0) ⟨s0,hC,rfl,ha.sub hF,hw.sub hH⟩ ?_;rintro m a w ⟨s,hs,rfl,hfr,hh⟩;refine wp_mono (body s hs a w hfr hh) ?_;intro e a' w' hq;cases e with
 |normal=>obtain⟨s',h1,h2,h3,h4⟩:=hq;exact⟨μ s',h2,s',h1,rfl,h3,h4⟩
 |_=>exact hq
end rules
def nth:LV->Nat->Option Value
 |[],_=>none
 |v::_,0=>some v
 |_::r,i+1=>nth r i
theorem Akb:∀(cs:LV) (i:Nat),nth cs i=cs[i]?
 |[],_=>by simp[nth]
 |v::r,0=>by simp[nth]
 |v::r,i+1=>by simp[nth,Akb r i]
def Ab6:LV->Nat->Option LV
 |_,0=>some []
 |[],_+1=>none
 |v::r,k+1=>match Ab6 r k with
  |some l=>some (v::l)
  |none=>none
def Aaa:LV->Nat->Nat->Option LV
 |cs,0,k=>Ab6 cs k
 |[],_+1,_=>none
 |_::r,o+1,k=>Aaa r o k
theorem Aek:∀{cs:LV} {k} {vs:LV},Ab6 cs k=some vs->vs.length=k/\∀(j:Nat) (v:Value),vs[j]? = some v->cs[j]? = some v
 |cs,0,vs,h=>by simp[Ab6] at h;subst h;exact⟨rfl,fun j v hj=>by simp at hj⟩
 |[],k+1,vs,h=>by simp[Ab6] at h
 |c::r,k+1,vs,h=>by
  simp only[Ab6] at h;split at h
  .rename_i l hl;injection h with h;subst h
   obtain⟨h1,h2⟩:=Aek hl;refine⟨by simp[h1],fun j v hj=>?_⟩;cases j with
   |zero=>simpa using hj
   |succ j=>simp at hj⊢;exact h2 j v hj
  .cases h
theorem Ab7:∀{cs:LV} {o k} {vs:LV},Aaa cs o k=some vs->vs.length=k/\∀(j:Nat) (v:Value),vs[j]? = some v->cs[o+j]? = some v
 |cs,0,k,vs,h=>by
  have h':Ab6 cs k=some vs:=by cases cs <;> simpa[Aaa] using h
  simpa using Aek h'
 |[],o+1,k,vs,h=>by simp[Aaa] at h
 |c::r,o+1,k,vs,h=>by
  obtain⟨h1,h2⟩:=Ab7 (cs:=r) (by simpa[Aaa] using h);refine⟨h1,fun j v hj=>?_⟩;rw[show o+1+j=(o+j)+1 from by omega];simpa using h2 j v hj
inductive Spl:LV->Nat->LV->LV->Prop
 |done {cs}:Spl cs 0 [] cs
 |put {c cs v vs cs'}:Spl cs 0 vs cs'->Spl (c::cs) 0 (v::vs) (v::cs')
 |skip {c cs o vs cs'}:Spl cs o vs cs'->Spl (c::cs) (o+1) vs (c::cs')
section
variable {P:Program}
def Uc(P:Program)(t:TypeId)(k:Nat):Prop:=(∀w,(isAgg t).run P w=.ok true w)/\∀w,(sizeOf t).run P w=.ok k w
def Ud(P:Program)(t:TypeId):Prop:=(∀w,(isAgg t).run P w=.ok false w)/\∀w,(sizeOf t).run P w=.ok 1 w
def Rt(P:Program)(s:TypeId)(f off:Nat):Prop :=
 ∃fs fld k,P.underlying s=some (.struct fs)/\fs[f]? = some fld/\fld.offset=off/\(∀w,(sizeOf fld.type).run P w=.ok k w)/\(k==0)=false
def Mi(P:Program)(t e:TypeId)(sz:Nat):Prop:=P.underlying t=some (.slice e)/\∀w,(sizeOf e).run P w=.ok sz w
theorem Uc.mk{t k d i}(hu:P.underlying t=some d)(hd:(d matches .struct _)=true)(hi:P.info? t=some i)(hk:i.size=k):Uc P t k:=by
 refine⟨fun w=>?_,fun w=>by simp[sizeOf,typeInfo,hi,hk]⟩;cases d <;> simp at hd
 simp[isAgg,run_underlying hu]
theorem Ud.mk{t d i}(hu:P.underlying t=some d)(hd:(d matches .struct _ | .array _ _)=false)(hi:P.info? t=some i)(hk:i.size=1):Ud P t:=by
 refine⟨fun w=>?_,fun w=>by simp[sizeOf,typeInfo,hi,hk]⟩;cases d <;> simp at hd <;> simp[isAgg,run_underlying hu]
theorem Rt.mk{s f off fs fld i k}(hu:P.underlying s=some (.struct fs))(hf:fs[f]? = some fld)(ho:fld.offset=off)(hi:P.info? fld.type=some i)(hk:i.size=k)(h0:(k==0)=false):Rt P s f off :=
 ⟨fs,fld,k,hu,hf,ho,fun w=>by simp[sizeOf,typeInfo,hi,hk],h0⟩
theorem Mi.mk{t e sz i}(hu:P.underlying t=some (.slice e))(hi:P.info? e=some i)(hk:i.size=sz):Mi P t e sz :=
 ⟨hu,fun w=>by simp[sizeOf,typeInfo,hi,hk]⟩
variable {n:Nat}{fr:lF}{L:LE}{dst:Option Tmp}{ty:TypeId}{pos:String}{after:AE}{guard:ON}
theorem Aqx{x v}(h:evo fr x=some v):Ev P n ⟨dst,.move x,ty,pos,after,guard⟩ fr L v:=fun a w ha _=>by
 simp[execOp,ha.eval h]
theorem Sk{x v}(h:evo fr x=some v):Ev P n ⟨dst,.assign x,ty,pos,after,guard⟩ fr L v:=fun a w ha _=>by
 simp[execOp,ha.eval h]
theorem Amh{c x y v}(hc:evo fr c=some (.bool true))(hx:evo fr x=some v):Ev P n ⟨dst,.pick c x y,ty,pos,after,guard⟩ fr L v:=fun a w ha _=>by
 simp[execOp,ha.eval hc,ha.eval hx,asBool]
theorem Ami{c x y v}(hc:evo fr c=some (.bool false))(hy:evo fr y=some v):Ev P n ⟨dst,.pick c x y,ty,pos,after,guard⟩ fr L v:=fun a w ha _=>by
 simp[execOp,ha.eval hc,ha.eval hy,asBool]
theorem Aw5{x t b}(h:evo fr x=some (.bool b)):Ev P n ⟨dst,.unOp .not t x,ty,pos,after,guard⟩ fr L (.bool (!b)):=fun a w ha _=>by
 simp[execOp,ha.eval h,Op.unary]
theorem Mw{op:BinOp}{t t' x y k a b v}(hx:evo fr x=some (.int k a))(hy:evo fr y=some (.int k b))(h:∀w:World,(binOp op t (.int k a) (.int k b)).run P w=.ok v w):Ev P n ⟨dst,.binOp op t x y t',ty,pos,after,guard⟩ fr L v:=fun ac w ha _=>by
 simp[execOp,ha.eval hx,ha.eval hy,eqGuard_at_int,h]
theorem Akc{t t' x y k a b}(hx:evo fr x=some (.int k a))(hy:evo fr y=some (.int k b)):Ev P n ⟨dst,.binOp .add t x y t',ty,pos,after,guard⟩ fr L (.int k (k.wrap (a+b))):=
 Mw hx hy fun w=>by rw[binOp_add,Op.intArith];rfl
theorem Akd{t t' x y k a b}(hx:evo fr x=some (.int k a))(hy:evo fr y=some (.int k b)):Ev P n ⟨dst,.binOp .sub t x y t',ty,pos,after,guard⟩ fr L (.int k (k.wrap (a-b))):=
 Mw hx hy fun w=>by rw[binOp_sub,Op.intArith];rfl
theorem Ake{t t' x y k a b}(hx:evo fr x=some (.int k a))(hy:evo fr y=some (.int k b)):Ev P n ⟨dst,.binOp .mul t x y t',ty,pos,after,guard⟩ fr L (.int k (k.wrap (a*b))):=
 Mw hx hy fun w=>by rw[binOp_mul,Op.intArith];rfl
theorem Akf{t t' x y k a b}(hx:evo fr x=some (.int k a))(hy:evo fr y=some (.int k b))(h:b≠0):Ev P n ⟨dst,.binOp .quo t x y t',ty,pos,after,guard⟩ fr L (.int k (k.wrap (a.tdiv b))):=
 Mw hx hy fun w=>by rw[binOp_quo,Op.intDiv,iN h];rfl
theorem Akg{t t' x y k a b}(hx:evo fr x=some (.int k a))(hy:evo fr y=some (.int k b))(h:b≠0):Ev P n ⟨dst,.binOp .rem t x y t',ty,pos,after,guard⟩ fr L (.int k (a.tmod b)):=
 Mw hx hy fun w=>by rw[binOp_rem,Op.intDiv,iN h];rfl
theorem Aw6{t t' x y k a b}(hx:evo fr x=some (.int k a))(hy:evo fr y=some (.int k b)):Ev P n ⟨dst,.binOp .lss t x y t',ty,pos,after,guard⟩ fr L (.bool (decide (a<b))):=
 Mw hx hy fun w=>by rw[binOp_lss];rfl
theorem Aw7{t t' x y k a b}(hx:evo fr x=some (.int k a))(hy:evo fr y=some (.int k b)):Ev P n ⟨dst,.binOp .leq t x y t',ty,pos,after,guard⟩ fr L (.bool (decide (a<=b))):=
 Mw hx hy fun w=>by rw[binOp_leq];rfl
theorem Aw8{t t' x y k a b}(hx:evo fr x=some (.int k a))(hy:evo fr y=some (.int k b)):Ev P n ⟨dst,.binOp .gtr t x y t',ty,pos,after,guard⟩ fr L (.bool (decide (b<a))):=
 Mw hx hy fun w=>by rw[binOp_gtr];rfl
theorem Aw9{t t' x y k a b}(hx:evo fr x=some (.int k a))(hy:evo fr y=some (.int k b)):Ev P n ⟨dst,.binOp .geq t x y t',ty,pos,after,guard⟩ fr L (.bool (decide (b<=a))):=
 Mw hx hy fun w=>by rw[binOp_geq];rfl
theorem Axa{t t' x y k a b}(hx:evo fr x=some (.int k a))(hy:evo fr y=some (.int k b)):Ev P n ⟨dst,.binOp .eql t x y t',ty,pos,after,guard⟩ fr L (.bool (decide (a=b))):=
 Mw hx hy fun w=>by rw[binOp_eql];rfl
theorem Axb{t t' x y k a b}(hx:evo fr x=some (.int k a))(hy:evo fr y=some (.int k b)):Ev P n ⟨dst,.binOp .neq t x y t',ty,pos,after,guard⟩ fr L (.bool (!decide (a=b))):=
 Mw hx hy fun w=>by rw[binOp_neq];rfl
theorem Xn(w:World)(d:Nat){t:TypeId}(a b:Bool)(h:P.underlying t=some .bool):(Op.equalIn (d+1) t (.bool a) (.bool b)).run P w=.ok (a==b) w:=by
 simp[Op.equalIn,run_underlying h]
theorem Axc(w:World){t:TypeId}(a b:Bool)(h:P.underlying t=some .bool):(binOp .eql t (.bool a) (.bool b)).run P w=.ok (.bool (a==b)) w:=by
 simp only[binOp];simp[Op.equal,Op.maxDepth,Xn w 9999 a b h]
theorem Axd(w:World){t:TypeId}(a b:Bool)(h:P.underlying t=some .bool):(binOp .neq t (.bool a) (.bool b)).run P w=.ok (.bool (!(a==b))) w:=by
 simp only[binOp];simp[Op.equal,Op.maxDepth,Xn w 9999 a b h]
theorem Azk{t t' x y a b}(hx:evo fr x=some (.bool a))(hy:evo fr y=some (.bool b))(h:P.underlying t=some .bool):Ev P n ⟨dst,.binOp .eql t x y t',ty,pos,after,guard⟩ fr L (.bool (a==b)):=fun ac w ha _=>by
 simp[execOp,ha.eval hx,ha.eval hy,eqGuard_at_bool,Axc w a b h]
theorem Azl{t t' x y a b}(hx:evo fr x=some (.bool a))(hy:evo fr y=some (.bool b))(h:P.underlying t=some .bool):Ev P n ⟨dst,.binOp .neq t x y t',ty,pos,after,guard⟩ fr L (.bool (!(a==b))):=fun ac w ha _=>by
 simp[execOp,ha.eval hx,ha.eval hy,eqGuard_at_bool,Axd w a b h]
theorem Ez{s x f off b o sp}(hx:evo fr x=some (.pointer (some ⟨b,o,sp⟩)))(hf:Rt P s f off)(hs:sp=none):
  Ev P n ⟨dst,.fieldAddr s x f,ty,pos,after,guard⟩ fr L (.pointer (some ⟨b,o+off,none⟩)):=fun a w ha _=>by
 obtain⟨fs,fld,k,h1,h2,rfl,h4,h5⟩:=hf;subst hs;have h5':k≠0:=by intro h;subst h;simp at h5
 simp[execOp,ha.eval hx,Instr.fieldAt,run_underlying h1,h2,Instr.sureAddr,fieldPlace,h4,h5',Addr.add_lit]
theorem Us{w:World}{g t cs}(h:Ent.ok w (.m g t cs))(o:Nat):w.cell? ⟨g,o,none⟩=cs[o]?:=by
 have h':w.heap[g]? = some (.cells cs.toArray t (0,0)):=h;simp[World.cell?,h']
theorem Wg{t k}(h:Uc P t k)(a:Addr)(ys:List Value)(hl:ys.length=k){w:World}(hc:∀ j v,ys[j]? = some v->w.cell? (a.add j)=some v):
  (loadVar t a).run P w=.ok (.agg ys.toArray) w:=by
 subst hl;simp[loadVar,h.1 w,h.2 w,run_loadCells_list _ _ ys hc]
theorem Wi{t}(h:Ud P t)(a:Addr)(v:Value){w:World}(hc:w.cell? a=some v):(loadVar t a).run P w=.ok v w:=by
 simp[loadVar,h.1 w,hc]
theorem Dm{x g o i t cs v ty'}(hx:evo fr x=some (.pointer (some ⟨g,o,none⟩)))(hi:nthE L i=some (.m g t cs))(hv:nth cs o=some v)(ht:Ud P ty'):
  Ev P n ⟨dst,.load ty' x,ty,pos,after,guard⟩ fr L v:=fun a w ha hw=>by
 have hc:w.cell? ⟨g,o,none⟩=some v:=by rw[Us (hw _ (Ee hi)),<-Akb];exact hv
 simp[execOp,ha.eval hx,Instr.loadAt,Instr.sureAddr,Wi ht _ v hc]
theorem Nw{x g o i t cs vs k ty'}(hx:evo fr x=some (.pointer (some ⟨g,o,none⟩)))(hi:nthE L i=some (.m g t cs))(hv:Aaa cs o k=some vs)(ht:Uc P ty' k):
  Ev P n ⟨dst,.load ty' x,ty,pos,after,guard⟩ fr L (.agg vs.toArray):=fun a w ha hw=>by
 obtain⟨h1,h2⟩:=Ab7 hv;have hc:∀j v,vs[j]? = some v->w.cell? ((⟨g,o,none⟩:Addr).add j)=some v:=fun j v hj=>by
  rw[Addr.add_lit,Us (hw _ (Ee hi))];exact h2 j v hj
 simp[execOp,ha.eval hx,Instr.loadAt,Instr.sureAddr,Wg ht _ vs h1 hc]
def Pt(K:LE)(b o:Nat)(ys:LV):Prop:=∀w,(∀e∈K,Ent.ok w e)->∀j u,ys[j]? = some u->w.cell? ⟨b,o+j,none⟩=some u
structure SubE(K L:LE):Prop where
 ok:∀w:World,(∀e∈L,Ent.ok w e)->∀e∈K,Ent.ok w e
theorem SubE.of{K L:LE}(h:∀e∈K,e∈L):SubE K L:=⟨fun _ hw e he=>hw e (h e he)⟩
theorem SubE.refl{L}:SubE L L:=⟨fun _ h=>h⟩
theorem SubE.cons{K L e}(h:SubE K L):SubE K (e::L):=⟨fun w hw=>h.ok w (fun x hx=>hw x (mO _ hx))⟩
theorem SubE.nth{L i e}(h:nthE L i=some e):SubE [e] L:=.of fun x hx=>by simp at hx;subst hx;exact Ee h
theorem Aiv{x b o ys v K ty'}{d:Nat}(hx:evo fr x=some (.pointer (some ⟨b,o+d,none⟩)))(hp:Pt K b o ys)(hK:SubE K L)(hv:nth ys d=some v)(ht:Ud P ty'):
  Ev P n ⟨dst,.load ty' x,ty,pos,after,guard⟩ fr L v:=fun a w ha hw=>by
 have hc:w.cell? ⟨b,o+d,none⟩=some v:=hp w (hK.ok w hw) d v (by rw[<-Akb];exact hv);simp[execOp,ha.eval hx,Instr.loadAt,Instr.sureAddr,Wi ht _ v hc]
theorem Cd{x b o ys v K ty'}(hx:evo fr x=some (.pointer (some ⟨b,o,none⟩)))(hp:Pt K b o ys)(hK:SubE K L)(hv:nth ys 0=some v)(ht:Ud P ty'):
  Ev P n ⟨dst,.load ty' x,ty,pos,after,guard⟩ fr L v:=Aiv (d:=0) (by simpa using hx) hp hK hv ht
theorem Asw{x b o ys vs k K ty'}{d:Nat}(hx:evo fr x=some (.pointer (some ⟨b,o+d,none⟩)))(hp:Pt K b o ys)(hK:SubE K L)(hv:Aaa ys d k=some vs)(ht:Uc P ty' k):
  Ev P n ⟨dst,.load ty' x,ty,pos,after,guard⟩ fr L (.agg vs.toArray):=fun a w ha hw=>by
 obtain⟨h1,h2⟩:=Ab7 hv;have hc:∀j v,vs[j]? = some v->w.cell? ((⟨b,o+d,none⟩:Addr).add j)=some v:=fun j v hj=>by
  rw[Addr.add_lit,Nat.add_assoc];exact hp w (hK.ok w hw) _ v (h2 j v hj)
 simp[execOp,ha.eval hx,Instr.loadAt,Instr.sureAddr,Wg ht _ vs h1 hc]
theorem Yp{x b o ys vs k K ty'}(hx:evo fr x=some (.pointer (some ⟨b,o,none⟩)))(hp:Pt K b o ys)(hK:SubE K L)(hv:Aaa ys 0 k=some vs)(ht:Uc P ty' k):
  Ev P n ⟨dst,.load ty' x,ty,pos,after,guard⟩ fr L (.agg vs.toArray):=Asw (d:=0) (by simpa using hx) hp hK hv ht
structure Sl{α:Type}(w:World)(A:OA)(n c sz:Nat)(enc:α->LV)(l:List α):Prop where
 len:l.length=n
 nc:n<=c
 cap:c<=maxLen
 esz:∀x∈l,(enc x).length=sz
 at_:0<n->∃b o,A=some ⟨b,o,none⟩/\∀i (h:i<l.length) j u,(enc l[i])[j]? = some u->w.cell? ⟨b,o+i*sz+j,none⟩=some u
structure Has{α:Type}(K:LE)(A:OA)(n c sz:Nat)(enc:α->LV)(l:List α):Prop where
 len:l.length=n
 nc:n<=c
 cap:c<=maxLen
 esz:∀x∈l,(enc x).length=sz
 at_:0<n->∃b o,A=some ⟨b,o,none⟩/\∀i (h:i<l.length),Pt K b (o+i*sz) (enc l[i])
theorem Sl.has{α:Type}{w:World}{A n c sz}{enc:α->LV}{l:List α}(h:Sl w A n c sz enc l):Has [.old w] A n c sz enc l:=by
 refine⟨h.len,h.nc,h.cap,h.esz,fun hn=>?_⟩;obtain⟨b,o,hA,hc⟩:=h.at_ hn;refine⟨b,o,hA,fun i hi w' hw' j u hu=>?_⟩;have hb:Below w.heap.size w w':=(hw' (.old w) (by simp)).1;have:=hc i hi j u hu;rw[<-this];exact hb.cell (p:=⟨b,o+i*sz+j,none⟩) (World.block_lt_of_cell? _ _ this)
theorem Has.at{α:Type}{K L:LE}{w:World}{A n c sz}{enc:α->LV}{l:List α}(h:Has K A n c sz enc l)(hK:SubE K L)(hw:Heap L w):Sl w A n c sz enc l:=by
 refine⟨h.len,h.nc,h.cap,h.esz,fun hn=>?_⟩;obtain⟨b,o,hA,hc⟩:=h.at_ hn;exact⟨b,o,hA,fun i hi j u hu=>hc i hi w (hK.ok w hw.ok) j u hu⟩
theorem Has.up{α:Type}{K L:LE}{A n c sz}{enc:α->LV}{l:List α}(h:Has K A n c sz enc l)(hK:SubE K L):Has L A n c sz enc l:=by
 refine⟨h.len,h.nc,h.cap,h.esz,fun hn=>?_⟩;obtain⟨b,o,hA,hc⟩:=h.at_ hn;exact⟨b,o,hA,fun i hi w hw j u hu=>hc i hi w (hK.ok w hw) j u hu⟩
theorem Has.elem{α:Type}{K:List Ent}{A n c sz}{enc:α->List Value}{l:List α}(h:Has K A n c sz enc l){i:Nat}(hi:i<l.length):
  ∃b o,A=some ⟨b,o,none⟩/\Pt K b (o+i*sz) (enc l[i]):=by
 obtain⟨b,o,hA,hc⟩:=h.at_ (by have:=h.len;omega);exact⟨b,o,hA,hc i hi⟩
theorem By{t e sz x ix A m c b o k i}{j:Nat}(hx:evo fr x=some (.slice A m c))(hi:evo fr ix=some (.int k i))(hA:A=some ⟨b,o,none⟩)(hj:i=(j:Int))(hlt:j<m)(ht:Mi P t e sz):
  Ev P n ⟨dst,.indexAddr t x ix,ty,pos,after,guard⟩ fr L (.pointer (some ⟨b,o+j*sz,none⟩)):=fun a w ha _=>by
 subst hA;subst hj;simp[execOp,ha.eval hx,ha.eval hi,Instr.indexAt,asIntOf,run_underlying ht.1,hlt,ht.2 w,Addr.add_lit]
theorem Gf{t x A m c ty'}(hx:evo fr x=some (.slice A m c))(e:TypeId)(ht:P.underlying t=some (.slice e)):
  Ev P n ⟨dst,.call ⟨.builtin .len,#[x],#[t]⟩,ty',pos,after,guard⟩ fr L (.int .i64 (m:Int)):=fun a w ha _=>by
 simp[execOp,resolve,invoke,builtin,ha.eval hx,Builtin.len_,run_underlying ht,goInt]
theorem Axe{t x lo hi A m c e sz k1 k2 i j}{p q:Nat}(hx:evo fr x=some (.slice A m c))(hl:evo fr lo=some (.int k1 i))(hh:evo fr hi=some (.int k2 j))(ht:Mi P t e sz)(hp:i=(p:Int))(hq:j=(q:Int))(h1:p<=q)(h2:q<=c):
  Ev P n ⟨dst,.slice t x (some lo) (some hi) none,ty,pos,after,guard⟩ fr L (.slice (if c=p then A else A.map (·.add (p*sz))) (q-p) (c-p)):=fun a w ha _=>by
 subst hp;subst hq;simp[execOp,ha.eval hx,ha.eval hl,ha.eval hh,Instr.sliceAt,Instr.slice,run_underlying ht.1,Instr.sliceBounds,Instr.sliceBound,asIntOf,h1,h2,ht.2 w]
theorem Asx{t x hi A m c e sz k2 j}{q:Nat}(hx:evo fr x=some (.slice A m c))(hh:evo fr hi=some (.int k2 j))(ht:Mi P t e sz)(hq:j=(q:Int))(h2:q<=c):
  Ev P n ⟨dst,.slice t x none (some hi) none,ty,pos,after,guard⟩ fr L (.slice A q c):=fun a w ha _=>by
 subst hq;have:(if c=0 then A else A.map (·.add (0*sz)))=A:=by
  split
  .rfl
  .cases A <;> simp[Addr.add]
 simp[execOp,ha.eval hx,ha.eval hh,Instr.sliceAt,Instr.slice,run_underlying ht.1,Instr.sliceBounds,Instr.sliceBound,asIntOf,h2,ht.2 w,Addr.add]
theorem Asy{t x lo A m c e sz k1 i}{p:Nat}(hx:evo fr x=some (.slice A m c))(hl:evo fr lo=some (.int k1 i))(ht:Mi P t e sz)(hp:i=(p:Int))(h1:p<=m):
  Ev P n ⟨dst,.slice t x (some lo) none none,ty,pos,after,guard⟩ fr L (.slice (if c=p then A else A.map (·.add (p*sz))) (m-p) (c-p)):=fun a w ha _=>by
 subst hp;simp[execOp,ha.eval hx,ha.eval hl,Instr.sliceAt,Instr.slice,run_underlying ht.1,Instr.sliceBounds,Instr.sliceBound,asIntOf,h1,ht.2 w]
theorem Ag6{x i vs v}(hx:evo fr x=some (.tuple vs))(hv:vs[i]? = some v):Ev P n ⟨dst,.extract x i,ty,pos,after,guard⟩ fr L v:=fun a w ha _=>by
 simp[execOp,ha.eval hx,Instr.extract,hv]
def evps(fr:lF):List (Nat×Operand)->Option lF
 |[]=>some []
 |(i,x)::r=>match evo fr x,evps fr r with
  |some v,some vs=>some ((i,v)::vs)
  |_,_=>none
theorem Fr.evalps{a}(h:Fr n fr a):∀{xs vs},evps fr xs=some vs->xs.map (fun (i,x)=>(i,a.eval x))=vs:=by
 intro xs
 induction xs with
 |nil=>intro vs hv;simp[evps] at hv;subst hv;rfl
 |cons x r ih=>
  obtain⟨i,x⟩:=x;intro vs hv;simp only[evps] at hv;split at hv
  .rename_i v vs' h1 h2;injection hv with hv;subst hv
   simp[h.eval h1,ih h2]
  .cases hv
def Ac4(P:Program)(t:TypeId)(ps:lF)(cs:LV):Prop:=∀w,(Instr.build t ps.toArray).run P w=.ok (.agg cs.toArray) w
theorem Aab{t xs ps cs}(hx:evps fr xs=some ps)(hb:Ac4 P t ps cs):Ev P n ⟨dst,.build t xs.toArray,ty,pos,after,guard⟩ fr L (.agg cs.toArray):=fun a w ha _=>by
 have:=ha.evalps hx;simp[execOp,this,hb w]
theorem Aqy{x y k a b ts ty'}(hx:evo fr x=some (.int k a))(hy:evo fr y=some (.int k b)):
  Ev P n ⟨dst,.call ⟨.builtin .min,#[x,y],ts⟩,ty',pos,after,guard⟩ fr L (.int k (min a b)):=fun ac w ha _=>by
 have e:(if b<a then b else a)=min a b:=by rw[Int.min_def];split <;> split <;> omega
 simp[execOp,resolve,invoke,builtin,ha.eval hx,ha.eval hy,Builtin.min_,Builtin.min2,e]
theorem Aqz{x y k a b ts ty'}(hx:evo fr x=some (.int k a))(hy:evo fr y=some (.int k b)):
  Ev P n ⟨dst,.call ⟨.builtin .max,#[x,y],ts⟩,ty',pos,after,guard⟩ fr L (.int k (max a b)):=fun ac w ha _=>by
 have e:(if b > a then b else a)=max a b:=by rw[Int.max_def];split <;> split <;> omega
 simp[execOp,resolve,invoke,builtin,ha.eval hx,ha.eval hy,Builtin.max_,Builtin.max2,e]
theorem Afj{src dt x k k' v}(hx:evo fr x=some (.int k v))(hs:(P.underlying src).isSome=true)(hd:P.underlying dt=some (.int k')):
  Ev P n ⟨dst,.convert src dt x,ty,pos,after,guard⟩ fr L (.int k' (k'.wrap v)):=fun ac w ha _=>by
 obtain⟨d,hs⟩:=Option.isSome_iff_exists.1 hs;simp[execOp,ha.eval hx,convert,run_underlying hs,run_underlying hd,Conv.intToInt]
end
def Wx(P:Program)(Q:Exit->AW)(n:Nat)(o:Oper)(fr:lF)(L:LE)(N:AW):Prop :=
 ∀a w,Fr n fr a->Heap L w->o.wp P a w (fun a' w'=>Ext w w'/\N a' w') Q
def Wh(P:Program)(Q:Exit->AW)(n:Nat)(o:Oper)(fr:lF)(L:LE)(N:AW):Prop :=
 ∀a w,Fr n fr a->Heap L w->o.wp P a w N Q
section
variable {P:Program}{n:Nat}{ops:Array Oper}{Q:Exit->AW}{fr:lF}{L:LE}{rest:List Oper}{N:AW}{dst:Option Tmp}{d:Nat}{op:Op}{ty:TypeId}{pos:String}{after:AE}{guard:ON}
theorem T_x(h:Wx P Q n ⟨dst,op,ty,pos,after,none⟩ fr L (wpList P ops Q rest)):T n (wpList P ops Q (⟨dst,op,ty,pos,after,none⟩ :: rest)) fr L:=by
 intro a w ha hw;refine wpList_plain rfl (fun K hK=>?_);exact Oper.wp_mono (fun a' w' h=>hK a' w' h.2) (h a w ha hw)
theorem T_h(h:Wh P Q n ⟨dst,op,ty,pos,after,none⟩ fr L (wpList P ops Q rest)):T n (wpList P ops Q (⟨dst,op,ty,pos,after,none⟩ :: rest)) fr L:=by
 intro a w ha hw;refine wpList_plain rfl (fun K hK=>?_);exact Oper.wp_mono (fun a' w' h=>hK a' w' h) (h a w ha hw)
theorem T_xG{j s:Nat}{b:Bool}(hj:(ops[j]?).bind (·.dst)=some s)(hs:look fr s=some (.bool b))(hsn:Nat.blt s n=true)(h:Wx P Q n ⟨dst,op,ty,pos,after,some (j,b)⟩ fr L (wpList P ops Q rest)):T n (wpList P ops Q (⟨dst,op,ty,pos,after,some (j,b)⟩ :: rest)) fr L:=by
 intro a w ha hw;refine wpList_step (fun K hK=>?_);have hwn:Region.wanted ⟨dst,op,ty,pos,after,some (j,b)⟩ (yielded ops a.tmps)=true:=by
  have:=Sj (d:=0) (op:=op) (ty:=ty) (pos:=pos) (after:=after) (b:=b) hj ha hs hsn;simpa[Region.wanted] using this
 rw[iP hwn];exact Oper.wp_mono (fun a' w' h=>hK a' w' h.2) (h a w ha hw)
theorem Aa3(w:World)(o:Obj):Ext w (w.alloc o):=⟨(Below.refl _ _).alloc (nL _) _,nL _⟩
theorem Aol{v:Nat->Value}{t:TypeId}{cs:LV}(hrun:∀a w,Fr n fr a->Heap L w->(execOp a.eval ⟨some d,op,ty,pos,after,guard⟩).run P w=.ok (.value (v w.heap.size)) (w.alloc (.cells cs.toArray t)))(hd:Nat.blt d n=true)(k:∀g,T n N ((d,v g)::fr) (.m g t cs::L)):Wx P Q n ⟨some d,op,ty,pos,after,guard⟩ fr L N:=by
 intro a w ha hw;simp only[Oper.wp,hrun a w ha hw,Oper.upon_value];exact⟨Aa3 w _,k _ _ _ (ha.put hd) (hw.alloc t cs)⟩
theorem Aac{t x v}{cs:LV}(hx:evo fr x=some v)(hc:v.cells=cs.toArray)(hd:Nat.blt d n=true)(k:∀g,T n N ((d,.pointer (some ⟨g,0,none⟩))::fr) (.m g t cs::L)):Wx P Q n ⟨some d,.box t x,ty,pos,after,guard⟩ fr L N :=
 Aol (v:=fun g=>.pointer (some ⟨g,0,none⟩)) (fun a w ha _=>by simp[execOp,ha.eval hx,Instr.box,newVar,newRow,hc]) hd k
def Wo(P:Program)(t:TypeId)(cs:LV):Prop:=∃z,(∀w,(zeroValue t).run P w=.ok z w)/\z.cells=cs.toArray
theorem Vr{t}{cs:LV}(hz:Wo P t cs)(hd:Nat.blt d n=true)(k:∀g,T n N ((d,.pointer (some ⟨g,0,none⟩))::fr) (.m g t cs::L)):Wx P Q n ⟨some d,.alloc t,ty,pos,after,guard⟩ fr L N:=by
 obtain⟨z,h1,h2⟩:=hz;exact Aol (v:=fun g=>.pointer (some ⟨g,0,none⟩)) (fun a w _ _=>by simp[execOp,Instr.alloc,h1,newVar,newRow,h2]) hd k
def Ot(P:Program)(t:TypeId)(len:Nat)(ps:lF)(e:TypeId)(cs:LV):Prop :=
 ∀w,(Instr.buildSlice t len ps.toArray).run P w=.ok (.slice (some ⟨w.heap.size,0,none⟩) len len) (w.alloc (.cells cs.toArray e))
theorem Gx{t len xs ps e}{cs:LV}(hx:evps fr xs=some ps)(hb:Ot P t len ps e cs)(hd:Nat.blt d n=true)(k:∀g,T n N ((d,.slice (some ⟨g,0,none⟩) len len)::fr) (.m g e cs::L)):Wx P Q n ⟨some d,.buildSlice t len xs.toArray,ty,pos,after,guard⟩ fr L N :=
 Aol (v:=fun g=>.slice (some ⟨g,0,none⟩) len len) (fun a w ha _=>by
  have:=ha.evalps hx;simp[execOp,this,hb w]) hd k
theorem Heap.allocR{w:World}(h:Heap L w)(t:TypeId)(sz m:Nat)(cs:List Value)(hl:cs.length=m*sz)(hm:m<=maxLen):
  Heap (.r (some ⟨w.heap.size,0,none⟩) m m t sz cs::L) (w.alloc (.cells cs.toArray t)):=by
 have h':=h.alloc t cs;refine⟨fun e he=>?_,?_⟩
 .rcases List.mem_cons.1 he with rfl|he
  .refine⟨hl,.inr ⟨w.heap.size,m,cs.toArray,rfl,Nat.zero_le _,heap_alloc_new w _,nL _,hm,by simpa using hl,?_⟩⟩;rw[<-hl];simp
  .exact h'.ok e (mO _ he)
 .have hp:=h'.sep;rw[List.pairwise_cons] at hp⊢;exact⟨fun x hx=>hp.1 x hx,hp.2⟩
theorem Aq0{t:TypeId}{sz m:Nat}{cs:LV}(hl:cs.length=m*sz)(hm:m<=maxLen)(hrun:∀a w,Fr n fr a->Heap L w->(execOp a.eval ⟨some d,op,ty,pos,after,guard⟩).run P w=.ok (.value (.slice (some ⟨w.heap.size,0,none⟩) m m)) (w.alloc (.cells cs.toArray t)))(hd:Nat.blt d n=true)(k:∀A,T n N ((d,.slice A m m)::fr) (.r A m m t sz cs::L)):Wx P Q n ⟨some d,op,ty,pos,after,guard⟩ fr L N:=by
 intro a w ha hw;simp only[Oper.wp,hrun a w ha hw,Oper.upon_value];exact⟨Aa3 w _,k _ _ _ (ha.put hd) (hw.allocR t sz m cs hl hm)⟩
theorem Ahs(z:Value)(m:Nat):madeCells #[z] m=(List.replicate m z).toArray:=by
 apply Array.ext
 .simp[madeCells]
 .intro i h1 h2;simp[madeCells] at *;have:i%1=0:=Nat.mod_one i;simp[this]
theorem Axf{t e x y k1 k2 i1 i2 i z}{m:Nat}(hx:evo fr x=some (.int k1 i1))(hy:evo fr y=some (.int k2 i2))(h1:i1=(m:Int))(h2:i2=(m:Int))(ht:P.underlying t=some (.slice e))(hi:P.info? e=some i)(hz:i.zero=some z)(hzc:z.cells = #[z])(hs:i.size=1)(hb:i.bytes*m<=281474976710656)(hm:m<=9223372036854775807)(hd:Nat.blt d n=true)(k:∀A,T n N ((d,.slice A m m)::fr) (.r A m m e 1 (List.replicate m z)::L)):Wx P Q n ⟨some d,.makeSlice t x y,ty,pos,after,guard⟩ fr L N:=by
 refine Aq0 (by simp) (by unfold maxLen;omega) (fun a w ha _=>?_) hd k;have hb':(i.bytes:Int)*((m:Nat):Int)<=281474976710656:=by
  have h:((i.bytes*m:Nat):Int)<=281474976710656:=by omega
  rwa [Int.natCast_mul] at h
 have hr:=run_make (P:=P) w t e i z ht hi hz k1 k2 m m (by omega) (Int.le_refl _) hb' (by omega);subst h1;subst h2;simp only[Int.toNat_natCast,hs,Nat.mul_one,hzc,Ahs] at hr;simp[execOp,ha.eval hx,ha.eval hy,hr]
theorem Has.ofR{α:Type}{enc:α->List Value}{A c t sz}{l:List α}(_hz:0<sz)(he:∀ x∈l,(enc x).length=sz){w:World}(hok:Ent.ok w (.r A l.length c t sz (l.flatMap enc))):
  Has [.r A l.length c t sz (l.flatMap enc)] A l.length c sz enc l:=by
 obtain⟨h1,h2⟩:=hok;have hc:l.length<=c/\c<=maxLen:=by
  rcases h2 with⟨hv,h0⟩|⟨g,cap,cur,hv,_,_,h3,h4,_⟩
  .injection hv with _ h5 h6;subst h6;omega
  .injection hv with _ h5 h6;subst h6;exact⟨h3,h4⟩
 refine⟨rfl,hc.1,hc.2,he,fun hn=>?_⟩;rcases h2 with⟨_,h0⟩|⟨g,cap,cur,hv,_,_,h3,h4,_⟩
 .omega
 .injection hv with hA h5 h6
  subst hA;refine⟨g,0,rfl,fun i hi w' hw' j u hu=>?_⟩;obtain⟨_,h2'⟩:=hw' _ (List.mem_singleton.2 rfl);rcases h2' with⟨hv',_⟩|⟨g',cap',cur',hv',_,hh,h3',h4',h5',h6'⟩
  .cases hv'
  .injection hv' with hA' _ _
   injection hA' with hA'
   injection hA' with hg
   subst hg;have hlt:j<sz:=by
    rw[<-he l[i] (gM hi)];exact (List.getElem?_eq_some_iff.1 hu).1
   have hflat:∀(l:List α) (i:Nat) (hi:i<l.length),(∀x∈l,(enc x).length=sz)->∀j u,(enc l[i])[j]? = some u->j<sz->(l.flatMap enc)[i*sz+j]? = some u:=by
    intro l
    induction l with
    |nil=>intro i hi;simp at hi
    |cons x r ih=>
     intro i hi he j u hu hlt;rw[List.flatMap_cons];cases i with
     |zero=>
      simp only[Nat.zero_mul,Nat.zero_add];rw[List.getElem?_append_left (by rw[he x mS];exact hlt)];simpa using hu
     |succ i=>
      rw[List.getElem?_append_right (by rw[he x mS,Nat.succ_mul];omega),he x mS,show (i+1)*sz+j-sz=i*sz+j from by rw[Nat.succ_mul];omega];exact ih i (by simpa using hi) (fun y hy=>he y (mO _ hy)) j u (by simpa using hu) hlt
   have hx:=hflat l i hi he j u hu hlt;rw[<-h6'] at hx;have hx':cur'.toList[i*sz+j]? = some u:=by
    rw[List.getElem?_take] at hx;split at hx
    .exact hx
    .cases hx
   simp only[World.cell?,hh,Nat.zero_add];simpa using hx'
def Lx:LV->Bool
 |[]=>true
 |v::r=>v.oneCell'&&Lx r
theorem Ou:∀{l:LV},Lx l=true->∀u∈l,u.oneCell'=true
 |[],_,u,hu=>by simp at hu
 |v::r,h,u,hu=>by
  simp only[Lx,Bool.and_eq_true] at h;rcases List.mem_cons.1 hu with rfl|hu
  .exact h.1
  .exact Ou h.2 u hu
def Pw(w:World)(g:Nat)(o:Obj):World:={w with heap:=w.heap.setIfInBounds g o}
theorem Ta(w:World)(g:Nat)(o:Obj):w.grownBy (Pw w g o) (some g):=
 ⟨rfl,rfl,rfl,by simp[Pw],fun k _ hne=>by
  have:g≠k:=fun h=>hne (by rw[h])
  simp[Pw,Array.getElem?_setIfInBounds_ne this]⟩
theorem Ux(w:World)(g:Nat)(o:Obj)(h:g<w.heap.size):(Pw w g o).heap[g]? = some o:=by
 simp[Pw,h]
theorem Ag7{w:World}{g o:Nat}{cs:Array Value}{t:TypeId}{v:Value}(h:w.heap[g]? = some (.cells cs t (0,0))):
  w.setCell ⟨g,o,none⟩ v=Pw w g (.cells (cs.setIfInBounds o v) t (0,0)):=by
 have hlt:=Ec h;simp only[World.setCell,Pw];congr 1;apply Array.ext
 .simp
 ·intro i h1 h2;simp only[Array.getElem_modify];have hg:w.heap[g] = .cells cs t (0,0):=by
   rw[Array.getElem?_eq_getElem hlt] at h;injection h
  by_cases hi:g=i
  .subst hi;simp[hg]
  .have hi':i<w.heap.size:=by simpa using h1
   rw[Array.getElem_setIfInBounds_ne hi' hi];simp[hi]
theorem Aht(w:World)(g:Nat)(o o':Obj):Pw (Pw w g o) g o'=Pw w g o':=by simp[Pw]
def Ct(cs:Array Value)(o:Nat):LV->Array Value
 |[]=>cs
 |v::r=>Ct (cs.setIfInBounds o v) (o+1) r
theorem Mx(vs:LV):∀(cs:Array Value) (o:Nat),(Ct cs o vs).size=cs.size:=by
 induction vs with
 |nil=>intros;rfl
 |cons v r ih=>intro cs o;simp[Ct,ih]
theorem Io(P:Program)(g:Nat)(t:TypeId):∀ (vs:List Value) (i o:Nat) (cs:Array Value) (w:World),w.heap[g]? = some (.cells cs t (0,0))->o+i+vs.length<=cs.size->(∀ u∈vs,u.oneCell'=true) ->
  (storeCells ⟨g,o,none⟩ vs i).run P w=.ok () (if vs=[] then w else Pw w g (.cells (Ct cs (o+i) vs) t (0,0)))
 |[],i,o,cs,w,h,_,_=>by simp[storeCells]
 |v::r,i,o,cs,w,h,hl,h1=>by
  have hc:w.cell? ⟨g,o+i,none⟩=some (cs[o+i]'(by simp at hl;omega)):=by
   have hlt:o+i<cs.size:=by simp at hl;omega
   simp[World.cell?,h,hlt]
  have hf:w.frozen? ⟨g,o+i,none⟩=false:=by simp[World.frozen?,h]
  have hst:(store ⟨g,o+i,none⟩ v).run P w=.ok () (w.setCell ⟨g,o+i,none⟩ v):=by
   rw[run_store P w _ v _ (h1 v mS)];simp[hc,hf]
  simp only[storeCells,Addr.add_lit,Sem.run_bind,hst,Result.andThen_ok];rw[Ag7 h];have hlt:=Ec h;rw[Io P g t r (i+1) o (cs.setIfInBounds (o+i) v) _ (Ux w g _ hlt) (by simp at hl⊢;omega) (fun u hu=>h1 u (mO _ hu))];cases r with
  |nil=>simp[Ct]
  |cons v' r'=>simp[Aht,Ct,Nat.add_assoc]
theorem Spl.spec{cs o vs cs'}(h:Spl cs o vs cs'):o+vs.length<=cs.length\/vs=[]:=by
 induction h with
 |done=>exact .inr rfl
 |put h ih=>left;rcases ih with ih|rfl <;> simp at * <;> omega
 |skip h ih=>rcases ih with ih|rfl;left;simp;omega;exact .inr rfl
theorem Ac5(c:Value)(vs:LV):∀(cs:LV) (o:Nat),(Ct (c::cs).toArray (o+1) vs).toList=c::(Ct cs.toArray o vs).toList:=by
 induction vs with
 |nil=>intro cs o;simp[Ct]
 |cons v r ih=>
  intro cs o;simp only[Ct,List.setIfInBounds_toArray,List.set_cons_succ];rw[ih]
theorem Spl.write{cs o vs cs'}(h:Spl cs o vs cs'):(Ct cs.toArray o vs).toList=cs':=by
 induction h with
 |done=>simp[Ct]
 |put h ih=>
  simp only[Ct,List.setIfInBounds_toArray,List.set_cons_zero];rw[Ac5,ih]
 |skip h ih=>rw[Ac5,ih]
theorem Heap.store{w:World}{i g t cs cs' L'}(h:Heap L w)(hs:SetE L i (.m g t cs) (.m g t cs') L'):Heap L' (Pw w g (.cells cs'.toArray t (0,0))):=
 Heap.turn (e:=.m g t cs) (e':=.m g t cs') (Ta w g _) (Ux w g _ (Ec (h.ok _ hs.mem))) (nL _) (fun _ hg=>.inl hg) hs h
theorem Rm{x y g o t cs cs' v vs ty' i L'}(hx:evo fr x=some (.pointer (some ⟨g,o,none⟩)))(hy:evo fr y=some v)(hv:v.cells=vs.toArray)(hL:SetE L i (.m g t cs) (.m g t cs') L')(hs:Spl cs o vs cs')(h1:Lx vs=true)(h0:vs≠[])(hsz:∀w,(sizeOf ty').run P w=.ok vs.length w)(k:T n N fr L'):Wh P Q n ⟨none,.store ty' x y,ty,pos,after,guard⟩ fr L N:=by
 intro a w ha hw;have hb:w.heap[g]? = some (.cells cs.toArray t (0,0)):=hw.ok _ hL.mem;have hl:o+0+vs.length<=cs.toArray.size:=by
  rcases hs.spec with h|h
  .simpa using h
  .exact absurd h h0
 have hst:=Io P g t vs 0 o cs.toArray w hb hl (Ou h1);rw[iN h0] at hst;have hw':(Ct cs.toArray (o+0) vs)=cs'.toArray:=by
  have:=hs.write;rw[<-this];simp
 rw[hw'] at hst;have hrun:(execOp a.eval ⟨none,.store ty' x y,ty,pos,after,guard⟩).run P w=.ok .skip (Pw w g (.cells cs'.toArray t (0,0))):=by
  simp[execOp,ha.eval hx,ha.eval hy,Instr.storeAt,Instr.sureAddr,storeVar,hv,hsz w,hst]
 simp only[Oper.wp,hrun,Oper.upon_skip];exact k _ _ ha (hw.store hL)
theorem Akh{α:Type}{enc:α->List Value}{sz:Nat}(l:List α)(he:∀ x∈l,(enc x).length=sz)(x:α)(hx:(enc x).length=sz):
  ∀(j:Nat) (tail:LV),j<l.length->(Ct (l.flatMap enc++tail).toArray (j*sz) (enc x)).toList=(l.set j x).flatMap enc++tail:=by
 have wa:∀(vs pre old tail:LV),old.length=vs.length->(Ct (pre++old++tail).toArray pre.length vs).toList=pre++vs++tail:=by
  intro vs
  induction vs with
  |nil=>intro pre old tail h;have:old=[]:=List.eq_nil_of_length_eq_zero (by simpa using h);subst this;simp[Ct]
  |cons v r ih=>
   intro pre old tail h
   match old,h with
   |u::old',h=>
    simp only[Ct,List.setIfInBounds_toArray];have:(pre++u::old'++tail).set pre.length v=(pre++[v])++old'++tail:=by
     rw[List.append_assoc,List.set_append_right _ _ (nL _)];simp
    rw[this];have:=ih (pre++[v]) old' tail (by simpa using h);simp at this⊢;exact this
 intro j tail hj;have hsplit:l=l.take j++l[j]::l.drop (j+1):=by
  rw[<-List.drop_eq_getElem_cons hj,List.take_append_drop]
 have hlen:((l.take j).flatMap enc).length=j*sz:=by
  have:∀(m:List α),(∀y∈m,(enc y).length=sz)->(m.flatMap enc).length=m.length*sz:=by
   intro m
   induction m with
   |nil=>intro _;simp
   |cons y r ih=>intro h;rw[List.flatMap_cons,List.length_append,h y mS,ih (fun z hz=>h z (mO _ hz)),List.length_cons,Nat.succ_mul];omega
  rw[this _ (fun y hy=>he y (List.mem_of_mem_take hy)),List.length_take];congr 1;omega
 have h1:l.flatMap enc++tail=(l.take j).flatMap enc++enc l[j]++((l.drop (j+1)).flatMap enc++tail):=by
  have h0:=congrArg (fun m:List α=>m.flatMap enc++tail) hsplit;simp only[List.flatMap_append,List.flatMap_cons,List.append_assoc] at h0⊢;exact h0
 have h2:(l.set j x).flatMap enc++tail=(l.take j).flatMap enc++enc x++((l.drop (j+1)).flatMap enc++tail):=by
  rw[List.set_eq_take_append_cons_drop,iP hj];simp[List.flatMap_append,List.flatMap_cons,List.append_assoc]
 rw[h1,h2,<-hlen];exact wa _ _ _ _ (by rw[hx,he _ (gM hj)])
theorem Asz{α:Type}{enc:α->LV}{l:List α}{x y g o A c t sz v ty' i L'}{j:Nat}(u:α)(hx:evo fr x=some (.pointer (some ⟨g,o,none⟩)))(hy:evo fr y=some v)(hv:v.cells=(enc u).toArray)(hL:SetE L i (.r A l.length c t sz (l.flatMap enc)) (.r A l.length c t sz ((l.set j u).flatMap enc)) L')(hA:A=some ⟨g,0,none⟩)(ho:o=j*sz)(hj:j<l.length)(he:∀x∈l,(enc x).length=sz)(hu:(enc u).length=sz)(hz:0<sz)(h1:Lx (enc u)=true)(hsz:∀w,(sizeOf ty').run P w=.ok sz w)(k:T n N fr L'):Wh P Q n ⟨none,.store ty' x y,ty,pos,after,guard⟩ fr L N:=by
 intro a w ha hw;subst ho;subst hA;obtain⟨hl,h2⟩:=hw.ok _ hL.mem;rcases h2 with⟨hv',_⟩|⟨g',cap,cur,hv',_,hb,h3,h4,h5,h6⟩
 .cases hv'
 .injection hv' with hg _ hcap
  injection hg with hg
  injection hg with hg
  subst hg;subst hcap;have hne:enc u≠[]:=by intro h;rw[h] at hu;simp at hu;omega
  have hle:l.length*sz<=c*sz:=Nat.mul_le_mul_right _ h3;have hjl:j*sz+sz<=l.length*sz:=by rw[<-Nat.succ_mul];exact Nat.mul_le_mul_right _ hj
  have hst:=Io P g t (enc u) 0 (j*sz) cur w hb (by rw[hu,h5];omega) (Ou h1);rw[iN hne] at hst;have hrun:(execOp a.eval ⟨none,.store ty' x y,ty,pos,after,guard⟩).run P w=.ok .skip (Pw w g (.cells (Ct cur (j*sz+0) (enc u)) t (0,0))):=by
   simp[execOp,ha.eval hx,ha.eval hy,Instr.storeAt,Instr.sureAddr,storeVar,hv,hu,hsz w,hst]
  simp only[Oper.wp,hrun,Oper.upon_skip];refine k _ _ ha (Heap.turn (e:=.r (some ⟨g,0,none⟩) l.length c t sz (l.flatMap enc)) (e':=.r (some ⟨g,0,none⟩) l.length c t sz ((l.set j u).flatMap enc)) (Ta w g _) ?_ (nL _) (fun _ hg=>.inl hg) hL hw);have hcur:cur=(l.flatMap enc++cur.toList.drop (l.length*sz)).toArray:=by
   rw[<-h6,List.take_append_drop]
  have hwr:(Ct cur (j*sz+0) (enc u)).toList=(l.set j u).flatMap enc++cur.toList.drop (l.length*sz):=by
   rw[Nat.add_zero]
   conv=>lhs;rw[hcur]
   exact Akh l he u hu j _ hj
  have hfl:((l.set j u).flatMap enc).length=l.length*sz:=by
   have e1:(Ct cur (j*sz+0) (enc u)).toList.length=c*sz:=by rw[Array.length_toList,Mx,h5]
   have e2:=congrArg List.length hwr;have e3:cur.toList.length=c*sz:=by rw[Array.length_toList,h5]
   rw[e1,List.length_append,List.length_drop,e3] at e2;generalize ((l.set j u).flatMap enc).length=p at e2⊢;generalize l.length*sz=q at e2 hle ⊢;generalize c*sz=q' at e2 hle;omega
  refine⟨hfl,.inr ⟨g,c,_,rfl,Nat.zero_le _,Ux w g _ (Ec hb),h3,h4,by rw[Mx];exact h5,?_⟩⟩;rw[hwr,<-hfl];simp
structure Yq(P:Program)(t e:TypeId)(sz bytes:Nat):Prop where
 sl:P.underlying t=some (.slice e)
 ex:∃i z,P.info? e=some i/\i.zero=some z/\i.size=sz/\i.bytes=bytes/\z.cells.size=sz
 pos:0<sz
theorem As0{s x t e sz bytes A m c g B q q' t' i i' xs news ty'}{L' L2:Option Addr->Nat->List Ent}(hs:evo fr s=some (.slice A m c))(hx:evo fr x=some (.slice B q q'))(hB:B=some ⟨g,0,none⟩)(ht:Yq P t e sz bytes)(hL2:nthE L i'=some (.m g t' news))(hn:news.length=q*sz)(h1:Lx news=true)(hb:(m+q)*bytes<=140737488355328)(h63:m+q<=9223372036854775807)(hd:Nat.blt d n=true)(hL:∀ A' c',SetE L i (.r A m c e sz xs) (.r A' (m+q) c' e sz (xs++news)) (L' A' c'))(hsub:∀ A' c',HSub (L' A' c') (L2 A' c'))(k:∀ A' c',T n N ((d,.slice A' (m+q) c')::fr) (L2 A' c')):
  Wh P Q n ⟨some d,.call ⟨.builtin .append,#[s,x],#[t,t]⟩,ty',pos,after,guard⟩ fr L N:=by
 intro a w ha hw;subst hB;obtain⟨i0,z,e1,e2,e3,e4,e5⟩:=ht.ex;have hown:w.ownsRow 0 e sz (.slice A m c) m xs:=hw.ok _ (hL none 0).mem;have hnew:∀(j:Nat) (u:Value),news[j]? = some u->w.cell? ((⟨g,0,none⟩:Addr).add j)=some u:=fun j u hj=>by
  rw[Addr.add_lit,Us (hw.ok _ (Ee hL2))];simpa using hj
 obtain⟨v',w',hr,h2,h3,_,h5⟩:=run_append_own_at (P:=P) w 0 t ty' e i0 z sz bytes ht.sl e1 e2 e3 e4 e5 ht.pos (.slice A m c) m xs hown ⟨g,0,none⟩ q q' news hn hnew (Ou h1) (by unfold maxLen;omega) hb (Nat.zero_le _);have hv':∃A' c',v'=.slice A' (m+q) c':=by
  rcases h2.2 with⟨hv,h0⟩|⟨g',cap,cur,hv,_⟩
  .exact⟨none,0,by rw[hv,h0]⟩
  .exact⟨_,_,hv⟩
 obtain⟨A',c',rfl⟩:=hv';have hrun:(execOp a.eval ⟨some d,.call ⟨.builtin .append,#[s,x],#[t,t]⟩,ty',pos,after,guard⟩).run P w=.ok (.value (.slice A' (m+q) c')) w':=by
  simp[execOp,resolve,invoke,builtin,ha.eval hs,ha.eval hx,hr]
 simp only[Oper.wp,hrun,Oper.upon_value];refine k A' c' _ _ (ha.put hd) ((Heap.turn (e:=.r A m c e sz xs) (e':=.r A' (m+q) c' e sz (xs++news)) h3 h2 (nL _) (fun g' hg'=>?_) (hL A' c') hw).sub (hsub A' c'));simp only[Ent.blk] at hg' ⊢;rcases h5 with h5|h5
 .left;rw[<-h5];exact hg'
 .right;rw[h5] at hg';injection hg' with hg';omega
def Wp(P:Program)(f:FuncId): Prop:=∃fn, P.funcs[f]? = some fn /\ (fn.name == "runtime.NumGoroutine")=false /\ fn.body.isNone=false
def CtL(P:Program)(f:FuncId)(vs:LV)(w:World)(R:Value->LE->Prop):Prop :=
 Wp P f/\Calls P f vs.toArray w fun e w'=>∃v Ln,e=.returned v/\R v Ln/\(∀x∈Ln,x.low=0)/\Heap (Ln++[.old w]) w'
theorem Iz:∀x∈([]:LE),x.low=0:=fun _ h=>by simp at h
theorem Cj{e:Ent}{l:LE}(h:e.low=0)(h':∀x∈l,x.low=0):∀x∈e::l,x.low=0:=fun x hx=>by
 rcases List.mem_cons.1 hx with rfl|hx
 .exact h
 .exact h' x hx
theorem Ag8{f:FuncId}{xs:List Operand}{vs:List Value}{ts:Array TypeId}{ty':TypeId}{a:Act}{w:World}(hf:Wp P f)(ha:Fr n fr a)(hx:evos fr xs=some vs):
  (execOp a.eval ⟨dst,.call ⟨.value (.func f),xs.toArray,ts⟩,ty',pos,after,guard⟩).run P w=.ok (.enter f vs.toArray) w:=by
 obtain⟨fn,h1,h2,h3⟩:=hf;have:=ha.evals hx;have h2':fn.name ≠ "runtime.NumGoroutine" := by simpa using h2
 have h3':fn.body≠none:=by intro h;rw[h] at h3;cases h3
 simp[execOp,resolve,Deferred.ofValue,invoke,callFunc,Act.eval,this,h1,h2',h3']
theorem Gl{f:FuncId}{xs:List Operand}{vs:LV}{ts:Array TypeId}{ty':TypeId}{R:Value->LE->Prop}(hx:evos fr xs=some vs)(hc:∀w,Heap L w->CtL P f vs w R)(hd:Nat.blt d n=true)(k:∀v Ln,(∀x∈Ln,x.low=0)->R v Ln->T n N ((d,v)::fr) (Ln++L)):Wx P Q n ⟨some d,.call ⟨.value (.func f),xs.toArray,ts⟩,ty',pos,after,guard⟩ fr L N:=by
 intro a w ha hw;obtain⟨hf,hcall⟩:=hc w hw;simp only[Oper.wp,Ag8 hf ha hx,Oper.upon_enter];refine hcall.mono ?_;rintro e w' ⟨v,Ln,rfl,hR,hl,hh⟩;exact⟨hh.ok (.old w) (by simp),k v Ln hl hR _ _ (ha.put hd) (hw.join hl hh)⟩
def Yr:LV->Nat->lF
 |[],_=>[]
 |v::r,i=>(i,v)::Yr r (i+1)
theorem Ael:∀(vs:LV) (i t:Nat) (v:Value),look (Yr vs i) t=some v->i<=t/\vs[t-i]? = some v
 |[],i,t,v,h=>by simp[Yr,look] at h
 |u::r,i,t,v,h=>by
  simp only[Yr,look] at h;cases hb:Nat.beq i t with
  |true=>
   rw[hb] at h;have e:=Nat.eq_of_beq_eq_true hb;subst e;simpa using h
  |false=>
   rw[hb] at h;have e:=Nat.ne_of_beq_eq_false hb;obtain⟨h1,h2⟩:=Ael r (i+1) t v h;refine⟨by omega,?_⟩;rw[show t-i=(t-(i+1))+1 from by omega];simpa using h2
theorem Aq1(vs:LV)(m:Nat)(hm:vs.length<=m):Fr m (Yr vs 0) {tmps:=vs.toArray++Array.replicate (m-vs.toArray.size) undef,defers:=[]}:=by
 refine⟨rfl,by simp;omega,fun t v hv=>?_⟩;obtain⟨_,h⟩:=Ael vs 0 t v hv;simp only[Nat.sub_zero] at h;have hlt:t<vs.length:=(List.getElem?_eq_some_iff.1 h).1;rw[Array.getD_eq_getD_getElem?,Array.getElem?_append_left (by simpa using hlt)];simp[h]
theorem CtL.mk{f:FuncId}{fn:Func}{c:Code}{vs:LV}{w:World}{R:Value->LE->Prop}(m:Nat)(hf:P.funcs[f]? = some fn)(hb:fn.body=some c)(hm:fn.ntmps=m)(hn:(fn.name == "runtime.NumGoroutine")=false)(hl:Nat.ble vs.length m=true)(k:T m (c.wp P (bodyPost P fn fun e w'=>∃v Ln,e=.returned v/\R v Ln/\(∀x∈Ln,x.low=0)/\Heap (Ln++[.old w]) w')) (Yr vs 0) [.old w]):CtL P f vs w R:=by
 refine⟨⟨fn,hf,hn,by rw[hb];rfl⟩,calls_of_wp hf hb ?_⟩;rw[hm];exact k _ w (Aq1 vs m (Nat.le_of_ble_eq_true hl)) (Heap.old w)
inductive Res(P:Program)(fr:lF)(L:LE):List ResultVar->LV->Prop
 |nil:Res P fr L [] []
 |tmp {t v rs vs}:look fr t=some v->Res P fr L rs vs->Res P fr L (.tmp t::rs) (v::vs)
 |cell {t ty g i tt cs k rs vs}:look fr t=some (.pointer (some ⟨g,0,none⟩))->nthE L i=some (.m g tt cs)->cs.length=k->Uc P ty k->Res P fr L rs vs->Res P fr L (.cell t ty::rs) (.agg cs.toArray::vs)
 |cell1 {t ty g i tt v rs vs}:look fr t=some (.pointer (some ⟨g,0,none⟩))->nthE L i=some (.m g tt [v])->Ud P ty->Res P fr L rs vs->Res P fr L (.cell t ty::rs) (v::vs)
def Tb:LV->Value
 |[v]=>v
 |vs=>.tuple vs.toArray
def rone(tmps:Array Value):ResultVar->Sem Value
 |.tmp t=>pure (tmps.getD t undef)
 |.cell a t=>do loadVar t (<-asAddr (tmps.getD a undef))
theorem Aom(fn:Func)(tmps:Array Value):results fn tmps=(do
  let vs <-fn.results.mapM (rone tmps)
  pure (if h:vs.size=1 then vs[0] else .tuple vs)):=rfl
theorem Res.run{fn:Func}{rs vs}(hr:fn.results=rs.toArray)(h:Res P fr L rs vs){a:Act}{w:World}(ha:Fr n fr a)(hw:Heap L w):(results fn a.tmps).run P w=.ok (Tb vs) w:=by
 have key:∀{rs vs},Res P fr L rs vs->(rs.mapM (rone a.tmps)).run P w=.ok vs w:=by
  intro rs vs h
  induction h with
  |nil=>simp
  |@tmp t v rs vs h1 _ ih=>
   have h2:(rone a.tmps (.tmp t)).run P w=.ok v w:=by
    show (pure (a.tmps.getD t undef):Sem Value).run P w=_;rw[ha.val _ _ h1];rfl
   simp only[List.mapM_cons,Sem.run_bind,h2,Result.andThen_ok,ih,Sem.run_pure]
  |@cell t ty g i tt cs k rs vs h1 h2 h3 h4 _ ih=>
   have hl:=Wg h4 ⟨g,0,none⟩ cs h3 (w:=w) (fun j v hj=>by rw[Addr.add_lit,Us (hw.ok _ (Ee h2))];simpa using hj);have h2:(rone a.tmps (.cell t ty)).run P w=.ok (.agg cs.toArray) w:=by
    show ((asAddr (a.tmps.getD t undef)) >>= fun x=>loadVar ty x).run P w=_;rw[ha.val _ _ h1];simp[asAddr,hl]
   simp only[List.mapM_cons,Sem.run_bind,h2,Result.andThen_ok,ih,Sem.run_pure]
  |@cell1 t ty g i tt v rs vs h1 h2 h3 _ ih=>
   have hl:=Wi h3 ⟨g,0,none⟩ v (w:=w) (by rw[Us (hw.ok _ (Ee h2))];rfl);have h2:(rone a.tmps (.cell t ty)).run P w=.ok v w:=by
    show ((asAddr (a.tmps.getD t undef)) >>= fun x=>loadVar ty x).run P w=_;rw[ha.val _ _ h1];simp[asAddr,hl]
   simp only[List.mapM_cons,Sem.run_bind,h2,Result.andThen_ok,ih,Sem.run_pure]
 have hk:=key h;rw[Aom,hr,List.mapM_toArray];simp only[Sem.run_bind,Sem.run_map,hk,Result.andThen_ok,Sem.run_pure]
 match vs with
 |[]=>simp[Tb]
 |[v]=>simp[Tb]
 |v::u::r=>simp[Tb]
theorem Aq2{fn:Func}{R:Ending->World->Prop}{rs vs}(hr:fn.results=rs.toArray)(h:Res P fr L rs vs)(k:∀w,Heap L w->R (.returned (Tb vs)) w):T n (bodyPost P fn R .ret) fr L :=
 fun _ w ha hw=>bodyPost_ret (h.run hr ha hw) ha.nod (k w hw)
theorem Bec{fn:Func}{R:Ending->World->Prop}{rs vs}(hr:fn.results=rs.toArray)(h:Res P fr L rs vs)(k:∀w,Heap L w->R (.returned (Tb vs)) w):T n (bodyPost P fn R .normal) fr L :=
 fun _ w ha hw=>bodyPost_end (h.run hr ha hw) ha.nod (k w hw)
end
theorem oo{p:Prop}(h:p:=by omega):p:=h
theorem kr{p:Prop}(h:p:=by kernel_rfl):p:=h
theorem dD{p:Prop}(h:p:=by decide):p:=h
theorem s_{p:Prop}(h:p:=by simp):p:=h
abbrev iq(x:Int):Value:=.int .i64 x
end
end Go.Proofs.YtlejkgngmjchdaaGreat
