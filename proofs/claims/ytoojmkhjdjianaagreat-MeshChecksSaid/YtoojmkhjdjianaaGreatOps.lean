/- The values of the operations in the judgement T: one theorem an operation. -/
import Derived.Test.YtoojmkhjdjianaaGreatBase
namespace Go.Proofs.YtoojmkhjdjianaaGreat
open Go Go.RowKit

def nth:List Value->Nat->Option Value
 | [],_=>none
 | v::_,0=>some v
 | _::r,i+1=>nth r i
theorem Afs:∀ (cs:List Value) (i:Nat),nth cs i=cs[i]?
 | [],_=>by simp [nth]
 | v::r,0=>by simp [nth]
 | v::r,i+1=>by simp [nth,Afs r i]
def Xz:List Value->Nat->Option (List Value)
 | _,0=>some []
 | [],_+1=>none
 | v::r,k+1=>match Xz r k with
  | some l=>some (v::l)
  | none=>none
def Tg:List Value->Nat->Nat->Option (List Value)
 | cs,0,k=>Xz cs k
 | [],_+1,_=>none
 | _::r,o+1,k=>Tg r o k
theorem Aa6:∀ {cs:List Value} {k} {vs:List Value},Xz cs k=some vs->vs.length=k/\∀ (j:Nat) (v:Value),vs[j]? = some v->cs[j]? = some v
 | cs,0,vs,h=>by simp [Xz] at h;subst h;exact ⟨rfl,fun j v hj=>by simp at hj⟩
 | [],k+1,vs,h=>by simp [Xz] at h
 | c::r,k+1,vs,h=>by
  simp only [Xz] at h
  split at h
  ·rename_i l hl
   injection h with h;subst h
   obtain ⟨h1,h2⟩:=Aa6 hl
   refine ⟨by simp [h1],fun j v hj=>?_⟩
   cases j with
   | zero=>simpa using hj
   | succ j=>simp at hj ⊢;exact h2 j v hj
  ·cases h
theorem Ya:∀ {cs:List Value} {o k} {vs:List Value},Tg cs o k=some vs->vs.length=k/\∀ (j:Nat) (v:Value),vs[j]? = some v->cs[o+j]? = some v
 | cs,0,k,vs,h=>by
  have h':Xz cs k=some vs:=by cases cs <;> simpa [Tg] using h
  simpa using Aa6 h'
 | [],o+1,k,vs,h=>by simp [Tg] at h
 | c::r,o+1,k,vs,h=>by
  obtain ⟨h1,h2⟩:=Ya (cs:=r) (by simpa [Tg] using h)
  refine ⟨h1,fun j v hj=>?_⟩
  rw [show o+1+j=(o+j)+1 from by omega]
  simpa using h2 j v hj

inductive Spl:List Value->Nat->List Value->List Value->Prop
 | done {cs}:Spl cs 0 [] cs
 | put {c cs v vs cs'}:Spl cs 0 vs cs'->Spl (c::cs) 0 (v::vs) (v::cs')
 | skip {c cs o vs cs'}:Spl cs o vs cs'->Spl (c::cs) (o+1) vs (c::cs')

section
variable {P:Program}

def Nm (P:Program) (t:TypeId) (k:Nat):Prop:=(∀ w,(isAgg t).run P w = .ok true w)/\∀ w,(sizeOf t).run P w = .ok k w
def Nz (P:Program) (t:TypeId):Prop:=(∀ w,(isAgg t).run P w = .ok false w)/\∀ w,(sizeOf t).run P w = .ok 1 w
def Dg (P:Program) (s:TypeId) (f off:Nat):Prop :=
 ∃ fs fld k,P.underlying s=some (.struct fs)/\fs[f]? = some fld/\fld.offset=off/\(∀ w,(sizeOf fld.type).run P w = .ok k w)/\(k == 0)=false
def Jc (P:Program) (t e:TypeId) (sz:Nat):Prop:=P.underlying t=some (.slice e)/\∀ w,(sizeOf e).run P w = .ok sz w

theorem Nm.mk {t k d i} (hu:P.underlying t=some d) (hd:(d matches .struct _)=true) (hi:P.info? t=some i) (hk:i.size=k):Nm P t k:=by
 refine ⟨fun w=>?_,fun w=>by simp [sizeOf,typeInfo,hi,hk]⟩
 cases d <;> simp at hd
 simp [isAgg,run_underlying hu]
theorem Nz.mk {t d i} (hu:P.underlying t=some d) (hd:(d matches .struct _ | .array _ _)=false) (hi:P.info? t=some i) (hk:i.size=1):Nz P t:=by
 refine ⟨fun w=>?_,fun w=>by simp [sizeOf,typeInfo,hi,hk]⟩
 cases d <;> simp at hd <;> simp [isAgg,run_underlying hu]
theorem Dg.mk {s f off fs fld i k} (hu:P.underlying s=some (.struct fs)) (hf:fs[f]? = some fld) (ho:fld.offset=off) (hi:P.info? fld.type=some i) (hk:i.size=k) (h0:(k == 0)=false):Dg P s f off :=
 ⟨fs,fld,k,hu,hf,ho,fun w=>by simp [sizeOf,typeInfo,hi,hk],h0⟩
theorem Jc.mk {t e sz i} (hu:P.underlying t=some (.slice e)) (hi:P.info? e=some i) (hk:i.size=sz):Jc P t e sz :=
 ⟨hu,fun w=>by simp [sizeOf,typeInfo,hi,hk]⟩

variable {n:Nat} {fr:List (Nat × Value)} {L:List Ent}
variable {dst:Option Tmp} {ty:TypeId} {pos:String} {after:Array Edge} {guard:Option (Nat × Bool)}

theorem Akd {x v} (h:evo fr x=some v):Ev P n ⟨dst,.move x,ty,pos,after,guard⟩ fr L v:=fun a w ha _=>by
 simp [execOp,ha.eval h]
theorem Jl {x v} (h:evo fr x=some v):Ev P n ⟨dst,.assign x,ty,pos,after,guard⟩ fr L v:=fun a w ha _=>by
 simp [execOp,ha.eval h]
theorem Ag9 {c x y v} (hc:evo fr c=some (.bool true)) (hx:evo fr x=some v):Ev P n ⟨dst,.pick c x y,ty,pos,after,guard⟩ fr L v:=fun a w ha _=>by
 simp [execOp,ha.eval hc,ha.eval hx,asBool]
theorem Aha {c x y v} (hc:evo fr c=some (.bool false)) (hy:evo fr y=some v):Ev P n ⟨dst,.pick c x y,ty,pos,after,guard⟩ fr L v:=fun a w ha _=>by
 simp [execOp,ha.eval hc,ha.eval hy,asBool]
theorem An2 {x t b} (h:evo fr x=some (.bool b)):Ev P n ⟨dst,.unOp .not t x,ty,pos,after,guard⟩ fr L (.bool (!b)):=fun a w ha _=>by
 simp [execOp,ha.eval h,Op.unary]

theorem Ju {op:BinOp} {t t' x y k a b v} (hx:evo fr x=some (.int k a)) (hy:evo fr y=some (.int k b))
  (h:∀ w:World,(binOp op t (.int k a) (.int k b)).run P w = .ok v w):Ev P n ⟨dst,.binOp op t x y t',ty,pos,after,guard⟩ fr L v:=fun ac w ha _=>by
 simp [execOp,ha.eval hx,ha.eval hy,eqGuard_at_int,h]
theorem Aft {t t' x y k a b} (hx:evo fr x=some (.int k a)) (hy:evo fr y=some (.int k b)):Ev P n ⟨dst,.binOp .add t x y t',ty,pos,after,guard⟩ fr L (.int k (k.wrap (a+b))) :=
 Ju hx hy fun w=>by rw [binOp_add,Op.intArith];rfl
theorem Afu {t t' x y k a b} (hx:evo fr x=some (.int k a)) (hy:evo fr y=some (.int k b)):Ev P n ⟨dst,.binOp .sub t x y t',ty,pos,after,guard⟩ fr L (.int k (k.wrap (a-b))) :=
 Ju hx hy fun w=>by rw [binOp_sub,Op.intArith];rfl
theorem Afv {t t' x y k a b} (hx:evo fr x=some (.int k a)) (hy:evo fr y=some (.int k b)):Ev P n ⟨dst,.binOp .mul t x y t',ty,pos,after,guard⟩ fr L (.int k (k.wrap (a*b))) :=
 Ju hx hy fun w=>by rw [binOp_mul,Op.intArith];rfl
theorem Ake {t t' x y k a b} (hx:evo fr x=some (.int k a)) (hy:evo fr y=some (.int k b)) (h:b≠0):Ev P n ⟨dst,.binOp .quo t x y t',ty,pos,after,guard⟩ fr L (.int k (k.wrap (a.tdiv b))) :=
 Ju hx hy fun w=>by rw [binOp_quo,Op.intDiv,if_neg h];rfl
theorem Aai {t t' x y k a b} (hx:evo fr x=some (.int k a)) (hy:evo fr y=some (.int k b)) (h:b≠0):Ev P n ⟨dst,.binOp .rem t x y t',ty,pos,after,guard⟩ fr L (.int k (a.tmod b)) :=
 Ju hx hy fun w=>by rw [binOp_rem,Op.intDiv,if_neg h];rfl
theorem An3 {t t' x y k a b} (hx:evo fr x=some (.int k a)) (hy:evo fr y=some (.int k b)):Ev P n ⟨dst,.binOp .lss t x y t',ty,pos,after,guard⟩ fr L (.bool (decide (a < b))) :=
 Ju hx hy fun w=>by rw [binOp_lss];rfl
theorem An4 {t t' x y k a b} (hx:evo fr x=some (.int k a)) (hy:evo fr y=some (.int k b)):Ev P n ⟨dst,.binOp .leq t x y t',ty,pos,after,guard⟩ fr L (.bool (decide (a<=b))) :=
 Ju hx hy fun w=>by rw [binOp_leq];rfl
theorem An5 {t t' x y k a b} (hx:evo fr x=some (.int k a)) (hy:evo fr y=some (.int k b)):Ev P n ⟨dst,.binOp .gtr t x y t',ty,pos,after,guard⟩ fr L (.bool (decide (b < a))) :=
 Ju hx hy fun w=>by rw [binOp_gtr];rfl
theorem An6 {t t' x y k a b} (hx:evo fr x=some (.int k a)) (hy:evo fr y=some (.int k b)):Ev P n ⟨dst,.binOp .geq t x y t',ty,pos,after,guard⟩ fr L (.bool (decide (b<=a))) :=
 Ju hx hy fun w=>by rw [binOp_geq];rfl
theorem An7 {t t' x y k a b} (hx:evo fr x=some (.int k a)) (hy:evo fr y=some (.int k b)):Ev P n ⟨dst,.binOp .eql t x y t',ty,pos,after,guard⟩ fr L (.bool (decide (a=b))) :=
 Ju hx hy fun w=>by rw [binOp_eql];rfl
theorem An8 {t t' x y k a b} (hx:evo fr x=some (.int k a)) (hy:evo fr y=some (.int k b)):Ev P n ⟨dst,.binOp .neq t x y t',ty,pos,after,guard⟩ fr L (.bool (!decide (a=b))) :=
 Ju hx hy fun w=>by rw [binOp_neq];rfl
theorem Th (w:World) (d:Nat) {t:TypeId} (a b:Bool) (h:P.underlying t=some .bool):(Op.equalIn (d+1) t (.bool a) (.bool b)).run P w = .ok (a == b) w:=by
 simp [Op.equalIn,run_underlying h]
theorem An9 (w:World) {t:TypeId} (a b:Bool) (h:P.underlying t=some .bool):(binOp .eql t (.bool a) (.bool b)).run P w = .ok (.bool (a == b)) w:=by
 simp only [binOp];simp [Op.equal,Op.maxDepth,Th w 9999 a b h]
theorem Aoa (w:World) {t:TypeId} (a b:Bool) (h:P.underlying t=some .bool):(binOp .neq t (.bool a) (.bool b)).run P w = .ok (.bool (!(a == b))) w:=by
 simp only [binOp];simp [Op.equal,Op.maxDepth,Th w 9999 a b h]
theorem Arh {t t' x y a b} (hx:evo fr x=some (.bool a)) (hy:evo fr y=some (.bool b)) (h:P.underlying t=some .bool):Ev P n ⟨dst,.binOp .eql t x y t',ty,pos,after,guard⟩ fr L (.bool (a == b)):=fun ac w ha _=>by
 simp [execOp,ha.eval hx,ha.eval hy,eqGuard_at_bool,An9 w a b h]
theorem Ari {t t' x y a b} (hx:evo fr x=some (.bool a)) (hy:evo fr y=some (.bool b)) (h:P.underlying t=some .bool):Ev P n ⟨dst,.binOp .neq t x y t',ty,pos,after,guard⟩ fr L (.bool (!(a == b))):=fun ac w ha _=>by
 simp [execOp,ha.eval hx,ha.eval hy,eqGuard_at_bool,Aoa w a b h]

theorem Fh {s x f off b o sp} (hx:evo fr x=some (.pointer (some ⟨b,o,sp⟩))) (hf:Dg P s f off) (hs:sp=none) :
  Ev P n ⟨dst,.fieldAddr s x f,ty,pos,after,guard⟩ fr L (.pointer (some ⟨b,o+off,none⟩)):=fun a w ha _=>by
 obtain ⟨fs,fld,k,h1,h2,rfl,h4,h5⟩:=hf
 subst hs
 have h5':k≠0:=by intro h;subst h;simp at h5
 simp [execOp,ha.eval hx,Instr.fieldAt,run_underlying h1,h2,Instr.sureAddr,fieldPlace,h4,h5',Addr.add_lit]

theorem Rc {w:World} {g t cs} (h:Ent.ok w (.m g t cs)) (o:Nat):w.cell? ⟨g,o,none⟩=cs[o]?:=by
 have h':w.heap[g]? = some (.cells cs.toArray t (0,0)):=h
 simp [World.cell?,h']

theorem Vm {t k} (h:Nm P t k) (a:Addr) (ys:List Value) (hl:ys.length=k) {w:World} (hc:∀ j v,ys[j]? = some v->w.cell? (a.add j)=some v) :
  (loadVar t a).run P w = .ok (.agg ys.toArray) w:=by
 subst hl
 simp [loadVar,h.1 w,h.2 w,run_loadCells_list _ _ ys hc]
theorem Sg {t} (h:Nz P t) (a:Addr) (v:Value) {w:World} (hc:w.cell? a=some v):(loadVar t a).run P w = .ok v w:=by
 simp [loadVar,h.1 w,hc]

theorem Bl {x g o i t cs v ty'} (hx:evo fr x=some (.pointer (some ⟨g,o,none⟩))) (hi:nthE L i=some (.m g t cs)) (hv:nth cs o=some v) (ht:Nz P ty') :
  Ev P n ⟨dst,.load ty' x,ty,pos,after,guard⟩ fr L v:=fun a w ha hw=>by
 have hc:w.cell? ⟨g,o,none⟩=some v:=by rw [Rc (hw _ (Eh hi)),<- Afs];exact hv
 simp [execOp,ha.eval hx,Instr.loadAt,Instr.sureAddr,Sg ht _ v hc]
theorem Jv {x g o i t cs vs k ty'} (hx:evo fr x=some (.pointer (some ⟨g,o,none⟩))) (hi:nthE L i=some (.m g t cs)) (hv:Tg cs o k=some vs) (ht:Nm P ty' k) :
  Ev P n ⟨dst,.load ty' x,ty,pos,after,guard⟩ fr L (.agg vs.toArray):=fun a w ha hw=>by
 obtain ⟨h1,h2⟩:=Ya hv
 have hc:∀ j v,vs[j]? = some v->w.cell? ((⟨g,o,none⟩:Addr).add j)=some v:=fun j v hj=>by
  rw [Addr.add_lit,Rc (hw _ (Eh hi))];exact h2 j v hj
 simp [execOp,ha.eval hx,Instr.loadAt,Instr.sureAddr,Vm ht _ vs h1 hc]

def Pt (K:List Ent) (b o:Nat) (ys:List Value):Prop:=∀ w,(∀ e∈K,Ent.ok w e)->∀ j u,ys[j]? = some u->w.cell? ⟨b,o+j,none⟩=some u
structure SubE (K L:List Ent):Prop where
 ok:∀ w:World,(∀ e∈L,Ent.ok w e)->∀ e∈K,Ent.ok w e
theorem SubE.of {K L:List Ent} (h:∀ e∈K,e∈L):SubE K L:=⟨fun _ hw e he=>hw e (h e he)⟩
theorem SubE.refl {L}:SubE L L:=⟨fun _ h=>h⟩
theorem SubE.cons {K L e} (h:SubE K L):SubE K (e::L):=⟨fun w hw=>h.ok w (fun x hx=>hw x (List.mem_cons_of_mem _ hx))⟩
theorem SubE.nth {L i e} (h:nthE L i=some e):SubE [e] L:=.of fun x hx=>by simp at hx;subst hx;exact Eh h

theorem Px {x b o ys v K ty'} {d:Nat} (hx:evo fr x=some (.pointer (some ⟨b,o+d,none⟩))) (hp:Pt K b o ys) (hK:SubE K L) (hv:nth ys d=some v) (ht:Nz P ty') :
  Ev P n ⟨dst,.load ty' x,ty,pos,after,guard⟩ fr L v:=fun a w ha hw=>by
 have hc:w.cell? ⟨b,o+d,none⟩=some v:=hp w (hK.ok w hw) d v (by rw [<- Afs];exact hv)
 simp [execOp,ha.eval hx,Instr.loadAt,Instr.sureAddr,Sg ht _ v hc]
theorem Dj {x b o ys v K ty'} (hx:evo fr x=some (.pointer (some ⟨b,o,none⟩))) (hp:Pt K b o ys) (hK:SubE K L) (hv:nth ys 0=some v) (ht:Nz P ty') :
  Ev P n ⟨dst,.load ty' x,ty,pos,after,guard⟩ fr L v:=Px (d:=0) (by simpa using hx) hp hK hv ht
theorem Aaj {x b o ys vs k K ty'} {d:Nat} (hx:evo fr x=some (.pointer (some ⟨b,o+d,none⟩))) (hp:Pt K b o ys) (hK:SubE K L) (hv:Tg ys d k=some vs) (ht:Nm P ty' k) :
  Ev P n ⟨dst,.load ty' x,ty,pos,after,guard⟩ fr L (.agg vs.toArray):=fun a w ha hw=>by
 obtain ⟨h1,h2⟩:=Ya hv
 have hc:∀ j v,vs[j]? = some v->w.cell? ((⟨b,o+d,none⟩:Addr).add j)=some v:=fun j v hj=>by
  rw [Addr.add_lit,Nat.add_assoc];exact hp w (hK.ok w hw) _ v (h2 j v hj)
 simp [execOp,ha.eval hx,Instr.loadAt,Instr.sureAddr,Vm ht _ vs h1 hc]
theorem Hn {x b o ys vs k K ty'} (hx:evo fr x=some (.pointer (some ⟨b,o,none⟩))) (hp:Pt K b o ys) (hK:SubE K L) (hv:Tg ys 0 k=some vs) (ht:Nm P ty' k) :
  Ev P n ⟨dst,.load ty' x,ty,pos,after,guard⟩ fr L (.agg vs.toArray):=Aaj (d:=0) (by simpa using hx) hp hK hv ht

structure Sl {α:Type} (w:World) (A:Option Addr) (n c sz:Nat) (enc:α->List Value) (l:List α):Prop where
 len:l.length=n
 nc:n<=c
 cap:c<=maxLen
 esz:∀ x∈l,(enc x).length=sz
 at_:0 < n->∃ b o,A=some ⟨b,o,none⟩/\∀ i (h:i < l.length) j u,(enc l[i])[j]? = some u->w.cell? ⟨b,o+i*sz+j,none⟩=some u
structure Has {α:Type} (K:List Ent) (A:Option Addr) (n c sz:Nat) (enc:α->List Value) (l:List α):Prop where
 len:l.length=n
 nc:n<=c
 cap:c<=maxLen
 esz:∀ x∈l,(enc x).length=sz
 at_:0 < n->∃ b o,A=some ⟨b,o,none⟩/\∀ i (h:i < l.length),Pt K b (o+i*sz) (enc l[i])

theorem Sl.has {α:Type} {w:World} {A n c sz} {enc:α->List Value} {l:List α} (h:Sl w A n c sz enc l):Has [.old w] A n c sz enc l:=by
 refine ⟨h.len,h.nc,h.cap,h.esz,fun hn=>?_⟩
 obtain ⟨b,o,hA,hc⟩:=h.at_ hn
 refine ⟨b,o,hA,fun i hi w' hw' j u hu=>?_⟩
 have hb:Below w.heap.size w w':=(hw' (.old w) (by simp)).1
 have:=hc i hi j u hu
 rw [<- this]
 exact hb.cell (p:=⟨b,o+i*sz+j,none⟩) (World.block_lt_of_cell? _ _ this)
theorem Has.at {α:Type} {K L:List Ent} {w:World} {A n c sz} {enc:α->List Value} {l:List α} (h:Has K A n c sz enc l) (hK:SubE K L) (hw:Heap L w):Sl w A n c sz enc l:=by
 refine ⟨h.len,h.nc,h.cap,h.esz,fun hn=>?_⟩
 obtain ⟨b,o,hA,hc⟩:=h.at_ hn
 exact ⟨b,o,hA,fun i hi j u hu=>hc i hi w (hK.ok w hw.ok) j u hu⟩
theorem Has.up {α:Type} {K L:List Ent} {A n c sz} {enc:α->List Value} {l:List α} (h:Has K A n c sz enc l) (hK:SubE K L):Has L A n c sz enc l:=by
 refine ⟨h.len,h.nc,h.cap,h.esz,fun hn=>?_⟩
 obtain ⟨b,o,hA,hc⟩:=h.at_ hn
 exact ⟨b,o,hA,fun i hi w hw j u hu=>hc i hi w (hK.ok w hw) j u hu⟩
theorem Has.elem {α:Type} {K:List Ent} {A n c sz} {enc:α->List Value} {l:List α} (h:Has K A n c sz enc l) {i:Nat} (hi:i < l.length) :
  ∃ b o,A=some ⟨b,o,none⟩/\Pt K b (o+i*sz) (enc l[i]):=by
 obtain ⟨b,o,hA,hc⟩:=h.at_ (by have:=h.len;omega)
 exact ⟨b,o,hA,hc i hi⟩

theorem Bo {t e sz x ix A m c b o k i} {j:Nat} (hx:evo fr x=some (.slice A m c)) (hi:evo fr ix=some (.int k i)) (hA:A=some ⟨b,o,none⟩) (hj:i=(j:Int)) (hlt:j < m) (ht:Jc P t e sz) :
  Ev P n ⟨dst,.indexAddr t x ix,ty,pos,after,guard⟩ fr L (.pointer (some ⟨b,o+j*sz,none⟩)):=fun a w ha _=>by
 subst hA;subst hj
 simp [execOp,ha.eval hx,ha.eval hi,Instr.indexAt,asIntOf,run_underlying ht.1,hlt,ht.2 w,Addr.add_lit]
theorem Fc {t x A m c ty'} (hx:evo fr x=some (.slice A m c)) (e:TypeId) (ht:P.underlying t=some (.slice e)) :
  Ev P n ⟨dst,.call ⟨.builtin .len,#[x],#[t]⟩,ty',pos,after,guard⟩ fr L (.int .i64 (m:Int)):=fun a w ha _=>by
 simp [execOp,resolve,invoke,builtin,ha.eval hx,Builtin.len_,run_underlying ht,goInt]
theorem Al0 {t x hi A m c e sz k2 j} {q:Nat} (hx:evo fr x=some (.slice A m c)) (hh:evo fr hi=some (.int k2 j)) (ht:Jc P t e sz)
  (hq:j=(q:Int)) (h2:q<=c) :
  Ev P n ⟨dst,.slice t x none (some hi) none,ty,pos,after,guard⟩ fr L (.slice A q c):=fun a w ha _=>by
 subst hq
 have:(if c=0 then A else A.map (·.add (0*sz)))=A:=by
  split
  ·rfl
  ·cases A <;> simp [Addr.add]
 simp [execOp,ha.eval hx,ha.eval hh,Instr.sliceAt,Instr.slice,run_underlying ht.1,Instr.sliceBounds,Instr.sliceBound,asIntOf,h2,ht.2 w,Addr.add]
theorem Al1 {t x lo A m c e sz k1 i} {p:Nat} (hx:evo fr x=some (.slice A m c)) (hl:evo fr lo=some (.int k1 i)) (ht:Jc P t e sz)
  (hp:i=(p:Int)) (h1:p<=m) :
  Ev P n ⟨dst,.slice t x (some lo) none none,ty,pos,after,guard⟩ fr L (.slice (if c=p then A else A.map (·.add (p*sz))) (m-p) (c-p)):=fun a w ha _=>by
 subst hp
 simp [execOp,ha.eval hx,ha.eval hl,Instr.sliceAt,Instr.slice,run_underlying ht.1,Instr.sliceBounds,Instr.sliceBound,asIntOf,h1,ht.2 w]

theorem Ach {x i vs v} (hx:evo fr x=some (.tuple vs)) (hv:vs[i]? = some v):Ev P n ⟨dst,.extract x i,ty,pos,after,guard⟩ fr L v:=fun a w ha _=>by
 simp [execOp,ha.eval hx,Instr.extract,hv]

def evps (fr:List (Nat × Value)):List (Nat × Operand)->Option (List (Nat × Value))
 | []=>some []
 | (i,x)::r=>match evo fr x,evps fr r with
  | some v,some vs=>some ((i,v)::vs)
  | _,_=>none
theorem Fr.evalps {a} (h:Fr n fr a):∀ {xs vs},evps fr xs=some vs->xs.map (fun (i,x)=>(i,a.eval x))=vs:=by
 intro xs
 induction xs with
 | nil=>intro vs hv;simp [evps] at hv;subst hv;rfl
 | cons x r ih =>
  obtain ⟨i,x⟩:=x
  intro vs hv
  simp only [evps] at hv
  split at hv
  ·rename_i v vs' h1 h2
   injection hv with hv;subst hv
   simp [h.eval h1,ih h2]
  ·cases hv
def Hj (P:Program) (t:TypeId) (ps:List (Nat × Value)) (cs:List Value):Prop:=∀ w,(Instr.build t ps.toArray).run P w = .ok (.agg cs.toArray) w
theorem Dy {t xs ps cs} (hx:evps fr xs=some ps) (hb:Hj P t ps cs):Ev P n ⟨dst,.build t xs.toArray,ty,pos,after,guard⟩ fr L (.agg cs.toArray):=fun a w ha _=>by
 have:=ha.evalps hx
 simp [execOp,this,hb w]

theorem Afw {x y k a b ts ty'} (hx:evo fr x=some (.int k a)) (hy:evo fr y=some (.int k b)) :
  Ev P n ⟨dst,.call ⟨.builtin .min,#[x,y],ts⟩,ty',pos,after,guard⟩ fr L (.int k (min a b)):=fun ac w ha _=>by
 have e:(if b < a then b else a)=min a b:=by rw [Int.min_def];split <;> split <;> omega
 simp [execOp,resolve,invoke,builtin,ha.eval hx,ha.eval hy,Builtin.min_,Builtin.min2,e]
theorem Afx {x y k a b ts ty'} (hx:evo fr x=some (.int k a)) (hy:evo fr y=some (.int k b)) :
  Ev P n ⟨dst,.call ⟨.builtin .max,#[x,y],ts⟩,ty',pos,after,guard⟩ fr L (.int k (max a b)):=fun ac w ha _=>by
 have e:(if b > a then b else a)=max a b:=by rw [Int.max_def];split <;> split <;> omega
 simp [execOp,resolve,invoke,builtin,ha.eval hx,ha.eval hy,Builtin.max_,Builtin.max2,e]
theorem Ab0 {src dt x k k' v} (hx:evo fr x=some (.int k v)) (hs:(P.underlying src).isSome=true) (hd:P.underlying dt=some (.int k')) :
  Ev P n ⟨dst,.convert src dt x,ty,pos,after,guard⟩ fr L (.int k' (k'.wrap v)):=fun ac w ha _=>by
 obtain ⟨d,hs⟩:=Option.isSome_iff_exists.1 hs
 simp [execOp,ha.eval hx,convert,run_underlying hs,run_underlying hd,Conv.intToInt]
end
end Go.Proofs.YtoojmkhjdjianaaGreat
