/- A walk that takes its steps by itself. -/
import Derived.Test.YtgfiafnelibjgaaGreatFlow17
import Derived.Test.YtgfiafnelibjgaaGreatFlow22
import Derived.Test.YtgfiafnelibjgaaGreatDraw2
namespace Go.Proofs.YtgfiafnelibjgaaGreat
open Go Go.RowKit
/-! ### facts on types, found by their numbers -/
class Jy (P:Program) (s:TypeId) (f:Nat) (off:outParam Nat):Prop where
 h:Fw P s f off
class OneI (P:Program) (t:TypeId):Prop where
 h:Oi P t
class AggI (P:Program) (t:TypeId) (k:outParam Nat):Prop where
 h:Nk P t k
class Mh (P:Program) (t:TypeId) (e sz:outParam Nat):Prop where
 h:Jq P t e sz
class Aa4 (P:Program) (t:TypeId) (e sz bytes:outParam Nat):Prop where
 h:Tg P t e sz bytes
class Wn (P:Program) (t:TypeId) (cs:outParam (List Value)):Prop where
 h:Nb P t cs
class Oa (P:Program) (t:TypeId) (ps:List (Nat × Value)) (cs:outParam (List Value)):Prop where
 h:Kn P t ps cs
class Ms (P:Program) (t:TypeId) (len:Nat) (ps:List (Nat × Value)) (e:outParam TypeId) (cs:outParam (List Value)):Prop where
 h:Dy P t len ps e cs
class Arh (P:Program) (s:TypeId) (xs:List Value) (f:Nat) (v:outParam Value):Prop where
 h:An9 P s xs f v
class UndI (P:Program) (t:TypeId) (u:outParam TypeDesc):Prop where
 h:P.underlying t=some u
class EqSI (P:Program) (t:TypeId) (xs ys:List Value) (r:outParam Bool):Prop where
 h:∀ w,(Op.equalIn 10000 t (.agg xs.toArray) (.agg ys.toArray)).run P w = .ok r w
 g:P.eqGuardType P.depth t=false
class ArrI (P:Program) (t:TypeId) (m sz:outParam Nat):Prop where
 h:Ack P t m sz
class MixI (P:Program):Prop where
 h:P.follows .mixedOrders=true
/-- The cells of one element; what element cells are. -/
class EncI (t:TypeId) {α:outParam Type} (enc:outParam (α→List Value)):Prop where
 h:True
class DecI {α:Type} (enc:α→List Value) (cs:List Value) (x:outParam α):Prop where
 h:cs=enc x
class Ys {α:Type} (ve:α→Value) (v:Value) (x:outParam α):Prop where
 h:v=ve x
class KeyI (P:Program) (k:TypeId) {κ:outParam Type} (ke:outParam (κ→Value)) (rng:outParam (κ→Prop)):Prop where
 h:Maps.Keyed P k
 inj:∀ x y,ke x=ke y→x=y
 isk:∀ x,rng x→(keyOf P k (ke x)).isSome=true
class ValI (P:Program) (e:TypeId) {υ:outParam Type} (ve:outParam (υ→Value)) (z0:outParam υ):Prop where
 inj:∀ x y,ve x=ve y→x=y
 z:∀ w,(zeroValue e).run P w = .ok (ve z0) w
class MkI (P:Program) (t:TypeId) (e sz bytes:outParam Nat) {α:outParam Type} (enc:outParam (α→List Value)) (x0:outParam α):Prop where
 h:∃ i z,P.underlying t=some (.slice e)∧P.info? e=some i∧i.zero=some z∧enc x0=z.cells.toList∧i.size=sz∧i.bytes=bytes
class Asj (P:Program) (t:TypeId) (xs:List Value):Prop where
 h:Ah7 P t xs
class Ao3 (P:Program) (t:TypeId) (xs:List Value) {α:outParam Type} (f:outParam (α→Value)) (ys:outParam (List α)):Prop where
 h:Ae3 P t xs (ys.map f)
class UnfI {α:Type} (f:α→Value) (x:α) (v:outParam Value):Prop where
 h:f x=v
class ResI (fn:Func) (rs:outParam (List ResultVar)):Prop where
 h:fn.results=rs.toArray
/-- What a function does: where its plain function gives r. -/
class Con {ρ:Type} (F:Option ρ) (P:outParam Program) (f:outParam FuncId) (Pre:outParam (List Ent→List Value→Prop)) (Post:outParam (List Ent→ρ→Value→List Ent→Prop)):Prop where
 h:∀ K vs r,Pre K vs→F=some r→∀ w,(∀ e∈K,Ent.ok w e)→CtL P f vs w (Post K r)
/-- A contract at hand. -/
structure Cn (P:Program) (f:FuncId) (Pre:List Ent→List Value→Prop) (Post:List Ent→Value→List Ent→Prop):Prop where
 h:∀ K vs,Pre K vs→∀ w,(∀ e∈K,Ent.ok w e)→CtL P f vs w (Post K)
theorem cn {ρ:Type} {F:Option ρ} {P:Program} {f:FuncId} {Pre:List Ent→List Value→Prop} {Post:List Ent→ρ→Value→List Ent→Prop} [hc:Con F P f Pre Post] {r:ρ} (h:F=some r):Cn P f Pre (fun K=>Post K r):=⟨fun K vs hp w hK=>hc.h K vs r hp h w hK⟩
/-- A size that is known. -/
class SzI (P:Program) (t:TypeId) (k:outParam Nat):Prop where
 h:∀ w,(sizeOf t).run P w = .ok k w
instance {P t} [h:OneI P t]:SzI P t 1:=⟨h.h.2⟩
instance {P t k} [h:AggI P t k]:SzI P t k:=⟨h.h.2⟩

/-! ### plain functions are laid open -/
theorem Akm {α ρ:Type} {o:Option α} {k:α→Option ρ} {x:α} {r:Option ρ} (h:bnd o k=r) (hx:o=some x):k x=r:=by subst hx;exact h
theorem Ao4 {α ρ:Type} {o:Option α} {k:α→Option ρ} {r:ρ} {G:Prop} (h:bnd o k=some r) (K:∀ x,o=some x→k x=some r→G):G:=let ⟨x,h1,h2⟩:=Ag h;K x h1 h2
theorem Ao5 {α ρ:Type} {o:Option α} {P:Program} {f:FuncId} {Pre:List Ent→List Value→Prop} {Post:List Ent→α→Value→List Ent→Prop} [hc:Con o P f Pre Post] {k:α→Option ρ} {r:ρ} {G:Prop} (h:bnd o k=some r) (K:∀ x,o=some x→Cn P f Pre (fun K=>Post K x)→k x=some r→G):G:=let ⟨x,h1,h2⟩:=Ag h;K x h1 (cn h1) h2
theorem Asl {ρ:Type} {p:Prop} [Decidable p] {k:Option ρ} {r:ρ} {G:Prop} (h:gd p k=some r) (K:p→k=some r→G):G:=let ⟨h1,h2⟩:=Bp h;K h1 h2
theorem Ao6 {σ τ ρ:Type} {B:σ→Option (Sum σ τ)} {s:σ} {K:τ→Option ρ} {r:Option ρ} (_:bnd (lfix B s) K=r):True:=trivial
theorem Ao7 {τ ρ:Type} {k:τ→Option ρ} {x:(τ→Option ρ)→Option ρ} {r:Option ρ} (h:jn k x=r):x k=r:=h
theorem Ao8 {ρ:Type} [Decidable (true=true)] {a b:Option ρ} {r:Option ρ} (h:(if true=true then a else b)=r):a=r:=by rw [if_pos rfl] at h;exact h
theorem Ao9 {ρ:Type} [Decidable (false=true)] {a b:Option ρ} {r:Option ρ} (h:(if false=true then a else b)=r):b=r:=by rw [if_neg Bool.false_ne_true] at h;exact h
/-- A mark in the context. -/
structure Mark:Prop where
 h:True
structure Wr (G:Prop):Prop where
 out:G

section
variable {P:Program} {n:Nat} {ops:Array Oper} {Q:Exit→Act→World→Prop} {fr:List (Nat × Value)} {L:List Ent} {rest:List Oper} {N:Act→World→Prop}
variable {d i:Nat} {op:Op} {dst:Option Tmp} {ty:TypeId} {pos:String} {after:Array Edge} {guard:Option (Nat × Bool)}
variable {cls:Cls} {A0:List (List Nat)} {RL:List Nat} {R:World→Prop} {p alt:Plan} {os:List Nat} {guard':Option (Nat × Bool)}
/-! ### of what kind a goal is -/
theorem Akn {o:Oper} (h:T n (wpList P ops Q (o::rest)) fr L):T n (wpList P ops Q (o::rest)) fr L:=h
theorem Is_b (h:PB P ops Q cls n (i::os) fr L):PB P ops Q cls n (i::os) fr L:=h
theorem Ari {t x v} (h:Ev P n ⟨dst,.load t x,ty,pos,after,guard⟩ fr L v):Ev P n ⟨dst,.load t x,ty,pos,after,guard⟩ fr L v:=h
theorem Atl {o t x y u v} (h:Ev P n ⟨dst,.binOp o t x y u,ty,pos,after,guard⟩ fr L v):Ev P n ⟨dst,.binOp o t x y u,ty,pos,after,guard⟩ fr L v:=h
theorem Arj {t x y v} (h:Ev P n ⟨dst,.convert t x y,ty,pos,after,guard⟩ fr L v):Ev P n ⟨dst,.convert t x y,ty,pos,after,guard⟩ fr L v:=h
theorem Ark {c v} (h:Ev P n ⟨dst,.call c,ty,pos,after,guard⟩ fr L v):Ev P n ⟨dst,.call c,ty,pos,after,guard⟩ fr L v:=h
/-! ### values -/
inductive AtE:List Ent→Ent→Prop
 | here {e L}:AtE (e::L) e
 | there {x e L}:AtE L e→AtE (x::L) e
theorem AtE.nth {L e} (h:AtE L e):∃ i,nthE L i=some e:=by
 induction h with
 | here=>exact ⟨0,rfl⟩
 | there _ ih=>obtain ⟨i,hi⟩:=ih;exact ⟨i+1,hi⟩
theorem Apa {s x f off b o} [hf:Jy P s f off] (hx:evo fr x=some (.pointer (some ⟨b,o,none⟩))):Ev P n ⟨dst,.fieldAddr s x f,ty,pos,after,guard⟩ fr L (.pointer (some ⟨b,o+off,none⟩)):=Dh hx hf.h rfl
theorem Apb {x g o t cs v ty'} [ht:OneI P ty'] (hx:evo fr x=some (.pointer (some ⟨g,o,none⟩))) (hi:AtE L (.m g t cs)) (hv:nth cs o=some v):Ev P n ⟨dst,.load ty' x,ty,pos,after,guard⟩ fr L v:=by
 obtain ⟨_,hi⟩:=hi.nth;exact Au hx hi hv ht.h
theorem Apc {x g o t cs vs k ty'} [ht:AggI P ty' k] (hx:evo fr x=some (.pointer (some ⟨g,o,none⟩))) (hi:AtE L (.m g t cs)) (hv:Sk cs o k=some vs):Ev P n ⟨dst,.load ty' x,ty,pos,after,guard⟩ fr L (.agg vs.toArray):=by
 obtain ⟨_,hi⟩:=hi.nth;exact Ba hx hi hv ht.h
theorem Aul {x b o ys v K ty'} [ht:OneI P ty'] (hx:evo fr x=some (.pointer (some ⟨b,o,none⟩))) (hp:Pt K b o ys) (hK:SubE K L) (hv:nth ys 0=some v):Ev P n ⟨dst,.load ty' x,ty,pos,after,guard⟩ fr L v:=De hx hp hK hv ht.h
theorem Aum {x b o ys v K ty'} {q:Nat} [ht:OneI P ty'] (hx:evo fr x=some (.pointer (some ⟨b,o+q,none⟩))) (hp:Pt K b o ys) (hK:SubE K L) (hv:nth ys q=some v):Ev P n ⟨dst,.load ty' x,ty,pos,after,guard⟩ fr L v:=Dn hx hp hK hv ht.h
theorem Atm {x b o ys vs k K ty'} [ht:AggI P ty' k] (hx:evo fr x=some (.pointer (some ⟨b,o,none⟩))) (hp:Pt K b o ys) (hK:SubE K L) (hv:Sk ys 0 k=some vs):Ev P n ⟨dst,.load ty' x,ty,pos,after,guard⟩ fr L (.agg vs.toArray):=Fe hx hp hK hv ht.h
theorem Aun {x b o ys vs k K ty'} {q:Nat} [ht:AggI P ty' k] (hx:evo fr x=some (.pointer (some ⟨b,o+q,none⟩))) (hp:Pt K b o ys) (hK:SubE K L) (hv:Sk ys q k=some vs):Ev P n ⟨dst,.load ty' x,ty,pos,after,guard⟩ fr L (.agg vs.toArray):=Aai hx hp hK hv ht.h
theorem Auo {x b o ys v K ty'} {q r:Nat} [ht:OneI P ty'] (hx:evo fr x=some (.pointer (some ⟨b,o+q+r,none⟩))) (hp:Pt K b o ys) (hK:SubE K L) (hv:nth ys (q+r)=some v):Ev P n ⟨dst,.load ty' x,ty,pos,after,guard⟩ fr L v:=Dn (d:=q+r) (by rw [← Nat.add_assoc];exact hx) hp hK hv ht.h
theorem Atn {x b o ys vs k K ty'} {q r:Nat} [ht:AggI P ty' k] (hx:evo fr x=some (.pointer (some ⟨b,o+q+r,none⟩))) (hp:Pt K b o ys) (hK:SubE K L) (hv:Sk ys (q+r) k=some vs):Ev P n ⟨dst,.load ty' x,ty,pos,after,guard⟩ fr L (.agg vs.toArray):=Aai (d:=q+r) (by rw [← Nat.add_assoc];exact hx) hp hK hv ht.h
theorem Aio {x i v} {l:List Value} (hx:evo fr x=some (.tuple l.toArray)) (hv:nth l i=some v):Ev P n ⟨dst,.extract x i,ty,pos,after,guard⟩ fr L v:=Adl hx (by rw [Af2] at hv;simpa using hv)
theorem Arl {t:TypeId} {x i:Operand} {kd k:IntKind} {xs:List Value} {ys:List Int} {z v:Int} (hx:evo fr x=some (.agg xs.toArray)) (hi:evo fr i=some (.int k z)) (hz:idx ys z=some v) (hxs:xs=ys.map (Value.int kd)) (hV:Asj P t xs):Ev P n ⟨dst,.index t x i,ty,pos,after,guard⟩ fr L (.int kd v):=Alr hx hxs hi hV.h hz
theorem Arm {α:Type} {f:α→Value} {t:TypeId} {x i:Operand} {k:IntKind} {xs:List Value} {ys:List α} {z:Int} {v:α} {v':Value} (hx:evo fr x=some (.agg xs.toArray)) (hi:evo fr i=some (.int k z)) (hV:Ao3 P t xs f ys) (hz:idx ys z=some v) (hv:UnfI f v v'):Ev P n ⟨dst,.index t x i,ty,pos,after,guard⟩ fr L v':=Ah9 hx rfl hi hV.h hz hv.h
theorem Arn {t t':TypeId} {x y:Operand} {a b c:Int} (hx:evo fr x=some (.int .i64 a)) (hy:evo fr y=some (.int .i64 b)) (h:Acr a b c):Ev P n ⟨dst,.binOp .add t x y t',ty,pos,after,guard⟩ fr L (.int .i64 c):=Aq2 hx hy h.h
theorem Aro {t t':TypeId} {x y:Operand} {k:IntKind} {a b c:Int} (hx:evo fr x=some (.int k a)) (hy:evo fr y=some (.int k b)) (h:Aj1 a b c):Ev P n ⟨dst,.binOp .rem t x y t',ty,pos,after,guard⟩ fr L (.int k c):=Aq3 hx hy h.nz h.h
theorem Ato {f:FuncId} {xs:List Operand} {vs:List Value} {ts:Array TypeId} {G:Prop} {v:Value} (hx:evos fr xs=some vs) (h:ExtI P f vs G v) (hG:G):Ev P n ⟨dst,.call ⟨.value (.func f),xs.toArray,ts⟩,ty,pos,after,guard⟩ fr L v:=Ath hx (h.h hG)
theorem Atp {t x A m c e ty'} [ht:UndI P t (.slice e)] (hx:evo fr x=some (.slice A m c)):Ev P n ⟨dst,.call ⟨.builtin .len,#[x],#[t]⟩,ty',pos,after,guard⟩ fr L (.int .i64 ((m:Nat):Int)):=Dj hx e ht.h
theorem Apd {t xs ps cs} (hx:evps fr xs=some ps) (hb:Oa P t ps cs):Ev P n ⟨dst,.build t xs.toArray,ty,pos,after,guard⟩ fr L (.agg cs.toArray):=Ey hx hb.h
theorem Amb {s x xs f v} (hx:evo fr x=some (.agg xs.toArray)) (hf:Arh P s xs f v):Ev P n ⟨dst,.field s x f,ty,pos,after,guard⟩ fr L v:=Alq hx hf.h
theorem Atq {t t' x y xs ys r} (hx:evo fr x=some (.agg xs.toArray)) (hy:evo fr y=some (.agg ys.toArray)) (h:EqSI P t xs ys r):Ev P n ⟨dst,.binOp .eql t x y t',ty,pos,after,guard⟩ fr L (.bool r):=Abk hx hy h.g h.h
theorem Atr {t t' x y xs ys r} (hx:evo fr x=some (.agg xs.toArray)) (hy:evo fr y=some (.agg ys.toArray)) (h:EqSI P t xs ys r):Ev P n ⟨dst,.binOp .neq t x y t',ty,pos,after,guard⟩ fr L (.bool (!r)):=Aqu hx hy h.g h.h
theorem Ats {t t' x y a b} [h:UndI P t .bool] (hx:evo fr x=some (.bool a)) (hy:evo fr y=some (.bool b)):Ev P n ⟨dst,.binOp .eql t x y t',ty,pos,after,guard⟩ fr L (.bool (a == b)):=Ar4 hx hy h.h
theorem Att {t t' x y a b} [h:UndI P t .bool] (hx:evo fr x=some (.bool a)) (hy:evo fr y=some (.bool b)):Ev P n ⟨dst,.binOp .neq t x y t',ty,pos,after,guard⟩ fr L (.bool (!(a == b))):=Ar5 hx hy h.h
theorem Atu {src dt x k v u} [hs:UndI P src u] [hd:UndI P dt (.int .i64)] (hx:evo fr x=some (.int k v)):Ev P n ⟨dst,.convert src dt x,ty,pos,after,guard⟩ fr L (.int .i64 (w64 v)):=Ag9 hx (by rw [hs.h];rfl) hd.h
theorem Arp {src dt x k v u} [hs:UndI P src u] [hd:UndI P dt (.int .u64)] (hx:evo fr x=some (.int k v)):Ev P n ⟨dst,.convert src dt x,ty,pos,after,guard⟩ fr L (.int .u64 (wu64 v)):=Ta hx (by rw [hs.h];rfl) hd.h
theorem Arq {src dt x k v u} [hs:UndI P src u] [hd:UndI P dt (.int .u32)] (hx:evo fr x=some (.int k v)):Ev P n ⟨dst,.convert src dt x,ty,pos,after,guard⟩ fr L (.int .u32 (wu32 v)):=Tb hx (by rw [hs.h];rfl) hd.h
theorem Atv {src dt x k v u} [hs:UndI P src u] [hd:UndI P dt (.int .u8)] (hx:evo fr x=some (.int k v)):Ev P n ⟨dst,.convert src dt x,ty,pos,after,guard⟩ fr L (.int .u8 (wu8 v)):=Ahc hx (by rw [hs.h];rfl) hd.h
/-! ### elements -/
/-- Where an element lies. -/
structure IxAt (A:Option Addr) (m:Nat) (z:Int) (sz b o:Nat):Prop where
 h:∃ o0 j:Nat,A=some ⟨b,o0,none⟩∧z=(j:Int)∧j < m∧o=o0+j*sz
theorem Ape {α:Type} {KK:List Ent} {A m c sz} {enc:α→List Value} {l:List α} {x ix:Operand} {kd:IntKind} {z:Int} {x0:α} {t e:TypeId} (hx:evo fr x=some (.slice A m c)) (hix:evo fr ix=some (.int kd z)) (hs:Has KK A m c sz enc l) (hi:idx l z=some x0) (ht:Jq P t e sz) :
  ∃ b o,(∀ {dst:Option Tmp} {ty:TypeId} {pos:String} {after:Array Edge} {guard:Option (Nat × Bool)} L,Ev P n ⟨dst,.indexAddr t x ix,ty,pos,after,guard⟩ fr L (.pointer (some ⟨b,o,none⟩)))∧Pt KK b o (enc x0)∧IxAt A m z sz b o:=by
 obtain ⟨b,o,j,hA,hj,hl,hp⟩:=hs.at_idx hi
 exact ⟨b,o+j*sz,fun L=>Bc hx hix hA (j:=j) hj hl ht,hp,⟨o,j,hA,hj,hl,rfl⟩⟩
section
variable {α:Type} {KK:List Ent} {A:Option Addr} {m c sz:Nat} {enc:α→List Value} {l:List α} {x ix:Operand} {kd:IntKind} {z:Int} {x0:α} {t e:TypeId}
theorem T_ix [ht:Mh P t e sz] (hx:evo fr x=some (.slice A m c)) (hix:evo fr ix=some (.int kd z)) (hs:Has KK A m c sz enc l) (hi:idx l z=some x0) (hd:Nat.blt d n=true)
  (k:∀ b o,Pt KK b o (enc x0)→IxAt A m z sz b o→T n (wpList P ops Q rest) ((d,.pointer (some ⟨b,o,none⟩))::fr) L):T n (wpList P ops Q (⟨some d,.indexAddr t x ix,ty,pos,after,none⟩ :: rest)) fr L:=by
 obtain ⟨b,o,h1,h2,h3⟩:=Ape (P:=P) (n:=n) hx hix hs hi ht.h;exact Ao (h1 L) hd (k b o h2 h3)
theorem Apf {j s:Nat} {b0:Bool} [ht:Mh P t e sz] (hj:(ops[j]?).bind (·.dst)=some s) (hg:look fr s=some (.bool b0)) (hsn:Nat.blt s n=true) (hx:evo fr x=some (.slice A m c)) (hix:evo fr ix=some (.int kd z)) (hs:Has KK A m c sz enc l) (hi:idx l z=some x0) (hd:Nat.blt d n=true)
  (k:∀ b o,Pt KK b o (enc x0)→IxAt A m z sz b o→T n (wpList P ops Q rest) ((d,.pointer (some ⟨b,o,none⟩))::fr) L):T n (wpList P ops Q (⟨some d,.indexAddr t x ix,ty,pos,after,some (j,b0)⟩ :: rest)) fr L:=by
 obtain ⟨b,o,h1,h2,h3⟩:=Ape (P:=P) (n:=n) hx hix hs hi ht.h;exact Ex hj hg hsn (h1 L) hd (k b o h2 h3)
theorem B_ix (hc:Nat.beq (cls.getD i 9) 0=true) (ho:ops[i]? = some ⟨some d,.indexAddr t x ix,ty,pos,after,guard⟩) (hg:Rq ops n fr guard) (hx:evo fr x=some (.slice A m c)) (hix:evo fr ix=some (.int kd z)) (hs:Has KK A m c sz enc l) (hi:idx l z=some x0) (ht:Mh P t e sz) (hd:Nat.blt d n=true)
  (k:∀ b o,Pt KK b o (enc x0)→IxAt A m z sz b o→PB P ops Q cls n os ((d,.pointer (some ⟨b,o,none⟩))::fr) L):PB P ops Q cls n (i::os) fr L:=by
 obtain ⟨b,o,h1,h2,h3⟩:=Ape (P:=P) (n:=n) hx hix hs hi ht.h;exact B_p hc ho hg (h1 []) hd (k b o h2 h3)
theorem Rb {r:TypeId} (hc:Nat.beq (cls.getD i 9) 0=true) (hk:AtE L (.r A m c r sz (l.flatMap enc))) (hz:Nat.blt 0 sz=true) (he:∀ x,(enc x).length=sz) (k:Has [.r A m c r sz (l.flatMap enc)] A m c sz enc l→PB P ops Q cls n (i::os) fr L):PB P ops Q cls n (i::os) fr L:=by
 obtain ⟨_,hk⟩:=hk.nth
 refine Auq (by rw [Nat.eq_of_beq_eq_true hc];rfl) fun a w _ hw=>k (Has.ofRow (Nat.le_of_ble_eq_true hz) he (hw.ok _ (Gn hk)))
/-- An own row reads as a list. -/
theorem Ra {r:TypeId} (hk:AtE L (.r A m c r sz (l.flatMap enc))) (hz:Nat.blt 0 sz=true) (he:∀ x,(enc x).length=sz) (k:Has [.r A m c r sz (l.flatMap enc)] A m c sz enc l→T n N fr L):T n N fr L:=by
 obtain ⟨_,hk⟩:=hk.nth;exact Afj hk (Nat.le_of_ble_eq_true hz) he (fun _ h=>k h)
theorem Asm {r:TypeId} [ht:Mh P t e sz] (hx:evo fr x=some (.slice A m c)) (hk:AtE L (.r A m c r sz (l.flatMap enc))) (hix:evo fr ix=some (.int kd z)) (hi:idx l z=some x0) (hd:Nat.blt d n=true) (hz:Nat.blt 0 sz=true) (he:∀ x,(enc x).length=sz)
  (k:∀ b o,Pt [.r A m c r sz (l.flatMap enc)] b o (enc x0)→IxAt A m z sz b o→T n (wpList P ops Q rest) ((d,.pointer (some ⟨b,o,none⟩))::fr) L):T n (wpList P ops Q (⟨some d,.indexAddr t x ix,ty,pos,after,none⟩ :: rest)) fr L:=Ra hk hz he fun hs=>T_ix hx hix hs hi hd k
theorem Apg {j s:Nat} {b0:Bool} {r:TypeId} [ht:Mh P t e sz] (hj:(ops[j]?).bind (·.dst)=some s) (hg:look fr s=some (.bool b0)) (hsn:Nat.blt s n=true) (hx:evo fr x=some (.slice A m c)) (hk:AtE L (.r A m c r sz (l.flatMap enc))) (hix:evo fr ix=some (.int kd z)) (hi:idx l z=some x0) (hd:Nat.blt d n=true) (hz:Nat.blt 0 sz=true) (he:∀ x,(enc x).length=sz)
  (k:∀ b o,Pt [.r A m c r sz (l.flatMap enc)] b o (enc x0)→IxAt A m z sz b o→T n (wpList P ops Q rest) ((d,.pointer (some ⟨b,o,none⟩))::fr) L):T n (wpList P ops Q (⟨some d,.indexAddr t x ix,ty,pos,after,some (j,b0)⟩ :: rest)) fr L:=Ra hk hz he fun hs=>Apf hj hg hsn hx hix hs hi hd k
theorem Asn {r:TypeId} (hc:Nat.beq (cls.getD i 9) 0=true) (ho:ops[i]? = some ⟨some d,.indexAddr t x ix,ty,pos,after,guard⟩) (hg:Rq ops n fr guard) (hx:evo fr x=some (.slice A m c)) (hk:AtE L (.r A m c r sz (l.flatMap enc))) (hix:evo fr ix=some (.int kd z)) (hi:idx l z=some x0) (ht:Mh P t e sz) (hd:Nat.blt d n=true) (hz:Nat.blt 0 sz=true) (he:∀ x,(enc x).length=sz)
  (k:∀ b o,Pt [.r A m c r sz (l.flatMap enc)] b o (enc x0)→IxAt A m z sz b o→PB P ops Q cls n os ((d,.pointer (some ⟨b,o,none⟩))::fr) L):PB P ops Q cls n (i::os) fr L:=Rb hc hk hz he fun hs=>B_ix hc ho hg hx hix hs hi ht hd k
end
/-- Cells that are numbers. -/
inductive DecZ (kd:IntKind):List Value→List Int→Prop
 | nil:DecZ kd [] []
 | cons {x cs ys}:DecZ kd cs ys→DecZ kd (.int kd x::cs) (x::ys)
theorem DecZ.eq {kd cs ys} (h:DecZ kd cs ys):cs=ys.flatMap (fun x=>[Value.int kd x])++[]:=by
 induction h with
 | nil=>rfl
 | cons _ ih=>rw [List.flatMap_cons,List.append_assoc,← ih];rfl
theorem Arr {t x ix g o k m sz t' cs kd ys} {z v:Int} [ht:ArrI P t m sz] (hx:evo fr x=some (.pointer (some ⟨g,o,none⟩))) (hi:evo fr ix=some (.int k z)) (hL:AtE L (.m g t' cs)) (hc:DecZ kd (cs.drop o) ys) (hl:ys.length=m) (hz:idx ys z=some v):Ev P n ⟨dst,.indexAddr t x ix,ty,pos,after,guard⟩ fr L (.pointer (some ⟨g,o+z.toNat*sz,none⟩)):=by
 subst hl
 exact Ar hx hi ht.h (Abm hz).1 (Abm hz).2 rfl
theorem Ars {t x ix g o k m sz} {ys:List Int} {z v:Int} [ht:ArrI P t m sz] (hx:evo fr x=some (.pointer (some ⟨g,o,none⟩))) (hi:evo fr ix=some (.int k z)) (hz:idx ys z=some v) (hl:ys.length=m):Ev P n ⟨dst,.indexAddr t x ix,ty,pos,after,guard⟩ fr L (.pointer (some ⟨g,o+z.toNat*sz,none⟩)):=by
 subst hl
 exact Ar hx hi ht.h (Abm hz).1 (Abm hz).2 rfl
theorem Aph {x g o t cs ty' kd ys} {z v:Int} [ht:OneI P ty'] (hx:evo fr x=some (.pointer (some ⟨g,o+z.toNat*1,none⟩))) (hL:AtE L (.m g t cs)) (hc:DecZ kd (cs.drop o) ys) (hz:idx ys z=some v):Ev P n ⟨dst,.load ty' x,ty,pos,after,guard⟩ fr L (.int kd v):=by
 obtain ⟨_,hL⟩:=hL.nth
 exact Aoc (fun x=>[Value.int kd x]) hx hL hz hc.eq (fun _=>rfl) rfl ht.h
theorem Art {t m sz} {x:Operand} {g o:Nat} [ht:ArrI P t m sz] (hx:evo fr x=some (.pointer (some ⟨g,o,none⟩))) (hm:Nat.beq m 0=false):Ev P n ⟨dst,.slice t x none none none,ty,pos,after,guard⟩ fr L (.slice (some ⟨g,o,none⟩) m m):=Ara hx ht.h hm
theorem Atw {t x ix g o k m sz} {z:Int} [ht:ArrI P t m sz] (hx:evo fr x=some (.pointer (some ⟨g,o,none⟩))) (hi:evo fr ix=some (.int k z)) (h0:0≤z) (h1:z < (m:Int)) {off:Nat} (ho:z.toNat*sz=off):Ev P n ⟨dst,.indexAddr t x ix,ty,pos,after,guard⟩ fr L (.pointer (some ⟨g,o+off,none⟩)):=Ar hx hi ht.h h0 h1 ho
section
open Maps
variable {κ υ:Type} {ke:κ→Value} {ve:υ→Value} {k e:TypeId} {t:TypeId} {g:Nat} {mo ko vo:Operand} {kv vv:Value} {x:κ} {m:List (κ × υ)} {rng:κ→Prop} {z0:υ}
theorem Api [hu:UndI P t (.map k e)] [hK:KeyI P k ke rng] [hV:ValI P e ve z0] (hm:evo fr mo=some (.map (some g))) (hL:AtE L (Aq P k ke ve g m)) (hk:evo fr ko=some kv) (hd:Ys ke kv x) (hr:rng x) {u:υ} (hz:some ((mget m x).getD z0)=some u) (hq:vv=ve u):Ev P n ⟨dst,.lookup t mo ko false,ty,pos,after,guard⟩ fr L vv:=by
 obtain ⟨_,hL⟩:=hL.nth;exact Ux hK.h hu.h hV.z hK.inj hm hk hd.h hL Gd (hK.isk x hr) hz hq
theorem Amc [hu:UndI P t (.map k e)] [hK:KeyI P k ke rng] [hV:ValI P e ve z0] (hm:evo fr mo=some (.map (some g))) (hL:AtE L (Aq P k ke ve g m)) (hk:evo fr ko=some kv) (hd:Ys ke kv x) (hr:rng x) {u:υ} (hz:some ((mget m x).getD z0)=some u) (hq:vv=ve u):Ev P n ⟨dst,.lookup t mo ko true,ty,pos,after,guard⟩ fr L (.tuple #[vv,.bool (mget m x).isSome]):=by
 obtain ⟨_,hL⟩:=hL.nth;exact Na hK.h hu.h hV.z hK.inj hm hk hd.h hL Gd (hK.isk x hr) hz hq
theorem Aru {t':TypeId} [hu:UndI P t (.map k e)] (hm:evo fr mo=some (.map (some g))) (hL:AtE L (Aq P k ke ve g m)):Ev P n ⟨dst,.call ⟨.builtin .len,#[mo],#[t]⟩,t',pos,after,guard⟩ fr L (.int .i64 (m.length:Int)):=by
 obtain ⟨_,hL⟩:=hL.nth;exact Ac6 hu.h hm hL Gd
theorem Oq [hu:UndI P t (.map k e)] [hK:KeyI P k ke rng] [hV:ValI P e ve z0] (hd:Nat.blt d n=true) (kk:∀ g,T n N ((d,.map (some g))::fr) (Aq P k ke ve g []::L)):Wx P Q n ⟨some d,.makeMap t none,ty,pos,after,guard⟩ fr L N:=Rd P k ke ve hd kk
theorem Nj {x:Operand} {q:IntKind} {z:Int} [hu:UndI P t (.map k e)] [hK:KeyI P k ke rng] [hV:ValI P e ve z0] (hx:evo fr x=some (.int q z)) (hd:Nat.blt d n=true) (kk:∀ g,T n N ((d,.map (some g))::fr) (Aq P k ke ve g []::L)):Wx P Q n ⟨some d,.makeMap t (some x),ty,pos,after,guard⟩ fr L N:=Afh P k ke ve hu.h hx hd kk
end
/-! ### effects -/
/-- An entry that is replaced. -/
inductive RepE:List Ent→Ent→(Ent→List Ent)→Prop
 | here {e L}:RepE (e::L) e (fun z=>z::L)
 | there {x L e f}:RepE L e f→RepE (x::L) e (fun z=>x::f z)
theorem RepE.of {L e f} (h:RepE L e f):∃ i,∀ z,SetE L i e z (f z):=by
 induction h with
 | here=>exact ⟨0,fun _=>.here⟩
 | there _ ih=>obtain ⟨i,hi⟩:=ih;exact ⟨i+1,fun z=>.there (hi z)⟩
section
open Maps
variable {κ υ:Type} {ke:κ→Value} {ve:υ→Value} {k e:TypeId} {t:TypeId} {g:Nat} {mo ko vo:Operand} {kv vv:Value} {x:κ} {y:υ} {m:List (κ × υ)} {rng:κ→Prop}
theorem Afo {f:Ent→List Ent} [hu:UndI P t (.map k e)] [hK:KeyI P k ke rng] (hm:evo fr mo=some (.map (some g))) (hk:evo fr ko=some kv) (hv:evo fr vo=some vv) (hL:RepE L (Aq P k ke ve g m) f) (hd:Ys ke kv x) (hy:Ys ve vv y) (hr:rng x) (hn:m.length < 9223372036854775807)
  (kk:T n N fr (f (Aq P k ke ve g (mput m x y)))):Wh P Q n ⟨none,.mapUpdate t mo ko vo,ty,pos,after,guard⟩ fr L N:=by
 obtain ⟨_,hL⟩:=hL.of;exact Oo hK.h hK.inj hu.h hm hk hd.h hv hy.h (hL _) (hK.isk x hr) hn kk
theorem Afp {f:Ent→List Ent} [hu:UndI P t (.map k e)] [hK:KeyI P k ke rng] (hm:evo fr mo=some (.map (some g))) (hk:evo fr ko=some kv) (hL:RepE L (Aq P k ke ve g m) f) (hd:Ys ke kv x) (hr:rng x)
  (kk:T n N fr (f (Aq P k ke ve g (mdel m x)))):Wh P Q n ⟨none,.call ⟨.builtin .delete,#[mo,ko],#[t,k]⟩,ty,pos,after,guard⟩ fr L N:=by
 obtain ⟨_,hL⟩:=hL.of;exact Sz hK.h hK.inj hu.h hm hk hd.h (hL _) (hK.isk x hr) kk
end
section
variable {α:Type} {enc:α→List Value} {l:List α} {x0:α} {s x:Operand} {t e sz bytes:Nat} {A:Option Addr} {m c g q':Nat} {t':TypeId} {cs:List Value} {ty':TypeId}
theorem Vw {f:Ent→List Ent} {y:Operand} {z:Int} {o:Nat} {u:α} {v:Value} {vs:List Value} [hs:SzI P ty' sz] (hx:evo fr x=some (.pointer (some ⟨g,o,none⟩))) (hy:evo fr y=some v) (hI:IxAt A l.length z sz g o) (hr:RepE L (.r A l.length c e sz (l.flatMap enc)) f) (hv:v.cells=vs.toArray) (hdec:DecI enc vs u) (he:∀ x,(enc x).length=sz) (hz:Nat.blt 0 sz=true) (h1:Mi vs=true)
  (k:T n N fr (f (.r A l.length c e sz ((setI l z u).flatMap enc)))):Wh P Q n ⟨none,.store ty' x y,ty,pos,after,guard⟩ fr L N:=by
 obtain ⟨i,hr⟩:=hr.of
 obtain ⟨o0,j,hA,hj,hl,ho⟩:=hI.h
 intro a w ha hw
 have hok:=hw.ok _ (hr (.r A l.length c e sz ((setI l z u).flatMap enc))).mem
 have hA0:∃ g,A=some ⟨g,0,none⟩:=by
  obtain ⟨_,h⟩:=hok
  rcases h with ⟨hv,h0⟩ | ⟨g,cap,cur,hv,_⟩
  ·injection hv with h1 h2 h3;omega
  ·injection hv with h1 h2 h3;exact ⟨g,h1⟩
 obtain ⟨g',hA'⟩:=hA0
 have e0:g'=g∧0=o0:=by
  rw [hA'] at hA
  injection hA with h1;injection h1 with h1 h2 h3
  exact ⟨h1,h2⟩
 obtain ⟨rfl,rfl⟩:=e0
 subst ho
 exact Zy enc l z u hx hy (by rw [hv,hdec.h]) (hr _) hA rfl hj hl he (Nat.le_of_ble_eq_true hz) (by rw [← hdec.h];exact h1) hs.h k a w ha hw
theorem Abs {f:Ent→List Ent} {L1:List Ent} [ht:Aa4 P t e sz bytes] (hs:evo fr s=some (.slice A m c)) (hx:evo fr x=some (.slice (some ⟨g,0,none⟩) 1 q')) (hr:RepE L1 (.r A m c e sz (l.flatMap enc)) f) (hdec:DecI enc cs x0) (hb:(l.length+1)*bytes≤140737488355328) (he:∀ x,(enc x).length=sz) (h1:Mi cs=true) (hd:Nat.blt d n=true) (h0:Nat.blt 0 bytes=true)
  (k:∀ A' c',T n N ((d,.slice A' (l++[x0]).length c')::fr) (f (.r A' (l++[x0]).length c' e sz ((l++[x0]).flatMap enc)))):Wh P Q n ⟨some d,.call ⟨.builtin .append,#[s,x],#[t,t]⟩,ty',pos,after,guard⟩ fr (.m g t' cs::L1) N:=by
 obtain ⟨_,hr⟩:=hr.of
 exact Hm (i':=0) (L':=fun A' c'=>.m g t' cs::f (.r A' (l++[x0]).length c' e sz ((l++[x0]).flatMap enc))) (L2:=fun A' c'=>f (.r A' (l++[x0]).length c' e sz ((l++[x0]).flatMap enc))) enc l [x0] hs hx rfl ht.h he rfl (by rw [hdec.h];simp) rfl h1 hb hd (fun A' c'=>.there (hr _)) (fun _ _=>.drop .refl) (Nat.le_of_ble_eq_true h0) k
theorem Yt {L1:List Ent} [ht:Aa4 P t e sz bytes] [hE:EncI e enc] (hs:evo fr s=some (.slice none 0 0)) (hx:evo fr x=some (.slice (some ⟨g,0,none⟩) 1 q')) (hdec:DecI enc cs x0) (hb:(([]:List α).length+1)*bytes≤140737488355328) (he:∀ x,(enc x).length=sz) (h1:Mi cs=true) (hd:Nat.blt d n=true) (h0:Nat.blt 0 bytes=true)
  (k:∀ A' c',T n N ((d,.slice A' (([]:List α)++[x0]).length c')::fr) (.r A' (([]:List α)++[x0]).length c' e sz ((([]:List α)++[x0]).flatMap enc)::L1)):Wh P Q n ⟨some d,.call ⟨.builtin .append,#[s,x],#[t,t]⟩,ty',pos,after,guard⟩ fr (.m g t' cs::L1) N:=by
 intro a w ha hw
 exact Bo (N:=fun a w=>(⟨some d,.call ⟨.builtin .append,#[s,x],#[t,t]⟩,ty',pos,after,guard⟩:Oper).wp P a w N Q) e sz (fun a w ha hw=>Hm (i:=0) (i':=1) (L2:=fun A' c'=>.r A' (([]:List α)++[x0]).length c' e sz ((([]:List α)++[x0]).flatMap enc)::L1) (L':=fun A' c'=>.r A' (([]:List α)++[x0]).length c' e sz ((([]:List α)++[x0]).flatMap enc) :: .m g t' cs::L1) enc [] [x0] hs hx rfl ht.h he rfl (by rw [hdec.h];simp) rfl h1 hb hd (fun A' c'=>.here) (fun _ _=>.keep (.drop .refl)) (Nat.le_of_ble_eq_true h0) k a w ha hw) a w ha hw
theorem Afq {f:Ent→List Ent} [ht:Aa4 P t e sz bytes] (hs:evo fr s=some (.slice A m c)) (hx:evo fr x=some (.slice (some ⟨g,0,none⟩) 1 q')) (hr:RepE L (.r A m c e sz (l.flatMap enc)) f) (hm:AtE L (.m g t' cs)) (hdec:DecI enc cs x0) (hb:(l.length+1)*bytes≤140737488355328) (he:∀ x,(enc x).length=sz) (h1:Mi cs=true) (hd:Nat.blt d n=true) (h0:Nat.blt 0 bytes=true)
  (k:∀ A' c',T n N ((d,.slice A' (l++[x0]).length c')::fr) (f (.r A' (l++[x0]).length c' e sz ((l++[x0]).flatMap enc)))):Wh P Q n ⟨some d,.call ⟨.builtin .append,#[s,x],#[t,t]⟩,ty',pos,after,guard⟩ fr L N:=by
 obtain ⟨_,hr⟩:=hr.of
 obtain ⟨_,hm⟩:=hm.nth
 exact Hm (L2:=fun A' c'=>f (.r A' (l++[x0]).length c' e sz ((l++[x0]).flatMap enc))) enc l [x0] hs hx rfl ht.h he hm (by rw [hdec.h];simp) rfl h1 hb hd (fun A' c'=>hr _) (fun _ _=>.refl) (Nat.le_of_ble_eq_true h0) k
theorem Abt [ht:Aa4 P t e sz bytes] [hE:EncI e enc] (hs:evo fr s=some (.slice none 0 0)) (hx:evo fr x=some (.slice (some ⟨g,0,none⟩) 1 q')) (hm:AtE L (.m g t' cs)) (hdec:DecI enc cs x0) (hb:(([]:List α).length+1)*bytes≤140737488355328) (he:∀ x,(enc x).length=sz) (h1:Mi cs=true) (hd:Nat.blt d n=true) (h0:Nat.blt 0 bytes=true)
  (k:∀ A' c',T n N ((d,.slice A' (([]:List α)++[x0]).length c')::fr) (.r A' (([]:List α)++[x0]).length c' e sz ((([]:List α)++[x0]).flatMap enc)::L)):Wh P Q n ⟨some d,.call ⟨.builtin .append,#[s,x],#[t,t]⟩,ty',pos,after,guard⟩ fr L N:=by
 obtain ⟨_,hm⟩:=hm.nth
 intro a w ha hw
 exact Bo (N:=fun a w=>(⟨some d,.call ⟨.builtin .append,#[s,x],#[t,t]⟩,ty',pos,after,guard⟩:Oper).wp P a w N Q) e sz (fun a w ha hw=>Hm (i:=0) (L2:=fun A' c'=>.r A' (([]:List α)++[x0]).length c' e sz ((([]:List α)++[x0]).flatMap enc)::L) (L':=fun A' c'=>.r A' (([]:List α)++[x0]).length c' e sz ((([]:List α)++[x0]).flatMap enc)::L) enc [] [x0] hs hx rfl ht.h he (i':=_+1) hm (by rw [hdec.h];simp) rfl h1 hb hd (fun A' c'=>.here) (fun _ _=>.refl) (Nat.le_of_ble_eq_true h0) k a w ha hw) a w ha hw
end
section
variable {α:Type} {enc:α→List Value} {x0:α} {t e sz bytes:Nat} {x y:Operand} {k1 k2:IntKind} {i1 i2:Int}
theorem Aab [h:MkI P t e sz bytes enc x0] (hx:evo fr x=some (.int k1 i1)) (hy:evo fr y=some (.int k2 i2)) (h1:i1=0) (hb:0≤i2∧bytes*Int.toNat i2≤140737488355328) (hb0:Nat.blt 0 bytes=true) (hsz:Nat.blt 0 sz=true) (he:∀ x,(enc x).length=sz) (hd:Nat.blt d n=true)
  (k:∀ A c,T n N ((d,.slice A ([]:List α).length c)::fr) (.r A ([]:List α).length c e sz (([]:List α).flatMap enc)::L)):Wx P Q n ⟨some d,.makeSlice t x y,ty,pos,after,guard⟩ fr L N:=by
 obtain ⟨i,z,ht,hi,hz,hzc,hs,hbb⟩:=h.h
 subst hbb
 exact Al5 enc x0 hx hy h1 hb.1 ht hi hz hzc hs (Nat.le_of_ble_eq_true hsz) he hb.2 (Nat.le_of_ble_eq_true hb0) hd k
theorem Aac [h:MkI P t e sz bytes enc x0] (hx:evo fr x=some (.int k1 i1)) (hy:evo fr y=some (.int k2 i2)) (h1:i1=i2) (hb:0≤i1∧bytes*Int.toNat i1≤140737488355328) (hb0:Nat.blt 0 bytes=true) (hsz:Nat.blt 0 sz=true) (he:∀ x,(enc x).length=sz) (hd:Nat.blt d n=true)
  (k:∀ A,T n N ((d,.slice A (List.replicate i1.toNat x0).length (List.replicate i1.toNat x0).length)::fr) (.r A (List.replicate i1.toNat x0).length (List.replicate i1.toNat x0).length e sz ((List.replicate i1.toNat x0).flatMap enc)::L)):Wx P Q n ⟨some d,.makeSlice t x y,ty,pos,after,guard⟩ fr L N:=by
 obtain ⟨i,z,ht,hi,hz,hzc,hs,hbb⟩:=h.h
 subst hbb
 exact An8 enc x0 hx hy h1 hb.1 ht hi hz hzc hs (Nat.le_of_ble_eq_true hsz) he hb.2 (Nat.le_of_ble_eq_true hb0) hd k
end
/-! ### parts of slices -/
section
variable {α:Type} {KK:List Ent} {A:Option Addr} {m c sz:Nat} {enc:α→List Value} {l:List α} {x hi lo:Operand} {kd:IntKind} {j:Int} {t e:TypeId}
theorem Aip [ht:Mh P t e sz] (hx:evo fr x=some (.slice A m c)) (hh:evo fr hi=some (.int kd j)) (hs:Has KK A m c sz enc l) (hb:0≤j∧j≤((m:Nat):Int)) (hd:Nat.blt d n=true)
  (k:Has KK A (subl l 0 j).length c sz enc (subl l 0 j)→T n (wpList P ops Q rest) ((d,.slice A (subl l 0 j).length c)::fr) L):T n (wpList P ops Q (⟨some d,.slice t x none (some hi) none,ty,pos,after,none⟩ :: rest)) fr L:=by
 have h1:=hs.subH hb.1 hb.2
 have e:=h1.len
 exact Ao (by rw [e];exact Yq hx hh ht.h hb.1 (by have:=hs.nc;omega)) hd (k h1.len')
theorem Aiq (hc:Nat.beq (cls.getD i 9) 0=true) (ho:ops[i]? = some ⟨some d,.slice t x none (some hi) none,ty,pos,after,none⟩) (hx:evo fr x=some (.slice A m c)) (hh:evo fr hi=some (.int kd j)) (hs:Has KK A m c sz enc l) (hb:0≤j∧j≤((m:Nat):Int)) (ht:Mh P t e sz) (hd:Nat.blt d n=true)
  (k:Has KK A (subl l 0 j).length c sz enc (subl l 0 j)→PB P ops Q cls n os ((d,.slice A (subl l 0 j).length c)::fr) L):PB P ops Q cls n (i::os) fr L:=by
 have h1:=hs.subH hb.1 hb.2
 have e:=h1.len
 exact B_p hc ho wY (by rw [e];exact Yq hx hh ht.h hb.1 (by have:=hs.nc;omega)) hd (k h1.len')
theorem Ako {r:TypeId} (hc:Nat.beq (cls.getD i 9) 0=true) (ho:ops[i]? = some ⟨some d,.slice t x none (some hi) none,ty,pos,after,none⟩) (hx:evo fr x=some (.slice A m c)) (hk:AtE L (.r A m c r sz (l.flatMap enc))) (hh:evo fr hi=some (.int kd j)) (hb:0≤j∧j≤((m:Nat):Int)) (ht:Mh P t e sz) (hd:Nat.blt d n=true) (hz:Nat.blt 0 sz=true) (he:∀ x,(enc x).length=sz)
  (k:Has [.r A m c r sz (l.flatMap enc)] A (subl l 0 j).length c sz enc (subl l 0 j)→PB P ops Q cls n os ((d,.slice A (subl l 0 j).length c)::fr) L):PB P ops Q cls n (i::os) fr L:=Rb hc hk hz he fun hs=>Aiq hc ho hx hh hs hb ht hd k
theorem Akp {r:TypeId} [ht:Mh P t e sz] (hx:evo fr x=some (.slice A m c)) (hk:AtE L (.r A m c r sz (l.flatMap enc))) (hh:evo fr hi=some (.int kd j)) (hb:0≤j∧j≤((m:Nat):Int)) (hd:Nat.blt d n=true) (hz:Nat.blt 0 sz=true) (he:∀ x,(enc x).length=sz)
  (k:Has [.r A m c r sz (l.flatMap enc)] A (subl l 0 j).length c sz enc (subl l 0 j)→T n (wpList P ops Q rest) ((d,.slice A (subl l 0 j).length c)::fr) L):T n (wpList P ops Q (⟨some d,.slice t x none (some hi) none,ty,pos,after,none⟩ :: rest)) fr L:=Ra hk hz he fun hs=>Aip hx hh hs hb hd k
end
/-! ### draws -/
structure DrL (id:Nat) (cls:Cls) (os fs:List Nat):Prop where
 h:True
theorem dl (id:Nat) (cls:Cls) (os:List Nat) (fs:List Nat:=[]):DrL id cls os fs:=⟨trivial⟩
theorem T_dl {id:Nat} {os fs:List Nat} (h:DrL id cls os fs) [hm:MixI P] (hd:Xh ops cls (Aav ops)=true) (hp:Wp ops cls (Wo cls ops.size) os (Array.replicate ops.size false)=true) (h4:Air ops cls (Aav ops) (Wo cls ops.size)=true) (hf:Wo cls ops.size=fs) (ha:Uz P ops n fs) (k:PB P ops Q cls n os fr L):T n ((Code.region id ops true).wp P Q) fr L:=by
 subst hf;exact Aup cls os hm.h hd hp h4 ha k
theorem Uz.cc {j d t cs ty pos after r} (h:ops[j]? = some ⟨some d,.alloc t,ty,pos,after,none⟩) (hz:Wn P t cs) (hd:Nat.blt d n=true) (k:Uz P ops n r):Uz P ops n (j::r):=.cons h hz.h hd k
theorem B_al {t:TypeId} {cs:List Value} (hc:Nat.beq (cls.getD i 9) 4=true) (ho:ops[i]? = some ⟨some d,.alloc t,ty,pos,after,none⟩) (hz:Wn P t cs) (hd:Nat.blt d n=true) (k:∀ g,PB P ops Q cls n os ((d,.pointer (some ⟨g,0,none⟩))::fr) (.m g t cs::L)):PB P ops Q cls n (i::os) fr L:=B_l hc ho hz.h hd k
theorem Sf {t} {cs:List Value} [hz:Wn P t cs] (hd:Nat.blt d n=true) (k:∀ g,T n N ((d,.pointer (some ⟨g,0,none⟩))::fr) (.m g t cs::L)):Wx P Q n ⟨some d,.alloc t,ty,pos,after,guard⟩ fr L N:=Eb hz.h hd k
theorem Qa {t len xs ps e} {cs:List Value} (hx:evps fr xs=some ps) (hb:Ms P t len ps e cs) (hd:Nat.blt d n=true) (k:∀ g,T n N ((d,.slice (some ⟨g,0,none⟩) len len)::fr) (.m g e cs::L)):Wx P Q n ⟨some d,.buildSlice t len xs.toArray,ty,pos,after,guard⟩ fr L N:=Bu hx hb.h hd k
theorem Vx {f:FuncId} {Pre:List Ent→List Value→Prop} {Post:List Ent→Value→List Ent→Prop} {xs:List Operand} {vs:List Value} {ts:Array TypeId} {ty':TypeId} (hc:Cn P f Pre Post) (hx:evos fr xs=some vs) (hp:∀ w,Heap L w→Pre L vs) (hd:Nat.blt d n=true)
  (k:∀ v Ln,Post L v Ln→T n N ((d,v)::fr) (Ln++L)):Wx P Q n ⟨some d,.call ⟨.value (.func f),xs.toArray,ts⟩,ty',pos,after,guard⟩ fr L N:=fun a w ha hw=>Bt hx (fun w1 hw1=>hc.h L vs (hp w1 hw1) w1 hw1.ok) hd (fun v Ln _ hR=>k v Ln hR) a w ha hw
inductive SetA:List Ent→Ent→Ent→List Ent→Prop
 | here {e e' L}:SetA (e::L) e e' (e' :: L)
 | there {x L e e' L'}:SetA L e e' L'→SetA (x::L) e e' (x::L')
theorem SetA.of {L e e' L'} (h:SetA L e e' L'):∃ i,SetE L i e e' L':=by
 induction h with
 | here=>exact ⟨0,.here⟩
 | there _ ih=>obtain ⟨i,hi⟩:=ih;exact ⟨i+1,.there hi⟩
def Atx:List Value→Bool
 | []=>false
 | _=>true
theorem Yu {x y g o t cs cs' v vs ty' L' q} [hz:SzI P ty' q] (hx:evo fr x=some (.pointer (some ⟨g,o,none⟩))) (hy:evo fr y=some v) (hv:v.cells=vs.toArray) (hq:q=vs.length) (hL:SetA L (.m g t cs) (.m g t cs') L') (hs:Spl cs o vs cs') (h1:Mi vs=true) (h0:Atx vs=true) (k:T n N fr L') :
  Wh P Q n ⟨none,.store ty' x y,ty,pos,after,guard⟩ fr L N:=by
 obtain ⟨_,hL⟩:=hL.of
 subst hq;exact Cj hx hy hv hL hs h1 (by rintro rfl;cases h0) hz.h k
/-! ### the end, ways that meet, rounds -/
def Ends (P:Program) (fn:Func) (rs:List ResultVar) (R:Value→List Ent→Prop) (w0:World):Exit→Act→World→Prop:=fun e a w=>fn.results=rs.toArray→bodyPost P fn (fun e w'=>∃ v Ln,e = .returned v∧R v Ln∧(∀ x∈Ln,x.low=0)∧Heap (Ln++[.old w0]) w') e a w
theorem Afr {fn:Func} {R:Value→List Ent→Prop} {w0:World} {rs vs} {Ln:List Ent} (h:Res P fr L rs vs) (hR:R (Ob vs) Ln) (hlo:∀ x∈Ln,x.low=0) (hs:Iu L (Ln++[.old w0])):T n (Ends P fn rs R w0 .ret) fr L:=fun a w ha hw hr=>Di hr h hR hlo hs a w ha hw
theorem Afs {fn:Func} {R:Value→List Ent→Prop} {w0:World} {rs vs} {Ln:List Ent} (h:Res P fr L rs vs) (hR:R (Ob vs) Ln) (hlo:∀ x∈Ln,x.low=0) (hs:Iu L (Ln++[.old w0])):T n (Ends P fn rs R w0 .normal) fr L:=fun a w ha hw hr=>Atk hr h hR hlo hs a w ha hw
theorem Res.cellA {t ty g tt cs k rs vs} [ht:AggI P ty k] (hx:look fr t=some (.pointer (some ⟨g,0,none⟩))) (hi:AtE L (.m g tt cs)) (hk:cs.length=k) (hr:Res P fr L rs vs):Res P fr L (.cell t ty::rs) (.agg cs.toArray::vs):=by
 obtain ⟨_,hi⟩:=hi.nth;exact .cell hx hi hk ht.h hr
theorem Res.cellB {t ty g tt v rs vs} [ht:OneI P ty] (hx:look fr t=some (.pointer (some ⟨g,0,none⟩))) (hi:AtE L (.m g tt [v])) (hr:Res P fr L rs vs):Res P fr L (.cell t ty::rs) (v::vs):=by
 obtain ⟨_,hi⟩:=hi.nth;exact .cell1 hx hi ht.h hr
/-- How a function is entered. -/
theorem CtS {f : FuncId} {fn : Func} {c : Code} {vs : List Value} {w : World} {R : Value → List Ent → Prop} {m : Nat} {rs : List ResultVar} {fr0 : List (Nat × Value)} (hm : fn.ntmps = m) (hr : fn.results = rs.toArray) (k : T m (c.wp P (Ends P fn rs R w)) fr0 [.old w]) (hf : P.funcs[f]? = some fn := by rfl) (hb : fn.body = some c := by rfl) (hn : (fn.name == "runtime.NumGoroutine") = false := by kernel_rfl) (hl : Nat.ble vs.length m = true := by rfl) (hv : Tk vs 0 = fr0 := by exact rfl) : CtL P f vs w R := by
 subst hv
 exact CtL.mk m hf hb hm hn hl fun a w ha hw=>wp_mono (k a w ha hw) (fun e a' w' h=>h hr)
theorem Has.lo {α:Type} {K:List Ent} {w:World} {A m c sz} {enc:α→List Value} {l:List α} (h:Has K A m c sz enc l) (hK:∀ e∈K,Ent.ok w e):Has [.old w] A m c sz enc l:=Has.low (E:=[]) (Has.up0 h) hK
/-- What a function does that hands back readings. -/
class ConB {ρ:Type} (F:Option ρ) (P:outParam Program) (f:outParam FuncId) (Pre:outParam (List Ent→List Value→Prop)) (Post:outParam (List Ent→ρ→Value→List Ent→Prop)):Prop where
 h:∀ K vs r,Pre K vs→F=some r→∀ w,(∀ e∈K,Ent.ok w e)→CtL P f vs w (Post K r)
structure CnB (P:Program) (f:FuncId) (Pre:List Ent→List Value→Prop) (Post:List Ent→Value→List Ent→Prop):Prop where
 h:∀ K vs,Pre K vs→∀ w,(∀ e∈K,Ent.ok w e)→CtL P f vs w (Post K)
theorem cnB {ρ:Type} {F:Option ρ} {P:Program} {f:FuncId} {Pre:List Ent→List Value→Prop} {Post:List Ent→ρ→Value→List Ent→Prop} [hc:ConB F P f Pre Post] {r:ρ} (h:F=some r):CnB P f Pre (fun K=>Post K r):=⟨fun K vs hp w hK=>hc.h K vs r hp h w hK⟩
theorem Akq {α ρ:Type} {o:Option α} {P:Program} {f:FuncId} {Pre:List Ent→List Value→Prop} {Post:List Ent→α→Value→List Ent→Prop} [hc:ConB o P f Pre Post] {k:α→Option ρ} {r:ρ} {G:Prop} (h:bnd o k=some r) (K:∀ x,o=some x→CnB P f Pre (fun K=>Post K x)→k x=some r→G):G:=let ⟨x,h1,h2⟩:=Ag h;K x h1 (cnB h1) h2
theorem SubE.ofOld {K L:List Ent} {w:World} (hK:∀ e∈K,Ent.ok w e) (h:AtE L (.old w)):SubE K L:=by
 obtain ⟨_,h⟩:=h.nth
 exact ⟨fun w1 hw e he=>Ent.ext (hK e he) (hw _ (Gn h))⟩
theorem SubE.bunR {X K es:List Ent} (h:SubE X (K++es)):SubE X (K++[bun es]):=⟨fun w hw=>h.ok w fun e he=>by
 rcases List.mem_append.1 he with he | he
 ·exact hw e (List.mem_append_left _ he)
 ·exact Aqw (hw _ (List.mem_append_right _ List.mem_cons_self)) e he⟩
theorem SubE.consR {X K es:List Ent} {e:Ent} (h:AtE es e) (h':SubE X (K++es)):SubE (e::X) (K++es):=by
 obtain ⟨_,h⟩:=h.nth
 exact ⟨fun w hw x hx=>by
  rcases List.mem_cons.1 hx with rfl | hx
  ·exact hw _ (List.mem_append_right _ (Gn h))
  ·exact h'.ok w hw x hx⟩
theorem CtL.bunB {P:Program} {f:FuncId} {vs:List Value} {w:World} {R R':Value→List Ent→Prop} (h:CtL P f vs w R) (k:∀ v Ln w1,Heap (Ln++[.old w]) w1→R v Ln→R' v [bun Ln]):CtL P f vs w R':=by
 refine ⟨h.1,h.2.mono ?_⟩
 rintro e w' ⟨v,Ln,rfl,hR,hlo,hh⟩
 exact ⟨v,[bun Ln],rfl,k v Ln w' hh hR,Co rfl Ec,Abl hlo hh⟩
section
variable {P:Program} {n:Nat} {ops:Array Oper} {Q:Exit→Act→World→Prop} {fr:List (Nat × Value)} {L:List Ent} {N:Act→World→Prop} {d:Nat} {ty:TypeId} {pos:String} {after:Array Edge} {guard:Option (Nat × Bool)}
theorem Sg {f:FuncId} {Pre:List Ent→List Value→Prop} {Post:List Ent→Value→List Ent→Prop} {xs:List Operand} {vs:List Value} {ts:Array TypeId} {ty':TypeId} {K:List Ent} (hc:CnB P f Pre Post) (hx:evos fr xs=some vs) (hp:∀ w,Heap L w→Pre K vs) (hK:SubE K L) (hd:Nat.blt d n=true)
  (k:∀ v Ln,(∀ x∈Ln,x.low=0)→Post K v Ln→T n N ((d,v)::fr) (Ln++L)):Wx P Q n ⟨some d,.call ⟨.value (.func f),xs.toArray,ts⟩,ty',pos,after,guard⟩ fr L N:=fun a w ha hw=>Bt hx (fun w1 hw1=>hc.h K vs (hp w1 hw1) w1 (Ld hK hw1)) hd (fun v Ln hlo hR=>k v Ln hlo hR) a w ha hw
/-- All entries but the last one. -/
inductive Spt:List Ent→List Ent→Ent→Prop
 | last {e}:Spt [e] [] e
 | cons {x L es e}:Spt L es e→Spt (x::L) (x::es) e
theorem Spt.eq {L es e} (h:Spt L es e):L=es++[e]:=by
 induction h with
 | last=>rfl
 | cons _ ih=>rw [ih];rfl
theorem Aty {fn:Func} {R:Value→List Ent→Prop} {w0:World} {rs vs} {es:List Ent} (h:Res P fr L rs vs) (hs:Spt L es (.old w0)) (hlo:∀ x∈es,x.low=0) (hR:∀ w,Heap L w→R (Ob vs) [bun es]):T n (Ends P fn rs R w0 .ret) fr L:=fun a w ha hw hr=>Apn hr h (fun w hw=>⟨_,[bun es],rfl,hR w hw,Co rfl Ec,Abl hlo (hs.eq ▸ hw)⟩) a w ha hw
theorem Atz {fn:Func} {R:Value→List Ent→Prop} {w0:World} {rs vs} {es:List Ent} (h:Res P fr L rs vs) (hs:Spt L es (.old w0)) (hlo:∀ x∈es,x.low=0) (hR:∀ w,Heap L w→R (Ob vs) [bun es]):T n (Ends P fn rs R w0 .normal) fr L:=fun a w ha hw hr=>Apo hr h (fun w hw=>⟨_,[bun es],rfl,hR w hw,Co rfl Ec,Abl hlo (hs.eq ▸ hw)⟩) a w ha hw
end
theorem Pa {A B G:Prop} (k:A→B→G):A∧B→G:=fun h=>k h.1 h.2
theorem Pt' {G:Prop} (k:G):True→G:=fun _=>k
theorem Lo1 {e:Ent} {G:Prop} (k:e.low=0→G):(∀ x∈[e],x.low=0)→G:=fun h=>k (h e List.mem_cons_self)
theorem Has.row1 {α:Type} {enc:α→List Value} {L:List Ent} {w:World} {A m c r sz} {l:List α} (hw:Heap L w) (hk:AtE L (.r A m c r sz (l.flatMap enc))) (hz:Nat.blt 0 sz=true) (he:∀ x,(enc x).length=sz):Has [.r A m c r sz (l.flatMap enc)] A m c sz enc l:=by
 obtain ⟨_,hk⟩:=hk.nth
 exact Has.ofRow (Nat.le_of_ble_eq_true hz) he (hw.ok _ (Gn hk))
theorem Has.m1 {α:Type} {enc:α→List Value} {L:List Ent} {w:World} {g q sz:Nat} {t:TypeId} {cs:List Value} {l:List α} (_hw:Heap L w) (_hk:AtE L (.m g t cs)) (hc:cs=l.flatMap enc) (hn:l.length=q) (he:∀ x,(enc x).length=sz) (hm:Nat.ble q 1000=true):Has [.m g t cs] (some ⟨g,0,none⟩) q q sz enc l :=
 Has.ofM (fun x _=>he x) hn (by have:=Nat.le_of_ble_eq_true hm;unfold maxLen;omega) hc
theorem Has.inl {α:Type} {enc:α→List Value} {K K':List Ent} {A m c sz} {l:List α} (h:Has K A m c sz enc l):Has (K++K') A m c sz enc l:=h.up SubE.appL
theorem Has.inr {α:Type} {enc:α→List Value} {K K':List Ent} {A m c sz} {l:List α} (h:Has K' A m c sz enc l):Has (K++K') A m c sz enc l:=h.up (SubE.appR SubE.refl)

instance (k:IntKind) (x:Int):UnfI (Value.int k) x (.int k x):=⟨rfl⟩
theorem Akr {c:Code} {m:Nat} {Q Q':Exit→Act→World→Prop} {P:Program} {n:Nat} {fr:List (Nat × Value)} {L:List Ent} (k:T n (Code.rounds P c Q m) fr L):T n (Exit.then (Code.rounds P c Q m) Q' .normal) fr L:=k
theorem SubE.consA {K L e} (h:AtE L e) (h':SubE K L):SubE (e::K) L:=by
 obtain ⟨_,h⟩:=h.nth
 exact SubE.cons2 h h'
theorem aT {G:Prop} (h:G:=by (repeat (first | exact .here | refine .there ?_));(first | done | fail)):G:=h
theorem sF {G:Prop} (h:G:=by (repeat (first | exact .nil | refine .cons rfl ?_));(first | done | fail)):G:=h
theorem pK {G:Prop} (h:G:=by (repeat (first | exact .refl | refine .pick 0 rfl ?_ | refine .pick 1 rfl ?_ | refine .pick 2 rfl ?_ | refine .pick 3 rfl ?_ | refine .pick 4 rfl ?_ | refine .pick 5 rfl ?_ | refine .pick 6 rfl ?_ | refine .pick 7 rfl ?_ | refine .pick 8 rfl ?_ | refine .pick 9 rfl ?_ | refine .pick 10 rfl ?_ | refine .pick 11 rfl ?_ | refine .pick 12 rfl ?_ | refine .drop 0 rfl ?_));(first | done | fail)):G:=h
theorem sU {K L:List Ent} (h:SubE K L:=by
 (repeat' (first | exact SubE.nil | refine SubE.consA (by exact aT) ?_ | (with_reducible apply SubE.appC) | exact SubE.ofOld (by with_reducible assumption) aT));(first | done | fail)):SubE K L:=h
theorem sW {X K es:List Ent} (h:SubE X (K++es):=by
 (repeat' (first | exact SubE.nil | exact SubE.appL | refine SubE.consR (by exact aT) ?_ | (with_reducible apply SubE.appC)));(first | done | fail)):SubE X (K++es):=h
theorem spt {G:Prop} (h:G:=by (repeat (first | exact .last | apply Spt.cons));(first | done | fail)):G:=h
theorem lB {G:Prop} (h:G:=by (repeat (first | exact Ec | refine Co (by first | rfl | (with_reducible assumption)) ?_));(first | done | fail)):G:=h
theorem sP {G:Prop} (h:G:=by (repeat (first | exact .done | apply Spl.put | apply Spl.skip));(first | done | fail)):G:=h
theorem rE {G:Prop} (h:G:=by (repeat (first | exact .here | apply RepE.there));(first | done | fail)):G:=h
theorem aL {G:Prop} (h:G:=by (repeat (first | exact .nil | ((with_reducible apply Uz.cc);exact rfl;exact inferInstance;exact rfl)));(first | done | fail)):G:=h
theorem wW {G:Prop} (h:G:=by first | exact wY | exact wG rfl rfl rfl):G:=h
theorem sF2 {G:Prop} (h:G:=by (try dsimp only);(try simp only [Cb]);(repeat (first | exact .nil | refine .cons (by first | exact rfl | (simp only [Cb];exact rfl)) ?_));(first | done | fail)):G:=h
theorem pK2 {G:Prop} (h:G:=by (try dsimp only);(try simp only [Cb]);(repeat (first | exact .refl | refine .pick 0 rfl ?_ | refine .pick 1 rfl ?_ | refine .pick 2 rfl ?_ | refine .pick 3 rfl ?_ | refine .pick 4 rfl ?_ | refine .pick 5 rfl ?_ | refine .pick 6 rfl ?_ | refine .pick 7 rfl ?_ | refine .pick 8 rfl ?_ | refine .pick 9 rfl ?_ | refine .pick 10 rfl ?_ | refine .pick 11 rfl ?_ | refine .pick 12 rfl ?_ | refine .drop 0 rfl ?_));(first | done | fail)):G:=h
theorem pZ {z:Ent} {L1 L':List Ent} (h:Iu L1 (z::L'):=by first | exact .pick 0 rfl .refl | exact .pick 1 rfl .refl | exact .pick 2 rfl .refl | exact .pick 3 rfl .refl | exact .pick 4 rfl .refl | exact .pick 5 rfl .refl | exact .pick 6 rfl .refl | exact .pick 7 rfl .refl | exact .pick 8 rfl .refl):Iu L1 (z::L'):=h
theorem dZ {G:Prop} (h:G:=by (repeat (first | exact .nil | apply DecZ.cons));(first | done | fail)):G:=h
theorem sA {G:Prop} (h:G:=by (repeat (first | exact .here | apply SetA.there));(first | done | fail)):G:=h
theorem lO {G:Prop} (h:G:=by first | exact Ec | exact Co rfl Ec | exact Co rfl (Co rfl Ec) | exact Co rfl (Co rfl (Co rfl Ec)) | exact Co rfl (Co rfl (Co rfl (Co rfl Ec))) | exact Co rfl (Co rfl (Co rfl (Co rfl (Co rfl (Co rfl Ec)))))):G:=h
theorem rS {G:Prop} (h:G:=by (repeat (first | exact .nil | ((with_reducible apply Res.tmp);exact rfl) | ((with_reducible apply Res.cellA);exact rfl;exact aT;exact rfl) | ((with_reducible apply Res.cellB);exact rfl;exact aT)));(first | done | fail)):G:=h
theorem rP {G:Prop} (h:G:=by first | exact ⟨rfl,rfl,trivial⟩ | exact ⟨_,_,rfl,rfl,trivial⟩ | exact ⟨_,_,_,_,rfl,rfl,trivial⟩ | exact ⟨_,_,_,_,_,_,rfl,rfl,trivial⟩ | exact ⟨_,_,_,_,_,_,_,_,rfl,rfl,trivial⟩ | exact ⟨_,_,_,_,_,_,_,_,_,_,_,_,rfl,rfl,trivial⟩):G:=h
/-! ### hints: what a meeting, a loop keeps of frame and heap -/
inductive Kp (fr:List (Nat × Value)):List Nat→List (Nat × Value)→Prop
 | nil:Kp fr [] []
 | cons {k v ks r}:look fr k=some v→Kp fr ks r→Kp fr (k::ks) ((k,v)::r)
inductive Kl (L:List Ent):List Nat→List Ent→Prop
 | nil:Kl L [] []
 | cons {k e ks r}:nthE L k=some e→Kl L ks r→Kl L (k::ks) (e::r)
 | last {e ks r}:L.getLast? = some e→Kl L ks r→Kl L (999::ks) (e::r)
theorem kk {fr fr0:List (Nat × Value)} {ks is:List Nat} {L L0:List Ent} (h1:Kp fr ks fr0:=by (repeat (first | exact .nil | (apply Kp.cons;exact rfl)));(first | done | fail)) (h2:Kl L is L0:=by (repeat (first | exact .nil | (apply Kl.cons;exact rfl) | (apply Kl.last;exact rfl)));(first | done | fail)):Kp fr ks fr0∧Kl L is L0:=⟨h1,h2⟩
theorem Jr {τ γ ρ:Type} {kk:τ→Option ρ} {xx:(τ→Option ρ)→Option ρ} {out:ρ} {fr0:List (Nat × Value)} {L0:List Ent} (hx:jn kk xx=some out) (ks:List Nat) (F:τ→γ→List (Nat × Value)→List (Nat × Value)) (is:List Nat) (E:τ→γ→List Ent→List Ent) {x y:Code} (_h:Kp fr ks fr0∧Kl L is L0)
  (k2:∀ s g,kk s=some out→T n (y.wp P Q) (F s g fr0) (E s g L0)) (k:∀ j,xx j=some out→T n (x.wp P (Exit.then (Met n j out (fun s g=>F s g fr0) (fun s g=>E s g L0) (fun _ _=>True)) Q)) fr L) :
  T n ((Code.seq x y).wp P Q) fr L:=Pm (J:=kk) (fun s g=>F s g fr0) (fun s g=>E s g L0) (fun _ _=>True) (fun s g h _=>k2 s g h) (k kk hx)
theorem Ma {τ γ ρ:Type} {J:τ→Option ρ} {out:ρ} {I:τ→γ→List (Nat × Value)} {H:τ→γ→List Ent} {G:τ→γ→Prop} (s:τ) (g:γ) (hJ:J s=some out) (hG:G s g) (hF:SubF (I s g) fr) (hH:Iu L (H s g)):T n (Exit.then (Met n J out I H G) Q .normal) fr L:=Aii s g hJ hG hF hH
theorem Ro {σ τ γ:Type} {x:Sum σ τ} {I:σ→γ→List (Nat × Value)} {H:σ→γ→List Ent} {G:σ→γ→Prop} (s:σ) (g:γ) (hx:some (.inl s)=some x) (hG:G s g) (hF:SubF (I s g) fr) (hH:Iu L (H s g)):T n (Exit.then (Rnd n x I H G) Q .normal) fr L:=Ag8 s g hx hG hF hH
theorem sk {fr fr1:List (Nat × Value)} {L L1:List Ent} (h1:SubF fr1 fr:=by (try dsimp only);exact sF) (h2:Iu L L1:=by (try dsimp only);exact pK):SubF fr1 fr∧Iu L L1:=⟨h1,h2⟩
theorem Lr {σ τ γ ρ:Type} {B:σ→Option (Sum σ τ)} {s0:σ} {K:τ→Option ρ} {out:ρ} {fr0:List (Nat × Value)} {L0:List Ent} (hx:bnd (lfix B s0) K=some out) (ks:List Nat) (F:σ→γ→List (Nat × Value)→List (Nat × Value)) (is:List Nat) (E:σ→γ→List Ent→List Ent) (g0:γ) {c:Code} (_h:Kp fr ks fr0∧Kl L is L0) (h1:SubF (F s0 g0 fr0) fr∧Iu L (E s0 g0 L0))
  (body:∀ s g x,B s=some x→(∀ t',x = .inr t'→K t'=some out)→T n (c.wp P (Exit.then (Rnd n x (fun s g=>F s g fr0) (fun s g=>E s g L0) (fun _ _=>True)) Q)) (F s g fr0) (E s g L0)):T n ((Code.loop c).wp P Q) fr L:=by
 obtain ⟨t,hl,ho⟩:=Ag hx
 exact Akg hl (fun s g=>F s g fr0) (fun s g=>E s g L0) (fun _ _=>True) g0 trivial h1.1 h1.2 (fun s g _ x hb ht=>body s g x hb (fun t' e=>by rw [ht t' e];exact ho))
/-! ### cases -/
/-- A case on the slot s. -/
def AtS (_:Nat) (G:Prop):Prop:=G
section
variable {s:Nat} {q:Prop} [Decidable q] {ρ:Type} {x y r:Option ρ} {b:Bool}
theorem Cq1 (hx:(if q then x else y)=r) (hs:look fr s=some (.bool (decide q))) (ht:q→x=r→T n N ((s,.bool true)::fr) L) (hf:¬ q→y=r→T n N ((s,.bool false)::fr) L):AtS s (T n N fr L):=Ajt hs (fun h=>ht h (Df h hx)) (fun h=>hf h (Po h hx))
theorem Cq2 (hx:(if q then x else y)=r) (hs:look fr s=some (.bool (!decide q))) (ht:¬ q→y=r→T n N ((s,.bool true)::fr) L) (hf:q→x=r→T n N ((s,.bool false)::fr) L):AtS s (T n N fr L):=Pf hs (fun h=>ht h (Po h hx)) (fun h=>hf h (Df h hx))
theorem Cq3 [Decidable (b=true)] (hx:(if b=true then x else y)=r) (hs:look fr s=some (.bool b)) (ht:b=true→x=r→T n N ((s,.bool true)::fr) L) (hf:¬ b=true→y=r→T n N ((s,.bool false)::fr) L):AtS s (T n N fr L):=Do hs (fun h=>ht h (Df h hx)) (fun h=>hf (by simp [h]) (Po (by simp [h]) hx))
theorem Cq4 [Decidable (b=true)] (hx:(if b=true then x else y)=r) (hs:look fr s=some (.bool (!b))) (ht:¬ b=true→y=r→T n N ((s,.bool true)::fr) L) (hf:b=true→x=r→T n N ((s,.bool false)::fr) L):AtS s (T n N fr L):=Lq hs (fun h=>ht (by simp [h]) (Po (by simp [h]) hx)) (fun h=>hf h (Df h hx))
end
/-- The same at an operation of a region that draws its order. -/
def AtB (ops:Array Oper) (i _s:Nat) (G:Prop):Prop:=(∃ o p,ops[i]? = some o∧o.guard=some p)→G
section
variable {s:Nat} {q:Prop} [Decidable q] {ρ:Type} {x y r:Option ρ} {b:Bool}
theorem Cb3 [Decidable (b=true)] (hx:(if b=true then x else y)=r) (hs:look fr s=some (.bool b)) (ht:b=true→x=r→PB P ops Q cls n (i::os) ((s,.bool true)::fr) L) (hf:¬ b=true→y=r→PB P ops Q cls n (i::os) ((s,.bool false)::fr) L):AtB ops i s (PB P ops Q cls n (i::os) fr L):=fun hg=>by
 cases b with
 | true=>exact Va hg hs (ht rfl (Df rfl hx))
 | false=>exact Va hg hs (hf (by simp) (Po (by simp) hx))
theorem Cb4 [Decidable (b=true)] (hx:(if b=true then x else y)=r) (hs:look fr s=some (.bool (!b))) (ht:¬ b=true→y=r→PB P ops Q cls n (i::os) ((s,.bool true)::fr) L) (hf:b=true→x=r→PB P ops Q cls n (i::os) ((s,.bool false)::fr) L):AtB ops i s (PB P ops Q cls n (i::os) fr L):=fun hg=>by
 cases b with
 | true=>exact Va hg hs (hf rfl (Df rfl hx))
 | false=>exact Va hg hs (ht (by simp) (Po (by simp) hx))
theorem Cb1 (hx:(if q then x else y)=r) (hs:look fr s=some (.bool (decide q))) (ht:q→x=r→PB P ops Q cls n (i::os) ((s,.bool true)::fr) L) (hf:¬ q→y=r→PB P ops Q cls n (i::os) ((s,.bool false)::fr) L):AtB ops i s (PB P ops Q cls n (i::os) fr L):=fun hg=>by
 by_cases h:q
 ·exact Va hg (by rw [hs,decide_eq_true h]) (ht h (Df h hx))
 ·exact Va hg (by rw [hs,decide_eq_false h]) (hf h (Po h hx))
theorem Cb2 (hx:(if q then x else y)=r) (hs:look fr s=some (.bool (!decide q))) (ht:¬ q→y=r→PB P ops Q cls n (i::os) ((s,.bool true)::fr) L) (hf:q→x=r→PB P ops Q cls n (i::os) ((s,.bool false)::fr) L):AtB ops i s (PB P ops Q cls n (i::os) fr L):=fun hg=>by
 by_cases h:q
 ·exact Va hg (by rw [hs,decide_eq_true h];rfl) (hf h (Df h hx))
 ·exact Va hg (by rw [hs,decide_eq_false h];rfl) (ht h (Po h hx))
end
theorem S_c {s:Nat} {c1 c2:Code} (k:AtS s (T n ((Code.cond (.tmp s) c1 c2).wp P Q) fr L)):T n ((Code.cond (.tmp s) c1 c2).wp P Q) fr L:=k
theorem S_g {s j:Nat} {b:Bool} (hj:(ops[j]?).bind (·.dst)=some s) (k:AtS s (T n (wpList P ops Q (⟨dst,op,ty,pos,after,some (j,b)⟩ :: rest)) fr L)):T n (wpList P ops Q (⟨dst,op,ty,pos,after,some (j,b)⟩ :: rest)) fr L:=k
theorem S_b {s j:Nat} {b:Bool} (ho:ops[i]? = some ⟨dst,op,ty,pos,after,some (j,b)⟩) (hj:(ops[j]?).bind (·.dst)=some s) (k:AtB ops i s (PB P ops Q cls n (i::os) fr L)):PB P ops Q cls n (i::os) fr L:=k ⟨_,_,ho,rfl⟩
end

/-- A row of the heap, or a fact at hand, as a list. -/
theorem Has.rowW {α:Type} {enc:α→List Value} {L:List Ent} {w:World} {A m c r sz} {l:List α} (hw:Heap L w) (hk:AtE L (.r A m c r sz (l.flatMap enc))) (hz:Nat.blt 0 sz=true) (he:∀ x,(enc x).length=sz):Has L A m c sz enc l:=by
 obtain ⟨_,hk⟩:=hk.nth
 exact (Has.ofRow (Nat.le_of_ble_eq_true hz) he (hw.ok _ (Gn hk))).up (SubE.nth hk)
theorem Has.mW {α:Type} {enc:α→List Value} {L:List Ent} {w:World} {g q sz:Nat} {t:TypeId} {cs:List Value} {l:List α} (hw:Heap L w) (hk:AtE L (.m g t cs)) (hc:cs=l.flatMap enc) (hn:l.length=q) (he:∀ x,(enc x).length=sz) (hm:Nat.ble q 1000=true):Has L (some ⟨g,0,none⟩) q q sz enc l:=by
 obtain ⟨_,hk⟩:=hk.nth
 exact (Has.ofM (fun x _=>he x) hn (by have:=Nat.le_of_ble_eq_true hm;unfold maxLen;omega) hc).up (SubE.nth hk)
theorem hA {α:Type} {enc:α→List Value} {L:List Ent} {w:World} {A m c sz} {l:List α} (hw:Heap L w) (h:Has L A m c sz enc l:=by
 first
 | exact Has.rowW hw aT rfl (fun _=>rfl)
 | exact Has.up (by with_reducible assumption) sU
 | exact Has.mW hw aT rfl rfl (fun _=>rfl) rfl
 | exact Has.nil):Has L A m c sz enc l:=h
theorem hB {α:Type} {enc:α→List Value} {K L:List Ent} {w:World} {A m c sz} {l:List α} (hw:Heap L w) (h:Has K A m c sz enc l:=by
 first
 | with_reducible assumption
 | exact Has.row1 hw aT rfl (fun _=>rfl)
 | exact Has.m1 hw aT rfl rfl (fun _=>rfl) rfl
 | exact Has.nil):Has K A m c sz enc l:=h
theorem hZ {α:Type} {enc:α→List Value} {K L es:List Ent} {w:World} {A m c sz} {l:List α} (hw:Heap L w) (h:Has (K++[bun es]) A m c sz enc l:=by
 first
 | exact Has.nil
 | exact Has.up (by with_reducible assumption) (SubE.bunR sW)
 | exact Has.up (Has.row1 hw aT rfl (fun _=>rfl)) (SubE.bunR sW)
 | exact Has.up (Has.m1 hw aT rfl rfl (fun _=>rfl) rfl) (SubE.bunR sW)):Has (K++[bun es]) A m c sz enc l:=h
/-- The value of an operation: by its kind. -/
theorem evB {G:Prop} (h:G:=by
 first
 | ((with_reducible apply Apa);exact rfl)
 | ((with_reducible apply Ak0);exact rfl)
 | (with_reducible apply Ari);(first
  | ((with_reducible apply Apb);exact rfl;exact aT;exact rfl)
  | ((with_reducible apply Aph);exact rfl;exact aT;exact dZ;(with_reducible assumption))
  | ((with_reducible apply Apc);exact rfl;exact aT;exact rfl)
  | ((with_reducible apply Aul);exact rfl;(with_reducible assumption);exact sU;exact rfl)
  | ((with_reducible apply Aum);exact rfl;(with_reducible assumption);exact sU;exact rfl)
  | ((with_reducible apply Auo);exact rfl;(with_reducible assumption);exact sU;exact rfl)
  | ((with_reducible apply Atm);exact rfl;(with_reducible assumption);exact sU;exact rfl)
  | ((with_reducible apply Aun);exact rfl;(with_reducible assumption);exact sU;exact rfl)
  | ((with_reducible apply Atn);exact rfl;(with_reducible assumption);exact sU;exact rfl)
  | fail)
 | (with_reducible apply Atl);(first
  | ((with_reducible apply Arn);exact rfl;exact rfl;exact inferInstance)
  | ((with_reducible apply Aro);exact rfl;exact rfl;exact inferInstance)
  | ((with_reducible apply Ap4) <;> exact rfl)
  | ((with_reducible apply Xn) <;> exact rfl)
  | ((with_reducible apply Adc) <;> exact rfl)
  | ((with_reducible apply Add) <;> exact rfl)
  | ((with_reducible apply Ap9) <;> exact rfl)
  | ((with_reducible apply Ap8) <;> exact rfl)
  | ((with_reducible apply Ap6) <;> exact rfl)
  | ((with_reducible apply Ap5) <;> exact rfl)
  | ((with_reducible apply Ap7) <;> exact rfl)
  | ((with_reducible apply Atq);exact rfl;exact rfl;exact inferInstance)
  | ((with_reducible apply Atr);exact rfl;exact rfl;exact inferInstance)
  | ((with_reducible apply Ats) <;> exact rfl)
  | ((with_reducible apply Att) <;> exact rfl)
  | ((with_reducible apply Ap3);exact rfl;exact rfl;first | (with_reducible assumption) | decide)
  | ((with_reducible apply Aim);exact rfl;exact rfl;first | (with_reducible assumption) | decide)
  | ((with_reducible apply Aha);exact rfl;exact rfl;first | (with_reducible assumption) | decide)
  | ((with_reducible apply Akj);exact rfl;exact rfl;first | decide | (with_reducible assumption))
  | ((with_reducible apply Ard);exact rfl;exact rfl;first | decide | (with_reducible assumption))
  | ((with_reducible apply Aay) <;> exact rfl)
  | ((with_reducible apply Aa1) <;> exact rfl)
  | ((with_reducible apply Aaz) <;> exact rfl)
  | ((with_reducible apply Aa2) <;> exact rfl)
  | ((with_reducible apply Aa0) <;> exact rfl)
  | ((with_reducible apply Aa3) <;> exact rfl)
  | ((with_reducible apply Aaw) <;> exact rfl)
  | ((with_reducible apply Adb) <;> exact rfl)
  | ((with_reducible apply Aax) <;> exact rfl)
  | fail)
 | ((with_reducible apply Im);exact rfl)
 | ((with_reducible apply Ap2);exact rfl)
 | (with_reducible apply Ark);(first
  | ((with_reducible apply Atp);exact rfl)
  | ((with_reducible apply Ato);exact rfl;exact inferInstance;(with_reducible assumption))
  | ((with_reducible apply Aru);exact rfl;exact aT)
  | ((with_reducible apply Ak2) <;> exact rfl)
  | ((with_reducible apply Ak3) <;> exact rfl)
  | ((with_reducible apply Aq4) <;> exact rfl)
  | ((with_reducible apply Aq5) <;> exact rfl)
  | fail)
 | (with_reducible apply Arj);(first
  | ((with_reducible apply Atu);exact rfl)
  | ((with_reducible apply Arp);exact rfl)
  | ((with_reducible apply Arq);exact rfl)
  | ((with_reducible apply Atv);exact rfl)
  | fail)
 | ((with_reducible apply Aio) <;> exact rfl)
 | ((with_reducible apply Ahp) <;> exact rfl)
 | ((with_reducible apply Ahq) <;> exact rfl)
 | ((with_reducible apply Apd);exact rfl;exact inferInstance)
 | ((with_reducible apply Atw);exact rfl;exact rfl;decide;decide;exact rfl)
 | ((with_reducible apply Arr);exact rfl;exact rfl;exact aT;exact dZ;exact rfl;(with_reducible assumption))
 | ((with_reducible apply Ars);exact rfl;exact rfl;(with_reducible assumption);exact rfl)
 | ((with_reducible apply Art);exact rfl;exact rfl)
 | ((with_reducible apply Api);exact rfl;exact aT;exact rfl;exact inferInstance;(with_reducible assumption);(with_reducible assumption);exact rfl)
 | ((with_reducible apply Amc);exact rfl;exact aT;exact rfl;exact inferInstance;(with_reducible assumption);(with_reducible assumption);exact rfl)
 | ((with_reducible apply Amb);exact rfl;exact inferInstance)
 | ((with_reducible apply Arl);exact rfl;exact rfl;(first | (with_reducible assumption) | exact rfl);exact rfl;exact inferInstance)
 | ((with_reducible apply Arm);exact rfl;exact rfl;exact inferInstance;(first | (with_reducible assumption) | exact rfl);exact inferInstance)
 | ((with_reducible apply Aak);exact rfl)
 | ((with_reducible apply Ade);exact rfl)
 | ((with_reducible apply Ahb);exact rfl)
 | ((with_reducible apply Aal);exact rfl)
 | ((with_reducible apply Akk);exact rfl)
 | fail):G:=h
set_option maxRecDepth 100000 in
/-- The rest of the walk. -/
theorem au {G:Prop} (h:G:=by
 repeat' first
  | ((with_reducible apply App))
  | ((with_reducible apply Aiz))
  | ((with_reducible apply Apq))
  | ((with_reducible apply Akn);(first
   | ((with_reducible apply Ao);exact evB;exact rfl)
   | ((with_reducible apply T_x);(first | ((with_reducible apply Ot);exact rfl;exact rfl;exact rfl;intro _) | ((with_reducible apply Sf);exact rfl;intro _) | ((with_reducible apply Qa);exact rfl;exact inferInstance;exact rfl;intro _) | ((with_reducible apply Vx);(with_reducible assumption);exact rfl;(intro _ hw;first | exact rfl | exact ⟨_,_,rfl,hA hw,trivial⟩ | exact ⟨_,_,_,_,rfl,hA hw,hA hw,trivial⟩ | exact ⟨_,_,_,_,_,_,rfl,hA hw,hA hw,hA hw,trivial⟩ | exact ⟨_,_,_,_,_,_,_,_,rfl,hA hw,hA hw,hA hw,hA hw,trivial⟩ | exact ⟨_,_,_,_,_,_,_,_,_,_,rfl,hA hw,hA hw,hA hw,hA hw,hA hw,trivial⟩ | exact ⟨_,_,_,_,_,_,_,_,_,_,_,_,rfl,hA hw,hA hw,hA hw,hA hw,hA hw,hA hw,trivial⟩ | exact ⟨_,_,_,_,_,_,_,_,_,_,_,_,_,_,rfl,hA hw,hA hw,hA hw,hA hw,hA hw,hA hw,hA hw,trivial⟩ | exact ⟨_,_,_,_,_,_,_,_,_,_,_,_,_,_,_,_,rfl,hA hw,hA hw,hA hw,hA hw,hA hw,hA hw,hA hw,hA hw,trivial⟩ | exact ⟨_,_,_,_,_,_,_,_,_,_,_,_,_,_,_,_,_,_,_,_,_,_,_,_,rfl,hA hw,hA hw,hA hw,hA hw,hA hw,hA hw,hA hw,hA hw,hA hw,hA hw,hA hw,hA hw,trivial⟩);exact rfl;(first | rintro _ _ ⟨rfl,rfl,-⟩;with_reducible apply Eu | rintro _ _ ⟨_,_,rfl,rfl,-⟩;with_reducible apply Lx | rintro _ _ ⟨_,_,_,_,rfl,rfl,-⟩;with_reducible apply Zw | rintro _ _ ⟨_,_,_,_,_,_,rfl,rfl,-⟩;with_reducible apply La | rintro _ _ ⟨_,_,_,_,_,_,_,_,rfl,rfl,-⟩;with_reducible apply Rn | rintro _ _ ⟨_,_,_,_,_,_,_,_,_,_,_,_,rfl,rfl,-⟩;with_reducible apply Zx)) | ((with_reducible apply Sg);(with_reducible assumption);exact rfl;(intro _ hw;first | exact ⟨_,_,rfl,hB hw,trivial⟩ | exact ⟨_,_,_,_,rfl,(hB hw).inl,(hB hw).inr,trivial⟩ | exact ⟨_,_,_,_,_,_,rfl,(hB hw).inl,(hB hw).inl.inr,(hB hw).inr.inr,trivial⟩ | exact ⟨_,_,_,_,_,_,_,_,rfl,(hB hw).inl,(hB hw).inl.inr,(hB hw).inl.inr.inr,(hB hw).inr.inr.inr,trivial⟩ | exact rfl);exact sU;exact rfl;(first | rintro _ _ hlo ⟨_,_,_,rfl,rfl,h⟩ | rintro _ _ hlo ⟨_,_,_,_,_,rfl,rfl,h⟩ | rintro _ _ hlo ⟨_,_,_,_,_,_,_,rfl,rfl,h⟩ | rintro _ _ hlo ⟨_,_,_,_,_,_,_,_,_,rfl,rfl,h⟩);(with_reducible apply Lx);revert h;(repeat ((with_reducible refine Pa ?_);intro _));(with_reducible refine Pt' ?_);revert hlo;(with_reducible refine Lo1 ?_);intro _) | ((with_reducible apply Aab);exact rfl;exact rfl;exact rfl;(with_reducible assumption);exact rfl;exact rfl;exact (fun _=>rfl);exact rfl;intro _ _) | ((with_reducible apply Aac);exact rfl;exact rfl;exact rfl;(with_reducible assumption);exact rfl;exact rfl;exact (fun _=>rfl);exact rfl;intro _) | ((with_reducible apply Oq);exact rfl;intro _) | ((with_reducible apply Nj);exact rfl;exact rfl;intro _) | ((with_reducible apply Lv);exact evB;exact rfl)))
   | ((with_reducible apply T_h);(first | ((with_reducible apply Vw);exact rfl;exact rfl;(with_reducible assumption);exact rE;exact rfl;exact inferInstance;exact (fun _=>rfl);exact rfl;exact rfl) | ((with_reducible apply Yu);exact rfl;exact rfl;exact rfl;exact rfl;exact sA;exact sP;exact rfl;exact rfl) | ((with_reducible apply Abs);exact rfl;exact rfl;exact rE;exact inferInstance;(with_reducible assumption);exact (fun _=>rfl);exact rfl;exact rfl;exact rfl;intro _ _) | ((with_reducible apply Yt);exact rfl;exact rfl;exact inferInstance;(with_reducible assumption);exact (fun _=>rfl);exact rfl;exact rfl;exact rfl;intro _ _) | ((with_reducible apply Afq);exact rfl;exact rfl;exact rE;exact aT;exact inferInstance;(with_reducible assumption);exact (fun _=>rfl);exact rfl;exact rfl;exact rfl;intro _ _) | ((with_reducible apply Abt);exact rfl;exact rfl;exact aT;exact inferInstance;(with_reducible assumption);exact (fun _=>rfl);exact rfl;exact rfl;exact rfl;intro _ _) | ((with_reducible apply Afo);exact rfl;exact rfl;exact rfl;exact rE;exact inferInstance;exact inferInstance;(with_reducible assumption);(with_reducible assumption)) | ((with_reducible apply Afp);exact rfl;exact rfl;exact rE;exact inferInstance;(with_reducible assumption))))
   | ((with_reducible apply Asm);exact rfl;exact aT;exact rfl;(with_reducible assumption);exact rfl;exact rfl;exact (fun _=>rfl);intro _ _ _ _)
   | ((with_reducible apply T_ix);exact rfl;exact rfl;(with_reducible assumption);(with_reducible assumption);exact rfl;intro _ _ _ _)
   | ((with_reducible apply Akp);exact rfl;exact aT;exact rfl;(with_reducible assumption);exact rfl;exact rfl;exact (fun _=>rfl);intro _)
   | ((with_reducible apply Aip);exact rfl;exact rfl;(with_reducible assumption);(with_reducible assumption);exact rfl;intro _)
   | ((with_reducible apply Afw);exact rfl;exact rfl;exact rfl;exact rfl;exact rfl)
   | ((with_reducible apply Ex);exact rfl;exact rfl;exact rfl;exact evB;exact rfl)
   | ((with_reducible apply Ae0);exact rfl;exact rfl;exact rfl;exact rfl)
   | (((with_reducible apply T_xG);exact rfl;exact rfl;exact rfl);(first | ((with_reducible apply Ot);exact rfl;exact rfl;exact rfl;intro _) | ((with_reducible apply Sf);exact rfl;intro _) | ((with_reducible apply Qa);exact rfl;exact inferInstance;exact rfl;intro _) | ((with_reducible apply Vx);(with_reducible assumption);exact rfl;(intro _ hw;first | exact rfl | exact ⟨_,_,rfl,hA hw,trivial⟩ | exact ⟨_,_,_,_,rfl,hA hw,hA hw,trivial⟩ | exact ⟨_,_,_,_,_,_,rfl,hA hw,hA hw,hA hw,trivial⟩ | exact ⟨_,_,_,_,_,_,_,_,rfl,hA hw,hA hw,hA hw,hA hw,trivial⟩ | exact ⟨_,_,_,_,_,_,_,_,_,_,rfl,hA hw,hA hw,hA hw,hA hw,hA hw,trivial⟩ | exact ⟨_,_,_,_,_,_,_,_,_,_,_,_,rfl,hA hw,hA hw,hA hw,hA hw,hA hw,hA hw,trivial⟩ | exact ⟨_,_,_,_,_,_,_,_,_,_,_,_,_,_,rfl,hA hw,hA hw,hA hw,hA hw,hA hw,hA hw,hA hw,trivial⟩ | exact ⟨_,_,_,_,_,_,_,_,_,_,_,_,_,_,_,_,rfl,hA hw,hA hw,hA hw,hA hw,hA hw,hA hw,hA hw,hA hw,trivial⟩ | exact ⟨_,_,_,_,_,_,_,_,_,_,_,_,_,_,_,_,_,_,_,_,_,_,_,_,rfl,hA hw,hA hw,hA hw,hA hw,hA hw,hA hw,hA hw,hA hw,hA hw,hA hw,hA hw,hA hw,trivial⟩);exact rfl;(first | rintro _ _ ⟨rfl,rfl,-⟩;with_reducible apply Eu | rintro _ _ ⟨_,_,rfl,rfl,-⟩;with_reducible apply Lx | rintro _ _ ⟨_,_,_,_,rfl,rfl,-⟩;with_reducible apply Zw | rintro _ _ ⟨_,_,_,_,_,_,rfl,rfl,-⟩;with_reducible apply La | rintro _ _ ⟨_,_,_,_,_,_,_,_,rfl,rfl,-⟩;with_reducible apply Rn | rintro _ _ ⟨_,_,_,_,_,_,_,_,_,_,_,_,rfl,rfl,-⟩;with_reducible apply Zx)) | ((with_reducible apply Sg);(with_reducible assumption);exact rfl;(intro _ hw;first | exact ⟨_,_,rfl,hB hw,trivial⟩ | exact ⟨_,_,_,_,rfl,(hB hw).inl,(hB hw).inr,trivial⟩ | exact ⟨_,_,_,_,_,_,rfl,(hB hw).inl,(hB hw).inl.inr,(hB hw).inr.inr,trivial⟩ | exact ⟨_,_,_,_,_,_,_,_,rfl,(hB hw).inl,(hB hw).inl.inr,(hB hw).inl.inr.inr,(hB hw).inr.inr.inr,trivial⟩ | exact rfl);exact sU;exact rfl;(first | rintro _ _ hlo ⟨_,_,_,rfl,rfl,h⟩ | rintro _ _ hlo ⟨_,_,_,_,_,rfl,rfl,h⟩ | rintro _ _ hlo ⟨_,_,_,_,_,_,_,rfl,rfl,h⟩ | rintro _ _ hlo ⟨_,_,_,_,_,_,_,_,_,rfl,rfl,h⟩);(with_reducible apply Lx);revert h;(repeat ((with_reducible refine Pa ?_);intro _));(with_reducible refine Pt' ?_);revert hlo;(with_reducible refine Lo1 ?_);intro _) | ((with_reducible apply Aab);exact rfl;exact rfl;exact rfl;(with_reducible assumption);exact rfl;exact rfl;exact (fun _=>rfl);exact rfl;intro _ _) | ((with_reducible apply Aac);exact rfl;exact rfl;exact rfl;(with_reducible assumption);exact rfl;exact rfl;exact (fun _=>rfl);exact rfl;intro _) | ((with_reducible apply Oq);exact rfl;intro _) | ((with_reducible apply Nj);exact rfl;exact rfl;intro _) | ((with_reducible apply Lv);exact evB;exact rfl)))
   | ((with_reducible apply Apg);exact rfl;exact rfl;exact rfl;exact rfl;exact aT;exact rfl;(with_reducible assumption);exact rfl;exact rfl;exact (fun _=>rfl);intro _ _ _ _)
   | ((with_reducible apply Apf);exact rfl;exact rfl;exact rfl;exact rfl;exact rfl;(with_reducible assumption);(with_reducible assumption);exact rfl;intro _ _ _ _)
   | ((with_reducible apply S_g);exact rfl;(first | (refine Cq1 hx rfl ?_ ?_) | (refine Cq3 hx rfl ?_ ?_) | (refine Cq2 hx rfl ?_ ?_) | (refine Cq4 hx rfl ?_ ?_)) <;> (clear hx;intro _ hx))
   | fail))
  | ((with_reducible apply Is_b);(first
   | ((with_reducible apply B_p);exact rfl;exact rfl;exact wW;exact evB;exact rfl)
   | ((with_reducible apply B_q);exact rfl;exact rfl;exact wW;exact evB;exact rfl)
   | ((with_reducible apply Apl);exact rfl;exact rfl;exact rfl;exact rfl;exact rfl;exact rfl;exact rfl)
   | ((with_reducible apply Aks);exact rfl;exact rfl;exact rfl;exact rfl;exact rfl;exact rfl)
   | ((with_reducible apply Asn);exact rfl;exact rfl;exact wW;exact rfl;exact aT;exact rfl;(with_reducible assumption);exact inferInstance;exact rfl;exact rfl;exact (fun _=>rfl);intro _ _ _ _)
   | ((with_reducible apply Ako);exact rfl;exact rfl;exact rfl;exact aT;exact rfl;(with_reducible assumption);exact inferInstance;exact rfl;exact rfl;exact (fun _=>rfl);intro _)
   | ((with_reducible apply Aiq);exact rfl;exact rfl;exact rfl;exact rfl;(with_reducible assumption);(with_reducible assumption);exact inferInstance;exact rfl;intro _)
   | ((with_reducible apply B_ix);exact rfl;exact rfl;exact wW;exact rfl;exact rfl;(with_reducible assumption);(with_reducible assumption);exact inferInstance;exact rfl;intro _ _ _ _)
   | (((with_reducible apply B_x);exact rfl;exact rfl;exact wW;intro _);(first | ((with_reducible apply Ot);exact rfl;exact rfl;exact rfl;intro _) | ((with_reducible apply Sf);exact rfl;intro _) | ((with_reducible apply Qa);exact rfl;exact inferInstance;exact rfl;intro _) | ((with_reducible apply Vx);(with_reducible assumption);exact rfl;(intro _ hw;first | exact rfl | exact ⟨_,_,rfl,hA hw,trivial⟩ | exact ⟨_,_,_,_,rfl,hA hw,hA hw,trivial⟩ | exact ⟨_,_,_,_,_,_,rfl,hA hw,hA hw,hA hw,trivial⟩ | exact ⟨_,_,_,_,_,_,_,_,rfl,hA hw,hA hw,hA hw,hA hw,trivial⟩ | exact ⟨_,_,_,_,_,_,_,_,_,_,rfl,hA hw,hA hw,hA hw,hA hw,hA hw,trivial⟩ | exact ⟨_,_,_,_,_,_,_,_,_,_,_,_,rfl,hA hw,hA hw,hA hw,hA hw,hA hw,hA hw,trivial⟩ | exact ⟨_,_,_,_,_,_,_,_,_,_,_,_,_,_,rfl,hA hw,hA hw,hA hw,hA hw,hA hw,hA hw,hA hw,trivial⟩ | exact ⟨_,_,_,_,_,_,_,_,_,_,_,_,_,_,_,_,rfl,hA hw,hA hw,hA hw,hA hw,hA hw,hA hw,hA hw,hA hw,trivial⟩ | exact ⟨_,_,_,_,_,_,_,_,_,_,_,_,_,_,_,_,_,_,_,_,_,_,_,_,rfl,hA hw,hA hw,hA hw,hA hw,hA hw,hA hw,hA hw,hA hw,hA hw,hA hw,hA hw,hA hw,trivial⟩);exact rfl;(first | rintro _ _ ⟨rfl,rfl,-⟩;with_reducible apply Eu | rintro _ _ ⟨_,_,rfl,rfl,-⟩;with_reducible apply Lx | rintro _ _ ⟨_,_,_,_,rfl,rfl,-⟩;with_reducible apply Zw | rintro _ _ ⟨_,_,_,_,_,_,rfl,rfl,-⟩;with_reducible apply La | rintro _ _ ⟨_,_,_,_,_,_,_,_,rfl,rfl,-⟩;with_reducible apply Rn | rintro _ _ ⟨_,_,_,_,_,_,_,_,_,_,_,_,rfl,rfl,-⟩;with_reducible apply Zx)) | ((with_reducible apply Sg);(with_reducible assumption);exact rfl;(intro _ hw;first | exact ⟨_,_,rfl,hB hw,trivial⟩ | exact ⟨_,_,_,_,rfl,(hB hw).inl,(hB hw).inr,trivial⟩ | exact ⟨_,_,_,_,_,_,rfl,(hB hw).inl,(hB hw).inl.inr,(hB hw).inr.inr,trivial⟩ | exact ⟨_,_,_,_,_,_,_,_,rfl,(hB hw).inl,(hB hw).inl.inr,(hB hw).inl.inr.inr,(hB hw).inr.inr.inr,trivial⟩ | exact rfl);exact sU;exact rfl;(first | rintro _ _ hlo ⟨_,_,_,rfl,rfl,h⟩ | rintro _ _ hlo ⟨_,_,_,_,_,rfl,rfl,h⟩ | rintro _ _ hlo ⟨_,_,_,_,_,_,_,rfl,rfl,h⟩ | rintro _ _ hlo ⟨_,_,_,_,_,_,_,_,_,rfl,rfl,h⟩);(with_reducible apply Lx);revert h;(repeat ((with_reducible refine Pa ?_);intro _));(with_reducible refine Pt' ?_);revert hlo;(with_reducible refine Lo1 ?_);intro _) | ((with_reducible apply Aab);exact rfl;exact rfl;exact rfl;(with_reducible assumption);exact rfl;exact rfl;exact (fun _=>rfl);exact rfl;intro _ _) | ((with_reducible apply Aac);exact rfl;exact rfl;exact rfl;(with_reducible assumption);exact rfl;exact rfl;exact (fun _=>rfl);exact rfl;intro _) | ((with_reducible apply Oq);exact rfl;intro _) | ((with_reducible apply Nj);exact rfl;exact rfl;intro _) | ((with_reducible apply Lv);exact evB;exact rfl)))
   | (((with_reducible apply B_h);exact rfl;exact rfl;exact wW);(first | ((with_reducible apply Vw);exact rfl;exact rfl;(with_reducible assumption);exact rE;exact rfl;exact inferInstance;exact (fun _=>rfl);exact rfl;exact rfl) | ((with_reducible apply Yu);exact rfl;exact rfl;exact rfl;exact rfl;exact sA;exact sP;exact rfl;exact rfl) | ((with_reducible apply Abs);exact rfl;exact rfl;exact rE;exact inferInstance;(with_reducible assumption);exact (fun _=>rfl);exact rfl;exact rfl;exact rfl;intro _ _) | ((with_reducible apply Yt);exact rfl;exact rfl;exact inferInstance;(with_reducible assumption);exact (fun _=>rfl);exact rfl;exact rfl;exact rfl;intro _ _) | ((with_reducible apply Afq);exact rfl;exact rfl;exact rE;exact aT;exact inferInstance;(with_reducible assumption);exact (fun _=>rfl);exact rfl;exact rfl;exact rfl;intro _ _) | ((with_reducible apply Abt);exact rfl;exact rfl;exact aT;exact inferInstance;(with_reducible assumption);exact (fun _=>rfl);exact rfl;exact rfl;exact rfl;intro _ _) | ((with_reducible apply Afo);exact rfl;exact rfl;exact rfl;exact rE;exact inferInstance;exact inferInstance;(with_reducible assumption);(with_reducible assumption)) | ((with_reducible apply Afp);exact rfl;exact rfl;exact rE;exact inferInstance;(with_reducible assumption))))
   | ((with_reducible apply B_al);exact rfl;exact rfl;exact inferInstance;exact rfl;intro _)
   | ((with_reducible apply S_b);exact rfl;exact rfl;(first | (refine Cb1 hx rfl ?_ ?_) | (refine Cb3 hx rfl ?_ ?_) | (refine Cb2 hx rfl ?_ ?_) | (refine Cb4 hx rfl ?_ ?_)) <;> (clear hx;intro _ hx))
   | fail))
  | ((with_reducible apply Aso);exact pZ)
  | ((with_reducible apply T_nb))
  | ((fail_if_success (with_reducible (have:=Ao6 hx)));(with_reducible apply Asf 9))
  | ((with_reducible apply Aon))
  | ((with_reducible apply Akr))
  | ((with_reducible apply Ka))
  | ((with_reducible apply Afy);exact rfl)
  | ((with_reducible apply Afz);exact rfl)
  | ((with_reducible apply Ai1))
  | ((with_reducible apply Ai2))
  | ((with_reducible apply Ah5))
  | ((with_reducible apply Ah4))
  | ((with_reducible apply Afx))
  | ((with_reducible apply An2))
  | ((with_reducible apply An1))
  | ((with_reducible apply Ai0))
  | ((with_reducible apply Ai3))
  | ((with_reducible apply Apj))
  | ((with_reducible apply Apr);exact rfl)
  | ((with_reducible apply T_dl);(with_reducible assumption);kernel_rfl;kernel_rfl;kernel_rfl;kernel_rfl;exact aL)
  | ((with_reducible apply S_c);(first | (refine Cq1 hx rfl ?_ ?_) | (refine Cq3 hx rfl ?_ ?_) | (refine Cq2 hx rfl ?_ ?_) | (refine Cq4 hx rfl ?_ ?_)) <;> (clear hx;intro _ hx))
  | (with_reducible (replace hx:=Akm hx (by with_reducible assumption)))
  | (with_reducible (refine Ao5 hx ?_;clear hx;intro _ _ _ hx))
  | (with_reducible (refine Akq hx ?_;clear hx;intro _ _ _ hx))
  | (with_reducible (refine Ao4 hx ?_;clear hx;intro _ _ hx))
  | (with_reducible (exact Are hx))
  | (with_reducible (refine Asl hx ?_;clear hx;intro _ hx))
  | (with_reducible (replace hx:=Ao8 hx))
  | (with_reducible (replace hx:=Ao9 hx))
  | (with_reducible (replace hx:=Ao7 hx);(try dsimp only at hx))
  | (with_reducible (replace hx:=Ac9 (by with_reducible assumption) hx);(try dsimp only at hx))
  | (((with_reducible (have e:=Option.some.inj hx));subst e;(with_reducible apply Afr);exact rS;exact rP;exact lO;exact pK))
  | (((with_reducible (have e:=Option.some.inj hx));subst e;apply Bo;(with_reducible apply Afr);exact rS;exact rP;exact lO;exact pK))
  | (((with_reducible (have e:=Option.some.inj hx));subst e;apply Bo;apply Bo;(with_reducible apply Afr);exact rS;exact rP;exact lO;exact pK))
  | (((with_reducible (have e:=Option.some.inj hx));subst e;apply Bo;apply Bo;apply Bo;(with_reducible apply Afr);exact rS;exact rP;exact lO;exact pK))
  | (((with_reducible (have e:=Option.some.inj hx));subst e;(with_reducible apply Afs);exact rS;exact rP;exact lO;exact pK))
  | (((with_reducible (have e:=Option.some.inj hx));subst e;apply Bo;(with_reducible apply Afs);exact rS;exact rP;exact lO;exact pK))
  | (((with_reducible (have e:=Option.some.inj hx));subst e;apply Bo;apply Bo;(with_reducible apply Afs);exact rS;exact rP;exact lO;exact pK))
  | (((with_reducible (have e:=Option.some.inj hx));subst e;apply Bo;apply Bo;apply Bo;(with_reducible apply Afs);exact rS;exact rP;exact lO;exact pK))
  | (((with_reducible (have e:=Option.some.inj hx));subst e;(with_reducible apply Aty);exact rS;exact spt;exact lB;intro _ hw;first | exact ⟨_,_,_,rfl,rfl,hZ hw,trivial⟩ | exact ⟨_,_,_,_,_,rfl,rfl,hZ hw,hZ hw,trivial⟩ | exact ⟨_,_,_,_,_,_,_,rfl,rfl,hZ hw,hZ hw,hZ hw,trivial⟩ | exact ⟨_,_,_,_,_,_,_,_,_,rfl,rfl,hZ hw,hZ hw,hZ hw,hZ hw,trivial⟩))
  | (((with_reducible (have e:=Option.some.inj hx));subst e;(with_reducible apply Atz);exact rS;exact spt;exact lB;intro _ hw;first | exact ⟨_,_,_,rfl,rfl,hZ hw,trivial⟩ | exact ⟨_,_,_,_,_,rfl,rfl,hZ hw,hZ hw,trivial⟩ | exact ⟨_,_,_,_,_,_,_,rfl,rfl,hZ hw,hZ hw,hZ hw,trivial⟩ | exact ⟨_,_,_,_,_,_,_,_,_,rfl,rfl,hZ hw,hZ hw,hZ hw,hZ hw,trivial⟩))
  | ((exact Ma _ _ hx trivial sF pK))
  | ((exact Ro _ _ hx trivial sF pK))
  | ((exact Ma _ () hx trivial sF pK))
  | ((exact Ro _ () hx trivial sF pK))
  | ((apply Ma _ (_,_) hx trivial;(dsimp only;exact sF);(dsimp only;exact pK)))
  | ((apply Bo;apply Ma _ (_,_) hx trivial;(dsimp only;exact sF);(dsimp only;exact pK)))
  | ((apply Bo;apply Bo;apply Ma _ (_,_) hx trivial;(dsimp only;exact sF);(dsimp only;exact pK)))
  | ((apply Ro _ (_,_) hx trivial;(dsimp only;exact sF);(dsimp only;exact pK)))
  | ((apply Bo;apply Ro _ (_,_) hx trivial;(dsimp only;exact sF);(dsimp only;exact pK)))
  | ((apply Bo;apply Bo;apply Ro _ (_,_) hx trivial;(dsimp only;exact sF);(dsimp only;exact pK)))
  | ((apply Ma _ (_,_,_) hx trivial;(dsimp only;exact sF);(dsimp only;exact pK)))
  | ((apply Bo;apply Ma _ (_,_,_) hx trivial;(dsimp only;exact sF);(dsimp only;exact pK)))
  | ((apply Bo;apply Bo;apply Ma _ (_,_,_) hx trivial;(dsimp only;exact sF);(dsimp only;exact pK)))
  | ((apply Ro _ (_,_,_) hx trivial;(dsimp only;exact sF);(dsimp only;exact pK)))
  | ((apply Bo;apply Ro _ (_,_,_) hx trivial;(dsimp only;exact sF);(dsimp only;exact pK)))
  | ((apply Bo;apply Bo;apply Ro _ (_,_,_) hx trivial;(dsimp only;exact sF);(dsimp only;exact pK)))
  | ((apply Ma _ (_,_,_,_) hx trivial;(dsimp only;exact sF);(dsimp only;exact pK)))
  | ((apply Bo;apply Ma _ (_,_,_,_) hx trivial;(dsimp only;exact sF);(dsimp only;exact pK)))
  | ((apply Bo;apply Bo;apply Ma _ (_,_,_,_) hx trivial;(dsimp only;exact sF);(dsimp only;exact pK)))
  | ((apply Ro _ (_,_,_,_) hx trivial;(dsimp only;exact sF);(dsimp only;exact pK)))
  | ((apply Bo;apply Ro _ (_,_,_,_) hx trivial;(dsimp only;exact sF);(dsimp only;exact pK)))
  | ((apply Bo;apply Bo;apply Ro _ (_,_,_,_) hx trivial;(dsimp only;exact sF);(dsimp only;exact pK)))
  | ((apply Ma _ (_,_,_,_,_) hx trivial;(dsimp only;exact sF);(dsimp only;exact pK)))
  | ((apply Bo;apply Ma _ (_,_,_,_,_) hx trivial;(dsimp only;exact sF);(dsimp only;exact pK)))
  | ((apply Bo;apply Bo;apply Ma _ (_,_,_,_,_) hx trivial;(dsimp only;exact sF);(dsimp only;exact pK)))
  | ((apply Ro _ (_,_,_,_,_) hx trivial;(dsimp only;exact sF);(dsimp only;exact pK)))
  | ((apply Bo;apply Ro _ (_,_,_,_,_) hx trivial;(dsimp only;exact sF);(dsimp only;exact pK)))
  | ((apply Bo;apply Bo;apply Ro _ (_,_,_,_,_) hx trivial;(dsimp only;exact sF);(dsimp only;exact pK)))
  | ((apply Ma _ (_,_,_,_,_,_) hx trivial;(dsimp only;exact sF);(dsimp only;exact pK)))
  | ((apply Bo;apply Ma _ (_,_,_,_,_,_) hx trivial;(dsimp only;exact sF);(dsimp only;exact pK)))
  | ((apply Bo;apply Bo;apply Ma _ (_,_,_,_,_,_) hx trivial;(dsimp only;exact sF);(dsimp only;exact pK)))
  | ((apply Ro _ (_,_,_,_,_,_) hx trivial;(dsimp only;exact sF);(dsimp only;exact pK)))
  | ((apply Bo;apply Ro _ (_,_,_,_,_,_) hx trivial;(dsimp only;exact sF);(dsimp only;exact pK)))
  | ((apply Bo;apply Bo;apply Ro _ (_,_,_,_,_,_) hx trivial;(dsimp only;exact sF);(dsimp only;exact pK)))
  | ((exact Ma _ _ hx trivial sF2 pK2))
  | ((exact Ro _ _ hx trivial sF2 pK2))
  | ((exact Ma _ () hx trivial sF2 pK2))
  | ((exact Ro _ () hx trivial sF2 pK2))
  | ((apply Ma _ (_,_) hx trivial;(dsimp only;exact sF2);(dsimp only;exact pK2)))
  | ((apply Ro _ (_,_) hx trivial;(dsimp only;exact sF2);(dsimp only;exact pK2)))
  | ((apply Ma _ (_,_,_) hx trivial;(dsimp only;exact sF2);(dsimp only;exact pK2)))
  | ((apply Ro _ (_,_,_) hx trivial;(dsimp only;exact sF2);(dsimp only;exact pK2)))
  | ((apply Ma _ (_,_,_,_) hx trivial;(dsimp only;exact sF2);(dsimp only;exact pK2)))
  | ((apply Ro _ (_,_,_,_) hx trivial;(dsimp only;exact sF2);(dsimp only;exact pK2)))
  | ((apply Ma _ (_,_,_,_,_) hx trivial;(dsimp only;exact sF2);(dsimp only;exact pK2)))
  | ((apply Ro _ (_,_,_,_,_) hx trivial;(dsimp only;exact sF2);(dsimp only;exact pK2)))
  | ((apply Ma _ (_,_,_,_,_,_) hx trivial;(dsimp only;exact sF2);(dsimp only;exact pK2)))
  | ((apply Ro _ (_,_,_,_,_,_) hx trivial;(dsimp only;exact sF2);(dsimp only;exact pK2)))
  | fail):G:=h
set_option maxRecDepth 100000 in
/-- As far as the walk comes by itself. -/
theorem pre {G G':Prop} (k:G') (h:Wr G'→G:=by
 intro k
 have _:Mark:=⟨trivial⟩
 have hx:=hx
 repeat (first
  | ((with_reducible apply App))
  | ((with_reducible apply Aiz))
  | ((with_reducible apply Apq))
  | ((with_reducible apply Akn);(first
   | ((with_reducible apply Ao);exact evB;exact rfl)
   | ((with_reducible apply T_x);(first | ((with_reducible apply Ot);exact rfl;exact rfl;exact rfl;intro _) | ((with_reducible apply Sf);exact rfl;intro _) | ((with_reducible apply Qa);exact rfl;exact inferInstance;exact rfl;intro _) | ((with_reducible apply Vx);(with_reducible assumption);exact rfl;(intro _ hw;first | exact rfl | exact ⟨_,_,rfl,hA hw,trivial⟩ | exact ⟨_,_,_,_,rfl,hA hw,hA hw,trivial⟩ | exact ⟨_,_,_,_,_,_,rfl,hA hw,hA hw,hA hw,trivial⟩ | exact ⟨_,_,_,_,_,_,_,_,rfl,hA hw,hA hw,hA hw,hA hw,trivial⟩ | exact ⟨_,_,_,_,_,_,_,_,_,_,rfl,hA hw,hA hw,hA hw,hA hw,hA hw,trivial⟩ | exact ⟨_,_,_,_,_,_,_,_,_,_,_,_,rfl,hA hw,hA hw,hA hw,hA hw,hA hw,hA hw,trivial⟩ | exact ⟨_,_,_,_,_,_,_,_,_,_,_,_,_,_,rfl,hA hw,hA hw,hA hw,hA hw,hA hw,hA hw,hA hw,trivial⟩ | exact ⟨_,_,_,_,_,_,_,_,_,_,_,_,_,_,_,_,rfl,hA hw,hA hw,hA hw,hA hw,hA hw,hA hw,hA hw,hA hw,trivial⟩ | exact ⟨_,_,_,_,_,_,_,_,_,_,_,_,_,_,_,_,_,_,_,_,_,_,_,_,rfl,hA hw,hA hw,hA hw,hA hw,hA hw,hA hw,hA hw,hA hw,hA hw,hA hw,hA hw,hA hw,trivial⟩);exact rfl;(first | rintro _ _ ⟨rfl,rfl,-⟩;with_reducible apply Eu | rintro _ _ ⟨_,_,rfl,rfl,-⟩;with_reducible apply Lx | rintro _ _ ⟨_,_,_,_,rfl,rfl,-⟩;with_reducible apply Zw | rintro _ _ ⟨_,_,_,_,_,_,rfl,rfl,-⟩;with_reducible apply La | rintro _ _ ⟨_,_,_,_,_,_,_,_,rfl,rfl,-⟩;with_reducible apply Rn | rintro _ _ ⟨_,_,_,_,_,_,_,_,_,_,_,_,rfl,rfl,-⟩;with_reducible apply Zx)) | ((with_reducible apply Sg);(with_reducible assumption);exact rfl;(intro _ hw;first | exact ⟨_,_,rfl,hB hw,trivial⟩ | exact ⟨_,_,_,_,rfl,(hB hw).inl,(hB hw).inr,trivial⟩ | exact ⟨_,_,_,_,_,_,rfl,(hB hw).inl,(hB hw).inl.inr,(hB hw).inr.inr,trivial⟩ | exact ⟨_,_,_,_,_,_,_,_,rfl,(hB hw).inl,(hB hw).inl.inr,(hB hw).inl.inr.inr,(hB hw).inr.inr.inr,trivial⟩ | exact rfl);exact sU;exact rfl;(first | rintro _ _ hlo ⟨_,_,_,rfl,rfl,h⟩ | rintro _ _ hlo ⟨_,_,_,_,_,rfl,rfl,h⟩ | rintro _ _ hlo ⟨_,_,_,_,_,_,_,rfl,rfl,h⟩ | rintro _ _ hlo ⟨_,_,_,_,_,_,_,_,_,rfl,rfl,h⟩);(with_reducible apply Lx);revert h;(repeat ((with_reducible refine Pa ?_);intro _));(with_reducible refine Pt' ?_);revert hlo;(with_reducible refine Lo1 ?_);intro _) | ((with_reducible apply Aab);exact rfl;exact rfl;exact rfl;(with_reducible assumption);exact rfl;exact rfl;exact (fun _=>rfl);exact rfl;intro _ _) | ((with_reducible apply Aac);exact rfl;exact rfl;exact rfl;(with_reducible assumption);exact rfl;exact rfl;exact (fun _=>rfl);exact rfl;intro _) | ((with_reducible apply Oq);exact rfl;intro _) | ((with_reducible apply Nj);exact rfl;exact rfl;intro _) | ((with_reducible apply Lv);exact evB;exact rfl)))
   | ((with_reducible apply T_h);(first | ((with_reducible apply Vw);exact rfl;exact rfl;(with_reducible assumption);exact rE;exact rfl;exact inferInstance;exact (fun _=>rfl);exact rfl;exact rfl) | ((with_reducible apply Yu);exact rfl;exact rfl;exact rfl;exact rfl;exact sA;exact sP;exact rfl;exact rfl) | ((with_reducible apply Abs);exact rfl;exact rfl;exact rE;exact inferInstance;(with_reducible assumption);exact (fun _=>rfl);exact rfl;exact rfl;exact rfl;intro _ _) | ((with_reducible apply Yt);exact rfl;exact rfl;exact inferInstance;(with_reducible assumption);exact (fun _=>rfl);exact rfl;exact rfl;exact rfl;intro _ _) | ((with_reducible apply Afq);exact rfl;exact rfl;exact rE;exact aT;exact inferInstance;(with_reducible assumption);exact (fun _=>rfl);exact rfl;exact rfl;exact rfl;intro _ _) | ((with_reducible apply Abt);exact rfl;exact rfl;exact aT;exact inferInstance;(with_reducible assumption);exact (fun _=>rfl);exact rfl;exact rfl;exact rfl;intro _ _) | ((with_reducible apply Afo);exact rfl;exact rfl;exact rfl;exact rE;exact inferInstance;exact inferInstance;(with_reducible assumption);(with_reducible assumption)) | ((with_reducible apply Afp);exact rfl;exact rfl;exact rE;exact inferInstance;(with_reducible assumption))))
   | ((with_reducible apply Asm);exact rfl;exact aT;exact rfl;(with_reducible assumption);exact rfl;exact rfl;exact (fun _=>rfl);intro _ _ _ _)
   | ((with_reducible apply T_ix);exact rfl;exact rfl;(with_reducible assumption);(with_reducible assumption);exact rfl;intro _ _ _ _)
   | ((with_reducible apply Akp);exact rfl;exact aT;exact rfl;(with_reducible assumption);exact rfl;exact rfl;exact (fun _=>rfl);intro _)
   | ((with_reducible apply Aip);exact rfl;exact rfl;(with_reducible assumption);(with_reducible assumption);exact rfl;intro _)
   | ((with_reducible apply Afw);exact rfl;exact rfl;exact rfl;exact rfl;exact rfl)
   | ((with_reducible apply Ex);exact rfl;exact rfl;exact rfl;exact evB;exact rfl)
   | ((with_reducible apply Ae0);exact rfl;exact rfl;exact rfl;exact rfl)
   | (((with_reducible apply T_xG);exact rfl;exact rfl;exact rfl);(first | ((with_reducible apply Ot);exact rfl;exact rfl;exact rfl;intro _) | ((with_reducible apply Sf);exact rfl;intro _) | ((with_reducible apply Qa);exact rfl;exact inferInstance;exact rfl;intro _) | ((with_reducible apply Vx);(with_reducible assumption);exact rfl;(intro _ hw;first | exact rfl | exact ⟨_,_,rfl,hA hw,trivial⟩ | exact ⟨_,_,_,_,rfl,hA hw,hA hw,trivial⟩ | exact ⟨_,_,_,_,_,_,rfl,hA hw,hA hw,hA hw,trivial⟩ | exact ⟨_,_,_,_,_,_,_,_,rfl,hA hw,hA hw,hA hw,hA hw,trivial⟩ | exact ⟨_,_,_,_,_,_,_,_,_,_,rfl,hA hw,hA hw,hA hw,hA hw,hA hw,trivial⟩ | exact ⟨_,_,_,_,_,_,_,_,_,_,_,_,rfl,hA hw,hA hw,hA hw,hA hw,hA hw,hA hw,trivial⟩ | exact ⟨_,_,_,_,_,_,_,_,_,_,_,_,_,_,rfl,hA hw,hA hw,hA hw,hA hw,hA hw,hA hw,hA hw,trivial⟩ | exact ⟨_,_,_,_,_,_,_,_,_,_,_,_,_,_,_,_,rfl,hA hw,hA hw,hA hw,hA hw,hA hw,hA hw,hA hw,hA hw,trivial⟩ | exact ⟨_,_,_,_,_,_,_,_,_,_,_,_,_,_,_,_,_,_,_,_,_,_,_,_,rfl,hA hw,hA hw,hA hw,hA hw,hA hw,hA hw,hA hw,hA hw,hA hw,hA hw,hA hw,hA hw,trivial⟩);exact rfl;(first | rintro _ _ ⟨rfl,rfl,-⟩;with_reducible apply Eu | rintro _ _ ⟨_,_,rfl,rfl,-⟩;with_reducible apply Lx | rintro _ _ ⟨_,_,_,_,rfl,rfl,-⟩;with_reducible apply Zw | rintro _ _ ⟨_,_,_,_,_,_,rfl,rfl,-⟩;with_reducible apply La | rintro _ _ ⟨_,_,_,_,_,_,_,_,rfl,rfl,-⟩;with_reducible apply Rn | rintro _ _ ⟨_,_,_,_,_,_,_,_,_,_,_,_,rfl,rfl,-⟩;with_reducible apply Zx)) | ((with_reducible apply Sg);(with_reducible assumption);exact rfl;(intro _ hw;first | exact ⟨_,_,rfl,hB hw,trivial⟩ | exact ⟨_,_,_,_,rfl,(hB hw).inl,(hB hw).inr,trivial⟩ | exact ⟨_,_,_,_,_,_,rfl,(hB hw).inl,(hB hw).inl.inr,(hB hw).inr.inr,trivial⟩ | exact ⟨_,_,_,_,_,_,_,_,rfl,(hB hw).inl,(hB hw).inl.inr,(hB hw).inl.inr.inr,(hB hw).inr.inr.inr,trivial⟩ | exact rfl);exact sU;exact rfl;(first | rintro _ _ hlo ⟨_,_,_,rfl,rfl,h⟩ | rintro _ _ hlo ⟨_,_,_,_,_,rfl,rfl,h⟩ | rintro _ _ hlo ⟨_,_,_,_,_,_,_,rfl,rfl,h⟩ | rintro _ _ hlo ⟨_,_,_,_,_,_,_,_,_,rfl,rfl,h⟩);(with_reducible apply Lx);revert h;(repeat ((with_reducible refine Pa ?_);intro _));(with_reducible refine Pt' ?_);revert hlo;(with_reducible refine Lo1 ?_);intro _) | ((with_reducible apply Aab);exact rfl;exact rfl;exact rfl;(with_reducible assumption);exact rfl;exact rfl;exact (fun _=>rfl);exact rfl;intro _ _) | ((with_reducible apply Aac);exact rfl;exact rfl;exact rfl;(with_reducible assumption);exact rfl;exact rfl;exact (fun _=>rfl);exact rfl;intro _) | ((with_reducible apply Oq);exact rfl;intro _) | ((with_reducible apply Nj);exact rfl;exact rfl;intro _) | ((with_reducible apply Lv);exact evB;exact rfl)))
   | ((with_reducible apply Apg);exact rfl;exact rfl;exact rfl;exact rfl;exact aT;exact rfl;(with_reducible assumption);exact rfl;exact rfl;exact (fun _=>rfl);intro _ _ _ _)
   | ((with_reducible apply Apf);exact rfl;exact rfl;exact rfl;exact rfl;exact rfl;(with_reducible assumption);(with_reducible assumption);exact rfl;intro _ _ _ _)
   | fail))
  | ((with_reducible apply Is_b);(first
   | ((with_reducible apply B_p);exact rfl;exact rfl;exact wW;exact evB;exact rfl)
   | ((with_reducible apply B_q);exact rfl;exact rfl;exact wW;exact evB;exact rfl)
   | ((with_reducible apply Apl);exact rfl;exact rfl;exact rfl;exact rfl;exact rfl;exact rfl;exact rfl)
   | ((with_reducible apply Aks);exact rfl;exact rfl;exact rfl;exact rfl;exact rfl;exact rfl)
   | ((with_reducible apply Asn);exact rfl;exact rfl;exact wW;exact rfl;exact aT;exact rfl;(with_reducible assumption);exact inferInstance;exact rfl;exact rfl;exact (fun _=>rfl);intro _ _ _ _)
   | ((with_reducible apply Ako);exact rfl;exact rfl;exact rfl;exact aT;exact rfl;(with_reducible assumption);exact inferInstance;exact rfl;exact rfl;exact (fun _=>rfl);intro _)
   | ((with_reducible apply Aiq);exact rfl;exact rfl;exact rfl;exact rfl;(with_reducible assumption);(with_reducible assumption);exact inferInstance;exact rfl;intro _)
   | ((with_reducible apply B_ix);exact rfl;exact rfl;exact wW;exact rfl;exact rfl;(with_reducible assumption);(with_reducible assumption);exact inferInstance;exact rfl;intro _ _ _ _)
   | (((with_reducible apply B_x);exact rfl;exact rfl;exact wW;intro _);(first | ((with_reducible apply Ot);exact rfl;exact rfl;exact rfl;intro _) | ((with_reducible apply Sf);exact rfl;intro _) | ((with_reducible apply Qa);exact rfl;exact inferInstance;exact rfl;intro _) | ((with_reducible apply Vx);(with_reducible assumption);exact rfl;(intro _ hw;first | exact rfl | exact ⟨_,_,rfl,hA hw,trivial⟩ | exact ⟨_,_,_,_,rfl,hA hw,hA hw,trivial⟩ | exact ⟨_,_,_,_,_,_,rfl,hA hw,hA hw,hA hw,trivial⟩ | exact ⟨_,_,_,_,_,_,_,_,rfl,hA hw,hA hw,hA hw,hA hw,trivial⟩ | exact ⟨_,_,_,_,_,_,_,_,_,_,rfl,hA hw,hA hw,hA hw,hA hw,hA hw,trivial⟩ | exact ⟨_,_,_,_,_,_,_,_,_,_,_,_,rfl,hA hw,hA hw,hA hw,hA hw,hA hw,hA hw,trivial⟩ | exact ⟨_,_,_,_,_,_,_,_,_,_,_,_,_,_,rfl,hA hw,hA hw,hA hw,hA hw,hA hw,hA hw,hA hw,trivial⟩ | exact ⟨_,_,_,_,_,_,_,_,_,_,_,_,_,_,_,_,rfl,hA hw,hA hw,hA hw,hA hw,hA hw,hA hw,hA hw,hA hw,trivial⟩ | exact ⟨_,_,_,_,_,_,_,_,_,_,_,_,_,_,_,_,_,_,_,_,_,_,_,_,rfl,hA hw,hA hw,hA hw,hA hw,hA hw,hA hw,hA hw,hA hw,hA hw,hA hw,hA hw,hA hw,trivial⟩);exact rfl;(first | rintro _ _ ⟨rfl,rfl,-⟩;with_reducible apply Eu | rintro _ _ ⟨_,_,rfl,rfl,-⟩;with_reducible apply Lx | rintro _ _ ⟨_,_,_,_,rfl,rfl,-⟩;with_reducible apply Zw | rintro _ _ ⟨_,_,_,_,_,_,rfl,rfl,-⟩;with_reducible apply La | rintro _ _ ⟨_,_,_,_,_,_,_,_,rfl,rfl,-⟩;with_reducible apply Rn | rintro _ _ ⟨_,_,_,_,_,_,_,_,_,_,_,_,rfl,rfl,-⟩;with_reducible apply Zx)) | ((with_reducible apply Sg);(with_reducible assumption);exact rfl;(intro _ hw;first | exact ⟨_,_,rfl,hB hw,trivial⟩ | exact ⟨_,_,_,_,rfl,(hB hw).inl,(hB hw).inr,trivial⟩ | exact ⟨_,_,_,_,_,_,rfl,(hB hw).inl,(hB hw).inl.inr,(hB hw).inr.inr,trivial⟩ | exact ⟨_,_,_,_,_,_,_,_,rfl,(hB hw).inl,(hB hw).inl.inr,(hB hw).inl.inr.inr,(hB hw).inr.inr.inr,trivial⟩ | exact rfl);exact sU;exact rfl;(first | rintro _ _ hlo ⟨_,_,_,rfl,rfl,h⟩ | rintro _ _ hlo ⟨_,_,_,_,_,rfl,rfl,h⟩ | rintro _ _ hlo ⟨_,_,_,_,_,_,_,rfl,rfl,h⟩ | rintro _ _ hlo ⟨_,_,_,_,_,_,_,_,_,rfl,rfl,h⟩);(with_reducible apply Lx);revert h;(repeat ((with_reducible refine Pa ?_);intro _));(with_reducible refine Pt' ?_);revert hlo;(with_reducible refine Lo1 ?_);intro _) | ((with_reducible apply Aab);exact rfl;exact rfl;exact rfl;(with_reducible assumption);exact rfl;exact rfl;exact (fun _=>rfl);exact rfl;intro _ _) | ((with_reducible apply Aac);exact rfl;exact rfl;exact rfl;(with_reducible assumption);exact rfl;exact rfl;exact (fun _=>rfl);exact rfl;intro _) | ((with_reducible apply Oq);exact rfl;intro _) | ((with_reducible apply Nj);exact rfl;exact rfl;intro _) | ((with_reducible apply Lv);exact evB;exact rfl)))
   | (((with_reducible apply B_h);exact rfl;exact rfl;exact wW);(first | ((with_reducible apply Vw);exact rfl;exact rfl;(with_reducible assumption);exact rE;exact rfl;exact inferInstance;exact (fun _=>rfl);exact rfl;exact rfl) | ((with_reducible apply Yu);exact rfl;exact rfl;exact rfl;exact rfl;exact sA;exact sP;exact rfl;exact rfl) | ((with_reducible apply Abs);exact rfl;exact rfl;exact rE;exact inferInstance;(with_reducible assumption);exact (fun _=>rfl);exact rfl;exact rfl;exact rfl;intro _ _) | ((with_reducible apply Yt);exact rfl;exact rfl;exact inferInstance;(with_reducible assumption);exact (fun _=>rfl);exact rfl;exact rfl;exact rfl;intro _ _) | ((with_reducible apply Afq);exact rfl;exact rfl;exact rE;exact aT;exact inferInstance;(with_reducible assumption);exact (fun _=>rfl);exact rfl;exact rfl;exact rfl;intro _ _) | ((with_reducible apply Abt);exact rfl;exact rfl;exact aT;exact inferInstance;(with_reducible assumption);exact (fun _=>rfl);exact rfl;exact rfl;exact rfl;intro _ _) | ((with_reducible apply Afo);exact rfl;exact rfl;exact rfl;exact rE;exact inferInstance;exact inferInstance;(with_reducible assumption);(with_reducible assumption)) | ((with_reducible apply Afp);exact rfl;exact rfl;exact rE;exact inferInstance;(with_reducible assumption))))
   | ((with_reducible apply B_al);exact rfl;exact rfl;exact inferInstance;exact rfl;intro _)
   | fail))
  | ((with_reducible apply Aso);exact pZ)
  | ((with_reducible apply T_nb))
  | ((fail_if_success (with_reducible (have:=Ao6 hx)));(with_reducible apply Asf 9))
  | ((with_reducible apply Aon))
  | ((with_reducible apply Akr))
  | ((fail_if_success (with_reducible (have:=Ao7 hx)));(with_reducible apply Ka))
  | ((with_reducible apply Afy);exact rfl)
  | ((with_reducible apply Afz);exact rfl)
  | ((with_reducible apply Ai1))
  | ((with_reducible apply Ai2))
  | ((with_reducible apply Ah5))
  | ((with_reducible apply Ah4))
  | ((with_reducible apply Afx))
  | ((with_reducible apply An2))
  | ((with_reducible apply An1))
  | ((with_reducible apply Ai0))
  | ((with_reducible apply Ai3))
  | ((with_reducible apply Apj))
  | ((with_reducible apply Apr);exact rfl)
  | ((with_reducible apply T_dl);(with_reducible assumption);kernel_rfl;kernel_rfl;kernel_rfl;kernel_rfl;exact aL)
  | (with_reducible (replace hx:=Akm hx (by with_reducible assumption)))
  | (with_reducible (refine Ao5 hx ?_;clear hx;intro _ _ _ hx))
  | (with_reducible (refine Akq hx ?_;clear hx;intro _ _ _ hx))
  | ((fail_if_success (with_reducible (have:=Ao6 hx)));with_reducible (refine Ao4 hx ?_;clear hx;intro _ _ hx))
  | (with_reducible (refine Asl hx ?_;clear hx;intro _ hx))
  | (with_reducible (replace hx:=Ao8 hx))
  | (with_reducible (replace hx:=Ao9 hx))
  | (with_reducible (replace hx:=Ac9 (by with_reducible assumption) hx);(try dsimp only at hx))
  | fail)
 revert hx
 repeat (rename_i z;revert z;fail_if_success (show Mark→_))
 exact k.out):G:=h ⟨k⟩
end Go.Proofs.YtgfiafnelibjgaaGreat
