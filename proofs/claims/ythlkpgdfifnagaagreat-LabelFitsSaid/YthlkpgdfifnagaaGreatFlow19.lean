import Derived.Test.YthlkpgdfifnagaaGreatDraw2
set_option maxRecDepth 100000
namespace Go.Proofs.YthlkpgdfifnagaaGreat
open Go Go.RowKit
class Cm(P:Program)(s:TypeId)(f:Nat)(off:outParam Nat):Prop where
 h:Mo P s f off
class OneI(P:Program)(t:TypeId):Prop where
 h:Tl P t
class AggI(P:Program)(t:TypeId)(k:outParam Nat):Prop where
 h:Rw P t k
class Nb(P:Program)(t:TypeId)(e sz:outParam Nat):Prop where
 h:Ni P t e sz
class Afp(P:Program)(t:TypeId)(e sz bytes:outParam Nat):Prop where
 h:Xf P t e sz bytes
class Te(P:Program)(t:TypeId)(cs:outParam (List Value)):Prop where
 h:Rj P t cs
class Le(P:Program)(t:TypeId)(ps:List (Nat × Value))(cs:outParam (List Value)):Prop where
 h:Wv P t ps cs
class Qd(P:Program)(t:TypeId)(len:Nat)(ps:List (Nat × Value))(e:outParam TypeId)(cs:outParam (List Value)):Prop where
 h:Jw P t len ps e cs
class Ari(P:Program)(s:TypeId)(xs:List Value)(f:Nat)(v:outParam Value):Prop where
 h:Aog P s xs f v
class UndI(P:Program)(t:TypeId)(u:outParam TypeDesc):Prop where
 h:P.underlying t=some u
class EqSI(P:Program)(t:TypeId)(xs ys:List Value)(r:outParam Bool):Prop where
 h:∀ w,(Op.equalIn 10000 t (.agg xs.toArray) (.agg ys.toArray)).run P w = .ok r w
 g:P.eqGuardType P.depth t=false
class ArrI(P:Program)(t:TypeId)(m sz:outParam Nat):Prop where
 h:Ai9 P t m sz
class MixI(P:Program):Prop where
 h:P.follows .mixedOrders=true
class EncI(t:TypeId){α:outParam Type}(enc:outParam (α->List Value)):Prop where
 h:True
class DecI{α:Type}(enc:α->List Value)(cs:List Value)(x:outParam α):Prop where
 h:cs=enc x
class Aa0{α:Type}(ve:α->Value)(v:Value)(x:outParam α):Prop where
 h:v=ve x
class KeyI(P:Program)(k:TypeId){κ:outParam Type}(ke:outParam (κ->Value))(rng:outParam (κ->Prop)):Prop where
 h:Maps.Keyed P k
 inj:∀ x y,ke x=ke y->x=y
 isk:∀ x,rng x->(keyOf P k (ke x)).isSome=true
class ValI(P:Program)(e:TypeId){υ:outParam Type}(ve:outParam (υ->Value))(z0:outParam υ):Prop where
 inj:∀ x y,ve x=ve y->x=y
 z:∀ w,(zeroValue e).run P w = .ok (ve z0) w
class MkI(P:Program)(t:TypeId)(e sz bytes:outParam Nat){α:outParam Type}(enc:outParam (α->List Value))(x0:outParam α):Prop where
 h:∃ i z,P.underlying t=some (.slice e)/\P.info? e=some i/\i.zero=some z/\enc x0=z.cells.toList/\i.size=sz/\i.bytes=bytes
class Aw4(P:Program)(t:TypeId)(xs:List Value):Prop where
 h:Akg P t xs
class Arj(P:Program)(t:TypeId)(xs:List Value){α:outParam Type}(f:outParam (α->Value))(ys:outParam (List α)):Prop where
 h:Aki P t xs (ys.map f)
class UnfI{α:Type}(f:α->Value)(x:α)(v:outParam Value):Prop where
 h:f x=v
class ResI(fn:Func)(rs:outParam (List ResultVar)):Prop where
 h:fn.results=rs.toArray
class Con{ρ:Type}(F:Option ρ)(P:outParam Program)(f:outParam FuncId)(Pre:outParam (List Ent->List Value->Prop))(Post:outParam (List Ent->ρ->Value->List Ent->Prop)):Prop where
 h:∀ K vs r,Pre K vs->F=some r->∀ w,(∀ e∈K,Ent.ok w e)->CtL P f vs w (Post K r)
structure Cn(P:Program)(f:FuncId)(Pre:List Ent->List Value->Prop)(Post:List Ent->Value->List Ent->Prop):Prop where
 h:∀ K vs,Pre K vs->∀ w,(∀ e∈K,Ent.ok w e)->CtL P f vs w (Post K)
theorem cn{ρ:Type}{F:Option ρ}{P:Program}{f:FuncId}{Pre:List Ent->List Value->Prop}{Post:List Ent->ρ->Value->List Ent->Prop}[hc:Con F P f Pre Post]{r:ρ}(h:F=some r):Cn P f Pre (fun K=>Post K r):=⟨fun K vs hp w hK=>hc.h K vs r hp h w hK⟩
class SzI(P:Program)(t:TypeId)(k:outParam Nat):Prop where
 h:∀ w,(sizeOf t).run P w = .ok k w
instance{P t}[h:OneI P t]:SzI P t 1:=⟨h.h.2⟩
instance{P t k}[h:AggI P t k]:SzI P t k:=⟨h.h.2⟩
theorem Az1{α ρ:Type}{o:Option α}{k:α->Option ρ}{x:α}{r:Option ρ}(h:bnd o k=r)(hx:o=some x):k x=r:=by subst hx;exact h
theorem Aw5{α ρ:Type}{o:Option α}{k:α->Option ρ}{r:ρ}{G:Prop}(h:bnd o k=some r)(K:∀ x,o=some x->k x=some r->G):G:=let ⟨x,h1,h2⟩:=Au h;K x h1 h2
theorem Bcw{α ρ:Type}{o:Option α}{P:Program}{f:FuncId}{Pre:List Ent->List Value->Prop}{Post:List Ent->α->Value->List Ent->Prop}[hc:Con o P f Pre Post]{k:α->Option ρ}{r:ρ}{G:Prop}(h:bnd o k=some r)(K:∀ x,o=some x->Cn P f Pre (fun K=>Post K x)->k x=some r->G):G:=let ⟨x,h1,h2⟩:=Au h;K x h1 (cn h1) h2
theorem Bcx{α ρ:Type}{o:Option α}{P:Program}{f:FuncId}{Pre:List Ent->List Value->Prop}{Post:List Ent->α->Value->List Ent->Prop}[hc:Con o P f Pre Post]{k:α->Option ρ}{r:Option ρ}{x:α}{G:Prop}(h:bnd o k=r)(hx:o=some x)(K:Cn P f Pre (fun K=>Post K x)->k x=r->G):G:=by subst hx;exact K (cn rfl) h
theorem Bcy{ρ:Type}{p:Prop}[Decidable p]{k:Option ρ}{r:ρ}(h:gd p k=some r)(_:p):k=some r:=(De h).2
theorem Ben{ρ:Type}{p:Prop}[Decidable p]{k:Option ρ}{r:ρ}{G:Prop}(h:gd p k=some r)(K:p->k=some r->G):G:=let ⟨h1,h2⟩:=De h;K h1 h2
theorem Bbf{σ τ ρ:Type}{B:σ->Option (Sum σ τ)}{s:σ}{K:τ->Option ρ}{r:Option ρ}(_:bnd (lfix B s) K=r):True:=trivial
theorem Beo{κ υ σ τ:Type}{BN:σ->Option (Sum σ τ)}{BS:σ->κ × υ->Option (Sum σ τ)}{m:List (κ × υ)}{s:σ}{r:Option τ}(_:mfix BN BS m s=r):True:=trivial
theorem Aw6{τ ρ:Type}{k:τ->Option ρ}{x:(τ->Option ρ)->Option ρ}{r:Option ρ}(h:jn k x=r):x k=r:=h
theorem Bcz{ρ:Type}[Decidable (true=true)]{a b:Option ρ}{r:Option ρ}(h:(if true=true then a else b)=r):a=r:=by rw[if_pos rfl] at h;exact h
theorem Bc0{ρ:Type}[Decidable (false=true)]{a b:Option ρ}{r:Option ρ}(h:(if false=true then a else b)=r):b=r:=by rw[if_neg Bool.false_ne_true] at h;exact h
structure Mark:Prop where
 h:True
structure Wr(G:Prop):Prop where
 out:G
section
variable {P:Program} {n:Nat} {ops:Array Oper} {Q:Exit->Act->World->Prop} {fr:List (Nat × Value)} {L:List Ent} {rest:List Oper} {N:Act->World->Prop}
variable {d i:Nat} {op:Op} {dst:Option Tmp} {ty:TypeId} {pos:String} {after:Array Edge} {guard:Option (Nat × Bool)}
variable {cls:Cls} {A0:List (List Nat)} {RL:List Nat} {R:World->Prop} {p alt:Plan} {os:List Nat} {guard':Option (Nat × Bool)}
theorem Az2{o:Oper}(h:T n (wpList P ops Q (o::rest)) fr L):T n (wpList P ops Q (o::rest)) fr L:=h
theorem Is_b(h:PB P ops Q cls n (i::os) fr L):PB P ops Q cls n (i::os) fr L:=h
theorem Az3{t x v}(h:Ev P n ⟨dst,.load t x,ty,pos,after,guard⟩ fr L v):Ev P n ⟨dst,.load t x,ty,pos,after,guard⟩ fr L v:=h
theorem Bc1{o t x y u v}(h:Ev P n ⟨dst,.binOp o t x y u,ty,pos,after,guard⟩ fr L v):Ev P n ⟨dst,.binOp o t x y u,ty,pos,after,guard⟩ fr L v:=h
theorem Az4{t x y v}(h:Ev P n ⟨dst,.convert t x y,ty,pos,after,guard⟩ fr L v):Ev P n ⟨dst,.convert t x y,ty,pos,after,guard⟩ fr L v:=h
theorem Az5{c v}(h:Ev P n ⟨dst,.call c,ty,pos,after,guard⟩ fr L v):Ev P n ⟨dst,.call c,ty,pos,after,guard⟩ fr L v:=h
inductive AtE:List Ent->Ent->Prop
 | here {e L}:AtE (e::L) e
 | there {x e L}:AtE L e->AtE (x::L) e
theorem AtE.nth{L e}(h:AtE L e):∃ i,nthE L i=some e:=by
 induction h with
 | here=>exact⟨0,rfl⟩
 | there _ ih=>obtain⟨i,hi⟩:=ih;exact⟨i+1,hi⟩
theorem Aw7{s x f off b o}[hf:Cm P s f off](hx:evo fr x=some (.pointer (some ⟨b,o,none⟩))):Ev P n ⟨dst,.fieldAddr s x f,ty,pos,after,guard⟩ fr L (.pointer (some ⟨b,o+off,none⟩)):=Ee hx hf.h rfl
theorem Aw8{x g o t cs v ty'}[ht:OneI P ty'](hx:evo fr x=some (.pointer (some ⟨g,o,none⟩)))(hi:AtE L (.m g t cs))(hv:nth cs o=some v):Ev P n ⟨dst,.load ty' x,ty,pos,after,guard⟩ fr L v:=by
 obtain⟨_,hi⟩:=hi.nth;exact Cg hx hi hv ht.h
theorem Aw9{x g o t cs vs k ty'}[ht:AggI P ty' k](hx:evo fr x=some (.pointer (some ⟨g,o,none⟩)))(hi:AtE L (.m g t cs))(hv:Aa4 cs o k=some vs):Ev P n ⟨dst,.load ty' x,ty,pos,after,guard⟩ fr L (.agg vs.toArray):=by
 obtain⟨_,hi⟩:=hi.nth;exact Db hx hi hv ht.h
theorem Bep{x b o ys v K ty'}[ht:OneI P ty'](hx:evo fr x=some (.pointer (some ⟨b,o,none⟩)))(hp:Pt K b o ys)(hK:SubE K L)(hv:nth ys 0=some v):Ev P n ⟨dst,.load ty' x,ty,pos,after,guard⟩ fr L v:=Ie hx hp hK hv ht.h
theorem Beq{x b o ys v K ty'}{q:Nat}[ht:OneI P ty'](hx:evo fr x=some (.pointer (some ⟨b,o+q,none⟩)))(hp:Pt K b o ys)(hK:SubE K L)(hv:nth ys q=some v):Ev P n ⟨dst,.load ty' x,ty,pos,after,guard⟩ fr L v:=Yg hx hp hK hv ht.h
theorem Bc2{x b o ys vs k K ty'}[ht:AggI P ty' k](hx:evo fr x=some (.pointer (some ⟨b,o,none⟩)))(hp:Pt K b o ys)(hK:SubE K L)(hv:Aa4 ys 0 k=some vs):Ev P n ⟨dst,.load ty' x,ty,pos,after,guard⟩ fr L (.agg vs.toArray):=Sc hx hp hK hv ht.h
theorem Ber{x b o ys v K ty'}{q r:Nat}[ht:OneI P ty'](hx:evo fr x=some (.pointer (some ⟨b,o+q+r,none⟩)))(hp:Pt K b o ys)(hK:SubE K L)(hv:nth ys (q+r)=some v):Ev P n ⟨dst,.load ty' x,ty,pos,after,guard⟩ fr L v:=Yg (d:=q+r) (by rw[<- Nat.add_assoc];exact hx) hp hK hv ht.h
theorem Apk{x i v}{l:List Value}(hx:evo fr x=some (.tuple l.toArray))(hv:nth l i=some v):Ev P n ⟨dst,.extract x i,ty,pos,after,guard⟩ fr L v:=Aih hx (by rw[All] at hv;simpa using hv)
theorem Az6{t:TypeId}{x i:Operand}{kd k:IntKind}{xs:List Value}{ys:List Int}{z v:Int}(hx:evo fr x=some (.agg xs.toArray))(hi:evo fr i=some (.int k z))(hz:idx ys z=some v)(hxs:xs=ys.map (Value.int kd))(hV:Aw4 P t xs):Ev P n ⟨dst,.index t x i,ty,pos,after,guard⟩ fr L (.int kd v):=Ase hx hxs hi hV.h hz
theorem Az7{α:Type}{f:α->Value}{t:TypeId}{x i:Operand}{k:IntKind}{xs:List Value}{ys:List α}{z:Int}{v:α}{v':Value}(hx:evo fr x=some (.agg xs.toArray))(hi:evo fr i=some (.int k z))(hV:Arj P t xs f ys)(hz:idx ys z=some v)(hv:UnfI f v v'):Ev P n ⟨dst,.index t x i,ty,pos,after,guard⟩ fr L v':=Aoj hx rfl hi hV.h hz hv.h
theorem Az8{t t':TypeId}{x y:Operand}{a b c:Int}(hx:evo fr x=some (.int .i64 a))(hy:evo fr y=some (.int .i64 b))(h:Agr a b c):Ev P n ⟨dst,.binOp .add t x y t',ty,pos,after,guard⟩ fr L (.int .i64 c):=Ayf hx hy h.h
theorem Bc3{t x A m c e ty'}[ht:UndI P t (.slice e)](hx:evo fr x=some (.slice A m c)):Ev P n ⟨dst,.call ⟨.builtin .len,#[x],#[t]⟩,ty',pos,after,guard⟩ fr L (.int .i64 ((m:Nat):Int)):=If hx e ht.h
theorem Axa{t xs ps cs}(hx:evps fr xs=some ps)(hb:Le P t ps cs):Ev P n ⟨dst,.build t xs.toArray,ty,pos,after,guard⟩ fr L (.agg cs.toArray):=Qs hx hb.h
theorem Atn{s x xs f v}(hx:evo fr x=some (.agg xs.toArray))(hf:Ari P s xs f v):Ev P n ⟨dst,.field s x f,ty,pos,after,guard⟩ fr L v:=Ai5 hx hf.h
theorem Bc4{t t' x y xs ys r}(hx:evo fr x=some (.agg xs.toArray))(hy:evo fr y=some (.agg ys.toArray))(h:EqSI P t xs ys r):Ev P n ⟨dst,.binOp .eql t x y t',ty,pos,after,guard⟩ fr L (.bool r):=Ays hx hy h.g h.h
theorem Bc5{t t' x y xs ys r}(hx:evo fr x=some (.agg xs.toArray))(hy:evo fr y=some (.agg ys.toArray))(h:EqSI P t xs ys r):Ev P n ⟨dst,.binOp .neq t x y t',ty,pos,after,guard⟩ fr L (.bool (!r)):=Ayt hx hy h.g h.h
theorem Bc6{t t' x y a b}[h:UndI P t .bool](hx:evo fr x=some (.bool a))(hy:evo fr y=some (.bool b)):Ev P n ⟨dst,.binOp .eql t x y t',ty,pos,after,guard⟩ fr L (.bool (a == b)):=Ban hx hy h.h
theorem Bc7{t t' x y a b}[h:UndI P t .bool](hx:evo fr x=some (.bool a))(hy:evo fr y=some (.bool b)):Ev P n ⟨dst,.binOp .neq t x y t',ty,pos,after,guard⟩ fr L (.bool (!(a == b))):=Bao hx hy h.h
theorem Bc8{src dt x k v u}[hs:UndI P src u][hd:UndI P dt (.int .i64)](hx:evo fr x=some (.int k v)):Ev P n ⟨dst,.convert src dt x,ty,pos,after,guard⟩ fr L (.int .i64 (w64 v)):=Ae4 hx (by rw[hs.h];rfl) hd.h
theorem Az9{src dt x k v u}[hs:UndI P src u][hd:UndI P dt (.int .u64)](hx:evo fr x=some (.int k v)):Ev P n ⟨dst,.convert src dt x,ty,pos,after,guard⟩ fr L (.int .u64 (wu64 v)):=Ym hx (by rw[hs.h];rfl) hd.h
theorem Baa{src dt x k v u}[hs:UndI P src u][hd:UndI P dt (.int .u32)](hx:evo fr x=some (.int k v)):Ev P n ⟨dst,.convert src dt x,ty,pos,after,guard⟩ fr L (.int .u32 (wu32 v)):=Akf hx (by rw[hs.h];rfl) hd.h
structure IxAt(A:Option Addr)(m:Nat)(z:Int)(sz b o:Nat):Prop where
 h:∃ o0 j:Nat,A=some ⟨b,o0,none⟩/\z=(j:Int)/\j<m/\o=o0+j*sz
theorem Ark{α:Type}{KK:List Ent}{A m c sz}{enc:α->List Value}{l:List α}{x ix:Operand}{kd:IntKind}{z:Int}{x0:α}{t e:TypeId}(hx:evo fr x=some (.slice A m c))(hix:evo fr ix=some (.int kd z))(hs:Has KK A m c sz enc l)(hi:idx l z=some x0)(ht:Ni P t e sz):
  ∃ b o,(∀ {dst:Option Tmp} {ty:TypeId} {pos:String} {after:Array Edge} {guard:Option (Nat × Bool)} L,Ev P n ⟨dst,.indexAddr t x ix,ty,pos,after,guard⟩ fr L (.pointer (some ⟨b,o,none⟩)))/\Pt KK b o (enc x0)/\IxAt A m z sz b o:=by
 obtain⟨b,o,j,hA,hj,hl,hp⟩:=hs.at_idx hi;exact⟨b,o+j*sz,fun L=>Iv hx hix hA (j:=j) hj hl ht,hp,⟨o,j,hA,hj,hl,rfl⟩⟩
section
variable {α:Type} {KK:List Ent} {A:Option Addr} {m c sz:Nat} {enc:α->List Value} {l:List α} {x ix:Operand} {kd:IntKind} {z:Int} {x0:α} {t e:TypeId}
theorem T_ix [ht:Nb P t e sz](hx:evo fr x=some (.slice A m c))(hix:evo fr ix=some (.int kd z))(hs:Has KK A m c sz enc l)(hi:idx l z=some x0)(hd:Nat.blt d n=true)(k:∀ b o,Pt KK b o (enc x0)->IxAt A m z sz b o->T n (wpList P ops Q rest) ((d,.pointer (some ⟨b,o,none⟩))::fr) L):T n (wpList P ops Q (⟨some d,.indexAddr t x ix,ty,pos,after,none⟩ :: rest)) fr L:=by
 obtain⟨b,o,h1,h2,h3⟩:=Ark (P:=P) (n:=n) hx hix hs hi ht.h;exact Ay (h1 L) hd (k b o h2 h3)
theorem Bbg{j s:Nat}{b0:Bool}[ht:Nb P t e sz](hj:(ops[j]?).bind (·.dst)=some s)(hg:look fr s=some (.bool b0))(hsn:Nat.blt s n=true)(hx:evo fr x=some (.slice A m c))(hix:evo fr ix=some (.int kd z))(hs:Has KK A m c sz enc l)(hi:idx l z=some x0)(hd:Nat.blt d n=true)(k:∀ b o,Pt KK b o (enc x0)->IxAt A m z sz b o->T n (wpList P ops Q rest) ((d,.pointer (some ⟨b,o,none⟩))::fr) L):T n (wpList P ops Q (⟨some d,.indexAddr t x ix,ty,pos,after,some (j,b0)⟩ :: rest)) fr L:=by
 obtain⟨b,o,h1,h2,h3⟩:=Ark (P:=P) (n:=n) hx hix hs hi ht.h;exact Aa3 hj hg hsn (h1 L) hd (k b o h2 h3)
theorem B_ix(hc:Nat.beq (cls.getD i 9) 0=true)(ho:ops[i]? = some ⟨some d,.indexAddr t x ix,ty,pos,after,guard⟩)(hg:Vv ops n fr guard)(hx:evo fr x=some (.slice A m c))(hix:evo fr ix=some (.int kd z))(hs:Has KK A m c sz enc l)(hi:idx l z=some x0)(ht:Nb P t e sz)(hd:Nat.blt d n=true)(k:∀ b o,Pt KK b o (enc x0)->IxAt A m z sz b o->PB P ops Q cls n os ((d,.pointer (some ⟨b,o,none⟩))::fr) L):PB P ops Q cls n (i::os) fr L:=by
 obtain⟨b,o,h1,h2,h3⟩:=Ark (P:=P) (n:=n) hx hix hs hi ht.h;exact B_p hc ho hg (h1 []) hd (k b o h2 h3)
theorem P_ix(hc:Nat.beq (cls.getD i 9) 0=true)(ho:ops[i]? = some ⟨some d,.indexAddr t x ix,ty,pos,after,none⟩)(hx:evo fr x=some (.slice A m c))(hix:evo fr ix=some (.int kd z))(hs:Has KK A m c sz enc l)(hi:idx l z=some x0)(ht:Nb P t e sz)(hd:Nat.blt d n=true)(k:∀ b o,Pt KK b o (enc x0)->IxAt A m z sz b o->T n (Bm P ops Q cls A0 RL R p) ((d,.pointer (some ⟨b,o,none⟩))::fr) L):T n (Bm P ops Q cls A0 RL R (.q i p)) fr L:=by
 obtain⟨b,o,h1,h2,h3⟩:=Ark (P:=P) (n:=n) hx hix hs hi ht.h;exact P_p hc ho (h1 []) hd (k b o h2 h3)
theorem Rb{r:TypeId}(hc:Nat.beq (cls.getD i 9) 0=true)(hk:AtE L (.r A m c r sz (l.flatMap enc)))(hz:Nat.blt 0 sz=true)(he:∀ x,(enc x).length=sz)(k:Has [.r A m c r sz (l.flatMap enc)] A m c sz enc l->PB P ops Q cls n (i::os) fr L):PB P ops Q cls n (i::os) fr L:=by
 obtain⟨_,hk⟩:=hk.nth;refine Bd3 (by rw[Nat.eq_of_beq_eq_true hc];rfl) fun a w _ hw=>k (Has.ofRow (Nat.le_of_ble_eq_true hz) he (hw.ok _ (Fp hk)))
theorem Ra{r:TypeId}(hk:AtE L (.r A m c r sz (l.flatMap enc)))(hz:Nat.blt 0 sz=true)(he:∀ x,(enc x).length=sz)(k:Has [.r A m c r sz (l.flatMap enc)] A m c sz enc l->T n N fr L):T n N fr L:=by
 obtain⟨_,hk⟩:=hk.nth;exact Kv hk (Nat.le_of_ble_eq_true hz) he (fun _ h=>k h)
theorem Bes{r:TypeId}[ht:Nb P t e sz](hx:evo fr x=some (.slice A m c))(hk:AtE L (.r A m c r sz (l.flatMap enc)))(hix:evo fr ix=some (.int kd z))(hi:idx l z=some x0)(hd:Nat.blt d n=true)(hz:Nat.blt 0 sz=true)(he:∀ x,(enc x).length=sz)(k:∀ b o,Pt [.r A m c r sz (l.flatMap enc)] b o (enc x0)->IxAt A m z sz b o->T n (wpList P ops Q rest) ((d,.pointer (some ⟨b,o,none⟩))::fr) L):T n (wpList P ops Q (⟨some d,.indexAddr t x ix,ty,pos,after,none⟩ :: rest)) fr L:=Ra hk hz he fun hs=>T_ix hx hix hs hi hd k
theorem Bc9{j s:Nat}{b0:Bool}{r:TypeId}[ht:Nb P t e sz](hj:(ops[j]?).bind (·.dst)=some s)(hg:look fr s=some (.bool b0))(hsn:Nat.blt s n=true)(hx:evo fr x=some (.slice A m c))(hk:AtE L (.r A m c r sz (l.flatMap enc)))(hix:evo fr ix=some (.int kd z))(hi:idx l z=some x0)(hd:Nat.blt d n=true)(hz:Nat.blt 0 sz=true)(he:∀ x,(enc x).length=sz)(k:∀ b o,Pt [.r A m c r sz (l.flatMap enc)] b o (enc x0)->IxAt A m z sz b o->T n (wpList P ops Q rest) ((d,.pointer (some ⟨b,o,none⟩))::fr) L):T n (wpList P ops Q (⟨some d,.indexAddr t x ix,ty,pos,after,some (j,b0)⟩ :: rest)) fr L:=Ra hk hz he fun hs=>Bbg hj hg hsn hx hix hs hi hd k
theorem Bet{r:TypeId}(hc:Nat.beq (cls.getD i 9) 0=true)(ho:ops[i]? = some ⟨some d,.indexAddr t x ix,ty,pos,after,guard⟩)(hg:Vv ops n fr guard)(hx:evo fr x=some (.slice A m c))(hk:AtE L (.r A m c r sz (l.flatMap enc)))(hix:evo fr ix=some (.int kd z))(hi:idx l z=some x0)(ht:Nb P t e sz)(hd:Nat.blt d n=true)(hz:Nat.blt 0 sz=true)(he:∀ x,(enc x).length=sz)(k:∀ b o,Pt [.r A m c r sz (l.flatMap enc)] b o (enc x0)->IxAt A m z sz b o->PB P ops Q cls n os ((d,.pointer (some ⟨b,o,none⟩))::fr) L):PB P ops Q cls n (i::os) fr L:=Rb hc hk hz he fun hs=>B_ix hc ho hg hx hix hs hi ht hd k
end
inductive DecZ(kd:IntKind):List Value->List Int->Prop
 | nil:DecZ kd [] []
 | cons {x cs ys}:DecZ kd cs ys->DecZ kd (.int kd x::cs) (x::ys)
theorem DecZ.eq{kd cs ys}(h:DecZ kd cs ys):cs=ys.flatMap (fun x=>[Value.int kd x])++[]:=by
 induction h with
 | nil=>rfl
 | cons _ ih=>rw[List.flatMap_cons,List.append_assoc,<- ih];rfl
theorem Bab{t x ix g o k m sz}{ys:List Int}{z v:Int}[ht:ArrI P t m sz](hx:evo fr x=some (.pointer (some ⟨g,o,none⟩)))(hi:evo fr ix=some (.int k z))(hz:idx ys z=some v)(hl:ys.length=m):Ev P n ⟨dst,.indexAddr t x ix,ty,pos,after,guard⟩ fr L (.pointer (some ⟨g,o+z.toNat*sz,none⟩)):=by
 subst hl;exact Va hx hi ht.h (Aqb hz).1 (Aqb hz).2 rfl
theorem Axb{x g o t cs ty' kd ys}{z v:Int}[ht:OneI P ty'](hx:evo fr x=some (.pointer (some ⟨g,o+z.toNat*1,none⟩)))(hL:AtE L (.m g t cs))(hc:DecZ kd (cs.drop o) ys)(hz:idx ys z=some v):Ev P n ⟨dst,.load ty' x,ty,pos,after,guard⟩ fr L (.int kd v):=by
 obtain⟨_,hL⟩:=hL.nth;exact Aut (fun x=>[Value.int kd x]) hx hL hz hc.eq (fun _=>rfl) rfl ht.h
theorem Bac{t m sz}{x:Operand}{g o:Nat}[ht:ArrI P t m sz](hx:evo fr x=some (.pointer (some ⟨g,o,none⟩)))(hm:Nat.beq m 0=false):Ev P n ⟨dst,.slice t x none none none,ty,pos,after,guard⟩ fr L (.slice (some ⟨g,o,none⟩) m m):=Aye hx ht.h hm
theorem Bda{t x ix g o k m sz}{z:Int}[ht:ArrI P t m sz](hx:evo fr x=some (.pointer (some ⟨g,o,none⟩)))(hi:evo fr ix=some (.int k z))(h0:0<=z)(h1:z<(m:Int)){off:Nat}(ho:z.toNat*sz=off):Ev P n ⟨dst,.indexAddr t x ix,ty,pos,after,guard⟩ fr L (.pointer (some ⟨g,o+off,none⟩)):=Va hx hi ht.h h0 h1 ho
section
open Maps
variable {κ υ:Type} {ke:κ->Value} {ve:υ->Value} {k e:TypeId} {t:TypeId} {g:Nat} {mo ko vo:Operand} {kv vv:Value} {x:κ} {m:List (κ × υ)} {rng:κ->Prop} {z0:υ}
theorem Axc [hu:UndI P t (.map k e)][hK:KeyI P k ke rng][hV:ValI P e ve z0](hm:evo fr mo=some (.map (some g)))(hL:AtE L (Bc P k ke ve g m))(hk:evo fr ko=some kv)(hd:Aa0 ke kv x)(hr:rng x){u:υ}(hz:some ((mget m x).getD z0)=some u)(hq:vv=ve u):Ev P n ⟨dst,.lookup t mo ko false,ty,pos,after,guard⟩ fr L vv:=by
 obtain⟨_,hL⟩:=hL.nth;exact Ac9 hK.h hu.h hV.z hK.inj hm hk hd.h hL Qh (hK.isk x hr) hz hq
theorem Ato [hu:UndI P t (.map k e)][hK:KeyI P k ke rng][hV:ValI P e ve z0](hm:evo fr mo=some (.map (some g)))(hL:AtE L (Bc P k ke ve g m))(hk:evo fr ko=some kv)(hd:Aa0 ke kv x)(hr:rng x){u:υ}(hz:some ((mget m x).getD z0)=some u)(hq:vv=ve u):Ev P n ⟨dst,.lookup t mo ko true,ty,pos,after,guard⟩ fr L (.tuple #[vv,.bool (mget m x).isSome]):=by
 obtain⟨_,hL⟩:=hL.nth;exact Acg hK.h hu.h hV.z hK.inj hm hk hd.h hL Qh (hK.isk x hr) hz hq
theorem Bad{t':TypeId}[hu:UndI P t (.map k e)](hm:evo fr mo=some (.map (some g)))(hL:AtE L (Bc P k ke ve g m)):Ev P n ⟨dst,.call ⟨.builtin .len,#[mo],#[t]⟩,t',pos,after,guard⟩ fr L (.int .i64 (m.length:Int)):=by
 obtain⟨_,hL⟩:=hL.nth;exact An6 hu.h hm hL Qh
theorem Axd{it:Operand}{r:Nat}{l:List (κ × υ)}{p:κ × υ}{uv:Value}(hit:evo fr it=some (.pointer (some ⟨r,0,none⟩)))(hL:AtE L (rngE P k ke ve g r m l (some p)))(hk:UnfI ke p.1 kv)(hv:UnfI ve p.2 uv):Ev P n ⟨dst,.entry it,ty,pos,after,guard⟩ fr L (.tuple #[kv,uv]):=by
 obtain⟨_,hL⟩:=hL.nth;exact Ar8 hit hL hk.h.symm hv.h.symm
theorem Axe{r:Nat}{l:List (κ × υ)}{c:Option (κ × υ)}[hu:UndI P t (.map k e)][hK:KeyI P k ke rng][hV:ValI P e ve z0](hm:evo fr mo=some (.map (some g)))(hL:AtE L (rngE P k ke ve g r m l c))(hk:evo fr ko=some kv)(hd:Aa0 ke kv x)(hr:rng x){u:υ}(hz:some ((mget m x).getD z0)=some u)(hq:vv=ve u):Ev P n ⟨dst,.lookup t mo ko true,ty,pos,after,guard⟩ fr L (.tuple #[vv,.bool (mget m x).isSome]):=by
 obtain⟨_,hL⟩:=hL.nth;exact Acg hK.h hu.h hV.z hK.inj hm hk hd.h hL An7 (hK.isk x hr) hz hq
theorem Ah7 [hu:UndI P t (.map k e)][hK:KeyI P k ke rng][hV:ValI P e ve z0](hd:Nat.blt d n=true)(kk:∀ g,T n N ((d,.map (some g))::fr) (Bc P k ke ve g []::L)):Wx P Q n ⟨some d,.makeMap t none,ty,pos,after,guard⟩ fr L N:=Aez P k ke ve hd kk
theorem Afq{x:Operand}{q:IntKind}{z:Int}[hu:UndI P t (.map k e)][hK:KeyI P k ke rng][hV:ValI P e ve z0](hx:evo fr x=some (.int q z))(hd:Nat.blt d n=true)(kk:∀ g,T n N ((d,.map (some g))::fr) (Bc P k ke ve g []::L)):Wx P Q n ⟨some d,.makeMap t (some x),ty,pos,after,guard⟩ fr L N:=Aka P k ke ve hu.h hx hd kk
end
inductive RepE:List Ent->Ent->(Ent->List Ent)->Prop
 | here {e L}:RepE (e::L) e (fun z=>z::L)
 | there {x L e f}:RepE L e f->RepE (x::L) e (fun z=>x::f z)
theorem RepE.of{L e f}(h:RepE L e f):∃ i,∀ z,SetE L i e z (f z):=by
 induction h with
 | here=>exact⟨0,fun _=>.here⟩
 | there _ ih=>obtain⟨i,hi⟩:=ih;exact⟨i+1,fun z=>.there (hi z)⟩
section
open Maps
variable {κ υ:Type} {ke:κ->Value} {ve:υ->Value} {k e:TypeId} {t:TypeId} {g:Nat} {mo ko vo:Operand} {kv vv:Value} {x:κ} {y:υ} {m:List (κ × υ)} {rng:κ->Prop}
theorem Axf{f:Ent->List Ent}[hu:UndI P t (.map k e)][hK:KeyI P k ke rng](hm:evo fr mo=some (.map (some g)))(hk:evo fr ko=some kv)(hv:evo fr vo=some vv)(hL:RepE L (Bc P k ke ve g m) f)(hd:Aa0 ke kv x)(hy:Aa0 ve vv y)(hr:rng x)(hn:m.length<9223372036854775807)(kk:T n N fr (f (Bc P k ke ve g (mput m x y)))):Wh P Q n ⟨none,.mapUpdate t mo ko vo,ty,pos,after,guard⟩ fr L N:=by
 obtain⟨_,hL⟩:=hL.of;exact Ach hK.h hK.inj hu.h hm hk hd.h hv hy.h (hL _) (hK.isk x hr) hn kk
theorem Axg{f:Ent->List Ent}[hu:UndI P t (.map k e)][hK:KeyI P k ke rng](hm:evo fr mo=some (.map (some g)))(hk:evo fr ko=some kv)(hL:RepE L (Bc P k ke ve g m) f)(hd:Aa0 ke kv x)(hr:rng x)(kk:T n N fr (f (Bc P k ke ve g (mdel m x)))):Wh P Q n ⟨none,.call ⟨.builtin .delete,#[mo,ko],#[t,k]⟩,ty,pos,after,guard⟩ fr L N:=by
 obtain⟨_,hL⟩:=hL.of;exact An5 hK.h hK.inj hu.h hm hk hd.h (hL _) (hK.isk x hr) kk
end
section
variable {α:Type} {enc:α->List Value} {l:List α} {x0:α} {s x:Operand} {t e sz bytes:Nat} {A:Option Addr} {m c g q':Nat} {t':TypeId} {cs:List Value} {ty':TypeId}
theorem Aj1{f:Ent->List Ent}{y:Operand}{z:Int}{o:Nat}{u:α}{v:Value}{vs:List Value}[hs:SzI P ty' sz](hx:evo fr x=some (.pointer (some ⟨g,o,none⟩)))(hy:evo fr y=some v)(hI:IxAt A m z sz g o)(hr:RepE L (.r A m c e sz (l.flatMap enc)) f)(hm:l.length=m)(hv:v.cells=vs.toArray)(hdec:DecI enc vs u)(he:∀ x,(enc x).length=sz)(hz:Nat.blt 0 sz=true)(h1:Tf vs=true)(k:T n N fr (f (.r A m c e sz ((setI l z u).flatMap enc)))):Wh P Q n ⟨none,.store ty' x y,ty,pos,after,guard⟩ fr L N:=by
 subst hm;obtain⟨i,hr⟩:=hr.of;obtain⟨o0,j,hA,hj,hl,ho⟩:=hI.h;intro a w ha hw;have hok:=hw.ok _ (hr (.r A l.length c e sz ((setI l z u).flatMap enc))).mem;have hA0:∃ g,A=some ⟨g,0,none⟩:=by
  obtain⟨_,h⟩:=hok;rcases h with⟨hv,h0⟩|⟨g,cap,cur,hv,_⟩
  ·injection hv with h1 h2 h3;omega
  ·injection hv with h1 h2 h3;exact⟨g,h1⟩
 obtain⟨g',hA'⟩:=hA0;have e0:g'=g/\0=o0:=by
  rw[hA'] at hA;injection hA with h1;injection h1 with h1 h2 h3
  exact⟨h1,h2⟩
 obtain⟨rfl,rfl⟩:=e0;subst ho;exact Ajd enc l z u hx hy (by rw[hv,hdec.h]) (hr _) hA rfl hj hl he (Nat.le_of_ble_eq_true hz) (by rw[<- hdec.h];exact h1) hs.h k a w ha hw
theorem Arl{f:Ent->List Ent}{L1:List Ent}[ht:Afp P t e sz bytes](hs:evo fr s=some (.slice A m c))(hx:evo fr x=some (.slice (some ⟨g,0,none⟩) 1 q'))(hr:RepE L1 (.r A m c e sz (l.flatMap enc)) f)(hdec:DecI enc cs x0)(hb:(l.length+1)*bytes<=140737488355328)(he:∀ x,(enc x).length=sz)(h1:Tf cs=true)(hd:Nat.blt d n=true)(h0:Nat.blt 0 bytes=true)(k:∀ A' c',T n N ((d,.slice A' (l++[x0]).length c')::fr) (f (.r A' (l++[x0]).length c' e sz ((l++[x0]).flatMap enc)))):Wh P Q n ⟨some d,.call ⟨.builtin .append,#[s,x],#[t,t]⟩,ty',pos,after,guard⟩ fr (.m g t' cs::L1) N:=by
 obtain⟨_,hr⟩:=hr.of;exact Qk (i':=0) (L':=fun A' c'=>.m g t' cs::f (.r A' (l++[x0]).length c' e sz ((l++[x0]).flatMap enc))) (L2:=fun A' c'=>f (.r A' (l++[x0]).length c' e sz ((l++[x0]).flatMap enc))) enc l [x0] hs hx rfl ht.h he rfl (by rw[hdec.h];simp) rfl h1 hb hd (fun A' c'=>.there (hr _)) (fun _ _=>.drop .refl) (Nat.le_of_ble_eq_true h0) k
end
section
variable {α:Type} {enc:α->List Value} {x0:α} {t e sz bytes:Nat} {x y:Operand} {k1 k2:IntKind} {i1 i2:Int}
theorem Axh [h:MkI P t e sz bytes enc x0](hx:evo fr x=some (.int k1 i1))(hy:evo fr y=some (.int k2 i2))(h1:i1=i2)(hb:0<=i1/\bytes*Int.toNat i1<=140737488355328)(hb0:Nat.blt 0 bytes=true)(hsz:Nat.blt 0 sz=true)(he:∀ x,(enc x).length=sz)(hd:Nat.blt d n=true)(k:∀ A,T n N ((d,.slice A (List.replicate i1.toNat x0).length (List.replicate i1.toNat x0).length)::fr) (.r A (List.replicate i1.toNat x0).length (List.replicate i1.toNat x0).length e sz ((List.replicate i1.toNat x0).flatMap enc)::L)):Wx P Q n ⟨some d,.makeSlice t x y,ty,pos,after,guard⟩ fr L N:=by
 obtain⟨i,z,ht,hi,hz,hzc,hs,hbb⟩:=h.h;subst hbb;exact Aup enc x0 hx hy h1 hb.1 ht hi hz hzc hs (Nat.le_of_ble_eq_true hsz) he hb.2 (Nat.le_of_ble_eq_true hb0) hd k
end
section
variable {α:Type} {KK:List Ent} {A:Option Addr} {m c sz:Nat} {enc:α->List Value} {l:List α} {x hi lo:Operand} {kd:IntKind} {j:Int} {t e:TypeId}
theorem Axi [ht:Nb P t e sz](hx:evo fr x=some (.slice A m c))(hh:evo fr hi=some (.int kd j))(hs:Has KK A m c sz enc l)(hb:0<=j/\j<=((m:Nat):Int))(hd:Nat.blt d n=true)(k:Has KK A (subl l 0 j).length c sz enc (subl l 0 j)->T n (wpList P ops Q rest) ((d,.slice A (subl l 0 j).length c)::fr) L):T n (wpList P ops Q (⟨some d,.slice t x none (some hi) none,ty,pos,after,none⟩ :: rest)) fr L:=by
 have h1:=hs.subH hb.1 hb.2;have e:=h1.len;exact Ay (by rw[e];exact Aqj hx hh ht.h hb.1 (by have:=hs.nc;omega)) hd (k h1.len')
theorem Bae{r:TypeId}[ht:Nb P t e sz](hx:evo fr x=some (.slice A m c))(hk:AtE L (.r A m c r sz (l.flatMap enc)))(hh:evo fr hi=some (.int kd j))(hb:0<=j/\j<=((m:Nat):Int))(hd:Nat.blt d n=true)(hz:Nat.blt 0 sz=true)(he:∀ x,(enc x).length=sz)(k:Has [.r A m c r sz (l.flatMap enc)] A (subl l 0 j).length c sz enc (subl l 0 j)->T n (wpList P ops Q rest) ((d,.slice A (subl l 0 j).length c)::fr) L):T n (wpList P ops Q (⟨some d,.slice t x none (some hi) none,ty,pos,after,none⟩ :: rest)) fr L:=Ra hk hz he fun hs=>Axi hx hh hs hb hd k
end
structure DrL(id:Nat)(cls:Cls)(os fs:List Nat):Prop where
 h:True
theorem dl(id:Nat)(cls:Cls)(os:List Nat)(fs:List Nat:=[]):DrL id cls os fs:=⟨trivial⟩
theorem T_dl{id:Nat}{os fs:List Nat}(h:DrL id cls os fs)[hm:MixI P](hd:Wz ops cls (Ab3 ops)=true)(hp:Ab8 ops cls (Ab7 cls ops.size) os (Array.replicate ops.size false)=true)(h4:Aou ops cls (Ab3 ops) (Ab7 cls ops.size)=true)(hf:Ab7 cls ops.size=fs)(ha:Aam P ops n fs)(k:PB P ops Q cls n os fr L):T n ((Code.region id ops true).wp P Q) fr L:=by
 subst hf;exact Bd2 cls os hm.h hd hp h4 ha k
theorem Is_p(h:T n (Bm P ops Q cls A0 RL R p) fr L):T n (Bm P ops Q cls A0 RL R p) fr L:=h
theorem P_p0{v:Value}(hc:Nat.beq (cls.getD i 9) 0=true)(ho:ops[i]? = some ⟨some d,op,ty,pos,after,none⟩)(h:Ev P n ⟨some d,op,ty,pos,after,none⟩ fr [] v)(hd:Nat.blt d n=true)(k:T n (Bm P ops Q cls A0 RL R p) ((d,v)::fr) L):T n (Bm P ops Q cls A0 RL R (.q i p)) fr L:=P_p hc ho h hd k
theorem P_q0{v:Value}(hc:Nat.beq (cls.getD i 9) 0=false)(ho:ops[i]? = some ⟨some d,op,ty,pos,after,none⟩)(h:Ev P n ⟨some d,op,ty,pos,after,none⟩ fr L v)(hd:Nat.blt d n=true)(hr:RL.contains i=false)(k:T n (Bm P ops Q cls A0 RL R p) ((d,v)::fr) L):T n (Bm P ops Q cls A0 RL R (.q i p)) fr L:=P_q hc ho h hd k hr
structure DpL(id:Nat)(cls:Cls)(p:Plan):Prop where
 h:True
theorem dp(id:Nat)(cls:Cls)(p:Plan):DpL id cls p:=⟨trivial⟩
theorem T_dp{id:Nat}(h:DpL id cls p)[hm:MixI P](hd:Wz ops cls (Ab3 ops)=true)(hp:Hu ops cls p (Array.replicate ops.size false) none=true)(k:T n (Bm P ops Q cls (Ab3 ops) [] (fun _=>True) p) fr L):T n ((Code.region id ops true).wp P Q) fr L:=T_dr cls p hm.h hd hp k
theorem Aam.cc{j d t cs ty pos after r}(h:ops[j]? = some ⟨some d,.alloc t,ty,pos,after,none⟩)(hz:Te P t cs)(hd:Nat.blt d n=true)(k:Aam P ops n r):Aam P ops n (j::r):=.cons h hz.h hd k
theorem B_al{t:TypeId}{cs:List Value}(hc:Nat.beq (cls.getD i 9) 4=true)(ho:ops[i]? = some ⟨some d,.alloc t,ty,pos,after,none⟩)(hz:Te P t cs)(hd:Nat.blt d n=true)(k:∀ g,PB P ops Q cls n os ((d,.pointer (some ⟨g,0,none⟩))::fr) (.m g t cs::L)):PB P ops Q cls n (i::os) fr L:=B_l hc ho hz.h hd k
theorem Anp{t}{cs:List Value}[hz:Te P t cs](hd:Nat.blt d n=true)(k:∀ g,T n N ((d,.pointer (some ⟨g,0,none⟩))::fr) (.m g t cs::L)):Wx P Q n ⟨some d,.alloc t,ty,pos,after,guard⟩ fr L N:=Gq hz.h hd k
theorem Aj2{t len xs ps e}{cs:List Value}(hx:evps fr xs=some ps)(hb:Qd P t len ps e cs)(hd:Nat.blt d n=true)(k:∀ g,T n N ((d,.slice (some ⟨g,0,none⟩) len len)::fr) (.m g e cs::L)):Wx P Q n ⟨some d,.buildSlice t len xs.toArray,ty,pos,after,guard⟩ fr L N:=Ck hx hb.h hd k
theorem Arm{f:FuncId}{Pre:List Ent->List Value->Prop}{Post:List Ent->Value->List Ent->Prop}{xs:List Operand}{vs:List Value}{ts:Array TypeId}{ty':TypeId}(hc:Cn P f Pre Post)(hx:evos fr xs=some vs)(hp:∀ w,Heap L w->Pre L vs)(hd:Nat.blt d n=true)(k:∀ v Ln,Post L v Ln->T n N ((d,v)::fr) (Ln++L)):Wx P Q n ⟨some d,.call ⟨.value (.func f),xs.toArray,ts⟩,ty',pos,after,guard⟩ fr L N:=fun a w ha hw=>Ch hx (fun w1 hw1=>hc.h L vs (hp w1 hw1) w1 hw1.ok) hd (fun v Ln _ hR=>k v Ln hR) a w ha hw
inductive SetA:List Ent->Ent->Ent->List Ent->Prop
 | here {e e' L}:SetA (e::L) e e' (e' :: L)
 | there {x L e e' L'}:SetA L e e' L'->SetA (x::L) e e' (x::L')
theorem SetA.of{L e e' L'}(h:SetA L e e' L'):∃ i,SetE L i e e' L':=by
 induction h with
 | here=>exact⟨0,.here⟩
 | there _ ih=>obtain⟨i,hi⟩:=ih;exact⟨i+1,.there hi⟩
def Bdb:List Value->Bool
 | []=>false
 | _=>true
theorem Ad2{x y g o t cs cs' v vs ty' L' q}[hz:SzI P ty' q](hx:evo fr x=some (.pointer (some ⟨g,o,none⟩)))(hy:evo fr y=some v)(hv:v.cells=vs.toArray)(hq:q=vs.length)(hL:SetA L (.m g t cs) (.m g t cs') L')(hs:Spl cs o vs cs')(h1:Tf vs=true)(h0:Bdb vs=true)(k:T n N fr L'):
  Wh P Q n ⟨none,.store ty' x y,ty,pos,after,guard⟩ fr L N:=by
 obtain⟨_,hL⟩:=hL.of;subst hq;exact Ef hx hy hv hL hs h1 (by rintro rfl;cases h0) hz.h k
def Ends(P:Program)(fn:Func)(rs:List ResultVar)(R:Value->List Ent->Prop)(w0:World):Exit->Act->World->Prop:=fun e a w=>fn.results=rs.toArray->bodyPost P fn (fun e w'=>∃ v Ln,e = .returned v/\R v Ln/\(∀ x∈Ln,x.low=0)/\Heap (Ln++[.old w0]) w') e a w
theorem Ah8{fn:Func}{R:Value->List Ent->Prop}{w0:World}{rs vs}{Ln:List Ent}(h:Res P fr L rs vs)(hR:R (Tg vs) Ln)(hlo:∀ x∈Ln,x.low=0)(hs:Hd L (Ln++[.old w0])):T n (Ends P fn rs R w0 .ret) fr L:=fun a w ha hw hr=>Jc hr h hR hlo hs a w ha hw
theorem Res.cellA{t ty g tt cs k rs vs}[ht:AggI P ty k](hx:look fr t=some (.pointer (some ⟨g,0,none⟩)))(hi:AtE L (.m g tt cs))(hk:cs.length=k)(hr:Res P fr L rs vs):Res P fr L (.cell t ty::rs) (.agg cs.toArray::vs):=by
 obtain⟨_,hi⟩:=hi.nth;exact .cell hx hi hk ht.h hr
theorem CtS{f : FuncId}{fn : Func}{c : Code}{vs : List Value}{w : World}{R : Value -> List Ent -> Prop}{m : Nat}{rs : List ResultVar}{fr0 : List (Nat × Value)}(hm : fn.ntmps = m)(hr : fn.results = rs.toArray)(k : T m (c.wp P (Ends P fn rs R w)) fr0 [.old w])(hf : P.funcs[f]? = some fn := by rfl)(hb : fn.body = some c := by rfl)(hn : (fn.name == "runtime.NumGoroutine") = false := by kernel_rfl)(hl : Nat.ble vs.length m = true := by rfl)(hv : Xg vs 0 = fr0 := by exact rfl): CtL P f vs w R := by
 subst hv;exact CtL.mk m hf hb hm hn hl fun a w ha hw=>wp_mono (k a w ha hw) (fun e a' w' h=>h hr)
theorem Has.lo{α:Type}{K:List Ent}{w:World}{A m c sz}{enc:α->List Value}{l:List α}(h:Has K A m c sz enc l)(hK:∀ e∈K,Ent.ok w e):Has [.old w] A m c sz enc l:=Has.low (E:=[]) (Has.up0 h) hK
class ConB{ρ:Type}(F:Option ρ)(P:outParam Program)(f:outParam FuncId)(Pre:outParam (List Ent->List Value->Prop))(Post:outParam (List Ent->ρ->Value->List Ent->Prop)):Prop where
 h:∀ K vs r,Pre K vs->F=some r->∀ w,(∀ e∈K,Ent.ok w e)->CtL P f vs w (Post K r)
structure CnB(P:Program)(f:FuncId)(Pre:List Ent->List Value->Prop)(Post:List Ent->Value->List Ent->Prop):Prop where
 h:∀ K vs,Pre K vs->∀ w,(∀ e∈K,Ent.ok w e)->CtL P f vs w (Post K)
theorem cnB{ρ:Type}{F:Option ρ}{P:Program}{f:FuncId}{Pre:List Ent->List Value->Prop}{Post:List Ent->ρ->Value->List Ent->Prop}[hc:ConB F P f Pre Post]{r:ρ}(h:F=some r):CnB P f Pre (fun K=>Post K r):=⟨fun K vs hp w hK=>hc.h K vs r hp h w hK⟩
theorem Baf{α ρ:Type}{o:Option α}{P:Program}{f:FuncId}{Pre:List Ent->List Value->Prop}{Post:List Ent->α->Value->List Ent->Prop}[hc:ConB o P f Pre Post]{k:α->Option ρ}{r:ρ}{G:Prop}(h:bnd o k=some r)(K:∀ x,o=some x->CnB P f Pre (fun K=>Post K x)->k x=some r->G):G:=let ⟨x,h1,h2⟩:=Au h;K x h1 (cnB h1) h2
theorem SubE.ofOld{K L:List Ent}{w:World}(hK:∀ e∈K,Ent.ok w e)(h:AtE L (.old w)):SubE K L:=by
 obtain⟨_,h⟩:=h.nth;exact⟨fun w1 hw e he=>Ent.ext (hK e he) (hw _ (Fp h))⟩
theorem SubE.bunR{X K es:List Ent}(h:SubE X (K++es)):SubE X (K++[bun es]):=⟨fun w hw=>h.ok w fun e he=>by
 rcases List.mem_append.1 he with he | he
 ·exact hw e (List.mem_append_left _ he)
 ·exact Ap5 (hw _ (List.mem_append_right _ List.mem_cons_self)) e he⟩
theorem SubE.consR{X K es:List Ent}{e:Ent}(h:AtE es e)(h':SubE X (K++es)):SubE (e::X) (K++es):=by
 obtain⟨_,h⟩:=h.nth;exact⟨fun w hw x hx=>by
  rcases List.mem_cons.1 hx with rfl | hx
  ·exact hw _ (List.mem_append_right _ (Fp h))
  ·exact h'.ok w hw x hx⟩
theorem CtL.bunB{P:Program}{f:FuncId}{vs:List Value}{w:World}{R R':Value->List Ent->Prop}(h:CtL P f vs w R)(k:∀ v Ln w1,Heap (Ln++[.old w]) w1->R v Ln->R' v [bun Ln]):CtL P f vs w R':=by
 refine⟨h.1,h.2.mono ?_⟩;rintro e w' ⟨v,Ln,rfl,hR,hlo,hh⟩;exact⟨v,[bun Ln],rfl,k v Ln w' hh hR,Br rfl Fg,Af5 hlo hh⟩
section
variable {P:Program} {n:Nat} {ops:Array Oper} {Q:Exit->Act->World->Prop} {fr:List (Nat × Value)} {L:List Ent} {N:Act->World->Prop} {d:Nat} {ty:TypeId} {pos:String} {after:Array Edge} {guard:Option (Nat × Bool)}
theorem Anq{f:FuncId}{Pre:List Ent->List Value->Prop}{Post:List Ent->Value->List Ent->Prop}{xs:List Operand}{vs:List Value}{ts:Array TypeId}{ty':TypeId}{K:List Ent}(hc:CnB P f Pre Post)(hx:evos fr xs=some vs)(hp:∀ w,Heap L w->Pre K vs)(hK:SubE K L)(hd:Nat.blt d n=true)(k:∀ v Ln,(∀ x∈Ln,x.low=0)->Post K v Ln->T n N ((d,v)::fr) (Ln++L)):Wx P Q n ⟨some d,.call ⟨.value (.func f),xs.toArray,ts⟩,ty',pos,after,guard⟩ fr L N:=fun a w ha hw=>Ch hx (fun w1 hw1=>hc.h K vs (hp w1 hw1) w1 (Um hK hw1)) hd (fun v Ln hlo hR=>k v Ln hlo hR) a w ha hw
structure Frt{α:Type}(P:Program)(f:FuncId)(enc:α->List Value)(sz:Nat)(l r:List α):Prop where
 p:∃ k,r=l.take k
 h:∀ K A c,Has K A l.length c sz enc l->∀ w,(∀ e∈K,Ent.ok w e)->CtL P f [.slice A l.length c] w (fun v Ln=>v = .slice A r.length c/\Ln=[]/\Has K A r.length c sz enc r/\True)
class TrI{α:Type}(x:Option (List α))(P:outParam Program)(f:outParam FuncId)(enc:outParam (α->List Value))(sz:outParam Nat)(l:outParam (List α)):Prop where
 h:∀ r,x=some r->Frt P f enc sz l r
theorem Bag{α ρ:Type}{o:Option (List α)}{P:Program}{f f':FuncId}{enc:α->List Value}{sz:Nat}{l:List α}{Pre:List Ent->List Value->Prop}{Post:List Ent->List α->Value->List Ent->Prop}[ht:TrI o P f enc sz l][hc:ConB o P f' Pre Post]{k:List α->Option ρ}{r:ρ}{G:Prop}(h:bnd o k=some r)(K:∀ x,o=some x->Frt P f enc sz l x->CnB P f' Pre (fun K=>Post K x)->k x=some r->G):G:=let ⟨x,h1,h2⟩:=Au h;K x h1 (ht.h x h1) (cnB h1) h2
theorem Anr{α:Type}{enc:α->List Value}{l r:List α}{f:FuncId}{t sz m c:Nat}{A:Option Addr}{g:Ent->List Ent}{x:Operand}{ts:Array TypeId}{ty':TypeId}(ht:Frt P f enc sz l r)(hx:evo fr x=some (.slice A m c))(hr:RepE L (.r A m c t sz (l.flatMap enc)) g)(he:∀ x,(enc x).length=sz)(hz:Nat.blt 0 sz=true)(hd:Nat.blt d n=true)(k:T n N ((d,.slice A r.length c)::fr) (g (.r A r.length c t sz (r.flatMap enc)))):Wx P Q n ⟨some d,.call ⟨.value (.func f),[x].toArray,ts⟩,ty',pos,after,guard⟩ fr L N:=by
 obtain⟨i,hr⟩:=hr.of;intro a w ha hw;have hm:=(hr (.r A m c t sz (l.flatMap enc))).mem;have hs:=Has.ofRow (Nat.le_of_ble_eq_true hz) he (hw.ok _ hm);obtain rfl:=hs.len;refine Ch (vs:=[.slice A l.length c]) (by simp only[evos,hx]) (fun w1 hw1=>ht.h _ A c hs w1 (fun e h=>by rw[List.mem_singleton.1 h];exact hw1.ok _ hm)) hd ?_ a w ha hw;rintro _ _ _ ⟨rfl,rfl,-⟩;exact Af4 ht.p (hr _) (Nat.le_of_ble_eq_true hz) he k
inductive Spt:List Ent->List Ent->Ent->Prop
 | last {e}:Spt [e] [] e
 | cons {x L es e}:Spt L es e->Spt (x::L) (x::es) e
theorem Spt.eq{L es e}(h:Spt L es e):L=es++[e]:=by
 induction h with
 | last=>rfl
 | cons _ ih=>rw[ih];rfl
theorem Bdc{fn:Func}{R:Value->List Ent->Prop}{w0:World}{rs vs}{es:List Ent}(h:Res P fr L rs vs)(hs:Spt L es (.old w0))(hlo:∀ x∈es,x.low=0)(hR:∀ w,Heap L w->R (Tg vs) [bun es]):T n (Ends P fn rs R w0 .ret) fr L:=fun a w ha hw hr=>Ax5 hr h (fun w hw=>⟨_,[bun es],rfl,hR w hw,Br rfl Fg,Af5 hlo (hs.eq ▸ hw)⟩) a w ha hw
end
theorem Pa{A B G:Prop}(k:A->B->G):A/\B->G:=fun h=>k h.1 h.2
theorem Pt'{G:Prop}(k:G):True->G:=fun _=>k
theorem Lo1{e:Ent}{G:Prop}(k:e.low=0->G):(∀ x∈[e],x.low=0)->G:=fun h=>k (h e List.mem_cons_self)
theorem Has.row1{α:Type}{enc:α->List Value}{L:List Ent}{w:World}{A m c r sz}{l:List α}(hw:Heap L w)(hk:AtE L (.r A m c r sz (l.flatMap enc)))(hz:Nat.blt 0 sz=true)(he:∀ x,(enc x).length=sz):Has [.r A m c r sz (l.flatMap enc)] A m c sz enc l:=by
 obtain⟨_,hk⟩:=hk.nth;exact Has.ofRow (Nat.le_of_ble_eq_true hz) he (hw.ok _ (Fp hk))
theorem Has.m1{α:Type}{enc:α->List Value}{L:List Ent}{w:World}{g q sz:Nat}{t:TypeId}{cs:List Value}{l:List α}(_hw:Heap L w)(_hk:AtE L (.m g t cs))(hc:cs=l.flatMap enc)(hn:l.length=q)(he:∀ x,(enc x).length=sz)(hm:Nat.ble q 1000=true):Has [.m g t cs] (some ⟨g,0,none⟩) q q sz enc l :=
 Has.ofM (fun x _=>he x) hn (by have:=Nat.le_of_ble_eq_true hm;unfold maxLen;omega) hc
theorem Has.inl{α:Type}{enc:α->List Value}{K K':List Ent}{A m c sz}{l:List α}(h:Has K A m c sz enc l):Has (K++K') A m c sz enc l:=h.up SubE.appL
theorem Has.inr{α:Type}{enc:α->List Value}{K K':List Ent}{A m c sz}{l:List α}(h:Has K' A m c sz enc l):Has (K++K') A m c sz enc l:=h.up (SubE.appR SubE.refl)
class ConK{ρ:Type}(F:Option ρ)(P:outParam Program)(f:outParam FuncId)(Sh:outParam (Nat->Nat->Nat->Option Addr->Nat->Option Addr->Nat->List Value->List Ent->Prop))(Fa:outParam (Option Addr->Nat->Option Addr->Nat->List Ent->List Ent->Prop))(Post:outParam (Nat->Nat->Nat->Option Addr->Nat->Option Addr->Nat->List Ent->ρ->Value->List Ent->Prop)):Prop where
 h:∀ g0 g1 g2 A0 c0 A1 c1 K K2 vs Lp r,Sh g0 g1 g2 A0 c0 A1 c1 vs Lp->Fa A0 c0 A1 c1 K K2->F=some r->CtK P f vs (K++K2) Lp (Post g0 g1 g2 A0 c0 A1 c1 K r)
structure CnK(P:Program)(f:FuncId)(Sh:Nat->Nat->Nat->Option Addr->Nat->Option Addr->Nat->List Value->List Ent->Prop)(Fa:Option Addr->Nat->Option Addr->Nat->List Ent->List Ent->Prop)(Post:Nat->Nat->Nat->Option Addr->Nat->Option Addr->Nat->List Ent->Value->List Ent->Prop):Prop where
 h:∀ g0 g1 g2 A0 c0 A1 c1 K K2 vs Lp,Sh g0 g1 g2 A0 c0 A1 c1 vs Lp->Fa A0 c0 A1 c1 K K2->CtK P f vs (K++K2) Lp (Post g0 g1 g2 A0 c0 A1 c1 K)
theorem cnK{ρ:Type}{F:Option ρ}{P:Program}{f:FuncId}{Sh Fa Post}[hc:ConK F P f Sh Fa Post]{r:ρ}(h:F=some r):CnK P f Sh Fa (fun g0 g1 g2 A0 c0 A1 c1 K=>Post g0 g1 g2 A0 c0 A1 c1 K r):=⟨fun g0 g1 g2 A0 c0 A1 c1 K K2 vs Lp hs hf=>hc.h g0 g1 g2 A0 c0 A1 c1 K K2 vs Lp r hs hf h⟩
theorem Bah{α ρ:Type}{o:Option α}{P:Program}{f:FuncId}{Sh Fa Post}[hc:ConK o P f Sh Fa Post]{k:α->Option ρ}{r:ρ}{G:Prop}(h:bnd o k=some r)(K:∀ x,o=some x->CnK P f Sh Fa (fun g0 g1 g2 A0 c0 A1 c1 K=>Post g0 g1 g2 A0 c0 A1 c1 K x)->k x=some r->G):G:=let ⟨x,h1,h2⟩:=Au h;K x h1 (cnK h1) h2
theorem SubE.l{K K2 L:List Ent}(h:SubE (K++K2) L):SubE K L:=⟨fun w hw e he=>h.ok w hw e (List.mem_append_left _ he)⟩
theorem SubE.r{K K2 L:List Ent}(h:SubE (K++K2) L):SubE K2 L:=⟨fun w hw e he=>h.ok w hw e (List.mem_append_right _ he)⟩
theorem CtK.wide{P:Program}{f:FuncId}{vs:List Value}{K K2 Lp:List Ent}{R:Value->List Ent->Prop}(h:CtK P f vs K Lp R):CtK P f vs (K++K2) Lp R:=⟨h.1,fun Lf w hK hw=>h.2 Lf w hK.l hw⟩
theorem CtK.one{P:Program}{f:FuncId}{vs:List Value}{K Lp:List Ent}{R:Value->List Ent->Prop}(h:CtK P f vs (K++K) Lp R):CtK P f vs K Lp R:=⟨h.1,fun Lf w hK hw=>h.2 Lf w (SubE.appC hK hK) hw⟩
theorem CtK.mono{P:Program}{f:FuncId}{vs:List Value}{K Lp:List Ent}{R R':Value->List Ent->Prop}(h:CtK P f vs K Lp R)(k:∀ v Ln,R v Ln->R' v Ln):CtK P f vs K Lp R':=by
 refine⟨h.1,fun Lf w hK hw=>(h.2 Lf w hK hw).mono ?_⟩;rintro e w' ⟨v,Ln,rfl,hR,hh⟩;exact⟨v,Ln,rfl,k v Ln hR,hh⟩
theorem SubE.more{K L:List Ent}{e:Ent}(h:SubE K L):SubE K (e::L):=h.cons
section
variable {P:Program} {n:Nat} {ops:Array Oper} {Q:Exit->Act->World->Prop} {fr:List (Nat × Value)} {L:List Ent} {N:Act->World->Prop} {d:Nat} {ty:TypeId} {pos:String} {after:Array Edge} {guard:Option (Nat × Bool)}
theorem Ant{f:FuncId}{Sh Fa Post}{xs:List Operand}{vs:List Value}{ts:Array TypeId}{ty':TypeId}{Lp Lf K K2:List Ent}{g0 g1 g2 c0 c1:Nat}{A0 A1:Option Addr}(hc:CnK P f Sh Fa Post)(hx:evos fr xs=some vs)(hs:Sh g0 g1 g2 A0 c0 A1 c1 vs Lp)(hp:Hd L (Lp++Lf))(hf:∀ w,Heap Lf w->Fa A0 c0 A1 c1 K K2)(hK:SubE (K++K2) Lf)(hd:Nat.blt d n=true)(k:∀ v Ln,Post g0 g1 g2 A0 c0 A1 c1 K v Ln->T n N ((d,v)::fr) (Ln++Lf)):Wh P Q n ⟨some d,.call ⟨.value (.func f),xs.toArray,ts⟩,ty',pos,after,guard⟩ fr L N:=by
 intro a w ha hw;have hw2:=hw.pick hp;have hwf:Heap Lf w:=⟨fun e he=>hw2.ok e (List.mem_append_right _ he),hw2.sep.sublist (List.sublist_append_right _ _)⟩;exact Ag1 hx hp hK (hc.h g0 g1 g2 A0 c0 A1 c1 K K2 vs Lp hs (hf w hwf)) hd k a w ha hw
def Axj(P:Program)(fn:Func)(rs:List ResultVar)(R:Value->List Ent->Prop)(Lf:List Ent):Exit->Act->World->Prop:=fun e a w=>fn.results=rs.toArray->bodyPost P fn (fun e w'=>∃ v Ln,e = .returned v/\R v Ln/\Heap (Ln++Lf) w') e a w
theorem Arn{fn:Func}{R:Value->List Ent->Prop}{Lf:List Ent}{rs vs}{Ln:List Ent}(h:Res P fr L rs vs)(hR:R (Tg vs) Ln)(hs:Hd L (Ln++Lf)):T n (Axj P fn rs R Lf .ret) fr L:=fun a w ha hw hr=>Bbq hr h hR hs a w ha hw
theorem Aro{fn:Func}{R:Value->List Ent->Prop}{Lf:List Ent}{rs vs}{Ln:List Ent}(h:Res P fr L rs vs)(hR:R (Tg vs) Ln)(hs:Hd L (Ln++Lf)):T n (Axj P fn rs R Lf .normal) fr L:=fun a w ha hw hr=>Aof hr h hR hs a w ha hw
theorem CtSK{f : FuncId}{fn : Func}{c : Code}{vs : List Value}{K Lp : List Ent}{R : Value -> List Ent -> Prop}{m : Nat}{rs : List ResultVar}{fr0 : List (Nat × Value)}(hm : fn.ntmps = m)(hr : fn.results = rs.toArray)(k : ∀ Lf, SubE K Lf -> T m (c.wp P (Axj P fn rs R Lf)) fr0 (Lp ++ Lf))(hf : P.funcs[f]? = some fn := by rfl)(hb : fn.body = some c := by rfl)(hn : (fn.name == "runtime.NumGoroutine") = false := by kernel_rfl)(hl : Nat.ble vs.length m = true := by rfl)(hv : Xg vs 0 = fr0 := by exact rfl): CtK P f vs K Lp R := by
 subst hv;exact CtK.mk m hf hb hm hn hl fun Lf hK a w ha hw=>wp_mono (k Lf hK a w ha hw) (fun e a' w' h=>h hr)
inductive DecL{α:Type}(enc:α->List Value):List Value->List α->Prop
 | nil:DecL enc [] []
 | c1 {v cs x ys}:DecI enc [v] x->DecL enc cs ys->DecL enc (v::cs) (x::ys)
 | c2 {v1 v2 cs x ys}:DecI enc [v1,v2] x->DecL enc cs ys->DecL enc (v1::v2::cs) (x::ys)
 | c3 {v1 v2 v3 cs x ys}:DecI enc [v1,v2,v3] x->DecL enc cs ys->DecL enc (v1::v2::v3::cs) (x::ys)
theorem DecL.eq{α:Type}{enc:α->List Value}{cs ys}(h:DecL enc cs ys):cs=ys.flatMap enc:=by
 induction h with
 | nil=>rfl
 | c1 h _ ih=>rw[List.flatMap_cons,<- h.h,<- ih];rfl
 | c2 h _ ih=>rw[List.flatMap_cons,<- h.h,<- ih];rfl
 | c3 h _ ih=>rw[List.flatMap_cons,<- h.h,<- ih];rfl
theorem Anu(s:Nat){α:Type}{enc:α->List Value}{l:List α}{g t sz q:Nat}{cs:List Value}{L':List Ent}(hs:look fr s=some (.slice (some ⟨g,0,none⟩) q q))(hk:AtE L (.m g t cs))(he:EncI t enc)(hc:DecL enc cs l)(hz:∀ x,(enc x).length=sz)(hq:q=l.length)(hm:Nat.ble q 1000=true)(hL:SetA L (.m g t cs) (.r (some ⟨g,0,none⟩) q q t sz (l.flatMap enc)) L')(k:T n N fr L'):T n N fr L:=by
 obtain⟨_,hL⟩:=hL.of;exact T_mr l hL hc.eq hq hz (by have:=Nat.le_of_ble_eq_true hm;unfold maxLen;omega) k
end
theorem Pt.lo{K:List Ent}{w:World}{b o:Nat}{ys:List Value}(h:Pt K b o ys)(hK:∀ e∈K,Ent.ok w e):Pt [.old w] b o ys:=Pt.low (E:=[]) (Pt.up0 h) hK
theorem Pt.mA{g:Nat}{t:TypeId}{cs:List Value}{L:List Ent}(h:AtE L (.m g t cs)):Pt L g 0 cs:=by
 obtain⟨_,h⟩:=h.nth;exact Pt.m0 (Fp h)
theorem Pt.upS{K L:List Ent}{b o:Nat}{ys:List Value}(h:Pt K b o ys)(i:SubE K L):Pt L b o ys:=fun w hw=>h w (i.ok w hw)
section
variable {P:Program} {n:Nat} {ops:Array Oper} {Q:Exit->Act->World->Prop} {fr:List (Nat × Value)} {L:List Ent} {rest:List Oper} {N:Act->World->Prop} {d i:Nat} {ty:TypeId} {pos:String} {after:Array Edge} {guard:Option (Nat × Bool)} {cls:Cls} {os:List Nat}
theorem Wf(s:Nat){α:Type}{enc:α->List Value}{l:List α}{j:Int}{A:Option Addr}{m c t sz:Nat}{L':List Ent}(hs:look fr s=some (.slice A (subl l 0 j).length c))(hk:AtE L (.r A m c t sz (l.flatMap enc)))(hb:0<=j/\j<=(l.length:Int))(hz:Nat.blt 0 sz=true)(he:∀ x,(enc x).length=sz)(hL:SetA L (.r A m c t sz (l.flatMap enc)) (.r A (List.take j.toNat l).length c t sz ((List.take j.toNat l).flatMap enc)) L')(k:T n N fr L'):T n N fr L:=by
 obtain⟨_,hL⟩:=hL.of;have e:(List.take j.toNat l).length=j.toNat:=by rw[List.length_take];omega
 rw[e] at hL;exact Aqi hL oo (Nat.le_of_ble_eq_true hz) he k
section
variable {α:Type} {KK:List Ent} {A:Option Addr} {m c sz:Nat} {enc:α->List Value} {l:List α} {x lo:Operand} {kd:IntKind} {j:Int} {t e:TypeId}
theorem Abt{l:List α}{j:Int}:(subl l j (l.length:Int)).length=l.length-j.toNat:=by unfold subl;simp
theorem Has.lenL(h:Has KK (slA A c j.toNat sz) (m-j.toNat) (c-j.toNat) sz enc (subl l j (m:Int))):m-j.toNat=(subl l j (m:Int)).length/\Has KK (slA A c j.toNat sz) (subl l j (m:Int)).length (c-j.toNat) sz enc (subl l j (m:Int)):=by
 have e:=h.len;exact⟨e.symm,h.len'⟩
theorem Bdd [ht:Nb P t e sz](hx:evo fr x=some (.slice A m c))(hh:evo fr lo=some (.int kd j))(hs:Has KK A m c sz enc l)(hb:0<=j/\j<=((m:Nat):Int))(hd:Nat.blt d n=true)(k:Has KK (slA A c j.toNat sz) (subl l j (m:Int)).length (c-j.toNat) sz enc (subl l j (m:Int))->T n (wpList P ops Q rest) ((d,.slice (slA A c j.toNat sz) (subl l j (m:Int)).length (c-j.toNat))::fr) L):T n (wpList P ops Q (⟨some d,.slice t x (some lo) none none,ty,pos,after,none⟩ :: rest)) fr L:=by
 obtain⟨e,h2⟩:=(hs.subL hb.1 hb.2).lenL;exact Ay (by rw[<- e];exact Akq hx hh ht.h hb.1 hb.2) hd (k h2)
end
class SrtI(P:Program)(f gf:FuncId){β:outParam Type}(enc:outParam (β->List Value))(k:outParam Nat)(p:outParam (List β->β->Prop))(cf:outParam (β->β->Int))(arg:outParam (β->Value)):Prop where
 he:Wi P f
 hs:∀ (l:List β),l.length<=1000000000->(∀ x∈l,p l x)->∀ (A:Option Addr) (m c:Nat) (t:TypeId) w,Ent.ok w (.r A m c t k (l.flatMap enc))->Adc P (p l) cf arg A m c t k gf #[] w (l.flatMap enc)->Adb P f A m c t k gf #[] w (l.flatMap enc) ((Az cf l).flatMap enc)
 hc:∀ l W x y,p l x->p l y->∃ xs,xs.toArray = #[arg x,arg y] ++ #[]/\CtL P gf xs W fun v Ln=>v = .int .i64 (cf x y)/\Ln=[]/\True
theorem Axk{F:Ent->List Ent}{β:Type}{enc:β->List Value}{k f gf:Nat}{p:List β->β->Prop}{cf:β->β->Int}{arg:β->Value}{l:List β}{A:Option Addr}{m c:Nat}{t:TypeId}{xs:List Operand}{ts:Array TypeId}{ty':TypeId}(hx:evos fr xs=some [.slice A m c,.func (.func gf) #[] #[]])(h:SrtI P f gf enc k p cf arg)(hr:RepE L (.r A m c t k (l.flatMap enc)) F)(hg:l.length<=1000000000/\∀ x∈l,p l x)(hd:Nat.blt d n=true)(kk:T n N ((d,.tuple #[])::fr) (F (.r A m c t k ((Az cf l).flatMap enc)))):Wh P Q n ⟨some d,.call ⟨.value (.func f),xs.toArray,ts⟩,ty',pos,after,guard⟩ fr L N:=by
 obtain⟨_,hr⟩:=hr.of;exact Al3 l h.he (h.hs l hg.1 hg.2 A m c t) (fun ys=>F (.r A m c t k ys)) (fun ys=>hr _) (fun ys W _ x y px py=>h.hc l W x y px py) hx rfl hd kk
class Sr1(P:Program)(f:FuncId)(enc:outParam (Int->List Value))(st:outParam (List Int->List Int)):Prop where
 he:Wi P f
 hs:∀ (l:List Int),l.length<=1000000->∀ (A:Option Addr) (m c:Nat) (t:TypeId) (w:World),Ent.ok w (.r A m c t 1 (l.flatMap enc))->Calls P f #[.slice A m c] w fun e w'=>e = .returned (.tuple #[])/\w.grownBy w' (Ent.blk (.r A m c t 1 (l.flatMap enc)))/\w.drawn<=w'.drawn/\Ent.ok w' (.r A m c t 1 ((st l).flatMap enc))
end
def Lq(l:List Int):List Int:=l.mergeSort fun x y=>decide (x<=y)
theorem Kn{l:List Int}:(Lq l).length=l.length:=by simp[Lq]
theorem Beu{P:Program}{n:Nat}{ops:Array Oper}{Q:Exit->Act->World->Prop}{fr:List (Nat × Value)}{L:List Ent}{id:Nat}(s:Nat)(cls:Cls)(A:List (List Nat))(RL:List Nat)(p:Plan){g o:Nat}{t:TypeId}{cs:List Value}(hs:look fr s=some (.pointer (some ⟨g,o,none⟩)))(hk:AtE L (.m g t cs))(hm:P.follows .mixedOrders=true)(hd:Wz ops cls A RL=true)(hp:Hu ops cls p (Array.replicate ops.size false) none=true)(k:T n (Bm P ops Q cls A RL (RR [.m g t cs]) p) fr L):T n ((Code.region id ops true).wp P Q) fr L:=by
 obtain⟨_,hk⟩:=hk.nth;exact Ayq cls A RL [.m g t cs] p hm hd hp (fun w hw=>SubE.ok (SubE.nth hk) w hw) k
theorem Arp{P:Program}{n:Nat}{Q:Exit->Act->World->Prop}{fr:List (Nat × Value)}{L:List Ent}{N:Act->World->Prop}{d:Nat}{pos:String}{after:Array Edge}{guard:Option (Nat × Bool)}{α:Type}{enc:α->List Value}{l l2:List α}{s x:Operand}{t e sz bytes:Nat}{A:Option Addr}{m c g q q':Nat}{t':TypeId}{cs:List Value}{ty':TypeId}{f:Ent->List Ent}[ht:Afp P t e sz bytes](hs:evo fr s=some (.slice A m c))(hx:evo fr x=some (.slice (some ⟨g,0,none⟩) q q'))(hr:RepE L (.r A m c e sz (l.flatMap enc)) f)(hm:AtE L (.m g t' cs))(hdec:DecL enc cs l2)(hq:q=l2.length)(hb:(l.length+q)*bytes<=140737488355328)(he:∀ x,(enc x).length=sz)(h1:Tf cs=true)(hd:Nat.blt d n=true)(h0:Nat.blt 0 bytes=true)(k:∀ A' c',T n N ((d,.slice A' (l++l2).length c')::fr) (f (.r A' (l++l2).length c' e sz ((l++l2).flatMap enc)))):Wh P Q n ⟨some d,.call ⟨.builtin .append,#[s,x],#[t,t]⟩,ty',pos,after,guard⟩ fr L N:=by
 obtain⟨_,hr⟩:=hr.of;obtain⟨_,hm⟩:=hm.nth;subst hq;exact Qk (L2:=fun A' c'=>f (.r A' (l++l2).length c' e sz ((l++l2).flatMap enc))) enc l l2 hs hx rfl ht.h he hm hdec.eq rfl h1 hb hd (fun A' c'=>hr _) (fun _ _=>.refl) (Nat.le_of_ble_eq_true h0) k
class LoN{α:Type}(RN:List Ent->α->List Value->Prop):Prop where
 h:∀ {K:List Ent} {x:α} {ys:List Value} {w:World},RN K x ys->(∀ e∈K,Ent.ok w e)->RN [.old w] x ys
section
variable {P:Program} {n:Nat} {ops:Array Oper} {Q:Exit->Act->World->Prop} {fr:List (Nat × Value)} {L:List Ent} {rest:List Oper}
variable {d i:Nat} {ty:TypeId} {pos:String} {after:Array Edge} {guard:Option (Nat × Bool)} {cls:Cls} {A0:List (List Nat)} {RL:List Nat} {R:World->Prop} {p:Plan} {os:List Nat}
variable {α:Type} {KK:List Ent} {A:Option Addr} {m c sz:Nat} {RN:List Ent->α->List Value->Prop} {l:List α} {x ix:Operand} {kd:IntKind} {z:Int} {x0:α} {t e:TypeId} {w0:World}
theorem Apl(hx:evo fr x=some (.slice A m c))(hix:evo fr ix=some (.int kd z))(hs:HasN KK A m c sz RN l)(hi:idx l z=some x0)(ho:LoN RN)(hK:∀ e∈KK,Ent.ok w0 e)(ht:Ni P t e sz):
  ∃ b o ys,(∀ {dst:Option Tmp} {ty:TypeId} {pos:String} {after:Array Edge} {guard:Option (Nat × Bool)} L,Ev P n ⟨dst,.indexAddr t x ix,ty,pos,after,guard⟩ fr L (.pointer (some ⟨b,o,none⟩)))/\RN [.old w0] x0 ys/\Pt [.old w0] b o ys:=by
 obtain⟨b,o,j,ys,hA,hj,hl,hp,hr⟩:=hs.at_idx hi;exact⟨b,o+j*sz,ys,fun L=>Iv hx hix hA (j:=j) hj hl ht,ho.h hr hK,Pt.lo hp hK⟩
theorem Bev [ht:Nb P t e sz](hx:evo fr x=some (.slice A m c))(hix:evo fr ix=some (.int kd z))(hs:HasN KK A m c sz RN l)(hi:idx l z=some x0)(ho:LoN RN)(hK:∀ e∈KK,Ent.ok w0 e)(hd:Nat.blt d n=true)(k:∀ b o ys,RN [.old w0] x0 ys->Pt [.old w0] b o ys->T n (wpList P ops Q rest) ((d,.pointer (some ⟨b,o,none⟩))::fr) L):T n (wpList P ops Q (⟨some d,.indexAddr t x ix,ty,pos,after,none⟩ :: rest)) fr L:=by
 obtain⟨b,o,ys,h1,h2,h3⟩:=Apl (P:=P) (n:=n) hx hix hs hi ho hK ht.h;exact Ay (h1 L) hd (k b o ys h2 h3)
theorem Bew(hc:Nat.beq (cls.getD i 9) 0=true)(hop:ops[i]? = some ⟨some d,.indexAddr t x ix,ty,pos,after,guard⟩)(hg:Vv ops n fr guard)(hx:evo fr x=some (.slice A m c))(hix:evo fr ix=some (.int kd z))(hs:HasN KK A m c sz RN l)(hi:idx l z=some x0)(ho:LoN RN)(hK:∀ e∈KK,Ent.ok w0 e)(ht:Nb P t e sz)(hd:Nat.blt d n=true)(k:∀ b o ys,RN [.old w0] x0 ys->Pt [.old w0] b o ys->PB P ops Q cls n os ((d,.pointer (some ⟨b,o,none⟩))::fr) L):PB P ops Q cls n (i::os) fr L:=by
 obtain⟨b,o,ys,h1,h2,h3⟩:=Apl (P:=P) (n:=n) hx hix hs hi ho hK ht.h;exact B_p hc hop hg (h1 []) hd (k b o ys h2 h3)
theorem Bex(hc:Nat.beq (cls.getD i 9) 0=true)(hop:ops[i]? = some ⟨some d,.indexAddr t x ix,ty,pos,after,none⟩)(hx:evo fr x=some (.slice A m c))(hix:evo fr ix=some (.int kd z))(hs:HasN KK A m c sz RN l)(hi:idx l z=some x0)(ho:LoN RN)(hK:∀ e∈KK,Ent.ok w0 e)(ht:Nb P t e sz)(hd:Nat.blt d n=true)(k:∀ b o ys,RN [.old w0] x0 ys->Pt [.old w0] b o ys->T n (Bm P ops Q cls A0 RL R p) ((d,.pointer (some ⟨b,o,none⟩))::fr) L):T n (Bm P ops Q cls A0 RL R (.q i p)) fr L:=by
 obtain⟨b,o,ys,h1,h2,h3⟩:=Apl (P:=P) (n:=n) hx hix hs hi ho hK ht.h;exact P_p hc hop (h1 []) hd (k b o ys h2 h3)
end
instance(k:IntKind)(x:Int):UnfI (Value.int k) x (.int k x):=⟨rfl⟩
theorem Bai{c:Code}{m:Nat}{Q Q':Exit->Act->World->Prop}{P:Program}{n:Nat}{fr:List (Nat × Value)}{L:List Ent}(k:T n (Code.rounds P c Q m) fr L):T n (Exit.then (Code.rounds P c Q m) Q' .normal) fr L:=k
theorem SubE.consA{K L e}(h:AtE L e)(h':SubE K L):SubE (e::K) L:=by
 obtain⟨_,h⟩:=h.nth;exact SubE.cons2 h h'
theorem aT{G:Prop}(h:G:=by (repeat (first | exact .here | refine .there ?_));(first | done | fail)):G:=h
theorem sF{G:Prop}(h:G:=by (repeat (first | exact .nil | refine .cons rfl ?_));(first | done | fail)):G:=h
theorem pK{G:Prop}(h:G:=by (repeat (first | exact .refl | refine .pick 0 rfl ?_ | refine .pick 1 rfl ?_ | refine .pick 2 rfl ?_ | refine .pick 3 rfl ?_ | refine .pick 4 rfl ?_ | refine .pick 5 rfl ?_ | refine .pick 6 rfl ?_ | refine .pick 7 rfl ?_ | refine .pick 8 rfl ?_ | refine .pick 9 rfl ?_ | refine .pick 10 rfl ?_ | refine .pick 11 rfl ?_ | refine .pick 12 rfl ?_ | refine .drop 0 rfl ?_));(first | done | fail)):G:=h
theorem sU{K L:List Ent}(h:SubE K L:=by
 (repeat' (first | exact SubE.nil | refine SubE.consA (by exact aT) ?_ | (with_reducible apply SubE.appC) | exact SubE.ofOld (by with_reducible assumption) aT | (with_reducible assumption) | (with_reducible apply SubE.more)));(first | done | fail)):SubE K L:=h
theorem sW{X K es:List Ent}(h:SubE X (K++es):=by
 (repeat' (first | exact SubE.nil | exact SubE.appL | refine SubE.consR (by exact aT) ?_ | (with_reducible apply SubE.appC)));(first | done | fail)):SubE X (K++es):=h
theorem spt{G:Prop}(h:G:=by (repeat (first | exact .last | apply Spt.cons));(first | done | fail)):G:=h
theorem lB{G:Prop}(h:G:=by (repeat (first | exact Fg | refine Br (by first | rfl | (with_reducible assumption)) ?_));(first | done | fail)):G:=h
theorem sP{G:Prop}(h:G:=by (repeat (first | exact .done | apply Spl.put | apply Spl.skip));(first | done | fail)):G:=h
theorem sE{L L':List Ent}{i:Nat}{e e':Ent}(h:SetE L i e e' L':=by (repeat (first | exact .here | apply SetE.there));(first | done | fail)):SetE L i e e' L':=h
theorem rE{G:Prop}(h:G:=by (repeat (first | exact .here | apply RepE.there));(first | done | fail)):G:=h
theorem aL{G:Prop}(h:G:=by (repeat (first | exact .nil | ((with_reducible apply Aam.cc);exact rfl;exact inferInstance;exact rfl)));(first | done | fail)):G:=h
theorem wW{G:Prop}(h:G:=by first | exact wY | exact wG rfl rfl rfl):G:=h
theorem sF2{G:Prop}(h:G:=by (try dsimp only);(try simp only[Nr,Dh,Abt]);(repeat (first | exact .nil | refine .cons (by first | exact rfl | (simp only[Nr,Dh,Abt];exact rfl)) ?_));(first | done | fail)):G:=h
theorem pK2{G:Prop}(h:G:=by (try dsimp only);(try simp only[Nr,Dh,Abt]);(repeat (first | exact .refl | refine .pick 0 rfl ?_ | refine .pick 1 rfl ?_ | refine .pick 2 rfl ?_ | refine .pick 3 rfl ?_ | refine .pick 4 rfl ?_ | refine .pick 5 rfl ?_ | refine .pick 6 rfl ?_ | refine .pick 7 rfl ?_ | refine .pick 8 rfl ?_ | refine .pick 9 rfl ?_ | refine .pick 10 rfl ?_ | refine .pick 11 rfl ?_ | refine .pick 12 rfl ?_ | refine .drop 0 rfl ?_));(first | done | fail)):G:=h
theorem pZ{z:Ent}{L1 L':List Ent}(h:Hd L1 (z::L'):=by first | exact .pick 0 rfl .refl | exact .pick 1 rfl .refl | exact .pick 2 rfl .refl | exact .pick 3 rfl .refl | exact .pick 4 rfl .refl | exact .pick 5 rfl .refl | exact .pick 6 rfl .refl | exact .pick 7 rfl .refl | exact .pick 8 rfl .refl):Hd L1 (z::L'):=h
theorem dL{G:Prop}(h:G:=by (repeat (first | exact .nil | (apply DecL.c1 (by exact inferInstance)) | (apply DecL.c2 (by exact inferInstance)) | (apply DecL.c3 (by exact inferInstance))));(first | done | fail)):G:=h
theorem dZ{G:Prop}(h:G:=by (repeat (first | exact .nil | apply DecZ.cons));(first | done | fail)):G:=h
theorem sA{G:Prop}(h:G:=by (repeat (first | exact .here | apply SetA.there));(first | done | fail)):G:=h
theorem lO{G:Prop}(h:G:=by first | exact Fg | exact Br rfl Fg | exact Br rfl (Br rfl Fg) | exact Br rfl (Br rfl (Br rfl Fg)) | exact Br rfl (Br rfl (Br rfl (Br rfl Fg))) | exact Br rfl (Br rfl (Br rfl (Br rfl (Br rfl (Br rfl Fg)))))):G:=h
theorem rS{G:Prop}(h:G:=by (repeat (first | exact .nil | ((with_reducible apply Res.tmp);exact rfl) | ((with_reducible apply Res.cellA);exact rfl;exact aT;exact rfl)));(first | done | fail)):G:=h
theorem shK{G:Prop}(h:G:=by refine⟨rfl,rfl,?_⟩;(repeat (first | exact trivial | refine⟨rfl,?_⟩));(first | done | fail)):G:=h
theorem cQ{G:Prop}(h:G:=by first | rfl | (rw[Atp];assumption) | (rw[Abt])):G:=h
theorem rPK{G:Prop}(h:G:=by first | exact⟨rfl,rfl,trivial⟩ | exact⟨_,_,rfl,rfl,trivial⟩ | exact⟨_,_,rfl,rfl,(by with_reducible assumption),trivial⟩ | exact⟨_,_,_,_,rfl,rfl,(by with_reducible assumption),trivial⟩ | exact⟨_,_,_,_,rfl,rfl,trivial⟩):G:=h
theorem gG{G:Prop}(h:G:=by (try dsimp only);(repeat' (first | exact trivial | exact (rfl:Ent.low (.r _ _ _ _ _ _)=0) | (with_reducible assumption) | (with_reducible refine⟨?_,?_⟩) | exact Has.up (by with_reducible assumption) sU | exact Has.inl (by with_reducible assumption) | exact rfl));(first | done | fail)):G:=h
theorem gG2{G:Prop}(h:G:=by (try dsimp only);(repeat' (first | exact trivial | exact (rfl:Ent.low (.r none 0 0 0 1 [])=0) | (with_reducible assumption) | (with_reducible refine⟨?_,?_⟩) | exact Has.up (by with_reducible assumption) sU | exact Has.inl (by with_reducible assumption) | exact Has.nil));(first | done | fail)):G:=h
theorem rP{G:Prop}(h:G:=by first | exact⟨rfl,rfl,trivial⟩ | exact⟨_,_,rfl,rfl,trivial⟩ | exact⟨_,_,_,_,rfl,rfl,trivial⟩ | exact⟨_,_,_,_,_,_,rfl,rfl,trivial⟩ | exact⟨_,_,_,_,_,_,_,_,rfl,rfl,trivial⟩ | exact⟨_,_,_,_,_,_,_,_,_,_,_,_,rfl,rfl,trivial⟩):G:=h
inductive Kp(fr:List (Nat × Value)):List Nat->List (Nat × Value)->Prop
 | nil:Kp fr [] []
 | cons {k v ks r}:look fr k=some v->Kp fr ks r->Kp fr (k::ks) ((k,v)::r)
inductive KLa:List Ent->Ent->Prop
 | one {e}:KLa [e] e
 | cons {x M e}:KLa M e->KLa (x::M) e
inductive KDr:List Ent->Nat->List Ent->Prop
 | zero {M}:KDr M 0 M
 | succ {e M k r}:KDr M k r->KDr (e::M) (k+1) r
inductive Kl(L:List Ent):List Nat->List Ent->Prop
 | nil:Kl L [] []
 | cons {k e ks r}:nthE L k=some e->Kl L ks r->Kl L (k::ks) (e::r)
 | last {e ks r}:KLa L e->Kl L ks r->Kl L (999::ks) (e::r)
 | drop {k r}:KDr L k r->Kl L [k+1000] r
theorem kk{fr fr0:List (Nat × Value)}{ks is:List Nat}{L L0:List Ent}(h1:Kp fr ks fr0:=by (repeat (first | exact .nil | (apply Kp.cons;exact rfl)));(first | done | fail))(h2:Kl L is L0:=by (repeat (first | exact .nil | (apply Kl.cons;exact rfl) | ((with_reducible apply Kl.last);(repeat (first | exact KLa.one | (with_reducible apply KLa.cons)))) | ((with_reducible apply Kl.drop);(repeat (first | exact KDr.zero | apply KDr.succ)))));(first | done | fail)):Kp fr ks fr0/\Kl L is L0:=⟨h1,h2⟩
theorem Jr{τ γ ρ:Type}{kk:τ->Option ρ}{xx:(τ->Option ρ)->Option ρ}{out:ρ}{fr0:List (Nat × Value)}{L0:List Ent}(hx:jn kk xx=some out)(ks:List Nat)(F:τ->γ->List (Nat × Value)->List (Nat × Value))(is:List Nat)(E:τ->γ->List Ent->List Ent){x y:Code}(_h:Kp fr ks fr0/\Kl L is L0)(k2:∀ s g,kk s=some out->T n (y.wp P Q) (F s g fr0) (E s g L0))(k:∀ j,xx j=some out->T n (x.wp P (Exit.then (Met n j out (fun s g=>F s g fr0) (fun s g=>E s g L0) (fun _ _=>True)) Q)) fr L):
  T n ((Code.seq x y).wp P Q) fr L:=Aeh (J:=kk) (fun s g=>F s g fr0) (fun s g=>E s g L0) (fun _ _=>True) (fun s g h _=>k2 s g h) (k kk hx)
theorem Ma{τ γ ρ:Type}{J:τ->Option ρ}{out:ρ}{I:τ->γ->List (Nat × Value)}{H:τ->γ->List Ent}{G:τ->γ->Prop}(s:τ)(g:γ)(hJ:J s=some out)(hG:G s g)(hF:SubF (I s g) fr)(hH:Hd L (H s g)):T n (Exit.then (Met n J out I H G) Q .normal) fr L:=Aom s g hJ hG hF hH
theorem Ro{σ τ γ:Type}{x:Sum σ τ}{I:σ->γ->List (Nat × Value)}{H:σ->γ->List Ent}{G:σ->γ->Prop}(s:σ)(g:γ)(hx:some (.inl s)=some x)(hG:G s g)(hF:SubF (I s g) fr)(hH:Hd L (H s g)):T n (Exit.then (Rnd n x I H G) Q .normal) fr L:=Ahe s g hx hG hF hH
theorem MaG{τ γ ρ:Type}{J:τ->Option ρ}{out:ρ}{I:τ->γ->List (Nat × Value)}{H:τ->γ->List Ent}{G:τ->γ->Prop}(s:τ)(g:γ)(hJ:J s=some out)(hF:SubF (I s g) fr)(hG:G s g)(hH:Hd L (H s g)):T n (Exit.then (Met n J out I H G) Q .normal) fr L:=Aom s g hJ hG hF hH
theorem RoG{σ τ γ:Type}{x:Sum σ τ}{I:σ->γ->List (Nat × Value)}{H:σ->γ->List Ent}{G:σ->γ->Prop}(s:σ)(g:γ)(hx:some (.inl s)=some x)(hF:SubF (I s g) fr)(hG:G s g)(hH:Hd L (H s g)):T n (Exit.then (Rnd n x I H G) Q .normal) fr L:=Ahe s g hx hG hF hH
theorem sk{fr fr1:List (Nat × Value)}{L L1:List Ent}(h1:SubF fr1 fr:=by (try dsimp only);exact sF)(h2:Hd L L1:=by (try dsimp only);exact pK):SubF fr1 fr/\Hd L L1:=⟨h1,h2⟩
theorem Lr{σ τ γ ρ:Type}{B:σ->Option (Sum σ τ)}{s0:σ}{K:τ->Option ρ}{out:ρ}{fr0:List (Nat × Value)}{L0:List Ent}(hx:bnd (lfix B s0) K=some out)(ks:List Nat)(F:σ->γ->List (Nat × Value)->List (Nat × Value))(is:List Nat)(E:σ->γ->List Ent->List Ent)(g0:γ){c:Code}(_h:Kp fr ks fr0/\Kl L is L0)(h1:SubF (F s0 g0 fr0) fr/\Hd L (E s0 g0 L0))(body:∀ s g x,B s=some x->(∀ t',x = .inr t'->K t'=some out)->T n (c.wp P (Exit.then (Rnd n x (fun s g=>F s g fr0) (fun s g=>E s g L0) (fun _ _=>True)) Q)) (F s g fr0) (E s g L0)):T n ((Code.loop c).wp P Q) fr L:=by
 obtain⟨t,hl,ho⟩:=Au hx;exact Akp hl (fun s g=>F s g fr0) (fun s g=>E s g L0) (fun _ _=>True) g0 trivial h1.1 h1.2 (fun s g _ x hb ht=>body s g x hb (fun t' e=>by rw[ht t' e];exact ho))
theorem JrG{τ γ ρ:Type}{kk:τ->Option ρ}{xx:(τ->Option ρ)->Option ρ}{out:ρ}{fr0:List (Nat × Value)}{L0:List Ent}(hx:jn kk xx=some out)(ks:List Nat)(F:τ->γ->List (Nat × Value)->List (Nat × Value))(is:List Nat)(E:τ->γ->List Ent->List Ent)(G:τ->γ->Prop){x y:Code}(_h:Kp fr ks fr0/\Kl L is L0)(k2:∀ s g,kk s=some out->G s g->T n (y.wp P Q) (F s g fr0) (E s g L0))(k:∀ j,xx j=some out->T n (x.wp P (Exit.then (Met n j out (fun s g=>F s g fr0) (fun s g=>E s g L0) G) Q)) fr L):
  T n ((Code.seq x y).wp P Q) fr L:=Aeh (J:=kk) (fun s g=>F s g fr0) (fun s g=>E s g L0) G (fun s g h hg=>k2 s g h hg) (k kk hx)
theorem LrG{σ τ γ ρ:Type}{B:σ->Option (Sum σ τ)}{s0:σ}{K:τ->Option ρ}{out:ρ}{fr0:List (Nat × Value)}{L0:List Ent}(hx:bnd (lfix B s0) K=some out)(ks:List Nat)(F:σ->γ->List (Nat × Value)->List (Nat × Value))(is:List Nat)(E:σ->γ->List Ent->List Ent)(G:σ->γ->Prop)(g0:γ){c:Code}(_h:Kp fr ks fr0/\Kl L is L0)(h1:SubF (F s0 g0 fr0) fr)(h2:G s0 g0)(h3:Hd L (E s0 g0 L0))(body:∀ s g x,B s=some x->(∀ t',x = .inr t'->K t'=some out)->G s g->T n (c.wp P (Exit.then (Rnd n x (fun s g=>F s g fr0) (fun s g=>E s g L0) G) Q)) (F s g fr0) (E s g L0)):T n ((Code.loop c).wp P Q) fr L:=by
 obtain⟨t,hl,ho⟩:=Au hx;exact Akp hl (fun s g=>F s g fr0) (fun s g=>E s g L0) G g0 h2 h1 h3 (fun s g hg x hb ht=>body s g x hb (fun t' e=>by rw[ht t' e];exact ho) hg)
theorem Atp{α:Type}{l:List α}{j:Int}(h:0<=j/\j<=(l.length:Int)):(subl l 0 j).length=j.toNat:=by rw[Aqh,List.length_take];omega
def AtS(_:Nat)(G:Prop):Prop:=G
section
variable {s:Nat} {q:Prop} [Decidable q] {ρ:Type} {x y r:Option ρ} {b:Bool}
theorem Cq1(hx:(if q then x else y)=r)(hs:look fr s=some (.bool (decide q)))(ht:q->x=r->T n N ((s,.bool true)::fr) L)(hf:¬ q->y=r->T n N ((s,.bool false)::fr) L):AtS s (T n N fr L):=Aqe hs (fun h=>ht h (Rg h hx)) (fun h=>hf h (Aag h hx))
theorem Cq1e(hx:(if q then x else y)=r)(hs:look fr s=some (.bool b))(hb:b=decide q)(ht:q->x=r->T n N ((s,.bool true)::fr) L)(hf:¬ q->y=r->T n N ((s,.bool false)::fr) L):AtS s (T n N fr L):=Cq1 hx (hb ▸ hs) ht hf
theorem Cq2(hx:(if q then x else y)=r)(hs:look fr s=some (.bool (!decide q)))(ht:¬ q->y=r->T n N ((s,.bool true)::fr) L)(hf:q->x=r->T n N ((s,.bool false)::fr) L):AtS s (T n N fr L):=Ag9 hs (fun h=>ht h (Aag h hx)) (fun h=>hf h (Rg h hx))
theorem Cq3 [Decidable (b=true)](hx:(if b=true then x else y)=r)(hs:look fr s=some (.bool b))(ht:b=true->x=r->T n N ((s,.bool true)::fr) L)(hf:¬ b=true->y=r->T n N ((s,.bool false)::fr) L):AtS s (T n N fr L):=Tz hs (fun h=>ht h (Rg h hx)) (fun h=>hf (by simp[h]) (Aag (by simp[h]) hx))
theorem Cq4 [Decidable (b=true)](hx:(if b=true then x else y)=r)(hs:look fr s=some (.bool (!b)))(ht:¬ b=true->y=r->T n N ((s,.bool true)::fr) L)(hf:b=true->x=r->T n N ((s,.bool false)::fr) L):AtS s (T n N fr L):=Xo hs (fun h=>ht (by simp[h]) (Aag (by simp[h]) hx)) (fun h=>hf h (Rg h hx))
end
def AtB(ops:Array Oper)(i _s:Nat)(G:Prop):Prop:=(∃ o p,ops[i]? = some o/\o.guard=some p)->G
section
variable {s:Nat} {q:Prop} [Decidable q] {ρ:Type} {x y r:Option ρ} {b:Bool}
theorem Cb3 [Decidable (b=true)](hx:(if b=true then x else y)=r)(hs:look fr s=some (.bool b))(ht:b=true->x=r->PB P ops Q cls n (i::os) ((s,.bool true)::fr) L)(hf:¬ b=true->y=r->PB P ops Q cls n (i::os) ((s,.bool false)::fr) L):AtB ops i s (PB P ops Q cls n (i::os) fr L):=fun hg=>by
 cases b with
 | true=>exact Aan hg hs (ht rfl (Rg rfl hx))
 | false=>exact Aan hg hs (hf s_ (Aag s_ hx))
theorem Cb4 [Decidable (b=true)](hx:(if b=true then x else y)=r)(hs:look fr s=some (.bool (!b)))(ht:¬ b=true->y=r->PB P ops Q cls n (i::os) ((s,.bool true)::fr) L)(hf:b=true->x=r->PB P ops Q cls n (i::os) ((s,.bool false)::fr) L):AtB ops i s (PB P ops Q cls n (i::os) fr L):=fun hg=>by
 cases b with
 | true=>exact Aan hg hs (hf rfl (Rg rfl hx))
 | false=>exact Aan hg hs (ht s_ (Aag s_ hx))
theorem Cb1(hx:(if q then x else y)=r)(hs:look fr s=some (.bool (decide q)))(ht:q->x=r->PB P ops Q cls n (i::os) ((s,.bool true)::fr) L)(hf:¬ q->y=r->PB P ops Q cls n (i::os) ((s,.bool false)::fr) L):AtB ops i s (PB P ops Q cls n (i::os) fr L):=fun hg=>by
 by_cases h:q
 ·exact Aan hg (by rw[hs,decide_eq_true h]) (ht h (Rg h hx))
 ·exact Aan hg (by rw[hs,decide_eq_false h]) (hf h (Aag h hx))
theorem Cb2(hx:(if q then x else y)=r)(hs:look fr s=some (.bool (!decide q)))(ht:¬ q->y=r->PB P ops Q cls n (i::os) ((s,.bool true)::fr) L)(hf:q->x=r->PB P ops Q cls n (i::os) ((s,.bool false)::fr) L):AtB ops i s (PB P ops Q cls n (i::os) fr L):=fun hg=>by
 by_cases h:q
 ·exact Aan hg (by rw[hs,decide_eq_true h];rfl) (hf h (Rg h hx))
 ·exact Aan hg (by rw[hs,decide_eq_false h];rfl) (ht h (Aag h hx))
end
theorem S_c{s:Nat}{c1 c2:Code}(k:AtS s (T n ((Code.cond (.tmp s) c1 c2).wp P Q) fr L)):T n ((Code.cond (.tmp s) c1 c2).wp P Q) fr L:=k
theorem S_g{s j:Nat}{b:Bool}(hj:(ops[j]?).bind (·.dst)=some s)(k:AtS s (T n (wpList P ops Q (⟨dst,op,ty,pos,after,some (j,b)⟩ :: rest)) fr L)):T n (wpList P ops Q (⟨dst,op,ty,pos,after,some (j,b)⟩ :: rest)) fr L:=k
theorem S_b{s j:Nat}{b:Bool}(ho:ops[i]? = some ⟨dst,op,ty,pos,after,some (j,b)⟩)(hj:(ops[j]?).bind (·.dst)=some s)(k:AtB ops i s (PB P ops Q cls n (i::os) fr L)):PB P ops Q cls n (i::os) fr L:=k ⟨_,_,ho,rfl⟩
end
theorem Has.rowW{α:Type}{enc:α->List Value}{L:List Ent}{w:World}{A m c r sz}{l:List α}(hw:Heap L w)(hk:AtE L (.r A m c r sz (l.flatMap enc)))(hz:Nat.blt 0 sz=true)(he:∀ x,(enc x).length=sz):Has L A m c sz enc l:=by
 obtain⟨_,hk⟩:=hk.nth;exact (Has.ofRow (Nat.le_of_ble_eq_true hz) he (hw.ok _ (Fp hk))).up (SubE.nth hk)
theorem Has.mW{α:Type}{enc:α->List Value}{L:List Ent}{w:World}{g q sz:Nat}{t:TypeId}{cs:List Value}{l:List α}(hw:Heap L w)(hk:AtE L (.m g t cs))(hc:cs=l.flatMap enc)(hn:l.length=q)(he:∀ x,(enc x).length=sz)(hm:Nat.ble q 1000=true):Has L (some ⟨g,0,none⟩) q q sz enc l:=by
 obtain⟨_,hk⟩:=hk.nth;exact (Has.ofM (fun x _=>he x) hn (by have:=Nat.le_of_ble_eq_true hm;unfold maxLen;omega) hc).up (SubE.nth hk)
theorem hA{α:Type}{enc:α->List Value}{L:List Ent}{w:World}{A m c sz}{l:List α}(hw:Heap L w)(h:Has L A m c sz enc l:=by
 first
 | exact Has.rowW hw aT rfl (fun _=>rfl)
 | exact Has.up (by with_reducible assumption) sU
 | exact Has.mW hw aT rfl rfl (fun _=>rfl) rfl
 | exact Has.nil):Has L A m c sz enc l:=h
theorem hP{L:List Ent}{b o:Nat}{ys:List Value}(h:Pt L b o ys:=by
 first
 | exact Pt.mA aT
 | exact Pt.upS (by with_reducible assumption) sU):Pt L b o ys:=h
theorem hB{α:Type}{enc:α->List Value}{K L:List Ent}{w:World}{A m c sz}{l:List α}(hw:Heap L w)(h:Has K A m c sz enc l:=by
 first
 | with_reducible assumption
 | exact Has.row1 hw aT rfl (fun _=>rfl)
 | exact Has.m1 hw aT rfl rfl (fun _=>rfl) rfl
 | exact Has.nil):Has K A m c sz enc l:=h
theorem hZ{α:Type}{enc:α->List Value}{K L es:List Ent}{w:World}{A m c sz}{l:List α}(hw:Heap L w)(h:Has (K++[bun es]) A m c sz enc l:=by
 first
 | exact Has.nil
 | exact Has.up (by with_reducible assumption) (SubE.bunR sW)
 | exact Has.up (Has.row1 hw aT rfl (fun _=>rfl)) (SubE.bunR sW)
 | exact Has.up (Has.m1 hw aT rfl rfl (fun _=>rfl) rfl) (SubE.bunR sW)):Has (K++[bun es]) A m c sz enc l:=h
theorem evB{G:Prop}(h:G:=by
 first
 | ((with_reducible apply Aw7);exact rfl)
 | ((with_reducible apply Zb);exact rfl)
 | (with_reducible apply Az3);(first
  | ((with_reducible apply Aw8);exact rfl;exact aT;exact rfl)
  | ((with_reducible apply Axb);exact rfl;exact aT;exact dZ;(with_reducible assumption))
  | ((with_reducible apply Aw9);exact rfl;exact aT;exact rfl)
  | ((with_reducible apply Bep);exact rfl;(with_reducible assumption);exact sU;exact rfl)
  | ((with_reducible apply Beq);exact rfl;(with_reducible assumption);exact sU;exact rfl)
  | ((with_reducible apply Ber);exact rfl;(with_reducible assumption);exact sU;exact rfl)
  | ((with_reducible apply Bc2);exact rfl;(with_reducible assumption);exact sU;exact rfl)
  | fail)
 | (with_reducible apply Bc1);(first
  | ((with_reducible apply Az8);exact rfl;exact rfl;exact inferInstance)
  | ((with_reducible apply Axw) <;> exact rfl)
  | ((with_reducible apply Acr) <;> exact rfl)
  | ((with_reducible apply Agx) <;> exact rfl)
  | ((with_reducible apply Agy) <;> exact rfl)
  | ((with_reducible apply Ax1) <;> exact rfl)
  | ((with_reducible apply Ax0) <;> exact rfl)
  | ((with_reducible apply Axy) <;> exact rfl)
  | ((with_reducible apply Axx) <;> exact rfl)
  | ((with_reducible apply Axz) <;> exact rfl)
  | ((with_reducible apply Bc4);exact rfl;exact rfl;exact inferInstance)
  | ((with_reducible apply Bc5);exact rfl;exact rfl;exact inferInstance)
  | ((with_reducible apply Bc6) <;> exact rfl)
  | ((with_reducible apply Bc7) <;> exact rfl)
  | ((with_reducible apply Bdi);exact rfl;exact rfl;first | (with_reducible assumption) | decide)
  | ((with_reducible apply Acs);exact rfl;exact rfl;first | (with_reducible assumption) | decide)
  | ((with_reducible apply Amb);exact rfl;exact rfl;first | (with_reducible assumption) | decide)
  | ((with_reducible apply Af9);exact rfl;exact rfl;first | decide | (with_reducible assumption))
  | ((with_reducible apply Ayv);exact rfl;exact rfl;first | decide | (with_reducible assumption))
  | ((with_reducible apply Ae5) <;> exact rfl)
  | ((with_reducible apply Ae8) <;> exact rfl)
  | ((with_reducible apply Ae6) <;> exact rfl)
  | ((with_reducible apply Ae9) <;> exact rfl)
  | ((with_reducible apply Ae7) <;> exact rfl)
  | ((with_reducible apply Afa) <;> exact rfl)
  | ((with_reducible apply Aff) <;> exact rfl)
  | ((with_reducible apply Ahf) <;> exact rfl)
  | ((with_reducible apply Afg) <;> exact rfl)
  | fail)
 | ((with_reducible apply Me);exact rfl)
 | ((with_reducible apply App);exact rfl)
 | (with_reducible apply Az5);(first
  | ((with_reducible apply Bc3);exact rfl)
  | ((with_reducible apply Bad);exact rfl;exact aT)
  | ((with_reducible apply Ar0) <;> exact rfl)
  | ((with_reducible apply Ar1) <;> exact rfl)
  | ((with_reducible apply Ayg) <;> exact rfl)
  | ((with_reducible apply Ayh) <;> exact rfl)
  | fail)
 | (with_reducible apply Az4);(first
  | ((with_reducible apply Bc8);exact rfl)
  | ((with_reducible apply Az9);exact rfl)
  | ((with_reducible apply Baa);exact rfl)
  | fail)
 | ((with_reducible apply Apk) <;> exact rfl)
 | ((with_reducible apply An1) <;> exact rfl)
 | ((with_reducible apply An2) <;> exact rfl)
 | ((with_reducible apply Axa);exact rfl;exact inferInstance)
 | ((with_reducible apply Bda);exact rfl;exact rfl;decide;decide;exact rfl)
 | ((with_reducible apply Bab);exact rfl;exact rfl;(with_reducible assumption);exact rfl)
 | ((with_reducible apply Bac);exact rfl;exact rfl)
 | ((with_reducible apply Axc);exact rfl;exact aT;exact rfl;exact inferInstance;(with_reducible assumption);(with_reducible assumption);exact rfl)
 | ((with_reducible apply Ato);exact rfl;exact aT;exact rfl;exact inferInstance;(with_reducible assumption);(with_reducible assumption);exact rfl)
 | ((with_reducible apply Axe);exact rfl;exact aT;exact rfl;exact inferInstance;(with_reducible assumption);(with_reducible assumption);exact rfl)
 | ((with_reducible apply Axd);exact rfl;exact aT;exact inferInstance;exact inferInstance)
 | ((with_reducible apply Atn);exact rfl;exact inferInstance)
 | ((with_reducible apply Az6);exact rfl;exact rfl;(first | (with_reducible assumption) | exact rfl);exact rfl;exact inferInstance)
 | ((with_reducible apply Az7);exact rfl;exact rfl;exact inferInstance;(first | (with_reducible assumption) | exact rfl);exact inferInstance)
 | ((with_reducible apply Afb);exact rfl)
 | ((with_reducible apply Agz);exact rfl)
 | ((with_reducible apply Amc);exact rfl)
 | ((with_reducible apply Aac);exact rfl)
 | ((with_reducible apply Ap4);exact rfl)
 | fail):G:=h
theorem cP1{G:Prop}(h:G:=by first | exact rfl | exact⟨_,_,rfl,hA hw,trivial⟩ | exact⟨_,_,_,_,rfl,hA hw,hA hw,trivial⟩ | exact⟨_,_,_,_,_,_,rfl,hA hw,hA hw,hA hw,trivial⟩ | exact⟨_,_,_,_,_,_,_,_,rfl,hA hw,hA hw,hA hw,hA hw,trivial⟩ | exact⟨_,_,_,_,_,_,_,_,_,_,rfl,hA hw,hA hw,hA hw,hA hw,hA hw,trivial⟩ | exact⟨_,_,_,_,_,_,_,_,_,_,_,_,rfl,hA hw,hA hw,hA hw,hA hw,hA hw,hA hw,trivial⟩ | exact⟨_,_,_,_,_,_,_,_,_,_,_,_,_,_,rfl,hA hw,hA hw,hA hw,hA hw,hA hw,hA hw,hA hw,trivial⟩ | exact⟨_,_,_,_,_,_,_,_,_,_,_,_,_,_,_,_,rfl,hA hw,hA hw,hA hw,hA hw,hA hw,hA hw,hA hw,hA hw,trivial⟩ | exact⟨_,_,_,_,_,_,_,_,_,_,_,_,_,_,_,_,_,_,_,_,_,_,_,_,rfl,hA hw,hA hw,hA hw,hA hw,hA hw,hA hw,hA hw,hA hw,hA hw,hA hw,hA hw,hA hw,trivial⟩ | exact⟨_,_,_,_,_,rfl,hP,hA hw,trivial⟩ | exact⟨_,rfl,hP,trivial⟩ | exact⟨_,_,rfl,hP,trivial⟩ | exact⟨_,_,_,rfl,hP,hA hw,trivial⟩):G:=h
theorem cP{G:Prop}(h:G:=by (intro _ hw;first | exact cP1 | (simp only[Nr,Dh,Kn];exact cP1))):G:=h
theorem cB1{G:Prop}(h:G:=by first | exact⟨_,_,rfl,hB hw,trivial⟩ | exact⟨_,_,_,_,rfl,(hB hw).inl,(hB hw).inr,trivial⟩ | exact⟨_,_,_,_,_,_,rfl,(hB hw).inl,(hB hw).inl.inr,(hB hw).inr.inr,trivial⟩ | exact⟨_,_,_,_,_,_,_,_,rfl,(hB hw).inl,(hB hw).inl.inr,(hB hw).inl.inr.inr,(hB hw).inr.inr.inr,trivial⟩ | exact rfl):G:=h
theorem cB{G:Prop}(h:G:=by (intro _ hw;first | exact cB1 | (simp only[Nr,Dh,Kn];exact cB1))):G:=h
theorem pre{G G':Prop}(k:G')(h:Wr G'->G:=by
 intro k;have _:Mark:=⟨trivial⟩;have hx:=hx
 repeat1' (first
  | ((with_reducible apply Bbh))
  | ((with_reducible apply Axp))
  | ((with_reducible apply Bbi))
  | ((with_reducible apply Az2);(first
   | ((with_reducible apply Ay);exact evB;exact rfl)
   | ((with_reducible apply Bes);exact rfl;exact aT;exact rfl;(with_reducible assumption);exact rfl;exact rfl;exact (fun _=>rfl);intro _ _ _ _)
   | ((with_reducible apply T_ix);exact rfl;exact rfl;(with_reducible assumption);(with_reducible assumption);exact rfl;intro _ _ _ _)
   | ((with_reducible apply Bae);exact rfl;exact aT;exact rfl;(with_reducible assumption);exact rfl;exact rfl;exact (fun _=>rfl);intro _)
   | ((with_reducible apply Axi);exact rfl;exact rfl;(with_reducible assumption);(with_reducible assumption);exact rfl;intro _)
   | ((with_reducible apply Bdd);exact rfl;exact rfl;(with_reducible assumption);(with_reducible assumption);exact rfl;intro _)
   | ((with_reducible apply Arv);exact rfl;exact rfl;exact rfl;exact rfl;exact rfl)
   | ((with_reducible apply Aa3);exact rfl;exact rfl;exact rfl;exact evB;exact rfl)
   | ((with_reducible apply Aqg);exact rfl;exact rfl;exact rfl;exact rfl)
   | ((with_reducible apply Bc9);exact rfl;exact rfl;exact rfl;exact rfl;exact aT;exact rfl;(with_reducible assumption);exact rfl;exact rfl;exact (fun _=>rfl);intro _ _ _ _)
   | ((with_reducible apply Bbg);exact rfl;exact rfl;exact rfl;exact rfl;exact rfl;(with_reducible assumption);(with_reducible assumption);exact rfl;intro _ _ _ _)
   | ((with_reducible apply Bev);exact rfl;exact rfl;(with_reducible assumption);(with_reducible assumption);exact inferInstance;(with_reducible assumption);exact rfl;(first | rintro _ _ _ ⟨_,_,rfl,_⟩ _ | rintro _ _ _ ⟨_,_,_,_,rfl,_,_⟩ _ | rintro _ _ _ ⟨_,_,_,_,_,_,rfl,_,_,_⟩ _ | rintro _ _ _ ⟨_,_,_,_,_,_,_,_,rfl,_,_,_,_⟩ _))
   | fail))
  | ((with_reducible apply Is_b);(first
   | ((with_reducible apply B_p);exact rfl;exact rfl;exact wW;exact evB;exact rfl)
   | ((with_reducible apply B_q);exact rfl;exact rfl;exact wW;exact evB;exact rfl)
   | ((with_reducible apply Bca);exact rfl;exact rfl;exact rfl;exact rfl;exact rfl;exact rfl;exact rfl)
   | ((with_reducible apply Ay2);exact rfl;exact rfl;exact rfl;exact rfl;exact rfl;exact rfl)
   | ((with_reducible apply Bet);exact rfl;exact rfl;exact wW;exact rfl;exact aT;exact rfl;(with_reducible assumption);exact inferInstance;exact rfl;exact rfl;exact (fun _=>rfl);intro _ _ _ _)
   | ((with_reducible apply B_ix);exact rfl;exact rfl;exact wW;exact rfl;exact rfl;(with_reducible assumption);(with_reducible assumption);exact inferInstance;exact rfl;intro _ _ _ _)
   | ((with_reducible apply B_al);exact rfl;exact rfl;exact inferInstance;exact rfl;intro _)
   | ((with_reducible apply Bew);exact rfl;exact rfl;exact wW;exact rfl;exact rfl;(with_reducible assumption);(with_reducible assumption);exact inferInstance;(with_reducible assumption);exact inferInstance;exact rfl;(first | rintro _ _ _ ⟨_,_,rfl,_⟩ _ | rintro _ _ _ ⟨_,_,_,_,rfl,_,_⟩ _ | rintro _ _ _ ⟨_,_,_,_,_,_,rfl,_,_,_⟩ _ | rintro _ _ _ ⟨_,_,_,_,_,_,_,_,rfl,_,_,_,_⟩ _))
   | fail))
  | ((first | (with_reducible apply T_x) | ((with_reducible apply B_x);exact rfl;exact rfl;exact wW;intro _) | ((with_reducible apply T_xG);exact rfl;exact rfl;exact rfl));(first | ((with_reducible apply Qt);exact rfl;exact rfl;exact rfl;intro _) | ((with_reducible apply Anp);exact rfl;intro _) | ((with_reducible apply Aj2);exact rfl;exact inferInstance;exact rfl;intro _) | ((with_reducible apply Arm);(with_reducible assumption);exact rfl;exact cP;exact rfl;(first | rintro _ _ ⟨rfl,rfl,-⟩;with_reducible apply Acw | rintro _ _ ⟨_,_,rfl,rfl,-⟩;with_reducible apply My | rintro _ _ ⟨_,_,_,_,rfl,rfl,-⟩;with_reducible apply Xb | rintro _ _ ⟨_,_,_,_,_,_,rfl,rfl,-⟩;with_reducible apply Ts | rintro _ _ ⟨_,_,_,_,_,_,_,_,rfl,rfl,-⟩;with_reducible apply Aei | rintro _ _ ⟨_,_,_,_,_,_,_,_,_,_,_,_,rfl,rfl,-⟩;with_reducible apply Au5)) | ((with_reducible apply Anr);(with_reducible assumption);exact rfl;exact rE;exact (fun _=>rfl);exact rfl;exact rfl) | ((with_reducible apply Anq);(with_reducible assumption);exact rfl;exact cB;exact sU;exact rfl;(first | rintro _ _ hlo ⟨_,_,_,rfl,rfl,h⟩ | rintro _ _ hlo ⟨_,_,_,_,_,rfl,rfl,h⟩ | rintro _ _ hlo ⟨_,_,_,_,_,_,_,rfl,rfl,h⟩ | rintro _ _ hlo ⟨_,_,_,_,_,_,_,_,_,rfl,rfl,h⟩);(with_reducible apply My);revert h;(repeat ((with_reducible refine Pa ?_);intro _));(with_reducible refine Pt' ?_);revert hlo;(with_reducible refine Lo1 ?_);intro _) | ((with_reducible apply Axh);exact rfl;exact rfl;exact rfl;(with_reducible assumption);exact rfl;exact rfl;exact (fun _=>rfl);exact rfl;intro _) | ((with_reducible apply Ah7);exact rfl;intro _) | ((with_reducible apply Afq);exact rfl;exact rfl;intro _) | ((with_reducible apply Acv);exact evB;exact rfl)))
  | ((first | (with_reducible apply T_h) | ((with_reducible apply B_h);exact rfl;exact rfl;exact wW));(first | ((with_reducible apply Aj1);exact rfl;exact rfl;(with_reducible assumption);exact rE;(first | exact rfl | (simp only[Nr]));exact rfl;exact inferInstance;exact (fun _=>rfl);exact rfl;exact rfl) | ((with_reducible apply Ad2);exact rfl;exact rfl;exact rfl;exact rfl;exact sA;exact sP;exact rfl;exact rfl) | ((with_reducible apply Arl);exact rfl;exact rfl;exact rE;exact inferInstance;(with_reducible assumption);exact (fun _=>rfl);exact rfl;exact rfl;exact rfl;intro _ _) | ((with_reducible apply Axf);exact rfl;exact rfl;exact rfl;exact rE;exact inferInstance;exact inferInstance;(with_reducible assumption);(with_reducible assumption)) | ((with_reducible apply Axg);exact rfl;exact rfl;exact rE;exact inferInstance;(with_reducible assumption)) | ((with_reducible apply Arp);exact rfl;exact rfl;exact rE;exact aT;exact dL;exact rfl;(with_reducible assumption);exact (fun _=>rfl);exact rfl;exact rfl;exact rfl;intro _ _) | ((with_reducible apply Axk);exact rfl;exact inferInstance;exact rE;(with_reducible assumption);exact rfl) | ((with_reducible apply Ant);(with_reducible assumption);exact rfl;exact shK;exact pK;(intro _ hw;first | exact trivial | exact⟨hB hw,trivial⟩ | exact⟨hB hw,hB hw,trivial⟩);exact sU;exact rfl;(first | rintro _ _ ⟨rfl,rfl,h⟩ | rintro _ _ ⟨_,_,rfl,rfl,h⟩ | rintro _ _ ⟨_,_,_,_,rfl,rfl,h⟩);(first | (with_reducible apply Ts) | (with_reducible apply My) | (with_reducible apply Xb) | (with_reducible apply Aei));revert h;(repeat ((with_reducible refine Pa ?_);intro _));(with_reducible refine Pt' ?_))))
  | ((with_reducible apply Bd4);exact pZ)
  | ((with_reducible apply T_nb))
  | ((fail_if_success (with_reducible (first | have:=Bbf hx | have:=Beo hx)));(with_reducible apply Bdt 9))
  | ((with_reducible apply Bbn))
  | ((with_reducible apply Bai))
  | (with_reducible (refine Bcx hx (by with_reducible assumption) ?_;clear hx;intro _ hx))
  | (with_reducible (replace hx:=Bcy hx (by with_reducible assumption)))
  | ((fail_if_success (with_reducible (have:=Aw6 hx)));(with_reducible apply Bf))
  | ((with_reducible apply Arx);exact rfl)
  | ((with_reducible apply Ary);exact rfl)
  | ((with_reducible apply Axr))
  | ((with_reducible apply Axs))
  | ((with_reducible apply Auz))
  | ((with_reducible apply Auy))
  | ((with_reducible apply Arw))
  | ((with_reducible apply Ba0))
  | ((with_reducible apply Baz))
  | ((with_reducible apply Axq))
  | ((with_reducible apply Axt))
  | ((with_reducible apply Bb9))
  | ((with_reducible apply Bdh);exact rfl)
  | ((with_reducible apply T_dl);(with_reducible assumption);kernel_rfl;kernel_rfl;kernel_rfl;kernel_rfl;exact aL)
  | ((with_reducible apply T_dp);(with_reducible assumption);kernel_rfl;kernel_rfl)
  | (with_reducible (replace hx:=Az1 hx (by with_reducible assumption)))
  | (with_reducible (refine Bag hx ?_;clear hx;intro _ _ _ _ hx))
  | (with_reducible (refine Bcw hx ?_;clear hx;intro _ _ _ hx))
  | (with_reducible (refine Baf hx ?_;clear hx;intro _ _ _ hx))
  | (with_reducible (refine Bah hx ?_;clear hx;intro _ _ _ hx))
  | ((fail_if_success (with_reducible (have:=Bbf hx)));with_reducible (refine Aw5 hx ?_;clear hx;intro _ _ hx))
  | (with_reducible (refine Ben hx ?_;clear hx;intro _ hx))
  | (with_reducible (replace hx:=Bcz hx))
  | (with_reducible (replace hx:=Bc0 hx))
  | (with_reducible (replace hx:=Bbm (by with_reducible assumption) hx);(try dsimp only at hx))
  | fail)
 revert hx
 repeat (rename_i z;revert z;fail_if_success (show Mark->_))
 exact k.out):G:=h ⟨k⟩
theorem au{G:Prop}(h:G:=by
 repeat' first
  | (refine pre ?_;intros;rename_i hx)
  | ((with_reducible apply S_g);exact rfl;(first | (refine Cq1 hx rfl ?_ ?_) | (refine Cq3 hx rfl ?_ ?_) | (refine Cq2 hx rfl ?_ ?_) | (refine Cq4 hx rfl ?_ ?_) | (refine Cq1e hx rfl cQ ?_ ?_)) <;> (clear hx;intro _ hx))
  | ((with_reducible apply S_b);exact rfl;exact rfl;(first | (refine Cb1 hx rfl ?_ ?_) | (refine Cb3 hx rfl ?_ ?_) | (refine Cb2 hx rfl ?_ ?_) | (refine Cb4 hx rfl ?_ ?_)) <;> (clear hx;intro _ hx))
  | ((with_reducible apply Is_p);(first
   | (with_reducible apply Aok)
   | (with_reducible apply Tq)
   | ((with_reducible apply P_p0);exact rfl;exact rfl;exact evB;exact rfl)
   | ((with_reducible apply P_q0);exact rfl;exact rfl;exact evB;exact rfl;exact rfl)
   | ((with_reducible apply P_ix);exact rfl;exact rfl;exact rfl;exact rfl;(with_reducible assumption);(with_reducible assumption);exact inferInstance;exact rfl;intro _ _ _ _)
   | ((with_reducible apply Bex);exact rfl;exact rfl;exact rfl;exact rfl;(with_reducible assumption);(with_reducible assumption);exact inferInstance;(with_reducible assumption);exact inferInstance;exact rfl;(first | rintro _ _ _ ⟨_,_,rfl,_⟩ _ | rintro _ _ _ ⟨_,_,_,_,rfl,_,_⟩ _ | rintro _ _ _ ⟨_,_,_,_,_,_,rfl,_,_,_⟩ _ | rintro _ _ _ ⟨_,_,_,_,_,_,_,_,rfl,_,_,_,_⟩ _))
   | ((with_reducible apply P_x);exact rfl;(first | ((with_reducible apply Qt);exact rfl;exact rfl;exact rfl;intro _) | ((with_reducible apply Anp);exact rfl;intro _) | ((with_reducible apply Aj2);exact rfl;exact inferInstance;exact rfl;intro _) | ((with_reducible apply Arm);(with_reducible assumption);exact rfl;exact cP;exact rfl;(first | rintro _ _ ⟨rfl,rfl,-⟩;with_reducible apply Acw | rintro _ _ ⟨_,_,rfl,rfl,-⟩;with_reducible apply My | rintro _ _ ⟨_,_,_,_,rfl,rfl,-⟩;with_reducible apply Xb | rintro _ _ ⟨_,_,_,_,_,_,rfl,rfl,-⟩;with_reducible apply Ts | rintro _ _ ⟨_,_,_,_,_,_,_,_,rfl,rfl,-⟩;with_reducible apply Aei | rintro _ _ ⟨_,_,_,_,_,_,_,_,_,_,_,_,rfl,rfl,-⟩;with_reducible apply Au5)) | ((with_reducible apply Anr);(with_reducible assumption);exact rfl;exact rE;exact (fun _=>rfl);exact rfl;exact rfl) | ((with_reducible apply Anq);(with_reducible assumption);exact rfl;exact cB;exact sU;exact rfl;(first | rintro _ _ hlo ⟨_,_,_,rfl,rfl,h⟩ | rintro _ _ hlo ⟨_,_,_,_,_,rfl,rfl,h⟩ | rintro _ _ hlo ⟨_,_,_,_,_,_,_,rfl,rfl,h⟩ | rintro _ _ hlo ⟨_,_,_,_,_,_,_,_,_,rfl,rfl,h⟩);(with_reducible apply My);revert h;(repeat ((with_reducible refine Pa ?_);intro _));(with_reducible refine Pt' ?_);revert hlo;(with_reducible refine Lo1 ?_);intro _) | ((with_reducible apply Axh);exact rfl;exact rfl;exact rfl;(with_reducible assumption);exact rfl;exact rfl;exact (fun _=>rfl);exact rfl;intro _) | ((with_reducible apply Ah7);exact rfl;intro _) | ((with_reducible apply Afq);exact rfl;exact rfl;intro _) | ((with_reducible apply Acv);exact evB;exact rfl)))
   | ((with_reducible apply P_h);exact rfl;exact rfl;(first | ((with_reducible apply Aj1);exact rfl;exact rfl;(with_reducible assumption);exact rE;(first | exact rfl | (simp only[Nr]));exact rfl;exact inferInstance;exact (fun _=>rfl);exact rfl;exact rfl) | ((with_reducible apply Ad2);exact rfl;exact rfl;exact rfl;exact rfl;exact sA;exact sP;exact rfl;exact rfl) | ((with_reducible apply Arl);exact rfl;exact rfl;exact rE;exact inferInstance;(with_reducible assumption);exact (fun _=>rfl);exact rfl;exact rfl;exact rfl;intro _ _) | ((with_reducible apply Axf);exact rfl;exact rfl;exact rfl;exact rE;exact inferInstance;exact inferInstance;(with_reducible assumption);(with_reducible assumption)) | ((with_reducible apply Axg);exact rfl;exact rfl;exact rE;exact inferInstance;(with_reducible assumption)) | ((with_reducible apply Arp);exact rfl;exact rfl;exact rE;exact aT;exact dL;exact rfl;(with_reducible assumption);exact (fun _=>rfl);exact rfl;exact rfl;exact rfl;intro _ _) | ((with_reducible apply Axk);exact rfl;exact inferInstance;exact rE;(with_reducible assumption);exact rfl) | ((with_reducible apply Ant);(with_reducible assumption);exact rfl;exact shK;exact pK;(intro _ hw;first | exact trivial | exact⟨hB hw,trivial⟩ | exact⟨hB hw,hB hw,trivial⟩);exact sU;exact rfl;(first | rintro _ _ ⟨rfl,rfl,h⟩ | rintro _ _ ⟨_,_,rfl,rfl,h⟩ | rintro _ _ ⟨_,_,_,_,rfl,rfl,h⟩);(first | (with_reducible apply Ts) | (with_reducible apply My) | (with_reducible apply Xb) | (with_reducible apply Aei));revert h;(repeat ((with_reducible refine Pa ?_);intro _));(with_reducible refine Pt' ?_))))
   | fail))
  | ((with_reducible apply Bf))
  | ((with_reducible apply S_c);(first | (refine Cq1 hx rfl ?_ ?_) | (refine Cq3 hx rfl ?_ ?_) | (refine Cq2 hx rfl ?_ ?_) | (refine Cq4 hx rfl ?_ ?_) | (refine Cq1e hx rfl cQ ?_ ?_)) <;> (clear hx;intro _ hx))
  | (with_reducible (refine Aw5 hx ?_;clear hx;intro _ _ hx))
  | (with_reducible (exact Ayl hx))
  | (with_reducible (replace hx:=Aw6 hx);(try dsimp only at hx))
  | (((with_reducible (have e:=Option.some.inj hx));subst e;(with_reducible apply Ah8);exact rS;(first | exact rP | (simp only[Dh,Kn];exact rP));exact lO;exact pK))
  | (((with_reducible (have e:=Option.some.inj hx));subst e;apply Bh;(with_reducible apply Ah8);exact rS;(first | exact rP | (simp only[Dh,Kn];exact rP));exact lO;exact pK))
  | (((with_reducible (have e:=Option.some.inj hx));subst e;apply Bh;apply Bh;(with_reducible apply Ah8);exact rS;(first | exact rP | (simp only[Dh,Kn];exact rP));exact lO;exact pK))
  | (((with_reducible (have e:=Option.some.inj hx));subst e;apply Bh;apply Bh;apply Bh;(with_reducible apply Ah8);exact rS;(first | exact rP | (simp only[Dh,Kn];exact rP));exact lO;exact pK))
  | (((with_reducible (have e:=Option.some.inj hx));subst e;apply Bh;apply Bh;apply Bh;apply Bh;(with_reducible apply Ah8);exact rS;(first | exact rP | (simp only[Dh,Kn];exact rP));exact lO;exact pK))
  | (((with_reducible (have e:=Option.some.inj hx));subst e;(with_reducible apply Arn);exact rS;(first | exact rPK | (simp only[Dh,Kn];exact rPK));exact pK))
  | (((with_reducible (have e:=Option.some.inj hx));subst e;apply Bh;(with_reducible apply Arn);exact rS;(first | exact rPK | (simp only[Dh,Kn];exact rPK));exact pK))
  | (((with_reducible (have e:=Option.some.inj hx));subst e;(with_reducible apply Aro);exact rS;(first | exact rPK | (simp only[Dh,Kn];exact rPK));exact pK))
  | (((with_reducible (have e:=Option.some.inj hx));subst e;apply Bh;(with_reducible apply Aro);exact rS;(first | exact rPK | (simp only[Dh,Kn];exact rPK));exact pK))
  | (((with_reducible (have e:=Option.some.inj hx));subst e;(with_reducible apply Bdc);exact rS;exact spt;exact lB;intro _ hw;first | exact⟨_,_,_,rfl,rfl,hZ hw,trivial⟩ | exact⟨_,_,_,_,_,rfl,rfl,hZ hw,hZ hw,trivial⟩ | exact⟨_,_,_,_,_,_,_,rfl,rfl,hZ hw,hZ hw,hZ hw,trivial⟩ | exact⟨_,_,_,_,_,_,_,_,_,rfl,rfl,hZ hw,hZ hw,hZ hw,hZ hw,trivial⟩))
  | ((exact Ma _ _ hx trivial sF pK))
  | ((exact Ro _ _ hx trivial sF pK))
  | ((exact Ma _ () hx trivial sF pK))
  | ((exact Ro _ () hx trivial sF pK))
  | ((apply Ma _ (_,_) hx trivial;(dsimp only;exact sF);(dsimp only;exact pK)))
  | ((apply Bh;apply Ma _ (_,_) hx trivial;(dsimp only;exact sF);(dsimp only;exact pK)))
  | ((apply Bh;apply Bh;apply Ma _ (_,_) hx trivial;(dsimp only;exact sF);(dsimp only;exact pK)))
  | ((apply Ro _ (_,_) hx trivial;(dsimp only;exact sF);(dsimp only;exact pK)))
  | ((apply Bh;apply Ro _ (_,_) hx trivial;(dsimp only;exact sF);(dsimp only;exact pK)))
  | ((apply Bh;apply Bh;apply Ro _ (_,_) hx trivial;(dsimp only;exact sF);(dsimp only;exact pK)))
  | ((apply Ma _ (_,_,_) hx trivial;(dsimp only;exact sF);(dsimp only;exact pK)))
  | ((apply Bh;apply Ma _ (_,_,_) hx trivial;(dsimp only;exact sF);(dsimp only;exact pK)))
  | ((apply Bh;apply Bh;apply Ma _ (_,_,_) hx trivial;(dsimp only;exact sF);(dsimp only;exact pK)))
  | ((apply Ro _ (_,_,_) hx trivial;(dsimp only;exact sF);(dsimp only;exact pK)))
  | ((apply Bh;apply Ro _ (_,_,_) hx trivial;(dsimp only;exact sF);(dsimp only;exact pK)))
  | ((apply Bh;apply Bh;apply Ro _ (_,_,_) hx trivial;(dsimp only;exact sF);(dsimp only;exact pK)))
  | ((apply Ma _ (_,_,_,_) hx trivial;(dsimp only;exact sF);(dsimp only;exact pK)))
  | ((apply Bh;apply Ma _ (_,_,_,_) hx trivial;(dsimp only;exact sF);(dsimp only;exact pK)))
  | ((apply Bh;apply Bh;apply Ma _ (_,_,_,_) hx trivial;(dsimp only;exact sF);(dsimp only;exact pK)))
  | ((apply Ro _ (_,_,_,_) hx trivial;(dsimp only;exact sF);(dsimp only;exact pK)))
  | ((apply Bh;apply Ro _ (_,_,_,_) hx trivial;(dsimp only;exact sF);(dsimp only;exact pK)))
  | ((apply Bh;apply Bh;apply Ro _ (_,_,_,_) hx trivial;(dsimp only;exact sF);(dsimp only;exact pK)))
  | ((apply Ma _ (_,_,_,_,_) hx trivial;(dsimp only;exact sF);(dsimp only;exact pK)))
  | ((apply Bh;apply Ma _ (_,_,_,_,_) hx trivial;(dsimp only;exact sF);(dsimp only;exact pK)))
  | ((apply Bh;apply Bh;apply Ma _ (_,_,_,_,_) hx trivial;(dsimp only;exact sF);(dsimp only;exact pK)))
  | ((apply Ro _ (_,_,_,_,_) hx trivial;(dsimp only;exact sF);(dsimp only;exact pK)))
  | ((apply Bh;apply Ro _ (_,_,_,_,_) hx trivial;(dsimp only;exact sF);(dsimp only;exact pK)))
  | ((apply Bh;apply Bh;apply Ro _ (_,_,_,_,_) hx trivial;(dsimp only;exact sF);(dsimp only;exact pK)))
  | ((apply Ma _ (_,_,_,_,_,_) hx trivial;(dsimp only;exact sF);(dsimp only;exact pK)))
  | ((apply Bh;apply Ma _ (_,_,_,_,_,_) hx trivial;(dsimp only;exact sF);(dsimp only;exact pK)))
  | ((apply Bh;apply Bh;apply Ma _ (_,_,_,_,_,_) hx trivial;(dsimp only;exact sF);(dsimp only;exact pK)))
  | ((apply Ro _ (_,_,_,_,_,_) hx trivial;(dsimp only;exact sF);(dsimp only;exact pK)))
  | ((apply Bh;apply Ro _ (_,_,_,_,_,_) hx trivial;(dsimp only;exact sF);(dsimp only;exact pK)))
  | ((apply Bh;apply Bh;apply Ro _ (_,_,_,_,_,_) hx trivial;(dsimp only;exact sF);(dsimp only;exact pK)))
  | ((apply Ma _ (_,_,_,_,_,_,_,_,_,_) hx trivial;(dsimp only;exact sF);(dsimp only;exact pK)))
  | ((apply Ro _ (_,_,_,_,_,_,_,_,_,_) hx trivial;(dsimp only;exact sF);(dsimp only;exact pK)))
  | (((with_reducible apply MaG _ (_,_) hx);exact sF2;exact gG;exact pK2))
  | ((refine Bh 0 1 ?_;(with_reducible apply MaG _ (_,_) hx);exact sF2;exact gG2;exact pK2))
  | (((with_reducible apply RoG _ (_,_) hx);exact sF2;exact gG;exact pK2))
  | ((refine Bh 0 1 ?_;(with_reducible apply RoG _ (_,_) hx);exact sF2;exact gG2;exact pK2))
  | (((with_reducible apply MaG _ (_,_,_) hx);exact sF2;exact gG;exact pK2))
  | ((refine Bh 0 1 ?_;(with_reducible apply MaG _ (_,_,_) hx);exact sF2;exact gG2;exact pK2))
  | (((with_reducible apply RoG _ (_,_,_) hx);exact sF2;exact gG;exact pK2))
  | ((refine Bh 0 1 ?_;(with_reducible apply RoG _ (_,_,_) hx);exact sF2;exact gG2;exact pK2))
  | (((with_reducible apply MaG _ (_,_,_,_) hx);exact sF2;exact gG;exact pK2))
  | ((refine Bh 0 1 ?_;(with_reducible apply MaG _ (_,_,_,_) hx);exact sF2;exact gG2;exact pK2))
  | (((with_reducible apply RoG _ (_,_,_,_) hx);exact sF2;exact gG;exact pK2))
  | ((refine Bh 0 1 ?_;(with_reducible apply RoG _ (_,_,_,_) hx);exact sF2;exact gG2;exact pK2))
  | (((with_reducible apply MaG _ (_,_,_,_,_) hx);exact sF2;exact gG;exact pK2))
  | ((refine Bh 0 1 ?_;(with_reducible apply MaG _ (_,_,_,_,_) hx);exact sF2;exact gG2;exact pK2))
  | (((with_reducible apply RoG _ (_,_,_,_,_) hx);exact sF2;exact gG;exact pK2))
  | ((refine Bh 0 1 ?_;(with_reducible apply RoG _ (_,_,_,_,_) hx);exact sF2;exact gG2;exact pK2))
  | (((with_reducible apply MaG _ (_,_,_,_,_,_) hx);exact sF2;exact gG;exact pK2))
  | ((refine Bh 0 1 ?_;(with_reducible apply MaG _ (_,_,_,_,_,_) hx);exact sF2;exact gG2;exact pK2))
  | (((with_reducible apply RoG _ (_,_,_,_,_,_) hx);exact sF2;exact gG;exact pK2))
  | ((refine Bh 0 1 ?_;(with_reducible apply RoG _ (_,_,_,_,_,_) hx);exact sF2;exact gG2;exact pK2))
  | (((with_reducible apply MaG _ (_,_,_,_,_,_,_,_) hx);exact sF2;rotate_left;exact pK2;exact gG))
  | (((with_reducible apply RoG _ (_,_,_,_,_,_,_,_) hx);exact sF2;rotate_left;exact pK2;exact gG))
  | (((with_reducible apply MaG _ (_,_,_,_,_,_,_,_,_,_) hx);exact sF2;rotate_left;exact pK2;exact gG))
  | (((with_reducible apply RoG _ (_,_,_,_,_,_,_,_,_,_) hx);exact sF2;rotate_left;exact pK2;exact gG))
  | ((refine Zw _ (_,_) hx (by with_reducible assumption) (by with_reducible assumption) rfl trivial (by exact sF2) (by exact pK2)))
  | ((refine Zw _ (_,_,_) hx (by with_reducible assumption) (by with_reducible assumption) rfl trivial (by exact sF2) (by exact pK2)))
  | ((refine Zw _ (_,_,_,_) hx (by with_reducible assumption) (by with_reducible assumption) rfl trivial (by exact sF2) (by exact pK2)))
  | ((refine Zw _ (_,_,_,_,_) hx (by with_reducible assumption) (by with_reducible assumption) rfl trivial (by exact sF2) (by exact pK2)))
  | ((refine Zw _ (_,_,_,_,_,_) hx (by with_reducible assumption) (by with_reducible assumption) rfl trivial (by exact sF2) (by exact pK2)))
  | ((exact Ma _ _ hx trivial sF2 pK2))
  | ((exact Ro _ _ hx trivial sF2 pK2))
  | ((exact Ma _ () hx trivial sF2 pK2))
  | ((exact Ro _ () hx trivial sF2 pK2))
  | ((apply Ma _ (_,_) hx trivial;(dsimp only;exact sF2);(dsimp only;exact pK2)))
  | ((apply Ro _ (_,_) hx trivial;(dsimp only;exact sF2);(dsimp only;exact pK2)))
  | ((apply Ma _ (_,_,_) hx trivial;(dsimp only;exact sF2);(dsimp only;exact pK2)))
  | ((apply Ro _ (_,_,_) hx trivial;(dsimp only;exact sF2);(dsimp only;exact pK2)))
  | ((apply Ma _ (_,_,_,_) hx trivial;(dsimp only;exact sF2);(dsimp only;exact pK2)))
  | ((apply Ro _ (_,_,_,_) hx trivial;(dsimp only;exact sF2);(dsimp only;exact pK2)))
  | ((apply Ma _ (_,_,_,_,_) hx trivial;(dsimp only;exact sF2);(dsimp only;exact pK2)))
  | ((apply Ro _ (_,_,_,_,_) hx trivial;(dsimp only;exact sF2);(dsimp only;exact pK2)))
  | ((apply Ma _ (_,_,_,_,_,_) hx trivial;(dsimp only;exact sF2);(dsimp only;exact pK2)))
  | ((apply Ro _ (_,_,_,_,_,_) hx trivial;(dsimp only;exact sF2);(dsimp only;exact pK2)))
  | (((with_reducible apply Ra);exact aT;exact rfl;exact (fun _=>rfl);intro _;(with_reducible apply RoG _ (_,_) hx);exact sF2;rotate_left;exact pK2;exact gG))
  | (((with_reducible apply Ra);exact aT;exact rfl;exact (fun _=>rfl);intro _;(with_reducible apply MaG _ (_,_) hx);exact sF2;rotate_left;exact pK2;exact gG))
  | (((with_reducible apply Ra);exact aT;exact rfl;exact (fun _=>rfl);intro _;(with_reducible apply RoG _ (_,_,_) hx);exact sF2;rotate_left;exact pK2;exact gG))
  | (((with_reducible apply Ra);exact aT;exact rfl;exact (fun _=>rfl);intro _;(with_reducible apply MaG _ (_,_,_) hx);exact sF2;rotate_left;exact pK2;exact gG))
  | (((with_reducible apply Ra);exact aT;exact rfl;exact (fun _=>rfl);intro _;(with_reducible apply RoG _ (_,_,_,_) hx);exact sF2;rotate_left;exact pK2;exact gG))
  | (((with_reducible apply Ra);exact aT;exact rfl;exact (fun _=>rfl);intro _;(with_reducible apply MaG _ (_,_,_,_) hx);exact sF2;rotate_left;exact pK2;exact gG))
  | fail):G:=h
end Go.Proofs.YthlkpgdfifnagaaGreat
