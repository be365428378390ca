import Derived.Test.YtlejkgngmjchdaaGreatDraw2
set_option maxRecDepth 100000
namespace Go.Proofs.YtlejkgngmjchdaaGreat
open Go Go.RowKit
class Dz(P:Program)(s:TypeId)(f:Nat)(off:outParam Nat):Prop where
 h:Rt P s f off
class OneI(P:Program)(t:TypeId):Prop where
 h:Ud P t
class AggI(P:Program)(t:TypeId)(k:outParam Nat):Prop where
 h:Uc P t k
class Lj(P:Program)(t:TypeId)(e sz:outParam Nat):Prop where
 h:Mi P t e sz
class Zm(P:Program)(t:TypeId)(e sz bytes:outParam Nat):Prop where
 h:Yq P t e sz bytes
class Sd(P:Program)(t:TypeId)(cs:outParam LV):Prop where
 h:Wo P t cs
class Jg(P:Program)(t:TypeId)(ps:lF)(cs:outParam LV):Prop where
 h:Ac4 P t ps cs
class Kg(P:Program)(t:TypeId)(len:Nat)(ps:lF)(e:outParam TypeId)(cs:outParam LV):Prop where
 h:Ot P t len ps e cs
class Aje(P:Program)(s:TypeId)(xs:LV)(f:Nat)(v:outParam Value):Prop where
 h:Axn P s xs f v
class UndI(P:Program)(t:TypeId)(u:outParam TypeDesc):Prop where
 h:P.underlying t=some u
class EqSI(P:Program)(t:TypeId)(xs ys:LV)(r:outParam Bool):Prop where
 h:∀w,(Op.equalIn 10000 t (.agg xs.toArray) (.agg ys.toArray)).run P w=.ok r w
 g:P.eqGuardType P.depth t=false
class ArrI(P:Program)(t:TypeId)(m sz:outParam Nat):Prop where
 h:Ahl P t m sz
class MixI(P:Program):Prop where
 h:P.follows .mixedOrders=true
class EncI(t:TypeId){α:outParam Type}(enc:outParam (α->LV)):Prop where
 h:True
class DecI{α:Type}(enc:α->LV)(cs:LV)(x:outParam α):Prop where
 h:cs=enc x
class Zn{α:Type}(ve:α->Value)(v:Value)(x:outParam α):Prop where
 h:v=ve x
class KeyI(P:Program)(k:TypeId){κ:outParam Type}(ke:outParam (κ->Value))(rng:outParam (κ->Prop)):Prop where
 h:Maps.Keyed P k
 inj:∀x y,ke x=ke y->x=y
 isk:∀x,rng x->(keyOf P k (ke x)).isSome=true
class ValI(P:Program)(e:TypeId){υ:outParam Type}(ve:outParam (υ->Value))(z0:outParam υ):Prop where
 inj:∀x y,ve x=ve y->x=y
 z:∀w,(zeroValue e).run P w=.ok (ve z0) w
class MkI(P:Program)(t:TypeId)(e sz bytes:outParam Nat){α:outParam Type}(enc:outParam (α->LV))(x0:outParam α):Prop where
 h:∃i z,P.underlying t=some (.slice e)/\P.info? e=some i/\i.zero=some z/\enc x0=z.cells.toList/\i.size=sz/\i.bytes=bytes
class IdxVI(P:Program)(t:TypeId)(xs:LV):Prop where
 h:Bcu P t xs
class Az4(P:Program)(t:TypeId)(xs:LV){α:outParam Type}(f:outParam (α->Value))(ys:outParam (List α)):Prop where
 h:Aks P t xs (ys.map f)
class UnfI{α:Type}(f:α->Value)(x:α)(v:outParam Value):Prop where
 h:f x=v
class ResI(fn:Func)(rs:outParam (List ResultVar)):Prop where
 h:fn.results=rs.toArray
class Con{ρ:Type}(F:Option ρ)(P:outParam Program)(f:outParam FuncId)(Pre:outParam (LE->LV->Prop))(Post:outParam (LE->ρ->Value->LE->Prop)):Prop where
 h:∀K vs r,Pre K vs->F=some r->∀w,(∀e∈K,Ent.ok w e)->CtL P f vs w (Post K r)
structure Cn(P:Program)(f:FuncId)(Pre:LE->LV->Prop)(Post:LE->Value->LE->Prop):Prop where
 h:∀K vs,Pre K vs->∀w,(∀e∈K,Ent.ok w e)->CtL P f vs w (Post K)
theorem cn{ρ:Type}{F:Option ρ}{P:Program}{f:FuncId}{Pre:LE->LV->Prop}{Post:LE->ρ->Value->LE->Prop}[hc:Con F P f Pre Post]{r:ρ}(h:F=some r):Cn P f Pre (fun K=>Post K r):=⟨fun K vs hp w hK=>hc.h K vs r hp h w hK⟩
class SzI(P:Program)(t:TypeId)(k:outParam Nat):Prop where
 h:∀w,(sizeOf t).run P w=.ok k w
instance{P t}[h:OneI P t]:SzI P t 1:=⟨h.h.2⟩
instance{P t k}[h:AggI P t k]:SzI P t k:=⟨h.h.2⟩
theorem Ax9{α ρ:Type}{o:Option α}{k:α->Option ρ}{x:α}{r:Option ρ}(h:bnd o k=r)(hx:o=some x):k x=r:=by subst hx;exact h
theorem At4{α ρ:Type}{o:Option α}{k:α->Option ρ}{r:ρ}{G:Prop}(h:bnd o k=some r)(K:∀x,o=some x->k x=some r->G):G:=let ⟨x,h1,h2⟩:=Aq h;K x h1 h2
theorem Bay{α ρ:Type}{o:Option α}{P:Program}{f:FuncId}{Pre:LE->LV->Prop}{Post:LE->α->Value->LE->Prop}[hc:Con o P f Pre Post]{k:α->Option ρ}{r:ρ}{G:Prop}(h:bnd o k=some r)(K:∀x,o=some x->Cn P f Pre (fun K=>Post K x)->k x=some r->G):G:=let ⟨x,h1,h2⟩:=Aq h;K x h1 (cn h1) h2
theorem Baz{α ρ:Type}{o:Option α}{P:Program}{f:FuncId}{Pre:LE->LV->Prop}{Post:LE->α->Value->LE->Prop}[hc:Con o P f Pre Post]{k:α->Option ρ}{r:Option ρ}{x:α}{G:Prop}(h:bnd o k=r)(hx:o=some x)(K:Cn P f Pre (fun K=>Post K x)->k x=r->G):G:=by subst hx;exact K (cn rfl) h
theorem Ba0{ρ:Type}{p:Prop}[Decidable p]{k:Option ρ}{r:ρ}(h:gd p k=some r)(_:p):k=some r:=(Dv h).2
theorem Bc0{ρ:Type}{p:Prop}[Decidable p]{k:Option ρ}{r:ρ}{G:Prop}(h:gd p k=some r)(K:p->k=some r->G):G:=let ⟨h1,h2⟩:=Dv h;K h1 h2
theorem Az5{σ τ ρ:Type}{B:σ->Option (Sum σ τ)}{s:σ}{K:τ->Option ρ}{r:Option ρ}(_:bnd (lfix B s) K=r):True:=trivial
theorem Bc1{κ υ σ τ:Type}{BN:σ->Option (Sum σ τ)}{BS:σ->κ×υ->Option (Sum σ τ)}{m:List (κ×υ)}{s:σ}{r:Option τ}(_:mfix BN BS m s=r):True:=trivial
theorem At5{τ ρ:Type}{k:τ->Option ρ}{x:(τ->Option ρ)->Option ρ}{r:Option ρ}(h:jn k x=r):x k=r:=h
theorem Ba1{ρ:Type}[Decidable (true=true)]{a b:Option ρ}{r:Option ρ}(h:(if true=true then a else b)=r):a=r:=by rw[iP rfl] at h;exact h
theorem Ba2{ρ:Type}[Decidable (false=true)]{a b:Option ρ}{r:Option ρ}(h:(if false=true then a else b)=r):b=r:=by rw[iN Bool.false_ne_true] at h;exact h
structure Mark:Prop where
 h:True
structure Wr(G:Prop):Prop where
 out:G
section
variable {P:Program}{n:Nat}{ops:Array Oper}{Q:Exit->AW}{fr:lF}{L:LE}{rest:List Oper}{N:AW}{d i:Nat}{op:Op}{dst:Option Tmp}{ty:TypeId}{pos:String}{after:AE}{guard:ON}{cls:Cls}{A0:LL}{RL:LM}{R:World->Prop}{p alt:Plan}{os:LM}{guard':ON}
theorem Aya{o:Oper}(h:T n (wpList P ops Q (o::rest)) fr L):T n (wpList P ops Q (o::rest)) fr L:=h
theorem Is_b(h:PB P ops Q cls n (i::os) fr L):PB P ops Q cls n (i::os) fr L:=h
theorem Ayb{t x v}(h:Ev P n ⟨dst,.load t x,ty,pos,after,guard⟩ fr L v):Ev P n ⟨dst,.load t x,ty,pos,after,guard⟩ fr L v:=h
theorem Ba3{o t x y u v}(h:Ev P n ⟨dst,.binOp o t x y u,ty,pos,after,guard⟩ fr L v):Ev P n ⟨dst,.binOp o t x y u,ty,pos,after,guard⟩ fr L v:=h
theorem Ayc{t x y v}(h:Ev P n ⟨dst,.convert t x y,ty,pos,after,guard⟩ fr L v):Ev P n ⟨dst,.convert t x y,ty,pos,after,guard⟩ fr L v:=h
theorem Ayd{c v}(h:Ev P n ⟨dst,.call c,ty,pos,after,guard⟩ fr L v):Ev P n ⟨dst,.call c,ty,pos,after,guard⟩ fr L v:=h
inductive AtE:LE->Ent->Prop
 |here {e L}:AtE (e::L) e
 |there {x e L}:AtE L e->AtE (x::L) e
theorem AtE.nth{L e}(h:AtE L e):∃i,nthE L i=some e:=by
 induction h with
 |here=>exact⟨0,rfl⟩
 |there _ ih=>obtain⟨i,hi⟩:=ih;exact⟨i+1,hi⟩
theorem At6{s x f off b o}[hf:Dz P s f off](hx:evo fr x=some (.pointer (some ⟨b,o,none⟩))):Ev P n ⟨dst,.fieldAddr s x f,ty,pos,after,guard⟩ fr L (.pointer (some ⟨b,o+off,none⟩)):=Ez hx hf.h rfl
theorem At7{x g o t cs v ty'}[ht:OneI P ty'](hx:evo fr x=some (.pointer (some ⟨g,o,none⟩)))(hi:AtE L (.m g t cs))(hv:nth cs o=some v):Ev P n ⟨dst,.load ty' x,ty,pos,after,guard⟩ fr L v:=by
 obtain⟨_,hi⟩:=hi.nth;exact Dm hx hi hv ht.h
theorem At8{x g o t cs vs k ty'}[ht:AggI P ty' k](hx:evo fr x=some (.pointer (some ⟨g,o,none⟩)))(hi:AtE L (.m g t cs))(hv:Aaa cs o k=some vs):Ev P n ⟨dst,.load ty' x,ty,pos,after,guard⟩ fr L (.agg vs.toArray):=by
 obtain⟨_,hi⟩:=hi.nth;exact Nw hx hi hv ht.h
theorem Bc2{x b o ys v K ty'}[ht:OneI P ty'](hx:evo fr x=some (.pointer (some ⟨b,o,none⟩)))(hp:Pt K b o ys)(hK:SubE K L)(hv:nth ys 0=some v):Ev P n ⟨dst,.load ty' x,ty,pos,after,guard⟩ fr L v:=Cd hx hp hK hv ht.h
theorem Bc3{x b o ys v K ty'}{q:Nat}[ht:OneI P ty'](hx:evo fr x=some (.pointer (some ⟨b,o+q,none⟩)))(hp:Pt K b o ys)(hK:SubE K L)(hv:nth ys q=some v):Ev P n ⟨dst,.load ty' x,ty,pos,after,guard⟩ fr L v:=Aiv hx hp hK hv ht.h
theorem Ba4{x b o ys vs k K ty'}[ht:AggI P ty' k](hx:evo fr x=some (.pointer (some ⟨b,o,none⟩)))(hp:Pt K b o ys)(hK:SubE K L)(hv:Aaa ys 0 k=some vs):Ev P n ⟨dst,.load ty' x,ty,pos,after,guard⟩ fr L (.agg vs.toArray):=Yp hx hp hK hv ht.h
theorem Ang{x i v}{l:LV}(hx:evo fr x=some (.tuple l.toArray))(hv:nth l i=some v):Ev P n ⟨dst,.extract x i,ty,pos,after,guard⟩ fr L v:=Ag6 hx (by rw[Akb] at hv;simpa using hv)
theorem Aye{α:Type}{f:α->Value}{t:TypeId}{x i:Operand}{k:IntKind}{xs:LV}{ys:List α}{z:Int}{v:α}{v':Value}(hx:evo fr x=some (.agg xs.toArray))(hi:evo fr i=some (.int k z))(hV:Az4 P t xs f ys)(hz:idx ys z=some v)(hv:UnfI f v v'):Ev P n ⟨dst,.index t x i,ty,pos,after,guard⟩ fr L v':=Aot hx rfl hi hV.h hz hv.h
theorem Ayf{t t':TypeId}{x y:Operand}{a b c:Int}(hx:evo fr x=some (.int .i64 a))(hy:evo fr y=some (.int .i64 b))(h:Ag4 a b c):Ev P n ⟨dst,.binOp .add t x y t',ty,pos,after,guard⟩ fr L (.int .i64 c):=Azj hx hy h.h
theorem Ba5{t x A m c e ty'}[ht:UndI P t (.slice e)](hx:evo fr x=some (.slice A m c)):Ev P n ⟨dst,.call ⟨.builtin .len,#[x],#[t]⟩,ty',pos,after,guard⟩ fr L (.int .i64 ((m:Nat):Int)):=Gf hx e ht.h
theorem At9{t xs ps cs}(hx:evps fr xs=some ps)(hb:Jg P t ps cs):Ev P n ⟨dst,.build t xs.toArray,ty,pos,after,guard⟩ fr L (.agg cs.toArray):=Aab hx hb.h
theorem Arq{s x xs f v}(hx:evo fr x=some (.agg xs.toArray))(hf:Aje P s xs f v):Ev P n ⟨dst,.field s x f,ty,pos,after,guard⟩ fr L v:=As4 hx hf.h
theorem Ba6{t t' x y xs ys r}(hx:evo fr x=some (.agg xs.toArray))(hy:evo fr y=some (.agg ys.toArray))(h:EqSI P t xs ys r):Ev P n ⟨dst,.binOp .eql t x y t',ty,pos,after,guard⟩ fr L (.bool r):=Ax3 hx hy h.g h.h
theorem Ba7{t t' x y xs ys r}(hx:evo fr x=some (.agg xs.toArray))(hy:evo fr y=some (.agg ys.toArray))(h:EqSI P t xs ys r):Ev P n ⟨dst,.binOp .neq t x y t',ty,pos,after,guard⟩ fr L (.bool (!r)):=Ax4 hx hy h.g h.h
theorem Ba8{t t' x y a b}[h:UndI P t .bool](hx:evo fr x=some (.bool a))(hy:evo fr y=some (.bool b)):Ev P n ⟨dst,.binOp .eql t x y t',ty,pos,after,guard⟩ fr L (.bool (a==b)):=Azk hx hy h.h
theorem Ba9{t t' x y a b}[h:UndI P t .bool](hx:evo fr x=some (.bool a))(hy:evo fr y=some (.bool b)):Ev P n ⟨dst,.binOp .neq t x y t',ty,pos,after,guard⟩ fr L (.bool (!(a==b))):=Azl hx hy h.h
theorem Bba{src dt x k v u}[hs:UndI P src u][hd:UndI P dt (.int .i64)](hx:evo fr x=some (.int k v)):Ev P n ⟨dst,.convert src dt x,ty,pos,after,guard⟩ fr L (.int .i64 (w64 v)):=Ue hx (by rw[hs.h];rfl) hd.h
theorem Ayg{src dt x k v u}[hs:UndI P src u][hd:UndI P dt (.int .u64)](hx:evo fr x=some (.int k v)):Ev P n ⟨dst,.convert src dt x,ty,pos,after,guard⟩ fr L (.int .u64 (wu64 v)):=Dq hx (by rw[hs.h];rfl) hd.h
theorem Ayh{src dt x k v u}[hs:UndI P src u][hd:UndI P dt (.int .u32)](hx:evo fr x=some (.int k v)):Ev P n ⟨dst,.convert src dt x,ty,pos,after,guard⟩ fr L (.int .u32 (wu32 v)):=Nb hx (by rw[hs.h];rfl) hd.h
structure IxAt(A:OA)(m:Nat)(z:Int)(sz b o:Nat):Prop where
 h:∃o0 j:Nat,A=some ⟨b,o0,none⟩/\z=(j:Int)/\j<m/\o=o0+j*sz
theorem Aua{α:Type}{KK:List Ent}{A m c sz}{enc:α->List Value}{l:List α}{x ix:Operand}{kd:IntKind}{z:Int}{x0:α}{t e:TypeId}(hx:evo fr x=some (.slice A m c))(hix:evo fr ix=some (.int kd z))(hs:Has KK A m c sz enc l)(hi:idx l z=some x0)(ht:Mi P t e sz):
  ∃b o,(∀{dst:Option Tmp} {ty:TypeId} {pos:String} {after:AE} {guard:ON} L,Ev P n ⟨dst,.indexAddr t x ix,ty,pos,after,guard⟩ fr L (.pointer (some ⟨b,o,none⟩)))/\Pt KK b o (enc x0)/\IxAt A m z sz b o:=by
 obtain⟨b,o,j,hA,hj,hl,hp⟩:=hs.at_idx hi;exact⟨b,o+j*sz,fun L=>By hx hix hA (j:=j) hj hl ht,hp,⟨o,j,hA,hj,hl,rfl⟩⟩
section
variable {α:Type}{KK:LE}{A:OA}{m c sz:Nat}{enc:α->LV}{l:List α}{x ix:Operand}{kd:IntKind}{z:Int}{x0:α}{t e:TypeId}
theorem T_ix [ht:Lj P t e sz](hx:evo fr x=some (.slice A m c))(hix:evo fr ix=some (.int kd z))(hs:Has KK A m c sz enc l)(hi:idx l z=some x0)(hd:Nat.blt d n=true)(k:∀b o,Pt KK b o (enc x0)->IxAt A m z sz b o->T n (wpList P ops Q rest) ((d,.pointer (some ⟨b,o,none⟩))::fr) L):T n (wpList P ops Q (⟨some d,.indexAddr t x ix,ty,pos,after,none⟩ :: rest)) fr L:=by
 obtain⟨b,o,h1,h2,h3⟩:=Aua (P:=P) (n:=n) hx hix hs hi ht.h;exact Ay (h1 L) hd (k b o h2 h3)
theorem Az6{j s:Nat}{b0:Bool}[ht:Lj P t e sz](hj:(ops[j]?).bind (·.dst)=some s)(hg:look fr s=some (.bool b0))(hsn:Nat.blt s n=true)(hx:evo fr x=some (.slice A m c))(hix:evo fr ix=some (.int kd z))(hs:Has KK A m c sz enc l)(hi:idx l z=some x0)(hd:Nat.blt d n=true)(k:∀b o,Pt KK b o (enc x0)->IxAt A m z sz b o->T n (wpList P ops Q rest) ((d,.pointer (some ⟨b,o,none⟩))::fr) L):T n (wpList P ops Q (⟨some d,.indexAddr t x ix,ty,pos,after,some (j,b0)⟩ :: rest)) fr L:=by
 obtain⟨b,o,h1,h2,h3⟩:=Aua (P:=P) (n:=n) hx hix hs hi ht.h;exact Pv hj hg hsn (h1 L) hd (k b o h2 h3)
theorem B_ix(hc:Nat.beq (cls.getD i 9) 0=true)(ho:ops[i]? = some ⟨some d,.indexAddr t x ix,ty,pos,after,guard⟩)(hg:Vo ops n fr guard)(hx:evo fr x=some (.slice A m c))(hix:evo fr ix=some (.int kd z))(hs:Has KK A m c sz enc l)(hi:idx l z=some x0)(ht:Lj P t e sz)(hd:Nat.blt d n=true)(k:∀b o,Pt KK b o (enc x0)->IxAt A m z sz b o->PB P ops Q cls n os ((d,.pointer (some ⟨b,o,none⟩))::fr) L):PB P ops Q cls n (i::os) fr L:=by
 obtain⟨b,o,h1,h2,h3⟩:=Aua (P:=P) (n:=n) hx hix hs hi ht.h;exact B_p hc ho hg (h1 []) hd (k b o h2 h3)
theorem Rb{r:TypeId}(hc:Nat.beq (cls.getD i 9) 0=true)(hk:AtE L (.r A m c r sz (l.flatMap enc)))(hz:Nat.blt 0 sz=true)(he:∀x,(enc x).length=sz)(k:Has [.r A m c r sz (l.flatMap enc)] A m c sz enc l->PB P ops Q cls n (i::os) fr L):PB P ops Q cls n (i::os) fr L:=by
 obtain⟨_,hk⟩:=hk.nth;refine Bd8 (by rw[Nat.eq_of_beq_eq_true hc];rfl) fun a w _ hw=>k (Has.ofRow (Nat.le_of_ble_eq_true hz) he (hw.ok _ (Ee hk)))
theorem Ra{r:TypeId}(hk:AtE L (.r A m c r sz (l.flatMap enc)))(hz:Nat.blt 0 sz=true)(he:∀x,(enc x).length=sz)(k:Has [.r A m c r sz (l.flatMap enc)] A m c sz enc l->T n N fr L):T n N fr L:=by
 obtain⟨_,hk⟩:=hk.nth;exact Abt hk (Nat.le_of_ble_eq_true hz) he (fun _ h=>k h)
theorem Bc4{r:TypeId}[ht:Lj P t e sz](hx:evo fr x=some (.slice A m c))(hk:AtE L (.r A m c r sz (l.flatMap enc)))(hix:evo fr ix=some (.int kd z))(hi:idx l z=some x0)(hd:Nat.blt d n=true)(hz:Nat.blt 0 sz=true)(he:∀x,(enc x).length=sz)(k:∀b o,Pt [.r A m c r sz (l.flatMap enc)] b o (enc x0)->IxAt A m z sz b o->T n (wpList P ops Q rest) ((d,.pointer (some ⟨b,o,none⟩))::fr) L):T n (wpList P ops Q (⟨some d,.indexAddr t x ix,ty,pos,after,none⟩ :: rest)) fr L:=Ra hk hz he fun hs=>T_ix hx hix hs hi hd k
theorem Bbb{j s:Nat}{b0:Bool}{r:TypeId}[ht:Lj P t e sz](hj:(ops[j]?).bind (·.dst)=some s)(hg:look fr s=some (.bool b0))(hsn:Nat.blt s n=true)(hx:evo fr x=some (.slice A m c))(hk:AtE L (.r A m c r sz (l.flatMap enc)))(hix:evo fr ix=some (.int kd z))(hi:idx l z=some x0)(hd:Nat.blt d n=true)(hz:Nat.blt 0 sz=true)(he:∀x,(enc x).length=sz)(k:∀b o,Pt [.r A m c r sz (l.flatMap enc)] b o (enc x0)->IxAt A m z sz b o->T n (wpList P ops Q rest) ((d,.pointer (some ⟨b,o,none⟩))::fr) L):T n (wpList P ops Q (⟨some d,.indexAddr t x ix,ty,pos,after,some (j,b0)⟩ :: rest)) fr L:=Ra hk hz he fun hs=>Az6 hj hg hsn hx hix hs hi hd k
theorem Bc5{r:TypeId}(hc:Nat.beq (cls.getD i 9) 0=true)(ho:ops[i]? = some ⟨some d,.indexAddr t x ix,ty,pos,after,guard⟩)(hg:Vo ops n fr guard)(hx:evo fr x=some (.slice A m c))(hk:AtE L (.r A m c r sz (l.flatMap enc)))(hix:evo fr ix=some (.int kd z))(hi:idx l z=some x0)(ht:Lj P t e sz)(hd:Nat.blt d n=true)(hz:Nat.blt 0 sz=true)(he:∀x,(enc x).length=sz)(k:∀b o,Pt [.r A m c r sz (l.flatMap enc)] b o (enc x0)->IxAt A m z sz b o->PB P ops Q cls n os ((d,.pointer (some ⟨b,o,none⟩))::fr) L):PB P ops Q cls n (i::os) fr L:=Rb hc hk hz he fun hs=>B_ix hc ho hg hx hix hs hi ht hd k
end
inductive DecZ(kd:IntKind):LV->LI->Prop
 |nil:DecZ kd [] []
 |cons {x cs ys}:DecZ kd cs ys->DecZ kd (.int kd x::cs) (x::ys)
theorem DecZ.eq{kd cs ys}(h:DecZ kd cs ys):cs=ys.flatMap (fun x=>[Value.int kd x])++[]:=by
 induction h with
 |nil=>rfl
 |cons _ ih=>rw[List.flatMap_cons,List.append_assoc,<-ih];rfl
theorem Ayi{t x ix g o k m sz}{ys:LI}{z v:Int}[ht:ArrI P t m sz](hx:evo fr x=some (.pointer (some ⟨g,o,none⟩)))(hi:evo fr ix=some (.int k z))(hz:idx ys z=some v)(hl:ys.length=m):Ev P n ⟨dst,.indexAddr t x ix,ty,pos,after,guard⟩ fr L (.pointer (some ⟨g,o+z.toNat*sz,none⟩)):=by
 subst hl;exact So hx hi ht.h (Aa5 hz).1 (Aa5 hz).2 rfl
theorem Aub{x g o t cs ty' kd ys}{z v:Int}[ht:OneI P ty'](hx:evo fr x=some (.pointer (some ⟨g,o+z.toNat*1,none⟩)))(hL:AtE L (.m g t cs))(hc:DecZ kd (cs.drop o) ys)(hz:idx ys z=some v):Ev P n ⟨dst,.load ty' x,ty,pos,after,guard⟩ fr L (.int kd v):=by
 obtain⟨_,hL⟩:=hL.nth;exact Axp (fun x=>[Value.int kd x]) hx hL hz hc.eq (fun _=>rfl) rfl ht.h
theorem Ayj{t m sz}{x:Operand}{g o:Nat}[ht:ArrI P t m sz](hx:evo fr x=some (.pointer (some ⟨g,o,none⟩)))(hm:Nat.beq m 0=false):Ev P n ⟨dst,.slice t x none none none,ty,pos,after,guard⟩ fr L (.slice (some ⟨g,o,none⟩) m m):=Azi hx ht.h hm
theorem Bbc{t x ix g o k m sz}{z:Int}[ht:ArrI P t m sz](hx:evo fr x=some (.pointer (some ⟨g,o,none⟩)))(hi:evo fr ix=some (.int k z))(h0:0<=z)(h1:z<(m:Int)){off:Nat}(ho:z.toNat*sz=off):Ev P n ⟨dst,.indexAddr t x ix,ty,pos,after,guard⟩ fr L (.pointer (some ⟨g,o+off,none⟩)):=So hx hi ht.h h0 h1 ho
section
open Maps
variable {κ υ:Type}{ke:κ->Value}{ve:υ->Value}{k e:TypeId}{t:TypeId}{g:Nat}{mo ko vo:Operand}{kv vv:Value}{x:κ}{m:List (κ×υ)}{rng:κ->Prop}{z0:υ}
theorem Auc [hu:UndI P t (.map k e)][hK:KeyI P k ke rng][hV:ValI P e ve z0](hm:evo fr mo=some (.map (some g)))(hL:AtE L (Be P k ke ve g m))(hk:evo fr ko=some kv)(hd:Zn ke kv x)(hr:rng x){u:υ}(hz:some ((mget m x).getD z0)=some u)(hq:vv=ve u):Ev P n ⟨dst,.lookup t mo ko false,ty,pos,after,guard⟩ fr L vv:=by
 obtain⟨_,hL⟩:=hL.nth;exact Agw hK.h hu.h hV.z hK.inj hm hk hd.h hL Si (hK.isk x hr) hz hq
theorem Arr [hu:UndI P t (.map k e)][hK:KeyI P k ke rng][hV:ValI P e ve z0](hm:evo fr mo=some (.map (some g)))(hL:AtE L (Be P k ke ve g m))(hk:evo fr ko=some kv)(hd:Zn ke kv x)(hr:rng x){u:υ}(hz:some ((mget m x).getD z0)=some u)(hq:vv=ve u):Ev P n ⟨dst,.lookup t mo ko true,ty,pos,after,guard⟩ fr L (.tuple #[vv,.bool (mget m x).isSome]):=by
 obtain⟨_,hL⟩:=hL.nth;exact Agx hK.h hu.h hV.z hK.inj hm hk hd.h hL Si (hK.isk x hr) hz hq
theorem Ayk{t':TypeId}[hu:UndI P t (.map k e)](hm:evo fr mo=some (.map (some g)))(hL:AtE L (Be P k ke ve g m)):Ev P n ⟨dst,.call ⟨.builtin .len,#[mo],#[t]⟩,t',pos,after,guard⟩ fr L (.int .i64 (m.length:Int)):=by
 obtain⟨_,hL⟩:=hL.nth;exact Aoh hu.h hm hL Si
theorem Aud{it:Operand}{r:Nat}{l:List (κ×υ)}{p:κ×υ}{uv:Value}(hit:evo fr it=some (.pointer (some ⟨r,0,none⟩)))(hL:AtE L (rngE P k ke ve g r m l (some p)))(hk:UnfI ke p.1 kv)(hv:UnfI ve p.2 uv):Ev P n ⟨dst,.entry it,ty,pos,after,guard⟩ fr L (.tuple #[kv,uv]):=by
 obtain⟨_,hL⟩:=hL.nth;exact Ass hit hL hk.h.symm hv.h.symm
theorem Aue{r:Nat}{l:List (κ×υ)}{c:Option (κ×υ)}[hu:UndI P t (.map k e)][hK:KeyI P k ke rng][hV:ValI P e ve z0](hm:evo fr mo=some (.map (some g)))(hL:AtE L (rngE P k ke ve g r m l c))(hk:evo fr ko=some kv)(hd:Zn ke kv x)(hr:rng x){u:υ}(hz:some ((mget m x).getD z0)=some u)(hq:vv=ve u):Ev P n ⟨dst,.lookup t mo ko true,ty,pos,after,guard⟩ fr L (.tuple #[vv,.bool (mget m x).isSome]):=by
 obtain⟨_,hL⟩:=hL.nth;exact Agx hK.h hu.h hV.z hK.inj hm hk hd.h hL Aoi (hK.isk x hr) hz hq
theorem Af1 [hu:UndI P t (.map k e)][hK:KeyI P k ke rng][hV:ValI P e ve z0](hd:Nat.blt d n=true)(kk:∀g,T n N ((d,.map (some g))::fr) (Be P k ke ve g []::L)):Wx P Q n ⟨some d,.makeMap t none,ty,pos,after,guard⟩ fr L N:=Ama P k ke ve hd kk
end
inductive RepE:LE->Ent->(Ent->LE)->Prop
 |here {e L}:RepE (e::L) e (fun z=>z::L)
 |there {x L e f}:RepE L e f->RepE (x::L) e (fun z=>x::f z)
theorem RepE.of{L e f}(h:RepE L e f):∃i,∀z,SetE L i e z (f z):=by
 induction h with
 |here=>exact⟨0,fun _=>.here⟩
 |there _ ih=>obtain⟨i,hi⟩:=ih;exact⟨i+1,fun z=>.there (hi z)⟩
section
open Maps
variable {κ υ:Type}{ke:κ->Value}{ve:υ->Value}{k e:TypeId}{t:TypeId}{g:Nat}{mo ko vo:Operand}{kv vv:Value}{x:κ}{y:υ}{m:List (κ×υ)}{rng:κ->Prop}
theorem Auf{f:Ent->LE}[hu:UndI P t (.map k e)][hK:KeyI P k ke rng](hm:evo fr mo=some (.map (some g)))(hk:evo fr ko=some kv)(hv:evo fr vo=some vv)(hL:RepE L (Be P k ke ve g m) f)(hd:Zn ke kv x)(hy:Zn ve vv y)(hr:rng x)(hn:m.length<9223372036854775807)(kk:T n N fr (f (Be P k ke ve g (mput m x y)))):Wh P Q n ⟨none,.mapUpdate t mo ko vo,ty,pos,after,guard⟩ fr L N:=by
 obtain⟨_,hL⟩:=hL.of;exact Agy hK.h hK.inj hu.h hm hk hd.h hv hy.h (hL _) (hK.isk x hr) hn kk
theorem Aug{f:Ent->LE}[hu:UndI P t (.map k e)][hK:KeyI P k ke rng](hm:evo fr mo=some (.map (some g)))(hk:evo fr ko=some kv)(hL:RepE L (Be P k ke ve g m) f)(hd:Zn ke kv x)(hr:rng x)(kk:T n N fr (f (Be P k ke ve g (mdel m x)))):Wh P Q n ⟨none,.call ⟨.builtin .delete,#[mo,ko],#[t,k]⟩,ty,pos,after,guard⟩ fr L N:=by
 obtain⟨_,hL⟩:=hL.of;exact Aog hK.h hK.inj hu.h hm hk hd.h (hL _) (hK.isk x hr) kk
end
section
variable {α:Type}{enc:α->LV}{l:List α}{x0:α}{s x:Operand}{t e sz bytes:Nat}{A:OA}{m c g q':Nat}{t':TypeId}{cs:LV}{ty':TypeId}
theorem Ah4{f:Ent->LE}{y:Operand}{z:Int}{o:Nat}{u:α}{v:Value}{vs:LV}[hs:SzI P ty' sz](hx:evo fr x=some (.pointer (some ⟨g,o,none⟩)))(hy:evo fr y=some v)(hI:IxAt A m z sz g o)(hr:RepE L (.r A m c e sz (l.flatMap enc)) f)(hm:l.length=m)(hv:v.cells=vs.toArray)(hdec:DecI enc vs u)(he:∀x,(enc x).length=sz)(hz:Nat.blt 0 sz=true)(h1:Lx vs=true)(k:T n N fr (f (.r A m c e sz ((setI l z u).flatMap enc)))):Wh P Q n ⟨none,.store ty' x y,ty,pos,after,guard⟩ fr L N:=by
 subst hm;obtain⟨i,hr⟩:=hr.of;obtain⟨o0,j,hA,hj,hl,ho⟩:=hI.h;intro a w ha hw;have hok:=hw.ok _ (hr (.r A l.length c e sz ((setI l z u).flatMap enc))).mem;have hA0:∃g,A=some ⟨g,0,none⟩:=by
  obtain⟨_,h⟩:=hok;rcases h with⟨hv,h0⟩|⟨g,cap,cur,hv,_⟩
  .injection hv with h1 h2 h3;omega
  .injection hv with h1 h2 h3;exact⟨g,h1⟩
 obtain⟨g',hA'⟩:=hA0;have e0:g'=g/\0=o0:=by
  rw[hA'] at hA;injection hA with h1;injection h1 with h1 h2 h3
  exact⟨h1,h2⟩
 obtain⟨rfl,rfl⟩:=e0;subst ho;exact Aan enc l z u hx hy (by rw[hv,hdec.h]) (hr _) hA rfl hj hl he (Nat.le_of_ble_eq_true hz) (by rw[<-hdec.h];exact h1) hs.h k a w ha hw
theorem Apf{f:Ent->LE}{L1:LE}[ht:Zm P t e sz bytes](hs:evo fr s=some (.slice A m c))(hx:evo fr x=some (.slice (some ⟨g,0,none⟩) 1 q'))(hr:RepE L1 (.r A m c e sz (l.flatMap enc)) f)(hdec:DecI enc cs x0)(hb:(l.length+1)*bytes<=140737488355328)(he:∀x,(enc x).length=sz)(h1:Lx cs=true)(hd:Nat.blt d n=true)(h0:Nat.blt 0 bytes=true)(k:∀A' c',T n N ((d,.slice A' (l++[x0]).length c')::fr) (f (.r A' (l++[x0]).length c' e sz ((l++[x0]).flatMap enc)))):Wh P Q n ⟨some d,.call ⟨.builtin .append,#[s,x],#[t,t]⟩,ty',pos,after,guard⟩ fr (.m g t' cs::L1) N:=by
 obtain⟨_,hr⟩:=hr.of;exact Rw (i':=0) (L':=fun A' c'=>.m g t' cs::f (.r A' (l++[x0]).length c' e sz ((l++[x0]).flatMap enc))) (L2:=fun A' c'=>f (.r A' (l++[x0]).length c' e sz ((l++[x0]).flatMap enc))) enc l [x0] hs hx rfl ht.h he rfl (by rw[hdec.h];simp) rfl h1 hb hd (fun A' c'=>.there (hr _)) (fun _ _=>.drop .refl) (Nat.le_of_ble_eq_true h0) k
end
section
variable {α:Type}{enc:α->LV}{x0:α}{t e sz bytes:Nat}{x y:Operand}{k1 k2:IntKind}{i1 i2:Int}
theorem Auh [h:MkI P t e sz bytes enc x0](hx:evo fr x=some (.int k1 i1))(hy:evo fr y=some (.int k2 i2))(h1:i1=i2)(hb:0<=i1/\bytes*Int.toNat i1<=140737488355328)(hb0:Nat.blt 0 bytes=true)(hsz:Nat.blt 0 sz=true)(he:∀x,(enc x).length=sz)(hd:Nat.blt d n=true)(k:∀A,T n N ((d,.slice A (List.replicate i1.toNat x0).length (List.replicate i1.toNat x0).length)::fr) (.r A (List.replicate i1.toNat x0).length (List.replicate i1.toNat x0).length e sz ((List.replicate i1.toNat x0).flatMap enc)::L)):Wx P Q n ⟨some d,.makeSlice t x y,ty,pos,after,guard⟩ fr L N:=by
 obtain⟨i,z,ht,hi,hz,hzc,hs,hbb⟩:=h.h;subst hbb;exact Axl enc x0 hx hy h1 hb.1 ht hi hz hzc hs (Nat.le_of_ble_eq_true hsz) he hb.2 (Nat.le_of_ble_eq_true hb0) hd k
end
section
variable {α:Type}{KK:LE}{A:OA}{m c sz:Nat}{enc:α->LV}{l:List α}{x hi lo:Operand}{kd:IntKind}{j:Int}{t e:TypeId}
theorem Aui [ht:Lj P t e sz](hx:evo fr x=some (.slice A m c))(hh:evo fr hi=some (.int kd j))(hs:Has KK A m c sz enc l)(hb:0<=j/\j<=((m:Nat):Int))(hd:Nat.blt d n=true)(k:Has KK A (subl l 0 j).length c sz enc (subl l 0 j)->T n (wpList P ops Q rest) ((d,.slice A (subl l 0 j).length c)::fr) L):T n (wpList P ops Q (⟨some d,.slice t x none (some hi) none,ty,pos,after,none⟩ :: rest)) fr L:=by
 have h1:=hs.subH hb.1 hb.2;have e:=h1.len;exact Ay (by rw[e];exact Ai7 hx hh ht.h hb.1 (by have:=hs.nc;omega)) hd (k h1.len')
theorem Ayl{r:TypeId}[ht:Lj P t e sz](hx:evo fr x=some (.slice A m c))(hk:AtE L (.r A m c r sz (l.flatMap enc)))(hh:evo fr hi=some (.int kd j))(hb:0<=j/\j<=((m:Nat):Int))(hd:Nat.blt d n=true)(hz:Nat.blt 0 sz=true)(he:∀x,(enc x).length=sz)(k:Has [.r A m c r sz (l.flatMap enc)] A (subl l 0 j).length c sz enc (subl l 0 j)->T n (wpList P ops Q rest) ((d,.slice A (subl l 0 j).length c)::fr) L):T n (wpList P ops Q (⟨some d,.slice t x none (some hi) none,ty,pos,after,none⟩ :: rest)) fr L:=Ra hk hz he fun hs=>Aui hx hh hs hb hd k
end
structure DrL(id:Nat)(cls:Cls)(os fs:LM):Prop where
 h:True
theorem dl(id:Nat)(cls:Cls)(os:LM)(fs:LM:=[]):DrL id cls os fs:=⟨trivial⟩
theorem T_dl{id:Nat}{os fs:LM}(h:DrL id cls os fs)[hm:MixI P](hd:Wl ops cls (Abo ops)=true)(hp:Abm ops cls (Abl cls ops.size) os (Array.replicate ops.size false)=true)(h4:Aoe ops cls (Abo ops) (Abl cls ops.size)=true)(hf:Abl cls ops.size=fs)(ha:Zw P ops n fs)(k:PB P ops Q cls n os fr L):T n ((Code.region id ops true).wp P Q) fr L:=by
 subst hf;exact Bd7 cls os hm.h hd hp h4 ha k
theorem Is_p(h:T n (Bo P ops Q cls A0 RL R p) fr L):T n (Bo P ops Q cls A0 RL R p) fr L:=h
theorem P_p0{v:Value}(hc:Nat.beq (cls.getD i 9) 0=true)(ho:ops[i]? = some ⟨some d,op,ty,pos,after,none⟩)(h:Ev P n ⟨some d,op,ty,pos,after,none⟩ fr [] v)(hd:Nat.blt d n=true)(k:T n (Bo P ops Q cls A0 RL R p) ((d,v)::fr) L):T n (Bo P ops Q cls A0 RL R (.q i p)) fr L:=P_p hc ho h hd k
theorem P_q0{v:Value}(hc:Nat.beq (cls.getD i 9) 0=false)(ho:ops[i]? = some ⟨some d,op,ty,pos,after,none⟩)(h:Ev P n ⟨some d,op,ty,pos,after,none⟩ fr L v)(hd:Nat.blt d n=true)(hr:RL.contains i=false)(k:T n (Bo P ops Q cls A0 RL R p) ((d,v)::fr) L):T n (Bo P ops Q cls A0 RL R (.q i p)) fr L:=P_q hc ho h hd k hr
structure DpL(id:Nat)(cls:Cls)(p:Plan):Prop where
 h:True
theorem dp(id:Nat)(cls:Cls)(p:Plan):DpL id cls p:=⟨trivial⟩
theorem T_dp{id:Nat}(h:DpL id cls p)[hm:MixI P](hd:Wl ops cls (Abo ops)=true)(hp:Ig ops cls p (Array.replicate ops.size false) none=true)(k:T n (Bo P ops Q cls (Abo ops) [] (fun _=>True) p) fr L):T n ((Code.region id ops true).wp P Q) fr L:=T_dr cls p hm.h hd hp k
theorem Zw.cc{j d t cs ty pos after r}(h:ops[j]? = some ⟨some d,.alloc t,ty,pos,after,none⟩)(hz:Sd P t cs)(hd:Nat.blt d n=true)(k:Zw P ops n r):Zw P ops n (j::r):=.cons h hz.h hd k
theorem B_al{t:TypeId}{cs:LV}(hc:Nat.beq (cls.getD i 9) 4=true)(ho:ops[i]? = some ⟨some d,.alloc t,ty,pos,after,none⟩)(hz:Sd P t cs)(hd:Nat.blt d n=true)(k:∀g,PB P ops Q cls n os ((d,.pointer (some ⟨g,0,none⟩))::fr) (.m g t cs::L)):PB P ops Q cls n (i::os) fr L:=B_l hc ho hz.h hd k
theorem Ak7{t}{cs:LV}[hz:Sd P t cs](hd:Nat.blt d n=true)(k:∀g,T n N ((d,.pointer (some ⟨g,0,none⟩))::fr) (.m g t cs::L)):Wx P Q n ⟨some d,.alloc t,ty,pos,after,guard⟩ fr L N:=Vr hz.h hd k
theorem Ah5{t len xs ps e}{cs:LV}(hx:evps fr xs=some ps)(hb:Kg P t len ps e cs)(hd:Nat.blt d n=true)(k:∀g,T n N ((d,.slice (some ⟨g,0,none⟩) len len)::fr) (.m g e cs::L)):Wx P Q n ⟨some d,.buildSlice t len xs.toArray,ty,pos,after,guard⟩ fr L N:=Gx hx hb.h hd k
theorem Apg{f:FuncId}{Pre:LE->LV->Prop}{Post:LE->Value->LE->Prop}{xs:List Operand}{vs:LV}{ts:Array TypeId}{ty':TypeId}(hc:Cn P f Pre Post)(hx:evos fr xs=some vs)(hp:∀w,Heap L w->Pre L vs)(hd:Nat.blt d n=true)(k:∀v Ln,Post L v Ln->T n N ((d,v)::fr) (Ln++L)):Wx P Q n ⟨some d,.call ⟨.value (.func f),xs.toArray,ts⟩,ty',pos,after,guard⟩ fr L N:=fun a w ha hw=>Gl hx (fun w1 hw1=>hc.h L vs (hp w1 hw1) w1 hw1.ok) hd (fun v Ln _ hR=>k v Ln hR) a w ha hw
inductive SetA:LE->Ent->Ent->LE->Prop
 |here {e e' L}:SetA (e::L) e e' (e' :: L)
 |there {x L e e' L'}:SetA L e e' L'->SetA (x::L) e e' (x::L')
theorem SetA.of{L e e' L'}(h:SetA L e e' L'):∃i,SetE L i e e' L':=by
 induction h with
 |here=>exact⟨0,.here⟩
 |there _ ih=>obtain⟨i,hi⟩:=ih;exact⟨i+1,.there hi⟩
def Bbd:LV->Bool
 |[]=>false
 |_=>true
theorem Acj{x y g o t cs cs' v vs ty' L' q}[hz:SzI P ty' q](hx:evo fr x=some (.pointer (some ⟨g,o,none⟩)))(hy:evo fr y=some v)(hv:v.cells=vs.toArray)(hq:q=vs.length)(hL:SetA L (.m g t cs) (.m g t cs') L')(hs:Spl cs o vs cs')(h1:Lx vs=true)(h0:Bbd vs=true)(k:T n N fr L'):
  Wh P Q n ⟨none,.store ty' x y,ty,pos,after,guard⟩ fr L N:=by
 obtain⟨_,hL⟩:=hL.of;subst hq;exact Rm hx hy hv hL hs h1 (by rintro rfl;cases h0) hz.h k
def Ends(P:Program)(fn:Func)(rs:List ResultVar)(R:Value->LE->Prop)(w0:World):Exit->AW:=fun e a w=>fn.results=rs.toArray->bodyPost P fn (fun e w'=>∃v Ln,e=.returned v/\R v Ln/\(∀x∈Ln,x.low=0)/\Heap (Ln++[.old w0]) w') e a w
theorem Af2{fn:Func}{R:Value->LE->Prop}{w0:World}{rs vs}{Ln:LE}(h:Res P fr L rs vs)(hR:R (Tb vs) Ln)(hlo:∀x∈Ln,x.low=0)(hs:Ix L (Ln++[.old w0])):T n (Ends P fn rs R w0 .ret) fr L:=fun a w ha hw hr=>Kf hr h hR hlo hs a w ha hw
theorem Res.cellA{t ty g tt cs k rs vs}[ht:AggI P ty k](hx:look fr t=some (.pointer (some ⟨g,0,none⟩)))(hi:AtE L (.m g tt cs))(hk:cs.length=k)(hr:Res P fr L rs vs):Res P fr L (.cell t ty::rs) (.agg cs.toArray::vs):=by
 obtain⟨_,hi⟩:=hi.nth;exact .cell hx hi hk ht.h hr
theorem CtS{f:FuncId}{fn:Func}{c:Code}{vs:LV}{w:World}{R:Value->LE->Prop}{m:Nat}{rs:List ResultVar}{fr0:lF}(hm:fn.ntmps=m)(hr:fn.results=rs.toArray)(k:T m (c.wp P (Ends P fn rs R w)) fr0 [.old w])(hf:P.funcs[f]? = some fn:=by rfl)(hb:fn.body=some c:=by rfl)(hn:(fn.name == "runtime.NumGoroutine")=false:=by kernel_rfl)(hl:Nat.ble vs.length m=true:=by rfl)(hv:Yr vs 0=fr0:=by exact rfl): CtL P f vs w R:=by
 subst hv;exact CtL.mk m hf hb hm hn hl fun a w ha hw=>wp_mono (k a w ha hw) (fun e a' w' h=>h hr)
theorem Has.lo{α:Type}{K:LE}{w:World}{A m c sz}{enc:α->LV}{l:List α}(h:Has K A m c sz enc l)(hK:∀e∈K,Ent.ok w e):Has [.old w] A m c sz enc l:=Has.low (E:=[]) (Has.up0 h) hK
class ConB{ρ:Type}(F:Option ρ)(P:outParam Program)(f:outParam FuncId)(Pre:outParam (LE->LV->Prop))(Post:outParam (LE->ρ->Value->LE->Prop)):Prop where
 h:∀K vs r,Pre K vs->F=some r->∀w,(∀e∈K,Ent.ok w e)->CtL P f vs w (Post K r)
structure CnB(P:Program)(f:FuncId)(Pre:LE->LV->Prop)(Post:LE->Value->LE->Prop):Prop where
 h:∀K vs,Pre K vs->∀w,(∀e∈K,Ent.ok w e)->CtL P f vs w (Post K)
theorem cnB{ρ:Type}{F:Option ρ}{P:Program}{f:FuncId}{Pre:LE->LV->Prop}{Post:LE->ρ->Value->LE->Prop}[hc:ConB F P f Pre Post]{r:ρ}(h:F=some r):CnB P f Pre (fun K=>Post K r):=⟨fun K vs hp w hK=>hc.h K vs r hp h w hK⟩
theorem Aym{α ρ:Type}{o:Option α}{P:Program}{f:FuncId}{Pre:LE->LV->Prop}{Post:LE->α->Value->LE->Prop}[hc:ConB o P f Pre Post]{k:α->Option ρ}{r:ρ}{G:Prop}(h:bnd o k=some r)(K:∀x,o=some x->CnB P f Pre (fun K=>Post K x)->k x=some r->G):G:=let ⟨x,h1,h2⟩:=Aq h;K x h1 (cnB h1) h2
theorem SubE.ofOld{K L:LE}{w:World}(hK:∀e∈K,Ent.ok w e)(h:AtE L (.old w)):SubE K L:=by
 obtain⟨_,h⟩:=h.nth;exact⟨fun w1 hw e he=>Ent.ext (hK e he) (hw _ (Ee h))⟩
theorem SubE.bunR{X K es:LE}(h:SubE X (K++es)):SubE X (K++[bun es]):=⟨fun w hw=>h.ok w fun e he=>by
 rcases List.mem_append.1 he with he|he
 .exact hw e (List.mem_append_left _ he)
 .exact Arb (hw _ (List.mem_append_right _ mS)) e he⟩
theorem SubE.consR{X K es:LE}{e:Ent}(h:AtE es e)(h':SubE X (K++es)):SubE (e::X) (K++es):=by
 obtain⟨_,h⟩:=h.nth;exact⟨fun w hw x hx=>by
  rcases List.mem_cons.1 hx with rfl|hx
  .exact hw _ (List.mem_append_right _ (Ee h))
  .exact h'.ok w hw x hx⟩
theorem CtL.bunB{P:Program}{f:FuncId}{vs:LV}{w:World}{R R':Value->LE->Prop}(h:CtL P f vs w R)(k:∀v Ln w1,Heap (Ln++[.old w]) w1->R v Ln->R' v [bun Ln]):CtL P f vs w R':=by
 refine⟨h.1,h.2.mono ?_⟩;rintro e w' ⟨v,Ln,rfl,hR,hlo,hh⟩;exact⟨v,[bun Ln],rfl,k v Ln w' hh hR,Cj rfl Iz,Adc hlo hh⟩
theorem Heap.nones{L:LE}{w:World}(h:Heap L w):∀q,Heap (List.replicate q (.r none 0 0 0 0 [])++L) w
 |0=>h
 |q+1=>by
  have h:=Heap.nones h q;refine⟨fun e he=>?_,?_⟩
  .rcases List.mem_cons.1 he with rfl|he
   .exact Ent.ok_none w 0 0
   .exact h.ok e he
  .show List.Pairwise _ (_::(List.replicate q _++L));rw[List.pairwise_cons];exact⟨fun x hx=>⟨fun g hg=>(by cases hg),fun g hg=>⟨Nat.zero_le _,fun h=>(by cases h)⟩⟩,h.sep⟩
theorem Has.padN{α:Type}{K E:LE}{A:OA}{n c sz:Nat}{enc:α->LV}{l:List α}(h:Has (K++E) A n c sz enc l)(q:Nat):Has (K++(List.replicate q (.r none 0 0 0 0 [])++E)) A n c sz enc l:=by
 exact h.up (SubE.app2 (SubE.appR2 .refl))
theorem CtL.pad{P:Program}{f:FuncId}{vs:LV}{w:World}{R R':Value->LE->Prop}(q:Nat)(h:CtL P f vs w R)(k:∀v Ln,R v Ln->R' v (List.replicate q (.r none 0 0 0 0 [])++Ln)):CtL P f vs w R':=by
 refine⟨h.1,h.2.mono ?_⟩;rintro e w' ⟨v,Ln,rfl,hR,hlo,hh⟩;refine⟨v,_,rfl,k v Ln hR,fun x hx=>?_,by rw[List.append_assoc];exact hh.nones q⟩;rcases List.mem_append.1 hx with hx|hx
 .rw[(List.mem_replicate.1 hx).2];rfl
 .exact hlo x hx
section
variable {P:Program}{n:Nat}{ops:Array Oper}{Q:Exit->AW}{fr:lF}{L:LE}{N:AW}{d:Nat}{ty:TypeId}{pos:String}{after:AE}{guard:ON}
theorem Ak8{f:FuncId}{Pre:LE->LV->Prop}{Post:LE->Value->LE->Prop}{xs:List Operand}{vs:LV}{ts:Array TypeId}{ty':TypeId}{K:LE}(hc:CnB P f Pre Post)(hx:evos fr xs=some vs)(hp:∀w,Heap L w->Pre K vs)(hK:SubE K L)(hd:Nat.blt d n=true)(k:∀v Ln,(∀x∈Ln,x.low=0)->Post K v Ln->T n N ((d,v)::fr) (Ln++L)):Wx P Q n ⟨some d,.call ⟨.value (.func f),xs.toArray,ts⟩,ty',pos,after,guard⟩ fr L N:=fun a w ha hw=>Gl hx (fun w1 hw1=>hc.h K vs (hp w1 hw1) w1 (Ad9 hK hw1)) hd (fun v Ln hlo hR=>k v Ln hlo hR) a w ha hw
structure Frt{α:Type}(P:Program)(f:FuncId)(enc:α->LV)(sz:Nat)(l r:List α):Prop where
 p:∃k,r=l.take k
 h:∀K A c,Has K A l.length c sz enc l->∀w,(∀e∈K,Ent.ok w e)->CtL P f [.slice A l.length c] w (fun v Ln=>v=.slice A r.length c/\Ln=[]/\Has K A r.length c sz enc r/\True)
class TrI{α:Type}(x:Option (List α))(P:outParam Program)(f:outParam FuncId)(enc:outParam (α->LV))(sz:outParam Nat)(l:outParam (List α)):Prop where
 h:∀r,x=some r->Frt P f enc sz l r
theorem Ayn{α ρ:Type}{o:Option (List α)}{P:Program}{f f':FuncId}{enc:α->LV}{sz:Nat}{l:List α}{Pre:LE->LV->Prop}{Post:LE->List α->Value->LE->Prop}[ht:TrI o P f enc sz l][hc:ConB o P f' Pre Post]{k:List α->Option ρ}{r:ρ}{G:Prop}(h:bnd o k=some r)(K:∀x,o=some x->Frt P f enc sz l x->CnB P f' Pre (fun K=>Post K x)->k x=some r->G):G:=let ⟨x,h1,h2⟩:=Aq h;K x h1 (ht.h x h1) (cnB h1) h2
theorem Ak9{α:Type}{enc:α->LV}{l r:List α}{f:FuncId}{t sz m c:Nat}{A:OA}{g:Ent->LE}{x:Operand}{ts:Array TypeId}{ty':TypeId}(ht:Frt P f enc sz l r)(hx:evo fr x=some (.slice A m c))(hr:RepE L (.r A m c t sz (l.flatMap enc)) g)(he:∀x,(enc x).length=sz)(hz:Nat.blt 0 sz=true)(hd:Nat.blt d n=true)(k:T n N ((d,.slice A r.length c)::fr) (g (.r A r.length c t sz (r.flatMap enc)))):Wx P Q n ⟨some d,.call ⟨.value (.func f),[x].toArray,ts⟩,ty',pos,after,guard⟩ fr L N:=by
 obtain⟨i,hr⟩:=hr.of;intro a w ha hw;have hm:=(hr (.r A m c t sz (l.flatMap enc))).mem;have hs:=Has.ofRow (Nat.le_of_ble_eq_true hz) he (hw.ok _ hm);obtain rfl:=hs.len;refine Gl (vs:=[.slice A l.length c]) (by simp only[evos,hx]) (fun w1 hw1=>ht.h _ A c hs w1 (fun e h=>by rw[List.mem_singleton.1 h];exact hw1.ok _ hm)) hd ?_ a w ha hw;rintro _ _ _ ⟨rfl,rfl,-⟩;exact Akr ht.p (hr _) (Nat.le_of_ble_eq_true hz) he k
inductive Spt:LE->LE->Ent->Prop
 |last {e}:Spt [e] [] e
 |cons {x L es e}:Spt L es e->Spt (x::L) (x::es) e
theorem Spt.eq{L es e}(h:Spt L es e):L=es++[e]:=by
 induction h with
 |last=>rfl
 |cons _ ih=>rw[ih];rfl
theorem Bbe{fn:Func}{R:Value->LE->Prop}{w0:World}{rs vs}{es:LE}(h:Res P fr L rs vs)(hs:Spt L es (.old w0))(hlo:∀x∈es,x.low=0)(hR:∀w,Heap L w->R (Tb vs) [bun es]):T n (Ends P fn rs R w0 .ret) fr L:=fun a w ha hw hr=>Aq2 hr h (fun w hw=>⟨_,[bun es],rfl,hR w hw,Cj rfl Iz,Adc hlo (hs.eq▸hw)⟩) a w ha hw
end
theorem Pa{A B G:Prop}(k:A->B->G):A/\B->G:=fun h=>k h.1 h.2
theorem Pt'{G:Prop}(k:G):True->G:=fun _=>k
theorem Lo1{e:Ent}{G:Prop}(k:e.low=0->G):(∀x∈[e],x.low=0)->G:=fun h=>k (h e mS)
theorem Has.row1{α:Type}{enc:α->LV}{L:LE}{w:World}{A m c r sz}{l:List α}(hw:Heap L w)(hk:AtE L (.r A m c r sz (l.flatMap enc)))(hz:Nat.blt 0 sz=true)(he:∀x,(enc x).length=sz):Has [.r A m c r sz (l.flatMap enc)] A m c sz enc l:=by
 obtain⟨_,hk⟩:=hk.nth;exact Has.ofRow (Nat.le_of_ble_eq_true hz) he (hw.ok _ (Ee hk))
theorem Has.m1{α:Type}{enc:α->LV}{L:LE}{w:World}{g q sz:Nat}{t:TypeId}{cs:LV}{l:List α}(_hw:Heap L w)(_hk:AtE L (.m g t cs))(hc:cs=l.flatMap enc)(hn:l.length=q)(he:∀x,(enc x).length=sz)(hm:Nat.ble q 1000=true):Has [.m g t cs] (some ⟨g,0,none⟩) q q sz enc l :=
 Has.ofM (fun x _=>he x) hn (by have:=Nat.le_of_ble_eq_true hm;unfold maxLen;omega) hc
theorem Has.inl{α:Type}{enc:α->LV}{K K':LE}{A m c sz}{l:List α}(h:Has K A m c sz enc l):Has (K++K') A m c sz enc l:=h.up SubE.appL
theorem Has.inr{α:Type}{enc:α->LV}{K K':LE}{A m c sz}{l:List α}(h:Has K' A m c sz enc l):Has (K++K') A m c sz enc l:=h.up (SubE.appR SubE.refl)
class ConK{ρ:Type}(F:Option ρ)(P:outParam Program)(f:outParam FuncId)(Sh:outParam (Nat->Nat->Nat->OA->Nat->OA->Nat->LV->LE->Prop))(Fa:outParam (OA->Nat->OA->Nat->LE->LE->Prop))(Post:outParam (Nat->Nat->Nat->OA->Nat->OA->Nat->LE->ρ->Value->LE->Prop)):Prop where
 h:∀g0 g1 g2 A0 c0 A1 c1 K K2 vs Lp r,Sh g0 g1 g2 A0 c0 A1 c1 vs Lp->Fa A0 c0 A1 c1 K K2->F=some r->CtK P f vs (K++K2) Lp (Post g0 g1 g2 A0 c0 A1 c1 K r)
structure CnK(P:Program)(f:FuncId)(Sh:Nat->Nat->Nat->OA->Nat->OA->Nat->LV->LE->Prop)(Fa:OA->Nat->OA->Nat->LE->LE->Prop)(Post:Nat->Nat->Nat->OA->Nat->OA->Nat->LE->Value->LE->Prop):Prop where
 h:∀g0 g1 g2 A0 c0 A1 c1 K K2 vs Lp,Sh g0 g1 g2 A0 c0 A1 c1 vs Lp->Fa A0 c0 A1 c1 K K2->CtK P f vs (K++K2) Lp (Post g0 g1 g2 A0 c0 A1 c1 K)
theorem cnK{ρ:Type}{F:Option ρ}{P:Program}{f:FuncId}{Sh Fa Post}[hc:ConK F P f Sh Fa Post]{r:ρ}(h:F=some r):CnK P f Sh Fa (fun g0 g1 g2 A0 c0 A1 c1 K=>Post g0 g1 g2 A0 c0 A1 c1 K r):=⟨fun g0 g1 g2 A0 c0 A1 c1 K K2 vs Lp hs hf=>hc.h g0 g1 g2 A0 c0 A1 c1 K K2 vs Lp r hs hf h⟩
theorem Ayo{α ρ:Type}{o:Option α}{P:Program}{f:FuncId}{Sh Fa Post}[hc:ConK o P f Sh Fa Post]{k:α->Option ρ}{r:ρ}{G:Prop}(h:bnd o k=some r)(K:∀x,o=some x->CnK P f Sh Fa (fun g0 g1 g2 A0 c0 A1 c1 K=>Post g0 g1 g2 A0 c0 A1 c1 K x)->k x=some r->G):G:=let ⟨x,h1,h2⟩:=Aq h;K x h1 (cnK h1) h2
theorem SubE.l{K K2 L:LE}(h:SubE (K++K2) L):SubE K L:=⟨fun w hw e he=>h.ok w hw e (List.mem_append_left _ he)⟩
theorem SubE.r{K K2 L:LE}(h:SubE (K++K2) L):SubE K2 L:=⟨fun w hw e he=>h.ok w hw e (List.mem_append_right _ he)⟩
theorem CtK.wide{P:Program}{f:FuncId}{vs:LV}{K K2 Lp:LE}{R:Value->LE->Prop}(h:CtK P f vs K Lp R):CtK P f vs (K++K2) Lp R:=⟨h.1,fun Lf w hK hw=>h.2 Lf w hK.l hw⟩
theorem CtK.one{P:Program}{f:FuncId}{vs:LV}{K Lp:LE}{R:Value->LE->Prop}(h:CtK P f vs (K++K) Lp R):CtK P f vs K Lp R:=⟨h.1,fun Lf w hK hw=>h.2 Lf w (SubE.appC hK hK) hw⟩
theorem CtK.mono{P:Program}{f:FuncId}{vs:LV}{K Lp:LE}{R R':Value->LE->Prop}(h:CtK P f vs K Lp R)(k:∀v Ln,R v Ln->R' v Ln):CtK P f vs K Lp R':=by
 refine⟨h.1,fun Lf w hK hw=>(h.2 Lf w hK hw).mono ?_⟩;rintro e w' ⟨v,Ln,rfl,hR,hh⟩;exact⟨v,Ln,rfl,k v Ln hR,hh⟩
theorem SubE.more{K L:LE}{e:Ent}(h:SubE K L):SubE K (e::L):=h.cons
section
variable {P:Program}{n:Nat}{ops:Array Oper}{Q:Exit->AW}{fr:lF}{L:LE}{N:AW}{d:Nat}{ty:TypeId}{pos:String}{after:AE}{guard:ON}
theorem Ala{f:FuncId}{Sh Fa Post}{xs:List Operand}{vs:LV}{ts:Array TypeId}{ty':TypeId}{Lp Lf K K2:LE}{g0 g1 g2 c0 c1:Nat}{A0 A1:OA}(hc:CnK P f Sh Fa Post)(hx:evos fr xs=some vs)(hs:Sh g0 g1 g2 A0 c0 A1 c1 vs Lp)(hp:Ix L (Lp++Lf))(hf:∀w,Heap Lf w->Fa A0 c0 A1 c1 K K2)(hK:SubE (K++K2) Lf)(hd:Nat.blt d n=true)(k:∀v Ln,Post g0 g1 g2 A0 c0 A1 c1 K v Ln->T n N ((d,v)::fr) (Ln++Lf)):Wh P Q n ⟨some d,.call ⟨.value (.func f),xs.toArray,ts⟩,ty',pos,after,guard⟩ fr L N:=by
 intro a w ha hw;have hw2:=hw.pick hp;have hwf:Heap Lf w:=⟨fun e he=>hw2.ok e (List.mem_append_right _ he),hw2.sep.sublist (List.sublist_append_right _ _)⟩;exact Adb hx hp hK (hc.h g0 g1 g2 A0 c0 A1 c1 K K2 vs Lp hs (hf w hwf)) hd k a w ha hw
def Auj(P:Program)(fn:Func)(rs:List ResultVar)(R:Value->LE->Prop)(Lf:LE):Exit->AW:=fun e a w=>fn.results=rs.toArray->bodyPost P fn (fun e w'=>∃v Ln,e=.returned v/\R v Ln/\Heap (Ln++Lf) w') e a w
theorem Aph{fn:Func}{R:Value->LE->Prop}{Lf:LE}{rs vs}{Ln:LE}(h:Res P fr L rs vs)(hR:R (Tb vs) Ln)(hs:Ix L (Ln++Lf)):T n (Auj P fn rs R Lf .ret) fr L:=fun a w ha hw hr=>Aor hr h hR hs a w ha hw
theorem Api{fn:Func}{R:Value->LE->Prop}{Lf:LE}{rs vs}{Ln:LE}(h:Res P fr L rs vs)(hR:R (Tb vs) Ln)(hs:Ix L (Ln++Lf)):T n (Auj P fn rs R Lf .normal) fr L:=fun a w ha hw hr=>Axm hr h hR hs a w ha hw
theorem CtSK{f:FuncId}{fn:Func}{c:Code}{vs:LV}{K Lp:LE}{R:Value->LE->Prop}{m:Nat}{rs:List ResultVar}{fr0:lF}(hm:fn.ntmps=m)(hr:fn.results=rs.toArray)(k:∀Lf, SubE K Lf->T m (c.wp P (Auj P fn rs R Lf)) fr0 (Lp++Lf))(hf:P.funcs[f]? = some fn:=by rfl)(hb:fn.body=some c:=by rfl)(hn:(fn.name == "runtime.NumGoroutine")=false:=by kernel_rfl)(hl:Nat.ble vs.length m=true:=by rfl)(hv:Yr vs 0=fr0:=by exact rfl): CtK P f vs K Lp R:=by
 subst hv;exact CtK.mk m hf hb hm hn hl fun Lf hK a w ha hw=>wp_mono (k Lf hK a w ha hw) (fun e a' w' h=>h hr)
inductive DecL{α:Type}(enc:α->LV):LV->List α->Prop
 |nil:DecL enc [] []
 |c1 {v cs x ys}:DecI enc [v] x->DecL enc cs ys->DecL enc (v::cs) (x::ys)
 |c2 {v1 v2 cs x ys}:DecI enc [v1,v2] x->DecL enc cs ys->DecL enc (v1::v2::cs) (x::ys)
 |c3 {v1 v2 v3 cs x ys}:DecI enc [v1,v2,v3] x->DecL enc cs ys->DecL enc (v1::v2::v3::cs) (x::ys)
theorem DecL.eq{α:Type}{enc:α->LV}{cs ys}(h:DecL enc cs ys):cs=ys.flatMap enc:=by
 induction h with
 |nil=>rfl
 |c1 h _ ih=>rw[List.flatMap_cons,<-h.h,<-ih];rfl
 |c2 h _ ih=>rw[List.flatMap_cons,<-h.h,<-ih];rfl
 |c3 h _ ih=>rw[List.flatMap_cons,<-h.h,<-ih];rfl
theorem Ack(s:Nat){α:Type}{enc:α->LV}{l:List α}{g t sz q:Nat}{cs:LV}{L':LE}(hs:look fr s=some (.slice (some ⟨g,0,none⟩) q q))(hk:AtE L (.m g t cs))(he:EncI t enc)(hc:DecL enc cs l)(hz:∀x,(enc x).length=sz)(hq:q=l.length)(hm:Nat.ble q 1000=true)(hL:SetA L (.m g t cs) (.r (some ⟨g,0,none⟩) q q t sz (l.flatMap enc)) L')(k:T n N fr L'):T n N fr L:=by
 obtain⟨_,hL⟩:=hL.of;exact T_mr l hL hc.eq hq hz (by have:=Nat.le_of_ble_eq_true hm;unfold maxLen;omega) k
end
theorem Pt.lo{K:LE}{w:World}{b o:Nat}{ys:LV}(h:Pt K b o ys)(hK:∀e∈K,Ent.ok w e):Pt [.old w] b o ys:=Pt.low (E:=[]) (Pt.up0 h) hK
theorem Pt.mA{g:Nat}{t:TypeId}{cs:LV}{L:LE}(h:AtE L (.m g t cs)):Pt L g 0 cs:=by
 obtain⟨_,h⟩:=h.nth;exact Pt.m0 (Ee h)
theorem Pt.upS{K L:LE}{b o:Nat}{ys:LV}(h:Pt K b o ys)(i:SubE K L):Pt L b o ys:=fun w hw=>h w (i.ok w hw)
section
variable {P:Program}{n:Nat}{ops:Array Oper}{Q:Exit->AW}{fr:lF}{L:LE}{rest:List Oper}{N:AW}{d i:Nat}{ty:TypeId}{pos:String}{after:AE}{guard:ON}{cls:Cls}{os:LM}
theorem Vc(s:Nat){α:Type}{enc:α->LV}{l:List α}{j:Int}{A:OA}{m c t sz:Nat}{L':LE}(hs:look fr s=some (.slice A (subl l 0 j).length c))(hk:AtE L (.r A m c t sz (l.flatMap enc)))(hb:0<=j/\j<=(l.length:Int))(hz:Nat.blt 0 sz=true)(he:∀x,(enc x).length=sz)(hL:SetA L (.r A m c t sz (l.flatMap enc)) (.r A (List.take j.toNat l).length c t sz ((List.take j.toNat l).flatMap enc)) L')(k:T n N fr L'):T n N fr L:=by
 obtain⟨_,hL⟩:=hL.of;have e:(List.take j.toNat l).length=j.toNat:=by rw[List.length_take];omega
 rw[e] at hL;exact Apa hL oo (Nat.le_of_ble_eq_true hz) he k
section
variable {α:Type}{KK:LE}{A:OA}{m c sz:Nat}{enc:α->LV}{l:List α}{x lo:Operand}{kd:IntKind}{j:Int}{t e:TypeId}
theorem Aap{l:List α}{j:Int}:(subl l j (l.length:Int)).length=l.length-j.toNat:=by unfold subl;simp
theorem Has.lenL(h:Has KK (slA A c j.toNat sz) (m-j.toNat) (c-j.toNat) sz enc (subl l j (m:Int))):m-j.toNat=(subl l j (m:Int)).length/\Has KK (slA A c j.toNat sz) (subl l j (m:Int)).length (c-j.toNat) sz enc (subl l j (m:Int)):=by
 have e:=h.len;exact⟨e.symm,h.len'⟩
theorem Auk [ht:Lj P t e sz](hx:evo fr x=some (.slice A m c))(hh:evo fr lo=some (.int kd j))(hs:Has KK A m c sz enc l)(hb:0<=j/\j<=((m:Nat):Int))(hd:Nat.blt d n=true)(k:Has KK (slA A c j.toNat sz) (subl l j (m:Int)).length (c-j.toNat) sz enc (subl l j (m:Int))->T n (wpList P ops Q rest) ((d,.slice (slA A c j.toNat sz) (subl l j (m:Int)).length (c-j.toNat))::fr) L):T n (wpList P ops Q (⟨some d,.slice t x (some lo) none none,ty,pos,after,none⟩ :: rest)) fr L:=by
 obtain⟨e,h2⟩:=(hs.subL hb.1 hb.2).lenL;exact Ay (by rw[<-e];exact Apb hx hh ht.h hb.1 hb.2) hd (k h2)
end
class SrtI(P:Program)(f gf:FuncId){β:outParam Type}(enc:outParam (β->LV))(k:outParam Nat)(p:outParam (List β->β->Prop))(cf:outParam (β->β->Int))(arg:outParam (β->Value)):Prop where
 he:Wp P f
 hs:∀(l:List β),l.length<=1000000000->(∀x∈l,p l x)->∀(A:OA) (m c:Nat) (t:TypeId) w,Ent.ok w (.r A m c t k (l.flatMap enc))->Ac1 P (p l) cf arg A m c t k gf #[] w (l.flatMap enc)->Ac0 P f A m c t k gf #[] w (l.flatMap enc) ((Ba cf l).flatMap enc)
 hc:∀l W x y,p l x->p l y->∃xs,xs.toArray = #[arg x,arg y] ++ #[]/\CtL P gf xs W fun v Ln=>v=.int .i64 (cf x y)/\Ln=[]/\True
theorem Aul{F:Ent->LE}{β:Type}{enc:β->LV}{k f gf:Nat}{p:List β->β->Prop}{cf:β->β->Int}{arg:β->Value}{l:List β}{A:OA}{m c:Nat}{t:TypeId}{xs:List Operand}{ts:Array TypeId}{ty':TypeId}(hx:evos fr xs=some [.slice A m c,.func (.func gf) #[] #[]])(h:SrtI P f gf enc k p cf arg)(hr:RepE L (.r A m c t k (l.flatMap enc)) F)(hg:l.length<=1000000000/\∀x∈l,p l x)(hd:Nat.blt d n=true)(kk:T n N ((d,.tuple #[])::fr) (F (.r A m c t k ((Ba cf l).flatMap enc)))):Wh P Q n ⟨some d,.call ⟨.value (.func f),xs.toArray,ts⟩,ty',pos,after,guard⟩ fr L N:=by
 obtain⟨_,hr⟩:=hr.of;exact Ame l h.he (h.hs l hg.1 hg.2 A m c t) (fun ys=>F (.r A m c t k ys)) (fun ys=>hr _) (fun ys W _ x y px py=>h.hc l W x y px py) hx rfl hd kk
class Sr1(P:Program)(f:FuncId)(enc:outParam (Int->LV))(st:outParam (LI->LI)):Prop where
 he:Wp P f
 hs:∀(l:LI),l.length<=1000000->∀(A:OA) (m c:Nat) (t:TypeId) (w:World),Ent.ok w (.r A m c t 1 (l.flatMap enc))->Calls P f #[.slice A m c] w fun e w'=>e=.returned (.tuple #[])/\w.grownBy w' (Ent.blk (.r A m c t 1 (l.flatMap enc)))/\w.drawn<=w'.drawn/\Ent.ok w' (.r A m c t 1 ((st l).flatMap enc))
end
theorem Bc6{P:Program}{n:Nat}{ops:Array Oper}{Q:Exit->AW}{fr:lF}{L:LE}{id:Nat}(s:Nat)(cls:Cls)(A:LL)(RL:LM)(p:Plan){g o:Nat}{t:TypeId}{cs:LV}(hs:look fr s=some (.pointer (some ⟨g,o,none⟩)))(hk:AtE L (.m g t cs))(hm:P.follows .mixedOrders=true)(hd:Wl ops cls A RL=true)(hp:Ig ops cls p (Array.replicate ops.size false) none=true)(k:T n (Bo P ops Q cls A RL (RR [.m g t cs]) p) fr L):T n ((Code.region id ops true).wp P Q) fr L:=by
 obtain⟨_,hk⟩:=hk.nth;exact Ax0 cls A RL [.m g t cs] p hm hd hp (fun w hw=>SubE.ok (SubE.nth hk) w hw) k
theorem Ajf{P:Program}{n:Nat}{Q:Exit->AW}{fr:lF}{L:LE}{N:AW}{d:Nat}{pos:String}{after:AE}{guard:ON}{α:Type}{enc:α->LV}{l ys:List α}{s x:Operand}{t e sz bytes:Nat}{A B:OA}{m c q q':Nat}{K:LE}{ty':TypeId}{f:Ent->LE}[ht:Zm P t e sz bytes](hs:evo fr s=some (.slice A m c))(hx:evo fr x=some (.slice B q q'))(hr:RepE L (.r A m c e sz (l.flatMap enc)) f)(hy:Has K B q q' sz enc ys)(hK:SubE K L)(hb:(l.length+ys.length)*bytes<=140737488355328)(he:∀x,(enc x).length=sz)(h1:∀x,Lx (enc x)=true)(hd:Nat.blt d n=true)(h0:Nat.blt 0 bytes=true)(k:∀A' c',T n N ((d,.slice A' (l++ys).length c')::fr) (f (.r A' (l++ys).length c' e sz ((l++ys).flatMap enc)))):Wh P Q n ⟨some d,.call ⟨.builtin .append,#[s,x],#[t,t]⟩,ty',pos,after,guard⟩ fr L N:=by
 obtain⟨_,hr⟩:=hr.of;exact Ahe (L':=fun A' c'=>f (.r A' (l++ys).length c' e sz ((l++ys).flatMap enc))) enc l ys hs hx ht.h he hy hK h1 hb hd (fun A' c'=>hr _) (Nat.le_of_ble_eq_true h0) k
theorem Apj{P:Program}{n:Nat}{Q:Exit->AW}{fr:lF}{L:LE}{N:AW}{d:Nat}{pos:String}{after:AE}{guard:ON}{α:Type}{enc:α->LV}{l l2:List α}{s x:Operand}{t e sz bytes:Nat}{A:OA}{m c g q q':Nat}{t':TypeId}{cs:LV}{ty':TypeId}{f:Ent->LE}[ht:Zm P t e sz bytes](hs:evo fr s=some (.slice A m c))(hx:evo fr x=some (.slice (some ⟨g,0,none⟩) q q'))(hr:RepE L (.r A m c e sz (l.flatMap enc)) f)(hm:AtE L (.m g t' cs))(hdec:DecL enc cs l2)(hq:q=l2.length)(hb:(l.length+q)*bytes<=140737488355328)(he:∀x,(enc x).length=sz)(h1:Lx cs=true)(hd:Nat.blt d n=true)(h0:Nat.blt 0 bytes=true)(k:∀A' c',T n N ((d,.slice A' (l++l2).length c')::fr) (f (.r A' (l++l2).length c' e sz ((l++l2).flatMap enc)))):Wh P Q n ⟨some d,.call ⟨.builtin .append,#[s,x],#[t,t]⟩,ty',pos,after,guard⟩ fr L N:=by
 obtain⟨_,hr⟩:=hr.of;obtain⟨_,hm⟩:=hm.nth;subst hq;exact Rw (L2:=fun A' c'=>f (.r A' (l++l2).length c' e sz ((l++l2).flatMap enc))) enc l l2 hs hx rfl ht.h he hm hdec.eq rfl h1 hb hd (fun A' c'=>hr _) (fun _ _=>.refl) (Nat.le_of_ble_eq_true h0) k
theorem Ayp{P:Program}{n:Nat}{ops:Array Oper}{Q:Exit->AW}{fr:lF}{L:LE}{rest:List Oper}{d:Nat}{ty:TypeId}{pos:String}{after:AE}{α:Type}{A:OA}{m c sz:Nat}{enc:α->LV}{l:List α}{x lo:Operand}{kd:IntKind}{j:Int}{t e r:TypeId}[ht:Lj P t e sz](hx:evo fr x=some (.slice A m c))(hk:AtE L (.r A m c r sz (l.flatMap enc)))(hh:evo fr lo=some (.int kd j))(hb:0<=j/\j<=((m:Nat):Int))(hd:Nat.blt d n=true)(hz:Nat.blt 0 sz=true)(he:∀x,(enc x).length=sz)(k:Has [.r A m c r sz (l.flatMap enc)] (slA A c j.toNat sz) (subl l j (m:Int)).length (c-j.toNat) sz enc (subl l j (m:Int))->T n (wpList P ops Q rest) ((d,.slice (slA A c j.toNat sz) (subl l j (m:Int)).length (c-j.toNat))::fr) L):T n (wpList P ops Q (⟨some d,.slice t x (some lo) none none,ty,pos,after,none⟩ :: rest)) fr L:=Ra hk hz he fun hs=>Auk hx hh hs hb hd k
inductive LN{α:Type}(RN:LE->α->LV->Prop)(K:LE)(sz:Nat):LV->List α->Prop
 |nil:LN RN K sz [] []
 |cons {cs x xs}:RN K x (cs.take sz)->Nat.ble sz cs.length=true->LN RN K sz (cs.drop sz) xs->LN RN K sz cs (x::xs)
theorem LN.of{α:Type}{RN:LE->α->LV->Prop}{K:LE}{sz:Nat}{cs:LV}{xs:List α}(h:LN RN K sz cs xs):∃hl:List LV,cs=hl.flatMap raw/\(∀y∈hl,(raw y).length=sz)/\hl.length=xs.length/\∀(i:Nat) (h:i<xs.length) (h':i<hl.length),RN K xs[i] hl[i]:=by
 induction h with
 |nil=>exact⟨[],rfl,fun y hy=>by simp at hy,rfl,fun i h=>absurd h s_⟩
 |@cons cs x xs h1 h2 _ ih=>
  obtain⟨hl,e1,e2,e3,e4⟩:=ih;refine⟨cs.take sz::hl,?_,fun y hy=>?_,by simp[e3],fun i h h'=>?_⟩
  .rw[List.flatMap_cons,<-e1];exact (List.take_append_drop sz cs).symm
  .rcases List.mem_cons.1 hy with rfl|hy
   .have:=Nat.le_of_ble_eq_true h2;show (List.take sz cs).length=sz;rw[List.length_take];omega
   .exact e2 y hy
  .cases i with
   |zero=>exact h1
   |succ j=>exact e4 j (sV h) (sV h')
theorem HasN.mW{α:Type}{RN:LE->α->LV->Prop}{L:LE}{w:World}{g sz:Nat}{t:TypeId}{cs:LV}{xs:List α}(_:Heap L w)(hk:AtE L (.m g t cs))(hl:LN RN L sz cs xs)(hm:Nat.ble xs.length 1000=true):HasN L (some ⟨g,0,none⟩) xs.length xs.length sz RN xs:=by
 obtain⟨_,hk⟩:=hk.nth;obtain⟨hs,e1,e2,e3,e4⟩:=hl.of;exact⟨hs,by rw[<-e3];exact (Has.ofM e2 rfl (by have:=Nat.le_of_ble_eq_true hm;unfold maxLen;omega) e1).up (SubE.nth hk),e3,e4⟩
inductive RemE:LE->Ent->LE->Prop
 |here {e L}:RemE (e::L) e L
 |there {x L e L'}:RemE L e L'->RemE (x::L) e (x::L')
theorem RemE.perm{L e L'}(h:RemE L e L'):L.Perm (e::L'):=by
 induction h with
 |here=>exact .refl _
 |there _ ih=>exact (ih.cons _).trans (.swap _ _ _)
theorem Aum{P:Program}{n:Nat}{fr:lF}{L:LE}{fn:Func}{R:Value->LE->Prop}{w0:World}{rs vs}{row:Ent}{L' es:LE}(h:Res P fr L rs vs)(hR:∀w,Heap L w->R (Tb vs) [row,bun es])(hr:RemE L row L')(hs:Spt L' es (.old w0))(hl:row.low=0)(hlo:∀x∈es,x.low=0):T n (Ends P fn rs R w0 .ret) fr L:=fun a w ha hw hr'=>
 Aq2 hr' h (fun w hw=>⟨_,[row,bun es],rfl,hR w hw,Cj hl (Cj rfl Iz),by
  have h1:L.Perm (row::(es++[.old w0])):=hs.eq▸hr.perm;have h2:Heap (es++row::[.old w0]) w:=hw.perm (h1.trans List.perm_middle.symm);exact (Adc hlo h2).perm (List.Perm.swap row (bun es) [.old w0])⟩) a w ha hw
theorem Lo2{a e:Ent}{G:Prop}(k:e.low=0->G):(∀x∈[a,e],x.low=0)->G:=fun h=>k (h e (mO _ mS))
section
open Go.Maps (Keyed)
variable {κ υ:Type}
def MapK(K:LE)(P:Program)(k:TypeId)(ke:κ->Value)(ve:υ->Value)(g:Nat)(m:List (κ×υ)):Prop:=∀w,(∀e∈K,Ent.ok w e)->Yo P k ke ve g m w
variable {P:Program}{k:TypeId}{ke:κ->Value}{ve:υ->Value}{g:Nat}{m:List (κ×υ)}{K E:LE}{w:World}
theorem MapK.m0(h:Be P k ke ve g m∈K):MapK K P k ke ve g m:=fun w hw=>Si w (hw _ h)
variable {n:Nat}{fr:lF}{L:LE}{dst:Option Tmp}{ty:TypeId}{pos:String}{after:AE}{guard:ON}{K':LE}
end
theorem MapK.upS{κ υ:Type}{P:Program}{k:TypeId}{ke:κ->Value}{ve:υ->Value}{g:Nat}{m:List (κ×υ)}{K L:LE}(h:MapK K P k ke ve g m)(hs:SubE K L):MapK L P k ke ve g m:=fun w hw=>h w (hs.ok w hw)
theorem MapK.mA{κ υ:Type}{P:Program}{k:TypeId}{ke:κ->Value}{ve:υ->Value}{g:Nat}{m:List (κ×υ)}{L:LE}(h:AtE L (Be P k ke ve g m)):MapK L P k ke ve g m:=by
 obtain⟨_,h⟩:=h.nth;exact MapK.m0 (Ee h)
class ConF(P:Program)(f:FuncId)(vs:LV)(Post:outParam (Value->LE->Prop)):Prop where
 h:∀w,CtL P f vs w Post
theorem Alb{P:Program}{n:Nat}{Q:Exit->AW}{fr:lF}{L:LE}{N:AW}{d:Nat}{pos:String}{after:AE}{guard:ON}{α:Type}{enc:α->LV}{l ys:List α}{s x:Operand}{t e sz bytes r:Nat}{A B:OA}{m c q q':Nat}{ty':TypeId}{f:Ent->LE}[ht:Zm P t e sz bytes](hs:evo fr s=some (.slice A m c))(hx:evo fr x=some (.slice B q q'))(hr:RepE L (.r A m c e sz (l.flatMap enc)) f)(hk:AtE L (.r B q q' r sz (ys.flatMap enc)))(hb:(l.length+ys.length)*bytes<=140737488355328)(he:∀x,(enc x).length=sz)(h1:∀x,Lx (enc x)=true)(hd:Nat.blt d n=true)(h0:Nat.blt 0 bytes=true)(hz:Nat.blt 0 sz=true)(k:∀A' c',T n N ((d,.slice A' (l++ys).length c')::fr) (f (.r A' (l++ys).length c' e sz ((l++ys).flatMap enc)))):Wh P Q n ⟨some d,.call ⟨.builtin .append,#[s,x],#[t,t]⟩,ty',pos,after,guard⟩ fr L N:=fun a w ha hw=>
 Ra (N:=fun a w=>(⟨some d,.call ⟨.builtin .append,#[s,x],#[t,t]⟩,ty',pos,after,guard⟩:Oper).wp P a w N Q) hk hz he (fun hy=>by obtain⟨_,hk⟩:=hk.nth;exact Ajf hs hx hr hy (SubE.nth hk) hb he h1 hd h0 k) a w ha hw
class LoN{α:Type}(RN:LE->α->LV->Prop):Prop where
 h:∀{K:LE} {x:α} {ys:LV} {w:World},RN K x ys->(∀e∈K,Ent.ok w e)->RN [.old w] x ys
 u:∀{K L:LE} {x:α} {ys:LV},SubE K L->RN K x ys->RN L x ys
section
variable {P:Program}{n:Nat}{ops:Array Oper}{Q:Exit->AW}{fr:lF}{L:LE}{rest:List Oper}{d i:Nat}{ty:TypeId}{pos:String}{after:AE}{guard:ON}{cls:Cls}{A0:LL}{RL:LM}{R:World->Prop}{p:Plan}{os:LM}{α:Type}{KK:LE}{A:OA}{m c sz:Nat}{RN:LE->α->LV->Prop}{l:List α}{x ix:Operand}{kd:IntKind}{z:Int}{x0:α}{t e:TypeId}{w0:World}
theorem Anh(hx:evo fr x=some (.slice A m c))(hix:evo fr ix=some (.int kd z))(hs:HasN KK A m c sz RN l)(hi:idx l z=some x0)(ho:LoN RN)(hK:∀ e∈KK,Ent.ok w0 e)(ht:Mi P t e sz):
  ∃b o ys,(∀{dst:Option Tmp} {ty:TypeId} {pos:String} {after:AE} {guard:ON} L,Ev P n ⟨dst,.indexAddr t x ix,ty,pos,after,guard⟩ fr L (.pointer (some ⟨b,o,none⟩)))/\RN [.old w0] x0 ys/\Pt [.old w0] b o ys:=by
 obtain⟨b,o,j,ys,hA,hj,hl,hp,hr⟩:=hs.at_idx hi;exact⟨b,o+j*sz,ys,fun L=>By hx hix hA (j:=j) hj hl ht,ho.h hr hK,Pt.lo hp hK⟩
theorem Bc7 [ht:Lj P t e sz](hx:evo fr x=some (.slice A m c))(hix:evo fr ix=some (.int kd z))(hs:HasN KK A m c sz RN l)(hi:idx l z=some x0)(ho:LoN RN)(hK:∀e∈KK,Ent.ok w0 e)(hd:Nat.blt d n=true)(k:∀b o ys,RN [.old w0] x0 ys->Pt [.old w0] b o ys->T n (wpList P ops Q rest) ((d,.pointer (some ⟨b,o,none⟩))::fr) L):T n (wpList P ops Q (⟨some d,.indexAddr t x ix,ty,pos,after,none⟩ :: rest)) fr L:=by
 obtain⟨b,o,ys,h1,h2,h3⟩:=Anh (P:=P) (n:=n) hx hix hs hi ho hK ht.h;exact Ay (h1 L) hd (k b o ys h2 h3)
theorem Bc8(hc:Nat.beq (cls.getD i 9) 0=true)(hop:ops[i]? = some ⟨some d,.indexAddr t x ix,ty,pos,after,guard⟩)(hg:Vo ops n fr guard)(hx:evo fr x=some (.slice A m c))(hix:evo fr ix=some (.int kd z))(hs:HasN KK A m c sz RN l)(hi:idx l z=some x0)(ho:LoN RN)(hK:∀e∈KK,Ent.ok w0 e)(ht:Lj P t e sz)(hd:Nat.blt d n=true)(k:∀b o ys,RN [.old w0] x0 ys->Pt [.old w0] b o ys->PB P ops Q cls n os ((d,.pointer (some ⟨b,o,none⟩))::fr) L):PB P ops Q cls n (i::os) fr L:=by
 obtain⟨b,o,ys,h1,h2,h3⟩:=Anh (P:=P) (n:=n) hx hix hs hi ho hK ht.h;exact B_p hc hop hg (h1 []) hd (k b o ys h2 h3)
theorem Bc9(hc:Nat.beq (cls.getD i 9) 0=true)(hop:ops[i]? = some ⟨some d,.indexAddr t x ix,ty,pos,after,none⟩)(hx:evo fr x=some (.slice A m c))(hix:evo fr ix=some (.int kd z))(hs:HasN KK A m c sz RN l)(hi:idx l z=some x0)(ho:LoN RN)(hK:∀e∈KK,Ent.ok w0 e)(ht:Lj P t e sz)(hd:Nat.blt d n=true)(k:∀b o ys,RN [.old w0] x0 ys->Pt [.old w0] b o ys->T n (Bo P ops Q cls A0 RL R p) ((d,.pointer (some ⟨b,o,none⟩))::fr) L):T n (Bo P ops Q cls A0 RL R (.q i p)) fr L:=by
 obtain⟨b,o,ys,h1,h2,h3⟩:=Anh (P:=P) (n:=n) hx hix hs hi ho hK ht.h;exact P_p hc hop (h1 []) hd (k b o ys h2 h3)
end
instance(k:IntKind)(x:Int):UnfI (Value.int k) x (.int k x):=⟨rfl⟩
theorem Ayq{c:Code}{m:Nat}{Q Q':Exit->AW}{P:Program}{n:Nat}{fr:lF}{L:LE}(k:T n (Code.rounds P c Q m) fr L):T n (Exit.then (Code.rounds P c Q m) Q' .normal) fr L:=k
theorem SubE.consA{K L e}(h:AtE L e)(h':SubE K L):SubE (e::K) L:=by
 obtain⟨_,h⟩:=h.nth;exact SubE.cons2 h h'
theorem aT{G:Prop}(h:G:=by (repeat (first|exact .here|refine .there ?_));(first|done|fail)):G:=h
theorem sF{G:Prop}(h:G:=by (repeat (first|exact .nil|refine .cons rfl ?_));(first|done|fail)):G:=h
theorem pK{G:Prop}(h:G:=by (repeat (first|exact .refl|refine .pick 0 rfl ?_|refine .pick 1 rfl ?_|refine .pick 2 rfl ?_|refine .pick 3 rfl ?_|refine .pick 4 rfl ?_|refine .pick 5 rfl ?_|refine .pick 6 rfl ?_|refine .pick 7 rfl ?_|refine .pick 8 rfl ?_|refine .pick 9 rfl ?_|refine .pick 10 rfl ?_|refine .pick 11 rfl ?_|refine .pick 12 rfl ?_|refine .drop 0 rfl ?_));(first|done|fail)):G:=h
theorem sU{K L:LE}(h:SubE K L:=by
 (repeat' (first|exact SubE.nil|refine SubE.consA (by exact aT) ?_|(with_reducible apply SubE.appC)|exact SubE.ofOld (by exact aS) aT|exact aS|(with_reducible apply SubE.more)));(first|done|fail)):SubE K L:=h
theorem sW{X K es:LE}(h:SubE X (K++es):=by
 (repeat' (first|exact SubE.nil|exact SubE.appL|refine SubE.consR (by exact aT) ?_|(with_reducible apply SubE.appC)));(first|done|fail)):SubE X (K++es):=h
theorem spt{G:Prop}(h:G:=by (repeat (first|exact .last|apply Spt.cons));(first|done|fail)):G:=h
theorem lB{G:Prop}(h:G:=by (repeat (first|exact Iz|refine Cj (by first|rfl|exact aS) ?_));(first|done|fail)):G:=h
theorem sP{G:Prop}(h:G:=by (repeat (first|exact .done|apply Spl.put|apply Spl.skip));(first|done|fail)):G:=h
theorem sE{L L':LE}{i:Nat}{e e':Ent}(h:SetE L i e e' L':=by (repeat (first|exact .here|apply SetE.there));(first|done|fail)):SetE L i e e' L':=h
theorem rmE{G:Prop}(h:G:=by (repeat (first|exact .here|apply RemE.there));(first|done|fail)):G:=h
theorem rE{G:Prop}(h:G:=by (repeat (first|exact .here|apply RepE.there));(first|done|fail)):G:=h
theorem aL{G:Prop}(h:G:=by (repeat (first|exact .nil|((with_reducible apply Zw.cc);exact rfl;exact iI;exact rfl)));(first|done|fail)):G:=h
theorem wW{G:Prop}(h:G:=by first|exact wY|exact wG rfl rfl rfl):G:=h
theorem sF2{G:Prop}(h:G:=by (try dsimp only);(try simp only[Je,Do,Aap]);(repeat (first|exact .nil|refine .cons (by first|exact rfl|(simp only[Je,Do,Aap];exact rfl)) ?_));(first|done|fail)):G:=h
theorem pK2{G:Prop}(h:G:=by (try dsimp only);(try simp only[Je,Do,Aap]);(repeat (first|exact .refl|refine .pick 0 rfl ?_|refine .pick 1 rfl ?_|refine .pick 2 rfl ?_|refine .pick 3 rfl ?_|refine .pick 4 rfl ?_|refine .pick 5 rfl ?_|refine .pick 6 rfl ?_|refine .pick 7 rfl ?_|refine .pick 8 rfl ?_|refine .pick 9 rfl ?_|refine .pick 10 rfl ?_|refine .pick 11 rfl ?_|refine .pick 12 rfl ?_|refine .drop 0 rfl ?_));(first|done|fail)):G:=h
theorem pZ{z:Ent}{L1 L':LE}(h:Ix L1 (z::L'):=by first|exact .pick 0 rfl .refl|exact .pick 1 rfl .refl|exact .pick 2 rfl .refl|exact .pick 3 rfl .refl|exact .pick 4 rfl .refl|exact .pick 5 rfl .refl|exact .pick 6 rfl .refl|exact .pick 7 rfl .refl|exact .pick 8 rfl .refl):Ix L1 (z::L'):=h
theorem dL{G:Prop}(h:G:=by (repeat (first|exact .nil|(apply DecL.c1 (by exact iI))|(apply DecL.c2 (by exact iI))|(apply DecL.c3 (by exact iI))));(first|done|fail)):G:=h
theorem dZ{G:Prop}(h:G:=by (repeat (first|exact .nil|apply DecZ.cons));(first|done|fail)):G:=h
theorem sA{G:Prop}(h:G:=by (repeat (first|exact .here|apply SetA.there));(first|done|fail)):G:=h
theorem lO{G:Prop}(h:G:=by first|exact Iz|exact Cj rfl Iz|exact Cj rfl (Cj rfl Iz)|exact Cj rfl (Cj rfl (Cj rfl Iz))|exact Cj rfl (Cj rfl (Cj rfl (Cj rfl Iz)))|exact Cj rfl (Cj rfl (Cj rfl (Cj rfl (Cj rfl (Cj rfl Iz)))))):G:=h
theorem rS{G:Prop}(h:G:=by (repeat (first|exact .nil|((with_reducible apply Res.tmp);exact rfl)|((with_reducible apply Res.cellA);exact rfl;exact aT;exact rfl)));(first|done|fail)):G:=h
theorem shK{G:Prop}(h:G:=by refine⟨rfl,rfl,?_⟩;(repeat (first|exact trivial|refine⟨rfl,?_⟩));(first|done|fail)):G:=h
theorem cQ{G:Prop}(h:G:=by first|rfl|(rw[Ars];assumption)|(rw[Aap])):G:=h
theorem rPK{G:Prop}(h:G:=by first|exact⟨rfl,rfl,trivial⟩|exact⟨_,_,rfl,rfl,trivial⟩|exact⟨_,_,rfl,rfl,(by exact aS),trivial⟩|exact⟨_,_,_,_,rfl,rfl,(by exact aS),trivial⟩|exact⟨_,_,_,_,rfl,rfl,trivial⟩):G:=h
theorem gG{G:Prop}(h:G:=by (try dsimp only);(repeat' (first|exact trivial|exact (rfl:Ent.low (.r _ _ _ _ _ _)=0)|exact aS|(with_reducible refine⟨?_,?_⟩)|exact Has.up (by exact aS) sU|exact Has.inl (by exact aS)|exact rfl));(first|done|fail)):G:=h
theorem gG2{G:Prop}(h:G:=by (try dsimp only);(repeat' (first|exact trivial|exact (rfl:Ent.low (.r none 0 0 0 1 [])=0)|exact aS|(with_reducible refine⟨?_,?_⟩)|exact Has.up (by exact aS) sU|exact Has.inl (by exact aS)|exact Has.nil));(first|done|fail)):G:=h
theorem rP{G:Prop}(h:G:=by first|exact⟨rfl,rfl,trivial⟩|exact⟨_,_,rfl,rfl,trivial⟩|exact⟨_,_,_,_,rfl,rfl,trivial⟩|exact⟨_,_,_,_,_,_,rfl,rfl,trivial⟩|exact⟨_,_,_,_,_,_,_,_,rfl,rfl,trivial⟩|exact⟨_,_,_,_,_,_,_,_,_,_,_,_,rfl,rfl,trivial⟩):G:=h
inductive Kp(fr:lF):LM->lF->Prop
 |nil:Kp fr [] []
 |cons {k v ks r}:look fr k=some v->Kp fr ks r->Kp fr (k::ks) ((k,v)::r)
inductive KLa:LE->Ent->Prop
 |one {e}:KLa [e] e
 |cons {x M e}:KLa M e->KLa (x::M) e
inductive KDr:LE->Nat->LE->Prop
 |zero {M}:KDr M 0 M
 |succ {e M k r}:KDr M k r->KDr (e::M) (k+1) r
inductive Kl(L:LE):LM->LE->Prop
 |nil:Kl L [] []
 |cons {k e ks r}:nthE L k=some e->Kl L ks r->Kl L (k::ks) (e::r)
 |last {e ks r}:KLa L e->Kl L ks r->Kl L (999::ks) (e::r)
 |drop {k r}:KDr L k r->Kl L [k+1000] r
theorem kk{fr fr0:lF}{ks is:LM}{L L0:LE}(h1:Kp fr ks fr0:=by (repeat (first|exact .nil|(apply Kp.cons;exact rfl)));(first|done|fail))(h2:Kl L is L0:=by (repeat (first|exact .nil|(apply Kl.cons;exact rfl)|((with_reducible apply Kl.last);(repeat (first|exact KLa.one|(with_reducible apply KLa.cons))))|((with_reducible apply Kl.drop);(repeat (first|exact KDr.zero|apply KDr.succ)))));(first|done|fail)):Kp fr ks fr0/\Kl L is L0:=⟨h1,h2⟩
theorem Jr{τ γ ρ:Type}{kk:τ->Option ρ}{xx:(τ->Option ρ)->Option ρ}{out:ρ}{fr0:List (Nat × Value)}{L0:List Ent}(hx:jn kk xx=some out)(ks:List Nat)(F:τ->γ->List (Nat × Value)->List (Nat × Value))(is:List Nat)(E:τ->γ->List Ent->List Ent){x y:Code}(_h:Kp fr ks fr0/\Kl L is L0)(k2:∀ s g,kk s=some out->T n (y.wp P Q) (F s g fr0) (E s g L0))(k:∀ j,xx j=some out->T n (x.wp P (Exit.then (Met n j out (fun s g=>F s g fr0) (fun s g=>E s g L0) (fun _ _=>True)) Q)) fr L):
  T n ((Code.seq x y).wp P Q) fr L:=Xw (J:=kk) (fun s g=>F s g fr0) (fun s g=>E s g L0) (fun _ _=>True) (fun s g h _=>k2 s g h) (k kk hx)
theorem Ma{τ γ ρ:Type}{J:τ->Option ρ}{out:ρ}{I:τ->γ->lF}{H:τ->γ->LE}{G:τ->γ->Prop}(s:τ)(g:γ)(hJ:J s=some out)(hG:G s g)(hF:SubF (I s g) fr)(hH:Ix L (H s g)):T n (Exit.then (Met n J out I H G) Q .normal) fr L:=Anb s g hJ hG hF hH
theorem Ro{σ τ γ:Type}{x:Sum σ τ}{I:σ->γ->lF}{H:σ->γ->LE}{G:σ->γ->Prop}(s:σ)(g:γ)(hx:some (.inl s)=some x)(hG:G s g)(hF:SubF (I s g) fr)(hH:Ix L (H s g)):T n (Exit.then (Rnd n x I H G) Q .normal) fr L:=Afr s g hx hG hF hH
theorem MaG{τ γ ρ:Type}{J:τ->Option ρ}{out:ρ}{I:τ->γ->lF}{H:τ->γ->LE}{G:τ->γ->Prop}(s:τ)(g:γ)(hJ:J s=some out)(hF:SubF (I s g) fr)(hG:G s g)(hH:Ix L (H s g)):T n (Exit.then (Met n J out I H G) Q .normal) fr L:=Anb s g hJ hG hF hH
theorem RoG{σ τ γ:Type}{x:Sum σ τ}{I:σ->γ->lF}{H:σ->γ->LE}{G:σ->γ->Prop}(s:σ)(g:γ)(hx:some (.inl s)=some x)(hF:SubF (I s g) fr)(hG:G s g)(hH:Ix L (H s g)):T n (Exit.then (Rnd n x I H G) Q .normal) fr L:=Afr s g hx hG hF hH
theorem sk{fr fr1:lF}{L L1:LE}(h1:SubF fr1 fr:=by (try dsimp only);exact sF)(h2:Ix L L1:=by (try dsimp only);exact pK):SubF fr1 fr/\Ix L L1:=⟨h1,h2⟩
theorem Lr{σ τ γ ρ:Type}{B:σ->Option (Sum σ τ)}{s0:σ}{K:τ->Option ρ}{out:ρ}{fr0:lF}{L0:LE}(hx:bnd (lfix B s0) K=some out)(ks:LM)(F:σ->γ->lF->lF)(is:LM)(E:σ->γ->LE->LE)(g0:γ){c:Code}(_h:Kp fr ks fr0/\Kl L is L0)(h1:SubF (F s0 g0 fr0) fr/\Ix L (E s0 g0 L0))(body:∀s g x,B s=some x->(∀t',x=.inr t'->K t'=some out)->T n (c.wp P (Exit.then (Rnd n x (fun s g=>F s g fr0) (fun s g=>E s g L0) (fun _ _=>True)) Q)) (F s g fr0) (E s g L0)):T n ((Code.loop c).wp P Q) fr L:=by
 obtain⟨t,hl,ho⟩:=Aq hx;exact Ai6 hl (fun s g=>F s g fr0) (fun s g=>E s g L0) (fun _ _=>True) g0 trivial h1.1 h1.2 (fun s g _ x hb ht=>body s g x hb (fun t' e=>by rw[ht t' e];exact ho))
theorem JrG{τ γ ρ:Type}{kk:τ->Option ρ}{xx:(τ->Option ρ)->Option ρ}{out:ρ}{fr0:List (Nat × Value)}{L0:List Ent}(hx:jn kk xx=some out)(ks:List Nat)(F:τ->γ->List (Nat × Value)->List (Nat × Value))(is:List Nat)(E:τ->γ->List Ent->List Ent)(G:τ->γ->Prop){x y:Code}(_h:Kp fr ks fr0/\Kl L is L0)(k2:∀ s g,kk s=some out->G s g->T n (y.wp P Q) (F s g fr0) (E s g L0))(k:∀ j,xx j=some out->T n (x.wp P (Exit.then (Met n j out (fun s g=>F s g fr0) (fun s g=>E s g L0) G) Q)) fr L):
  T n ((Code.seq x y).wp P Q) fr L:=Xw (J:=kk) (fun s g=>F s g fr0) (fun s g=>E s g L0) G (fun s g h hg=>k2 s g h hg) (k kk hx)
theorem LrG{σ τ γ ρ:Type}{B:σ->Option (Sum σ τ)}{s0:σ}{K:τ->Option ρ}{out:ρ}{fr0:lF}{L0:LE}(hx:bnd (lfix B s0) K=some out)(ks:LM)(F:σ->γ->lF->lF)(is:LM)(E:σ->γ->LE->LE)(G:σ->γ->Prop)(g0:γ){c:Code}(_h:Kp fr ks fr0/\Kl L is L0)(h1:SubF (F s0 g0 fr0) fr)(h2:G s0 g0)(h3:Ix L (E s0 g0 L0))(body:∀s g x,B s=some x->(∀t',x=.inr t'->K t'=some out)->G s g->T n (c.wp P (Exit.then (Rnd n x (fun s g=>F s g fr0) (fun s g=>E s g L0) G) Q)) (F s g fr0) (E s g L0)):T n ((Code.loop c).wp P Q) fr L:=by
 obtain⟨t,hl,ho⟩:=Aq hx;exact Ai6 hl (fun s g=>F s g fr0) (fun s g=>E s g L0) G g0 h2 h1 h3 (fun s g hg x hb ht=>body s g x hb (fun t' e=>by rw[ht t' e];exact ho) hg)
theorem Ars{α:Type}{l:List α}{j:Int}(h:0<=j/\j<=(l.length:Int)):(subl l 0 j).length=j.toNat:=by rw[Ak5,List.length_take];omega
def AtS(_:Nat)(G:Prop):Prop:=G
section
variable {s:Nat}{q:Prop}[Decidable q]{ρ:Type}{x y r:Option ρ}{b:Bool}
theorem Cq1(hx:(if q then x else y)=r)(hs:look fr s=some (.bool (decide q)))(ht:q->x=r->T n N ((s,.bool true)::fr) L)(hf:¬q->y=r->T n N ((s,.bool false)::fr) L):AtS s (T n N fr L):=Ao7 hs (fun h=>ht h (Qc h hx)) (fun h=>hf h (Acf h hx))
theorem Cq1e(hx:(if q then x else y)=r)(hs:look fr s=some (.bool b))(hb:b=decide q)(ht:q->x=r->T n N ((s,.bool true)::fr) L)(hf:¬q->y=r->T n N ((s,.bool false)::fr) L):AtS s (T n N fr L):=Cq1 hx (hb▸hs) ht hf
theorem Cq2(hx:(if q then x else y)=r)(hs:look fr s=some (.bool (!decide q)))(ht:¬q->y=r->T n N ((s,.bool true)::fr) L)(hf:q->x=r->T n N ((s,.bool false)::fr) L):AtS s (T n N fr L):=Atn hs (fun h=>ht h (Acf h hx)) (fun h=>hf h (Qc h hx))
theorem Cq3 [Decidable (b=true)](hx:(if b=true then x else y)=r)(hs:look fr s=some (.bool b))(ht:b=true->x=r->T n N ((s,.bool true)::fr) L)(hf:¬b=true->y=r->T n N ((s,.bool false)::fr) L):AtS s (T n N fr L):=Nm hs (fun h=>ht h (Qc h hx)) (fun h=>hf (by simp[h]) (Acf (by simp[h]) hx))
theorem Cq4 [Decidable (b=true)](hx:(if b=true then x else y)=r)(hs:look fr s=some (.bool (!b)))(ht:¬b=true->y=r->T n N ((s,.bool true)::fr) L)(hf:b=true->x=r->T n N ((s,.bool false)::fr) L):AtS s (T n N fr L):=Afo hs (fun h=>ht (by simp[h]) (Acf (by simp[h]) hx)) (fun h=>hf h (Qc h hx))
end
def AtB(ops:Array Oper)(i _s:Nat)(G:Prop):Prop:=(∃o p,ops[i]? = some o/\o.guard=some p)->G
section
variable {s:Nat}{q:Prop}[Decidable q]{ρ:Type}{x y r:Option ρ}{b:Bool}
theorem Cb3 [Decidable (b=true)](hx:(if b=true then x else y)=r)(hs:look fr s=some (.bool b))(ht:b=true->x=r->PB P ops Q cls n (i::os) ((s,.bool true)::fr) L)(hf:¬b=true->y=r->PB P ops Q cls n (i::os) ((s,.bool false)::fr) L):AtB ops i s (PB P ops Q cls n (i::os) fr L):=fun hg=>by
 cases b with
 |true=>exact Zx hg hs (ht rfl (Qc rfl hx))
 |false=>exact Zx hg hs (hf s_ (Acf s_ hx))
theorem Cb4 [Decidable (b=true)](hx:(if b=true then x else y)=r)(hs:look fr s=some (.bool (!b)))(ht:¬b=true->y=r->PB P ops Q cls n (i::os) ((s,.bool true)::fr) L)(hf:b=true->x=r->PB P ops Q cls n (i::os) ((s,.bool false)::fr) L):AtB ops i s (PB P ops Q cls n (i::os) fr L):=fun hg=>by
 cases b with
 |true=>exact Zx hg hs (hf rfl (Qc rfl hx))
 |false=>exact Zx hg hs (ht s_ (Acf s_ hx))
theorem Cb1(hx:(if q then x else y)=r)(hs:look fr s=some (.bool (decide q)))(ht:q->x=r->PB P ops Q cls n (i::os) ((s,.bool true)::fr) L)(hf:¬q->y=r->PB P ops Q cls n (i::os) ((s,.bool false)::fr) L):AtB ops i s (PB P ops Q cls n (i::os) fr L):=fun hg=>by
 by_cases h:q
 .exact Zx hg (by rw[hs,dT h]) (ht h (Qc h hx))
 .exact Zx hg (by rw[hs,dF h]) (hf h (Acf h hx))
theorem Cb2(hx:(if q then x else y)=r)(hs:look fr s=some (.bool (!decide q)))(ht:¬q->y=r->PB P ops Q cls n (i::os) ((s,.bool true)::fr) L)(hf:q->x=r->PB P ops Q cls n (i::os) ((s,.bool false)::fr) L):AtB ops i s (PB P ops Q cls n (i::os) fr L):=fun hg=>by
 by_cases h:q
 .exact Zx hg (by rw[hs,dT h];rfl) (hf h (Qc h hx))
 .exact Zx hg (by rw[hs,dF h];rfl) (ht h (Acf h hx))
end
theorem S_c{s:Nat}{c1 c2:Code}(k:AtS s (T n ((Code.cond (.tmp s) c1 c2).wp P Q) fr L)):T n ((Code.cond (.tmp s) c1 c2).wp P Q) fr L:=k
theorem S_g{s j:Nat}{b:Bool}(hj:(ops[j]?).bind (·.dst)=some s)(k:AtS s (T n (wpList P ops Q (⟨dst,op,ty,pos,after,some (j,b)⟩ :: rest)) fr L)):T n (wpList P ops Q (⟨dst,op,ty,pos,after,some (j,b)⟩ :: rest)) fr L:=k
theorem S_b{s j:Nat}{b:Bool}(ho:ops[i]? = some ⟨dst,op,ty,pos,after,some (j,b)⟩)(hj:(ops[j]?).bind (·.dst)=some s)(k:AtB ops i s (PB P ops Q cls n (i::os) fr L)):PB P ops Q cls n (i::os) fr L:=k ⟨_,_,ho,rfl⟩
end
theorem Has.rowW{α:Type}{enc:α->LV}{L:LE}{w:World}{A m c r sz}{l:List α}(hw:Heap L w)(hk:AtE L (.r A m c r sz (l.flatMap enc)))(hz:Nat.blt 0 sz=true)(he:∀x,(enc x).length=sz):Has L A m c sz enc l:=by
 obtain⟨_,hk⟩:=hk.nth;exact (Has.ofRow (Nat.le_of_ble_eq_true hz) he (hw.ok _ (Ee hk))).up (SubE.nth hk)
theorem Has.mW{α:Type}{enc:α->LV}{L:LE}{w:World}{g q sz:Nat}{t:TypeId}{cs:LV}{l:List α}(hw:Heap L w)(hk:AtE L (.m g t cs))(hc:cs=l.flatMap enc)(hn:l.length=q)(he:∀x,(enc x).length=sz)(hm:Nat.ble q 1000=true):Has L (some ⟨g,0,none⟩) q q sz enc l:=by
 obtain⟨_,hk⟩:=hk.nth;exact (Has.ofM (fun x _=>he x) hn (by have:=Nat.le_of_ble_eq_true hm;unfold maxLen;omega) hc).up (SubE.nth hk)
theorem hA{α:Type}{enc:α->LV}{L:LE}{w:World}{A m c sz}{l:List α}(hw:Heap L w)(h:Has L A m c sz enc l:=by
 first
 |exact Has.rowW hw aT rfl (fun _=>rfl)
 |exact Has.up (by exact aS) sU
 |exact Has.mW hw aT rfl rfl (fun _=>rfl) rfl
 |exact Has.nil):Has L A m c sz enc l:=h
theorem hP{L:LE}{b o:Nat}{ys:LV}(h:Pt L b o ys:=by
 first
 |exact Pt.mA aT
 |exact Pt.upS (by exact aS) sU):Pt L b o ys:=h
theorem hM{κ υ:Type}{P:Program}{k:TypeId}{ke:κ->Value}{ve:υ->Value}{g:Nat}{m:List (κ×υ)}{L:LE}(h:MapK L P k ke ve g m:=by first|exact MapK.mA aT|exact MapK.upS (by exact aS) sU):MapK L P k ke ve g m:=h
theorem hB{α:Type}{enc:α->LV}{K L:LE}{w:World}{A m c sz}{l:List α}(hw:Heap L w)(h:Has K A m c sz enc l:=by
 first
 |with_reducible assumption
 |exact Has.row1 hw aT rfl (fun _=>rfl)
 |exact Has.m1 hw aT rfl rfl (fun _=>rfl) rfl
 |exact Has.nil):Has K A m c sz enc l:=h
theorem hZ{α:Type}{enc:α->LV}{K L es:LE}{w:World}{A m c sz}{l:List α}(hw:Heap L w)(h:Has (K++[bun es]) A m c sz enc l:=by
 first
 |exact Has.nil
 |exact Has.up (by exact aS) (SubE.bunR sW)
 |exact Has.up (Has.row1 hw aT rfl (fun _=>rfl)) (SubE.bunR sW)
 |exact Has.up (Has.m1 hw aT rfl rfl (fun _=>rfl) rfl) (SubE.bunR sW)):Has (K++[bun es]) A m c sz enc l:=h
theorem evB{G:Prop}(h:G:=by
 first
 |((with_reducible apply At6);exact rfl)
 |((with_reducible apply Aqx);exact rfl)
 |(with_reducible apply Ayb);(first
  |((with_reducible apply At7);exact rfl;exact aT;exact rfl)
  |((with_reducible apply Aub);exact rfl;exact aT;exact dZ;exact aS)
  |((with_reducible apply At8);exact rfl;exact aT;exact rfl)
  |((with_reducible apply Bc2);exact rfl;exact aS;exact sU;exact rfl)
  |((with_reducible apply Bc3);exact rfl;exact aS;exact sU;exact rfl)
  |((with_reducible apply Ba4);exact rfl;exact aS;exact sU;exact rfl)
  |fail)
 |(with_reducible apply Ba3);(first
  |((with_reducible apply Ayf);exact rfl;exact rfl;exact iI)
  |((with_reducible apply Aw6) <;> exact rfl)
  |((with_reducible apply Acb) <;> exact rfl)
  |((with_reducible apply Ahf) <;> exact rfl)
  |((with_reducible apply Ahg) <;> exact rfl)
  |((with_reducible apply Axb) <;> exact rfl)
  |((with_reducible apply Axa) <;> exact rfl)
  |((with_reducible apply Aw8) <;> exact rfl)
  |((with_reducible apply Aw7) <;> exact rfl)
  |((with_reducible apply Aw9) <;> exact rfl)
  |((with_reducible apply Ba6);exact rfl;exact rfl;exact iI)
  |((with_reducible apply Ba7);exact rfl;exact rfl;exact iI)
  |((with_reducible apply Ba8) <;> exact rfl)
  |((with_reducible apply Ba9) <;> exact rfl)
  |((with_reducible apply Akg);exact rfl;exact rfl;first|exact aS|decide)
  |((with_reducible apply Aoq);exact rfl;exact rfl;first|exact aS|decide)
  |((with_reducible apply Aer);exact rfl;exact rfl;first|exact aS|decide)
  |((with_reducible apply Xx);exact rfl;exact rfl;first|decide|exact aS)
  |((with_reducible apply Acg);exact rfl;exact rfl;first|decide|exact aS)
  |((with_reducible apply Aeo) <;> exact rfl)
  |((with_reducible apply Aes) <;> exact rfl)
  |((with_reducible apply Aep) <;> exact rfl)
  |((with_reducible apply Aet) <;> exact rfl)
  |((with_reducible apply Aeq) <;> exact rfl)
  |((with_reducible apply Aeu) <;> exact rfl)
  |((with_reducible apply Aea) <;> exact rfl)
  |((with_reducible apply Afu) <;> exact rfl)
  |((with_reducible apply Aeb) <;> exact rfl)
  |fail)
 |((with_reducible apply Sk);exact rfl)
 |((with_reducible apply Aw5);exact rfl)
 |(with_reducible apply Ayd);(first
  |((with_reducible apply Ba5);exact rfl)
  |((with_reducible apply Ayk);exact rfl;exact aT)
  |((with_reducible apply Aqy) <;> exact rfl)
  |((with_reducible apply Aqz) <;> exact rfl)
  |fail)
 |(with_reducible apply Ayc);(first
  |((with_reducible apply Bba);exact rfl)
  |((with_reducible apply Ayg);exact rfl)
  |((with_reducible apply Ayh);exact rfl)
  |fail)
 |((with_reducible apply Ang) <;> exact rfl)
 |((with_reducible apply Amh) <;> exact rfl)
 |((with_reducible apply Ami) <;> exact rfl)
 |((with_reducible apply At9);exact rfl;exact iI)
 |((with_reducible apply Bbc);exact rfl;exact rfl;decide;decide;exact rfl)
 |((with_reducible apply Ayi);exact rfl;exact rfl;exact aS;exact rfl)
 |((with_reducible apply Ayj);exact rfl;exact rfl)
 |((with_reducible apply Auc);exact rfl;exact aT;exact rfl;exact iI;exact aS;exact aS;exact rfl)
 |((with_reducible apply Arr);exact rfl;exact aT;exact rfl;exact iI;exact aS;exact aS;exact rfl)
 |((with_reducible apply Aue);exact rfl;exact aT;exact rfl;exact iI;exact aS;exact aS;exact rfl)
 |((with_reducible apply Aud);exact rfl;exact aT;exact iI;exact iI)
 |((with_reducible apply Arq);exact rfl;exact iI)
 |((with_reducible apply Aye);exact rfl;exact rfl;exact iI;(first|exact aS|exact rfl);exact iI)
 |((with_reducible apply Aev);exact rfl)
 |((with_reducible apply Ahh);exact rfl)
 |((with_reducible apply Amu);exact rfl)
 |((with_reducible apply Aew);exact rfl)
 |((with_reducible apply Aq9);exact rfl)
 |fail):G:=h
theorem cP1{G:Prop}(h:G:=by first|exact rfl|exact⟨_,_,rfl,hA hw,trivial⟩|exact⟨_,_,_,_,rfl,hA hw,hA hw,trivial⟩|exact⟨_,_,_,_,_,_,rfl,hA hw,hA hw,hA hw,trivial⟩|exact⟨_,_,_,_,_,_,_,_,rfl,hA hw,hA hw,hA hw,hA hw,trivial⟩|exact⟨_,_,_,_,_,_,_,_,_,_,rfl,hA hw,hA hw,hA hw,hA hw,hA hw,trivial⟩|exact⟨_,_,_,_,_,_,_,_,_,_,_,_,rfl,hA hw,hA hw,hA hw,hA hw,hA hw,hA hw,trivial⟩|exact⟨_,_,_,_,_,_,_,_,_,_,_,_,_,_,rfl,hA hw,hA hw,hA hw,hA hw,hA hw,hA hw,hA hw,trivial⟩|exact⟨_,_,_,_,_,_,_,_,_,_,_,_,_,_,_,_,rfl,hA hw,hA hw,hA hw,hA hw,hA hw,hA hw,hA hw,hA hw,trivial⟩|exact⟨_,_,_,_,_,_,_,_,_,_,_,_,_,_,_,_,_,_,_,_,_,_,_,_,rfl,hA hw,hA hw,hA hw,hA hw,hA hw,hA hw,hA hw,hA hw,hA hw,hA hw,hA hw,hA hw,trivial⟩|exact⟨_,_,_,_,_,rfl,hP,hA hw,trivial⟩|exact⟨_,rfl,hP,trivial⟩|exact⟨_,_,rfl,hP,trivial⟩|exact⟨_,_,_,rfl,hP,hA hw,trivial⟩|exact⟨_,_,_,_,rfl,hA hw,hP,hP,trivial⟩|exact⟨_,_,rfl,HasN.inOld (by exact aS) (by exact aS) aT,trivial⟩|exact⟨_,_,_,_,rfl,hA hw,HasN.inOld (by exact aS) (by exact aS) aT,trivial⟩|exact⟨_,_,_,_,_,_,rfl,hA hw,hA hw,HasN.inOld (by exact aS) (by exact aS) aT,trivial⟩|exact⟨_,_,_,_,_,_,_,_,_,_,rfl,hP,hA hw,hA hw,hA hw,hM,hM,hM,trivial⟩|exact⟨_,_,rfl,HasN.mW hw aT (.cons ⟨_,_,_,_,rfl,hA hw,hA hw⟩ rfl (.cons ⟨_,_,_,_,rfl,hA hw,hA hw⟩ rfl .nil)) rfl,trivial⟩):G:=h
theorem cP{G:Prop}(h:G:=by (intro _ hw;first|exact cP1|(simp only[Je,Do];exact cP1))):G:=h
theorem cB1{G:Prop}(h:G:=by first|exact⟨_,_,rfl,hB hw,trivial⟩|exact⟨_,_,_,_,rfl,(hB hw).inl,(hB hw).inr,trivial⟩|exact⟨_,_,_,_,_,_,rfl,(hB hw).inl,(hB hw).inl.inr,(hB hw).inr.inr,trivial⟩|exact⟨_,_,_,_,_,_,_,_,rfl,(hB hw).inl,(hB hw).inl.inr,(hB hw).inl.inr.inr,(hB hw).inr.inr.inr,trivial⟩|exact rfl):G:=h
theorem cB{G:Prop}(h:G:=by (intro _ hw;first|exact cB1|(simp only[Je,Do];exact cB1))):G:=h
theorem pre{G G':Prop}(k:G')(h:Wr G'->G:=by
 intro k;have _:Mark:=⟨trivial⟩;have hx:=hx
 repeat1' (first
  |((with_reducible apply Bam))
  |((with_reducible apply Awx))
  |((with_reducible apply Ban))
  |((with_reducible apply Aya);(first
   |((with_reducible apply Ay);exact evB;exact rfl)
   |((with_reducible apply Bc4);exact rfl;exact aT;exact rfl;exact aS;exact rfl;exact rfl;exact (fun _=>rfl);intro _ _ _ _)
   |((with_reducible apply T_ix);exact rfl;exact rfl;exact aS;exact aS;exact rfl;intro _ _ _ _)
   |((with_reducible apply Ayl);exact rfl;exact aT;exact rfl;exact aS;exact rfl;exact rfl;exact (fun _=>rfl);intro _)
   |((with_reducible apply Aui);exact rfl;exact rfl;exact aS;exact aS;exact rfl;intro _)
   |((with_reducible apply Ayp);exact rfl;exact aT;exact rfl;exact aS;exact rfl;exact rfl;exact (fun _=>rfl);intro _)
   |((with_reducible apply Auk);exact rfl;exact rfl;exact aS;exact aS;exact rfl;intro _)
   |((with_reducible apply Aqt);(iterate 5 exact rfl))
   |((with_reducible apply Pv);(iterate 3 exact rfl);exact evB;exact rfl)
   |((with_reducible apply Ao9);(iterate 4 exact rfl))
   |((with_reducible apply Bbb);(iterate 4 exact rfl);exact aT;exact rfl;exact aS;exact rfl;exact rfl;exact (fun _=>rfl);intro _ _ _ _)
   |((with_reducible apply Az6);(iterate 5 exact rfl);exact aS;exact aS;exact rfl;intro _ _ _ _)
   |((with_reducible apply Bc7);exact rfl;exact rfl;exact aS;exact aS;exact iI;exact aS;exact rfl;(first|rintro _ _ _ ⟨_,_,rfl,_⟩ _|rintro _ _ _ ⟨_,_,_,_,rfl,_,_⟩ _|rintro _ _ _ ⟨_,_,_,_,_,_,rfl,_,_,_⟩ _|rintro _ _ _ ⟨_,_,_,_,_,_,_,_,rfl,_,_,_,_⟩ _))
   |fail))
  |((with_reducible apply Is_b);(first
   |((with_reducible apply B_p);exact rfl;exact rfl;exact wW;exact evB;exact rfl)
   |((with_reducible apply B_q);exact rfl;exact rfl;exact wW;exact evB;exact rfl)
   |((with_reducible apply Bci);(iterate 7 exact rfl))
   |((with_reducible apply Azf);(iterate 6 exact rfl))
   |((with_reducible apply Bc5);exact rfl;exact rfl;exact wW;exact rfl;exact aT;exact rfl;exact aS;exact iI;exact rfl;exact rfl;exact (fun _=>rfl);intro _ _ _ _)
   |((with_reducible apply B_ix);exact rfl;exact rfl;exact wW;exact rfl;exact rfl;exact aS;exact aS;exact iI;exact rfl;intro _ _ _ _)
   |((with_reducible apply B_al);exact rfl;exact rfl;exact iI;exact rfl;intro _)
   |((with_reducible apply Bc8);exact rfl;exact rfl;exact wW;exact rfl;exact rfl;exact aS;exact aS;exact iI;exact aS;exact iI;exact rfl;(first|rintro _ _ _ ⟨_,_,rfl,_⟩ _|rintro _ _ _ ⟨_,_,_,_,rfl,_,_⟩ _|rintro _ _ _ ⟨_,_,_,_,_,_,rfl,_,_,_⟩ _|rintro _ _ _ ⟨_,_,_,_,_,_,_,_,rfl,_,_,_,_⟩ _))
   |fail))
  |((first|(with_reducible apply T_x)|((with_reducible apply B_x);exact rfl;exact rfl;exact wW;intro _)|((with_reducible apply T_xG);(iterate 3 exact rfl)));(first|((with_reducible apply Aac);(iterate 3 exact rfl);intro _)|((with_reducible apply Ak7);exact rfl;intro _)|((with_reducible apply Ah5);exact rfl;exact iI;exact rfl;intro _)|((with_reducible apply Apg);exact aS;exact rfl;exact cP;exact rfl;(first|rintro _ _ ⟨rfl,rfl,-⟩;with_reducible apply Adk|rintro _ _ ⟨_,rfl,rfl,-⟩;with_reducible apply Qd|rintro _ _ ⟨_,_,rfl,rfl,-⟩;with_reducible apply Qd|rintro _ _ ⟨_,_,_,_,rfl,rfl,-⟩;with_reducible apply Abs|rintro _ _ ⟨_,_,_,_,_,_,rfl,rfl,-⟩;with_reducible apply Rv|rintro _ _ ⟨_,_,_,_,_,_,_,_,rfl,rfl,-⟩;with_reducible apply Afs|rintro _ _ ⟨_,_,_,_,_,_,_,_,_,_,_,_,rfl,rfl,-⟩;with_reducible apply Atw))|((with_reducible apply Ak9);exact aS;exact rfl;exact rE;exact (fun _=>rfl);exact rfl;exact rfl)|((with_reducible apply Ak8);exact aS;exact rfl;exact cB;exact sU;exact rfl;(first|rintro _ _ hlo ⟨_,_,_,rfl,rfl,h⟩|rintro _ _ hlo ⟨_,_,_,_,_,rfl,rfl,h⟩|rintro _ _ hlo ⟨_,_,_,_,_,_,_,rfl,rfl,h⟩|rintro _ _ hlo ⟨_,_,_,_,_,_,_,_,_,rfl,rfl,h⟩);(first|(with_reducible apply Qd)|(with_reducible apply Abs));revert h;(repeat ((with_reducible refine Pa ?_);intro _));(with_reducible refine Pt' ?_);revert hlo;(first|(with_reducible refine Lo1 ?_)|(with_reducible refine Lo2 ?_));intro _)|((with_reducible apply Auh);(iterate 3 exact rfl);exact aS;exact rfl;exact rfl;exact (fun _=>rfl);exact rfl;intro _)|((with_reducible apply Af1);exact rfl;intro _)|((with_reducible apply Zd);exact evB;exact rfl)))
  |((first|(with_reducible apply T_h)|((with_reducible apply B_h);exact rfl;exact rfl;exact wW));(first|((with_reducible apply Ah4);exact rfl;exact rfl;exact aS;exact rE;(first|exact rfl|(simp only[Je]));exact rfl;exact iI;exact (fun _=>rfl);exact rfl;exact rfl)|((with_reducible apply Acj);(iterate 4 exact rfl);exact sA;exact sP;exact rfl;exact rfl)|((with_reducible apply Apf);exact rfl;exact rfl;exact rE;exact iI;exact aS;exact (fun _=>rfl);(iterate 3 exact rfl);intro _ _)|((with_reducible apply Auf);(iterate 3 exact rfl);exact rE;exact iI;exact iI;exact aS;exact aS)|((with_reducible apply Aug);exact rfl;exact rfl;exact rE;exact iI;exact aS)|((with_reducible apply Apj);exact rfl;exact rfl;exact rE;exact aT;exact dL;exact rfl;exact aS;exact (fun _=>rfl);(iterate 3 exact rfl);intro _ _)|((with_reducible apply Ajf);exact rfl;exact rfl;exact rE;exact aS;exact sU;exact aS;exact (fun _=>rfl);exact (fun _=>rfl);exact rfl;exact rfl;intro _ _)|((with_reducible apply Alb);exact rfl;exact rfl;exact rE;exact aT;exact aS;exact (fun _=>rfl);exact (fun _=>rfl);(iterate 3 exact rfl);intro _ _)|((with_reducible apply Aul);exact rfl;exact iI;exact rE;exact aS;exact rfl)|((with_reducible apply Ala);exact aS;exact rfl;exact shK;exact pK;(intro _ hw;first|exact trivial|exact⟨hB hw,trivial⟩|exact⟨hB hw,hB hw,trivial⟩);exact sU;exact rfl;(first|rintro _ _ ⟨rfl,rfl,h⟩|rintro _ _ ⟨_,_,rfl,rfl,h⟩|rintro _ _ ⟨_,_,_,_,rfl,rfl,h⟩);(first|(with_reducible apply Rv)|(with_reducible apply Qd)|(with_reducible apply Abs)|(with_reducible apply Afs));revert h;(repeat ((with_reducible refine Pa ?_);intro _));(with_reducible refine Pt' ?_))))
  |((with_reducible apply Bd9);exact pZ)
  |((with_reducible apply T_nb))
  |((fail_if_success (with_reducible (first|have:=Az5 hx|have:=Bc1 hx)));(with_reducible apply Beb 9))
  |((with_reducible apply Bck))
  |((with_reducible apply Ayq))
  |(with_reducible (refine Baz hx (by exact aS) ?_;clear hx;intro _ hx))
  |(with_reducible (replace hx:=Ba0 hx (by exact aS)))
  |((fail_if_success (with_reducible (have:=At5 hx)));(with_reducible apply Bk))
  |((with_reducible apply Aqv);exact rfl)
  |((with_reducible apply Aqw);exact rfl)
  |((with_reducible apply Awz))
  |((with_reducible apply Aw0))
  |((with_reducible apply Atp))
  |((with_reducible apply Ato))
  |((with_reducible apply Aqu))
  |((with_reducible apply Az2))
  |((with_reducible apply Az1))
  |((with_reducible apply Awy))
  |((with_reducible apply Aw1))
  |((with_reducible apply Bch))
  |((with_reducible apply Aw2);exact rfl)
  |((with_reducible apply T_dl);exact aS;kernel_rfl;kernel_rfl;kernel_rfl;kernel_rfl;exact aL)
  |((with_reducible apply T_dp);exact aS;kernel_rfl;kernel_rfl)
  |(with_reducible (replace hx:=Ax9 hx (by exact aS)))
  |(with_reducible (refine Ayn hx ?_;clear hx;intro _ _ _ _ hx))
  |(with_reducible (refine Bay hx ?_;clear hx;intro _ _ _ hx))
  |(with_reducible (refine Aym hx ?_;clear hx;intro _ _ _ hx))
  |(with_reducible (refine Ayo hx ?_;clear hx;intro _ _ _ hx))
  |((fail_if_success (with_reducible (have:=Az5 hx)));with_reducible (refine At4 hx ?_;clear hx;intro _ _ hx))
  |(with_reducible (refine Bc0 hx ?_;clear hx;intro _ hx))
  |(with_reducible (replace hx:=Ba1 hx))
  |(with_reducible (replace hx:=Ba2 hx))
  |(with_reducible (replace hx:=Bcj (by exact aS) hx);(try dsimp only at hx))
  |fail)
 revert hx
 repeat (rename_i z;revert z;fail_if_success (show Mark->_))
 exact k.out):G:=h ⟨k⟩
theorem pq{G G':Prop}(k:G')(h:Wr G'->G:=by
 intro k;first|exact pre k.out|(have hx:=hx;revert hx;exact k.out)):G:=h ⟨k⟩
theorem pI{α:Sort _}{B G G':α->Prop}(k:∀j,G' j)(h:∀j,Wr (G' j)->B j->G j:=by intro j k hx;exact pq k.out):∀j,B j->G j:=fun j=>h j ⟨k j⟩
theorem pA{G G':Prop}(k:G')(h:Wr G'->G:=by intro k;apply Bk;exact pq k.out):G:=h ⟨k⟩
theorem au{G:Prop}(h:G:=by
 repeat' first
  |(refine pre ?_;intros;rename_i hx)
  |((with_reducible apply S_g);exact rfl;(first|(refine Cq1 hx rfl ?_ ?_)|(refine Cq3 hx rfl ?_ ?_)|(refine Cq2 hx rfl ?_ ?_)|(refine Cq4 hx rfl ?_ ?_)|(refine Cq1e hx rfl cQ ?_ ?_)) <;> (clear hx;intro _ hx))
  |((with_reducible apply S_b);exact rfl;exact rfl;(first|(refine Cb1 hx rfl ?_ ?_)|(refine Cb3 hx rfl ?_ ?_)|(refine Cb2 hx rfl ?_ ?_)|(refine Cb4 hx rfl ?_ ?_)) <;> (clear hx;intro _ hx))
  |((with_reducible apply Is_p);(first
   |(with_reducible apply Am9)
   |(with_reducible apply Oh)
   |((with_reducible apply P_p0);exact rfl;exact rfl;exact evB;exact rfl)
   |((with_reducible apply P_q0);exact rfl;exact rfl;exact evB;exact rfl;exact rfl)
   |((with_reducible apply Bc9);(iterate 4 exact rfl);exact aS;exact aS;exact iI;exact aS;exact iI;exact rfl;(first|rintro _ _ _ ⟨_,_,rfl,_⟩ _|rintro _ _ _ ⟨_,_,_,_,rfl,_,_⟩ _|rintro _ _ _ ⟨_,_,_,_,_,_,rfl,_,_,_⟩ _|rintro _ _ _ ⟨_,_,_,_,_,_,_,_,rfl,_,_,_,_⟩ _))
   |((with_reducible apply P_x);exact rfl;(first|((with_reducible apply Aac);(iterate 3 exact rfl);intro _)|((with_reducible apply Ak7);exact rfl;intro _)|((with_reducible apply Ah5);exact rfl;exact iI;exact rfl;intro _)|((with_reducible apply Apg);exact aS;exact rfl;exact cP;exact rfl;(first|rintro _ _ ⟨rfl,rfl,-⟩;with_reducible apply Adk|rintro _ _ ⟨_,rfl,rfl,-⟩;with_reducible apply Qd|rintro _ _ ⟨_,_,rfl,rfl,-⟩;with_reducible apply Qd|rintro _ _ ⟨_,_,_,_,rfl,rfl,-⟩;with_reducible apply Abs|rintro _ _ ⟨_,_,_,_,_,_,rfl,rfl,-⟩;with_reducible apply Rv|rintro _ _ ⟨_,_,_,_,_,_,_,_,rfl,rfl,-⟩;with_reducible apply Afs|rintro _ _ ⟨_,_,_,_,_,_,_,_,_,_,_,_,rfl,rfl,-⟩;with_reducible apply Atw))|((with_reducible apply Ak9);exact aS;exact rfl;exact rE;exact (fun _=>rfl);exact rfl;exact rfl)|((with_reducible apply Ak8);exact aS;exact rfl;exact cB;exact sU;exact rfl;(first|rintro _ _ hlo ⟨_,_,_,rfl,rfl,h⟩|rintro _ _ hlo ⟨_,_,_,_,_,rfl,rfl,h⟩|rintro _ _ hlo ⟨_,_,_,_,_,_,_,rfl,rfl,h⟩|rintro _ _ hlo ⟨_,_,_,_,_,_,_,_,_,rfl,rfl,h⟩);(first|(with_reducible apply Qd)|(with_reducible apply Abs));revert h;(repeat ((with_reducible refine Pa ?_);intro _));(with_reducible refine Pt' ?_);revert hlo;(first|(with_reducible refine Lo1 ?_)|(with_reducible refine Lo2 ?_));intro _)|((with_reducible apply Auh);(iterate 3 exact rfl);exact aS;exact rfl;exact rfl;exact (fun _=>rfl);exact rfl;intro _)|((with_reducible apply Af1);exact rfl;intro _)|((with_reducible apply Zd);exact evB;exact rfl)))
   |((with_reducible apply P_h);exact rfl;exact rfl;(first|((with_reducible apply Ah4);exact rfl;exact rfl;exact aS;exact rE;(first|exact rfl|(simp only[Je]));exact rfl;exact iI;exact (fun _=>rfl);exact rfl;exact rfl)|((with_reducible apply Acj);(iterate 4 exact rfl);exact sA;exact sP;exact rfl;exact rfl)|((with_reducible apply Apf);exact rfl;exact rfl;exact rE;exact iI;exact aS;exact (fun _=>rfl);(iterate 3 exact rfl);intro _ _)|((with_reducible apply Auf);(iterate 3 exact rfl);exact rE;exact iI;exact iI;exact aS;exact aS)|((with_reducible apply Aug);exact rfl;exact rfl;exact rE;exact iI;exact aS)|((with_reducible apply Apj);exact rfl;exact rfl;exact rE;exact aT;exact dL;exact rfl;exact aS;exact (fun _=>rfl);(iterate 3 exact rfl);intro _ _)|((with_reducible apply Ajf);exact rfl;exact rfl;exact rE;exact aS;exact sU;exact aS;exact (fun _=>rfl);exact (fun _=>rfl);exact rfl;exact rfl;intro _ _)|((with_reducible apply Alb);exact rfl;exact rfl;exact rE;exact aT;exact aS;exact (fun _=>rfl);exact (fun _=>rfl);(iterate 3 exact rfl);intro _ _)|((with_reducible apply Aul);exact rfl;exact iI;exact rE;exact aS;exact rfl)|((with_reducible apply Ala);exact aS;exact rfl;exact shK;exact pK;(intro _ hw;first|exact trivial|exact⟨hB hw,trivial⟩|exact⟨hB hw,hB hw,trivial⟩);exact sU;exact rfl;(first|rintro _ _ ⟨rfl,rfl,h⟩|rintro _ _ ⟨_,_,rfl,rfl,h⟩|rintro _ _ ⟨_,_,_,_,rfl,rfl,h⟩);(first|(with_reducible apply Rv)|(with_reducible apply Qd)|(with_reducible apply Abs)|(with_reducible apply Afs));revert h;(repeat ((with_reducible refine Pa ?_);intro _));(with_reducible refine Pt' ?_))))
   |fail))
  |((with_reducible apply Bk))
  |((with_reducible apply S_c);(first|(refine Cq1 hx rfl ?_ ?_)|(refine Cq3 hx rfl ?_ ?_)|(refine Cq2 hx rfl ?_ ?_)|(refine Cq4 hx rfl ?_ ?_)|(refine Cq1e hx rfl cQ ?_ ?_)) <;> (clear hx;intro _ hx))
  |(with_reducible (refine At4 hx ?_;clear hx;intro _ _ hx))
  |(with_reducible (replace hx:=At5 hx);(try dsimp only at hx))
  |(((with_reducible (have e:=oI hx));subst e;(with_reducible apply Af2);exact rS;(first|exact rP|(simp only[Do];exact rP));exact lO;exact pK))
  |(((with_reducible (have e:=oI hx));subst e;apply Bf;(with_reducible apply Af2);exact rS;(first|exact rP|(simp only[Do];exact rP));exact lO;exact pK))
  |(((with_reducible (have e:=oI hx));subst e;apply Bf;apply Bf;(with_reducible apply Af2);exact rS;(first|exact rP|(simp only[Do];exact rP));exact lO;exact pK))
  |(((with_reducible (have e:=oI hx));subst e;apply Bf;apply Bf;apply Bf;(with_reducible apply Af2);exact rS;(first|exact rP|(simp only[Do];exact rP));exact lO;exact pK))
  |(((with_reducible (have e:=oI hx));subst e;apply Bf;apply Bf;apply Bf;apply Bf;(with_reducible apply Af2);exact rS;(first|exact rP|(simp only[Do];exact rP));exact lO;exact pK))
  |(((with_reducible (have e:=oI hx));subst e;(with_reducible apply Aph);exact rS;(first|exact rPK|(simp only[Do];exact rPK));exact pK))
  |(((with_reducible (have e:=oI hx));subst e;apply Bf;(with_reducible apply Aph);exact rS;(first|exact rPK|(simp only[Do];exact rPK));exact pK))
  |(((with_reducible (have e:=oI hx));subst e;(with_reducible apply Api);exact rS;(first|exact rPK|(simp only[Do];exact rPK));exact pK))
  |(((with_reducible (have e:=oI hx));subst e;apply Bf;(with_reducible apply Api);exact rS;(first|exact rPK|(simp only[Do];exact rPK));exact pK))
  |(((with_reducible (have e:=oI hx));subst e;(with_reducible apply Bbe);exact rS;exact spt;exact lB;intro _ hw;first|exact⟨_,_,_,rfl,rfl,hZ hw,trivial⟩|exact⟨_,_,_,_,_,rfl,rfl,hZ hw,hZ hw,trivial⟩|exact⟨_,_,_,_,_,_,_,rfl,rfl,hZ hw,hZ hw,hZ hw,trivial⟩|exact⟨_,_,_,_,_,_,_,_,_,rfl,rfl,hZ hw,hZ hw,hZ hw,hZ hw,trivial⟩))
  |(((with_reducible (have e:=oI hx));subst e;(with_reducible apply Aum);exact rS;(intro _ hw;refine⟨_,_,_,_,_,rfl,rfl,?_,trivial⟩);rotate_left;exact rmE;exact spt;exact rfl;exact lB;exact hZ hw))
  |(((with_reducible (have e:=oI hx));subst e;apply Bf;(with_reducible apply Aum);exact rS;(intro _ hw;refine⟨_,_,_,_,_,rfl,rfl,?_,trivial⟩);rotate_left;exact rmE;exact spt;exact rfl;exact lB;exact hZ hw))
  |((exact Ma _ _ hx trivial sF pK))
  |((exact Ro _ _ hx trivial sF pK))
  |((exact Ma _ () hx trivial sF pK))
  |((exact Ro _ () hx trivial sF pK))
  |((apply Ma _ (_,_) hx trivial;(dsimp only;exact sF);(dsimp only;exact pK)))
  |((apply Bf;apply Ma _ (_,_) hx trivial;(dsimp only;exact sF);(dsimp only;exact pK)))
  |((apply Bf;apply Bf;apply Ma _ (_,_) hx trivial;(dsimp only;exact sF);(dsimp only;exact pK)))
  |((apply Ro _ (_,_) hx trivial;(dsimp only;exact sF);(dsimp only;exact pK)))
  |((apply Bf;apply Ro _ (_,_) hx trivial;(dsimp only;exact sF);(dsimp only;exact pK)))
  |((apply Bf;apply Bf;apply Ro _ (_,_) hx trivial;(dsimp only;exact sF);(dsimp only;exact pK)))
  |((apply Ma _ (_,_,_) hx trivial;(dsimp only;exact sF);(dsimp only;exact pK)))
  |((apply Bf;apply Ma _ (_,_,_) hx trivial;(dsimp only;exact sF);(dsimp only;exact pK)))
  |((apply Bf;apply Bf;apply Ma _ (_,_,_) hx trivial;(dsimp only;exact sF);(dsimp only;exact pK)))
  |((apply Ro _ (_,_,_) hx trivial;(dsimp only;exact sF);(dsimp only;exact pK)))
  |((apply Bf;apply Ro _ (_,_,_) hx trivial;(dsimp only;exact sF);(dsimp only;exact pK)))
  |((apply Bf;apply Bf;apply Ro _ (_,_,_) hx trivial;(dsimp only;exact sF);(dsimp only;exact pK)))
  |((apply Ma _ (_,_,_,_) hx trivial;(dsimp only;exact sF);(dsimp only;exact pK)))
  |((apply Bf;apply Ma _ (_,_,_,_) hx trivial;(dsimp only;exact sF);(dsimp only;exact pK)))
  |((apply Bf;apply Bf;apply Ma _ (_,_,_,_) hx trivial;(dsimp only;exact sF);(dsimp only;exact pK)))
  |((apply Ro _ (_,_,_,_) hx trivial;(dsimp only;exact sF);(dsimp only;exact pK)))
  |((apply Bf;apply Ro _ (_,_,_,_) hx trivial;(dsimp only;exact sF);(dsimp only;exact pK)))
  |((apply Bf;apply Bf;apply Ro _ (_,_,_,_) hx trivial;(dsimp only;exact sF);(dsimp only;exact pK)))
  |((apply Ma _ (_,_,_,_,_) hx trivial;(dsimp only;exact sF);(dsimp only;exact pK)))
  |((apply Bf;apply Ma _ (_,_,_,_,_) hx trivial;(dsimp only;exact sF);(dsimp only;exact pK)))
  |((apply Bf;apply Bf;apply Ma _ (_,_,_,_,_) hx trivial;(dsimp only;exact sF);(dsimp only;exact pK)))
  |((apply Ro _ (_,_,_,_,_) hx trivial;(dsimp only;exact sF);(dsimp only;exact pK)))
  |((apply Bf;apply Ro _ (_,_,_,_,_) hx trivial;(dsimp only;exact sF);(dsimp only;exact pK)))
  |((apply Bf;apply Bf;apply Ro _ (_,_,_,_,_) hx trivial;(dsimp only;exact sF);(dsimp only;exact pK)))
  |((apply Ma _ (_,_,_,_,_,_) hx trivial;(dsimp only;exact sF);(dsimp only;exact pK)))
  |((apply Bf;apply Ma _ (_,_,_,_,_,_) hx trivial;(dsimp only;exact sF);(dsimp only;exact pK)))
  |((apply Bf;apply Bf;apply Ma _ (_,_,_,_,_,_) hx trivial;(dsimp only;exact sF);(dsimp only;exact pK)))
  |((apply Ro _ (_,_,_,_,_,_) hx trivial;(dsimp only;exact sF);(dsimp only;exact pK)))
  |((apply Bf;apply Ro _ (_,_,_,_,_,_) hx trivial;(dsimp only;exact sF);(dsimp only;exact pK)))
  |((apply Bf;apply Bf;apply Ro _ (_,_,_,_,_,_) hx trivial;(dsimp only;exact sF);(dsimp only;exact pK)))
  |((apply Ma _ (_,_,_,_,_,_,_,_,_,_) hx trivial;(dsimp only;exact sF);(dsimp only;exact pK)))
  |((apply Ro _ (_,_,_,_,_,_,_,_,_,_) hx trivial;(dsimp only;exact sF);(dsimp only;exact pK)))
  |((apply Ma _ (_,_,_,_,_,_,_) hx trivial;(dsimp only;exact sF);(dsimp only;exact pK)))
  |((apply Bf;apply Bf;apply Bf;apply Ma _ (_,_,_,_,_,_,_) hx trivial;(dsimp only;exact sF);(dsimp only;exact pK)))
  |(((with_reducible apply MaG _ (_,_) hx);exact sF2;exact gG;exact pK2))
  |((refine Bf 0 1 ?_;(with_reducible apply MaG _ (_,_) hx);exact sF2;exact gG2;exact pK2))
  |(((with_reducible apply RoG _ (_,_) hx);exact sF2;exact gG;exact pK2))
  |((refine Bf 0 1 ?_;(with_reducible apply RoG _ (_,_) hx);exact sF2;exact gG2;exact pK2))
  |(((with_reducible apply MaG _ (_,_,_) hx);exact sF2;exact gG;exact pK2))
  |((refine Bf 0 1 ?_;(with_reducible apply MaG _ (_,_,_) hx);exact sF2;exact gG2;exact pK2))
  |(((with_reducible apply RoG _ (_,_,_) hx);exact sF2;exact gG;exact pK2))
  |((refine Bf 0 1 ?_;(with_reducible apply RoG _ (_,_,_) hx);exact sF2;exact gG2;exact pK2))
  |(((with_reducible apply MaG _ (_,_,_,_) hx);exact sF2;exact gG;exact pK2))
  |((refine Bf 0 1 ?_;(with_reducible apply MaG _ (_,_,_,_) hx);exact sF2;exact gG2;exact pK2))
  |(((with_reducible apply RoG _ (_,_,_,_) hx);exact sF2;exact gG;exact pK2))
  |((refine Bf 0 1 ?_;(with_reducible apply RoG _ (_,_,_,_) hx);exact sF2;exact gG2;exact pK2))
  |(((with_reducible apply MaG _ (_,_,_,_,_) hx);exact sF2;exact gG;exact pK2))
  |((refine Bf 0 1 ?_;(with_reducible apply MaG _ (_,_,_,_,_) hx);exact sF2;exact gG2;exact pK2))
  |(((with_reducible apply RoG _ (_,_,_,_,_) hx);exact sF2;exact gG;exact pK2))
  |((refine Bf 0 1 ?_;(with_reducible apply RoG _ (_,_,_,_,_) hx);exact sF2;exact gG2;exact pK2))
  |(((with_reducible apply MaG _ (_,_,_,_,_,_) hx);exact sF2;exact gG;exact pK2))
  |((refine Bf 0 1 ?_;(with_reducible apply MaG _ (_,_,_,_,_,_) hx);exact sF2;exact gG2;exact pK2))
  |(((with_reducible apply RoG _ (_,_,_,_,_,_) hx);exact sF2;exact gG;exact pK2))
  |((refine Bf 0 1 ?_;(with_reducible apply RoG _ (_,_,_,_,_,_) hx);exact sF2;exact gG2;exact pK2))
  |(((with_reducible apply MaG _ (_,_,_,_,_,_,_,_) hx);exact sF2;rotate_left;exact pK2;exact gG))
  |(((with_reducible apply RoG _ (_,_,_,_,_,_,_,_) hx);exact sF2;rotate_left;exact pK2;exact gG))
  |(((with_reducible apply MaG _ (_,_,_,_,_,_,_,_,_,_) hx);exact sF2;rotate_left;exact pK2;exact gG))
  |(((with_reducible apply RoG _ (_,_,_,_,_,_,_,_,_,_) hx);exact sF2;rotate_left;exact pK2;exact gG))
  |((refine Zz _ (_,_) hx (by exact aS) (by exact aS) rfl trivial (by exact sF2) (by exact pK2)))
  |((refine Zz _ (_,_,_) hx (by exact aS) (by exact aS) rfl trivial (by exact sF2) (by exact pK2)))
  |((refine Zz _ (_,_,_,_) hx (by exact aS) (by exact aS) rfl trivial (by exact sF2) (by exact pK2)))
  |((refine Zz _ (_,_,_,_,_) hx (by exact aS) (by exact aS) rfl trivial (by exact sF2) (by exact pK2)))
  |((refine Zz _ (_,_,_,_,_,_) hx (by exact aS) (by exact aS) rfl trivial (by exact sF2) (by exact pK2)))
  |((exact Ma _ _ hx trivial sF2 pK2))
  |((exact Ro _ _ hx trivial sF2 pK2))
  |((exact Ma _ () hx trivial sF2 pK2))
  |((exact Ro _ () hx trivial sF2 pK2))
  |((apply Ma _ (_,_) hx trivial;(dsimp only;exact sF2);(dsimp only;exact pK2)))
  |((apply Ro _ (_,_) hx trivial;(dsimp only;exact sF2);(dsimp only;exact pK2)))
  |((apply Ma _ (_,_,_) hx trivial;(dsimp only;exact sF2);(dsimp only;exact pK2)))
  |((apply Ro _ (_,_,_) hx trivial;(dsimp only;exact sF2);(dsimp only;exact pK2)))
  |((apply Ma _ (_,_,_,_) hx trivial;(dsimp only;exact sF2);(dsimp only;exact pK2)))
  |((apply Ro _ (_,_,_,_) hx trivial;(dsimp only;exact sF2);(dsimp only;exact pK2)))
  |((apply Ma _ (_,_,_,_,_) hx trivial;(dsimp only;exact sF2);(dsimp only;exact pK2)))
  |((apply Ro _ (_,_,_,_,_) hx trivial;(dsimp only;exact sF2);(dsimp only;exact pK2)))
  |((apply Ma _ (_,_,_,_,_,_) hx trivial;(dsimp only;exact sF2);(dsimp only;exact pK2)))
  |((apply Ro _ (_,_,_,_,_,_) hx trivial;(dsimp only;exact sF2);(dsimp only;exact pK2)))
  |(((with_reducible apply Ra);exact aT;exact rfl;exact (fun _=>rfl);intro _;(with_reducible apply RoG _ (_,_) hx);exact sF2;rotate_left;exact pK2;exact gG))
  |(((with_reducible apply Ra);exact aT;exact rfl;exact (fun _=>rfl);intro _;(with_reducible apply MaG _ (_,_) hx);exact sF2;rotate_left;exact pK2;exact gG))
  |(((with_reducible apply Ra);exact aT;exact rfl;exact (fun _=>rfl);intro _;(with_reducible apply RoG _ (_,_,_) hx);exact sF2;rotate_left;exact pK2;exact gG))
  |(((with_reducible apply Ra);exact aT;exact rfl;exact (fun _=>rfl);intro _;(with_reducible apply MaG _ (_,_,_) hx);exact sF2;rotate_left;exact pK2;exact gG))
  |(((with_reducible apply Ra);exact aT;exact rfl;exact (fun _=>rfl);intro _;(with_reducible apply RoG _ (_,_,_,_) hx);exact sF2;rotate_left;exact pK2;exact gG))
  |(((with_reducible apply Ra);exact aT;exact rfl;exact (fun _=>rfl);intro _;(with_reducible apply MaG _ (_,_,_,_) hx);exact sF2;rotate_left;exact pK2;exact gG))
  |fail):G:=h
theorem aI{G:Prop}(h:G:=by intros;rename_i hx;exact au):G:=h
end Go.Proofs.YtlejkgngmjchdaaGreat
