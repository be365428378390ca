import Derived.Test.YthlkpgdfifnagaaGreatDraw2
set_option maxRecDepth 100000
namespace Go.Proofs.YthlkpgdfifnagaaGreat
open Go Go.RowKit
class Bt(P:Program)(s:TypeId)(f:Nat)(off:outParam Nat):Prop where
 h:Xg P s f off
class OneI(P:Program)(t:TypeId):Prop where
 h:Zp P t
class AggI(P:Program)(t:TypeId)(k:outParam Nat):Prop where
 h:Zo P t k
class Kt(P:Program)(t:TypeId)(e sz:outParam Nat):Prop where
 h:Po P t e sz
class Ad9(P:Program)(t:TypeId)(e sz bytes:outParam Nat):Prop where
 h:Ab4 P t e sz bytes
class Ur(P:Program)(t:TypeId)(cs:outParam LV):Prop where
 h:Xw P t cs
class Ji(P:Program)(t:TypeId)(ps:lF)(cs:outParam LV):Prop where
 h:Aik P t ps cs
class Oo(P:Program)(t:TypeId)(len:Nat)(ps:lF)(e:outParam TypeId)(cs:outParam LV):Prop where
 h:Ov P t len ps e cs
class Ano(P:Program)(s:TypeId)(xs:LV)(f:Nat)(v:outParam Value):Prop where
 h:Axs P s xs f v
class UndI(P:Program)(t:TypeId)(u:outParam TypeDesc):Prop where
 h:P.underlying t=some u
class EqSI(P:Program)(t:TypeId)(xs ys:LV)(r:outParam Bool):Prop where
 h:∀w,(Op.equalIn 10000 t (.agg xs.toArray) (.agg ys.toArray)).run P w=.ok r w
 g:P.eqGuardType P.depth t=false
class ArrI(P:Program)(t:TypeId)(m sz:outParam Nat):Prop where
 h:Api P t m sz
class MixI(P:Program):Prop where
 h:P.follows .mixedOrders=true
class EncI(t:TypeId){α:outParam Type}(enc:outParam (α->LV)):Prop where
 h:True
class DecI{α:Type}(enc:α->LV)(cs:LV)(x:outParam α):Prop where
 h:cs=enc x
class Abe{α:Type}(ve:α->Value)(v:Value)(x:outParam α):Prop where
 h:v=ve x
class KeyI(P:Program)(k:TypeId){κ:outParam Type}(ke:outParam (κ->Value))(rng:outParam (κ->Prop)):Prop where
 h:Maps.Keyed P k
 inj:∀x y,ke x=ke y->x=y
 isk:∀x,rng x->(keyOf P k (ke x)).isSome=true
class ValI(P:Program)(e:TypeId){υ:outParam Type}(ve:outParam (υ->Value))(z0:outParam υ):Prop where
 inj:∀x y,ve x=ve y->x=y
 z:∀w,(zeroValue e).run P w=.ok (ve z0) w
class MkI(P:Program)(t:TypeId)(e sz bytes:outParam Nat){α:outParam Type}(enc:outParam (α->LV))(x0:outParam α):Prop where
 h:∃i z,P.underlying t=some (.slice e)/\P.info? e=some i/\i.zero=some z/\enc x0=z.cells.toList/\i.size=sz/\i.bytes=bytes
class Az7(P:Program)(t:TypeId)(xs:LV):Prop where
 h:Amq P t xs
class At3(P:Program)(t:TypeId)(xs:LV){α:outParam Type}(f:outParam (α->Value))(ys:outParam (List α)):Prop where
 h:Ani P t xs (ys.map f)
class UnfI{α:Type}(f:α->Value)(x:α)(v:outParam Value):Prop where
 h:f x=v
class ResI(fn:Func)(rs:outParam (List ResultVar)):Prop where
 h:fn.results=rs.toArray
class Con{ρ:Type}(F:Option ρ)(P:outParam Program)(f:outParam FuncId)(Pre:outParam (LE->LV->Prop))(Post:outParam (LE->ρ->Value->LE->Prop)):Prop where
 h:∀K vs r,Pre K vs->F=some r->∀w,(∀e∈K,Ent.ok w e)->CtL P f vs w (Post K r)
structure Cn(P:Program)(f:FuncId)(Pre:LE->LV->Prop)(Post:LE->Value->LE->Prop):Prop where
 h:∀K vs,Pre K vs->∀w,(∀e∈K,Ent.ok w e)->CtL P f vs w (Post K)
theorem cn{ρ:Type}{F:Option ρ}{P:Program}{f:FuncId}{Pre:LE->LV->Prop}{Post:LE->ρ->Value->LE->Prop}[hc:Con F P f Pre Post]{r:ρ}(h:F=some r):Cn P f Pre (fun K=>Post K r):=⟨fun K vs hp w hK=>hc.h K vs r hp h w hK⟩
class SzI(P:Program)(t:TypeId)(k:outParam Nat):Prop where
 h:∀w,(sizeOf t).run P w=.ok k w
instance{P t}[h:OneI P t]:SzI P t 1:=⟨h.h.2⟩
instance{P t k}[h:AggI P t k]:SzI P t k:=⟨h.h.2⟩
theorem At4{α ρ:Type}{o:Option α}{k:α->Option ρ}{x:α}{r:Option ρ}(h:bnd o k=r)(hx:o=some x):k x=r:=by subst hx;exact h
theorem Ar5{α ρ:Type}{o:Option α}{k:α->Option ρ}{r:ρ}{G:Prop}(h:bnd o k=some r)(K:∀x,o=some x->k x=some r->G):G:=let ⟨x,h1,h2⟩:=Bk h;K x h1 h2
theorem Bft{α ρ:Type}{o:Option α}{P:Program}{f:FuncId}{Pre:LE->LV->Prop}{Post:LE->α->Value->LE->Prop}[hc:Con o P f Pre Post]{k:α->Option ρ}{r:ρ}{G:Prop}(h:bnd o k=some r)(K:∀x,o=some x->Cn P f Pre (fun K=>Post K x)->k x=some r->G):G:=let ⟨x,h1,h2⟩:=Bk h;K x h1 (cn h1) h2
theorem Bfu{α ρ:Type}{o:Option α}{P:Program}{f:FuncId}{Pre:LE->LV->Prop}{Post:LE->α->Value->LE->Prop}[hc:Con o P f Pre Post]{k:α->Option ρ}{r:Option ρ}{x:α}{G:Prop}(h:bnd o k=r)(hx:o=some x)(K:Cn P f Pre (fun K=>Post K x)->k x=r->G):G:=by subst hx;exact K (cn rfl) h
theorem Bfv{ρ:Type}{p:Prop}[Decidable p]{k:Option ρ}{r:ρ}(h:gd p k=some r)(_:p):k=some r:=(Em h).2
theorem Bg9{ρ:Type}{p:Prop}[Decidable p]{k:Option ρ}{r:ρ}{G:Prop}(h:gd p k=some r)(K:p->k=some r->G):G:=let ⟨h1,h2⟩:=Em h;K h1 h2
theorem Bec{σ τ ρ:Type}{B:σ->Option (Sum σ τ)}{s:σ}{K:τ->Option ρ}{r:Option ρ}(_:bnd (lfix B s) K=r):True:=trivial
theorem Bha{κ υ σ τ:Type}{BN:σ->Option (Sum σ τ)}{BS:σ->κ×υ->Option (Sum σ τ)}{m:List (κ×υ)}{s:σ}{r:Option τ}(_:mfix BN BS m s=r):True:=trivial
theorem Az8{τ ρ:Type}{k:τ->Option ρ}{x:(τ->Option ρ)->Option ρ}{r:Option ρ}(h:jn k x=r):x k=r:=h
theorem Bfw{ρ:Type}[Decidable (true=true)]{a b:Option ρ}{r:Option ρ}(h:(if true=true then a else b)=r):a=r:=by rw[iP rfl] at h;exact h
theorem Bfx{ρ:Type}[Decidable (false=true)]{a b:Option ρ}{r:Option ρ}(h:(if false=true then a else b)=r):b=r:=by rw[iN Bool.false_ne_true] at h;exact h
structure Mark:Prop where
 h:True
structure Wr(G:Prop):Prop where
 out:G
section
variable {P:Program}{n:Nat}{ops:Array Oper}{Q:Exit->AW}{fr:lF}{L:LE}{rest:List Oper}{N:AW}{d i:Nat}{op:Op}{dst:Option Tmp}{ty:TypeId}{pos:String}{after:AE}{guard:ON}{cls:Cls}{A0:LL}{RL:LM}{R:World->Prop}{p alt:Plan}{os:LM}{guard':ON}
theorem Bc2{o:Oper}(h:T n (wpList P ops Q (o::rest)) fr L):T n (wpList P ops Q (o::rest)) fr L:=h
theorem Is_b(h:PB P ops Q cls n (i::os) fr L):PB P ops Q cls n (i::os) fr L:=h
theorem Bc3{t x v}(h:Ev P n ⟨dst,.load t x,ty,pos,after,guard⟩ fr L v):Ev P n ⟨dst,.load t x,ty,pos,after,guard⟩ fr L v:=h
theorem Bfy{o t x y u v}(h:Ev P n ⟨dst,.binOp o t x y u,ty,pos,after,guard⟩ fr L v):Ev P n ⟨dst,.binOp o t x y u,ty,pos,after,guard⟩ fr L v:=h
theorem Bc4{t x y v}(h:Ev P n ⟨dst,.convert t x y,ty,pos,after,guard⟩ fr L v):Ev P n ⟨dst,.convert t x y,ty,pos,after,guard⟩ fr L v:=h
theorem Bc5{c v}(h:Ev P n ⟨dst,.call c,ty,pos,after,guard⟩ fr L v):Ev P n ⟨dst,.call c,ty,pos,after,guard⟩ fr L v:=h
inductive AtE:LE->Ent->Prop
 |here {e L}:AtE (e::L) e
 |there {x e L}:AtE L e->AtE (x::L) e
theorem AtE.nth{L e}(h:AtE L e):∃i,nthE L i=some e:=by
 induction h with
 |here=>exact⟨0,rfl⟩
 |there _ ih=>obtain⟨i,hi⟩:=ih;exact⟨i+1,hi⟩
theorem Az9{s x f off b o}[hf:Bt P s f off](hx:evo fr x=some (.pointer (some ⟨b,o,none⟩))):Ev P n ⟨dst,.fieldAddr s x f,ty,pos,after,guard⟩ fr L (.pointer (some ⟨b,o+off,none⟩)):=Ut hx hf.h rfl
theorem Baa{x g o t cs v ty'}[ht:OneI P ty'](hx:evo fr x=some (.pointer (some ⟨g,o,none⟩)))(hi:AtE L (.m g t cs))(hv:nth cs o=some v):Ev P n ⟨dst,.load ty' x,ty,pos,after,guard⟩ fr L v:=by
 obtain⟨_,hi⟩:=hi.nth;exact Rx hx hi hv ht.h
theorem Bab{x g o t cs vs k ty'}[ht:AggI P ty' k](hx:evo fr x=some (.pointer (some ⟨g,o,none⟩)))(hi:AtE L (.m g t cs))(hv:Aca cs o k=some vs):Ev P n ⟨dst,.load ty' x,ty,pos,after,guard⟩ fr L (.agg vs.toArray):=by
 obtain⟨_,hi⟩:=hi.nth;exact Uu hx hi hv ht.h
theorem Bhb{x b o ys v K ty'}[ht:OneI P ty'](hx:evo fr x=some (.pointer (some ⟨b,o,none⟩)))(hp:Pt K b o ys)(hK:SubE K L)(hv:nth ys 0=some v):Ev P n ⟨dst,.load ty' x,ty,pos,after,guard⟩ fr L v:=Sc hx hp hK hv ht.h
theorem Bhc{x b o ys v K ty'}{q:Nat}[ht:OneI P ty'](hx:evo fr x=some (.pointer (some ⟨b,o+q,none⟩)))(hp:Pt K b o ys)(hK:SubE K L)(hv:nth ys q=some v):Ev P n ⟨dst,.load ty' x,ty,pos,after,guard⟩ fr L v:=Xa hx hp hK hv ht.h
theorem Bfz{x b o ys vs k K ty'}[ht:AggI P ty' k](hx:evo fr x=some (.pointer (some ⟨b,o,none⟩)))(hp:Pt K b o ys)(hK:SubE K L)(hv:Aca ys 0 k=some vs):Ev P n ⟨dst,.load ty' x,ty,pos,after,guard⟩ fr L (.agg vs.toArray):=Ab2 hx hp hK hv ht.h
theorem Bhd{x b o ys vs k K ty'}{q:Nat}[ht:AggI P ty' k](hx:evo fr x=some (.pointer (some ⟨b,o+q,none⟩)))(hp:Pt K b o ys)(hK:SubE K L)(hv:Aca ys q k=some vs):Ev P n ⟨dst,.load ty' x,ty,pos,after,guard⟩ fr L (.agg vs.toArray):=Amb hx hp hK hv ht.h
theorem Bhe{x b o ys v K ty'}{q r:Nat}[ht:OneI P ty'](hx:evo fr x=some (.pointer (some ⟨b,o+q+r,none⟩)))(hp:Pt K b o ys)(hK:SubE K L)(hv:nth ys (q+r)=some v):Ev P n ⟨dst,.load ty' x,ty,pos,after,guard⟩ fr L v:=Xa (d:=q+r) (by rw[<-Nat.add_assoc];exact hx) hp hK hv ht.h
theorem Ar6{x i v}{l:LV}(hx:evo fr x=some (.tuple l.toArray))(hv:nth l i=some v):Ev P n ⟨dst,.extract x i,ty,pos,after,guard⟩ fr L v:=Akk hx (by rw[Anu] at hv;simpa using hv)
theorem Bc6{t:TypeId}{x i:Operand}{kd k:IntKind}{xs:LV}{ys:LI}{z v:Int}(hx:evo fr x=some (.agg xs.toArray))(hi:evo fr i=some (.int k z))(hz:idx ys z=some v)(hxs:xs=ys.map (Value.int kd))(hV:Az7 P t xs):Ev P n ⟨dst,.index t x i,ty,pos,after,guard⟩ fr L (.int kd v):=Auz hx hxs hi hV.h hz
theorem Bc7{α:Type}{f:α->Value}{t:TypeId}{x i:Operand}{k:IntKind}{xs:LV}{ys:List α}{z:Int}{v:α}{v':Value}(hx:evo fr x=some (.agg xs.toArray))(hi:evo fr i=some (.int k z))(hV:At3 P t xs f ys)(hz:idx ys z=some v)(hv:UnfI f v v'):Ev P n ⟨dst,.index t x i,ty,pos,after,guard⟩ fr L v':=Aru hx rfl hi hV.h hz hv.h
theorem Bc8{t t':TypeId}{x y:Operand}{a b c:Int}(hx:evo fr x=some (.int .i64 a))(hy:evo fr y=some (.int .i64 b))(h:Ajg a b c):Ev P n ⟨dst,.binOp .add t x y t',ty,pos,after,guard⟩ fr L (.int .i64 c):=Bbw hx hy h.h
theorem Bf0{t x A m c e ty'}[ht:UndI P t (.slice e)](hx:evo fr x=some (.slice A m c)):Ev P n ⟨dst,.call ⟨.builtin .len,#[x],#[t]⟩,ty',pos,after,guard⟩ fr L (.int .i64 ((m:Nat):Int)):=Aap hx e ht.h
theorem Bac{t xs ps cs}(hx:evps fr xs=some ps)(hb:Ji P t ps cs):Ev P n ⟨dst,.build t xs.toArray,ty,pos,after,guard⟩ fr L (.agg cs.toArray):=Akl hx hb.h
theorem Awg{s x xs f v}(hx:evo fr x=some (.agg xs.toArray))(hf:Ano P s xs f v):Ev P n ⟨dst,.field s x f,ty,pos,after,guard⟩ fr L v:=Auy hx hf.h
theorem Bf1{t t' x y xs ys r}(hx:evo fr x=some (.agg xs.toArray))(hy:evo fr y=some (.agg ys.toArray))(h:EqSI P t xs ys r):Ev P n ⟨dst,.binOp .eql t x y t',ty,pos,after,guard⟩ fr L (.bool r):=Bbj hx hy h.g h.h
theorem Bf2{t t' x y xs ys r}(hx:evo fr x=some (.agg xs.toArray))(hy:evo fr y=some (.agg ys.toArray))(h:EqSI P t xs ys r):Ev P n ⟨dst,.binOp .neq t x y t',ty,pos,after,guard⟩ fr L (.bool (!r)):=Bbk hx hy h.g h.h
theorem Bf3{t t' x y a b}[h:UndI P t .bool](hx:evo fr x=some (.bool a))(hy:evo fr y=some (.bool b)):Ev P n ⟨dst,.binOp .eql t x y t',ty,pos,after,guard⟩ fr L (.bool (a==b)):=Bdq hx hy h.h
theorem Bf4{t t' x y a b}[h:UndI P t .bool](hx:evo fr x=some (.bool a))(hy:evo fr y=some (.bool b)):Ev P n ⟨dst,.binOp .neq t x y t',ty,pos,after,guard⟩ fr L (.bool (!(a==b))):=Bdr hx hy h.h
theorem Bf5{src dt x k v u}[hs:UndI P src u][hd:UndI P dt (.int .i64)](hx:evo fr x=some (.int k v)):Ev P n ⟨dst,.convert src dt x,ty,pos,after,guard⟩ fr L (.int .i64 (w64 v)):=Ag5 hx (by rw[hs.h];rfl) hd.h
theorem Bc9{src dt x k v u}[hs:UndI P src u][hd:UndI P dt (.int .u64)](hx:evo fr x=some (.int k v)):Ev P n ⟨dst,.convert src dt x,ty,pos,after,guard⟩ fr L (.int .u64 (wu64 v)):=Abk hx (by rw[hs.h];rfl) hd.h
theorem Bda{src dt x k v u}[hs:UndI P src u][hd:UndI P dt (.int .u32)](hx:evo fr x=some (.int k v)):Ev P n ⟨dst,.convert src dt x,ty,pos,after,guard⟩ fr L (.int .u32 (wu32 v)):=Amo hx (by rw[hs.h];rfl) hd.h
structure IxAt(A:OA)(m:Nat)(z:Int)(sz b o:Nat):Prop where
 h:∃o0 j:Nat,A=some ⟨b,o0,none⟩/\z=(j:Int)/\j<m/\o=o0+j*sz
theorem At5{α:Type}{KK:List Ent}{A m c sz}{enc:α->List Value}{l:List α}{x ix:Operand}{kd:IntKind}{z:Int}{x0:α}{t e:TypeId}(hx:evo fr x=some (.slice A m c))(hix:evo fr ix=some (.int kd z))(hs:Has KK A m c sz enc l)(hi:idx l z=some x0)(ht:Po P t e sz):
  ∃b o,(∀{dst:Option Tmp} {ty:TypeId} {pos:String} {after:AE} {guard:ON} L,Ev P n ⟨dst,.indexAddr t x ix,ty,pos,after,guard⟩ fr L (.pointer (some ⟨b,o,none⟩)))/\Pt KK b o (enc x0)/\IxAt A m z sz b o:=by
 obtain⟨b,o,j,hA,hj,hl,hp⟩:=hs.at_idx hi;exact⟨b,o+j*sz,fun L=>Uv hx hix hA (j:=j) hj hl ht,hp,⟨o,j,hA,hj,hl,rfl⟩⟩
section
variable {α:Type}{KK:LE}{A:OA}{m c sz:Nat}{enc:α->LV}{l:List α}{x ix:Operand}{kd:IntKind}{z:Int}{x0:α}{t e:TypeId}
theorem T_ix [ht:Kt P t e sz](hx:evo fr x=some (.slice A m c))(hix:evo fr ix=some (.int kd z))(hs:Has KK A m c sz enc l)(hi:idx l z=some x0)(hd:Nat.blt d n=true)(k:∀b o,Pt KK b o (enc x0)->IxAt A m z sz b o->T n (wpList P ops Q rest) ((d,.pointer (some ⟨b,o,none⟩))::fr) L):T n (wpList P ops Q (⟨some d,.indexAddr t x ix,ty,pos,after,none⟩ :: rest)) fr L:=by
 obtain⟨b,o,h1,h2,h3⟩:=At5 (P:=P) (n:=n) hx hix hs hi ht.h;exact Dg (h1 L) hd (k b o h2 h3)
theorem Bed{j s:Nat}{b0:Bool}[ht:Kt P t e sz](hj:(ops[j]?).bind (·.dst)=some s)(hg:look fr s=some (.bool b0))(hsn:Nat.blt s n=true)(hx:evo fr x=some (.slice A m c))(hix:evo fr ix=some (.int kd z))(hs:Has KK A m c sz enc l)(hi:idx l z=some x0)(hd:Nat.blt d n=true)(k:∀b o,Pt KK b o (enc x0)->IxAt A m z sz b o->T n (wpList P ops Q rest) ((d,.pointer (some ⟨b,o,none⟩))::fr) L):T n (wpList P ops Q (⟨some d,.indexAddr t x ix,ty,pos,after,some (j,b0)⟩ :: rest)) fr L:=by
 obtain⟨b,o,h1,h2,h3⟩:=At5 (P:=P) (n:=n) hx hix hs hi ht.h;exact Ae4 hj hg hsn (h1 L) hd (k b o h2 h3)
theorem B_ix(hc:Nat.beq (cls.getD i 9) 0=true)(ho:ops[i]? = some ⟨some d,.indexAddr t x ix,ty,pos,after,guard⟩)(hg:Xu ops n fr guard)(hx:evo fr x=some (.slice A m c))(hix:evo fr ix=some (.int kd z))(hs:Has KK A m c sz enc l)(hi:idx l z=some x0)(ht:Kt P t e sz)(hd:Nat.blt d n=true)(k:∀b o,Pt KK b o (enc x0)->IxAt A m z sz b o->PB P ops Q cls n os ((d,.pointer (some ⟨b,o,none⟩))::fr) L):PB P ops Q cls n (i::os) fr L:=by
 obtain⟨b,o,h1,h2,h3⟩:=At5 (P:=P) (n:=n) hx hix hs hi ht.h;exact B_p hc ho hg (h1 []) hd (k b o h2 h3)
theorem P_ix(hc:Nat.beq (cls.getD i 9) 0=true)(ho:ops[i]? = some ⟨some d,.indexAddr t x ix,ty,pos,after,none⟩)(hx:evo fr x=some (.slice A m c))(hix:evo fr ix=some (.int kd z))(hs:Has KK A m c sz enc l)(hi:idx l z=some x0)(ht:Kt P t e sz)(hd:Nat.blt d n=true)(k:∀b o,Pt KK b o (enc x0)->IxAt A m z sz b o->T n (Bi P ops Q cls A0 RL R p) ((d,.pointer (some ⟨b,o,none⟩))::fr) L):T n (Bi P ops Q cls A0 RL R (.q i p)) fr L:=by
 obtain⟨b,o,h1,h2,h3⟩:=At5 (P:=P) (n:=n) hx hix hs hi ht.h;exact P_p hc ho (h1 []) hd (k b o h2 h3)
theorem Rb{r:TypeId}(hc:Nat.beq (cls.getD i 9) 0=true)(hk:AtE L (.r A m c r sz (l.flatMap enc)))(hz:Nat.blt 0 sz=true)(he:∀x,(enc x).length=sz)(k:Has [.r A m c r sz (l.flatMap enc)] A m c sz enc l->PB P ops Q cls n (i::os) fr L):PB P ops Q cls n (i::os) fr L:=by
 obtain⟨_,hk⟩:=hk.nth;refine Bgt (by rw[Nat.eq_of_beq_eq_true hc];rfl) fun a w _ hw=>k (Has.ofRow (Nat.le_of_ble_eq_true hz) he (hw.ok _ (Gd hk)))
theorem Ra{r:TypeId}(hk:AtE L (.r A m c r sz (l.flatMap enc)))(hz:Nat.blt 0 sz=true)(he:∀x,(enc x).length=sz)(k:Has [.r A m c r sz (l.flatMap enc)] A m c sz enc l->T n N fr L):T n N fr L:=by
 obtain⟨_,hk⟩:=hk.nth;exact Amm hk (Nat.le_of_ble_eq_true hz) he (fun _ h=>k h)
theorem Bhf{r:TypeId}[ht:Kt P t e sz](hx:evo fr x=some (.slice A m c))(hk:AtE L (.r A m c r sz (l.flatMap enc)))(hix:evo fr ix=some (.int kd z))(hi:idx l z=some x0)(hd:Nat.blt d n=true)(hz:Nat.blt 0 sz=true)(he:∀x,(enc x).length=sz)(k:∀b o,Pt [.r A m c r sz (l.flatMap enc)] b o (enc x0)->IxAt A m z sz b o->T n (wpList P ops Q rest) ((d,.pointer (some ⟨b,o,none⟩))::fr) L):T n (wpList P ops Q (⟨some d,.indexAddr t x ix,ty,pos,after,none⟩ :: rest)) fr L:=Ra hk hz he fun hs=>T_ix hx hix hs hi hd k
theorem Bf6{j s:Nat}{b0:Bool}{r:TypeId}[ht:Kt P t e sz](hj:(ops[j]?).bind (·.dst)=some s)(hg:look fr s=some (.bool b0))(hsn:Nat.blt s n=true)(hx:evo fr x=some (.slice A m c))(hk:AtE L (.r A m c r sz (l.flatMap enc)))(hix:evo fr ix=some (.int kd z))(hi:idx l z=some x0)(hd:Nat.blt d n=true)(hz:Nat.blt 0 sz=true)(he:∀x,(enc x).length=sz)(k:∀b o,Pt [.r A m c r sz (l.flatMap enc)] b o (enc x0)->IxAt A m z sz b o->T n (wpList P ops Q rest) ((d,.pointer (some ⟨b,o,none⟩))::fr) L):T n (wpList P ops Q (⟨some d,.indexAddr t x ix,ty,pos,after,some (j,b0)⟩ :: rest)) fr L:=Ra hk hz he fun hs=>Bed hj hg hsn hx hix hs hi hd k
theorem Bhg{r:TypeId}(hc:Nat.beq (cls.getD i 9) 0=true)(ho:ops[i]? = some ⟨some d,.indexAddr t x ix,ty,pos,after,guard⟩)(hg:Xu ops n fr guard)(hx:evo fr x=some (.slice A m c))(hk:AtE L (.r A m c r sz (l.flatMap enc)))(hix:evo fr ix=some (.int kd z))(hi:idx l z=some x0)(ht:Kt P t e sz)(hd:Nat.blt d n=true)(hz:Nat.blt 0 sz=true)(he:∀x,(enc x).length=sz)(k:∀b o,Pt [.r A m c r sz (l.flatMap enc)] b o (enc x0)->IxAt A m z sz b o->PB P ops Q cls n os ((d,.pointer (some ⟨b,o,none⟩))::fr) L):PB P ops Q cls n (i::os) fr L:=Rb hc hk hz he fun hs=>B_ix hc ho hg hx hix hs hi ht hd k
end
inductive DecZ(kd:IntKind):LV->LI->Prop
 |nil:DecZ kd [] []
 |cons {x cs ys}:DecZ kd cs ys->DecZ kd (.int kd x::cs) (x::ys)
theorem DecZ.eq{kd cs ys}(h:DecZ kd cs ys):cs=ys.flatMap (fun x=>[Value.int kd x])++[]:=by
 induction h with
 |nil=>rfl
 |cons _ ih=>rw[List.flatMap_cons,List.append_assoc,<-ih];rfl
theorem Bdb{t x ix g o k m sz}{ys:LI}{z v:Int}[ht:ArrI P t m sz](hx:evo fr x=some (.pointer (some ⟨g,o,none⟩)))(hi:evo fr ix=some (.int k z))(hz:idx ys z=some v)(hl:ys.length=m):Ev P n ⟨dst,.indexAddr t x ix,ty,pos,after,guard⟩ fr L (.pointer (some ⟨g,o+z.toNat*sz,none⟩)):=by
 subst hl;exact Agt hx hi ht.h (Afr hz).1 (Afr hz).2 rfl
theorem Bad{x g o t cs ty' kd ys}{z v:Int}[ht:OneI P ty'](hx:evo fr x=some (.pointer (some ⟨g,o+z.toNat*1,none⟩)))(hL:AtE L (.m g t cs))(hc:DecZ kd (cs.drop o) ys)(hz:idx ys z=some v):Ev P n ⟨dst,.load ty' x,ty,pos,after,guard⟩ fr L (.int kd v):=by
 obtain⟨_,hL⟩:=hL.nth;exact Azr (fun x=>[Value.int kd x]) hx hL hz hc.eq (fun _=>rfl) rfl ht.h
theorem Bdc{t m sz}{x:Operand}{g o:Nat}[ht:ArrI P t m sz](hx:evo fr x=some (.pointer (some ⟨g,o,none⟩)))(hm:Nat.beq m 0=false):Ev P n ⟨dst,.slice t x none none none,ty,pos,after,guard⟩ fr L (.slice (some ⟨g,o,none⟩) m m):=Bbv hx ht.h hm
theorem Bf7{t x ix g o k m sz}{z:Int}[ht:ArrI P t m sz](hx:evo fr x=some (.pointer (some ⟨g,o,none⟩)))(hi:evo fr ix=some (.int k z))(h0:0<=z)(h1:z<(m:Int)){off:Nat}(ho:z.toNat*sz=off):Ev P n ⟨dst,.indexAddr t x ix,ty,pos,after,guard⟩ fr L (.pointer (some ⟨g,o+off,none⟩)):=Agt hx hi ht.h h0 h1 ho
section
open Maps
variable {κ υ:Type}{ke:κ->Value}{ve:υ->Value}{k e:TypeId}{t:TypeId}{g:Nat}{mo ko vo:Operand}{kv vv:Value}{x:κ}{m:List (κ×υ)}{rng:κ->Prop}{z0:υ}
theorem Bae [hu:UndI P t (.map k e)][hK:KeyI P k ke rng][hV:ValI P e ve z0](hm:evo fr mo=some (.map (some g)))(hL:AtE L (Bg P k ke ve g m))(hk:evo fr ko=some kv)(hd:Abe ke kv x)(hr:rng x){u:υ}(hz:some ((mget m x).getD z0)=some u)(hq:vv=ve u):Ev P n ⟨dst,.lookup t mo ko false,ty,pos,after,guard⟩ fr L vv:=by
 obtain⟨_,hL⟩:=hL.nth;exact Apl hK.h hu.h hV.z hK.inj hm hk hd.h hL Vo (hK.isk x hr) hz hq
theorem Awh [hu:UndI P t (.map k e)][hK:KeyI P k ke rng][hV:ValI P e ve z0](hm:evo fr mo=some (.map (some g)))(hL:AtE L (Bg P k ke ve g m))(hk:evo fr ko=some kv)(hd:Abe ke kv x)(hr:rng x){u:υ}(hz:some ((mget m x).getD z0)=some u)(hq:vv=ve u):Ev P n ⟨dst,.lookup t mo ko true,ty,pos,after,guard⟩ fr L (.tuple #[vv,.bool (mget m x).isSome]):=by
 obtain⟨_,hL⟩:=hL.nth;exact Aew hK.h hu.h hV.z hK.inj hm hk hd.h hL Vo (hK.isk x hr) hz hq
theorem Bdd{t':TypeId}[hu:UndI P t (.map k e)](hm:evo fr mo=some (.map (some g)))(hL:AtE L (Bg P k ke ve g m)):Ev P n ⟨dst,.call ⟨.builtin .len,#[mo],#[t]⟩,t',pos,after,guard⟩ fr L (.int .i64 (m.length:Int)):=by
 obtain⟨_,hL⟩:=hL.nth;exact Arw hu.h hm hL Vo
theorem Baf{it:Operand}{r:Nat}{l:List (κ×υ)}{p:κ×υ}{uv:Value}(hit:evo fr it=some (.pointer (some ⟨r,0,none⟩)))(hL:AtE L (rngE P k ke ve g r m l (some p)))(hk:UnfI ke p.1 kv)(hv:UnfI ve p.2 uv):Ev P n ⟨dst,.entry it,ty,pos,after,guard⟩ fr L (.tuple #[kv,uv]):=by
 obtain⟨_,hL⟩:=hL.nth;exact Av3 hit hL hk.h.symm hv.h.symm
theorem Bag{r:Nat}{l:List (κ×υ)}{c:Option (κ×υ)}[hu:UndI P t (.map k e)][hK:KeyI P k ke rng][hV:ValI P e ve z0](hm:evo fr mo=some (.map (some g)))(hL:AtE L (rngE P k ke ve g r m l c))(hk:evo fr ko=some kv)(hd:Abe ke kv x)(hr:rng x){u:υ}(hz:some ((mget m x).getD z0)=some u)(hq:vv=ve u):Ev P n ⟨dst,.lookup t mo ko true,ty,pos,after,guard⟩ fr L (.tuple #[vv,.bool (mget m x).isSome]):=by
 obtain⟨_,hL⟩:=hL.nth;exact Aew hK.h hu.h hV.z hK.inj hm hk hd.h hL Arx (hK.isk x hr) hz hq
theorem Akb [hu:UndI P t (.map k e)][hK:KeyI P k ke rng][hV:ValI P e ve z0](hd:Nat.blt d n=true)(kk:∀g,T n N ((d,.map (some g))::fr) (Bg P k ke ve g []::L)):Wx P Q n ⟨some d,.makeMap t none,ty,pos,after,guard⟩ fr L N:=Ahq P k ke ve hd kk
theorem Ahs{x:Operand}{q:IntKind}{z:Int}[hu:UndI P t (.map k e)][hK:KeyI P k ke rng][hV:ValI P e ve z0](hx:evo fr x=some (.int q z))(hd:Nat.blt d n=true)(kk:∀g,T n N ((d,.map (some g))::fr) (Bg P k ke ve g []::L)):Wx P Q n ⟨some d,.makeMap t (some x),ty,pos,after,guard⟩ fr L N:=Aft P k ke ve hu.h hx hd kk
end
inductive RepE:LE->Ent->(Ent->LE)->Prop
 |here {e L}:RepE (e::L) e (fun z=>z::L)
 |there {x L e f}:RepE L e f->RepE (x::L) e (fun z=>x::f z)
theorem RepE.of{L e f}(h:RepE L e f):∃i,∀z,SetE L i e z (f z):=by
 induction h with
 |here=>exact⟨0,fun _=>.here⟩
 |there _ ih=>obtain⟨i,hi⟩:=ih;exact⟨i+1,fun z=>.there (hi z)⟩
section
open Maps
variable {κ υ:Type}{ke:κ->Value}{ve:υ->Value}{k e:TypeId}{t:TypeId}{g:Nat}{mo ko vo:Operand}{kv vv:Value}{x:κ}{y:υ}{m:List (κ×υ)}{rng:κ->Prop}
theorem Bah{f:Ent->LE}[hu:UndI P t (.map k e)][hK:KeyI P k ke rng](hm:evo fr mo=some (.map (some g)))(hk:evo fr ko=some kv)(hv:evo fr vo=some vv)(hL:RepE L (Bg P k ke ve g m) f)(hd:Abe ke kv x)(hy:Abe ve vv y)(hr:rng x)(hn:m.length<9223372036854775807)(kk:T n N fr (f (Bg P k ke ve g (mput m x y)))):Wh P Q n ⟨none,.mapUpdate t mo ko vo,ty,pos,after,guard⟩ fr L N:=by
 obtain⟨_,hL⟩:=hL.of;exact Aex hK.h hK.inj hu.h hm hk hd.h hv hy.h (hL _) (hK.isk x hr) hn kk
theorem Bai{f:Ent->LE}[hu:UndI P t (.map k e)][hK:KeyI P k ke rng](hm:evo fr mo=some (.map (some g)))(hk:evo fr ko=some kv)(hL:RepE L (Bg P k ke ve g m) f)(hd:Abe ke kv x)(hr:rng x)(kk:T n N fr (f (Bg P k ke ve g (mdel m x)))):Wh P Q n ⟨none,.call ⟨.builtin .delete,#[mo,ko],#[t,k]⟩,ty,pos,after,guard⟩ fr L N:=by
 obtain⟨_,hL⟩:=hL.of;exact Arv hK.h hK.inj hu.h hm hk hd.h (hL _) (hK.isk x hr) kk
end
section
variable {α:Type}{enc:α->LV}{l:List α}{x0:α}{s x:Operand}{t e sz bytes:Nat}{A:OA}{m c g q':Nat}{t':TypeId}{cs:LV}{ty':TypeId}
theorem Al4{f:Ent->LE}{y:Operand}{z:Int}{o:Nat}{u:α}{v:Value}{vs:LV}[hs:SzI P ty' sz](hx:evo fr x=some (.pointer (some ⟨g,o,none⟩)))(hy:evo fr y=some v)(hI:IxAt A m z sz g o)(hr:RepE L (.r A m c e sz (l.flatMap enc)) f)(hm:l.length=m)(hv:v.cells=vs.toArray)(hdec:DecI enc vs u)(he:∀x,(enc x).length=sz)(hz:Nat.blt 0 sz=true)(h1:Tf vs=true)(k:T n N fr (f (.r A m c e sz ((setI l z u).flatMap enc)))):Wh P Q n ⟨none,.store ty' x y,ty,pos,after,guard⟩ fr L N:=by
 subst hm;obtain⟨i,hr⟩:=hr.of;obtain⟨o0,j,hA,hj,hl,ho⟩:=hI.h;intro a w ha hw;have hok:=hw.ok _ (hr (.r A l.length c e sz ((setI l z u).flatMap enc))).mem;have hA0:∃g,A=some ⟨g,0,none⟩:=by
  obtain⟨_,h⟩:=hok;rcases h with⟨hv,h0⟩|⟨g,cap,cur,hv,_⟩
  .injection hv with h1 h2 h3;omega
  .injection hv with h1 h2 h3;exact⟨g,h1⟩
 obtain⟨g',hA'⟩:=hA0;have e0:g'=g/\0=o0:=by
  rw[hA'] at hA;injection hA with h1;injection h1 with h1 h2 h3
  exact⟨h1,h2⟩
 obtain⟨rfl,rfl⟩:=e0;subst ho;exact Aux enc l z u hx hy (by rw[hv,hdec.h]) (hr _) hA rfl hj hl he (Nat.le_of_ble_eq_true hz) (by rw[<-hdec.h];exact h1) hs.h k a w ha hw
theorem At6{f:Ent->LE}{L1:LE}[ht:Ad9 P t e sz bytes](hs:evo fr s=some (.slice A m c))(hx:evo fr x=some (.slice (some ⟨g,0,none⟩) 1 q'))(hr:RepE L1 (.r A m c e sz (l.flatMap enc)) f)(hdec:DecI enc cs x0)(hb:(l.length+1)*bytes<=140737488355328)(he:∀x,(enc x).length=sz)(h1:Tf cs=true)(hd:Nat.blt d n=true)(h0:Nat.blt 0 bytes=true)(k:∀A' c',T n N ((d,.slice A' (l++[x0]).length c')::fr) (f (.r A' (l++[x0]).length c' e sz ((l++[x0]).flatMap enc)))):Wh P Q n ⟨some d,.call ⟨.builtin .append,#[s,x],#[t,t]⟩,ty',pos,after,guard⟩ fr (.m g t' cs::L1) N:=by
 obtain⟨_,hr⟩:=hr.of;exact Wn (i':=0) (L':=fun A' c'=>.m g t' cs::f (.r A' (l++[x0]).length c' e sz ((l++[x0]).flatMap enc))) (L2:=fun A' c'=>f (.r A' (l++[x0]).length c' e sz ((l++[x0]).flatMap enc))) enc l [x0] hs hx rfl ht.h he rfl (by rw[hdec.h];simp) rfl h1 hb hd (fun A' c'=>.there (hr _)) (fun _ _=>.drop .refl) (Nat.le_of_ble_eq_true h0) k
end
section
variable {α:Type}{enc:α->LV}{x0:α}{t e sz bytes:Nat}{x y:Operand}{k1 k2:IntKind}{i1 i2:Int}
theorem Baj [h:MkI P t e sz bytes enc x0](hx:evo fr x=some (.int k1 i1))(hy:evo fr y=some (.int k2 i2))(h1:i1=0)(hb:0<=i2/\bytes*Int.toNat i2<=140737488355328)(hb0:Nat.blt 0 bytes=true)(hsz:Nat.blt 0 sz=true)(he:∀x,(enc x).length=sz)(hd:Nat.blt d n=true)(k:∀A c,T n N ((d,.slice A ([]:List α).length c)::fr) (.r A ([]:List α).length c e sz (([]:List α).flatMap enc)::L)):Wx P Q n ⟨some d,.makeSlice t x y,ty,pos,after,guard⟩ fr L N:=by
 obtain⟨i,z,ht,hi,hz,hzc,hs,hbb⟩:=h.h;subst hbb;exact Ave enc x0 hx hy h1 hb.1 ht hi hz hzc hs (Nat.le_of_ble_eq_true hsz) he hb.2 (Nat.le_of_ble_eq_true hb0) hd k
theorem Bak [h:MkI P t e sz bytes enc x0](hx:evo fr x=some (.int k1 i1))(hy:evo fr y=some (.int k2 i2))(h1:i1=i2)(hb:0<=i1/\bytes*Int.toNat i1<=140737488355328)(hb0:Nat.blt 0 bytes=true)(hsz:Nat.blt 0 sz=true)(he:∀x,(enc x).length=sz)(hd:Nat.blt d n=true)(k:∀A,T n N ((d,.slice A (List.replicate i1.toNat x0).length (List.replicate i1.toNat x0).length)::fr) (.r A (List.replicate i1.toNat x0).length (List.replicate i1.toNat x0).length e sz ((List.replicate i1.toNat x0).flatMap enc)::L)):Wx P Q n ⟨some d,.makeSlice t x y,ty,pos,after,guard⟩ fr L N:=by
 obtain⟨i,z,ht,hi,hz,hzc,hs,hbb⟩:=h.h;subst hbb;exact Axo enc x0 hx hy h1 hb.1 ht hi hz hzc hs (Nat.le_of_ble_eq_true hsz) he hb.2 (Nat.le_of_ble_eq_true hb0) hd k
end
section
variable {α:Type}{KK:LE}{A:OA}{m c sz:Nat}{enc:α->LV}{l:List α}{x hi lo:Operand}{kd:IntKind}{j:Int}{t e:TypeId}
theorem Bal [ht:Kt P t e sz](hx:evo fr x=some (.slice A m c))(hh:evo fr hi=some (.int kd j))(hs:Has KK A m c sz enc l)(hb:0<=j/\j<=((m:Nat):Int))(hd:Nat.blt d n=true)(k:Has KK A (subl l 0 j).length c sz enc (subl l 0 j)->T n (wpList P ops Q rest) ((d,.slice A (subl l 0 j).length c)::fr) L):T n (wpList P ops Q (⟨some d,.slice t x none (some hi) none,ty,pos,after,none⟩ :: rest)) fr L:=by
 have h1:=hs.subH hb.1 hb.2;have e:=h1.len;exact Dg (by rw[e];exact Amn hx hh ht.h hb.1 (by have:=hs.nc;omega)) hd (k h1.len')
theorem Bf8(hc:Nat.beq (cls.getD i 9) 0=true)(ho:ops[i]? = some ⟨some d,.slice t x none (some hi) none,ty,pos,after,none⟩)(hx:evo fr x=some (.slice A m c))(hh:evo fr hi=some (.int kd j))(hs:Has KK A m c sz enc l)(hb:0<=j/\j<=((m:Nat):Int))(ht:Kt P t e sz)(hd:Nat.blt d n=true)(k:Has KK A (subl l 0 j).length c sz enc (subl l 0 j)->PB P ops Q cls n os ((d,.slice A (subl l 0 j).length c)::fr) L):PB P ops Q cls n (i::os) fr L:=by
 have h1:=hs.subH hb.1 hb.2;have e:=h1.len;exact B_p hc ho wY (by rw[e];exact Amn hx hh ht.h hb.1 (by have:=hs.nc;omega)) hd (k h1.len')
theorem Bde{r:TypeId}[ht:Kt P t e sz](hx:evo fr x=some (.slice A m c))(hk:AtE L (.r A m c r sz (l.flatMap enc)))(hh:evo fr hi=some (.int kd j))(hb:0<=j/\j<=((m:Nat):Int))(hd:Nat.blt d n=true)(hz:Nat.blt 0 sz=true)(he:∀x,(enc x).length=sz)(k:Has [.r A m c r sz (l.flatMap enc)] A (subl l 0 j).length c sz enc (subl l 0 j)->T n (wpList P ops Q rest) ((d,.slice A (subl l 0 j).length c)::fr) L):T n (wpList P ops Q (⟨some d,.slice t x none (some hi) none,ty,pos,after,none⟩ :: rest)) fr L:=Ra hk hz he fun hs=>Bal hx hh hs hb hd k
end
structure DrL(id:Nat)(cls:Cls)(os fs:LM):Prop where
 h:True
theorem dl(id:Nat)(cls:Cls)(os:LM)(fs:LM:=[]):DrL id cls os fs:=⟨trivial⟩
theorem T_dl{id:Nat}{os fs:LM}(h:DrL id cls os fs)[hm:MixI P](hd:Aae ops cls (Ad3 ops)=true)(hp:Ad5 ops cls (Ad4 cls ops.size) os (Array.replicate ops.size false)=true)(h4:Aq8 ops cls (Ad3 ops) (Ad4 cls ops.size)=true)(hf:Ad4 cls ops.size=fs)(ha:Aco P ops n fs)(k:PB P ops Q cls n os fr L):T n ((Code.region id ops true).wp P Q) fr L:=by
 subst hf;exact Bgs cls os hm.h hd hp h4 ha k
theorem Is_p(h:T n (Bi P ops Q cls A0 RL R p) fr L):T n (Bi P ops Q cls A0 RL R p) fr L:=h
theorem P_p0{v:Value}(hc:Nat.beq (cls.getD i 9) 0=true)(ho:ops[i]? = some ⟨some d,op,ty,pos,after,none⟩)(h:Ev P n ⟨some d,op,ty,pos,after,none⟩ fr [] v)(hd:Nat.blt d n=true)(k:T n (Bi P ops Q cls A0 RL R p) ((d,v)::fr) L):T n (Bi P ops Q cls A0 RL R (.q i p)) fr L:=P_p hc ho h hd k
theorem P_q0{v:Value}(hc:Nat.beq (cls.getD i 9) 0=false)(ho:ops[i]? = some ⟨some d,op,ty,pos,after,none⟩)(h:Ev P n ⟨some d,op,ty,pos,after,none⟩ fr L v)(hd:Nat.blt d n=true)(hr:RL.contains i=false)(k:T n (Bi P ops Q cls A0 RL R p) ((d,v)::fr) L):T n (Bi P ops Q cls A0 RL R (.q i p)) fr L:=P_q hc ho h hd k hr
structure DpL(id:Nat)(cls:Cls)(p:Plan):Prop where
 h:True
theorem dp(id:Nat)(cls:Cls)(p:Plan):DpL id cls p:=⟨trivial⟩
theorem T_dp{id:Nat}(h:DpL id cls p)[hm:MixI P](hd:Aae ops cls (Ad3 ops)=true)(hp:Hz ops cls p (Array.replicate ops.size false) none=true)(k:T n (Bi P ops Q cls (Ad3 ops) [] (fun _=>True) p) fr L):T n ((Code.region id ops true).wp P Q) fr L:=T_dr cls p hm.h hd hp k
theorem Aco.cc{j d t cs ty pos after r}(h:ops[j]? = some ⟨some d,.alloc t,ty,pos,after,none⟩)(hz:Ur P t cs)(hd:Nat.blt d n=true)(k:Aco P ops n r):Aco P ops n (j::r):=.cons h hz.h hd k
theorem B_al{t:TypeId}{cs:LV}(hc:Nat.beq (cls.getD i 9) 4=true)(ho:ops[i]? = some ⟨some d,.alloc t,ty,pos,after,none⟩)(hz:Ur P t cs)(hd:Nat.blt d n=true)(k:∀g,PB P ops Q cls n os ((d,.pointer (some ⟨g,0,none⟩))::fr) (.m g t cs::L)):PB P ops Q cls n (i::os) fr L:=B_l hc ho hz.h hd k
theorem Apv{t}{cs:LV}[hz:Ur P t cs](hd:Nat.blt d n=true)(k:∀g,T n N ((d,.pointer (some ⟨g,0,none⟩))::fr) (.m g t cs::L)):Wx P Q n ⟨some d,.alloc t,ty,pos,after,guard⟩ fr L N:=Uw hz.h hd k
theorem Al5{t len xs ps e}{cs:LV}(hx:evps fr xs=some ps)(hb:Oo P t len ps e cs)(hd:Nat.blt d n=true)(k:∀g,T n N ((d,.slice (some ⟨g,0,none⟩) len len)::fr) (.m g e cs::L)):Wx P Q n ⟨some d,.buildSlice t len xs.toArray,ty,pos,after,guard⟩ fr L N:=Iy hx hb.h hd k
theorem At7{f:FuncId}{Pre:LE->LV->Prop}{Post:LE->Value->LE->Prop}{xs:List Operand}{vs:LV}{ts:Array TypeId}{ty':TypeId}(hc:Cn P f Pre Post)(hx:evos fr xs=some vs)(hp:∀w,Heap L w->Pre L vs)(hd:Nat.blt d n=true)(k:∀v Ln,Post L v Ln->T n N ((d,v)::fr) (Ln++L)):Wx P Q n ⟨some d,.call ⟨.value (.func f),xs.toArray,ts⟩,ty',pos,after,guard⟩ fr L N:=fun a w ha hw=>Ux hx (fun w1 hw1=>hc.h L vs (hp w1 hw1) w1 hw1.ok) hd (fun v Ln _ hR=>k v Ln hR) a w ha hw
inductive SetA:LE->Ent->Ent->LE->Prop
 |here {e e' L}:SetA (e::L) e e' (e' :: L)
 |there {x L e e' L'}:SetA L e e' L'->SetA (x::L) e e' (x::L')
theorem SetA.of{L e e' L'}(h:SetA L e e' L'):∃i,SetE L i e e' L':=by
 induction h with
 |here=>exact⟨0,.here⟩
 |there _ ih=>obtain⟨i,hi⟩:=ih;exact⟨i+1,.there hi⟩
def Bf9:LV->Bool
 |[]=>false
 |_=>true
theorem Af2{x y g o t cs cs' v vs ty' L' q}[hz:SzI P ty' q](hx:evo fr x=some (.pointer (some ⟨g,o,none⟩)))(hy:evo fr y=some v)(hv:v.cells=vs.toArray)(hq:q=vs.length)(hL:SetA L (.m g t cs) (.m g t cs') L')(hs:Spl cs o vs cs')(h1:Tf vs=true)(h0:Bf9 vs=true)(k:T n N fr L'):
  Wh P Q n ⟨none,.store ty' x y,ty,pos,after,guard⟩ fr L N:=by
 obtain⟨_,hL⟩:=hL.of;subst hq;exact Tg hx hy hv hL hs h1 (by rintro rfl;cases h0) hz.h k
def Ends(P:Program)(fn:Func)(rs:List ResultVar)(R:Value->LE->Prop)(w0:World):Exit->AW:=fun e a w=>fn.results=rs.toArray->bodyPost P fn (fun e w'=>∃v Ln,e=.returned v/\R v Ln/\(∀x∈Ln,x.low=0)/\Heap (Ln++[.old w0]) w') e a w
theorem Akc{fn:Func}{R:Value->LE->Prop}{w0:World}{rs vs}{Ln:LE}(h:Res P fr L rs vs)(hR:R (Vh vs) Ln)(hlo:∀x∈Ln,x.low=0)(hs:Hh L (Ln++[.old w0])):T n (Ends P fn rs R w0 .ret) fr L:=fun a w ha hw hr=>Pr hr h hR hlo hs a w ha hw
theorem Res.cellA{t ty g tt cs k rs vs}[ht:AggI P ty k](hx:look fr t=some (.pointer (some ⟨g,0,none⟩)))(hi:AtE L (.m g tt cs))(hk:cs.length=k)(hr:Res P fr L rs vs):Res P fr L (.cell t ty::rs) (.agg cs.toArray::vs):=by
 obtain⟨_,hi⟩:=hi.nth;exact .cell hx hi hk ht.h hr
theorem CtS{f:FuncId}{fn:Func}{c:Code}{vs:LV}{w:World}{R:Value->LE->Prop}{m:Nat}{rs:List ResultVar}{fr0:lF}(hm:fn.ntmps=m)(hr:fn.results=rs.toArray)(k:T m (c.wp P (Ends P fn rs R w)) fr0 [.old w])(hf:P.funcs[f]? = some fn:=by rfl)(hb:fn.body=some c:=by rfl)(hn:(fn.name == "runtime.NumGoroutine")=false:=by kernel_rfl)(hl:Nat.ble vs.length m=true:=by rfl)(hv:Aaq vs 0=fr0:=by exact rfl): CtL P f vs w R:=by
 subst hv;exact CtL.mk m hf hb hm hn hl fun a w ha hw=>wp_mono (k a w ha hw) (fun e a' w' h=>h hr)
theorem Has.lo{α:Type}{K:LE}{w:World}{A m c sz}{enc:α->LV}{l:List α}(h:Has K A m c sz enc l)(hK:∀e∈K,Ent.ok w e):Has [.old w] A m c sz enc l:=Has.low (E:=[]) (Has.up0 h) hK
class ConB{ρ:Type}(F:Option ρ)(P:outParam Program)(f:outParam FuncId)(Pre:outParam (LE->LV->Prop))(Post:outParam (LE->ρ->Value->LE->Prop)):Prop where
 h:∀K vs r,Pre K vs->F=some r->∀w,(∀e∈K,Ent.ok w e)->CtL P f vs w (Post K r)
structure CnB(P:Program)(f:FuncId)(Pre:LE->LV->Prop)(Post:LE->Value->LE->Prop):Prop where
 h:∀K vs,Pre K vs->∀w,(∀e∈K,Ent.ok w e)->CtL P f vs w (Post K)
theorem cnB{ρ:Type}{F:Option ρ}{P:Program}{f:FuncId}{Pre:LE->LV->Prop}{Post:LE->ρ->Value->LE->Prop}[hc:ConB F P f Pre Post]{r:ρ}(h:F=some r):CnB P f Pre (fun K=>Post K r):=⟨fun K vs hp w hK=>hc.h K vs r hp h w hK⟩
theorem Bdf{α ρ:Type}{o:Option α}{P:Program}{f:FuncId}{Pre:LE->LV->Prop}{Post:LE->α->Value->LE->Prop}[hc:ConB o P f Pre Post]{k:α->Option ρ}{r:ρ}{G:Prop}(h:bnd o k=some r)(K:∀x,o=some x->CnB P f Pre (fun K=>Post K x)->k x=some r->G):G:=let ⟨x,h1,h2⟩:=Bk h;K x h1 (cnB h1) h2
theorem SubE.ofOld{K L:LE}{w:World}(hK:∀e∈K,Ent.ok w e)(h:AtE L (.old w)):SubE K L:=by
 obtain⟨_,h⟩:=h.nth;exact⟨fun w1 hw e he=>Ent.ext (hK e he) (hw _ (Gd h))⟩
theorem SubE.bunR{X K es:LE}(h:SubE X (K++es)):SubE X (K++[bun es]):=⟨fun w hw=>h.ok w fun e he=>by
 rcases List.mem_append.1 he with he|he
 .exact hw e (List.mem_append_left _ he)
 .exact As0 (hw _ (List.mem_append_right _ mS)) e he⟩
theorem SubE.consR{X K es:LE}{e:Ent}(h:AtE es e)(h':SubE X (K++es)):SubE (e::X) (K++es):=by
 obtain⟨_,h⟩:=h.nth;exact⟨fun w hw x hx=>by
  rcases List.mem_cons.1 hx with rfl|hx
  .exact hw _ (List.mem_append_right _ (Gd h))
  .exact h'.ok w hw x hx⟩
theorem CtL.bunB{P:Program}{f:FuncId}{vs:LV}{w:World}{R R':Value->LE->Prop}(h:CtL P f vs w R)(k:∀v Ln w1,Heap (Ln++[.old w]) w1->R v Ln->R' v [bun Ln]):CtL P f vs w R':=by
 refine⟨h.1,h.2.mono ?_⟩;rintro e w' ⟨v,Ln,rfl,hR,hlo,hh⟩;exact⟨v,[bun Ln],rfl,k v Ln w' hh hR,Bq rfl Gg,Aff hlo hh⟩
section
variable {P:Program}{n:Nat}{ops:Array Oper}{Q:Exit->AW}{fr:lF}{L:LE}{N:AW}{d:Nat}{ty:TypeId}{pos:String}{after:AE}{guard:ON}
theorem Apw{f:FuncId}{Pre:LE->LV->Prop}{Post:LE->Value->LE->Prop}{xs:List Operand}{vs:LV}{ts:Array TypeId}{ty':TypeId}{K:LE}(hc:CnB P f Pre Post)(hx:evos fr xs=some vs)(hp:∀w,Heap L w->Pre K vs)(hK:SubE K L)(hd:Nat.blt d n=true)(k:∀v Ln,(∀x∈Ln,x.low=0)->Post K v Ln->T n N ((d,v)::fr) (Ln++L)):Wx P Q n ⟨some d,.call ⟨.value (.func f),xs.toArray,ts⟩,ty',pos,after,guard⟩ fr L N:=fun a w ha hw=>Ux hx (fun w1 hw1=>hc.h K vs (hp w1 hw1) w1 (Bgp hK hw1)) hd (fun v Ln hlo hR=>k v Ln hlo hR) a w ha hw
structure Frt{α:Type}(P:Program)(f:FuncId)(enc:α->LV)(sz:Nat)(l r:List α):Prop where
 p:∃k,r=l.take k
 h:∀K A c,Has K A l.length c sz enc l->∀w,(∀e∈K,Ent.ok w e)->CtL P f [.slice A l.length c] w (fun v Ln=>v=.slice A r.length c/\Ln=[]/\Has K A r.length c sz enc r/\True)
class TrI{α:Type}(x:Option (List α))(P:outParam Program)(f:outParam FuncId)(enc:outParam (α->LV))(sz:outParam Nat)(l:outParam (List α)):Prop where
 h:∀r,x=some r->Frt P f enc sz l r
theorem Bdg{α ρ:Type}{o:Option (List α)}{P:Program}{f f':FuncId}{enc:α->LV}{sz:Nat}{l:List α}{Pre:LE->LV->Prop}{Post:LE->List α->Value->LE->Prop}[ht:TrI o P f enc sz l][hc:ConB o P f' Pre Post]{k:List α->Option ρ}{r:ρ}{G:Prop}(h:bnd o k=some r)(K:∀x,o=some x->Frt P f enc sz l x->CnB P f' Pre (fun K=>Post K x)->k x=some r->G):G:=let ⟨x,h1,h2⟩:=Bk h;K x h1 (ht.h x h1) (cnB h1) h2
theorem Apx{α:Type}{enc:α->LV}{l r:List α}{f:FuncId}{t sz m c:Nat}{A:OA}{g:Ent->LE}{x:Operand}{ts:Array TypeId}{ty':TypeId}(ht:Frt P f enc sz l r)(hx:evo fr x=some (.slice A m c))(hr:RepE L (.r A m c t sz (l.flatMap enc)) g)(he:∀x,(enc x).length=sz)(hz:Nat.blt 0 sz=true)(hd:Nat.blt d n=true)(k:T n N ((d,.slice A r.length c)::fr) (g (.r A r.length c t sz (r.flatMap enc)))):Wx P Q n ⟨some d,.call ⟨.value (.func f),[x].toArray,ts⟩,ty',pos,after,guard⟩ fr L N:=by
 obtain⟨i,hr⟩:=hr.of;intro a w ha hw;have hm:=(hr (.r A m c t sz (l.flatMap enc))).mem;have hs:=Has.ofRow (Nat.le_of_ble_eq_true hz) he (hw.ok _ hm);obtain rfl:=hs.len;refine Ux (vs:=[.slice A l.length c]) (by simp only[evos,hx]) (fun w1 hw1=>ht.h _ A c hs w1 (fun e h=>by rw[List.mem_singleton.1 h];exact hw1.ok _ hm)) hd ?_ a w ha hw;rintro _ _ _ ⟨rfl,rfl,-⟩;exact Bbp ht.p (hr _) (Nat.le_of_ble_eq_true hz) he k
inductive Spt:LE->LE->Ent->Prop
 |last {e}:Spt [e] [] e
 |cons {x L es e}:Spt L es e->Spt (x::L) (x::es) e
theorem Spt.eq{L es e}(h:Spt L es e):L=es++[e]:=by
 induction h with
 |last=>rfl
 |cons _ ih=>rw[ih];rfl
theorem Bga{fn:Func}{R:Value->LE->Prop}{w0:World}{rs vs}{es:LE}(h:Res P fr L rs vs)(hs:Spt L es (.old w0))(hlo:∀x∈es,x.low=0)(hR:∀w,Heap L w->R (Vh vs) [bun es]):T n (Ends P fn rs R w0 .ret) fr L:=fun a w ha hw hr=>Aui hr h (fun w hw=>⟨_,[bun es],rfl,hR w hw,Bq rfl Gg,Aff hlo (hs.eq▸hw)⟩) a w ha hw
end
theorem Pa{A B G:Prop}(k:A->B->G):A/\B->G:=fun h=>k h.1 h.2
theorem Pt'{G:Prop}(k:G):True->G:=fun _=>k
theorem Lo1{e:Ent}{G:Prop}(k:e.low=0->G):(∀x∈[e],x.low=0)->G:=fun h=>k (h e mS)
theorem Has.row1{α:Type}{enc:α->LV}{L:LE}{w:World}{A m c r sz}{l:List α}(hw:Heap L w)(hk:AtE L (.r A m c r sz (l.flatMap enc)))(hz:Nat.blt 0 sz=true)(he:∀x,(enc x).length=sz):Has [.r A m c r sz (l.flatMap enc)] A m c sz enc l:=by
 obtain⟨_,hk⟩:=hk.nth;exact Has.ofRow (Nat.le_of_ble_eq_true hz) he (hw.ok _ (Gd hk))
theorem Has.m1{α:Type}{enc:α->LV}{L:LE}{w:World}{g q sz:Nat}{t:TypeId}{cs:LV}{l:List α}(_hw:Heap L w)(_hk:AtE L (.m g t cs))(hc:cs=l.flatMap enc)(hn:l.length=q)(he:∀x,(enc x).length=sz)(hm:Nat.ble q 1000=true):Has [.m g t cs] (some ⟨g,0,none⟩) q q sz enc l :=
 Has.ofM (fun x _=>he x) hn (by have:=Nat.le_of_ble_eq_true hm;unfold maxLen;omega) hc
theorem Has.inl{α:Type}{enc:α->LV}{K K':LE}{A m c sz}{l:List α}(h:Has K A m c sz enc l):Has (K++K') A m c sz enc l:=h.up SubE.appL
theorem Has.inr{α:Type}{enc:α->LV}{K K':LE}{A m c sz}{l:List α}(h:Has K' A m c sz enc l):Has (K++K') A m c sz enc l:=h.up (SubE.appR SubE.refl)
class ConK{ρ:Type}(F:Option ρ)(P:outParam Program)(f:outParam FuncId)(Sh:outParam (Nat->Nat->Nat->OA->Nat->OA->Nat->LV->LE->Prop))(Fa:outParam (OA->Nat->OA->Nat->LE->LE->Prop))(Post:outParam (Nat->Nat->Nat->OA->Nat->OA->Nat->LE->ρ->Value->LE->Prop)):Prop where
 h:∀g0 g1 g2 A0 c0 A1 c1 K K2 vs Lp r,Sh g0 g1 g2 A0 c0 A1 c1 vs Lp->Fa A0 c0 A1 c1 K K2->F=some r->CtK P f vs (K++K2) Lp (Post g0 g1 g2 A0 c0 A1 c1 K r)
structure CnK(P:Program)(f:FuncId)(Sh:Nat->Nat->Nat->OA->Nat->OA->Nat->LV->LE->Prop)(Fa:OA->Nat->OA->Nat->LE->LE->Prop)(Post:Nat->Nat->Nat->OA->Nat->OA->Nat->LE->Value->LE->Prop):Prop where
 h:∀g0 g1 g2 A0 c0 A1 c1 K K2 vs Lp,Sh g0 g1 g2 A0 c0 A1 c1 vs Lp->Fa A0 c0 A1 c1 K K2->CtK P f vs (K++K2) Lp (Post g0 g1 g2 A0 c0 A1 c1 K)
theorem cnK{ρ:Type}{F:Option ρ}{P:Program}{f:FuncId}{Sh Fa Post}[hc:ConK F P f Sh Fa Post]{r:ρ}(h:F=some r):CnK P f Sh Fa (fun g0 g1 g2 A0 c0 A1 c1 K=>Post g0 g1 g2 A0 c0 A1 c1 K r):=⟨fun g0 g1 g2 A0 c0 A1 c1 K K2 vs Lp hs hf=>hc.h g0 g1 g2 A0 c0 A1 c1 K K2 vs Lp r hs hf h⟩
theorem Bdh{α ρ:Type}{o:Option α}{P:Program}{f:FuncId}{Sh Fa Post}[hc:ConK o P f Sh Fa Post]{k:α->Option ρ}{r:ρ}{G:Prop}(h:bnd o k=some r)(K:∀x,o=some x->CnK P f Sh Fa (fun g0 g1 g2 A0 c0 A1 c1 K=>Post g0 g1 g2 A0 c0 A1 c1 K x)->k x=some r->G):G:=let ⟨x,h1,h2⟩:=Bk h;K x h1 (cnK h1) h2
theorem SubE.l{K K2 L:LE}(h:SubE (K++K2) L):SubE K L:=⟨fun w hw e he=>h.ok w hw e (List.mem_append_left _ he)⟩
theorem SubE.r{K K2 L:LE}(h:SubE (K++K2) L):SubE K2 L:=⟨fun w hw e he=>h.ok w hw e (List.mem_append_right _ he)⟩
theorem CtK.mono{P:Program}{f:FuncId}{vs:LV}{K Lp:LE}{R R':Value->LE->Prop}(h:CtK P f vs K Lp R)(k:∀v Ln,R v Ln->R' v Ln):CtK P f vs K Lp R':=by
 refine⟨h.1,fun Lf w hK hw=>(h.2 Lf w hK hw).mono ?_⟩;rintro e w' ⟨v,Ln,rfl,hR,hh⟩;exact⟨v,Ln,rfl,k v Ln hR,hh⟩
theorem SubE.more{K L:LE}{e:Ent}(h:SubE K L):SubE K (e::L):=h.cons
section
variable {P:Program}{n:Nat}{ops:Array Oper}{Q:Exit->AW}{fr:lF}{L:LE}{N:AW}{d:Nat}{ty:TypeId}{pos:String}{after:AE}{guard:ON}
theorem Apy{f:FuncId}{Sh Fa Post}{xs:List Operand}{vs:LV}{ts:Array TypeId}{ty':TypeId}{Lp Lf K K2:LE}{g0 g1 g2 c0 c1:Nat}{A0 A1:OA}(hc:CnK P f Sh Fa Post)(hx:evos fr xs=some vs)(hs:Sh g0 g1 g2 A0 c0 A1 c1 vs Lp)(hp:Hh L (Lp++Lf))(hf:∀w,Heap Lf w->Fa A0 c0 A1 c1 K K2)(hK:SubE (K++K2) Lf)(hd:Nat.blt d n=true)(k:∀v Ln,Post g0 g1 g2 A0 c0 A1 c1 K v Ln->T n N ((d,v)::fr) (Ln++Lf)):Wh P Q n ⟨some d,.call ⟨.value (.func f),xs.toArray,ts⟩,ty',pos,after,guard⟩ fr L N:=by
 intro a w ha hw;have hw2:=hw.pick hp;have hwf:Heap Lf w:=⟨fun e he=>hw2.ok e (List.mem_append_right _ he),hw2.sep.sublist (List.sublist_append_right _ _)⟩;exact Axp hx hp hK (hc.h g0 g1 g2 A0 c0 A1 c1 K K2 vs Lp hs (hf w hwf)) hd k a w ha hw
def Bam(P:Program)(fn:Func)(rs:List ResultVar)(R:Value->LE->Prop)(Lf:LE):Exit->AW:=fun e a w=>fn.results=rs.toArray->bodyPost P fn (fun e w'=>∃v Ln,e=.returned v/\R v Ln/\Heap (Ln++Lf) w') e a w
theorem At8{fn:Func}{R:Value->LE->Prop}{Lf:LE}{rs vs}{Ln:LE}(h:Res P fr L rs vs)(hR:R (Vh vs) Ln)(hs:Hh L (Ln++Lf)):T n (Bam P fn rs R Lf .ret) fr L:=fun a w ha hw hr=>Bey hr h hR hs a w ha hw
theorem At9{fn:Func}{R:Value->LE->Prop}{Lf:LE}{rs vs}{Ln:LE}(h:Res P fr L rs vs)(hR:R (Vh vs) Ln)(hs:Hh L (Ln++Lf)):T n (Bam P fn rs R Lf .normal) fr L:=fun a w ha hw hr=>Axq hr h hR hs a w ha hw
theorem CtSK{f:FuncId}{fn:Func}{c:Code}{vs:LV}{K Lp:LE}{R:Value->LE->Prop}{m:Nat}{rs:List ResultVar}{fr0:lF}(hm:fn.ntmps=m)(hr:fn.results=rs.toArray)(k:∀Lf, SubE K Lf->T m (c.wp P (Bam P fn rs R Lf)) fr0 (Lp++Lf))(hf:P.funcs[f]? = some fn:=by rfl)(hb:fn.body=some c:=by rfl)(hn:(fn.name == "runtime.NumGoroutine")=false:=by kernel_rfl)(hl:Nat.ble vs.length m=true:=by rfl)(hv:Aaq vs 0=fr0:=by exact rfl): CtK P f vs K Lp R:=by
 subst hv;exact CtK.mk m hf hb hm hn hl fun Lf hK a w ha hw=>wp_mono (k Lf hK a w ha hw) (fun e a' w' h=>h hr)
inductive DecL{α:Type}(enc:α->LV):LV->List α->Prop
 |nil:DecL enc [] []
 |c1 {v cs x ys}:DecI enc [v] x->DecL enc cs ys->DecL enc (v::cs) (x::ys)
 |c2 {v1 v2 cs x ys}:DecI enc [v1,v2] x->DecL enc cs ys->DecL enc (v1::v2::cs) (x::ys)
 |c3 {v1 v2 v3 cs x ys}:DecI enc [v1,v2,v3] x->DecL enc cs ys->DecL enc (v1::v2::v3::cs) (x::ys)
theorem DecL.eq{α:Type}{enc:α->LV}{cs ys}(h:DecL enc cs ys):cs=ys.flatMap enc:=by
 induction h with
 |nil=>rfl
 |c1 h _ ih=>rw[List.flatMap_cons,<-h.h,<-ih];rfl
 |c2 h _ ih=>rw[List.flatMap_cons,<-h.h,<-ih];rfl
 |c3 h _ ih=>rw[List.flatMap_cons,<-h.h,<-ih];rfl
theorem Af3(s:Nat){α:Type}{enc:α->LV}{l:List α}{g t sz q:Nat}{cs:LV}{L':LE}(hs:look fr s=some (.slice (some ⟨g,0,none⟩) q q))(hk:AtE L (.m g t cs))(he:EncI t enc)(hc:DecL enc cs l)(hz:∀x,(enc x).length=sz)(hq:q=l.length)(hm:Nat.ble q 1000=true)(hL:SetA L (.m g t cs) (.r (some ⟨g,0,none⟩) q q t sz (l.flatMap enc)) L')(k:T n N fr L'):T n N fr L:=by
 obtain⟨_,hL⟩:=hL.of;exact T_mr l hL hc.eq hq hz (by have:=Nat.le_of_ble_eq_true hm;unfold maxLen;omega) k
end
theorem Pt.lo{K:LE}{w:World}{b o:Nat}{ys:LV}(h:Pt K b o ys)(hK:∀e∈K,Ent.ok w e):Pt [.old w] b o ys:=Pt.low (E:=[]) (Pt.up0 h) hK
theorem Pt.mA{g:Nat}{t:TypeId}{cs:LV}{L:LE}(h:AtE L (.m g t cs)):Pt L g 0 cs:=by
 obtain⟨_,h⟩:=h.nth;exact Pt.m0 (Gd h)
theorem Pt.upS{K L:LE}{b o:Nat}{ys:LV}(h:Pt K b o ys)(i:SubE K L):Pt L b o ys:=fun w hw=>h w (i.ok w hw)
section
variable {P:Program}{n:Nat}{ops:Array Oper}{Q:Exit->AW}{fr:lF}{L:LE}{rest:List Oper}{N:AW}{d i:Nat}{ty:TypeId}{pos:String}{after:AE}{guard:ON}{cls:Cls}{os:LM}
theorem Zm(s:Nat){α:Type}{enc:α->LV}{l:List α}{j:Int}{A:OA}{m c t sz:Nat}{L':LE}(hs:look fr s=some (.slice A (subl l 0 j).length c))(hk:AtE L (.r A m c t sz (l.flatMap enc)))(hb:0<=j/\j<=(l.length:Int))(hz:Nat.blt 0 sz=true)(he:∀x,(enc x).length=sz)(hL:SetA L (.r A m c t sz (l.flatMap enc)) (.r A (List.take j.toNat l).length c t sz ((List.take j.toNat l).flatMap enc)) L')(k:T n N fr L'):T n N fr L:=by
 obtain⟨_,hL⟩:=hL.of;have e:(List.take j.toNat l).length=j.toNat:=by rw[List.length_take];omega
 rw[e] at hL;exact Asw hL oo (Nat.le_of_ble_eq_true hz) he k
section
variable {α:Type}{KK:LE}{A:OA}{m c sz:Nat}{enc:α->LV}{l:List α}{x lo:Operand}{kd:IntKind}{j:Int}{t e:TypeId}
theorem Adr{l:List α}{j:Int}:(subl l j (l.length:Int)).length=l.length-j.toNat:=by unfold subl;simp
theorem Has.lenL(h:Has KK (slA A c j.toNat sz) (m-j.toNat) (c-j.toNat) sz enc (subl l j (m:Int))):m-j.toNat=(subl l j (m:Int)).length/\Has KK (slA A c j.toNat sz) (subl l j (m:Int)).length (c-j.toNat) sz enc (subl l j (m:Int)):=by
 have e:=h.len;exact⟨e.symm,h.len'⟩
theorem Ban [ht:Kt P t e sz](hx:evo fr x=some (.slice A m c))(hh:evo fr lo=some (.int kd j))(hs:Has KK A m c sz enc l)(hb:0<=j/\j<=((m:Nat):Int))(hd:Nat.blt d n=true)(k:Has KK (slA A c j.toNat sz) (subl l j (m:Int)).length (c-j.toNat) sz enc (subl l j (m:Int))->T n (wpList P ops Q rest) ((d,.slice (slA A c j.toNat sz) (subl l j (m:Int)).length (c-j.toNat))::fr) L):T n (wpList P ops Q (⟨some d,.slice t x (some lo) none none,ty,pos,after,none⟩ :: rest)) fr L:=by
 obtain⟨e,h2⟩:=(hs.subL hb.1 hb.2).lenL;exact Dg (by rw[<-e];exact Asx hx hh ht.h hb.1 hb.2) hd (k h2)
end
class SrtI(P:Program)(f gf:FuncId){β:outParam Type}(enc:outParam (β->LV))(k:outParam Nat)(p:outParam (List β->β->Prop))(cf:outParam (β->β->Int))(arg:outParam (β->Value)):Prop where
 he:Xx P f
 hs:∀(l:List β),l.length<=1000000000->(∀x∈l,p l x)->∀(A:OA) (m c:Nat) (t:TypeId) w,Ent.ok w (.r A m c t k (l.flatMap enc))->Ad2 P (p l) cf arg A m c t k gf #[] w (l.flatMap enc)->Ad1 P f A m c t k gf #[] w (l.flatMap enc) ((Bf cf l).flatMap enc)
 hc:∀l W x y,p l x->p l y->∃xs,xs.toArray = #[arg x,arg y] ++ #[]/\CtL P gf xs W fun v Ln=>v=.int .i64 (cf x y)/\Ln=[]/\True
theorem Bao{F:Ent->LE}{β:Type}{enc:β->LV}{k f gf:Nat}{p:List β->β->Prop}{cf:β->β->Int}{arg:β->Value}{l:List β}{A:OA}{m c:Nat}{t:TypeId}{xs:List Operand}{ts:Array TypeId}{ty':TypeId}(hx:evos fr xs=some [.slice A m c,.func (.func gf) #[] #[]])(h:SrtI P f gf enc k p cf arg)(hr:RepE L (.r A m c t k (l.flatMap enc)) F)(hg:l.length<=1000000000/\∀x∈l,p l x)(hd:Nat.blt d n=true)(kk:T n N ((d,.tuple #[])::fr) (F (.r A m c t k ((Bf cf l).flatMap enc)))):Wh P Q n ⟨some d,.call ⟨.value (.func f),xs.toArray,ts⟩,ty',pos,after,guard⟩ fr L N:=by
 obtain⟨_,hr⟩:=hr.of;exact Aou l h.he (h.hs l hg.1 hg.2 A m c t) (fun ys=>F (.r A m c t k ys)) (fun ys=>hr _) (fun ys W _ x y px py=>h.hc l W x y px py) hx rfl hd kk
class Sr1(P:Program)(f:FuncId)(enc:outParam (Int->LV))(st:outParam (LI->LI)):Prop where
 he:Xx P f
 hs:∀(l:LI),l.length<=1000000->∀(A:OA) (m c:Nat) (t:TypeId) (w:World),Ent.ok w (.r A m c t 1 (l.flatMap enc))->Calls P f #[.slice A m c] w fun e w'=>e=.returned (.tuple #[])/\w.grownBy w' (Ent.blk (.r A m c t 1 (l.flatMap enc)))/\w.drawn<=w'.drawn/\Ent.ok w' (.r A m c t 1 ((st l).flatMap enc))
theorem Bap{F:Ent->LE}{f:Nat}{enc:Int->LV}{st:LI->LI}{l:LI}{A:OA}{m c:Nat}{t:TypeId}{xs:List Operand}{ts:Array TypeId}{ty':TypeId}(hx:evos fr xs=some [.slice A m c])(h:Sr1 P f enc st)(hr:RepE L (.r A m c t 1 (l.flatMap enc)) F)(hb:l.length<=1000000)(hd:Nat.blt d n=true)(kk:T n N ((d,.tuple #[])::fr) (F (.r A m c t 1 ((st l).flatMap enc)))):Wh P Q n ⟨some d,.call ⟨.value (.func f),xs.toArray,ts⟩,ty',pos,after,guard⟩ fr L N:=by
 intro a w ha hw;obtain⟨_,hr⟩:=hr.of;simp only[Oper.wp,Ac0 h.he ha hx,Oper.upon_enter];refine (h.hs l hb A m c t w (hw.ok _ (hr (.r A m c t 1 ((st l).flatMap enc))).mem)).mono ?_;rintro e w' ⟨rfl,hg,hdr,hok⟩;exact kk _ _ (ha.put hd) (Heap.turn (e:=.r A m c t 1 (l.flatMap enc)) (e':=.r A m c t 1 ((st l).flatMap enc)) hg hok (nL _) (fun _ hg=>.inl hg) (hr _) hw (hd:=hdr))
end
def Cq(l:LI):LI:=l.mergeSort fun x y=>decide (x<=y)
theorem Lt{l:LI}:(Cq l).length=l.length:=by simp[Cq]
theorem Bhh{P:Program}{n:Nat}{ops:Array Oper}{Q:Exit->AW}{fr:lF}{L:LE}{id:Nat}(s:Nat)(cls:Cls)(A:LL)(RL:LM)(p:Plan){g o:Nat}{t:TypeId}{cs:LV}(hs:look fr s=some (.pointer (some ⟨g,o,none⟩)))(hk:AtE L (.m g t cs))(hm:P.follows .mixedOrders=true)(hd:Aae ops cls A RL=true)(hp:Hz ops cls p (Array.replicate ops.size false) none=true)(k:T n (Bi P ops Q cls A RL (RR [.m g t cs]) p) fr L):T n ((Code.region id ops true).wp P Q) fr L:=by
 obtain⟨_,hk⟩:=hk.nth;exact Bbh cls A RL [.m g t cs] p hm hd hp (fun w hw=>SubE.ok (SubE.nth hk) w hw) k
theorem Anp{P:Program}{n:Nat}{Q:Exit->AW}{fr:lF}{L:LE}{N:AW}{d:Nat}{pos:String}{after:AE}{guard:ON}{α:Type}{enc:α->LV}{l ys:List α}{s x:Operand}{t e sz bytes:Nat}{A B:OA}{m c q q':Nat}{K:LE}{ty':TypeId}{f:Ent->LE}[ht:Ad9 P t e sz bytes](hs:evo fr s=some (.slice A m c))(hx:evo fr x=some (.slice B q q'))(hr:RepE L (.r A m c e sz (l.flatMap enc)) f)(hy:Has K B q q' sz enc ys)(hK:SubE K L)(hb:(l.length+ys.length)*bytes<=140737488355328)(he:∀x,(enc x).length=sz)(h1:∀x,Tf (enc x)=true)(hd:Nat.blt d n=true)(h0:Nat.blt 0 bytes=true)(k:∀A' c',T n N ((d,.slice A' (l++ys).length c')::fr) (f (.r A' (l++ys).length c' e sz ((l++ys).flatMap enc)))):Wh P Q n ⟨some d,.call ⟨.builtin .append,#[s,x],#[t,t]⟩,ty',pos,after,guard⟩ fr L N:=by
 obtain⟨_,hr⟩:=hr.of;exact Yx (L':=fun A' c'=>f (.r A' (l++ys).length c' e sz ((l++ys).flatMap enc))) enc l ys hs hx ht.h he hy hK h1 hb hd (fun A' c'=>hr _) (Nat.le_of_ble_eq_true h0) k
theorem Aua{P:Program}{n:Nat}{Q:Exit->AW}{fr:lF}{L:LE}{N:AW}{d:Nat}{pos:String}{after:AE}{guard:ON}{α:Type}{enc:α->LV}{l l2:List α}{s x:Operand}{t e sz bytes:Nat}{A:OA}{m c g q q':Nat}{t':TypeId}{cs:LV}{ty':TypeId}{f:Ent->LE}[ht:Ad9 P t e sz bytes](hs:evo fr s=some (.slice A m c))(hx:evo fr x=some (.slice (some ⟨g,0,none⟩) q q'))(hr:RepE L (.r A m c e sz (l.flatMap enc)) f)(hm:AtE L (.m g t' cs))(hdec:DecL enc cs l2)(hq:q=l2.length)(hb:(l.length+q)*bytes<=140737488355328)(he:∀x,(enc x).length=sz)(h1:Tf cs=true)(hd:Nat.blt d n=true)(h0:Nat.blt 0 bytes=true)(k:∀A' c',T n N ((d,.slice A' (l++l2).length c')::fr) (f (.r A' (l++l2).length c' e sz ((l++l2).flatMap enc)))):Wh P Q n ⟨some d,.call ⟨.builtin .append,#[s,x],#[t,t]⟩,ty',pos,after,guard⟩ fr L N:=by
 obtain⟨_,hr⟩:=hr.of;obtain⟨_,hm⟩:=hm.nth;subst hq;exact Wn (L2:=fun A' c'=>f (.r A' (l++l2).length c' e sz ((l++l2).flatMap enc))) enc l l2 hs hx rfl ht.h he hm hdec.eq rfl h1 hb hd (fun A' c'=>hr _) (fun _ _=>.refl) (Nat.le_of_ble_eq_true h0) k
theorem Bdi{P:Program}{n:Nat}{ops:Array Oper}{Q:Exit->AW}{fr:lF}{L:LE}{rest:List Oper}{d:Nat}{ty:TypeId}{pos:String}{after:AE}{α:Type}{A:OA}{m c sz:Nat}{enc:α->LV}{l:List α}{x lo:Operand}{kd:IntKind}{j:Int}{t e r:TypeId}[ht:Kt P t e sz](hx:evo fr x=some (.slice A m c))(hk:AtE L (.r A m c r sz (l.flatMap enc)))(hh:evo fr lo=some (.int kd j))(hb:0<=j/\j<=((m:Nat):Int))(hd:Nat.blt d n=true)(hz:Nat.blt 0 sz=true)(he:∀x,(enc x).length=sz)(k:Has [.r A m c r sz (l.flatMap enc)] (slA A c j.toNat sz) (subl l j (m:Int)).length (c-j.toNat) sz enc (subl l j (m:Int))->T n (wpList P ops Q rest) ((d,.slice (slA A c j.toNat sz) (subl l j (m:Int)).length (c-j.toNat))::fr) L):T n (wpList P ops Q (⟨some d,.slice t x (some lo) none none,ty,pos,after,none⟩ :: rest)) fr L:=Ra hk hz he fun hs=>Ban hx hh hs hb hd k
inductive LN{α:Type}(RN:LE->α->LV->Prop)(K:LE)(sz:Nat):LV->List α->Prop
 |nil:LN RN K sz [] []
 |cons {cs x xs}:RN K x (cs.take sz)->Nat.ble sz cs.length=true->LN RN K sz (cs.drop sz) xs->LN RN K sz cs (x::xs)
theorem LN.of{α:Type}{RN:LE->α->LV->Prop}{K:LE}{sz:Nat}{cs:LV}{xs:List α}(h:LN RN K sz cs xs):∃hl:List LV,cs=hl.flatMap raw/\(∀y∈hl,(raw y).length=sz)/\hl.length=xs.length/\∀(i:Nat) (h:i<xs.length) (h':i<hl.length),RN K xs[i] hl[i]:=by
 induction h with
 |nil=>exact⟨[],rfl,fun y hy=>by simp at hy,rfl,fun i h=>absurd h s_⟩
 |@cons cs x xs h1 h2 _ ih=>
  obtain⟨hl,e1,e2,e3,e4⟩:=ih;refine⟨cs.take sz::hl,?_,fun y hy=>?_,by simp[e3],fun i h h'=>?_⟩
  .rw[List.flatMap_cons,<-e1];exact (List.take_append_drop sz cs).symm
  .rcases List.mem_cons.1 hy with rfl|hy
   .have:=Nat.le_of_ble_eq_true h2;show (List.take sz cs).length=sz;rw[List.length_take];omega
   .exact e2 y hy
  .cases i with
   |zero=>exact h1
   |succ j=>exact e4 j (sV h) (sV h')
theorem HasN.mW{α:Type}{RN:LE->α->LV->Prop}{L:LE}{w:World}{g sz:Nat}{t:TypeId}{cs:LV}{xs:List α}(_:Heap L w)(hk:AtE L (.m g t cs))(hl:LN RN L sz cs xs)(hm:Nat.ble xs.length 1000=true):HasN L (some ⟨g,0,none⟩) xs.length xs.length sz RN xs:=by
 obtain⟨_,hk⟩:=hk.nth;obtain⟨hs,e1,e2,e3,e4⟩:=hl.of;exact⟨hs,by rw[<-e3];exact (Has.ofM e2 rfl (by have:=Nat.le_of_ble_eq_true hm;unfold maxLen;omega) e1).up (SubE.nth hk),e3,e4⟩
inductive RemE:LE->Ent->LE->Prop
 |here {e L}:RemE (e::L) e L
 |there {x L e L'}:RemE L e L'->RemE (x::L) e (x::L')
theorem RemE.perm{L e L'}(h:RemE L e L'):L.Perm (e::L'):=by
 induction h with
 |here=>exact .refl _
 |there _ ih=>exact (ih.cons _).trans (.swap _ _ _)
theorem Baq{P:Program}{n:Nat}{fr:lF}{L:LE}{fn:Func}{R:Value->LE->Prop}{w0:World}{rs vs}{row:Ent}{L' es:LE}(h:Res P fr L rs vs)(hR:∀w,Heap L w->R (Vh vs) [row,bun es])(hr:RemE L row L')(hs:Spt L' es (.old w0))(hl:row.low=0)(hlo:∀x∈es,x.low=0):T n (Ends P fn rs R w0 .ret) fr L:=fun a w ha hw hr'=>
 Aui hr' h (fun w hw=>⟨_,[row,bun es],rfl,hR w hw,Bq hl (Bq rfl Gg),by
  have h1:L.Perm (row::(es++[.old w0])):=hs.eq▸hr.perm;have h2:Heap (es++row::[.old w0]) w:=hw.perm (h1.trans List.perm_middle.symm);exact (Aff hlo h2).perm (List.Perm.swap row (bun es) [.old w0])⟩) a w ha hw
theorem Lo2{a e:Ent}{G:Prop}(k:e.low=0->G):(∀x∈[a,e],x.low=0)->G:=fun h=>k (h e (mO _ mS))
section
open Go.Maps (Keyed)
variable {κ υ:Type}
def MapK(K:LE)(P:Program)(k:TypeId)(ke:κ->Value)(ve:υ->Value)(g:Nat)(m:List (κ×υ)):Prop:=∀w,(∀e∈K,Ent.ok w e)->Abv P k ke ve g m w
variable {P:Program}{k:TypeId}{ke:κ->Value}{ve:υ->Value}{g:Nat}{m:List (κ×υ)}{K E:LE}{w:World}
theorem MapK.m0(h:Bg P k ke ve g m∈K):MapK K P k ke ve g m:=fun w hw=>Vo w (hw _ h)
theorem MapK.up0(h:MapK K P k ke ve g m):MapK (K++[]) P k ke ve g m:=by rw[List.append_nil];exact h
theorem MapK.low(h:MapK (K++E) P k ke ve g m)(hK:∀e∈K,Ent.ok w e):MapK (.old w::E) P k ke ve g m:=fun w' hw'=>h w' (fun e he=>by
 rcases List.mem_append.1 he with he|he
 .exact Ent.ext (hK e he) (hw' (.old w) mS)
 .exact hw' e (mO _ he))
variable {n:Nat}{fr:lF}{L:LE}{dst:Option Tmp}{ty:TypeId}{pos:String}{after:AE}{guard:ON}{K':LE}
theorem Awi{t e:TypeId}{mo ko:Operand}{x:κ}{z0 u:υ}{kv vv:Value}(K:Keyed P k)(ht:P.underlying t=some (.map k e))(hz:∀ w,(zeroValue e).run P w = .ok (ve z0) w)(hke:∀ x y,ke x=ke y->x=y)(hm:evo fr mo=some (.map (some g)))(hk:evo fr ko=some kv)(hkv:kv=ke x)(hM:MapK K' P k ke ve g m)(hS:SubE K' L)(hx:(keyOf P k (ke x)).isSome=true)(hu:some ((mget m x).getD z0)=some u)(hvv:vv=ve u):
  Ev P n ⟨dst,.lookup t mo ko false,ty,pos,after,guard⟩ fr L vv:=fun a w ha hw=>by
 subst hkv;subst hvv;have:=Azs (ok:=false) K ht (hz w) hke (hM w (hS.ok w hw)) hx;simp only[Bool.false_eq_true,if_false] at this;rw[Agc (ve:=ve) hu] at this;simp[execOp,ha.eval hm,ha.eval hk,this]
end
theorem MapK.lo{κ υ:Type}{P:Program}{k:TypeId}{ke:κ->Value}{ve:υ->Value}{g:Nat}{m:List (κ×υ)}{K:LE}{w:World}(h:MapK K P k ke ve g m)(hK:∀e∈K,Ent.ok w e):MapK [.old w] P k ke ve g m:=MapK.low (E:=[]) (MapK.up0 h) hK
theorem MapK.upS{κ υ:Type}{P:Program}{k:TypeId}{ke:κ->Value}{ve:υ->Value}{g:Nat}{m:List (κ×υ)}{K L:LE}(h:MapK K P k ke ve g m)(hs:SubE K L):MapK L P k ke ve g m:=fun w hw=>h w (hs.ok w hw)
theorem MapK.mA{κ υ:Type}{P:Program}{k:TypeId}{ke:κ->Value}{ve:υ->Value}{g:Nat}{m:List (κ×υ)}{L:LE}(h:AtE L (Bg P k ke ve g m)):MapK L P k ke ve g m:=by
 obtain⟨_,h⟩:=h.nth;exact MapK.m0 (Gd h)
theorem Bar{κ υ:Type}{P:Program}{n:Nat}{fr:lF}{L:LE}{dst:Option Tmp}{ty:TypeId}{pos:String}{after:AE}{guard:ON}{ke:κ->Value}{ve:υ->Value}{k e:TypeId}{t:TypeId}{g:Nat}{mo ko:Operand}{kv vv:Value}{x:κ}{m:List (κ×υ)}{rng:κ->Prop}{z0:υ}{K':LE}[hu:UndI P t (.map k e)][hK:KeyI P k ke rng][hV:ValI P e ve z0](hm:evo fr mo=some (.map (some g)))(hk:evo fr ko=some kv)(hM:MapK K' P k ke ve g m)(hS:SubE K' L)(hd:Abe ke kv x)(hr:rng x){u:υ}(hz:some ((mget m x).getD z0)=some u)(hq:vv=ve u):Ev P n ⟨dst,.lookup t mo ko false,ty,pos,after,guard⟩ fr L vv :=
 Awi hK.h hu.h hV.z hK.inj hm hk hd.h hM hS (hK.isk x hr) hz hq
section
variable {P:Program}{n:Nat}{N:AW}{Q:Exit->AW}{fr:lF}{L:LE}
theorem Aky{α:Type}{enc:α->List Value}{sz:Nat}(l:List α)(he:∀ x,(enc x).length=sz){u x0:α}{d:Nat}{v:Value}(hu:enc u=(enc x0).set d v)(hd:d<sz){j:Nat}(tail:List Value)(hj:j<l.length)(hx:l[j]=x0):
  (Eq (l.flatMap enc++tail).toArray (j*sz+d) [v]).toList=(l.set j u).flatMap enc++tail:=by
 have hsplit:l=l.take j++l[j]::l.drop (j+1):=by rw[<-List.drop_eq_getElem_cons hj,List.take_append_drop]
 have hlen:((l.take j).flatMap enc).length=j*sz:=by
  have:∀(m:List α),(m.flatMap enc).length=m.length*sz:=by
   intro m
   induction m with
   |nil=>simp
   |cons y r ih=>rw[List.flatMap_cons,List.length_append,he y,ih,List.length_cons,Nat.succ_mul];omega
  rw[this,List.length_take,Nat.min_eq_left oo]
 have h1:l.flatMap enc++tail=(l.take j).flatMap enc++(enc x0++((l.drop (j+1)).flatMap enc++tail)):=by
  have h0:=congrArg (fun m:List α=>m.flatMap enc++tail) hsplit;simp only[List.flatMap_append,List.flatMap_cons,List.append_assoc,hx] at h0⊢;exact h0
 have h2:(l.set j u).flatMap enc++tail=(l.take j).flatMap enc++(enc u++((l.drop (j+1)).flatMap enc++tail)):=by
  rw[List.set_eq_take_append_cons_drop,iP hj];simp[List.flatMap_append,List.flatMap_cons,List.append_assoc]
 rw[h1,h2,hu];simp only[Eq,List.setIfInBounds_toArray];rw[List.set_append_right _ _ oo,hlen,Nat.add_sub_cancel_left,List.set_append_left _ _ (by rw[he];exact hd)]
theorem Awj{α:Type}(enc:α->LV)(l:List α)(ix:Int)(x0 u:α)(d:Nat){j sz:Nat}{m:Nat}{x y g o A c t v ty' i L'}{ty:TypeId}{pos:String}{after:AE}{guard:ON}(hx:evo fr x=some (.pointer (some ⟨g,o,none⟩)))(hy:evo fr y=some v)(hv:v.cells = #[v])(hL:SetE L i (.r A m c t sz (l.flatMap enc)) (.r A m c t sz ((setI l ix u).flatMap enc)) L')(hA:A=some ⟨g,0,none⟩)(ho:o=0+j*sz+d)(hix:ix=(j:Int))(hj:j<m)(he:∀x,(enc x).length=sz)(hz:d<sz)(hi:idx l ix=some x0)(hu:enc u=(enc x0).set d v)(h1:Tf [v]=true)(hsz:∀w,(sizeOf ty').run P w=.ok 1 w)(k:T n N fr L'):Wh P Q n ⟨none,.store ty' x y,ty,pos,after,guard⟩ fr L N:=by
 intro a w ha hw;have hm:m=l.length:=(Has.ofRow oo he (hw.ok _ hL.mem)).len.symm;subst hm;subst hix;rw[Fo] at hL;rw[Aj hj] at hi;have hx0:=oI hi;subst ho;subst hA;obtain⟨hl,h2⟩:=hw.ok _ hL.mem;rcases h2 with⟨hv',_⟩|⟨g',cap,cur,hv',_,hb,h3,h4,h5,h6⟩
 .cases hv'
 .injection hv' with hg _ hcap
  injection hg with hg
  injection hg with hg
  subst hg;subst hcap;have hle:l.length*sz<=c*sz:=Nat.mul_le_mul_right _ h3;have hjl:j*sz+sz<=l.length*sz:=by rw[<-Nat.succ_mul];exact Nat.mul_le_mul_right _ hj
  have hst:=Qy P g t [v] 0 (0+j*sz+d) cur w hb (by rw[h5];simp only[List.length_cons,List.length_nil];omega) (Xc h1);rw[iN s_] at hst;have hrun:(execOp a.eval ⟨none,.store ty' x y,ty,pos,after,guard⟩).run P w=.ok .skip (Ub w g (.cells (Eq cur (0+j*sz+d+0) [v]) t (0,0))):=by
   simp[execOp,ha.eval hx,ha.eval hy,Instr.storeAt,Instr.sureAddr,storeVar,hv,hsz w] at hst⊢;simp[hst]
  simp only[Oper.wp,hrun,Oper.upon_skip];refine k _ _ ha (Heap.turn (e:=.r (some ⟨g,0,none⟩) l.length c t sz (l.flatMap enc)) (e':=.r (some ⟨g,0,none⟩) l.length c t sz ((l.set j u).flatMap enc)) (Yl w g _) ?_ (nL _) (fun _ hg=>.inl hg) hL hw);have hcur:cur=(l.flatMap enc++cur.toList.drop (l.length*sz)).toArray:=by
   rw[<-h6,List.take_append_drop]
  have hwr:(Eq cur (0+j*sz+d+0) [v]).toList=(l.set j u).flatMap enc++cur.toList.drop (l.length*sz):=by
   rw[Nat.add_zero,Nat.zero_add]
   conv=>lhs;rw[hcur]
   exact Aky l he hu hz _ hj hx0
  have hfl:((l.set j u).flatMap enc).length=l.length*sz:=by
   have e1:(Eq cur (0+j*sz+d+0) [v]).toList.length=c*sz:=by rw[Array.length_toList,Ym,h5]
   have e2:=congrArg List.length hwr;have e3:cur.toList.length=c*sz:=by rw[Array.length_toList,h5]
   rw[e1,List.length_append,List.length_drop,e3] at e2;generalize ((l.set j u).flatMap enc).length=p at e2⊢;generalize l.length*sz=q at e2 hle ⊢;generalize c*sz=q' at e2 hle;omega
  refine⟨hfl,.inr ⟨g,c,_,rfl,Nat.zero_le _,Ads w g _ (Dq hb),h3,h4,by rw[Ym];exact h5,?_⟩⟩;rw[hwr,<-hfl];simp
end
theorem Spl.set{cs:LV}{d:Nat}{v:Value}{cs':LV}(h:Spl cs d [v] cs'):cs'=cs.set d v:=by
 generalize hx:[v]=vs at h
 induction h with
 |done=>cases hx
 |@put c cs w vs cs' h _=>cases hx;cases h;rfl
 |skip _ ih=>rw[ih hx];rfl
theorem Al6{P:Program}{n:Nat}{N:AW}{Q:Exit->AW}{fr:lF}{L:LE}{α:Type}{enc:α->LV}{l:List α}{z:Int}{x0 u:α}{o d m sz c e g:Nat}{A:OA}{x y:Operand}{v:Value}{cs':LV}{ty':TypeId}{ty:TypeId}{pos:String}{after:AE}{guard:ON}{f:Ent->LE}[hs:OneI P ty'](hx:evo fr x=some (.pointer (some ⟨g,o+d,none⟩)))(hy:evo fr y=some v)(hv:v.cells = #[v])(hI:IxAt A m z sz g o)(hr:RepE L (.r A m c e sz (l.flatMap enc)) f)(hi:idx l z=some x0)(hsp:Spl (enc x0) d [v] cs')(hdec:DecI enc cs' u)(he:∀x,(enc x).length=sz)(hd:Nat.blt d sz=true)(h1:Tf [v]=true)(k:T n N fr (f (.r A m c e sz ((setI l z u).flatMap enc)))):Wh P Q n ⟨none,.store ty' x y,ty,pos,after,guard⟩ fr L N:=by
 obtain⟨i,hr⟩:=hr.of;obtain⟨o0,j,hA,hj,hl,ho⟩:=hI.h;have hd':=Nat.le_of_ble_eq_true hd;intro a w ha hw;have hok:=hw.ok _ (hr (.r A m c e sz ((setI l z u).flatMap enc))).mem;have hA0:∃g,A=some ⟨g,0,none⟩:=by
  obtain⟨_,h⟩:=hok;rcases h with⟨hv,h0⟩|⟨g,cap,cur,hv,_⟩
  .injection hv with h1 h2 h3;omega
  .injection hv with h1 h2 h3;exact⟨g,h1⟩
 obtain⟨g',hA'⟩:=hA0;have e0:g'=g/\0=o0:=by
  rw[hA'] at hA;injection hA with h1;injection h1 with h1 h2 h3
  exact⟨h1,h2⟩
 obtain⟨rfl,rfl⟩:=e0;exact Awj enc l z x0 u d hx hy hv (hr _) hA' oo hj hl he oo hi (by rw[<-hdec.h];exact hsp.set) h1 hs.h.2 k a w ha hw
class ConF(P:Program)(f:FuncId)(vs:LV)(Post:outParam (Value->LE->Prop)):Prop where
 h:∀w,CtL P f vs w Post
theorem Apz{P:Program}{n:Nat}{Q:Exit->AW}{fr:lF}{L:LE}{N:AW}{d:Nat}{pos:String}{after:AE}{guard:ON}{f:FuncId}{Post:Value->LE->Prop}{xs:List Operand}{vs:LV}{ts:Array TypeId}{ty':TypeId}(hx:evos fr xs=some vs)(hc:ConF P f vs Post)(hd:Nat.blt d n=true)(k:∀v Ln,Post v Ln->T n N ((d,v)::fr) (Ln++L)):Wx P Q n ⟨some d,.call ⟨.value (.func f),xs.toArray,ts⟩,ty',pos,after,guard⟩ fr L N:=fun a w ha hw=>Ux hx (fun w1 _=>hc.h w1) hd (fun v Ln _ hR=>k v Ln hR) a w ha hw
theorem DecZ.map{kd cs ys}(h:DecZ kd cs ys):cs=ys.map (Value.int kd):=by
 induction h with
 |nil=>rfl
 |cons _ ih=>rw[ih];rfl
theorem Pt.atZ{K:LE}{b o:Nat}{kd:IntKind}{cs:LV}{ys:LI}{z v:Int}(h:Pt K b o cs)(hc:DecZ kd cs ys)(hz:idx ys z=some v):Pt K b (o+z.toNat*1) [.int kd v]:=fun w hw j u hj=>by
 have h0:=Afr hz;have e:=hc.map;subst e;obtain⟨k,rfl⟩:∃k:Nat,z=(k:Int):=⟨z.toNat,oo⟩;have hk:k<ys.length:=oo;rw[Aj hk] at hz;cases hz
 match j,hj with
 |0,hj=>
  cases hj
  have:=h w hw k (.int kd ys[k]) (by rw[List.getElem?_map,gE hk];rfl);rw[Int.toNat_natCast,Nat.mul_one,Nat.add_zero];exact this
theorem Bhi{P:Program}{n:Nat}{ops:Array Oper}{Q:Exit->AW}{fr:lF}{L:LE}{d i:Nat}{ty:TypeId}{pos:String}{after:AE}{guard:ON}{cls:Cls}{os:LM}{t:TypeId}{x ix:Operand}{b o m:Nat}{kd k0:IntKind}{cs:LV}{ys:LI}{z v:Int}{KK:LE}(hc:Nat.beq (cls.getD i 9) 0=true)(ho:ops[i]? = some ⟨some d,.indexAddr t x ix,ty,pos,after,guard⟩)(hg:Xu ops n fr guard)(hx:evo fr x=some (.pointer (some ⟨b,o,none⟩)))(hi:evo fr ix=some (.int k0 z))(ht:ArrI P t m 1)(hp:Pt KK b o cs)(hd:DecZ kd cs ys)(hz:idx ys z=some v)(hl:ys.length=m)(hn:Nat.blt d n=true)(k:Pt KK b (o+z.toNat*1) [.int kd v]->PB P ops Q cls n os ((d,.pointer (some ⟨b,o+z.toNat*1,none⟩))::fr) L):PB P ops Q cls n (i::os) fr L:=by
 subst hl;exact B_p hc ho hg (Agt hx hi ht.h (Afr hz).1 (Afr hz).2 rfl) hn (k (hp.atZ hd hz))
theorem Ap0{P:Program}{n:Nat}{Q:Exit->AW}{fr:lF}{L:LE}{N:AW}{d:Nat}{pos:String}{after:AE}{guard:ON}{α:Type}{enc:α->LV}{l ys:List α}{s x:Operand}{t e sz bytes r:Nat}{A B:OA}{m c q q':Nat}{ty':TypeId}{f:Ent->LE}[ht:Ad9 P t e sz bytes](hs:evo fr s=some (.slice A m c))(hx:evo fr x=some (.slice B q q'))(hr:RepE L (.r A m c e sz (l.flatMap enc)) f)(hk:AtE L (.r B q q' r sz (ys.flatMap enc)))(hb:(l.length+ys.length)*bytes<=140737488355328)(he:∀x,(enc x).length=sz)(h1:∀x,Tf (enc x)=true)(hd:Nat.blt d n=true)(h0:Nat.blt 0 bytes=true)(hz:Nat.blt 0 sz=true)(k:∀A' c',T n N ((d,.slice A' (l++ys).length c')::fr) (f (.r A' (l++ys).length c' e sz ((l++ys).flatMap enc)))):Wh P Q n ⟨some d,.call ⟨.builtin .append,#[s,x],#[t,t]⟩,ty',pos,after,guard⟩ fr L N:=fun a w ha hw=>
 Ra (N:=fun a w=>(⟨some d,.call ⟨.builtin .append,#[s,x],#[t,t]⟩,ty',pos,after,guard⟩:Oper).wp P a w N Q) hk hz he (fun hy=>by obtain⟨_,hk⟩:=hk.nth;exact Anp hs hx hr hy (SubE.nth hk) hb he h1 hd h0 k) a w ha hw
class LoN{α:Type}(RN:LE->α->LV->Prop):Prop where
 h:∀{K:LE} {x:α} {ys:LV} {w:World},RN K x ys->(∀e∈K,Ent.ok w e)->RN [.old w] x ys
 u:∀{K L:LE} {x:α} {ys:LV},SubE K L->RN K x ys->RN L x ys
theorem HasN.inOld{α:Type}{RN:LE->α->LV->Prop}{K L:LE}{w:World}{A:OA}{m c sz:Nat}{l:List α}[hr:LoN RN](h:HasN K A m c sz RN l)(hK:∀e∈K,Ent.ok w e)(hL:AtE L (.old w)):HasN L A m c sz RN l:=by
 obtain⟨hl,h1,h2,h3⟩:=h;obtain⟨_,hL⟩:=hL.nth;exact⟨hl,(Has.low (E:=[]) (by rw[List.append_nil];exact h1) hK).up (SubE.nth hL),h2,fun i h h'=>hr.u (SubE.nth hL) (hr.h (h3 i h h') hK)⟩
section
variable {P:Program}{n:Nat}{ops:Array Oper}{Q:Exit->AW}{fr:lF}{L:LE}{rest:List Oper}{d i:Nat}{ty:TypeId}{pos:String}{after:AE}{guard:ON}{cls:Cls}{A0:LL}{RL:LM}{R:World->Prop}{p:Plan}{os:LM}{α:Type}{KK:LE}{A:OA}{m c sz:Nat}{RN:LE->α->LV->Prop}{l:List α}{x ix:Operand}{kd:IntKind}{z:Int}{x0:α}{t e:TypeId}{w0:World}
theorem Ar7(hx:evo fr x=some (.slice A m c))(hix:evo fr ix=some (.int kd z))(hs:HasN KK A m c sz RN l)(hi:idx l z=some x0)(ho:LoN RN)(hK:∀ e∈KK,Ent.ok w0 e)(ht:Po P t e sz):
  ∃b o ys,(∀{dst:Option Tmp} {ty:TypeId} {pos:String} {after:AE} {guard:ON} L,Ev P n ⟨dst,.indexAddr t x ix,ty,pos,after,guard⟩ fr L (.pointer (some ⟨b,o,none⟩)))/\RN [.old w0] x0 ys/\Pt [.old w0] b o ys:=by
 obtain⟨b,o,j,ys,hA,hj,hl,hp,hr⟩:=hs.at_idx hi;exact⟨b,o+j*sz,ys,fun L=>Uv hx hix hA (j:=j) hj hl ht,ho.h hr hK,Pt.lo hp hK⟩
theorem Bhj [ht:Kt P t e sz](hx:evo fr x=some (.slice A m c))(hix:evo fr ix=some (.int kd z))(hs:HasN KK A m c sz RN l)(hi:idx l z=some x0)(ho:LoN RN)(hK:∀e∈KK,Ent.ok w0 e)(hd:Nat.blt d n=true)(k:∀b o ys,RN [.old w0] x0 ys->Pt [.old w0] b o ys->T n (wpList P ops Q rest) ((d,.pointer (some ⟨b,o,none⟩))::fr) L):T n (wpList P ops Q (⟨some d,.indexAddr t x ix,ty,pos,after,none⟩ :: rest)) fr L:=by
 obtain⟨b,o,ys,h1,h2,h3⟩:=Ar7 (P:=P) (n:=n) hx hix hs hi ho hK ht.h;exact Dg (h1 L) hd (k b o ys h2 h3)
theorem Bhk(hc:Nat.beq (cls.getD i 9) 0=true)(hop:ops[i]? = some ⟨some d,.indexAddr t x ix,ty,pos,after,guard⟩)(hg:Xu ops n fr guard)(hx:evo fr x=some (.slice A m c))(hix:evo fr ix=some (.int kd z))(hs:HasN KK A m c sz RN l)(hi:idx l z=some x0)(ho:LoN RN)(hK:∀e∈KK,Ent.ok w0 e)(ht:Kt P t e sz)(hd:Nat.blt d n=true)(k:∀b o ys,RN [.old w0] x0 ys->Pt [.old w0] b o ys->PB P ops Q cls n os ((d,.pointer (some ⟨b,o,none⟩))::fr) L):PB P ops Q cls n (i::os) fr L:=by
 obtain⟨b,o,ys,h1,h2,h3⟩:=Ar7 (P:=P) (n:=n) hx hix hs hi ho hK ht.h;exact B_p hc hop hg (h1 []) hd (k b o ys h2 h3)
theorem Bhl(hc:Nat.beq (cls.getD i 9) 0=true)(hop:ops[i]? = some ⟨some d,.indexAddr t x ix,ty,pos,after,none⟩)(hx:evo fr x=some (.slice A m c))(hix:evo fr ix=some (.int kd z))(hs:HasN KK A m c sz RN l)(hi:idx l z=some x0)(ho:LoN RN)(hK:∀e∈KK,Ent.ok w0 e)(ht:Kt P t e sz)(hd:Nat.blt d n=true)(k:∀b o ys,RN [.old w0] x0 ys->Pt [.old w0] b o ys->T n (Bi P ops Q cls A0 RL R p) ((d,.pointer (some ⟨b,o,none⟩))::fr) L):T n (Bi P ops Q cls A0 RL R (.q i p)) fr L:=by
 obtain⟨b,o,ys,h1,h2,h3⟩:=Ar7 (P:=P) (n:=n) hx hix hs hi ho hK ht.h;exact P_p hc hop (h1 []) hd (k b o ys h2 h3)
end
instance(k:IntKind)(x:Int):UnfI (Value.int k) x (.int k x):=⟨rfl⟩
theorem Bdj{c:Code}{m:Nat}{Q Q':Exit->AW}{P:Program}{n:Nat}{fr:lF}{L:LE}(k:T n (Code.rounds P c Q m) fr L):T n (Exit.then (Code.rounds P c Q m) Q' .normal) fr L:=k
theorem SubE.consA{K L e}(h:AtE L e)(h':SubE K L):SubE (e::K) L:=by
 obtain⟨_,h⟩:=h.nth;exact SubE.cons2 h h'
theorem aT{G:Prop}(h:G:=by (repeat (first|exact .here|refine .there ?_));(first|done|fail)):G:=h
theorem sF{G:Prop}(h:G:=by (repeat (first|exact .nil|refine .cons rfl ?_));(first|done|fail)):G:=h
theorem pK{G:Prop}(h:G:=by (repeat (first|exact .refl|refine .pick 0 rfl ?_|refine .pick 1 rfl ?_|refine .pick 2 rfl ?_|refine .pick 3 rfl ?_|refine .pick 4 rfl ?_|refine .pick 5 rfl ?_|refine .pick 6 rfl ?_|refine .pick 7 rfl ?_|refine .pick 8 rfl ?_|refine .pick 9 rfl ?_|refine .pick 10 rfl ?_|refine .pick 11 rfl ?_|refine .pick 12 rfl ?_|refine .drop 0 rfl ?_));(first|done|fail)):G:=h
theorem sU{K L:LE}(h:SubE K L:=by
 (repeat' (first|exact SubE.nil|refine SubE.consA (by exact aT) ?_|(with_reducible apply SubE.appC)|exact SubE.ofOld (by exact aS) aT|exact aS|(with_reducible apply SubE.more)));(first|done|fail)):SubE K L:=h
theorem sW{X K es:LE}(h:SubE X (K++es):=by
 (repeat' (first|exact SubE.nil|exact SubE.appL|refine SubE.consR (by exact aT) ?_|(with_reducible apply SubE.appC)));(first|done|fail)):SubE X (K++es):=h
theorem spt{G:Prop}(h:G:=by (repeat (first|exact .last|apply Spt.cons));(first|done|fail)):G:=h
theorem lB{G:Prop}(h:G:=by (repeat (first|exact Gg|refine Bq (by first|rfl|exact aS) ?_));(first|done|fail)):G:=h
theorem sP{G:Prop}(h:G:=by (repeat (first|exact .done|apply Spl.put|apply Spl.skip));(first|done|fail)):G:=h
theorem sE{L L':LE}{i:Nat}{e e':Ent}(h:SetE L i e e' L':=by (repeat (first|exact .here|apply SetE.there));(first|done|fail)):SetE L i e e' L':=h
theorem rmE{G:Prop}(h:G:=by (repeat (first|exact .here|apply RemE.there));(first|done|fail)):G:=h
theorem rE{G:Prop}(h:G:=by (repeat (first|exact .here|apply RepE.there));(first|done|fail)):G:=h
theorem aL{G:Prop}(h:G:=by (repeat (first|exact .nil|((with_reducible apply Aco.cc);exact rfl;exact iI;exact rfl)));(first|done|fail)):G:=h
theorem wW{G:Prop}(h:G:=by first|exact wY|exact wG rfl rfl rfl):G:=h
theorem sF2{G:Prop}(h:G:=by (try dsimp only);(try simp only[Fn,Ct,Adr]);(repeat (first|exact .nil|refine .cons (by first|exact rfl|(simp only[Fn,Ct,Adr];exact rfl)) ?_));(first|done|fail)):G:=h
theorem pK2{G:Prop}(h:G:=by (try dsimp only);(try simp only[Fn,Ct,Adr]);(repeat (first|exact .refl|refine .pick 0 rfl ?_|refine .pick 1 rfl ?_|refine .pick 2 rfl ?_|refine .pick 3 rfl ?_|refine .pick 4 rfl ?_|refine .pick 5 rfl ?_|refine .pick 6 rfl ?_|refine .pick 7 rfl ?_|refine .pick 8 rfl ?_|refine .pick 9 rfl ?_|refine .pick 10 rfl ?_|refine .pick 11 rfl ?_|refine .pick 12 rfl ?_|refine .drop 0 rfl ?_));(first|done|fail)):G:=h
theorem pZ{z:Ent}{L1 L':LE}(h:Hh L1 (z::L'):=by first|exact .pick 0 rfl .refl|exact .pick 1 rfl .refl|exact .pick 2 rfl .refl|exact .pick 3 rfl .refl|exact .pick 4 rfl .refl|exact .pick 5 rfl .refl|exact .pick 6 rfl .refl|exact .pick 7 rfl .refl|exact .pick 8 rfl .refl):Hh L1 (z::L'):=h
theorem dL{G:Prop}(h:G:=by (repeat (first|exact .nil|(apply DecL.c1 (by exact iI))|(apply DecL.c2 (by exact iI))|(apply DecL.c3 (by exact iI))));(first|done|fail)):G:=h
theorem dZ{G:Prop}(h:G:=by (repeat (first|exact .nil|apply DecZ.cons));(first|done|fail)):G:=h
theorem sA{G:Prop}(h:G:=by (repeat (first|exact .here|apply SetA.there));(first|done|fail)):G:=h
theorem lO{G:Prop}(h:G:=by first|exact Gg|exact Bq rfl Gg|exact Bq rfl (Bq rfl Gg)|exact Bq rfl (Bq rfl (Bq rfl Gg))|exact Bq rfl (Bq rfl (Bq rfl (Bq rfl Gg)))|exact Bq rfl (Bq rfl (Bq rfl (Bq rfl (Bq rfl (Bq rfl Gg)))))):G:=h
theorem rS{G:Prop}(h:G:=by (repeat (first|exact .nil|((with_reducible apply Res.tmp);exact rfl)|((with_reducible apply Res.cellA);exact rfl;exact aT;exact rfl)));(first|done|fail)):G:=h
theorem shK{G:Prop}(h:G:=by refine⟨rfl,rfl,?_⟩;(repeat (first|exact trivial|refine⟨rfl,?_⟩));(first|done|fail)):G:=h
theorem cQ{G:Prop}(h:G:=by first|rfl|(rw[Adr])):G:=h
theorem rPK{G:Prop}(h:G:=by first|exact⟨rfl,rfl,trivial⟩|exact⟨_,_,rfl,rfl,trivial⟩|exact⟨_,_,rfl,rfl,(by exact aS),trivial⟩|exact⟨_,_,_,_,rfl,rfl,(by exact aS),trivial⟩|exact⟨_,_,_,_,rfl,rfl,trivial⟩):G:=h
theorem gG{G:Prop}(h:G:=by (try dsimp only);(repeat' (first|exact trivial|exact (rfl:Ent.low (.r _ _ _ _ _ _)=0)|exact aS|(with_reducible refine⟨?_,?_⟩)|exact Has.up (by exact aS) sU|exact Has.inl (by exact aS)|exact rfl));(first|done|fail)):G:=h
theorem gG2{G:Prop}(h:G:=by (try dsimp only);(repeat' (first|exact trivial|exact (rfl:Ent.low (.r none 0 0 0 1 [])=0)|exact aS|(with_reducible refine⟨?_,?_⟩)|exact Has.up (by exact aS) sU|exact Has.inl (by exact aS)|exact Has.nil));(first|done|fail)):G:=h
theorem rP{G:Prop}(h:G:=by first|exact⟨rfl,rfl,trivial⟩|exact⟨_,_,rfl,rfl,trivial⟩|exact⟨_,_,_,_,rfl,rfl,trivial⟩|exact⟨_,_,_,_,_,_,rfl,rfl,trivial⟩|exact⟨_,_,_,_,_,_,_,_,rfl,rfl,trivial⟩|exact⟨_,_,_,_,_,_,_,_,_,_,_,_,rfl,rfl,trivial⟩):G:=h
inductive Kp(fr:lF):LM->lF->Prop
 |nil:Kp fr [] []
 |cons {k v ks r}:look fr k=some v->Kp fr ks r->Kp fr (k::ks) ((k,v)::r)
inductive KLa:LE->Ent->Prop
 |one {e}:KLa [e] e
 |cons {x M e}:KLa M e->KLa (x::M) e
inductive KDr:LE->Nat->LE->Prop
 |zero {M}:KDr M 0 M
 |succ {e M k r}:KDr M k r->KDr (e::M) (k+1) r
inductive Kl(L:LE):LM->LE->Prop
 |nil:Kl L [] []
 |cons {k e ks r}:nthE L k=some e->Kl L ks r->Kl L (k::ks) (e::r)
 |last {e ks r}:KLa L e->Kl L ks r->Kl L (999::ks) (e::r)
 |drop {k r}:KDr L k r->Kl L [k+1000] r
theorem kk{fr fr0:lF}{ks is:LM}{L L0:LE}(h1:Kp fr ks fr0:=by (repeat (first|exact .nil|(apply Kp.cons;exact rfl)));(first|done|fail))(h2:Kl L is L0:=by (repeat (first|exact .nil|(apply Kl.cons;exact rfl)|((with_reducible apply Kl.last);(repeat (first|exact KLa.one|(with_reducible apply KLa.cons))))|((with_reducible apply Kl.drop);(repeat (first|exact KDr.zero|apply KDr.succ)))));(first|done|fail)):Kp fr ks fr0/\Kl L is L0:=⟨h1,h2⟩
theorem Jr{τ γ ρ:Type}{kk:τ->Option ρ}{xx:(τ->Option ρ)->Option ρ}{out:ρ}{fr0:List (Nat × Value)}{L0:List Ent}(hx:jn kk xx=some out)(ks:List Nat)(F:τ->γ->List (Nat × Value)->List (Nat × Value))(is:List Nat)(E:τ->γ->List Ent->List Ent){x y:Code}(_h:Kp fr ks fr0/\Kl L is L0)(k2:∀ s g,kk s=some out->T n (y.wp P Q) (F s g fr0) (E s g L0))(k:∀ j,xx j=some out->T n (x.wp P (Exit.then (Met n j out (fun s g=>F s g fr0) (fun s g=>E s g L0) (fun _ _=>True)) Q)) fr L):
  T n ((Code.seq x y).wp P Q) fr L:=Amj (J:=kk) (fun s g=>F s g fr0) (fun s g=>E s g L0) (fun _ _=>True) (fun s g h _=>k2 s g h) (k kk hx)
theorem Ma{τ γ ρ:Type}{J:τ->Option ρ}{out:ρ}{I:τ->γ->lF}{H:τ->γ->LE}{G:τ->γ->Prop}(s:τ)(g:γ)(hJ:J s=some out)(hG:G s g)(hF:SubF (I s g) fr)(hH:Hh L (H s g)):T n (Exit.then (Met n J out I H G) Q .normal) fr L:=Aqp s g hJ hG hF hH
theorem Ro{σ τ γ:Type}{x:Sum σ τ}{I:σ->γ->lF}{H:σ->γ->LE}{G:σ->γ->Prop}(s:σ)(g:γ)(hx:some (.inl s)=some x)(hG:G s g)(hF:SubF (I s g) fr)(hH:Hh L (H s g)):T n (Exit.then (Rnd n x I H G) Q .normal) fr L:=Aiu s g hx hG hF hH
theorem MaG{τ γ ρ:Type}{J:τ->Option ρ}{out:ρ}{I:τ->γ->lF}{H:τ->γ->LE}{G:τ->γ->Prop}(s:τ)(g:γ)(hJ:J s=some out)(hF:SubF (I s g) fr)(hG:G s g)(hH:Hh L (H s g)):T n (Exit.then (Met n J out I H G) Q .normal) fr L:=Aqp s g hJ hG hF hH
theorem RoG{σ τ γ:Type}{x:Sum σ τ}{I:σ->γ->lF}{H:σ->γ->LE}{G:σ->γ->Prop}(s:σ)(g:γ)(hx:some (.inl s)=some x)(hF:SubF (I s g) fr)(hG:G s g)(hH:Hh L (H s g)):T n (Exit.then (Rnd n x I H G) Q .normal) fr L:=Aiu s g hx hG hF hH
theorem sk{fr fr1:lF}{L L1:LE}(h1:SubF fr1 fr:=by (try dsimp only);exact sF)(h2:Hh L L1:=by (try dsimp only);exact pK):SubF fr1 fr/\Hh L L1:=⟨h1,h2⟩
theorem Lr{σ τ γ ρ:Type}{B:σ->Option (Sum σ τ)}{s0:σ}{K:τ->Option ρ}{out:ρ}{fr0:lF}{L0:LE}(hx:bnd (lfix B s0) K=some out)(ks:LM)(F:σ->γ->lF->lF)(is:LM)(E:σ->γ->LE->LE)(g0:γ){c:Code}(_h:Kp fr ks fr0/\Kl L is L0)(h1:SubF (F s0 g0 fr0) fr/\Hh L (E s0 g0 L0))(body:∀s g x,B s=some x->(∀t',x=.inr t'->K t'=some out)->T n (c.wp P (Exit.then (Rnd n x (fun s g=>F s g fr0) (fun s g=>E s g L0) (fun _ _=>True)) Q)) (F s g fr0) (E s g L0)):T n ((Code.loop c).wp P Q) fr L:=by
 obtain⟨t,hl,ho⟩:=Bk hx;exact Amk hl (fun s g=>F s g fr0) (fun s g=>E s g L0) (fun _ _=>True) g0 trivial h1.1 h1.2 (fun s g _ x hb ht=>body s g x hb (fun t' e=>by rw[ht t' e];exact ho))
theorem JrG{τ γ ρ:Type}{kk:τ->Option ρ}{xx:(τ->Option ρ)->Option ρ}{out:ρ}{fr0:List (Nat × Value)}{L0:List Ent}(hx:jn kk xx=some out)(ks:List Nat)(F:τ->γ->List (Nat × Value)->List (Nat × Value))(is:List Nat)(E:τ->γ->List Ent->List Ent)(G:τ->γ->Prop){x y:Code}(_h:Kp fr ks fr0/\Kl L is L0)(k2:∀ s g,kk s=some out->G s g->T n (y.wp P Q) (F s g fr0) (E s g L0))(k:∀ j,xx j=some out->T n (x.wp P (Exit.then (Met n j out (fun s g=>F s g fr0) (fun s g=>E s g L0) G) Q)) fr L):
  T n ((Code.seq x y).wp P Q) fr L:=Amj (J:=kk) (fun s g=>F s g fr0) (fun s g=>E s g L0) G (fun s g h hg=>k2 s g h hg) (k kk hx)
theorem LrG{σ τ γ ρ:Type}{B:σ->Option (Sum σ τ)}{s0:σ}{K:τ->Option ρ}{out:ρ}{fr0:lF}{L0:LE}(hx:bnd (lfix B s0) K=some out)(ks:LM)(F:σ->γ->lF->lF)(is:LM)(E:σ->γ->LE->LE)(G:σ->γ->Prop)(g0:γ){c:Code}(_h:Kp fr ks fr0/\Kl L is L0)(h1:SubF (F s0 g0 fr0) fr)(h2:G s0 g0)(h3:Hh L (E s0 g0 L0))(body:∀s g x,B s=some x->(∀t',x=.inr t'->K t'=some out)->G s g->T n (c.wp P (Exit.then (Rnd n x (fun s g=>F s g fr0) (fun s g=>E s g L0) G) Q)) (F s g fr0) (E s g L0)):T n ((Code.loop c).wp P Q) fr L:=by
 obtain⟨t,hl,ho⟩:=Bk hx;exact Amk hl (fun s g=>F s g fr0) (fun s g=>E s g L0) G g0 h2 h1 h3 (fun s g hg x hb ht=>body s g x hb (fun t' e=>by rw[ht t' e];exact ho) hg)
def AtS(_:Nat)(G:Prop):Prop:=G
section
variable {s:Nat}{q:Prop}[Decidable q]{ρ:Type}{x y r:Option ρ}{b:Bool}
theorem Cq1(hx:(if q then x else y)=r)(hs:look fr s=some (.bool (decide q)))(ht:q->x=r->T n N ((s,.bool true)::fr) L)(hf:¬q->y=r->T n N ((s,.bool false)::fr) L):AtS s (T n N fr L):=Ast hs (fun h=>ht h (Yv h hx)) (fun h=>hf h (Ag2 h hx))
theorem Cq1e(hx:(if q then x else y)=r)(hs:look fr s=some (.bool b))(hb:b=decide q)(ht:q->x=r->T n N ((s,.bool true)::fr) L)(hf:¬q->y=r->T n N ((s,.bool false)::fr) L):AtS s (T n N fr L):=Cq1 hx (hb▸hs) ht hf
theorem Cq2(hx:(if q then x else y)=r)(hs:look fr s=some (.bool (!decide q)))(ht:¬q->y=r->T n N ((s,.bool true)::fr) L)(hf:q->x=r->T n N ((s,.bool false)::fr) L):AtS s (T n N fr L):=Axd hs (fun h=>ht h (Ag2 h hx)) (fun h=>hf h (Yv h hx))
theorem Cq3 [Decidable (b=true)](hx:(if b=true then x else y)=r)(hs:look fr s=some (.bool b))(ht:b=true->x=r->T n N ((s,.bool true)::fr) L)(hf:¬b=true->y=r->T n N ((s,.bool false)::fr) L):AtS s (T n N fr L):=Zt hs (fun h=>ht h (Yv h hx)) (fun h=>hf (by simp[h]) (Ag2 (by simp[h]) hx))
theorem Cq4 [Decidable (b=true)](hx:(if b=true then x else y)=r)(hs:look fr s=some (.bool (!b)))(ht:¬b=true->y=r->T n N ((s,.bool true)::fr) L)(hf:b=true->x=r->T n N ((s,.bool false)::fr) L):AtS s (T n N fr L):=Afc hs (fun h=>ht (by simp[h]) (Ag2 (by simp[h]) hx)) (fun h=>hf h (Yv h hx))
end
def AtB(ops:Array Oper)(i _s:Nat)(G:Prop):Prop:=(∃o p,ops[i]? = some o/\o.guard=some p)->G
section
variable {s:Nat}{q:Prop}[Decidable q]{ρ:Type}{x y r:Option ρ}{b:Bool}
theorem Cb3 [Decidable (b=true)](hx:(if b=true then x else y)=r)(hs:look fr s=some (.bool b))(ht:b=true->x=r->PB P ops Q cls n (i::os) ((s,.bool true)::fr) L)(hf:¬b=true->y=r->PB P ops Q cls n (i::os) ((s,.bool false)::fr) L):AtB ops i s (PB P ops Q cls n (i::os) fr L):=fun hg=>by
 cases b with
 |true=>exact Agh hg hs (ht rfl (Yv rfl hx))
 |false=>exact Agh hg hs (hf s_ (Ag2 s_ hx))
theorem Cb4 [Decidable (b=true)](hx:(if b=true then x else y)=r)(hs:look fr s=some (.bool (!b)))(ht:¬b=true->y=r->PB P ops Q cls n (i::os) ((s,.bool true)::fr) L)(hf:b=true->x=r->PB P ops Q cls n (i::os) ((s,.bool false)::fr) L):AtB ops i s (PB P ops Q cls n (i::os) fr L):=fun hg=>by
 cases b with
 |true=>exact Agh hg hs (hf rfl (Yv rfl hx))
 |false=>exact Agh hg hs (ht s_ (Ag2 s_ hx))
theorem Cb1(hx:(if q then x else y)=r)(hs:look fr s=some (.bool (decide q)))(ht:q->x=r->PB P ops Q cls n (i::os) ((s,.bool true)::fr) L)(hf:¬q->y=r->PB P ops Q cls n (i::os) ((s,.bool false)::fr) L):AtB ops i s (PB P ops Q cls n (i::os) fr L):=fun hg=>by
 by_cases h:q
 .exact Agh hg (by rw[hs,dT h]) (ht h (Yv h hx))
 .exact Agh hg (by rw[hs,dF h]) (hf h (Ag2 h hx))
end
theorem S_c{s:Nat}{c1 c2:Code}(k:AtS s (T n ((Code.cond (.tmp s) c1 c2).wp P Q) fr L)):T n ((Code.cond (.tmp s) c1 c2).wp P Q) fr L:=k
theorem S_g{s j:Nat}{b:Bool}(hj:(ops[j]?).bind (·.dst)=some s)(k:AtS s (T n (wpList P ops Q (⟨dst,op,ty,pos,after,some (j,b)⟩ :: rest)) fr L)):T n (wpList P ops Q (⟨dst,op,ty,pos,after,some (j,b)⟩ :: rest)) fr L:=k
theorem S_b{s j:Nat}{b:Bool}(ho:ops[i]? = some ⟨dst,op,ty,pos,after,some (j,b)⟩)(hj:(ops[j]?).bind (·.dst)=some s)(k:AtB ops i s (PB P ops Q cls n (i::os) fr L)):PB P ops Q cls n (i::os) fr L:=k ⟨_,_,ho,rfl⟩
end
theorem Has.rowW{α:Type}{enc:α->LV}{L:LE}{w:World}{A m c r sz}{l:List α}(hw:Heap L w)(hk:AtE L (.r A m c r sz (l.flatMap enc)))(hz:Nat.blt 0 sz=true)(he:∀x,(enc x).length=sz):Has L A m c sz enc l:=by
 obtain⟨_,hk⟩:=hk.nth;exact (Has.ofRow (Nat.le_of_ble_eq_true hz) he (hw.ok _ (Gd hk))).up (SubE.nth hk)
theorem Has.mW{α:Type}{enc:α->LV}{L:LE}{w:World}{g q sz:Nat}{t:TypeId}{cs:LV}{l:List α}(hw:Heap L w)(hk:AtE L (.m g t cs))(hc:cs=l.flatMap enc)(hn:l.length=q)(he:∀x,(enc x).length=sz)(hm:Nat.ble q 1000=true):Has L (some ⟨g,0,none⟩) q q sz enc l:=by
 obtain⟨_,hk⟩:=hk.nth;exact (Has.ofM (fun x _=>he x) hn (by have:=Nat.le_of_ble_eq_true hm;unfold maxLen;omega) hc).up (SubE.nth hk)
theorem hA{α:Type}{enc:α->LV}{L:LE}{w:World}{A m c sz}{l:List α}(hw:Heap L w)(h:Has L A m c sz enc l:=by
 first
 |exact Has.rowW hw aT rfl (fun _=>rfl)
 |exact Has.up (by exact aS) sU
 |exact Has.mW hw aT rfl rfl (fun _=>rfl) rfl
 |exact Has.nil):Has L A m c sz enc l:=h
theorem hP{L:LE}{b o:Nat}{ys:LV}(h:Pt L b o ys:=by
 first
 |exact Pt.mA aT
 |exact Pt.upS (by exact aS) sU):Pt L b o ys:=h
theorem hM{κ υ:Type}{P:Program}{k:TypeId}{ke:κ->Value}{ve:υ->Value}{g:Nat}{m:List (κ×υ)}{L:LE}(h:MapK L P k ke ve g m:=by first|exact MapK.mA aT|exact MapK.upS (by exact aS) sU):MapK L P k ke ve g m:=h
theorem hB{α:Type}{enc:α->LV}{K L:LE}{w:World}{A m c sz}{l:List α}(hw:Heap L w)(h:Has K A m c sz enc l:=by
 first
 |with_reducible assumption
 |exact Has.row1 hw aT rfl (fun _=>rfl)
 |exact Has.m1 hw aT rfl rfl (fun _=>rfl) rfl
 |exact Has.nil):Has K A m c sz enc l:=h
theorem hZ{α:Type}{enc:α->LV}{K L es:LE}{w:World}{A m c sz}{l:List α}(hw:Heap L w)(h:Has (K++[bun es]) A m c sz enc l:=by
 first
 |exact Has.nil
 |exact Has.up (by exact aS) (SubE.bunR sW)
 |exact Has.up (Has.row1 hw aT rfl (fun _=>rfl)) (SubE.bunR sW)
 |exact Has.up (Has.m1 hw aT rfl rfl (fun _=>rfl) rfl) (SubE.bunR sW)):Has (K++[bun es]) A m c sz enc l:=h
theorem evB{G:Prop}(h:G:=by
 first
 |((with_reducible apply Az9);exact rfl)
 |((with_reducible apply Ab1);exact rfl)
 |(with_reducible apply Bc3);(first
  |((with_reducible apply Baa);exact rfl;exact aT;exact rfl)
  |((with_reducible apply Bad);exact rfl;exact aT;exact dZ;exact aS)
  |((with_reducible apply Bab);exact rfl;exact aT;exact rfl)
  |((with_reducible apply Bhb);exact rfl;exact aS;exact sU;exact rfl)
  |((with_reducible apply Bhc);exact rfl;exact aS;exact sU;exact rfl)
  |((with_reducible apply Bhe);exact rfl;exact aS;exact sU;exact rfl)
  |((with_reducible apply Bfz);exact rfl;exact aS;exact sU;exact rfl)
  |((with_reducible apply Bhd);exact rfl;exact aS;exact sU;exact rfl)
  |fail)
 |(with_reducible apply Bfy);(first
  |((with_reducible apply Bc8);exact rfl;exact rfl;exact iI)
  |((with_reducible apply Ba1) <;> exact rfl)
  |((with_reducible apply Aed) <;> exact rfl)
  |((with_reducible apply Aiw) <;> exact rfl)
  |((with_reducible apply Aix) <;> exact rfl)
  |((with_reducible apply Ba6) <;> exact rfl)
  |((with_reducible apply Ba5) <;> exact rfl)
  |((with_reducible apply Ba3) <;> exact rfl)
  |((with_reducible apply Ba2) <;> exact rfl)
  |((with_reducible apply Ba4) <;> exact rfl)
  |((with_reducible apply Bf1);exact rfl;exact rfl;exact iI)
  |((with_reducible apply Bf2);exact rfl;exact rfl;exact iI)
  |((with_reducible apply Bf3) <;> exact rfl)
  |((with_reducible apply Bf4) <;> exact rfl)
  |((with_reducible apply Bgh);exact rfl;exact rfl;first|exact aS|decide)
  |((with_reducible apply Aqs);exact rfl;exact rfl;first|exact aS|decide)
  |((with_reducible apply Aof);exact rfl;exact rfl;first|exact aS|decide)
  |((with_reducible apply Ah9);exact rfl;exact rfl;first|decide|exact aS)
  |((with_reducible apply Bbn);exact rfl;exact rfl;first|decide|exact aS)
  |((with_reducible apply Ag6) <;> exact rfl)
  |((with_reducible apply Ag9) <;> exact rfl)
  |((with_reducible apply Ag7) <;> exact rfl)
  |((with_reducible apply Aha) <;> exact rfl)
  |((with_reducible apply Ag8) <;> exact rfl)
  |((with_reducible apply Ahb) <;> exact rfl)
  |((with_reducible apply Ag3) <;> exact rfl)
  |((with_reducible apply Aiv) <;> exact rfl)
  |((with_reducible apply Ag4) <;> exact rfl)
  |fail)
 |((with_reducible apply Tw);exact rfl)
 |((with_reducible apply Asi);exact rfl)
 |(with_reducible apply Bc5);(first
  |((with_reducible apply Bf0);exact rfl)
  |((with_reducible apply Bdd);exact rfl;exact aT)
  |((with_reducible apply Aug) <;> exact rfl)
  |((with_reducible apply Auh) <;> exact rfl)
  |((with_reducible apply Bbx) <;> exact rfl)
  |((with_reducible apply Bby) <;> exact rfl)
  |fail)
 |(with_reducible apply Bc4);(first
  |((with_reducible apply Bf5);exact rfl)
  |((with_reducible apply Bc9);exact rfl)
  |((with_reducible apply Bda);exact rfl)
  |fail)
 |((with_reducible apply Ar6) <;> exact rfl)
 |((with_reducible apply Aqa) <;> exact rfl)
 |((with_reducible apply Aqb) <;> exact rfl)
 |((with_reducible apply Bac);exact rfl;exact iI)
 |((with_reducible apply Bf7);exact rfl;exact rfl;decide;decide;exact rfl)
 |((with_reducible apply Bdb);exact rfl;exact rfl;exact aS;exact rfl)
 |((with_reducible apply Bdc);exact rfl;exact rfl)
 |((with_reducible apply Bae);exact rfl;exact aT;exact rfl;exact iI;exact aS;exact aS;exact rfl)
 |((with_reducible apply Awh);exact rfl;exact aT;exact rfl;exact iI;exact aS;exact aS;exact rfl)
 |((with_reducible apply Bar);exact rfl;exact rfl;exact aS;exact sU;exact iI;exact aS;exact aS;exact rfl)
 |((with_reducible apply Bag);exact rfl;exact aT;exact rfl;exact iI;exact aS;exact aS;exact rfl)
 |((with_reducible apply Baf);exact rfl;exact aT;exact iI;exact iI)
 |((with_reducible apply Awg);exact rfl;exact iI)
 |((with_reducible apply Bc6);exact rfl;exact rfl;(first|exact aS|exact rfl);exact rfl;exact iI)
 |((with_reducible apply Bc7);exact rfl;exact rfl;exact iI;(first|exact aS|exact rfl);exact iI)
 |((with_reducible apply Ahc);exact rfl)
 |((with_reducible apply Aiy);exact rfl)
 |((with_reducible apply Aog);exact rfl)
 |((with_reducible apply Acv);exact rfl)
 |((with_reducible apply Asz);exact rfl)
 |fail):G:=h
theorem cP1{G:Prop}(h:G:=by first|exact rfl|exact⟨_,_,rfl,hA hw,trivial⟩|exact⟨_,_,_,_,rfl,hA hw,hA hw,trivial⟩|exact⟨_,_,_,_,_,_,rfl,hA hw,hA hw,hA hw,trivial⟩|exact⟨_,_,_,_,_,_,_,_,rfl,hA hw,hA hw,hA hw,hA hw,trivial⟩|exact⟨_,_,_,_,_,_,_,_,_,_,rfl,hA hw,hA hw,hA hw,hA hw,hA hw,trivial⟩|exact⟨_,_,_,_,_,_,_,_,_,_,_,_,rfl,hA hw,hA hw,hA hw,hA hw,hA hw,hA hw,trivial⟩|exact⟨_,_,_,_,_,_,_,_,_,_,_,_,_,_,rfl,hA hw,hA hw,hA hw,hA hw,hA hw,hA hw,hA hw,trivial⟩|exact⟨_,_,_,_,_,_,_,_,_,_,_,_,_,_,_,_,rfl,hA hw,hA hw,hA hw,hA hw,hA hw,hA hw,hA hw,hA hw,trivial⟩|exact⟨_,_,_,_,_,_,_,_,_,_,_,_,_,_,_,_,_,_,_,_,_,_,_,_,rfl,hA hw,hA hw,hA hw,hA hw,hA hw,hA hw,hA hw,hA hw,hA hw,hA hw,hA hw,hA hw,trivial⟩|exact⟨_,_,_,_,_,rfl,hP,hA hw,trivial⟩|exact⟨_,rfl,hP,trivial⟩|exact⟨_,_,rfl,hP,trivial⟩|exact⟨_,_,_,rfl,hP,hA hw,trivial⟩|exact⟨_,_,_,_,rfl,hA hw,hP,hP,trivial⟩|exact⟨_,_,rfl,HasN.inOld (by exact aS) (by exact aS) aT,trivial⟩|exact⟨_,_,_,_,rfl,hA hw,HasN.inOld (by exact aS) (by exact aS) aT,trivial⟩|exact⟨_,_,_,_,_,_,rfl,hA hw,hA hw,HasN.inOld (by exact aS) (by exact aS) aT,trivial⟩|exact⟨_,_,_,_,_,_,_,_,_,_,rfl,hP,hA hw,hA hw,hA hw,hM,hM,hM,trivial⟩|exact⟨_,_,rfl,HasN.mW hw aT (.cons ⟨_,_,_,_,rfl,hA hw,hA hw⟩ rfl (.cons ⟨_,_,_,_,rfl,hA hw,hA hw⟩ rfl .nil)) rfl,trivial⟩):G:=h
theorem cP{G:Prop}(h:G:=by (intro _ hw;first|exact cP1|(simp only[Fn,Ct,Lt];exact cP1))):G:=h
theorem cB1{G:Prop}(h:G:=by first|exact⟨_,_,rfl,hB hw,trivial⟩|exact⟨_,_,_,_,rfl,(hB hw).inl,(hB hw).inr,trivial⟩|exact⟨_,_,_,_,_,_,rfl,(hB hw).inl,(hB hw).inl.inr,(hB hw).inr.inr,trivial⟩|exact⟨_,_,_,_,_,_,_,_,rfl,(hB hw).inl,(hB hw).inl.inr,(hB hw).inl.inr.inr,(hB hw).inr.inr.inr,trivial⟩|exact rfl):G:=h
theorem cB{G:Prop}(h:G:=by (intro _ hw;first|exact cB1|(simp only[Fn,Ct,Lt];exact cB1))):G:=h
theorem pre{G G':Prop}(k:G')(h:Wr G'->G:=by
 intro k;have _:Mark:=⟨trivial⟩;have hx:=hx
 repeat1' (first
  |((with_reducible apply Bef))
  |((with_reducible apply Bau))
  |((with_reducible apply Beg))
  |((with_reducible apply Bc2);(first
   |((with_reducible apply Dg);exact evB;exact rfl)
   |((with_reducible apply Bhf);exact rfl;exact aT;exact rfl;exact aS;exact rfl;exact rfl;exact (fun _=>rfl);intro _ _ _ _)
   |((with_reducible apply T_ix);exact rfl;exact rfl;exact aS;exact aS;exact rfl;intro _ _ _ _)
   |((with_reducible apply Bde);exact rfl;exact aT;exact rfl;exact aS;exact rfl;exact rfl;exact (fun _=>rfl);intro _)
   |((with_reducible apply Bal);exact rfl;exact rfl;exact aS;exact aS;exact rfl;intro _)
   |((with_reducible apply Bdi);exact rfl;exact aT;exact rfl;exact aS;exact rfl;exact rfl;exact (fun _=>rfl);intro _)
   |((with_reducible apply Ban);exact rfl;exact rfl;exact aS;exact aS;exact rfl;intro _)
   |((with_reducible apply Aub);(iterate 5 exact rfl))
   |((with_reducible apply Ae4);(iterate 3 exact rfl);exact evB;exact rfl)
   |((with_reducible apply Asv);(iterate 4 exact rfl))
   |((with_reducible apply Bf6);(iterate 4 exact rfl);exact aT;exact rfl;exact aS;exact rfl;exact rfl;exact (fun _=>rfl);intro _ _ _ _)
   |((with_reducible apply Bed);(iterate 5 exact rfl);exact aS;exact aS;exact rfl;intro _ _ _ _)
   |((with_reducible apply Bhj);exact rfl;exact rfl;exact aS;exact aS;exact iI;exact aS;exact rfl;(first|rintro _ _ _ ⟨_,_,rfl,_⟩ _|rintro _ _ _ ⟨_,_,_,_,rfl,_,_⟩ _|rintro _ _ _ ⟨_,_,_,_,_,_,rfl,_,_,_⟩ _|rintro _ _ _ ⟨_,_,_,_,_,_,_,_,rfl,_,_,_,_⟩ _))
   |fail))
  |((with_reducible apply Is_b);(first
   |((with_reducible apply Bhi);exact rfl;exact rfl;exact wW;exact rfl;exact rfl;exact iI;exact aS;exact dZ;exact aS;exact rfl;exact rfl;intro _)
   |((with_reducible apply B_p);exact rfl;exact rfl;exact wW;exact evB;exact rfl)
   |((with_reducible apply B_q);exact rfl;exact rfl;exact wW;exact evB;exact rfl)
   |((with_reducible apply Be7);(iterate 7 exact rfl))
   |((with_reducible apply Bb0);(iterate 6 exact rfl))
   |((with_reducible apply Bhg);exact rfl;exact rfl;exact wW;exact rfl;exact aT;exact rfl;exact aS;exact iI;exact rfl;exact rfl;exact (fun _=>rfl);intro _ _ _ _)
   |((with_reducible apply Bf8);(iterate 4 exact rfl);exact aS;exact aS;exact iI;exact rfl;intro _)
   |((with_reducible apply B_ix);exact rfl;exact rfl;exact wW;exact rfl;exact rfl;exact aS;exact aS;exact iI;exact rfl;intro _ _ _ _)
   |((with_reducible apply B_al);exact rfl;exact rfl;exact iI;exact rfl;intro _)
   |((with_reducible apply Bhk);exact rfl;exact rfl;exact wW;exact rfl;exact rfl;exact aS;exact aS;exact iI;exact aS;exact iI;exact rfl;(first|rintro _ _ _ ⟨_,_,rfl,_⟩ _|rintro _ _ _ ⟨_,_,_,_,rfl,_,_⟩ _|rintro _ _ _ ⟨_,_,_,_,_,_,rfl,_,_,_⟩ _|rintro _ _ _ ⟨_,_,_,_,_,_,_,_,rfl,_,_,_,_⟩ _))
   |fail))
  |((first|(with_reducible apply T_x)|((with_reducible apply B_x);exact rfl;exact rfl;exact wW;intro _)|((with_reducible apply T_xG);(iterate 3 exact rfl)));(first|((with_reducible apply Ab3);(iterate 3 exact rfl);intro _)|((with_reducible apply Apv);exact rfl;intro _)|((with_reducible apply Al5);exact rfl;exact iI;exact rfl;intro _)|((with_reducible apply At7);exact aS;exact rfl;exact cP;exact rfl;(first|rintro _ _ ⟨rfl,rfl,-⟩;with_reducible apply Aqq|rintro _ _ ⟨_,rfl,rfl,-⟩;with_reducible apply Aah|rintro _ _ ⟨_,_,rfl,rfl,-⟩;with_reducible apply Aah|rintro _ _ ⟨_,_,_,_,rfl,rfl,-⟩;with_reducible apply Aai|rintro _ _ ⟨_,_,_,_,_,_,rfl,rfl,-⟩;with_reducible apply Xr|rintro _ _ ⟨_,_,_,_,_,_,_,_,rfl,rfl,-⟩;with_reducible apply Aml|rintro _ _ ⟨_,_,_,_,_,_,_,_,_,_,_,_,rfl,rfl,-⟩;with_reducible apply Axl))|((with_reducible apply Apz);exact rfl;exact iI;exact rfl;rintro _ _ ⟨_,_,rfl,rfl⟩;with_reducible apply Aai)|((with_reducible apply Apx);exact aS;exact rfl;exact rE;exact (fun _=>rfl);exact rfl;exact rfl)|((with_reducible apply Apw);exact aS;exact rfl;exact cB;exact sU;exact rfl;(first|rintro _ _ hlo ⟨_,_,_,rfl,rfl,h⟩|rintro _ _ hlo ⟨_,_,_,_,_,rfl,rfl,h⟩|rintro _ _ hlo ⟨_,_,_,_,_,_,_,rfl,rfl,h⟩|rintro _ _ hlo ⟨_,_,_,_,_,_,_,_,_,rfl,rfl,h⟩);(first|(with_reducible apply Aah)|(with_reducible apply Aai));revert h;(repeat ((with_reducible refine Pa ?_);intro _));(with_reducible refine Pt' ?_);revert hlo;(first|(with_reducible refine Lo1 ?_)|(with_reducible refine Lo2 ?_));intro _)|((with_reducible apply Baj);(iterate 3 exact rfl);exact aS;exact rfl;exact rfl;exact (fun _=>rfl);exact rfl;intro _ _)|((with_reducible apply Bak);(iterate 3 exact rfl);exact aS;exact rfl;exact rfl;exact (fun _=>rfl);exact rfl;intro _)|((with_reducible apply Akb);exact rfl;intro _)|((with_reducible apply Ahs);exact rfl;exact rfl;intro _)|((with_reducible apply Amh);exact evB;exact rfl)))
  |((first|(with_reducible apply T_h)|((with_reducible apply B_h);exact rfl;exact rfl;exact wW));(first|((with_reducible apply Al4);exact rfl;exact rfl;exact aS;exact rE;(first|exact rfl|(simp only[Fn]));exact rfl;exact iI;exact (fun _=>rfl);exact rfl;exact rfl)|((with_reducible apply Af2);(iterate 4 exact rfl);exact sA;exact sP;exact rfl;exact rfl)|((with_reducible apply At6);exact rfl;exact rfl;exact rE;exact iI;exact aS;exact (fun _=>rfl);(iterate 3 exact rfl);intro _ _)|((with_reducible apply Bah);(iterate 3 exact rfl);exact rE;exact iI;exact iI;exact aS;exact aS)|((with_reducible apply Bai);exact rfl;exact rfl;exact rE;exact iI;exact aS)|((with_reducible apply Aua);exact rfl;exact rfl;exact rE;exact aT;exact dL;exact rfl;exact aS;exact (fun _=>rfl);(iterate 3 exact rfl);intro _ _)|((with_reducible apply Anp);exact rfl;exact rfl;exact rE;exact aS;exact sU;exact aS;exact (fun _=>rfl);exact (fun _=>rfl);exact rfl;exact rfl;intro _ _)|((with_reducible apply Ap0);exact rfl;exact rfl;exact rE;exact aT;exact aS;exact (fun _=>rfl);exact (fun _=>rfl);(iterate 3 exact rfl);intro _ _)|((with_reducible apply Al6);(iterate 3 exact rfl);exact aS;exact rE;exact aS;exact sP;exact iI;exact (fun _=>rfl);exact rfl;exact rfl)|((with_reducible apply Bap);exact rfl;exact iI;exact rE;exact aS;exact rfl)|((with_reducible apply Bao);exact rfl;exact iI;exact rE;exact aS;exact rfl)|((with_reducible apply Apy);exact aS;exact rfl;exact shK;exact pK;(intro _ hw;first|exact trivial|exact⟨hB hw,trivial⟩|exact⟨hB hw,hB hw,trivial⟩);exact sU;exact rfl;(first|rintro _ _ ⟨rfl,rfl,h⟩|rintro _ _ ⟨_,_,rfl,rfl,h⟩|rintro _ _ ⟨_,_,_,_,rfl,rfl,h⟩);(first|(with_reducible apply Xr)|(with_reducible apply Aah)|(with_reducible apply Aai)|(with_reducible apply Aml));revert h;(repeat ((with_reducible refine Pa ?_);intro _));(with_reducible refine Pt' ?_))))
  |((with_reducible apply Bgu);exact pZ)
  |((with_reducible apply T_nb))
  |((fail_if_success (with_reducible (first|have:=Bec hx|have:=Bha hx)));(with_reducible apply Bgr 9))
  |((with_reducible apply Be5))
  |((with_reducible apply Bdj))
  |(with_reducible (refine Bfu hx (by exact aS) ?_;clear hx;intro _ hx))
  |(with_reducible (replace hx:=Bfv hx (by exact aS)))
  |((fail_if_success (with_reducible (have:=Az8 hx)));(with_reducible apply Aw))
  |((with_reducible apply Aud);exact rfl)
  |((with_reducible apply Aue);exact rfl)
  |((with_reducible apply Baw))
  |((with_reducible apply Bax))
  |((with_reducible apply Axf))
  |((with_reducible apply Axe))
  |((with_reducible apply Auc))
  |((with_reducible apply Bdz))
  |((with_reducible apply Bdy))
  |((with_reducible apply Bav))
  |((with_reducible apply Bay))
  |((with_reducible apply Be6))
  |((with_reducible apply Bgg);exact rfl)
  |((with_reducible apply T_dl);exact aS;kernel_rfl;kernel_rfl;kernel_rfl;kernel_rfl;exact aL)
  |((with_reducible apply T_dp);exact aS;kernel_rfl;kernel_rfl)
  |(with_reducible (replace hx:=At4 hx (by exact aS)))
  |(with_reducible (refine Bdg hx ?_;clear hx;intro _ _ _ _ hx))
  |(with_reducible (refine Bft hx ?_;clear hx;intro _ _ _ hx))
  |(with_reducible (refine Bdf hx ?_;clear hx;intro _ _ _ hx))
  |(with_reducible (refine Bdh hx ?_;clear hx;intro _ _ _ hx))
  |((fail_if_success (with_reducible (have:=Bec hx)));with_reducible (refine Ar5 hx ?_;clear hx;intro _ _ hx))
  |(with_reducible (refine Bg9 hx ?_;clear hx;intro _ hx))
  |(with_reducible (replace hx:=Bfw hx))
  |(with_reducible (replace hx:=Bfx hx))
  |(with_reducible (replace hx:=Be4 (by exact aS) hx);(try dsimp only at hx))
  |fail)
 revert hx
 repeat (rename_i z;revert z;fail_if_success (show Mark->_))
 exact k.out):G:=h ⟨k⟩
theorem pq{G G':Prop}(k:G')(h:Wr G'->G:=by
 intro k;first|exact pre k.out|(have hx:=hx;revert hx;exact k.out)):G:=h ⟨k⟩
theorem pI{α:Sort _}{B G G':α->Prop}(k:∀j,G' j)(h:∀j,Wr (G' j)->B j->G j:=by intro j k hx;exact pq k.out):∀j,B j->G j:=fun j=>h j ⟨k j⟩
theorem pA{G G':Prop}(k:G')(h:Wr G'->G:=by intro k;apply Aw;exact pq k.out):G:=h ⟨k⟩
theorem au{G:Prop}(h:G:=by
 repeat' first
  |(refine pre ?_;intros;rename_i hx)
  |((with_reducible apply S_g);exact rfl;(first|(refine Cq1 hx rfl ?_ ?_)|(refine Cq3 hx rfl ?_ ?_)|(refine Cq2 hx rfl ?_ ?_)|(refine Cq4 hx rfl ?_ ?_)|(refine Cq1e hx rfl cQ ?_ ?_)) <;> (clear hx;intro _ hx))
  |((with_reducible apply S_b);exact rfl;exact rfl;(first|(refine Cb1 hx rfl ?_ ?_)|(refine Cb3 hx rfl ?_ ?_)|(refine Cb4 hx rfl ?_ ?_)) <;> (clear hx;intro _ hx))
  |((with_reducible apply Is_p);(first
   |(with_reducible apply Aql)
   |(with_reducible apply Aag)
   |((with_reducible apply P_p0);exact rfl;exact rfl;exact evB;exact rfl)
   |((with_reducible apply P_q0);exact rfl;exact rfl;exact evB;exact rfl;exact rfl)
   |((with_reducible apply P_ix);(iterate 4 exact rfl);exact aS;exact aS;exact iI;exact rfl;intro _ _ _ _)
   |((with_reducible apply Bhl);(iterate 4 exact rfl);exact aS;exact aS;exact iI;exact aS;exact iI;exact rfl;(first|rintro _ _ _ ⟨_,_,rfl,_⟩ _|rintro _ _ _ ⟨_,_,_,_,rfl,_,_⟩ _|rintro _ _ _ ⟨_,_,_,_,_,_,rfl,_,_,_⟩ _|rintro _ _ _ ⟨_,_,_,_,_,_,_,_,rfl,_,_,_,_⟩ _))
   |((with_reducible apply P_x);exact rfl;(first|((with_reducible apply Ab3);(iterate 3 exact rfl);intro _)|((with_reducible apply Apv);exact rfl;intro _)|((with_reducible apply Al5);exact rfl;exact iI;exact rfl;intro _)|((with_reducible apply At7);exact aS;exact rfl;exact cP;exact rfl;(first|rintro _ _ ⟨rfl,rfl,-⟩;with_reducible apply Aqq|rintro _ _ ⟨_,rfl,rfl,-⟩;with_reducible apply Aah|rintro _ _ ⟨_,_,rfl,rfl,-⟩;with_reducible apply Aah|rintro _ _ ⟨_,_,_,_,rfl,rfl,-⟩;with_reducible apply Aai|rintro _ _ ⟨_,_,_,_,_,_,rfl,rfl,-⟩;with_reducible apply Xr|rintro _ _ ⟨_,_,_,_,_,_,_,_,rfl,rfl,-⟩;with_reducible apply Aml|rintro _ _ ⟨_,_,_,_,_,_,_,_,_,_,_,_,rfl,rfl,-⟩;with_reducible apply Axl))|((with_reducible apply Apz);exact rfl;exact iI;exact rfl;rintro _ _ ⟨_,_,rfl,rfl⟩;with_reducible apply Aai)|((with_reducible apply Apx);exact aS;exact rfl;exact rE;exact (fun _=>rfl);exact rfl;exact rfl)|((with_reducible apply Apw);exact aS;exact rfl;exact cB;exact sU;exact rfl;(first|rintro _ _ hlo ⟨_,_,_,rfl,rfl,h⟩|rintro _ _ hlo ⟨_,_,_,_,_,rfl,rfl,h⟩|rintro _ _ hlo ⟨_,_,_,_,_,_,_,rfl,rfl,h⟩|rintro _ _ hlo ⟨_,_,_,_,_,_,_,_,_,rfl,rfl,h⟩);(first|(with_reducible apply Aah)|(with_reducible apply Aai));revert h;(repeat ((with_reducible refine Pa ?_);intro _));(with_reducible refine Pt' ?_);revert hlo;(first|(with_reducible refine Lo1 ?_)|(with_reducible refine Lo2 ?_));intro _)|((with_reducible apply Baj);(iterate 3 exact rfl);exact aS;exact rfl;exact rfl;exact (fun _=>rfl);exact rfl;intro _ _)|((with_reducible apply Bak);(iterate 3 exact rfl);exact aS;exact rfl;exact rfl;exact (fun _=>rfl);exact rfl;intro _)|((with_reducible apply Akb);exact rfl;intro _)|((with_reducible apply Ahs);exact rfl;exact rfl;intro _)|((with_reducible apply Amh);exact evB;exact rfl)))
   |((with_reducible apply P_h);exact rfl;exact rfl;(first|((with_reducible apply Al4);exact rfl;exact rfl;exact aS;exact rE;(first|exact rfl|(simp only[Fn]));exact rfl;exact iI;exact (fun _=>rfl);exact rfl;exact rfl)|((with_reducible apply Af2);(iterate 4 exact rfl);exact sA;exact sP;exact rfl;exact rfl)|((with_reducible apply At6);exact rfl;exact rfl;exact rE;exact iI;exact aS;exact (fun _=>rfl);(iterate 3 exact rfl);intro _ _)|((with_reducible apply Bah);(iterate 3 exact rfl);exact rE;exact iI;exact iI;exact aS;exact aS)|((with_reducible apply Bai);exact rfl;exact rfl;exact rE;exact iI;exact aS)|((with_reducible apply Aua);exact rfl;exact rfl;exact rE;exact aT;exact dL;exact rfl;exact aS;exact (fun _=>rfl);(iterate 3 exact rfl);intro _ _)|((with_reducible apply Anp);exact rfl;exact rfl;exact rE;exact aS;exact sU;exact aS;exact (fun _=>rfl);exact (fun _=>rfl);exact rfl;exact rfl;intro _ _)|((with_reducible apply Ap0);exact rfl;exact rfl;exact rE;exact aT;exact aS;exact (fun _=>rfl);exact (fun _=>rfl);(iterate 3 exact rfl);intro _ _)|((with_reducible apply Al6);(iterate 3 exact rfl);exact aS;exact rE;exact aS;exact sP;exact iI;exact (fun _=>rfl);exact rfl;exact rfl)|((with_reducible apply Bap);exact rfl;exact iI;exact rE;exact aS;exact rfl)|((with_reducible apply Bao);exact rfl;exact iI;exact rE;exact aS;exact rfl)|((with_reducible apply Apy);exact aS;exact rfl;exact shK;exact pK;(intro _ hw;first|exact trivial|exact⟨hB hw,trivial⟩|exact⟨hB hw,hB hw,trivial⟩);exact sU;exact rfl;(first|rintro _ _ ⟨rfl,rfl,h⟩|rintro _ _ ⟨_,_,rfl,rfl,h⟩|rintro _ _ ⟨_,_,_,_,rfl,rfl,h⟩);(first|(with_reducible apply Xr)|(with_reducible apply Aah)|(with_reducible apply Aai)|(with_reducible apply Aml));revert h;(repeat ((with_reducible refine Pa ?_);intro _));(with_reducible refine Pt' ?_))))
   |fail))
  |((with_reducible apply Aw))
  |((with_reducible apply S_c);(first|(refine Cq1 hx rfl ?_ ?_)|(refine Cq3 hx rfl ?_ ?_)|(refine Cq2 hx rfl ?_ ?_)|(refine Cq4 hx rfl ?_ ?_)|(refine Cq1e hx rfl cQ ?_ ?_)) <;> (clear hx;intro _ hx))
  |(with_reducible (refine Ar5 hx ?_;clear hx;intro _ _ hx))
  |(with_reducible (exact Bbo hx))
  |(with_reducible (replace hx:=Az8 hx);(try dsimp only at hx))
  |(((with_reducible (have e:=oI hx));subst e;(with_reducible apply Akc);exact rS;(first|exact rP|(simp only[Ct,Lt];exact rP));exact lO;exact pK))
  |(((with_reducible (have e:=oI hx));subst e;apply Ba;(with_reducible apply Akc);exact rS;(first|exact rP|(simp only[Ct,Lt];exact rP));exact lO;exact pK))
  |(((with_reducible (have e:=oI hx));subst e;apply Ba;apply Ba;(with_reducible apply Akc);exact rS;(first|exact rP|(simp only[Ct,Lt];exact rP));exact lO;exact pK))
  |(((with_reducible (have e:=oI hx));subst e;apply Ba;apply Ba;apply Ba;(with_reducible apply Akc);exact rS;(first|exact rP|(simp only[Ct,Lt];exact rP));exact lO;exact pK))
  |(((with_reducible (have e:=oI hx));subst e;apply Ba;apply Ba;apply Ba;apply Ba;(with_reducible apply Akc);exact rS;(first|exact rP|(simp only[Ct,Lt];exact rP));exact lO;exact pK))
  |(((with_reducible (have e:=oI hx));subst e;(with_reducible apply At8);exact rS;(first|exact rPK|(simp only[Ct,Lt];exact rPK));exact pK))
  |(((with_reducible (have e:=oI hx));subst e;apply Ba;(with_reducible apply At8);exact rS;(first|exact rPK|(simp only[Ct,Lt];exact rPK));exact pK))
  |(((with_reducible (have e:=oI hx));subst e;(with_reducible apply At9);exact rS;(first|exact rPK|(simp only[Ct,Lt];exact rPK));exact pK))
  |(((with_reducible (have e:=oI hx));subst e;apply Ba;(with_reducible apply At9);exact rS;(first|exact rPK|(simp only[Ct,Lt];exact rPK));exact pK))
  |(((with_reducible (have e:=oI hx));subst e;(with_reducible apply Bga);exact rS;exact spt;exact lB;intro _ hw;first|exact⟨_,_,_,rfl,rfl,hZ hw,trivial⟩|exact⟨_,_,_,_,_,rfl,rfl,hZ hw,hZ hw,trivial⟩|exact⟨_,_,_,_,_,_,_,rfl,rfl,hZ hw,hZ hw,hZ hw,trivial⟩|exact⟨_,_,_,_,_,_,_,_,_,rfl,rfl,hZ hw,hZ hw,hZ hw,hZ hw,trivial⟩))
  |(((with_reducible (have e:=oI hx));subst e;(with_reducible apply Baq);exact rS;(intro _ hw;refine⟨_,_,_,_,_,rfl,rfl,?_,trivial⟩);rotate_left;exact rmE;exact spt;exact rfl;exact lB;exact hZ hw))
  |(((with_reducible (have e:=oI hx));subst e;apply Ba;(with_reducible apply Baq);exact rS;(intro _ hw;refine⟨_,_,_,_,_,rfl,rfl,?_,trivial⟩);rotate_left;exact rmE;exact spt;exact rfl;exact lB;exact hZ hw))
  |((exact Ma _ _ hx trivial sF pK))
  |((exact Ro _ _ hx trivial sF pK))
  |((exact Ma _ () hx trivial sF pK))
  |((exact Ro _ () hx trivial sF pK))
  |((apply Ma _ (_,_) hx trivial;(dsimp only;exact sF);(dsimp only;exact pK)))
  |((apply Ba;apply Ma _ (_,_) hx trivial;(dsimp only;exact sF);(dsimp only;exact pK)))
  |((apply Ba;apply Ba;apply Ma _ (_,_) hx trivial;(dsimp only;exact sF);(dsimp only;exact pK)))
  |((apply Ro _ (_,_) hx trivial;(dsimp only;exact sF);(dsimp only;exact pK)))
  |((apply Ba;apply Ro _ (_,_) hx trivial;(dsimp only;exact sF);(dsimp only;exact pK)))
  |((apply Ba;apply Ba;apply Ro _ (_,_) hx trivial;(dsimp only;exact sF);(dsimp only;exact pK)))
  |((apply Ma _ (_,_,_) hx trivial;(dsimp only;exact sF);(dsimp only;exact pK)))
  |((apply Ba;apply Ma _ (_,_,_) hx trivial;(dsimp only;exact sF);(dsimp only;exact pK)))
  |((apply Ba;apply Ba;apply Ma _ (_,_,_) hx trivial;(dsimp only;exact sF);(dsimp only;exact pK)))
  |((apply Ro _ (_,_,_) hx trivial;(dsimp only;exact sF);(dsimp only;exact pK)))
  |((apply Ba;apply Ro _ (_,_,_) hx trivial;(dsimp only;exact sF);(dsimp only;exact pK)))
  |((apply Ba;apply Ba;apply Ro _ (_,_,_) hx trivial;(dsimp only;exact sF);(dsimp only;exact pK)))
  |((apply Ma _ (_,_,_,_) hx trivial;(dsimp only;exact sF);(dsimp only;exact pK)))
  |((apply Ba;apply Ma _ (_,_,_,_) hx trivial;(dsimp only;exact sF);(dsimp only;exact pK)))
  |((apply Ba;apply Ba;apply Ma _ (_,_,_,_) hx trivial;(dsimp only;exact sF);(dsimp only;exact pK)))
  |((apply Ro _ (_,_,_,_) hx trivial;(dsimp only;exact sF);(dsimp only;exact pK)))
  |((apply Ba;apply Ro _ (_,_,_,_) hx trivial;(dsimp only;exact sF);(dsimp only;exact pK)))
  |((apply Ba;apply Ba;apply Ro _ (_,_,_,_) hx trivial;(dsimp only;exact sF);(dsimp only;exact pK)))
  |((apply Ma _ (_,_,_,_,_) hx trivial;(dsimp only;exact sF);(dsimp only;exact pK)))
  |((apply Ba;apply Ma _ (_,_,_,_,_) hx trivial;(dsimp only;exact sF);(dsimp only;exact pK)))
  |((apply Ba;apply Ba;apply Ma _ (_,_,_,_,_) hx trivial;(dsimp only;exact sF);(dsimp only;exact pK)))
  |((apply Ro _ (_,_,_,_,_) hx trivial;(dsimp only;exact sF);(dsimp only;exact pK)))
  |((apply Ba;apply Ro _ (_,_,_,_,_) hx trivial;(dsimp only;exact sF);(dsimp only;exact pK)))
  |((apply Ba;apply Ba;apply Ro _ (_,_,_,_,_) hx trivial;(dsimp only;exact sF);(dsimp only;exact pK)))
  |((apply Ma _ (_,_,_,_,_,_) hx trivial;(dsimp only;exact sF);(dsimp only;exact pK)))
  |((apply Ba;apply Ma _ (_,_,_,_,_,_) hx trivial;(dsimp only;exact sF);(dsimp only;exact pK)))
  |((apply Ba;apply Ba;apply Ma _ (_,_,_,_,_,_) hx trivial;(dsimp only;exact sF);(dsimp only;exact pK)))
  |((apply Ro _ (_,_,_,_,_,_) hx trivial;(dsimp only;exact sF);(dsimp only;exact pK)))
  |((apply Ba;apply Ro _ (_,_,_,_,_,_) hx trivial;(dsimp only;exact sF);(dsimp only;exact pK)))
  |((apply Ba;apply Ba;apply Ro _ (_,_,_,_,_,_) hx trivial;(dsimp only;exact sF);(dsimp only;exact pK)))
  |((apply Ma _ (_,_,_,_,_,_,_,_,_,_) hx trivial;(dsimp only;exact sF);(dsimp only;exact pK)))
  |((apply Ro _ (_,_,_,_,_,_,_,_,_,_) hx trivial;(dsimp only;exact sF);(dsimp only;exact pK)))
  |((apply Ma _ (_,_,_,_,_,_,_) hx trivial;(dsimp only;exact sF);(dsimp only;exact pK)))
  |((apply Ba;apply Ba;apply Ba;apply Ma _ (_,_,_,_,_,_,_) hx trivial;(dsimp only;exact sF);(dsimp only;exact pK)))
  |(((with_reducible apply MaG _ (_,_) hx);exact sF2;exact gG;exact pK2))
  |((refine Ba 0 1 ?_;(with_reducible apply MaG _ (_,_) hx);exact sF2;exact gG2;exact pK2))
  |(((with_reducible apply RoG _ (_,_) hx);exact sF2;exact gG;exact pK2))
  |((refine Ba 0 1 ?_;(with_reducible apply RoG _ (_,_) hx);exact sF2;exact gG2;exact pK2))
  |(((with_reducible apply MaG _ (_,_,_) hx);exact sF2;exact gG;exact pK2))
  |((refine Ba 0 1 ?_;(with_reducible apply MaG _ (_,_,_) hx);exact sF2;exact gG2;exact pK2))
  |(((with_reducible apply RoG _ (_,_,_) hx);exact sF2;exact gG;exact pK2))
  |((refine Ba 0 1 ?_;(with_reducible apply RoG _ (_,_,_) hx);exact sF2;exact gG2;exact pK2))
  |(((with_reducible apply MaG _ (_,_,_,_) hx);exact sF2;exact gG;exact pK2))
  |((refine Ba 0 1 ?_;(with_reducible apply MaG _ (_,_,_,_) hx);exact sF2;exact gG2;exact pK2))
  |(((with_reducible apply RoG _ (_,_,_,_) hx);exact sF2;exact gG;exact pK2))
  |((refine Ba 0 1 ?_;(with_reducible apply RoG _ (_,_,_,_) hx);exact sF2;exact gG2;exact pK2))
  |(((with_reducible apply MaG _ (_,_,_,_,_) hx);exact sF2;exact gG;exact pK2))
  |((refine Ba 0 1 ?_;(with_reducible apply MaG _ (_,_,_,_,_) hx);exact sF2;exact gG2;exact pK2))
  |(((with_reducible apply RoG _ (_,_,_,_,_) hx);exact sF2;exact gG;exact pK2))
  |((refine Ba 0 1 ?_;(with_reducible apply RoG _ (_,_,_,_,_) hx);exact sF2;exact gG2;exact pK2))
  |(((with_reducible apply MaG _ (_,_,_,_,_,_) hx);exact sF2;exact gG;exact pK2))
  |((refine Ba 0 1 ?_;(with_reducible apply MaG _ (_,_,_,_,_,_) hx);exact sF2;exact gG2;exact pK2))
  |(((with_reducible apply RoG _ (_,_,_,_,_,_) hx);exact sF2;exact gG;exact pK2))
  |((refine Ba 0 1 ?_;(with_reducible apply RoG _ (_,_,_,_,_,_) hx);exact sF2;exact gG2;exact pK2))
  |(((with_reducible apply MaG _ (_,_,_,_,_,_,_,_) hx);exact sF2;rotate_left;exact pK2;exact gG))
  |(((with_reducible apply RoG _ (_,_,_,_,_,_,_,_) hx);exact sF2;rotate_left;exact pK2;exact gG))
  |(((with_reducible apply MaG _ (_,_,_,_,_,_,_,_,_,_) hx);exact sF2;rotate_left;exact pK2;exact gG))
  |(((with_reducible apply RoG _ (_,_,_,_,_,_,_,_,_,_) hx);exact sF2;rotate_left;exact pK2;exact gG))
  |((refine Acn _ (_,_) hx (by exact aS) (by exact aS) rfl trivial (by exact sF2) (by exact pK2)))
  |((refine Acn _ (_,_,_) hx (by exact aS) (by exact aS) rfl trivial (by exact sF2) (by exact pK2)))
  |((refine Acn _ (_,_,_,_) hx (by exact aS) (by exact aS) rfl trivial (by exact sF2) (by exact pK2)))
  |((refine Acn _ (_,_,_,_,_) hx (by exact aS) (by exact aS) rfl trivial (by exact sF2) (by exact pK2)))
  |((refine Acn _ (_,_,_,_,_,_) hx (by exact aS) (by exact aS) rfl trivial (by exact sF2) (by exact pK2)))
  |((exact Ma _ _ hx trivial sF2 pK2))
  |((exact Ro _ _ hx trivial sF2 pK2))
  |((exact Ma _ () hx trivial sF2 pK2))
  |((exact Ro _ () hx trivial sF2 pK2))
  |((apply Ma _ (_,_) hx trivial;(dsimp only;exact sF2);(dsimp only;exact pK2)))
  |((apply Ro _ (_,_) hx trivial;(dsimp only;exact sF2);(dsimp only;exact pK2)))
  |((apply Ma _ (_,_,_) hx trivial;(dsimp only;exact sF2);(dsimp only;exact pK2)))
  |((apply Ro _ (_,_,_) hx trivial;(dsimp only;exact sF2);(dsimp only;exact pK2)))
  |((apply Ma _ (_,_,_,_) hx trivial;(dsimp only;exact sF2);(dsimp only;exact pK2)))
  |((apply Ro _ (_,_,_,_) hx trivial;(dsimp only;exact sF2);(dsimp only;exact pK2)))
  |((apply Ma _ (_,_,_,_,_) hx trivial;(dsimp only;exact sF2);(dsimp only;exact pK2)))
  |((apply Ro _ (_,_,_,_,_) hx trivial;(dsimp only;exact sF2);(dsimp only;exact pK2)))
  |((apply Ma _ (_,_,_,_,_,_) hx trivial;(dsimp only;exact sF2);(dsimp only;exact pK2)))
  |((apply Ro _ (_,_,_,_,_,_) hx trivial;(dsimp only;exact sF2);(dsimp only;exact pK2)))
  |(((with_reducible apply Ra);exact aT;exact rfl;exact (fun _=>rfl);intro _;(with_reducible apply RoG _ (_,_) hx);exact sF2;rotate_left;exact pK2;exact gG))
  |(((with_reducible apply Ra);exact aT;exact rfl;exact (fun _=>rfl);intro _;(with_reducible apply MaG _ (_,_) hx);exact sF2;rotate_left;exact pK2;exact gG))
  |(((with_reducible apply Ra);exact aT;exact rfl;exact (fun _=>rfl);intro _;(with_reducible apply RoG _ (_,_,_) hx);exact sF2;rotate_left;exact pK2;exact gG))
  |(((with_reducible apply Ra);exact aT;exact rfl;exact (fun _=>rfl);intro _;(with_reducible apply MaG _ (_,_,_) hx);exact sF2;rotate_left;exact pK2;exact gG))
  |(((with_reducible apply Ra);exact aT;exact rfl;exact (fun _=>rfl);intro _;(with_reducible apply RoG _ (_,_,_,_) hx);exact sF2;rotate_left;exact pK2;exact gG))
  |(((with_reducible apply Ra);exact aT;exact rfl;exact (fun _=>rfl);intro _;(with_reducible apply MaG _ (_,_,_,_) hx);exact sF2;rotate_left;exact pK2;exact gG))
  |fail):G:=h
theorem aI{G:Prop}(h:G:=by intros;rename_i hx;exact au):G:=h
end Go.Proofs.YthlkpgdfifnagaaGreat
