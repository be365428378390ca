import Derived.Test.YthlkpgdfifnagaaGreatPure
import Derived.Laws.BytesArg
import Derived.Laws.Strings
import Derived.Maps.OwnSet
import Derived.Maps.Views
import Derived.DeepKeys4
namespace Go.Proofs.YthlkpgdfifnagaaGreat
open Go Go.RowKit
noncomputable section
def Acf:LE->Nat->Option (Ent×LE)
 |[],_=>none
 |e::r,0=>some (e,r)
 |e::r,i+1=>match Acf r i with
  |some (x,r')=>some (x,e::r')
  |none=>none
theorem Zv:∀{L:LE} {i:Nat} {e:Ent} {L1:LE},Acf L i=some (e,L1)->L.Perm (e::L1)
 |[],_,_,_,h=>by simp[Acf] at h
 |x::r,0,e,L1,h=>by simp[Acf] at h;obtain⟨rfl,rfl⟩:=h;exact List.Perm.refl _
 |x::r,i+1,e,L1,h=>by
  simp only[Acf] at h;split at h
  .rename_i y r' hy;injection h with h;injection h with h1 h2
   subst h1;subst h2;exact ((Zv hy).cons x).trans (List.Perm.swap _ _ _)
  .cases h
inductive Hh:LE->LE->Prop
 |refl {L}:Hh L L
 |pick {L e L1 L'} (i:Nat):Acf L i=some (e,L1)->Hh L1 L'->Hh L (e::L')
 |drop {L e L1 L'} (i:Nat):Acf L i=some (e,L1)->Hh L1 L'->Hh L L'
theorem Hh.sub{L L':LE}(h:Hh L L'):∃M,L.Perm M/\L'.Sublist M:=by
 induction h with
 |refl=>exact⟨_,List.Perm.refl _,List.Sublist.refl _⟩
 |pick i ht _ ih=>
  obtain⟨M,h1,h2⟩:=ih;exact⟨_,(Zv ht).trans (h1.cons _),h2.cons_cons _⟩
 |drop i ht _ ih=>
  obtain⟨M,h1,h2⟩:=ih;exact⟨_,(Zv ht).trans (h1.cons _),h2.cons _⟩
theorem Heap.pick{L L':LE}{w:World}(h:Heap L w)(hp:Hh L L'):Heap L' w:=by
 obtain⟨M,h1,h2⟩:=hp.sub;have h':=h.perm h1;exact⟨fun e he=>h'.ok e (h2.mem he),h'.sep.sublist h2⟩
section
variable {P:Program}{n:Nat}{N:AW}{Q:Exit->AW}{fr:lF}{L:LE}
def Met{τ γ ρ:Type}(n:Nat)(J:τ->Option ρ)(out:ρ)(I:τ->γ->lF)(H:τ->γ->LE)(G:τ->γ->Prop)(a:Act)(w:World):Prop :=
 ∃s g,J s=some out/\G s g/\Fr n (I s g) a/\Heap (H s g) w
theorem Amj{τ γ ρ:Type}{J:τ->Option ρ}{out:ρ}(I:τ->γ->lF)(H:τ->γ->LE)(G:τ->γ->Prop){x y:Code}(k2:∀s g,J s=some out->G s g->T n (y.wp P Q) (I s g) (H s g))(k:T n (x.wp P (Exit.then (Met n J out I H G) Q)) fr L):T n ((Code.seq x y).wp P Q) fr L:=by
 intro a w ha hw;refine wp_seq (wp_mono (k a w ha hw) ?_);intro e a' w' hq;cases e with
 |normal=>obtain⟨s,g,h1,h2,h3,h4⟩:=hq;exact k2 s g h1 h2 a' w' h3 h4
 |_=>exact hq
theorem Aqp{τ γ ρ:Type}{J:τ->Option ρ}{out:ρ}{I:τ->γ->List (Nat × Value)}{H:τ->γ->List Ent}{G:τ->γ->Prop}(s:τ)(g:γ)(hJ:J s=some out)(hG:G s g)(hF:SubF (I s g) fr)(hH:Hh L (H s g)):
  T n (Exit.then (Met n J out I H G) Q .normal) fr L:=fun _ _ ha hw=>⟨s,g,hJ,hG,ha.sub hF,hw.pick hH⟩
def Rnd{σ τ γ:Type}(n:Nat)(x:Sum σ τ)(I:σ->γ->lF)(H:σ->γ->LE)(G:σ->γ->Prop)(a:Act)(w:World):Prop :=
 ∃s g,x=.inl s/\G s g/\Fr n (I s g) a/\Heap (H s g) w
theorem Amk{σ τ γ:Type}{B:σ->Option (Sum σ τ)}{s0:σ}{t:τ}(hl:lfix B s0=some t)(I:σ->γ->List (Nat × Value))(H:σ->γ->List Ent)(G:σ->γ->Prop)(g0:γ)(hG:G s0 g0)(hF:SubF (I s0 g0) fr)(hH:Hh L (H s0 g0)){c:Code}(body:∀ s g,G s g->∀ x,B s=some x->(∀ t',x = .inr t'->t'=t)->T n (c.wp P (Exit.then (Rnd n x I H G) Q)) (I s g) (H s g)):
  T n ((Code.loop c).wp P Q) fr L:=by
 refine fun a w ha hw=>?_
 refine Ba0 (fr:=fr) (L:=H s0 g0) (σ:=σ×γ) (fun s=>I s.1 s.2) (fun s=>H s.1 s.2) (fun s=>G s.1 s.2/\lfix B s.1=some t) (fun s=>Ady B s.1) (s0,g0) ⟨hG,hl⟩ hF .refl ?_ a w ha (hw.pick hH);clear ha hw a w;rintro⟨s,g⟩ ⟨hG,hs⟩;have hs0:=hs;rw[Ay] at hs;cases hb:B s with
 |none=>rw[hb] at hs;cases hs
 |some x=>
  intro a w ha hw;refine wp_mono (body s g hG x hb (fun t' hx=>?_) a w ha hw) ?_
  .subst hx;rw[hb] at hs;injection hs
  .intro e a' w' hq;cases e with
   |normal=>
    obtain⟨s',g',hx,h1,h2,h3⟩:=hq;subst hx;obtain⟨h4,h5⟩:=Axk hs0 hb;exact⟨(s',g'),⟨h1,h4⟩,h5,h2,h3⟩
   |_=>exact hq
theorem Aiu{σ τ γ:Type}{x:Sum σ τ}{I:σ->γ->List (Nat × Value)}{H:σ->γ->List Ent}{G:σ->γ->Prop}(s:σ)(g:γ)(hx:some (.inl s)=some x)(hG:G s g)(hF:SubF (I s g) fr)(hH:Hh L (H s g)):
  T n (Exit.then (Rnd n x I H G) Q .normal) fr L:=fun _ _ ha hw=>⟨s,g,(oI hx).symm,hG,ha.sub hF,hw.pick hH⟩
theorem Zw{σ τ:Type}{x:Sum σ τ}{t t':τ}(ht:∀t',x=.inr t'->t'=t)(hx:some (.inr t')=some x):t'=t:=ht t' (oI hx).symm
theorem Aqq(k:T n N fr L):T n N fr ([]++L):=k
theorem Aah{a:Ent}(k:T n N fr (a::L)):T n N fr ([a]++L):=k
theorem Aai{a b:Ent}(k:T n N fr (a::b::L)):T n N fr ([a,b]++L):=k
theorem Xr{a b c:Ent}(k:T n N fr (a::b::c::L)):T n N fr ([a,b,c]++L):=k
theorem Aml{a b c d:Ent}(k:T n N fr (a::b::c::d::L)):T n N fr ([a,b,c,d]++L):=k
theorem Axl{a b c d e f:Ent}(k:T n N fr (a::b::c::d::e::f::L)):T n N fr ([a,b,c,d,e,f]++L):=k
theorem Has.at_idx{α:Type}{K:List Ent}{A m c sz}{enc:α->List Value}{l:List α}{i:Int}{x:α}(h:Has K A m c sz enc l)(hi:idx l i=some x):
  ∃(b o j:Nat),A=some ⟨b,o,none⟩/\i=(j:Int)/\j<m/\Pt K b (o+j*sz) (enc x):=by
 obtain⟨j,hj,h1,h2⟩:=Acd hi;obtain⟨b,o,hA,hp⟩:=h.elem hj;exact⟨b,o,j,hA,h1,by have:=h.len;omega,by rw[<-h2];exact hp⟩
theorem Has.ofRow{α:Type}{enc:α->List Value}{A m c t sz}{l:List α}(hz:0<sz)(he:∀ x,(enc x).length=sz){w:World}(hok:Ent.ok w (.r A m c t sz (l.flatMap enc))):
  Has [.r A m c t sz (l.flatMap enc)] A m c sz enc l:=by
 have hlen:(l.flatMap enc).length=l.length*sz:=by
  clear hok
  induction l with
  |nil=>simp
  |cons x r ih=>rw[List.flatMap_cons,List.length_append,he x,ih,List.length_cons,Nat.succ_mul];omega
 have hm:m=l.length:=by
  have h1:=hok.1;rw[hlen] at h1;exact (Nat.eq_of_mul_eq_mul_right hz h1).symm
 subst hm;exact Has.ofR hz (fun x _=>he x) hok
theorem Axm{α:Type}{enc:α->LV}{l:List α}{k A m c t sz}{i:Int}{x:α}(hk:nthE L k=some (.r A m c t sz (l.flatMap enc)))(hz:0<sz)(he:∀x,(enc x).length=sz)(hi:idx l i=some x)(kk:∀(g j:Nat),A=some ⟨g,0,none⟩->i=(j:Int)->j<m->m=l.length->Pt [.r A m c t sz (l.flatMap enc)] g (0+j*sz) (enc x)->T n N fr L):T n N fr L:=by
 intro a w ha hw;have hok:=hw.ok _ (Gd hk);have hs:=Has.ofRow hz he hok;obtain⟨b,o,j,hA,h1,h2,h3⟩:=hs.at_idx hi;have hA0:∃g,A=some ⟨g,0,none⟩:=by
  obtain⟨_,h⟩:=hok;rcases h with⟨hv,h0⟩|⟨g,cap,cur,hv,_⟩
  .omega
  .injection hv with hA;exact⟨g,hA⟩
 obtain⟨g,hg⟩:=hA0;rw[hg] at hA;injection hA with hA
 injection hA with e1 e2 _
 subst e1;subst e2;exact kk _ j hg h1 h2 hs.len.symm h3 a w ha hw
theorem Amm{α:Type}{enc:α->LV}{l:List α}{k A m c t sz}(hk:nthE L k=some (.r A m c t sz (l.flatMap enc)))(hz:0<sz)(he:∀x,(enc x).length=sz)(kk:m=l.length->Has [.r A m c t sz (l.flatMap enc)] A m c sz enc l->T n N fr L):T n N fr L:=by
 intro a w ha hw;have hs:=Has.ofRow hz he (hw.ok _ (Gd hk));exact kk hs.len.symm hs a w ha hw
theorem Aux{α:Type}(enc:α->LV)(l:List α)(ix:Int)(u:α){j sz:Nat}{m:Nat}{x y g o A c t v ty' i L'}{ty:TypeId}{pos:String}{after:AE}{guard:ON}(hx:evo fr x=some (.pointer (some ⟨g,o,none⟩)))(hy:evo fr y=some v)(hv:v.cells=(enc u).toArray)(hL:SetE L i (.r A m c t sz (l.flatMap enc)) (.r A m c t sz ((setI l ix u).flatMap enc)) L')(hA:A=some ⟨g,0,none⟩)(ho:o=0+j*sz)(hix:ix=(j:Int))(hj:j<m)(he:∀x,(enc x).length=sz)(hz:0<sz)(h1:Tf (enc u)=true)(hsz:∀w,(sizeOf ty').run P w=.ok sz w)(k:T n N fr L'):Wh P Q n ⟨none,.store ty' x y,ty,pos,after,guard⟩ fr L N:=by
 intro a w ha hw;have hm:m=l.length:=(Has.ofRow hz he (hw.ok _ hL.mem)).len.symm;subst hm;subst hix;rw[Fo] at hL;exact Aws u hx hy hv hL hA oo hj (fun x _=>he x) (he u) hz h1 hsz k a w ha hw
theorem Asw{α:Type}{enc:α->LV}{l:List α}{i A m c t sz q L'}(hL:SetE L i (.r A m c t sz (l.flatMap enc)) (.r A q c t sz ((l.take q).flatMap enc)) L')(hq:q<=l.length)(hz:0<sz)(he:∀x,(enc x).length=sz)(k:T n N fr L'):T n N fr L:=by
 intro a w ha hw;refine k a w ha (Heap.turn (e:=.r A m c t sz (l.flatMap enc)) (e':=.r A q c t sz ((l.take q).flatMap enc)) (w:=w) (w':=w) ⟨rfl,rfl,rfl,nL _,fun _ _ _=>rfl⟩ ?_ (nL _) (fun g hg=>.inl (by cases A <;> exact hg)) hL hw);have hfl:∀m:List α,(m.flatMap enc).length=m.length*sz:=by
  intro m
  induction m with
  |nil=>simp
  |cons x r ih=>rw[List.flatMap_cons,List.length_append,he x,ih,List.length_cons,Nat.succ_mul];omega
 have hok:=hw.ok _ hL.mem;have hm:m=l.length:=(Has.ofRow hz he hok).len.symm;subst hm;have htk:(l.take q).flatMap enc=(l.flatMap enc).take (q*sz):=by
  have h0:l.flatMap enc=(l.take q).flatMap enc++(l.drop q).flatMap enc:=by rw[<-List.flatMap_append,List.take_append_drop]
  have hlt:((l.take q).flatMap enc).length=q*sz:=by rw[hfl,List.length_take,Nat.min_eq_left hq]
  rw[h0,<-hlt,List.take_left]
 refine⟨by rw[hfl,List.length_take,Nat.min_eq_left hq],?_⟩;rcases hok.2 with⟨hv,h0⟩|⟨g,cap,cur,hv,hb,hh,h3,h4,h5,h6⟩
 .injection hv with e1 e2 e3
  subst e1;subst e3;left;have:q=0:=oo;subst this;exact⟨rfl,rfl⟩
 .injection hv with e1 e2 e3
  subst e1;subst e3;refine .inr ⟨g,c,cur,rfl,hb,hh,oo,h4,h5,?_⟩;rw[htk,<-h6,List.take_take,Nat.min_eq_left (Nat.mul_le_mul_right _ hq)]
theorem Wn{α:Type}(enc:α->List Value)(l ys:List α){d:Nat}{s x t e sz bytes A m c g B q q' t' i i' news ty'}{pos:String}{after:Array Edge}{guard:Option (Nat × Bool)}{L' L2:Option Addr->Nat->List Ent}(hs:evo fr s=some (.slice A m c))(hx:evo fr x=some (.slice B q q'))(hB:B=some ⟨g,0,none⟩)(ht:Ab4 P t e sz bytes)(he:∀ x,(enc x).length=sz)(hL2:nthE L i'=some (.m g t' news))(hn:news=ys.flatMap enc)(hq:q=ys.length)(h1:Tf news=true)(hb:(l.length+ys.length)*bytes<=140737488355328)(hd:Nat.blt d n=true)(hL:∀ A' c',SetE L i (.r A m c e sz (l.flatMap enc)) (.r A' (l++ys).length c' e sz ((l++ys).flatMap enc)) (L' A' c'))(hsub:∀ A' c',HSub (L' A' c') (L2 A' c'))(h0:0<bytes)(k:∀ A' c',T n N ((d,.slice A' (l++ys).length c')::fr) (L2 A' c')):
  Wh P Q n ⟨some d,.call ⟨.builtin .append,#[s,x],#[t,t]⟩,ty',pos,after,guard⟩ fr L N:=by
 intro a w ha hw;have hm:m=l.length:=(Has.ofRow ht.pos he (hw.ok _ (hL none 0).mem)).len.symm;subst hm;have hfl:∀m:List α,(m.flatMap enc).length=m.length*sz:=by
  intro m
  induction m with
  |nil=>simp
  |cons x r ih=>rw[List.flatMap_cons,List.length_append,he x,ih,List.length_cons,Nat.succ_mul];omega
 subst hn;have hlq:l.length+q=(l++ys).length:=by rw[List.length_append,hq]
 have h63:l.length+q<=9223372036854775807:=by
  have h3:=Nat.mul_le_mul_left (l.length+ys.length) h0;rw[Nat.mul_succ,Nat.mul_zero,Nat.zero_add] at h3;omega
 refine Awt (i:=i) (xs:=l.flatMap enc) (L':=L') (L2:=L2) hs hx hB ht hL2 (by rw[hfl,hq]) h1 (by rw[hq];exact hb) h63 hd ?_ hsub ?_ a w ha hw
 .intro A' c';have:=hL A' c';rw[hlq,<-List.flatMap_append];exact this
 .intro A' c';rw[hlq];exact k A' c'
theorem Has.low{α:Type}{K E:LE}{w:World}{A m c sz}{enc:α->LV}{l:List α}(h:Has (K++E) A m c sz enc l)(hK:∀e∈K,Ent.ok w e):Has (.old w::E) A m c sz enc l:=by
 refine⟨h.len,h.nc,h.cap,h.esz,fun hn=>?_⟩;obtain⟨b,o,hA,hc⟩:=h.at_ hn;refine⟨b,o,hA,fun i hi w' hw' j u hu=>hc i hi w' (fun e he=>?_) j u hu⟩;rcases List.mem_append.1 he with he|he
 .exact Ent.ext (hK e he) (hw' (.old w) mS)
 .exact hw' e (mO _ he)
def slA(A:OA)(c p sz:Nat):OA:=if c=p then A else A.map (·.add (p*sz))
theorem Has.sub{α:Type}{K:List Ent}{A m c sz}{enc:α->List Value}{l:List α}(h:Has K A m c sz enc l){i j:Int}(h1:0<=i)(h2:i<=j)(h3:j<=(m:Int)):
  Has K (slA A c i.toNat sz) (j.toNat-i.toNat) (c-i.toNat) sz enc (subl l i j):=by
 have hl:=h.len;have hnc:=h.nc;refine⟨by simp[subl];omega,oo,by have:=h.cap;omega,fun x hx=>h.esz x (List.mem_of_mem_take (List.mem_of_mem_drop hx)),fun hn=>?_⟩;obtain⟨b,o,hA,hc⟩:=h.at_ oo;refine⟨b,o+i.toNat*sz,?_,fun q hq=>?_⟩
 .unfold slA;rw[iN oo,hA];simp[Addr.add_lit]
 .have hq':i.toNat+q<l.length:=by simp[subl] at hq;omega
  have hx:(subl l i j)[q]=l[i.toNat+q]:=by simp[subl]
  rw[hx,Nat.add_assoc,<-Nat.add_mul];exact hc _ hq'
theorem Asx{t x lo A m c e sz k1}{i:Int}{dst:Option Tmp}{ty:TypeId}{pos:String}{after:Array Edge}{guard:Option (Nat × Bool)}(hx:evo fr x=some (.slice A m c))(hl:evo fr lo=some (.int k1 i))(ht:Po P t e sz)(h0:0<=i)(h1:i<=(m:Int)):
  Ev P n ⟨dst,.slice t x (some lo) none none,ty,pos,after,guard⟩ fr L (.slice (slA A c i.toNat sz) (m-i.toNat) (c-i.toNat)):=
 Awr hx hl ht oo oo
theorem Amn{t x hi A m c e sz k2}{j:Int}{dst:Option Tmp}{ty:TypeId}{pos:String}{after:Array Edge}{guard:Option (Nat × Bool)}(hx:evo fr x=some (.slice A m c))(hh:evo fr hi=some (.int k2 j))(ht:Po P t e sz)(h0:0<=j)(h2:j<=(c:Int)):
  Ev P n ⟨dst,.slice t x none (some hi) none,ty,pos,after,guard⟩ fr L (.slice A j.toNat c):=
 Awq hx hh ht oo oo
theorem Has.subL{α:Type}{K:List Ent}{A m c sz}{enc:α->List Value}{l:List α}(h:Has K A m c sz enc l){i:Int}(h1:0<=i)(h2:i<=(m:Int)):
  Has K (slA A c i.toNat sz) (m-i.toNat) (c-i.toNat) sz enc (subl l i (m:Int)):=h.sub h1 h2 (Int.le_refl _)
theorem Has.subH{α:Type}{K:List Ent}{A m c sz}{enc:α->List Value}{l:List α}(h:Has K A m c sz enc l){j:Int}(h1:0<=j)(h2:j<=(m:Int)):
  Has K A j.toNat c sz enc (subl l 0 j):=by
 have hs:subl l 0 j=l.take j.toNat:=by simp[subl]
 rw[hs];exact h.take oo
theorem Has.len'{α:Type}{K:LE}{A m c sz}{enc:α->LV}{l:List α}(h:Has K A m c sz enc l):Has K A l.length c sz enc l:=by
 have:=h.len;subst this;exact h
end
section
variable {P:Program}{n:Nat}{fr:lF}{L:LE}{dst:Option Tmp}{ty:TypeId}{pos:String}{after:AE}{guard:ON}
theorem Asy{t x k a}(hx:evo fr x=some (.int k a)):Ev P n ⟨dst,.unOp .neg t x,ty,pos,after,guard⟩ fr L (.int k (k.wrap (-a))):=fun ac w ha _=>by
 simp only[execOp,ha.eval hx,Op.unary,Op.intArith,Int.zero_sub];rfl
def Df(k:IntKind)(a b:Int):Int:=k.wrap (BitVec.ofInt k.bits a &&& BitVec.ofInt k.bits b).toNat
def Xs(k:IntKind)(a b:Int):Int:=k.wrap (BitVec.ofInt k.bits a ||| BitVec.ofInt k.bits b).toNat
def Adb(k:IntKind)(a b:Int):Int:=k.wrap (BitVec.ofInt k.bits a ^^^ BitVec.ofInt k.bits b).toNat
theorem Ag3{t t' x y k a b}(hx:evo fr x=some (.int k a))(hy:evo fr y=some (.int k b)):Ev P n ⟨dst,.binOp .and t x y t',ty,pos,after,guard⟩ fr L (.int k (Df k a b)):=
 Ou hx hy fun w=>by rw[binOp_and,Op.intBits];rfl
theorem Aiv{t t' x y k a b}(hx:evo fr x=some (.int k a))(hy:evo fr y=some (.int k b)):Ev P n ⟨dst,.binOp .or t x y t',ty,pos,after,guard⟩ fr L (.int k (Xs k a b)):=
 Ou hx hy fun w=>by rw[binOp_or,Op.intBits];rfl
theorem Ag4{t t' x y k a b}(hx:evo fr x=some (.int k a))(hy:evo fr y=some (.int k b)):Ev P n ⟨dst,.binOp .xor t x y t',ty,pos,after,guard⟩ fr L (.int k (Adb k a b)):=
 Ou hx hy fun w=>by rw[binOp_xor,Op.intBits];rfl
def shl_(k:IntKind)(a b:Int):Int:=k.wrap (a*2^(min b.toNat k.bits))
def shr_(k:IntKind)(a b:Int):Int:=a.fdiv (2^(min b.toNat k.bits))
theorem Bbn{t t' x y k k' a b}(hx:evo fr x=some (.int k a))(hy:evo fr y=some (.int k' b))(hb:0<=b):Ev P n ⟨dst,.binOp .shl t x y t',ty,pos,after,guard⟩ fr L (.int k (shl_ k a b)):=by
 intro ac w ha _;have:Op.shift .shl k a k' b=pure (.int k (shl_ k a b)):=by
  unfold Op.shift;rw[iN oo];rfl
 simp[execOp,ha.eval hx,ha.eval hy,eqGuard_at_int,binOp_shl,this]
theorem Ah9{t t' x y k k' a b}(hx:evo fr x=some (.int k a))(hy:evo fr y=some (.int k' b))(hb:0<=b):Ev P n ⟨dst,.binOp .shr t x y t',ty,pos,after,guard⟩ fr L (.int k (shr_ k a b)):=by
 intro ac w ha _;have:Op.shift .shr k a k' b=pure (.int k (shr_ k a b)):=by
  unfold Op.shift;rw[iN oo];rfl
 simp[execOp,ha.eval hx,ha.eval hy,eqGuard_at_int,binOp_shr,this]
end
theorem SubE.app2{K E E':LE}(h:SubE E E'):SubE (K++E) (K++E'):=⟨fun w hw x hx=>by
 rcases List.mem_append.1 hx with hx|hx
 .exact hw x (List.mem_append_left _ hx)
 .exact h.ok w (fun y hy=>hw y (List.mem_append_right _ hy)) x hx⟩
theorem SubE.appR2{K E E':LE}(h:SubE E E'):SubE E (K++E'):=⟨fun w hw=>h.ok w fun x hx=>hw x (List.mem_append_right _ hx)⟩
theorem Has.up0{α:Type}{K:LE}{A:OA}{n c sz:Nat}{enc:α->LV}{l:List α}(h:Has K A n c sz enc l):Has (K++[]) A n c sz enc l:=by rw[List.append_nil];exact h
theorem Has.assoc{α:Type}{K E E':LE}{A:OA}{n c sz:Nat}{enc:α->LV}{l:List α}(h:Has (K++E++E') A n c sz enc l):Has (K++(E++E')) A n c sz enc l:=by rw[<-List.append_assoc];exact h
section
variable {P:Program}{n:Nat}{fr:lF}{L:LE}
theorem Pr{fn:Func}{R:Value->List Ent->Prop}{w0:World}{rs vs}{Ln:List Ent}(hr:fn.results=rs.toArray)(h:Res P fr L rs vs)(hR:R (Vh vs) Ln)(hlo:∀ x∈Ln,x.low=0)(hs:Hh L (Ln++[.old w0])):
  T n (bodyPost P fn (fun e w'=>∃v Ln,e=.returned v/\R v Ln/\(∀x∈Ln,x.low=0)/\Heap (Ln++[.old w0]) w') .ret) fr L :=
 Aui hr h fun _ hw=>⟨_,Ln,rfl,hR,hlo,hw.pick hs⟩
end
theorem Bbo{ρ:Type}{r:ρ}{p:Prop}(h:(none:Option ρ)=some r):p:=nomatch h
theorem Nw{α:Type}{enc:α->LV}{sz:Nat}(he:∀x,(enc x).length=sz):∀m:List α,(m.flatMap enc).length=m.length*sz:=by
 intro m
 induction m with
 |nil=>simp
 |cons x r ih=>rw[List.flatMap_cons,List.length_append,he x,ih,List.length_cons,Nat.succ_mul];omega
theorem Has.dn0{α:Type}{K:LE}{A:OA}{n c sz:Nat}{enc:α->LV}{l:List α}(h:Has (K++[]) A n c sz enc l):Has K A n c sz enc l:=by rw[List.append_nil] at h;exact h
def raw(x:LV):LV:=x
def HasN{α:Type}(K:LE)(A:OA)(n c sz:Nat)(R:LE->α->LV->Prop)(l:List α):Prop :=
 ∃hl:List LV,Has K A n c sz raw hl/\hl.length=l.length/\∀(i:Nat) (h:i<l.length) (h':i<hl.length),R K l[i] hl[i]
theorem HasN.at_idx{α:Type}{K:List Ent}{A:Option Addr}{m c sz:Nat}{R:List Ent->α->List Value->Prop}{l:List α}{i:Int}{x:α}(h:HasN K A m c sz R l)(hi:idx l i=some x):
  ∃(b o j:Nat) (ys:LV),A=some ⟨b,o,none⟩/\i=(j:Int)/\j<m/\Pt K b (o+j*sz) ys/\R K x ys:=by
 obtain⟨hl,h1,h2,h3⟩:=h;obtain⟨j,hj,e1,e2⟩:=Acd hi;obtain⟨b,o,hA,hp⟩:=h1.elem (i:=j) oo;exact⟨b,o,j,_,hA,e1,by have:=h1.len;omega,hp,by rw[<-e2];exact h3 j hj oo⟩
theorem Pt.low{K E:LE}{w:World}{b o:Nat}{ys:LV}(h:Pt (K++E) b o ys)(hK:∀e∈K,Ent.ok w e):Pt (.old w::E) b o ys:=fun w' hw'=>h w' (fun e he=>by
 rcases List.mem_append.1 he with he|he
 .exact Ent.ext (hK e he) (hw' (.old w) mS)
 .exact hw' e (mO _ he))
section
variable {P:Program}{n:Nat}{N:AW}{Q:Exit->AW}{fr:lF}{L:LE}
theorem T_mr{α:Type}{enc:α->LV}(l:List α){i g t sz cs q L'}(hL:SetE L i (.m g t cs) (.r (some ⟨g,0,none⟩) q q t sz (l.flatMap enc)) L')(hc:cs=l.flatMap enc)(hq:q=l.length)(he:∀x,(enc x).length=sz)(hm:q<=maxLen)(k:T n N fr L'):T n N fr L:=by
 intro a w ha hw;refine k a w ha (Heap.turn (e:=.m g t cs) (e':=.r (some ⟨g,0,none⟩) q q t sz (l.flatMap enc)) (w:=w) (w':=w) ⟨rfl,rfl,rfl,nL _,fun _ _ _=>rfl⟩ ?_ (nL _) (fun g hg=>.inl hg) hL hw);have hok:w.heap[g]? = some (.cells cs.toArray t (0,0)):=hw.ok _ hL.mem;subst hc;subst hq;have hl:=Nw he l;exact⟨hl,.inr ⟨g,l.length,_,rfl,Nat.zero_le _,hok,nL _,hm,sV hl,by show List.take _ (l.flatMap enc)=_;rw[<-hl,List.take_length]⟩⟩
theorem Bbp{α:Type}{enc:α->LV}{l r:List α}{i A m c t sz L'}(hp:∃k,r=l.take k)(hL:SetE L i (.r A m c t sz (l.flatMap enc)) (.r A r.length c t sz (r.flatMap enc)) L')(hz:0<sz)(he:∀x,(enc x).length=sz)(k:T n N fr L'):T n N fr L:=by
 obtain⟨q,rfl⟩:=hp;rcases Nat.le_total q l.length with h|h
 .rw[List.length_take,Nat.min_eq_left h] at hL;exact Asw hL h hz he k
 .rw[List.take_of_length_le h] at hL;intro a w ha hw;have hm:m=l.length:=(Has.ofRow hz he (hw.ok _ hL.mem)).len.symm;subst hm;rw[hL.same rfl] at k;exact k a w ha hw
theorem Aqr(w:World)(r:Option Nat):w.grownBy w r:=⟨rfl,rfl,rfl,nL _,fun _ _ _=>rfl⟩
theorem Afe(P:Program)(w:World)(base:Nat)(t ty e:TypeId)(i:TypeInfo)(size:Nat)(ht:P.underlying t=some (.slice e))(hi:P.info? e=some i)(v:Value)(n:Nat)(xs:LV)(hown:w.ownsRow base e size v n xs)(c:Nat):(Builtin.append_ #[t,t] ty #[v,.slice none 0 c]).run P w=.ok v w:=by
 rcases hown.2 with⟨rfl,rfl⟩|⟨g,cap,cur,rfl,_,_,hnc,_⟩
 .simp[Builtin.append_,run_underlying ht,sizeOf,typeInfo,hi,Builtin.lenOf,Builtin.firstCells]
 .simp[Builtin.append_,run_underlying ht,sizeOf,typeInfo,hi,Builtin.lenOf,Builtin.firstCells,hnc,storeCells]
theorem Yx{α:Type}(enc:α->List Value)(l ys:List α){d:Nat}{s x t e sz bytes A m c B q q' i ty'}{pos:String}{after:Array Edge}{guard:Option (Nat × Bool)}{L':Option Addr->Nat->List Ent}{K:List Ent}(hs:evo fr s=some (.slice A m c))(hx:evo fr x=some (.slice B q q'))(ht:Ab4 P t e sz bytes)(he:∀ x,(enc x).length=sz)(hy:Has K B q q' sz enc ys)(hK:SubE K L)(h1:∀ x,Tf (enc x)=true)(hb:(l.length+ys.length)*bytes<=140737488355328)(hd:Nat.blt d n=true)(hL:∀ A' c',SetE L i (.r A m c e sz (l.flatMap enc)) (.r A' (l++ys).length c' e sz ((l++ys).flatMap enc)) (L' A' c'))(h0:0<bytes)(k:∀ A' c',T n N ((d,.slice A' (l++ys).length c')::fr) (L' A' c')):
  Wh P Q n ⟨some d,.call ⟨.builtin .append,#[s,x],#[t,t]⟩,ty',pos,after,guard⟩ fr L N:=by
 intro a w ha hw;have hm:m=l.length:=(Has.ofRow ht.pos he (hw.ok _ (hL none 0).mem)).len.symm;subst hm;have hq:=hy.len;subst hq;have hl:=Nw he l;have hly:=Nw he ys;have h63:l.length+ys.length<=9223372036854775807:=by
  have h3:=Nat.mul_le_mul_left (l.length+ys.length) h0;rw[Nat.mul_succ,Nat.mul_zero,Nat.zero_add] at h3;omega
 obtain⟨i0,z,e1,e2,e3,e4,e5⟩:=ht.ex;have hown:w.ownsRow 0 e sz (.slice A l.length c) l.length (l.flatMap enc):=hw.ok _ (hL none 0).mem;have hsl:=hy.at hK hw;have hone:∀u∈ys.flatMap enc,u.oneCell'=true:=by
  intro u hu;obtain⟨x,_,hu⟩:=List.mem_flatMap.1 hu;exact Xc (h1 x) u hu
 have main:∃ v' w',(Builtin.append_ #[t,t] ty' #[.slice A l.length c,.slice B ys.length q']).run P w = .ok v' w'/\w'.ownsRow 0 e sz v' (l.length+ys.length) (l.flatMap enc++ys.flatMap enc) /\
   w.grownBy w' (Value.slice A l.length c).ownBlock/\(v'.ownBlock=(Value.slice A l.length c).ownBlock\/v'.ownBlock=some w.heap.size):=by
  by_cases hn:0<ys.length
  ·obtain⟨b,o,hB,hcell⟩:=hsl.at_ hn;subst hB;have hnew:∀ (j:Nat) (u:Value),(ys.flatMap enc)[j]? = some u->w.cell? ((⟨b,o,none⟩:Addr).add j)=some u:=fun j u hj=>by
    have hjl:j<(ys.flatMap enc).length:=(List.getElem?_eq_some_iff.1 hj).1;rw[hly] at hjl;have hdm:j=j/sz*sz+j%sz:=by have:=Nat.div_add_mod j sz;rw[Nat.mul_comm] at this;omega
    have hq:j/sz<ys.length:=(Nat.div_lt_iff_lt_mul ht.pos).2 hjl;have hmod:=Nat.mod_lt j ht.pos;obtain⟨u',hu'⟩:∃u',(enc ys[j/sz])[j%sz]? = some u':=⟨_,gE (by rw[he ys[j/sz]];exact hmod)⟩;have hf:=Abi ys (j/sz) hq (fun x _=>he x) (j%sz) u' hu';rw[<-hdm,hj] at hf;injection hf with hf
    subst hf;have:=hcell (j/sz) hq (j%sz) u hu';rw[Addr.add_lit,hdm,<-Nat.add_assoc];exact this
   obtain⟨v',w',hr,h2,h3,_,h5⟩:=run_append_own_at (P:=P) w 0 t ty' e i0 z sz bytes ht.sl e1 e2 e3 e4 e5 ht.pos _ _ _ hown ⟨b,o,none⟩ ys.length q' (ys.flatMap enc) hly hnew hone (by unfold maxLen;omega) hb (Nat.zero_le _);exact⟨v',w',hr,h2,h3,h5⟩
  .have h0:ys=[]:=List.eq_nil_of_length_eq_zero oo;subst h0;cases B with
   |none=>exact⟨_,w,Afe P w 0 t ty' e i0 sz ht.sl e1 _ _ _ hown q',sV hown,Aqr w _,.inl rfl⟩
   |some b=>
    obtain⟨v',w',hr,h2,h3,_,h5⟩:=run_append_own_at (P:=P) w 0 t ty' e i0 z sz bytes ht.sl e1 e2 e3 e4 e5 ht.pos _ _ _ hown b 0 q' [] s_ (fun j u hj=>by simp at hj) (fun u hu=>by simp at hu) (by unfold maxLen;omega) hb (Nat.zero_le _);exact⟨v',w',hr,h2,h3,h5⟩
 obtain⟨v',w',hr,h2,h3,h5⟩:=main;have hlq:l.length+ys.length=(l++ys).length:=by rw[List.length_append]
 have hv':∃A' c',v'=.slice A' (l.length+ys.length) c':=by
  rcases h2.2 with⟨hv,h0⟩|⟨g',cap,cur,hv,_⟩
  .exact⟨none,0,by rw[hv,h0]⟩
  .exact⟨_,_,hv⟩
 obtain⟨A',c',rfl⟩:=hv';rw[hlq] at hr h2 h5;rw[<-List.flatMap_append] at h2;have hrun:(execOp a.eval ⟨some d,.call ⟨.builtin .append,#[s,x],#[t,t]⟩,ty',pos,after,guard⟩).run P w=.ok (.value (.slice A' (l++ys).length c')) w':=by
  simp[execOp,resolve,invoke,builtin,ha.eval hs,ha.eval hx,hr]
 simp only[Oper.wp,hrun,Oper.upon_value];refine k A' c' _ _ (ha.put hd) (Heap.turn (e:=.r A l.length c e sz (l.flatMap enc)) (e':=.r A' (l++ys).length c' e sz ((l++ys).flatMap enc)) h3 h2 (nL _) (fun g' hg'=>?_) (hL A' c') hw);simp only[Ent.blk] at hg' ⊢;rcases h5 with h5|h5
 .left;rw[<-h5];exact hg'
 .right;rw[h5] at hg';injection hg' with hg';omega
theorem Asz{t x k a}{dst:Option Tmp}{ty:TypeId}{pos:String}{after:AE}{guard:ON}(hx:evo fr x=some (.int k a)):Ev P n ⟨dst,.unOp .xor t x,ty,pos,after,guard⟩ fr L (.int k (Adb k (if k.signed then -1 else k.max) a)):=fun ac w ha _=>by
 simp only[execOp,ha.eval hx,Op.unary,Op.intBits];rfl
end
section
variable {P:Program}{n:Nat}{fr:lF}{L:LE}{dst:Option Tmp}{ty:TypeId}{pos:String}{after:AE}{guard:ON}
theorem Aed{t t' x y a b}(hx:evo fr x=some (.int .i64 a))(hy:evo fr y=some (.int .i64 b)):Ev P n ⟨dst,.binOp .add t x y t',ty,pos,after,guard⟩ fr L (.int .i64 (w64 (a+b))):=Anv hx hy
theorem Aiw{t t' x y a b}(hx:evo fr x=some (.int .i64 a))(hy:evo fr y=some (.int .i64 b)):Ev P n ⟨dst,.binOp .sub t x y t',ty,pos,after,guard⟩ fr L (.int .i64 (w64 (a-b))):=Anw hx hy
theorem Aix{t t' x y a b}(hx:evo fr x=some (.int .i64 a))(hy:evo fr y=some (.int .i64 b)):Ev P n ⟨dst,.binOp .mul t x y t',ty,pos,after,guard⟩ fr L (.int .i64 (w64 (a*b))):=Anx hx hy
theorem Aqs{t t' x y a b}(hx:evo fr x=some (.int .i64 a))(hy:evo fr y=some (.int .i64 b))(h:b≠0):Ev P n ⟨dst,.binOp .quo t x y t',ty,pos,after,guard⟩ fr L (.int .i64 (w64 (Int.tdiv a b))):=Auf hx hy h
theorem Aiy{t x a}(hx:evo fr x=some (.int .i64 a)):Ev P n ⟨dst,.unOp .neg t x,ty,pos,after,guard⟩ fr L (.int .i64 (w64 (-a))):=Asy hx
theorem Ag5{src dt x k v}(hx:evo fr x=some (.int k v))(hs:(P.underlying src).isSome=true)(hd:P.underlying dt=some (.int .i64)):Ev P n ⟨dst,.convert src dt x,ty,pos,after,guard⟩ fr L (.int .i64 (w64 v)):=Ail hx hs hd
theorem Ag6{t t' x y a b}(hx:evo fr x=some (.int .u64 a))(hy:evo fr y=some (.int .u64 b)):Ev P n ⟨dst,.binOp .add t x y t',ty,pos,after,guard⟩ fr L (.int .u64 (wu64 (a+b))):=Anv hx hy
theorem Ag7{t t' x y a b}(hx:evo fr x=some (.int .u64 a))(hy:evo fr y=some (.int .u64 b)):Ev P n ⟨dst,.binOp .sub t x y t',ty,pos,after,guard⟩ fr L (.int .u64 (wu64 (a-b))):=Anw hx hy
theorem Ag8{t t' x y a b}(hx:evo fr x=some (.int .u64 a))(hy:evo fr y=some (.int .u64 b)):Ev P n ⟨dst,.binOp .mul t x y t',ty,pos,after,guard⟩ fr L (.int .u64 (wu64 (a*b))):=Anx hx hy
theorem Aof{t t' x y a b}(hx:evo fr x=some (.int .u64 a))(hy:evo fr y=some (.int .u64 b))(h:b≠0):Ev P n ⟨dst,.binOp .quo t x y t',ty,pos,after,guard⟩ fr L (.int .u64 (wu64 (Int.tdiv a b))):=Auf hx hy h
theorem Aog{t x a}(hx:evo fr x=some (.int .u64 a)):Ev P n ⟨dst,.unOp .neg t x,ty,pos,after,guard⟩ fr L (.int .u64 (wu64 (-a))):=Asy hx
theorem Abk{src dt x k v}(hx:evo fr x=some (.int k v))(hs:(P.underlying src).isSome=true)(hd:P.underlying dt=some (.int .u64)):Ev P n ⟨dst,.convert src dt x,ty,pos,after,guard⟩ fr L (.int .u64 (wu64 v)):=Ail hx hs hd
theorem Ag9{t t' x y a b}(hx:evo fr x=some (.int .u32 a))(hy:evo fr y=some (.int .u32 b)):Ev P n ⟨dst,.binOp .add t x y t',ty,pos,after,guard⟩ fr L (.int .u32 (wu32 (a+b))):=Anv hx hy
theorem Aha{t t' x y a b}(hx:evo fr x=some (.int .u32 a))(hy:evo fr y=some (.int .u32 b)):Ev P n ⟨dst,.binOp .sub t x y t',ty,pos,after,guard⟩ fr L (.int .u32 (wu32 (a-b))):=Anw hx hy
theorem Ahb{t t' x y a b}(hx:evo fr x=some (.int .u32 a))(hy:evo fr y=some (.int .u32 b)):Ev P n ⟨dst,.binOp .mul t x y t',ty,pos,after,guard⟩ fr L (.int .u32 (wu32 (a*b))):=Anx hx hy
theorem Amo{src dt x k v}(hx:evo fr x=some (.int k v))(hs:(P.underlying src).isSome=true)(hd:P.underlying dt=some (.int .u32)):Ev P n ⟨dst,.convert src dt x,ty,pos,after,guard⟩ fr L (.int .u32 (wu32 v)):=Ail hx hs hd
theorem Aoh{src dt x k v}(hx:evo fr x=some (.int k v))(hs:(P.underlying src).isSome=true)(hd:P.underlying dt=some (.int .u8)):Ev P n ⟨dst,.convert src dt x,ty,pos,after,guard⟩ fr L (.int .u8 (wu8 v)):=Ail hx hs hd
end
def cpy{α:Type}(l:List α)(p:Nat)(ys:List α):List α:=l.take p++ys.take (l.length-p)++l.drop (p+ys.length)
theorem Amp{α:Type}{l:List α}{p:Nat}{ys:List α}(h:p<=l.length):(cpy l p ys).length=l.length:=by
 simp only[cpy,List.length_append,List.length_take,List.length_drop];omega
theorem Axn{α:Type}{enc:α->LV}{sz:Nat}(hz:0<sz)(he:∀x,(enc x).length=sz)(l:List α)(j:Nat)(u:Value)(hj:(l.flatMap enc)[j]? = some u):∃h:j/sz<l.length,(enc l[j/sz])[j%sz]? = some u:=by
 have hjl:j<(l.flatMap enc).length:=(List.getElem?_eq_some_iff.1 hj).1;rw[Nw he l] at hjl;have hdm:j=j/sz*sz+j%sz:=by have:=Nat.div_add_mod j sz;rw[Nat.mul_comm] at this;omega
 have hq:j/sz<l.length:=(Nat.div_lt_iff_lt_mul hz).2 hjl;have hmod:=Nat.mod_lt j hz;refine⟨hq,?_⟩;obtain⟨u',hu'⟩:∃u',(enc l[j/sz])[j%sz]? = some u':=⟨_,gE (by rw[he l[j/sz]];exact hmod)⟩;have hf:=Abi l (j/sz) hq (fun x _=>he x) (j%sz) u' hu';rw[<-hdm,hj] at hf;injection hf with hf
 subst hf;exact hu'
section
variable {P:Program}{n:Nat}{N:AW}{Q:Exit->AW}{fr:lF}{L:LE}
theorem Acg{α:Type}{enc:α->LV}{sz:Nat}{z:Array Value}(x0:α)(hz:0<sz)(he:∀x,(enc x).length=sz)(h0:enc x0=z.toList)(m:Nat):madeCells z (m*sz)=((List.replicate m x0).flatMap enc).toArray:=by
 have hzs:z.size=sz:=by rw[<-he x0,h0];simp
 apply Array.ext
 .rw[size_madeCells];simp only[List.size_toArray];rw[Nw he,List.length_replicate]
 .intro i h1 h2;have h2':i<((List.replicate m x0).flatMap enc).length:=by simpa using h2
  obtain⟨v,hv⟩:∃v,((List.replicate m x0).flatMap enc)[i]? = some v:=⟨_,gE h2'⟩;obtain⟨hq,hu⟩:=Axn hz he _ i _ hv;have hx:(List.replicate m x0)[i/sz]=x0:=List.getElem_replicate _;rw[hx,h0] at hu;have hmod:i%sz<z.size:=by rw[hzs];exact Nat.mod_lt _ hz
  rw[Array.getElem?_toList,Array.getElem?_eq_getElem hmod] at hu;injection hu with hu
  have hv':((List.replicate m x0).flatMap enc).toArray[i]=v:=by
   rw[List.getElem_toArray];exact (List.getElem?_eq_some_iff.1 hv).2
  rw[hv',<-hu];simp only[madeCells,Array.getElem_map,Array.getElem_range,hzs];exact getElem!_pos z (i%sz) hmod
theorem Axo{α:Type}(enc:α->List Value)(x0:α){d:Nat}{t e x y k1 k2 i1 i2 i z sz}{ty:TypeId}{pos:String}{after:Array Edge}{guard:Option (Nat × Bool)}(hx:evo fr x=some (.int k1 i1))(hy:evo fr y=some (.int k2 i2))(h12:i1=i2)(hp:0<=i1)(ht:P.underlying t=some (.slice e))(hi:P.info? e=some i)(hz:i.zero=some z)(hzc:enc x0=z.cells.toList)(hs:i.size=sz)(hsz:0<sz)(he:∀ x,(enc x).length=sz)(hb:i.bytes*i1.toNat<=140737488355328)(hb0:0<i.bytes)(hd:Nat.blt d n=true)(k:∀ A,T n N ((d,.slice A (List.replicate i1.toNat x0).length (List.replicate i1.toNat x0).length)::fr) (.r A (List.replicate i1.toNat x0).length (List.replicate i1.toNat x0).length e sz ((List.replicate i1.toNat x0).flatMap enc)::L)):
  Wx P Q n ⟨some d,.makeSlice t x y,ty,pos,after,guard⟩ fr L N:=by
 subst h12;have h2:=Nat.mul_le_mul_right i1.toNat hb0;rw[Nat.succ_mul,Nat.zero_mul,Nat.zero_add] at h2;have hb':(i.bytes:Int)*i1<=281474976710656:=by
  have h:((i.bytes*i1.toNat:Nat):Int)<=281474976710656:=oo;rw[Int.natCast_mul,Int.toNat_of_nonneg oo] at h;exact h
 refine Bds (by rw[Nw he]) (by rw[List.length_replicate];unfold maxLen;omega) (fun a w ha _=>?_) hd k;have hr:=run_make (P:=P) w t e i z ht hi hz k1 k2 i1 i1 hp (Int.le_refl _) hb' oo;rw[hs,Acg x0 hsz he hzc] at hr;rw[List.length_replicate];simp[execOp,ha.eval hx,ha.eval hy,hr]
end
theorem Si{j:Nat}(h:j<=9223372036854775807):w64 (j:Int)=(j:Int):=Aq oo oo
theorem As{j:Nat}(h:j<9223372036854775807):w64 ((j:Int)+1)=((j+1:Nat):Int):=by rw[Aq oo oo];omega
theorem Ac{α ρ:Type}{x:α}{k:α->Option ρ}:bnd (some x) k=k x:=rfl
theorem gd_t{ρ:Type}{p:Prop}[Decidable p]{k:Option ρ}(h:p):gd p k=k:=by unfold gd;rw[iP h]
theorem jn_d{τ ρ:Type}{k:τ->Option ρ}{x:(τ->Option ρ)->Option ρ}:jn k x=x k:=rfl
theorem Uf{α β γ:Type}(l:List α)(p:α->Bool)(B:Int->Option (Sum Int (Sum β γ)))(u:β)(v:γ)(h1:∀ (j:Nat) (h:j<l.length),B j=if p l[j]=true then some (.inl ((j+1:Nat):Int)) else some (.inr (.inr v)))(h2:B l.length=some (.inr (.inl u))):
  lfix B 0=some (if l.all p=true then .inl u else .inr v):=by
 have key:∀(m k:Nat),k<=l.length->l.length-k=m->lfix B k=some (if (l.drop k).all p=true then .inl u else .inr v):=by
  intro m
  induction m with
  |zero=>
   intro k hk hm;obtain rfl:k=l.length:=oo;rw[Ay,h2];simp
  |succ m ih=>
   intro k hk hm;have hlt:k<l.length:=oo;rw[Ay,h1 k hlt,List.drop_eq_getElem_cons hlt,List.all_cons]
   by_cases hp:p l[k]=true
   .rw[iP hp,hp,Bool.true_and];exact ih (k+1) oo oo
   .rw[iN hp];simp[hp]
 exact key l.length 0 (Nat.zero_le _) rfl
theorem Xe(x:Int):wu64 x=x%18446744073709551616:=by unfold wu64;rw[IntKind.wrap_u64]
theorem Re{j:Nat}(h:j<=18446744073709551615):wu64 (j:Int)=(j:Int):=by rw[Xe];omega
theorem SubE.appC{K E L:LE}(h:SubE K L)(h':SubE E L):SubE (K++E) L:=⟨fun w hw x hx=>by
 rcases List.mem_append.1 hx with hx|hx
 .exact h.ok w hw _ hx
 .exact h'.ok w hw _ hx⟩
def CtK(P:Program)(f:FuncId)(vs:LV)(K Lp:LE)(R:Value->LE->Prop):Prop :=
 Xx P f/\∀Lf w,SubE K Lf->Heap (Lp++Lf) w->Calls P f vs.toArray w fun e w'=>∃v Ln,e=.returned v/\R v Ln/\Heap (Ln++Lf) w'
section
variable {P:Program}{n:Nat}{N:AW}{Q:Exit->AW}{fr:lF}{L:LE}
theorem CtK.mk{f:FuncId}{fn:Func}{c:Code}{vs:LV}{K Lp:LE}{R:Value->LE->Prop}(m:Nat)(hf:P.funcs[f]? = some fn)(hb:fn.body=some c)(hm:fn.ntmps=m)(hn:(fn.name == "runtime.NumGoroutine")=false)(hl:Nat.ble vs.length m=true)(k:∀Lf,SubE K Lf->T m (c.wp P (bodyPost P fn fun e w'=>∃v Ln,e=.returned v/\R v Ln/\Heap (Ln++Lf) w')) (Aaq vs 0) (Lp++Lf)):CtK P f vs K Lp R:=by
 refine⟨⟨fn,hf,hn,by rw[hb];rfl⟩,fun Lf w hK hw=>calls_of_wp hf hb ?_⟩;rw[hm];exact k Lf hK _ w (An0 vs m (Nat.le_of_ble_eq_true hl)) hw
theorem Axp{d:Nat}{pos:String}{after:AE}{guard:ON}{f:FuncId}{xs:List Operand}{vs:LV}{ts:Array TypeId}{ty':TypeId}{K Lp Lf:LE}{R:Value->LE->Prop}(hx:evos fr xs=some vs)(hp:Hh L (Lp++Lf))(hsub:SubE K Lf)(hc:CtK P f vs K Lp R)(hd:Nat.blt d n=true)(k:∀v Ln,R v Ln->T n N ((d,v)::fr) (Ln++Lf)):Wh P Q n ⟨some d,.call ⟨.value (.func f),xs.toArray,ts⟩,ty',pos,after,guard⟩ fr L N:=by
 intro a w ha hw;simp only[Oper.wp,Ac0 hc.1 ha hx,Oper.upon_enter];refine (hc.2 Lf w hsub (hw.pick hp)).mono ?_;rintro e w' ⟨v,Ln,rfl,hR,hh⟩;exact k v Ln hR _ _ (ha.put hd) hh
theorem Bey{fn:Func}{R:Value->List Ent->Prop}{Lf:List Ent}{rs vs}{Ln:List Ent}(hr:fn.results=rs.toArray)(h:Res P fr L rs vs)(hR:R (Vh vs) Ln)(hs:Hh L (Ln++Lf)):
  T n (bodyPost P fn (fun e w'=>∃v Ln,e=.returned v/\R v Ln/\Heap (Ln++Lf) w') .ret) fr L :=
 Aui hr h fun _ hw=>⟨_,Ln,rfl,hR,hw.pick hs⟩
theorem Axq{fn:Func}{R:Value->List Ent->Prop}{Lf:List Ent}{rs vs}{Ln:List Ent}(hr:fn.results=rs.toArray)(h:Res P fr L rs vs)(hR:R (Vh vs) Ln)(hs:Hh L (Ln++Lf)):
  T n (bodyPost P fn (fun e w'=>∃v Ln,e=.returned v/\R v Ln/\Heap (Ln++Lf) w') .normal) fr L :=
 Bho hr h fun _ hw=>⟨_,Ln,rfl,hR,hw.pick hs⟩
theorem Ahc{x a}{dst:Option Tmp}{ty:TypeId}{pos:String}{after:AE}{guard:ON}(hx:evo fr x=some (.pointer (some a))):Ev P n ⟨dst,.nilCheck x,ty,pos,after,guard⟩ fr L (.pointer (some a)):=fun ac w ha _=>by
 simp[execOp,ha.eval hx]
end
def Ent.blks:Ent->LM
 |.old _=>[]
 |.m g _ _=>[g]
 |.r (some a) _ _ _ _ _=>[a.block]
 |.r none _ _ _ _ _=>[]
 |.f S _=>S
theorem Ent.own_blks{e:Ent}{g:Nat}:e.own g↔g∈e.blks:=by
 cases e with
 |old w=>simp[Ent.own,Ent.blks]
 |m g' t cs=>simp[Ent.own,Ent.blks,eq_comm]
 |r A n c t sz xs=>cases A <;> simp[Ent.own,Ent.blks,eq_comm]
 |f S φ=>simp[Ent.own,Ent.blks]
def bun(es:LE):Ent:=.f (es.flatMap Ent.blks) (fun w=>∀e∈es,Ent.ok w e)
theorem Ent.ok_blks{e:Ent}(hl:e.low=0){w w':World}(h:Ent.ok w e)(hb:∀g∈e.blks,w'.heap[g]? = w.heap[g]?):Ent.ok w' e:=by
 have hsz:∀g,g<w.heap.size->g∈e.blks->g<w'.heap.size:=fun g hg hm=>by
  have h1:=hb g hm;rw[Array.getElem?_eq_getElem hg] at h1;exact Dq h1
 cases e with
 |old w0=>simp[Ent.low] at hl
 |m g t cs=>exact (hb g (by simp[Ent.blks])).trans h
 |r A n c t sz xs=>
  obtain⟨h1,h2⟩:=h;refine⟨h1,?_⟩;rcases h2 with h2|⟨g,cap,cur,hv,hb',hh,rest⟩
  .exact .inl h2
  .refine .inr ⟨g,cap,cur,hv,hb',?_,rest⟩;refine (hb g ?_).trans hh;rw[<-Ent.own_blks,Ent.own_r,hv];rfl
 |f S φ=>
  obtain⟨h1,h2,h3⟩:=h;exact⟨fun g hg=>hsz g (h1 g hg) hg,h3 w w' h2 hb,h3⟩
theorem Bez{es:LE}(hl:∀e∈es,e.low=0){w:World}(h:∀e∈es,Ent.ok w e):Ent.ok w (bun es):=by
 refine⟨fun g hg=>?_,h,fun w1 w2 h1 hb e he=>Ent.ok_blks (hl e he) (h1 e he) (fun g hg=>hb g (List.mem_flatMap.2 ⟨e,he,hg⟩))⟩;obtain⟨e,he,hg⟩:=List.mem_flatMap.1 hg;exact Ent.lt (h e he) (Ent.own_blks.2 hg)
theorem As0{es:LE}{w:World}(h:Ent.ok w (bun es)):∀e∈es,Ent.ok w e:=h.2.1
theorem Aff{es L:LE}{w:World}(hl:∀e∈es,e.low=0)(h:Heap (es++L) w):Heap (bun es::L) w:=by
 have hp:=List.pairwise_append.1 h.sep;refine⟨fun e he=>?_,?_⟩
 .rcases List.mem_cons.1 he with rfl|he
  .exact Bez hl (fun e he=>h.ok e (List.mem_append_left _ he))
  .exact h.ok e (List.mem_append_right _ he)
 .rw[List.pairwise_cons];refine⟨fun x hx=>⟨fun g hg=>?_,fun g hg=>⟨Nat.zero_le _,fun hb=>?_⟩⟩,hp.2.1⟩
  .obtain⟨e,he,hg⟩:=List.mem_flatMap.1 (show g∈es.flatMap Ent.blks from hg);exact (hp.2.2 e he x hx).1 g (Ent.own_blks.2 hg)
  .obtain⟨e,he,hb⟩:=List.mem_flatMap.1 (show g∈es.flatMap Ent.blks from hb);exact ((hp.2.2 e he x hx).2 g hg).2 (Ent.own_blks.2 hb)
theorem SubE.consB{K L es:LE}{e:Ent}{i j:Nat}(h:nthE L i=some (bun es))(hj:nthE es j=some e)(h':SubE K L):SubE (e::K) L:=⟨fun w hw x hx=>by
 rcases List.mem_cons.1 hx with rfl|hx
 .exact As0 (hw _ (Gd h)) _ (Gd hj)
 .exact h'.ok w hw _ hx⟩
theorem Axr{n:Nat}{N:AW}{fr:lF}{L Lr es:LE}(hp:Hh L (es++Lr))(hl:∀e∈es,e.low=0)(k:T n N fr (bun es::Lr)):T n N fr L :=
 fun a w ha hw=>k a w ha (Aff hl (hw.pick hp))
def Axs(P:Program)(s:TypeId)(xs:LV)(f:Nat)(v:Value):Prop:=∀w,(Instr.field s (.agg xs.toArray) f).run P w=.ok v w
theorem Auy{P:Program}{n:Nat}{fr:List (Nat × Value)}{L:List Ent}{dst:Option Tmp}{ty:TypeId}{pos:String}{after:Array Edge}{guard:Option (Nat × Bool)}{s:TypeId}{x:Operand}{f:Nat}{xs:List Value}{v:Value}(hx:evo fr x=some (.agg xs.toArray))(h:Axs P s xs f v):
  Ev P n ⟨dst,.field s x f,ty,pos,after,guard⟩ fr L v:=fun a w ha _=>by
 simp[execOp,ha.eval hx,h w]
abbrev Vec(sz:Nat):Type:={v:LV // v.length=sz}
open Go.Maps (Keyed)
def Amq(P:Program)(t:TypeId)(xs:LV):Prop:=∀(j:Nat) (h:j<xs.length) (k:IntKind) (w:World),(Instr.index t (.agg xs.toArray) (.int k (j:Int))).run P w=.ok xs[j] w
theorem Auz{P:Program}{n:Nat}{fr:lF}{L:LE}{dst:Option Tmp}{ty:TypeId}{pos:String}{after:AE}{guard:ON}{t:TypeId}{x i:Operand}{kd k:IntKind}{xs:LV}{ys:LI}{z v:Int}(hx:evo fr x=some (.agg xs.toArray))(hxs:xs=ys.map (Value.int kd))(hi:evo fr i=some (.int k z))(hV:Amq P t xs)(hz:idx ys z=some v):Ev P n ⟨dst,.index t x i,ty,pos,after,guard⟩ fr L (.int kd v):=fun a w ha _=>by
 subst hxs;unfold idx at hz;split at hz
 .rename_i h0;obtain⟨hlt,he⟩:=List.getElem?_eq_some_iff.1 hz;have:=hV z.toNat (sV hlt) k w;rw[Int.toNat_of_nonneg h0] at this;simp only[execOp,ha.eval hx,ha.eval hi,this,Sem.run_bind,Result.andThen,List.getElem_map,he];rfl
 .cases hz
def RV(v:Value):Option (DataW Value×List MemPlace):=some (.held v,[])
def klOf(P:Program)(k:TypeId)(v:Value):Lit:=(keyOf P k v).getD (.bool true)
theorem Nc{P:Program}{k:TypeId}{v:Value}(h:(keyOf P k v).isSome=true):keyOf P k v=some (klOf P k v):=by
 unfold klOf;cases hk:keyOf P k v with
 |none=>rw[hk] at h;cases h
 |some l=>rfl
section
variable {κ υ:Type}
def mapD(P:Program)(k:TypeId)(ke:κ->Value)(ve:υ->Value):List (κ×υ)->DataW Value
 |[]=>.map []
 |p::r=>(mapD P k ke ve r).put (klOf P k (ke p.1)) (.held (ve p.2))
open Classical in
def mget(m:List (κ×υ))(x:κ):Option υ:=match m with
 |[]=>none
 |p::r=>if p.1=x then some p.2 else mget r x
theorem Aoi{x:κ}:mget ([]:List (κ×υ)) x=none:=rfl
open Classical in
theorem Wo{p:κ×υ}{r:List (κ×υ)}{x:κ}:mget (p::r) x=if p.1=x then some p.2 else mget r x:=rfl
def mval(ve:υ->Value)(z:Value):Option υ->Value
 |some v=>ve v
 |none=>z
variable {P:Program}{k:TypeId}{ke:κ->Value}{ve:υ->Value}{b:Nat}{m:List (κ×υ)}
theorem Aee:∀{m:List (κ×υ)},Maps.IsMap (mapD P k ke ve m)
 |[]=>⟨_,rfl⟩
 |p::r=>by
  obtain⟨es,h⟩:=Aee (m:=r);unfold mapD;rw[h];exact⟨_,rfl⟩
theorem Ak9(K:Keyed P k)(hke:∀ x y,ke x=ke y->x=y){x:κ}(hx:(keyOf P k (ke x)).isSome=true)(z:Value):
  ∀{m:List (κ×υ)},(∀p∈m,(keyOf P k (ke p.1)).isSome=true)->(mapD P k ke ve m).atKey (klOf P k (ke x)) (.held z)=.held (mval ve z (mget m x))/\Maps.has (mapD P k ke ve m) (klOf P k (ke x))=(mget m x).isSome
 |[],_=>⟨rfl,rfl⟩
 |p::r,h=>by
  have ih:=Ak9 K hke hx z (m:=r) (fun q hq=>h q (mO _ hq));have hp:=Nc (h p mS);have hxs:=Nc hx;unfold mapD
  by_cases he:p.1=x
  .rw[Wo,iP he,he];exact⟨Maps.atKey_put_same Aee (K.key hxs) _ _,Maps.has_put_same Aee (K.key hxs) _⟩
  .have hne:klOf P k (ke x)≠klOf P k (ke p.1):=fun e=>he (hke _ _ (K.inj hp (by rw[hxs,e])))
   rw[Wo,iN he,Maps.atKey_put_other hne,Maps.has_put_other hne];exact ih
section
variable {n:Nat}{fr:lF}{L:LE}{N:AW}{Q:Exit->AW}{d:Nat}{dst:Option Tmp}{ty:TypeId}{pos:String}{after:AE}{guard:ON}
theorem Afg{L:LE}{i:Nat}{e:Ent}(h:nthE L i=some e):e∈L:=by
 induction L generalizing i with
 |nil=>simp[nthE] at h
 |cons x r ih=>
  cases i with
  |zero=>simp[nthE] at h;subst h;exact mS
  |succ i=>exact mO _ (ih h)
theorem Agc{o:Option υ}{z0 u:υ}(h:some (o.getD z0)=some u):mval ve (ve z0) o=ve u:=by
 obtain rfl:=oI h;cases o <;> rfl
end
end
theorem Be0{P:Program}{k:TypeId}{q:IntKind}(hk:P.underlying k=some (.int q)){a:Int}(hw:(Lit.int q a).wf=true):(keyOf P k (.int q a)).isSome=true:=by rw[Maps.keyOf_int_mk hk hw];rfl
theorem Aiz{z:Int}(h:-9223372036854775808<=z/\z<=9223372036854775807):(Lit.int .i64 z).wf=true:=by
 have h1:IntKind.i64.min = -9223372036854775808:=rfl;have h2:IntKind.i64.max=9223372036854775807:=rfl;simp only[Lit.wf,Bool.and_eq_true,dQ];omega
theorem Ach{α β:Type}{g:α->Option β}:∀(l:List α),(∀x∈l,(g x).isSome=true)->(l.mapM g).isSome=true
 |[],_=>rfl
 |x::r,h=>by
  have h1:=h x mS;have ih:=Ach r (fun y hy=>h y (mO _ hy));rw[List.mapM_cons];cases hx:g x with
  |none=>rw[hx] at h1;cases h1
  |some y=>
   cases hr:r.mapM g with
   |none=>rw[hr] at ih;cases ih
   |some ys=>rfl
theorem Aqt{P:Program}{k:TypeId}{fs:Array Field}{cs:LV}{d:Nat}(hd:P.types.size=d+1)(hu:P.underlying k=some (.struct fs))(hk:P.keyType k=true)(hc:cs.length=P.cellsOf k)(hn:fs.all (·.name != "_")=true)(hf:∀f∈fs.toList,∃q n,P.underlying f.type=some (.int q)/\(cs.drop f.offset).take (P.cellsOf f.type)=[.int q n]/\(Lit.int q n).wf=true):(keyOf P k (.agg cs.toArray)).isSome=true:=by
 unfold keyOf;rw[hu];have hfm:(Value.agg cs.toArray).formed P k=true:=by simp[Value.formed,hu,hc]
 simp only[hk,hfm,Bool.and_self,if_true,Option.isSome_map];have hcl:(Value.agg cs.toArray).cells.toList=cs:=by simp[Value.cells]
 rw[hcl,hd];unfold Program.keyLits;simp only[hu];rw[iP ⟨hc,hn⟩,Option.isSome_map];refine Ach _ fun f hfm=>?_
 obtain⟨q,n,h1,h2,h3⟩:=hf f hfm;rw[h2];unfold Program.keyLits;simp[h1,h3]
end
end Go.Proofs.YthlkpgdfifnagaaGreat
