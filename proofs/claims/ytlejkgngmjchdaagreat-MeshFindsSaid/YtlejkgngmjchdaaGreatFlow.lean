import Derived.Test.YtlejkgngmjchdaaGreatEff
import Derived.LoopN
import Derived.Laws.IdiomCopy
import Derived.Laws.StructEq
namespace Go.Proofs.YtlejkgngmjchdaaGreat
open Go Go.RowKit
noncomputable section
section
inductive Plan where
 |done
 |q (i:Nat) (p:Plan)
 |e (i:Nat) (p alt:Plan)
 |stop
abbrev Cls:=LM
def Ig(ops:Array Oper)(cls:Cls):Plan->Array Bool->Option LM->Bool
 |.done,D,none=>(Region.ready .any ops D).isEmpty
 |.q i p,D,none=>(Region.ready .any ops D).contains i&&Nat.ble (cls.getD i 9) 1&&Ig ops cls p (D.setIfInBounds i true) none
 |.e i p alt,D,none=>
  (Region.ready .any ops D).all (fun j=>Nat.ble 2 (cls.getD j 0)&&Nat.ble (cls.getD j 9) 3)&&(Region.ready .any ops D).contains i &&
   Ig ops cls p (D.setIfInBounds i true) none&&Ig ops cls alt D (some ((Region.ready .any ops D).erase i))
 |.e i p alt,D,some l=>l.contains i&&Ig ops cls p (D.setIfInBounds i true) none&&Ig ops cls alt D (some (l.erase i))
 |.stop,_,some l=>l.isEmpty
 |_,_,_=>false
def Zc(ops:Array Oper)(o:Oper)(d:Nat):Bool:=(o.looksAt ops).contains d || o.dst==some d
def Rc(n:Nat)(f:Nat->Bool):Bool:=match n with
 |0=>true
 |n+1=>f n&&Rc n f
theorem Km{f:Nat->Bool}:∀{n},Rc n f=true->∀i,i<n->f i=true
 |0,_,i,hi=>oo
 |n+1,h,i,hi=>by
  simp only[Rc,Bool.and_eq_true] at h;rcases Nat.lt_succ_iff_lt_or_eq.1 hi with h'|rfl
  .exact Km h.2 i h'
  .exact h.1
def opAt(ops:Array Oper)(i:Nat):Oper:=ops.getD i default
def Wl(ops:Array Oper)(cls:Cls)(A:LL)(RL:LM:=[]):Bool :=
 Region.noSelect ops &&
 Rc ops.size (fun i=>(opAt ops i).after.all (fun e=>!Region.binds .any e || Nat.blt e.on i)) &&
 Rc ops.size (fun i=>(A.getD i []).all (fun j=>(opAt ops i).after.any (fun e=>Region.binds .any e&&(Nat.beq e.on j || (A.getD e.on []).contains j)))) &&
 Rc ops.size (fun j=>match (opAt ops j).dst with
  |none=>true
  |some d=>Rc ops.size (fun i=>Nat.beq i j || !Zc ops (opAt ops i) d || (A.getD i []).contains j || (Nat.ble 2 (cls.getD j 0)&&(A.getD j []).contains i))) &&
 Rc ops.size (fun j=>Nat.ble 2 (cls.getD j 0) || (match (opAt ops j).dst with
  |none=>true
  |some d=>!((opAt ops j).looksAt ops).contains d)) &&
 Rc ops.size (fun e=>!Nat.beq (cls.getD e 0) 3 || Rc ops.size (fun j=>!Nat.beq (cls.getD j 0) 1 || (A.getD e []).contains j || (A.getD j []).contains e || RL.contains j))
section
variable {P:Program}{ops:Array Oper}{Q:Exit->AW}{cls:Cls}{A:LL}{RL:LM}{R:World->Prop}
def Atj(P:Program)(ops:Array Oper)(i:Nat)(K:AW)(a:Act)(w:World):Prop :=
 ∃o,ops[i]? = some o/\((Region.wanted o (yielded ops a.tmps)=true/\∃v,(∀w',Ext w w'->(execOp a.eval o).run P w'=.ok (.value v) w')/\K (a.put o.dst v) w) \/
  (Region.wanted o (yielded ops a.tmps)=false/\K (a.put o.dst undef) w))
def Atk(P:Program)(ops:Array Oper)(i:Nat)(K:AW)(a:Act)(w:World):Prop :=
 ∃o,ops[i]? = some o/\((Region.wanted o (yielded ops a.tmps)=true/\∃v,(∀w',(execOp a.eval o).run P w'=.ok (.value v) w')/\K (a.put o.dst v) w) \/
  (Region.wanted o (yielded ops a.tmps)=false/\K (a.put o.dst undef) w))
def Az0(P:Program)(ops:Array Oper)(R:World->Prop)(i:Nat)(K:AW)(a:Act)(w:World):Prop :=
 ∃o,ops[i]? = some o/\((Region.wanted o (yielded ops a.tmps)=true/\∃v,(∀w',R w'->(execOp a.eval o).run P w'=.ok (.value v) w')/\K (a.put o.dst v) w) \/
  (Region.wanted o (yielded ops a.tmps)=false/\K (a.put o.dst undef) w))
def noQ:Exit->AW:=fun _ _ _=>False
def Afm(P:Program)(ops:Array Oper)(R:World->Prop)(hard lst:Bool)(i:Nat)(K:AW)(a:Act)(w:World):Prop :=
 ∃o,ops[i]? = some o/\((Region.wanted o (yielded ops a.tmps)=true/\o.wp P a w (fun a' w'=>(Ext w w'\/(hard=true/\(lst=true\/R w')))/\K a' w') noQ) \/
  (Region.wanted o (yielded ops a.tmps)=false/\K (a.put o.dst undef) w))
def Adh(A:LL)(RL:LM)(i:Nat):Bool:=RL.all fun j=>(A.getD i []).contains j
def Bo(P:Program)(ops:Array Oper)(Q:Exit->AW)(cls:Cls)(A:LL)(RL:LM)(R:World->Prop):Plan->AW
 |.done,a,w=>Q .normal a w
 |.q i p,a,w=>if Nat.beq (cls.getD i 9) 0 then Atk P ops i (Bo P ops Q cls A RL R p) a w else if RL.contains i then Az0 P ops R i (Bo P ops Q cls A RL R p) a w else Atj P ops i (Bo P ops Q cls A RL R p) a w
 |.e i p alt,a,w=>Afm P ops R (Nat.beq (cls.getD i 9) 3) (Adh A RL i) i (Bo P ops Q cls A RL R p) a w/\Bo P ops Q cls A RL R alt a w
 |.stop,_,_=>True
def On(D:Array Bool)(i:Nat):Prop:=D.getD i false=true
theorem Fp{D:Array Bool}{i j:Nat}(hi:i<D.size):On (D.setIfInBounds i true) j↔j=i\/On D j:=by
 unfold On;rw[Array.getD_eq_getD_getElem?,Array.getD_eq_getD_getElem?]
 by_cases h:i=j
 .subst h;simp[hi]
 .rw[Array.getElem?_setIfInBounds_ne h];have:¬j=i:=fun e=>h e.symm
  simp[this]
theorem Bs{D:Array Bool}{i:Nat}(hs:D.size=ops.size):
  i∈Region.ready .any ops D↔i<ops.size/\¬On D i/\∀e∈(opAt ops i).after,Region.binds .any e=true->On D e.on:=by
 unfold Region.ready;rw[List.mem_filter,List.mem_range];constructor
 .rintro⟨hi,h⟩;simp only[Bool.and_eq_true,Bool.not_eq_true'] at h;refine⟨hi,?_,?_⟩
  .have h1:=h.1;unfold On;rw[Array.getD_eq_getD_getElem?,Array.getElem?_eq_getElem oo] at h1⊢;simp at h1⊢;exact h1
  .have h2:=h.2;rw[Array.getElem?_eq_getElem hi] at h2;simp only[Option.map_some,Option.getD_some] at h2;intro e he hb;have ho:opAt ops i=ops[i]:=by simp[opAt,hi]
   rw[ho] at he;rw[Array.all_eq_true_iff_forall_mem] at h2;have:=h2 e he;rw[hb] at this;simpa[On] using this
 .rintro⟨hi,h1,h2⟩;refine⟨hi,?_⟩;simp only[Bool.and_eq_true,Bool.not_eq_true'];constructor
  .unfold On at h1;rw[Array.getD_eq_getD_getElem?,Array.getElem?_eq_getElem oo] at h1⊢;simp at h1⊢;exact h1
  .rw[Array.getElem?_eq_getElem hi];simp only[Option.map_some,Option.getD_some];rw[Array.all_eq_true_iff_forall_mem];intro e he;have ho:opAt ops i=ops[i]:=by simp[opAt,hi]
   cases hb:Region.binds .any e with
   |false=>rfl
   |true=>
    have:=h2 e (by rw[ho];exact he) hb;simpa[On] using this
structure Dn(ops:Array Oper)(cls:Cls)(A:LL)(RL:LM):Prop where
 sel:Region.noSelect ops=true
 back:∀i,i<ops.size->∀e∈(opAt ops i).after,Region.binds .any e=true->e.on<i
 anc:∀i,i<ops.size->∀j∈A.getD i [],∃e∈(opAt ops i).after,Region.binds .any e=true/\(e.on=j\/j∈A.getD e.on [])
 slots:∀j,j<ops.size->∀d,(opAt ops j).dst=some d->∀i,i<ops.size->i≠j->Zc ops (opAt ops i) d=true->j∈A.getD i []\/(2<=cls.getD j 0/\i∈A.getD j [])
 self:∀j,j<ops.size->cls.getD j 0<=1->∀d,(opAt ops j).dst=some d->d∉(opAt ops j).looksAt ops
 hard:∀e,e<ops.size->cls.getD e 0=3->∀j,j<ops.size->cls.getD j 0=1->j∈A.getD e []\/e∈A.getD j []\/RL.contains j=true
theorem Ad7(h:Wl ops cls A RL=true):Dn ops cls A RL:=by
 simp only[Wl,Bool.and_eq_true] at h;obtain⟨⟨⟨⟨⟨h1,h2⟩,h3⟩,h4⟩,h6⟩,h5⟩:=h;refine⟨h1,fun i hi e he hb=>?_,fun i hi j hj=>?_,fun j hj d hd i hi hne hn=>?_,fun j hj hc d hd hm=>?_,fun e he hc j hj hcj=>?_⟩
 .have:=Km h2 i hi;rw[Array.all_eq_true_iff_forall_mem] at this;have:=this e he;rw[hb] at this;simpa using this
 .have:=Km h3 i hi;rw[List.all_eq_true] at this;have:=this j hj;rw[<-Array.any_toList,List.any_eq_true] at this;obtain⟨e,he,hh⟩:=this;simp only[Bool.and_eq_true,Bool.or_eq_true,List.contains_iff_mem] at hh;exact⟨e,sV he,hh.1,hh.2.imp Nat.eq_of_beq_eq_true id⟩
 .have:=Km h4 j hj;simp only[hd] at this;have:=Km this i hi;simp only[Bool.or_eq_true,Bool.and_eq_true,List.contains_iff_mem,Bool.not_eq_true',hn,Nat.ble_eq] at this;rcases this with ((h|h)|h)|h
  .exact absurd (Nat.eq_of_beq_eq_true h) hne
  .cases h
  .exact .inl h
  .exact .inr h
 .have:=Km h6 j hj;simp only[hd,Bool.or_eq_true,Nat.ble_eq,Bool.not_eq_true'] at this;rcases this with h|h
  .omega
  .rw[List.contains_iff_mem.2 hm] at h;cases h
 .have:=Km h5 e he;simp only[Bool.or_eq_true,Bool.not_eq_true',hc] at this;rcases this with h|h
  .cases h
  .have:=Km h j hj;simp only[Bool.or_eq_true,Bool.not_eq_true',hcj] at this;rcases this with ((h|h)|h)|h
   .cases h
   .exact .inl (List.contains_iff_mem.1 h)
   .exact .inr (.inl (List.contains_iff_mem.1 h))
   .exact .inr (.inr h)
def Adi(ops:Array Oper)(D:Array Bool):Prop:=∀i,i<ops.size->On D i->∀e∈(opAt ops i).after,Region.binds .any e=true->On D e.on
theorem Afn(F:Dn ops cls A RL){D:Array Bool}(hc:Adi ops D):∀i,i<ops.size->(∀e∈(opAt ops i).after,Region.binds .any e=true->On D e.on)->∀j∈A.getD i [],On D j:=by
 intro i
 induction i using Nat.strongRecOn with
 |_ i ih=>
  intro hi hdep j hj;obtain⟨e,he,hb,h⟩:=F.anc i hi j hj;have hlt:=F.back i hi e he hb;have hon:=hdep e he hb;rcases h with rfl|h
  .exact hon
  .exact ih e.on hlt oo (fun e' he' hb'=>hc e.on oo hon e' he' hb') j h
theorem Akw(F:Dn ops cls A RL){D:Array Bool}(hc:Adi ops D){i:Nat}(hi:i<ops.size)(h:On D i):∀j∈A.getD i [],On D j:=Afn F hc i hi (hc i hi h)
theorem Xt{D:Array Bool}(hc:Adi ops D)(hs:D.size=ops.size){i:Nat}(hr:i∈Region.ready .any ops D):Adi ops (D.setIfInBounds i true):=by
 have hr':=(Bs hs).1 hr;intro k hk hon e he hb;have hi:i<D.size:=oo;rw[Fp hi] at hon⊢;rcases hon with rfl|hon
 .exact .inr (hr'.2.2 e he hb)
 .exact .inr (hc k hk hon e he hb)
def Ad8(c:Nat)(r:Bool)(R:World->Prop)(w w':World):Prop:=c=0\/(r=true/\R w')\/(r=false/\Ext w w')
theorem Ad8.refl{c:Nat}{r:Bool}{R:World->Prop}{w:World}(h:r=true->R w):Ad8 c r R w w:=by
 cases r
 .exact .inr (.inr ⟨rfl,Ext.refl w⟩)
 .exact .inr (.inl ⟨rfl,h rfl⟩)
def Pend(P:Program)(ops:Array Oper)(c:Nat)(r:Bool)(R:World->Prop)(j:Nat)(ac:Act)(w:World):Prop :=
 (Region.wanted (opAt ops j) (yielded ops ac.tmps)=true/\∃v,(∀w',Ad8 c r R w w'->(execOp ac.eval (opAt ops j)).run P w'=.ok (.value v) w')/\(∀d,(opAt ops j).dst=some d->d<ac.tmps.size->ac.tmps[d]? = some v)) \/
 (Region.wanted (opAt ops j) (yielded ops ac.tmps)=false/\(∀d,(opAt ops j).dst=some d->d<ac.tmps.size->ac.tmps[d]? = some undef))
structure Sim(P:Program)(ops:Array Oper)(cls:Cls)(RL:LM)(R:World->Prop)(D Dc:Array Bool)(a ac:Act)(w:World):Prop where
 inR:(∀j,RL.contains j=true->On D j)\/R w
 extR:∀w w',R w->Ext w w'->R w'
 sD:D.size=ops.size
 sDc:Dc.size=ops.size
 cD:Adi ops D
 cDc:Adi ops Dc
 sub:∀i,On D i->On Dc i
 cl:∀i,On Dc i->¬On D i->cls.getD i 9<=1
 size:a.tmps.size=ac.tmps.size
 nod:a.defers=ac.defers
 agree:∀t,(∀i,i<ops.size->On Dc i->¬On D i->(opAt ops i).dst≠some t)->a.tmps[t]? = ac.tmps[t]?
 pend:∀j,j<ops.size->On Dc j->¬On D j->Pend P ops (cls.getD j 9) (RL.contains j) R j ac w
theorem Ai3{o:Oper}{t t':Array Value}(h:∀g want s,o.guard=some (g,want)->(ops[g]?).bind (·.dst)=some s->t[s]? = t'[s]?):Region.wanted o (yielded ops t)=Region.wanted o (yielded ops t'):=by
 unfold Region.wanted;cases hg:o.guard with
 |none=>rfl
 |some p=>
  obtain⟨g,want⟩:=p;have:yielded ops t g=yielded ops t' g:=by
   unfold yielded;cases hd:(ops[g]?).bind (·.dst) with
   |none=>rfl
   |some s=>simp only[Option.bind_some];rw[h g want s hg hd]
  simp only[this]
theorem Akx{o:Oper}{g want s}(h1:o.guard=some (g,want))(h2:(ops[g]?).bind (·.dst)=some s):s∈o.looksAt ops:=by
 unfold Oper.looksAt;rw[h1,List.mem_append];right;simp only[h2];simp
theorem Atl{o:Oper}{t}(h:Operand.tmp t∈o.op.operands):t∈o.looksAt ops:=by
 unfold Oper.looksAt;rw[List.mem_append];left;rw[List.mem_filterMap];exact⟨.tmp t,sV h,rfl⟩
theorem Uu(hs:Region.noSelect ops=true){j:Nat}{o:Oper}(ho:ops[j]? = some o){a a':Act}(h:∀ t∈o.looksAt ops,a.tmps[t]? = a'.tmps[t]?):
  execOp a.eval o=execOp a'.eval o/\Region.wanted o (yielded ops a.tmps)=Region.wanted o (yielded ops a'.tmps):=by
 refine⟨execOp_congr o (fun cs b=>Region.noSelect_spec hs j o cs b ho) fun x hx=>?_,Ai3 fun g want s h1 h2=>h s (Akx h1 h2)⟩;cases x with
 |tmp t=>
  have:=h t (Atl hx);simp only[Act.eval,Array.getD_eq_getD_getElem?,this]
 |_=>rfl
theorem Hl{a:Act}{d:Option Tmp}{v:Value}{t:Nat}(h:d≠some t):(a.put d v).tmps[t]? = a.tmps[t]?:=by
 cases d with
 |none=>rfl
 |some d=>
  have:d≠t:=fun e=>h (by rw[e])
  simp[Act.put,Array.getElem?_setIfInBounds_ne this]
theorem Sp{a:Act}{d:Nat}{v:Value}(h:d<a.tmps.size):(a.put (some d) v).tmps[d]? = some v:=by
 simp[Act.put,h]
theorem Gz{a:Act}{d:Option Tmp}{v:Value}:(a.put d v).tmps.size=a.tmps.size:=by cases d <;> simp[Act.put]
theorem Nf{a:Act}{d:Option Tmp}{v:Value}:(a.put d v).defers=a.defers:=by cases d <;> simp[Act.put]
theorem Tl{o:Oper}{t}(h:t∈o.looksAt ops):Zc ops o t=true:=by
 unfold Zc;have:(o.looksAt ops).contains t=true:=by rw[List.contains_iff_mem];exact h
 rw[this];rfl
theorem Ws{o:Oper}{t}(h:o.dst=some t):Zc ops o t=true:=by simp[Zc,h]
theorem Vy{i:Nat}{o:Oper}(h:ops[i]? = some o):opAt ops i=o:=by
 simp[opAt,h]
theorem Vz{i:Nat}(h:i<ops.size):ops[i]? = some (opAt ops i):=by
 simp[opAt,h]
theorem Pend.turn(F:Dn ops cls A RL){j:Nat}(hj:j<ops.size){c:Nat}{r:Bool}{ac ac':Act}{w w':World}(hz:ac'.tmps.size=ac.tmps.size)(h:Pend P ops c r R j ac w)(hl:∀t∈(opAt ops j).looksAt ops,ac.tmps[t]? = ac'.tmps[t]?)(hd:∀d,(opAt ops j).dst=some d->ac.tmps[d]? = ac'.tmps[d]?)(hw:c=0\/r=true\/Ext w w'):Pend P ops c r R j ac' w':=by
 obtain⟨h1,h2⟩:=Uu F.sel (Vz hj) hl;rcases h with⟨hwn,v,hv,hs⟩|⟨hwn,hs⟩
 .refine .inl ⟨by rw[<-h2];exact hwn,v,fun w'' hw''=>?_,fun d hdd hlt=>by rw[<-hd d hdd];exact hs d hdd (by rw[<-hz];exact hlt)⟩;rw[<-h1];refine hv w'' ?_;rcases hw with hw|hw|hw
  .exact .inl hw
  .rcases hw'' with h0|h0|⟨h0,_⟩
   .exact .inl h0
   .exact .inr (.inl h0)
   .rw[hw] at h0;cases h0
  .rcases hw'' with h0|h0|⟨h0,h1⟩
   .exact .inl h0
   .exact .inr (.inl h0)
   .exact .inr (.inr ⟨h0,hw.trans h1⟩)
 .exact .inr ⟨by rw[<-h2];exact hwn,fun d hdd hlt=>by rw[<-hd d hdd];exact hs d hdd (by rw[<-hz];exact hlt)⟩
theorem Sim.ahead(F:Dn ops cls A RL){D Dc:Array Bool}{a ac:Act}{w:World}(S:Sim P ops cls RL R D Dc a ac w){i:Nat}(hr:i∈Region.ready .any ops Dc)(hc:cls.getD i 9<=1){v:Value}(hv:(Region.wanted (opAt ops i) (yielded ops ac.tmps)=true/\(∀ w',Ad8 (cls.getD i 9) (RL.contains i) R w w'->(execOp ac.eval (opAt ops i)).run P w' = .ok (.value v) w'))\/(Region.wanted (opAt ops i) (yielded ops ac.tmps)=false/\v=undef)):
  Sim P ops cls RL R D (Dc.setIfInBounds i true) a (ac.put (opAt ops i).dst v) w:=by
 obtain⟨hi,hn,hdep⟩:=(Bs S.sDc).1 hr;have hiD:i<Dc.size:=by rw[S.sDc];exact hi
 have hnD:¬On D i:=fun h=>hn (S.sub i h)
 have c0:cls.getD i 0<=1:=by
  rw[List.getD_eq_getElem?_getD] at hc⊢;cases h:cls[i]? with
  |none=>simp
  |some x=>rw[h] at hc;simpa using hc
 have far:∀j,j<ops.size->j≠i->On Dc j->∀d,(opAt ops i).dst=some d->Zc ops (opAt ops j) d=false:=by
  intro j hj hne hon d hd;cases hnm:Zc ops (opAt ops j) d with
  |false=>rfl
  |true=>
   rcases F.slots i hi d hd j hj hne hnm with h|h
   .exact absurd (Akw F S.cDc hj hon i h) hn
   .omega
 refine⟨S.inR,S.extR,S.sD,by simp[S.sDc],S.cD,Xt S.cDc S.sDc hr,fun j hj=>(Fp hiD).2 (.inr (S.sub j hj)),fun j hj hnj=>?_,by rw[Gz];exact S.size,by rw[Nf];exact S.nod,fun t ht=>?_,fun j hj hon hnj=>?_⟩
 .rcases (Fp hiD).1 hj with rfl|h
  .exact hc
  .exact S.cl j h hnj
 .have h1:(opAt ops i).dst≠some t:=ht i hi ((Fp hiD).2 (.inl rfl)) hnD;rw[Hl h1];exact S.agree t fun j hj hon hnj=>ht j hj ((Fp hiD).2 (.inr hon)) hnj
 .by_cases hji:j=i
  ·subst hji;have hl:∀ t∈(opAt ops j).looksAt ops,ac.tmps[t]? = (ac.put (opAt ops j).dst v).tmps[t]?:=by
    intro t ht
    by_cases hd:(opAt ops j).dst=some t
    .exact absurd ht (F.self j hj c0 t hd)
    .rw[Hl hd]
   obtain⟨h1,h2⟩:=Uu F.sel (Vz hj) hl;rcases hv with⟨hwn,hv⟩|⟨hwn,rfl⟩
   .exact .inl ⟨by rw[<-h2];exact hwn,v,fun w' hw'=>by rw[<-h1];exact hv w' hw',fun d hd hlt=>by rw[hd];rw[Gz] at hlt;exact Sp hlt⟩
   .exact .inr ⟨by rw[<-h2];exact hwn,fun d hd hlt=>by rw[hd];rw[Gz] at hlt;exact Sp hlt⟩
  ·have hon':On Dc j:=by
    rcases (Fp hiD).1 hon with h|h
    .exact absurd h hji
    .exact h
   refine Pend.turn F hj Gz (S.pend j hj hon' hnj) (fun t ht=>?_) (fun d hd=>?_) (.inr (.inr (Ext.refl w)))
   .rw[Hl];intro h;have:=far j hj hji hon' t h;rw[Tl ht] at this;cases this
   .rw[Hl];intro h;have:=far j hj hji hon' d h;rw[Ws hd] at this;cases this
theorem c90{i:Nat}(h:cls.getD i 9<=1):cls.getD i 0=cls.getD i 9:=by
 rw[List.getD_eq_getElem?_getD] at h⊢;rw[List.getD_eq_getElem?_getD];cases hc:cls[i]? with
 |none=>rw[hc] at h;simp at h
 |some x=>rfl
theorem Sim.late{D Dc:Array Bool}{a ac:Act}{w:World}(S:Sim P ops cls RL R D Dc a ac w)(F:Dn ops cls A RL){i:Nat}(hr:i∈Region.ready .any ops D)(hon:On Dc i):
  (∀t∈(opAt ops i).looksAt ops,a.tmps[t]? = ac.tmps[t]?)/\∃v,((Region.wanted (opAt ops i) (yielded ops ac.tmps)=true/\(execOp ac.eval (opAt ops i)).run P w=.ok (.value v) w)\/(Region.wanted (opAt ops i) (yielded ops ac.tmps)=false/\v=undef)) /\
   Sim P ops cls RL R (D.setIfInBounds i true) Dc (a.put (opAt ops i).dst v) ac w:=by
 obtain⟨hi,hn,hdep⟩:=(Bs S.sD).1 hr;have hiD:i<D.size:=by rw[S.sD];exact hi
 have hcl:=S.cl i hon hn;have hl:∀t∈(opAt ops i).looksAt ops,a.tmps[t]? = ac.tmps[t]?:=by
  intro t ht;refine S.agree t fun j hj honj hnj hd=>?_
  by_cases hji:j=i
  .subst hji;exact F.self j hj (by rw[c90 hcl];exact hcl) t hd ht
  .rcases F.slots j hj t hd i hi (fun h=>hji h.symm) (Tl ht) with h|⟨h,_⟩
   .exact hnj (Afn F S.cD i hi hdep j h)
   .have:=S.cl j honj hnj;rw[c90 this] at h;omega
 have next:∀v,(∀d,(opAt ops i).dst=some d->d<ac.tmps.size->ac.tmps[d]? = some v)->Sim P ops cls RL R (D.setIfInBounds i true) Dc (a.put (opAt ops i).dst v) ac w:=by
  intro v hv;refine⟨S.inR.imp (fun h j hj=>(Fp hiD).2 (.inr (h j hj))) id,S.extR,by simp[S.sD],S.sDc,Xt S.cD S.sD hr,S.cDc,fun j hj=>?_,fun j hj hnj=>S.cl j hj (fun h=>hnj ((Fp hiD).2 (.inr h))),by rw[Gz];exact S.size,by rw[Nf];exact S.nod,fun t ht=>?_,fun j hj honj hnj=>S.pend j hj honj (fun h=>hnj ((Fp hiD).2 (.inr h)))⟩
  .rcases (Fp hiD).1 hj with rfl|h
   .exact hon
   .exact S.sub j h
  .by_cases hd:(opAt ops i).dst=some t
   .rw[hd]
    by_cases hlt:t<ac.tmps.size
    .rw[Sp (by rw[S.size];exact hlt),hv t hd hlt]
    .rw[Array.getElem?_eq_none (by rw[Gz,S.size];exact Nat.le_of_not_lt hlt),Array.getElem?_eq_none (Nat.le_of_not_lt hlt)]
   .rw[Hl hd];refine S.agree t fun j hj honj hnj=>?_
    by_cases hji:j=i
    .subst hji;exact hd
    ·exact ht j hj honj (fun h=>by
      rcases (Fp hiD).1 h with h|h
      .exact hji h
      .exact hnj h)
 rcases S.pend i hi hon hn with⟨hwn,v,hv,hs⟩|⟨hwn,hs⟩
 .exact⟨hl,v,.inl ⟨hwn,hv w (Ad8.refl fun hc=>S.inR.resolve_left fun h=>hn (h i hc))⟩,next v hs⟩
 .exact⟨hl,undef,.inr ⟨hwn,rfl⟩,next undef hs⟩
theorem Sim.catchUp{D Dc:Array Bool}{a ac:Act}{w:World}(S:Sim P ops cls RL R D Dc a ac w)(F:Dn ops cls A RL){i:Nat}(hr:i∈Region.ready .any ops D)(hon:On Dc i){K:AW}(k:∀a',Sim P ops cls RL R (D.setIfInBounds i true) Dc a' ac w->K a' w):wpOp P ops Q i K a w:=by
 obtain⟨hi,hn,hdep⟩:=(Bs S.sD).1 hr;obtain⟨hl,v,hv,hS⟩:=S.late F hr hon;obtain⟨h1,h2⟩:=Uu F.sel (Vz hi) hl;unfold wpOp;rw[Vz hi];dsimp only;rcases hv with⟨hwn,hv⟩|⟨hwn,rfl⟩
 .rw[iP (by rw[h2];exact hwn)];left;simp only[Oper.wp,h1,hv,Oper.upon_value];exact k _ hS
 .rw[iN (by rw[h2,hwn];simp)];exact k _ hS
theorem Ah1{o:Oper}{a ac:Act}{N N':AW}{r:Result Next}(hd:a.defers=ac.defers)(h:∀ds v w',N ({ac with defers:=ds}.put o.dst v) w'->N' ({a with defers:=ds}.put o.dst v) w')(hh:o.upon P ac N noQ r):o.upon P a N' Q r:=by
 have hac:∀v w',N (ac.put o.dst v) w'->N' (a.put o.dst v) w':=fun v w' hn=>by
  have:=h ac.defers v w' hn;rw[<-hd] at this;exact this
 cases r with
 |ok n w'=>
  cases n <;> simp only[Oper.upon] at hh⊢
  .exact hac _ _ hh
  .exact hac _ _ hh
  .refine Calls.mono hh fun e w'' he=>?_
   cases e with
   |returned v=>exact hac _ _ he
   |panicked ch=>exact he.elim
   |outgrown=>obtain⟨_,_,hq⟩:=he;exact hq.elim
  .rename_i dd;rw[hd];exact h _ _ _ hh
  .exact Rows.mono hh fun v w'' he=>hac _ _ he
 |halt x w'=>cases x <;> simp only[Oper.upon] at hh⊢ <;> exact hh.elim
theorem Sim.step{D Dc:Array Bool}{a ac:Act}{w:World}(S:Sim P ops cls RL R D Dc a ac w)(F:Dn ops cls A RL){i:Nat}(hr:i∈Region.ready .any ops D)(hnc:¬ On Dc i){hard:Bool}(hh:hard=true->cls.getD i 0=3){lst:Bool}(hlst:lst=true->∀ j,RL.contains j=true->j∈A.getD i []):
  (∀t∈(opAt ops i).looksAt ops,a.tmps[t]? = ac.tmps[t]?)/\∀ds v w',(Ext w w'\/(hard=true/\(lst=true\/R w')))->Sim P ops cls RL R (D.setIfInBounds i true) (Dc.setIfInBounds i true) ({a with defers:=ds}.put (opAt ops i).dst v) ({ac with defers:=ds}.put (opAt ops i).dst v) w':=by
 obtain⟨hi,hn,hdep⟩:=(Bs S.sD).1 hr;have hiD:i<D.size:=by rw[S.sD];exact hi
 have hiDc:i<Dc.size:=by rw[S.sDc];exact hi
 have hrc:i∈Region.ready .any ops Dc:=(Bs S.sDc).2 ⟨hi,hnc,fun e he hb=>S.sub _ (hdep e he hb)⟩;have far:∀j,j<ops.size->On Dc j->¬On D j->j∉A.getD i []/\i∉A.getD j []:=by
  intro j hj honj hnj;exact⟨fun h=>hnj (Afn F S.cD i hi hdep j h),fun h=>hnc (Akw F S.cDc hj honj i h)⟩
 have hne:∀j,On Dc j->j≠i:=fun j hj h=>hnc (h▸hj)
 have hl:∀t∈(opAt ops i).looksAt ops,a.tmps[t]? = ac.tmps[t]?:=by
  intro t ht;refine S.agree t fun j hj honj hnj hd=>?_
  rcases F.slots j hj t hd i hi (fun h=>hne j honj h.symm) (Tl ht) with h|⟨_,h⟩
  .exact (far j hj honj hnj).1 h
  .exact (far j hj honj hnj).2 h
 refine⟨hl,?_⟩;intro ds v w' hx;refine⟨?_,S.extR,by simp[S.sD],by simp[S.sDc],Xt S.cD S.sD hr,Xt S.cDc S.sDc hrc,fun j hj=>?_,fun j hj hnj=>?_,by rw[Gz,Gz];exact S.size,by rw[Nf,Nf],fun t ht=>?_,fun j hj honj hnj=>?_⟩
 .have up:(∀j,RL.contains j=true->On D j)->∀j,RL.contains j=true->On (D.setIfInBounds i true) j:=fun h j hj=>(Fp hiD).2 (.inr (h j hj))
  rcases hx with hx|⟨_,hx|hx⟩
  .exact S.inR.imp up fun h=>S.extR _ _ h hx
  .exact .inl (up fun j hj=>Afn F S.cD i hi hdep j (hlst hx j hj))
  .exact .inr hx
 .rw[Fp hiD] at hj;rw[Fp hiDc];exact hj.imp id (S.sub j)
 .rw[Fp hiDc] at hj;rw[Fp hiD] at hnj;rcases hj with h|h
  .exact absurd (.inl h) hnj
  .exact S.cl j h (fun h'=>hnj (.inr h'))
 .by_cases hd:(opAt ops i).dst=some t
  .rw[hd]
   by_cases hlt:t<ac.tmps.size
   .rw[Sp (by simpa[S.size] using hlt),Sp (sV hlt)]
   .rw[Array.getElem?_eq_none (by rw[Gz];show a.tmps.size<=t;rw[S.size];exact Nat.le_of_not_lt hlt),Array.getElem?_eq_none (by rw[Gz];exact Nat.le_of_not_lt hlt)]
  .rw[Hl hd,Hl hd];refine S.agree t fun j hj honj hnj=>?_
   refine ht j hj ((Fp hiDc).2 (.inr honj)) (fun h=>?_);rcases (Fp hiD).1 h with h|h
   .exact hne j honj h
   .exact hnj h
 .have hnj':¬On D j:=fun h=>hnj ((Fp hiD).2 (.inr h))
  have honj':On Dc j:=by
   rcases (Fp hiDc).1 honj with h|h
   .exact absurd ((Fp hiD).2 (.inl h)) hnj
   .exact h
  have hj9:=S.cl j honj' hnj';refine Pend.turn F hj (by rw[Gz]) (S.pend j hj honj' hnj') (fun t ht=>?_) (fun d hd=>?_) ?_
  .rw[Hl];intro h;rcases F.slots i hi t h j hj (hne j honj') (Tl ht) with h|⟨_,h⟩
   .exact (far j hj honj' hnj').2 h
   .exact (far j hj honj' hnj').1 h
  .rw[Hl];intro h;rcases F.slots i hi d h j hj (hne j honj') (Ws hd) with h|⟨_,h⟩
   .exact (far j hj honj' hnj').2 h
   .exact (far j hj honj' hnj').1 h
  .rcases hx with hx|⟨hx,_⟩
   .exact .inr (.inr hx)
   .rcases Nat.le_one_iff_eq_zero_or_eq_one.1 hj9 with h0|h0
    .exact .inl h0
    .rcases F.hard i hi (hh hx) j hj (by rw[c90 hj9];exact h0) with h|h|h
     .exact absurd h (far j hj honj' hnj').1
     .exact absurd h (far j hj honj' hnj').2
     .exact .inr (.inl h)
theorem Sim.both{D Dc:Array Bool}{a ac:Act}{w:World}(S:Sim P ops cls RL R D Dc a ac w)(F:Dn ops cls A RL){i:Nat}(hr:i∈Region.ready .any ops D)(hnc:¬On Dc i){hard:Bool}(hh:hard=true->cls.getD i 0=3){N K:AW}{lst:Bool}(hlst:lst=true->∀j,RL.contains j=true->j∈A.getD i [])(he:Afm P ops R hard lst i N ac w)(k:∀a' ac' w',Sim P ops cls RL R (D.setIfInBounds i true) (Dc.setIfInBounds i true) a' ac' w'->N ac' w'->K a' w'):wpOp P ops Q i K a w:=by
 obtain⟨hi,hn,hdep⟩:=(Bs S.sD).1 hr;obtain⟨hl,next⟩:=S.step F hr hnc hh hlst;obtain⟨h1,h2⟩:=Uu F.sel (Vz hi) hl;obtain⟨o,ho,he⟩:=he;have hoa:=Vy ho;unfold wpOp;rw[ho];dsimp only;rw[hoa] at h1 h2;rcases he with⟨hwn,he⟩|⟨hwn,he⟩
 .rw[iP (by rw[h2];exact hwn)];left;unfold Oper.wp at he⊢;rw[h1];refine Ah1 S.nod (fun ds v w' hh'=>?_) he;have:=next ds v w' hh'.1;rw[hoa] at this;exact k _ _ _ this hh'.2
 .rw[iN (by rw[h2,hwn];simp)];have:=next ac.defers undef w (.inl (Ext.refl w));rw[hoa] at this;rw[show ({a with defers:=ac.defers}:Act)=a from by rw[<-S.nod]] at this;exact k _ _ _ this he
theorem Ah2{K:Act->World->Prop}{i:Nat}{ac:Act}{w:World}(h:if Nat.beq (cls.getD i 9) 0 then Atk P ops i K ac w else if RL.contains i then Az0 P ops R i K ac w else Atj P ops i K ac w):
  ∃v,((Region.wanted (opAt ops i) (yielded ops ac.tmps)=true/\(∀w',Ad8 (cls.getD i 9) (RL.contains i) R w w'->(execOp ac.eval (opAt ops i)).run P w'=.ok (.value v) w'))\/(Region.wanted (opAt ops i) (yielded ops ac.tmps)=false/\v=undef)) /\
   K (ac.put (opAt ops i).dst v) w:=by
 by_cases hc:cls.getD i 9=0
 .rw[iP (by rw[hc];rfl)] at h;obtain⟨o,ho,h⟩:=h;rw[Vy ho];rcases h with⟨h1,v,h2,h3⟩|⟨h1,h2⟩
  .exact⟨v,.inl ⟨h1,fun w' _=>h2 w'⟩,h3⟩
  .exact⟨undef,.inr ⟨h1,rfl⟩,h2⟩
 .rw[iN (by intro hb;exact hc (Nat.eq_of_beq_eq_true hb))] at h
  by_cases hr:RL.contains i=true
  .rw[iP hr] at h;obtain⟨o,ho,h⟩:=h;rw[Vy ho];rcases h with⟨h1,v,h2,h3⟩|⟨h1,h2⟩
   .refine⟨v,.inl ⟨h1,fun w' hw'=>h2 w' ?_⟩,h3⟩;rcases hw' with h0|⟨_,h0⟩|⟨h0,_⟩
    .exact absurd h0 hc
    .exact h0
    .rw[hr] at h0;cases h0
   .exact⟨undef,.inr ⟨h1,rfl⟩,h2⟩
  .rw[iN hr] at h;obtain⟨o,ho,h⟩:=h;rw[Vy ho];rcases h with⟨h1,v,h2,h3⟩|⟨h1,h2⟩
   .refine⟨v,.inl ⟨h1,fun w' hw'=>h2 w' ?_⟩,h3⟩;rcases hw' with h0|⟨h0,_⟩|⟨_,h0⟩
    .exact absurd h0 hc
    .exact absurd h0 hr
    .exact h0
   .exact⟨undef,.inr ⟨h1,rfl⟩,h2⟩
theorem alts{D:Array Bool}{ac:Act}{w:World}:∀ (p:Plan) (l:List Nat),Ig ops cls p D (some l)=true->Bo P ops Q cls A RL R p ac w ->
  ∀i∈l,∃p',Ig ops cls p' (D.setIfInBounds i true) none=true/\Afm P ops R (Nat.beq (cls.getD i 9) 3) (Adh A RL i) i (Bo P ops Q cls A RL R p') ac w
 |.done,l,h,_,i,hi=>by simp[Ig] at h
 |.q _ _,l,h,_,i,hi=>by simp[Ig] at h
 |.stop,l,h,_,i,hi=>by
  simp only[Ig,List.isEmpty_iff] at h;subst h;simp at hi
 |.e j p alt,l,h,hw,i,hi=>by
  simp only[Ig,Bool.and_eq_true] at h;obtain⟨⟨_,h2⟩,h3⟩:=h
  by_cases hij:i=j
  .subst hij;exact⟨p,h2,hw.1⟩
  .exact alts alt (l.erase j) h3 hw.2 i ((List.mem_erase_of_ne hij).2 hi)
theorem le3{i:Nat}:(Nat.beq (cls.getD i 9) 3)=true->cls.getD i 0=3:=by
 intro h;have:=Nat.eq_of_beq_eq_true h;rw[List.getD_eq_getElem?_getD] at this⊢;cases hc:cls[i]? with
 |none=>rw[hc] at this;simp at this
 |some x=>rw[hc] at this;simp at this⊢;omega
theorem Aky{i:Nat}(h:Adh A RL i=true)(j:Nat)(hj:RL.contains j=true):j∈A.getD i []:=by
 unfold Adh at h;rw[List.all_eq_true] at h;exact List.contains_iff_mem.1 (h j (List.contains_iff_mem.1 hj))
theorem Ah3{D Dc:Array Bool}{a ac:Act}{w:World}(S:Sim P ops cls RL R D Dc a ac w){i:Nat}(hr:i∈Region.ready .any ops D)(hn:¬On Dc i):i∈Region.ready .any ops Dc:=by
 obtain⟨hi,_,hdep⟩:=(Bs S.sD).1 hr;exact (Bs S.sDc).2 ⟨hi,hn,fun e he hb=>S.sub _ (hdep e he hb)⟩
theorem Sim.level{D Dc:Array Bool}{a ac:Act}{w:World}(S:Sim P ops cls RL R D Dc a ac w)(F:Dn ops cls A RL)(hr:Region.ready .any ops D=[]):(∀i,i<ops.size->On Dc i->On D i)/\a=ac:=by
 have key:∀i,i<ops.size->On Dc i->On D i:=by
  intro i
  induction i using Nat.strongRecOn with
  |_ i ih=>
   intro hi hon
   by_cases hn:On D i
   .exact hn
   .exfalso;have:i∈Region.ready .any ops D:=(Bs S.sD).2 ⟨hi,hn,fun e he hb=>ih e.on (F.back i hi e he hb) (Nat.lt_trans (F.back i hi e he hb) hi) (S.cDc i hi hon e he hb)⟩;rw[hr] at this;simp at this
 refine⟨key,?_⟩;have ht:a.tmps=ac.tmps:=by
  apply Array.ext_getElem?;intro t;exact S.agree t fun i hi hon hn=>absurd (key i hi hon) hn
 have hd:=S.nod;cases a;cases ac
 simp only at ht hd;rw[ht,hd]
def cnt(D:Array Bool):Nat->Nat
 |0=>0
 |n+1=>(if D.getD n false=true then 0 else 1)+cnt D n
theorem Ao5{D:Array Bool}{i:Nat}(hi:i<D.size)(hn:¬On D i):∀n,cnt (D.setIfInBounds i true) n+(if i<n then 1 else 0)=cnt D n
 |0=>by simp[cnt]
 |n+1=>by
  have ih:=Ao5 hi hn n;have h:=Fp (D:=D) (i:=i) (j:=n) hi;unfold On at h hn;simp only[cnt]
  by_cases hin:n=i
  .subst hin;rw[iP (h.2 (.inl rfl)),iN hn];simp at ih⊢;omega
  ·have h':(D.setIfInBounds i true).getD n false=true↔D.getD n false=true:=by
    rw[h];simp[hin]
   have e:(if (D.setIfInBounds i true).getD n false=true then 0 else 1)=(if D.getD n false=true then 0 else 1):=by
    by_cases hd:D.getD n false=true
    .rw[iP hd,iP (h'.2 hd)]
    .rw[iN hd,iN (fun x=>hd (h'.1 x))]
   rw[e];have:(if i<n+1 then 1 else 0)=(if i<n then 1 else 0):=by
    by_cases h1:i<n
    .rw[iP h1,iP oo]
    .rw[iN h1,iN oo]
   rw[this];omega
theorem Acd{D:Array Bool}:∀{n},cnt D n=0->∀i,i<n->On D i
 |0,_,i,hi=>oo
 |n+1,h,i,hi=>by
  simp only[cnt] at h
  by_cases hd:D.getD n false=true
  .rw[iP hd] at h;rcases Nat.lt_succ_iff_lt_or_eq.1 hi with h'|rfl
   .exact Acd oo i h'
   .exact hd
  .rw[iN hd] at h;omega
theorem Uz{D:Array Bool}(hs:D.size=ops.size){i:Nat}(hr:i∈Region.ready .any ops D){fuel:Nat}(h:cnt D ops.size<=fuel+1):cnt (D.setIfInBounds i true) ops.size<=fuel:=by
 obtain⟨hi,hn,_⟩:=(Bs hs).1 hr;have:=Ao5 (D:=D) oo hn ops.size;rw[iP hi] at this;omega
theorem Atm(F:Dn ops cls A RL):∀ (fuel:Nat) (p:Plan) (D Dc:Array Bool) (a ac:Act) (w:World),Sim P ops cls RL R D Dc a ac w->Ig ops cls p Dc none=true->Bo P ops Q cls A RL R p ac w ->
  cnt D ops.size<=fuel->wpAny P .any ops Q fuel D a w:=by
 have ends:∀{j p alt D Dc a ac w},Sim P ops cls RL R D Dc a ac w->Ig ops cls (.e j p alt) Dc none=true->Region.ready .any ops D=[]->False:=by
  intro j p alt D Dc a ac w S hp hr;obtain⟨hk,_⟩:=S.level F hr;simp only[Ig,Bool.and_eq_true,List.contains_iff_mem] at hp;have hi:=hp.1.1.2;obtain⟨hi1,hi2,hi3⟩:=(Bs S.sDc).1 hi;have:j∈Region.ready .any ops D:=(Bs S.sD).2 ⟨hi1,fun h=>hi2 (S.sub j h),fun e he hb=>hk _ (Nat.lt_trans (F.back j hi1 e he hb) hi1) (hi3 e he hb)⟩;rw[hr] at this;simp at this
 intro fuel
 induction fuel with
 |zero=>
  intro p
  induction p with
  |q i p ih=>
   intro D Dc a ac w S hp hw h3;simp only[Ig,Bool.and_eq_true,List.contains_iff_mem,Nat.ble_eq] at hp;obtain⟨v,hv,hK⟩:=Ah2 hw;exact ih D _ a _ w (S.ahead F hp.1.1 hp.1.2 hv) hp.2 hK h3
  |done=>
   intro D Dc a ac w S hp hw h3;have hr:Region.ready .any ops D=[]:=List.eq_nil_iff_forall_not_mem.2 fun i hi=>by
    obtain⟨h1,h2,_⟩:=(Bs S.sD).1 hi;exact h2 (Acd oo i h1)
   obtain⟨_,rfl⟩:=S.level F hr;exact⟨hr,hw⟩
  |e i p alt _ _=>
   intro D Dc a ac w S hp hw h3;have hr:Region.ready .any ops D=[]:=List.eq_nil_iff_forall_not_mem.2 fun i hi=>by
    obtain⟨h1,h2,_⟩:=(Bs S.sD).1 hi;exact h2 (Acd oo i h1)
   exact (ends S hp hr).elim
  |stop=>intro D Dc a ac w S hp;simp[Ig] at hp
 |succ fuel ihf=>
  intro p
  induction p with
  |q i p ih=>
   intro D Dc a ac w S hp hw h3;simp only[Ig,Bool.and_eq_true,List.contains_iff_mem,Nat.ble_eq] at hp;obtain⟨v,hv,hK⟩:=Ah2 hw;exact ih D _ a _ w (S.ahead F hp.1.1 hp.1.2 hv) hp.2 hK h3
  |stop=>intro D Dc a ac w S hp;simp[Ig] at hp
  |done=>
   intro D Dc a ac w S hp hw h3;refine⟨fun hr=>?_,fun i hi=>?_⟩
   .obtain⟨_,rfl⟩:=S.level F hr;exact hw
   ·have hon:On Dc i:=by
     by_cases h:On Dc i
     .exact h
     .have:=Ah3 S hi h;simp only[Ig,List.isEmpty_iff] at hp;rw[hp] at this;simp at this
    exact S.catchUp F hi hon fun a' S'=>ihf _ _ _ _ _ _ S' hp hw (Uz S.sD hi h3)
  |e j p alt _ _=>
   intro D Dc a ac w S hp hw h3;refine⟨fun hr=>(ends S hp hr).elim,fun i hi=>?_⟩
   by_cases hon:On Dc i
   .exact S.catchUp F hi hon fun a' S'=>ihf _ _ _ _ _ _ S' hp hw (Uz S.sD hi h3)
   ·have hrc:=Ah3 S hi hon;simp only[Ig,Bool.and_eq_true,List.contains_iff_mem] at hp;obtain⟨⟨⟨_,hj⟩,hp1⟩,hp2⟩:=hp;have hstep:∃ p',Ig ops cls p' (Dc.setIfInBounds i true) none=true/\Afm P ops R (Nat.beq (cls.getD i 9) 3) (Adh A RL i) i (Bo P ops Q cls A RL R p') ac w:=by
     by_cases hij:i=j
     .subst hij;exact⟨p,hp1,hw.1⟩
     .exact alts alt _ hp2 hw.2 i ((List.mem_erase_of_ne hij).2 hrc)
    obtain⟨p',hp',he⟩:=hstep;exact S.both F hi hon le3 Aky he fun a' ac' w' S' hN=>ihf _ _ _ _ _ _ S' hp' hN (Uz S.sD hi h3)
theorem Kn{n i:Nat}:¬On (Array.replicate n false) i:=by
 unfold On;rw[Array.getD_eq_getD_getElem?,Array.getElem?_replicate];split <;> simp
theorem Wm(m:Nat):∀n,cnt (Array.replicate m false) n<=n
 |0=>by simp[cnt]
 |n+1=>by
  have:=Wm m n;simp only[cnt];split <;> omega
theorem Ao6{id:Nat}{a:Act}{w:World}(p:Plan)(hR:R w.drew)(hX:∀ w w',R w->Ext w w'->R w')(hm:P.follows .mixedOrders=true)(hd:Wl ops cls A RL=true)(hp:Ig ops cls p (Array.replicate ops.size false) none=true)(h:Bo P ops Q cls A RL R p a w.drew):
  (Code.region id ops true).wp P Q a w:=by
 refine wp_region_any hm ?_;have F:=Ad7 hd;refine Atm F ops.size p _ (Array.replicate ops.size false) a a _ ?_ hp h (Wm _ _);exact⟨.inr hR,hX,s_,s_,fun i _ h=>absurd h Kn,fun i _ h=>absurd h Kn,fun _ h=>h,fun i h=>absurd h Kn,rfl,rfl,fun _ _=>rfl,fun j _ h=>absurd h Kn⟩
variable {n:Nat}{fr:lF}{L:LE}{d i:Nat}{dst:Option Tmp}{op:Op}{ty:TypeId}{pos:String}{after:AE}{p alt:Plan}
theorem Heap.drew{w:World}(h:Heap L w):Heap L w.drew:=h.ext ⟨⟨rfl,rfl,rfl,nL _,fun _ _=>rfl⟩,Nat.le_succ _⟩
def RR(L0:LE)(w:World):Prop:=∀e∈L0,Ent.ok w e
theorem Baq{id:Nat}(cls:Cls)(A:List (List Nat))(p:Plan)(hm:P.follows .mixedOrders=true)(hd:Wl ops cls A=true)(hp:Ig ops cls p (Array.replicate ops.size false) none=true)(k:T n (Bo P ops Q cls A [] (fun _=>True) p) fr L):
  T n ((Code.region id ops true).wp P Q) fr L:=fun a w ha hw=>Ao6 (RL:=[]) (R:=fun _=>True) p trivial (fun _ _ _ _=>trivial) hm hd hp (k a w.drew ha hw.drew)
theorem Ax0{id:Nat}(cls:Cls)(A:List (List Nat))(RL:List Nat)(L0:List Ent)(p:Plan)(hm:P.follows .mixedOrders=true)(hd:Wl ops cls A RL=true)(hp:Ig ops cls p (Array.replicate ops.size false) none=true)(hs:∀ w,(∀ e∈L,Ent.ok w e)->RR L0 w)(k:T n (Bo P ops Q cls A RL (RR L0) p) fr L):
  T n ((Code.region id ops true).wp P Q) fr L:=fun a w ha hw=>Ao6 p (hs _ hw.drew.ok) (fun _ _ h hx e he=>Ent.ext (h e he) hx) hm hd hp (k a w.drew ha hw.drew)
theorem Bar{N:AW}{L0:LE}(hs:∀w,(∀e∈L,Ent.ok w e)->RR L0 w)(k:T n N fr L):T n (fun a w=>RR L0 w/\N a w) fr L:=fun a w ha hw=>⟨hs w hw.ok,k a w ha hw⟩
theorem Am9(k:T n (Q .normal) fr L):T n (Bo P ops Q cls A RL R .done) fr L:=k
theorem Oh:T n (Bo P ops Q cls A RL R .stop) fr L:=fun _ _ _ _=>trivial
theorem P_q{v:Value}(hc:Nat.beq (cls.getD i 9) 0=false)(ho:ops[i]? = some ⟨some d,op,ty,pos,after,none⟩)(h:Ev P n ⟨some d,op,ty,pos,after,none⟩ fr L v)(hd:Nat.blt d n=true)(k:T n (Bo P ops Q cls A RL R p) ((d,v)::fr) L)(hr:RL.contains i=false:=by rfl):
  T n (Bo P ops Q cls A RL R (.q i p)) fr L:=by
 intro a w ha hw;show if _ then _ else _
 rw[iN (by rw[hc];simp),iN (by rw[hr];simp)];exact⟨_,ho,.inl ⟨rfl,v,fun w' hx=>h a w' ha (hw.ext hx).ok,k _ _ (ha.put hd) hw⟩⟩
theorem P_r{L0:List Ent}{v:Value}(hc:Nat.beq (cls.getD i 9) 0=false)(ho:ops[i]? = some ⟨some d,op,ty,pos,after,none⟩)(h:Ev P n ⟨some d,op,ty,pos,after,none⟩ fr L0 v)(hd:Nat.blt d n=true)(k:T n (Bo P ops Q cls A RL (RR L0) p) ((d,v)::fr) L)(hr:RL.contains i=true:=by rfl):
  T n (Bo P ops Q cls A RL (RR L0) (.q i p)) fr L:=by
 intro a w ha hw;show if _ then _ else _
 rw[iN (by rw[hc];simp),iP hr];exact⟨_,ho,.inl ⟨rfl,v,fun w' hx=>h a w' ha hx,k _ _ (ha.put hd) hw⟩⟩
theorem P_p{v:Value}(hc:Nat.beq (cls.getD i 9) 0=true)(ho:ops[i]? = some ⟨some d,op,ty,pos,after,none⟩)(h:Ev P n ⟨some d,op,ty,pos,after,none⟩ fr [] v)(hd:Nat.blt d n=true)(k:T n (Bo P ops Q cls A RL R p) ((d,v)::fr) L):
  T n (Bo P ops Q cls A RL R (.q i p)) fr L:=by
 intro a w ha hw;show if _ then _ else _
 rw[iP hc];exact⟨_,ho,.inl ⟨rfl,v,fun w'=>h a w' ha s_,k _ _ (ha.put hd) hw⟩⟩
theorem P_qG{j s:Nat}{b:Bool}{v:Value}(hc:Nat.beq (cls.getD i 9) 0=false)(ho:ops[i]? = some ⟨some d,op,ty,pos,after,some (j,b)⟩)(hj:(ops[j]?).bind (·.dst)=some s)(hs:look fr s=some (.bool b))(hsn:Nat.blt s n=true)(h:Ev P n ⟨some d,op,ty,pos,after,some (j,b)⟩ fr L v)(hd:Nat.blt d n=true)(k:T n (Bo P ops Q cls A RL R p) ((d,v)::fr) L)(hr:RL.contains i=false:=by rfl):
  T n (Bo P ops Q cls A RL R (.q i p)) fr L:=by
 intro a w ha hw;show if _ then _ else _
 rw[iN (by rw[hc];simp),iN (by rw[hr];simp)];exact⟨_,ho,.inl ⟨by rw[Sj hj ha hs hsn];simp,v,fun w' hx=>h a w' ha (hw.ext hx).ok,k _ _ (ha.put hd) hw⟩⟩
theorem P_pG{j s:Nat}{b:Bool}{v:Value}(hc:Nat.beq (cls.getD i 9) 0=true)(ho:ops[i]? = some ⟨some d,op,ty,pos,after,some (j,b)⟩)(hj:(ops[j]?).bind (·.dst)=some s)(hs:look fr s=some (.bool b))(hsn:Nat.blt s n=true)(h:Ev P n ⟨some d,op,ty,pos,after,some (j,b)⟩ fr [] v)(hd:Nat.blt d n=true)(k:T n (Bo P ops Q cls A RL R p) ((d,v)::fr) L):
  T n (Bo P ops Q cls A RL R (.q i p)) fr L:=by
 intro a w ha hw;show if _ then _ else _
 rw[iP hc];exact⟨_,ho,.inl ⟨by rw[Sj hj ha hs hsn];simp,v,fun w'=>h a w' ha s_,k _ _ (ha.put hd) hw⟩⟩
theorem Bas{j s:Nat}{b b':Bool}(ho:ops[i]? = some ⟨some d,op,ty,pos,after,some (j,b)⟩)(hj:(ops[j]?).bind (·.dst)=some s)(hs:look fr s=some (.bool b'))(hsn:Nat.blt s n=true)(hne:(b'==b)=false)(hd:Nat.blt d n=true)(k:T n (Bo P ops Q cls A RL R p) ((d,undef)::fr) L):T n (Bo P ops Q cls A RL R (.q i p)) fr L:=by
 intro a w ha hw;have hwn:Region.wanted ⟨some d,op,ty,pos,after,some (j,b)⟩ (yielded ops a.tmps)=false:=by rw[Sj hj ha hs hsn,hne]
 show if _ then _ else _
 by_cases hc:Nat.beq (cls.getD i 9) 0=true
 .rw[iP hc];exact⟨_,ho,.inr ⟨hwn,k _ _ (ha.put hd) hw⟩⟩
 .rw[iN hc];split
  .exact⟨_,ho,.inr ⟨hwn,k _ _ (ha.put hd) hw⟩⟩
  .exact⟨_,ho,.inr ⟨hwn,k _ _ (ha.put hd) hw⟩⟩
theorem P_x(ho:ops[i]? = some ⟨dst,op,ty,pos,after,none⟩)(h:Wx P noQ n ⟨dst,op,ty,pos,after,none⟩ fr L (Bo P ops Q cls A RL R p))(k2:T n (Bo P ops Q cls A RL R alt) fr L):T n (Bo P ops Q cls A RL R (.e i p alt)) fr L:=by
 intro a w ha hw;exact⟨⟨_,ho,.inl ⟨rfl,Oper.wp_mono (fun _ _ hh=>⟨.inl hh.1,hh.2⟩) (h a w ha hw)⟩⟩,k2 a w ha hw⟩
theorem P_h(hc:Nat.beq (cls.getD i 9) 3=true)(ho:ops[i]? = some ⟨dst,op,ty,pos,after,none⟩)(h:Wh P noQ n ⟨dst,op,ty,pos,after,none⟩ fr L (Bo P ops Q cls A RL (fun _=>True) p))(k2:T n (Bo P ops Q cls A RL (fun _=>True) alt) fr L):T n (Bo P ops Q cls A RL (fun _=>True) (.e i p alt)) fr L:=by
 intro a w ha hw;exact⟨⟨_,ho,.inl ⟨rfl,Oper.wp_mono (fun _ _ hh=>⟨.inr ⟨hc,.inr trivial⟩,hh⟩) (h a w ha hw)⟩⟩,k2 a w ha hw⟩
theorem P_hR{L0:LE}(hc:Nat.beq (cls.getD i 9) 3=true)(ho:ops[i]? = some ⟨dst,op,ty,pos,after,none⟩)(h:Wh P noQ n ⟨dst,op,ty,pos,after,none⟩ fr L (fun a w=>RR L0 w/\Bo P ops Q cls A RL (RR L0) p a w))(k2:T n (Bo P ops Q cls A RL (RR L0) alt) fr L):T n (Bo P ops Q cls A RL (RR L0) (.e i p alt)) fr L:=by
 intro a w ha hw;exact⟨⟨_,ho,.inl ⟨rfl,Oper.wp_mono (fun _ _ hh=>⟨.inr ⟨hc,.inr hh.1⟩,hh.2⟩) (h a w ha hw)⟩⟩,k2 a w ha hw⟩
theorem P_hL(hc:Nat.beq (cls.getD i 9) 3=true)(hl:Adh A RL i=true)(ho:ops[i]? = some ⟨dst,op,ty,pos,after,none⟩)(h:Wh P noQ n ⟨dst,op,ty,pos,after,none⟩ fr L (Bo P ops Q cls A RL R p))(k2:T n (Bo P ops Q cls A RL R alt) fr L):T n (Bo P ops Q cls A RL R (.e i p alt)) fr L:=by
 intro a w ha hw;exact⟨⟨_,ho,.inl ⟨rfl,Oper.wp_mono (fun _ _ hh=>⟨.inr ⟨hc,.inl hl⟩,hh⟩) (h a w ha hw)⟩⟩,k2 a w ha hw⟩
theorem Zd{N:AW}{Q:Exit->AW}{guard}{v:Value}(h:Ev P n ⟨some d,op,ty,pos,after,guard⟩ fr L v)(hd:Nat.blt d n=true)(k:T n N ((d,v)::fr) L):Wx P Q n ⟨some d,op,ty,pos,after,guard⟩ fr L N:=by
 intro a w ha hw;simp only[Oper.wp,h a w ha hw.ok,Oper.upon_value];exact⟨Ext.refl w,k _ _ (ha.put hd) hw⟩
end
section
variable {P:Program}{n:Nat}{N:AW}{Q:Exit->AW}{fr:lF}{L:LE}
theorem Fr.known{a s v}(h:Fr n fr a)(hs:look fr s=some v):Fr n ((s,v)::fr) a:=by
 refine⟨h.nod,h.size,fun t u hu=>?_⟩;simp only[look] at hu;cases hb:Nat.beq s t with
 |true=>
  rw[hb] at hu;have e:=Nat.eq_of_beq_eq_true hb;subst e;simp only[cond_true,Option.some.injEq] at hu;subst hu;exact h.val _ _ hs
 |false=>rw[hb] at hu;exact h.val t u hu
theorem Nm{s:Nat}{b:Bool}(hs:look fr s=some (.bool b))(ht:b=true->T n N ((s,.bool true)::fr) L)(hf:b=false->T n N ((s,.bool false)::fr) L):T n N fr L:=by
 intro a w ha hw;cases b with
 |true=>exact ht rfl a w (ha.known hs) hw
 |false=>exact hf rfl a w (ha.known hs) hw
theorem Ao7{s:Nat}{p:Prop}[Decidable p](hs:look fr s=some (.bool (decide p)))(ht:p->T n N ((s,.bool true)::fr) L)(hf:¬p->T n N ((s,.bool false)::fr) L):T n N fr L :=
 Nm hs (fun h=>ht (of_decide_eq_true h)) (fun h=>hf (of_decide_eq_false h))
theorem Afo{s:Nat}{b:Bool}(hs:look fr s=some (.bool (!b)))(ht:b=false->T n N ((s,.bool true)::fr) L)(hf:b=true->T n N ((s,.bool false)::fr) L):T n N fr L :=
 Nm hs (fun h=>ht (sV h)) (fun h=>hf (sV h))
theorem Atn{s:Nat}{p:Prop}[Decidable p](hs:look fr s=some (.bool (!decide p)))(ht:¬p->T n N ((s,.bool true)::fr) L)(hf:p->T n N ((s,.bool false)::fr) L):T n N fr L :=
 Afo hs (fun h=>ht (of_decide_eq_false h)) (fun h=>hf (of_decide_eq_true h))
theorem Ato{K:AW}{id:Nat}(k:T n (Q (.exit id)) fr L):T n (Exit.then K Q (.exit id)) fr L:=k
theorem Atp{K:AW}(k:T n (Q .ret) fr L):T n (Exit.then K Q .ret) fr L:=k
theorem Az1{id:Nat}(k:T n (Q .ret) fr L):T n (Exit.inBlock id Q .ret) fr L:=k
theorem Az2{id:Nat}(k:T n (Q .normal) fr L):T n (Exit.inBlock id Q .normal) fr L:=k
theorem Ze{s:Nat}{v v':Value}(hs:look fr s=some v)(he:v=v')(k:T n N ((s,v')::fr) L):T n N fr L:=fun a w ha hw=>k a w (ha.known (by rw[hs,he])) hw
theorem SetE.same{i:Nat}{e e':Ent}{L L'}(hL:SetE L i e e' L'):e=e'->L'=L:=by
 induction hL with
 |here=>intro h;rw[h]
 |there _ ih=>intro h;rw[ih h]
theorem Wt{i:Nat}{e e':Ent}{L'}(hL:SetE L i e e' L')(he:e=e')(k:T n N fr L'):T n N fr L:=by
 rw[hL.same he] at k;exact k
theorem Ent.ok_none(w:World)(t:TypeId)(sz:Nat):Ent.ok w (.r none 0 0 t sz []):=⟨s_,.inl ⟨rfl,rfl⟩⟩
theorem Bf(t:TypeId)(sz:Nat)(k:T n N fr (.r none 0 0 t sz []::L)):T n N fr L:=by
 intro a w ha hw;refine k a w ha ⟨fun e he=>?_,?_⟩
 .rcases List.mem_cons.1 he with rfl|he
  .exact Ent.ok_none w t sz
  .exact hw.ok e he
 .rw[List.pairwise_cons];exact⟨fun x hx=>⟨fun g hg=>(by cases hg),fun g hg=>⟨Nat.zero_le _,fun h=>(by cases h)⟩⟩,hw.sep⟩
end
def top:IntKind->Nat
 |.i8=>127 | .i16=>32767 | .i32=>2147483647 | .i64=>9223372036854775807
 |.u8=>255 | .u16=>65535 | .u32=>4294967295 | .u64=>18446744073709551615
theorem Ace(k:IntKind)(a:Nat)(h:a<=top k):k.wrap (a:Int)=(a:Int):=by
 cases k <;> simp only[top] at h <;> simp[IntKind.wrap,IntKind.bits,IntKind.signed] <;> omega
def val(b:Nat):LM->Nat
 |[]=>0
 |x::r=>x+b*val b r
def nrm:LM->LM
 |[]=>[]
 |x::r=>match nrm r with
  |[]=>if x=0 then [] else [x]
  |y::s=>x::y::s
def digF(b:Nat):Nat->Nat->LM
 |0,_=>[]
 |f+1,m=>if m=0 then [] else m%b::digF b f (m/b)
def dig(b m:Nat):LM:=digF b m m
theorem Arh{b:Nat}(hb:2<=b):∀(m f g:Nat),m<=f->m<=g->digF b f m=digF b g m:=by
 intro m
 induction m using Nat.strongRecOn with
 |_ m ih=>
  intro f g hf hg
  by_cases h0:m=0
  .subst h0;cases f <;> cases g <;> simp[digF]
  .match f,g with
   |0,_=>omega
   |_,0=>omega
   |f+1,g+1=>
    simp only[digF,iN h0];have hlt:m/b<m:=Nat.div_lt_self oo oo;rw[ih (m/b) hlt f g oo oo]
theorem Hy(b:Nat):dig b 0=[]:=rfl
theorem Hw{b m:Nat}(hb:2<=b)(h:m≠0):dig b m=m%b::dig b (m/b):=by
 unfold dig
 match m,h with
 |m+1,h=>
  rw[digF,iN oo];have hlt:(m+1)/b<m+1:=Nat.div_lt_self oo oo;rw[Arh hb _ m ((m+1)/b) oo (nL _)]
theorem Tu{b m:Nat}(hb:2<=b):dig b m=[]↔m=0:=by
 constructor
 .intro h
  by_cases h0:m=0
  .exact h0
  .rw[Hw hb h0] at h;cases h
 .rintro rfl;rfl
theorem Ch{b:Nat}(hb:2<=b)(m:Nat):val b (dig b m)=m:=by
 induction m using Nat.strongRecOn with
 |_ m ih=>
  by_cases h0:m=0
  .subst h0;rfl
  .rw[Hw hb h0,val,ih (m/b) (Nat.div_lt_self oo oo)];have:=Nat.div_add_mod m b;omega
theorem Ng{b:Nat}(hb:2<=b)(m:Nat):∀x∈dig b m,x<b:=by
 induction m using Nat.strongRecOn with
 |_ m ih=>
  by_cases h0:m=0
  .subst h0;intro x hx;simp[dig,digF] at hx
  .rw[Hw hb h0];intro x hx;rcases List.mem_cons.1 hx with rfl|hx
   .exact Nat.mod_lt _ oo
   .exact ih (m/b) (Nat.div_lt_self oo oo) x hx
theorem Uh{b:Nat}:∀(l:LM),(∀x∈l,x<b)->val b l<b^l.length
 |[],_=>by simp[val]
 |x::r,h=>by
  have h1:=h x mS;have h2:=Uh r (fun y hy=>h y (mO _ hy));rw[val,List.length_cons,Nat.pow_succ];have:b*val b r+b<=b*b^r.length:=by
   rw[<-Nat.mul_succ];exact Nat.mul_le_mul_left _ h2
  rw[Nat.mul_comm (b^r.length) b];omega
theorem Qb{b:Nat}(hb:2<=b):∀(l:LM),(∀x∈l,x<b)->nrm l=dig b (val b l)
 |[],_=>rfl
 |x::r,h=>by
  have h1:=h x mS;have ih:=Qb hb r (fun y hy=>h y (mO _ hy));rw[nrm,val];cases hr:nrm r with
  |nil=>
   rw[hr] at ih;have hv:val b r=0:=(Tu hb).1 ih.symm;rw[hv];simp only[Nat.mul_zero,Nat.add_zero]
   by_cases hx:x=0
   .subst hx;rfl
   .rw[iN hx,Hw hb hx,Nat.mod_eq_of_lt h1,Nat.div_eq_of_lt h1];rfl
  |cons y s=>
   rw[hr] at ih;have hv:val b r≠0:=fun h0=>by rw[h0] at ih;cases ih
   have hne:x+b*val b r≠0:=by
    have:0<b*val b r:=Nat.mul_pos oo oo;omega
   simp only;rw[Hw hb hne,Nat.add_mul_mod_self_left,Nat.mod_eq_of_lt h1,Nat.add_mul_div_left _ _ oo,Nat.div_eq_of_lt h1,Nat.zero_add,<-ih]
theorem Akz:∀(l:LM),nrm l=l.take (nrm l).length
 |[]=>rfl
 |x::r=>by
  have ih:=Akz r;rw[nrm];cases hr:nrm r with
  |nil=>by_cases hx:x=0 <;> simp[hx]
  |cons y s=>rw[hr] at ih;simp only[List.length_cons,List.take_succ_cons] at ih⊢;rw[<-ih]
theorem Adj:∀(l:LM),(∀x∈l,x=0)->nrm l=[]
 |[],_=>rfl
 |x::r,h=>by
  rw[nrm,Adj r (fun y hy=>h y (mO _ hy))];simp[h x mS]
theorem Atq:∀(l:LM) (k:Nat),k<=l.length->(∀j (h:j<l.length),k<=j->l[j]=0)->(∀h:0<k,∀h':k-1<l.length,l[k-1]≠0)->(nrm l).length=k
 |[],k,hk,_,_=>by simp at hk;subst hk;rfl
 |x::r,0,_,h0,_=>by
  rw[Adj (x::r) (fun y hy=>by
   obtain⟨j,hj,rfl⟩:=List.getElem_of_mem hy;exact h0 j hj (Nat.zero_le _))];rfl
 |x::r,k+1,hk,h0,h1=>by
  have ih:=Atq r k (sV hk) (fun j hj hkj=>by
   have:=h0 (j+1) (sV hj) oo;simpa using this) (fun hk0 hk1=>by
   have:=h1 oo (by simp;omega);have e:(x::r)[k+1-1]'(by simp;omega)=r[k-1]:=by
    have:k+1-1=(k-1)+1:=oo;simp only[this,List.getElem_cons_succ]
   rwa [e] at this)
  rw[nrm];cases hr:nrm r with
  |nil=>
   rw[hr] at ih;simp at ih;subst ih;have:=h1 oo s_;simp at this;simp[this]
  |cons y s=>rw[hr] at ih;simp at ih⊢;exact ih
theorem Wa{b:Nat}:∀(l:LM) (j v:Nat) (h:j<l.length),val b (l.set j v)+l[j]*b^j=val b l+v*b^j
 |x::r,0,v,_=>by simp[val];omega
 |x::r,j+1,v,h=>by
  have hj:j<r.length:=by simpa using h
  have ih:=Wa (b:=b) r j v hj;simp only[List.set_cons_succ,val,List.getElem_cons_succ,Nat.pow_succ];have e1:r[j]*(b^j*b)=b*(r[j]*b^j):=by grind
  have e2:v*(b^j*b)=b*(v*b^j):=by grind
  rw[e1,e2];have:=congrArg (b * ·) ih;simp only[Nat.mul_add] at this;omega
theorem Uv{b:Nat}:∀(m:Nat),val b (List.replicate m 0)=0
 |0=>rfl
 |m+1=>by simp[List.replicate_succ,val,Uv m]
theorem Oi{b:Nat}:∀(l r:LM),val b (l++r)=val b l+b^l.length*val b r
 |[],r=>by simp[val]
 |x::l,r=>by
  simp only[List.cons_append,val,Oi l r,List.length_cons,Nat.pow_succ,Nat.mul_add];have:b^l.length*b*val b r=b*(b^l.length*val b r):=by grind
  omega
theorem El{b:Nat}(l:LM)(j:Nat)(h:j<l.length):val b (l.take (j+1))=val b (l.take j)+b^j*l[j]:=by
 rw[List.take_succ_eq_append_getElem h,Oi,List.length_take,Nat.min_eq_left oo];simp[val]
def e64(x:Nat):LV:=[.int .i64 (x:Int)]
theorem SubE.nil{L}:SubE [] L:=.of fun _ h=>by simp at h
theorem SubE.cons2{K L e}{i:Nat}(h:nthE L i=some e)(h':SubE K L):SubE (e::K) L:=⟨fun w hw x hx=>by
 rcases List.mem_cons.1 hx with rfl|hx
 .exact hw _ (Ee h)
 .exact h'.ok w hw _ hx⟩
theorem SubE.tail{K L e}(h:SubE K L):SubE K (e::L):=h.cons
theorem Has.take{α:Type}{K:LE}{A:OA}{m c sz:Nat}{enc:α->LV}{l:List α}(h:Has K A m c sz enc l){k:Nat}(hk:k<=m):Has K A k c sz enc (l.take k):=by
 have hl:=h.len;refine⟨by rw[List.length_take];omega,by have:=h.nc;omega,h.cap,fun x hx=>h.esz x (List.mem_of_mem_take hx),fun h0=>?_⟩;obtain⟨b,o,hA,hp⟩:=h.at_ oo;refine⟨b,o,hA,fun i hi=>?_⟩;rw[List.length_take] at hi;rw[List.getElem_take];exact hp i oo
theorem Xu{α:Type}{enc:α->LV}{sz:Nat}:∀(l:List α) (i:Nat) (hi:i<l.length),(∀x∈l,(enc x).length=sz)->∀(j:Nat) (u:Value),(enc l[i])[j]? = some u->(l.flatMap enc)[i*sz+j]? = some u
 |[],i,hi,_,j,u,hu=>by simp at hi
 |x::r,0,_,he,j,u,hu=>by
  have hlt:j<(enc x).length:=(List.getElem?_eq_some_iff.1 hu).1;rw[List.flatMap_cons,Nat.zero_mul,Nat.zero_add,List.getElem?_append_left hlt];exact hu
 |x::r,i+1,hi,he,j,u,hu=>by
  have hx:=he x mS;rw[List.flatMap_cons,List.getElem?_append_right (by rw[hx,Nat.succ_mul];omega),hx,show (i+1)*sz+j-sz=i*sz+j from by rw[Nat.succ_mul];omega];exact Xu r i (sV hi) (fun y hy=>he y (mO _ hy)) j u (sV hu)
theorem Has.ofM{α:Type}{enc:α->List Value}{sz n:Nat}{l:List α}{g:Nat}{t:TypeId}{cs:List Value}(he:∀ x∈l,(enc x).length=sz)(hn:l.length=n)(hm:n<=maxLen)(hc:cs=l.flatMap enc):
  Has [.m g t cs] (some ⟨g,0,none⟩) n n sz enc l:=by
 subst hc;refine⟨hn,nL _,hm,he,fun _=>⟨g,0,rfl,fun i hi w hw j u hu=>?_⟩⟩;rw[Us (hw _ (List.mem_singleton.2 rfl)),Nat.zero_add];exact Xu l i hi he j u hu
theorem Has.nil{α:Type}{K:LE}{sz:Nat}{enc:α->LV}:Has K none 0 0 sz enc []:=⟨rfl,nL _,Nat.zero_le _,fun _ h=>by simp at h,fun h=>absurd h oo⟩
theorem Ad9{K L:LE}{w:World}(h:SubE K L)(hw:Heap L w):∀e∈K,Ent.ok w e:=h.ok w hw.ok
theorem Ari(m:Nat)(hm:m<=18446744073709551615):nrm [m%4294967296,m/4294967296%4294967296]=dig 4294967296 m:=by
 rw[Qb (b:=4294967296) oo _ (by intro x hx;simp at hx;omega)];congr 1;simp only[val];omega
theorem Ak0{a b:Nat}(ha:a<4294967296)(hb:b<4294967296):a*b<=18446744065119617025:=by
 have:a*b<=4294967295*4294967295:=Nat.mul_le_mul oo oo;omega
theorem Ru{l:LM}{j v b:Nat}(h:∀x∈l,x<b)(hv:v<b):∀x∈l.set j v,x<b:=by
 intro x hx;rcases List.mem_or_eq_of_mem_set hx with h'|h'
 .exact h x h'
 .rw[h'];exact hv
theorem Arj{l r out out0:List Nat}{n m i j cy:Nat}(hi:i<l.length)(hj:j<r.length)(hn:l.length=n)(hm:r.length=m)(h1:l[i]<4294967296)(h2:r[j]<4294967296)(hD1:out.length=n+m)(hD2:cy<4294967296)(hD3:j<=m)(hD4:∀ x∈out,x<4294967296)(hD5:∀ (q:Nat) (h:q<out.length),i+m<=q->out[q]=0)(hD6:val 4294967296 out+cy*4294967296 ^ (i+j)=val 4294967296 out0+l[i] * val 4294967296 (r.take j)*4294967296 ^ i)(hk:i+j<out.length):
  (out.set (i+j) ((l[i]*r[j]+out[i+j]+cy)%4294967296)).length=n+m/\(l[i]*r[j]+out[i+j]+cy)/4294967296<4294967296/\j+1<=m /\
   (∀x∈out.set (i+j) ((l[i]*r[j]+out[i+j]+cy)%4294967296),x<4294967296) /\
   (∀(q:Nat) (h:q<(out.set (i+j) ((l[i]*r[j]+out[i+j]+cy)%4294967296)).length),i+m<=q->(out.set (i+j) ((l[i]*r[j]+out[i+j]+cy)%4294967296))[q]=0) /\
   val 4294967296 (out.set (i+j) ((l[i]*r[j]+out[i+j]+cy)%4294967296))+(l[i]*r[j]+out[i+j]+cy)/4294967296*4294967296^(i+(j+1)) =
    val 4294967296 out0+l[i]*val 4294967296 (r.take (j+1))*4294967296^i:=by
 have h3:=hD4 out[i+j] (gM hk);have hmm:=Ak0 h1 h2;refine⟨by simp[hD1],oo,oo,Ru hD4 (Nat.mod_lt _ oo),fun q hq hiq=>?_,?_⟩
 .rw[List.getElem_set_ne oo];exact hD5 q (sV hq) hiq
 .have hs:=Wa (b:=4294967296) out (i+j) ((l[i]*r[j]+out[i+j]+cy)%4294967296) hk;rw[El r j hj];generalize hV:val 4294967296 (out.set (i+j) ((l[i]*r[j]+out[i+j]+cy)%4294967296))=V at hs⊢;have hdm:=Nat.div_add_mod (l[i]*r[j]+out[i+j]+cy) 4294967296;generalize (l[i]*r[j]+out[i+j]+cy)/4294967296=q at hdm⊢;generalize (l[i]*r[j]+out[i+j]+cy)%4294967296=t at hdm hs;have hp:(4294967296:Nat)^(i+(j+1))=4294967296^(i+j)*4294967296:=by rw[<-Nat.add_assoc,Nat.pow_succ]
  have hp2:(4294967296:Nat)^(i+j)=4294967296^i*4294967296^j:=Nat.pow_add _ _ _;rw[hp];rw[hp2] at hs hD6 ⊢;generalize (4294967296:Nat)^i=P at *;generalize (4294967296:Nat)^j=R at *;generalize val 4294967296 (r.take j)=W at *;generalize val 4294967296 out=O at *;generalize val 4294967296 out0=O0 at *;generalize l[i]=a at *;generalize r[j]=c at *;generalize out[i+j]=o at *;have e:=congrArg (· * (P*R)) hdm;grind
theorem Ark{l r out out0:List Nat}{n m i j cy:Nat}(hi:i<l.length)(hn:l.length=n)(hm:r.length=m)(hD1:out.length=n+m)(hD2:cy<4294967296)(hD4:∀ x∈out,x<4294967296)(hD5:∀ (q:Nat) (h:q<out.length),i+m<=q->out[q]=0)(hD6:val 4294967296 out+cy*4294967296 ^ (i+j)=val 4294967296 out0+l[i] * val 4294967296 (r.take j)*4294967296 ^ i)(hC5:val 4294967296 out0=val 4294967296 (l.take i)*val 4294967296 r)(hj:j=m):
  (out.set (i+m) (cy%4294967296)).length=n+m/\i+1<=n/\(∀x∈out.set (i+m) (cy%4294967296),x<4294967296) /\
   (∀(q:Nat) (h:q<(out.set (i+m) (cy%4294967296)).length),i+1+m<=q->(out.set (i+m) (cy%4294967296))[q]=0) /\
   val 4294967296 (out.set (i+m) (cy%4294967296))=val 4294967296 (l.take (i+1))*val 4294967296 r:=by
 subst hj;rw[Nat.mod_eq_of_lt hD2];refine⟨by simp[hD1],oo,Ru hD4 hD2,fun q hq hiq=>?_,?_⟩
 .rw[List.getElem_set_ne oo];exact hD5 q (sV hq) oo
 .have hk:i+j<out.length:=oo;have hs:=Wa (b:=4294967296) out (i+j) cy hk;rw[hD5 (i+j) hk (nL _)] at hs;rw[El l i hi];rw[List.take_of_length_le oo] at hD6;rw[hC5] at hD6;rw[Nat.add_mul];have:4294967296^i*l[i]*val 4294967296 r=l[i]*val 4294967296 r*4294967296^i:=by grind
  omega
theorem Atr{l r out:LM}{n m i:Nat}(hi:i=n)(hn:l.length=n)(hC1:out.length=n+m)(hC3:∀x∈out,x<4294967296)(hC5:val 4294967296 out=val 4294967296 (l.take i)*val 4294967296 r):nrm out=dig 4294967296 (val 4294967296 l*val 4294967296 r):=by
 subst hi;rw[Qb (b:=4294967296) oo out hC3,hC5,List.take_of_length_le oo]
theorem Ak1{a b:Nat}(ha:a<65536)(hb:b<65536):a*b<=4294836225:=by
 have:a*b<=65535*65535:=Nat.mul_le_mul oo oo;omega
theorem Ak2{l r out out0:List Nat}{n m i j cy:Nat}(hi:i<l.length)(hj:j<r.length)(hn:l.length=n)(hm:r.length=m)(h1:l[i]<65536)(h2:r[j]<65536)(hD1:out.length=n+m)(hD2:cy<65536)(hD3:j<=m)(hD4:∀ x∈out,x<65536)(hD5:∀ (q:Nat) (h:q<out.length),i+m<=q->out[q]=0)(hD6:val 65536 out+cy*65536 ^ (i+j)=val 65536 out0+l[i] * val 65536 (r.take j)*65536 ^ i)(hk:i+j<out.length):
  (out.set (i+j) ((l[i]*r[j]+out[i+j]+cy)%65536)).length=n+m/\(l[i]*r[j]+out[i+j]+cy)/65536<65536/\j+1<=m /\
   (∀x∈out.set (i+j) ((l[i]*r[j]+out[i+j]+cy)%65536),x<65536) /\
   (∀(q:Nat) (h:q<(out.set (i+j) ((l[i]*r[j]+out[i+j]+cy)%65536)).length),i+m<=q->(out.set (i+j) ((l[i]*r[j]+out[i+j]+cy)%65536))[q]=0) /\
   val 65536 (out.set (i+j) ((l[i]*r[j]+out[i+j]+cy)%65536))+(l[i]*r[j]+out[i+j]+cy)/65536*65536^(i+(j+1)) =
    val 65536 out0+l[i]*val 65536 (r.take (j+1))*65536^i:=by
 have h3:=hD4 out[i+j] (gM hk);have hmm:=Ak1 h1 h2;refine⟨by simp[hD1],oo,oo,Ru hD4 (Nat.mod_lt _ oo),fun q hq hiq=>?_,?_⟩
 .rw[List.getElem_set_ne oo];exact hD5 q (sV hq) hiq
 .have hs:=Wa (b:=65536) out (i+j) ((l[i]*r[j]+out[i+j]+cy)%65536) hk;rw[El r j hj];generalize hV:val 65536 (out.set (i+j) ((l[i]*r[j]+out[i+j]+cy)%65536))=V at hs⊢;have hdm:=Nat.div_add_mod (l[i]*r[j]+out[i+j]+cy) 65536;generalize (l[i]*r[j]+out[i+j]+cy)/65536=q at hdm⊢;generalize (l[i]*r[j]+out[i+j]+cy)%65536=t at hdm hs;have hp:(65536:Nat)^(i+(j+1))=65536^(i+j)*65536:=by rw[<-Nat.add_assoc,Nat.pow_succ]
  have hp2:(65536:Nat)^(i+j)=65536^i*65536^j:=Nat.pow_add _ _ _;rw[hp];rw[hp2] at hs hD6 ⊢;generalize (65536:Nat)^i=P at *;generalize (65536:Nat)^j=R at *;generalize val 65536 (r.take j)=W at *;generalize val 65536 out=O at *;generalize val 65536 out0=O0 at *;generalize l[i]=a at *;generalize r[j]=c at *;generalize out[i+j]=o at *;have e:=congrArg (· * (P*R)) hdm;grind
theorem Ak3{l r out out0:List Nat}{n m i j cy:Nat}(hi:i<l.length)(hn:l.length=n)(hm:r.length=m)(hD1:out.length=n+m)(hD2:cy<65536)(hD4:∀ x∈out,x<65536)(hD5:∀ (q:Nat) (h:q<out.length),i+m<=q->out[q]=0)(hD6:val 65536 out+cy*65536 ^ (i+j)=val 65536 out0+l[i] * val 65536 (r.take j)*65536 ^ i)(hC5:val 65536 out0=val 65536 (l.take i)*val 65536 r)(hj:j=m):
  (out.set (i+m) (cy%65536)).length=n+m/\i+1<=n/\(∀x∈out.set (i+m) (cy%65536),x<65536) /\
   (∀(q:Nat) (h:q<(out.set (i+m) (cy%65536)).length),i+1+m<=q->(out.set (i+m) (cy%65536))[q]=0) /\
   val 65536 (out.set (i+m) (cy%65536))=val 65536 (l.take (i+1))*val 65536 r:=by
 subst hj;rw[Nat.mod_eq_of_lt hD2];refine⟨by simp[hD1],oo,Ru hD4 hD2,fun q hq hiq=>?_,?_⟩
 .rw[List.getElem_set_ne oo];exact hD5 q (sV hq) oo
 .have hk:i+j<out.length:=oo;have hs:=Wa (b:=65536) out (i+j) cy hk;rw[hD5 (i+j) hk (nL _)] at hs;rw[El l i hi];rw[List.take_of_length_le oo] at hD6;rw[hC5] at hD6;rw[Nat.add_mul];have:65536^i*l[i]*val 65536 r=l[i]*val 65536 r*65536^i:=by grind
  omega
theorem Ana{l r out:LM}{n m i:Nat}(hi:i=n)(hn:l.length=n)(hC1:out.length=n+m)(hC3:∀x∈out,x<65536)(hC5:val 65536 out=val 65536 (l.take i)*val 65536 r):nrm out=dig 65536 (val 65536 l*val 65536 r):=by
 subst hi;rw[Qb (b:=65536) oo out hC3,hC5,List.take_of_length_le oo]
theorem Ax1{b:Nat}(hb:2<=b)(m:Nat):nrm (dig b m)=dig b m:=by
 rw[Qb hb _ (Ng hb m),Ch hb]
theorem Ae8{b:Nat}(hb:2<=b):dig b 1=[1]:=by
 rw[Hw hb oo,Nat.mod_eq_of_lt oo,Nat.div_eq_of_lt oo];rfl
theorem Ai4{b : Nat}(hb : 2 <= b): ∀ (k m : Nat), m<b ^ k -> (dig b m).length <= k := by
  intro k
  induction k with
  | zero => intro m hm;have : m = 0 := by simpa using hm
            subst this;simp[Hy]
  | succ k ih=>
    intro m hm
    by_cases h0:m=0
    · subst h0;simp[Hy]
    · rw[Hw hb h0, List.length_cons];have:=ih (m/b) (Nat.div_lt_of_lt_mul (by rw[Nat.pow_succ] at hm;rw[Nat.mul_comm];exact hm));omega
variable {P:Program}{n:Nat}{N:AW}{Q:Exit->AW}{fr:lF}{L:LE}
def cmpN(x y:Nat):Int:=if x<y then -1 else if x=y then 0 else 1
theorem Ai5{b:Nat}(hb:0<b):∀(l r:LM) (k:Nat) (hk:k<l.length) (hk':k<r.length),l.length=r.length->(∀x∈l,x<b)->(∀(j:Nat) (h:j<l.length) (h':j<r.length),k<j->l[j]=r[j])->l[k]<r[k]->val b l<val b r
 |[],_,_,hk,_,_,_,_,_=>by simp at hk
 |_::_,[],_,_,hk',_,_,_,_=>by simp at hk'
 |x::l,y::r,0,_,_,hlen,_,heq,hlt=>by
  have:l=r:=List.ext_getElem (sV hlen) (fun j h1 h2=>heq (j+1) (sV h1) (sV h2) oo);subst this;simp only[val];simpa using hlt
 |x::l,y::r,k+1,hk,hk',hlen,hl,heq,hlt=>by
  have ih:=Ai5 hb l r k (sV hk) (sV hk') (sV hlen) (fun z hz=>hl z (mO _ hz))
   (fun j h1 h2 hj=>heq (j+1) (sV h1) (sV h2) oo) (sV hlt)
  have hx:=hl x mS;simp only[val];have:=Nat.mul_le_mul_left b (Nat.succ_le_of_lt ih);rw[Nat.succ_eq_add_one,Nat.mul_add] at this;omega
theorem Xv{b x y : Nat}(hb : 2 <= b)(h : (dig b x).length<(dig b y).length): x<y := by
  rcases Nat.lt_or_ge x y with h1|h1
  · exact h1
  · exfalso;have mono : ∀ (k x y : Nat), y <= k -> y <= x -> (dig b y).length <= (dig b x).length := by
      intro k
      induction k with
      | zero => intro x y hy _;have : y = 0 := by omega
                subst this;simp[Hy]
      | succ k ih=>
        intro x y hy hxy
        by_cases h0:y=0
        · subst h0;simp[Hy]
        · rw[Hw hb h0, Hw hb (oo:x ≠ 0)];have:y/b<y:=Nat.div_lt_self oo hb;have:=ih (x/b) (y/b) oo (Nat.div_le_div_right hxy);simpa using this
    have:=mono y x y (nL _) h1;omega
theorem Ae9{b x y:Nat}(hb:2<=b){n m:Nat}(h1:(dig b x).length=n)(h2:(dig b y).length=m):(n<m->cmpN x y = -1)/\(m<n->cmpN x y=1):=by
 subst h1;subst h2;constructor
 .intro h;have:=Xv hb h;simp[cmpN,this]
 .intro h;have:=Xv hb h;simp only[cmpN];rw[iN oo,iN oo]
theorem Ats{b x y:Nat}(hb:2<=b){k:Nat}(hlen:(dig b x).length=(dig b y).length)(hk:k<(dig b x).length)(hk':k<(dig b y).length)(heq:∀ (j:Nat) (h:j<(dig b x).length) (h':j<(dig b y).length),k<j->(dig b x)[j]=(dig b y)[j]):
  ((dig b x)[k]<(dig b y)[k]->cmpN x y = -1)/\((dig b y)[k]<(dig b x)[k]->cmpN x y=1):=by
 constructor
 .intro h;have:=Ai5 (b:=b) oo _ _ k hk hk' hlen (Ng hb x) heq h;rw[Ch hb,Ch hb] at this;simp[cmpN,this]
 .intro h;have:=Ai5 (b:=b) oo _ _ k hk' hk hlen.symm (Ng hb y) (fun j h1 h2 hj=>(heq j h2 h1 hj).symm) h;rw[Ch hb,Ch hb] at this;simp only[cmpN];rw[iN oo,iN oo]
theorem Att{b x y:Nat}(hb:2<=b)(hlen:(dig b x).length=(dig b y).length)(heq:∀(j:Nat) (h:j<(dig b x).length) (h':j<(dig b y).length),(dig b x)[j]=(dig b y)[j]):cmpN x y=0:=by
 have:dig b x=dig b y:=List.ext_getElem hlen heq;have h2:=congrArg (val b) this;rw[Ch hb,Ch hb] at h2;simp[cmpN,h2]
theorem Zf{K K2 L:LE}{w w1:World}(hK:∀e∈K,Ent.ok w e)(h0:SubE [.old w] L)(h:SubE K2 L)(hw:Heap L w1):∀e∈K++K2,Ent.ok w1 e:=by
 intro e he;rcases List.mem_append.1 he with he|he
 .exact Ent.ext (hK e he) (h0.ok w1 hw.ok _ mS)
 .exact h.ok w1 hw.ok e he
theorem SubE.appL{K K2:LE}:SubE K (K++K2):=.of fun _ h=>List.mem_append_left _ h
theorem SubE.appR{K K1 K2:LE}(h:SubE K1 K2):SubE K1 (K++K2):=⟨fun w hw=>h.ok w fun x hx=>hw x (List.mem_append_right _ hx)⟩
theorem Ax2{b:Nat}(hb:2<=b):∀(i m:Nat) (h:i<(dig b m).length),(dig b m)[i]=m/b^i%b:=by
 intro i
 induction i with
 |zero=>
  intro m h;have h0:m≠0:=by intro h0;subst h0;simp[Hy] at h
  simp only[Hw hb h0,List.getElem_cons_zero,Nat.pow_zero,Nat.div_one]
 |succ i ih=>
  intro m h;have h0:m≠0:=by intro h0;subst h0;simp[Hy] at h
  have h':i<(dig b (m/b)).length:=by rw[Hw hb h0] at h;simpa using h
  simp only[Hw hb h0,List.getElem_cons_succ];rw[ih _ h',Nat.div_div_eq_div_mul,Nat.pow_succ,Nat.mul_comm]
theorem Ao8{b:Nat}(hb:2<=b):∀(i m:Nat),i<(dig b m).length↔m/b^i≠0:=by
 intro i
 induction i with
 |zero=>
  intro m;rw[Nat.pow_zero,Nat.div_one,List.length_pos_iff,ne_eq,Tu hb]
 |succ i ih=>
  intro m
  by_cases h0:m=0
  .subst h0;simp[Hy]
  .rw[Hw hb h0,List.length_cons,Nat.add_lt_add_iff_right,ih,Nat.div_div_eq_div_mul,Nat.pow_succ,Nat.mul_comm b]
end
section
variable {P:Program}{n:Nat}{fr:lF}{L:LE}{dst:Option Nat}{ty:TypeId}{pos:String}{after:AE}{guard:ON}
inductive EqF(P:Program)(d:Nat)(xs ys:Array Value):List Field->Bool->Prop
 |nil:EqF P d xs ys [] true
 | cons {f fs a b r r'} (hn : (f.name == "_") = false) (hx : ∀ w, (part f.type xs f.offset).run P w = .ok a w) (hy : ∀ w, (part f.type ys f.offset).run P w = .ok b w)
   (he:∀w,(Op.equalIn d f.type a b).run P w=.ok r w) (h:EqF P d xs ys fs r'):EqF P d xs ys (f::fs) (r&&r')
theorem EqF.run{d xs ys fs r}(h:EqF P d xs ys fs r):∀w,(Op.eqFields d xs ys fs).run P w=.ok r w:=by
 induction h with
 |nil=>intro w;simp[Op.eqFields]
 |cons hn hx hy he _ ih=>
  intro w;rename_i f fs a b r r' _;have hn':f.name ≠ "_" := by simpa using hn
  simp only[Op.eqFields,hn',ne_eq,not_false_eq_true,if_true,Sem.run_bind,hx,hy,he,Result.andThen_ok];cases r with
  |true=>simp[ih w]
  |false=>simp
theorem EqF.struct{d t xs ys r fs}(ht:P.underlying t=some (.struct fs))(hp:P.stoodInHeld t=false)(h:EqF P d xs ys fs.toList r):∀w,(Op.equalIn (d+1) t (.agg xs) (.agg ys)).run P w=.ok r w:=by
 intro w;have hf:P.fieldsOf t=fs:=by simp[Program.fieldsOf,ht]
 rw[run_equalIn_struct w d t xs ys (by rw[hf];exact ht) hp,hf];exact h.run w
theorem Ax3{t t' x y xs ys r}(hx:evo fr x=some (.agg xs))(hy:evo fr y=some (.agg ys))(hm:P.eqGuardType P.depth t=false)(h:∀ w,(Op.equalIn 10000 t (.agg xs) (.agg ys)).run P w = .ok r w):
  Ev P n ⟨dst,.binOp .eql t x y t',ty,pos,after,guard⟩ fr L (.bool r):=fun ac w ha _=>by
 simp[execOp,ha.eval hx,ha.eval hy,run_eqGuard_agg w .eql t x y xs ys hm,run_eql_struct,h]
theorem Ax4{t t' x y xs ys r}(hx:evo fr x=some (.agg xs))(hy:evo fr y=some (.agg ys))(hm:P.eqGuardType P.depth t=false)(h:∀ w,(Op.equalIn 10000 t (.agg xs) (.agg ys)).run P w = .ok r w):
  Ev P n ⟨dst,.binOp .neq t x y t',ty,pos,after,guard⟩ fr L (.bool (!r)):=fun ac w ha _=>by
 simp[execOp,ha.eval hx,ha.eval hy,run_eqGuard_agg w .neq t x y xs ys hm,run_neq_struct,h]
section
variable {ops:Array Oper}{Q:Exit->AW}{rest:List Oper}{op:Op}{d:Nat}{cls:Cls}{A:LL}{RL:LM}{R:World->Prop}{p alt:Plan}{i:Nat}
theorem Zg{j s:Nat}{b:Bool}{a:Act}(hj:(ops[j]?).bind (·.dst)=some s)(ha:Fr n fr a)(hs:look fr s=some undef)(hsn:Nat.blt s n=true):
  Region.wanted ⟨some d,op,ty,pos,after,some (j,b)⟩ (yielded ops a.tmps)=false:=by
 have hv:=ha.val s _ hs;have hlt:s<a.tmps.size:=by rw[ha.size];exact (Nat.blt_eq▸hsn)
 have hg:a.tmps[s]? = some undef:=by
  rw[Array.getD_eq_getD_getElem?,Array.getElem?_eq_getElem hlt] at hv;rw[Array.getElem?_eq_getElem hlt];simpa using hv
 have hy:yielded ops a.tmps j=none:=by
  unfold yielded;rw[hj];simp[hg,undef]
 simp[Region.wanted,hy]
theorem Ao9{j s:Nat}{b:Bool}(hj:(ops[j]?).bind (·.dst)=some s)(hs:look fr s=some undef)(hsn:Nat.blt s n=true)(hd:Nat.blt d n=true)(k:T n (wpList P ops Q rest) ((d,undef)::fr) L):
  T n (wpList P ops Q (⟨some d,op,ty,pos,after,some (j,b)⟩ :: rest)) fr L:=by
 intro a w ha hw;refine wpList_step (fun K hK=>?_);rw[iN (by rw[Zg hj ha hs hsn];simp)];exact hK _ _ (k _ _ (ha.put hd) hw)
theorem Ax5{j s:Nat}{b:Bool}(ho:ops[i]? = some ⟨some d,op,ty,pos,after,some (j,b)⟩)(hj:(ops[j]?).bind (·.dst)=some s)(hs:look fr s=some undef)(hsn:Nat.blt s n=true)(hd:Nat.blt d n=true)(k:T n (Bo P ops Q cls A RL R p) ((d,undef)::fr) L):T n (Bo P ops Q cls A RL R (.q i p)) fr L:=by
 intro a w ha hw;have hwn:Region.wanted ⟨some d,op,ty,pos,after,some (j,b)⟩ (yielded ops a.tmps)=false:=Zg hj ha hs hsn;show if _ then _ else _
 by_cases hc:Nat.beq (cls.getD i 9) 0=true
 .rw[iP hc];exact⟨_,ho,.inr ⟨hwn,k _ _ (ha.put hd) hw⟩⟩
 .rw[iN hc];split
  .exact⟨_,ho,.inr ⟨hwn,k _ _ (ha.put hd) hw⟩⟩
  .exact⟨_,ho,.inr ⟨hwn,k _ _ (ha.put hd) hw⟩⟩
end
end
def gd{ρ:Type}(p:Prop)[Decidable p](k:Option ρ):Option ρ:=if p then k else none
def bnd{α ρ:Type}(o:Option α)(k:α->Option ρ):Option ρ:=match o with
 |some x=>k x
 |none=>none
def jn{τ ρ:Type}(k:τ->Option ρ)(x:(τ->Option ρ)->Option ρ):Option ρ:=x k
theorem Dv{ρ:Type}{p:Prop}[Decidable p]{k:Option ρ}{r:ρ}(h:gd p k=some r):p/\k=some r:=by
 unfold gd at h;split at h
 .exact⟨‹_›,h⟩
 .cases h
theorem Aq{α ρ:Type}{o:Option α}{k:α->Option ρ}{r:ρ}(h:bnd o k=some r):∃x,o=some x/\k x=some r:=by
 cases o with
 |none=>cases h
 |some x=>exact⟨x,rfl,h⟩
theorem Aal{τ ρ:Type}{k:τ->Option ρ}{x:(τ->Option ρ)->Option ρ}{r:ρ}(h:jn k x=some r):∃j,j=k/\x j=some r:=⟨k,rfl,h⟩
theorem Qc{ρ:Type}{p:Prop}[Decidable p]{a b o:Option ρ}(hp:p)(h:(if p then a else b)=o):a=o:=by rw[iP hp] at h;exact h
theorem Acf{ρ:Type}{p:Prop}[Decidable p]{a b o:Option ρ}(hp:¬p)(h:(if p then a else b)=o):b=o:=by rw[iN hp] at h;exact h
theorem Sq{ρ:Type}{p:Bool}{a b o:Option ρ}(hp:p=false)(h:(if p=true then a else b)=o):b=o:=by subst hp;exact h
def lrun{σ τ:Type}(B:σ->Option (Sum σ τ)):Nat->σ->Option τ
 |0,_=>none
 |n+1,s=>match B s with
  |some (.inl s')=>lrun B n s'
  |some (.inr t)=>some t
  |none=>none
def lfix{σ τ:Type}(B:σ->Option (Sum σ τ))(s:σ):Option τ :=
 @dite (Option τ) (∃n t,lrun B n s=some t) (Classical.propDecidable _) (fun h=>some (Classical.choose (Classical.choose_spec h))) (fun _=>none)
theorem Aam{σ τ:Type}{B:σ->Option (Sum σ τ)}:∀{n m:Nat} {s:σ} {t:τ},lrun B n s=some t->n<=m->lrun B m s=some t
 |0,_,_,_,h,_=>by simp[lrun] at h
 |n+1,0,_,_,_,h=>oo
 |n+1,m+1,s,t,h,hm=>by
  simp only[lrun] at h⊢;split at h
  .exact Aam h oo
  .exact h
  .cases h
theorem Afp{σ τ:Type}{B:σ->Option (Sum σ τ)}{n m:Nat}{s:σ}{t u:τ}(h:lrun B n s=some t)(h':lrun B m s=some u):t=u:=by
 have h1:=Aam h (Nat.le_max_left n m);have h2:=Aam h' (Nat.le_max_right n m);rw[h1] at h2;injection h2
theorem Va{σ τ:Type}{B:σ->Option (Sum σ τ)}{s:σ}{t:τ}:lfix B s=some t↔∃n,lrun B n s=some t:=by
 unfold lfix;constructor
 .intro h;split at h
  .rename_i hx;injection h with h
   obtain hs:=Classical.choose_spec (Classical.choose_spec hx);rw[h] at hs;exact⟨_,hs⟩
  .cases h
 .rintro⟨n,h⟩;have hx:∃n t,lrun B n s=some t:=⟨n,t,h⟩;rw[dif_pos hx];exact congrArg some (Afp (Classical.choose_spec (Classical.choose_spec hx)) h)
theorem Ax{σ τ:Type}(B:σ->Option (Sum σ τ))(s:σ):lfix B s=match B s with
  |some (.inl s')=>lfix B s'
  |some (.inr t)=>some t
  |none=>none:=by
 apply Option.ext;intro t;rw[Va];constructor
 .rintro⟨n,h⟩;cases n with
  |zero=>simp[lrun] at h
  |succ n=>
   simp only[lrun] at h;split at h
   .rename_i s' hb;exact Va.2 ⟨n,h⟩
   .exact h
   .cases h
 .intro h;cases hb:B s with
  |none=>rw[hb] at h;cases h
  |some x=>
   rw[hb] at h;cases x with
   |inl s'=>
    obtain⟨n,hn⟩:=Va.1 h;exact⟨n+1,by simp only[lrun,hb];exact hn⟩
   |inr u=>exact⟨1,by simp only[lrun,hb];exact h⟩
def Abf{σ τ:Type}(B:σ->Option (Sum σ τ))(s:σ):Nat:=@dite Nat (∃n t,lrun B n s=some t) (Classical.propDecidable _) (fun h=>go (Classical.choose h)) (fun _=>0)
where go (n:Nat):Nat:=match n with
 |0=>0
 |k+1=>if (lrun B k s).isSome=true then go k else k+1
theorem Ak4{σ τ:Type}(B:σ->Option (Sum σ τ))(s:σ):∀(n:Nat) (t:τ),lrun B n s=some t->lrun B (Abf.go B s n) s=some t/\∀m u,lrun B m s=some u->Abf.go B s n<=m
 |0,t,h=>by simp[lrun] at h
 |n+1,t,h=>by
  unfold Abf.go
  by_cases hx:(lrun B n s).isSome=true
  .rw[iP hx];obtain⟨u,hu⟩:=Option.isSome_iff_exists.1 hx;rw[Afp h hu];exact Ak4 B s n u hu
  .rw[iN hx];refine⟨h,fun m u hm=>?_⟩;rcases Nat.lt_or_ge m (n+1) with hlt|hge
   .exact absurd (by rw[Aam hm (oo:m<=n)];rfl) hx
   .exact hge
theorem Afq{σ τ:Type}{B:σ->Option (Sum σ τ)}{s:σ}{t:τ}(h:lfix B s=some t):lrun B (Abf B s) s=some t/\∀m u,lrun B m s=some u->Abf B s<=m:=by
 obtain⟨n,hn⟩:=Va.1 h;have hx:∃n t,lrun B n s=some t:=⟨n,t,hn⟩;unfold Abf;rw[dif_pos hx];obtain⟨u,hu⟩:=Classical.choose_spec hx;have:=Afp hu hn;subst this;exact Ak4 B s _ u hu
theorem Atu{σ τ:Type}{B:σ->Option (Sum σ τ)}{s s':σ}{t:τ}(h:lfix B s=some t)(hb:B s=some (.inl s')):lfix B s'=some t/\Abf B s'<Abf B s:=by
 obtain⟨h1,_⟩:=Afq h;cases hn:Abf B s with
 |zero=>rw[hn] at h1;simp[lrun] at h1
 |succ n=>
  rw[hn] at h1;simp only[lrun,hb] at h1;exact⟨Va.2 ⟨n,h1⟩,Nat.lt_succ_of_le ((Afq (Va.2 ⟨n,h1⟩)).2 n t h1)⟩
theorem Bp{σ τ:Type}{B:σ->Option (Sum σ τ)}(μ:σ->Nat)(C:σ->Prop)(R:τ->Prop)(h:∀ s,C s->(∃ s',B s=some (.inl s')/\C s'/\μ s'<μ s)\/∃ t,B s=some (.inr t)/\R t):
  ∀s,C s->∃t,lfix B s=some t/\R t:=by
 have key:∀(n:Nat) (s:σ),μ s=n->C s->∃t,lfix B s=some t/\R t:=by
  intro n
  induction n using Nat.strongRecOn with
  |ind n ih=>
   intro s hn hs;rw[Ax];rcases h s hs with⟨s',hb,hC,hm⟩|⟨t,hb,hR⟩
   .rw[hb];exact ih (μ s') oo s' rfl hC
   .rw[hb];exact⟨t,rfl,hR⟩
 exact fun s hs=>key _ s rfl hs
theorem Atv{σ τ:Type}{B:σ->Option (Sum σ τ)}{s0:σ}{t:τ}(C:σ->Prop)(R:τ->Prop)(h0:C s0)(h1:∀s s',C s->B s=some (.inl s')->C s')(h2:∀s t,C s->B s=some (.inr t)->R t)(h:lfix B s0=some t):R t:=by
 obtain⟨n,hn⟩:=Va.1 h;clear h
 induction n generalizing s0 with
 |zero=>simp[lrun] at hn
 |succ n ih=>
  simp only[lrun] at hn;split at hn
  .rename_i s' hb;exact ih (h1 s0 s' h0 hb) hn
  .rename_i t' hb;injection hn with hn;subst hn;exact h2 s0 t' h0 hb
  .cases hn
def idx{α:Type}(l:List α)(i:Int):Option α:=if 0<=i then l[i.toNat]? else none
def setI{α:Type}(l:List α)(i:Int)(x:α):List α:=l.set i.toNat x
theorem Zh{α:Type}{l:List α}{i:Int}{x:α}(h:idx l i=some x):∃(j:Nat) (hj:j<l.length),i=(j:Int)/\l[j]=x:=by
 unfold idx at h;split at h
 .obtain⟨hj,hx⟩:=List.getElem?_eq_some_iff.1 h;exact⟨i.toNat,hj,oo,hx⟩
 .cases h
theorem Az{α:Type}{l:List α}{j:Nat}(hj:j<l.length):idx l (j:Int)=some l[j]:=by
 unfold idx;rw[iP oo];simp[hj]
theorem Je{α:Type}{l:List α}{i:Int}{x:α}:(setI l i x).length=l.length:=by simp[setI]
theorem Vb{α:Type}{l:List α}{j:Nat}{x:α}:setI l (j:Int) x=l.set j x:=by simp[setI]
def subl{α:Type}(l:List α)(i j:Int):List α:=(l.take j.toNat).drop i.toNat
theorem Ak5{α:Type}(l:List α)(j:Int):subl l 0 j=l.take j.toNat:=by simp[subl]
def w64(x:Int):Int:=IntKind.wrap .i64 x
def wu64(x:Int):Int:=IntKind.wrap .u64 x
def wu32(x:Int):Int:=IntKind.wrap .u32 x
def wu8(x:Int):Int:=IntKind.wrap .u8 x
theorem Bat(x:Int):w64 x=(x+9223372036854775808)%18446744073709551616-9223372036854775808:=by
 unfold w64;rw[IntKind.wrap_i64]
theorem Av{x:Int}(h:-9223372036854775808<=x)(h':x<=9223372036854775807):w64 x=x:=by rw[Bat];omega
def Abr:LE->Nat->Option (Ent×LE)
 |[],_=>none
 |e::r,0=>some (e,r)
 |e::r,i+1=>match Abr r i with
  |some (x,r')=>some (x,e::r')
  |none=>none
theorem Zi:∀{L:LE} {i:Nat} {e:Ent} {L1:LE},Abr L i=some (e,L1)->L.Perm (e::L1)
 |[],_,_,_,h=>by simp[Abr] at h
 |x::r,0,e,L1,h=>by simp[Abr] at h;obtain⟨rfl,rfl⟩:=h;exact List.Perm.refl _
 |x::r,i+1,e,L1,h=>by
  simp only[Abr] at h;split at h
  .rename_i y r' hy;injection h with h;injection h with h1 h2
   subst h1;subst h2;exact ((Zi hy).cons x).trans (List.Perm.swap _ _ _)
  .cases h
inductive Ix:LE->LE->Prop
 |refl {L}:Ix L L
 |pick {L e L1 L'} (i:Nat):Abr L i=some (e,L1)->Ix L1 L'->Ix L (e::L')
 |drop {L e L1 L'} (i:Nat):Abr L i=some (e,L1)->Ix L1 L'->Ix L L'
theorem Ix.sub{L L':LE}(h:Ix L L'):∃M,L.Perm M/\L'.Sublist M:=by
 induction h with
 |refl=>exact⟨_,List.Perm.refl _,List.Sublist.refl _⟩
 |pick i ht _ ih=>
  obtain⟨M,h1,h2⟩:=ih;exact⟨_,(Zi ht).trans (h1.cons _),h2.cons_cons _⟩
 |drop i ht _ ih=>
  obtain⟨M,h1,h2⟩:=ih;exact⟨_,(Zi ht).trans (h1.cons _),h2.cons _⟩
theorem Heap.pick{L L':LE}{w:World}(h:Heap L w)(hp:Ix L L'):Heap L' w:=by
 obtain⟨M,h1,h2⟩:=hp.sub;have h':=h.perm h1;exact⟨fun e he=>h'.ok e (h2.mem he),h'.sep.sublist h2⟩
section
variable {P:Program}{n:Nat}{N:AW}{Q:Exit->AW}{fr:lF}{L:LE}
def Met{τ γ ρ:Type}(n:Nat)(J:τ->Option ρ)(out:ρ)(I:τ->γ->lF)(H:τ->γ->LE)(G:τ->γ->Prop)(a:Act)(w:World):Prop :=
 ∃s g,J s=some out/\G s g/\Fr n (I s g) a/\Heap (H s g) w
theorem Xw{τ γ ρ:Type}{J:τ->Option ρ}{out:ρ}(I:τ->γ->lF)(H:τ->γ->LE)(G:τ->γ->Prop){x y:Code}(k2:∀s g,J s=some out->G s g->T n (y.wp P Q) (I s g) (H s g))(k:T n (x.wp P (Exit.then (Met n J out I H G) Q)) fr L):T n ((Code.seq x y).wp P Q) fr L:=by
 intro a w ha hw;refine wp_seq (wp_mono (k a w ha hw) ?_);intro e a' w' hq;cases e with
 |normal=>obtain⟨s,g,h1,h2,h3,h4⟩:=hq;exact k2 s g h1 h2 a' w' h3 h4
 |_=>exact hq
theorem Anb{τ γ ρ:Type}{J:τ->Option ρ}{out:ρ}{I:τ->γ->List (Nat × Value)}{H:τ->γ->List Ent}{G:τ->γ->Prop}(s:τ)(g:γ)(hJ:J s=some out)(hG:G s g)(hF:SubF (I s g) fr)(hH:Ix L (H s g)):
  T n (Exit.then (Met n J out I H G) Q .normal) fr L:=fun _ _ ha hw=>⟨s,g,hJ,hG,ha.sub hF,hw.pick hH⟩
def Rnd{σ τ γ:Type}(n:Nat)(x:Sum σ τ)(I:σ->γ->lF)(H:σ->γ->LE)(G:σ->γ->Prop)(a:Act)(w:World):Prop :=
 ∃s g,x=.inl s/\G s g/\Fr n (I s g) a/\Heap (H s g) w
theorem Ai6{σ τ γ:Type}{B:σ->Option (Sum σ τ)}{s0:σ}{t:τ}(hl:lfix B s0=some t)(I:σ->γ->List (Nat × Value))(H:σ->γ->List Ent)(G:σ->γ->Prop)(g0:γ)(hG:G s0 g0)(hF:SubF (I s0 g0) fr)(hH:Ix L (H s0 g0)){c:Code}(body:∀ s g,G s g->∀ x,B s=some x->(∀ t',x = .inr t'->t'=t)->T n (c.wp P (Exit.then (Rnd n x I H G) Q)) (I s g) (H s g)):
  T n ((Code.loop c).wp P Q) fr L:=by
 refine fun a w ha hw=>?_
 refine Aw4 (fr:=fr) (L:=H s0 g0) (σ:=σ×γ) (fun s=>I s.1 s.2) (fun s=>H s.1 s.2) (fun s=>G s.1 s.2/\lfix B s.1=some t) (fun s=>Abf B s.1) (s0,g0) ⟨hG,hl⟩ hF .refl ?_ a w ha (hw.pick hH);clear ha hw a w;rintro⟨s,g⟩ ⟨hG,hs⟩;have hs0:=hs;rw[Ax] at hs;cases hb:B s with
 |none=>rw[hb] at hs;cases hs
 |some x=>
  intro a w ha hw;refine wp_mono (body s g hG x hb (fun t' hx=>?_) a w ha hw) ?_
  .subst hx;rw[hb] at hs;injection hs
  .intro e a' w' hq;cases e with
   |normal=>
    obtain⟨s',g',hx,h1,h2,h3⟩:=hq;subst hx;obtain⟨h4,h5⟩:=Atu hs0 hb;exact⟨(s',g'),⟨h1,h4⟩,h5,h2,h3⟩
   |_=>exact hq
theorem Afr{σ τ γ:Type}{x:Sum σ τ}{I:σ->γ->List (Nat × Value)}{H:σ->γ->List Ent}{G:σ->γ->Prop}(s:σ)(g:γ)(hx:some (.inl s)=some x)(hG:G s g)(hF:SubF (I s g) fr)(hH:Ix L (H s g)):
  T n (Exit.then (Rnd n x I H G) Q .normal) fr L:=fun _ _ ha hw=>⟨s,g,(oI hx).symm,hG,ha.sub hF,hw.pick hH⟩
theorem Mg{σ τ:Type}{x:Sum σ τ}{t t':τ}(ht:∀t',x=.inr t'->t'=t)(hx:some (.inr t')=some x):t'=t:=ht t' (oI hx).symm
theorem Adk(k:T n N fr L):T n N fr ([]++L):=k
theorem Qd{a:Ent}(k:T n N fr (a::L)):T n N fr ([a]++L):=k
theorem Abs{a b:Ent}(k:T n N fr (a::b::L)):T n N fr ([a,b]++L):=k
theorem Rv{a b c:Ent}(k:T n N fr (a::b::c::L)):T n N fr ([a,b,c]++L):=k
theorem Afs{a b c d:Ent}(k:T n N fr (a::b::c::d::L)):T n N fr ([a,b,c,d]++L):=k
theorem Atw{a b c d e f:Ent}(k:T n N fr (a::b::c::d::e::f::L)):T n N fr ([a,b,c,d,e,f]++L):=k
theorem Has.at_idx{α:Type}{K:List Ent}{A m c sz}{enc:α->List Value}{l:List α}{i:Int}{x:α}(h:Has K A m c sz enc l)(hi:idx l i=some x):
  ∃(b o j:Nat),A=some ⟨b,o,none⟩/\i=(j:Int)/\j<m/\Pt K b (o+j*sz) (enc x):=by
 obtain⟨j,hj,h1,h2⟩:=Zh hi;obtain⟨b,o,hA,hp⟩:=h.elem hj;exact⟨b,o,j,hA,h1,by have:=h.len;omega,by rw[<-h2];exact hp⟩
theorem Has.ofRow{α:Type}{enc:α->List Value}{A m c t sz}{l:List α}(hz:0<sz)(he:∀ x,(enc x).length=sz){w:World}(hok:Ent.ok w (.r A m c t sz (l.flatMap enc))):
  Has [.r A m c t sz (l.flatMap enc)] A m c sz enc l:=by
 have hlen:(l.flatMap enc).length=l.length*sz:=by
  clear hok
  induction l with
  |nil=>simp
  |cons x r ih=>rw[List.flatMap_cons,List.length_append,he x,ih,List.length_cons,Nat.succ_mul];omega
 have hm:m=l.length:=by
  have h1:=hok.1;rw[hlen] at h1;exact (Nat.eq_of_mul_eq_mul_right hz h1).symm
 subst hm;exact Has.ofR hz (fun x _=>he x) hok
theorem Aft{α:Type}{enc:α->LV}{l:List α}{k A m c t sz}{i:Int}{x:α}(hk:nthE L k=some (.r A m c t sz (l.flatMap enc)))(hz:0<sz)(he:∀x,(enc x).length=sz)(hi:idx l i=some x)(kk:∀(g j:Nat),A=some ⟨g,0,none⟩->i=(j:Int)->j<m->m=l.length->Pt [.r A m c t sz (l.flatMap enc)] g (0+j*sz) (enc x)->T n N fr L):T n N fr L:=by
 intro a w ha hw;have hok:=hw.ok _ (Ee hk);have hs:=Has.ofRow hz he hok;obtain⟨b,o,j,hA,h1,h2,h3⟩:=hs.at_idx hi;have hA0:∃g,A=some ⟨g,0,none⟩:=by
  obtain⟨_,h⟩:=hok;rcases h with⟨hv,h0⟩|⟨g,cap,cur,hv,_⟩
  .omega
  .injection hv with hA;exact⟨g,hA⟩
 obtain⟨g,hg⟩:=hA0;rw[hg] at hA;injection hA with hA
 injection hA with e1 e2 _
 subst e1;subst e2;exact kk _ j hg h1 h2 hs.len.symm h3 a w ha hw
theorem Abt{α:Type}{enc:α->LV}{l:List α}{k A m c t sz}(hk:nthE L k=some (.r A m c t sz (l.flatMap enc)))(hz:0<sz)(he:∀x,(enc x).length=sz)(kk:m=l.length->Has [.r A m c t sz (l.flatMap enc)] A m c sz enc l->T n N fr L):T n N fr L:=by
 intro a w ha hw;have hs:=Has.ofRow hz he (hw.ok _ (Ee hk));exact kk hs.len.symm hs a w ha hw
theorem Aan{α:Type}(enc:α->LV)(l:List α)(ix:Int)(u:α){j sz:Nat}{m:Nat}{x y g o A c t v ty' i L'}{ty:TypeId}{pos:String}{after:AE}{guard:ON}(hx:evo fr x=some (.pointer (some ⟨g,o,none⟩)))(hy:evo fr y=some v)(hv:v.cells=(enc u).toArray)(hL:SetE L i (.r A m c t sz (l.flatMap enc)) (.r A m c t sz ((setI l ix u).flatMap enc)) L')(hA:A=some ⟨g,0,none⟩)(ho:o=0+j*sz)(hix:ix=(j:Int))(hj:j<m)(he:∀x,(enc x).length=sz)(hz:0<sz)(h1:Lx (enc u)=true)(hsz:∀w,(sizeOf ty').run P w=.ok sz w)(k:T n N fr L'):Wh P Q n ⟨none,.store ty' x y,ty,pos,after,guard⟩ fr L N:=by
 intro a w ha hw;have hm:m=l.length:=(Has.ofRow hz he (hw.ok _ hL.mem)).len.symm;subst hm;subst hix;rw[Vb] at hL;exact Asz u hx hy hv hL hA oo hj (fun x _=>he x) (he u) hz h1 hsz k a w ha hw
theorem Apa{α:Type}{enc:α->LV}{l:List α}{i A m c t sz q L'}(hL:SetE L i (.r A m c t sz (l.flatMap enc)) (.r A q c t sz ((l.take q).flatMap enc)) L')(hq:q<=l.length)(hz:0<sz)(he:∀x,(enc x).length=sz)(k:T n N fr L'):T n N fr L:=by
 intro a w ha hw;refine k a w ha (Heap.turn (e:=.r A m c t sz (l.flatMap enc)) (e':=.r A q c t sz ((l.take q).flatMap enc)) (w:=w) (w':=w) ⟨rfl,rfl,rfl,nL _,fun _ _ _=>rfl⟩ ?_ (nL _) (fun g hg=>.inl (by cases A <;> exact hg)) hL hw);have hfl:∀m:List α,(m.flatMap enc).length=m.length*sz:=by
  intro m
  induction m with
  |nil=>simp
  |cons x r ih=>rw[List.flatMap_cons,List.length_append,he x,ih,List.length_cons,Nat.succ_mul];omega
 have hok:=hw.ok _ hL.mem;have hm:m=l.length:=(Has.ofRow hz he hok).len.symm;subst hm;have htk:(l.take q).flatMap enc=(l.flatMap enc).take (q*sz):=by
  have h0:l.flatMap enc=(l.take q).flatMap enc++(l.drop q).flatMap enc:=by rw[<-List.flatMap_append,List.take_append_drop]
  have hlt:((l.take q).flatMap enc).length=q*sz:=by rw[hfl,List.length_take,Nat.min_eq_left hq]
  rw[h0,<-hlt,List.take_left]
 refine⟨by rw[hfl,List.length_take,Nat.min_eq_left hq],?_⟩;rcases hok.2 with⟨hv,h0⟩|⟨g,cap,cur,hv,hb,hh,h3,h4,h5,h6⟩
 .injection hv with e1 e2 e3
  subst e1;subst e3;left;have:q=0:=oo;subst this;exact⟨rfl,rfl⟩
 .injection hv with e1 e2 e3
  subst e1;subst e3;refine .inr ⟨g,c,cur,rfl,hb,hh,oo,h4,h5,?_⟩;rw[htk,<-h6,List.take_take,Nat.min_eq_left (Nat.mul_le_mul_right _ hq)]
theorem Rw{α:Type}(enc:α->List Value)(l ys:List α){d:Nat}{s x t e sz bytes A m c g B q q' t' i i' news ty'}{pos:String}{after:Array Edge}{guard:Option (Nat × Bool)}{L' L2:Option Addr->Nat->List Ent}(hs:evo fr s=some (.slice A m c))(hx:evo fr x=some (.slice B q q'))(hB:B=some ⟨g,0,none⟩)(ht:Yq P t e sz bytes)(he:∀ x,(enc x).length=sz)(hL2:nthE L i'=some (.m g t' news))(hn:news=ys.flatMap enc)(hq:q=ys.length)(h1:Lx news=true)(hb:(l.length+ys.length)*bytes<=140737488355328)(hd:Nat.blt d n=true)(hL:∀ A' c',SetE L i (.r A m c e sz (l.flatMap enc)) (.r A' (l++ys).length c' e sz ((l++ys).flatMap enc)) (L' A' c'))(hsub:∀ A' c',HSub (L' A' c') (L2 A' c'))(h0:0<bytes)(k:∀ A' c',T n N ((d,.slice A' (l++ys).length c')::fr) (L2 A' c')):
  Wh P Q n ⟨some d,.call ⟨.builtin .append,#[s,x],#[t,t]⟩,ty',pos,after,guard⟩ fr L N:=by
 intro a w ha hw;have hm:m=l.length:=(Has.ofRow ht.pos he (hw.ok _ (hL none 0).mem)).len.symm;subst hm;have hfl:∀m:List α,(m.flatMap enc).length=m.length*sz:=by
  intro m
  induction m with
  |nil=>simp
  |cons x r ih=>rw[List.flatMap_cons,List.length_append,he x,ih,List.length_cons,Nat.succ_mul];omega
 subst hn;have hlq:l.length+q=(l++ys).length:=by rw[List.length_append,hq]
 have h63:l.length+q<=9223372036854775807:=by
  have h3:=Nat.mul_le_mul_left (l.length+ys.length) h0;rw[Nat.mul_succ,Nat.mul_zero,Nat.zero_add] at h3;omega
 refine As0 (i:=i) (xs:=l.flatMap enc) (L':=L') (L2:=L2) hs hx hB ht hL2 (by rw[hfl,hq]) h1 (by rw[hq];exact hb) h63 hd ?_ hsub ?_ a w ha hw
 .intro A' c';have:=hL A' c';rw[hlq,<-List.flatMap_append];exact this
 .intro A' c';rw[hlq];exact k A' c'
theorem Zj{α:Type}(enc:α->List Value)(x0:α){d:Nat}{t e x y k1 k2 i1 i2 i z}{ty:TypeId}{pos:String}{after:Array Edge}{guard:Option (Nat × Bool)}(hx:evo fr x=some (.int k1 i1))(hy:evo fr y=some (.int k2 i2))(h12:i1=i2)(hp:0<=i1)(ht:P.underlying t=some (.slice e))(hi:P.info? e=some i)(hz:i.zero=some z)(hzc:z.cells = #[z])(hze:enc x0=[z])(hs:i.size=1)(hb:i.bytes*i1.toNat<=140737488355328)(hb0:0<i.bytes)(hd:Nat.blt d n=true)(k:∀ A,T n N ((d,.slice A (List.replicate i1.toNat x0).length (List.replicate i1.toNat x0).length)::fr) (.r A (List.replicate i1.toNat x0).length (List.replicate i1.toNat x0).length e 1 ((List.replicate i1.toNat x0).flatMap enc)::L)):
  Wx P Q n ⟨some d,.makeSlice t x y,ty,pos,after,guard⟩ fr L N:=by
 have h2:=Nat.mul_le_mul_right i1.toNat hb0;rw[Nat.succ_mul,Nat.zero_mul,Nat.zero_add] at h2;refine Axf (z:=z) (m:=i1.toNat) hx hy oo oo ht hi hz hzc hs oo oo hd (fun A=>?_);have hk:=k A;rw[List.length_replicate] at hk;have hf:(List.replicate i1.toNat x0).flatMap enc=List.replicate i1.toNat z:=by
  generalize i1.toNat=m
  induction m with
  |zero=>rfl
  |succ m ih=>rw[List.replicate_succ,List.flatMap_cons,hze,ih,List.replicate_succ];rfl
 rw[hf] at hk;exact hk
theorem Has.low{α:Type}{K E:LE}{w:World}{A m c sz}{enc:α->LV}{l:List α}(h:Has (K++E) A m c sz enc l)(hK:∀e∈K,Ent.ok w e):Has (.old w::E) A m c sz enc l:=by
 refine⟨h.len,h.nc,h.cap,h.esz,fun hn=>?_⟩;obtain⟨b,o,hA,hc⟩:=h.at_ hn;refine⟨b,o,hA,fun i hi w' hw' j u hu=>hc i hi w' (fun e he=>?_) j u hu⟩;rcases List.mem_append.1 he with he|he
 .exact Ent.ext (hK e he) (hw' (.old w) mS)
 .exact hw' e (mO _ he)
def slA(A:OA)(c p sz:Nat):OA:=if c=p then A else A.map (·.add (p*sz))
theorem Has.sub{α:Type}{K:List Ent}{A m c sz}{enc:α->List Value}{l:List α}(h:Has K A m c sz enc l){i j:Int}(h1:0<=i)(h2:i<=j)(h3:j<=(m:Int)):
  Has K (slA A c i.toNat sz) (j.toNat-i.toNat) (c-i.toNat) sz enc (subl l i j):=by
 have hl:=h.len;have hnc:=h.nc;refine⟨by simp[subl];omega,oo,by have:=h.cap;omega,fun x hx=>h.esz x (List.mem_of_mem_take (List.mem_of_mem_drop hx)),fun hn=>?_⟩;obtain⟨b,o,hA,hc⟩:=h.at_ oo;refine⟨b,o+i.toNat*sz,?_,fun q hq=>?_⟩
 .unfold slA;rw[iN oo,hA];simp[Addr.add_lit]
 .have hq':i.toNat+q<l.length:=by simp[subl] at hq;omega
  have hx:(subl l i j)[q]=l[i.toNat+q]:=by simp[subl]
  rw[hx,Nat.add_assoc,<-Nat.add_mul];exact hc _ hq'
theorem Ax6{t x lo hi A m c e sz k1 k2}{i j:Int}{dst:Option Tmp}{ty:TypeId}{pos:String}{after:Array Edge}{guard:Option (Nat × Bool)}(hx:evo fr x=some (.slice A m c))(hl:evo fr lo=some (.int k1 i))(hh:evo fr hi=some (.int k2 j))(ht:Mi P t e sz)(h0:0<=i)(h1:i<=j)(h2:j<=(c:Int)):
  Ev P n ⟨dst,.slice t x (some lo) (some hi) none,ty,pos,after,guard⟩ fr L (.slice (slA A c i.toNat sz) (j.toNat-i.toNat) (c-i.toNat)):=
 Axe hx hl hh ht oo oo oo oo
theorem Apb{t x lo A m c e sz k1}{i:Int}{dst:Option Tmp}{ty:TypeId}{pos:String}{after:Array Edge}{guard:Option (Nat × Bool)}(hx:evo fr x=some (.slice A m c))(hl:evo fr lo=some (.int k1 i))(ht:Mi P t e sz)(h0:0<=i)(h1:i<=(m:Int)):
  Ev P n ⟨dst,.slice t x (some lo) none none,ty,pos,after,guard⟩ fr L (.slice (slA A c i.toNat sz) (m-i.toNat) (c-i.toNat)):=
 Asy hx hl ht oo oo
theorem Ai7{t x hi A m c e sz k2}{j:Int}{dst:Option Tmp}{ty:TypeId}{pos:String}{after:Array Edge}{guard:Option (Nat × Bool)}(hx:evo fr x=some (.slice A m c))(hh:evo fr hi=some (.int k2 j))(ht:Mi P t e sz)(h0:0<=j)(h2:j<=(c:Int)):
  Ev P n ⟨dst,.slice t x none (some hi) none,ty,pos,after,guard⟩ fr L (.slice A j.toNat c):=
 Asx hx hh ht oo oo
theorem Has.subL{α:Type}{K:List Ent}{A m c sz}{enc:α->List Value}{l:List α}(h:Has K A m c sz enc l){i:Int}(h1:0<=i)(h2:i<=(m:Int)):
  Has K (slA A c i.toNat sz) (m-i.toNat) (c-i.toNat) sz enc (subl l i (m:Int)):=h.sub h1 h2 (Int.le_refl _)
theorem Has.subH{α:Type}{K:List Ent}{A m c sz}{enc:α->List Value}{l:List α}(h:Has K A m c sz enc l){j:Int}(h1:0<=j)(h2:j<=(m:Int)):
  Has K A j.toNat c sz enc (subl l 0 j):=by
 have hs:subl l 0 j=l.take j.toNat:=by simp[subl]
 rw[hs];exact h.take oo
theorem Has.len'{α:Type}{K:LE}{A m c sz}{enc:α->LV}{l:List α}(h:Has K A m c sz enc l):Has K A l.length c sz enc l:=by
 have:=h.len;subst this;exact h
end
section
variable {P:Program}{n:Nat}{fr:lF}{L:LE}{dst:Option Tmp}{ty:TypeId}{pos:String}{after:AE}{guard:ON}
theorem Apc{t x k a}(hx:evo fr x=some (.int k a)):Ev P n ⟨dst,.unOp .neg t x,ty,pos,after,guard⟩ fr L (.int k (k.wrap (-a))):=fun ac w ha _=>by
 simp only[execOp,ha.eval hx,Op.unary,Op.intArith,Int.zero_sub];rfl
def Rs(k:IntKind)(a b:Int):Int:=k.wrap (BitVec.ofInt k.bits a &&& BitVec.ofInt k.bits b).toNat
def Fb(k:IntKind)(a b:Int):Int:=k.wrap (BitVec.ofInt k.bits a ||| BitVec.ofInt k.bits b).toNat
def Aao(k:IntKind)(a b:Int):Int:=k.wrap (BitVec.ofInt k.bits a ^^^ BitVec.ofInt k.bits b).toNat
theorem Aea{t t' x y k a b}(hx:evo fr x=some (.int k a))(hy:evo fr y=some (.int k b)):Ev P n ⟨dst,.binOp .and t x y t',ty,pos,after,guard⟩ fr L (.int k (Rs k a b)):=
 Mw hx hy fun w=>by rw[binOp_and,Op.intBits];rfl
theorem Afu{t t' x y k a b}(hx:evo fr x=some (.int k a))(hy:evo fr y=some (.int k b)):Ev P n ⟨dst,.binOp .or t x y t',ty,pos,after,guard⟩ fr L (.int k (Fb k a b)):=
 Mw hx hy fun w=>by rw[binOp_or,Op.intBits];rfl
theorem Aeb{t t' x y k a b}(hx:evo fr x=some (.int k a))(hy:evo fr y=some (.int k b)):Ev P n ⟨dst,.binOp .xor t x y t',ty,pos,after,guard⟩ fr L (.int k (Aao k a b)):=
 Mw hx hy fun w=>by rw[binOp_xor,Op.intBits];rfl
def shl_(k:IntKind)(a b:Int):Int:=k.wrap (a*2^(min b.toNat k.bits))
def shr_(k:IntKind)(a b:Int):Int:=a.fdiv (2^(min b.toNat k.bits))
theorem Acg{t t' x y k k' a b}(hx:evo fr x=some (.int k a))(hy:evo fr y=some (.int k' b))(hb:0<=b):Ev P n ⟨dst,.binOp .shl t x y t',ty,pos,after,guard⟩ fr L (.int k (shl_ k a b)):=by
 intro ac w ha _;have:Op.shift .shl k a k' b=pure (.int k (shl_ k a b)):=by
  unfold Op.shift;rw[iN oo];rfl
 simp[execOp,ha.eval hx,ha.eval hy,eqGuard_at_int,binOp_shl,this]
theorem Xx{t t' x y k k' a b}(hx:evo fr x=some (.int k a))(hy:evo fr y=some (.int k' b))(hb:0<=b):Ev P n ⟨dst,.binOp .shr t x y t',ty,pos,after,guard⟩ fr L (.int k (shr_ k a b)):=by
 intro ac w ha _;have:Op.shift .shr k a k' b=pure (.int k (shr_ k a b)):=by
  unfold Op.shift;rw[iN oo];rfl
 simp[execOp,ha.eval hx,ha.eval hy,eqGuard_at_int,binOp_shr,this]
end
theorem SubE.app2{K E E':LE}(h:SubE E E'):SubE (K++E) (K++E'):=⟨fun w hw x hx=>by
 rcases List.mem_append.1 hx with hx|hx
 .exact hw x (List.mem_append_left _ hx)
 .exact h.ok w (fun y hy=>hw y (List.mem_append_right _ hy)) x hx⟩
theorem SubE.appR2{K E E':LE}(h:SubE E E'):SubE E (K++E'):=⟨fun w hw=>h.ok w fun x hx=>hw x (List.mem_append_right _ hx)⟩
theorem Has.up0{α:Type}{K:LE}{A:OA}{n c sz:Nat}{enc:α->LV}{l:List α}(h:Has K A n c sz enc l):Has (K++[]) A n c sz enc l:=by rw[List.append_nil];exact h
theorem Has.assoc{α:Type}{K E E':LE}{A:OA}{n c sz:Nat}{enc:α->LV}{l:List α}(h:Has (K++E++E') A n c sz enc l):Has (K++(E++E')) A n c sz enc l:=by rw[<-List.append_assoc];exact h
section
variable {P:Program}{n:Nat}{fr:lF}{L:LE}
theorem Kf{fn:Func}{R:Value->List Ent->Prop}{w0:World}{rs vs}{Ln:List Ent}(hr:fn.results=rs.toArray)(h:Res P fr L rs vs)(hR:R (Tb vs) Ln)(hlo:∀ x∈Ln,x.low=0)(hs:Ix L (Ln++[.old w0])):
  T n (bodyPost P fn (fun e w'=>∃v Ln,e=.returned v/\R v Ln/\(∀x∈Ln,x.low=0)/\Heap (Ln++[.old w0]) w') .ret) fr L :=
 Aq2 hr h fun _ hw=>⟨_,Ln,rfl,hR,hlo,hw.pick hs⟩
end
end
end Go.Proofs.YtlejkgngmjchdaaGreat
