import Derived.Test.YthlkpgdfifnagaaGreatEff
namespace Go.Proofs.YthlkpgdfifnagaaGreat
open Go Go.RowKit
inductive Plan where
 |done
 |q (i:Nat) (p:Plan)
 |e (i:Nat) (p alt:Plan)
 |stop
abbrev Cls:=LM
def Hw(ops:Array Oper)(cls:Cls):Plan->Array Bool->Option LM->Bool
 |.done,D,none=>(Region.ready .any ops D).isEmpty
 |.q i p,D,none=>(Region.ready .any ops D).contains i&&Nat.ble (cls.getD i 9) 1&&Hw ops cls p (D.setIfInBounds i true) none
 |.e i p alt,D,none=>
  (Region.ready .any ops D).all (fun j=>Nat.ble 2 (cls.getD j 0)&&Nat.ble (cls.getD j 9) 3)&&(Region.ready .any ops D).contains i &&
   Hw ops cls p (D.setIfInBounds i true) none&&Hw ops cls alt D (some ((Region.ready .any ops D).erase i))
 |.e i p alt,D,some l=>l.contains i&&Hw ops cls p (D.setIfInBounds i true) none&&Hw ops cls alt D (some (l.erase i))
 |.stop,_,some l=>l.isEmpty
 |_,_,_=>false
def Abu(ops:Array Oper)(o:Oper)(d:Nat):Bool:=(o.looksAt ops).contains d || o.dst==some d
def Sz(n:Nat)(f:Nat->Bool):Bool:=match n with
 |0=>true
 |n+1=>f n&&Sz n f
theorem Ki{f:Nat->Bool}:∀{n},Sz n f=true->∀i,i<n->f i=true
 |0,_,i,hi=>oo
 |n+1,h,i,hi=>by
  simp only[Sz,Bool.and_eq_true] at h;rcases Nat.lt_succ_iff_lt_or_eq.1 hi with h'|rfl
  .exact Ki h.2 i h'
  .exact h.1
def opAt(ops:Array Oper)(i:Nat):Oper:=ops.getD i default
def Zc(ops:Array Oper)(cls:Cls)(A:LL)(RL:LM:=[]):Bool :=
 Region.noSelect ops &&
 Sz ops.size (fun i=>(opAt ops i).after.all (fun e=>!Region.binds .any e || Nat.blt e.on i)) &&
 Sz ops.size (fun i=>(A.getD i []).all (fun j=>(opAt ops i).after.any (fun e=>Region.binds .any e&&(Nat.beq e.on j || (A.getD e.on []).contains j)))) &&
 Sz ops.size (fun j=>match (opAt ops j).dst with
  |none=>true
  |some d=>Sz ops.size (fun i=>Nat.beq i j || !Abu ops (opAt ops i) d || (A.getD i []).contains j || (Nat.ble 2 (cls.getD j 0)&&(A.getD j []).contains i))) &&
 Sz ops.size (fun j=>Nat.ble 2 (cls.getD j 0) || (match (opAt ops j).dst with
  |none=>true
  |some d=>!((opAt ops j).looksAt ops).contains d)) &&
 Sz ops.size (fun e=>!Nat.beq (cls.getD e 0) 3 || Sz ops.size (fun j=>!Nat.beq (cls.getD j 0) 1 || (A.getD e []).contains j || (A.getD j []).contains e || RL.contains j))
section
variable {P:Program}{ops:Array Oper}{Q:Exit->AW}{cls:Cls}{A:LL}{RL:LM}{R:World->Prop}
def Aw1(P:Program)(ops:Array Oper)(i:Nat)(K:AW)(a:Act)(w:World):Prop :=
 ∃o,ops[i]? = some o/\((Region.wanted o (yielded ops a.tmps)=true/\∃v,(∀w',Ext w w'->(execOp a.eval o).run P w'=.ok (.value v) w')/\K (a.put o.dst v) w) \/
  (Region.wanted o (yielded ops a.tmps)=false/\K (a.put o.dst undef) w))
def Aw2(P:Program)(ops:Array Oper)(i:Nat)(K:AW)(a:Act)(w:World):Prop :=
 ∃o,ops[i]? = some o/\((Region.wanted o (yielded ops a.tmps)=true/\∃v,(∀w',(execOp a.eval o).run P w'=.ok (.value v) w')/\K (a.put o.dst v) w) \/
  (Region.wanted o (yielded ops a.tmps)=false/\K (a.put o.dst undef) w))
def Bb8(P:Program)(ops:Array Oper)(R:World->Prop)(i:Nat)(K:AW)(a:Act)(w:World):Prop :=
 ∃o,ops[i]? = some o/\((Region.wanted o (yielded ops a.tmps)=true/\∃v,(∀w',R w'->(execOp a.eval o).run P w'=.ok (.value v) w')/\K (a.put o.dst v) w) \/
  (Region.wanted o (yielded ops a.tmps)=false/\K (a.put o.dst undef) w))
def noQ:Exit->AW:=fun _ _ _=>False
def Aik(P:Program)(ops:Array Oper)(R:World->Prop)(hard lst:Bool)(i:Nat)(K:AW)(a:Act)(w:World):Prop :=
 ∃o,ops[i]? = some o/\((Region.wanted o (yielded ops a.tmps)=true/\o.wp P a w (fun a' w'=>(Ext w w'\/(hard=true/\(lst=true\/R w')))/\K a' w') noQ) \/
  (Region.wanted o (yielded ops a.tmps)=false/\K (a.put o.dst undef) w))
def Afl(A:LL)(RL:LM)(i:Nat):Bool:=RL.all fun j=>(A.getD i []).contains j
def Bf(P:Program)(ops:Array Oper)(Q:Exit->AW)(cls:Cls)(A:LL)(RL:LM)(R:World->Prop):Plan->AW
 |.done,a,w=>Q .normal a w
 |.q i p,a,w=>if Nat.beq (cls.getD i 9) 0 then Aw2 P ops i (Bf P ops Q cls A RL R p) a w else if RL.contains i then Bb8 P ops R i (Bf P ops Q cls A RL R p) a w else Aw1 P ops i (Bf P ops Q cls A RL R p) a w
 |.e i p alt,a,w=>Aik P ops R (Nat.beq (cls.getD i 9) 3) (Afl A RL i) i (Bf P ops Q cls A RL R p) a w/\Bf P ops Q cls A RL R alt a w
 |.stop,_,_=>True
def On(D:Array Bool)(i:Nat):Prop:=D.getD i false=true
theorem Eu{D:Array Bool}{i j:Nat}(hi:i<D.size):On (D.setIfInBounds i true) j↔j=i\/On D j:=by
 unfold On;rw[Array.getD_eq_getD_getElem?,Array.getD_eq_getD_getElem?]
 by_cases h:i=j
 .subst h;simp[hi]
 .rw[Array.getElem?_setIfInBounds_ne h];have:¬j=i:=fun e=>h e.symm
  simp[this]
theorem Bl{D:Array Bool}{i:Nat}(hs:D.size=ops.size):
  i∈Region.ready .any ops D↔i<ops.size/\¬On D i/\∀e∈(opAt ops i).after,Region.binds .any e=true->On D e.on:=by
 unfold Region.ready;rw[List.mem_filter,List.mem_range];constructor
 .rintro⟨hi,h⟩;simp only[Bool.and_eq_true,Bool.not_eq_true'] at h;refine⟨hi,?_,?_⟩
  .have h1:=h.1;unfold On;rw[Array.getD_eq_getD_getElem?,Array.getElem?_eq_getElem oo] at h1⊢;simp at h1⊢;exact h1
  .have h2:=h.2;rw[Array.getElem?_eq_getElem hi] at h2;simp only[Option.map_some,Option.getD_some] at h2;intro e he hb;have ho:opAt ops i=ops[i]:=by simp[opAt,hi]
   rw[ho] at he;rw[Array.all_eq_true_iff_forall_mem] at h2;have:=h2 e he;rw[hb] at this;simpa[On] using this
 .rintro⟨hi,h1,h2⟩;refine⟨hi,?_⟩;simp only[Bool.and_eq_true,Bool.not_eq_true'];constructor
  .unfold On at h1;rw[Array.getD_eq_getD_getElem?,Array.getElem?_eq_getElem oo] at h1⊢;simp at h1⊢;exact h1
  .rw[Array.getElem?_eq_getElem hi];simp only[Option.map_some,Option.getD_some];rw[Array.all_eq_true_iff_forall_mem];intro e he;have ho:opAt ops i=ops[i]:=by simp[opAt,hi]
   cases hb:Region.binds .any e with
   |false=>rfl
   |true=>
    have:=h2 e (by rw[ho];exact he) hb;simpa[On] using this
structure Cp(ops:Array Oper)(cls:Cls)(A:LL)(RL:LM):Prop where
 sel:Region.noSelect ops=true
 back:∀i,i<ops.size->∀e∈(opAt ops i).after,Region.binds .any e=true->e.on<i
 anc:∀i,i<ops.size->∀j∈A.getD i [],∃e∈(opAt ops i).after,Region.binds .any e=true/\(e.on=j\/j∈A.getD e.on [])
 slots:∀j,j<ops.size->∀d,(opAt ops j).dst=some d->∀i,i<ops.size->i≠j->Abu ops (opAt ops i) d=true->j∈A.getD i []\/(2<=cls.getD j 0/\i∈A.getD j [])
 self:∀j,j<ops.size->cls.getD j 0<=1->∀d,(opAt ops j).dst=some d->d∉(opAt ops j).looksAt ops
 hard:∀e,e<ops.size->cls.getD e 0=3->∀j,j<ops.size->cls.getD j 0=1->j∈A.getD e []\/e∈A.getD j []\/RL.contains j=true
theorem Agh(h:Zc ops cls A RL=true):Cp ops cls A RL:=by
 simp only[Zc,Bool.and_eq_true] at h;obtain⟨⟨⟨⟨⟨h1,h2⟩,h3⟩,h4⟩,h6⟩,h5⟩:=h;refine⟨h1,fun i hi e he hb=>?_,fun i hi j hj=>?_,fun j hj d hd i hi hne hn=>?_,fun j hj hc d hd hm=>?_,fun e he hc j hj hcj=>?_⟩
 .have:=Ki h2 i hi;rw[Array.all_eq_true_iff_forall_mem] at this;have:=this e he;rw[hb] at this;simpa using this
 .have:=Ki h3 i hi;rw[List.all_eq_true] at this;have:=this j hj;rw[<-Array.any_toList,List.any_eq_true] at this;obtain⟨e,he,hh⟩:=this;simp only[Bool.and_eq_true,Bool.or_eq_true,List.contains_iff_mem] at hh;exact⟨e,by simpa using he,hh.1,hh.2.imp Nat.eq_of_beq_eq_true id⟩
 .have:=Ki h4 j hj;simp only[hd] at this;have:=Ki this i hi;simp only[Bool.or_eq_true,Bool.and_eq_true,List.contains_iff_mem,Bool.not_eq_true',hn,Nat.ble_eq] at this;rcases this with ((h|h)|h)|h
  .exact absurd (Nat.eq_of_beq_eq_true h) hne
  .cases h
  .exact .inl h
  .exact .inr h
 .have:=Ki h6 j hj;simp only[hd,Bool.or_eq_true,Nat.ble_eq,Bool.not_eq_true'] at this;rcases this with h|h
  .omega
  .rw[List.contains_iff_mem.2 hm] at h;cases h
 .have:=Ki h5 e he;simp only[Bool.or_eq_true,Bool.not_eq_true',hc] at this;rcases this with h|h
  .cases h
  .have:=Ki h j hj;simp only[Bool.or_eq_true,Bool.not_eq_true',hcj] at this;rcases this with ((h|h)|h)|h
   .cases h
   .exact .inl (List.contains_iff_mem.1 h)
   .exact .inr (.inl (List.contains_iff_mem.1 h))
   .exact .inr (.inr h)
def Afm(ops:Array Oper)(D:Array Bool):Prop:=∀i,i<ops.size->On D i->∀e∈(opAt ops i).after,Region.binds .any e=true->On D e.on
theorem Ail(F:Cp ops cls A RL){D:Array Bool}(hc:Afm ops D):∀i,i<ops.size->(∀e∈(opAt ops i).after,Region.binds .any e=true->On D e.on)->∀j∈A.getD i [],On D j:=by
 intro i
 induction i using Nat.strongRecOn with
 |_ i ih=>
  intro hi hdep j hj;obtain⟨e,he,hb,h⟩:=F.anc i hi j hj;have hlt:=F.back i hi e he hb;have hon:=hdep e he hb;rcases h with rfl|h
  .exact hon
  .exact ih e.on hlt oo (fun e' he' hb'=>hc e.on oo hon e' he' hb') j h
theorem Anp(F:Cp ops cls A RL){D:Array Bool}(hc:Afm ops D){i:Nat}(hi:i<ops.size)(h:On D i):∀j∈A.getD i [],On D j:=Ail F hc i hi (hc i hi h)
theorem Aaq{D:Array Bool}(hc:Afm ops D)(hs:D.size=ops.size){i:Nat}(hr:i∈Region.ready .any ops D):Afm ops (D.setIfInBounds i true):=by
 have hr':=(Bl hs).1 hr;intro k hk hon e he hb;have hi:i<D.size:=oo;rw[Eu hi] at hon⊢;rcases hon with rfl|hon
 .exact .inr (hr'.2.2 e he hb)
 .exact .inr (hc k hk hon e he hb)
def Agi(c:Nat)(r:Bool)(R:World->Prop)(w w':World):Prop:=c=0\/(r=true/\R w')\/(r=false/\Ext w w')
theorem Agi.refl{c:Nat}{r:Bool}{R:World->Prop}{w:World}(h:r=true->R w):Agi c r R w w:=by
 cases r
 .exact .inr (.inr ⟨rfl,Ext.refl w⟩)
 .exact .inr (.inl ⟨rfl,h rfl⟩)
def Pend(P:Program)(ops:Array Oper)(c:Nat)(r:Bool)(R:World->Prop)(j:Nat)(ac:Act)(w:World):Prop :=
 (Region.wanted (opAt ops j) (yielded ops ac.tmps)=true/\∃v,(∀w',Agi c r R w w'->(execOp ac.eval (opAt ops j)).run P w'=.ok (.value v) w')/\(∀d,(opAt ops j).dst=some d->d<ac.tmps.size->ac.tmps[d]? = some v)) \/
 (Region.wanted (opAt ops j) (yielded ops ac.tmps)=false/\(∀d,(opAt ops j).dst=some d->d<ac.tmps.size->ac.tmps[d]? = some undef))
structure Sim(P:Program)(ops:Array Oper)(cls:Cls)(RL:LM)(R:World->Prop)(D Dc:Array Bool)(a ac:Act)(w:World):Prop where
 inR:(∀j,RL.contains j=true->On D j)\/R w
 extR:∀w w',R w->Ext w w'->R w'
 sD:D.size=ops.size
 sDc:Dc.size=ops.size
 cD:Afm ops D
 cDc:Afm ops Dc
 sub:∀i,On D i->On Dc i
 cl:∀i,On Dc i->¬On D i->cls.getD i 9<=1
 size:a.tmps.size=ac.tmps.size
 nod:a.defers=ac.defers
 agree:∀t,(∀i,i<ops.size->On Dc i->¬On D i->(opAt ops i).dst≠some t)->a.tmps[t]? = ac.tmps[t]?
 pend:∀j,j<ops.size->On Dc j->¬On D j->Pend P ops (cls.getD j 9) (RL.contains j) R j ac w
theorem Alo{o:Oper}{t t':Array Value}(h:∀g want s,o.guard=some (g,want)->(ops[g]?).bind (·.dst)=some s->t[s]? = t'[s]?):Region.wanted o (yielded ops t)=Region.wanted o (yielded ops t'):=by
 unfold Region.wanted;cases hg:o.guard with
 |none=>rfl
 |some p=>
  obtain⟨g,want⟩:=p;have:yielded ops t g=yielded ops t' g:=by
   unfold yielded;cases hd:(ops[g]?).bind (·.dst) with
   |none=>rfl
   |some s=>simp only[Option.bind_some];rw[h g want s hg hd]
  simp only[this]
theorem Anq{o:Oper}{g want s}(h1:o.guard=some (g,want))(h2:(ops[g]?).bind (·.dst)=some s):s∈o.looksAt ops:=by
 unfold Oper.looksAt;rw[h1,List.mem_append];right;simp only[h2];simp
theorem Aw3{o:Oper}{t}(h:Operand.tmp t∈o.op.operands):t∈o.looksAt ops:=by
 unfold Oper.looksAt;rw[List.mem_append];left;rw[List.mem_filterMap];exact⟨.tmp t,by simpa using h,rfl⟩
theorem Xj(hs:Region.noSelect ops=true){j:Nat}{o:Oper}(ho:ops[j]? = some o){a a':Act}(h:∀ t∈o.looksAt ops,a.tmps[t]? = a'.tmps[t]?):
  execOp a.eval o=execOp a'.eval o/\Region.wanted o (yielded ops a.tmps)=Region.wanted o (yielded ops a'.tmps):=by
 refine⟨execOp_congr o (fun cs b=>Region.noSelect_spec hs j o cs b ho) fun x hx=>?_,Alo fun g want s h1 h2=>h s (Anq h1 h2)⟩;cases x with
 |tmp t=>
  have:=h t (Aw3 hx);simp only[Act.eval,Array.getD_eq_getD_getElem?,this]
 |_=>rfl
theorem Gs{a:Act}{d:Option Tmp}{v:Value}{t:Nat}(h:d≠some t):(a.put d v).tmps[t]? = a.tmps[t]?:=by
 cases d with
 |none=>rfl
 |some d=>
  have:d≠t:=fun e=>h (by rw[e])
  simp[Act.put,Array.getElem?_setIfInBounds_ne this]
theorem Ux{a:Act}{d:Nat}{v:Value}(h:d<a.tmps.size):(a.put (some d) v).tmps[d]? = some v:=by
 simp[Act.put,h]
theorem Gf{a:Act}{d:Option Tmp}{v:Value}:(a.put d v).tmps.size=a.tmps.size:=by cases d <;> simp[Act.put]
theorem Oa{a:Act}{d:Option Tmp}{v:Value}:(a.put d v).defers=a.defers:=by cases d <;> simp[Act.put]
theorem Vn{o:Oper}{t}(h:t∈o.looksAt ops):Abu ops o t=true:=by
 unfold Abu;have:(o.looksAt ops).contains t=true:=by rw[List.contains_iff_mem];exact h
 rw[this];rfl
theorem Zs{o:Oper}{t}(h:o.dst=some t):Abu ops o t=true:=by simp[Abu,h]
theorem Ys{i:Nat}{o:Oper}(h:ops[i]? = some o):opAt ops i=o:=by
 simp[opAt,h]
theorem Yt{i:Nat}(h:i<ops.size):ops[i]? = some (opAt ops i):=by
 simp[opAt,h]
theorem Pend.turn(F:Cp ops cls A RL){j:Nat}(hj:j<ops.size){c:Nat}{r:Bool}{ac ac':Act}{w w':World}(hz:ac'.tmps.size=ac.tmps.size)(h:Pend P ops c r R j ac w)(hl:∀t∈(opAt ops j).looksAt ops,ac.tmps[t]? = ac'.tmps[t]?)(hd:∀d,(opAt ops j).dst=some d->ac.tmps[d]? = ac'.tmps[d]?)(hw:c=0\/r=true\/Ext w w'):Pend P ops c r R j ac' w':=by
 obtain⟨h1,h2⟩:=Xj F.sel (Yt hj) hl;rcases h with⟨hwn,v,hv,hs⟩|⟨hwn,hs⟩
 .refine .inl ⟨by rw[<-h2];exact hwn,v,fun w'' hw''=>?_,fun d hdd hlt=>by rw[<-hd d hdd];exact hs d hdd (by rw[<-hz];exact hlt)⟩;rw[<-h1];refine hv w'' ?_;rcases hw with hw|hw|hw
  .exact .inl hw
  .rcases hw'' with h0|h0|⟨h0,_⟩
   .exact .inl h0
   .exact .inr (.inl h0)
   .rw[hw] at h0;cases h0
  .rcases hw'' with h0|h0|⟨h0,h1⟩
   .exact .inl h0
   .exact .inr (.inl h0)
   .exact .inr (.inr ⟨h0,hw.trans h1⟩)
 .exact .inr ⟨by rw[<-h2];exact hwn,fun d hdd hlt=>by rw[<-hd d hdd];exact hs d hdd (by rw[<-hz];exact hlt)⟩
theorem Sim.ahead(F:Cp ops cls A RL){D Dc:Array Bool}{a ac:Act}{w:World}(S:Sim P ops cls RL R D Dc a ac w){i:Nat}(hr:i∈Region.ready .any ops Dc)(hc:cls.getD i 9<=1){v:Value}(hv:(Region.wanted (opAt ops i) (yielded ops ac.tmps)=true/\(∀ w',Agi (cls.getD i 9) (RL.contains i) R w w'->(execOp ac.eval (opAt ops i)).run P w' = .ok (.value v) w'))\/(Region.wanted (opAt ops i) (yielded ops ac.tmps)=false/\v=undef)):
  Sim P ops cls RL R D (Dc.setIfInBounds i true) a (ac.put (opAt ops i).dst v) w:=by
 obtain⟨hi,hn,hdep⟩:=(Bl S.sDc).1 hr;have hiD:i<Dc.size:=by rw[S.sDc];exact hi
 have hnD:¬On D i:=fun h=>hn (S.sub i h)
 have c0:cls.getD i 0<=1:=by
  rw[List.getD_eq_getElem?_getD] at hc⊢;cases h:cls[i]? with
  |none=>simp
  |some x=>rw[h] at hc;simpa using hc
 have far:∀j,j<ops.size->j≠i->On Dc j->∀d,(opAt ops i).dst=some d->Abu ops (opAt ops j) d=false:=by
  intro j hj hne hon d hd;cases hnm:Abu ops (opAt ops j) d with
  |false=>rfl
  |true=>
   rcases F.slots i hi d hd j hj hne hnm with h|h
   .exact absurd (Anp F S.cDc hj hon i h) hn
   .omega
 refine⟨S.inR,S.extR,S.sD,by simp[S.sDc],S.cD,Aaq S.cDc S.sDc hr,fun j hj=>(Eu hiD).2 (.inr (S.sub j hj)),fun j hj hnj=>?_,by rw[Gf];exact S.size,by rw[Oa];exact S.nod,fun t ht=>?_,fun j hj hon hnj=>?_⟩
 .rcases (Eu hiD).1 hj with rfl|h
  .exact hc
  .exact S.cl j h hnj
 .have h1:(opAt ops i).dst≠some t:=ht i hi ((Eu hiD).2 (.inl rfl)) hnD;rw[Gs h1];exact S.agree t fun j hj hon hnj=>ht j hj ((Eu hiD).2 (.inr hon)) hnj
 .by_cases hji:j=i
  ·subst hji;have hl:∀ t∈(opAt ops j).looksAt ops,ac.tmps[t]? = (ac.put (opAt ops j).dst v).tmps[t]?:=by
    intro t ht
    by_cases hd:(opAt ops j).dst=some t
    .exact absurd ht (F.self j hj c0 t hd)
    .rw[Gs hd]
   obtain⟨h1,h2⟩:=Xj F.sel (Yt hj) hl;rcases hv with⟨hwn,hv⟩|⟨hwn,rfl⟩
   .exact .inl ⟨by rw[<-h2];exact hwn,v,fun w' hw'=>by rw[<-h1];exact hv w' hw',fun d hd hlt=>by rw[hd];rw[Gf] at hlt;exact Ux hlt⟩
   .exact .inr ⟨by rw[<-h2];exact hwn,fun d hd hlt=>by rw[hd];rw[Gf] at hlt;exact Ux hlt⟩
  ·have hon':On Dc j:=by
    rcases (Eu hiD).1 hon with h|h
    .exact absurd h hji
    .exact h
   refine Pend.turn F hj Gf (S.pend j hj hon' hnj) (fun t ht=>?_) (fun d hd=>?_) (.inr (.inr (Ext.refl w)))
   .rw[Gs];intro h;have:=far j hj hji hon' t h;rw[Vn ht] at this;cases this
   .rw[Gs];intro h;have:=far j hj hji hon' d h;rw[Zs hd] at this;cases this
theorem c90{i:Nat}(h:cls.getD i 9<=1):cls.getD i 0=cls.getD i 9:=by
 rw[List.getD_eq_getElem?_getD] at h⊢;rw[List.getD_eq_getElem?_getD];cases hc:cls[i]? with
 |none=>rw[hc] at h;simp at h
 |some x=>rfl
theorem Sim.late{D Dc:Array Bool}{a ac:Act}{w:World}(S:Sim P ops cls RL R D Dc a ac w)(F:Cp ops cls A RL){i:Nat}(hr:i∈Region.ready .any ops D)(hon:On Dc i):
  (∀t∈(opAt ops i).looksAt ops,a.tmps[t]? = ac.tmps[t]?)/\∃v,((Region.wanted (opAt ops i) (yielded ops ac.tmps)=true/\(execOp ac.eval (opAt ops i)).run P w=.ok (.value v) w)\/(Region.wanted (opAt ops i) (yielded ops ac.tmps)=false/\v=undef)) /\
   Sim P ops cls RL R (D.setIfInBounds i true) Dc (a.put (opAt ops i).dst v) ac w:=by
 obtain⟨hi,hn,hdep⟩:=(Bl S.sD).1 hr;have hiD:i<D.size:=by rw[S.sD];exact hi
 have hcl:=S.cl i hon hn;have hl:∀t∈(opAt ops i).looksAt ops,a.tmps[t]? = ac.tmps[t]?:=by
  intro t ht;refine S.agree t fun j hj honj hnj hd=>?_
  by_cases hji:j=i
  .subst hji;exact F.self j hj (by rw[c90 hcl];exact hcl) t hd ht
  .rcases F.slots j hj t hd i hi (fun h=>hji h.symm) (Vn ht) with h|⟨h,_⟩
   .exact hnj (Ail F S.cD i hi hdep j h)
   .have:=S.cl j honj hnj;rw[c90 this] at h;omega
 have next:∀v,(∀d,(opAt ops i).dst=some d->d<ac.tmps.size->ac.tmps[d]? = some v)->Sim P ops cls RL R (D.setIfInBounds i true) Dc (a.put (opAt ops i).dst v) ac w:=by
  intro v hv;refine⟨S.inR.imp (fun h j hj=>(Eu hiD).2 (.inr (h j hj))) id,S.extR,by simp[S.sD],S.sDc,Aaq S.cD S.sD hr,S.cDc,fun j hj=>?_,fun j hj hnj=>S.cl j hj (fun h=>hnj ((Eu hiD).2 (.inr h))),by rw[Gf];exact S.size,by rw[Oa];exact S.nod,fun t ht=>?_,fun j hj honj hnj=>S.pend j hj honj (fun h=>hnj ((Eu hiD).2 (.inr h)))⟩
  .rcases (Eu hiD).1 hj with rfl|h
   .exact hon
   .exact S.sub j h
  .by_cases hd:(opAt ops i).dst=some t
   .rw[hd]
    by_cases hlt:t<ac.tmps.size
    .rw[Ux (by rw[S.size];exact hlt),hv t hd hlt]
    .rw[Array.getElem?_eq_none (by rw[Gf,S.size];exact Nat.le_of_not_lt hlt),Array.getElem?_eq_none (Nat.le_of_not_lt hlt)]
   .rw[Gs hd];refine S.agree t fun j hj honj hnj=>?_
    by_cases hji:j=i
    .subst hji;exact hd
    ·exact ht j hj honj (fun h=>by
      rcases (Eu hiD).1 h with h|h
      .exact hji h
      .exact hnj h)
 rcases S.pend i hi hon hn with⟨hwn,v,hv,hs⟩|⟨hwn,hs⟩
 .exact⟨hl,v,.inl ⟨hwn,hv w (Agi.refl fun hc=>S.inR.resolve_left fun h=>hn (h i hc))⟩,next v hs⟩
 .exact⟨hl,undef,.inr ⟨hwn,rfl⟩,next undef hs⟩
theorem Sim.catchUp{D Dc:Array Bool}{a ac:Act}{w:World}(S:Sim P ops cls RL R D Dc a ac w)(F:Cp ops cls A RL){i:Nat}(hr:i∈Region.ready .any ops D)(hon:On Dc i){K:AW}(k:∀a',Sim P ops cls RL R (D.setIfInBounds i true) Dc a' ac w->K a' w):wpOp P ops Q i K a w:=by
 obtain⟨hi,hn,hdep⟩:=(Bl S.sD).1 hr;obtain⟨hl,v,hv,hS⟩:=S.late F hr hon;obtain⟨h1,h2⟩:=Xj F.sel (Yt hi) hl;unfold wpOp;rw[Yt hi];dsimp only;rcases hv with⟨hwn,hv⟩|⟨hwn,rfl⟩
 .rw[if_pos (by rw[h2];exact hwn)];left;simp only[Oper.wp,h1,hv,Oper.upon_value];exact k _ hS
 .rw[if_neg (by rw[h2,hwn];simp)];exact k _ hS
theorem Ake{o:Oper}{a ac:Act}{N N':AW}{r:Result Next}(hd:a.defers=ac.defers)(h:∀ds v w',N ({ac with defers:=ds}.put o.dst v) w'->N' ({a with defers:=ds}.put o.dst v) w')(hh:o.upon P ac N noQ r):o.upon P a N' Q r:=by
 have hac:∀v w',N (ac.put o.dst v) w'->N' (a.put o.dst v) w':=fun v w' hn=>by
  have:=h ac.defers v w' hn;rw[<-hd] at this;exact this
 cases r with
 |ok n w'=>
  cases n <;> simp only[Oper.upon] at hh⊢
  .exact hac _ _ hh
  .exact hac _ _ hh
  .refine Calls.mono hh fun e w'' he=>?_
   cases e with
   |returned v=>exact hac _ _ he
   |panicked ch=>exact he.elim
   |outgrown=>obtain⟨_,_,hq⟩:=he;exact hq.elim
  .rename_i dd;rw[hd];exact h _ _ _ hh
  .exact Rows.mono hh fun v w'' he=>hac _ _ he
 |halt x w'=>cases x <;> simp only[Oper.upon] at hh⊢ <;> exact hh.elim
theorem Sim.step{D Dc:Array Bool}{a ac:Act}{w:World}(S:Sim P ops cls RL R D Dc a ac w)(F:Cp ops cls A RL){i:Nat}(hr:i∈Region.ready .any ops D)(hnc:¬ On Dc i){hard:Bool}(hh:hard=true->cls.getD i 0=3){lst:Bool}(hlst:lst=true->∀ j,RL.contains j=true->j∈A.getD i []):
  (∀t∈(opAt ops i).looksAt ops,a.tmps[t]? = ac.tmps[t]?)/\∀ds v w',(Ext w w'\/(hard=true/\(lst=true\/R w')))->Sim P ops cls RL R (D.setIfInBounds i true) (Dc.setIfInBounds i true) ({a with defers:=ds}.put (opAt ops i).dst v) ({ac with defers:=ds}.put (opAt ops i).dst v) w':=by
 obtain⟨hi,hn,hdep⟩:=(Bl S.sD).1 hr;have hiD:i<D.size:=by rw[S.sD];exact hi
 have hiDc:i<Dc.size:=by rw[S.sDc];exact hi
 have hrc:i∈Region.ready .any ops Dc:=(Bl S.sDc).2 ⟨hi,hnc,fun e he hb=>S.sub _ (hdep e he hb)⟩;have far:∀j,j<ops.size->On Dc j->¬On D j->j∉A.getD i []/\i∉A.getD j []:=by
  intro j hj honj hnj;exact⟨fun h=>hnj (Ail F S.cD i hi hdep j h),fun h=>hnc (Anp F S.cDc hj honj i h)⟩
 have hne:∀j,On Dc j->j≠i:=fun j hj h=>hnc (h▸hj)
 have hl:∀t∈(opAt ops i).looksAt ops,a.tmps[t]? = ac.tmps[t]?:=by
  intro t ht;refine S.agree t fun j hj honj hnj hd=>?_
  rcases F.slots j hj t hd i hi (fun h=>hne j honj h.symm) (Vn ht) with h|⟨_,h⟩
  .exact (far j hj honj hnj).1 h
  .exact (far j hj honj hnj).2 h
 refine⟨hl,?_⟩;intro ds v w' hx;refine⟨?_,S.extR,by simp[S.sD],by simp[S.sDc],Aaq S.cD S.sD hr,Aaq S.cDc S.sDc hrc,fun j hj=>?_,fun j hj hnj=>?_,by rw[Gf,Gf];exact S.size,by rw[Oa,Oa],fun t ht=>?_,fun j hj honj hnj=>?_⟩
 .have up:(∀j,RL.contains j=true->On D j)->∀j,RL.contains j=true->On (D.setIfInBounds i true) j:=fun h j hj=>(Eu hiD).2 (.inr (h j hj))
  rcases hx with hx|⟨_,hx|hx⟩
  .exact S.inR.imp up fun h=>S.extR _ _ h hx
  .exact .inl (up fun j hj=>Ail F S.cD i hi hdep j (hlst hx j hj))
  .exact .inr hx
 .rw[Eu hiD] at hj;rw[Eu hiDc];exact hj.imp id (S.sub j)
 .rw[Eu hiDc] at hj;rw[Eu hiD] at hnj;rcases hj with h|h
  .exact absurd (.inl h) hnj
  .exact S.cl j h (fun h'=>hnj (.inr h'))
 .by_cases hd:(opAt ops i).dst=some t
  .rw[hd]
   by_cases hlt:t<ac.tmps.size
   .rw[Ux (by simpa[S.size] using hlt),Ux (by simpa using hlt)]
   .rw[Array.getElem?_eq_none (by rw[Gf];show a.tmps.size<=t;rw[S.size];exact Nat.le_of_not_lt hlt),Array.getElem?_eq_none (by rw[Gf];exact Nat.le_of_not_lt hlt)]
  .rw[Gs hd,Gs hd];refine S.agree t fun j hj honj hnj=>?_
   refine ht j hj ((Eu hiDc).2 (.inr honj)) (fun h=>?_);rcases (Eu hiD).1 h with h|h
   .exact hne j honj h
   .exact hnj h
 .have hnj':¬On D j:=fun h=>hnj ((Eu hiD).2 (.inr h))
  have honj':On Dc j:=by
   rcases (Eu hiDc).1 honj with h|h
   .exact absurd ((Eu hiD).2 (.inl h)) hnj
   .exact h
  have hj9:=S.cl j honj' hnj';refine Pend.turn F hj (by rw[Gf]) (S.pend j hj honj' hnj') (fun t ht=>?_) (fun d hd=>?_) ?_
  .rw[Gs];intro h;rcases F.slots i hi t h j hj (hne j honj') (Vn ht) with h|⟨_,h⟩
   .exact (far j hj honj' hnj').2 h
   .exact (far j hj honj' hnj').1 h
  .rw[Gs];intro h;rcases F.slots i hi d h j hj (hne j honj') (Zs hd) with h|⟨_,h⟩
   .exact (far j hj honj' hnj').2 h
   .exact (far j hj honj' hnj').1 h
  .rcases hx with hx|⟨hx,_⟩
   .exact .inr (.inr hx)
   .rcases Nat.le_one_iff_eq_zero_or_eq_one.1 hj9 with h0|h0
    .exact .inl h0
    .rcases F.hard i hi (hh hx) j hj (by rw[c90 hj9];exact h0) with h|h|h
     .exact absurd h (far j hj honj' hnj').1
     .exact absurd h (far j hj honj' hnj').2
     .exact .inr (.inl h)
theorem Sim.both{D Dc:Array Bool}{a ac:Act}{w:World}(S:Sim P ops cls RL R D Dc a ac w)(F:Cp ops cls A RL){i:Nat}(hr:i∈Region.ready .any ops D)(hnc:¬On Dc i){hard:Bool}(hh:hard=true->cls.getD i 0=3){N K:AW}{lst:Bool}(hlst:lst=true->∀j,RL.contains j=true->j∈A.getD i [])(he:Aik P ops R hard lst i N ac w)(k:∀a' ac' w',Sim P ops cls RL R (D.setIfInBounds i true) (Dc.setIfInBounds i true) a' ac' w'->N ac' w'->K a' w'):wpOp P ops Q i K a w:=by
 obtain⟨hi,hn,hdep⟩:=(Bl S.sD).1 hr;obtain⟨hl,next⟩:=S.step F hr hnc hh hlst;obtain⟨h1,h2⟩:=Xj F.sel (Yt hi) hl;obtain⟨o,ho,he⟩:=he;have hoa:=Ys ho;unfold wpOp;rw[ho];dsimp only;rw[hoa] at h1 h2;rcases he with⟨hwn,he⟩|⟨hwn,he⟩
 .rw[if_pos (by rw[h2];exact hwn)];left;unfold Oper.wp at he⊢;rw[h1];refine Ake S.nod (fun ds v w' hh'=>?_) he;have:=next ds v w' hh'.1;rw[hoa] at this;exact k _ _ _ this hh'.2
 .rw[if_neg (by rw[h2,hwn];simp)];have:=next ac.defers undef w (.inl (Ext.refl w));rw[hoa] at this;rw[show ({a with defers:=ac.defers}:Act)=a from by rw[<-S.nod]] at this;exact k _ _ _ this he
theorem Akf{K:Act->World->Prop}{i:Nat}{ac:Act}{w:World}(h:if Nat.beq (cls.getD i 9) 0 then Aw2 P ops i K ac w else if RL.contains i then Bb8 P ops R i K ac w else Aw1 P ops i K ac w):
  ∃v,((Region.wanted (opAt ops i) (yielded ops ac.tmps)=true/\(∀w',Agi (cls.getD i 9) (RL.contains i) R w w'->(execOp ac.eval (opAt ops i)).run P w'=.ok (.value v) w'))\/(Region.wanted (opAt ops i) (yielded ops ac.tmps)=false/\v=undef)) /\
   K (ac.put (opAt ops i).dst v) w:=by
 by_cases hc:cls.getD i 9=0
 .rw[if_pos (by rw[hc];rfl)] at h;obtain⟨o,ho,h⟩:=h;rw[Ys ho];rcases h with⟨h1,v,h2,h3⟩|⟨h1,h2⟩
  .exact⟨v,.inl ⟨h1,fun w' _=>h2 w'⟩,h3⟩
  .exact⟨undef,.inr ⟨h1,rfl⟩,h2⟩
 .rw[if_neg (by intro hb;exact hc (Nat.eq_of_beq_eq_true hb))] at h
  by_cases hr:RL.contains i=true
  .rw[if_pos hr] at h;obtain⟨o,ho,h⟩:=h;rw[Ys ho];rcases h with⟨h1,v,h2,h3⟩|⟨h1,h2⟩
   .refine⟨v,.inl ⟨h1,fun w' hw'=>h2 w' ?_⟩,h3⟩;rcases hw' with h0|⟨_,h0⟩|⟨h0,_⟩
    .exact absurd h0 hc
    .exact h0
    .rw[hr] at h0;cases h0
   .exact⟨undef,.inr ⟨h1,rfl⟩,h2⟩
  .rw[if_neg hr] at h;obtain⟨o,ho,h⟩:=h;rw[Ys ho];rcases h with⟨h1,v,h2,h3⟩|⟨h1,h2⟩
   .refine⟨v,.inl ⟨h1,fun w' hw'=>h2 w' ?_⟩,h3⟩;rcases hw' with h0|⟨h0,_⟩|⟨_,h0⟩
    .exact absurd h0 hc
    .exact absurd h0 hr
    .exact h0
   .exact⟨undef,.inr ⟨h1,rfl⟩,h2⟩
theorem alts{D:Array Bool}{ac:Act}{w:World}:∀ (p:Plan) (l:List Nat),Hw ops cls p D (some l)=true->Bf P ops Q cls A RL R p ac w ->
  ∀i∈l,∃p',Hw ops cls p' (D.setIfInBounds i true) none=true/\Aik P ops R (Nat.beq (cls.getD i 9) 3) (Afl A RL i) i (Bf P ops Q cls A RL R p') ac w
 |.done,l,h,_,i,hi=>by simp[Hw] at h
 |.q _ _,l,h,_,i,hi=>by simp[Hw] at h
 |.stop,l,h,_,i,hi=>by
  simp only[Hw,List.isEmpty_iff] at h;subst h;simp at hi
 |.e j p alt,l,h,hw,i,hi=>by
  simp only[Hw,Bool.and_eq_true] at h;obtain⟨⟨_,h2⟩,h3⟩:=h
  by_cases hij:i=j
  .subst hij;exact⟨p,h2,hw.1⟩
  .exact alts alt (l.erase j) h3 hw.2 i ((List.mem_erase_of_ne hij).2 hi)
theorem le3{i:Nat}:(Nat.beq (cls.getD i 9) 3)=true->cls.getD i 0=3:=by
 intro h;have:=Nat.eq_of_beq_eq_true h;rw[List.getD_eq_getElem?_getD] at this⊢;cases hc:cls[i]? with
 |none=>rw[hc] at this;simp at this
 |some x=>rw[hc] at this;simp at this⊢;omega
theorem Anr{i:Nat}(h:Afl A RL i=true)(j:Nat)(hj:RL.contains j=true):j∈A.getD i []:=by
 unfold Afl at h;rw[List.all_eq_true] at h;exact List.contains_iff_mem.1 (h j (List.contains_iff_mem.1 hj))
theorem Akg{D Dc:Array Bool}{a ac:Act}{w:World}(S:Sim P ops cls RL R D Dc a ac w){i:Nat}(hr:i∈Region.ready .any ops D)(hn:¬On Dc i):i∈Region.ready .any ops Dc:=by
 obtain⟨hi,_,hdep⟩:=(Bl S.sD).1 hr;exact (Bl S.sDc).2 ⟨hi,hn,fun e he hb=>S.sub _ (hdep e he hb)⟩
theorem Sim.level{D Dc:Array Bool}{a ac:Act}{w:World}(S:Sim P ops cls RL R D Dc a ac w)(F:Cp ops cls A RL)(hr:Region.ready .any ops D=[]):(∀i,i<ops.size->On Dc i->On D i)/\a=ac:=by
 have key:∀i,i<ops.size->On Dc i->On D i:=by
  intro i
  induction i using Nat.strongRecOn with
  |_ i ih=>
   intro hi hon
   by_cases hn:On D i
   .exact hn
   .exfalso;have:i∈Region.ready .any ops D:=(Bl S.sD).2 ⟨hi,hn,fun e he hb=>ih e.on (F.back i hi e he hb) (Nat.lt_trans (F.back i hi e he hb) hi) (S.cDc i hi hon e he hb)⟩;rw[hr] at this;simp at this
 refine⟨key,?_⟩;have ht:a.tmps=ac.tmps:=by
  apply Array.ext_getElem?;intro t;exact S.agree t fun i hi hon hn=>absurd (key i hi hon) hn
 have hd:=S.nod;cases a;cases ac
 simp only at ht hd;rw[ht,hd]
def cnt(D:Array Bool):Nat->Nat
 |0=>0
 |n+1=>(if D.getD n false=true then 0 else 1)+cnt D n
theorem Ars{D:Array Bool}{i:Nat}(hi:i<D.size)(hn:¬On D i):∀n,cnt (D.setIfInBounds i true) n+(if i<n then 1 else 0)=cnt D n
 |0=>by simp[cnt]
 |n+1=>by
  have ih:=Ars hi hn n;have h:=Eu (D:=D) (i:=i) (j:=n) hi;unfold On at h hn;simp only[cnt]
  by_cases hin:n=i
  .subst hin;rw[if_pos (h.2 (.inl rfl)),if_neg hn];simp at ih⊢;omega
  ·have h':(D.setIfInBounds i true).getD n false=true↔D.getD n false=true:=by
    rw[h];simp[hin]
   have e:(if (D.setIfInBounds i true).getD n false=true then 0 else 1)=(if D.getD n false=true then 0 else 1):=by
    by_cases hd:D.getD n false=true
    .rw[if_pos hd,if_pos (h'.2 hd)]
    .rw[if_neg hd,if_neg (fun x=>hd (h'.1 x))]
   rw[e];have:(if i<n+1 then 1 else 0)=(if i<n then 1 else 0):=by
    by_cases h1:i<n
    .rw[if_pos h1,if_pos oo]
    .rw[if_neg h1,if_neg oo]
   rw[this];omega
theorem Aep{D:Array Bool}:∀{n},cnt D n=0->∀i,i<n->On D i
 |0,_,i,hi=>oo
 |n+1,h,i,hi=>by
  simp only[cnt] at h
  by_cases hd:D.getD n false=true
  .rw[if_pos hd] at h;rcases Nat.lt_succ_iff_lt_or_eq.1 hi with h'|rfl
   .exact Aep oo i h'
   .exact hd
  .rw[if_neg hd] at h;omega
theorem Xx{D:Array Bool}(hs:D.size=ops.size){i:Nat}(hr:i∈Region.ready .any ops D){fuel:Nat}(h:cnt D ops.size<=fuel+1):cnt (D.setIfInBounds i true) ops.size<=fuel:=by
 obtain⟨hi,hn,_⟩:=(Bl hs).1 hr;have:=Ars (D:=D) oo hn ops.size;rw[if_pos hi] at this;omega
theorem Aw4(F:Cp ops cls A RL):∀ (fuel:Nat) (p:Plan) (D Dc:Array Bool) (a ac:Act) (w:World),Sim P ops cls RL R D Dc a ac w->Hw ops cls p Dc none=true->Bf P ops Q cls A RL R p ac w ->
  cnt D ops.size<=fuel->wpAny P .any ops Q fuel D a w:=by
 have ends:∀{j p alt D Dc a ac w},Sim P ops cls RL R D Dc a ac w->Hw ops cls (.e j p alt) Dc none=true->Region.ready .any ops D=[]->False:=by
  intro j p alt D Dc a ac w S hp hr;obtain⟨hk,_⟩:=S.level F hr;simp only[Hw,Bool.and_eq_true,List.contains_iff_mem] at hp;have hi:=hp.1.1.2;obtain⟨hi1,hi2,hi3⟩:=(Bl S.sDc).1 hi;have:j∈Region.ready .any ops D:=(Bl S.sD).2 ⟨hi1,fun h=>hi2 (S.sub j h),fun e he hb=>hk _ (Nat.lt_trans (F.back j hi1 e he hb) hi1) (hi3 e he hb)⟩;rw[hr] at this;simp at this
 intro fuel
 induction fuel with
 |zero=>
  intro p
  induction p with
  |q i p ih=>
   intro D Dc a ac w S hp hw h3;simp only[Hw,Bool.and_eq_true,List.contains_iff_mem,Nat.ble_eq] at hp;obtain⟨v,hv,hK⟩:=Akf hw;exact ih D _ a _ w (S.ahead F hp.1.1 hp.1.2 hv) hp.2 hK h3
  |done=>
   intro D Dc a ac w S hp hw h3;have hr:Region.ready .any ops D=[]:=List.eq_nil_iff_forall_not_mem.2 fun i hi=>by
    obtain⟨h1,h2,_⟩:=(Bl S.sD).1 hi;exact h2 (Aep oo i h1)
   obtain⟨_,rfl⟩:=S.level F hr;exact⟨hr,hw⟩
  |e i p alt _ _=>
   intro D Dc a ac w S hp hw h3;have hr:Region.ready .any ops D=[]:=List.eq_nil_iff_forall_not_mem.2 fun i hi=>by
    obtain⟨h1,h2,_⟩:=(Bl S.sD).1 hi;exact h2 (Aep oo i h1)
   exact (ends S hp hr).elim
  |stop=>intro D Dc a ac w S hp;simp[Hw] at hp
 |succ fuel ihf=>
  intro p
  induction p with
  |q i p ih=>
   intro D Dc a ac w S hp hw h3;simp only[Hw,Bool.and_eq_true,List.contains_iff_mem,Nat.ble_eq] at hp;obtain⟨v,hv,hK⟩:=Akf hw;exact ih D _ a _ w (S.ahead F hp.1.1 hp.1.2 hv) hp.2 hK h3
  |stop=>intro D Dc a ac w S hp;simp[Hw] at hp
  |done=>
   intro D Dc a ac w S hp hw h3;refine⟨fun hr=>?_,fun i hi=>?_⟩
   .obtain⟨_,rfl⟩:=S.level F hr;exact hw
   ·have hon:On Dc i:=by
     by_cases h:On Dc i
     .exact h
     .have:=Akg S hi h;simp only[Hw,List.isEmpty_iff] at hp;rw[hp] at this;simp at this
    exact S.catchUp F hi hon fun a' S'=>ihf _ _ _ _ _ _ S' hp hw (Xx S.sD hi h3)
  |e j p alt _ _=>
   intro D Dc a ac w S hp hw h3;refine⟨fun hr=>(ends S hp hr).elim,fun i hi=>?_⟩
   by_cases hon:On Dc i
   .exact S.catchUp F hi hon fun a' S'=>ihf _ _ _ _ _ _ S' hp hw (Xx S.sD hi h3)
   ·have hrc:=Akg S hi hon;simp only[Hw,Bool.and_eq_true,List.contains_iff_mem] at hp;obtain⟨⟨⟨_,hj⟩,hp1⟩,hp2⟩:=hp;have hstep:∃ p',Hw ops cls p' (Dc.setIfInBounds i true) none=true/\Aik P ops R (Nat.beq (cls.getD i 9) 3) (Afl A RL i) i (Bf P ops Q cls A RL R p') ac w:=by
     by_cases hij:i=j
     .subst hij;exact⟨p,hp1,hw.1⟩
     .exact alts alt _ hp2 hw.2 i ((List.mem_erase_of_ne hij).2 hrc)
    obtain⟨p',hp',he⟩:=hstep;exact S.both F hi hon le3 Anr he fun a' ac' w' S' hN=>ihf _ _ _ _ _ _ S' hp' hN (Xx S.sD hi h3)
theorem Kj{n i:Nat}:¬On (Array.replicate n false) i:=by
 unfold On;rw[Array.getD_eq_getD_getElem?,Array.getElem?_replicate];split <;> simp
theorem Zd(m:Nat):∀n,cnt (Array.replicate m false) n<=n
 |0=>by simp[cnt]
 |n+1=>by
  have:=Zd m n;simp only[cnt];split <;> omega
theorem Art{id:Nat}{a:Act}{w:World}(p:Plan)(hR:R w.drew)(hX:∀ w w',R w->Ext w w'->R w')(hm:P.follows .mixedOrders=true)(hd:Zc ops cls A RL=true)(hp:Hw ops cls p (Array.replicate ops.size false) none=true)(h:Bf P ops Q cls A RL R p a w.drew):
  (Code.region id ops true).wp P Q a w:=by
 refine wp_region_any hm ?_;have F:=Agh hd;refine Aw4 F ops.size p _ (Array.replicate ops.size false) a a _ ?_ hp h (Zd _ _);exact⟨.inr hR,hX,s_,s_,fun i _ h=>absurd h Kj,fun i _ h=>absurd h Kj,fun _ h=>h,fun i h=>absurd h Kj,rfl,rfl,fun _ _=>rfl,fun j _ h=>absurd h Kj⟩
variable {n:Nat}{fr:lF}{L:LE}{d i:Nat}{dst:Option Tmp}{op:Op}{ty:TypeId}{pos:String}{after:AE}{p alt:Plan}
theorem Heap.drew{w:World}(h:Heap L w):Heap L w.drew:=h.ext ⟨⟨rfl,rfl,rfl,Nat.le_refl _,fun _ _=>rfl⟩,Nat.le_succ _⟩
def RR(L0:LE)(w:World):Prop:=∀e∈L0,Ent.ok w e
theorem Bc9{id:Nat}(cls:Cls)(A:List (List Nat))(p:Plan)(hm:P.follows .mixedOrders=true)(hd:Zc ops cls A=true)(hp:Hw ops cls p (Array.replicate ops.size false) none=true)(k:T n (Bf P ops Q cls A [] (fun _=>True) p) fr L):
  T n ((Code.region id ops true).wp P Q) fr L:=fun a w ha hw=>Art (RL:=[]) (R:=fun _=>True) p trivial (fun _ _ _ _=>trivial) hm hd hp (k a w.drew ha hw.drew)
theorem Bak{id:Nat}(cls:Cls)(A:List (List Nat))(RL:List Nat)(L0:List Ent)(p:Plan)(hm:P.follows .mixedOrders=true)(hd:Zc ops cls A RL=true)(hp:Hw ops cls p (Array.replicate ops.size false) none=true)(hs:∀ w,(∀ e∈L,Ent.ok w e)->RR L0 w)(k:T n (Bf P ops Q cls A RL (RR L0) p) fr L):
  T n ((Code.region id ops true).wp P Q) fr L:=fun a w ha hw=>Art p (hs _ hw.drew.ok) (fun _ _ h hx e he=>Ent.ext (h e he) hx) hm hd hp (k a w.drew ha hw.drew)
theorem Bda{N:AW}{L0:LE}(hs:∀w,(∀e∈L,Ent.ok w e)->RR L0 w)(k:T n N fr L):T n (fun a w=>RR L0 w/\N a w) fr L:=fun a w ha hw=>⟨hs w hw.ok,k a w ha hw⟩
theorem Ap1(k:T n (Q .normal) fr L):T n (Bf P ops Q cls A RL R .done) fr L:=k
theorem Ze:T n (Bf P ops Q cls A RL R .stop) fr L:=fun _ _ _ _=>trivial
theorem P_q{v:Value}(hc:Nat.beq (cls.getD i 9) 0=false)(ho:ops[i]? = some ⟨some d,op,ty,pos,after,none⟩)(h:Ev P n ⟨some d,op,ty,pos,after,none⟩ fr L v)(hd:Nat.blt d n=true)(k:T n (Bf P ops Q cls A RL R p) ((d,v)::fr) L)(hr:RL.contains i=false:=by rfl):
  T n (Bf P ops Q cls A RL R (.q i p)) fr L:=by
 intro a w ha hw;show if _ then _ else _
 rw[if_neg (by rw[hc];simp),if_neg (by rw[hr];simp)];exact⟨_,ho,.inl ⟨rfl,v,fun w' hx=>h a w' ha (hw.ext hx).ok,k _ _ (ha.put hd) hw⟩⟩
theorem P_r{L0:List Ent}{v:Value}(hc:Nat.beq (cls.getD i 9) 0=false)(ho:ops[i]? = some ⟨some d,op,ty,pos,after,none⟩)(h:Ev P n ⟨some d,op,ty,pos,after,none⟩ fr L0 v)(hd:Nat.blt d n=true)(k:T n (Bf P ops Q cls A RL (RR L0) p) ((d,v)::fr) L)(hr:RL.contains i=true:=by rfl):
  T n (Bf P ops Q cls A RL (RR L0) (.q i p)) fr L:=by
 intro a w ha hw;show if _ then _ else _
 rw[if_neg (by rw[hc];simp),if_pos hr];exact⟨_,ho,.inl ⟨rfl,v,fun w' hx=>h a w' ha hx,k _ _ (ha.put hd) hw⟩⟩
theorem P_p{v:Value}(hc:Nat.beq (cls.getD i 9) 0=true)(ho:ops[i]? = some ⟨some d,op,ty,pos,after,none⟩)(h:Ev P n ⟨some d,op,ty,pos,after,none⟩ fr [] v)(hd:Nat.blt d n=true)(k:T n (Bf P ops Q cls A RL R p) ((d,v)::fr) L):
  T n (Bf P ops Q cls A RL R (.q i p)) fr L:=by
 intro a w ha hw;show if _ then _ else _
 rw[if_pos hc];exact⟨_,ho,.inl ⟨rfl,v,fun w'=>h a w' ha s_,k _ _ (ha.put hd) hw⟩⟩
theorem P_qG{j s:Nat}{b:Bool}{v:Value}(hc:Nat.beq (cls.getD i 9) 0=false)(ho:ops[i]? = some ⟨some d,op,ty,pos,after,some (j,b)⟩)(hj:(ops[j]?).bind (·.dst)=some s)(hs:look fr s=some (.bool b))(hsn:Nat.blt s n=true)(h:Ev P n ⟨some d,op,ty,pos,after,some (j,b)⟩ fr L v)(hd:Nat.blt d n=true)(k:T n (Bf P ops Q cls A RL R p) ((d,v)::fr) L)(hr:RL.contains i=false:=by rfl):
  T n (Bf P ops Q cls A RL R (.q i p)) fr L:=by
 intro a w ha hw;show if _ then _ else _
 rw[if_neg (by rw[hc];simp),if_neg (by rw[hr];simp)];exact⟨_,ho,.inl ⟨by rw[Un hj ha hs hsn];simp,v,fun w' hx=>h a w' ha (hw.ext hx).ok,k _ _ (ha.put hd) hw⟩⟩
theorem P_pG{j s:Nat}{b:Bool}{v:Value}(hc:Nat.beq (cls.getD i 9) 0=true)(ho:ops[i]? = some ⟨some d,op,ty,pos,after,some (j,b)⟩)(hj:(ops[j]?).bind (·.dst)=some s)(hs:look fr s=some (.bool b))(hsn:Nat.blt s n=true)(h:Ev P n ⟨some d,op,ty,pos,after,some (j,b)⟩ fr [] v)(hd:Nat.blt d n=true)(k:T n (Bf P ops Q cls A RL R p) ((d,v)::fr) L):
  T n (Bf P ops Q cls A RL R (.q i p)) fr L:=by
 intro a w ha hw;show if _ then _ else _
 rw[if_pos hc];exact⟨_,ho,.inl ⟨by rw[Un hj ha hs hsn];simp,v,fun w'=>h a w' ha s_,k _ _ (ha.put hd) hw⟩⟩
theorem Bdb{j s:Nat}{b b':Bool}(ho:ops[i]? = some ⟨some d,op,ty,pos,after,some (j,b)⟩)(hj:(ops[j]?).bind (·.dst)=some s)(hs:look fr s=some (.bool b'))(hsn:Nat.blt s n=true)(hne:(b'==b)=false)(hd:Nat.blt d n=true)(k:T n (Bf P ops Q cls A RL R p) ((d,undef)::fr) L):T n (Bf P ops Q cls A RL R (.q i p)) fr L:=by
 intro a w ha hw;have hwn:Region.wanted ⟨some d,op,ty,pos,after,some (j,b)⟩ (yielded ops a.tmps)=false:=by rw[Un hj ha hs hsn,hne]
 show if _ then _ else _
 by_cases hc:Nat.beq (cls.getD i 9) 0=true
 .rw[if_pos hc];exact⟨_,ho,.inr ⟨hwn,k _ _ (ha.put hd) hw⟩⟩
 .rw[if_neg hc];split
  .exact⟨_,ho,.inr ⟨hwn,k _ _ (ha.put hd) hw⟩⟩
  .exact⟨_,ho,.inr ⟨hwn,k _ _ (ha.put hd) hw⟩⟩
theorem P_x(ho:ops[i]? = some ⟨dst,op,ty,pos,after,none⟩)(h:Wx P noQ n ⟨dst,op,ty,pos,after,none⟩ fr L (Bf P ops Q cls A RL R p))(k2:T n (Bf P ops Q cls A RL R alt) fr L):T n (Bf P ops Q cls A RL R (.e i p alt)) fr L:=by
 intro a w ha hw;exact⟨⟨_,ho,.inl ⟨rfl,Oper.wp_mono (fun _ _ hh=>⟨.inl hh.1,hh.2⟩) (h a w ha hw)⟩⟩,k2 a w ha hw⟩
theorem P_h(hc:Nat.beq (cls.getD i 9) 3=true)(ho:ops[i]? = some ⟨dst,op,ty,pos,after,none⟩)(h:Wh P noQ n ⟨dst,op,ty,pos,after,none⟩ fr L (Bf P ops Q cls A RL (fun _=>True) p))(k2:T n (Bf P ops Q cls A RL (fun _=>True) alt) fr L):T n (Bf P ops Q cls A RL (fun _=>True) (.e i p alt)) fr L:=by
 intro a w ha hw;exact⟨⟨_,ho,.inl ⟨rfl,Oper.wp_mono (fun _ _ hh=>⟨.inr ⟨hc,.inr trivial⟩,hh⟩) (h a w ha hw)⟩⟩,k2 a w ha hw⟩
theorem P_hR{L0:LE}(hc:Nat.beq (cls.getD i 9) 3=true)(ho:ops[i]? = some ⟨dst,op,ty,pos,after,none⟩)(h:Wh P noQ n ⟨dst,op,ty,pos,after,none⟩ fr L (fun a w=>RR L0 w/\Bf P ops Q cls A RL (RR L0) p a w))(k2:T n (Bf P ops Q cls A RL (RR L0) alt) fr L):T n (Bf P ops Q cls A RL (RR L0) (.e i p alt)) fr L:=by
 intro a w ha hw;exact⟨⟨_,ho,.inl ⟨rfl,Oper.wp_mono (fun _ _ hh=>⟨.inr ⟨hc,.inr hh.1⟩,hh.2⟩) (h a w ha hw)⟩⟩,k2 a w ha hw⟩
theorem P_hL(hc:Nat.beq (cls.getD i 9) 3=true)(hl:Afl A RL i=true)(ho:ops[i]? = some ⟨dst,op,ty,pos,after,none⟩)(h:Wh P noQ n ⟨dst,op,ty,pos,after,none⟩ fr L (Bf P ops Q cls A RL R p))(k2:T n (Bf P ops Q cls A RL R alt) fr L):T n (Bf P ops Q cls A RL R (.e i p alt)) fr L:=by
 intro a w ha hw;exact⟨⟨_,ho,.inl ⟨rfl,Oper.wp_mono (fun _ _ hh=>⟨.inr ⟨hc,.inl hl⟩,hh⟩) (h a w ha hw)⟩⟩,k2 a w ha hw⟩
theorem Alp{N:AW}{Q:Exit->AW}{guard}{v:Value}(h:Ev P n ⟨some d,op,ty,pos,after,guard⟩ fr L v)(hd:Nat.blt d n=true)(k:T n N ((d,v)::fr) L):Wx P Q n ⟨some d,op,ty,pos,after,guard⟩ fr L N:=by
 intro a w ha hw;simp only[Oper.wp,h a w ha hw.ok,Oper.upon_value];exact⟨Ext.refl w,k _ _ (ha.put hd) hw⟩
end
end Go.Proofs.YthlkpgdfifnagaaGreat
