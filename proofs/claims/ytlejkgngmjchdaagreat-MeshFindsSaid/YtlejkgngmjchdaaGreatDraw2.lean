import Derived.Test.YtlejkgngmjchdaaGreatFlow22
namespace Go.Proofs.YtlejkgngmjchdaaGreat
open Go Go.RowKit
structure Ea where
 i:Nat
 d:Nat
 g:Nat
 t:TypeId
 cs:LV
def Ea.e(x:Ea):Ent:=.m x.g x.t x.cs
def AlAt(P:Program)(ops:Array Oper)(n i d:Nat)(t:TypeId)(cs:LV):Prop :=
 (∃ty pos after,ops[i]? = some ⟨some d,.alloc t,ty,pos,after,none⟩)/\Wo P t cs/\Nat.blt d n=true
theorem Wo.one{P:Program}{t:TypeId}{cs cs':LV}(h:Wo P t cs)(h':Wo P t cs')(w:World):cs=cs':=by
 obtain⟨z,h1,h2⟩:=h;obtain⟨z',h1',h2'⟩:=h';have:=(h1 w).symm.trans (h1' w);injection this with this
 subst this;exact List.toArray_inj (h2.symm.trans h2')
theorem AlAt.one{P:Program}{ops:Array Oper}{n i d d':Nat}{t t':TypeId}{cs cs':LV}(h:AlAt P ops n i d t cs)(h':AlAt P ops n i d' t' cs')(w:World):d=d'/\t=t'/\cs=cs':=by
 obtain⟨⟨_,_,_,h1⟩,h2,_⟩:=h;obtain⟨⟨_,_,_,h1'⟩,h2',_⟩:=h';have:=h1.symm.trans h1';injection this with this
 injection this with e1 e2
 injection e1 with e1
 injection e2 with e2
 subst e1;subst e2;exact⟨rfl,rfl,h2.one h2' w⟩
def Abl(cls:Cls)(m:Nat):LM:=(List.range m).filter fun i=>Nat.beq (cls.getD i 9) 4
def Aeh(D:Array Bool)(l:LM):Array Bool:=l.foldl (fun D i=>D.setIfInBounds i true) D
def Aei:LM->Nat->Bool
 |[j],i=>Nat.beq j i
 |_,_=>false
def Abm(ops:Array Oper)(cls:Cls)(fs:LM):LM->Array Bool->Bool
 |[],D=>(Region.ready .any ops D).isEmpty
 |i::r,D=>(Region.ready .any ops D).contains i&&Abm ops cls fs r (D.setIfInBounds i true) &&
  (if Nat.beq (cls.getD i 9) 4 then Aei (Region.ready .any ops (Aeh D (fs.erase i))) i
  else if Nat.ble (cls.getD i 9) 1 then true
  else if Nat.beq (cls.getD i 9) 2 then Aei (Region.ready .any ops (Aeh D fs)) i
  else Nat.beq (cls.getD i 9) 3&&Aei (Region.ready .any ops D) i&&fs.all (fun x=>D.getD x false))
def Aoe(ops:Array Oper)(cls:Cls)(A:LL)(fs:LM):Bool:=Nat.ble cls.length ops.size &&
 fs.all fun i=>(A.getD i []).isEmpty&&(opAt ops i).after.all (fun e=>!Region.binds .any e)
section
variable {P:Program}{ops:Array Oper}{Q:Exit->AW}{cls:Cls}{A:LL}{n:Nat}
def PB(P:Program)(ops:Array Oper)(Q:Exit->AW)(cls:Cls)(n:Nat):LM->lF->LE->Prop
 |[],fr,L=>T n (Q .normal) fr L
 |i::r,fr,L=>
  if Nat.beq (cls.getD i 9) 4 then ∀d t cs,AlAt P ops n i d t cs->∀g,PB P ops Q cls n r ((d,.pointer (some ⟨g,0,none⟩))::fr) (.m g t cs::L)
  else if Nat.ble (cls.getD i 9) 1 then ∀F a w,(∀e∈F,e.low=0)->Fr n fr a->Heap (F++L) w ->
   if Nat.beq (cls.getD i 9) 0 then Atk P ops i (fun a' _=>∃fr',Fr n fr' a'/\PB P ops Q cls n r fr' L) a w else Atj P ops i (fun a' _=>∃fr',Fr n fr' a'/\PB P ops Q cls n r fr' L) a w
  else if Nat.beq (cls.getD i 9) 2 then ∀F a w,(∀e∈F,e.low=0)->Fr n fr a->Heap (F++L) w->Afm P ops (fun _=>True) false true i (fun a' w'=>∃fr' L',Fr n fr' a'/\Heap (F++L') w'/\PB P ops Q cls n r fr' L') a w
  else ∀a w,Fr n fr a->Heap L w->Afm P ops (fun _=>True) true true i (fun a' w'=>∃fr' L',Fr n fr' a'/\Heap L' w'/\PB P ops Q cls n r fr' L') a w
theorem Al7{l:LM}:∀{D:Array Bool} {j:Nat},(∀i∈l,i<D.size)->(On (Aeh D l) j↔j∈l\/On D j):=by
 induction l with
 |nil=>intro D j _;simp[Aeh]
 |cons x r ih=>
  intro D j h;have h1:∀i∈r,i<(D.setIfInBounds x true).size:=fun i hi=>by simpa using h i (mO _ hi)
  have:=ih (D:=D.setIfInBounds x true) (j:=j) h1;rw[Fp (h x mS)] at this;show On (Aeh (D.setIfInBounds x true) r) j↔_;rw[this,List.mem_cons];constructor
  .rintro (h|h|h)
   .exact .inl (.inr h)
   .exact .inl (.inl h)
   .exact .inr h
  .rintro ((h|h)|h)
   .exact .inr (.inl h)
   .exact .inl h
   .exact .inr (.inr h)
theorem Aof{l:LM}:∀{D:Array Bool},(Aeh D l).size=D.size:=by
 induction l with
 |nil=>intro D;rfl
 |cons x r ih=>intro D;show (Aeh (D.setIfInBounds x true) r).size=_;rw[ih];simp
theorem Asq{l:LM}{i j:Nat}(h:Aei l i=true)(hj:j∈l):j=i:=by
 cases l with
 |nil=>simp[Aei] at h
 |cons x r=>cases r with
  |nil=>simp only[Aei] at h;rw[List.mem_singleton.1 hj];exact Nat.eq_of_beq_eq_true h
  |cons y r=>simp[Aei] at h
structure Sim2(P:Program)(ops:Array Oper)(cls:Cls)(n:Nat)(D Dc:Array Bool)(F:List Ea)(a ac:Act)(w:World):Prop where
 ex:∃E b,Sim P ops cls [] (fun _=>True) E Dc b ac w/\(∀i,On D i↔On E i\/∃x∈F,x.i=i)/\a.tmps.size=b.tmps.size/\a.defers=b.defers /\
  (∀t,(∀x∈F,x.d≠t)->a.tmps[t]? = b.tmps[t]?)
 sD:D.size=ops.size
 val:∀x∈F,a.tmps[x.d]? = some (.pointer (some ⟨x.g,0,none⟩))
 al:∀x∈F,AlAt P ops n x.i x.d x.t x.cs/\cls.getD x.i 9=4/\¬On Dc x.i
 ne:F.Pairwise fun x y=>x.i≠y.i
theorem AlAt.lt{i d:Nat}{t:TypeId}{cs:LV}(h:AlAt P ops n i d t cs):i<ops.size:=by
 obtain⟨⟨_,_,_,h⟩,_⟩:=h;exact (Array.getElem?_eq_some_iff.1 h).1
theorem AlAt.dst{i d:Nat}{t:TypeId}{cs:LV}(h:AlAt P ops n i d t cs):(opAt ops i).dst=some d:=by
 obtain⟨⟨_,_,_,h⟩,_⟩:=h;rw[Vy h]
theorem far4(F:Dn ops cls A []){i d:Nat}{t:TypeId}{cs:LV}(h:AlAt P ops n i d t cs)(h0:A.getD i []=[]){j:Nat}(hj:j<ops.size)(hne:j≠i)(hn:Zc ops (opAt ops j) d=true):i∈A.getD j []:=by
 rcases F.slots i h.lt d h.dst j hj hne hn with h|⟨_,h⟩
 .exact h
 .rw[h0] at h;simp at h
theorem Sim2.down{D Dc:Array Bool}{Fl:List Ea}{a ac:Act}{w:World}(S:Sim2 P ops cls n D Dc Fl a ac w)(F:Dn ops cls A [])(h0:∀ i,cls.getD i 9=4->A.getD i []=[]){E:Array Bool}{b:Act}(S0:Sim P ops cls [] (fun _=>True) E Dc b ac w)(hD:∀ i,On D i↔On E i\/∃ x∈Fl,x.i=i){j:Nat}(hr:j∈Region.ready .any ops D)(hc:On Dc j\/j∈Region.ready .any ops Dc):
  j∈Region.ready .any ops E/\∀x∈Fl,j≠x.i/\Zc ops (opAt ops j) x.d=false:=by
 obtain⟨hj,hn,hdep⟩:=(Bs S.sD).1 hr;have hdc:∀e∈(opAt ops j).after,Region.binds .any e=true->On Dc e.on:=by
  rcases hc with h|h
  .exact S0.cDc j hj h
  .exact ((Bs S0.sDc).1 h).2.2
 have hE:∀e∈(opAt ops j).after,Region.binds .any e=true->On E e.on:=by
  intro e he hb;rcases (hD _).1 (hdep e he hb) with h|⟨x,hx,h⟩
  .exact h
  .exact absurd (h▸hdc e he hb) (S.al x hx).2.2
 refine⟨(Bs S0.sD).2 ⟨hj,fun h=>hn ((hD j).2 (.inl h)),hE⟩,fun x hx=>?_⟩;have hne:j≠x.i:=fun e=>hn ((hD j).2 (.inr ⟨x,hx,e.symm⟩))
 refine⟨hne,?_⟩;cases hnm:Zc ops (opAt ops j) x.d with
 |false=>rfl
 |true=>
  have h:=far4 F (S.al x hx).1 (h0 _ (S.al x hx).2.1) hj hne hnm;exact absurd (S0.sub _ (Afn F S0.cD j hj hE _ h)) (S.al x hx).2.2
theorem Sim2.ahead(F:Dn ops cls A []){D Dc:Array Bool}{Fl:List Ea}{a ac:Act}{w:World}(S:Sim2 P ops cls n D Dc Fl a ac w){i:Nat}(hr:i∈Region.ready .any ops Dc)(hc:cls.getD i 9<=1){v:Value}(hv:(Region.wanted (opAt ops i) (yielded ops ac.tmps)=true/\(∀ w',Ad8 (cls.getD i 9) false (fun _=>True) w w'->(execOp ac.eval (opAt ops i)).run P w' = .ok (.value v) w'))\/(Region.wanted (opAt ops i) (yielded ops ac.tmps)=false/\v=undef)):
  Sim2 P ops cls n D (Dc.setIfInBounds i true) Fl a (ac.put (opAt ops i).dst v) w:=by
 obtain⟨E,b,S0,hD,h1,h2,h3⟩:=S.ex;have hi:=((Bs S0.sDc).1 hr).1;refine⟨⟨E,b,S0.ahead F hr hc hv,hD,h1,h2,h3⟩,S.sD,S.val,fun x hx=>⟨(S.al x hx).1,(S.al x hx).2.1,fun h=>?_⟩,S.ne⟩;rcases (Fp (by rw[S0.sDc];exact hi)).1 h with h|h
 .have:=(S.al x hx).2.1;rw[h] at this;omega
 .exact (S.al x hx).2.2 h
theorem Air{a b:Act}{d:Option Tmp}{v:Value}{t:Nat}(hs:a.tmps.size=b.tmps.size)(h:d≠some t->a.tmps[t]? = b.tmps[t]?):(a.put d v).tmps[t]? = (b.put d v).tmps[t]?:=by
 by_cases hd:d=some t
 .subst hd
  by_cases hlt:t<a.tmps.size
  .rw[Sp hlt,Sp oo]
  .rw[Array.getElem?_eq_none (by rw[Gz];omega),Array.getElem?_eq_none (by rw[Gz];omega)]
 .rw[Hl hd,Hl hd,h hd]
theorem Sim2.catchUp{D Dc:Array Bool}{Fl:List Ea}{a ac:Act}{w:World}(S:Sim2 P ops cls n D Dc Fl a ac w)(F:Dn ops cls A [])(h0:∀i,cls.getD i 9=4->A.getD i []=[]){i:Nat}(hr:i∈Region.ready .any ops D)(hon:On Dc i){K:AW}(k:∀a',Sim2 P ops cls n (D.setIfInBounds i true) Dc Fl a' ac w->K a' w):wpOp P ops Q i K a w:=by
 obtain⟨E,b,S0,hD,e1,e2,e3⟩:=S.ex;obtain⟨hi,hn,hdep⟩:=(Bs S.sD).1 hr;obtain⟨hrE,hfar⟩:=S.down F h0 S0 hD hr (.inl hon);obtain⟨hl,v,hv,hS⟩:=S0.late F hrE hon;have hl':∀t∈(opAt ops i).looksAt ops,a.tmps[t]? = ac.tmps[t]?:=fun t ht=>by
  rw[<-hl t ht];refine e3 t fun x hx e=>?_
  have:=(hfar x hx).2;rw[e,Tl ht] at this;cases this
 obtain⟨h1,h2⟩:=Uu F.sel (Vz hi) hl';have hdx:∀x∈Fl,(opAt ops i).dst≠some x.d:=fun x hx h=>by
  have:=(hfar x hx).2;rw[Ws h] at this;cases this
 have hiD:i<D.size:=by rw[S.sD];exact hi
 have hiE:i<E.size:=by rw[S0.sD];exact hi
 have next:Sim2 P ops cls n (D.setIfInBounds i true) Dc Fl (a.put (opAt ops i).dst v) ac w:=by
  refine⟨⟨_,_,hS,fun j=>?_,by rw[Gz,Gz];exact e1,by rw[Nf,Nf];exact e2,fun t ht=>Air e1 fun _=>e3 t ht⟩,by simp[S.sD],fun x hx=>by rw[Hl (hdx x hx)];exact S.val x hx,S.al,S.ne⟩;rw[Fp hiD,Fp hiE,hD];constructor
  .rintro (h|h|h)
   .exact .inl (.inl h)
   .exact .inl (.inr h)
   .exact .inr h
  .rintro ((h|h)|h)
   .exact .inl h
   .exact .inr (.inl h)
   .exact .inr (.inr h)
 unfold wpOp;rw[Vz hi];dsimp only;rcases hv with⟨hwn,hv⟩|⟨hwn,rfl⟩
 .rw[iP (by rw[h2];exact hwn)];left;simp only[Oper.wp,h1,hv,Oper.upon_value];exact k _ next
 .rw[iN (by rw[h2,hwn];simp)];exact k _ next
theorem Sim2.both{D Dc:Array Bool}{Fl:List Ea}{a ac:Act}{w:World}(S:Sim2 P ops cls n D Dc Fl a ac w)(F:Dn ops cls A [])(h0:∀i,cls.getD i 9=4->A.getD i []=[]){i:Nat}(hr:i∈Region.ready .any ops D)(hrc:i∈Region.ready .any ops Dc){hard:Bool}(hh:hard=true->cls.getD i 0=3){N K:AW}(he:Afm P ops (fun _=>True) hard true i N ac w)(k:∀a' ac' w',Sim2 P ops cls n (D.setIfInBounds i true) (Dc.setIfInBounds i true) Fl a' ac' w'->N ac' w'->K a' w'):wpOp P ops Q i K a w:=by
 obtain⟨E,b,S0,hD,e1,e2,e3⟩:=S.ex;obtain⟨hi,hn,hdep⟩:=(Bs S.sD).1 hr;obtain⟨_,hnc,_⟩:=(Bs S0.sDc).1 hrc;obtain⟨hrE,hfar⟩:=S.down F h0 S0 hD hr (.inr hrc);obtain⟨hl,hS⟩:=S0.step F hrE hnc (hard:=hard) hh (lst:=true) (fun _ j hj=>by simp at hj);have hl':∀t∈(opAt ops i).looksAt ops,a.tmps[t]? = ac.tmps[t]?:=fun t ht=>by
  rw[<-hl t ht];refine e3 t fun x hx e=>?_
  have:=(hfar x hx).2;rw[e,Tl ht] at this;cases this
 obtain⟨h1,h2⟩:=Uu F.sel (Vz hi) hl';have hdx:∀x∈Fl,(opAt ops i).dst≠some x.d:=fun x hx h=>by
  have:=(hfar x hx).2;rw[Ws h] at this;cases this
 have hiD:i<D.size:=by rw[S.sD];exact hi
 have hiE:i<E.size:=by rw[S0.sD];exact hi
 have hiDc:i<Dc.size:=by rw[S0.sDc];exact hi
 have next:∀ds v w',(Ext w w'\/hard=true)->Sim2 P ops cls n (D.setIfInBounds i true) (Dc.setIfInBounds i true) Fl ({a with defers:=ds}.put (opAt ops i).dst v) ({ac with defers:=ds}.put (opAt ops i).dst v) w':=by
  intro ds v w' hx;refine⟨⟨_,_,hS ds v w' (hx.imp id fun h=>⟨h,.inl rfl⟩),fun j=>?_,by rw[Gz,Gz];exact e1,by rw[Nf,Nf],fun t ht=>Air e1 fun _=>e3 t ht⟩,by simp[S.sD],fun x hx=>by rw[Hl (hdx x hx)];exact S.val x hx,fun x hx=>⟨(S.al x hx).1,(S.al x hx).2.1,fun h=>?_⟩,S.ne⟩
  .rw[Fp hiD,Fp hiE,hD];constructor
   .rintro (h|h|h)
    .exact .inl (.inl h)
    .exact .inl (.inr h)
    .exact .inr h
   .rintro ((h|h)|h)
    .exact .inl h
    .exact .inr (.inl h)
    .exact .inr (.inr h)
  .rcases (Fp hiDc).1 h with h|h
   .exact (hfar x hx).1 h.symm
   .exact (S.al x hx).2.2 h
 obtain⟨o,ho,he⟩:=he;have hoa:=Vy ho;unfold wpOp;rw[ho];dsimp only;rw[hoa] at h1 h2;rcases he with⟨hwn,he⟩|⟨hwn,he⟩
 .rw[iP (by rw[h2];exact hwn)];left;unfold Oper.wp at he⊢;rw[h1];refine Ah1 (e2.trans S0.nod) (fun ds v w' hh'=>?_) he;have:=next ds v w' (hh'.1.imp id fun h=>h.1);rw[hoa] at this;exact k _ _ _ this hh'.2
 .rw[iN (by rw[h2,hwn];simp)];have:=next ac.defers undef w (.inl (Ext.refl w));rw[hoa] at this;rw[show ({a with defers:=ac.defers}:Act)=a from by rw[<-S0.nod,<-e2]] at this;exact k _ _ _ this he
theorem Sim.extW{D Dc:Array Bool}{a ac:Act}{w w':World}(F:Dn ops cls A [])(S:Sim P ops cls [] (fun _=>True) D Dc a ac w)(hx:Ext w w'):Sim P ops cls [] (fun _=>True) D Dc a ac w' :=
 ⟨.inr trivial,S.extR,S.sD,S.sDc,S.cD,S.cDc,S.sub,S.cl,S.size,S.nod,S.agree,fun j hj h1 h2=>Pend.turn F hj rfl (S.pend j hj h1 h2) (fun _ _=>rfl) (fun _ _=>rfl) (.inr (.inr hx))⟩
theorem Sim2.early{D Dc:Array Bool}{Fl:List Ea}{a ac:Act}{w:World}(S:Sim2 P ops cls n D Dc Fl a ac w)(F:Dn ops cls A [])(h0:∀i,cls.getD i 9=4->A.getD i []=[]){i d:Nat}{t:TypeId}{cs:LV}(hr:i∈Region.ready .any ops D)(ha:AlAt P ops n i d t cs)(h4:cls.getD i 9=4)(hn:ac.tmps.size=n){K:AW}(k:∀a' g w',Sim2 P ops cls n (D.setIfInBounds i true) Dc (⟨i,d,g,t,cs⟩ :: Fl) a' ac w'->(∀L,Heap L w->Heap (.m g t cs::L) w')->K a' w'):wpOp P ops Q i K a w:=by
 obtain⟨E,b,S0,hD,e1,e2,e3⟩:=S.ex;obtain⟨hi,hnD,hdep⟩:=(Bs S.sD).1 hr;have hiD:i<D.size:=by rw[S.sD];exact hi
 have hnc:¬On Dc i:=fun h=>by
  have:=S0.cl i h (fun h'=>hnD ((hD i).2 (.inl h')));omega
 have hdx:∀x∈Fl,x.i≠i/\x.d≠d:=fun x hx=>by
  have hne:x.i≠i:=fun e=>hnD ((hD i).2 (.inr ⟨x,hx,e⟩))
  refine⟨hne,fun e=>?_⟩;have:=far4 F (S.al x hx).1 (h0 _ (S.al x hx).2.1) hi hne.symm (Ws (by rw[ha.dst,e]));rw[h0 i h4] at this;simp at this
 have hds:d<a.tmps.size:=by
  have:=ha.2.2;rw[e1,S0.size,hn];simpa using this
 obtain⟨⟨ty,pos,after,ho⟩,⟨z,hz1,hz2⟩,hdn⟩:=id ha;unfold wpOp;rw[ho];dsimp only;rw[iP (by rfl)];left;have hrun:(execOp a.eval ⟨some d,.alloc t,ty,pos,after,none⟩).run P w=.ok (.value (.pointer (some ⟨w.heap.size,0,none⟩))) (w.alloc (.cells cs.toArray t)):=by
  simp[execOp,Instr.alloc,hz1,newVar,newRow,hz2]
 simp only[Oper.wp,hrun,Oper.upon_value];have hext:Ext w (w.alloc (.cells cs.toArray t)):=((Heap.alloc (L:=[.old w]) ⟨fun e he=>by rw[List.mem_singleton.1 he];exact Ext.refl w,s_⟩ t cs).ok (.old w) s_);refine k _ w.heap.size _ ⟨⟨E,b,S0.extW F hext,fun j=>?_,by rw[Gz];exact e1,by rw[Nf];exact e2,fun t' ht=>?_⟩,by simp[S.sD],fun x hx=>?_,fun x hx=>?_,List.pairwise_cons.2 ⟨fun x hx=>(hdx x hx).1.symm,S.ne⟩⟩ fun L hL=>hL.alloc t cs
 .rw[Fp hiD,hD];constructor
  .rintro (h|h|⟨x,hx,h⟩)
   .exact .inr ⟨_,mS,h.symm⟩
   .exact .inl h
   .exact .inr ⟨x,mO _ hx,h⟩
  .rintro (h|⟨x,hx,h⟩)
   .exact .inr (.inl h)
   .rcases List.mem_cons.1 hx with rfl|hx
    .exact .inl h.symm
    .exact .inr (.inr ⟨x,hx,h⟩)
 .rw[Hl (by intro e;injection e with e;exact ht _ mS e)];exact e3 t' fun x hx=>ht x (mO _ hx)
 .rcases List.mem_cons.1 hx with rfl|hx
  .exact Sp hds
  .rw[Hl (by intro e;injection e with e;exact (hdx x hx).2 e.symm)];exact S.val x hx
 .rcases List.mem_cons.1 hx with rfl|hx
  .exact⟨ha,h4,hnc⟩
  .exact S.al x hx
theorem Sim2.takes{D Dc:Array Bool}{F1 F2:List Ea}{x:Ea}{a ac:Act}{w:World}(S:Sim2 P ops cls n D Dc (F1++x::F2) a ac w)(F:Dn ops cls A [])(hb4:∀ i,cls.getD i 9=4->∀ e∈(opAt ops i).after,Region.binds .any e=true->False):
  Sim2 P ops cls n D (Dc.setIfInBounds x.i true) (F1++F2) a (ac.put (some x.d) (.pointer (some ⟨x.g,0,none⟩))) w:=by
 obtain⟨E,b,S0,hD,e1,e2,e3⟩:=S.ex;have hxm:x∈F1++x::F2:=s_;obtain⟨hal,h4,hnc⟩:=S.al x hxm;have hi:=hal.lt;have hiE:x.i<E.size:=by rw[S0.sD];exact hi
 have hiDc:x.i<Dc.size:=by rw[S0.sDc];exact hi
 have hsub:∀y∈F1++F2,y∈F1++x::F2:=fun y hy=>by
  rcases List.mem_append.1 hy with h|h
  .exact List.mem_append_left _ h
  .exact List.mem_append_right _ (mO _ h)
 have hp:(x::(F1++F2)).Pairwise fun x y=>x.i≠y.i:=(List.perm_middle (a:=x) (l₁:=F1) (l₂:=F2)).pairwise_iff (fun h=>h.symm) |>.1 S.ne
 obtain⟨hp1,hp2⟩:=List.pairwise_cons.1 hp;have hbind:∀e∈(opAt ops x.i).after,Region.binds .any e=true->On E e.on:=fun e he hb=>(hb4 _ h4 e he hb).elim
 have hrE:x.i∈Region.ready .any ops E:=(Bs S0.sD).2 ⟨hi,fun h=>hnc (S0.sub _ h),hbind⟩;obtain⟨_,hS⟩:=S0.step F hrE hnc (hard:=false) (fun h=>by cases h) (lst:=true) (fun _ j hj=>by simp at hj);have hS:=hS ac.defers (.pointer (some ⟨x.g,0,none⟩)) w (.inl (Ext.refl w));rw[hal.dst,show ({b with defers:=ac.defers}:Act)=b from by rw[<-S0.nod]] at hS;refine⟨⟨_,_,hS,fun j=>?_,by rw[Gz];exact e1,by rw[Nf];exact e2,fun t ht=>?_⟩,S.sD,fun y hy=>S.val y (hsub y hy),fun y hy=>⟨(S.al y (hsub y hy)).1,(S.al y (hsub y hy)).2.1,fun h=>?_⟩,hp2⟩
 .rw[hD,Fp hiE];constructor
  .rintro (h|⟨y,hy,h⟩)
   .exact .inl (.inr h)
   .rcases List.mem_append.1 hy with hy|hy
    .exact .inr ⟨y,List.mem_append_left _ hy,h⟩
    .rcases List.mem_cons.1 hy with rfl|hy
     .exact .inl (.inl h.symm)
     .exact .inr ⟨y,List.mem_append_right _ hy,h⟩
  .rintro ((h|h)|⟨y,hy,h⟩)
   .exact .inr ⟨x,hxm,h.symm⟩
   .exact .inl h
   .exact .inr ⟨y,hsub y hy,h⟩
 .by_cases hd:x.d=t
  .subst hd;rw[S.val x hxm,Sp];have:=(Array.getElem?_eq_some_iff.1 (S.val x hxm)).1;omega
  .rw[Hl (by intro e;injection e with e;exact hd e)];refine e3 t fun y hy=>?_
   rcases List.mem_append.1 hy with hy|hy
   .exact ht y (List.mem_append_left _ hy)
   .rcases List.mem_cons.1 hy with rfl|hy
    .exact hd
    .exact ht y (List.mem_append_right _ hy)
 .rcases (Fp hiDc).1 h with h|h
  .exact hp1 y hy h.symm
  .exact (S.al y (hsub y hy)).2.2 h
structure Four(P:Program)(ops:Array Oper)(cls:Cls)(A:LL)(n:Nat)(fs:LM):Prop where
 mem:∀i,i<ops.size->(i∈fs↔cls.getD i 9=4)
 lt:∀i∈fs,i<ops.size
 anc:∀i,cls.getD i 9=4->A.getD i []=[]
 free:∀i,cls.getD i 9=4->∀e∈(opAt ops i).after,Region.binds .any e=true->False
 al:∀i∈fs,∃d t cs,AlAt P ops n i d t cs
theorem Aj8{D:Array Bool}(F:Dn ops cls A [])(hs:D.size=ops.size)(hr:Region.ready .any ops D=[]):∀i,i<ops.size->On D i:=by
 intro i
 induction i using Nat.strongRecOn with
 |_ i ih=>
  intro hi
  by_cases hn:On D i
  .exact hn
  .exfalso;have:i∈Region.ready .any ops D:=(Bs hs).2 ⟨hi,hn,fun e he hb=>ih e.on (F.back i hi e he hb) (Nat.lt_trans (F.back i hi e he hb) hi)⟩;rw[hr] at this;simp at this
theorem Ais{D:Array Bool}(hs:D.size=ops.size)(h:cnt D ops.size=0):Region.ready .any ops D=[]:=List.eq_nil_iff_forall_not_mem.2 fun i hi=>by
 obtain⟨h1,h2,_⟩:=(Bs hs).1 hi;exact h2 (Acd h i h1)
theorem Sim2.next{D Dc:Array Bool}{Fl:List Ea}{a ac:Act}{w:World}(S:Sim2 P ops cls n D Dc Fl a ac w){fs gs:LM}(H:Four P ops cls A n fs)(hg:∀x∈Fl,x.i∈gs)(hgl:∀i∈gs,i<ops.size){i j:Nat}(hr:i∈Region.ready .any ops D)(hn:¬On Dc i)(hni:i∉gs)(h1:Aei (Region.ready .any ops (Aeh Dc gs)) j=true):i=j:=by
 obtain⟨E,b,S0,hD,_,_,_⟩:=S.ex;obtain⟨hi,hnD,hdep⟩:=(Bs S.sD).1 hr;refine Asq h1 ((Bs (by rw[Aof];exact S0.sDc)).2 ⟨hi,fun h=>?_,fun e he hb=>?_⟩)
 .rcases (Al7 (by rw[S0.sDc];exact hgl)).1 h with h|h
  .exact hni h
  .exact hn h
 .rw[Al7 (by rw[S0.sDc];exact hgl)];rcases (hD _).1 (hdep e he hb) with h|⟨x,hx,h⟩
  .exact .inr (S0.sub _ h)
  .exact .inl (h▸hg x hx)
theorem Sim2.fin{D Dc:Array Bool}{Fl:List Ea}{a ac:Act}{w:World}(S:Sim2 P ops cls n D Dc Fl a ac w)(F:Dn ops cls A [])(hp:Region.ready .any ops Dc=[]):Fl=[]/\(∀i,i<ops.size->On Dc i)/\(Region.ready .any ops D=[]->a=ac):=by
 obtain⟨E,b,S0,hD,e1,e2,e3⟩:=S.ex;have hc:=Aj8 F S0.sDc hp;have hF:Fl=[]:=List.eq_nil_iff_forall_not_mem.2 fun x hx=>(S.al x hx).2.2 (hc _ (S.al x hx).1.lt)
 subst hF;refine⟨rfl,hc,fun hr=>?_⟩;have hDE:∀i,On D i↔On E i:=fun i=>by rw[hD];simp
 have hrE:Region.ready .any ops E=[]:=List.eq_nil_iff_forall_not_mem.2 fun i hi=>by
  obtain⟨h1,h2,_⟩:=(Bs S0.sD).1 hi;exact h2 ((hDE i).1 (Aj8 F S.sD hr i h1))
 obtain⟨_,rfl⟩:=S0.level F hrE;have ht:a.tmps=b.tmps:=by
  apply Array.ext_getElem?;intro t;exact e3 t s_
 cases a;cases b
 simp only at ht e2;rw[ht,e2]
theorem Aze(F:Dn ops cls A []){fs:List Nat}(H:Four P ops cls A n fs):∀ (fuel:Nat) (os:List Nat) (D Dc:Array Bool) (Fl:List Ea) (a ac:Act) (w:World),Sim2 P ops cls n D Dc Fl a ac w->Abm ops cls fs os Dc=true ->
  (∃fr L,Fr n fr ac/\Heap (Fl.map Ea.e++L) w/\PB P ops Q cls n os fr L)->cnt D ops.size<=fuel->wpAny P .any ops Q fuel D a w:=by
 intro fuel
 induction fuel with
 |zero=>
  intro os
  induction os with
  |nil=>
   rintro D Dc Fl a ac w S hp ⟨fr,L,hfr,hL,hK⟩ hc;have hr:=Ais S.sD oo;obtain⟨rfl,_,he⟩:=S.fin F (by simpa[Abm] using hp);obtain rfl:=he hr;exact⟨hr,hK _ _ hfr (sV hL)⟩
  |cons i r ih=>
   rintro D Dc Fl a ac w S hp ⟨fr,L,hfr,hL,hK⟩ hc;obtain⟨E,b,S0,hD,e1,e2,e3⟩:=S.ex;simp only[Abm,Bool.and_eq_true,List.contains_iff_mem] at hp;obtain⟨⟨hrc,hp1⟩,hp2⟩:=hp;obtain⟨hi,hni,_⟩:=(Bs S0.sDc).1 hrc;have hon:=Aj8 F S.sD (Ais S.sD oo) i hi;rcases (hD i).1 hon with h|⟨x,hx,rfl⟩
   .exact absurd (S0.sub _ h) hni
   .obtain⟨F1,F2,rfl⟩:=List.append_of_mem hx;have h4:=(S.al x hx).2.1;unfold PB at hK;rw[iP (by rw[h4];rfl)] at hK;refine ih D _ (F1++F2) a _ w (S.takes F H.free) hp1 ⟨_,_,hfr.put (S.al x hx).1.2.2,?_,hK _ _ _ (S.al x hx).1 x.g⟩ hc;refine hL.perm ?_;simp only[List.map_append,List.map_cons,List.append_assoc,List.cons_append];exact ((List.perm_middle (a:=x.e) (l₁:=F1.map Ea.e) (l₂:=F2.map Ea.e++L)).trans (by rw[<-List.append_assoc];exact (List.perm_middle (a:=x.e) (l₁:=F1.map Ea.e++F2.map Ea.e) (l₂:=L)).symm.trans (by rw[List.append_assoc];exact List.Perm.refl _)))
 |succ fuel ihf=>
  have early:∀ {os:List Nat} {D Dc:Array Bool} {Fl:List Ea} {a ac:Act} {w:World} {j:Nat},Sim2 P ops cls n D Dc Fl a ac w->Abm ops cls fs os Dc=true->(∃ fr L,Fr n fr ac/\Heap (Fl.map Ea.e++L) w/\PB P ops Q cls n os fr L)->cnt D ops.size<=fuel+1 ->
    j∈Region.ready .any ops D->cls.getD j 9=4->wpOp P ops Q j (wpAny P .any ops Q fuel (D.setIfInBounds j true)) a w:=by
   rintro os D Dc Fl a ac w j S hp ⟨fr,L,hfr,hL,hK⟩ hc hj h4;obtain⟨d,t,cs,ha⟩:=H.al j ((H.mem j ((Bs S.sD).1 hj).1).2 h4);exact S.early F H.anc hj ha h4 hfr.size fun a' g w' S' hh=>ihf os _ _ _ _ _ _ S' hp ⟨fr,L,hfr,hh _ hL,hK⟩ (Uz S.sD hj hc)
  have catchUp:∀ {os:List Nat} {D Dc:Array Bool} {Fl:List Ea} {a ac:Act} {w:World} {j:Nat},Sim2 P ops cls n D Dc Fl a ac w->Abm ops cls fs os Dc=true->(∃ fr L,Fr n fr ac/\Heap (Fl.map Ea.e++L) w/\PB P ops Q cls n os fr L)->cnt D ops.size<=fuel+1 ->
    j∈Region.ready .any ops D->On Dc j->wpOp P ops Q j (wpAny P .any ops Q fuel (D.setIfInBounds j true)) a w:=fun S hp hK hc hj hon=>
   S.catchUp F H.anc hj hon fun a' S'=>ihf _ _ _ _ _ _ _ S' hp hK (Uz S.sD hj hc)
  intro os
  induction os with
  |nil=>
   rintro D Dc Fl a ac w S hp ⟨fr,L,hfr,hL,hK⟩ hc;obtain⟨rfl,hon,he⟩:=S.fin F (by simpa[Abm] using hp);refine⟨fun hr=>?_,fun j hj=>catchUp S hp ⟨fr,L,hfr,hL,hK⟩ hc hj (hon _ ((Bs S.sD).1 hj).1)⟩;obtain rfl:=he hr;exact hK _ _ hfr (sV hL)
  |cons i r ih=>
   rintro D Dc Fl a ac w S hp ⟨fr,L,hfr,hL,hK⟩ hc;obtain⟨E,b,S0,hD,e1,e2,e3⟩:=S.ex;have hp':=hp;simp only[Abm,Bool.and_eq_true,List.contains_iff_mem] at hp;obtain⟨⟨hrc,hp1⟩,hp2⟩:=hp;obtain⟨hi,hni,_⟩:=(Bs S0.sDc).1 hrc;have hK':=hK;unfold PB at hK;have ends:(∀x∈Fl,x.i≠i)->Region.ready .any ops D=[]->Q .normal a w:=fun hx hr=>by
    rcases (hD i).1 (Aj8 F S.sD hr i hi) with h|⟨x,hx',h⟩
    .exact absurd (S0.sub _ h) hni
    .exact absurd h (hx x hx')
   have lows:∀e∈Fl.map Ea.e,e.low=0:=fun e he=>by obtain⟨x,_,rfl⟩:=List.mem_map.1 he;rfl
   have no4:cls.getD i 9≠4->∀x∈Fl,x.i≠i:=fun h x hx e=>h (e▸(S.al x hx).2.1)
   by_cases h4:cls.getD i 9=4
   .rw[iP (by rw[h4];rfl)] at hK hp2
    by_cases hx:∃x∈Fl,x.i=i
    .obtain⟨x,hx,rfl⟩:=hx;obtain⟨F1,F2,rfl⟩:=List.append_of_mem hx;refine ih D _ (F1++F2) a _ w (S.takes F H.free) hp1 ⟨_,_,hfr.put (S.al x hx).1.2.2,?_,hK _ _ _ (S.al x hx).1 x.g⟩ hc;refine hL.perm ?_;simp only[List.map_append,List.map_cons,List.append_assoc,List.cons_append];exact ((List.perm_middle (a:=x.e) (l₁:=F1.map Ea.e) (l₂:=F2.map Ea.e++L)).trans (by rw[<-List.append_assoc];exact (List.perm_middle (a:=x.e) (l₁:=F1.map Ea.e++F2.map Ea.e) (l₂:=L)).symm.trans (by rw[List.append_assoc];exact List.Perm.refl _)))
    .have hx':∀x∈Fl,x.i≠i:=fun x hx'' e=>hx ⟨x,hx'',e⟩
     refine⟨ends hx',fun j hj=>?_⟩
     by_cases hon:On Dc j
     .exact catchUp S hp' ⟨fr,L,hfr,hL,hK'⟩ hc hj hon
     .by_cases hj4:cls.getD j 9=4
      .exact early S hp' ⟨fr,L,hfr,hL,hK'⟩ hc hj hj4
      .have hjl:=((Bs S.sD).1 hj).1;have e:=S.next H (gs:=fs.erase i) (fun x hx''=>(List.mem_erase_of_ne (hx' x hx'')).2 ((H.mem _ (S.al x hx'').1.lt).2 (S.al x hx'').2.1)) (fun y hy=>H.lt y (List.mem_of_mem_erase hy)) hj hon (fun h=>hj4 ((H.mem j hjl).1 (List.mem_of_mem_erase h))) hp2;exact absurd (e▸h4) hj4
   .rw[iN (by intro h;exact h4 (Nat.eq_of_beq_eq_true h))] at hK hp2
    by_cases h1:cls.getD i 9<=1
    ·rw[if_pos (by simpa using h1)] at hK;have hK:=hK _ _ _ lows hfr hL;have hv:∃ v,((Region.wanted (opAt ops i) (yielded ops ac.tmps)=true/\(∀ w',Ad8 (cls.getD i 9) false (fun _=>True) w w'->(execOp ac.eval (opAt ops i)).run P w' = .ok (.value v) w'))\/(Region.wanted (opAt ops i) (yielded ops ac.tmps)=false/\v=undef)) /\
       ∃fr',Fr n fr' (ac.put (opAt ops i).dst v)/\PB P ops Q cls n r fr' L:=by
      split at hK
      .obtain⟨o,ho,h⟩:=hK;rw[Vy ho];rcases h with⟨h1,v,h2,h3⟩|⟨h1,h2⟩
       .exact⟨v,.inl ⟨h1,fun w' _=>h2 w'⟩,h3⟩
       .exact⟨undef,.inr ⟨h1,rfl⟩,h2⟩
      .rename_i hz;obtain⟨o,ho,h⟩:=hK;rw[Vy ho];rcases h with⟨h1,v,h2,h3⟩|⟨h1,h2⟩
       .refine⟨v,.inl ⟨h1,fun w' hw'=>h2 w' ?_⟩,h3⟩;rcases hw' with h0|⟨h0,_⟩|⟨_,h0⟩
        .exact absurd (by rw[h0];rfl) hz
        .cases h0
        .exact h0
       .exact⟨undef,.inr ⟨h1,rfl⟩,h2⟩
     obtain⟨v,hv,fr',hfr',hB⟩:=hv;exact ih D _ Fl a _ w (S.ahead F hrc h1 hv) hp1 ⟨fr',L,hfr',hL,hB⟩ hc
    .rw[iN (sV h1)] at hK hp2
     by_cases h2:cls.getD i 9=2
     .rw[iP (by rw[h2];rfl)] at hK hp2;refine⟨ends (no4 h4),fun j hj=>?_⟩
      by_cases hon:On Dc j
      .exact catchUp S hp' ⟨fr,L,hfr,hL,hK'⟩ hc hj hon
      .by_cases hj4:cls.getD j 9=4
       .exact early S hp' ⟨fr,L,hfr,hL,hK'⟩ hc hj hj4
       .have hjl:=((Bs S.sD).1 hj).1;obtain rfl:=S.next H (gs:=fs) (fun x hx=>(H.mem _ (S.al x hx).1.lt).2 (S.al x hx).2.1) H.lt hj hon (fun h=>hj4 ((H.mem j hjl).1 h)) hp2;exact S.both F H.anc hj hrc (hard:=false) (fun h=>by cases h) (hK _ _ _ lows hfr hL) fun a' ac' w' S' hN=>ihf _ _ _ _ _ _ _ S' hp1 hN (Uz S.sD hj hc)
     .rw[iN (by intro h;exact h2 (Nat.eq_of_beq_eq_true h))] at hK hp2;simp only[Bool.and_eq_true,List.all_eq_true] at hp2;obtain⟨⟨h3,hp2⟩,hp3⟩:=hp2;have hF:Fl=[]:=List.eq_nil_iff_forall_not_mem.2 fun x hx=>(S.al x hx).2.2 (hp3 _ ((H.mem _ (S.al x hx).1.lt).2 (S.al x hx).2.1))
      subst hF;refine⟨ends (no4 h4),fun j hj=>?_⟩
      by_cases hon:On Dc j
      .exact catchUp S hp' ⟨fr,L,hfr,hL,hK'⟩ hc hj hon
      .have hjl:=((Bs S.sD).1 hj).1;obtain rfl:=S.next H (gs:=[]) (fun x hx=>by simp at hx) (fun y hy=>by simp at hy) hj hon s_ hp2;exact S.both F H.anc hj hrc (hard:=true) (fun _=>le3 h3) (hK _ _ hfr (sV hL)) fun a' ac' w' S' hN=>ihf _ _ _ _ _ _ _ S' hp1 (by obtain⟨fr',L',h5,h6,h7⟩:=hN;exact⟨fr',L',h5,sV h6,h7⟩) (Uz S.sD hj hc)
inductive Zw(P:Program)(ops:Array Oper)(n:Nat):LM->Prop
 |nil:Zw P ops n []
 |cons {i d t cs ty pos after r}:ops[i]? = some ⟨some d,.alloc t,ty,pos,after,none⟩->Wo P t cs->Nat.blt d n=true->Zw P ops n r->Zw P ops n (i::r)
theorem Zw.mem{fs:LM}(h:Zw P ops n fs):∀i∈fs,∃d t cs,AlAt P ops n i d t cs:=by
 induction h with
 |nil=>intro i hi;simp at hi
 |cons h1 h2 h3 _ ih=>
  intro i hi;rcases List.mem_cons.1 hi with rfl|hi
  .exact⟨_,_,_,⟨_,_,_,h1⟩,h2,h3⟩
  .exact ih i hi
variable {fr:lF}{L:LE}{d i:Nat}{dst:Option Tmp}{op:Op}{ty:TypeId}{pos:String}{after:AE}{r:LM}
theorem Bd7{id:Nat}(cls:Cls)(os:LM)(hm:P.follows .mixedOrders=true)(hd:Wl ops cls (Abo ops)=true)(hp:Abm ops cls (Abl cls ops.size) os (Array.replicate ops.size false)=true)(h4:Aoe ops cls (Abo ops) (Abl cls ops.size)=true)(ha:Zw P ops n (Abl cls ops.size))(k:PB P ops Q cls n os fr L):T n ((Code.region id ops true).wp P Q) fr L:=by
 intro a w hfr hL;refine wp_region_any hm ?_;have F:=Ad7 hd;have hmem:∀i,i∈Abl cls ops.size↔i<ops.size/\cls.getD i 9=4:=fun i=>by
  unfold Abl;rw[List.mem_filter,List.mem_range];exact and_congr_right fun _=>⟨Nat.eq_of_beq_eq_true,fun h=>by rw[h];rfl⟩
 rw[Aoe,Bool.and_eq_true,List.all_eq_true] at h4;obtain⟨hlen,h4⟩:=h4;have hin:∀i,cls.getD i 9=4->i∈Abl cls ops.size:=fun i h=>by
  refine (hmem i).2 ⟨?_,h⟩;rcases Nat.lt_or_ge i ops.size with hi|hi
  .exact hi
  .rw[List.getD_eq_getElem?_getD,List.getElem?_eq_none (Nat.le_trans (Nat.le_of_ble_eq_true hlen) hi)] at h;simp at h
 have H:Four P ops cls (Abo ops) n (Abl cls ops.size):=by
  refine⟨fun i hi=>by rw[hmem];exact⟨fun h=>h.2,fun h=>⟨hi,h⟩⟩,fun i hi=>((hmem i).1 hi).1,fun i h=>?_,fun i h e he hb=>?_,ha.mem⟩
  .have:=h4 i (hin i h);simp only[Bool.and_eq_true,List.isEmpty_iff] at this;exact this.1
  .have:=h4 i (hin i h);simp only[Bool.and_eq_true] at this;have:=(Array.all_eq_true_iff_forall_mem.1 this.2) e he;rw[hb] at this;cases this
 refine Aze F H ops.size os _ (Array.replicate ops.size false) [] a a w.drew ?_ hp ⟨fr,L,hfr,sV hL.drew,k⟩ (Wm _ _);exact⟨⟨Array.replicate ops.size false,a,⟨.inr trivial,fun _ _ _ _=>trivial,s_,s_,fun i _ h=>absurd h Kn,fun i _ h=>absurd h Kn,fun _ h=>h,fun i h=>absurd h Kn,rfl,rfl,fun _ _=>rfl,fun j _ h=>absurd h Kn⟩,fun i=>s_,rfl,rfl,fun _ _=>rfl⟩,s_,fun x hx=>by simp at hx,fun x hx=>by simp at hx,.nil⟩
theorem Bch(k:T n (Q .normal) fr L):PB P ops Q cls n [] fr L:=k
theorem Awt{F L:LE}{w:World}(h:Heap (F++L) w):Heap L w:=⟨fun e he=>h.ok e (List.mem_append_right _ he),(List.pairwise_append.1 h.sep).2.1⟩
theorem Bd8(hc:Nat.ble (cls.getD i 9) 3=true)(h:∀a w,Fr n fr a->Heap L w->PB P ops Q cls n (i::r) fr L):PB P ops Q cls n (i::r) fr L:=by
 have h3:=Nat.le_of_ble_eq_true hc;unfold PB at h⊢;rw[iN (by intro e;have:=Nat.eq_of_beq_eq_true e;omega)] at h⊢;split
 .rename_i h1;rw[iP h1] at h;intro F a w hF ha hw;exact h a w ha (Awt hw) F a w hF ha hw
 .rename_i h1;rw[iN h1] at h;split
  .rename_i h2;rw[iP h2] at h;intro F a w hF ha hw;exact h a w ha (Awt hw) F a w hF ha hw
  .rename_i h2;rw[iN h2] at h;intro a w ha hw;exact h a w ha hw a w ha hw
theorem Zx{s:Nat}{v:Value}(hg:∃o p,ops[i]? = some o/\o.guard=some p)(hs:look fr s=some v)(h:PB P ops Q cls n (i::r) ((s,v)::fr) L):PB P ops Q cls n (i::r) fr L:=by
 have hf:∀a,Fr n fr a->Fr n ((s,v)::fr) a:=fun a ha=>⟨ha.nod,ha.size,fun t u hu=>by
  simp only[look] at hu;cases hb:Nat.beq s t with
  |true=>rw[hb] at hu;have e:=Nat.eq_of_beq_eq_true hb;subst e;injection hu with hu;subst hu;exact ha.val _ _ hs
  |false=>rw[hb] at hu;exact ha.val t u hu⟩
 unfold PB at h⊢;split
 .intro d t cs hal;obtain⟨o,p,h1,h2⟩:=hg;obtain⟨⟨_,_,_,h3⟩,_⟩:=hal;rw[h3] at h1;injection h1 with h1
  subst h1;cases h2
 .rename_i h4;rw[iN h4] at h;split
  .rename_i h1;rw[iP h1] at h;exact fun F a w hF ha hw=>h F a w hF (hf a ha) hw
  .rename_i h1;rw[iN h1] at h;split
   .rename_i h2;rw[iP h2] at h;exact fun F a w hF ha hw=>h F a w hF (hf a ha) hw
   .rename_i h2;rw[iN h2] at h;exact fun a w ha hw=>h a w (hf a ha) hw
section
variable {guard:ON}{v:Value}{j s:Nat}{b b':Bool}
def Vo(ops:Array Oper)(n:Nat)(fr:lF):ON->Prop
 |none=>True
 |some (j,b)=>∃s,(ops[j]?).bind (·.dst)=some s/\look fr s=some (.bool b)/\Nat.blt s n=true
theorem Vo.of{a:Act}(h:Vo ops n fr guard)(ha:Fr n fr a):Region.wanted ⟨dst,op,ty,pos,after,guard⟩ (yielded ops a.tmps)=true:=by
 cases guard with
 |none=>rfl
 |some p=>
  obtain⟨j,b⟩:=p;obtain⟨s,hj,hs,hsn⟩:=h;have:=Sj (d:=0) (op:=op) (ty:=ty) (pos:=pos) (after:=after) (b:=b) hj ha hs hsn;simpa[Region.wanted] using this
theorem wY:Vo ops n fr none:=trivial
theorem wG(hj:(ops[j]?).bind (·.dst)=some s)(hs:look fr s=some (.bool b))(hsn:Nat.blt s n=true):Vo ops n fr (some (j,b)):=⟨s,hj,hs,hsn⟩
theorem B_p(hc:Nat.beq (cls.getD i 9) 0=true)(ho:ops[i]? = some ⟨some d,op,ty,pos,after,guard⟩)(hg:Vo ops n fr guard)(h:Ev P n ⟨some d,op,ty,pos,after,guard⟩ fr [] v)(hd:Nat.blt d n=true)(k:PB P ops Q cls n r ((d,v)::fr) L):PB P ops Q cls n (i::r) fr L:=by
 have h0:=Nat.eq_of_beq_eq_true hc;unfold PB;rw[iN (by rw[h0];simp),iP (by rw[h0];rfl)];intro F a w _ ha hw;rw[iP hc];exact⟨_,ho,.inl ⟨hg.of ha,v,fun w'=>h a w' ha s_,_,ha.put hd,k⟩⟩
theorem B_q(hc:Nat.beq (cls.getD i 9) 1=true)(ho:ops[i]? = some ⟨some d,op,ty,pos,after,guard⟩)(hg:Vo ops n fr guard)(h:Ev P n ⟨some d,op,ty,pos,after,guard⟩ fr L v)(hd:Nat.blt d n=true)(k:PB P ops Q cls n r ((d,v)::fr) L):PB P ops Q cls n (i::r) fr L:=by
 have h0:=Nat.eq_of_beq_eq_true hc;unfold PB;rw[iN (by rw[h0];simp),iP (by rw[h0];rfl)];intro F a w _ ha hw;rw[iN (by rw[h0];simp)];exact⟨_,ho,.inl ⟨hg.of ha,v,fun w' hx=>h a w' ha ((Awt hw).ext hx).ok,_,ha.put hd,k⟩⟩
theorem B_no(hc:Nat.ble (cls.getD i 9) 3=true)(ho:ops[i]? = some ⟨some d,op,ty,pos,after,some (j,b)⟩)(hw0:∀a,Fr n fr a->Region.wanted ⟨some d,op,ty,pos,after,some (j,b)⟩ (yielded ops a.tmps)=false)(hd:Nat.blt d n=true)(k:PB P ops Q cls n r ((d,undef)::fr) L):PB P ops Q cls n (i::r) fr L:=by
 have h3:=Nat.le_of_ble_eq_true hc;unfold PB;rw[iN (by intro e;have:=Nat.eq_of_beq_eq_true e;omega)];split
 .intro F a w _ ha hw;split
  .exact⟨_,ho,.inr ⟨hw0 a ha,_,ha.put hd,k⟩⟩
  .exact⟨_,ho,.inr ⟨hw0 a ha,_,ha.put hd,k⟩⟩
 .split
  .intro F a w _ ha hw;exact⟨_,ho,.inr ⟨hw0 a ha,_,_,ha.put hd,hw,k⟩⟩
  .intro a w ha hw;exact⟨_,ho,.inr ⟨hw0 a ha,_,_,ha.put hd,hw,k⟩⟩
theorem Bci(hc:Nat.ble (cls.getD i 9) 3=true)(ho:ops[i]? = some ⟨some d,op,ty,pos,after,some (j,b)⟩)(hj:(ops[j]?).bind (·.dst)=some s)(hs:look fr s=some (.bool b'))(hsn:Nat.blt s n=true)(hne:(b'==b)=false)(hd:Nat.blt d n=true)(k:PB P ops Q cls n r ((d,undef)::fr) L):PB P ops Q cls n (i::r) fr L :=
 B_no hc ho (fun a ha=>by rw[Sj hj ha hs hsn,hne]) hd k
theorem Azf(hc:Nat.ble (cls.getD i 9) 3=true)(ho:ops[i]? = some ⟨some d,op,ty,pos,after,some (j,b)⟩)(hj:(ops[j]?).bind (·.dst)=some s)(hs:look fr s=some undef)(hsn:Nat.blt s n=true)(hd:Nat.blt d n=true)(k:PB P ops Q cls n r ((d,undef)::fr) L):PB P ops Q cls n (i::r) fr L :=
 B_no hc ho (fun a ha=>Zg hj ha hs hsn) hd k
theorem B_l{t:TypeId}{cs:LV}(hc:Nat.beq (cls.getD i 9) 4=true)(ho:ops[i]? = some ⟨some d,.alloc t,ty,pos,after,none⟩)(hz:Wo P t cs)(hd:Nat.blt d n=true)(k:∀g,PB P ops Q cls n r ((d,.pointer (some ⟨g,0,none⟩))::fr) (.m g t cs::L)):PB P ops Q cls n (i::r) fr L:=by
 unfold PB;rw[iP hc];intro d' t' cs' hal g;obtain⟨rfl,rfl,rfl⟩:=AlAt.one (⟨⟨_,_,_,ho⟩,hz,hd⟩:AlAt P ops n i d t cs) hal default;exact k g
def NBz(P:Program)(ops:Array Oper)(Q:Exit->AW)(cls:Cls)(n:Nat)(r:LM)(z:Ent):AW:=fun a w=>∃fr L,Fr n fr a/\Heap (z::L) w/\PB P ops Q cls n r fr L
def NB(P:Program)(ops:Array Oper)(Q:Exit->AW)(cls:Cls)(n:Nat)(r:LM):AW:=fun a w=>∃fr L,Fr n fr a/\Heap L w/\PB P ops Q cls n r fr L
theorem Bd9{z:Ent}{L':LE}(hp:Ix L (z::L'))(k:PB P ops Q cls n r fr L'):T n (NBz P ops Q cls n r z) fr L:=fun a w ha hw=>⟨fr,L',ha,hw.pick hp,k⟩
theorem T_nb(k:PB P ops Q cls n r fr L):T n (NB P ops Q cls n r) fr L:=fun a w ha hw=>⟨fr,L,ha,hw,k⟩
theorem B_x(hc:Nat.beq (cls.getD i 9) 2=true)(ho:ops[i]? = some ⟨dst,op,ty,pos,after,guard⟩)(hg:Vo ops n fr guard)(h:∀z,Wx P noQ n ⟨dst,op,ty,pos,after,guard⟩ fr (z::L) (NBz P ops Q cls n r z)):PB P ops Q cls n (i::r) fr L:=by
 have h0:=Nat.eq_of_beq_eq_true hc;unfold PB;rw[iN (by rw[h0];simp),iN (by rw[h0];simp),iP hc];intro F a w hF ha hw;refine⟨_,ho,.inl ⟨hg.of ha,Oper.wp_mono (fun a' w' hh=>⟨.inl hh.1,?_⟩) (h (bunS F) a w ha (As5 hF hw))⟩⟩;obtain⟨fr',L',h1,h2,h3⟩:=hh.2;exact⟨fr',L',h1,As6 hF h2,h3⟩
theorem B_h(hc:Nat.beq (cls.getD i 9) 3=true)(ho:ops[i]? = some ⟨dst,op,ty,pos,after,guard⟩)(hg:Vo ops n fr guard)(h:Wh P noQ n ⟨dst,op,ty,pos,after,guard⟩ fr L (NB P ops Q cls n r)):PB P ops Q cls n (i::r) fr L:=by
 have h0:=Nat.eq_of_beq_eq_true hc;unfold PB;rw[iN (by rw[h0];simp),iN (by rw[h0];simp),iN (by rw[h0];simp)];intro a w ha hw;exact⟨_,ho,.inl ⟨hg.of ha,Oper.wp_mono (fun a' w' hh=>⟨.inr ⟨rfl,.inl rfl⟩,hh⟩) (h a w ha hw)⟩⟩
end
end
end Go.Proofs.YtlejkgngmjchdaaGreat
