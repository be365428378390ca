/- The corners of the hull in their order: chains and what the reference walks (of M2 to M5). -/
import Derived.Test.YtjfndjmabhbicaaGreatEs
import Derived.Test.YtjfndjmabhbicaaGreatS4
import Derived.Test.YtjfndjmabhbicaaGreatFlow26
namespace Go.Proofs.YtjfndjmabhbicaaGreat
open Go Go.RowKit
section
variable {v:List Ab}
theorem Ah0 {α:Type} {p:List α->Prop} (h0:p []) (h1:∀ l i,p l->p (l++[i])) (l:List α):p l:=by
 have key:∀ m:List α,p m.reverse:=by
  intro m
  induction m with
  | nil=>exact h0
  | cons x m ih=>rw [List.reverse_cons];exact h1 _ _ ih
 have:=key l.reverse
 rwa [List.reverse_reverse] at this
def Mv (P:Int->Ac) (l:List Int):List Int:=l.foldl (fun s i=>i::popC P i s) []
theorem Abp (P:Int->Ac) (l:List Int) (i:Int):Mv P (l++[i])=i::popC P i (Mv P l):=by unfold Mv;rw [List.foldl_append];rfl
theorem Apb {P:Int->Ac} {i:Int}:∀ {s:List Int},∃ q,s=q++popC P i s:=by
 intro s
 induction s with
 | nil=>exact ⟨[],rfl⟩
 | cons t s ih =>
  cases s with
  | nil=>exact ⟨[],rfl⟩
  | cons a r =>
   unfold popC
   split
   ·obtain ⟨q,hq⟩:=ih
    exact ⟨t::q,by rw [List.cons_append,<- hq]⟩
   ·exact ⟨[],rfl⟩
theorem Apc {P:Int->Ac} {i:Int} {s:List Int}:(popC P i s).length<=s.length:=by
 obtain ⟨q,hq⟩:=Apb (P:=P) (i:=i) (s:=s)
 have:=congrArg List.length hq
 rw [List.length_append] at this
 omega
theorem Ac8 {P:Int->Ac}:∀ {l:List Int},(Mv P l).length<=l.length:=by
 intro l
 refine Ah0 (p:=fun l=>(Mv P l).length<=l.length) ?_ (fun l i ih=>?_) l
 ·simp [Mv]
 ·rw [Abp,List.length_cons,List.length_append,List.length_singleton]
  have:=Apc (P:=P) (i:=i) (s:=Mv P l)
  omega
end
section
section
variable {P:Int->Ac} {α β:Int}
theorem Sup.congr {D D':List Int} (h:∀ x,x∈D'->x∈D) {a b:Int} (s:Sup P α β D a b):Sup P α β D' a b:=⟨s.1,fun k hk=>s.2 k (h k hk)⟩
theorem Ya.imp {Q R:Int->Int->Prop} (h:∀ a b,Q a b->R a b):∀ {s:List Int},Ya Q s->Ya R s:=by
 intro s
 induction s with
 | nil=>intro _;trivial
 | cons t s ih =>
  cases s with
  | nil=>intro _;trivial
  | cons a r=>exact fun g=>⟨h _ _ g.1,ih g.2⟩
theorem Zi:∀ (l:List Int),(l.Pairwise fun i j=>ph α β (P i) < ph α β (P j))->l≠[]->∃ f,l.head? = some f/\Abd P α β f l (Mv P l)/\(Mv P l).head? = l.getLast?:=by
 refine Ah0 ?_ (fun l i ih=>?_)
 ·intro _ h;exact absurd rfl h
 ·intro hp _
  obtain ⟨hp1,_,hp2⟩:=List.pairwise_append.1 hp
  by_cases e:l=[]
  ·subst e
   refine ⟨i,rfl,⟨fun x hx=>?_,trivial,⟨[],rfl⟩,fun k hk=>.inl (by simpa using hk)⟩,rfl⟩
   simpa [Mv,popC] using hx
  ·obtain ⟨f,h1,h2,h3⟩:=ih hp1 e
   have hlt:∀ k∈l,ph α β (P k) < ph α β (P i):=fun k hk=>hp2 k hk i (by simp)
   have inj:∀ a∈l,∀ b∈l,ph α β (P a)=ph α β (P b)->a=b:=by
    intro a ha b hb hab
    obtain ⟨m,hm,rfl⟩:=List.getElem_of_mem ha
    obtain ⟨n,hn,rfl⟩:=List.getElem_of_mem hb
    rw [List.pairwise_iff_getElem] at hp1
    rcases Nat.lt_trichotomy m n with c | c | c
    ·have:=hp1 m n hm hn c;omega
    ·subst c;rfl
    ·have:=hp1 n m hn hm c;omega
   have top:∀ t r,Mv P l=t::r->∀ k∈l,ph α β (P k)<=ph α β (P t):=by
    intro t r ht k hk
    rw [ht] at h3
    have h3:some t=l.getLast?:=h3
    obtain ⟨q,rfl⟩:∃ q,l=q++[t]:=by
     obtain ⟨q,hq⟩:=List.getLast?_eq_some_iff.1 h3.symm
     exact ⟨q,hq⟩
    rcases List.mem_append.1 hk with g | g
    ·have:=(List.pairwise_append.1 hp1).2.2 k g t (by simp);omega
    ·rw [List.mem_singleton] at g;subst g;omega
   have hc:=Ak2 h2 inj hlt top
   rw [Abp]
   refine ⟨f,?_,⟨fun x hx=>?_,hc.edge.imp fun a b=>Sup.congr fun x hx=>?_,hc.bot,fun k hk=>hc.low k ?_⟩,?_⟩
   ·obtain ⟨x,l',rfl⟩:=List.exists_cons_of_ne_nil e
    exact h1
   ·have:=hc.sub x hx
    simp only [List.mem_cons,List.mem_append,List.not_mem_nil,or_false] at this ⊢
    exact this.symm
   ·simp only [List.mem_cons,List.mem_append,List.not_mem_nil,or_false] at hx ⊢
    exact hx.symm
   ·simp only [List.mem_cons,List.mem_append,List.not_mem_nil,or_false] at hk ⊢
    exact hk.symm
   ·simp
end
end
section
variable {v:List Ab}
structure Nx (v:List Ab) (a b:Int):Prop where
 ina:inN v.length a
 inb:inN v.length b
 ne:a≠b
 left:∀ k,inN v.length k->0 < crs (plV v a) (plV v b) (plV v k)\/(crs (plV v a) (plV v b) (plV v k)=0/\Box (plV v a) (plV v b) (plV v k))
 far:∀ k,inN v.length k->k≠a->k≠b->crs (plV v a) (plV v b) (plV v k)=0->¬ Box (plV v a) (plV v k) (plV v b)
theorem Sup.nx (hv:Be v) {l:List Int} (hl:∀ k,inN v.length k->k∈l) {a b:Int} (ha:inN v.length a) (hb:inN v.length b) (h:Sup (plV v) lexA 1 l a b):Nx v a b:=by
 have hne:a≠b:=fun e=>by have:=h.1;rw [e] at this;omega
 have side:∀ k,inN v.length k->crs (plV v a) (plV v b) (plV v k)=0->¬ befP (plV v k) (plV v a)/\¬ befP (plV v b) (plV v k):=fun k hk h0=>by
  rcases h.2 k (hl k hk) with g | g
  ·omega
  ·rw [<- Uh (hv.ok _ hk) (hv.ok _ ha),<- Uh (hv.ok _ hb) (hv.ok _ hk)]
   omega
 refine ⟨ha,hb,hne,fun k hk=>?_,fun k hk n1 n2 h0=>?_⟩
 ·rcases h.2 k (hl k hk) with g | g
  ·exact .inl g
  ·exact .inr ⟨g.1,Xb g.1 (side k hk g.1).1 (side k hk g.1).2⟩
 ·obtain ⟨s1,s2⟩:=side k hk h0
  have n3:=Cp hv hk hb n2
  refine Ap9 (by rw [Rq];omega) s1 ?_ (Cp hv ha hk (fun e=>n1 e.symm))
  unfold befP Bm at *
  omega
theorem Sup.nx' (hv:Be v) {l:List Int} (hl:∀ k,inN v.length k->k∈l) {a b:Int} (ha:inN v.length a) (hb:inN v.length b) (h:Sup (plV v) (-lexA) (-1) l a b):Nx v a b:=by
 have hne:a≠b:=fun e=>by have:=h.1;rw [e] at this;omega
 have side:∀ k,inN v.length k->crs (plV v a) (plV v b) (plV v k)=0->¬ befP (plV v a) (plV v k)/\¬ befP (plV v k) (plV v b):=fun k hk h0=>by
  rcases h.2 k (hl k hk) with g | g
  ·omega
  ·rw [<- Adk (hv.ok _ hk) (hv.ok _ ha),<- Adk (hv.ok _ hb) (hv.ok _ hk)]
   omega
 refine ⟨ha,hb,hne,fun k hk=>?_,fun k hk n1 n2 h0=>?_⟩
 ·rcases h.2 k (hl k hk) with g | g
  ·exact .inl g
  ·exact .inr ⟨g.1,(Xb (by rw [Ar,g.1];rfl) (side k hk g.1).2 (side k hk g.1).1).swap⟩
 ·obtain ⟨s1,s2⟩:=side k hk h0
  have n3:=Cp hv hk hb n2
  refine Ath (by rw [Rq];omega) s1 ?_ (Cp hv ha hk (fun e=>n1 e.symm))
  unfold befP Bm at *
  omega
theorem Afg (hv:Be v) (hn:v.length<=1024) {a b:Int} (h:Nx v a b):Es v a true=some b:=by
 have hb:=h.inb
 unfold Es
 rw [jn_d]
 have:=Bk (B:=Gs v a true) (fun s=>v.length-s.2.toNat)
  (fun s=>0<=s.2/\s.2<=(v.length:Int)/\(s.1 = -1\/(inN v.length s.1/\s.1≠a/\s.1 < s.2))/\(b < s.2->s.1=b)) (fun t=>t=b) (fun s hs=>by
   obtain ⟨out,k⟩:=s
   obtain ⟨h1,h2,h3,h4⟩:=hs
   simp only at h1 h2 h3 h4
   unfold Gs
   dsimp only
   unfold inN at hb
   by_cases hk:k < (v.length:Int)
   ·left
    have hkn:inN v.length k:=⟨h1,hk⟩
    have w1:w64 (k+1)=k+1:=Ay (by omega) (by omega)
    rw [if_pos hk,jn_d]
    by_cases e1:k=a
    ·rw [if_pos e1,w1]
     have:=h.ne
     refine ⟨_,rfl,⟨by dsimp only;omega,by dsimp only;omega,?_,fun g=>?_⟩,by dsimp only;omega⟩
     ·rcases h3 with g | g
      ·exact .inl g
      ·exact .inr ⟨g.1,g.2.1,by dsimp only;omega⟩
     ·dsimp only at g ⊢
      exact h4 (by omega)
    ·rw [if_neg e1]
     by_cases e2:out < 0
     ·rw [if_pos e2,w1]
      refine ⟨_,rfl,⟨by dsimp only;omega,by dsimp only;omega,.inr ⟨hkn,e1,by dsimp only;omega⟩,fun g=>?_⟩,by dsimp only;omega⟩
      dsimp only at g ⊢
      by_cases c:b < k
      ·have:=h4 c;omega
      ·omega
     ·rw [if_neg e2]
      obtain ⟨g1,g2,g3⟩:inN v.length out/\out≠a/\out < k:=by
       rcases h3 with g | g
       ·omega
       ·exact g
      obtain ⟨ka,hka,ea,fa⟩:=Fn (v:=v) (i:=a) h.ina
      obtain ⟨ko,hko,eo,fo⟩:=Fn (v:=v) (i:=out) g1
      obtain ⟨kk,hkk,ek,fk⟩:=Fn (v:=v) (i:=k) hkn
      have pa:(⟨v[ka].X,v[ka].Y⟩:Ac)=plV v a:=by unfold plV;rw [fa]
      have po:(⟨v[ko].X,v[ko].Y⟩:Ac)=plV v out:=by unfold plV;rw [fo]
      have pk:(⟨v[kk].X,v[kk].Y⟩:Ac)=plV v k:=by unfold plV;rw [fk]
      rw [fa,Ad,fo,Ad,fk,Ad]
      unfold Aj
      rw [Ad,Ad,Ad]
      dsimp only
      rw [pa,po,pk,Nb (hv.ok _ h.ina) (hv.ok _ g1) (hv.ok _ hkn),Ad,jn_d,Vp (hv.ok _ h.ina) (hv.ok _ g1) (hv.ok _ hkn),w1]
      have sg:Int.sign (crs (plV v a) (plV v out) (plV v k)) < 0↔crs (plV v a) (plV v out) (plV v k) < 0:=Int.sign_neg_iff
      have s0:Int.sign (crs (plV v a) (plV v out) (plV v k))=0↔crs (plV v a) (plV v out) (plV v k)=0:=Int.sign_eq_zero_iff_zero
      have take:out≠b->∃ s',(some (.inl (k,k+1)):Option (Sum (Int × Int) Int))=some (.inl s')/\(0<=s'.2/\s'.2<=(v.length:Int)/\(s'.1 = -1\/(inN v.length s'.1/\s'.1≠a/\s'.1 < s'.2))/\(b < s'.2->s'.1=b))/\v.length-s'.2.toNat < v.length-k.toNat:=fun hx =>
       ⟨_,rfl,⟨by dsimp only;omega,by dsimp only;omega,.inr ⟨hkn,e1,by dsimp only;omega⟩,fun g=>by
        dsimp only at g ⊢
        by_cases c:b < k
        ·exact absurd (h4 c) hx
        ·omega⟩,by dsimp only;omega⟩
      have keep:k≠b->∃ s',(some (.inl (out,k+1)):Option (Sum (Int × Int) Int))=some (.inl s')/\(0<=s'.2/\s'.2<=(v.length:Int)/\(s'.1 = -1\/(inN v.length s'.1/\s'.1≠a/\s'.1 < s'.2))/\(b < s'.2->s'.1=b))/\v.length-s'.2.toNat < v.length-k.toNat:=fun hx =>
       ⟨_,rfl,⟨by dsimp only;omega,by dsimp only;omega,.inr ⟨g1,g2,by dsimp only;omega⟩,fun g=>by
        dsimp only at g ⊢
        exact h4 (by omega)⟩,by dsimp only;omega⟩
      by_cases c1:crs (plV v a) (plV v out) (plV v k) < 0
      ·rw [if_pos (sg.2 c1)]
       dsimp only
       rw [if_pos rfl]
       refine take fun e=>?_
       subst e
       rcases h.left k hkn with g | g <;> omega
      ·rw [if_neg (fun g=>c1 (sg.1 g))]
       by_cases c2:crs (plV v a) (plV v out) (plV v k)=0
       ·rw [if_pos (s0.2 c2),Ad]
        by_cases c3:Box (plV v a) (plV v out) (plV v k)
        ·rw [decide_eq_true ⟨c2,c3⟩]
         refine keep fun e=>?_
         rw [e] at c2 c3 g3
         exact h.far out g1 g2 (by omega) (by rw [Rq];omega) c3
        ·rw [decide_eq_false (fun g=>c3 g.2)]
         refine take fun e=>?_
         subst e
         rcases h.left k hkn with g | g
         ·omega
         ·exact c3 g.2
       ·rw [if_neg (fun g=>c2 (s0.1 g))]
        refine keep fun e=>?_
        rw [e,Rq] at c1 c2
        rcases h.left out g1 with g | g <;> omega
   ·right
    rw [if_neg hk]
    refine ⟨_,rfl,?_⟩
    exact h4 (by omega)) (-1,0) ⟨by simp,by simp,.inl rfl,fun g=>by unfold inN at hb;simp only at g;omega⟩
 obtain ⟨t,ht,rfl⟩:=this
 rw [ht,Ad]
end
section
variable {v:List Ab}
def Ih (Q:Int->Int->Prop):List Int->Prop
 | a::b::r=>Q a b/\Ih Q (b::r)
 | _=>True
theorem Ac9 {Q:Int->Int->Prop}:∀ {X:List Int} {g:Int} {Y:List Int},Ih Q (X++[g])->Ih Q (g::Y)->Ih Q (X++g::Y):=by
 intro X
 induction X with
 | nil=>intro g Y _ h;exact h
 | cons x X ih =>
  intro g Y h1 h2
  cases X with
  | nil=>exact ⟨h1.1,h2⟩
  | cons y X=>exact ⟨h1.1,ih h1.2 h2⟩
theorem Wp {Q:Int->Int->Prop}:∀ {s:List Int},Ya Q s->Ih Q s.reverse:=by
 intro s
 induction s with
 | nil=>intro _;trivial
 | cons t s ih =>
  intro h
  cases s with
  | nil=>trivial
  | cons a r =>
   have:=ih h.2
   rw [List.reverse_cons] at this ⊢
   rw [List.reverse_cons,List.append_assoc]
   exact Ac9 this ⟨h.1,trivial⟩
theorem Wq {Q R:Int->Int->Prop}:∀ {s:List Int},(∀ a b,a∈s->b∈s->Q a b->R a b)->Ih Q s->Ih R s:=by
 intro s
 induction s with
 | nil=>intro _ _;trivial
 | cons t s ih =>
  intro h g
  cases s with
  | nil=>trivial
  | cons a r=>exact ⟨h _ _ (by simp) (by simp) g.1,ih (fun a b ha hb=>h a b (List.mem_cons_of_mem _ ha) (List.mem_cons_of_mem _ hb)) g.2⟩
theorem Ane (hv:Be v) (hn:v.length<=1024) {f:Int}:∀ (rest acc:List Int),acc.length+rest.length<=100000->(∀ y∈rest,y≠f)->Ih (Nx v) (rest++[f])->lfix (Ca f v) (acc,(rest++[f]).headD f)=some (acc++rest):=by
 intro rest
 induction rest with
 | nil =>
  intro acc _ _ _
  have hst:Ca f v (acc,f)=some (.inr acc):=by
   unfold Ca
   dsimp only
   rw [if_pos rfl]
  show lfix (Ca f v) (acc,f)=_
  rw [Bf,hst,List.append_nil]
 | cons y rest ih =>
  intro acc hl hne hk
  rw [List.length_cons] at hl
  have hnx:Nx v y ((rest++[f]).headD f)/\Ih (Nx v) (rest++[f]):=by
   cases rest with
   | nil=>exact ⟨hk.1,trivial⟩
   | cons z r=>exact ⟨hk.1,hk.2⟩
  have hst:Ca f v (acc,y)=some (.inl (acc++[y],(rest++[f]).headD f)):=by
   unfold Ca
   dsimp only
   rw [if_neg (hne y (by simp)),gd_t (by omega),Afg hv hn hnx.1,Ad]
  have:=ih (acc++[y]) (by rw [List.length_append,List.length_singleton];omega) (fun z hz=>hne z (List.mem_cons_of_mem _ hz)) hnx.2
  rw [List.append_assoc] at this
  show lfix (Ca f v) (acc,y)=_
  rw [Bf,hst]
  exact this
theorem Aas {P:Int->Ac} {α β:Int} {D:List Int}:∀ {r:List Int} {t:Int},Ya (Sup P α β D) (t::r)->∀ y∈r,ph α β (P y) < ph α β (P t):=by
 intro r
 induction r with
 | nil=>intro t _ y hy;cases hy
 | cons a r ih =>
  intro t h y hy
  have h1:=h.1.1
  rcases List.mem_cons.1 hy with rfl | hy
  ·exact h1
  ·have:=ih h.2 y hy;omega
theorem Anf {P:Int->Ac} {α β:Int} {D:List Int} {f:Int}:∀ {r:List Int},Ya (Sup P α β D) (r++[f])->∀ y∈r,ph α β (P f) < ph α β (P y):=by
 intro r
 induction r with
 | nil=>intro _ y hy;cases hy
 | cons t r ih =>
  intro h y hy
  rcases List.mem_cons.1 hy with rfl | hy
  ·exact Aas h f (by simp)
  ·refine ih ?_ y hy
   cases r with
   | nil=>trivial
   | cons a r=>exact h.2
theorem Ah1 (hv:Be v) {l:List Int} (hr:Lh v l) (h2:2<=l.length):∃ f g X Y,(Mv (plV v) l).reverse=f::X++[g]/\(Mv (plV v) l.reverse).reverse=g::Y++[f]/\Ih (Nx v) (f::X++g::Y++[f])/\(∀ y∈X++g::Y,y≠f)/\(∀ y∈X,y≠g)/\inN v.length f/\(∀ k,inN v.length k->k=f\/befP (plV v f) (plV v k))/\inN v.length g/\(∀ k,inN v.length k->k=g\/befP (plV v k) (plV v g)):=by
 have hlen:=hr.len
 have hord:l.Pairwise fun i j=>ph lexA 1 (plV v i) < ph lexA 1 (plV v j):=by
  refine hr.ord.imp_of_mem fun {a b} ha hb h=>?_
  exact (Uh (hv.ok _ (hr.val.1 ha)) (hv.ok _ (hr.val.1 hb))).2 h
 have hord':l.reverse.Pairwise fun i j=>ph (-lexA) (-1) (plV v i) < ph (-lexA) (-1) (plV v j):=by
  rw [List.pairwise_reverse]
  refine hr.ord.imp_of_mem fun {a b} ha hb h=>?_
  exact (Adk (hv.ok _ (hr.val.1 hb)) (hv.ok _ (hr.val.1 ha))).2 h
 have hne:l≠[]:=by rintro rfl;simp at h2
 obtain ⟨f,a1,a2,a3⟩:=Zi l hord hne
 obtain ⟨g,b1,b2,b3⟩:=Zi l.reverse hord' (by simpa using hne)
 rw [List.head?_reverse] at b1
 rw [List.getLast?_reverse,a1] at b3
 rw [b1] at a3
 have hfl:f∈l:=List.mem_of_mem_head? a1
 have hgl:g∈l:=List.mem_of_getLast? b1
 have hf:=hr.val.1 hfl
 have hg:=hr.val.1 hgl
 have lowf:∀ k,inN v.length k->k=f\/befP (plV v f) (plV v k):=fun k hk=>by
  rcases a2.low k (hr.val.2 hk) with e | e
  ·exact .inl e
  ·exact .inr ((Uh (hv.ok _ hf) (hv.ok _ hk)).1 e)
 have lowg:∀ k,inN v.length k->k=g\/befP (plV v k) (plV v g):=fun k hk=>by
  rcases b2.low k (List.mem_reverse.2 (hr.val.2 hk)) with e | e
  ·exact .inl e
  ·exact .inr ((Adk (hv.ok _ hg) (hv.ok _ hk)).1 e)
 have hfg:f≠g:=by
  rintro rfl
  have h01:=hr.lt (a:=0) (b:=1) (by omega) (by omega) (by omega)
  have k0:=hr.val.1 (List.getElem_mem (show 0 < l.length by omega))
  have k1:=hr.val.1 (List.getElem_mem (show 1 < l.length by omega))
  have q0:=lowf _ k0
  have q1:=lowg _ k0
  have r0:=lowf _ k1
  have r1:=lowg _ k1
  have i0:∀ p:Ac,¬ befP p p:=fun p=>by unfold befP;omega
  have i1:∀ p q:Ac,befP p q->¬ befP q p:=fun p q=>by unfold befP;omega
  rcases q0 with e | e
  ·rcases r0 with e' | e'
   ·rw [e,e'] at h01;exact i0 _ h01
   ·rcases r1 with e2 | e2
    ·rw [e2] at e';exact i0 _ e'
    ·exact i1 _ _ e' e2
  ·rcases q1 with e2 | e2
   ·rw [e2] at e;exact i0 _ e
   ·exact i1 _ _ e e2
 obtain ⟨r,hr1⟩:=a2.bot
 obtain ⟨r',hr2⟩:=b2.bot
 obtain ⟨m,rfl⟩:∃ m,r=g::m:=by
  cases r with
  | nil=>rw [hr1] at a3;simp at a3;exact absurd a3 hfg
  | cons x m=>rw [hr1] at a3;simp at a3;exact ⟨m,by rw [a3]⟩
 obtain ⟨m',rfl⟩:∃ m,r'=f::m:=by
  cases r' with
  | nil=>rw [hr2] at b3;simp at b3;exact absurd b3.symm hfg
  | cons x m=>rw [hr2] at b3;simp at b3;exact ⟨m,by rw [b3]⟩
 have e1:(Mv (plV v) l).reverse=f::m.reverse++[g]:=by rw [hr1];simp
 have e2:(Mv (plV v) l.reverse).reverse=g::m'.reverse++[f]:=by rw [hr2];simp
 have L1:=Wp a2.edge
 have L2:=Wp b2.edge
 have N1:Ih (Nx v) (f::m.reverse++[g]):=by
  rw [<- e1]
  refine Wq (fun a b ha hb h=>Sup.nx hv (fun k hk=>hr.val.2 hk) (hr.val.1 (a2.sub a (List.mem_reverse.1 ha))) (hr.val.1 (a2.sub b (List.mem_reverse.1 hb))) h) L1
 have N2:Ih (Nx v) (g::m'.reverse++[f]):=by
  rw [<- e2]
  refine Wq (fun a b ha hb h=>Sup.nx' hv (fun k hk=>List.mem_reverse.2 (hr.val.2 hk)) (hr.val.1 (List.mem_reverse.1 (b2.sub a (List.mem_reverse.1 ha)))) (hr.val.1 (List.mem_reverse.1 (b2.sub b (List.mem_reverse.1 hb)))) h) L2
 refine ⟨f,g,m.reverse,m'.reverse,e1,e2,?_,fun y hy=>?_,fun y hy=>?_,hf,lowf,hg,lowg⟩
 ·have:=Ac9 (X:=f::m.reverse) (g:=g) (Y:=m'.reverse++[f]) N1 N2
  simpa using this
 ·rintro rfl
  rcases List.mem_append.1 hy with hy | hy
  ·have E:=a2.edge
   rw [hr1] at E
   have:=Anf E y (by simp at hy ⊢;exact .inr hy)
   omega
  ·rcases List.mem_cons.1 hy with e | hy
   ·exact hfg e
   ·have E:=b2.edge
    rw [hr2] at E
    have:=Aas E y (by simp at hy ⊢;exact .inl hy)
    omega
 ·rintro rfl
  have E:=a2.edge
  rw [hr1] at E
  have:=Aas E y (by simp at hy ⊢;exact .inl hy)
  omega
end
section
variable {α γ:Type}
def tot (f:α->Int):List α->Int
 | []=>0
 | x::r=>f x+tot f r
theorem Yc (f:α->Int):∀ l l':List α,tot f (l++l')=tot f l+tot f l'
 | [],l'=>by simp [tot]
 | x::r,l'=>by simp only [List.cons_append,tot,Yc f r l'];omega
theorem Apd {f:α->Int} {l l':List α} (h:l.Perm l'):tot f l=tot f l':=by
 induction h with
 | nil=>rfl
 | cons x _ ih=>simp only [tot,ih]
 | swap x y l=>simp only [tot];omega
 | trans _ _ h1 h2=>rw [h1,h2]
theorem Alj (f:γ->Int) (g:α->γ):∀ l:List α,tot f (l.map g)=tot (fun x=>f (g x)) l
 | []=>rfl
 | x::r=>by simp only [List.map_cons,tot,Alj f g r]
theorem Qe (f:γ->Int) (g:α->List γ):∀ l:List α,tot f (l.flatMap g)=tot (fun x=>tot f (g x)) l
 | []=>rfl
 | x::r=>by rw [List.flatMap_cons,Yc];simp only [tot,Qe f g r]
theorem Mi {f g:α->Int}:∀ {l:List α},(∀ x∈l,f x=g x)->tot f l=tot g l
 | [],_=>rfl
 | x::r,h=>by simp only [tot];rw [h x (by simp),Mi (fun y hy=>h y (by simp [hy]))]
theorem Ws (f g:α->Int):∀ l:List α,tot (fun x=>f x+g x) l=tot f l+tot g l
 | []=>rfl
 | x::r=>by simp only [tot,Ws f g r];omega
theorem Agf (f g:α->Int):∀ l:List α,tot (fun x=>f x-g x) l=tot f l-tot g l
 | []=>rfl
 | x::r=>by simp only [tot,Agf f g r];omega
theorem Alk (f:α->Int):∀ l:List α,tot (fun x=>-f x) l = -tot f l
 | []=>rfl
 | x::r=>by simp only [tot,Alk f r];omega
theorem All (c:Int) (f:α->Int):∀ l:List α,tot (fun x=>c*f x) l=c*tot f l
 | []=>by simp [tot]
 | x::r=>by simp only [tot,All c f r];rw [Int.mul_add]
theorem Wt (f:α->Int) (p:α->Bool):∀ l:List α,tot f l=tot f (l.filter p)+tot f (l.filter fun x=>!p x)
 | []=>rfl
 | x::r=>by
  have ih:=Wt f p r
  by_cases c:p x=true
  ·rw [List.filter_cons_of_pos c,List.filter_cons_of_neg (by simp [c])]
   simp only [tot];omega
  ·rw [List.filter_cons_of_neg c,List.filter_cons_of_pos (by simp [c])]
   simp only [tot];omega
theorem Ow {p:α->Prop} [DecidablePred p]:∀ {l:List α},(∀ x∈l,¬ p x)->tot (fun x=>if p x then (1:Int) else 0) l=0
 | [],_=>rfl
 | x::r,h=>by simp only [tot];rw [if_neg (h x (by simp)),Ow (fun y hy=>h y (by simp [hy]))];rfl
theorem Ud {p:α->Prop} [DecidablePred p] {x:α}:∀ {l:List α},l.Nodup->x∈l->(∀ y∈l,p y↔y=x)->tot (fun x=>if p x then (1:Int) else 0) l=1
 | [],_,h,_=>by cases h
 | y::r,hn,hx,h=>by
  obtain ⟨n1,n2⟩:=List.nodup_cons.1 hn
  simp only [tot]
  by_cases e:y=x
  ·subst e
   rw [if_pos ((h y (by simp)).2 rfl),Ow (l:=r) (fun z hz g=>n1 ((h z (List.mem_cons_of_mem _ hz)).1 g ▸ hz))]
   rfl
  ·have hx':x∈r:=by
    rcases List.mem_cons.1 hx with e' | e'
    ·exact absurd e'.symm e
    ·exact e'
   rw [if_neg (fun g=>e ((h y (by simp)).1 g)),Ud n2 hx' (fun z hz=>h z (List.mem_cons_of_mem _ hz))]
   rfl
theorem Ada {f:α->Int}:∀ {l:List α},(∀ x∈l,0<=f x)->0<=tot f l
 | [],_=>by simp [tot]
 | x::r,h=>by simp only [tot];have:=h x (by simp);have:=Ada (fun y hy=>h y (List.mem_cons_of_mem x hy));omega
theorem Alm {p:α->Prop} [DecidablePred p] {x:α}:∀ {l:List α},x∈l->p x->0 < tot (fun x=>if p x then (1:Int) else 0) l
 | [],h,_=>by cases h
 | y::r,hx,h=>by
  have nn:∀ l:List α,0<=tot (fun x=>if p x then (1:Int) else 0) l:=fun l=>Ada fun y _=>by split <;> omega
  simp only [tot]
  rcases List.mem_cons.1 hx with e | e
  ·subst e;rw [if_pos h];have:=nn r;omega
  ·have:=Alm e h
   split <;> omega
theorem Aj2 {p:α->Prop} [DecidablePred p] {l:List α} (h:0 < tot (fun x=>if p x then (1:Int) else 0) l):∃ x∈l,p x:=by
 refine Classical.byContradiction fun n=>?_
 rw [Ow (fun x hx g=>n ⟨x,hx,g⟩)] at h
 omega
end
def xp (a b:Ac):Int:=a.X*b.Y-a.Y*b.X
theorem Aj3 (a b c:Ac):crs a b c=xp a b+xp b c+xp c a:=by unfold crs xp;grind
theorem Aco (a b:Ac):xp b a = -xp a b:=by unfold xp;grind
theorem As6 (a:Ac):xp a a=0:=by unfold xp;grind
section
variable {P:Int->Ac} {V:Int->Prop} {α β:Int}
def phiC (P:Int->Ac) (α β:Int):List Int->Int->Int
 | c::c' :: r,p=>if ph α β (P p) < ph α β (P c') then xp (P c) (P p) else xp (P c) (P c')+phiC P α β (c' :: r) p
 | _,_=>0
def clen (P:Int->Ac):List Int->Int
 | c::c' :: r=>xp (P c) (P c')+clen P (c' :: r)
 | _=>0
def SupV (P:Int->Ac) (V:Int->Prop) (α β:Int) (a b:Int):Prop:=V a/\V b/\ph α β (P a) < ph α β (P b)/\∀ k,V k->0<=crs (P a) (P b) (P k)
theorem Aat {c:Int} {r:List Int} (h:Ih (SupV P V α β) (c::r)):phiC P α β (c::r) c=0:=by
 cases r with
 | nil=>rfl
 | cons c' r =>
  unfold phiC
  rw [if_pos h.1.2.2.1,As6]
theorem Yd {g:Int}:∀ {r:List Int} {c:Int},Ih (SupV P V α β) (c::r++[g])->ph α β (P c) < ph α β (P g)
 | [],c,h=>h.1.2.2.1
 | x::r,c,h=>by
  have h2:Ih (SupV P V α β) (x::r++[g]):=h.2
  have:=Yd h2
  have:=h.1.2.2.1
  omega
theorem Adb {g:Int}:∀ {r:List Int} {c:Int},Ih (SupV P V α β) (c::r++[g])->phiC P α β (c::r++[g]) g=clen P (c::r++[g])
 | [],c,h=>by
  show phiC P α β [c,g] g=clen P [c,g]
  unfold phiC clen
  rw [if_neg (by omega)]
  unfold phiC clen
  rfl
 | x::r,c,h=>by
  have h2:Ih (SupV P V α β) (x::r++[g]):=h.2
  have l:=Yd h2
  have ih:=Adb h2
  show phiC P α β (c::x::(r++[g])) g=clen P (c::x::(r++[g]))
  unfold phiC clen
  rw [if_neg (by omega)]
  have ih':phiC P α β (x::(r++[g])) g=clen P (x::(r++[g])):=ih
  rw [ih']
theorem As7 {c c' i j:Int} (hs:SupV P V α β c c') (hi:V i) (hj:V j) (hne:∀ a b,V a->V b->Bm (P a) (P b)->a=b) (h1:ph α β (P c)<=ph α β (P i)) (h2:ph α β (P i) < ph α β (P c')) (h3:ph α β (P i) < ph α β (P j)) (hb:∀ k,V k->0<=crs (P i) (P j) (P k))
  (hf:∀ k,V k->crs (P i) (P j) (P k)=0->ph α β (P i) < ph α β (P k)->ph α β (P k) < ph α β (P j)->False):crs (P c) (P i) (P j)=0/\ph α β (P j)<=ph α β (P c'):=by
 obtain ⟨vc,vc',hlt,hk⟩:=hs
 have id:=Tq α β (P i) (P c) (P c') (P j)
 have a1:=hb c vc
 have a2:=hb c' vc'
 have a3:=hk i hi
 have a4:=hk j hj
 have e1:crs (P i) (P c') (P j) = -crs (P i) (P j) (P c'):=Av _ _ _
 have e2:crs (P i) (P c) (P c')=crs (P c) (P c') (P i):=by unfold crs;grind
 rw [e1,e2] at id
 have t1:=Int.mul_nonneg (show 0<=ph α β (P i)-ph α β (P c) by omega) a2
 have t2:=Int.mul_nonneg (show 0<=ph α β (P c')-ph α β (P i) by omega) a1
 have t3:=Int.mul_nonneg (show 0<=ph α β (P j)-ph α β (P i) by omega) a3
 have e3:(ph α β (P c)-ph α β (P i)) * -crs (P i) (P j) (P c')=(ph α β (P i)-ph α β (P c))*crs (P i) (P j) (P c'):=by grind
 rw [e3] at id
 have z1:crs (P i) (P j) (P c)=0:=by
  rcases Int.mul_eq_zero.1 (show (ph α β (P c')-ph α β (P i))*crs (P i) (P j) (P c)=0 by omega) with g | g
  ·omega
  ·exact g
 have z3:crs (P c) (P c') (P i)=0:=by
  rcases Int.mul_eq_zero.1 (show (ph α β (P j)-ph α β (P i))*crs (P c) (P c') (P i)=0 by omega) with g | g
  ·omega
  ·exact g
 have hc:crs (P c) (P i) (P j)=0:=by
  have:crs (P c) (P i) (P j)=crs (P i) (P j) (P c):=by unfold crs;grind
  omega
 refine ⟨hc,?_⟩
 rcases Int.lt_or_le (ph α β (P c')) (ph α β (P j)) with g | g
 ·exfalso
  refine hf c' vc' ?_ h2 g
  by_cases ec:i=c
  ·subst ec
   have:crs (P i) (P j) (P c') = -crs (P i) (P c') (P j):=Av _ _ _
   omega
  ·refine Th (a:=P c) (b:=P i) (fun e=>ec (hne _ _ vc hi e).symm) (by unfold crs;grind) (by rw [hc]) ?_
   have:crs (P c) (P i) (P c') = -crs (P c) (P c') (P i):=Av _ _ _
   omega
 ·exact g
theorem Ah2 {i j:Int} (hi:V i) (hj:V j) (hne:∀ a b,V a->V b->Bm (P a) (P b)->a=b) (hph:∀ a b,V a->V b->ph α β (P a)=ph α β (P b)->a=b) (h3:ph α β (P i) < ph α β (P j)) (hb:∀ k,V k->0<=crs (P i) (P j) (P k))
  (hf:∀ k,V k->crs (P i) (P j) (P k)=0->ph α β (P i) < ph α β (P k)->ph α β (P k) < ph α β (P j)->False) {g:Int} (hg:ph α β (P j)<=ph α β (P g)) :
  ∀ {r:List Int} {c:Int},Ih (SupV P V α β) (c::r++[g])->ph α β (P c)<=ph α β (P i)->phiC P α β (c::r++[g]) j-phiC P α β (c::r++[g]) i=xp (P i) (P j):=by
 have step:∀ {c c':Int} {r:List Int},Ih (SupV P V α β) (c::c' :: r)->ph α β (P c)<=ph α β (P i)->ph α β (P i) < ph α β (P c')->phiC P α β (c::c' :: r) j-phiC P α β (c::c' :: r) i=xp (P i) (P j):=fun {c c' r} h hc c1=>by
  obtain ⟨k1,k2⟩:=As7 h.1 hi hj hne hc c1 h3 hb hf
  have e:=Aj3 (P c) (P i) (P j)
  have e':=Aco (P j) (P c)
  unfold phiC
  rw [if_pos c1]
  by_cases c2:ph α β (P j) < ph α β (P c')
  ·rw [if_pos c2];omega
  ·have:j=c':=hph _ _ hj h.1.2.1 (by omega)
   subst this
   rw [if_neg c2,Aat h.2];omega
 intro r
 induction r with
 | nil =>
  intro c h hc
  have:=h.1.2.2.1
  exact step (c':=g) (r:=[]) h hc (by omega)
 | cons x r ih =>
  intro c h hc
  by_cases c1:ph α β (P i) < ph α β (P x)
  ·exact step (c':=x) (r:=r++[g]) h hc c1
  ·have:=ih (c:=x) h.2 (by omega)
   show phiC P α β (c::x::(r++[g])) j-phiC P α β (c::x::(r++[g])) i=_
   unfold phiC
   rw [if_neg c1,if_neg (by omega)]
   have e:phiC P α β (x::(r++[g])) j-phiC P α β (x::(r++[g])) i=xp (P i) (P j):=this
   omega
theorem Avc {p x y d:Int} (vx:V x) (vd:V d) (h1:ph α β (P p) < ph α β (P x)) (h2:ph α β (P p) < ph α β (P y)) (h3:ph α β (P d) < ph α β (P p)) (hx:∀ k,V k->0<=crs (P x) (P p) (P k)) (hy:∀ k,V k->0<=crs (P p) (P y) (P k)):∀ k,V k->crs (P p) (P y) (P k)=0:=by
 have rot:∀ k,crs (P p) (P k) (P x)=crs (P x) (P p) (P k):=fun k=>by unfold crs;grind
 have id:=Tq α β (P p) (P x) (P y) (P d)
 have e1:crs (P p) (P x) (P y) = -crs (P p) (P y) (P x):=Av _ _ _
 rw [rot,e1] at id
 have a1:=Int.mul_nonneg (show 0<=ph α β (P x)-ph α β (P p) by omega) (hy d vd)
 have a2:=Int.mul_nonneg (show 0<=ph α β (P y)-ph α β (P p) by omega) (hx d vd)
 have a3:=Int.mul_nonneg (show 0<=ph α β (P p)-ph α β (P d) by omega) (hy x vx)
 have e3:(ph α β (P d)-ph α β (P p)) * -crs (P p) (P y) (P x)=(ph α β (P p)-ph α β (P d))*crs (P p) (P y) (P x):=by grind
 rw [e3] at id
 have z:crs (P p) (P y) (P x)=0:=by
  rcases Int.mul_eq_zero.1 (show (ph α β (P p)-ph α β (P d))*crs (P p) (P y) (P x)=0 by omega) with g | g
  ·omega
  ·exact g
 intro k hk
 have id:=Tq α β (P p) (P x) (P y) (P k)
 rw [rot,e1,z] at id
 have b1:=Int.mul_nonneg (show 0<=ph α β (P x)-ph α β (P p) by omega) (hy k hk)
 have b2:=Int.mul_nonneg (show 0<=ph α β (P y)-ph α β (P p) by omega) (hx k hk)
 rw [Int.neg_zero,Int.mul_zero] at id
 rcases Int.mul_eq_zero.1 (show (ph α β (P x)-ph α β (P p))*crs (P p) (P y) (P k)=0 by omega) with g | g
 ·omega
 ·exact g
theorem fork {i j z:Int} (vj:V j) (vz:V z) (h1:ph α β (P j) < ph α β (P i)) (h2:ph α β (P i) < ph α β (P z)) (hj:∀ k,V k->0<=crs (P i) (P j) (P k)) (hz:∀ k,V k->0<=crs (P i) (P z) (P k)):∀ k,V k->crs (P i) (P j) (P k)=0:=by
 have e0:crs (P i) (P z) (P j) = -crs (P i) (P j) (P z):=Av _ _ _
 have a:=hj z vz
 have b:=hz j vj
 intro k hk
 have id:=Tq α β (P i) (P z) (P j) (P k)
 have e1:crs (P i) (P k) (P z) = -crs (P i) (P z) (P k):=Av _ _ _
 rw [e1,show crs (P i) (P z) (P j)=0 by omega,Int.mul_zero] at id
 have b1:=Int.mul_nonneg (show 0<=ph α β (P z)-ph α β (P i) by omega) (hj k hk)
 have b2:=Int.mul_nonneg (show 0<=ph α β (P i)-ph α β (P j) by omega) (hz k hk)
 have e3:(ph α β (P j)-ph α β (P i)) * -crs (P i) (P z) (P k)=(ph α β (P i)-ph α β (P j))*crs (P i) (P z) (P k):=by grind
 rw [e3] at id
 rcases Int.mul_eq_zero.1 (show (ph α β (P z)-ph α β (P i))*crs (P i) (P j) (P k)=0 by omega) with g | g
 ·omega
 ·exact g
end
section
variable {v:List Ab} {m:Mp} {L:List Aa} {T:List Ae}
def Cm (t:Ae):List (Int × Int):=[(t.a0,t.a1),(t.a1,t.a2),(t.a2,t.a0)]
theorem Pv {t:Ae} {p q:Int}:(p,q)∈Cm t↔Fh t p q:=by
 unfold Cm Fh
 simp
theorem memS (hM:Tri (plV v) (inN v.length) (apM m)) (hT:Ix v m T) {p q:Int}:(p,q)∈T.flatMap Cm↔∃ e,apM m p q=some e:=by
 rw [List.mem_flatMap]
 constructor
 ·rintro ⟨t,ht,hs⟩
  exact ((hT.mem t).1 ht).side hM (Pv.1 hs)
 ·rintro ⟨e,he⟩
  obtain ⟨n1,n2,n3⟩:=hM.ne he
  by_cases c1:p < q/\p < e
  ·exact ⟨⟨p,q,e⟩,(hT.mem _).2 ⟨c1.1,c1.2,he⟩,Pv.2 (.inl ⟨rfl,rfl⟩)⟩
  ·by_cases c2:q < p/\q < e
   ·exact ⟨⟨q,e,p⟩,(hT.mem _).2 ⟨c2.2,c2.1,hM.rot _ _ _ he⟩,Pv.2 (.inr (.inr ⟨rfl,rfl⟩))⟩
   ·exact ⟨⟨e,p,q⟩,(hT.mem _).2 ⟨by dsimp only;omega,by dsimp only;omega,hM.rot2 he⟩,Pv.2 (.inr (.inl ⟨rfl,rfl⟩))⟩
theorem Ape (hM:Tri (plV v) (inN v.length) (apM m)) {t t':Ae} (h:Vd m t) (h':Vd m t') {p q:Int} (hs:Fh t p q) (hs':Fh t' p q):t=t':=by
 obtain ⟨a,b,c⟩:=t
 obtain ⟨a',b',c'⟩:=t'
 obtain ⟨h1,h2,h3⟩:=h
 obtain ⟨h1',h2',h3'⟩:=h'
 have r3:=hM.rot _ _ _ h3
 have q3:=hM.rot2 h3
 have r3':=hM.rot _ _ _ h3'
 have q3':=hM.rot2 h3'
 unfold Fh at hs hs'
 dsimp only at *
 rcases hs with ⟨rfl,rfl⟩ | ⟨rfl,rfl⟩ | ⟨rfl,rfl⟩ <;> rcases hs' with ⟨rfl,rfl⟩ | ⟨rfl,rfl⟩ | ⟨rfl,rfl⟩
 ·rw [h3] at h3';cases h3';rfl
 ·rw [h3] at r3';cases r3';omega
 ·rw [h3] at q3';cases q3';omega
 ·rw [r3] at h3';cases h3';omega
 ·rw [r3] at r3';cases r3';rfl
 ·rw [r3] at q3';cases q3';omega
 ·rw [q3] at h3';cases h3';omega
 ·rw [q3] at r3';cases r3';omega
 ·rw [q3] at q3';cases q3';rfl
theorem Aau (hM:Tri (plV v) (inN v.length) (apM m)) (hT:Ix v m T):(T.flatMap Cm).Nodup:=by
 unfold List.Nodup
 rw [List.pairwise_flatMap]
 refine ⟨fun t ht=>?_,?_⟩
 ·obtain ⟨n1,n2,n3⟩:=hM.ne ((hT.mem t).1 ht).2.2
  unfold Cm
  simp
  omega
 ·refine List.Pairwise.imp_of_mem (fun {t t'} ht ht' hne x hx y hy e=>?_) hT.nd
  subst e
  obtain ⟨p,q⟩:=x
  exact hne (Ape hM ((hT.mem t).1 ht) ((hT.mem t').1 ht') (Pv.1 hx) (Pv.1 hy))
noncomputable def bds (m:Mp) (T:List Ae):List (Int × Int):=(T.flatMap Cm).filter fun s=>(apM m s.2 s.1).isNone
theorem Lg (hM:Tri (plV v) (inN v.length) (apM m)) (hT:Ix v m T) {p q:Int}:(p,q)∈bds m T↔(∃ e,apM m p q=some e)/\apM m q p=none:=by
 unfold bds
 rw [List.mem_filter,memS hM hT]
 simp
theorem Ah3 (hM:Tri (plV v) (inN v.length) (apM m)) (hT:Ix v m T) (f:Int × Int->Int):tot f ((T.flatMap Cm).filter fun s=>!(apM m s.2 s.1).isNone)=tot (fun s=>f (s.2,s.1)) ((T.flatMap Cm).filter fun s=>!(apM m s.2 s.1).isNone):=by
 have hnd:=(Aau hM hT).filter (fun s=>!(apM m s.2 s.1).isNone)
 have mem:∀ p q,(p,q)∈((T.flatMap Cm).filter fun s=>!(apM m s.2 s.1).isNone)↔(∃ e,apM m p q=some e)/\∃ e,apM m q p=some e:=fun p q=>by
  rw [List.mem_filter,memS hM hT]
  simp only [Bool.not_eq_true',Option.isNone_eq_false_iff,Option.isSome_iff_exists]
 rw [<- Alj f (fun s:Int × Int=>(s.2,s.1))]
 refine Apd ((List.perm_ext_iff_of_nodup hnd (Oy (fun x _ y _ e=>?_) hnd)).2 fun s=>?_)
 ·obtain ⟨x1,x2⟩:=x
  obtain ⟨y1,y2⟩:=y
  simp only [Prod.mk.injEq] at e
  rw [e.1,e.2]
 ·obtain ⟨p,q⟩:=s
  rw [mem,List.mem_map]
  constructor
  ·rintro ⟨h1,h2⟩
   exact ⟨(q,p),(mem q p).2 ⟨h2,h1⟩,rfl⟩
  ·rintro ⟨⟨x,y⟩,h,e⟩
   cases e
   have:=(mem _ _).1 h
   exact ⟨this.2,this.1⟩
theorem Adc (hM:Tri (plV v) (inN v.length) (apM m)) (hT:Ix v m T) (F:Int->Int):tot (fun s:Int × Int=>F s.1) (bds m T)=tot (fun s:Int × Int=>F s.2) (bds m T):=by
 have h1:=Wt (fun s:Int × Int=>F s.1) (fun s=>(apM m s.2 s.1).isNone) (T.flatMap Cm)
 have h2:=Wt (fun s:Int × Int=>F s.2) (fun s=>(apM m s.2 s.1).isNone) (T.flatMap Cm)
 have h3:=Ah3 hM hT (fun s:Int × Int=>F s.1)
 have h4:tot (fun s:Int × Int=>F s.1) (T.flatMap Cm)=tot (fun s:Int × Int=>F s.2) (T.flatMap Cm):=by
  rw [Qe,Qe]
  refine Mi fun t _=>?_
  simp only [Cm,tot]
  omega
 unfold bds
 dsimp only at h3
 omega
theorem Apf (hM:Tri (plV v) (inN v.length) (apM m)) (hT:Ix v m T):tot (fun t:Ae=>crs (plV v t.a0) (plV v t.a1) (plV v t.a2)) T=tot (fun s:Int × Int=>xp (plV v s.1) (plV v s.2)) (bds m T):=by
 have h1:=Wt (fun s:Int × Int=>xp (plV v s.1) (plV v s.2)) (fun s=>(apM m s.2 s.1).isNone) (T.flatMap Cm)
 have h2:=Ah3 hM hT (fun s:Int × Int=>xp (plV v s.1) (plV v s.2))
 dsimp only at h2
 have h3:∀ l:List (Int × Int),tot (fun s:Int × Int=>xp (plV v s.2) (plV v s.1)) l = -tot (fun s:Int × Int=>xp (plV v s.1) (plV v s.2)) l:=fun l=>by
  rw [<- Alk]
  exact Mi fun s _=>Aco _ _
 rw [h3] at h2
 have h4:tot (fun t:Ae=>crs (plV v t.a0) (plV v t.a1) (plV v t.a2)) T=tot (fun s:Int × Int=>xp (plV v s.1) (plV v s.2)) (T.flatMap Cm):=by
  rw [Qe]
  refine Mi fun t _=>?_
  simp only [Cm,tot]
  rw [Aj3]
  omega
 unfold bds
 omega
theorem Zj (hv:Be v) {p y:Int} (hp:inN v.length p) (hy:inN v.length y) (hne:p≠y) (h:∀ k,inN v.length k->crs (plV v p) (plV v y) (plV v k)=0):Nv v :=
 fun i j k hi hj hk=>Th (Cp hv hp hy hne) (h i hi) (h j hj) (h k hk)
theorem Ang (hv:Be v) (hn:v.length<=1024) (hM:Mesh v L m) (hT:Ix v m T) (hfl:¬ Nv v) {f g:Int} {X Y:List Int} (Lo:Ih (SupV (plV v) (inN v.length) lexA 1) (f::X++[g])) (Up:Ih (SupV (plV v) (inN v.length) (-lexA) (-1)) (g::Y++[f])) (hf:inN v.length f) (low:∀ k,inN v.length k->k=f\/befP (plV v f) (plV v k)) (hg:inN v.length g) (high:∀ k,inN v.length k->k=g\/befP (plV v k) (plV v g)) :
  tot (fun t:Ae=>crs (plV v t.a0) (plV v t.a1) (plV v t.a2)) T=clen (plV v) (f::X++[g])+clen (plV v) (g::Y++[f]):=by
 haveI:DecidablePred fun p:Int=>∃ q,(p,q)∈bds m T/\ph lexA 1 (plV v p) < ph lexA 1 (plV v q):=fun _=>Classical.propDecidable _
 have mem:∀ {p q},(p,q)∈bds m T->(∃ e,apM m p q=some e)/\apM m q p=none:=fun h=>(Lg hM.tri hT).1 h
 have vs:∀ {p q},(p,q)∈bds m T->inN v.length p/\inN v.length q/\p≠q:=fun h=>by
  obtain ⟨⟨e,he⟩,_⟩:=mem h
  obtain ⟨q1,q2,_⟩:=hM.tri.ccw _ _ _ he
  exact ⟨q1,q2,(hM.tri.ne he).1⟩
 have hb:∀ {p q},(p,q)∈bds m T->∀ k,inN v.length k->0<=crs (plV v p) (plV v q) (plV v k):=fun h k hk=>by
  obtain ⟨⟨e,he⟩,h2⟩:=mem h
  exact hM.cov _ _ _ he h2 k hk
 have bef:∀ {p q},inN v.length p->inN v.length q->(ph lexA 1 (plV v p) < ph lexA 1 (plV v q)↔befP (plV v p) (plV v q)):=fun hp hq=>Uh (hv.ok _ hp) (hv.ok _ hq)
 have neg:∀ p,ph (-lexA) (-1) p = -ph lexA 1 p:=fun p=>by unfold ph;grind
 have free:∀ {p q},(p,q)∈bds m T->∀ k,inN v.length k->crs (plV v p) (plV v q) (plV v k)=0->¬ ((ph lexA 1 (plV v p) < ph lexA 1 (plV v k)/\ph lexA 1 (plV v k) < ph lexA 1 (plV v q))\/(ph lexA 1 (plV v q) < ph lexA 1 (plV v k)/\ph lexA 1 (plV v k) < ph lexA 1 (plV v p))):=fun {p q} h k hk h0 g=>by
  obtain ⟨⟨e,he⟩,_⟩:=mem h
  obtain ⟨vp,vq,_⟩:=vs h
  have b1:=bef vp hk
  have b2:=bef hk vq
  have b3:=bef vq hk
  have b4:=bef hk vp
  have n1:k≠p:=fun e=>by subst e;omega
  have n2:k≠q:=fun e=>by subst e;omega
  refine Rf hM.tri he hk n1 n2 ⟨⟨h0,fun w=>?_⟩,Cp hv hk vp n1,Cp hv hk vq n2⟩
  rw [<- b1,<- b3] at w
  omega
 have inj:∀ a b,inN v.length a->inN v.length b->ph lexA 1 (plV v a)=ph lexA 1 (plV v b)->a=b:=fun a b ha hb e=>by
  refine Classical.byContradiction fun n=>?_
  rcases Ft (Cp hv ha hb n) with g | g
  ·have:=(bef ha hb).2 g;omega
  ·have:=(bef hb ha).2 g;omega
 have lowf:∀ k,inN v.length k->ph lexA 1 (plV v f)<=ph lexA 1 (plV v k):=fun k hk=>by
  rcases low k hk with e | e
  ·rw [e];omega
  ·have:=(bef hf hk).2 e;omega
 have higg:∀ k,inN v.length k->ph lexA 1 (plV v k)<=ph lexA 1 (plV v g):=fun k hk=>by
  rcases high k hk with e | e
  ·rw [e];omega
  ·have:=(bef hk hg).2 e;omega
 have lowq:∀ k,inN v.length k->k≠f->ph lexA 1 (plV v f) < ph lexA 1 (plV v k):=fun k hk hne=>by
  have:=lowf k hk
  refine Classical.byContradiction fun n=>hne (inj k f hk hf (by omega))
 have higq:∀ k,inN v.length k->k≠g->ph lexA 1 (plV v k) < ph lexA 1 (plV v g):=fun k hk hne=>by
  have:=higg k hk
  refine Classical.byContradiction fun n=>hne (inj k g hk hg (by omega))
 have h2:2<=v.length:=by
  have:=Yd Lo
  have n:f≠g:=fun e=>by subst e;omega
  unfold inN at hf hg
  omega
 obtain ⟨b,b1,b2,b3,b4⟩:=Afi hv hn hf low h2
 obtain ⟨e,he⟩:=Aff hv hM hf low b2 b3 b4
 have fb:(f,b)∈bds m T:=by
  refine (Lg hM.tri hT).2 ⟨⟨e,he⟩,?_⟩
  rcases w:apM m b f with _ | z
  ·rfl
  ·exfalso
   obtain ⟨_,_,vz,Tz⟩:=hM.tri.ccw _ _ _ w
   rw [Ar] at Tz
   by_cases e:z=f
   ·rw [e,Bi] at Tz;omega
   ·rcases b4 z vz e with g | g <;> omega
 have one:∀ q,(f,q)∈bds m T->q=b:=fun q hq=>by
  obtain ⟨_,vq,nq⟩:=vs hq
  refine Classical.byContradiction fun n=>?_
  have c1:=hb fb q vq
  have c2:=hb hq b b2
  rw [Av] at c2
  have lq:=lowq q vq (fun e=>nq e.symm)
  have lb:=lowq b b2 b3
  rcases Int.lt_trichotomy (ph lexA 1 (plV v q)) (ph lexA 1 (plV v b)) with g | g | g
  ·exact free fb q vq (by omega) (.inl ⟨lq,g⟩)
  ·exact n (inj q b vq b2 g)
  ·exact free hq b b2 (by rw [Av];omega) (.inl ⟨lb,g⟩)
 have fst1:tot (fun s:Int × Int=>if s.1=f then (1:Int) else 0) (bds m T)=1:=by
  refine Ud (p:=fun s:Int × Int=>s.1=f) (x:=(f,b)) ((Aau hM.tri hT).filter _) fb fun y hy=>?_
  obtain ⟨y1,y2⟩:=y
  constructor
  ·intro e
   dsimp only at e
   subst e
   rw [one _ hy]
  ·intro e;cases e;rfl
 have snd1:tot (fun s:Int × Int=>if s.2=f then (1:Int) else 0) (bds m T)=1:=by
  exact (Adc hM.tri hT (fun i=>if i=f then (1:Int) else 0)).symm.trans fst1
 have cont:∀ {i j},(i,j)∈bds m T->∃ z,(j,z)∈bds m T:=fun {i j} h=>by
  have h1:0 < tot (fun s:Int × Int=>if s.2=j then (1:Int) else 0) (bds m T):=Alm (p:=fun s:Int × Int=>s.2=j) h rfl
  have h2:=Adc hM.tri hT (fun i=>if i=j then (1:Int) else 0)
  rw [<- h2] at h1
  obtain ⟨⟨x,y⟩,hx,e⟩:=Aj2 (p:=fun s:Int × Int=>s.1=j) h1
  dsimp only at e
  subst e
  exact ⟨y,hx⟩
 have pU:phiC (plV v) (-lexA) (-1) (g::Y++[f]) g=0:=Aat Up
 have pL:phiC (plV v) lexA 1 (f::X++[g]) f=0:=Aat Lo
 have lowF:∃ q,(f,q)∈bds m T/\ph lexA 1 (plV v f) < ph lexA 1 (plV v q):=⟨b,fb,lowq b b2 b3⟩
 have Qh:∀ a b,inN v.length a->inN v.length b->Bm (plV v a) (plV v b)->a=b:=fun a b ha hb e=>hv.dist a b ha hb e
 have key:∀ s∈bds m T,xp (plV v s.1) (plV v s.2)=((if ∃ q,(s.2,q)∈bds m T/\ph lexA 1 (plV v s.2) < ph lexA 1 (plV v q) then phiC (plV v) lexA 1 (f::X++[g]) s.2 else clen (plV v) (f::X++[g])+phiC (plV v) (-lexA) (-1) (g::Y++[f]) s.2)-(if ∃ q,(s.1,q)∈bds m T/\ph lexA 1 (plV v s.1) < ph lexA 1 (plV v q) then phiC (plV v) lexA 1 (f::X++[g]) s.1 else clen (plV v) (f::X++[g])+phiC (plV v) (-lexA) (-1) (g::Y++[f]) s.1))+(clen (plV v) (f::X++[g])+clen (plV v) (g::Y++[f]))*(if s.2=f then (1:Int) else 0):=by
  rintro ⟨i,j⟩ hs
  dsimp only
  obtain ⟨vi,vj,nij⟩:=vs hs
  rcases Int.lt_trichotomy (ph lexA 1 (plV v i)) (ph lexA 1 (plV v j)) with c | c | c
  ·-- Sn
   have hi:∃ q,(i,q)∈bds m T/\ph lexA 1 (plV v i) < ph lexA 1 (plV v q):=⟨j,hs,c⟩
   have e1:=Ah2 (g:=g) vi vj Qh inj c (hb hs) (fun k hk h0 g1 g2=>free hs k hk h0 (.inl ⟨g1,g2⟩)) (higg j vj) Lo (lowf i vi)
   have jf:j≠f:=fun e=>by subst e;have:=lowf i vi;omega
   rw [if_pos hi,if_neg jf,Int.mul_zero,Int.add_zero]
   by_cases hj:∃ q,(j,q)∈bds m T/\ph lexA 1 (plV v j) < ph lexA 1 (plV v q)
   ·rw [if_pos hj];omega
   ·rw [if_neg hj]
    have jg:j=g:=by
     refine Classical.byContradiction fun n=>?_
     obtain ⟨z,hz⟩:=cont hs
     obtain ⟨_,vz,njz⟩:=vs hz
     have cz:ph lexA 1 (plV v z) < ph lexA 1 (plV v j):=by
      rcases Int.lt_trichotomy (ph lexA 1 (plV v z)) (ph lexA 1 (plV v j)) with w | w | w
      ·exact w
      ·exact absurd (inj z j vz vj w).symm njz
      ·exact absurd ⟨z,hz,w⟩ hj
     have:=Avc (P:=plV v) (V:=inN v.length) (α:=-lexA) (β:=-1) (p:=j) (x:=i) (y:=z) (d:=g) vi hg (by rw [neg,neg];omega) (by rw [neg,neg];omega) (by rw [neg,neg];have:=higq j vj n;omega) (hb hs) (hb hz)
     exact hfl (Zj hv vj vz njz this)
    rw [jg,pU,<- Adb Lo]
    rw [jg] at e1
    omega
  ·exact absurd (inj i j vi vj c) nij
  ·-- above
   have e1:=Ah2 (P:=plV v) (V:=inN v.length) (α:=-lexA) (β:=-1) (g:=f) vi vj Qh (fun a b ha hb e=>inj a b ha hb (by rw [neg,neg] at e;omega)) (by rw [neg,neg];omega) (hb hs) (fun k hk h0 g1 g2=>free hs k hk h0 (.inr (by rw [neg,neg] at g1 g2;omega))) (by rw [neg,neg];have:=lowf j vj;omega) Up (by rw [neg,neg];have:=higg i vi;omega)
   have hi:¬ ∃ q,(i,q)∈bds m T/\ph lexA 1 (plV v i) < ph lexA 1 (plV v q):=by
    rintro ⟨z,hz,cz⟩
    obtain ⟨_,vz,_⟩:=vs hz
    exact hfl (Zj hv vi vj nij (fork vj vz c cz (hb hs) (hb hz)))
   rw [if_neg hi]
   by_cases jf:j=f
   ·subst jf
    rw [if_pos lowF,if_pos rfl,pL,Int.mul_one]
    rw [Adb Up] at e1
    omega
   ·have hj:¬ ∃ q,(j,q)∈bds m T/\ph lexA 1 (plV v j) < ph lexA 1 (plV v q):=by
     rintro ⟨z,hz,cz⟩
     obtain ⟨_,vz,njz⟩:=vs hz
     exact hfl (Zj hv vj vz njz (Avc (P:=plV v) (V:=inN v.length) (α:=lexA) (β:=1) (p:=j) (x:=i) (y:=z) (d:=f) vi hf c cz (lowq j vj jf) (hb hs) (hb hz)))
    rw [if_neg hj,if_neg jf,Int.mul_zero,Int.add_zero]
    omega
 rw [Apf hM.tri hT,Mi key,Ws,Agf,All,snd1,Int.mul_one]
 have:=Adc hM.tri hT (fun i=>if ∃ q,(i,q)∈bds m T/\ph lexA 1 (plV v i) < ph lexA 1 (plV v q) then phiC (plV v) lexA 1 (f::X++[g]) i else clen (plV v) (f::X++[g])+phiC (plV v) (-lexA) (-1) (g::Y++[f]) i)
 try dsimp only at this
 omega
end
end Go.Proofs.YtjfndjmabhbicaaGreat
