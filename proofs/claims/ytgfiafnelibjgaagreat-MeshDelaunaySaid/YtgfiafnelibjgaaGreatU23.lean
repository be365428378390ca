/- The corners of the hull in their order: chains and what the reference walks (of M2 to M5). -/
import Derived.Test.YtgfiafnelibjgaaGreatM0
import Derived.Test.YtgfiafnelibjgaaGreatU21
namespace Go.Proofs.YtgfiafnelibjgaaGreat
open Go Go.RowKit
section
variable {v:List Ab}
theorem Agx {α:Type} {p:List α→Prop} (h0:p []) (h1:∀ l i,p l→p (l++[i])) (l:List α):p l:=by
 have key:∀ m:List α,p m.reverse:=by
  intro m
  induction m with
  | nil=>exact h0
  | cons x m ih=>rw [List.reverse_cons];exact h1 _ _ ih
 have:=key l.reverse
 rwa [List.reverse_reverse] at this
def Lu (P:Int→Ac) (l:List Int):List Int:=l.foldl (fun s i=>i::popC P i s) []
theorem Aao (P:Int→Ac) (l:List Int) (i:Int):Lu P (l++[i])=i::popC P i (Lu P l):=by unfold Lu;rw [List.foldl_append];rfl
theorem Aot {P:Int→Ac} {i:Int}:∀ {s:List Int},∃ q,s=q++popC P i s:=by
 intro s
 induction s with
 | nil=>exact ⟨[],rfl⟩
 | cons t s ih =>
  cases s with
  | nil=>exact ⟨[],rfl⟩
  | cons a r =>
   unfold popC
   split
   ·obtain ⟨q,hq⟩:=ih
    exact ⟨t::q,by rw [List.cons_append,← hq]⟩
   ·exact ⟨[],rfl⟩
theorem Aou {P:Int→Ac} {i:Int} {s:List Int}:(popC P i s).length≤s.length:=by
 obtain ⟨q,hq⟩:=Aot (P:=P) (i:=i) (s:=s)
 have:=congrArg List.length hq
 rw [List.length_append] at this
 omega
theorem Acv {P:Int→Ac}:∀ {l:List Int},(Lu P l).length≤l.length:=by
 intro l
 refine Agx (p:=fun l=>(Lu P l).length≤l.length) ?_ (fun l i ih=>?_) l
 ·simp [Lu]
 ·rw [Aao,List.length_cons,List.length_append,List.length_singleton]
  have:=Aou (P:=P) (i:=i) (s:=Lu P l)
  omega
end
section
section
variable {P:Int→Ac} {α β:Int}
theorem Sup.congr {D D':List Int} (h:∀ x,x∈D'→x∈D) {a b:Int} (s:Sup P α β D a b):Sup P α β D' a b:=⟨s.1,fun k hk=>s.2 k (h k hk)⟩
theorem Wq.imp {Q R:Int→Int→Prop} (h:∀ a b,Q a b→R a b):∀ {s:List Int},Wq Q s→Wq R s:=by
 intro s
 induction s with
 | nil=>intro _;trivial
 | cons t s ih =>
  cases s with
  | nil=>intro _;trivial
  | cons a r=>exact fun g=>⟨h _ _ g.1,ih g.2⟩
theorem Ym:∀ (l:List Int),(l.Pairwise fun i j=>ph α β (P i) < ph α β (P j))→l≠[]→∃ f,l.head? = some f∧Aag P α β f l (Lu P l)∧(Lu P l).head? = l.getLast?:=by
 refine Agx ?_ (fun l i ih=>?_)
 ·intro _ h;exact absurd rfl h
 ·intro hp _
  obtain ⟨hp1,_,hp2⟩:=List.pairwise_append.1 hp
  by_cases e:l=[]
  ·subst e
   refine ⟨i,rfl,⟨fun x hx=>?_,trivial,⟨[],rfl⟩,fun k hk=>.inl (by simpa using hk)⟩,rfl⟩
   simpa [Lu,popC] using hx
  ·obtain ⟨f,h1,h2,h3⟩:=ih hp1 e
   have hlt:∀ k∈l,ph α β (P k) < ph α β (P i):=fun k hk=>hp2 k hk i (by simp)
   have inj:∀ a∈l,∀ b∈l,ph α β (P a)=ph α β (P b)→a=b:=by
    intro a ha b hb hab
    obtain ⟨m,hm,rfl⟩:=List.getElem_of_mem ha
    obtain ⟨n,hn,rfl⟩:=List.getElem_of_mem hb
    rw [List.pairwise_iff_getElem] at hp1
    rcases Nat.lt_trichotomy m n with c | c | c
    ·have:=hp1 m n hm hn c;omega
    ·subst c;rfl
    ·have:=hp1 n m hn hm c;omega
   have top:∀ t r,Lu P l=t::r→∀ k∈l,ph α β (P k)≤ph α β (P t):=by
    intro t r ht k hk
    rw [ht] at h3
    have h3:some t=l.getLast?:=h3
    obtain ⟨q,rfl⟩:∃ q,l=q++[t]:=by
     obtain ⟨q,hq⟩:=List.getLast?_eq_some_iff.1 h3.symm
     exact ⟨q,hq⟩
    rcases List.mem_append.1 hk with g | g
    ·have:=(List.pairwise_append.1 hp1).2.2 k g t (by simp);omega
    ·rw [List.mem_singleton] at g;subst g;omega
   have hc:=Ai5 h2 inj hlt top
   rw [Aao]
   refine ⟨f,?_,⟨fun x hx=>?_,hc.edge.imp fun a b=>Sup.congr fun x hx=>?_,hc.bot,fun k hk=>hc.low k ?_⟩,?_⟩
   ·obtain ⟨x,l',rfl⟩:=List.exists_cons_of_ne_nil e
    exact h1
   ·have:=hc.sub x hx
    simp only [List.mem_cons,List.mem_append,List.not_mem_nil,or_false] at this ⊢
    exact this.symm
   ·simp only [List.mem_cons,List.mem_append,List.not_mem_nil,or_false] at hx ⊢
    exact hx.symm
   ·simp only [List.mem_cons,List.mem_append,List.not_mem_nil,or_false] at hk ⊢
    exact hk.symm
   ·simp
end
end
section
variable {v:List Ab}
/-- b comes next behind a, counterclockwise. -/
structure Nx (v:List Ab) (a b:Int):Prop where
 ina:inN v.length a
 inb:inN v.length b
 ne:a≠b
 left:∀ k,inN v.length k→0 < crs (plV v a) (plV v b) (plV v k)∨(crs (plV v a) (plV v b) (plV v k)=0∧Box (plV v a) (plV v b) (plV v k))
 far:∀ k,inN v.length k→k≠a→k≠b→crs (plV v a) (plV v b) (plV v k)=0→¬ Box (plV v a) (plV v k) (plV v b)
theorem Sup.nx (hv:Ci v) {l:List Int} (hl:∀ k,inN v.length k→k∈l) {a b:Int} (ha:inN v.length a) (hb:inN v.length b) (h:Sup (plV v) lexA 1 l a b):Nx v a b:=by
 have hne:a≠b:=fun e=>by have:=h.1;rw [e] at this;omega
 have side:∀ k,inN v.length k→crs (plV v a) (plV v b) (plV v k)=0→¬ befP (plV v k) (plV v a)∧¬ befP (plV v b) (plV v k):=fun k hk h0=>by
  rcases h.2 k (hl k hk) with g | g
  ·omega
  ·rw [← Xd (hv.ok _ hk) (hv.ok _ ha),← Xd (hv.ok _ hb) (hv.ok _ hk)]
   omega
 refine ⟨ha,hb,hne,fun k hk=>?_,fun k hk n1 n2 h0=>?_⟩
 ·rcases h.2 k (hl k hk) with g | g
  ·exact .inl g
  ·exact .inr ⟨g.1,Abn g.1 (side k hk g.1).1 (side k hk g.1).2⟩
 ·obtain ⟨s1,s2⟩:=side k hk h0
  have n3:=Gl hv hk hb n2
  refine Aod (by rw [Un];omega) s1 ?_ (Gl hv ha hk (fun e=>n1 e.symm))
  unfold befP Bj at *
  omega
theorem Sup.nx' (hv:Ci v) {l:List Int} (hl:∀ k,inN v.length k→k∈l) {a b:Int} (ha:inN v.length a) (hb:inN v.length b) (h:Sup (plV v) (-lexA) (-1) l a b):Nx v a b:=by
 have hne:a≠b:=fun e=>by have:=h.1;rw [e] at this;omega
 have side:∀ k,inN v.length k→crs (plV v a) (plV v b) (plV v k)=0→¬ befP (plV v a) (plV v k)∧¬ befP (plV v k) (plV v b):=fun k hk h0=>by
  rcases h.2 k (hl k hk) with g | g
  ·omega
  ·rw [← Acl (hv.ok _ hk) (hv.ok _ ha),← Acl (hv.ok _ hb) (hv.ok _ hk)]
   omega
 refine ⟨ha,hb,hne,fun k hk=>?_,fun k hk n1 n2 h0=>?_⟩
 ·rcases h.2 k (hl k hk) with g | g
  ·exact .inl g
  ·exact .inr ⟨g.1,(Abn (by rw [Aw,g.1];rfl) (side k hk g.1).2 (side k hk g.1).1).swap⟩
 ·obtain ⟨s1,s2⟩:=side k hk h0
  have n3:=Gl hv hk hb n2
  refine Aqz (by rw [Un];omega) s1 ?_ (Gl hv ha hk (fun e=>n1 e.symm))
  unfold befP Bj at *
  omega
theorem Aed (hv:Ci v) (hn:v.length≤1024) {a b:Int} (h:Nx v a b):Fa v a true=some b:=by
 have hb:=h.inb
 unfold Fa
 rw [jn_d]
 have:=Cx (B:=Gr v a true) (fun s=>v.length-s.2.toNat)
  (fun s=>0≤s.2∧s.2≤(v.length:Int)∧(s.1 = -1∨(inN v.length s.1∧s.1≠a∧s.1 < s.2))∧(b < s.2→s.1=b)) (fun t=>t=b) (fun s hs=>by
   obtain ⟨out,k⟩:=s
   obtain ⟨h1,h2,h3,h4⟩:=hs
   simp only at h1 h2 h3 h4
   unfold Gr
   dsimp only
   unfold inN at hb
   by_cases hk:k < (v.length:Int)
   ·left
    have hkn:inN v.length k:=⟨h1,hk⟩
    have w1:w64 (k+1)=k+1:=Bl (by omega) (by omega)
    rw [if_pos hk,jn_d]
    by_cases e1:k=a
    ·rw [if_pos e1,w1]
     have:=h.ne
     refine ⟨_,rfl,⟨by dsimp only;omega,by dsimp only;omega,?_,fun g=>?_⟩,by dsimp only;omega⟩
     ·rcases h3 with g | g
      ·exact .inl g
      ·exact .inr ⟨g.1,g.2.1,by dsimp only;omega⟩
     ·dsimp only at g ⊢
      exact h4 (by omega)
    ·rw [if_neg e1]
     by_cases e2:out < 0
     ·rw [if_pos e2,w1]
      refine ⟨_,rfl,⟨by dsimp only;omega,by dsimp only;omega,.inr ⟨hkn,e1,by dsimp only;omega⟩,fun g=>?_⟩,by dsimp only;omega⟩
      dsimp only at g ⊢
      by_cases c:b < k
      ·have:=h4 c;omega
      ·omega
     ·rw [if_neg e2]
      obtain ⟨g1,g2,g3⟩:inN v.length out∧out≠a∧out < k:=by
       rcases h3 with g | g
       ·omega
       ·exact g
      obtain ⟨ka,hka,ea,fa⟩:=Fv (v:=v) (i:=a) h.ina
      obtain ⟨ko,hko,eo,fo⟩:=Fv (v:=v) (i:=out) g1
      obtain ⟨kk,hkk,ek,fk⟩:=Fv (v:=v) (i:=k) hkn
      have pa:(⟨v[ka].X,v[ka].Y⟩:Ac)=plV v a:=by unfold plV;rw [fa]
      have po:(⟨v[ko].X,v[ko].Y⟩:Ac)=plV v out:=by unfold plV;rw [fo]
      have pk:(⟨v[kk].X,v[kk].Y⟩:Ac)=plV v k:=by unfold plV;rw [fk]
      rw [fa,Ae,fo,Ae,fk,Ae]
      unfold Aj
      rw [Ae,Ae,Ae]
      dsimp only
      rw [pa,po,pk,Jg (hv.ok _ h.ina) (hv.ok _ g1) (hv.ok _ hkn),Ae,jn_d,Uo (hv.ok _ h.ina) (hv.ok _ g1) (hv.ok _ hkn),w1]
      have sg:Int.sign (crs (plV v a) (plV v out) (plV v k)) < 0↔crs (plV v a) (plV v out) (plV v k) < 0:=Int.sign_neg_iff
      have s0:Int.sign (crs (plV v a) (plV v out) (plV v k))=0↔crs (plV v a) (plV v out) (plV v k)=0:=Int.sign_eq_zero_iff_zero
      have take:out≠b→∃ s',(some (.inl (k,k+1)):Option (Sum (Int × Int) Int))=some (.inl s')∧(0≤s'.2∧s'.2≤(v.length:Int)∧(s'.1 = -1∨(inN v.length s'.1∧s'.1≠a∧s'.1 < s'.2))∧(b < s'.2→s'.1=b))∧v.length-s'.2.toNat < v.length-k.toNat:=fun hx =>
       ⟨_,rfl,⟨by dsimp only;omega,by dsimp only;omega,.inr ⟨hkn,e1,by dsimp only;omega⟩,fun g=>by
        dsimp only at g ⊢
        by_cases c:b < k
        ·exact absurd (h4 c) hx
        ·omega⟩,by dsimp only;omega⟩
      have keep:k≠b→∃ s',(some (.inl (out,k+1)):Option (Sum (Int × Int) Int))=some (.inl s')∧(0≤s'.2∧s'.2≤(v.length:Int)∧(s'.1 = -1∨(inN v.length s'.1∧s'.1≠a∧s'.1 < s'.2))∧(b < s'.2→s'.1=b))∧v.length-s'.2.toNat < v.length-k.toNat:=fun hx =>
       ⟨_,rfl,⟨by dsimp only;omega,by dsimp only;omega,.inr ⟨g1,g2,by dsimp only;omega⟩,fun g=>by
        dsimp only at g ⊢
        exact h4 (by omega)⟩,by dsimp only;omega⟩
      by_cases c1:crs (plV v a) (plV v out) (plV v k) < 0
      ·rw [if_pos (sg.2 c1)]
       dsimp only
       rw [if_pos rfl]
       refine take fun e=>?_
       subst e
       rcases h.left k hkn with g | g <;> omega
      ·rw [if_neg (fun g=>c1 (sg.1 g))]
       by_cases c2:crs (plV v a) (plV v out) (plV v k)=0
       ·rw [if_pos (s0.2 c2),Ae]
        by_cases c3:Box (plV v a) (plV v out) (plV v k)
        ·rw [decide_eq_true ⟨c2,c3⟩]
         refine keep fun e=>?_
         rw [e] at c2 c3 g3
         exact h.far out g1 g2 (by omega) (by rw [Un];omega) c3
        ·rw [decide_eq_false (fun g=>c3 g.2)]
         refine take fun e=>?_
         subst e
         rcases h.left k hkn with g | g
         ·omega
         ·exact c3 g.2
       ·rw [if_neg (fun g=>c2 (s0.1 g))]
        refine keep fun e=>?_
        rw [e,Un] at c1 c2
        rcases h.left out g1 with g | g <;> omega
   ·right
    rw [if_neg hk]
    refine ⟨_,rfl,?_⟩
    exact h4 (by omega)) (-1,0) ⟨by simp,by simp,.inl rfl,fun g=>by unfold inN at hb;simp only at g;omega⟩
 obtain ⟨t,ht,rfl⟩:=this
 rw [ht,Ae]
end
section
variable {v:List Ab}
def Le (Q:Int→Int→Prop):List Int→Prop
 | a::b::r=>Q a b∧Le Q (b::r)
 | _=>True
theorem Acw {Q:Int→Int→Prop}:∀ {X:List Int} {g:Int} {Y:List Int},Le Q (X++[g])→Le Q (g::Y)→Le Q (X++g::Y):=by
 intro X
 induction X with
 | nil=>intro g Y _ h;exact h
 | cons x X ih =>
  intro g Y h1 h2
  cases X with
  | nil=>exact ⟨h1.1,h2⟩
  | cons y X=>exact ⟨h1.1,ih h1.2 h2⟩
theorem Vs {Q:Int→Int→Prop}:∀ {s:List Int},Wq Q s→Le Q s.reverse:=by
 intro s
 induction s with
 | nil=>intro _;trivial
 | cons t s ih =>
  intro h
  cases s with
  | nil=>trivial
  | cons a r =>
   have:=ih h.2
   rw [List.reverse_cons] at this ⊢
   rw [List.reverse_cons,List.append_assoc]
   exact Acw this ⟨h.1,trivial⟩
theorem Vt {Q R:Int→Int→Prop}:∀ {s:List Int},(∀ a b,a∈s→b∈s→Q a b→R a b)→Le Q s→Le R s:=by
 intro s
 induction s with
 | nil=>intro _ _;trivial
 | cons t s ih =>
  intro h g
  cases s with
  | nil=>trivial
  | cons a r=>exact ⟨h _ _ (by simp) (by simp) g.1,ih (fun a b ha hb=>h a b (List.mem_cons_of_mem _ ha) (List.mem_cons_of_mem _ hb)) g.2⟩
theorem Al1 (hv:Ci v) (hn:v.length≤1024) {f:Int}:∀ (rest acc:List Int),acc.length+rest.length≤100000→(∀ y∈rest,y≠f)→Le (Nx v) (rest++[f])→lfix (Cg f v) (acc,(rest++[f]).headD f)=some (acc++rest):=by
 intro rest
 induction rest with
 | nil =>
  intro acc _ _ _
  have hst:Cg f v (acc,f)=some (.inr acc):=by
   unfold Cg
   dsimp only
   rw [if_pos rfl]
  show lfix (Cg f v) (acc,f)=_
  rw [By,hst,List.append_nil]
 | cons y rest ih =>
  intro acc hl hne hk
  rw [List.length_cons] at hl
  have hnx:Nx v y ((rest++[f]).headD f)∧Le (Nx v) (rest++[f]):=by
   cases rest with
   | nil=>exact ⟨hk.1,trivial⟩
   | cons z r=>exact ⟨hk.1,hk.2⟩
  have hst:Cg f v (acc,y)=some (.inl (acc++[y],(rest++[f]).headD f)):=by
   unfold Cg
   dsimp only
   rw [if_neg (hne y (by simp)),gd_t (by omega),Aed hv hn hnx.1,Ae]
  have:=ih (acc++[y]) (by rw [List.length_append,List.length_singleton];omega) (fun z hz=>hne z (List.mem_cons_of_mem _ hz)) hnx.2
  rw [List.append_assoc] at this
  show lfix (Cg f v) (acc,y)=_
  rw [By,hst]
  exact this
theorem Zq {P:Int→Ac} {α β:Int} {D:List Int}:∀ {r:List Int} {t:Int},Wq (Sup P α β D) (t::r)→∀ y∈r,ph α β (P y) < ph α β (P t):=by
 intro r
 induction r with
 | nil=>intro t _ y hy;cases hy
 | cons a r ih =>
  intro t h y hy
  have h1:=h.1.1
  rcases List.mem_cons.1 hy with rfl | hy
  ·exact h1
  ·have:=ih h.2 y hy;omega
theorem Al2 {P:Int→Ac} {α β:Int} {D:List Int} {f:Int}:∀ {r:List Int},Wq (Sup P α β D) (r++[f])→∀ y∈r,ph α β (P f) < ph α β (P y):=by
 intro r
 induction r with
 | nil=>intro _ y hy;cases hy
 | cons t r ih =>
  intro h y hy
  rcases List.mem_cons.1 hy with rfl | hy
  ·exact Zq h f (by simp)
  ·refine ih ?_ y hy
   cases r with
   | nil=>trivial
   | cons a r=>exact h.2
/-- The walk along both chains. -/
theorem Agy (hv:Ci v) {l:List Int} (hr:Ko v l) (h2:2≤l.length):∃ f g X Y,(Lu (plV v) l).reverse=f::X++[g]∧(Lu (plV v) l.reverse).reverse=g::Y++[f]∧Le (Nx v) (f::X++g::Y++[f])∧(∀ y∈X++g::Y,y≠f)∧(∀ y∈X,y≠g)∧inN v.length f∧(∀ k,inN v.length k→k=f∨befP (plV v f) (plV v k))∧inN v.length g∧(∀ k,inN v.length k→k=g∨befP (plV v k) (plV v g)):=by
 have hlen:=hr.len
 have hord:l.Pairwise fun i j=>ph lexA 1 (plV v i) < ph lexA 1 (plV v j):=by
  refine hr.ord.imp_of_mem fun {a b} ha hb h=>?_
  exact (Xd (hv.ok _ (hr.val.1 ha)) (hv.ok _ (hr.val.1 hb))).2 h
 have hord':l.reverse.Pairwise fun i j=>ph (-lexA) (-1) (plV v i) < ph (-lexA) (-1) (plV v j):=by
  rw [List.pairwise_reverse]
  refine hr.ord.imp_of_mem fun {a b} ha hb h=>?_
  exact (Acl (hv.ok _ (hr.val.1 hb)) (hv.ok _ (hr.val.1 ha))).2 h
 have hne:l≠[]:=by rintro rfl;simp at h2
 obtain ⟨f,a1,a2,a3⟩:=Ym l hord hne
 obtain ⟨g,b1,b2,b3⟩:=Ym l.reverse hord' (by simpa using hne)
 rw [List.head?_reverse] at b1
 rw [List.getLast?_reverse,a1] at b3
 rw [b1] at a3
 have hfl:f∈l:=List.mem_of_mem_head? a1
 have hgl:g∈l:=List.mem_of_getLast? b1
 have hf:=hr.val.1 hfl
 have hg:=hr.val.1 hgl
 have lowf:∀ k,inN v.length k→k=f∨befP (plV v f) (plV v k):=fun k hk=>by
  rcases a2.low k (hr.val.2 hk) with e | e
  ·exact .inl e
  ·exact .inr ((Xd (hv.ok _ hf) (hv.ok _ hk)).1 e)
 have lowg:∀ k,inN v.length k→k=g∨befP (plV v k) (plV v g):=fun k hk=>by
  rcases b2.low k (List.mem_reverse.2 (hr.val.2 hk)) with e | e
  ·exact .inl e
  ·exact .inr ((Acl (hv.ok _ hg) (hv.ok _ hk)).1 e)
 have hfg:f≠g:=by
  rintro rfl
  have h01:=hr.lt (a:=0) (b:=1) (by omega) (by omega) (by omega)
  have k0:=hr.val.1 (List.getElem_mem (show 0 < l.length by omega))
  have k1:=hr.val.1 (List.getElem_mem (show 1 < l.length by omega))
  have q0:=lowf _ k0
  have q1:=lowg _ k0
  have r0:=lowf _ k1
  have r1:=lowg _ k1
  have i0:∀ p:Ac,¬ befP p p:=fun p=>by unfold befP;omega
  have i1:∀ p q:Ac,befP p q→¬ befP q p:=fun p q=>by unfold befP;omega
  rcases q0 with e | e
  ·rcases r0 with e' | e'
   ·rw [e,e'] at h01;exact i0 _ h01
   ·rcases r1 with e2 | e2
    ·rw [e2] at e';exact i0 _ e'
    ·exact i1 _ _ e' e2
  ·rcases q1 with e2 | e2
   ·rw [e2] at e;exact i0 _ e
   ·exact i1 _ _ e e2
 obtain ⟨r,hr1⟩:=a2.bot
 obtain ⟨r',hr2⟩:=b2.bot
 obtain ⟨m,rfl⟩:∃ m,r=g::m:=by
  cases r with
  | nil=>rw [hr1] at a3;simp at a3;exact absurd a3 hfg
  | cons x m=>rw [hr1] at a3;simp at a3;exact ⟨m,by rw [a3]⟩
 obtain ⟨m',rfl⟩:∃ m,r'=f::m:=by
  cases r' with
  | nil=>rw [hr2] at b3;simp at b3;exact absurd b3.symm hfg
  | cons x m=>rw [hr2] at b3;simp at b3;exact ⟨m,by rw [b3]⟩
 have e1:(Lu (plV v) l).reverse=f::m.reverse++[g]:=by rw [hr1];simp
 have e2:(Lu (plV v) l.reverse).reverse=g::m'.reverse++[f]:=by rw [hr2];simp
 have L1:=Vs a2.edge
 have L2:=Vs b2.edge
 have N1:Le (Nx v) (f::m.reverse++[g]):=by
  rw [← e1]
  refine Vt (fun a b ha hb h=>Sup.nx hv (fun k hk=>hr.val.2 hk) (hr.val.1 (a2.sub a (List.mem_reverse.1 ha))) (hr.val.1 (a2.sub b (List.mem_reverse.1 hb))) h) L1
 have N2:Le (Nx v) (g::m'.reverse++[f]):=by
  rw [← e2]
  refine Vt (fun a b ha hb h=>Sup.nx' hv (fun k hk=>List.mem_reverse.2 (hr.val.2 hk)) (hr.val.1 (List.mem_reverse.1 (b2.sub a (List.mem_reverse.1 ha)))) (hr.val.1 (List.mem_reverse.1 (b2.sub b (List.mem_reverse.1 hb)))) h) L2
 refine ⟨f,g,m.reverse,m'.reverse,e1,e2,?_,fun y hy=>?_,fun y hy=>?_,hf,lowf,hg,lowg⟩
 ·have:=Acw (X:=f::m.reverse) (g:=g) (Y:=m'.reverse++[f]) N1 N2
  simpa using this
 ·rintro rfl
  rcases List.mem_append.1 hy with hy | hy
  ·have E:=a2.edge
   rw [hr1] at E
   have:=Al2 E y (by simp at hy ⊢;exact .inr hy)
   omega
  ·rcases List.mem_cons.1 hy with e | hy
   ·exact hfg e
   ·have E:=b2.edge
    rw [hr2] at E
    have:=Zq E y (by simp at hy ⊢;exact .inl hy)
    omega
 ·rintro rfl
  have E:=a2.edge
  rw [hr1] at E
  have:=Zq E y (by simp at hy ⊢;exact .inl hy)
  omega
end
end Go.Proofs.YtgfiafnelibjgaaGreat
/- The area of a mesh is that of the hull. -/
namespace Go.Proofs.YtgfiafnelibjgaaGreat
open Go Go.RowKit
/-! ### sums -/
section
variable {α γ:Type}
def tot (f:α→Int):List α→Int
 | []=>0
 | x::r=>f x+tot f r
theorem Xf (f:α→Int):∀ l l':List α,tot f (l++l')=tot f l+tot f l'
 | [],l'=>by simp [tot]
 | x::r,l'=>by simp only [List.cons_append,tot,Xf f r l'];omega
theorem Aov {f:α→Int} {l l':List α} (h:l.Perm l'):tot f l=tot f l':=by
 induction h with
 | nil=>rfl
 | cons x _ ih=>simp only [tot,ih]
 | swap x y l=>simp only [tot];omega
 | trans _ _ h1 h2=>rw [h1,h2]
theorem Aj6 (f:γ→Int) (g:α→γ):∀ l:List α,tot f (l.map g)=tot (fun x=>f (g x)) l
 | []=>rfl
 | x::r=>by simp only [List.map_cons,tot,Aj6 f g r]
theorem Qy (f:γ→Int) (g:α→List γ):∀ l:List α,tot f (l.flatMap g)=tot (fun x=>tot f (g x)) l
 | []=>rfl
 | x::r=>by rw [List.flatMap_cons,Xf];simp only [tot,Qy f g r]
theorem Sa {f g:α→Int}:∀ {l:List α},(∀ x∈l,f x=g x)→tot f l=tot g l
 | [],_=>rfl
 | x::r,h=>by simp only [tot];rw [h x (by simp),Sa (fun y hy=>h y (by simp [hy]))]
theorem Aj7 (f g:α→Int):∀ l:List α,tot (fun x=>f x+g x) l=tot f l+tot g l
 | []=>rfl
 | x::r=>by simp only [tot,Aj7 f g r];omega
theorem Aj8 (f g:α→Int):∀ l:List α,tot (fun x=>f x-g x) l=tot f l-tot g l
 | []=>rfl
 | x::r=>by simp only [tot,Aj8 f g r];omega
theorem Aj9 (f:α→Int):∀ l:List α,tot (fun x=>-f x) l = -tot f l
 | []=>rfl
 | x::r=>by simp only [tot,Aj9 f r];omega
theorem Aka (c:Int) (f:α→Int):∀ l:List α,tot (fun x=>c*f x) l=c*tot f l
 | []=>by simp [tot]
 | x::r=>by simp only [tot,Aka c f r];rw [Int.mul_add]
theorem Vu (f:α→Int) (p:α→Bool):∀ l:List α,tot f l=tot f (l.filter p)+tot f (l.filter fun x=>!p x)
 | []=>rfl
 | x::r=>by
  have ih:=Vu f p r
  by_cases c:p x=true
  ·rw [List.filter_cons_of_pos c,List.filter_cons_of_neg (by simp [c])]
   simp only [tot];omega
  ·rw [List.filter_cons_of_neg c,List.filter_cons_of_pos (by simp [c])]
   simp only [tot];omega
theorem Acx {p:α→Prop} [DecidablePred p]:∀ {l:List α},(∀ x∈l,¬ p x)→tot (fun x=>if p x then (1:Int) else 0) l=0
 | [],_=>rfl
 | x::r,h=>by simp only [tot];rw [if_neg (h x (by simp)),Acx (fun y hy=>h y (by simp [hy]))];rfl
theorem Akb {p:α→Prop} [DecidablePred p] {x:α}:∀ {l:List α},l.Nodup→x∈l→(∀ y∈l,p y↔y=x)→tot (fun x=>if p x then (1:Int) else 0) l=1
 | [],_,h,_=>by cases h
 | y::r,hn,hx,h=>by
  obtain ⟨n1,n2⟩:=List.nodup_cons.1 hn
  simp only [tot]
  by_cases e:y=x
  ·subst e
   rw [if_pos ((h y (by simp)).2 rfl),Acx (l:=r) (fun z hz g=>n1 ((h z (List.mem_cons_of_mem _ hz)).1 g ▸ hz))]
   rfl
  ·have hx':x∈r:=by
    rcases List.mem_cons.1 hx with e' | e'
    ·exact absurd e'.symm e
    ·exact e'
   rw [if_neg (fun g=>e ((h y (by simp)).1 g)),Akb n2 hx' (fun z hz=>h z (List.mem_cons_of_mem _ hz))]
   rfl
theorem Acy {f:α→Int}:∀ {l:List α},(∀ x∈l,0≤f x)→0≤tot f l
 | [],_=>by simp [tot]
 | x::r,h=>by simp only [tot];have:=h x (by simp);have:=Acy (fun y hy=>h y (List.mem_cons_of_mem x hy));omega
theorem Akc {p:α→Prop} [DecidablePred p] {x:α}:∀ {l:List α},x∈l→p x→0 < tot (fun x=>if p x then (1:Int) else 0) l
 | [],h,_=>by cases h
 | y::r,hx,h=>by
  have nn:∀ l:List α,0≤tot (fun x=>if p x then (1:Int) else 0) l:=fun l=>Acy fun y _=>by split <;> omega
  simp only [tot]
  rcases List.mem_cons.1 hx with e | e
  ·subst e;rw [if_pos h];have:=nn r;omega
  ·have:=Akc e h
   split <;> omega
theorem Aie {p:α→Prop} [DecidablePred p] {l:List α} (h:0 < tot (fun x=>if p x then (1:Int) else 0) l):∃ x∈l,p x:=by
 refine Classical.byContradiction fun n=>?_
 rw [Acx (fun x hx g=>n ⟨x,hx,g⟩)] at h
 omega
end
/-! ### chains -/
def xp (a b:Ac):Int:=a.X*b.Y-a.Y*b.X
theorem Aif (a b c:Ac):crs a b c=xp a b+xp b c+xp c a:=by unfold crs xp;grind
theorem Abp (a b:Ac):xp b a = -xp a b:=by unfold xp;grind
theorem Aq7 (a:Ac):xp a a=0:=by unfold xp;grind
section
variable {P:Int→Ac} {V:Int→Prop} {α β:Int}
/-- How far along a chain a place is. -/
def phiC (P:Int→Ac) (α β:Int):List Int→Int→Int
 | c::c' :: r,p=>if ph α β (P p) < ph α β (P c') then xp (P c) (P p) else xp (P c) (P c')+phiC P α β (c' :: r) p
 | _,_=>0
def clen (P:Int→Ac):List Int→Int
 | c::c' :: r=>xp (P c) (P c')+clen P (c' :: r)
 | _=>0
/-- An edge below all places. -/
def SupV (P:Int→Ac) (V:Int→Prop) (α β:Int) (a b:Int):Prop:=V a∧V b∧ph α β (P a) < ph α β (P b)∧∀ k,V k→0≤crs (P a) (P b) (P k)
theorem Zr {c:Int} {r:List Int} (h:Le (SupV P V α β) (c::r)):phiC P α β (c::r) c=0:=by
 cases r with
 | nil=>rfl
 | cons c' r =>
  unfold phiC
  rw [if_pos h.1.2.2.1,Aq7]
theorem Xg {g:Int}:∀ {r:List Int} {c:Int},Le (SupV P V α β) (c::r++[g])→ph α β (P c) < ph α β (P g)
 | [],c,h=>h.1.2.2.1
 | x::r,c,h=>by
  have h2:Le (SupV P V α β) (x::r++[g]):=h.2
  have:=Xg h2
  have:=h.1.2.2.1
  omega
theorem Acz {g:Int}:∀ {r:List Int} {c:Int},Le (SupV P V α β) (c::r++[g])→phiC P α β (c::r++[g]) g=clen P (c::r++[g])
 | [],c,h=>by
  show phiC P α β [c,g] g=clen P [c,g]
  unfold phiC clen
  rw [if_neg (by omega)]
  unfold phiC clen
  rfl
 | x::r,c,h=>by
  have h2:Le (SupV P V α β) (x::r++[g]):=h.2
  have l:=Xg h2
  have ih:=Acz h2
  show phiC P α β (c::x::(r++[g])) g=clen P (c::x::(r++[g]))
  unfold phiC clen
  rw [if_neg (by omega)]
  have ih':phiC P α β (x::(r++[g])) g=clen P (x::(r++[g])):=ih
  rw [ih']
/-- A side of the border lies on an edge of the chain. -/
theorem Aq8 {c c' i j:Int} (hs:SupV P V α β c c') (hi:V i) (hj:V j) (hne:∀ a b,V a→V b→Bj (P a) (P b)→a=b) (h1:ph α β (P c)≤ph α β (P i)) (h2:ph α β (P i) < ph α β (P c')) (h3:ph α β (P i) < ph α β (P j)) (hb:∀ k,V k→0≤crs (P i) (P j) (P k))
  (hf:∀ k,V k→crs (P i) (P j) (P k)=0→ph α β (P i) < ph α β (P k)→ph α β (P k) < ph α β (P j)→False):crs (P c) (P i) (P j)=0∧ph α β (P j)≤ph α β (P c'):=by
 obtain ⟨vc,vc',hlt,hk⟩:=hs
 have id:=Za α β (P i) (P c) (P c') (P j)
 have a1:=hb c vc
 have a2:=hb c' vc'
 have a3:=hk i hi
 have a4:=hk j hj
 have e1:crs (P i) (P c') (P j) = -crs (P i) (P j) (P c'):=Ax _ _ _
 have e2:crs (P i) (P c) (P c')=crs (P c) (P c') (P i):=by unfold crs;grind
 rw [e1,e2] at id
 have t1:=Int.mul_nonneg (show 0≤ph α β (P i)-ph α β (P c) by omega) a2
 have t2:=Int.mul_nonneg (show 0≤ph α β (P c')-ph α β (P i) by omega) a1
 have t3:=Int.mul_nonneg (show 0≤ph α β (P j)-ph α β (P i) by omega) a3
 have e3:(ph α β (P c)-ph α β (P i)) * -crs (P i) (P j) (P c')=(ph α β (P i)-ph α β (P c))*crs (P i) (P j) (P c'):=by grind
 rw [e3] at id
 have z1:crs (P i) (P j) (P c)=0:=by
  rcases Int.mul_eq_zero.1 (show (ph α β (P c')-ph α β (P i))*crs (P i) (P j) (P c)=0 by omega) with g | g
  ·omega
  ·exact g
 have z3:crs (P c) (P c') (P i)=0:=by
  rcases Int.mul_eq_zero.1 (show (ph α β (P j)-ph α β (P i))*crs (P c) (P c') (P i)=0 by omega) with g | g
  ·omega
  ·exact g
 have hc:crs (P c) (P i) (P j)=0:=by
  have:crs (P c) (P i) (P j)=crs (P i) (P j) (P c):=by unfold crs;grind
  omega
 refine ⟨hc,?_⟩
 rcases Int.lt_or_le (ph α β (P c')) (ph α β (P j)) with g | g
 ·exfalso
  refine hf c' vc' ?_ h2 g
  by_cases ec:i=c
  ·subst ec
   have:crs (P i) (P j) (P c') = -crs (P i) (P c') (P j):=Ax _ _ _
   omega
  ·refine Us (a:=P c) (b:=P i) (fun e=>ec (hne _ _ vc hi e).symm) (by unfold crs;grind) (by rw [hc]) ?_
   have:crs (P c) (P i) (P c') = -crs (P c) (P c') (P i):=Ax _ _ _
   omega
 ·exact g
theorem Agz {i j:Int} (hi:V i) (hj:V j) (hne:∀ a b,V a→V b→Bj (P a) (P b)→a=b) (hph:∀ a b,V a→V b→ph α β (P a)=ph α β (P b)→a=b) (h3:ph α β (P i) < ph α β (P j)) (hb:∀ k,V k→0≤crs (P i) (P j) (P k))
  (hf:∀ k,V k→crs (P i) (P j) (P k)=0→ph α β (P i) < ph α β (P k)→ph α β (P k) < ph α β (P j)→False) {g:Int} (hg:ph α β (P j)≤ph α β (P g)) :
  ∀ {r:List Int} {c:Int},Le (SupV P V α β) (c::r++[g])→ph α β (P c)≤ph α β (P i)→phiC P α β (c::r++[g]) j-phiC P α β (c::r++[g]) i=xp (P i) (P j):=by
 have step:∀ {c c':Int} {r:List Int},Le (SupV P V α β) (c::c' :: r)→ph α β (P c)≤ph α β (P i)→ph α β (P i) < ph α β (P c')→phiC P α β (c::c' :: r) j-phiC P α β (c::c' :: r) i=xp (P i) (P j):=fun {c c' r} h hc c1=>by
  obtain ⟨k1,k2⟩:=Aq8 h.1 hi hj hne hc c1 h3 hb hf
  have e:=Aif (P c) (P i) (P j)
  have e':=Abp (P j) (P c)
  unfold phiC
  rw [if_pos c1]
  by_cases c2:ph α β (P j) < ph α β (P c')
  ·rw [if_pos c2];omega
  ·have:j=c':=hph _ _ hj h.1.2.1 (by omega)
   subst this
   rw [if_neg c2,Zr h.2];omega
 intro r
 induction r with
 | nil =>
  intro c h hc
  have:=h.1.2.2.1
  exact step (c':=g) (r:=[]) h hc (by omega)
 | cons x r ih =>
  intro c h hc
  by_cases c1:ph α β (P i) < ph α β (P x)
  ·exact step (c':=x) (r:=r++[g]) h hc c1
  ·have:=ih (c:=x) h.2 (by omega)
   show phiC P α β (c::x::(r++[g])) j-phiC P α β (c::x::(r++[g])) i=_
   unfold phiC
   rw [if_neg c1,if_neg (by omega)]
   have e:phiC P α β (x::(r++[g])) j-phiC P α β (x::(r++[g])) i=xp (P i) (P j):=this
   omega
/-- Two sides of the border that meet and leave to the same side, with a place on the other: all lie on one line. -/
theorem Asg {p x y d:Int} (vx:V x) (vd:V d) (h1:ph α β (P p) < ph α β (P x)) (h2:ph α β (P p) < ph α β (P y)) (h3:ph α β (P d) < ph α β (P p)) (hx:∀ k,V k→0≤crs (P x) (P p) (P k)) (hy:∀ k,V k→0≤crs (P p) (P y) (P k)):∀ k,V k→crs (P p) (P y) (P k)=0:=by
 have rot:∀ k,crs (P p) (P k) (P x)=crs (P x) (P p) (P k):=fun k=>by unfold crs;grind
 have id:=Za α β (P p) (P x) (P y) (P d)
 have e1:crs (P p) (P x) (P y) = -crs (P p) (P y) (P x):=Ax _ _ _
 rw [rot,e1] at id
 have a1:=Int.mul_nonneg (show 0≤ph α β (P x)-ph α β (P p) by omega) (hy d vd)
 have a2:=Int.mul_nonneg (show 0≤ph α β (P y)-ph α β (P p) by omega) (hx d vd)
 have a3:=Int.mul_nonneg (show 0≤ph α β (P p)-ph α β (P d) by omega) (hy x vx)
 have e3:(ph α β (P d)-ph α β (P p)) * -crs (P p) (P y) (P x)=(ph α β (P p)-ph α β (P d))*crs (P p) (P y) (P x):=by grind
 rw [e3] at id
 have z:crs (P p) (P y) (P x)=0:=by
  rcases Int.mul_eq_zero.1 (show (ph α β (P p)-ph α β (P d))*crs (P p) (P y) (P x)=0 by omega) with g | g
  ·omega
  ·exact g
 intro k hk
 have id:=Za α β (P p) (P x) (P y) (P k)
 rw [rot,e1,z] at id
 have b1:=Int.mul_nonneg (show 0≤ph α β (P x)-ph α β (P p) by omega) (hy k hk)
 have b2:=Int.mul_nonneg (show 0≤ph α β (P y)-ph α β (P p) by omega) (hx k hk)
 rw [Int.neg_zero,Int.mul_zero] at id
 rcases Int.mul_eq_zero.1 (show (ph α β (P x)-ph α β (P p))*crs (P p) (P y) (P k)=0 by omega) with g | g
 ·omega
 ·exact g
theorem fork {i j z:Int} (vj:V j) (vz:V z) (h1:ph α β (P j) < ph α β (P i)) (h2:ph α β (P i) < ph α β (P z)) (hj:∀ k,V k→0≤crs (P i) (P j) (P k)) (hz:∀ k,V k→0≤crs (P i) (P z) (P k)):∀ k,V k→crs (P i) (P j) (P k)=0:=by
 have e0:crs (P i) (P z) (P j) = -crs (P i) (P j) (P z):=Ax _ _ _
 have a:=hj z vz
 have b:=hz j vj
 intro k hk
 have id:=Za α β (P i) (P z) (P j) (P k)
 have e1:crs (P i) (P k) (P z) = -crs (P i) (P z) (P k):=Ax _ _ _
 rw [e1,show crs (P i) (P z) (P j)=0 by omega,Int.mul_zero] at id
 have b1:=Int.mul_nonneg (show 0≤ph α β (P z)-ph α β (P i) by omega) (hj k hk)
 have b2:=Int.mul_nonneg (show 0≤ph α β (P i)-ph α β (P j) by omega) (hz k hk)
 have e3:(ph α β (P j)-ph α β (P i)) * -crs (P i) (P z) (P k)=(ph α β (P i)-ph α β (P j))*crs (P i) (P z) (P k):=by grind
 rw [e3] at id
 rcases Int.mul_eq_zero.1 (show (ph α β (P z)-ph α β (P i))*crs (P i) (P j) (P k)=0 by omega) with g | g
 ·omega
 ·exact g
end
end Go.Proofs.YtgfiafnelibjgaaGreat
