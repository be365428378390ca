/- The vertices in the order of places; triangles put around one more place. -/
import Derived.Test.YtjfndjmabhbicaaGreatL4
namespace Go.Proofs.YtjfndjmabhbicaaGreat
open Go Go.RowKit
theorem Zq {σ τ:Type} {B:σ->Option (Sum σ τ)} (st:Nat->σ) (t:τ):∀ (N:Nat),(∀ k,k < N->B (st k)=some (.inl (st (k+1))))->B (st N)=some (.inr t)->lfix B (st 0)=some t:=by
 intro N h he
 have key:∀ j k,j+k=N->lfix B (st k)=some t:=by
  intro j
  induction j with
  | zero=>
   intro k hk
   rw[Bk,show k=N by omega,he]
  | succ j ih=>
   intro k hk
   rw[Bk,h k (by omega)]
   exact ih (k+1) (by omega)
 exact key N 0 (by omega)
theorem Aut {v:List Ab} {i j:Nat} (hi:i < v.length) (hj:j < v.length):befV v[i] v[j]↔befP (plV v (i:Int)) (plV v (j:Int)):=by
 unfold plV
 rw[Bb hi,Bb hj]
 rfl
theorem Af5 {v:List Ab} (hv:Bu v):Fj v:=by
 unfold Fj
 rw[List.pairwise_iff_getElem]
 intro i j hi hj hij hs
 have:=hv.dist (i:Int) (j:Int) ⟨by omega,by omega⟩ ⟨by omega,by omega⟩ (by
  unfold plV Bt
  rw[Bb hi,Bb hj]
  exact hs)
 omega
structure Nv (v:List Ab) (l:List Int):Prop where
 perm:l.Perm (inds v.length)
 ord:l.Pairwise fun i j=>befP (plV v i) (plV v j)
theorem Ad8 {v:List Ab} (hv:Bu v) (hn:v.length<=1024):∃ l,Rk v=some l/\Nv v l:=by
 have hd:=Af5 hv
 have h0:lfix (Pr v) (([]:List Int),0)=some (inds v.length):=by
  refine Zq (fun k=>(inds k,(k:Int))) _ v.length (fun k hk=>?_) ?_
  ·unfold Pr
   rw[if_pos (by simp only;omega),gd_t (by simp only[Tk];omega),Be (by omega)]
   unfold inds
   rw[List.range_succ,List.map_append]
   rfl
  ·unfold Pr
   rw[if_neg (by simp only;omega)]
 have hok:∀ x∈inds v.length,okIx v x:=fun x hx=>Le.1 hx
 refine ⟨Au (cmpR v) (inds v.length),?_,Cz _ _,?_⟩
 ·unfold Rk
  rw[jn_d,h0,Ad]
  exact gd_t ⟨by rw[Tk];omega,hok,hd⟩
 ·have hs:=Jb (totR hd) hok
  have hp:=Cz (cmpR v) (inds v.length)
  have hnd:(Au (cmpR v) (inds v.length)).Nodup:=(hp.nodup_iff).2 Ok
  unfold List.Nodup at hnd
  have:=hs.and hnd
  refine List.Pairwise.imp_of_mem ?_ this
  rintro i j hi hj ⟨h1,h2⟩
  obtain ⟨a,ha,rfl,_⟩:=Ik (hok i (hp.mem_iff.1 hi))
  obtain ⟨b,hb,rfl,_⟩:=Ik (hok j (hp.mem_iff.1 hj))
  rw[<- Aut ha hb]
  by_cases c:befV v[a] v[b]
  ·exact c
  ·rw[Sj hb ha] at h1
   exfalso
   apply h2
   have:=(totR hd).tot (a:Int) (b:Int) ⟨by omega,by omega⟩ ⟨by omega,by omega⟩ (by rw[Sj ha hb];exact c) (by rw[Sj hb ha];exact h1)
   exact this
noncomputable def putAll (m:Mp) (p:Int) (l:List Aa):Mp:=l.foldl (fun m s=>putM m s.a0 s.a1 p) m
theorem MapN.putAll {n:Nat} {p:Int} (hp:inN n p):∀ {l:List Aa} {m:Mp},MapN n m->(∀ s∈l,inN n s.a0/\inN n s.a1)->MapN n (putAll m p l)
 | [],_,h,_=>h
 | s::r,m,h,hs=>MapN.putAll hp (l:=r) (h.putM (hs s List.mem_cons_self).1 (hs s List.mem_cons_self).2 hp) fun x hx=>hs x (List.mem_cons_of_mem _ hx)
variable {P:Int->Ac} {V S:Int->Prop} {R:Int->Int->Prop} {p:Int}
theorem Agj {m:Mp} (hm:Dx m) (h:Adds P V S (apM m) R p):∀ (l:List Aa),(∀ s∈l,Vis P R p s.a0 s.a1)->Dx (putAll m p l) /\
  ∀ i j k,apM (putAll m p l) i j=some k↔apM m i j=some k\/((⟨i,j⟩∈l/\k=p)\/(⟨k,i⟩∈l/\j=p)\/(⟨j,k⟩∈l/\i=p)):=by
 intro l
 generalize hr:l.reverse=r
 have hl:l=r.reverse:=by rw[<- hr,List.reverse_reverse]
 clear hr
 subst hl
 induction r with
 | nil=>intro _;exact ⟨hm,fun i j k=>by simp[putAll]⟩
 | cons s r ih=>
  intro hs
  have hs':∀ x∈r.reverse,Vis P R p x.a0 x.a1:=fun x hx=>hs x (by simp at hx ⊢;exact .inl hx)
  have hv:=hs s (by simp)
  obtain ⟨i1,i2⟩:=ih hs'
  obtain ⟨sx,sy,nxy,_⟩:=h.r1 _ _ hv.1
  have np:=h.np
  have e:putAll m p (s::r).reverse=putM (putAll m p r.reverse) s.a0 s.a1 p:=by
   unfold putAll
   rw[List.reverse_cons,List.foldl_append]
   rfl
  rw[e]
  refine ⟨((i1.put _ _).put _ _).put _ _,fun i j k=>?_⟩
  rw[Yx i1]
  have visS:∀ {x y:Int},(⟨x,y⟩:Aa)∈r.reverse->Vis P R p x y:=fun hx=>hs' _ hx
  have k1:∀ c,apM (putAll m p r.reverse) p s.a0=some c->c=s.a1:=fun c hc=>by
   rcases (i2 _ _ _).1 hc with g | ⟨g,_⟩ | ⟨g,_⟩ | ⟨g,_⟩
   ·exact absurd (h.used _ _ _ g) np
   ·exact absurd (h.r1 _ _ (visS g).1).1 np
   ·exact absurd (h.r1 _ _ (visS g).1).2.1 np
   ·exact h.uniq2 (visS g) hv
  have k2:∀ c,apM (putAll m p r.reverse) s.a1 p=some c->c=s.a0:=fun c hc=>by
   rcases (i2 _ _ _).1 hc with g | ⟨g,_⟩ | ⟨g,_⟩ | ⟨g,e⟩
   ·exact absurd (h.used _ _ _ (h.tri.rot _ _ _ g)) np
   ·exact absurd (h.r1 _ _ (visS g).1).2.1 np
   ·exact h.uniq (visS g) hv
   ·exact absurd (e ▸ sy) np
  have k3:∀ c,apM (putAll m p r.reverse) s.a0 s.a1=some c->c=p:=fun c hc=>by
   rcases (i2 _ _ _).1 hc with g | ⟨_,g⟩ | ⟨_,e⟩ | ⟨_,e⟩
   ·rw[h.r4 _ _ hv.1] at g;cases g
   ·exact g
   ·exact absurd (e ▸ sy) np
   ·exact absurd (e ▸ sx) np
  have mem:∀ x y:Int,(⟨x,y⟩:Aa)∈(s::r).reverse↔(x=s.a0/\y=s.a1)\/(⟨x,y⟩:Aa)∈r.reverse:=fun x y=>by
   obtain ⟨s0,s1⟩:=s
   rw[List.reverse_cons,List.mem_append,List.mem_singleton,Id]
   exact Or.comm
  rw[mem,mem,mem]
  have i2':=i2 i j k
  by_cases c1:i=p/\j=s.a0
  ·rw[if_pos c1]
   obtain ⟨rfl,rfl⟩:=c1
   constructor
   ·intro hk
    cases hk
    exact .inr (.inr (.inr ⟨.inl ⟨rfl,rfl⟩,rfl⟩))
   ·rintro (g | ⟨⟨e1,_⟩ | g,e⟩ | ⟨⟨_,e2⟩ | g,e⟩ | ⟨⟨_,e2⟩ | g,_⟩)
    ·exact absurd (h.used _ _ _ g) np
    ·exact absurd (e1 ▸ sx) np
    ·exact absurd (h.r1 _ _ (visS g).1).1 np
    ·exact absurd (e2 ▸ sy) np
    ·exact absurd (h.r1 _ _ (visS g).1).2.1 np
    ·rw[e2]
    ·rw[h.uniq2 hv (visS g)]
  rw[if_neg c1]
  by_cases c2:i=s.a1/\j=p
  ·rw[if_pos c2]
   obtain ⟨rfl,rfl⟩:=c2
   constructor
   ·intro hk
    cases hk
    exact .inr (.inr (.inl ⟨.inl ⟨rfl,rfl⟩,rfl⟩))
   ·rintro (g | ⟨⟨_,e1⟩ | g,e⟩ | ⟨⟨e1,_⟩ | g,e⟩ | ⟨⟨e1,_⟩ | g,e⟩)
    ·exact absurd (h.used _ _ _ (h.tri.rot _ _ _ g)) np
    ·exact absurd (e1 ▸ sy) np
    ·exact absurd (h.r1 _ _ (visS g).1).2.1 np
    ·rw[e1]
    ·rw[h.uniq hv (visS g)]
    ·exact absurd (e ▸ sy) np
    ·exact absurd (e ▸ sy) np
  rw[if_neg c2]
  by_cases c3:i=s.a0/\j=s.a1
  ·rw[if_pos c3]
   obtain ⟨rfl,rfl⟩:=c3
   constructor
   ·intro hk
    cases hk
    exact .inr (.inl ⟨.inl ⟨rfl,rfl⟩,rfl⟩)
   ·rintro (g | ⟨_,e⟩ | ⟨_,e⟩ | ⟨_,e⟩)
    ·rw[h.r4 _ _ hv.1] at g;cases g
    ·rw[e]
    ·exact absurd (e ▸ sy) np
    ·exact absurd (e ▸ sx) np
  rw[if_neg c3,i2']
  constructor
  ·rintro (g | ⟨g,e⟩ | ⟨g,e⟩ | ⟨g,e⟩)
   ·exact .inl g
   ·exact .inr (.inl ⟨.inr g,e⟩)
   ·exact .inr (.inr (.inl ⟨.inr g,e⟩))
   ·exact .inr (.inr (.inr ⟨.inr g,e⟩))
  ·rintro (g | ⟨g | g,e⟩ | ⟨g | g,e⟩ | ⟨g | g,e⟩)
   ·exact .inl g
   ·exact absurd g c3
   ·exact .inr (.inl ⟨g,e⟩)
   ·exact absurd ⟨g.2,e⟩ c2
   ·exact .inr (.inr (.inl ⟨g,e⟩))
   ·exact absurd ⟨e,g.1⟩ c1
   ·exact .inr (.inr (.inr ⟨g,e⟩))
theorem Af6 {a b c q:Ac} (h1:befP a b) (h2:befP b c) (h0:crs a b c=0) (hq:crs a b q < 0):crs b c q < 0:=by
 have m:∀ x y z:Ac,crs ⟨x.X,-x.Y⟩ ⟨y.X,-y.Y⟩ ⟨z.X,-z.Y⟩ = -crs x y z:=fun x y z=>by unfold crs;grind
 have e1:crs b c q*(b.X-a.X)=crs a b q*(c.X-b.X)-(q.X-b.X)*crs a b c:=by unfold crs;grind
 have e2:crs b c q*(b.Y-a.Y)=crs a b q*(c.Y-b.Y)-(q.Y-b.Y)*crs a b c:=by unfold crs;grind
 have e3:(b.X-a.X)*(c.Y-b.Y)-(b.Y-a.Y)*(c.X-b.X)=crs a b c:=by unfold crs;grind
 rw[h0,Int.mul_zero,Int.sub_zero] at e1 e2
 rw[h0] at e3
 have fin:∀ x w z:Int,x*w=crs a b q*z->0 < w->0 < z->x < 0:=fun x w z e hw hz=>by
  have:=Int.mul_neg_of_neg_of_pos hq hz
  rcases Int.lt_or_le x 0 with k | k
  ·exact k
  ·have:=Int.mul_nonneg k (Int.le_of_lt hw);omega
 by_cases g:a.X < b.X
 ·have hc:b.X < c.X:=by
   rcases Int.lt_or_le b.X c.X with k | k
   ·exact k
   ·have hx:c.X=b.X:=by unfold befP at h2;omega
    have hy:b.Y < c.Y:=by unfold befP at h2;omega
    have z:c.X-b.X=0:=by omega
    rw[z,Int.mul_zero] at e3
    have:=Int.mul_pos (show 0 < b.X-a.X by omega) (show 0 < c.Y-b.Y by omega)
    omega
  exact fin _ _ _ e1 (by omega) (by omega)
 ·have hx:a.X=b.X:=by unfold befP at h1;omega
  have hy:a.Y < b.Y:=by unfold befP at h1;omega
  have hc:b.X=c.X:=by
   have z:b.X-a.X=0:=by omega
   rw[z,Int.zero_mul] at e3
   have:(b.Y-a.Y)*(c.X-b.X)=0:=by omega
   rcases Int.mul_eq_zero.1 this with k | k <;> omega
  have hy2:b.Y < c.Y:=by unfold befP at h2;omega
  exact fin _ _ _ e2 (by omega) (by omega)
section
variable {v:List Ab} {l:List Int}
theorem Nv.len (hr:Nv v l):l.length=v.length:=by rw[hr.perm.length_eq,Tk]
theorem Nv.val (hr:Nv v l) {i:Int}:i∈l↔inN v.length i:=by rw[hr.perm.mem_iff,Le]
theorem Nv.lt (hr:Nv v l) {a b:Nat} (ha:a < l.length) (hb:b < l.length) (h:a < b):befP (plV v l[a]) (plV v l[b]):=(List.pairwise_iff_getElem.1 hr.ord) a b ha hb h
theorem Nv.inj (hr:Nv v l) {a b:Nat} (ha:a < l.length) (hb:b < l.length) (h:l[a]=l[b]):a=b:=by
 rcases Nat.lt_trichotomy a b with c | c | c
 ·have:=hr.lt ha hb c
  rw[h] at this
  exact (Rl this this).elim
 ·exact c
 ·have:=hr.lt hb ha c
  rw[h] at this
  exact (Rl this this).elim
def Lx (l:List Int) (k:Nat) (i:Int):Prop:=∃ (j:Nat) (hj:j < l.length),j < k/\i=l[j]
structure Agk (v:List Ab) (l:List Int) (k:Nat) (m:Mp):Prop where
 map:MapN v.length m
 tri:Tri (plV v) (inN v.length) (apM m)
 cov:Cov (plV v) (Lx l k) (apM m)
 used:∀ i j c,apM m i j=some c->Lx l k i
theorem Lx.succ {k:Nat} (hk:k < l.length) {i:Int}:Lx l (k+1) i↔Lx l k i\/i=l[k]:=by
 constructor
 ·rintro ⟨j,hj,h1,rfl⟩
  by_cases e:j=k
  ·subst e;exact .inr rfl
  ·exact .inl ⟨j,hj,by omega,rfl⟩
 ·rintro (⟨j,hj,h1,rfl⟩ | rfl)
  ·exact ⟨j,hj,by omega,rfl⟩
  ·exact ⟨k,hk,by omega,rfl⟩
theorem Nv.place (hr:Nv v l) {k:Nat} (hk:k < l.length):(∀ i,Lx l k i->inN v.length i)/\inN v.length l[k]/\¬ Lx l k l[k]/\(∀ i,Lx l k i->befP (plV v i) (plV v l[k]))/\(∀ i,inN v.length i->¬ Lx l k i->i≠l[k]->befP (plV v l[k]) (plV v i)):=by
 refine ⟨fun i hi=>?_,hr.val.1 (List.getElem_mem hk),fun hp=>?_,fun i hi=>?_,fun i hi h1 h2=>?_⟩
 ·obtain ⟨j,hj,_,rfl⟩:=hi
  exact hr.val.1 (List.getElem_mem hj)
 ·obtain ⟨j,hj,h1,e⟩:=hp
  have:=hr.inj hk hj e
  omega
 ·obtain ⟨j,hj,h1,rfl⟩:=hi
  exact hr.lt hj hk h1
 ·obtain ⟨j,hj,rfl⟩:=List.getElem_of_mem (hr.val.2 hi)
  refine hr.lt hk hj ?_
  rcases Nat.lt_trichotomy j k with c | c | c
  ·exact absurd ⟨j,hj,c,rfl⟩ h1
  ·subst c;exact absurd rfl h2
  ·exact c
def visB (v:List Ab) (p:Int) (s:Aa):Bool:=decide (0 < crs (plV v s.a0) (plV v s.a1) (plV v p))
theorem Axz (hv:Bu v) (hn:v.length<=1024) {F:List (Aa × Bool)} {b:Ag} {rl:List Aa} {m:Mp} (hm:MapN v.length m) {p:Int} (hp:inN v.length p) (hrl:∀ s∈rl,inN v.length s.a0/\inN v.length s.a1) (hlen:rl.length<=2000000) :
  lfix (Df (b,rl) p) (v,m,F,0)=some (v,putAll m p (rl.filter (visB v p)),F):=by
 have hM:∀ k,MapN v.length (putAll m p ((rl.take k).filter (visB v p))):=fun k=>hm.putAll hp fun s hs=>hrl s (List.mem_of_mem_take (List.mem_filter.1 hs).1)
 have:=Zq (B:=Df (b,rl) p) (fun k=>(v,putAll m p ((rl.take k).filter (visB v p)),F,(k:Int))) (v,putAll m p (rl.filter (visB v p)),F) rl.length (fun k hk=>?_) ?_
 ·simpa[putAll] using this
 ·unfold Df
  have hs:=hrl rl[k] (List.getElem_mem hk)
  have e:(rl.take (k+1)).filter (visB v p)=(rl.take k).filter (visB v p)++if visB v p rl[k] then [rl[k]] else []:=by
   rw[List.take_succ_eq_append_getElem hk,List.filter_append,List.filter_cons,List.filter_nil]
  simp only
  rw[if_pos (by omega),jn_d,Bb hk,Ad,p_eq (b:=⟨v,_,F⟩) hs.1,Ad,p_eq (b:=⟨v,_,F⟩) hs.2,Ad,p_eq (b:=⟨v,_,F⟩) hp,Ad,Rq (hv.ok _ hs.1) (hv.ok _ hs.2) (hv.ok _ hp),Ad,Be (by omega),e]
  by_cases c:0 < crs (plV v rl[k].a0) (plV v rl[k].a1) (plV v p)
  ·rw[Int.sign_eq_one_of_pos c,if_pos (by omega),Af0 (b:=⟨v,putAll m p ((rl.take k).filter (visB v p)),F⟩) hn (hM k) hs.1 hs.2 hp,Ad,if_pos (by unfold visB;simpa using c)]
   dsimp only
   unfold putAll
   rw[List.foldl_append]
   rfl
  ·rw[if_neg (fun g=>c (by
    rcases Int.lt_trichotomy (crs (plV v rl[k].a0) (plV v rl[k].a1) (plV v p)) 0 with t | t | t
    ·rw[Int.sign_eq_neg_one_of_neg t] at g;omega
    ·rw[t] at g;simp at g
    ·exact t)),if_neg (by unfold visB;simpa using c),List.append_nil]
 ·unfold Df
  simp only
  rw[if_neg (by omega),List.take_length]
theorem Agk.step (hv:Bu v) (hn:v.length<=1024) (hr:Nv v l) {F:List (Aa × Bool)} {k:Nat} (hk:k < l.length) {m:Mp} (h:Agk v l k m) :
  ∃ m',(bnd (Hk ⟨v,m,F⟩) fun r498=>bnd (lfix (Df r498 l[k]) (r498.1.v,r498.1.apex,r498.1.fixed,0)) fun t=>some t)=some (v,m',F)/\Agk v l (k+1) m'/\(m≠[]->m'≠[]):=by
 obtain ⟨q1,q2,q3,q4,q5⟩:=hr.place hk
 have hA:=Arw h.tri h.cov h.used q1 q2 q3 q4 q5
 have hsq:=Zi hn
 have hl:=h.map.len
 have hf:∀ q,(rimF m q).length<=1:=fun q=>by unfold rimF;split <;> simp
 have hmem:∀ x y:Int,(⟨x,y⟩:Aa)∈m.flatMap (rimF m)↔Rim (apM m) x y:=fun x y=>by
  rw[List.mem_flatMap]
  constructor
  ·rintro ⟨q,hq,hx⟩
   unfold rimF at hx
   split at hx
   ·cases hx
   ·rename_i hn
    rw[List.mem_singleton] at hx
    obtain ⟨⟨a,b⟩,c⟩:=q
    unfold rev2 at hx hn
    rw[Id] at hx
    simp only at hx hn
    obtain ⟨rfl,rfl⟩:=hx
    refine ⟨⟨c,Mf h.map.ok hq⟩,?_⟩
    simpa[apM] using hn
  ·rintro ⟨⟨c,hc⟩,hn⟩
   refine ⟨(⟨y,x⟩,c),Ed hc,?_⟩
   unfold rimF rev2
   rw[if_neg (by rw[show mget m (⟨x,y⟩:Aa)=none from hn];simp)]
   exact List.mem_singleton.2 rfl
 have hrl:∀ s∈Au cmp2 (m.flatMap (rimF m)),inN v.length s.a0/\inN v.length s.a1:=fun s hs=>by
  rw[Ga] at hs
  obtain ⟨x,y⟩:=s
  obtain ⟨⟨c,hc⟩,_⟩:=(hmem x y).1 hs
  have:=h.map.val hc
  exact ⟨this.2.1,this.1⟩
 have hlen:(Au cmp2 (m.flatMap (rimF m))).length<=2000000:=by
  rw[Bo]
  have:=Hu hf m
  omega
 rw[Ax2 (b:=⟨v,m,F⟩) hn h.map,Ad]
 dsimp only
 rw[Axz hv hn h.map q2 hrl hlen,Ad]
 have hvis:∀ s∈(Au cmp2 (m.flatMap (rimF m))).filter (visB v l[k]),Vis (plV v) (Rim (apM m)) l[k] s.a0 s.a1:=fun s hs=>by
  obtain ⟨h1,h2⟩:=List.mem_filter.1 hs
  rw[Ga] at h1
  exact ⟨(hmem s.a0 s.a1).1 h1,by unfold visB at h2;simpa using h2⟩
 have hmv:∀ x y:Int,(⟨x,y⟩:Aa)∈(Au cmp2 (m.flatMap (rimF m))).filter (visB v l[k])↔Vis (plV v) (Rim (apM m)) l[k] x y:=fun x y=>by
  constructor
  ·exact fun hs=>hvis _ hs
  ·rintro ⟨h1,h2⟩
   exact List.mem_filter.2 ⟨Ga.2 ((hmem x y).2 h1),by unfold visB;simpa using h2⟩
 obtain ⟨o1,o2⟩:=Agj h.map.ok hA _ hvis
 have hN:∀ i j c,apM (putAll m l[k] ((Au cmp2 (m.flatMap (rimF m))).filter (visB v l[k]))) i j=some c↔apM m i j=some c\/New (plV v) (Rim (apM m)) l[k] i j c:=fun i j c=>by
  rw[o2,hmv,hmv,hmv]
  rfl
 refine ⟨_,rfl,⟨?_,hA.tri' hN,?_,?_⟩,fun hne=>?_⟩
 ·exact h.map.putAll q2 fun s hs=>hrl s (List.mem_filter.1 hs).1
 ·have:=hA.cov' hN h.cov
  intro i j c hc hn d hd
  exact this i j c hc hn d ((Lx.succ hk).1 hd)
 ·intro i j c hc
  exact (Lx.succ hk).2 (hA.used' hN i j c hc)
 ·obtain ⟨q,hq⟩:=List.exists_mem_of_ne_nil m hne
  intro e
  obtain ⟨⟨a,b⟩,c⟩:=q
  have hc:apM m a b=some c:=Mf h.map.ok hq
  have:=(hN a b c).2 (.inl hc)
  rw[e] at this
  cases this
end
def Xf (v:List Ab):Prop:=∀ i j k,inN v.length i->inN v.length j->inN v.length k->crs (plV v i) (plV v j) (plV v k)=0
section
variable {v:List Ab} {l:List Int}
theorem Bai (hv:Bu v) (hn:v.length<=1024) (hr:Nv v l) (b:Ag) (hb:b.v=v):∃ n0:Nat,lfix (Gy l b) 2=some (n0:Int)/\2<=n0/\(∀ k,2<=k->k < n0->∃ (h0:0 < l.length) (h1:1 < l.length) (hk:k < l.length),crs (plV v l[0]) (plV v l[1]) (plV v l[k])=0) /\
  (∀ (h0:0 < l.length) (h1:1 < l.length) (hk:n0 < l.length),crs (plV v l[0]) (plV v l[1]) (plV v l[n0])≠0)/\(n0<=l.length\/n0=2):=by
 have hlen:=hr.len
 have:=Bl (B:=Gy l b) (fun s=>l.length-s.toNat) (fun s=>∃ k:Nat,s=(k:Int)/\2<=k/\(k<=l.length\/k=2)/\∀ j,2<=j->j < k->∃ (h0:0 < l.length) (h1:1 < l.length) (hk:j < l.length),crs (plV v l[0]) (plV v l[1]) (plV v l[j])=0)
  (fun t=>∃ n0:Nat,t=(n0:Int)/\2<=n0/\(∀ k,2<=k->k < n0->∃ (h0:0 < l.length) (h1:1 < l.length) (hk:k < l.length),crs (plV v l[0]) (plV v l[1]) (plV v l[k])=0) /\
   (∀ (h0:0 < l.length) (h1:1 < l.length) (hk:n0 < l.length),crs (plV v l[0]) (plV v l[1]) (plV v l[n0])≠0)/\(n0<=l.length\/n0=2)) (fun s hs=>by
   obtain ⟨k,rfl,h2,h3,h4⟩:=hs
   unfold Gy
   rw[jn_d]
   by_cases c:k < l.length
   ·have h0:0 < l.length:=by omega
    have h1:1 < l.length:=by omega
    have i0:idx l 0=some l[0]:=Bb (j:=0) h0
    have i1:idx l 1=some l[1]:=Bb (j:=1) h1
    have v0:=hr.val.1 (List.getElem_mem h0)
    have v1:=hr.val.1 (List.getElem_mem h1)
    have vk:=hr.val.1 (List.getElem_mem c)
    rw[<- hb] at v0 v1 vk
    rw[if_pos (by omega),i0,Ad,i1,Ad,Bb c,Ad,p_eq v0,Ad,p_eq v1,Ad,p_eq vk,Ad,hb]
    rw[hb] at v0 v1 vk
    rw[Rq (hv.ok _ v0) (hv.ok _ v1) (hv.ok _ vk),Ad]
    by_cases z:crs (plV v l[0]) (plV v l[1]) (plV v l[k])=0
    ·left
     rw[decide_eq_true (by rw[z];rfl)]
     refine ⟨((k+1:Nat):Int),?_,⟨k+1,rfl,by omega,.inl (by omega),fun j hj hjk=>?_⟩,by omega⟩
     ·dsimp only
      rw[if_pos rfl,Be (by omega)]
     ·by_cases e:j=k
      ·subst e;exact ⟨h0,h1,c,z⟩
      ·exact h4 j hj (by omega)
    ·right
     rw[decide_eq_false (by rwa [Int.sign_eq_zero_iff_zero])]
     exact ⟨(k:Int),rfl,k,rfl,h2,h4,fun _ _ _=>z,h3⟩
   ·right
    rw[if_neg (by omega)]
    exact ⟨(k:Int),rfl,k,rfl,h2,h4,fun _ _ hk=>absurd hk c,h3⟩) 2 ⟨2,rfl,by omega,.inr rfl,fun j h1 h2=>by omega⟩
 obtain ⟨t,h1,n0,rfl,h2⟩:=this
 exact ⟨n0,h1,h2⟩
structure Fan (v:List Ab) (l:List Int) (n0:Nat):Prop where
 two:2<=n0
 lt:n0 < l.length
 col:∀ i j k,Lx l n0 i->Lx l n0 j->Lx l n0 k->crs (plV v i) (plV v j) (plV v k)=0
 off:crs (plV v l[0]) (plV v l[1]) (plV v l[n0])≠0
def fanS (v:List Ab) (l:List Int) (n0 i:Nat):Aa:=if 0 < crs (plV v (l.getD i 0)) (plV v (l.getD (i+1) 0)) (plV v (l.getD n0 0)) then ⟨l.getD i 0,l.getD (i+1) 0⟩ else ⟨l.getD (i+1) 0,l.getD i 0⟩
def fanL (v:List Ab) (l:List Int) (n0 k:Nat):List Aa:=(List.range k).map (fanS v l n0)
theorem Mq {l:List Int} {i:Nat} (h:i < l.length):l.getD i 0=l[i]:=by simp[h]
theorem Fan.place (hr:Nv v l) {n0:Nat} (hf:Fan v l n0) {i:Nat} (h:i < n0):Lx l n0 (l.getD i 0):=by
 have:=hf.lt
 exact ⟨i,by omega,h,Mq (by omega)⟩
theorem Fan.bef (hr:Nv v l) {n0:Nat} (hf:Fan v l n0) {i j:Nat} (h:i < j) (hj:j < n0):befP (plV v (l.getD i 0)) (plV v (l.getD j 0)):=by
 have:=hf.lt
 rw[Mq (show i < l.length by omega),Mq (show j < l.length by omega)]
 exact hr.lt (by omega) (by omega) h
theorem Baj (hv:Bu v) (hn:v.length<=1024) (hr:Nv v l) {n0:Nat} (hf:Fan v l n0) {F:List (Aa × Bool)} :
  lfix (Et (n0:Int) l) (v,[],F,0)=some (v,putAll [] (l.getD n0 0) (fanL v l n0 (n0-1)),F):=by
 have h2:=hf.two
 have hlt:=hf.lt
 have hlen:=hr.len
 have val:∀ i,i < l.length->inN v.length (l.getD i 0):=fun i hi=>by rw[Mq hi];exact hr.val.1 (List.getElem_mem hi)
 have hM:∀ k,k<=n0-1->MapN v.length (putAll [] (l.getD n0 0) (fanL v l n0 k)):=fun k hk=>by
  refine MapN.putAll (val n0 hlt) ⟨List.Pairwise.nil,fun q hq=>by cases hq⟩ fun s hs=>?_
  obtain ⟨i,hi,rfl⟩:=List.mem_map.1 hs
  rw[List.mem_range] at hi
  unfold fanS
  split
  ·exact ⟨val _ (by omega),val _ (by omega)⟩
  ·exact ⟨val _ (by omega),val _ (by omega)⟩
 refine Zq (B:=Et (n0:Int) l) (fun k=>(v,putAll [] (l.getD n0 0) (fanL v l n0 k),F,(k:Int))) (v,putAll [] (l.getD n0 0) (fanL v l n0 (n0-1)),F) (n0-1) (fun k hk=>?_) ?_
 ·unfold Et
  simp only
  rw[Be (by omega),if_pos (by omega),jn_d,Bb (show k < l.length by omega),Ad,Bb (show k+1 < l.length by omega),Ad,Bb hlt,Ad]
  have v0:=val k (by omega)
  have v1:=val (k+1) (by omega)
  have vp:=val n0 hlt
  have e:putAll [] (l.getD n0 0) (fanL v l n0 (k+1))=putM (putAll [] (l.getD n0 0) (fanL v l n0 k)) (fanS v l n0 k).a0 (fanS v l n0 k).a1 (l.getD n0 0):=by
   unfold putAll fanL
   rw[List.range_succ,List.map_append,List.foldl_append]
   rfl
  rw[e]
  unfold fanS
  rw[Mq (show k < l.length by omega)] at v0 ⊢
  rw[Mq (show k+1 < l.length by omega)] at v1 ⊢
  rw[Mq hlt] at vp ⊢
  have hM':=hM k (by omega)
  rw[Mq hlt] at hM'
  rw[p_eq (b:=⟨v,_,F⟩) v0,Ad,p_eq (b:=⟨v,_,F⟩) v1,Ad,p_eq (b:=⟨v,_,F⟩) vp,Ad,Rq (hv.ok _ v0) (hv.ok _ v1) (hv.ok _ vp),Ad]
  by_cases c:0 < crs (plV v l[k]) (plV v l[k+1]) (plV v l[n0])
  ·rw[Int.sign_eq_one_of_pos c,if_pos (by omega),if_pos c,Ad,Ad,Ad,Af0 (b:=⟨v,putAll [] l[n0] (fanL v l n0 k),F⟩) hn hM' v0 v1 vp,Ad]
  ·rw[if_neg (fun g=>c (by
    rcases Int.lt_trichotomy (crs (plV v l[k]) (plV v l[k+1]) (plV v l[n0])) 0 with t | t | t
    ·rw[Int.sign_eq_neg_one_of_neg t] at g;omega
    ·rw[t] at g;simp at g
    ·exact t)),if_neg c,Ad,Ad,Ad,Af0 (b:=⟨v,putAll [] l[n0] (fanL v l n0 k),F⟩) hn hM' v1 v0 vp,Ad]
 ·unfold Et
  simp only
  rw[Be (by omega),if_neg (by omega)]
theorem Fan.swept (hv:Bu v) (hn:v.length<=1024) (hr:Nv v l) {n0:Nat} (hf:Fan v l n0):Agk v l (n0+1) (putAll [] (l.getD n0 0) (fanL v l n0 (n0-1)))/\putAll [] (l.getD n0 0) (fanL v l n0 (n0-1))≠[]:=by
 have h2:=hf.two
 have hlt:=hf.lt
 have hlen:=hr.len
 have val:∀ i,i < l.length->inN v.length (l.getD i 0):=fun i hi=>by rw[Mq hi];exact hr.val.1 (List.getElem_mem hi)
 obtain ⟨q1,q2,q3,q4,q5⟩:=hr.place hlt
 rw[<- Mq hlt] at q2 q3 q4 q5
 have hoff:=hf.off
 rw[<- Mq (show 0 < l.length by omega),<- Mq (show 1 < l.length by omega),<- Mq hlt] at hoff
 generalize hp:l.getD n0 0=p at *
 have he:∀ i j,apM [] i j=none:=fun i j=>rfl
 have hS:∀ i,Lx l n0 i↔∃ k,k < n0/\i=l.getD k 0:=fun i=>by
  constructor
  ·rintro ⟨j,hj,h1,rfl⟩;exact ⟨j,h1,(Mq hj).symm⟩
  ·rintro ⟨k,hk,rfl⟩;exact hf.place hr hk
 have same:∀ i,i+1 < n0->(0 < crs (plV v (l.getD 0 0)) (plV v (l.getD 1 0)) (plV v p)->0 < crs (plV v (l.getD i 0)) (plV v (l.getD (i+1) 0)) (plV v p)) /\
   (crs (plV v (l.getD 0 0)) (plV v (l.getD 1 0)) (plV v p) < 0->crs (plV v (l.getD i 0)) (plV v (l.getD (i+1) 0)) (plV v p) < 0):=by
  intro i
  induction i with
  | zero=>exact fun _=>⟨fun h=>h,fun h=>h⟩
  | succ i ih=>
   intro hi
   obtain ⟨i1,i2⟩:=ih (by omega)
   have b1:=hf.bef hr (show i < i+1 by omega) (by omega)
   have b2:=hf.bef hr (show i+1 < i+2 by omega) hi
   have c0:=hf.col _ _ _ (hf.place hr (show i < n0 by omega)) (hf.place hr (show i+1 < n0 by omega)) (hf.place hr hi)
   exact ⟨fun h=>Apc b1 b2 c0 (i1 h),fun h=>Af6 b1 b2 c0 (i2 h)⟩
 have key:∃ R,Adds (plV v) (inN v.length) (Lx l n0) (apM []) R p/\∀ x y:Int,(⟨x,y⟩:Aa)∈fanL v l n0 (n0-1)↔Vis (plV v) R p x y:=by
  rcases Int.lt_or_gt_of_ne hoff with c | c
  ·refine ⟨Ajh (fun j=>l.getD (n0-1-j) 0) n0,Ad9 he (fun i=>?_) (fun a b c h1 h2 h3=>hf.col a b c h1 h2 h3) (fun i hi=>?_) q1 q2 q3 q4 q5,fun x y=>?_⟩
   ·rw[hS]
    constructor
    ·rintro ⟨k,hk,rfl⟩;exact ⟨n0-1-k,by omega,by (try dsimp only);rw[show n0-1-(n0-1-k)=k by omega]⟩
    ·rintro ⟨k,hk,rfl⟩;exact ⟨n0-1-k,by omega,rfl⟩
   ·have:=(same (n0-2-i) (by omega)).2 c
    rw[show n0-2-i+1=n0-1-i by omega] at this
    try dsimp only
    rw[show n0-1-(i+1)=n0-2-i by omega,Ax]
    omega
   ·unfold fanL Vis Ajh
    rw[List.mem_map]
    constructor
    ·rintro ⟨i,hi,e⟩
     rw[List.mem_range] at hi
     have hneg:=(same i (by omega)).2 c
     unfold fanS at e
     rw[hp,if_neg (by omega),Id] at e
     obtain ⟨rfl,rfl⟩:=e
     refine ⟨⟨n0-2-i,by omega,by (try dsimp only);rw[show n0-1-(n0-2-i)=i+1 by omega],by (try dsimp only);rw[show n0-1-(n0-2-i+1)=i by omega]⟩,?_⟩
     rw[Ax];omega
    ·rintro ⟨⟨i,hi,rfl,rfl⟩,_⟩
     refine ⟨n0-2-i,by rw[List.mem_range];omega,?_⟩
     have hneg:=(same (n0-2-i) (by omega)).2 c
     unfold fanS
     rw[hp,if_neg (by omega),Id]
     exact ⟨by (try dsimp only);rw[show n0-2-i+1=n0-1-i by omega],by (try dsimp only);rw[show n0-1-(i+1)=n0-2-i by omega]⟩
  ·refine ⟨Ajh (fun j=>l.getD j 0) n0,Ad9 he hS (fun a b c h1 h2 h3=>hf.col a b c h1 h2 h3) (fun i hi=>(same i hi).1 c) q1 q2 q3 q4 q5,fun x y=>?_⟩
   unfold fanL Vis Ajh
   rw[List.mem_map]
   constructor
   ·rintro ⟨i,hi,e⟩
    rw[List.mem_range] at hi
    have hpos:=(same i (by omega)).1 c
    unfold fanS at e
    rw[hp,if_pos hpos,Id] at e
    obtain ⟨rfl,rfl⟩:=e
    exact ⟨⟨i,by omega,rfl,rfl⟩,hpos⟩
   ·rintro ⟨⟨i,hi,rfl,rfl⟩,hpos⟩
    refine ⟨i,by rw[List.mem_range];omega,?_⟩
    unfold fanS
    rw[hp,if_pos hpos]
 obtain ⟨R,hA,hmv⟩:=key
 obtain ⟨o1,o2⟩:=Agj (m:=[]) List.Pairwise.nil hA (fanL v l n0 (n0-1)) fun s hs=>(hmv s.a0 s.a1).1 hs
 have hN:∀ i j c,apM (putAll [] p (fanL v l n0 (n0-1))) i j=some c↔apM [] i j=some c\/New (plV v) R p i j c:=fun i j c=>by
  rw[o2,hmv,hmv,hmv]
  rfl
 have hpl:p=l[n0]:=by rw[<- hp,Mq hlt]
 refine ⟨⟨?_,hA.tri' hN,?_,?_⟩,fun e=>?_⟩
 ·refine MapN.putAll q2 ⟨List.Pairwise.nil,fun q hq=>by cases hq⟩ fun s hs=>?_
  have:=(hA.r1 _ _ ((hmv s.a0 s.a1).1 hs).1)
  exact ⟨q1 _ this.1,q1 _ this.2.1⟩
 ·have:=hA.cov' hN (fun i j k hk=>by cases hk)
  intro i j c hc hn d hd
  refine this i j c hc hn d ?_
  rw[hpl]
  exact (Lx.succ hlt).1 hd
 ·intro i j c hc
  refine (Lx.succ hlt).2 ?_
  rw[<- hpl]
  exact hA.used' hN i j c hc
 ·have h0:fanS v l n0 0∈fanL v l n0 (n0-1):=List.mem_map.2 ⟨0,by rw[List.mem_range];omega,rfl⟩
  have:=(o2 (fanS v l n0 0).a0 (fanS v l n0 0).a1 p).2 (.inr (.inl ⟨h0,rfl⟩))
  rw[e] at this
  cases this
end
end Go.Proofs.YtjfndjmabhbicaaGreat
