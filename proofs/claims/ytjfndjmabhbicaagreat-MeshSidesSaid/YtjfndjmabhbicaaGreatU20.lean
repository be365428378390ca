/- The reference's apex with lines: the best of the places that are seen. -/
import Derived.Test.YtjfndjmabhbicaaGreatU18
import Derived.Test.YtjfndjmabhbicaaGreatV5
namespace Go.Proofs.YtjfndjmabhbicaaGreat
open Go Go.RowKit
section
variable {v:List Ab} {S:Int->Prop} {a b:Int} {L:List Aa}
structure Hp (v:List Ab) (S:Int->Prop) (a b k:Int) (s:List Int):Prop where
 mem:∀ c∈s,inN v.length c/\c < k/\0 < crs (plV v a) (plV v b) (plV v c)/\S c
 none:s=[]->∀ d,inN v.length d->d < k->S d->crs (plV v a) (plV v b) (plV v d)<=0
 top:∀ c∈s,∀ d,inN v.length d->d < k->0 < crs (plV v a) (plV v b) (plV v d)->S d->(inC (plV v a) (plV v b) (plV v c) (plV v d) < 0/\d ∉ s)\/(inC (plV v a) (plV v b) (plV v c) (plV v d)=0/\d∈s)
 nd:s.Nodup
theorem Hp.nil:Hp v S a b 0 []:=⟨fun c h=>(by cases h),fun _ d hd h=>by unfold inN at hd;omega,fun c h=>(by cases h),List.nodup_nil⟩
theorem Hp.skip {k:Int} {s:List Int} (h:Hp v S a b k s) (hk:¬ (0 < crs (plV v a) (plV v b) (plV v k)/\S k)):Hp v S a b (k+1) s:=by
 refine ⟨fun c hc=>?_,fun e d hd hl hs=>?_,fun c hc d hd hl hp hs=>?_,h.nd⟩
 ·obtain ⟨h1,h2,h3⟩:=h.mem c hc
  exact ⟨h1,by omega,h3⟩
 ·by_cases g:d=k
  ·subst g
   refine Classical.byContradiction fun n=>hk ⟨by omega,hs⟩
  ·exact h.none e d hd (by omega) hs
 ·by_cases g:d=k
  ·subst g;exact absurd ⟨hp,hs⟩ hk
  ·exact h.top c hc d hd (by omega) hp hs
theorem Hp.one {k:Int} (hk:inN v.length k) (hp:0 < crs (plV v a) (plV v b) (plV v k)) (hsk:S k) (ho:∀ d,inN v.length d->d < k->0 < crs (plV v a) (plV v b) (plV v d)->S d->inC (plV v a) (plV v b) (plV v k) (plV v d) < 0):Hp v S a b (k+1) [k]:=by
 refine ⟨fun c hc=>?_,fun e=>(by cases e),fun c hc d hd hl hq hs=>?_,by simp⟩
 ·rw [List.mem_singleton] at hc
  subst hc
  exact ⟨hk,by omega,hp,hsk⟩
 ·rw [List.mem_singleton] at hc
  subst hc
  by_cases g:d=c
  ·subst g;exact .inr ⟨Zl _ _ _,List.mem_singleton.2 rfl⟩
  ·exact .inl ⟨ho d hd (by omega) hq hs,by simpa using g⟩
theorem Hp.first {k:Int} (h:Hp v S a b k []) (hk:inN v.length k) (hp:0 < crs (plV v a) (plV v b) (plV v k)) (hsk:S k):Hp v S a b (k+1) [k] :=
 Hp.one hk hp hsk fun d hd hl hq hs=>by have:=h.none rfl d hd hl hs;omega
theorem Hp.better {k c:Int} {s:List Int} (h:Hp v S a b k s) (hk:inN v.length k) (hp:0 < crs (plV v a) (plV v b) (plV v k)) (hsk:S k) (hc:c∈s) (hi:0 < inC (plV v a) (plV v b) (plV v c) (plV v k)):Hp v S a b (k+1) [k] :=
 Hp.one hk hp hsk fun d hd hl hq hs=>Zk (h.mem c hc).2.2.1 hp hq hi (by rcases h.top c hc d hd hl hq hs with g | g <;> omega)
theorem Hp.same0 {k c x:Int} {s:List Int} (h:Hp v S a b k s) (hc:c∈s) (hx:x∈s):inC (plV v a) (plV v b) (plV v c) (plV v x)=0:=by
 obtain ⟨h1,h2,h3,h4⟩:=h.mem x hx
 rcases h.top c hc x h1 h2 h3 h4 with g | g
 ·exact absurd hx g.2
 ·exact g.1
theorem Hp.worse {k c:Int} {s:List Int} (h:Hp v S a b k s) (hc:c∈s) (hi:inC (plV v a) (plV v b) (plV v c) (plV v k) < 0):Hp v S a b (k+1) s:=by
 refine ⟨fun x hx=>?_,fun e=>(by rw [e] at hc;cases hc),fun x hx d hd hl hp hs=>?_,h.nd⟩
 ·obtain ⟨h1,h2,h3⟩:=h.mem x hx
  exact ⟨h1,by omega,h3⟩
 ·by_cases g:d=k
  ·subst g
   refine .inl ⟨(Oo (h.mem c hc).2.2.1 (h.mem x hx).2.2.1 (h.same0 hc hx)).1 hi,fun e=>?_⟩
   have:=(h.mem d e).2.1;omega
  ·exact h.top x hx d hd (by omega) hp hs
theorem Hp.tie {k c:Int} {s:List Int} (h:Hp v S a b k s) (hk:inN v.length k) (hp:0 < crs (plV v a) (plV v b) (plV v k)) (hsk:S k) (hc:c∈s) (hi:inC (plV v a) (plV v b) (plV v c) (plV v k)=0):Hp v S a b (k+1) (s++[k]):=by
 have same:∀ x∈s,inC (plV v a) (plV v b) (plV v x) (plV v k)=0:=fun x hx=>(Oo (h.mem c hc).2.2.1 (h.mem x hx).2.2.1 (h.same0 hc hx)).2 hi
 refine ⟨fun x hx=>?_,fun e=>(by simp at e),fun x hx d hd hl hq hs=>?_,?_⟩
 ·rcases List.mem_append.1 hx with hx | hx
  ·obtain ⟨h1,h2,h3⟩:=h.mem x hx
   exact ⟨h1,by omega,h3⟩
  ·rw [List.mem_singleton] at hx
   subst hx
   exact ⟨hk,by omega,hp,hsk⟩
 ·by_cases g:d=k
  ·subst g
   refine .inr ⟨?_,by simp⟩
   rcases List.mem_append.1 hx with hx | hx
   ·exact same x hx
   ·rw [List.mem_singleton] at hx
    subst hx
    exact Zl _ _ _
  ·have hnk:d ∉ [k]:=by simpa using g
   rcases List.mem_append.1 hx with hx | hx
   ·rcases h.top x hx d hd (by omega) hq hs with ⟨g1,g2⟩ | ⟨g1,g2⟩
    ·exact .inl ⟨g1,fun e=>(List.mem_append.1 e).elim g2 hnk⟩
    ·exact .inr ⟨g1,List.mem_append.2 (.inl g2)⟩
   ·rw [List.mem_singleton] at hx
    subst hx
    have q3:=(h.mem c hc).2.2.1
    rcases h.top c hc d hd (by omega) hq hs with ⟨g1,g2⟩ | ⟨g1,g2⟩
    ·exact .inl ⟨(Oo q3 hp hi).1 g1,fun e=>(List.mem_append.1 e).elim g2 hnk⟩
    ·exact .inr ⟨(Oo q3 hp hi).2 g1,List.mem_append.2 (.inl g2)⟩
 ·rw [List.nodup_append]
  refine ⟨h.nd,by simp,fun x hx y hy e=>?_⟩
  rw [List.mem_singleton] at hy
  subst hy
  subst e
  have:=(h.mem x hx).2.1
  omega
theorem Hp.circ {k:Int} {s:List Int} (h:Hp v S a b k s):Circ v a b s :=
 ⟨fun c hc=>⟨(h.mem c hc).1,(h.mem c hc).2.2.1⟩,fun c hc d hd=>h.same0 hc hd,h.nd⟩
def TopS (v:List Ab) (S:Int->Prop) (a b c:Int):Prop:=inN v.length c/\0 < crs (plV v a) (plV v b) (plV v c)/\S c/\∀ d,inN v.length d->0 < crs (plV v a) (plV v b) (plV v d)->S d->d≠c->DH (plV v) (hV v) a b c d < 0
theorem TopS.unique {c d:Int} (h:TopS v S a b c) (k:TopS v S a b d):c=d:=by
 by_cases e:c=d
 ·exact e
 ·have h1:=h.2.2.2 d k.1 k.2.1 k.2.2.1 (fun g=>e g.symm)
  have h2:=k.2.2.2 c h.1 h.2.1 h.2.2.1 e
  rw [Alu] at h2
  omega
theorem Hp.ans (hv:Be v) (ha:inN v.length a) (hb:inN v.length b) {s l:List Int} {c:Int} (h:Hp v S a b v.length s) (hp:∀ x,x∈l↔x∈s) (hc:Ans v a b l c):TopS v S a b c:=by
 obtain ⟨h1,h2⟩:=hc
 have hcs:=(hp c).1 h1
 obtain ⟨c1,_,c2,c3⟩:=h.mem c hcs
 refine ⟨c1,c2,c3,fun d hd hq hs hne=>?_⟩
 rcases h.top c hcs d hd hd.2 hq hs with g | g
 ·exact Aep hv ha hb c1 hd g.1
 ·exact h2 d ((hp d).2 g.2) hne
theorem Aln (hv:Be v) (hL:L.length<=1000000) (hok:∀ s∈L,okL v s) {i k:Int} (hi:inN v.length i) (hk:inN v.length k) [Decidable (Seen v L i k)]:Jy v L i k=some (decide (Seen v L i k)):=by
 haveI:∀ a b c d,Decidable (Gc v a b c d):=fun _ _ _ _=>Classical.propDecidable _
 have lp:=Pb (β:=Unit) (γ:=Bool) L.length (by omega) (fun n=>decide (Gc v i k (L.getD n ⟨0,0⟩).a0 (L.getD n ⟨0,0⟩).a1)) (Jd L v i k) () false (fun n hn=>by
  have e:L.getD n ⟨0,0⟩=L[n]:=by simp [hn]
  obtain ⟨q1,q2,_⟩:=hok _ (List.getElem_mem hn)
  obtain ⟨x0,i0,e0⟩:=Ek q1
  obtain ⟨x1,i1,e1⟩:=Ek q2
  obtain ⟨x2,i2,e2⟩:=Ek hi
  obtain ⟨x3,i3,e3⟩:=Ek hk
  unfold Jd Aj
  rw [if_pos (by omega),As hn,Ad,i2,Ad,i3,Ad,i0,Ad,i1,Ad]
  dsimp only
  rw [Ad,Ad,Ad,Ad,e0,e1,e2,e3,Afl (hv.ok _ hi) (hv.ok _ hk) (hv.ok _ q1) (hv.ok _ q2),Ad,e,Au (by omega)]
  by_cases c:Gc v i k L[n].a0 L[n].a1
  ·rw [if_pos (by rw [decide_eq_true_eq];exact c),if_pos (decide_eq_true c)]
  ·rw [if_neg (by rw [decide_eq_true_eq];exact c),if_neg (by simpa using c)]) (by
  unfold Jd
  rw [if_neg (by omega)])
 have iff:((List.range L.length).any fun n=>decide (Gc v i k (L.getD n ⟨0,0⟩).a0 (L.getD n ⟨0,0⟩).a1))=true↔¬ Seen v L i k:=by
  rw [List.any_eq_true]
  constructor
  ·rintro ⟨n,hn,h⟩ g
   have hn:=List.mem_range.1 hn
   have e:L.getD n ⟨0,0⟩=L[n]:=by simp [hn]
   rw [decide_eq_true_eq,e] at h
   exact g _ (List.getElem_mem hn) h
  ·intro g
   unfold Seen at g
   have ⟨s,g⟩:=Classical.not_forall.1 g
   have ⟨hs,g⟩:=Classical.not_imp.1 g
   obtain ⟨n,hn,rfl⟩:=List.getElem_of_mem hs
   have e:L.getD n ⟨0,0⟩=L[n]:=by simp [hn]
   exact ⟨n,List.mem_range.2 hn,by rw [decide_eq_true_eq,e];exact Classical.not_not.1 g⟩
 unfold Jy
 rw [jn_d,lp,Ad]
 by_cases c:Seen v L i k
 ·rw [if_neg (fun g=>(iff.1 g) c),decide_eq_true c]
 ·rw [if_pos (iff.2 c),decide_eq_false c]
def See2 (v:List Ab) (L:List Aa) (a b c:Int):Prop:=Seen v L a c/\Seen v L b c
theorem Aj4 (hv:Be v) (hn:v.length<=1024) (hL:L.length<=1000000) (hok:∀ s∈L,okL v s) (ha:inN v.length a) (hb:inN v.length b):∃ s,lfix (Jg v a b L) (([]:List Int),0)=some s/\Hp v (See2 v L a b) a b v.length s:=by
 haveI:∀ i k,Decidable (Seen v L i k):=fun _ _=>Classical.propDecidable _
 refine Bk (B:=Jg v a b L) (fun s=>v.length-s.2.toNat) (fun s=>0<=s.2/\s.2<=(v.length:Int)/\Hp v (See2 v L a b) a b s.2 s.1/\(s.1.length:Int)<=s.2) (fun t=>Hp v (See2 v L a b) a b v.length t) (fun s hs=>?_) _ ⟨by simp,by simp,Hp.nil,by simp⟩
 obtain ⟨l,k⟩:=s
 obtain ⟨h1,h2,h3,h4⟩:=hs
 dsimp only at h1 h2 h3 h4
 unfold Jg
 dsimp only
 by_cases hk:k < (v.length:Int)
 ·left
  have hkn:inN v.length k:=⟨h1,hk⟩
  obtain ⟨xa,fa,pa⟩:=Ek (v:=v) ha
  obtain ⟨xb,fb,pb⟩:=Ek (v:=v) hb
  obtain ⟨xk,fk,pk⟩:=Ek (v:=v) hkn
  have w1:w64 (k+1)=k+1:=Ay (by omega) (by omega)
  have sg:Int.sign (crs (plV v a) (plV v b) (plV v k))<=0↔crs (plV v a) (plV v b) (plV v k)<=0:=by
   have:=@Int.sign_eq_one_iff_pos (crs (plV v a) (plV v b) (plV v k))
   have:=Int.sign_trichotomy (crs (plV v a) (plV v b) (plV v k))
   omega
  have go:∀ l',Hp v (See2 v L a b) a b (k+1) l'->(l'.length:Int)<=k+1->∃ s',(some (.inl (l',w64 (k+1))):Option (Sum (List Int × Int) (List Int)))=some (.inl s')/\(0<=s'.2/\s'.2<=(v.length:Int)/\Hp v (See2 v L a b) a b s'.2 s'.1/\(s'.1.length:Int)<=s'.2)/\v.length-s'.2.toNat < v.length-k.toNat:=fun l' g g' =>
   ⟨_,rfl,⟨by dsimp only;omega,by dsimp only;omega,by dsimp only;rw [w1];exact g,by dsimp only;omega⟩,by dsimp only;omega⟩
  rw [if_pos hk,jn_d,jn_d,fa,Ad,fb,Ad,fk,Ad]
  unfold Aj
  rw [Ad,Ad,Ad,pa,pb,pk,Nb (hv.ok _ ha) (hv.ok _ hb) (hv.ok _ hkn),Ad]
  by_cases c1:crs (plV v a) (plV v b) (plV v k)<=0
  ·rw [if_pos (sg.2 c1)]
   dsimp only
   rw [if_pos rfl]
   exact go l (h3.skip (fun g=>by have:=g.1;omega)) (by omega)
  ·have hp:0 < crs (plV v a) (plV v b) (plV v k):=by omega
   rw [if_neg (fun g=>c1 (sg.1 g)),Aln hv hL hok ha hkn,Ad]
   by_cases c3:Seen v L a k
   ·rw [if_pos (decide_eq_true c3),Aln hv hL hok hb hkn,Ad]
    by_cases c4:Seen v L b k
    ·rw [decide_eq_true c4]
     dsimp only
     rw [if_neg (by simp)]
     by_cases c2:l=[]
     ·subst c2
      rw [if_pos (by simp)]
      exact go [k] (h3.first hkn hp ⟨c3,c4⟩) (by simp;omega)
     ·obtain ⟨c,r,rfl⟩:=List.exists_cons_of_ne_nil c2
      have hc:c∈c::r:=by simp
      have hcn:=(h3.mem c hc).1
      obtain ⟨xc,fc,pc⟩:=Ek (v:=v) hcn
      have i0:idx (c::r) 0=some c:=As (l:=c::r) (j:=0) (by simp)
      rw [if_neg (by simp;omega)]
      simp only [i0,fc,Ad,pc,pa,pb,pk]
      rw [Ako (hv.ok _ ha) (hv.ok _ hb) (hv.ok _ hcn) (hv.ok _ hkn),Ad]
      rcases Int.lt_trichotomy (inC (plV v a) (plV v b) (plV v c) (plV v k)) 0 with g | g | g
      ·rw [Int.sign_eq_neg_one_of_neg g,if_neg (by omega),if_neg (by omega)]
       exact go _ (h3.worse hc g) (by omega)
      ·rw [g,Int.sign_zero,if_neg (by omega),if_pos rfl,gd_t (by omega)]
       exact go _ (h3.tie hkn hp ⟨c3,c4⟩ hc g) (by rw [List.length_append,List.length_singleton];omega)
      ·rw [Int.sign_eq_one_of_pos g,if_pos rfl]
       exact go [k] (h3.better hkn hp ⟨c3,c4⟩ hc g) (by simp;omega)
    ·rw [decide_eq_false c4]
     dsimp only
     rw [if_pos (by simp)]
     exact go l (h3.skip (fun g=>c4 g.2.2)) (by omega)
   ·rw [if_neg (by simpa using c3)]
    dsimp only
    rw [if_pos rfl]
    exact go l (h3.skip (fun g=>c3 g.2.1)) (by omega)
 ·right
  rw [if_neg hk]
  have:k=v.length:=by omega
  subst this
  exact ⟨_,rfl,h3⟩
theorem Apg (hv:Be v) (hn:v.length<=1024) (hL:L.length<=1000000) (hok:∀ s∈L,okL v s) (ha:inN v.length a) (hb:inN v.length b):∃ c,Mf v L a b=some c/\((c = -1/\∀ d,inN v.length d->See2 v L a b d->crs (plV v a) (plV v b) (plV v d)<=0)\/TopS v (See2 v L a b) a b c):=by
 obtain ⟨s,h1,h2⟩:=Aj4 hv hn hL hok ha hb
 unfold Mf
 rw [jn_d,h1,Ad]
 dsimp only
 by_cases hs:s=[]
 ·rw [if_pos (by simp [hs])]
  exact ⟨-1,rfl,.inl ⟨rfl,fun d hd=>h2.none hs d hd hd.2⟩⟩
 ·have hpos:=List.length_pos_iff.2 hs
  have hle:s.length<=1024:=by
   have:=Cy (m:=inds v.length) h2.nd (fun x hx=>Gm.2 (h2.mem x hx).1)
   rw [Qm] at this
   omega
  rw [if_neg (by omega)]
  obtain ⟨m,g1,g2,g3⟩:=At1 hv hn ha h2.circ hle
  have hm:m≠[]:=fun e=>by
   obtain ⟨x,hx⟩:=List.exists_mem_of_ne_nil s hs
   have:=(g3 x).2 hx
   rw [e] at this
   cases this
  have hml:m.length<=1024:=by
   have:=Cy g2.circ.nd (fun x hx=>(g3 x).1 hx)
   omega
  obtain ⟨c,e1,e2⟩:=Aq7 hv hn ha hb hml hm g2
  rw [g1,Ad,e1,Ad]
  exact ⟨c,rfl,.inr (h2.ans hv ha hb g3 e2)⟩
end
section
variable {v:List Ab} {p0 q0:Int} {m:Mp} {L:List Aa}
theorem Mesh.free (hv:Be v) (h:Tri (plV v) (inN v.length) (apM m)) {a b c:Int} (hk:apM m a b=some c):Free v a b:=fun z hz n1 n2 g=>by
 obtain ⟨va,vb,_,_⟩:=h.ccw _ _ _ hk
 exact Rf h hk hz n1 n2 ⟨g,fun e=>n1 (hv.dist _ _ hz va e),fun e=>n2 (hv.dist _ _ hz vb e)⟩
theorem Anh (hv:Be v) (h:Mesh v L m) {X:Int->Int->Int->Prop} (hsub:∀ a b c,X a b c->apM m a b=some c) (hrot:∀ a b c,X a b c->X b c a) (htw:∀ a b c,X a b c->∀ d,inN v.length d->crs (plV v a) (plV v b) (plV v d) < 0->∃ e,X b a e) (hne:∃ a b c,X a b c) {a b c:Int} (hk:apM m a b=some c):X a b c:=by
 haveI:∀ i j k,Decidable (X i j k):=fun _ _ _=>Classical.propDecidable _
 have hok:MapN v.length (m.filter fun q=>decide (X q.1.a0 q.1.a1 q.2)):=⟨List.Pairwise.filter _ h.map.ok,fun q hq=>h.map.key q (List.mem_filter.1 hq).1⟩
 have hap:∀ i j k,apM (m.filter fun q=>decide (X q.1.a0 q.1.a1 q.2)) i j=some k↔X i j k:=fun i j k=>by
  constructor
  ·intro g
   have:=(List.mem_filter.1 (Dr g)).2
   exact of_decide_eq_true (p:=X i j k) this
  ·intro g
   refine Ky hok.ok (List.mem_filter.2 ⟨Dr (hsub _ _ _ g),?_⟩)
   exact decide_eq_true (p:=X i j k) g
 have sub:∀ i j,apM (m.filter fun q=>decide (X q.1.a0 q.1.a1 q.2)) i j≠none->apM m i j≠none:=fun i j g=>by
  obtain ⟨k,hk⟩:=Option.ne_none_iff_exists'.1 g
  rw [hsub _ _ _ ((hap _ _ _).1 hk)];simp
 have ht:Tri (plV v) (inN v.length) (apM (m.filter fun q=>decide (X q.1.a0 q.1.a1 q.2))):=⟨fun i j k g=>(hap _ _ _).2 (hrot _ _ _ ((hap _ _ _).1 g)),fun i j k g=>h.tri.ccw _ _ _ (hsub _ _ _ ((hap _ _ _).1 g)),fun i j k g=>h.tri.emp _ _ _ (hsub _ _ _ ((hap _ _ _).1 g)),fun s i j k g n=>h.tri.cone s i j k (hsub _ _ _ ((hap _ _ _).1 g)) (n.imp (sub _ _) (sub _ _))⟩
 have hc:Cov (plV v) (inN v.length) (apM (m.filter fun q=>decide (X q.1.a0 q.1.a1 q.2))):=fun i j k g n d hd=>by
  refine Classical.byContradiction fun w=>?_
  obtain ⟨e,he⟩:=htw _ _ _ ((hap _ _ _).1 g) d hd (by omega)
  rw [(hap _ _ _).2 he] at n
  cases n
 have hnil:(m.filter fun q=>decide (X q.1.a0 q.1.a1 q.2))≠[]:=fun e=>by
  obtain ⟨x,y,z,hx⟩:=hne
  have:=Dr ((hap _ _ _).2 hx)
  rw [e] at this
  cases this
 obtain ⟨va,vb,vc,T⟩:=h.tri.ccw _ _ _ hk
 obtain ⟨n1,_,_⟩:=h.tri.ne hk
 have fin:(∃ e,X a b e)->X a b c:=fun ⟨e,he⟩=>by
  have:=hsub _ _ _ he
  rw [hk] at this
  cases this
  exact he
 rcases Acu hv ht va vb n1 (Mesh.free hv h.tri hk) (Vo hv hok ht hc hnil va vb) with (g | g) | ⟨x,y,g,g1,g2⟩
 ·obtain ⟨e,he⟩:=Option.ne_none_iff_exists'.1 g
  exact fin ⟨e,(hap _ _ _).1 he⟩
 ·obtain ⟨e,he⟩:=Option.ne_none_iff_exists'.1 g
  exact fin (htw _ _ _ ((hap _ _ _).1 he) c vc (by rw [Ar];omega))
 ·exfalso
  have gx:=h.tri.rot2 (hsub _ _ _ ((hap _ _ _).1 g))
  refine h.tri.cone a x y b gx (.inl (by rw [hk];simp)) ⟨?_,g2⟩
  rw [Av];omega
def Vd (m:Mp) (t:Ae):Prop:=t.a0 < t.a1/\t.a0 < t.a2/\apM m t.a0 t.a1=some t.a2
theorem Vd.side (hM:Tri (plV v) (inN v.length) (apM m)) {t:Ae} (h:Vd m t) {p q:Int} (hs:Fh t p q):∃ e,apM m p q=some e:=by
 obtain ⟨_,_,h⟩:=h
 rcases hs with ⟨rfl,rfl⟩ | ⟨rfl,rfl⟩ | ⟨rfl,rfl⟩
 ·exact ⟨_,h⟩
 ·exact ⟨_,hM.rot _ _ _ h⟩
 ·exact ⟨_,hM.rot2 h⟩
def okM (v:List Ab) (m:Mp) (p q:Int):Prop:=inN v.length p/\inN v.length q/\(noT v p q\/∃ e,apM m p q=some e)
structure TrM (v:List Ab) (m:Mp) (p0 q0:Int) (op:List Aa) (dn:Int->Int->Prop) (out:List Ae):Prop where
 mem:∀ t∈out,Vd m t
 nd:out.Nodup
 opn:∀ s∈op,okM v m s.a0 s.a1
 don:∀ p q,dn p q->(∃ t∈out,Fh t p q)\/noT v p q
 all:∀ t∈out,∀ p q,Fh t p q->dn p q
 rev:∀ t∈out,∀ p q,Fh t p q->⟨q,p⟩∈op\/dn q p
 sta:⟨p0,q0⟩∈op\/dn p0 q0
 len:op.length<=3*out.length+1
theorem TrM.init {dn:Int->Int->Prop} (h:okM v m p0 q0) (hd:∀ p q,¬ dn p q):TrM v m p0 q0 [⟨p0,q0⟩] dn [] :=
 ⟨fun t h=>(by cases h),List.nodup_nil,fun s hs=>by rw [List.mem_singleton] at hs;subst hs;exact h,fun p q g=>absurd g (hd p q),fun t h=>(by cases h),fun t h=>(by cases h),.inl (by simp),by simp⟩
theorem TrM.skip {op:List Aa} {dn:Int->Int->Prop} {out:List Ae} {s:Aa} (h:TrM v m p0 q0 (op++[s]) dn out) (hs:dn s.a0 s.a1):TrM v m p0 q0 op dn out :=
 ⟨h.mem,h.nd,fun x hx=>h.opn x (by simp [hx]),h.don,h.all,fun t ht p q hp=>(h.rev t ht p q hp).elim (fun g=>(Wu g).imp id fun e=>by subst e;exact hs) .inr,
  h.sta.elim (fun g=>(Wu g).imp id fun e=>by subst e;exact hs) .inr,by have:=h.len;rw [List.length_append,List.length_singleton] at this;omega⟩
theorem TrM.none {op:List Aa} {dn dn':Int->Int->Prop} {out:List Ae} {s:Aa} (h:TrM v m p0 q0 (op++[s]) dn out) (hd:∀ p q,dn' p q↔dn p q\/(p=s.a0/\q=s.a1)) (hn:noT v s.a0 s.a1):TrM v m p0 q0 op dn' out:=by
 have key:TrM v m p0 q0 (op++[s]) dn' out:=⟨h.mem,h.nd,h.opn,fun p q g=>by
  rcases (hd p q).1 g with g | ⟨rfl,rfl⟩
  ·exact h.don p q g
  ·exact .inr hn,fun t ht p q hp=>(hd p q).2 (.inl (h.all t ht p q hp)),fun t ht p q hp=>(h.rev t ht p q hp).imp id fun g=>(hd _ _).2 (.inl g),h.sta.imp id fun g=>(hd _ _).2 (.inl g),h.len⟩
 exact key.skip ((hd _ _).2 (.inr ⟨rfl,rfl⟩))
theorem TrM.more {op:List Aa} {dn dn':Int->Int->Prop} {out:List Ae} {s:Aa} {t:Ae} (h:TrM v m p0 q0 (op++[s]) dn out) (hs:¬ dn s.a0 s.a1) (ht:Vd m t) (hst:Fh t s.a0 s.a1)
  (hd:∀ p q,dn' p q↔dn p q\/Fh t p q) (hx:∀ p q,Fh t p q->okM v m q p):TrM v m p0 q0 (op++[⟨t.a1,t.a0⟩,⟨t.a2,t.a1⟩,⟨t.a0,t.a2⟩]) dn' (out++[t]):=by
 have hin:∀ {p q:Int},⟨p,q⟩∈op++[s]->(⟨p,q⟩:Aa)∈op++[⟨t.a1,t.a0⟩,⟨t.a2,t.a1⟩,⟨t.a0,t.a2⟩]\/dn' p q:=fun {p q} g=>by
  rcases Wu g with g | g
  ·exact .inl (List.mem_append.2 (.inl g))
  ·right
   rw [<- g] at hst
   exact (hd _ _).2 (.inr hst)
 refine ⟨fun x hx=>?_,?_,fun x hx'=>?_,fun p q g=>?_,fun x hx' p q g=>?_,fun x hx' p q g=>?_,?_,?_⟩
 ·rcases List.mem_append.1 hx with hx | hx
  ·exact h.mem x hx
  ·rw [List.mem_singleton] at hx;subst hx;exact ht
 ·rw [List.nodup_append]
  refine ⟨h.nd,by simp,fun x hm y hy e=>?_⟩
  rw [List.mem_singleton] at hy
  rw [hy] at e
  rw [e] at hm
  exact hs (h.all t hm _ _ hst)
 ·rcases List.mem_append.1 hx' with hx' | hx'
  ·exact h.opn x (by simp [hx'])
  ·simp only [List.mem_cons,List.not_mem_nil,or_false] at hx'
   rcases hx' with rfl | rfl | rfl
   ·exact hx t.a0 t.a1 (.inl ⟨rfl,rfl⟩)
   ·exact hx t.a1 t.a2 (.inr (.inl ⟨rfl,rfl⟩))
   ·exact hx t.a2 t.a0 (.inr (.inr ⟨rfl,rfl⟩))
 ·rcases (hd p q).1 g with g | g
  ·rcases h.don p q g with ⟨x,hx,g⟩ | g
   ·exact .inl ⟨x,by simp [hx],g⟩
   ·exact .inr g
  ·exact .inl ⟨t,by simp,g⟩
 ·rcases List.mem_append.1 hx' with hx' | hx'
  ·exact (hd p q).2 (.inl (h.all x hx' p q g))
  ·rw [List.mem_singleton] at hx';subst hx';exact (hd p q).2 (.inr g)
 ·rcases List.mem_append.1 hx' with hx' | hx'
  ·rcases h.rev x hx' p q g with g | g
   ·exact hin g
   ·exact .inr ((hd _ _).2 (.inl g))
  ·rw [List.mem_singleton] at hx'
   subst hx'
   left
   refine List.mem_append.2 (.inr ?_)
   rcases g with ⟨rfl,rfl⟩ | ⟨rfl,rfl⟩ | ⟨rfl,rfl⟩ <;> simp
 ·rcases h.sta with g | g
  ·exact hin g
  ·exact .inr ((hd _ _).2 (.inl g))
 ·have:=h.len
  simp only [List.length_append,List.length_cons,List.length_nil] at this ⊢
  omega
theorem Abq (hM:Tri (plV v) (inN v.length) (apM m)) {out:List Ae} (hmem:∀ t∈out,Vd m t) (hnd:out.Nodup):out.length<=v.length*v.length:=by
 have h1:(out.map fun t=>(t.a0.toNat*v.length+t.a1.toNat)).Nodup:=by
  unfold List.Nodup
  rw [List.pairwise_map]
  refine List.Pairwise.imp_of_mem ?_ hnd
  intro x y hx hy hne e
  obtain ⟨x1,x2,x3⟩:=hmem x hx
  obtain ⟨y1,y2,y3⟩:=hmem y hy
  obtain ⟨x4,x5,_⟩:=hM.ccw _ _ _ x3
  obtain ⟨y4,y5,_⟩:=hM.ccw _ _ _ y3
  unfold inN at x4 x5 y4 y5
  have e1:x.a1.toNat=y.a1.toNat:=by
   have:=congrArg (· % v.length) e
   simp only [Nat.mul_add_mod_self_right] at this
   rwa [Nat.mod_eq_of_lt (by omega),Nat.mod_eq_of_lt (by omega)] at this
  have e2:x.a0.toNat=y.a0.toNat:=by
   rw [e1] at e
   have e':x.a0.toNat*v.length=y.a0.toNat*v.length:=by omega
   exact Nat.eq_of_mul_eq_mul_right (by omega) e'
  have e3:x.a0=y.a0:=by omega
  have e4:x.a1=y.a1:=by omega
  apply hne
  obtain ⟨xa,xb,xc⟩:=x
  obtain ⟨ya,yb,yc⟩:=y
  simp only at e3 e4 x3 y3
  subst e3;subst e4
  rw [Option.some.inj (x3.symm.trans y3)]
 have:=Cy (m:=List.range (v.length*v.length)) h1 fun x hx=>by
  obtain ⟨t,ht,rfl⟩:=List.mem_map.1 hx
  obtain ⟨_,_,t3⟩:=hmem t ht
  obtain ⟨t4,t5,_⟩:=hM.ccw _ _ _ t3
  unfold inN at t4 t5
  rw [List.mem_range]
  have h3:t.a0.toNat+1<=v.length:=by omega
  have:=Nat.mul_le_mul_right v.length h3
  rw [Nat.add_mul] at this
  omega
 rwa [List.length_map,List.length_range] at this
theorem TrM.bound (hM:Tri (plV v) (inN v.length) (apM m)) {op:List Aa} {dn:Int->Int->Prop} {out:List Ae} (h:TrM v m p0 q0 op dn out):out.length<=v.length*v.length:=Abq hM h.mem h.nd
theorem TrM.full (hv:Be v) (hM:Mesh v L m) {dn:Int->Int->Prop} {out:List Ae} (h:TrM v m p0 q0 [] dn out) (hs:∃ e,apM m p0 q0=some e) (t:Ae):t∈out↔Vd m t:=by
 refine ⟨fun ht=>h.mem t ht,fun ⟨t1,t2,t3⟩=>?_⟩
 have inX:∀ t∈out,∀ a b c,Fh t a b->apM m a b=some c->(a,b,c)∈out.flatMap rots:=fun t ht a b c g hd=>by
  have:=(h.mem t ht).2.2
  refine List.mem_flatMap.2 ⟨t,ht,?_⟩
  unfold rots
  rcases g with ⟨rfl,rfl⟩ | ⟨rfl,rfl⟩ | ⟨rfl,rfl⟩
  ·rw [Option.some.inj (hd.symm.trans this)];simp
  ·rw [Option.some.inj (hd.symm.trans (hM.tri.rot _ _ _ this))];simp
  ·rw [Option.some.inj (hd.symm.trans (hM.tri.rot2 this))];simp
 have memX:∀ a b c:Int,(a,b,c)∈out.flatMap rots->∃ t∈out,Fh t a b/\Fh t b c/\apM m a b=some c:=fun a b c g=>by
  obtain ⟨t,ht,g⟩:=List.mem_flatMap.1 g
  have:=(h.mem t ht).2.2
  unfold rots at g
  simp only [List.mem_cons,List.not_mem_nil,or_false] at g
  rcases g with g | g | g <;> cases g
  ·exact ⟨t,ht,.inl ⟨rfl,rfl⟩,.inr (.inl ⟨rfl,rfl⟩),this⟩
  ·exact ⟨t,ht,.inr (.inl ⟨rfl,rfl⟩),.inr (.inr ⟨rfl,rfl⟩),hM.tri.rot _ _ _ this⟩
  ·exact ⟨t,ht,.inr (.inr ⟨rfl,rfl⟩),.inl ⟨rfl,rfl⟩,hM.tri.rot2 this⟩
 have dnX:∀ p q e,dn p q->apM m p q=some e->(p,q,e)∈out.flatMap rots:=fun p q e g hd=>by
  rcases h.don p q g with ⟨t,ht,g⟩ | g
  ·exact inX t ht p q e g hd
  ·obtain ⟨_,_,k3,k4⟩:=hM.tri.ccw _ _ _ hd
   have:=g e k3
   omega
 have key:=Anh hv hM (X:=fun a b c=>(a,b,c)∈out.flatMap rots) (fun a b c g=>(memX a b c g).elim fun t g=>g.2.2.2) (fun a b c g=>by
  obtain ⟨t,ht,g1,g2,g3⟩:=memX a b c g
  exact inX t ht b c a g2 (hM.tri.rot _ _ _ g3)) (fun a b c g d hd hlt=>by
  obtain ⟨t,ht,g1,g2,g3⟩:=memX a b c g
  rcases h.rev t ht a b g1 with k | k
  ·cases k
  ·rcases h.don b a k with ⟨t',ht',k'⟩ | k'
   ·obtain ⟨e,he⟩:=(h.mem t' ht').side hM.tri k'
    exact ⟨e,inX t' ht' b a e k' he⟩
   ·have:=k' d hd
    rw [Ar] at this
    omega) (by
  obtain ⟨x,hx⟩:=hs
  rcases h.sta with k | k
  ·cases k
  ·exact ⟨_,_,_,dnX p0 q0 x k hx⟩) t3
 obtain ⟨t',ht',g⟩:=List.mem_flatMap.1 key
 obtain ⟨s1,s2,s3⟩:=h.mem t' ht'
 obtain ⟨ta,tb,tc⟩:=t
 obtain ⟨sa,sb,sc⟩:=t'
 unfold rots at g
 simp only [List.mem_cons,List.not_mem_nil,or_false,Prod.mk.injEq] at g t1 t2 s1 s2
 rcases g with ⟨rfl,rfl,rfl⟩ | ⟨rfl,rfl,rfl⟩ | ⟨rfl,rfl,rfl⟩
 ·exact ht'
 ·omega
 ·omega
end
end Go.Proofs.YtjfndjmabhbicaaGreat
