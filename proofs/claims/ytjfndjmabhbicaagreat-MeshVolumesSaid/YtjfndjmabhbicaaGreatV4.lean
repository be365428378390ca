/- The reference's apex: the triangle to the left of a side whose circle is the least; ties by the first place. -/
import Derived.Test.YtjfndjmabhbicaaGreatU1
namespace Go.Proofs.YtjfndjmabhbicaaGreat
open Go Go.RowKit
variable {v:List Ab}
def Top (v:List Ab) (a b c:Int):Prop:=inN v.length c/\0 < crs (plV v a) (plV v b) (plV v c)/\∀ d,inN v.length d->0 < crs (plV v a) (plV v b) (plV v d)->d≠c->DH (plV v) (hV v) a b c d < 0
theorem Am1 (a b c d:Int):DH (plV v) (hV v) a b d c = -DH (plV v) (hV v) a b c d:=Ako _ _ _ _ _ _ _ _
theorem Top.unique {a b c d:Int} (h:Top v a b c) (k:Top v a b d):c=d:=by
 by_cases e:c=d
 ·exact e
 ·have h1:=h.2.2 d k.1 k.2.1 (fun g=>e g.symm)
  have h2:=k.2.2 c h.1 h.2.1 e
  rw[Am1] at h2
  omega
theorem Del.top {a b c:Int} (h:Del v a b c):Top v a b c:=by
 obtain ⟨h1,h2,h3,h4,h5⟩:=h
 refine ⟨h3,h4,fun d hd hp hne=>h5 d hd (fun e=>?_) (fun e=>?_) hne⟩
 ·subst e;rw[Bp] at hp;omega
 ·subst e;rw[Bi] at hp;omega
theorem Del.unique {a b c d:Int} (h:Del v a b c) (k:Del v a b d):c=d:=h.top.unique k.top
theorem Top.across {a b c e:Int} (h:Del v a b c) (k:Top v b a e):Del v b a e:=by
 obtain ⟨h1,h2,h3,h4,h5⟩:=h
 obtain ⟨k1,k2,k3⟩:=k
 refine ⟨h2,h1,k1,k2,fun d hd n1 n2 n3=>?_⟩
 by_cases hp:0 < crs (plV v b) (plV v a) (plV v d)
 ·exact k3 d hd hp n3
 have hx:0<=crs (plV v a) (plV v b) (plV v d):=by rw[Ax] at hp;omega
 have he:crs (plV v a) (plV v b) (plV v e) < 0:=by rw[Ax] at k2;omega
 have hne:e≠c:=fun g=>by rw[g] at he;omega
 have hea:e≠a:=fun g=>by rw[g,Bp] at he;omega
 have heb:e≠b:=fun g=>by rw[g,Bi] at he;omega
 have hD:=h5 e k1 hea heb hne
 obtain ⟨p1,p2⟩:=Aap (P:=plV v) (H:=hV v) (a:=a) (b:=b) (c:=c) (d:=d) (h5 d hd)
 have key:=Qc (hV v a) (hV v b) (hV v c) (hV v e) (plV v a) (plV v b) (plV v c) (plV v e) (plV v d)
 unfold DH at hD ⊢
 rw[Acc]
 generalize plt (hV v b) (hV v a) (hV v e) (plV v b) (plV v a) (plV v e) (plV v d)=L at *
 generalize plt (hV v a) (hV v b) (hV v c) (plV v a) (plV v b) (plV v c) (plV v d)=M at *
 generalize Dt (hV v a) (hV v b) (hV v c) (hV v e) (plV v a) (plV v b) (plV v c) (plV v e)=D at *
 have hlt:M*crs (plV v b) (plV v a) (plV v e)+D*crs (plV v a) (plV v b) (plV v d) < hV v d*crs (plV v a) (plV v b) (plV v c)*crs (plV v b) (plV v a) (plV v e):=by
  by_cases g:d=c
  ·subst g
   have e1:=Int.mul_le_mul_of_nonneg_right p1 (Int.le_of_lt k2)
   have e2:=Int.mul_neg_of_neg_of_pos hD h4
   omega
  ·have e1:=Int.mul_lt_mul_of_pos_right (p2 n2 n1 g) k2
   have e2:=Int.mul_nonpos_of_nonpos_of_nonneg (Int.le_of_lt hD) hx
   omega
 have e3:(L-hV v d*crs (plV v b) (plV v a) (plV v e))*crs (plV v a) (plV v b) (plV v c) < 0:=by
  have:(L-hV v d*crs (plV v b) (plV v a) (plV v e))*crs (plV v a) (plV v b) (plV v c)=L*crs (plV v a) (plV v b) (plV v c)-hV v d*crs (plV v a) (plV v b) (plV v c)*crs (plV v b) (plV v a) (plV v e):=by grind
  omega
 rcases Int.lt_or_le (L-hV v d*crs (plV v b) (plV v a) (plV v e)) 0 with g | g
 ·exact g
 ·have:=Int.mul_nonneg g (Int.le_of_lt h4);omega
theorem Top.hull {a b c:Int} (hv:Bu v) (ha:inN v.length a) (hb:inN v.length b) (hl:∀ d,inN v.length d->0<=crs (plV v a) (plV v b) (plV v d))
  (ho:∀ d,inN v.length d->d≠a->d≠b->crs (plV v a) (plV v b) (plV v d)=0->∀ x,0 < crs (plV v a) (plV v b) x->crs (plV v b) x (plV v d) < 0) (k:Top v a b c):Del v a b c:=by
 obtain ⟨k1,k2,k3⟩:=k
 refine ⟨ha,hb,k1,k2,fun d hd n1 n2 n3=>?_⟩
 by_cases hp:0 < crs (plV v a) (plV v b) (plV v d)
 ·exact k3 d hd hp n3
 have h0:crs (plV v a) (plV v b) (plV v d)=0:=by have:=hl d hd;omega
 rw[<- Pj]
 exact Qk hv b c a d hb k1 ha hd (by rw[An];exact k2) (ho d hd n1 n2 h0 _ k2) (.inr (by omega))
def dtp (a b x:Ac):Int:=(x.X-a.X)*(x.X-b.X)+(x.Y-a.Y)*(x.Y-b.Y)
theorem Vq (a b c d:Ac):inC a b c d=dtp a b c*crs a b d-dtp a b d*crs a b c:=by unfold inC dtp lft crs;grind
theorem Aav {a b c d e:Ac} (hc:0 < crs a b c) (hd:0 < crs a b d) (he:0 < crs a b e) (h1:0 < inC a b c d) (h2:inC a b c e<=0):inC a b d e < 0:=by
 rw[Vq] at *
 have e1:dtp a b d*crs a b c < dtp a b c*crs a b d:=by omega
 have e2:dtp a b c*crs a b e<=dtp a b e*crs a b c:=by omega
 have m1:=Int.mul_lt_mul_of_pos_right e1 he
 have m2:=Int.mul_le_mul_of_nonneg_right e2 (Int.le_of_lt hd)
 have m3:(dtp a b d*crs a b e)*crs a b c < (dtp a b e*crs a b d)*crs a b c:=by
  have r1:(dtp a b d*crs a b e)*crs a b c=dtp a b d*crs a b c*crs a b e:=by grind
  have r2:dtp a b c*crs a b d*crs a b e=dtp a b c*crs a b e*crs a b d:=by grind
  have r3:(dtp a b e*crs a b d)*crs a b c=dtp a b e*crs a b c*crs a b d:=by grind
  omega
 have:=Int.lt_of_mul_lt_mul_right m3 (Int.le_of_lt hc)
 omega
theorem Aja {a b c d e:Ac} (hc:0 < crs a b c) (h1:inC a b c d=0):inC a b c e*crs a b d=inC a b d e*crs a b c:=by
 rw[Vq a b c e,Vq a b d e]
 rw[Vq] at h1
 have e1:dtp a b c*crs a b d=dtp a b d*crs a b c:=by omega
 have r1:(dtp a b c*crs a b e-dtp a b e*crs a b c)*crs a b d=dtp a b c*crs a b d*crs a b e-dtp a b e*crs a b c*crs a b d:=by grind
 rw[r1,e1]
 grind
theorem Qf {a b c d e:Ac} (hc:0 < crs a b c) (hd:0 < crs a b d) (h1:inC a b c d=0):(inC a b c e < 0->inC a b d e < 0)/\(inC a b c e=0->inC a b d e=0):=by
 have h:=Aja (e:=e) hc h1
 constructor
 ·intro g
  rcases Int.lt_or_le (inC a b d e) 0 with k | k
  ·exact k
  ·have e1:=Int.mul_nonneg k (Int.le_of_lt hc)
   have e2:=Int.mul_neg_of_neg_of_pos g hd
   omega
 ·intro g
  rw[g,Int.zero_mul] at h
  rcases Int.mul_eq_zero.1 h.symm with k | k
  ·exact k
  ·omega
theorem Ak8 {a b c d:Ac} (hc:0 < crs a b c) (hd:0 < crs a b d) (h0:inC a b c d=0) (h1:crs a c d=0):Bt c d:=by
 have hca:¬ Bt c a:=fun e=>by have:=Abe e;subst this;rw[Bp] at hc;omega
 have L1:=Ais hca
 have e0:lft c a*crs a b d=lft d a*crs a b c:=by
  have:inC a b c d=lft b a*crs c a d+lft c a*crs a b d-lft d a*crs a b c:=by unfold inC lft crs;grind
  rw[h0,Ax,h1] at this
  simp only[Int.neg_zero,Int.mul_zero,Int.zero_add] at this
  omega
 have ex:crs a b c*(d.X-a.X)=crs a b d*(c.X-a.X):=by
  have:crs a b c*(d.X-a.X)-crs a b d*(c.X-a.X) = -(b.X-a.X)*crs a c d:=by unfold crs;grind
  rw[h1,Int.mul_zero] at this
  omega
 have ey:crs a b c*(d.Y-a.Y)=crs a b d*(c.Y-a.Y):=by
  have:crs a b c*(d.Y-a.Y)-crs a b d*(c.Y-a.Y) = -(b.Y-a.Y)*crs a c d:=by unfold crs;grind
  rw[h1,Int.mul_zero] at this
  omega
 generalize hk1:crs a b c=k1 at *
 generalize hk2:crs a b d=k2 at *
 have e2:k1*(k1*lft d a)=k2*(k2*lft c a):=by
  unfold lft
  have x2:(k1*(d.X-a.X))*(k1*(d.X-a.X))=(k2*(c.X-a.X))*(k2*(c.X-a.X)):=by rw[ex]
  have y2:(k1*(d.Y-a.Y))*(k1*(d.Y-a.Y))=(k2*(c.Y-a.Y))*(k2*(c.Y-a.Y)):=by rw[ey]
  grind
 have e3:(lft c a*k2)*(k1-k2)=0:=by
  have:k1*(k1*lft d a)=k1*(lft c a*k2):=by rw[e0,Int.mul_comm k1 (lft d a)]
  grind
 have e4:k1=k2:=by
  rcases Int.mul_eq_zero.1 e3 with g | g
  ·rcases Int.mul_eq_zero.1 g with g | g <;> omega
  ·omega
 subst e4
 have gx:=Int.eq_of_mul_eq_mul_left (by omega) ex
 have gy:=Int.eq_of_mul_eq_mul_left (by omega) ey
 unfold Bt
 omega
theorem Aq5 {a b c d:Ac} (hc:0 < crs a b c) (h0:inC a b c d=0) (h1:0 < crs a c d) (hd:0 < crs a b d):0 < crs b c d:=by
 rcases Int.lt_or_le 0 (crs b c d) with g | g
 ·exact g
 ·have:=Ya (a:=c) (b:=a) (c:=b) (d:=d) (by rw[<- An];exact hc) (by rw[Ax];omega) g
  rw[<- Adu,h0] at this
  omega
variable {v:List Ab} {a b:Int}
structure Best (v:List Ab) (a b k:Int) (s:List Int):Prop where
 mem:∀ c∈s,inN v.length c/\c < k/\0 < crs (plV v a) (plV v b) (plV v c)
 none:s=[]->∀ d,inN v.length d->d < k->crs (plV v a) (plV v b) (plV v d)<=0
 top:∀ c∈s,∀ d,inN v.length d->d < k->0 < crs (plV v a) (plV v b) (plV v d)->(inC (plV v a) (plV v b) (plV v c) (plV v d) < 0/\d ∉ s)\/(inC (plV v a) (plV v b) (plV v c) (plV v d)=0/\d∈s)
 nd:s.Nodup
theorem Best.nil:Best v a b 0 []:=⟨fun c h=>(by cases h),fun _ d hd h=>by unfold inN at hd;omega,fun c h=>(by cases h),List.nodup_nil⟩
theorem Best.skip {k:Int} {s:List Int} (h:Best v a b k s) (hk:crs (plV v a) (plV v b) (plV v k)<=0):Best v a b (k+1) s:=by
 refine ⟨fun c hc=>?_,fun e d hd hl=>?_,fun c hc d hd hl hp=>?_,h.nd⟩
 ·obtain ⟨h1,h2,h3⟩:=h.mem c hc
  exact ⟨h1,by omega,h3⟩
 ·by_cases g:d=k
  ·subst g;exact hk
  ·exact h.none e d hd (by omega)
 ·by_cases g:d=k
  ·subst g;omega
  ·exact h.top c hc d hd (by omega) hp
theorem Aaw (a b c:Ac):inC a b c c=0:=by unfold inC lft crs;grind
theorem Best.one {k:Int} (hk:inN v.length k) (hp:0 < crs (plV v a) (plV v b) (plV v k)) (ho:∀ d,inN v.length d->d < k->0 < crs (plV v a) (plV v b) (plV v d)->inC (plV v a) (plV v b) (plV v k) (plV v d) < 0):Best v a b (k+1) [k]:=by
 refine ⟨fun c hc=>?_,fun e=>(by cases e),fun c hc d hd hl hq=>?_,by simp⟩
 ·rw[List.mem_singleton] at hc
  subst hc
  exact ⟨hk,by omega,hp⟩
 ·rw[List.mem_singleton] at hc
  subst hc
  by_cases g:d=c
  ·subst g;exact .inr ⟨Aaw _ _ _,List.mem_singleton.2 rfl⟩
  ·exact .inl ⟨ho d hd (by omega) hq,by simpa using g⟩
theorem Best.first {k:Int} (h:Best v a b k []) (hk:inN v.length k) (hp:0 < crs (plV v a) (plV v b) (plV v k)):Best v a b (k+1) [k] :=
 Best.one hk hp fun d hd hl hq=>by have:=h.none rfl d hd hl;omega
theorem Best.better {k c:Int} {s:List Int} (h:Best v a b k s) (hk:inN v.length k) (hp:0 < crs (plV v a) (plV v b) (plV v k)) (hc:c∈s) (hi:0 < inC (plV v a) (plV v b) (plV v c) (plV v k)):Best v a b (k+1) [k] :=
 Best.one hk hp fun d hd hl hq=>Aav (h.mem c hc).2.2 hp hq hi (by rcases h.top c hc d hd hl hq with g | g <;> omega)
theorem Best.worse {k c:Int} {s:List Int} (h:Best v a b k s) (hc:c∈s) (hi:inC (plV v a) (plV v b) (plV v c) (plV v k) < 0):Best v a b (k+1) s:=by
 refine ⟨fun x hx=>?_,fun e=>(by rw[e] at hc;cases hc),fun x hx d hd hl hp=>?_,h.nd⟩
 ·obtain ⟨h1,h2,h3⟩:=h.mem x hx
  exact ⟨h1,by omega,h3⟩
 ·by_cases g:d=k
  ·subst g
   refine .inl ⟨?_,fun e=>?_⟩
   ·obtain ⟨h1,h2,h3⟩:=h.mem x hx
    obtain ⟨q1,q2,q3⟩:=h.mem c hc
    have h0:inC (plV v a) (plV v b) (plV v c) (plV v x)=0:=by
     rcases h.top c hc x h1 h2 h3 with g | g
     ·exact absurd hx g.2
     ·exact g.1
    exact (Qf q3 h3 h0).1 hi
   ·have:=(h.mem d e).2.1;omega
  ·exact h.top x hx d hd (by omega) hp
theorem Best.tie {k c:Int} {s:List Int} (h:Best v a b k s) (hk:inN v.length k) (hp:0 < crs (plV v a) (plV v b) (plV v k)) (hc:c∈s) (hi:inC (plV v a) (plV v b) (plV v c) (plV v k)=0):Best v a b (k+1) (s++[k]):=by
 have same:∀ x∈s,inC (plV v a) (plV v b) (plV v x) (plV v k)=0:=fun x hx=>by
  obtain ⟨h1,h2,h3⟩:=h.mem x hx
  obtain ⟨q1,q2,q3⟩:=h.mem c hc
  have h0:inC (plV v a) (plV v b) (plV v c) (plV v x)=0:=by
   rcases h.top c hc x h1 h2 h3 with g | g
   ·exact absurd hx g.2
   ·exact g.1
  exact (Qf q3 h3 h0).2 hi
 refine ⟨fun x hx=>?_,fun e=>(by simp at e),fun x hx d hd hl hq=>?_,?_⟩
 ·rcases List.mem_append.1 hx with hx | hx
  ·obtain ⟨h1,h2,h3⟩:=h.mem x hx
   exact ⟨h1,by omega,h3⟩
  ·rw[List.mem_singleton] at hx
   subst hx
   exact ⟨hk,by omega,hp⟩
 ·by_cases g:d=k
  ·subst g
   refine .inr ⟨?_,by simp⟩
   rcases List.mem_append.1 hx with hx | hx
   ·exact same x hx
   ·rw[List.mem_singleton] at hx
    subst hx
    exact Aaw _ _ _
  ·have hnk:d ∉ [k]:=by simpa using g
   rcases List.mem_append.1 hx with hx | hx
   ·rcases h.top x hx d hd (by omega) hq with ⟨g1,g2⟩ | ⟨g1,g2⟩
    ·exact .inl ⟨g1,fun e=>(List.mem_append.1 e).elim g2 hnk⟩
    ·exact .inr ⟨g1,List.mem_append.2 (.inl g2)⟩
   ·rw[List.mem_singleton] at hx
    subst hx
    obtain ⟨q1,q2,q3⟩:=h.mem c hc
    rcases h.top c hc d hd (by omega) hq with ⟨g1,g2⟩ | ⟨g1,g2⟩
    ·exact .inl ⟨(Qf q3 hp hi).1 g1,fun e=>(List.mem_append.1 e).elim g2 hnk⟩
    ·exact .inr ⟨(Qf q3 hp hi).2 g1,List.mem_append.2 (.inl g2)⟩
 ·rw[List.nodup_append]
  refine ⟨h.nd,by simp,fun x hx y hy e=>?_⟩
  rw[List.mem_singleton] at hy
  subst hy
  subst e
  have:=(h.mem x hx).2.1
  omega
structure Circ (v:List Ab) (a b:Int) (l:List Int):Prop where
 mem:∀ c∈l,inN v.length c/\0 < crs (plV v a) (plV v b) (plV v c)
 on:∀ c∈l,∀ d∈l,inC (plV v a) (plV v b) (plV v c) (plV v d)=0
 nd:l.Nodup
theorem Best.circ {k:Int} {s:List Int} (h:Best v a b k s):Circ v a b s :=
 ⟨fun c hc=>⟨(h.mem c hc).1,(h.mem c hc).2.2⟩,fun c hc d hd=>by
  obtain ⟨h1,h2,h3⟩:=h.mem d hd
  rcases h.top c hc d h1 h2 h3 with g | g
  ·exact absurd hd g.2
  ·exact g.1,h.nd⟩
theorem Circ.sub {l l':List Int} (h:Circ v a b l) (hs:∀ x∈l',x∈l) (hn:l'.Nodup):Circ v a b l':=⟨fun c hc=>h.mem c (hs c hc),fun c hc d hd=>h.on c (hs c hc) d (hs d hd),hn⟩
theorem Circ.ne0 {l:List Int} (hv:Bu v) (h:Circ v a b l) {c d:Int} (hc:c∈l) (hd:d∈l) (hne:c≠d):crs (plV v a) (plV v c) (plV v d)≠0:=fun e=>by
 obtain ⟨c1,c2⟩:=h.mem c hc
 obtain ⟨d1,d2⟩:=h.mem d hd
 exact hne (hv.dist c d c1 d1 (Ak8 c2 d2 (h.on c hc d hd) e))
theorem Circ.trans {l:List Int} (h:Circ v a b l) {c d e:Int} (hc:c∈l) (hd:d∈l) (he:e∈l) (h1:0 < crs (plV v a) (plV v c) (plV v d)) (h2:0 < crs (plV v a) (plV v d) (plV v e)):0 < crs (plV v a) (plV v c) (plV v e):=by
 have p:=Rw (plV v a) (plV v b) (plV v c) (plV v d) (plV v e)
 have e1:=Int.mul_pos (h.mem c hc).2 h2
 have e2:=Int.mul_pos (h.mem e he).2 h1
 refine Ce (x:=crs (plV v a) (plV v b) (plV v d)) ?_ (h.mem d hd).2
 omega
structure Ring (v:List Ab) (a b:Int) (l:List Int):Prop where
 circ:Circ v a b l
 ord:l.Pairwise fun x y=>0 < crs (plV v a) (plV v x) (plV v y)
def Ans (v:List Ab) (a b:Int) (l:List Int) (c:Int):Prop:=c∈l/\∀ d∈l,d≠c->DH (plV v) (hV v) a b c d < 0
section
variable (hv:Bu v) (ha:inN v.length a) (hb:inN v.length b) {l:List Int}
include hv ha hb
theorem Ring.ans_a {c:Int} {l:List Int} (h:Ring v a b (l++[c])) (hab:befP (plV v a) (plV v b)) (hf:∀ x∈l++[c],befP (plV v a) (plV v x)):Ans v a b (l++[c]) c:=by
 have hc:c∈l++[c]:=by simp
 refine ⟨hc,fun d hd hne=>?_⟩
 obtain ⟨c1,c2⟩:=h.circ.mem c hc
 obtain ⟨d1,d2⟩:=h.circ.mem d hd
 have hdl:d∈l:=by
  rcases List.mem_append.1 hd with g | g
  ·exact g
  ·exact absurd (List.mem_singleton.1 g) hne
 have hdc:0 < crs (plV v a) (plV v d) (plV v c):=(List.pairwise_append.1 h.ord).2.2 d hdl c (by simp)
 have:=Aq5 d2 (h.circ.on d hd c hc) hdc c2
 refine (Tl hv ha hb c1 d1 (h.circ.on c hc d hd) hab (hf c hc) (hf d hd)).2 ?_
 rw[Aex]
 omega
theorem Ring.ans_b {c:Int} {l:List Int} (h:Ring v a b (c::l)) (hab:befP (plV v b) (plV v a)) (hf:∀ x∈c::l,befP (plV v b) (plV v x)):Ans v a b (c::l) c:=by
 have hc:c∈c::l:=by simp
 refine ⟨hc,fun d hd hne=>?_⟩
 obtain ⟨c1,c2⟩:=h.circ.mem c hc
 obtain ⟨d1,d2⟩:=h.circ.mem d hd
 have hdl:d∈l:=by
  rcases List.mem_cons.1 hd with g | g
  ·exact absurd g hne
  ·exact g
 have hcd:0 < crs (plV v a) (plV v c) (plV v d):=(List.pairwise_cons.1 h.ord).1 d hdl
 rw[<- Pj]
 refine (Tl hv hb c1 ha d1 (by rw[Adu];exact h.circ.on c hc d hd) (hf c hc) hab (hf d hd)).2 ?_
 rw[Ax]
 omega
theorem Ring.ans_cut {x c:Int} (h:Ring v a b l) (hx:x∈l) (hxa:befP (plV v x) (plV v a)) (hxb:befP (plV v x) (plV v b)) (hf:∀ y∈l,y≠x->befP (plV v x) (plV v y)) {l':List Int} (hl:∀ y,y∈l'↔y∈l/\y≠x) (hc:Ans v a b l' c):Ans v a b l c:=by
 obtain ⟨h1,h2⟩:=hc
 obtain ⟨hcl,hcx⟩:=(hl c).1 h1
 obtain ⟨c1,c2⟩:=h.circ.mem c hcl
 obtain ⟨x1,x2⟩:=h.circ.mem x hx
 refine ⟨hcl,fun d hd hne=>?_⟩
 by_cases e:d=x
 ·subst e
  exact Afp hv ha hb c1 x1 (h.circ.on c hcl d hx) hxa hxb (hf c hcl hcx) c2
 ·exact h2 d ((hl d).2 ⟨hd,e⟩) hne
theorem Best.ans {s l:List Int} {c:Int} (h:Best v a b v.length s) (hp:∀ x,x∈l↔x∈s) (hc:Ans v a b l c):Top v a b c:=by
 obtain ⟨h1,h2⟩:=hc
 have hcs:=(hp c).1 h1
 obtain ⟨c1,_,c2⟩:=h.mem c hcs
 refine ⟨c1,c2,fun d hd hq hne=>?_⟩
 rcases h.top c hcs d hd hd.2 hq with g | g
 ·exact Afo hv ha hb c1 hd g.1
 ·exact h2 d ((hp d).2 g.2) hne
end
variable {v:List Ab} {p0 q0:Int}
def Ft (t:Ae) (p q:Int):Prop:=(p=t.a0/\q=t.a1)\/(p=t.a1/\q=t.a2)\/(p=t.a2/\q=t.a0)
def Ajb (v:List Ab) (t:Ae):Prop:=t.a0 < t.a1/\t.a0 < t.a2/\Del v t.a0 t.a1 t.a2
theorem Ajb.side {t:Ae} (h:Ajb v t) {p q:Int} (hs:Ft t p q):∃ e,Del v p q e:=by
 obtain ⟨_,_,h⟩:=h
 rcases hs with ⟨rfl,rfl⟩ | ⟨rfl,rfl⟩ | ⟨rfl,rfl⟩
 ·exact ⟨_,h⟩
 ·exact ⟨_,h.rot⟩
 ·exact ⟨_,h.rot.rot⟩
def noT (v:List Ab) (p q:Int):Prop:=∀ d,inN v.length d->crs (plV v p) (plV v q) (plV v d)<=0
def okS (v:List Ab) (p q:Int):Prop:=inN v.length p/\inN v.length q/\(noT v p q\/∃ e,Del v p q e)
structure Tr (v:List Ab) (p0 q0:Int) (op:List Aa) (dn:Int->Int->Prop) (out:List Ae):Prop where
 mem:∀ t∈out,Ajb v t
 nd:out.Nodup
 opn:∀ s∈op,okS v s.a0 s.a1
 don:∀ p q,dn p q->(∃ t∈out,Ft t p q)\/noT v p q
 all:∀ t∈out,∀ p q,Ft t p q->dn p q
 rev:∀ t∈out,∀ p q,Ft t p q->⟨q,p⟩∈op\/dn q p
 sta:⟨p0,q0⟩∈op\/dn p0 q0
 len:op.length<=3*out.length+1
theorem Tr.init {dn:Int->Int->Prop} (h:okS v p0 q0) (hd:∀ p q,¬ dn p q):Tr v p0 q0 [⟨p0,q0⟩] dn [] :=
 ⟨fun t h=>(by cases h),List.nodup_nil,fun s hs=>by rw[List.mem_singleton] at hs;subst hs;exact h,fun p q g=>absurd g (hd p q),fun t h=>(by cases h),fun t h=>(by cases h),.inl (by simp),by simp⟩
theorem Ye {x s:Aa} {op:List Aa} (h:x∈op++[s]):x∈op\/x=s:=by simpa using h
theorem Tr.skip {op:List Aa} {dn:Int->Int->Prop} {out:List Ae} {s:Aa} (h:Tr v p0 q0 (op++[s]) dn out) (hs:dn s.a0 s.a1):Tr v p0 q0 op dn out :=
 ⟨h.mem,h.nd,fun x hx=>h.opn x (by simp[hx]),h.don,h.all,fun t ht p q hp=>(h.rev t ht p q hp).elim (fun g=>(Ye g).imp id fun e=>by subst e;exact hs) .inr,
  h.sta.elim (fun g=>(Ye g).imp id fun e=>by subst e;exact hs) .inr,by have:=h.len;rw[List.length_append,List.length_singleton] at this;omega⟩
theorem Tr.none {op:List Aa} {dn dn':Int->Int->Prop} {out:List Ae} {s:Aa} (h:Tr v p0 q0 (op++[s]) dn out) (hd:∀ p q,dn' p q↔dn p q\/(p=s.a0/\q=s.a1)) (hn:noT v s.a0 s.a1):Tr v p0 q0 op dn' out:=by
 have key:Tr v p0 q0 (op++[s]) dn' out:=⟨h.mem,h.nd,h.opn,fun p q g=>by
  rcases (hd p q).1 g with g | ⟨rfl,rfl⟩
  ·exact h.don p q g
  ·exact .inr hn,fun t ht p q hp=>(hd p q).2 (.inl (h.all t ht p q hp)),fun t ht p q hp=>(h.rev t ht p q hp).imp id fun g=>(hd _ _).2 (.inl g),h.sta.imp id fun g=>(hd _ _).2 (.inl g),h.len⟩
 exact key.skip ((hd _ _).2 (.inr ⟨rfl,rfl⟩))
theorem Tr.more {op:List Aa} {dn dn':Int->Int->Prop} {out:List Ae} {s:Aa} {t:Ae} (h:Tr v p0 q0 (op++[s]) dn out) (hs:¬ dn s.a0 s.a1) (ht:Ajb v t) (hst:Ft t s.a0 s.a1)
  (hd:∀ p q,dn' p q↔dn p q\/Ft t p q) (hx:∀ p q,Ft t p q->okS v q p):Tr v p0 q0 (op++[⟨t.a1,t.a0⟩,⟨t.a2,t.a1⟩,⟨t.a0,t.a2⟩]) dn' (out++[t]):=by
 have hin:∀ {p q:Int},⟨p,q⟩∈op++[s]->(⟨p,q⟩:Aa)∈op++[⟨t.a1,t.a0⟩,⟨t.a2,t.a1⟩,⟨t.a0,t.a2⟩]\/dn' p q:=fun {p q} g=>by
  rcases Ye g with g | g
  ·exact .inl (List.mem_append.2 (.inl g))
  ·right
   rw[<- g] at hst
   exact (hd _ _).2 (.inr hst)
 refine ⟨fun x hx=>?_,?_,fun x hx'=>?_,fun p q g=>?_,fun x hx' p q g=>?_,fun x hx' p q g=>?_,?_,?_⟩
 ·rcases List.mem_append.1 hx with hx | hx
  ·exact h.mem x hx
  ·rw[List.mem_singleton] at hx;subst hx;exact ht
 ·rw[List.nodup_append]
  refine ⟨h.nd,by simp,fun x hm y hy e=>?_⟩
  rw[List.mem_singleton] at hy
  rw[hy] at e
  rw[e] at hm
  exact hs (h.all t hm _ _ hst)
 ·rcases List.mem_append.1 hx' with hx' | hx'
  ·exact h.opn x (by simp[hx'])
  ·simp only[List.mem_cons,List.not_mem_nil,or_false] at hx'
   rcases hx' with rfl | rfl | rfl
   ·exact hx t.a0 t.a1 (.inl ⟨rfl,rfl⟩)
   ·exact hx t.a1 t.a2 (.inr (.inl ⟨rfl,rfl⟩))
   ·exact hx t.a2 t.a0 (.inr (.inr ⟨rfl,rfl⟩))
 ·rcases (hd p q).1 g with g | g
  ·rcases h.don p q g with ⟨x,hx,g⟩ | g
   ·exact .inl ⟨x,by simp[hx],g⟩
   ·exact .inr g
  ·exact .inl ⟨t,by simp,g⟩
 ·rcases List.mem_append.1 hx' with hx' | hx'
  ·exact (hd p q).2 (.inl (h.all x hx' p q g))
  ·rw[List.mem_singleton] at hx';subst hx';exact (hd p q).2 (.inr g)
 ·rcases List.mem_append.1 hx' with hx' | hx'
  ·rcases h.rev x hx' p q g with g | g
   ·exact hin g
   ·exact .inr ((hd _ _).2 (.inl g))
  ·rw[List.mem_singleton] at hx'
   subst hx'
   left
   refine List.mem_append.2 (.inr ?_)
   rcases g with ⟨rfl,rfl⟩ | ⟨rfl,rfl⟩ | ⟨rfl,rfl⟩ <;> simp
 ·rcases h.sta with g | g
  ·exact hin g
  ·exact .inr ((hd _ _).2 (.inl g))
 ·have:=h.len
  simp only[List.length_append,List.length_cons,List.length_nil] at this ⊢
  omega
theorem Ak9 {out:List Ae} (hmem:∀ t∈out,Ajb v t) (hnd:out.Nodup):out.length<=v.length*v.length:=by
 have h1:(out.map fun t=>(t.a0.toNat*v.length+t.a1.toNat)).Nodup:=by
  unfold List.Nodup
  rw[List.pairwise_map]
  refine List.Pairwise.imp_of_mem ?_ hnd
  intro x y hx hy hne e
  obtain ⟨x1,x2,x3⟩:=hmem x hx
  obtain ⟨y1,y2,y3⟩:=hmem y hy
  have x4:=x3.1
  have x5:=x3.2.1
  have y4:=y3.1
  have y5:=y3.2.1
  unfold inN at x4 x5 y4 y5
  have e1:x.a1.toNat=y.a1.toNat:=by
   have:=congrArg (· % v.length) e
   simp only[Nat.mul_add_mod_self_right] at this
   rwa [Nat.mod_eq_of_lt (by omega),Nat.mod_eq_of_lt (by omega)] at this
  have e2:x.a0.toNat=y.a0.toNat:=by
   rw[e1] at e
   have e':x.a0.toNat*v.length=y.a0.toNat*v.length:=by omega
   exact Nat.eq_of_mul_eq_mul_right (by omega) e'
  have e3:x.a0=y.a0:=by omega
  have e4:x.a1=y.a1:=by omega
  apply hne
  obtain ⟨xa,xb,xc⟩:=x
  obtain ⟨ya,yb,yc⟩:=y
  simp only at e3 e4 x3 y3
  subst e3;subst e4
  rw[x3.unique y3]
 have:=Dh (m:=List.range (v.length*v.length)) h1 fun x hx=>by
  obtain ⟨t,ht,rfl⟩:=List.mem_map.1 hx
  obtain ⟨_,_,t3⟩:=hmem t ht
  have t4:=t3.1
  have t5:=t3.2.1
  unfold inN at t4 t5
  rw[List.mem_range]
  have h3:t.a0.toNat+1<=v.length:=by omega
  have:=Nat.mul_le_mul_right v.length h3
  rw[Nat.add_mul] at this
  omega
 rwa [List.length_map,List.length_range] at this
theorem Tr.bound {op:List Aa} {dn:Int->Int->Prop} {out:List Ae} (h:Tr v p0 q0 op dn out):out.length<=v.length*v.length:=Ak9 h.mem h.nd
def rots (t:Ae):List T3:=[(t.a0,t.a1,t.a2),(t.a1,t.a2,t.a0),(t.a2,t.a0,t.a1)]
theorem Tr.full {dn:Int->Int->Prop} {out:List Ae} (h:Tr v p0 q0 [] dn out) (hs:∃ e,Del v p0 q0 e) (t:Ae):t∈out↔t.a0 < t.a1/\t.a0 < t.a2/\Del v t.a0 t.a1 t.a2:=by
 refine ⟨fun ht=>h.mem t ht,fun ⟨t1,t2,t3⟩=>?_⟩
 have memX:∀ a b c:Int,(a,b,c)∈out.flatMap rots->∃ t∈out,Ft t a b/\Del v a b c:=fun a b c g=>by
  obtain ⟨t,ht,g⟩:=List.mem_flatMap.1 g
  have:=(h.mem t ht).2.2
  unfold rots at g
  simp only[List.mem_cons,List.not_mem_nil,or_false] at g
  rcases g with g | g | g <;> cases g
  ·exact ⟨t,ht,.inl ⟨rfl,rfl⟩,this⟩
  ·exact ⟨t,ht,.inr (.inl ⟨rfl,rfl⟩),this.rot⟩
  ·exact ⟨t,ht,.inr (.inr ⟨rfl,rfl⟩),this.rot.rot⟩
 have inX:∀ t∈out,∀ a b c,Ft t a b->Del v a b c->(a,b,c)∈out.flatMap rots:=fun t ht a b c g hd=>by
  have:=(h.mem t ht).2.2
  refine List.mem_flatMap.2 ⟨t,ht,?_⟩
  unfold rots
  rcases g with ⟨rfl,rfl⟩ | ⟨rfl,rfl⟩ | ⟨rfl,rfl⟩
  ·rw[hd.unique this];simp
  ·rw[hd.unique this.rot];simp
  ·rw[hd.unique this.rot.rot];simp
 have hX:Aao (plV v) (out.flatMap rots):=⟨fun a b c g=>by
  obtain ⟨t,ht,g1,g2⟩:=memX a b c g
  refine inX t ht b c a ?_ g2.rot
  have:=(h.mem t ht).2.2
  rcases g1 with ⟨rfl,rfl⟩ | ⟨rfl,rfl⟩ | ⟨rfl,rfl⟩
  ·rw[g2.unique this];exact .inr (.inl ⟨rfl,rfl⟩)
  ·rw[g2.unique this.rot];exact .inr (.inr ⟨rfl,rfl⟩)
  ·rw[g2.unique this.rot.rot];exact .inl ⟨rfl,rfl⟩,fun a b c g=>by
  obtain ⟨t,ht,g1,g2⟩:=memX a b c g
  exact g2.2.2.2.1⟩
 have dnX:∀ p q e,dn p q->Del v p q e->(p,q,e)∈out.flatMap rots:=fun p q e g hd=>by
  rcases h.don p q g with ⟨t,ht,g⟩ | g
  ·exact inX t ht p q e g hd
  ·have:=g e hd.2.2.1
   have:=hd.2.2.2.1
   omega
 have:=Afj (H:=hV v) (V:=inN v.length) hX (fun a b c g=>by obtain ⟨t,ht,g1,g2⟩:=memX a b c g;exact ⟨g2.1,g2.2.1,g2.2.2.1⟩) (fun a b c g=>by obtain ⟨t,ht,g1,g2⟩:=memX a b c g;exact g2.2.2.2.2)
  (fun a b c g d hd hl=>by
   obtain ⟨t,ht,g1,g2⟩:=memX a b c g
   rcases h.rev t ht a b g1 with k | k
   ·cases k
   ·rcases h.don b a k with ⟨t',ht',k'⟩ | k'
    ·obtain ⟨e,he⟩:=(h.mem t' ht').side k'
     exact ⟨e,inX t' ht' b a e k' he⟩
    ·have:=k' d hd
     rw[Ax] at this
     omega)
  (fun e=>by
   obtain ⟨x,hx⟩:=hs
   rcases h.sta with k | k
   ·cases k
   ·have:=dnX p0 q0 x k hx
    rw[e] at this
    cases this) t3.1 t3.2.1 t3.2.2.1 t3.2.2.2.1 t3.2.2.2.2
 obtain ⟨t',ht',g⟩:=List.mem_flatMap.1 this
 obtain ⟨s1,s2,s3⟩:=h.mem t' ht'
 obtain ⟨ta,tb,tc⟩:=t
 obtain ⟨sa,sb,sc⟩:=t'
 unfold rots at g
 simp only[List.mem_cons,List.not_mem_nil,or_false,Prod.mk.injEq] at g t1 t2 s1 s2
 rcases g with ⟨rfl,rfl,rfl⟩ | ⟨rfl,rfl,rfl⟩ | ⟨rfl,rfl,rfl⟩
 ·exact ht'
 ·omega
 ·omega
variable {v:List Ab}
def behind (v:List Ab) (f b k:Int):Prop:=0 < crs (plV v f) (plV v b) (plV v k)\/(crs (plV v f) (plV v b) (plV v k)=0/\¬ befP (plV v k) (plV v b))
theorem Ao3 (hv:Bu v) (hn:v.length<=1024) {f:Int} (hf:inN v.length f) (low:∀ k,inN v.length k->k=f\/befP (plV v f) (plV v k)) (h2:2<=v.length) :
  ∃ b,Ng v f false=some b/\inN v.length b/\b≠f/\∀ k,inN v.length k->k≠f->behind v f b k:=by
 unfold Ng
 rw[jn_d]
 have up:∀ k,inN v.length k->k≠f->ph lexA 1 (plV v f) < ph lexA 1 (plV v k):=fun k hk hne=>(Ash (hv.ok f hf) (hv.ok k hk)).2 ((low k hk).resolve_left hne)
 have:=Bl (B:=Ms v f false) (fun s=>v.length-s.2.toNat)
  (fun s=>0<=s.2/\s.2<=(v.length:Int)/\((s.1 = -1/\∀ j,inN v.length j->j < s.2->j=f)\/(inN v.length s.1/\s.1≠f/\∀ j,inN v.length j->j < s.2->j≠f->behind v f s.1 j))) (fun t=>inN v.length t/\t≠f/\∀ k,inN v.length k->k≠f->behind v f t k) (fun s hs=>by
   obtain ⟨out,k⟩:=s
   obtain ⟨h1,h2',h3⟩:=hs
   simp only at h1 h2' h3
   unfold Ms
   dsimp only
   by_cases hk:k < (v.length:Int)
   ·left
    have hkn:inN v.length k:=⟨h1,hk⟩
    have w1:w64 (k+1)=k+1:=Ay (by omega) (by omega)
    rw[if_pos hk,jn_d]
    by_cases e1:k=f
    ·rw[if_pos e1,w1]
     refine ⟨_,rfl,⟨by dsimp only;omega,by dsimp only;omega,?_⟩,by dsimp only;omega⟩
     dsimp only
     rcases h3 with ⟨g1,g2⟩ | ⟨g1,g2,g3⟩
     ·exact .inl ⟨g1,fun j hj hl=>by
       by_cases e:j=k
       ·rw[e];exact e1
       ·exact g2 j hj (by omega)⟩
     ·exact .inr ⟨g1,g2,fun j hj hl hne=>g3 j hj (by omega) hne⟩
    ·rw[if_neg e1]
     have self:behind v f k k:=.inr ⟨Bi _ _,Anl _⟩
     by_cases e2:out < 0
     ·rw[if_pos e2,w1]
      have h4:∀ j,inN v.length j->j < k->j=f:=by
       rcases h3 with ⟨_,g⟩ | ⟨g,_⟩
       ·exact g
       ·unfold inN at g;omega
      refine ⟨_,rfl,⟨by dsimp only;omega,by dsimp only;omega,.inr ⟨hkn,e1,fun j hj hl hne=>?_⟩⟩,by dsimp only;omega⟩
      dsimp only at hl ⊢
      by_cases e:j=k
      ·rw[e];exact self
      ·exact absurd (h4 j hj (by omega)) hne
     ·rw[if_neg e2]
      obtain ⟨g1,g2,g3⟩:inN v.length out/\out≠f/\∀ j,inN v.length j->j < k->j≠f->behind v f out j:=by
       rcases h3 with g | g
       ·omega
       ·exact g
      obtain ⟨xa,fa,pa⟩:=If (v:=v) hf
      obtain ⟨xo,fo,po⟩:=If (v:=v) g1
      obtain ⟨xk,fk,pk⟩:=If (v:=v) hkn
      try rw[jn_d]
      rw[fa,Ad,fo,Ad,fk,Ad]
      unfold Aj
      rw[Ad,Ad,Ad]
      dsimp only
      rw[pa,po,pk,Qs (hv.ok _ hf) (hv.ok _ g1) (hv.ok _ hkn),Ad,jn_d,Acu (hv.ok _ hf) (hv.ok _ g1) (hv.ok _ hkn),w1]
      have sg:Int.sign (crs (plV v f) (plV v out) (plV v k)) < 0↔crs (plV v f) (plV v out) (plV v k) < 0:=Int.sign_neg_iff
      have s0:Int.sign (crs (plV v f) (plV v out) (plV v k))=0↔crs (plV v f) (plV v out) (plV v k)=0:=Int.sign_eq_zero_iff_zero
      have po':=up out g1 g2
      have pk':=up k hkn e1
      have take:(∀ j,inN v.length j->j < k->j≠f->behind v f k j)->∃ s',(some (.inl (k,k+1)):Option (Sum (Int × Int) Int))=some (.inl s')/\(0<=s'.2/\s'.2<=(v.length:Int)/\((s'.1 = -1/\∀ j,inN v.length j->j < s'.2->j=f)\/(inN v.length s'.1/\s'.1≠f/\∀ j,inN v.length j->j < s'.2->j≠f->behind v f s'.1 j)))/\v.length-s'.2.toNat < v.length-k.toNat:=fun hx=>
       ⟨_,rfl,⟨by dsimp only;omega,by dsimp only;omega,.inr ⟨hkn,e1,fun j hj hl hne=>by
        dsimp only at hl ⊢
        by_cases e:j=k
        ·rw[e];exact self
        ·exact hx j hj (by omega) hne⟩⟩,by dsimp only;omega⟩
      have keep:behind v f out k->∃ s',(some (.inl (out,k+1)):Option (Sum (Int × Int) Int))=some (.inl s')/\(0<=s'.2/\s'.2<=(v.length:Int)/\((s'.1 = -1/\∀ j,inN v.length j->j < s'.2->j=f)\/(inN v.length s'.1/\s'.1≠f/\∀ j,inN v.length j->j < s'.2->j≠f->behind v f s'.1 j)))/\v.length-s'.2.toNat < v.length-k.toNat:=fun hx=>
       ⟨_,rfl,⟨by dsimp only;omega,by dsimp only;omega,.inr ⟨g1,g2,fun j hj hl hne=>by
        dsimp only at hl ⊢
        by_cases e:j=k
        ·rw[e];exact hx
        ·exact g3 j hj (by omega) hne⟩⟩,by dsimp only;omega⟩
      have turn:∀ j,(ph lexA 1 (plV v out)-ph lexA 1 (plV v f))*crs (plV v f) (plV v k) (plV v j)=(ph lexA 1 (plV v k)-ph lexA 1 (plV v f))*crs (plV v f) (plV v out) (plV v j)-(ph lexA 1 (plV v j)-ph lexA 1 (plV v f))*crs (plV v f) (plV v out) (plV v k):=fun j=>by
       have:=Aoh lexA 1 (plV v f) (plV v out) (plV v k) (plV v j)
       rw[Aex (plV v f) (plV v out) (plV v j),Int.mul_neg] at this
       omega
      by_cases c1:crs (plV v f) (plV v out) (plV v k) < 0
      ·rw[if_pos (sg.2 c1)]
       dsimp only
       rw[if_pos rfl]
       refine take fun j hj hl hne=>.inl ?_
       have t:=turn j
       have m2:=Int.mul_pos (show 0 < ph lexA 1 (plV v j)-ph lexA 1 (plV v f) by have:=up j hj hne;omega) (show 0 < -crs (plV v f) (plV v out) (plV v k) by omega)
       rw[Int.mul_neg] at m2
       have m1:0<=(ph lexA 1 (plV v k)-ph lexA 1 (plV v f))*crs (plV v f) (plV v out) (plV v j):=Int.mul_nonneg (by omega) (by rcases g3 j hj hl hne with g | g <;> omega)
       exact Afi (x:=ph lexA 1 (plV v out)-ph lexA 1 (plV v f)) (by omega) (by omega)
      ·rw[if_neg (fun g=>c1 (sg.1 g))]
       by_cases c2:crs (plV v f) (plV v out) (plV v k)=0
       ·rw[if_pos (s0.2 c2),Ad]
        have nok:=Lb hv g1 hkn
        by_cases c3:Box (plV v f) (plV v out) (plV v k)
        ·rw[decide_eq_true ⟨c2,c3⟩]
         have hko:¬ befP (plV v out) (plV v k):=fun e=>Ayd c2 (Uy ((low out g1).resolve_left g2)) e (Lb hv hf g1 (fun e=>g2 e.symm)) c3
         dsimp only
         rw[if_pos (by rfl)]
         refine take fun j hj hl hne=>?_
         have t:=turn j
         rw[c2,Int.mul_zero,Int.sub_zero] at t
         rcases g3 j hj hl hne with g | ⟨g,g'⟩
         ·left
          have m1:=Int.mul_pos (show 0 < ph lexA 1 (plV v k)-ph lexA 1 (plV v f) by omega) g
          exact Afi (x:=ph lexA 1 (plV v out)-ph lexA 1 (plV v f)) (by omega) (by omega)
         ·right
          rw[g,Int.mul_zero] at t
          refine ⟨?_,fun e=>?_⟩
          ·rcases Int.mul_eq_zero.1 t with t | t
           ·omega
           ·exact t
          ·unfold befP at *
           omega
        ·rw[decide_eq_false (fun g=>c3 g.2)]
         dsimp only
         rw[if_neg (by simp)]
         refine keep (.inr ⟨c2,fun e=>c3 ?_⟩)
         exact Ank c2 (Uy ((low k hkn).resolve_left e1)) (Uy e)
       ·rw[if_neg (fun g=>c2 (s0.1 g))]
        dsimp only
        rw[if_neg (by simp)]
        exact keep (.inl (by omega))
   ·right
    rw[if_neg hk]
    refine ⟨_,rfl,?_⟩
    rcases h3 with ⟨g1,g2⟩ | ⟨g1,g2,g3⟩
    ·have x0:(0:Int)=f:=g2 0 ⟨by omega,by omega⟩ (by omega)
     have x1:(1:Int)=f:=g2 1 ⟨by omega,by omega⟩ (by omega)
     omega
    ·exact ⟨g1,g2,fun j hj hne=>g3 j hj (by have:=hj.2;omega) hne⟩) (-1,0) ⟨by simp,by simp,.inl ⟨rfl,fun j hj hl=>by unfold inN at hj;simp only at hl;omega⟩⟩
 obtain ⟨t,ht,g⟩:=this
 rw[ht,Ad]
 exact ⟨t,rfl,g⟩
end Go.Proofs.YtjfndjmabhbicaaGreat
