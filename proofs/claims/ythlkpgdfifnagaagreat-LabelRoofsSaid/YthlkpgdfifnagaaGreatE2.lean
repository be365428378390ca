import Derived.Test.YthlkpgdfifnagaaGreatM0
set_option maxRecDepth 100000
set_option maxHeartbeats 1000000
namespace Go.Proofs.YthlkpgdfifnagaaGreat
open Go Go.RowKit Tryz
variable {v:List Ad}
def Top(v:List Ad)(a b c:Int):Prop:=inN v.length c/\0<crs (plV v a) (plV v b) (plV v c)/\∀ d,inN v.length d->0<crs (plV v a) (plV v b) (plV v d)->d≠c->DH (plV v) (hV v) a b c d<0
theorem Baz(a b c d:Int):DH (plV v) (hV v) a b d c = -DH (plV v) (hV v) a b c d:=An7 _ _ _ _ _ _ _ _
theorem Top.unique{a b c d:Int}(h:Top v a b c)(k:Top v a b d):c=d:=by
 by_cases e:c=d
 ·exact e
 ·have h1:=h.2.2 d k.1 k.2.1 (fun g=>e g.symm);have h2:=k.2.2 c h.1 h.2.1 e;rw[Baz] at h2;omega
theorem Del.top{a b c:Int}(h:Del v a b c):Top v a b c:=by
 obtain⟨h1,h2,h3,h4,h5⟩:=h;refine⟨h3,h4,fun d hd hp hne=>h5 d hd (fun e=>?_) (fun e=>?_) hne⟩
 ·subst e;rw[Gs] at hp;omega
 ·subst e;rw[Cm] at hp;omega
theorem Del.unique{a b c d:Int}(h:Del v a b c)(k:Del v a b d):c=d:=h.top.unique k.top
theorem Top.across{a b c e:Int}(h:Del v a b c)(k:Top v b a e):Del v b a e:=by
 obtain⟨h1,h2,h3,h4,h5⟩:=h;obtain⟨k1,k2,k3⟩:=k;refine⟨h2,h1,k1,k2,fun d hd n1 n2 n3=>?_⟩
 by_cases hp:0<crs (plV v b) (plV v a) (plV v d)
 ·exact k3 d hd hp n3
 have hx:0<=crs (plV v a) (plV v b) (plV v d):=by rw[Cq] at hp;omega
 have he:crs (plV v a) (plV v b) (plV v e)<0:=by rw[Cq] at k2;omega
 have hne:e≠c:=fun g=>by rw[g] at he;omega
 have hea:e≠a:=fun g=>by rw[g,Gs] at he;omega
 have heb:e≠b:=fun g=>by rw[g,Cm] at he;omega
 have hD:=h5 e k1 hea heb hne;obtain⟨p1,p2⟩:=Ad4 (P:=plV v) (H:=hV v) (a:=a) (b:=b) (c:=c) (d:=d) (h5 d hd);have key:=Aat (hV v a) (hV v b) (hV v c) (hV v e) (plV v a) (plV v b) (plV v c) (plV v e) (plV v d);unfold DH at hD ⊢;rw[Ais];generalize plt (hV v b) (hV v a) (hV v e) (plV v b) (plV v a) (plV v e) (plV v d)=L at *;generalize plt (hV v a) (hV v b) (hV v c) (plV v a) (plV v b) (plV v c) (plV v d)=M at *;generalize Dt (hV v a) (hV v b) (hV v c) (hV v e) (plV v a) (plV v b) (plV v c) (plV v e)=D at *;have hlt:M*crs (plV v b) (plV v a) (plV v e)+D*crs (plV v a) (plV v b) (plV v d)<hV v d*crs (plV v a) (plV v b) (plV v c)*crs (plV v b) (plV v a) (plV v e):=by
  by_cases g:d=c
  ·subst g;have e1:=Int.mul_le_mul_of_nonneg_right p1 (Int.le_of_lt k2);have e2:=Int.mul_neg_of_neg_of_pos hD h4;omega
  ·have e1:=Int.mul_lt_mul_of_pos_right (p2 n2 n1 g) k2;have e2:=Int.mul_nonpos_of_nonpos_of_nonneg (Int.le_of_lt hD) hx;omega
 have e3:(L-hV v d*crs (plV v b) (plV v a) (plV v e))*crs (plV v a) (plV v b) (plV v c)<0:=by
  have:(L-hV v d*crs (plV v b) (plV v a) (plV v e))*crs (plV v a) (plV v b) (plV v c)=L*crs (plV v a) (plV v b) (plV v c)-hV v d*crs (plV v a) (plV v b) (plV v c)*crs (plV v b) (plV v a) (plV v e):=by grind
  omega
 rcases Int.lt_or_le (L-hV v d*crs (plV v b) (plV v a) (plV v e)) 0 with g | g
 ·exact g
 ·have:=Int.mul_nonneg g (Int.le_of_lt h4);omega
theorem Top.hull{a b c:Int}(hv:Ig v)(ha:inN v.length a)(hb:inN v.length b)(hl:∀ d,inN v.length d->0<=crs (plV v a) (plV v b) (plV v d))(ho:∀ d,inN v.length d->d≠a->d≠b->crs (plV v a) (plV v b) (plV v d)=0->∀ x,0<crs (plV v a) (plV v b) x->crs (plV v b) x (plV v d)<0)(k:Top v a b c):Del v a b c:=by
 obtain⟨k1,k2,k3⟩:=k;refine⟨ha,hb,k1,k2,fun d hd n1 n2 n3=>?_⟩
 by_cases hp:0<crs (plV v a) (plV v b) (plV v d)
 ·exact k3 d hd hp n3
 have h0:crs (plV v a) (plV v b) (plV v d)=0:=by have:=hl d hd;omega
 rw[<- Ad5];exact Acx hv b c a d hb k1 ha hd (by rw[Ca];exact k2) (ho d hd n1 n2 h0 _ k2) (.inr oo)
def dtp(a b x:Ac):Int:=(x.X-a.X)*(x.X-b.X)+(x.Y-a.Y)*(x.Y-b.Y)
theorem Aa8(a b c d:Ac):inC a b c d=dtp a b c*crs a b d-dtp a b d*crs a b c:=by unfold inC dtp lft crs;grind
theorem Am9{a b c d e:Ac}(hc:0<crs a b c)(hd:0<crs a b d)(he:0<crs a b e)(h1:0<inC a b c d)(h2:inC a b c e<=0):inC a b d e<0:=by
 rw[Aa8] at *;have e1:dtp a b d*crs a b c<dtp a b c*crs a b d:=oo;have e2:dtp a b c*crs a b e<=dtp a b e*crs a b c:=oo;have m1:=Int.mul_lt_mul_of_pos_right e1 he;have m2:=Int.mul_le_mul_of_nonneg_right e2 (Int.le_of_lt hd);have m3:(dtp a b d*crs a b e)*crs a b c<(dtp a b e*crs a b d)*crs a b c:=by
  have r1:(dtp a b d*crs a b e)*crs a b c=dtp a b d*crs a b c*crs a b e:=by grind
  have r2:dtp a b c*crs a b d*crs a b e=dtp a b c*crs a b e*crs a b d:=by grind
  have r3:(dtp a b e*crs a b d)*crs a b c=dtp a b e*crs a b c*crs a b d:=by grind
  omega
 have:=Int.lt_of_mul_lt_mul_right m3 (Int.le_of_lt hc);omega
theorem Ao8{a b c d e:Ac}(hc:0<crs a b c)(h1:inC a b c d=0):inC a b c e*crs a b d=inC a b d e*crs a b c:=by
 rw[Aa8 a b c e,Aa8 a b d e];rw[Aa8] at h1;have e1:dtp a b c*crs a b d=dtp a b d*crs a b c:=oo;have r1:(dtp a b c*crs a b e-dtp a b e*crs a b c)*crs a b d=dtp a b c*crs a b d*crs a b e-dtp a b e*crs a b c*crs a b d:=by grind
 rw[r1,e1];grind
theorem Ac7{a b c d e:Ac}(hc:0<crs a b c)(hd:0<crs a b d)(h1:inC a b c d=0):(inC a b c e<0->inC a b d e<0)/\(inC a b c e=0->inC a b d e=0):=by
 have h:=Ao8 (e:=e) hc h1;constructor
 ·intro g;rcases Int.lt_or_le (inC a b d e) 0 with k | k
  ·exact k
  ·have e1:=Int.mul_nonneg k (Int.le_of_lt hc);have e2:=Int.mul_neg_of_neg_of_pos g hd;omega
 ·intro g;rw[g,Int.zero_mul] at h;rcases Int.mul_eq_zero.1 h.symm with k | k
  ·exact k
  ·omega
theorem Aq2{a b c d:Ac}(hc:0<crs a b c)(hd:0<crs a b d)(h0:inC a b c d=0)(h1:crs a c d=0):Cy c d:=by
 have hca:¬ Cy c a:=fun e=>by have:=Afw e;subst this;rw[Gs] at hc;omega
 have L1:=Amq hca;have e0:lft c a*crs a b d=lft d a*crs a b c:=by
  have:inC a b c d=lft b a*crs c a d+lft c a*crs a b d-lft d a*crs a b c:=by unfold inC lft crs;grind
  rw[h0,Cq,h1] at this;simp only[Int.neg_zero,Int.mul_zero,Int.zero_add] at this;omega
 have ex:crs a b c*(d.X-a.X)=crs a b d*(c.X-a.X):=by
  have:crs a b c*(d.X-a.X)-crs a b d*(c.X-a.X) = -(b.X-a.X)*crs a c d:=by unfold crs;grind
  rw[h1,Int.mul_zero] at this;omega
 have ey:crs a b c*(d.Y-a.Y)=crs a b d*(c.Y-a.Y):=by
  have:crs a b c*(d.Y-a.Y)-crs a b d*(c.Y-a.Y) = -(b.Y-a.Y)*crs a c d:=by unfold crs;grind
  rw[h1,Int.mul_zero] at this;omega
 generalize hk1:crs a b c=k1 at *;generalize hk2:crs a b d=k2 at *;have e2:k1*(k1*lft d a)=k2*(k2*lft c a):=by
  unfold lft;have x2:(k1*(d.X-a.X))*(k1*(d.X-a.X))=(k2*(c.X-a.X))*(k2*(c.X-a.X)):=by rw[ex]
  have y2:(k1*(d.Y-a.Y))*(k1*(d.Y-a.Y))=(k2*(c.Y-a.Y))*(k2*(c.Y-a.Y)):=by rw[ey]
  grind
 have e3:(lft c a*k2)*(k1-k2)=0:=by
  have:k1*(k1*lft d a)=k1*(lft c a*k2):=by rw[e0,Int.mul_comm k1 (lft d a)]
  grind
 have e4:k1=k2:=by
  rcases Int.mul_eq_zero.1 e3 with g | g
  ·rcases Int.mul_eq_zero.1 g with g | g <;> omega
  ·omega
 subst e4;have gx:=Int.eq_of_mul_eq_mul_left oo ex;have gy:=Int.eq_of_mul_eq_mul_left oo ey;unfold Cy;omega
theorem Ax8{a b c d:Ac}(hc:0<crs a b c)(h0:inC a b c d=0)(h1:0<crs a c d)(hd:0<crs a b d):0<crs b c d:=by
 rcases Int.lt_or_le 0 (crs b c d) with g | g
 ·exact g
 ·have:=Abv (a:=c) (b:=a) (c:=b) (d:=d) (by rw[<- Ca];exact hc) (by rw[Cq];omega) g;rw[<- Ah5,h0] at this;omega
end Go.Proofs.YthlkpgdfifnagaaGreat
namespace Go.Proofs.YthlkpgdfifnagaaGreat
open Go Go.RowKit Tryz
variable {v:List Ad} {a b:Int}
structure Best(v:List Ad)(a b k:Int)(s:List Int):Prop where
 mem:∀ c∈s,inN v.length c/\c<k/\0<crs (plV v a) (plV v b) (plV v c)
 none:s=[]->∀ d,inN v.length d->d<k->crs (plV v a) (plV v b) (plV v d)<=0
 top:∀ c∈s,∀ d,inN v.length d->d<k->0<crs (plV v a) (plV v b) (plV v d)->(inC (plV v a) (plV v b) (plV v c) (plV v d)<0/\d ∉ s)\/(inC (plV v a) (plV v b) (plV v c) (plV v d)=0/\d∈s)
 nd:s.Nodup
theorem Best.nil:Best v a b 0 []:=⟨fun c h=>(by cases h),fun _ d hd h=>by unfold inN at hd;omega,fun c h=>(by cases h),List.nodup_nil⟩
theorem Best.skip{k:Int}{s:List Int}(h:Best v a b k s)(hk:crs (plV v a) (plV v b) (plV v k)<=0):Best v a b (k+1) s:=by
 refine⟨fun c hc=>?_,fun e d hd hl=>?_,fun c hc d hd hl hp=>?_,h.nd⟩
 ·obtain⟨h1,h2,h3⟩:=h.mem c hc;exact⟨h1,oo,h3⟩
 ·by_cases g:d=k
  ·subst g;exact hk
  ·exact h.none e d hd oo
 ·by_cases g:d=k
  ·subst g;omega
  ·exact h.top c hc d hd oo hp
theorem Ao9(a b c:Ac):inC a b c c=0:=by unfold inC lft crs;grind
theorem Best.one{k:Int}(hk:inN v.length k)(hp:0<crs (plV v a) (plV v b) (plV v k))(ho:∀ d,inN v.length d->d<k->0<crs (plV v a) (plV v b) (plV v d)->inC (plV v a) (plV v b) (plV v k) (plV v d)<0):Best v a b (k+1) [k]:=by
 refine⟨fun c hc=>?_,fun e=>(by cases e),fun c hc d hd hl hq=>?_,s_⟩
 ·rw[List.mem_singleton] at hc;subst hc;exact⟨hk,oo,hp⟩
 ·rw[List.mem_singleton] at hc;subst hc
  by_cases g:d=c
  ·subst g;exact .inr ⟨Ao9 _ _ _,List.mem_singleton.2 rfl⟩
  ·exact .inl ⟨ho d hd oo hq,by simpa using g⟩
theorem Best.first{k:Int}(h:Best v a b k [])(hk:inN v.length k)(hp:0<crs (plV v a) (plV v b) (plV v k)):Best v a b (k+1) [k] :=
 Best.one hk hp fun d hd hl hq=>by have:=h.none rfl d hd hl;omega
theorem Best.better{k c:Int}{s:List Int}(h:Best v a b k s)(hk:inN v.length k)(hp:0<crs (plV v a) (plV v b) (plV v k))(hc:c∈s)(hi:0<inC (plV v a) (plV v b) (plV v c) (plV v k)):Best v a b (k+1) [k] :=
 Best.one hk hp fun d hd hl hq=>Am9 (h.mem c hc).2.2 hp hq hi (by rcases h.top c hc d hd hl hq with g | g <;> omega)
theorem Best.worse{k c:Int}{s:List Int}(h:Best v a b k s)(hc:c∈s)(hi:inC (plV v a) (plV v b) (plV v c) (plV v k)<0):Best v a b (k+1) s:=by
 refine⟨fun x hx=>?_,fun e=>(by rw[e] at hc;cases hc),fun x hx d hd hl hp=>?_,h.nd⟩
 ·obtain⟨h1,h2,h3⟩:=h.mem x hx;exact⟨h1,oo,h3⟩
 ·by_cases g:d=k
  ·subst g;refine .inl ⟨?_,fun e=>?_⟩
   ·obtain⟨h1,h2,h3⟩:=h.mem x hx;obtain⟨q1,q2,q3⟩:=h.mem c hc;have h0:inC (plV v a) (plV v b) (plV v c) (plV v x)=0:=by
     rcases h.top c hc x h1 h2 h3 with g | g
     ·exact absurd hx g.2
     ·exact g.1
    exact (Ac7 q3 h3 h0).1 hi
   ·have:=(h.mem d e).2.1;omega
  ·exact h.top x hx d hd oo hp
theorem Best.tie{k c:Int}{s:List Int}(h:Best v a b k s)(hk:inN v.length k)(hp:0<crs (plV v a) (plV v b) (plV v k))(hc:c∈s)(hi:inC (plV v a) (plV v b) (plV v c) (plV v k)=0):Best v a b (k+1) (s++[k]):=by
 have same:∀ x∈s,inC (plV v a) (plV v b) (plV v x) (plV v k)=0:=fun x hx=>by
  obtain⟨h1,h2,h3⟩:=h.mem x hx;obtain⟨q1,q2,q3⟩:=h.mem c hc;have h0:inC (plV v a) (plV v b) (plV v c) (plV v x)=0:=by
   rcases h.top c hc x h1 h2 h3 with g | g
   ·exact absurd hx g.2
   ·exact g.1
  exact (Ac7 q3 h3 h0).2 hi
 refine⟨fun x hx=>?_,fun e=>(by simp at e),fun x hx d hd hl hq=>?_,?_⟩
 ·rcases List.mem_append.1 hx with hx | hx
  ·obtain⟨h1,h2,h3⟩:=h.mem x hx;exact⟨h1,oo,h3⟩
  ·rw[List.mem_singleton] at hx;subst hx;exact⟨hk,oo,hp⟩
 ·by_cases g:d=k
  ·subst g;refine .inr ⟨?_,s_⟩;rcases List.mem_append.1 hx with hx | hx
   ·exact same x hx
   ·rw[List.mem_singleton] at hx;subst hx;exact Ao9 _ _ _
  ·have hnk:d ∉ [k]:=by simpa using g
   rcases List.mem_append.1 hx with hx | hx
   ·rcases h.top x hx d hd oo hq with⟨g1,g2⟩|⟨g1,g2⟩
    ·exact .inl ⟨g1,fun e=>(List.mem_append.1 e).elim g2 hnk⟩
    ·exact .inr ⟨g1,List.mem_append.2 (.inl g2)⟩
   ·rw[List.mem_singleton] at hx;subst hx;obtain⟨q1,q2,q3⟩:=h.mem c hc;rcases h.top c hc d hd oo hq with⟨g1,g2⟩|⟨g1,g2⟩
    ·exact .inl ⟨(Ac7 q3 hp hi).1 g1,fun e=>(List.mem_append.1 e).elim g2 hnk⟩
    ·exact .inr ⟨(Ac7 q3 hp hi).2 g1,List.mem_append.2 (.inl g2)⟩
 ·rw[List.nodup_append];refine⟨h.nd,s_,fun x hx y hy e=>?_⟩;rw[List.mem_singleton] at hy;subst hy;subst e;have:=(h.mem x hx).2.1;omega
structure Circ(v:List Ad)(a b:Int)(l:List Int):Prop where
 mem:∀ c∈l,inN v.length c/\0<crs (plV v a) (plV v b) (plV v c)
 on:∀ c∈l,∀ d∈l,inC (plV v a) (plV v b) (plV v c) (plV v d)=0
 nd:l.Nodup
theorem Best.circ{k:Int}{s:List Int}(h:Best v a b k s):Circ v a b s :=
 ⟨fun c hc=>⟨(h.mem c hc).1,(h.mem c hc).2.2⟩,fun c hc d hd=>by
  obtain⟨h1,h2,h3⟩:=h.mem d hd;rcases h.top c hc d h1 h2 h3 with g | g
  ·exact absurd hd g.2
  ·exact g.1,h.nd⟩
theorem Circ.sub{l l':List Int}(h:Circ v a b l)(hs:∀ x∈l',x∈l)(hn:l'.Nodup):Circ v a b l':=⟨fun c hc=>h.mem c (hs c hc),fun c hc d hd=>h.on c (hs c hc) d (hs d hd),hn⟩
theorem Circ.ne0{l:List Int}(hv:Ig v)(h:Circ v a b l){c d:Int}(hc:c∈l)(hd:d∈l)(hne:c≠d):crs (plV v a) (plV v c) (plV v d)≠0:=fun e=>by
 obtain⟨c1,c2⟩:=h.mem c hc;obtain⟨d1,d2⟩:=h.mem d hd;exact hne (hv.dist c d c1 d1 (Aq2 c2 d2 (h.on c hc d hd) e))
theorem Circ.trans{l:List Int}(h:Circ v a b l){c d e:Int}(hc:c∈l)(hd:d∈l)(he:e∈l)(h1:0<crs (plV v a) (plV v c) (plV v d))(h2:0<crs (plV v a) (plV v d) (plV v e)):0<crs (plV v a) (plV v c) (plV v e):=by
 have p:=Wa (plV v a) (plV v b) (plV v c) (plV v d) (plV v e);have e1:=Int.mul_pos (h.mem c hc).2 h2;have e2:=Int.mul_pos (h.mem e he).2 h1;refine Ub (x:=crs (plV v a) (plV v b) (plV v d)) ?_ (h.mem d hd).2;omega
structure Ring(v:List Ad)(a b:Int)(l:List Int):Prop where
 circ:Circ v a b l
 ord:l.Pairwise fun x y=>0<crs (plV v a) (plV v x) (plV v y)
def Ans(v:List Ad)(a b:Int)(l:List Int)(c:Int):Prop:=c∈l/\∀ d∈l,d≠c->DH (plV v) (hV v) a b c d<0
section
variable (hv:Ig v) (ha:inN v.length a) (hb:inN v.length b) {l:List Int}
include hv ha hb
theorem Ring.ans_a{c:Int}{l:List Int}(h:Ring v a b (l++[c]))(hab:befP (plV v a) (plV v b))(hf:∀ x∈l++[c],befP (plV v a) (plV v x)):Ans v a b (l++[c]) c:=by
 have hc:c∈l++[c]:=s_;refine⟨hc,fun d hd hne=>?_⟩;obtain⟨c1,c2⟩:=h.circ.mem c hc;obtain⟨d1,d2⟩:=h.circ.mem d hd;have hdl:d∈l:=by
  rcases List.mem_append.1 hd with g | g
  ·exact g
  ·exact absurd (List.mem_singleton.1 g) hne
 have hdc:0<crs (plV v a) (plV v d) (plV v c):=(List.pairwise_append.1 h.ord).2.2 d hdl c s_;have:=Ax8 d2 (h.circ.on d hd c hc) hdc c2;refine (Xo hv ha hb c1 d1 (h.circ.on c hc d hd) hab (hf c hc) (hf d hd)).2 ?_;rw[Afu];omega
theorem Ring.ans_b{c:Int}{l:List Int}(h:Ring v a b (c::l))(hab:befP (plV v b) (plV v a))(hf:∀ x∈c::l,befP (plV v b) (plV v x)):Ans v a b (c::l) c:=by
 have hc:c∈c::l:=s_;refine⟨hc,fun d hd hne=>?_⟩;obtain⟨c1,c2⟩:=h.circ.mem c hc;obtain⟨d1,d2⟩:=h.circ.mem d hd;have hdl:d∈l:=by
  rcases List.mem_cons.1 hd with g | g
  ·exact absurd g hne
  ·exact g
 have hcd:0<crs (plV v a) (plV v c) (plV v d):=(List.pairwise_cons.1 h.ord).1 d hdl;rw[<- Ad5];refine (Xo hv hb c1 ha d1 (by rw[Ah5];exact h.circ.on c hc d hd) (hf c hc) hab (hf d hd)).2 ?_;rw[Cq];omega
theorem Ring.ans_cut{x c:Int}(h:Ring v a b l)(hx:x∈l)(hxa:befP (plV v x) (plV v a))(hxb:befP (plV v x) (plV v b))(hf:∀ y∈l,y≠x->befP (plV v x) (plV v y)){l':List Int}(hl:∀ y,y∈l'↔y∈l/\y≠x)(hc:Ans v a b l' c):Ans v a b l c:=by
 obtain⟨h1,h2⟩:=hc;obtain⟨hcl,hcx⟩:=(hl c).1 h1;obtain⟨c1,c2⟩:=h.circ.mem c hcl;obtain⟨x1,x2⟩:=h.circ.mem x hx;refine⟨hcl,fun d hd hne=>?_⟩
 by_cases e:d=x
 ·subst e;exact Ai0 hv ha hb c1 x1 (h.circ.on c hcl d hx) hxa hxb (hf c hcl hcx) c2
 ·exact h2 d ((hl d).2 ⟨hd,e⟩) hne
theorem Best.ans{s l:List Int}{c:Int}(h:Best v a b v.length s)(hp:∀ x,x∈l↔x∈s)(hc:Ans v a b l c):Top v a b c:=by
 obtain⟨h1,h2⟩:=hc;have hcs:=(hp c).1 h1;obtain⟨c1,_,c2⟩:=h.mem c hcs;refine⟨c1,c2,fun d hd hq hne=>?_⟩;rcases h.top c hcs d hd hd.2 hq with g | g
 ·exact Ams hv ha hb c1 hd g.1
 ·exact h2 d ((hp d).2 g.2) hne
end
end Go.Proofs.YthlkpgdfifnagaaGreat
namespace Go.Proofs.YthlkpgdfifnagaaGreat
open Go Go.RowKit Tryz
variable {v:List Ad} {p0 q0:Int}
def Tu(t:Ah)(p q:Int):Prop:=(p=t.a0/\q=t.a1)\/(p=t.a1/\q=t.a2)\/(p=t.a2/\q=t.a0)
def Alz(v:List Ad)(t:Ah):Prop:=t.a0<t.a1/\t.a0<t.a2/\Del v t.a0 t.a1 t.a2
theorem Alz.side{t:Ah}(h:Alz v t){p q:Int}(hs:Tu t p q):∃ e,Del v p q e:=by
 obtain⟨_,_,h⟩:=h;rcases hs with⟨rfl,rfl⟩|⟨rfl,rfl⟩|⟨rfl,rfl⟩
 ·exact⟨_,h⟩
 ·exact⟨_,h.rot⟩
 ·exact⟨_,h.rot.rot⟩
def noT(v:List Ad)(p q:Int):Prop:=∀ d,inN v.length d->crs (plV v p) (plV v q) (plV v d)<=0
def okS(v:List Ad)(p q:Int):Prop:=inN v.length p/\inN v.length q/\(noT v p q\/∃ e,Del v p q e)
structure Tr(v:List Ad)(p0 q0:Int)(op:List Ab)(dn:Int->Int->Prop)(out:List Ah):Prop where
 mem:∀ t∈out,Alz v t
 nd:out.Nodup
 opn:∀ s∈op,okS v s.a0 s.a1
 don:∀ p q,dn p q->(∃ t∈out,Tu t p q)\/noT v p q
 all:∀ t∈out,∀ p q,Tu t p q->dn p q
 rev:∀ t∈out,∀ p q,Tu t p q->⟨q,p⟩∈op\/dn q p
 sta:⟨p0,q0⟩∈op\/dn p0 q0
 len:op.length<=3*out.length+1
theorem Tr.init{dn:Int->Int->Prop}(h:okS v p0 q0)(hd:∀ p q,¬ dn p q):Tr v p0 q0 [⟨p0,q0⟩] dn [] :=
 ⟨fun t h=>(by cases h),List.nodup_nil,fun s hs=>by rw[List.mem_singleton] at hs;subst hs;exact h,fun p q g=>absurd g (hd p q),fun t h=>(by cases h),fun t h=>(by cases h),.inl s_,s_⟩
theorem Ana{x s:Ab}{op:List Ab}(h:x∈op++[s]):x∈op\/x=s:=by simpa using h
theorem Tr.skip{op:List Ab}{dn:Int->Int->Prop}{out:List Ah}{s:Ab}(h:Tr v p0 q0 (op++[s]) dn out)(hs:dn s.a0 s.a1):Tr v p0 q0 op dn out :=
 ⟨h.mem,h.nd,fun x hx=>h.opn x (by simp[hx]),h.don,h.all,fun t ht p q hp=>(h.rev t ht p q hp).elim (fun g=>(Ana g).imp id fun e=>by subst e;exact hs) .inr,
  h.sta.elim (fun g=>(Ana g).imp id fun e=>by subst e;exact hs) .inr,by have:=h.len;rw[List.length_append,List.length_singleton] at this;omega⟩
theorem Tr.none{op:List Ab}{dn dn':Int->Int->Prop}{out:List Ah}{s:Ab}(h:Tr v p0 q0 (op++[s]) dn out)(hd:∀ p q,dn' p q↔dn p q\/(p=s.a0/\q=s.a1))(hn:noT v s.a0 s.a1):Tr v p0 q0 op dn' out:=by
 have key:Tr v p0 q0 (op++[s]) dn' out:=⟨h.mem,h.nd,h.opn,fun p q g=>by
  rcases (hd p q).1 g with g | ⟨rfl,rfl⟩
  ·exact h.don p q g
  ·exact .inr hn,fun t ht p q hp=>(hd p q).2 (.inl (h.all t ht p q hp)),fun t ht p q hp=>(h.rev t ht p q hp).imp id fun g=>(hd _ _).2 (.inl g),h.sta.imp id fun g=>(hd _ _).2 (.inl g),h.len⟩
 exact key.skip ((hd _ _).2 (.inr ⟨rfl,rfl⟩))
theorem Tr.more{op:List Ab}{dn dn':Int->Int->Prop}{out:List Ah}{s:Ab}{t:Ah}(h:Tr v p0 q0 (op++[s]) dn out)(hs:¬ dn s.a0 s.a1)(ht:Alz v t)(hst:Tu t s.a0 s.a1)(hd:∀ p q,dn' p q↔dn p q\/Tu t p q)(hx:∀ p q,Tu t p q->okS v q p):Tr v p0 q0 (op++[⟨t.a1,t.a0⟩,⟨t.a2,t.a1⟩,⟨t.a0,t.a2⟩]) dn' (out++[t]):=by
 have hin:∀ {p q:Int},⟨p,q⟩∈op++[s]->(⟨p,q⟩:Ab)∈op++[⟨t.a1,t.a0⟩,⟨t.a2,t.a1⟩,⟨t.a0,t.a2⟩]\/dn' p q:=fun {p q} g=>by
  rcases Ana g with g | g
  ·exact .inl (List.mem_append.2 (.inl g))
  ·right;rw[<- g] at hst;exact (hd _ _).2 (.inr hst)
 refine⟨fun x hx=>?_,?_,fun x hx'=>?_,fun p q g=>?_,fun x hx' p q g=>?_,fun x hx' p q g=>?_,?_,?_⟩
 ·rcases List.mem_append.1 hx with hx | hx
  ·exact h.mem x hx
  ·rw[List.mem_singleton] at hx;subst hx;exact ht
 ·rw[List.nodup_append];refine⟨h.nd,s_,fun x hm y hy e=>?_⟩;rw[List.mem_singleton] at hy;rw[hy] at e;rw[e] at hm;exact hs (h.all t hm _ _ hst)
 ·rcases List.mem_append.1 hx' with hx' | hx'
  ·exact h.opn x (by simp[hx'])
  ·simp only[List.mem_cons,List.not_mem_nil,or_false] at hx';rcases hx' with rfl | rfl | rfl
   ·exact hx t.a0 t.a1 (.inl ⟨rfl,rfl⟩)
   ·exact hx t.a1 t.a2 (.inr (.inl ⟨rfl,rfl⟩))
   ·exact hx t.a2 t.a0 (.inr (.inr ⟨rfl,rfl⟩))
 ·rcases (hd p q).1 g with g | g
  ·rcases h.don p q g with⟨x,hx,g⟩ | g
   ·exact .inl ⟨x,by simp[hx],g⟩
   ·exact .inr g
  ·exact .inl ⟨t,s_,g⟩
 ·rcases List.mem_append.1 hx' with hx' | hx'
  ·exact (hd p q).2 (.inl (h.all x hx' p q g))
  ·rw[List.mem_singleton] at hx';subst hx';exact (hd p q).2 (.inr g)
 ·rcases List.mem_append.1 hx' with hx' | hx'
  ·rcases h.rev x hx' p q g with g | g
   ·exact hin g
   ·exact .inr ((hd _ _).2 (.inl g))
  ·rw[List.mem_singleton] at hx';subst hx';left;refine List.mem_append.2 (.inr ?_);rcases g with⟨rfl,rfl⟩|⟨rfl,rfl⟩|⟨rfl,rfl⟩ <;> simp
 ·rcases h.sta with g | g
  ·exact hin g
  ·exact .inr ((hd _ _).2 (.inl g))
 ·have:=h.len;simp only[List.length_append,List.length_cons,List.length_nil] at this ⊢;omega
theorem Aeo{out:List Ah}(hmem:∀ t∈out,Alz v t)(hnd:out.Nodup):out.length<=v.length*v.length:=by
 have h1:(out.map fun t=>(t.a0.toNat*v.length+t.a1.toNat)).Nodup:=by
  unfold List.Nodup;rw[List.pairwise_map];refine List.Pairwise.imp_of_mem ?_ hnd;intro x y hx hy hne e;obtain⟨x1,x2,x3⟩:=hmem x hx;obtain⟨y1,y2,y3⟩:=hmem y hy;have x4:=x3.1;have x5:=x3.2.1;have y4:=y3.1;have y5:=y3.2.1;unfold inN at x4 x5 y4 y5;have e1:x.a1.toNat=y.a1.toNat:=by
   have:=congrArg (· % v.length) e;simp only[Nat.mul_add_mod_self_right] at this
   rwa [Nat.mod_eq_of_lt oo,Nat.mod_eq_of_lt oo] at this
  have e2:x.a0.toNat=y.a0.toNat:=by
   rw[e1] at e;have e':x.a0.toNat*v.length=y.a0.toNat*v.length:=oo;exact Nat.eq_of_mul_eq_mul_right oo e'
  have e3:x.a0=y.a0:=oo;have e4:x.a1=y.a1:=oo;apply hne;obtain⟨xa,xb,xc⟩:=x;obtain⟨ya,yb,yc⟩:=y;simp only at e3 e4 x3 y3;subst e3;subst e4;rw[x3.unique y3]
 have:=Cf (m:=List.range (v.length*v.length)) h1 fun x hx=>by
  obtain⟨t,ht,rfl⟩:=List.mem_map.1 hx;obtain⟨_,_,t3⟩:=hmem t ht;have t4:=t3.1;have t5:=t3.2.1;unfold inN at t4 t5;rw[List.mem_range];have h3:t.a0.toNat+1<=v.length:=oo;have:=Nat.mul_le_mul_right v.length h3;rw[Nat.add_mul] at this;omega
 rwa [List.length_map,List.length_range] at this
theorem Tr.bound{op:List Ab}{dn:Int->Int->Prop}{out:List Ah}(h:Tr v p0 q0 op dn out):out.length<=v.length*v.length:=Aeo h.mem h.nd
def rots(t:Ah):List T3:=[(t.a0,t.a1,t.a2),(t.a1,t.a2,t.a0),(t.a2,t.a0,t.a1)]
theorem Tr.full{dn:Int->Int->Prop}{out:List Ah}(h:Tr v p0 q0 [] dn out)(hs:∃ e,Del v p0 q0 e)(t:Ah):t∈out↔t.a0<t.a1/\t.a0<t.a2/\Del v t.a0 t.a1 t.a2:=by
 refine⟨fun ht=>h.mem t ht,fun ⟨t1,t2,t3⟩=>?_⟩;have memX:∀ a b c:Int,(a,b,c)∈out.flatMap rots->∃ t∈out,Tu t a b/\Del v a b c:=fun a b c g=>by
  obtain⟨t,ht,g⟩:=List.mem_flatMap.1 g;have:=(h.mem t ht).2.2;unfold rots at g;simp only[List.mem_cons,List.not_mem_nil,or_false] at g;rcases g with g | g | g <;> cases g
  ·exact⟨t,ht,.inl ⟨rfl,rfl⟩,this⟩
  ·exact⟨t,ht,.inr (.inl ⟨rfl,rfl⟩),this.rot⟩
  ·exact⟨t,ht,.inr (.inr ⟨rfl,rfl⟩),this.rot.rot⟩
 have inX:∀ t∈out,∀ a b c,Tu t a b->Del v a b c->(a,b,c)∈out.flatMap rots:=fun t ht a b c g hd=>by
  have:=(h.mem t ht).2.2;refine List.mem_flatMap.2 ⟨t,ht,?_⟩;unfold rots;rcases g with⟨rfl,rfl⟩|⟨rfl,rfl⟩|⟨rfl,rfl⟩
  ·rw[hd.unique this];simp
  ·rw[hd.unique this.rot];simp
  ·rw[hd.unique this.rot.rot];simp
 have hX:Aiw (plV v) (out.flatMap rots):=⟨fun a b c g=>by
  obtain⟨t,ht,g1,g2⟩:=memX a b c g;refine inX t ht b c a ?_ g2.rot;have:=(h.mem t ht).2.2;rcases g1 with⟨rfl,rfl⟩|⟨rfl,rfl⟩|⟨rfl,rfl⟩
  ·rw[g2.unique this];exact .inr (.inl ⟨rfl,rfl⟩)
  ·rw[g2.unique this.rot];exact .inr (.inr ⟨rfl,rfl⟩)
  ·rw[g2.unique this.rot.rot];exact .inl ⟨rfl,rfl⟩,fun a b c g=>by
  obtain⟨t,ht,g1,g2⟩:=memX a b c g;exact g2.2.2.2.1⟩
 have dnX:∀ p q e,dn p q->Del v p q e->(p,q,e)∈out.flatMap rots:=fun p q e g hd=>by
  rcases h.don p q g with⟨t,ht,g⟩ | g
  ·exact inX t ht p q e g hd
  ·have:=g e hd.2.2.1;have:=hd.2.2.2.1;omega
 have:=Aix (H:=hV v) (V:=inN v.length) hX (fun a b c g=>by obtain⟨t,ht,g1,g2⟩:=memX a b c g;exact⟨g2.1,g2.2.1,g2.2.2.1⟩) (fun a b c g=>by obtain⟨t,ht,g1,g2⟩:=memX a b c g;exact g2.2.2.2.2)
  (fun a b c g d hd hl=>by
   obtain⟨t,ht,g1,g2⟩:=memX a b c g;rcases h.rev t ht a b g1 with k | k
   ·cases k
   ·rcases h.don b a k with⟨t',ht',k'⟩ | k'
    ·obtain⟨e,he⟩:=(h.mem t' ht').side k';exact⟨e,inX t' ht' b a e k' he⟩
    ·have:=k' d hd;rw[Cq] at this;omega)
  (fun e=>by
   obtain⟨x,hx⟩:=hs;rcases h.sta with k | k
   ·cases k
   ·have:=dnX p0 q0 x k hx;rw[e] at this;cases this) t3.1 t3.2.1 t3.2.2.1 t3.2.2.2.1 t3.2.2.2.2
 obtain⟨t',ht',g⟩:=List.mem_flatMap.1 this;obtain⟨s1,s2,s3⟩:=h.mem t' ht';obtain⟨ta,tb,tc⟩:=t;obtain⟨sa,sb,sc⟩:=t';unfold rots at g;simp only[List.mem_cons,List.not_mem_nil,or_false,Prod.mk.injEq] at g t1 t2 s1 s2;rcases g with⟨rfl,rfl,rfl⟩|⟨rfl,rfl,rfl⟩|⟨rfl,rfl,rfl⟩
 ·exact ht'
 ·omega
 ·omega
end Go.Proofs.YthlkpgdfifnagaaGreat
namespace Go.Proofs.YthlkpgdfifnagaaGreat
open Go Go.RowKit Tryz
variable {v:List Ad}
def behind(v:List Ad)(f b k:Int):Prop:=0<crs (plV v f) (plV v b) (plV v k)\/(crs (plV v f) (plV v b) (plV v k)=0/\¬ befP (plV v k) (plV v b))
theorem Aq3{f b d x:Ac}(hf:okP f)(hb:okP b)(hd:okP d)(h1:befP f b)(h2:befP b d)(h0:crs f b d=0)(hx:0<crs f b x):crs b x d<0:=by
 have q1:=(Aq7 hf hb).2 h1;have q2:=(Aq7 hb hd).2 h2;have e:=Bbx lexA 1 b f d x;have e1:crs b f d=0:=by rw[Cq];omega
 have e2:crs b x f=crs f b x:=Ca f b x;rw[e1,e2,Int.mul_zero] at e;have e3:=Int.mul_pos (show 0<ph lexA 1 d-ph lexA 1 b by omega) hx;have e4:(ph lexA 1 f-ph lexA 1 b)*crs b d x = -((ph lexA 1 b-ph lexA 1 f)*crs b d x):=by grind
 have:=Ad3 (x:=ph lexA 1 b-ph lexA 1 f) (y:=crs b d x) oo oo;rw[Afu];omega
theorem Auo(hv:Ig v)(hn:v.length<=1024){f:Int}(hf:inN v.length f)(low:∀ k,inN v.length k->k=f\/befP (plV v f) (plV v k))(h2:2<=v.length):
  ∃ b,Qh v f false=some b/\inN v.length b/\b≠f/\∀ k,inN v.length k->k≠f->behind v f b k:=by
 unfold Qh;rw[jn_d];have up:∀ k,inN v.length k->k≠f->ph lexA 1 (plV v f)<ph lexA 1 (plV v k):=fun k hk hne=>(Aq7 (hv.ok f hf) (hv.ok k hk)).2 ((low k hk).resolve_left hne)
 have:=Be (B:=Po v f false) (fun s=>v.length-s.2.toNat)
  (fun s=>0<=s.2/\s.2<=(v.length:Int)/\((s.1 = -1/\∀ j,inN v.length j->j<s.2->j=f)\/(inN v.length s.1/\s.1≠f/\∀ j,inN v.length j->j<s.2->j≠f->behind v f s.1 j))) (fun t=>inN v.length t/\t≠f/\∀ k,inN v.length k->k≠f->behind v f t k) (fun s hs=>by
   obtain⟨out,k⟩:=s;obtain⟨h1,h2',h3⟩:=hs;simp only at h1 h2' h3;unfold Po;dsimp only
   by_cases hk:k<(v.length:Int)
   ·left;have hkn:inN v.length k:=⟨h1,hk⟩;have w1:w64 (k+1)=k+1:=Av oo oo;rw[if_pos hk,jn_d]
    by_cases e1:k=f
    ·rw[if_pos e1,w1];refine⟨_,rfl,⟨by dsimp only;omega,by dsimp only;omega,?_⟩,by dsimp only;omega⟩;dsimp only;rcases h3 with⟨g1,g2⟩|⟨g1,g2,g3⟩
     ·exact .inl ⟨g1,fun j hj hl=>by
       by_cases e:j=k
       ·rw[e];exact e1
       ·exact g2 j hj oo⟩
     ·exact .inr ⟨g1,g2,fun j hj hl hne=>g3 j hj oo hne⟩
    ·rw[if_neg e1];have self:behind v f k k:=.inr ⟨Cm _ _,Atb _⟩
     by_cases e2:out<0
     ·rw[if_pos e2,w1];have h4:∀ j,inN v.length j->j<k->j=f:=by
       rcases h3 with⟨_,g⟩|⟨g,_⟩
       ·exact g
       ·unfold inN at g;omega
      refine⟨_,rfl,⟨by dsimp only;omega,by dsimp only;omega,.inr ⟨hkn,e1,fun j hj hl hne=>?_⟩⟩,by dsimp only;omega⟩;dsimp only at hl ⊢
      by_cases e:j=k
      ·rw[e];exact self
      ·exact absurd (h4 j hj oo) hne
     ·rw[if_neg e2];obtain⟨g1,g2,g3⟩:inN v.length out/\out≠f/\∀ j,inN v.length j->j<k->j≠f->behind v f out j:=by
       rcases h3 with g | g
       ·omega
       ·exact g
      obtain⟨xa,fa,pa⟩:=Ru (v:=v) hf;obtain⟨xo,fo,po⟩:=Ru (v:=v) g1;obtain⟨xk,fk,pk⟩:=Ru (v:=v) hkn;try rw[jn_d]
      rw[fa,Ae,fo,Ae,fk,Ae];unfold Au;rw[Ae,Ae,Ae];dsimp only;rw[pa,po,pk,Aab (hv.ok _ hf) (hv.ok _ g1) (hv.ok _ hkn),Ae,jn_d,Apj (hv.ok _ hf) (hv.ok _ g1) (hv.ok _ hkn),w1];have sg:Int.sign (crs (plV v f) (plV v out) (plV v k))<0↔crs (plV v f) (plV v out) (plV v k)<0:=Int.sign_neg_iff;have s0:Int.sign (crs (plV v f) (plV v out) (plV v k))=0↔crs (plV v f) (plV v out) (plV v k)=0:=Int.sign_eq_zero_iff_zero;have po':=up out g1 g2;have pk':=up k hkn e1;have take:(∀ j,inN v.length j->j<k->j≠f->behind v f k j)->∃ s',(some (.inl (k,k+1)):Option (Sum (Int × Int) Int))=some (.inl s')/\(0<=s'.2/\s'.2<=(v.length:Int)/\((s'.1 = -1/\∀ j,inN v.length j->j<s'.2->j=f)\/(inN v.length s'.1/\s'.1≠f/\∀ j,inN v.length j->j<s'.2->j≠f->behind v f s'.1 j)))/\v.length-s'.2.toNat<v.length-k.toNat:=fun hx=>
       ⟨_,rfl,⟨by dsimp only;omega,by dsimp only;omega,.inr ⟨hkn,e1,fun j hj hl hne=>by
        dsimp only at hl ⊢
        by_cases e:j=k
        ·rw[e];exact self
        ·exact hx j hj oo hne⟩⟩,by dsimp only;omega⟩
      have keep:behind v f out k->∃ s',(some (.inl (out,k+1)):Option (Sum (Int × Int) Int))=some (.inl s')/\(0<=s'.2/\s'.2<=(v.length:Int)/\((s'.1 = -1/\∀ j,inN v.length j->j<s'.2->j=f)\/(inN v.length s'.1/\s'.1≠f/\∀ j,inN v.length j->j<s'.2->j≠f->behind v f s'.1 j)))/\v.length-s'.2.toNat<v.length-k.toNat:=fun hx=>
       ⟨_,rfl,⟨by dsimp only;omega,by dsimp only;omega,.inr ⟨g1,g2,fun j hj hl hne=>by
        dsimp only at hl ⊢
        by_cases e:j=k
        ·rw[e];exact hx
        ·exact g3 j hj oo hne⟩⟩,by dsimp only;omega⟩
      have turn:∀ j,(ph lexA 1 (plV v out)-ph lexA 1 (plV v f))*crs (plV v f) (plV v k) (plV v j)=(ph lexA 1 (plV v k)-ph lexA 1 (plV v f))*crs (plV v f) (plV v out) (plV v j)-(ph lexA 1 (plV v j)-ph lexA 1 (plV v f))*crs (plV v f) (plV v out) (plV v k):=fun j=>by
       have:=Bbx lexA 1 (plV v f) (plV v out) (plV v k) (plV v j);rw[Afu (plV v f) (plV v out) (plV v j),Int.mul_neg] at this;omega
      by_cases c1:crs (plV v f) (plV v out) (plV v k)<0
      ·rw[if_pos (sg.2 c1)];dsimp only;rw[if_pos rfl];refine take fun j hj hl hne=>.inl ?_
       have t:=turn j;have m2:=Int.mul_pos (show 0<ph lexA 1 (plV v j)-ph lexA 1 (plV v f) by have:=up j hj hne;omega) (show 0 < -crs (plV v f) (plV v out) (plV v k) by omega);rw[Int.mul_neg] at m2;have m1:0<=(ph lexA 1 (plV v k)-ph lexA 1 (plV v f))*crs (plV v f) (plV v out) (plV v j):=Int.mul_nonneg oo (by rcases g3 j hj hl hne with g | g <;> omega);exact Ad3 (x:=ph lexA 1 (plV v out)-ph lexA 1 (plV v f)) oo oo
      ·rw[if_neg (fun g=>c1 (sg.1 g))]
       by_cases c2:crs (plV v f) (plV v out) (plV v k)=0
       ·rw[if_pos (s0.2 c2),Ae];have nok:=Aaa hv g1 hkn
        by_cases c3:Box (plV v f) (plV v out) (plV v k)
        ·rw[decide_eq_true ⟨c2,c3⟩];have hko:¬ befP (plV v out) (plV v k):=fun e=>Bd8 c2 (Afv ((low out g1).resolve_left g2)) e (Aaa hv hf g1 (fun e=>g2 e.symm)) c3
         dsimp only;rw[if_pos (by rfl)];refine take fun j hj hl hne=>?_
         have t:=turn j;rw[c2,Int.mul_zero,Int.sub_zero] at t;rcases g3 j hj hl hne with g | ⟨g,g'⟩
         ·left;have m1:=Int.mul_pos (show 0<ph lexA 1 (plV v k)-ph lexA 1 (plV v f) by omega) g;exact Ad3 (x:=ph lexA 1 (plV v out)-ph lexA 1 (plV v f)) oo oo
         ·right;rw[g,Int.mul_zero] at t;refine⟨?_,fun e=>?_⟩
          ·rcases Int.mul_eq_zero.1 t with t | t
           ·omega
           ·exact t
          ·unfold befP at *;omega
        ·rw[decide_eq_false (fun g=>c3 g.2)];dsimp only;rw[if_neg s_];refine keep (.inr ⟨c2,fun e=>c3 ?_⟩);exact Ba8 c2 (Afv ((low k hkn).resolve_left e1)) (Afv e)
       ·rw[if_neg (fun g=>c2 (s0.1 g))];dsimp only;rw[if_neg s_];exact keep (.inl oo)
   ·right;rw[if_neg hk];refine⟨_,rfl,?_⟩;rcases h3 with⟨g1,g2⟩|⟨g1,g2,g3⟩
    ·have x0:(0:Int)=f:=g2 0 ⟨oo,oo⟩ oo;have x1:(1:Int)=f:=g2 1 ⟨oo,oo⟩ oo;omega
    ·exact⟨g1,g2,fun j hj hne=>g3 j hj (by have:=hj.2;omega) hne⟩) (-1,0) ⟨s_,s_,.inl ⟨rfl,fun j hj hl=>by unfold inN at hj;simp only at hl;omega⟩⟩
 obtain⟨t,ht,g⟩:=this;rw[ht,Ae];exact⟨t,rfl,g⟩
end Go.Proofs.YthlkpgdfifnagaaGreat
namespace Go.Proofs.YthlkpgdfifnagaaGreat
open Go Go.RowKit Tryz
theorem Aa9:Hb prog 26 0 0:=.mk underlying26 rfl rfl (show prog.info? 22=some Tryz.t22 from by kernel_rfl) (show Tryz.t22.size=1 from by kernel_rfl) rfl
instance:Bz prog 26 0 0:=⟨Aa9⟩
theorem As5:Hb prog 26 1 1:=.mk underlying26 rfl rfl (show prog.info? 23=some t23 from by kernel_rfl) (show t23.size=1 from by kernel_rfl) rfl
instance:Bz prog 26 1 1:=⟨As5⟩
theorem Bce:Vf prog 23:=.mk underlying23 rfl (show prog.info? 23=some t23 from by kernel_rfl) kr
instance:OneI prog 23:=⟨Bce⟩
instance:Bz prog 26 2 2:=⟨.mk underlying26 rfl rfl (show prog.info? 24=some t24 from by kernel_rfl) (show t24.size=1 from by kernel_rfl) rfl⟩
instance:OneI prog 24:=⟨.mk underlying24 rfl (show prog.info? 24=some t24 from by kernel_rfl) kr⟩
theorem Bd1(a0:Int)(a1:Int)(a2:Int)(a3:Int)(b0:Int)(b1:Int)(b2:Int)(b3:Int):∀ w,(Op.equalIn 10000 108 (.agg #[iq a0,iq a1,iq a2,iq a3]) (.agg #[iq b0,iq b1,iq b2,iq b3])).run prog w = .ok (((a0 == b0) && ((a1 == b1) && (((a2 == b2) && ((a3 == b3) && true)) && true)))) w :=
 EqF.struct underlying108 kr (.cons rfl (fun w=>kr) (fun w=>kr) (fun w=>run_equalIn_int w 9998 3 .i64 .i64 _ _ underlying3) (.cons rfl (fun w=>kr) (fun w=>kr) (fun w=>run_equalIn_int w 9998 3 .i64 .i64 _ _ underlying3) (.cons (a:=.agg #[iq a2,iq a3]) (b:=.agg #[iq b2,iq b3]) rfl (fun w=>kr) (fun w=>kr) (EqF.struct underlying28 kr (.cons rfl (fun w=>kr) (fun w=>kr) (fun w=>run_equalIn_int w 9997 3 .i64 .i64 _ _ underlying3) (.cons rfl (fun w=>kr) (fun w=>kr) (fun w=>run_equalIn_int w 9997 3 .i64 .i64 _ _ underlying3) EqF.nil))) EqF.nil)))
instance(a0:Int)(a1:Int)(a2:Int)(a3:Int)(b0:Int)(b1:Int)(b2:Int)(b3:Int):EqSI prog 108 [iq a0,iq a1,iq a2,iq a3] [iq b0,iq b1,iq b2,iq b3] (((a0 == b0) && ((a1 == b1) && (((a2 == b2) && ((a3 == b3) && true)) && true)))):=⟨Bd1 _ _ _ _ _ _ _ _,kr⟩
theorem As6:Mr prog 23 101 3:=.mk underlying23 (show prog.info? 101=some t101 from by kernel_rfl) kr
instance:Ph prog 23 101 3:=⟨As6⟩
theorem Zh:Rj prog 101 3:=.arr underlying101 (show prog.info? 101=some t101 from by kernel_rfl) kr
instance:AggI prog 101 3:=⟨Zh⟩
theorem Bd2(a0:Int)(a1:Int)(a2:Int)(b0:Int)(b1:Int)(b2:Int):∀ w,(Op.equalIn 10000 101 (.agg #[iq a0,iq a1,iq a2]) (.agg #[iq b0,iq b1,iq b2])).run prog w = .ok (((a0 == b0) && ((a1 == b1) && ((a2 == b2) && true)))) w :=
 EqI.array (c:=1) underlying101 (show prog.info? 3=some Tryz.t3 from by kernel_rfl) kr (.cons (fun w=>kr) (fun w=>kr) (fun w=>run_equalIn_int w 9998 3 .i64 .i64 _ _ underlying3) (.cons (fun w=>kr) (fun w=>kr) (fun w=>run_equalIn_int w 9998 3 .i64 .i64 _ _ underlying3) (.cons (fun w=>kr) (fun w=>kr) (fun w=>run_equalIn_int w 9998 3 .i64 .i64 _ _ underlying3) EqI.nil)))
instance(a0:Int)(a1:Int)(a2:Int)(b0:Int)(b1:Int)(b2:Int):EqSI prog 101 [iq a0,iq a1,iq a2] [iq b0,iq b1,iq b2] (((a0 == b0) && ((a1 == b1) && ((a2 == b2) && true)))):=⟨Bd2 _ _ _ _ _ _,kr⟩
theorem Bd3(a0:Int)(a1:Int)(b0:Int)(b1:Int):∀ w,(Op.equalIn 10000 103 (.agg #[iq a0,iq a1]) (.agg #[iq b0,iq b1])).run prog w = .ok (((a0 == b0) && ((a1 == b1) && true))) w :=
 EqI.array (c:=1) underlying103 (show prog.info? 3=some Tryz.t3 from by kernel_rfl) kr (.cons (fun w=>kr) (fun w=>kr) (fun w=>run_equalIn_int w 9998 3 .i64 .i64 _ _ underlying3) (.cons (fun w=>kr) (fun w=>kr) (fun w=>run_equalIn_int w 9998 3 .i64 .i64 _ _ underlying3) EqI.nil))
instance(a0:Int)(a1:Int)(b0:Int)(b1:Int):EqSI prog 103 [iq a0,iq a1] [iq b0,iq b1] (((a0 == b0) && ((a1 == b1) && true))):=⟨Bd3 _ _ _ _,kr⟩
instance:UndI prog 23 (.slice 101):=⟨underlying23⟩
noncomputable def Ei(p0:Aq)(p1:Aq):Int->Option (Sum Int (Sum Unit Bool)):=fun s0=>
 if s0<(p0.V.length:Int) then (bnd (idx p0.V s0) fun x0=>
 bnd (idx p1.V s0) fun x1=>
 if (((x0.X == x1.X) && ((x0.Y == x1.Y) && (((x0.Z.Lo == x1.Z.Lo) && ((x0.Z.Hi == x1.Z.Hi) && true)) && true))))=true then (some (.inl (w64 (s0+1))))
 else (some (.inr (.inr false))))
 else (some (.inr (.inl ())))
noncomputable def Dv(p0:Aq)(p1:Aq):Int->Option (Sum Int (Sum Unit Bool)):=fun s0=>
 if s0<(p0.T.length:Int) then (bnd (idx p0.T s0) fun x0=>
 bnd (idx p1.T s0) fun x1=>
 if (((x0.a0 == x1.a0) && ((x0.a1 == x1.a1) && ((x0.a2 == x1.a2) && true))))=true then (some (.inl (w64 (s0+1))))
 else (some (.inr (.inr false))))
 else (some (.inr (.inl ())))
noncomputable def Jb(p0:Aq):Int->Option (Sum Int Unit):=fun s0=>
 if s0<(p0.Lines.length:Int) then none
 else (some (.inr ()))
noncomputable def Jm(p0:Aq)(p1:Aq):Option Bool :=
 jn (fun (s3:Bool)=>
 if s3=true then (some false)
 else (jn (fun (s5:Unit)=>
 jn (fun (s0:Unit)=>
 jn (fun (s1:Unit)=>
 some true)
 (fun j0=>bnd (lfix (Jb p0) 0) fun t0=>
 j0 t0))
 (fun j1=>bnd (lfix (Dv p0 p1) 0) fun t1=>
 (match t1 with
 | (.inl z0)=>j1 z0
 | (.inr z0)=>some z0
 )))
 (fun j5=>bnd (lfix (Ei p0 p1) 0) fun t2=>
 (match t2 with
 | (.inl z1)=>j5 z1
 | (.inr z1)=>some z1
 ))))
 (fun j3=>if (p0.V.length:Int)=(p1.V.length:Int) then (if (p0.T.length:Int)=(p1.T.length:Int) then (j3 (!(decide ((p0.Lines.length:Int)=(p1.Lines.length:Int)))))
 else (j3 true))
 else (j3 true))
instance(p0:Aq)(p1:Aq):Con (Jm p0 p1) prog 83 (fun K vs=>∃ E0 G0 E1 G1 E2 G2 E3 G3 E4 G4 E5 G5,vs=[.agg #[.slice E0 p0.V.length G0,.slice E1 p0.T.length G1,.slice E2 p0.Lines.length G2],.agg #[.slice E3 p1.V.length G3,.slice E4 p1.T.length G4,.slice E5 p1.Lines.length G5]]/\Has K E0 p0.V.length G0 4 Ak p0.V/\Has K E1 p0.T.length G1 3 Ax p0.T/\Has K E2 p0.Lines.length G2 2 Ar p0.Lines/\Has K E3 p1.V.length G3 4 Ak p1.V/\Has K E4 p1.T.length G4 3 Ax p1.T/\Has K E5 p1.Lines.length G5 2 Ar p1.Lines/\True) (fun _ r=>fun v Ln=>v = .bool r/\Ln=[]/\True):=⟨by
 rintro K _ r ⟨E0,G0,E1,G1,E2,G2,E3,G3,E4,G4,E5,G5,rfl,ha0,ha1,ha2,ha3,ha4,ha5,-⟩ hx w hK;replace ha0:=Has.lo ha0 hK;replace ha1:=Has.lo ha1 hK;replace ha2:=Has.lo ha2 hK;replace ha3:=Has.lo ha3 hK;replace ha4:=Has.lo ha4 hK;replace ha5:=Has.lo ha5 hK;unfold Jm at hx;have:=dl 6 [0,1,0,0,1,0,1,0,0,1,0] [0,1,2,3,4,5,6,7,8,9,10];have:=dl 12 [0,1,0,0,1,0,1,0,0,1,0] [0,1,2,3,4,5,6,7,8,9,10];refine CtS ntmps83 results83 ?_;try (refine pre ?_;intros;rename_i hx)
 refine Bh ?_;try (refine pre ?_;intros;rename_i hx)
 refine Bh ?_;try (refine pre ?_;intros;rename_i hx)
 apply Jr (γ:=Unit) hx [2,3] (fun s3 y3 f=>(32,.bool s3)::f) [0,1,999] (fun s3 y3 l=>l);exact kk
 ·intro s3 y3 hx;refine Cq3 (s:=32) hx rfl (fun _ hx=>?_) (fun _ hx=>?_)
  ·exact au
  ·try (refine pre ?_;intros;rename_i hx)
   apply Jr (γ:=Unit) hx [2,3] (fun s5 y5 f=>f) [0,1,999] (fun s5 y5 l=>l);exact kk
   ·intro s5 y5 hx;apply Jr (γ:=Unit) hx [2,3] (fun s0 y0 f=>f) [0,1,999] (fun s0 y0 l=>l);exact kk
    ·intro s0 y0 hx;apply Jr (γ:=Unit) hx [] (fun s1 y1 f=>f) [999] (fun s1 y1 l=>l);exact kk
     ·intro s1 y1 hx;exact au
     ·intro _ hx;try (refine pre ?_;intros;rename_i hx)
      apply Lr (γ:=Unit) hx [2,3,71] (fun s2 y2 f=>(72,iq s2)::f) [0,1,999] (fun s2 y2 l=>l) ();exact kk;exact sk;intro s2 y2 x0 hx _;unfold Jb at hx;exact au
    ·intro _ hx;try (refine pre ?_;intros;rename_i hx)
     apply Lr (γ:=Unit) hx [2,3,53] (fun s4 y4 f=>(54,iq s4)::f) [0,1,999] (fun s4 y4 l=>l) ();exact kk;exact sk;intro s4 y4 x1 hx _;unfold Dv at hx;exact au
   ·intro _ hx;try (refine pre ?_;intros;rename_i hx)
    apply Lr (γ:=Unit) hx [2,3,35] (fun s6 y6 f=>(36,iq s6)::f) [0,1,999] (fun s6 y6 l=>l) ();exact kk;exact sk;intro s6 y6 x2 hx _;unfold Ei at hx;exact au
 ·intro _ hx;exact au⟩
instance(x0:Int)(x1:Int):Rc prog 42 2 [(0,iq x0),(1,iq x1)] 3 [iq x0,iq x1]:=⟨fun w=>kr⟩
noncomputable def Nq(p1:List Ab):Int->Option (Sum Int Unit):=fun s5=>
 if s5<(p1.length:Int) then none
 else (some (.inr ()))
noncomputable def Mb(p1:List Ab):Int->Option (Sum Int Unit):=fun s0=>
 if s0<(p1.length:Int) then none
 else (some (.inr ()))
noncomputable def Hh(p0:List Ad)(p1:List Ab):Option Int :=
 jn (fun (s2:Unit)=>
 jn (fun (s8:Unit)=>
 some 0)
 (fun j8=>bnd (lfix (Mb p1) 0) fun t0=>
 j8 t0))
 (fun j2=>bnd (lfix (Nq p1) 0) fun t5=>
 j2 t5)
noncomputable def Sk(p0:List Ad)(p1:List Ab):Option Int :=
 bnd (Jo p0) fun r1=>
 if r1=0 then (bnd (Hh p0 p1) fun r7=>
 some r7)
 else (some r1)
noncomputable def Tv(p1:List Ab)(p0:List Ad)(p2:Int)(p3:Int):Unit->Option (Sum Unit Unit):=fun s0=>
 if 0<(p1.length:Int) then (bnd (idx p1 0) fun x0=>
 bnd (idx p0 p2) fun x1=>
 bnd (idx p0 p3) fun x2=>
 bnd (idx p0 x0.a0) fun x3=>
 bnd (idx p0 x0.a1) fun x4=>
 bnd (Au x1) fun r0=>
 bnd (Au x2) fun r1=>
 bnd (Au x3) fun r2=>
 bnd (Au x4) fun r3=>
 none)
 else (some (.inr ()))
noncomputable def Mg(p0:List Ad)(p1:List Ab)(p2:Int)(p3:Int):Option Bool :=
 jn (fun (s2:Unit)=>
 some true)
 (fun j2=>bnd (lfix (Tv p1 p0 p2 p3) ()) fun t0=>
 j2 t0)
noncomputable def Lj(s0:List Int)(x0:Int):(Bool × Int)->Option (Sum (Bool × Int) Bool):=fun s1=>
 if s1.2<(s0.length:Int) then (jn (fun (s2:Bool)=>
 some (.inl (s2,w64 (s1.2+1))))
 (fun j0=>bnd (idx s0 s1.2) fun x1=>
 if s1.1=true then (j0 true)
 else (j0 (decide (x1=x0)))))
 else (some (.inr s1.1))
noncomputable def Lk(p3:List Int)(p0:List Ad)(p1:Int)(s0:List Int):(Int × Int)->Option (Sum (Int × Int) Int):=fun s1=>
 if s1.2<(p3.length:Int) then (jn (fun (s2:Int)=>
 some (.inl (s2,w64 (s1.2+1))))
 (fun j0=>bnd (idx p3 s1.2) fun x0=>
 jn (fun (s3:Bool)=>
 jn (fun (s4:Bool)=>
 if s4=true then (j0 x0)
 else (j0 s1.1))
 (fun j1=>if s3=true then (j1 false)
 else (if s1.1<0 then (j1 true)
 else (bnd (idx p0 p1) fun x1=>
 bnd (idx p0 x0) fun x2=>
 bnd (idx p0 s1.1) fun x3=>
 bnd (Au x1) fun r0=>
 bnd (Au x2) fun r1=>
 bnd (Au x3) fun r2=>
 bnd (Eb r0 r1 r2) fun r3=>
 j1 (decide (0<r3))))))
 (fun j2=>bnd (lfix (Lj s0 x0) (false,0)) fun t0=>
 j2 t0)))
 else (some (.inr s1.1))
noncomputable def Pk(p3:List Int)(p0:List Ad)(p1:Int):(List Int)->Option (Sum (List Int) (List Int)):=fun s0=>
 if (s0.length:Int)<(w64 ((p3.length:Int)+2)) then (jn (fun (s1:Int)=>
 gd ((s0.length+1)*8<=140737488355328)<|
 some (.inl (s0++[s1])))
 (fun j0=>bnd (lfix (Lk p3 p0 p1 s0) (-1,0)) fun t0=>
 j0 t0))
 else (some (.inr s0))
noncomputable def Qf(p0:List Ad)(p1:Int)(p2:Int)(p3:List Int):Option (List Int):=
 jn (fun (s3:List Int)=>
 some s3)
 (fun j3=>bnd (lfix (Pk p3 p0 p1) ([p1,p2])) fun t0=>
 j3 t0)
noncomputable def Jn(s0:List Int)(p0:List Ad):(Int × Int)->Option (Sum (Int × Int) Int):=fun s1=>
 if s1.2<(s0.length:Int) then (jn (fun (s2:Int)=>
 some (.inl (s2,w64 (s1.2+1))))
 (fun j0=>bnd (idx s0 s1.2) fun x0=>
 bnd (idx p0 x0) fun x1=>
 bnd (idx s0 s1.1) fun x2=>
 bnd (idx p0 x2) fun x3=>
 bnd (Au x1) fun r0=>
 bnd (Au x3) fun r1=>
 bnd (Gj r0 r1) fun r2=>
 if r2=true then (j0 s1.2)
 else (j0 s1.1)))
 else (some (.inr s1.1))
noncomputable def Is(s0:List Int)(s1:Int):(List Int × Int)->Option (Sum (List Int × Int) (List Int)):=fun s2=>
 if s2.2<(s0.length:Int) then (jn (fun (s3:List Int)=>
 some (.inl (s3,w64 (s2.2+1))))
 (fun j0=>if s2.2=s1 then (j0 s2.1)
 else (bnd (idx s0 s2.2) fun x0=>
 gd ((s2.1.length+1)*8<=140737488355328)<|
 j0 (s2.1++[x0]))))
 else (some (.inr s2.1))
noncomputable def Eu(p2:Int)(p1:Int)(p0:List Ad):(List Int)->Option (Sum (List Int) (Sum (List Int) Int)):=fun s0=>
 if 3<(s0.length:Int) then (jn (fun (s1:Int)=>
 gd ((s0.length:Int)≠0)<|
 bnd (idx s0 (Int.tmod (w64 ((w64 (s1+(s0.length:Int)))-1)) (s0.length:Int))) fun x0=>
 gd ((s0.length:Int)≠0)<|
 bnd (idx s0 (Int.tmod (w64 (s1+1)) (s0.length:Int))) fun x1=>
 jn (fun (s2:Bool)=>
 if s2=true then (some (.inr (.inr x0)))
 else (jn (fun (s3:Bool)=>
 if s3=true then (some (.inr (.inr x1)))
 else (jn (fun (s4:List Int)=>
 some (.inl s4))
 (fun j0=>bnd (lfix (Is s0 s1) (([]:List Int),0)) fun t0=>
 j0 t0)))
 (fun j1=>bnd (idx s0 s1) fun x2=>
 if x2=p2 then (j1 (decide (x0=p1)))
 else (j1 false))))
 (fun j2=>bnd (idx s0 s1) fun x3=>
 if x3=p1 then (j2 (decide (x1=p2)))
 else (j2 false)))
 (fun j3=>bnd (lfix (Jn s0 p0) (0,0)) fun t1=>
 j3 t1))
 else (some (.inr (.inl s0)))
noncomputable def Cz(s2:List Int)(p1:Int)(p2:Int):Int->Option (Sum Int (Sum Unit Int)):=fun s0=>
 if s0<(s2.length:Int) then (bnd (idx s2 s0) fun x0=>
 jn (fun (s1:Bool)=>
 if s1=true then (some (.inr (.inr x0)))
 else (some (.inl (w64 (s0+1)))))
 (fun j0=>if x0=p1 then (j0 false)
 else (j0 (!(decide (x0=p2))))))
 else (some (.inr (.inl ())))
noncomputable def Km(p0:List Ad)(p1:Int)(p2:Int)(p3:List Int):Option Int :=
 jn (fun (s2:List Int)=>
 jn (fun (s0:Unit)=>
 some (-1))
 (fun j0=>bnd (lfix (Cz s2 p1 p2) 0) fun t0=>
 (match t0 with
 | (.inl z0)=>j0 z0
 | (.inr z0)=>some z0
 )))
 (fun j2=>bnd (lfix (Eu p2 p1 p0) p3) fun t1=>
 (match t1 with
 | (.inl z1)=>j2 z1
 | (.inr z1)=>some z1
 ))
noncomputable def Ll(p0:List Ad)(p2:Int)(p3:Int)(p1:List Ab):(List Int × Int)->Option (Sum (List Int × Int) (List Int)):=fun s0=>
 if s0.2<(p0.length:Int) then (jn (fun (s1:List Int)=>
 some (.inl (s1,w64 (s0.2+1))))
 (fun j0=>jn (fun (s2:Bool)=>
 if s2=true then (j0 s0.1)
 else (if (s0.1.length:Int)=0 then (j0 ([s0.2]))
 else (bnd (idx p0 p2) fun x0=>
 bnd (idx p0 p3) fun x1=>
 bnd (idx s0.1 0) fun x2=>
 bnd (idx p0 x2) fun x3=>
 bnd (idx p0 s0.2) fun x4=>
 bnd (Au x0) fun r0=>
 bnd (Au x1) fun r1=>
 bnd (Au x3) fun r2=>
 bnd (Au x4) fun r3=>
 bnd (Nd r0 r1 r2 r3) fun r4=>
 if r4=1 then (j0 ([s0.2]))
 else (if r4=0 then (gd ((s0.1.length+1)*8<=140737488355328)<|
 j0 (s0.1++[s0.2]))
 else (j0 s0.1)))))
 (fun j1=>bnd (idx p0 p2) fun x5=>
 bnd (idx p0 p3) fun x6=>
 bnd (idx p0 s0.2) fun x7=>
 bnd (Au x5) fun r5=>
 bnd (Au x6) fun r6=>
 bnd (Au x7) fun r7=>
 bnd (Eb r5 r6 r7) fun r8=>
 if r8<=0 then (j1 true)
 else (bnd (Mg p0 p1 p2 s0.2) fun r9=>
 if r9=true then (bnd (Mg p0 p1 p3 s0.2) fun r10=>
 j1 (!(r10)))
 else (j1 true)))))
 else (some (.inr s0.1))
noncomputable def Qg(p0:List Ad)(p1:List Ab)(p2:Int)(p3:Int):Option Int :=
 jn (fun (s3:List Int)=>
 if (s3.length:Int)=0 then (some (-1))
 else (bnd (Qf p0 p2 p3 s3) fun r0=>
 bnd (Km p0 p2 p3 r0) fun r1=>
 some r1))
 (fun j3=>bnd (lfix (Ll p0 p2 p3 p1) (([]:List Int),0)) fun t0=>
 j3 t0)
instance(p0:List Ad)(p1:List Ab):Con (Hh p0 p1) prog 194 (fun K vs=>∃ E0 G0 E1 G1,vs=[.slice E0 p0.length G0,.slice E1 p1.length G1]/\Has K E0 p0.length G0 4 Ak p0/\Has K E1 p1.length G1 2 Ar p1/\True) (fun _ r=>fun v Ln=>v = iq r/\Ln=[]/\True):=⟨by
 rintro K _ r ⟨E0,G0,E1,G1,rfl,ha0,ha1,-⟩ hx w hK;replace ha0:=Has.lo ha0 hK;replace ha1:=Has.lo ha1 hK;unfold Hh at hx;refine CtS ntmps194 results194 ?_;try (refine pre ?_;intros;rename_i hx)
 refine Bh ?_;try (refine pre ?_;intros;rename_i hx)
 apply Jr (γ:=Unit) hx [0,1] (fun s2 y2 f=>f) [999] (fun s2 y2 l=>l);exact kk
 ·intro s2 y2 hx;apply Jr (γ:=Unit) hx [] (fun s8 y8 f=>f) [999] (fun s8 y8 l=>l);exact kk
  ·intro s8 y8 hx;exact au
  ·intro _ hx;try (refine pre ?_;intros;rename_i hx)
   apply Lr (γ:=Unit) hx [0,1,106] (fun s0 y0 f=>(107,iq s0)::f) [999] (fun s0 y0 l=>l) ();exact kk;exact sk;intro s0 y0 x0 hx _;unfold Mb at hx;exact au
 ·intro _ hx;try (refine pre ?_;intros;rename_i hx)
  apply Lr (γ:=Unit) hx [0,1,13] (fun s5 y5 f=>(14,iq s5)::f) [999] (fun s5 y5 l=>l) ();exact kk;exact sk;intro s5 y5 x5 hx _;unfold Nq at hx;exact au⟩
instance(p0:List Ad)(p1:List Ab):Con (Sk p0 p1) prog 136 (fun K vs=>∃ E0 G0 E1 G1,vs=[.slice E0 p0.length G0,.slice E1 p1.length G1]/\Has K E0 p0.length G0 4 Ak p0/\Has K E1 p1.length G1 2 Ar p1/\True) (fun _ r=>fun v Ln=>v = iq r/\Ln=[]/\True):=⟨by
 rintro K _ r ⟨E0,G0,E1,G1,rfl,ha0,ha1,-⟩ hx w hK;replace ha0:=Has.lo ha0 hK;replace ha1:=Has.lo ha1 hK;unfold Sk at hx;refine CtS ntmps136 results136 ?_;exact au⟩
instance(p0:List Ad)(p1:List Ab)(p2:Int)(p3:Int):Con (Mg p0 p1 p2 p3) prog 245 (fun K vs=>∃ E0 G0 E1 G1,vs=[.slice E0 p0.length G0,.slice E1 p1.length G1,iq p2,iq p3]/\Has K E0 p0.length G0 4 Ak p0/\Has K E1 p1.length G1 2 Ar p1/\True) (fun _ r=>fun v Ln=>v = .bool r/\Ln=[]/\True):=⟨by
 rintro K _ r ⟨E0,G0,E1,G1,rfl,ha0,ha1,-⟩ hx w hK;replace ha0:=Has.lo ha0 hK;replace ha1:=Has.lo ha1 hK;unfold Mg at hx;have:=dl 4 [0,0,0,1,2,0,0,0,1,2,0,0,1,0,1,2,0,0,1,0,1,2,2] [0,1,2,3,5,6,7,8,10,11,12,13,14,16,17,18,19,20,4,9,15,21,22];refine CtS ntmps245 results245 ?_;try (refine pre ?_;intros;rename_i hx)
 refine Bh ?_;try (refine pre ?_;intros;rename_i hx)
 apply Jr (γ:=Unit) hx [] (fun s2 y2 f=>f) [999] (fun s2 y2 l=>l);exact kk
 ·intro s2 y2 hx;exact au
 ·intro _ hx;try (refine pre ?_;intros;rename_i hx)
  apply Lr (γ:=Unit) hx [0,2,3,11,12,13] (fun s0 y0 f=>f) [999] (fun s0 y0 l=>l) ();exact kk;exact sk;intro s0 y0 x0 hx _;unfold Tv at hx;exact au⟩
instance(p0:List Ad)(p1:Int)(p2:Int)(p3:List Int):Con (Qf p0 p1 p2 p3) prog 248 (fun K vs=>∃ E0 G0 E1 G1,vs=[.slice E0 p0.length G0,iq p1,iq p2,.slice E1 p3.length G1]/\Has K E0 p0.length G0 4 Ak p0/\Has K E1 p3.length G1 1 Af p3/\True) (fun _ r=>fun v Ln=>∃ A0 c0,v = .slice A0 r.length c0/\Ln=[.r A0 r.length c0 3 1 (r.flatMap Af)]/\True):=⟨by
 rintro K _ r ⟨E0,G0,E1,G1,rfl,ha0,ha1,-⟩ hx w hK;replace ha0:=Has.lo ha0 hK;replace ha1:=Has.lo ha1 hK;unfold Qf at hx;have:=dl 13 [0,0,0,0,0,0,0,0,0,1,2,0,0,0,1,2,0,0,0,1,2,2,0,0,0] [0,1,2,3,4,5,6,7,8,9,11,12,13,14,16,17,18,19,10,15,20,21,22,23,24];refine CtS ntmps248 results248 ?_;try (refine pre ?_;intros;rename_i hx)
 refine Bh ?_;try (refine pre ?_;intros;rename_i hx)
 refine Bh ?_;try (refine pre ?_;intros;rename_i hx)
 apply Jr (γ:=Option Addr × Nat) hx [] (fun s3 y3 f=>(9,.slice y3.1 s3.length y3.2)::f) [999] (fun s3 y3 l=>.r y3.1 s3.length y3.2 3 1 (s3.flatMap Af)::l);exact kk
 ·intro s3 y3 hx;exact au
 ·intro _ hx;try (refine pre ?_;intros;rename_i hx)
  (with_reducible apply Aoj 18 (sz:=1));exact rfl;exact aT;exact inferInstance;exact dL;exact (fun _=>rfl);exact rfl;exact rfl;exact sA
  try (refine pre ?_;intros;rename_i hx)
  apply Lr (γ:=Option Addr × Nat) hx [0,1,3] (fun s0 y0 f=>(9,.slice y0.1 s0.length y0.2)::f) [999] (fun s0 y0 l=>.r y0.1 s0.length y0.2 3 1 (s0.flatMap Af)::l) (_,_);exact kk;exact sk;intro s0 y0 x0 hx _;unfold Pk at hx;try (refine pre ?_;intros;rename_i hx)
  refine Cq1 (s:=24) hx rfl (fun _ hx=>?_) (fun _ hx=>?_)
  ·try (refine pre ?_;intros;rename_i hx)
   refine Bh ?_;try (refine pre ?_;intros;rename_i hx)
   apply Jr (γ:=Unit) hx [0,1,3,9] (fun s1 y1 f=>(10,iq s1)::f) [0,999] (fun s1 y1 l=>l);exact kk
   ·intro s1 y1 hx;exact au
   ·intro _ hx;try (refine pre ?_;intros;rename_i hx)
    apply Lr (γ:=Unit) hx [0,1,3,9,25,26] (fun s2 y2 f=>(10,iq s2.1)::(27,iq s2.2)::f) [0,999] (fun s2 y2 l=>l) ();exact kk;exact sk;intro s2 y2 x1 hx _;unfold Lk at hx;try (refine pre ?_;intros;rename_i hx)
    refine Cq1 (s:=28) hx rfl (fun _ hx=>?_) (fun _ hx=>?_)
    ·try (refine pre ?_;intros;rename_i hx)
     apply Jr (γ:=Unit) hx [0,1,3,9,25,26,27] (fun s4 y4 f=>(10,iq s4)::f) [0,999] (fun s4 y4 l=>l);exact kk
     ·intro s4 y4 hx;exact au
     ·intro _ hx;try (refine pre ?_;intros;rename_i hx)
      refine Bh ?_;try (refine pre ?_;intros;rename_i hx)
      apply Jr (γ:=Unit) hx [0,1,3,9,10,12,25,26,27] (fun s5 y5 f=>(13,.bool s5)::f) [0,999] (fun s5 y5 l=>l);exact kk
      ·intro s5 y5 hx;apply Jr (γ:=Unit) hx [0,1,3,9,10,12,25,26,27] (fun s6 y6 f=>(68,.bool s6)::f) [0,999] (fun s6 y6 l=>l);exact kk
       ·intro s6 y6 hx;exact au
       ·intro _ hx;exact au
      ·intro _ hx;try (refine pre ?_;intros;rename_i hx)
       apply Lr (γ:=Unit) hx [0,1,3,9,10,12,25,26,27,31,32] (fun s7 y7 f=>(13,.bool s7.1)::(33,iq s7.2)::f) [0,999] (fun s7 y7 l=>l) ();exact kk;exact sk;intro s7 y7 x2 hx _;unfold Lj at hx;exact au
    ·exact au
  ·exact au⟩
theorem Adj(p0:List Ad)(p1:Int)(p2:Int)(p3:List Int){K:List Ent}{E0:Option Addr}{G0:Nat}{E1:Option Addr}{G1:Nat}(ha0:Has K E0 p0.length G0 4 Ak p0)(ha1:Has K E1 p3.length G1 1 Af p3){r:Int}(hx:Km p0 p1 p2 p3=some r)(w:World)(hK:∀ e∈K,Ent.ok w e):CtL prog 247 [.slice E0 p0.length G0,iq p1,iq p2,.slice E1 p3.length G1] w fun v Ln=>v = iq r/\Ln=[]/\True:=by
 have ha0':=Has.up0 ha0;have ha1':=Has.up0 ha1;refine CtL.mk 120 func247 rfl ntmps247 kr rfl ?_;show T 120 _ [(0,.slice E0 p0.length G0),(1,iq p1),(2,iq p2),(3,.slice E1 p3.length G1)] _;unfold Km at hx;refine Y5 ?_;obtain⟨j2,hj2,hx⟩:=Ac3 hx;refine Aa5 (τ:=List Int) (γ:=Option Addr × Nat × Ent) (J:=j2) (out:=r) (fun s2 y2=>[(1,iq p1),(2,iq p2),(3,.slice y2.1 s2.length y2.2.1)]) (fun s2 y2=>[y2.2.2]++[.old w]) (fun s2 y2=>y2.2.2.low=0/\Has (K++[y2.2.2]) y2.1 s2.length y2.2.1 1 Af s2/\True) ?_ ?_
 ·intro s2 y2 hx0 hG0;obtain⟨lo755,hs0,-⟩:=hG0;subst hj2;refine Tj (γ:=Unit) hx0 (fun s0 y0=>[]) (fun s0 y0=>[]++[.old w]) (fun s0 y0=>True) (fun s0 y0 hx1 hG1=>?_) (fun j0 hx0=>?_)
  ·refine Y6 ?_;obtain rfl:=Option.some.inj hx1;exact Df (rs:=[.tmp 8]) results247 (.tmp rfl (.nil)) (Ln:=[]) ⟨rfl,rfl,trivial⟩ Cr (by exact .refl)
  ·refine Y3 ?_;refine At (Dn rfl 3 underlying42) rfl ?_;refine Y4 ?_;obtain⟨t0,hl0,ho0⟩:=Ao hx0;refine Lp (σ:=Int) (γ:=Unit) hl0 (fun s1 y1=>[(1,iq p1),(2,iq p2),(104,.slice y2.1 s2.length y2.2.1),(105,iq (s2.length:Int)),(106,iq s1)]) (fun s1 y1=>[y2.2.2]++[.old w]) (fun s1 y1=>True) () trivial (by exact .pick 0 rfl (.refl)) ?_;intro s1 y1 hG2 x0 hx2 ht0;unfold Cz at hx2;refine Y6 ?_;refine Ti hx2 (s:=107) rfl (fun h0 hx3=>?_) (fun h0 hx4=>?_)
   ·refine Y7 ?_;obtain⟨x1,h1,hx5⟩:=Ao hx3;have hw0:=Has.low (E:=[y2.2.2]) hs0 hK;obtain⟨b0,o0,j1,hA0,hj0,hl1,hp0⟩:=Has.at_idx hw0 h1;refine At (Bl rfl rfl hA0 (j:=j1) hj0 hl1 Sa) rfl ?_;refine At (Ch rfl hp0 (SubE.cons2 (i:=1) rfl (sb 0)) rfl one3) rfl ?_;refine Y3 ?_;refine Tj (γ:=Unit) hx5 (fun s3 y3=>[(1,iq p1),(2,iq p2),(16,iq x1),(104,.slice y2.1 s2.length y2.2.1),(105,iq (s2.length:Int)),(106,iq s1),(117,.bool s3)]) (fun s3 y3=>[y2.2.2]++[.old w]) (fun s3 y3=>True) (fun s3 y3 hx6 hG3=>?_) (fun j3 hx5=>?_)
    ·refine Jv (s:=117) rfl (fun h2=>?_) (fun h2=>?_)
     ·have hx7:=Io h2 hx6;refine Y10 ?_;obtain rfl:=Ii ht0 hx7;refine Y3 ?_;obtain rfl:=Option.some.inj ho0;exact Df (rs:=[.tmp 8]) results247 (.tmp rfl (.nil)) (Ln:=[]) ⟨rfl,rfl,trivial⟩ Cr (by exact .drop 0 rfl (.refl))
     ·have hx8:=Nn h2 hx6;refine Y8 ?_;exact Rp (w64 (s1+1)) () hx8 trivial (by exact .pick 0 rfl (.refl))
    ·refine Y5 ?_;refine Xx (s:=113) rfl (fun h3=>?_) (fun h3=>?_)
     ·have hx9:=Yu h3 hx5;refine Y5 ?_;exact Mt (!(decide (x1=p2))) () hx9 trivial (by exact .pick 0 rfl (.refl))
     ·have hx10:=Io h3 hx5;refine Y5 ?_;exact Mt false () hx10 trivial (by exact .pick 0 rfl (.refl))
   ·refine Y3 ?_;obtain rfl:=Ii ht0 hx4;refine Y2 ?_;exact Mt () () ho0 trivial (by exact .drop 0 rfl (.refl))
 ·skip;refine Y ?_;obtain⟨t1,hl2,ho1⟩:=Ao hx;refine Bi 0 1 ?_;refine Lp (σ:=List Int) (γ:=Option Addr × Nat × Ent) hl2 (fun s4 y4=>[(0,.slice E0 p0.length G0),(1,iq p1),(2,iq p2),(3,.slice y4.1 s4.length y4.2.1)]) (fun s4 y4=>[y4.2.2]++[.old w]) (fun s4 y4=>y4.2.2.low=0/\Has (K++[y4.2.2]) y4.1 s4.length y4.2.1 1 Af s4/\True) (E1,G1,.r none 0 0 0 1 []) ((by exact⟨rfl,Has.len' ((Has.up (L:=(K++[.r none 0 0 0 1 []])) ha1' (SubE.app2 SubE.nil))),trivial⟩)) (by exact .pick 0 rfl (.refl)) ?_;intro s4 y4 hG4 x2 hx11 ht1;unfold Eu at hx11;obtain⟨lo502,hs1,-⟩:=hG4;refine Y4 ?_;refine At (Dn rfl 3 underlying42) rfl ?_;refine Y3 ?_;refine Ti hx11 (s:=19) rfl (fun h4 hx12=>?_) (fun h4 hx13=>?_)
  ·refine Y9 ?_;refine Tj (γ:=Unit) hx12 (fun s5 y5=>[(0,.slice E0 p0.length G0),(1,iq p1),(2,iq p2),(3,.slice y4.1 s4.length y4.2.1),(9,iq s5)]) (fun s5 y5=>[y4.2.2]++[.old w]) (fun s5 y5=>True) (fun s5 y5 hx14 hG5=>?_) (fun j4 hx12=>?_)
   ·refine Y ?_;refine T_dr [0,0,0,0,0,0,0,0,0,0,1,0,0,0,0,0,0,0,1,2,2] (.q 0 (.q 1 (.q 2 (.q 3 (.q 4 (.q 5 (.q 6 (.q 7 (.q 8 (.q 9 (.q 10 (.q 11 (.q 12 (.q 13 (.q 14 (.q 15 (.q 16 (.q 17 (.q 18 (.e 19 (.e 20 (.done) (.stop)) (.stop))))))))))))))))))))) mixed kr kr ?_;refine Y3 ?_;refine P_p rfl rfl (Dn rfl 3 underlying42) rfl ?_;refine Y3 ?_;refine P_p rfl rfl (Dn rfl 3 underlying42) rfl ?_;obtain⟨h5,hx15⟩:=Bv hx14;refine P_p rfl rfl (Amg rfl rfl h5) rfl ?_;obtain⟨x3,h6,hx16⟩:=Ao hx15;have hw2:=Has.low (E:=[y4.2.2]) hs1 hK;obtain⟨b1,o1,j5,hA1,hj1,hl3,hp1⟩:=Has.at_idx hw2 h6;refine P_p rfl rfl (Bl rfl rfl hA1 (j:=j5) hj1 hl3 Sa) rfl ?_;refine P_q rfl rfl (Ch rfl hp1 (SubE.cons2 (i:=1) rfl (sb 0)) rfl one3) rfl ?_;refine Y4 ?_;refine P_p rfl rfl (Dn rfl 3 underlying42) rfl ?_;obtain⟨h7,hx17⟩:=Bv hx16;refine P_p rfl rfl (Amg rfl rfl h7) rfl ?_;obtain⟨x4,h8,hx18⟩:=Ao hx17;have hw3:=Has.low (E:=[y4.2.2]) hs1 hK;obtain⟨b2,o2,j6,hA2,hj3,hl4,hp2⟩:=Has.at_idx hw3 h8;refine P_p rfl rfl (Bl rfl rfl hA2 (j:=j6) hj3 hl4 Sa) rfl ?_;refine P_q rfl rfl (Ch rfl hp2 (SubE.cons2 (i:=1) rfl (sb 0)) rfl one3) rfl ?_;refine P_x rfl (Dx (Ee rfl) rfl ?_) ?_;rotate_left;exact Bg;refine P_x rfl (Dx (Ee rfl) rfl ?_) ?_
    rotate_left;exact Bg;refine Y3 ?_;refine Tj (γ:=Unit) hx18 (fun s6 y6=>[(0,.slice E0 p0.length G0),(1,iq p1),(2,iq p2),(3,.slice y4.1 s4.length y4.2.1),(9,iq s5),(11,iq x3),(12,iq x4),(73,.bool s6)]) (fun s6 y6=>[y4.2.2]++[.old w]) (fun s6 y6=>True) (fun s6 y6 hx19 hG6=>?_) (fun j7 hx18=>?_)
    ·refine Jv (s:=73) rfl (fun h9=>?_) (fun h9=>?_)
     ·have hx20:=Io h9 hx19;refine Y10 ?_;obtain rfl:=Ii ht1 hx20;refine Y3 ?_;obtain rfl:=Option.some.inj ho1;exact Df (rs:=[.tmp 8]) results247 (.tmp rfl (.nil)) (Ln:=[]) ⟨rfl,rfl,trivial⟩ Cr (by exact .drop 0 rfl (.refl))
     ·have hx21:=Nn h9 hx19;refine Y4 ?_;refine Tj (γ:=Unit) hx21 (fun s7 y7=>[(0,.slice E0 p0.length G0),(1,iq p1),(2,iq p2),(3,.slice y4.1 s4.length y4.2.1),(9,iq s5),(12,iq x4),(85,.bool s7)]) (fun s7 y7=>[y4.2.2]++[.old w]) (fun s7 y7=>True) (fun s7 y7 hx22 hG7=>?_) (fun j8 hx21=>?_)
      ·refine Jv (s:=85) rfl (fun h10=>?_) (fun h10=>?_)
       ·have hx23:=Io h10 hx22;refine Y10 ?_;obtain rfl:=Ii ht1 hx23;refine Y3 ?_;obtain rfl:=Option.some.inj ho1;exact Df (rs:=[.tmp 8]) results247 (.tmp rfl (.nil)) (Ln:=[]) ⟨rfl,rfl,trivial⟩ Cr (by exact .drop 0 rfl (.refl))
       ·have hx24:=Nn h10 hx22;refine Y8 ?_;refine Tj (γ:=Option Addr × Nat) hx24 (fun s8 y8=>[(0,.slice E0 p0.length G0),(1,iq p1),(2,iq p2),(13,.slice y8.1 s8.length y8.2)]) (fun s8 y8=>[.r y8.1 s8.length y8.2 3 1 (s8.flatMap Af)]++[.old w]) (fun s8 y8=>True) (fun s8 y8 hx25 hG8=>?_) (fun j9 hx24=>?_)
        ·refine Y5 ?_;refine Gb (k:=0) rfl dD (fun _=>rfl) (fun hn0 hs2=>?_);exact Rp s8 (y8.1,y8.2,.r y8.1 s8.length y8.2 3 1 (s8.flatMap Af)) hx25 ((by exact⟨rfl,Has.len' ((Has.up (L:=(K++[.r y8.1 s8.length y8.2 3 1 (s8.flatMap Af)])) hs2 (SubE.appR2 (sb 0)))),trivial⟩)) (by exact .pick 0 rfl (.refl))
        ·refine Y3 ?_;refine At (Dn rfl 3 underlying42) rfl ?_;refine Y4 ?_;obtain⟨t2,hl5,ho2⟩:=Ao hx24;refine Bi 3 1 ?_;have hn1:0=(([]:List Int)).length:=by simp[Dr,Tm,List.length_append] <;> omega
         refine Wc (.here) (e':=.r none ((([]:List Int)).length) 0 3 1 ((([]:List Int)).flatMap Af)) (by first | (rw[<- hn1];done) | rfl) ?_;refine Lp (σ:=List Int × Int) (γ:=Option Addr × Nat) hl5 (fun s9 y9=>[(0,.slice E0 p0.length G0),(1,iq p1),(2,iq p2),(3,.slice y4.1 s4.length y4.2.1),(9,iq s5),(13,.slice y9.1 s9.1.length y9.2),(88,iq (s4.length:Int)),(89,iq s9.2)]) (fun s9 y9=>[.r y9.1 s9.1.length y9.2 3 1 (s9.1.flatMap Af),y4.2.2]++[.old w]) (fun s9 y9=>True) (none,0) trivial (by exact .pick 0 rfl (.pick 0 rfl (.refl))) ?_;intro s9 y9 hG9 x5 hx26 ht2;unfold Is at hx26;refine Y6 ?_;refine Ti hx26 (s:=90) rfl (fun h11 hx27=>?_) (fun h11 hx28=>?_)
         ·refine Y3 ?_;refine Tj (γ:=Option Addr × Nat) hx27 (fun s10 y10=>[(0,.slice E0 p0.length G0),(1,iq p1),(2,iq p2),(3,.slice y4.1 s4.length y4.2.1),(9,iq s5),(13,.slice y10.1 s10.length y10.2),(88,iq (s4.length:Int)),(89,iq s9.2)]) (fun s10 y10=>[.r y10.1 s10.length y10.2 3 1 (s10.flatMap Af),y4.2.2]++[.old w]) (fun s10 y10=>True) (fun s10 y10 hx29 hG10=>?_) (fun j10 hx27=>?_)
          ·refine Y4 ?_;exact Rp (s10,w64 (s9.2+1)) (y10.1,y10.2) hx29 trivial (by exact .pick 0 rfl (.pick 0 rfl (.refl)))
          ·(iterate 14 refine Y ?_);refine Xx (s:=94) rfl (fun h12=>?_) (fun h12=>?_)
           ·have hx30:=Yu h12 hx27;refine Y5 ?_;obtain⟨x6,h13,hx31⟩:=Ao hx30;have hw4:=Has.low (E:=[y4.2.2]) hs1 hK;obtain⟨b3,o3,j11,hA3,hj4,hl6,hp3⟩:=Has.at_idx hw4 h13;refine At (Bl rfl rfl hA3 (j:=j11) hj4 hl6 Sa) rfl ?_;refine At (Ch rfl hp3 (SubE.cons2 (i:=2) rfl (sb 1)) rfl one3) rfl ?_;refine T_x (Bs rfl (Ju _) rfl (fun g0=>?_));obtain⟨h14,hx32⟩:=Bv hx31;refine T_h (Ho Af s9.1 [x6] rfl rfl rfl Afc (fun _=>rfl) (i':=0) rfl rfl rfl rfl h14 rfl (fun _ _=>.there (.here)) (fun _ _=>.drop .refl) dD (fun A0 c0=>?_));refine Y3 ?_;exact Mt (s9.1++[x6]) (A0,c0) hx32 trivial (by exact .pick 0 rfl (.pick 0 rfl (.refl)))
           ·have hx33:=Io h12 hx27;refine Y3 ?_;exact Mt s9.1 (y9.1,y9.2) hx33 trivial (by exact .pick 0 rfl (.pick 0 rfl (.refl)))
         ·refine Y3 ?_;obtain rfl:=Ii ht2 hx28;refine Y2 ?_;exact Mt s9.1 (y9.1,y9.2) ho2 trivial (by exact .pick 0 rfl (.drop 0 rfl (.refl)))
      ·refine Y3 ?_;obtain⟨x7,h15,hx34⟩:=Ao hx21;have hw5:=Has.low (E:=[y4.2.2]) hs1 hK;obtain⟨b4,o4,j12,hA4,hj5,hl7,hp4⟩:=Has.at_idx hw5 h15;refine At (Bl rfl rfl hA4 (j:=j12) hj5 hl7 Sa) rfl ?_;refine At (Ch rfl hp4 (SubE.cons2 (i:=1) rfl (sb 0)) rfl one3) rfl ?_;refine Y3 ?_;refine Ti hx34 (s:=81) rfl (fun h16 hx35=>?_) (fun h16 hx36=>?_)
       ·refine Y5 ?_;exact Mt (decide (x3=p1)) () hx35 trivial (by exact .pick 0 rfl (.refl))
       ·refine Y5 ?_;exact Mt false () hx36 trivial (by exact .pick 0 rfl (.refl))
    ·refine Y3 ?_;obtain⟨x8,h17,hx37⟩:=Ao hx18;have hw6:=Has.low (E:=[y4.2.2]) hs1 hK;obtain⟨b5,o5,j13,hA5,hj6,hl8,hp5⟩:=Has.at_idx hw6 h17;refine At (Bl rfl rfl hA5 (j:=j13) hj6 hl8 Sa) rfl ?_;refine At (Ch rfl hp5 (SubE.cons2 (i:=1) rfl (sb 0)) rfl one3) rfl ?_;refine Y3 ?_;refine Ti hx37 (s:=69) rfl (fun h18 hx38=>?_) (fun h18 hx39=>?_)
     ·refine Y5 ?_;exact Mt (decide (x4=p2)) () hx38 trivial (by exact .pick 0 rfl (.refl))
     ·refine Y5 ?_;exact Mt false () hx39 trivial (by exact .pick 0 rfl (.refl))
   ·refine Y3 ?_;refine At (Dn rfl 3 underlying42) rfl ?_;refine Y4 ?_;obtain⟨t3,hl9,ho3⟩:=Ao hx12;refine Lp (σ:=Int × Int) (γ:=Unit) hl9 (fun s11 y11=>[(0,.slice E0 p0.length G0),(1,iq p1),(2,iq p2),(3,.slice y4.1 s4.length y4.2.1),(9,iq s11.1),(21,iq (s4.length:Int)),(22,iq s11.2)]) (fun s11 y11=>[y4.2.2]++[.old w]) (fun s11 y11=>True) () trivial (by exact .pick 0 rfl (.refl)) ?_;intro s11 y11 hG11 x9 hx40 ht3;unfold Jn at hx40;refine Y6 ?_;refine Ti hx40 (s:=23) rfl (fun h19 hx41=>?_) (fun h19 hx42=>?_)
    ·refine Y3 ?_;refine Tj (γ:=Unit) hx41 (fun s85 y85=>[(0,.slice E0 p0.length G0),(1,iq p1),(2,iq p2),(3,.slice y4.1 s4.length y4.2.1),(9,iq s85),(21,iq (s4.length:Int)),(22,iq s11.2)]) (fun s85 y85=>[y4.2.2]++[.old w]) (fun s85 y85=>True) (fun s85 y85 hx43 hG12=>?_) (fun j85 hx41=>?_)
     ·refine Y4 ?_;exact Rp (s85,w64 (s11.2+1)) () hx43 trivial (by exact .pick 0 rfl (.refl))
     ·refine Y8 ?_;refine T_dr [0,0,0,0,1,0,1,2,0,0,0,0,1,0,1,2,2] (.q 0 (.q 1 (.q 2 (.q 3 (.q 4 (.q 5 (.q 6 (.q 8 (.q 9 (.q 10 (.q 11 (.q 12 (.q 13 (.q 14 (.e 7 (.e 15 (.e 16 (.done) (.stop)) (.stop)) (.stop)))))))))))))))) mixed kr kr ?_;refine Y3 ?_;obtain⟨x10,h20,hx44⟩:=Ao hx41;have hw7:=Has.low (E:=[y4.2.2]) hs1 hK;obtain⟨b6,o6,j14,hA6,hj7,hl10,hp6⟩:=Has.at_idx hw7 h20;refine P_p rfl rfl (Bl rfl rfl hA6 (j:=j14) hj7 hl10 Sa) rfl ?_;refine P_q rfl rfl (Ch rfl hp6 (SubE.cons2 (i:=1) rfl (sb 0)) rfl one3) rfl ?_;obtain⟨x11,h21,hx45⟩:=Ao hx44;refine P_il (Has.low (E:=[]) ha0' hK) h21 Wy Aez (sb 1) (fun b7 o7=>?_);refine Y3 ?_;obtain⟨x12,h22,hx46⟩:=Ao hx45;have hw8:=Has.low (E:=[y4.2.2]) hs1 hK;obtain⟨b8,o8,j15,hA7,hj8,hl11,hp7⟩:=Has.at_idx hw8 h22;refine P_p rfl rfl (Bl rfl rfl hA7 (j:=j15) hj8 hl11 Sa) rfl ?_;refine P_q rfl rfl (Ch rfl hp7 (SubE.cons2 (i:=1) rfl (sb 0)) rfl one3) rfl ?_;obtain⟨x13,h23,hx47⟩:=Ao hx46;refine P_il (Has.low (E:=[]) ha0' hK) h23 Wy Aez (sb 1) (fun b9 o9=>?_);obtain⟨r0,h24,hx48⟩:=Ao hx47;refine Pc (fun w1 hw1=>Ww x11  h24 w1) ?_;obtain⟨r1,h25,hx49⟩:=Ao hx48;refine Pc (fun w1 hw1=>Ww x13  h25 w1) ?_;obtain⟨r2,h26,hx50⟩:=Ao hx49;refine Pc (fun w1 hw1=>Acl r0 r1  h26 w1) ?_;refine Y2 ?_;refine Jv (s:=41) rfl (fun h27=>?_) (fun h27=>?_)
      ·have hx51:=Io h27 hx50;refine Y6 ?_;exact Mt s11.2 () hx51 trivial (by exact .pick 0 rfl (.refl))
      ·have hx52:=Nn h27 hx50;refine Y3 ?_;exact Mt s11.1 () hx52 trivial (by exact .pick 0 rfl (.refl))
    ·refine Y3 ?_;obtain rfl:=Ii ht3 hx42;refine Y2 ?_;exact Mt s11.1 () ho3 trivial (by exact .pick 0 rfl (.refl))
  ·refine Y3 ?_;obtain rfl:=Ii ht1 hx13;refine Y2 ?_;exact Mt s4 (y4.1,y4.2.1,y4.2.2) ho1 ((by exact⟨lo502,Has.len' hs1,trivial⟩)) (by exact .pick 0 rfl (.refl))
instance(p0:List Ad)(p1:Int)(p2:Int)(p3:List Int):Con (Km p0 p1 p2 p3) prog 247 (fun K vs=>∃ E0 G0 E1 G1,vs=[.slice E0 p0.length G0,iq p1,iq p2,.slice E1 p3.length G1]/\Has K E0 p0.length G0 4 Ak p0/\Has K E1 p3.length G1 1 Af p3/\True) (fun _ r=>fun v Ln=>v = iq r/\Ln=[]/\True):=⟨by
 rintro K _ r ⟨E0,G0,E1,G1,rfl,ha0,ha1,-⟩ hx w hK;exact Adj p0 p1 p2 p3 ha0 ha1 hx w hK⟩
instance(p0:List Ad)(p1:List Ab)(p2:Int)(p3:Int):Con (Qg p0 p1 p2 p3) prog 199 (fun K vs=>∃ E0 G0 E1 G1,vs=[.slice E0 p0.length G0,.slice E1 p1.length G1,iq p2,iq p3]/\Has K E0 p0.length G0 4 Ak p0/\Has K E1 p1.length G1 2 Ar p1/\True) (fun _ r=>fun v Ln=>v = iq r/\Ln=[]/\True):=⟨by
 rintro K _ r ⟨E0,G0,E1,G1,rfl,ha0,ha1,-⟩ hx w hK;replace ha0:=Has.lo ha0 hK;replace ha1:=Has.lo ha1 hK;unfold Qg at hx;have:=dl 5 [0,0,0,1,2,0,0,0,1,2,0,0,0,1,2,2,0,0,0,0,0,0,2,0,0,0,0,0,0,0,2,0,0] [0,1,2,3,5,6,7,8,10,11,12,13,4,9,14,15,16,17,18,19,20,21,22,23,24,25,26,27,28,29,30,31,32];have:=dl 8 [0,0,0,1,2,0,0,0,1,2,0,0,0,1,0,1,2,0,0,0,1,2,2] [0,1,2,3,5,6,7,8,10,11,12,13,14,15,17,18,19,20,4,9,16,21,22];refine CtS ntmps199 results199 ?_;try (refine pre ?_;intros;rename_i hx)
 refine Bh ?_;try (refine pre ?_;intros;rename_i hx)
 refine Bh ?_;try (refine pre ?_;intros;rename_i hx)
 apply Jr (γ:=Option Addr × Nat) hx [0,2,3] (fun s3 y3 f=>(9,.slice y3.1 s3.length y3.2)::f) [999] (fun s3 y3 l=>.r y3.1 s3.length y3.2 3 1 (s3.flatMap Af)::l);exact kk
 ·intro s3 y3 hx;exact au
 ·intro _ hx;try (refine pre ?_;intros;rename_i hx)
  refine Bi 3 1 ?_;apply Lr (γ:=Option Addr × Nat) hx [0,1,2,3,12] (fun s0 y0 f=>(9,.slice y0.1 s0.1.length y0.2)::(13,iq s0.2)::f) [999] (fun s0 y0 l=>.r y0.1 s0.1.length y0.2 3 1 (s0.1.flatMap Af)::l) (_,_);exact kk;exact sk;intro s0 y0 x0 hx _;unfold Ll at hx;try (refine pre ?_;intros;rename_i hx)
  refine Cq1 (s:=14) hx rfl (fun _ hx=>?_) (fun _ hx=>?_)
  ·try (refine pre ?_;intros;rename_i hx)
   apply Jr (γ:=Option Addr × Nat) hx [0,1,2,3,12,13] (fun s1 y1 f=>(9,.slice y1.1 s1.length y1.2)::f) [999] (fun s1 y1 l=>.r y1.1 s1.length y1.2 3 1 (s1.flatMap Af)::l);exact kk
   ·intro s1 y1 hx;exact au
   ·intro _ hx;try (refine pre ?_;intros;rename_i hx)
    refine Bh ?_;try (refine pre ?_;intros;rename_i hx)
    refine Bh ?_;try (refine pre ?_;intros;rename_i hx)
    apply Jr (γ:=Unit) hx [0,1,2,3,9,10,12,13] (fun s2 y2 f=>(48,.bool s2)::f) [0,999] (fun s2 y2 l=>l);exact kk
    ·intro s2 y2 hx;refine Cq3 (s:=48) hx rfl (fun _ hx=>?_) (fun _ hx=>?_)
     ·exact au
     ·try (refine pre ?_;intros;rename_i hx)
      refine Cq1 (s:=51) hx rfl (fun _ hx=>?_) (fun _ hx=>?_)
      ·try (refine pre ?_;intros;rename_i hx)
       (with_reducible apply Aoj 9 (sz:=1));exact rfl;exact aT;exact inferInstance;exact dL;exact (fun _=>rfl);exact rfl;exact rfl;exact sA
       exact au
      ·try (refine pre ?_;intros;rename_i hx)
       refine Cq1 (s:=77) hx rfl (fun _ hx=>?_) (fun _ hx=>?_)
       ·try (refine pre ?_;intros;rename_i hx)
        (with_reducible apply Aoj 9 (sz:=1));exact rfl;exact aT;exact inferInstance;exact dL;exact (fun _=>rfl);exact rfl;exact rfl;exact sA
        exact au
       ·exact au
    ·intro _ hx;exact au
  ·exact au⟩
end Go.Proofs.YthlkpgdfifnagaaGreat
