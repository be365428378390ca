import Derived.Test.YtlejkgngmjchdaaGreatU18
set_option maxRecDepth 100000
set_option maxHeartbeats 1000000
namespace Go.Proofs.YtlejkgngmjchdaaGreat
open Go Go.RowKit Tryz
noncomputable section
section
variable {v:List Aa}
theorem Azs(a b c d:Int):DH (plV v) (hV v) a b d c = -DH (plV v) (hV v) a b c d:=Ak6 _ _ _ _ _ _ _ _
def dtp(a b x:Ad):Int:=(x.X-a.X)*(x.X-b.X)+(x.Y-a.Y)*(x.Y-b.Y)
theorem Yt(a b c d:Ad):inC a b c d=dtp a b c*crs a b d-dtp a b d*crs a b c:=by unfold inC dtp lft crs;grind
theorem Akv{a b c d e:Ad}(hc:0<crs a b c)(hd:0<crs a b d)(he:0<crs a b e)(h1:0<inC a b c d)(h2:inC a b c e<=0):inC a b d e<0:=by
 rw[Yt] at *;have e1:dtp a b d*crs a b c<dtp a b c*crs a b d:=oo;have e2:dtp a b c*crs a b e<=dtp a b e*crs a b c:=oo;have m1:=Int.mul_lt_mul_of_pos_right e1 he;have m2:=Int.mul_le_mul_of_nonneg_right e2 (Int.le_of_lt hd);have m3:(dtp a b d*crs a b e)*crs a b c<(dtp a b e*crs a b d)*crs a b c:=by
  have r1:(dtp a b d*crs a b e)*crs a b c=dtp a b d*crs a b c*crs a b e:=by grind
  have r2:dtp a b c*crs a b d*crs a b e=dtp a b c*crs a b e*crs a b d:=by grind
  have r3:(dtp a b e*crs a b d)*crs a b c=dtp a b e*crs a b c*crs a b d:=by grind
  omega
 have:=Int.lt_of_mul_lt_mul_right m3 (Int.le_of_lt hc);omega
theorem Am3{a b c d e:Ad}(hc:0<crs a b c)(h1:inC a b c d=0):inC a b c e*crs a b d=inC a b d e*crs a b c:=by
 rw[Yt a b c e,Yt a b d e];rw[Yt] at h1;have e1:dtp a b c*crs a b d=dtp a b d*crs a b c:=oo;have r1:(dtp a b c*crs a b e-dtp a b e*crs a b c)*crs a b d=dtp a b c*crs a b d*crs a b e-dtp a b e*crs a b c*crs a b d:=by grind
 rw[r1,e1];grind
theorem Aa8{a b c d e:Ad}(hc:0<crs a b c)(hd:0<crs a b d)(h1:inC a b c d=0):(inC a b c e<0->inC a b d e<0)/\(inC a b c e=0->inC a b d e=0):=by
 have h:=Am3 (e:=e) hc h1;constructor
 .intro g;rcases Int.lt_or_le (inC a b d e) 0 with k|k
  .exact k
  .have e1:=Int.mul_nonneg k (Int.le_of_lt hc);have e2:=Int.mul_neg_of_neg_of_pos g hd;omega
 .intro g;rw[g,Int.zero_mul] at h;rcases Int.mul_eq_zero.1 h.symm with k|k
  .exact k
  .omega
theorem Aox{a b c d:Ad}(hc:0<crs a b c)(hd:0<crs a b d)(h0:inC a b c d=0)(h1:crs a c d=0):Bz c d:=by
 have hca:¬Bz c a:=fun e=>by have:=Ach e;subst this;rw[Bx] at hc;omega
 have L1:=Ajc hca;have e0:lft c a*crs a b d=lft d a*crs a b c:=by
  have:inC a b c d=lft b a*crs c a d+lft c a*crs a b d-lft d a*crs a b c:=by unfold inC lft crs;grind
  rw[h0,Bb,h1] at this;simp only[Int.neg_zero,Int.mul_zero,Int.zero_add] at this;omega
 have ex:crs a b c*(d.X-a.X)=crs a b d*(c.X-a.X):=by
  have:crs a b c*(d.X-a.X)-crs a b d*(c.X-a.X) = -(b.X-a.X)*crs a c d:=by unfold crs;grind
  rw[h1,Int.mul_zero] at this;omega
 have ey:crs a b c*(d.Y-a.Y)=crs a b d*(c.Y-a.Y):=by
  have:crs a b c*(d.Y-a.Y)-crs a b d*(c.Y-a.Y) = -(b.Y-a.Y)*crs a c d:=by unfold crs;grind
  rw[h1,Int.mul_zero] at this;omega
 generalize hk1:crs a b c=k1 at *;generalize hk2:crs a b d=k2 at *;have e2:k1*(k1*lft d a)=k2*(k2*lft c a):=by
  unfold lft;have x2:(k1*(d.X-a.X))*(k1*(d.X-a.X))=(k2*(c.X-a.X))*(k2*(c.X-a.X)):=by rw[ex]
  have y2:(k1*(d.Y-a.Y))*(k1*(d.Y-a.Y))=(k2*(c.Y-a.Y))*(k2*(c.Y-a.Y)):=by rw[ey]
  grind
 have e3:(lft c a*k2)*(k1-k2)=0:=by
  have:k1*(k1*lft d a)=k1*(lft c a*k2):=by rw[e0,Int.mul_comm k1 (lft d a)]
  grind
 have e4:k1=k2:=by
  rcases Int.mul_eq_zero.1 e3 with g|g
  .rcases Int.mul_eq_zero.1 g with g|g <;> omega
  .omega
 subst e4;have gx:=Int.eq_of_mul_eq_mul_left oo ex;have gy:=Int.eq_of_mul_eq_mul_left oo ey;unfold Bz;omega
theorem Axr{a b c d:Ad}(hc:0<crs a b c)(h0:inC a b c d=0)(h1:0<crs a c d)(hd:0<crs a b d):0<crs b c d:=by
 rcases Int.lt_or_le 0 (crs b c d) with g|g
 .exact g
 .have:=Zk (a:=c) (b:=a) (c:=b) (d:=d) (by rw[<-Au];exact hc) (by rw[Bb];omega) g;rw[<-Afa,h0] at this;omega
end
section
variable {v:List Aa}{a b:Int}
structure Best(v:List Aa)(a b k:Int)(s:LI):Prop where
 mem:∀c∈s,inN v.length c/\c<k/\0<crs (plV v a) (plV v b) (plV v c)
 none:s=[]->∀d,inN v.length d->d<k->crs (plV v a) (plV v b) (plV v d)<=0
 top:∀c∈s,∀d,inN v.length d->d<k->0<crs (plV v a) (plV v b) (plV v d)->(inC (plV v a) (plV v b) (plV v c) (plV v d)<0/\d∉s)\/(inC (plV v a) (plV v b) (plV v c) (plV v d)=0/\d∈s)
 nd:s.Nodup
theorem Best.skip{k:Int}{s:LI}(h:Best v a b k s)(hk:crs (plV v a) (plV v b) (plV v k)<=0):Best v a b (k+1) s:=by
 refine⟨fun c hc=>?_,fun e d hd hl=>?_,fun c hc d hd hl hp=>?_,h.nd⟩
 .obtain⟨h1,h2,h3⟩:=h.mem c hc;exact⟨h1,oo,h3⟩
 .by_cases g:d=k
  .subst g;exact hk
  .exact h.none e d hd oo
 .by_cases g:d=k
  .subst g;omega
  .exact h.top c hc d hd oo hp
theorem Aho(a b c:Ad):inC a b c c=0:=by unfold inC lft crs;grind
theorem Best.one{k:Int}(hk:inN v.length k)(hp:0<crs (plV v a) (plV v b) (plV v k))(ho:∀d,inN v.length d->d<k->0<crs (plV v a) (plV v b) (plV v d)->inC (plV v a) (plV v b) (plV v k) (plV v d)<0):Best v a b (k+1) [k]:=by
 refine⟨fun c hc=>?_,fun e=>(by cases e),fun c hc d hd hl hq=>?_,s_⟩
 .rw[List.mem_singleton] at hc;subst hc;exact⟨hk,oo,hp⟩
 .rw[List.mem_singleton] at hc;subst hc
  by_cases g:d=c
  .subst g;exact .inr ⟨Aho _ _ _,List.mem_singleton.2 rfl⟩
  .exact .inl ⟨ho d hd oo hq,sV g⟩
theorem Best.first{k:Int}(h:Best v a b k [])(hk:inN v.length k)(hp:0<crs (plV v a) (plV v b) (plV v k)):Best v a b (k+1) [k] :=
 Best.one hk hp fun d hd hl hq=>by have:=h.none rfl d hd hl;omega
structure Circ(v:List Aa)(a b:Int)(l:LI):Prop where
 mem:∀c∈l,inN v.length c/\0<crs (plV v a) (plV v b) (plV v c)
 on:∀c∈l,∀d∈l,inC (plV v a) (plV v b) (plV v c) (plV v d)=0
 nd:l.Nodup
theorem Circ.sub{l l':LI}(h:Circ v a b l)(hs:∀x∈l',x∈l)(hn:l'.Nodup):Circ v a b l':=⟨fun c hc=>h.mem c (hs c hc),fun c hc d hd=>h.on c (hs c hc) d (hs d hd),hn⟩
theorem Circ.ne0{l:LI}(hv:Ci v)(h:Circ v a b l){c d:Int}(hc:c∈l)(hd:d∈l)(hne:c≠d):crs (plV v a) (plV v c) (plV v d)≠0:=fun e=>by
 obtain⟨c1,c2⟩:=h.mem c hc;obtain⟨d1,d2⟩:=h.mem d hd;exact hne (hv.dist c d c1 d1 (Aox c2 d2 (h.on c hc d hd) e))
theorem Circ.trans{l:LI}(h:Circ v a b l){c d e:Int}(hc:c∈l)(hd:d∈l)(he:e∈l)(h1:0<crs (plV v a) (plV v c) (plV v d))(h2:0<crs (plV v a) (plV v d) (plV v e)):0<crs (plV v a) (plV v c) (plV v e):=by
 have p:=Ty (plV v a) (plV v b) (plV v c) (plV v d) (plV v e);have e1:=Int.mul_pos (h.mem c hc).2 h2;have e2:=Int.mul_pos (h.mem e he).2 h1;refine Cs (x:=crs (plV v a) (plV v b) (plV v d)) ?_ (h.mem d hd).2;omega
structure Ring(v:List Aa)(a b:Int)(l:LI):Prop where
 circ:Circ v a b l
 ord:l.Pairwise fun x y=>0<crs (plV v a) (plV v x) (plV v y)
def Ans(v:List Aa)(a b:Int)(l:LI)(c:Int):Prop:=c∈l/\∀d∈l,d≠c->DH (plV v) (hV v) a b c d<0
section
variable (hv:Ci v)(ha:inN v.length a)(hb:inN v.length b){l:LI}
include hv ha hb
theorem Ring.ans_a{c:Int}{l:LI}(h:Ring v a b (l++[c]))(hab:befP (plV v a) (plV v b))(hf:∀x∈l++[c],befP (plV v a) (plV v x)):Ans v a b (l++[c]) c:=by
 have hc:c∈l++[c]:=s_;refine⟨hc,fun d hd hne=>?_⟩;obtain⟨c1,c2⟩:=h.circ.mem c hc;obtain⟨d1,d2⟩:=h.circ.mem d hd;have hdl:d∈l:=by
  rcases List.mem_append.1 hd with g|g
  .exact g
  .exact absurd (List.mem_singleton.1 g) hne
 have hdc:0<crs (plV v a) (plV v d) (plV v c):=(List.pairwise_append.1 h.ord).2.2 d hdl c s_;have:=Axr d2 (h.circ.on d hd c hc) hdc c2;refine (Ve hv ha hb c1 d1 (h.circ.on c hc d hd) hab (hf c hc) (hf d hd)).2 ?_;rw[Ahc];omega
theorem Ring.ans_b{c:Int}{l:LI}(h:Ring v a b (c::l))(hab:befP (plV v b) (plV v a))(hf:∀x∈c::l,befP (plV v b) (plV v x)):Ans v a b (c::l) c:=by
 have hc:c∈c::l:=s_;refine⟨hc,fun d hd hne=>?_⟩;obtain⟨c1,c2⟩:=h.circ.mem c hc;obtain⟨d1,d2⟩:=h.circ.mem d hd;have hdl:d∈l:=by
  rcases List.mem_cons.1 hd with g|g
  .exact absurd g hne
  .exact g
 have hcd:0<crs (plV v a) (plV v c) (plV v d):=(List.pairwise_cons.1 h.ord).1 d hdl;rw[<-Sr];refine (Ve hv hb c1 ha d1 (by rw[Afa];exact h.circ.on c hc d hd) (hf c hc) hab (hf d hd)).2 ?_;rw[Bb];omega
theorem Ring.ans_cut{x c:Int}(h:Ring v a b l)(hx:x∈l)(hxa:befP (plV v x) (plV v a))(hxb:befP (plV v x) (plV v b))(hf:∀y∈l,y≠x->befP (plV v x) (plV v y)){l':LI}(hl:∀y,y∈l'↔y∈l/\y≠x)(hc:Ans v a b l' c):Ans v a b l c:=by
 obtain⟨h1,h2⟩:=hc;obtain⟨hcl,hcx⟩:=(hl c).1 h1;obtain⟨c1,c2⟩:=h.circ.mem c hcl;obtain⟨x1,x2⟩:=h.circ.mem x hx;refine⟨hcl,fun d hd hne=>?_⟩
 by_cases e:d=x
 .subst e;exact Af4 hv ha hb c1 x1 (h.circ.on c hcl d hx) hxa hxb (hf c hcl hcx) c2
 .exact h2 d ((hl d).2 ⟨hd,e⟩) hne
end
end
section
variable {v:List Aa}{p0 q0:Int}
def Pd(t:Ah)(p q:Int):Prop:=(p=t.a0/\q=t.a1)\/(p=t.a1/\q=t.a2)\/(p=t.a2/\q=t.a0)
def Bej(v:List Aa)(t:Ah):Prop:=t.a0<t.a1/\t.a0<t.a2/\Del v t.a0 t.a1 t.a2
def noT(v:List Aa)(p q:Int):Prop:=∀d,inN v.length d->crs (plV v p) (plV v q) (plV v d)<=0
def okS(v:List Aa)(p q:Int):Prop:=inN v.length p/\inN v.length q/\(noT v p q\/∃e,Del v p q e)
structure Tr(v:List Aa)(p0 q0:Int)(op:List Ab)(dn:Int->Int->Prop)(out:List Ah):Prop where
 mem:∀t∈out,Bej v t
 nd:out.Nodup
 opn:∀s∈op,okS v s.a0 s.a1
 don:∀p q,dn p q->(∃t∈out,Pd t p q)\/noT v p q
 all:∀t∈out,∀p q,Pd t p q->dn p q
 rev:∀t∈out,∀p q,Pd t p q->⟨q,p⟩∈op\/dn q p
 sta:⟨p0,q0⟩∈op\/dn p0 q0
 len:op.length<=3*out.length+1
theorem Ade{x s:Ab}{op:List Ab}(h:x∈op++[s]):x∈op\/x=s:=by simpa using h
theorem Tr.skip{op:List Ab}{dn:Int->Int->Prop}{out:List Ah}{s:Ab}(h:Tr v p0 q0 (op++[s]) dn out)(hs:dn s.a0 s.a1):Tr v p0 q0 op dn out :=
 ⟨h.mem,h.nd,fun x hx=>h.opn x (by simp[hx]),h.don,h.all,fun t ht p q hp=>(h.rev t ht p q hp).elim (fun g=>(Ade g).imp id fun e=>by subst e;exact hs) .inr,
  h.sta.elim (fun g=>(Ade g).imp id fun e=>by subst e;exact hs) .inr,by have:=h.len;rw[List.length_append,List.length_singleton] at this;omega⟩
theorem Tr.none{op:List Ab}{dn dn':Int->Int->Prop}{out:List Ah}{s:Ab}(h:Tr v p0 q0 (op++[s]) dn out)(hd:∀p q,dn' p q↔dn p q\/(p=s.a0/\q=s.a1))(hn:noT v s.a0 s.a1):Tr v p0 q0 op dn' out:=by
 have key:Tr v p0 q0 (op++[s]) dn' out:=⟨h.mem,h.nd,h.opn,fun p q g=>by
  rcases (hd p q).1 g with g|⟨rfl,rfl⟩
  .exact h.don p q g
  .exact .inr hn,fun t ht p q hp=>(hd p q).2 (.inl (h.all t ht p q hp)),fun t ht p q hp=>(h.rev t ht p q hp).imp id fun g=>(hd _ _).2 (.inl g),h.sta.imp id fun g=>(hd _ _).2 (.inl g),h.len⟩
 exact key.skip ((hd _ _).2 (.inr ⟨rfl,rfl⟩))
def rots(t:Ah):List T3:=[(t.a0,t.a1,t.a2),(t.a1,t.a2,t.a0),(t.a2,t.a0,t.a1)]
end
section
variable {v:List Aa}
def behind(v:List Aa)(f b k:Int):Prop:=0<crs (plV v f) (plV v b) (plV v k)\/(crs (plV v f) (plV v b) (plV v k)=0/\¬befP (plV v k) (plV v b))
theorem Atc(hv:Ci v)(hn:v.length<=1024){f:Int}(hf:inN v.length f)(low:∀ k,inN v.length k->k=f\/befP (plV v f) (plV v k))(h2:2<=v.length):
  ∃b,Pi v f false=some b/\inN v.length b/\b≠f/\∀k,inN v.length k->k≠f->behind v f b k:=by
 unfold Pi;rw[jn_d];have up:∀k,inN v.length k->k≠f->ph lexA 1 (plV v f)<ph lexA 1 (plV v k):=fun k hk hne=>(Bcp (hv.ok f hf) (hv.ok k hk)).2 ((low k hk).resolve_left hne)
 have:=Bp (B:=Oy v f false) (fun s=>v.length-s.2.toNat)
  (fun s=>0<=s.2/\s.2<=(v.length:Int)/\((s.1 = -1/\∀j,inN v.length j->j<s.2->j=f)\/(inN v.length s.1/\s.1≠f/\∀j,inN v.length j->j<s.2->j≠f->behind v f s.1 j))) (fun t=>inN v.length t/\t≠f/\∀k,inN v.length k->k≠f->behind v f t k) (fun s hs=>by
   obtain⟨out,k⟩:=s;obtain⟨h1,h2',h3⟩:=hs;simp only at h1 h2' h3;unfold Oy;dsimp only
   by_cases hk:k<(v.length:Int)
   .left;have hkn:inN v.length k:=⟨h1,hk⟩;have w1:w64 (k+1)=k+1:=Av oo oo;rw[iP hk,jn_d]
    by_cases e1:k=f
    .rw[iP e1,w1];refine⟨_,rfl,⟨by dsimp only;omega,by dsimp only;omega,?_⟩,by dsimp only;omega⟩;dsimp only;rcases h3 with⟨g1,g2⟩|⟨g1,g2,g3⟩
     ·exact .inl ⟨g1,fun j hj hl=>by
       by_cases e:j=k
       .rw[e];exact e1
       .exact g2 j hj oo⟩
     .exact .inr ⟨g1,g2,fun j hj hl hne=>g3 j hj oo hne⟩
    .rw[iN e1];have self:behind v f k k:=.inr ⟨Bq _ _,Aq7 _⟩
     by_cases e2:out<0
     ·rw[if_pos e2,w1];have h4:∀ j,inN v.length j->j<k->j=f:=by
       rcases h3 with⟨_,g⟩|⟨g,_⟩
       .exact g
       .unfold inN at g;omega
      refine⟨_,rfl,⟨by dsimp only;omega,by dsimp only;omega,.inr ⟨hkn,e1,fun j hj hl hne=>?_⟩⟩,by dsimp only;omega⟩;dsimp only at hl⊢
      by_cases e:j=k
      .rw[e];exact self
      .exact absurd (h4 j hj oo) hne
     ·rw[if_neg e2];obtain⟨g1,g2,g3⟩:inN v.length out/\out≠f/\∀ j,inN v.length j->j<k->j≠f->behind v f out j:=by
       rcases h3 with g|g
       .omega
       .exact g
      obtain⟨xa,fa,pa⟩:=Jq (v:=v) hf;obtain⟨xo,fo,po⟩:=Jq (v:=v) g1;obtain⟨xk,fk,pk⟩:=Jq (v:=v) hkn;try rw[jn_d]
      rw[fa,Ac,fo,Ac,fk,Ac];unfold Am;rw[Ac,Ac,Ac];dsimp only;rw[pa,po,pk,Rd (hv.ok _ hf) (hv.ok _ g1) (hv.ok _ hkn),Ac,jn_d,Aen (hv.ok _ hf) (hv.ok _ g1) (hv.ok _ hkn),w1];have sg:Int.sign (crs (plV v f) (plV v out) (plV v k))<0↔crs (plV v f) (plV v out) (plV v k)<0:=Int.sign_neg_iff;have s0:Int.sign (crs (plV v f) (plV v out) (plV v k))=0↔crs (plV v f) (plV v out) (plV v k)=0:=Int.sign_eq_zero_iff_zero;have po':=up out g1 g2;have pk':=up k hkn e1;have take:(∀j,inN v.length j->j<k->j≠f->behind v f k j)->∃s',(some (.inl (k,k+1)):Option (Sum (Int×Int) Int))=some (.inl s')/\(0<=s'.2/\s'.2<=(v.length:Int)/\((s'.1 = -1/\∀j,inN v.length j->j<s'.2->j=f)\/(inN v.length s'.1/\s'.1≠f/\∀j,inN v.length j->j<s'.2->j≠f->behind v f s'.1 j)))/\v.length-s'.2.toNat<v.length-k.toNat:=fun hx=>
       ⟨_,rfl,⟨by dsimp only;omega,by dsimp only;omega,.inr ⟨hkn,e1,fun j hj hl hne=>by
        dsimp only at hl⊢
        by_cases e:j=k
        .rw[e];exact self
        .exact hx j hj oo hne⟩⟩,by dsimp only;omega⟩
      have keep:behind v f out k->∃s',(some (.inl (out,k+1)):Option (Sum (Int×Int) Int))=some (.inl s')/\(0<=s'.2/\s'.2<=(v.length:Int)/\((s'.1 = -1/\∀j,inN v.length j->j<s'.2->j=f)\/(inN v.length s'.1/\s'.1≠f/\∀j,inN v.length j->j<s'.2->j≠f->behind v f s'.1 j)))/\v.length-s'.2.toNat<v.length-k.toNat:=fun hx=>
       ⟨_,rfl,⟨by dsimp only;omega,by dsimp only;omega,.inr ⟨g1,g2,fun j hj hl hne=>by
        dsimp only at hl⊢
        by_cases e:j=k
        .rw[e];exact hx
        .exact g3 j hj oo hne⟩⟩,by dsimp only;omega⟩
      have turn:∀j,(ph lexA 1 (plV v out)-ph lexA 1 (plV v f))*crs (plV v f) (plV v k) (plV v j)=(ph lexA 1 (plV v k)-ph lexA 1 (plV v f))*crs (plV v f) (plV v out) (plV v j)-(ph lexA 1 (plV v j)-ph lexA 1 (plV v f))*crs (plV v f) (plV v out) (plV v k):=fun j=>by
       have:=Bcz lexA 1 (plV v f) (plV v out) (plV v k) (plV v j);rw[Ahc (plV v f) (plV v out) (plV v j),Int.mul_neg] at this;omega
      by_cases c1:crs (plV v f) (plV v out) (plV v k)<0
      .rw[iP (sg.2 c1)];dsimp only;rw[iP rfl];refine take fun j hj hl hne=>.inl ?_
       have t:=turn j;have m2:=Int.mul_pos (show 0<ph lexA 1 (plV v j)-ph lexA 1 (plV v f) by have:=up j hj hne;omega) (oo:0 < -crs (plV v f) (plV v out) (plV v k));rw[Int.mul_neg] at m2;have m1:0<=(ph lexA 1 (plV v k)-ph lexA 1 (plV v f))*crs (plV v f) (plV v out) (plV v j):=Int.mul_nonneg oo (by rcases g3 j hj hl hne with g|g <;> omega);exact Afz (x:=ph lexA 1 (plV v out)-ph lexA 1 (plV v f)) oo oo
      .rw[iN (fun g=>c1 (sg.1 g))]
       by_cases c2:crs (plV v f) (plV v out) (plV v k)=0
       .rw[iP (s0.2 c2),Ac];have nok:=Qn hv g1 hkn
        by_cases c3:Box (plV v f) (plV v out) (plV v k)
        .rw[dT ⟨c2,c3⟩];have hko:¬befP (plV v out) (plV v k):=fun e=>Bcq c2 (Xs ((low out g1).resolve_left g2)) e (Qn hv hf g1 (fun e=>g2 e.symm)) c3
         dsimp only;rw[iP (by rfl)];refine take fun j hj hl hne=>?_
         have t:=turn j;rw[c2,Int.mul_zero,Int.sub_zero] at t;rcases g3 j hj hl hne with g|⟨g,g'⟩
         .left;have m1:=Int.mul_pos (oo:0<ph lexA 1 (plV v k)-ph lexA 1 (plV v f)) g;exact Afz (x:=ph lexA 1 (plV v out)-ph lexA 1 (plV v f)) oo oo
         .right;rw[g,Int.mul_zero] at t;refine⟨?_,fun e=>?_⟩
          .rcases Int.mul_eq_zero.1 t with t|t
           .omega
           .exact t
          .unfold befP at *;omega
        .rw[dF (fun g=>c3 g.2)];dsimp only;rw[iN s_];refine keep (.inr ⟨c2,fun e=>c3 ?_⟩);exact Aq6 c2 (Xs ((low k hkn).resolve_left e1)) (Xs e)
       .rw[iN (fun g=>c2 (s0.1 g))];dsimp only;rw[iN s_];exact keep (.inl oo)
   .right;rw[iN hk];refine⟨_,rfl,?_⟩;rcases h3 with⟨g1,g2⟩|⟨g1,g2,g3⟩
    .have x0:(0:Int)=f:=g2 0 ⟨oo,oo⟩ oo;have x1:(1:Int)=f:=g2 1 ⟨oo,oo⟩ oo;omega
    .exact⟨g1,g2,fun j hj hne=>g3 j hj (by have:=hj.2;omega) hne⟩) (-1,0) ⟨s_,s_,.inl ⟨rfl,fun j hj hl=>by unfold inN at hj;simp only at hl;omega⟩⟩
 obtain⟨t,ht,g⟩:=this;rw[ht,Ac];exact⟨t,rfl,g⟩
end
section
variable {v:List Aa}{a b:Int}
theorem Azt{l:LI}(hl:l.length<=5000)(c:Int):lfix (Lu l c) (false,0)=some (decide (c∈l)):=by
 have:=Bp (B:=Lu l c) (fun s=>l.length-s.2.toNat) (fun s=>∃k:Nat,k<=l.length/\s=(decide (c∈l.take k),(k:Int))) (fun t=>t=decide (c∈l)) (fun s hs=>by
  obtain⟨k,hk,rfl⟩:=hs;unfold Lu;dsimp only
  by_cases hk2:k<l.length
  ·left;rw[if_pos oo,jn_d,Az hk2,Ac,show w64 ((k:Int)+1)=((k+1:Nat):Int) from by rw[Av oo oo];omega];refine⟨_,?_,⟨k+1,hk2,rfl⟩,by dsimp only;omega⟩;have e:(c∈l.take (k+1))↔(c∈l.take k\/l[k]=c):=by
    rw[List.take_succ_eq_append_getElem hk2,List.mem_append,List.mem_singleton];exact or_congr_right ⟨fun h=>h.symm,fun h=>h.symm⟩
   by_cases h1:c∈l.take k
   .simp[h1,e]
   .simp[h1,e]
  .right;rw[iN oo];have:k=l.length:=oo;subst this;exact⟨_,rfl,by rw[List.take_length]⟩) (false,0) ⟨0,oo,s_⟩
 obtain⟨t,ht,rfl⟩:=this;exact ht
theorem Azu(hv:Ci v)(hn:v.length<=1024)(ha:inN v.length a){l out:List Int}(hl:Circ v a b l)(hll:l.length<=1024)(ho:out.length<=5000)(hex:∃ y∈l,y ∉ out):
  ∃x,lfix (Lv l v a out) (-1,0)=some x/\x∈l/\x∉out/\∀y∈l,y∉out->y≠x->0<crs (plV v a) (plV v x) (plV v y):=by
 refine Bp (B:=Lv l v a out) (fun s=>l.length-s.2.toNat)
  (fun s=>∃k:Nat,k<=l.length/\s.2=(k:Int)/\((s.1 = -1/\∀y∈l.take k,y∈out)\/(s.1∈l/\s.1∉out/\∀y∈l.take k,y∉out->y≠s.1->0<crs (plV v a) (plV v s.1) (plV v y)))) _ (fun s hs=>?_) _ ⟨0,oo,rfl,.inl ⟨rfl,fun y hy=>by simp at hy⟩⟩
 obtain⟨x,i⟩:=s;obtain⟨k,hk,rfl,h3⟩:=hs;dsimp only at h3;unfold Lv;dsimp only
 by_cases hk2:k<l.length
 .left;have w1:w64 ((k:Int)+1)=((k+1:Nat):Int):=by rw[Av oo oo];omega
  have hmem:l[k]∈l:=gM hk2;have ts:l.take (k+1)=l.take k++[l[k]]:=List.take_succ_eq_append_getElem hk2;have sub:∀y,y∈l.take k->y∈l:=fun y=>List.mem_of_mem_take
  rw[iP oo,jn_d,Az hk2,Ac,jn_d,Azt ho,Ac];dsimp only;rw[jn_d,w1]
  by_cases c1:l[k]∈out
  .rw[iP (sV c1)];dsimp only;rw[iN s_];refine⟨_,rfl,⟨k+1,hk2,rfl,?_⟩,by dsimp only;omega⟩;dsimp only;rcases h3 with⟨g1,g2⟩|⟨g1,g2,g3⟩
   .refine .inl ⟨g1,fun y hy=>?_⟩;rw[ts,List.mem_append,List.mem_singleton] at hy;rcases hy with hy|rfl
    .exact g2 y hy
    .exact c1
   .refine .inr ⟨g1,g2,fun y hy hno=>?_⟩;rw[ts,List.mem_append,List.mem_singleton] at hy;rcases hy with hy|rfl
    .exact g3 y hy hno
    .exact absurd c1 hno
  .rw[iN (sV c1)]
   by_cases c2:x<0
   .rw[iP c2];dsimp only;rw[iP rfl];refine⟨_,rfl,⟨k+1,hk2,rfl,.inr ⟨hmem,c1,fun y hy hno hne=>?_⟩⟩,by dsimp only;omega⟩;dsimp only at hne⊢;rw[ts,List.mem_append,List.mem_singleton] at hy;rcases hy with hy|rfl
    .rcases h3 with⟨_,g⟩|⟨g,_⟩
     .exact absurd (g y hy) hno
     .have:=(hl.mem x g).1.1;omega
    .exact absurd rfl hne
   ·obtain⟨g1,g2,g3⟩:x∈l/\x ∉ out/\∀ y∈l.take k,y ∉ out->y≠x->0<crs (plV v a) (plV v x) (plV v y):=by
     rcases h3 with g|g
     .omega
     .exact g
    obtain⟨xa,fa,pa⟩:=Jq (v:=v) ha;obtain⟨xk,fk,pk⟩:=Jq (v:=v) (hl.mem _ hmem).1;obtain⟨xx,fx,px⟩:=Jq (v:=v) (hl.mem _ g1).1;rw[iN c2,fa,Ac,fk,Ac,fx,Ac];unfold Am;rw[Ac,Ac,Ac,pa,pk,px,Rd (hv.ok _ ha) (hv.ok _ (hl.mem _ hmem).1) (hv.ok _ (hl.mem _ g1).1),Ac];have sg:0<Int.sign (crs (plV v a) (plV v l[k]) (plV v x))↔0<crs (plV v a) (plV v l[k]) (plV v x):=Int.sign_pos_iff
    by_cases c3:0<crs (plV v a) (plV v l[k]) (plV v x)
    .dsimp only;rw[iP (by simpa using sg.2 c3)];refine⟨_,rfl,⟨k+1,hk2,rfl,.inr ⟨hmem,c1,fun y hy hno hne=>?_⟩⟩,by dsimp only;omega⟩;dsimp only at hne⊢;rw[ts,List.mem_append,List.mem_singleton] at hy;rcases hy with hy|rfl
     .by_cases e:y=x
      .rw[e];exact c3
      .exact hl.trans hmem g1 (sub y hy) c3 (g3 y hy hno e)
     .exact absurd rfl hne
    .dsimp only;rw[iN (by simpa using fun g=>c3 (sg.1 g))];refine⟨_,rfl,⟨k+1,hk2,rfl,.inr ⟨g1,g2,fun y hy hno hne=>?_⟩⟩,by dsimp only;omega⟩;dsimp only at hne⊢;rw[ts,List.mem_append,List.mem_singleton] at hy;rcases hy with hy|rfl
     .exact g3 y hy hno hne
     .have:=hl.ne0 hv hmem g1 hne;rw[Ahc];omega
 .right;rw[iN oo];have:k=l.length:=oo;subst this;rw[List.take_length] at h3;rcases h3 with⟨_,g⟩|g
  .obtain⟨y,hy,hno⟩:=hex;exact absurd (g y hy) hno
  .exact⟨_,rfl,g⟩
theorem Azv(hv:Ci v)(hn:v.length<=1024)(ha:inN v.length a){l:List Int}(hl:Circ v a b l)(hll:l.length<=1024):
  ∃m,Pg v a b l=some (a::b::m)/\Ring v a b m/\(∀x,x∈m↔x∈l):=by
 have hal:a∉l:=fun h=>by have:=(hl.mem a h).2;rw[Bx] at this;omega
 have hbl:b∉l:=fun h=>by have:=(hl.mem b h).2;rw[Bq] at this;omega
 unfold Pg;rw[jn_d];have:=Bp (B:=Oo l v a) (fun s=>l.length+2-s.length)
  (fun s=>∃m:LI,s=a::b::m/\m.Nodup/\(∀x∈m,x∈l)/\(m.Pairwise fun x y=>0<crs (plV v a) (plV v x) (plV v y))/\∀x∈m,∀y∈l,y∉m->0<crs (plV v a) (plV v x) (plV v y))
  (fun t=>∃m:LI,t=a::b::m/\m.Nodup/\(∀x,x∈m↔x∈l)/\(m.Pairwise fun x y=>0<crs (plV v a) (plV v x) (plV v y))) (fun s hs=>by
  obtain⟨m,rfl,h1,h2,h3,h4⟩:=hs;have hle:=Em h1 h2;unfold Oo;rw[Av (x:=(l.length:Int)+2) oo oo]
  by_cases c:m.length<l.length
  ·left;rw[if_pos (by simp only[List.length_cons];omega),jn_d];have hex:∃ y∈l,y ∉ a::b::m:=by
    refine Classical.byContradiction fun hno=>?_
    have:∀y∈l,y∈m:=fun y hy=>by
     refine Classical.byContradiction fun g=>hno ⟨y,hy,fun e=>?_⟩
     rcases List.mem_cons.1 e with rfl|e
     .exact hal hy
     .rcases List.mem_cons.1 e with rfl|e
      .exact hbl hy
      .exact g e
    have:=Em hl.nd this;omega
   obtain⟨x,e1,e2,e3,e4⟩:=Azu hv hn ha hl hll (out:=a::b::m) (by simp only[List.length_cons];omega) hex;rw[e1,Ac];dsimp only;rw[gd_t (by simp only[List.length_cons];omega)];have hxm:x∉m:=fun g=>e3 (by simp[g])
   refine⟨_,rfl,⟨m++[x],rfl,?_,fun y hy=>?_,?_,fun y hy z hz hzn=>?_⟩,by simp only[List.cons_append,List.length_cons,List.length_append,List.length_nil];omega⟩
   .rw[List.nodup_append];refine⟨h1,s_,fun y hy z hz e=>?_⟩;rw[List.mem_singleton] at hz;subst hz;subst e;exact hxm hy
   .rcases List.mem_append.1 hy with hy|hy
    .exact h2 y hy
    .rw[List.mem_singleton] at hy;subst hy;exact e2
   .rw[List.pairwise_append];refine⟨h3,s_,fun y hy z hz=>?_⟩;rw[List.mem_singleton] at hz;subst hz;exact h4 y hy z e2 hxm
   .have hzm:z∉m:=fun g=>hzn (by simp[g])
    have hzx:z≠x:=fun g=>hzn (by simp[g])
    rcases List.mem_append.1 hy with hy|hy
    .exact h4 y hy z hz hzm
    .rw[List.mem_singleton] at hy;subst hy;refine e4 z hz (fun g=>?_) hzx;rcases List.mem_cons.1 g with rfl|g
     .exact hal hz
     .rcases List.mem_cons.1 g with rfl|g
      .exact hbl hz
      .exact hzm g
  .right;rw[iN (by simp only[List.length_cons];omega)];refine⟨_,rfl,m,rfl,h1,fun x=>⟨h2 x,fun hx=>?_⟩,h3⟩;refine Classical.byContradiction fun g=>?_
   have:(x::m).Nodup:=List.nodup_cons.2 ⟨g,h1⟩;have:=Em this (fun y hy=>by rcases List.mem_cons.1 hy with rfl|hy;exact hx;exact h2 y hy);rw[List.length_cons] at this;omega) [a,b] ⟨[],rfl,List.nodup_nil,fun x hx=>(by cases hx),List.Pairwise.nil,fun x hx=>(by cases hx)⟩
 obtain⟨t,ht,m,rfl,h1,h2,h3⟩:=this;rw[ht,Ac];exact⟨m,rfl,⟨hl.sub (fun x hx=>(h2 x).1 hx) h1,h3⟩,h2⟩
theorem Bcw(hv:Ci v){r:List Int}(hr:r.length<=5000)(hne:r≠[])(hin:∀ x∈r,inN v.length x):
  ∃(m:Nat) (hm:m<r.length),lfix (Jw r v) (0,0)=some (m:Int)/\∀y∈r,¬befP (plV v y) (plV v r[m]):=by
 have:=Bp (B:=Jw r v) (fun s=>r.length-s.2.toNat)
  (fun s=>∃(m k:Nat) (hm:m<r.length),k<=r.length/\s=((m:Int),(k:Int))/\∀y∈r.take k,¬befP (plV v y) (plV v r[m])) (fun t=>∃(m:Nat) (hm:m<r.length),t=(m:Int)/\∀y∈r,¬befP (plV v y) (plV v r[m])) (fun s hs=>by
  obtain⟨m,k,hm,hk,rfl,h⟩:=hs;unfold Jw;dsimp only
  by_cases hk2:k<r.length
  .left;have ts:r.take (k+1)=r.take k++[r[k]]:=List.take_succ_eq_append_getElem hk2;obtain⟨xk,fk,pk⟩:=Jq (v:=v) (hin _ (gM hk2));obtain⟨xm,fm,pm⟩:=Jq (v:=v) (hin _ (gM hm));rw[iP oo,jn_d,Az hk2,Ac,fk,Ac,Az hm,Ac,fm,Ac];unfold Am;rw[Ac,Ac,pk,pm,Ahd,Ac,show w64 ((k:Int)+1)=((k+1:Nat):Int) from by rw[Av oo oo];omega]
   by_cases c:befP (plV v r[k]) (plV v r[m])
   .rw[iP (sV c)];refine⟨_,rfl,⟨k,k+1,hk2,hk2,rfl,fun y hy=>?_⟩,by dsimp only;omega⟩;rw[ts,List.mem_append,List.mem_singleton] at hy;rcases hy with hy|rfl
    .exact fun g=>h y hy (Ik g c)
    .exact Aq7 _
   .rw[iN (sV c)];refine⟨_,rfl,⟨m,k+1,hm,hk2,rfl,fun y hy=>?_⟩,by dsimp only;omega⟩;rw[ts,List.mem_append,List.mem_singleton] at hy;rcases hy with hy|rfl
    .exact h y hy
    .exact c
  .right;rw[iN oo];have:k=r.length:=oo;subst this;rw[List.take_length] at h;exact⟨_,rfl,m,hm,rfl,h⟩) (0,0) ⟨0,0,List.length_pos_iff.2 hne,oo,rfl,fun y hy=>by simp at hy⟩
 obtain⟨t,ht,m,hm,rfl,h⟩:=this;exact⟨m,hm,ht,h⟩
theorem Axs{α:Type}{l:List α}(h:l.Nodup){i j:Nat}(hi:i<l.length)(hj:j<l.length)(hne:i≠j):l[i]≠l[j]:=by
 have:=List.pairwise_iff_getElem.1 h;rcases Nat.lt_trichotomy i j with g|g|g
 .exact this i j hi hj g
 .exact absurd g hne
 .exact fun e=>this j i hj hi g e.symm
theorem Azw{r:LI}(hr:r.length<=5000)(hn:r.Nodup){m:Nat}(hm:m<r.length):lfix (Ji r m) (([]:LI),0)=some (r.filter fun y=>decide (y≠r[m])):=by
 have:=Bp (B:=Ji r m) (fun s=>r.length-s.2.toNat) (fun s=>∃k:Nat,k<=r.length/\s=((r.take k).filter (fun y=>decide (y≠r[m])),(k:Int))) (fun t=>t=r.filter fun y=>decide (y≠r[m])) (fun s hs=>by
  obtain⟨k,hk,rfl⟩:=hs;unfold Ji;dsimp only
  by_cases hk2:k<r.length
  .left;have ts:r.take (k+1)=r.take k++[r[k]]:=List.take_succ_eq_append_getElem hk2;have w1:w64 ((k:Int)+1)=((k+1:Nat):Int):=by rw[Av oo oo];omega
   rw[iP oo,jn_d,w1]
   by_cases c:k=m
   .subst c;rw[iP rfl];refine⟨_,rfl,⟨k+1,hk2,?_⟩,by dsimp only;omega⟩;rw[ts,List.filter_append];simp
   ·have hne:r[k]≠r[m]:=Axs hn hk2 hm c;have hle:((r.take k).filter fun y=>decide (y≠r[m])).length<=r.length:=by
     have h1:=List.length_filter_le (fun y=>decide (y≠r[m])) (r.take k);rw[List.length_take] at h1;omega
    rw[iN oo,Az hk2,Ac,gd_t oo];refine⟨_,rfl,⟨k+1,hk2,?_⟩,by dsimp only;omega⟩;rw[ts,List.filter_append];simp[hne]
  .right;rw[iN oo];have:k=r.length:=oo;subst this;exact⟨_,rfl,by rw[List.take_length]⟩) (([]:LI),0) ⟨0,oo,s_⟩
 obtain⟨t,ht,rfl⟩:=this;exact ht
theorem tm(x n:Int)(hx:0<=x):Int.tmod x n=x%n:=Int.tmod_eq_emod_of_nonneg hx
theorem Aoy(hv:Ci v)(hn:v.length<=1024)(ha:inN v.length a)(hb:inN v.length b):∀ (n:Nat) (l:List Int),l.length=n->n<=1024->l≠[]->Ring v a b l ->
  ∃c,Ans v a b l c/\(lfix (Ff b a v) (a::b::l)=some (.inr c)\/lfix (Ff b a v) (a::b::l)=some (.inl [a,b,c])):=by
 intro n
 induction n with
 |zero=>intro l hl _ hne _;exact absurd (List.eq_nil_of_length_eq_zero hl) hne
 |succ n ih=>
  intro l hl hn1 hne hr;have hal:a∉l:=fun h=>by have:=(hr.circ.mem a h).2;rw[Bx] at this;omega
  have hbl:b∉l:=fun h=>by have:=(hr.circ.mem b h).2;rw[Bq] at this;omega
  have hab:a≠b:=fun e=>by
   obtain⟨x,hx⟩:=List.exists_mem_of_ne_nil l hne;have:=(hr.circ.mem x hx).2;rw[e,Wu] at this;omega
  by_cases hn0:n=0
  .subst hn0;obtain⟨c,rfl⟩:=List.length_eq_one_iff.1 hl;refine⟨c,⟨s_,fun d hd hne=>absurd (sV hd) hne⟩,.inr ?_⟩;rw[Ax];unfold Ff;rw[iN s_]
  .have hlen:(a::b::l).length=n+3:=by simp[hl]
   have hnd:(a::b::l).Nodup:=by
    rw[List.nodup_cons,List.nodup_cons];refine⟨fun h=>?_,hbl,hr.circ.nd⟩;rcases List.mem_cons.1 h with h|h
    .exact hab h
    .exact hal h
   have hin:∀x∈a::b::l,inN v.length x:=fun x hx=>by
    rcases List.mem_cons.1 hx with rfl|hx
    .exact ha
    .rcases List.mem_cons.1 hx with rfl|hx
     .exact hb
     .exact (hr.circ.mem x hx).1
   obtain⟨m,hm,h1,h2⟩:=Bcw (r:=a::b::l) hv oo s_ hin;have far:∀y∈a::b::l,y≠(a::b::l)[m]->befP (plV v (a::b::l)[m]) (plV v y):=fun y hy hne=>by
    rcases Lm (Qn hv (hin _ (gM hm)) (hin y hy) (fun e=>hne e.symm)) with g|g
    .exact g
    .exact absurd g (h2 y hy)
   have step:∀ x y z,idx (a::b::l) (Int.tmod (w64 ((w64 ((m:Int)+(((a::b::l).length:Nat):Int)))-1)) (((a::b::l).length:Nat):Int))=some x->idx (a::b::l) (Int.tmod (w64 ((m:Int)+1)) (((a::b::l).length:Nat):Int))=some y->(a::b::l)[m]=z ->
     Ff b a v (a::b::l)=if z=a/\y=b then some (.inr (.inr x)) else if z=b/\x=a then some (.inr (.inr y)) else some (.inl ((a::b::l).filter fun y=>decide (y≠z))):=fun x y z hx hy hz=>by
    unfold Ff;rw[iP oo,jn_d,h1,Ac];dsimp only;rw[gd_t oo,hx,Ac,gd_t oo,hy,Ac,jn_d,Az hm,Ac,hz];have c:=Azw (r:=a::b::l) oo hnd hm;rw[hz] at c;rw[jn_d,Ac,jn_d,c,Ac];dsimp only;have hba:b≠a:=fun e=>hab e.symm
    by_cases e1:z=a
    .have e3:z≠b:=fun e=>hab (by rw[<-e1,e])
     by_cases e2:y=b
     .simp[e1,e2]
     .simp[e1,e2,hab]
    .by_cases e3:z=b
     .by_cases e4:x=a
      .simp[e3,e4,hba]
      .simp[e3,e4,hba]
     .simp[e1,e3]
   have m1:Int.tmod (w64 ((w64 ((m:Int)+(((a::b::l).length:Nat):Int)))-1)) (((a::b::l).length:Nat):Int)=((m:Int)+(n+2))%(n+3):=by
    rw[hlen,Av (x:=(m:Int)+((n+3:Nat):Int)) oo oo,Av oo oo,tm _ _ oo];congr 1;omega
   have m2:Int.tmod (w64 ((m:Int)+1)) (((a::b::l).length:Nat):Int)=((m:Int)+1)%(n+3):=by
    rw[hlen,Av oo oo,tm _ _ oo];rfl
   rw[m1,m2] at step;rw[hlen] at hm
   by_cases cm0:m=0
   ·-- a is the first
    subst cm0;obtain⟨l',c,rfl⟩:∃l' c,l=l'++[c]:=⟨l.dropLast,l.getLast hne,(List.dropLast_concat_getLast hne).symm⟩;have i1:idx (a::b::(l'++[c])) (((0:Nat):Int)+(n+2))=some c:=by
     have:(((0:Nat):Int)+(n+2))=((n+2:Nat):Int):=oo;rw[this,Az (by rw[hlen];omega)];have hn':l'.length=n:=by simpa using hl
     congr 1;simp only[List.getElem_cons_succ];rw[List.getElem_append_right oo];simp[hn']
    have i2:idx (a::b::(l'++[c])) (((0:Nat):Int)+1)=some b:=Az (l:=a::b::(l'++[c])) (j:=1) s_;rw[Int.emod_eq_of_lt oo oo,Int.emod_eq_of_lt oo oo] at step;have st:=step c b a i1 i2 rfl;rw[iP ⟨rfl,rfl⟩] at st;refine⟨c,hr.ans_a hv ha hb (far b s_ (fun e=>hab e.symm)) (fun x hx=>far x (by simp only[List.mem_cons];exact .inr (.inr hx)) (fun e=>?_)),.inl ?_⟩
    .have e:x=a:=e;rw[e] at hx;exact hal hx
    .rw[Ax,st]
   .by_cases cm1:m=1
    ·subst cm1;obtain⟨c,l',rfl⟩:=List.exists_cons_of_ne_nil hne;have i1:idx (a::b::c::l') ((((1:Nat):Int)+(n+2)) % (n+3))=some a:=by
      have:(((1:Nat):Int)+(n+2))%(n+3)=((0:Nat):Int):=by
       rw[show (((1:Nat):Int)+((n:Int)+2))=(n:Int)+3 by omega,Int.emod_self];rfl
      rw[this];exact Az (l:=a::b::c::l') (j:=0) s_
     have i2:idx (a::b::c::l') ((((1:Nat):Int)+1)%(n+3))=some c:=by
      rw[Int.emod_eq_of_lt oo oo];exact Az (l:=a::b::c::l') (j:=2) s_
     have st:=step a c b i1 i2 rfl;rw[iN (fun g=>hab g.1.symm),iP ⟨rfl,rfl⟩] at st;refine⟨c,hr.ans_b hv ha hb (far a s_ hab) (fun x hx=>far x (by simp only[List.mem_cons] at hx⊢;exact .inr (.inr hx)) (fun e=>?_)),.inl ?_⟩
     .have e:x=b:=e;rw[e] at hx;exact hbl hx
     .rw[Ax,st]
    ·-- one of the others
     obtain⟨k,rfl⟩:∃k,m=k+2:=⟨m-2,oo⟩;have hk:k<l.length:=oo;have hx:(a::b::l)[k+2]'(by rw[hlen];omega)=l[k]:=rfl;have hxl:l[k]∈l:=gM hk;have e1:∃x,idx (a::b::l) ((((k+2:Nat):Int)+(n+2))%(n+3))=some x:=by
      obtain⟨j,hj⟩:=Int.eq_ofNat_of_zero_le (Int.emod_nonneg (((k+2:Nat):Int)+(n+2)) (oo:((n:Int)+3)≠0));have:=Int.emod_lt_of_pos (((k+2:Nat):Int)+(n+2)) (oo:(0:Int)<(n:Int)+3);rw[hj] at this⊢;exact⟨_,Az (by rw[hlen];omega)⟩
     have e2:∃x,idx (a::b::l) ((((k+2:Nat):Int)+1)%(n+3))=some x:=by
      obtain⟨j,hj⟩:=Int.eq_ofNat_of_zero_le (Int.emod_nonneg (((k+2:Nat):Int)+1) (oo:((n:Int)+3)≠0));have:=Int.emod_lt_of_pos (((k+2:Nat):Int)+1) (oo:(0:Int)<(n:Int)+3);rw[hj] at this⊢;exact⟨_,Az (by rw[hlen];omega)⟩
     obtain⟨x,e1⟩:=e1;obtain⟨y,e2⟩:=e2;have st:=step x y l[k] e1 e2 hx;have na:l[k]≠a:=fun e=>hal (e▸hxl)
     have nb:l[k]≠b:=fun e=>hbl (e▸hxl)
     rw[iN (fun g=>na g.1),iN (fun g=>nb g.1),List.filter_cons_of_pos (by simpa using fun e=>na e.symm),List.filter_cons_of_pos (by simpa using fun e=>nb e.symm)] at st;have hsub:∀z,z∈(l.filter fun y=>decide (y≠l[k]))↔z∈l/\z≠l[k]:=fun z=>by rw[List.mem_filter];simp
     have hlen2:(l.filter fun y=>decide (y≠l[k])).length=n:=by
      have h3:=hr.circ.nd.erase_eq_filter l[k];have h4:(l.filter fun y=>decide (y≠l[k]))=l.filter (fun y=>y != l[k]):=List.filter_congr fun y _=>by by_cases g:y=l[k] <;> simp[g]
      rw[h4,<-h3,List.length_erase_of_mem hxl,hl];rfl
     obtain⟨c,g1,g2⟩:=ih _ hlen2 oo (fun e=>by rw[e] at hlen2;simp at hlen2;omega) ⟨hr.circ.sub (fun z hz=>((hsub z).1 hz).1) (hr.circ.nd.filter _),hr.ord.filter _⟩;rw[hx] at far;refine⟨c,hr.ans_cut hv ha hb hxl (far a s_ (fun e=>na e.symm)) (far b s_ (fun e=>nb e.symm)) (fun z hz hzn=>far z (by simp[hz]) hzn) hsub g1,?_⟩;rw[Ax,st];exact g2
theorem Axt(hv:Ci v)(hn:v.length<=1024)(ha:inN v.length a)(hb:inN v.length b){l:LI}(hll:l.length<=1024)(hne:l≠[])(hr:Ring v a b l):∃c,Nt v a b (a::b::l)=some c/\Ans v a b l c:=by
 obtain⟨c,h1,h2⟩:=Aoy hv hn ha hb l.length l rfl hll hne hr;refine⟨c,?_,h1⟩;unfold Nt;rw[jn_d];rcases h2 with h2|h2
 .rw[h2,Ac]
 .rw[h2,Ac];dsimp only;have hc:=hr.circ.mem c h1.1;have nca:c≠a:=fun e=>by have:=hc.2;rw[e,Bx] at this;omega
  have ncb:c≠b:=fun e=>by have:=hc.2;rw[e,Bq] at this;omega
  have nab:b≠a:=fun e=>by have:=hc.2;rw[e,Wu] at this;omega
  have s0:Dl [a,b,c] a b 0=some (.inl 1):=by
   unfold Dl;rw[iP s_,show idx [a,b,c] 0=some a from rfl,Ac,jn_d,iP rfl];dsimp only;rw[iN s_,Av oo oo];rfl
  have s1:Dl [a,b,c] a b 1=some (.inl 2):=by
   unfold Dl;rw[iP s_,show idx [a,b,c] 1=some b from rfl,Ac,jn_d,iN nab];dsimp only;rw[iN s_,Av oo oo];rfl
  have s2:Dl [a,b,c] a b 2=some (.inr (.inr c)):=by
   unfold Dl;rw[iP s_,show idx [a,b,c] 2=some c from rfl,Ac,jn_d,iN nca];dsimp only;rw[iP (sV ncb)]
  rw[jn_d,Ax,s0];dsimp only;rw[Ax,s1];dsimp only;rw[Ax,s2,Ac]
end
section
variable {v:List Aa}{S:Int->Prop}{a b:Int}{L:List Ab}
structure Kd(v:List Aa)(S:Int->Prop)(a b k:Int)(s:LI):Prop where
 mem:∀c∈s,inN v.length c/\c<k/\0<crs (plV v a) (plV v b) (plV v c)/\S c
 none:s=[]->∀d,inN v.length d->d<k->S d->crs (plV v a) (plV v b) (plV v d)<=0
 top:∀c∈s,∀d,inN v.length d->d<k->0<crs (plV v a) (plV v b) (plV v d)->S d->(inC (plV v a) (plV v b) (plV v c) (plV v d)<0/\d∉s)\/(inC (plV v a) (plV v b) (plV v c) (plV v d)=0/\d∈s)
 nd:s.Nodup
theorem Kd.nil:Kd v S a b 0 []:=⟨fun c h=>(by cases h),fun _ d hd h=>by unfold inN at hd;omega,fun c h=>(by cases h),List.nodup_nil⟩
theorem Kd.skip{k:Int}{s:LI}(h:Kd v S a b k s)(hk:¬(0<crs (plV v a) (plV v b) (plV v k)/\S k)):Kd v S a b (k+1) s:=by
 refine⟨fun c hc=>?_,fun e d hd hl hs=>?_,fun c hc d hd hl hp hs=>?_,h.nd⟩
 .obtain⟨h1,h2,h3⟩:=h.mem c hc;exact⟨h1,oo,h3⟩
 .by_cases g:d=k
  .subst g;refine Classical.byContradiction fun n=>hk ⟨oo,hs⟩
  .exact h.none e d hd oo hs
 .by_cases g:d=k
  .subst g;exact absurd ⟨hp,hs⟩ hk
  .exact h.top c hc d hd oo hp hs
theorem Kd.one{k:Int}(hk:inN v.length k)(hp:0<crs (plV v a) (plV v b) (plV v k))(hsk:S k)(ho:∀d,inN v.length d->d<k->0<crs (plV v a) (plV v b) (plV v d)->S d->inC (plV v a) (plV v b) (plV v k) (plV v d)<0):Kd v S a b (k+1) [k]:=by
 refine⟨fun c hc=>?_,fun e=>(by cases e),fun c hc d hd hl hq hs=>?_,s_⟩
 .rw[List.mem_singleton] at hc;subst hc;exact⟨hk,oo,hp,hsk⟩
 .rw[List.mem_singleton] at hc;subst hc
  by_cases g:d=c
  .subst g;exact .inr ⟨Aho _ _ _,List.mem_singleton.2 rfl⟩
  .exact .inl ⟨ho d hd oo hq hs,sV g⟩
theorem Kd.first{k:Int}(h:Kd v S a b k [])(hk:inN v.length k)(hp:0<crs (plV v a) (plV v b) (plV v k))(hsk:S k):Kd v S a b (k+1) [k] :=
 Kd.one hk hp hsk fun d hd hl hq hs=>by have:=h.none rfl d hd hl hs;omega
theorem Kd.better{k c:Int}{s:LI}(h:Kd v S a b k s)(hk:inN v.length k)(hp:0<crs (plV v a) (plV v b) (plV v k))(hsk:S k)(hc:c∈s)(hi:0<inC (plV v a) (plV v b) (plV v c) (plV v k)):Kd v S a b (k+1) [k] :=
 Kd.one hk hp hsk fun d hd hl hq hs=>Akv (h.mem c hc).2.2.1 hp hq hi (by rcases h.top c hc d hd hl hq hs with g|g <;> omega)
theorem Kd.same0{k c x:Int}{s:LI}(h:Kd v S a b k s)(hc:c∈s)(hx:x∈s):inC (plV v a) (plV v b) (plV v c) (plV v x)=0:=by
 obtain⟨h1,h2,h3,h4⟩:=h.mem x hx;rcases h.top c hc x h1 h2 h3 h4 with g|g
 .exact absurd hx g.2
 .exact g.1
theorem Kd.worse{k c:Int}{s:LI}(h:Kd v S a b k s)(hc:c∈s)(hi:inC (plV v a) (plV v b) (plV v c) (plV v k)<0):Kd v S a b (k+1) s:=by
 refine⟨fun x hx=>?_,fun e=>(by rw[e] at hc;cases hc),fun x hx d hd hl hp hs=>?_,h.nd⟩
 .obtain⟨h1,h2,h3⟩:=h.mem x hx;exact⟨h1,oo,h3⟩
 .by_cases g:d=k
  .subst g;refine .inl ⟨(Aa8 (h.mem c hc).2.2.1 (h.mem x hx).2.2.1 (h.same0 hc hx)).1 hi,fun e=>?_⟩;have:=(h.mem d e).2.1;omega
  .exact h.top x hx d hd oo hp hs
theorem Kd.tie{k c:Int}{s:LI}(h:Kd v S a b k s)(hk:inN v.length k)(hp:0<crs (plV v a) (plV v b) (plV v k))(hsk:S k)(hc:c∈s)(hi:inC (plV v a) (plV v b) (plV v c) (plV v k)=0):Kd v S a b (k+1) (s++[k]):=by
 have same:∀x∈s,inC (plV v a) (plV v b) (plV v x) (plV v k)=0:=fun x hx=>(Aa8 (h.mem c hc).2.2.1 (h.mem x hx).2.2.1 (h.same0 hc hx)).2 hi
 refine⟨fun x hx=>?_,fun e=>(by simp at e),fun x hx d hd hl hq hs=>?_,?_⟩
 .rcases List.mem_append.1 hx with hx|hx
  .obtain⟨h1,h2,h3⟩:=h.mem x hx;exact⟨h1,oo,h3⟩
  .rw[List.mem_singleton] at hx;subst hx;exact⟨hk,oo,hp,hsk⟩
 .by_cases g:d=k
  .subst g;refine .inr ⟨?_,s_⟩;rcases List.mem_append.1 hx with hx|hx
   .exact same x hx
   .rw[List.mem_singleton] at hx;subst hx;exact Aho _ _ _
  .have hnk:d ∉ [k]:=by simpa using g
   rcases List.mem_append.1 hx with hx|hx
   .rcases h.top x hx d hd oo hq hs with⟨g1,g2⟩|⟨g1,g2⟩
    .exact .inl ⟨g1,fun e=>(List.mem_append.1 e).elim g2 hnk⟩
    .exact .inr ⟨g1,List.mem_append.2 (.inl g2)⟩
   .rw[List.mem_singleton] at hx;subst hx;have q3:=(h.mem c hc).2.2.1;rcases h.top c hc d hd oo hq hs with⟨g1,g2⟩|⟨g1,g2⟩
    .exact .inl ⟨(Aa8 q3 hp hi).1 g1,fun e=>(List.mem_append.1 e).elim g2 hnk⟩
    .exact .inr ⟨(Aa8 q3 hp hi).2 g1,List.mem_append.2 (.inl g2)⟩
 .rw[List.nodup_append];refine⟨h.nd,s_,fun x hx y hy e=>?_⟩;rw[List.mem_singleton] at hy;subst hy;subst e;have:=(h.mem x hx).2.1;omega
theorem Kd.circ{k:Int}{s:LI}(h:Kd v S a b k s):Circ v a b s :=
 ⟨fun c hc=>⟨(h.mem c hc).1,(h.mem c hc).2.2.1⟩,fun c hc d hd=>h.same0 hc hd,h.nd⟩
def TopS(v:List Aa)(S:Int->Prop)(a b c:Int):Prop:=inN v.length c/\0<crs (plV v a) (plV v b) (plV v c)/\S c/\∀d,inN v.length d->0<crs (plV v a) (plV v b) (plV v d)->S d->d≠c->DH (plV v) (hV v) a b c d<0
theorem TopS.unique{c d:Int}(h:TopS v S a b c)(k:TopS v S a b d):c=d:=by
 by_cases e:c=d
 .exact e
 .have h1:=h.2.2.2 d k.1 k.2.1 k.2.2.1 (fun g=>e g.symm);have h2:=k.2.2.2 c h.1 h.2.1 h.2.2.1 e;rw[Azs] at h2;omega
theorem Kd.ans(hv:Ci v)(ha:inN v.length a)(hb:inN v.length b){s l:LI}{c:Int}(h:Kd v S a b v.length s)(hp:∀x,x∈l↔x∈s)(hc:Ans v a b l c):TopS v S a b c:=by
 obtain⟨h1,h2⟩:=hc;have hcs:=(hp c).1 h1;obtain⟨c1,_,c2,c3⟩:=h.mem c hcs;refine⟨c1,c2,c3,fun d hd hq hs hne=>?_⟩;rcases h.top c hcs d hd hd.2 hq hs with g|g
 .exact Ajg hv ha hb c1 hd g.1
 .exact h2 d ((hp d).2 g.2) hne
theorem Arf(hv:Ci v)(hL:L.length<=1000000)(hok:∀s∈L,okL v s){i k:Int}(hi:inN v.length i)(hk:inN v.length k)[Decidable (Seen v L i k)]:Mm v L i k=some (decide (Seen v L i k)):=by
 haveI:∀a b c d,Decidable (Hv v a b c d):=fun _ _ _ _=>Classical.propDecidable _
 have lp:=Tg (β:=Unit) (γ:=Bool) L.length oo (fun n=>decide (Hv v i k (L.getD n ⟨0,0⟩).a0 (L.getD n ⟨0,0⟩).a1)) (Lt L v i k) () false (fun n hn=>by
  have e:L.getD n ⟨0,0⟩=L[n]:=by simp[hn]
  obtain⟨q1,q2,_⟩:=hok _ (gM hn);obtain⟨x0,i0,e0⟩:=Jq q1;obtain⟨x1,i1,e1⟩:=Jq q2;obtain⟨x2,i2,e2⟩:=Jq hi;obtain⟨x3,i3,e3⟩:=Jq hk;unfold Lt Am;rw[iP oo,Az hn,Ac,i2,Ac,i3,Ac,i0,Ac,i1,Ac];try dsimp only
  rw[Ac,Ac,Ac,Ac,e0,e1,e2,e3,Ai2 (hv.ok _ hi) (hv.ok _ hk) (hv.ok _ q1) (hv.ok _ q2),Ac,e,Bd oo]
  by_cases c:Hv v i k L[n].a0 L[n].a1
  .rw[iP (by rw[dQ];exact c),iP (dT c)]
  .rw[iN (by rw[dQ];exact c),iN (sV c)]) (by
  unfold Lt;rw[iN oo])
 have iff:((List.range L.length).any fun n=>decide (Hv v i k (L.getD n ⟨0,0⟩).a0 (L.getD n ⟨0,0⟩).a1))=true↔¬Seen v L i k:=by
  rw[List.any_eq_true];constructor
  .rintro⟨n,hn,h⟩ g;have hn:=List.mem_range.1 hn;have e:L.getD n ⟨0,0⟩=L[n]:=by simp[hn]
   rw[dQ,e] at h;exact g _ (gM hn) h
  .intro g;unfold Seen at g;have⟨s,g⟩:=Classical.not_forall.1 g;have⟨hs,g⟩:=Classical.not_imp.1 g;obtain⟨n,hn,rfl⟩:=List.getElem_of_mem hs;have e:L.getD n ⟨0,0⟩=L[n]:=by simp[hn]
   exact⟨n,List.mem_range.2 hn,by rw[dQ,e];exact Classical.not_not.1 g⟩
 unfold Mm;rw[jn_d,lp,Ac]
 by_cases c:Seen v L i k
 .rw[iN (fun g=>(iff.1 g) c),dT c]
 .rw[iP (iff.2 c),dF c]
def See2(v:List Aa)(L:List Ab)(a b c:Int):Prop:=Seen v L a c/\Seen v L b c
theorem Aoz(hv:Ci v)(hn:v.length<=1024)(hL:L.length<=1000000)(hok:∀s∈L,okL v s)(ha:inN v.length a)(hb:inN v.length b):∃s,lfix (Lw v a b L) (([]:LI),0)=some s/\Kd v (See2 v L a b) a b v.length s:=by
 haveI:∀i k,Decidable (Seen v L i k):=fun _ _=>Classical.propDecidable _
 refine Bp (B:=Lw v a b L) (fun s=>v.length-s.2.toNat) (fun s=>0<=s.2/\s.2<=(v.length:Int)/\Kd v (See2 v L a b) a b s.2 s.1/\(s.1.length:Int)<=s.2) (fun t=>Kd v (See2 v L a b) a b v.length t) (fun s hs=>?_) _ ⟨s_,s_,Kd.nil,s_⟩;obtain⟨l,k⟩:=s;obtain⟨h1,h2,h3,h4⟩:=hs;dsimp only at h1 h2 h3 h4;unfold Lw;dsimp only
 by_cases hk:k<(v.length:Int)
 ·left;have hkn:inN v.length k:=⟨h1,hk⟩;obtain⟨xa,fa,pa⟩:=Jq (v:=v) ha;obtain⟨xb,fb,pb⟩:=Jq (v:=v) hb;obtain⟨xk,fk,pk⟩:=Jq (v:=v) hkn;have w1:w64 (k+1)=k+1:=Av oo oo;have sg:Int.sign (crs (plV v a) (plV v b) (plV v k))<=0↔crs (plV v a) (plV v b) (plV v k)<=0:=by
   have:=@Int.sign_eq_one_iff_pos (crs (plV v a) (plV v b) (plV v k));have:=Int.sign_trichotomy (crs (plV v a) (plV v b) (plV v k));omega
  have go:∀l',Kd v (See2 v L a b) a b (k+1) l'->(l'.length:Int)<=k+1->∃s',(some (.inl (l',w64 (k+1))):Option (Sum (LI×Int) LI))=some (.inl s')/\(0<=s'.2/\s'.2<=(v.length:Int)/\Kd v (See2 v L a b) a b s'.2 s'.1/\(s'.1.length:Int)<=s'.2)/\v.length-s'.2.toNat<v.length-k.toNat:=fun l' g g'=>
   ⟨_,rfl,⟨by dsimp only;omega,by dsimp only;omega,by dsimp only;rw[w1];exact g,by dsimp only;omega⟩,by dsimp only;omega⟩
  rw[iP hk,jn_d,jn_d,fa,Ac,fb,Ac,fk,Ac];unfold Am;rw[Ac,Ac,Ac,pa,pb,pk,Rd (hv.ok _ ha) (hv.ok _ hb) (hv.ok _ hkn),Ac]
  by_cases c1:crs (plV v a) (plV v b) (plV v k)<=0
  .rw[iP (sg.2 c1)];dsimp only;rw[iP rfl];exact go l (h3.skip (fun g=>by have:=g.1;omega)) oo
  .have hp:0<crs (plV v a) (plV v b) (plV v k):=oo;rw[iN (fun g=>c1 (sg.1 g)),Arf hv hL hok ha hkn,Ac]
   by_cases c3:Seen v L a k
   .rw[iP (dT c3),Arf hv hL hok hb hkn,Ac]
    by_cases c4:Seen v L b k
    .rw[dT c4];dsimp only;rw[iN s_]
     by_cases c2:l=[]
     .subst c2;rw[iP s_];exact go [k] (h3.first hkn hp ⟨c3,c4⟩) (by simp;omega)
     .obtain⟨c,r,rfl⟩:=List.exists_cons_of_ne_nil c2;have hc:c∈c::r:=s_;have hcn:=(h3.mem c hc).1;obtain⟨xc,fc,pc⟩:=Jq (v:=v) hcn;have i0:idx (c::r) 0=some c:=Az (l:=c::r) (j:=0) s_;rw[iN (by simp;omega)];simp only[i0,fc,Ac,pc,pa,pb,pk];rw[And (hv.ok _ ha) (hv.ok _ hb) (hv.ok _ hcn) (hv.ok _ hkn),Ac];rcases Int.lt_trichotomy (inC (plV v a) (plV v b) (plV v c) (plV v k)) 0 with g|g|g
      .rw[Int.sign_eq_neg_one_of_neg g,iN oo,iN oo];exact go _ (h3.worse hc g) oo
      .rw[g,Int.sign_zero,iN oo,iP rfl,gd_t oo];exact go _ (h3.tie hkn hp ⟨c3,c4⟩ hc g) (by rw[List.length_append,List.length_singleton];omega)
      .rw[Int.sign_eq_one_of_pos g,iP rfl];exact go [k] (h3.better hkn hp ⟨c3,c4⟩ hc g) (by simp;omega)
    .rw[dF c4];dsimp only;rw[iP s_];exact go l (h3.skip (fun g=>c4 g.2.2)) oo
   .rw[iN (sV c3)];dsimp only;rw[iP rfl];exact go l (h3.skip (fun g=>c3 g.2.1)) oo
 .right;rw[iN hk];have:k=v.length:=oo;subst this;exact⟨_,rfl,h3⟩
theorem Axu(hv:Ci v)(hn:v.length<=1024)(hL:L.length<=1000000)(hok:∀s∈L,okL v s)(ha:inN v.length a)(hb:inN v.length b):∃c,Ph v L a b=some c/\((c = -1/\∀d,inN v.length d->See2 v L a b d->crs (plV v a) (plV v b) (plV v d)<=0)\/TopS v (See2 v L a b) a b c):=by
 obtain⟨s,h1,h2⟩:=Aoz hv hn hL hok ha hb;unfold Ph;rw[jn_d,h1,Ac];dsimp only
 by_cases hs:s=[]
 .rw[iP (by simp[hs])];exact⟨-1,rfl,.inl ⟨rfl,fun d hd=>h2.none hs d hd hd.2⟩⟩
 ·have hpos:=List.length_pos_iff.2 hs;have hle:s.length<=1024:=by
   have:=Em (m:=inds v.length) h2.nd (fun x hx=>Ss.2 (h2.mem x hx).1);rw[Xa] at this;omega
  rw[iN oo];obtain⟨m,g1,g2,g3⟩:=Azv hv hn ha h2.circ hle;have hm:m≠[]:=fun e=>by
   obtain⟨x,hx⟩:=List.exists_mem_of_ne_nil s hs;have:=(g3 x).2 hx;rw[e] at this;cases this
  have hml:m.length<=1024:=by
   have:=Em g2.circ.nd (fun x hx=>(g3 x).1 hx);omega
  obtain⟨c,e1,e2⟩:=Axt hv hn ha hb hml hm g2;rw[g1,Ac,e1,Ac];exact⟨c,rfl,.inr (h2.ans hv ha hb g3 e2)⟩
end
section
variable {v:List Aa}{p0 q0:Int}{m:Mp}{L:List Ab}
theorem Mesh.free(hv:Ci v)(h:Tri (plV v) (inN v.length) (apM m)){a b c:Int}(hk:apM m a b=some c):Free v a b:=fun z hz n1 n2 g=>by
 obtain⟨va,vb,_,_⟩:=h.ccw _ _ _ hk;exact Adv h hk hz n1 n2 ⟨g,fun e=>n1 (hv.dist _ _ hz va e),fun e=>n2 (hv.dist _ _ hz vb e)⟩
theorem Atd(hv:Ci v)(h:Mesh v L m){X:Int->Int->Int->Prop}(hsub:∀a b c,X a b c->apM m a b=some c)(hrot:∀a b c,X a b c->X b c a)(htw:∀a b c,X a b c->∀d,inN v.length d->crs (plV v a) (plV v b) (plV v d)<0->∃e,X b a e)(hne:∃a b c,X a b c){a b c:Int}(hk:apM m a b=some c):X a b c:=by
 haveI:∀i j k,Decidable (X i j k):=fun _ _ _=>Classical.propDecidable _
 have hok:MapN v.length (m.filter fun q=>decide (X q.1.a0 q.1.a1 q.2)):=⟨List.Pairwise.filter _ h.map.ok,fun q hq=>h.map.key q (List.mem_filter.1 hq).1⟩;have hap:∀i j k,apM (m.filter fun q=>decide (X q.1.a0 q.1.a1 q.2)) i j=some k↔X i j k:=fun i j k=>by
  constructor
  .intro g;have:=(List.mem_filter.1 (Er g)).2;exact of_decide_eq_true (p:=X i j k) this
  .intro g;refine Nv hok.ok (List.mem_filter.2 ⟨Er (hsub _ _ _ g),?_⟩);exact dT (p:=X i j k) g
 have sub:∀i j,apM (m.filter fun q=>decide (X q.1.a0 q.1.a1 q.2)) i j≠none->apM m i j≠none:=fun i j g=>by
  obtain⟨k,hk⟩:=Option.ne_none_iff_exists'.1 g;rw[hsub _ _ _ ((hap _ _ _).1 hk)];simp
 have ht:Tri (plV v) (inN v.length) (apM (m.filter fun q=>decide (X q.1.a0 q.1.a1 q.2))):=⟨fun i j k g=>(hap _ _ _).2 (hrot _ _ _ ((hap _ _ _).1 g)),fun i j k g=>h.tri.ccw _ _ _ (hsub _ _ _ ((hap _ _ _).1 g)),fun i j k g=>h.tri.emp _ _ _ (hsub _ _ _ ((hap _ _ _).1 g)),fun s i j k g n=>h.tri.cone s i j k (hsub _ _ _ ((hap _ _ _).1 g)) (n.imp (sub _ _) (sub _ _))⟩;have hc:Cov (plV v) (inN v.length) (apM (m.filter fun q=>decide (X q.1.a0 q.1.a1 q.2))):=fun i j k g n d hd=>by
  refine Classical.byContradiction fun w=>?_
  obtain⟨e,he⟩:=htw _ _ _ ((hap _ _ _).1 g) d hd oo;rw[(hap _ _ _).2 he] at n;cases n
 have hnil:(m.filter fun q=>decide (X q.1.a0 q.1.a1 q.2))≠[]:=fun e=>by
  obtain⟨x,y,z,hx⟩:=hne;have:=Er ((hap _ _ _).2 hx);rw[e] at this;cases this
 obtain⟨va,vb,vc,T⟩:=h.tri.ccw _ _ _ hk;obtain⟨n1,_,_⟩:=h.tri.ne hk;have fin:(∃e,X a b e)->X a b c:=fun ⟨e,he⟩=>by
  have:=hsub _ _ _ he;rw[hk] at this;cases this
  exact he
 rcases Ajw hv ht va vb n1 (Mesh.free hv h.tri hk) (Agi hv hok ht hc hnil va vb) with (g|g)|⟨x,y,g,g1,g2⟩
 .obtain⟨e,he⟩:=Option.ne_none_iff_exists'.1 g;exact fin ⟨e,(hap _ _ _).1 he⟩
 .obtain⟨e,he⟩:=Option.ne_none_iff_exists'.1 g;exact fin (htw _ _ _ ((hap _ _ _).1 he) c vc (by rw[Bb];omega))
 .exfalso;have gx:=h.tri.rot2 (hsub _ _ _ ((hap _ _ _).1 g));refine h.tri.cone a x y b gx (.inl (by rw[hk];simp)) ⟨?_,g2⟩;rw[Bl];omega
def Abq(m:Mp)(t:Ah):Prop:=t.a0<t.a1/\t.a0<t.a2/\apM m t.a0 t.a1=some t.a2
theorem Abq.side(hM:Tri (plV v) (inN v.length) (apM m)){t:Ah}(h:Abq m t){p q:Int}(hs:Pd t p q):∃e,apM m p q=some e:=by
 obtain⟨_,_,h⟩:=h;rcases hs with⟨rfl,rfl⟩|⟨rfl,rfl⟩|⟨rfl,rfl⟩
 .exact⟨_,h⟩
 .exact⟨_,hM.rot _ _ _ h⟩
 .exact⟨_,hM.rot2 h⟩
def okM(v:List Aa)(m:Mp)(p q:Int):Prop:=inN v.length p/\inN v.length q/\(noT v p q\/∃e,apM m p q=some e)
structure TrM(v:List Aa)(m:Mp)(p0 q0:Int)(op:List Ab)(dn:Int->Int->Prop)(out:List Ah):Prop where
 mem:∀t∈out,Abq m t
 nd:out.Nodup
 opn:∀s∈op,okM v m s.a0 s.a1
 don:∀p q,dn p q->(∃t∈out,Pd t p q)\/noT v p q
 all:∀t∈out,∀p q,Pd t p q->dn p q
 rev:∀t∈out,∀p q,Pd t p q->⟨q,p⟩∈op\/dn q p
 sta:⟨p0,q0⟩∈op\/dn p0 q0
 len:op.length<=3*out.length+1
theorem TrM.init{dn:Int->Int->Prop}(h:okM v m p0 q0)(hd:∀p q,¬dn p q):TrM v m p0 q0 [⟨p0,q0⟩] dn [] :=
 ⟨fun t h=>(by cases h),List.nodup_nil,fun s hs=>by rw[List.mem_singleton] at hs;subst hs;exact h,fun p q g=>absurd g (hd p q),fun t h=>(by cases h),fun t h=>(by cases h),.inl s_,s_⟩
theorem TrM.skip{op:List Ab}{dn:Int->Int->Prop}{out:List Ah}{s:Ab}(h:TrM v m p0 q0 (op++[s]) dn out)(hs:dn s.a0 s.a1):TrM v m p0 q0 op dn out :=
 ⟨h.mem,h.nd,fun x hx=>h.opn x (by simp[hx]),h.don,h.all,fun t ht p q hp=>(h.rev t ht p q hp).elim (fun g=>(Ade g).imp id fun e=>by subst e;exact hs) .inr,
  h.sta.elim (fun g=>(Ade g).imp id fun e=>by subst e;exact hs) .inr,by have:=h.len;rw[List.length_append,List.length_singleton] at this;omega⟩
theorem TrM.none{op:List Ab}{dn dn':Int->Int->Prop}{out:List Ah}{s:Ab}(h:TrM v m p0 q0 (op++[s]) dn out)(hd:∀p q,dn' p q↔dn p q\/(p=s.a0/\q=s.a1))(hn:noT v s.a0 s.a1):TrM v m p0 q0 op dn' out:=by
 have key:TrM v m p0 q0 (op++[s]) dn' out:=⟨h.mem,h.nd,h.opn,fun p q g=>by
  rcases (hd p q).1 g with g|⟨rfl,rfl⟩
  .exact h.don p q g
  .exact .inr hn,fun t ht p q hp=>(hd p q).2 (.inl (h.all t ht p q hp)),fun t ht p q hp=>(h.rev t ht p q hp).imp id fun g=>(hd _ _).2 (.inl g),h.sta.imp id fun g=>(hd _ _).2 (.inl g),h.len⟩
 exact key.skip ((hd _ _).2 (.inr ⟨rfl,rfl⟩))
theorem TrM.more{op:List Ab}{dn dn':Int->Int->Prop}{out:List Ah}{s:Ab}{t:Ah}(h:TrM v m p0 q0 (op++[s]) dn out)(hs:¬dn s.a0 s.a1)(ht:Abq m t)(hst:Pd t s.a0 s.a1)(hd:∀p q,dn' p q↔dn p q\/Pd t p q)(hx:∀p q,Pd t p q->okM v m q p):TrM v m p0 q0 (op++[⟨t.a1,t.a0⟩,⟨t.a2,t.a1⟩,⟨t.a0,t.a2⟩]) dn' (out++[t]):=by
 have hin:∀{p q:Int},⟨p,q⟩∈op++[s]->(⟨p,q⟩:Ab)∈op++[⟨t.a1,t.a0⟩,⟨t.a2,t.a1⟩,⟨t.a0,t.a2⟩]\/dn' p q:=fun {p q} g=>by
  rcases Ade g with g|g
  .exact .inl (List.mem_append.2 (.inl g))
  .right;rw[<-g] at hst;exact (hd _ _).2 (.inr hst)
 refine⟨fun x hx=>?_,?_,fun x hx'=>?_,fun p q g=>?_,fun x hx' p q g=>?_,fun x hx' p q g=>?_,?_,?_⟩
 .rcases List.mem_append.1 hx with hx|hx
  .exact h.mem x hx
  .rw[List.mem_singleton] at hx;subst hx;exact ht
 .rw[List.nodup_append];refine⟨h.nd,s_,fun x hm y hy e=>?_⟩;rw[List.mem_singleton] at hy;rw[hy] at e;rw[e] at hm;exact hs (h.all t hm _ _ hst)
 .rcases List.mem_append.1 hx' with hx'|hx'
  .exact h.opn x (by simp[hx'])
  .simp only[List.mem_cons,List.not_mem_nil,or_false] at hx';rcases hx' with rfl|rfl|rfl
   .exact hx t.a0 t.a1 (.inl ⟨rfl,rfl⟩)
   .exact hx t.a1 t.a2 (.inr (.inl ⟨rfl,rfl⟩))
   .exact hx t.a2 t.a0 (.inr (.inr ⟨rfl,rfl⟩))
 .rcases (hd p q).1 g with g|g
  .rcases h.don p q g with⟨x,hx,g⟩|g
   .exact .inl ⟨x,by simp[hx],g⟩
   .exact .inr g
  .exact .inl ⟨t,s_,g⟩
 .rcases List.mem_append.1 hx' with hx'|hx'
  .exact (hd p q).2 (.inl (h.all x hx' p q g))
  .rw[List.mem_singleton] at hx';subst hx';exact (hd p q).2 (.inr g)
 .rcases List.mem_append.1 hx' with hx'|hx'
  .rcases h.rev x hx' p q g with g|g
   .exact hin g
   .exact .inr ((hd _ _).2 (.inl g))
  .rw[List.mem_singleton] at hx';subst hx';left;refine List.mem_append.2 (.inr ?_);rcases g with⟨rfl,rfl⟩|⟨rfl,rfl⟩|⟨rfl,rfl⟩ <;> simp
 .rcases h.sta with g|g
  .exact hin g
  .exact .inr ((hd _ _).2 (.inl g))
 .have:=h.len;simp only[List.length_append,List.length_cons,List.length_nil] at this⊢;omega
theorem Aex(hM:Tri (plV v) (inN v.length) (apM m)){out:List Ah}(hmem:∀t∈out,Abq m t)(hnd:out.Nodup):out.length<=v.length*v.length:=by
 have h1:(out.map fun t=>(t.a0.toNat*v.length+t.a1.toNat)).Nodup:=by
  unfold List.Nodup;rw[List.pairwise_map];refine List.Pairwise.imp_of_mem ?_ hnd;intro x y hx hy hne e;obtain⟨x1,x2,x3⟩:=hmem x hx;obtain⟨y1,y2,y3⟩:=hmem y hy;obtain⟨x4,x5,_⟩:=hM.ccw _ _ _ x3;obtain⟨y4,y5,_⟩:=hM.ccw _ _ _ y3;unfold inN at x4 x5 y4 y5;have e1:x.a1.toNat=y.a1.toNat:=by
   have:=congrArg (· % v.length) e;simp only[Nat.mul_add_mod_self_right] at this
   rwa [Nat.mod_eq_of_lt oo,Nat.mod_eq_of_lt oo] at this
  have e2:x.a0.toNat=y.a0.toNat:=by
   rw[e1] at e;have e':x.a0.toNat*v.length=y.a0.toNat*v.length:=oo;exact Nat.eq_of_mul_eq_mul_right oo e'
  have e3:x.a0=y.a0:=oo;have e4:x.a1=y.a1:=oo;apply hne;obtain⟨xa,xb,xc⟩:=x;obtain⟨ya,yb,yc⟩:=y;simp only at e3 e4 x3 y3;subst e3;subst e4;rw[oI (x3.symm.trans y3)]
 have:=Em (m:=List.range (v.length*v.length)) h1 fun x hx=>by
  obtain⟨t,ht,rfl⟩:=List.mem_map.1 hx;obtain⟨_,_,t3⟩:=hmem t ht;obtain⟨t4,t5,_⟩:=hM.ccw _ _ _ t3;unfold inN at t4 t5;rw[List.mem_range];have h3:t.a0.toNat+1<=v.length:=oo;have:=Nat.mul_le_mul_right v.length h3;rw[Nat.add_mul] at this;omega
 rwa [List.length_map,List.length_range] at this
theorem TrM.bound(hM:Tri (plV v) (inN v.length) (apM m)){op:List Ab}{dn:Int->Int->Prop}{out:List Ah}(h:TrM v m p0 q0 op dn out):out.length<=v.length*v.length:=Aex hM h.mem h.nd
theorem TrM.full(hv:Ci v)(hM:Mesh v L m){dn:Int->Int->Prop}{out:List Ah}(h:TrM v m p0 q0 [] dn out)(hs:∃e,apM m p0 q0=some e)(t:Ah):t∈out↔Abq m t:=by
 refine⟨fun ht=>h.mem t ht,fun ⟨t1,t2,t3⟩=>?_⟩;have inX:∀t∈out,∀a b c,Pd t a b->apM m a b=some c->(a,b,c)∈out.flatMap rots:=fun t ht a b c g hd=>by
  have:=(h.mem t ht).2.2;refine List.mem_flatMap.2 ⟨t,ht,?_⟩;unfold rots;rcases g with⟨rfl,rfl⟩|⟨rfl,rfl⟩|⟨rfl,rfl⟩
  .rw[oI (hd.symm.trans this)];simp
  .rw[oI (hd.symm.trans (hM.tri.rot _ _ _ this))];simp
  .rw[oI (hd.symm.trans (hM.tri.rot2 this))];simp
 have memX:∀a b c:Int,(a,b,c)∈out.flatMap rots->∃t∈out,Pd t a b/\Pd t b c/\apM m a b=some c:=fun a b c g=>by
  obtain⟨t,ht,g⟩:=List.mem_flatMap.1 g;have:=(h.mem t ht).2.2;unfold rots at g;simp only[List.mem_cons,List.not_mem_nil,or_false] at g;rcases g with g|g|g <;> cases g
  .exact⟨t,ht,.inl ⟨rfl,rfl⟩,.inr (.inl ⟨rfl,rfl⟩),this⟩
  .exact⟨t,ht,.inr (.inl ⟨rfl,rfl⟩),.inr (.inr ⟨rfl,rfl⟩),hM.tri.rot _ _ _ this⟩
  .exact⟨t,ht,.inr (.inr ⟨rfl,rfl⟩),.inl ⟨rfl,rfl⟩,hM.tri.rot2 this⟩
 have dnX:∀p q e,dn p q->apM m p q=some e->(p,q,e)∈out.flatMap rots:=fun p q e g hd=>by
  rcases h.don p q g with⟨t,ht,g⟩|g
  .exact inX t ht p q e g hd
  .obtain⟨_,_,k3,k4⟩:=hM.tri.ccw _ _ _ hd;have:=g e k3;omega
 have key:=Atd hv hM (X:=fun a b c=>(a,b,c)∈out.flatMap rots) (fun a b c g=>(memX a b c g).elim fun t g=>g.2.2.2) (fun a b c g=>by
  obtain⟨t,ht,g1,g2,g3⟩:=memX a b c g;exact inX t ht b c a g2 (hM.tri.rot _ _ _ g3)) (fun a b c g d hd hlt=>by
  obtain⟨t,ht,g1,g2,g3⟩:=memX a b c g;rcases h.rev t ht a b g1 with k|k
  .cases k
  .rcases h.don b a k with⟨t',ht',k'⟩|k'
   .obtain⟨e,he⟩:=(h.mem t' ht').side hM.tri k';exact⟨e,inX t' ht' b a e k' he⟩
   .have:=k' d hd;rw[Bb] at this;omega) (by
  obtain⟨x,hx⟩:=hs;rcases h.sta with k|k
  .cases k
  .exact⟨_,_,_,dnX p0 q0 x k hx⟩) t3
 obtain⟨t',ht',g⟩:=List.mem_flatMap.1 key;obtain⟨s1,s2,s3⟩:=h.mem t' ht';obtain⟨ta,tb,tc⟩:=t;obtain⟨sa,sb,sc⟩:=t';unfold rots at g;simp only[List.mem_cons,List.not_mem_nil,or_false,Prod.mk.injEq] at g t1 t2 s1 s2;rcases g with⟨rfl,rfl,rfl⟩|⟨rfl,rfl,rfl⟩|⟨rfl,rfl,rfl⟩
 .exact ht'
 .omega
 .omega
end
instance:Sd prog 122 [iq 0,iq 0,iq 0]:=⟨⟨_,zeroValue122,rfl⟩⟩
instance(x0:Int)(x1:Int)(x2:Int)(x3:Int):Kg prog 22 1 [(0,.agg #[iq x0,iq x1,iq x2,iq x3])] 105 [iq x0,iq x1,iq x2,iq x3]:=⟨fun w=>kr⟩
def Iw(p0:Ah)(p1:Ah):Int->Option (Sum Int (Sum Unit Bool)):=fun s0=>
 if s0<3 then (bnd (idx [p0.a0,p0.a1,p0.a2] s0) fun x0=>
 bnd (idx [p1.a0,p1.a1,p1.a2] s0) fun x1=>
 if x0=x1 then (some (.inl (w64 (s0+1))))
 else (bnd (idx [p0.a0,p0.a1,p0.a2] s0) fun x2=>
 bnd (idx [p1.a0,p1.a1,p1.a2] s0) fun x3=>
 some (.inr (.inr (decide (x2<x3))))))
 else (some (.inr (.inl ())))
def Pk(p0:Ah)(p1:Ah):Option Bool :=
 jn (fun (s2:Unit)=>
 some false)
 (fun j2=>bnd (lfix (Iw p0 p1) 0) fun t0=>
 (match t0 with
 |(.inl z0)=>j2 z0
 |(.inr z0)=>some z0
 ))
def Jj  : (List Ah×Int)->Option (Sum (List Ah×Int) (List Ah)):=fun s0=>
 jn (fun (s1:Bool)=>
 if s1=true then (bnd (idx s0.1 (w64 (s0.2-1))) fun x0=>
 bnd (idx s0.1 s0.2) fun x1=>
 bnd (idx s0.1 s0.2) fun x2=>
 bnd (idx (setI s0.1 s0.2 x0) (w64 (s0.2-1))) fun x3=>
 some (.inl (setI (setI s0.1 s0.2 x0) (w64 (s0.2-1)) x1,w64 (s0.2-1))))
 else (some (.inr s0.1)))
 (fun j0=>if 0<s0.2 then (bnd (idx s0.1 s0.2) fun x4=>
 bnd (idx s0.1 (w64 (s0.2-1))) fun x5=>
 bnd (Pk x4 x5) fun r0=>
 j0 r0)
 else (j0 false))
def Jk(p0:List Ah):(List Ah×Int)->Option (Sum (List Ah×Int) (List Ah)):=fun s0=>
 if s0.2<(p0.length:Int) then (jn (fun (s1:List Ah)=>
 some (.inl (s1,w64 (s0.2+1))))
 (fun j0=>bnd (lfix Jj (s0.1,s0.2)) fun t0=>
 j0 t0))
 else (some (.inr s0.1))
def Nc(p0:List Ah):Option (List Ah):=
 jn (fun (s2:List Ah)=>
 some s2)
 (fun j2=>bnd (lfix (Jk p0) (p0,0)) fun t0=>
 j2 t0)
def Gs  : (Int×Int×Int)->Option (Sum (Int×Int×Int) (Int×Int×Int)):=fun s0=>
 jn (fun (s6:Bool)=>
 if s6=true then (some (.inl (s0.2.1,s0.2.2,s0.1)))
 else (some (.inr (s0.1,s0.2.1,s0.2.2))))
 (fun j6=>if s0.2.1<s0.1 then (j6 true)
 else (j6 (decide (s0.2.2<s0.1))))
def Nd(p0:Ah):Option Ah :=
 jn (fun (s2:Int×Int×Int)=>
 some (⟨s2.1,s2.2.1,s2.2.2⟩:Ah))
 (fun j2=>bnd (lfix Gs (p0.a0,p0.a1,p0.a2)) fun t0=>
 j2 t0)
def Pm(p0:Ab)(p1:Ab):Option Bool :=
 jn (fun (s2:Bool)=>
 some s2)
 (fun j2=>if p0.a0<p1.a0 then (j2 true)
 else (if p0.a0=p1.a0 then (j2 (decide (p0.a1<p1.a1)))
 else (j2 false)))
def Mj(p0:List Ab):(List Ab×Int)->Option (Sum (List Ab×Int) (List Ab)):=fun s0=>
 if s0.2<(p0.length:Int) then (bnd (idx p0 s0.2) fun x0=>
 bnd (idx p0 s0.2) fun x1=>
 bnd (idx p0 s0.2) fun x2=>
 bnd (idx p0 s0.2) fun x3=>
 gd ((s0.1.length+1)*16<=140737488355328)<|
 some (.inl (s0.1++[(⟨min x0.a0 x1.a1,max x2.a0 x3.a1⟩:Ab)],w64 (s0.2+1))))
 else (some (.inr s0.1))
def Hk  : (List Ab×Int)->Option (Sum (List Ab×Int) (List Ab)):=fun s0=>
 jn (fun (s1:Bool)=>
 if s1=true then (bnd (idx s0.1 (w64 (s0.2-1))) fun x0=>
 bnd (idx s0.1 s0.2) fun x1=>
 bnd (idx s0.1 s0.2) fun x2=>
 bnd (idx (setI s0.1 s0.2 x0) (w64 (s0.2-1))) fun x3=>
 some (.inl (setI (setI s0.1 s0.2 x0) (w64 (s0.2-1)) x1,w64 (s0.2-1))))
 else (some (.inr s0.1)))
 (fun j0=>if 0<s0.2 then (bnd (idx s0.1 s0.2) fun x4=>
 bnd (idx s0.1 (w64 (s0.2-1))) fun x5=>
 bnd (Pm x4 x5) fun r0=>
 j0 r0)
 else (j0 false))
def If(s3:List Ab):(List Ab×Int)->Option (Sum (List Ab×Int) (List Ab)):=fun s0=>
 if s0.2<(s3.length:Int) then (jn (fun (s1:List Ab)=>
 some (.inl (s1,w64 (s0.2+1))))
 (fun j0=>bnd (lfix Hk (s0.1,s0.2)) fun t0=>
 j0 t0))
 else (some (.inr s0.1))
def Mf(p0:List Ab):Option (List Ab):=
 jn (fun (s3:List Ab)=>
 jn (fun (s0:List Ab)=>
 some s0)
 (fun j0=>bnd (lfix (If s3) (s3,0)) fun t0=>
 j0 t0))
 (fun j3=>bnd (lfix (Mj p0) (([]:List Ab),0)) fun t1=>
 j3 t1)
def De(r0:Ah)(s0:List Ab×(List (Ab×Bool))×List Ah):(List Ab×(List (Ab×Bool))×Int)->Option (Sum (List Ab×(List (Ab×Bool))×Int) (List Ab×(List (Ab×Bool))×List Ah)):=fun s1=>
 if s1.2.2<3 then (bnd (idx [r0.a0,r0.a1,r0.a2] s1.2.2) fun x0=>
 bnd (idx [r0.a0,r0.a1,r0.a2] (Int.tmod (w64 (s1.2.2+1)) 3)) fun x1=>
 gd ((-9223372036854775808<=x0/\x0<=9223372036854775807)/\(-9223372036854775808<=x1/\x1<=9223372036854775807))<|
 gd (s1.2.1.length<9223372036854775807)<|
 gd ((s1.1.length+1)*16<=140737488355328)<|
 some (.inl (s1.1++[(⟨x1,x0⟩:Ab)],mput s1.2.1 ((⟨x0,x1⟩:Ab)) true,w64 (s1.2.2+1))))
 else (some (.inr (s1.1,s1.2.1,s0.2.2++[r0])))
def Gt(p0:List Aa)(p1:List Ab):(List Ab×(List (Ab×Bool))×List Ah)->Option (Sum (List Ab×(List (Ab×Bool))×List Ah) (List Ah)):=fun s0=>
 if 0<(s0.1.length:Int) then (bnd (idx s0.1 (w64 ((s0.1.length:Int)-1))) fun x0=>
 gd (0<=(w64 ((s0.1.length:Int)-1))/\(w64 ((s0.1.length:Int)-1))<=(s0.1.length:Int))<|
 gd ((-9223372036854775808<=x0.a0/\x0.a0<=9223372036854775807)/\(-9223372036854775808<=x0.a1/\x0.a1<=9223372036854775807))<|
 bnd (some ((mget s0.2.1 x0).getD false)) fun x1=>
 if x1=true then (some (.inl (List.take (Int.toNat (w64 ((s0.1.length:Int)-1))) s0.1,s0.2.1,s0.2.2)))
 else (bnd (Ph p0 p1 x0.a0 x0.a1) fun r0=>
 if r0<0 then (gd ((-9223372036854775808<=x0.a0/\x0.a0<=9223372036854775807)/\(-9223372036854775808<=x0.a1/\x0.a1<=9223372036854775807))<|
 gd (s0.2.1.length<9223372036854775807)<|
 some (.inl (List.take (Int.toNat (w64 ((s0.1.length:Int)-1))) s0.1,mput s0.2.1 x0 true,s0.2.2)))
 else (bnd (Nd (⟨x0.a0,x0.a1,r0⟩:Ah)) fun r1=>
 gd ((s0.2.2.length+1)*24<=140737488355328)<|
 bnd (lfix (De r1 s0) (List.take (Int.toNat (w64 ((s0.1.length:Int)-1))) s0.1,s0.2.1,0)) fun t0=>
 some (.inl t0))))
 else (some (.inr s0.2.2))
def Da(p0:List Aa)(p1:List Ab):Option (List Ah):=
 jn (fun (s3:Bool)=>
 if s3=true then (some ([]:List Ah))
 else (bnd (Od p0) fun r0=>
 bnd (Pi p0 r0 false) fun r1=>
 jn (fun (s9:List Ah)=>
 bnd (Nc s9) fun r2=>
 some r2)
 (fun j9=>bnd (lfix (Gt p0 p1) ([(⟨r0,r1⟩:Ab)],([]:List (Ab×Bool)),([]:List Ah))) fun t0=>
 j9 t0)))
 (fun j3=>if (p0.length:Int)<3 then (j3 true)
 else (bnd (Pj p0) fun r4=>
 j3 r4))
def Ke(p0:List Aa):(List Aa×Int)->Option (Sum (List Aa×Int) (List Aa)):=fun s0=>
 if s0.2<(p0.length:Int) then (bnd (idx p0 s0.2) fun x0=>
 gd ((s0.1.length+1)*32<=140737488355328)<|
 some (.inl (s0.1++[(⟨x0.X,x0.Y,(⟨x0.Z.Lo,x0.Z.Hi⟩:Af)⟩:Aa)],w64 (s0.2+1))))
 else (some (.inr s0.1))
def Bt(p0:List Aa)(p1:List Ab):Option (Aw×Int):=
 bnd (Kz p0 p1) fun r2=>
 if r2=0 then (jn (fun (s7:List Aa)=>
 bnd (Mf p1) fun r0=>
 bnd (Da p0 r0) fun r1=>
 some ((⟨s7,r1,r0⟩:Aw),0))
 (fun j7=>bnd (lfix (Ke p0) (([]:List Aa),0)) fun t0=>
 j7 t0))
 else (some ((⟨([]:List Aa),([]:List Ah),([]:List Ab)⟩:Aw),r2))
instance(p0:Ah)(p1:Ah):Con (Pk p0 p1) prog 230 (fun _ vs=>vs=[.agg #[iq p0.a0,iq p0.a1,iq p0.a2],.agg #[iq p1.a0,iq p1.a1,iq p1.a2]]) (fun _ r v Ln=>v=.bool r/\Ln=[]/\True):=⟨by
 rintro _ _ r rfl hx w hK;unfold Pk at hx;have:=dl 4 [0,0,1,0,0,1,0] [0,1,2,3,4,5,6];have:=dl 5 [0,0,1,0,0,1,0,2] [0,1,2,3,4,5,6,7];refine CtS ntmps230 results230 ?_;refine pq ?_;intros;rename_i hx
 refine pA ?_;intros;rename_i hx
 apply Jr (γ:=Unit) hx [] (fun s2 y2 f=>f) [999] (fun s2 y2 l=>l);exact kk
 .exact aI
 .refine pI ?_;intros;rename_i hx
  apply Lr (γ:=Unit) hx [2,3] (fun s0 y0 f=>(6,iq s0)::f) [0,1,999] (fun s0 y0 l=>l) ();exact kk;exact sk;intro s0 y0 x0 hx _;unfold Iw at hx;exact au⟩
instance(p0:List Ah):ConK (Nc p0) prog 143 (fun ug0 ug1 ug2 B0_0 d0_0 ua0 uc0 vs Lp=>vs=[.slice B0_0 p0.length d0_0]/\Lp=[.r B0_0 p0.length d0_0 122 3 (p0.flatMap Bg)]/\ug0=0/\ug1=0/\ug2=0/\ua0=none/\uc0=0/\True) (fun B0_0 d0_0 ua0 uc0 K K2=>True) (fun ug0 ug1 ug2 B0_0 d0_0 ua0 uc0 K r v Ln=>∃A0 c0,v=.slice A0 r.length c0/\Ln=[.r A0 r.length c0 122 3 (r.flatMap Bg)]/\True):=⟨by
 rintro _ _ _ B0_0 d0_0 _ _ K K2 _ _ r ⟨rfl,rfl,rfl,rfl,rfl,rfl,rfl,-⟩ ⟨-⟩ hx;unfold Nc at hx;have:=dl 5 [0,0,0,0,0,0,1,0,0,0,0,1,2,0] [0,1,2,3,4,5,6,7,8,9,10,11,12,13];have:=dl 7 [0,0,0,0,0,0,0,0,0,1,0,0,0,1,0,3,0,3] [0,1,2,3,4,5,6,7,8,9,10,11,12,13,14,15,16,17];refine CtSK ntmps143 results143 ?_;intro Lf hKf;have hKg:=hKf.r;replace hKf:=hKf.l;refine Qd ?_;refine pq ?_;intros;rename_i hx
 refine pA ?_;intros;rename_i hx
 apply Jr (γ:=OA×Nat) hx [] (fun s2 y2 f=>(0,.slice y2.1 s2.length y2.2)::f) [1001] (fun s2 y2 l=>.r y2.1 s2.length y2.2 122 3 (s2.flatMap Bg)::l);exact kk
 .exact aI
 .refine pI ?_;intros;rename_i hx
  apply Lr (γ:=OA×Nat) hx [6] (fun s0 y0 f=>(0,.slice y0.1 s0.1.length y0.2)::(7,iq s0.2)::f) [1001] (fun s0 y0 l=>.r y0.1 s0.1.length y0.2 122 3 (s0.1.flatMap Bg)::l) (_,_);exact kk;exact sk;intro s0 y0 x0 hx _;unfold Jk at hx;refine pq ?_;intros;rename_i hx
  refine Cq1 (s:=8) hx rfl ?_ ?_
  .refine pI ?_;intros;rename_i hx
   apply Jr (γ:=OA×Nat) hx [6,7] (fun s1 y1 f=>(0,.slice y1.1 s1.length y1.2)::f) [1001] (fun s1 y1 l=>.r y1.1 s1.length y1.2 122 3 (s1.flatMap Bg)::l);exact kk
   .exact aI
   .refine pI ?_;intros;rename_i hx
    apply Lr (γ:=OA×Nat) hx [6,7] (fun s3 y3 f=>(0,.slice y3.1 s3.1.length y3.2)::(4,iq s3.2)::f) [1001] (fun s3 y3 l=>.r y3.1 s3.1.length y3.2 122 3 (s3.1.flatMap Bg)::l) (_,_);exact kk;exact sk;intro s3 y3 x1 hx _;unfold Jj at hx;refine pq ?_;intros;rename_i hx
    refine pA ?_;intros;rename_i hx
    apply Jr (γ:=Unit) hx [0,4,6,7] (fun s4 y4 f=>(24,.bool s4)::f) [0,1001] (fun s4 y4 l=>l);exact kk
    .exact aI
    .exact aI
  .exact aI⟩
instance(p0:Ah):Con (Nd p0) prog 142 (fun _ vs=>vs=[.agg #[iq p0.a0,iq p0.a1,iq p0.a2]]) (fun _ r v Ln=>v=.agg #[iq r.a0,iq r.a1,iq r.a2]/\Ln=[]/\True):=⟨by
 rintro _ _ r rfl hx w hK;unfold Nd at hx;refine CtS ntmps142 results142 ?_;refine pq ?_;intros;rename_i hx
 refine pA ?_;intros;rename_i hx
 apply Jr (γ:=Nat) hx [2] (fun s2 y2 f=>(1,.pointer (some ⟨y2,0,none⟩))::f) [0,999] (fun s2 y2 l=>.m y2 122 [iq s2.1,iq s2.2.1,iq s2.2.2]::l);exact kk
 .exact aI
 .refine pI ?_;intros;rename_i hx
  apply Lr (γ:=Nat) hx [2] (fun s0 y0 f=>(1,.pointer (some ⟨y0,0,none⟩))::f) [0,999] (fun s0 y0 l=>.m y0 122 [iq s0.1,iq s0.2.1,iq s0.2.2]::l) _;exact kk;exact sk;intro s0 y0 x0 hx _;unfold Gs at hx;exact au⟩
instance(p0:Ab)(p1:Ab):Con (Pm p0 p1) prog 102 (fun _ vs=>vs=[.agg #[iq p0.a0,iq p0.a1],.agg #[iq p1.a0,iq p1.a1]]) (fun _ r v Ln=>v=.bool r/\Ln=[]/\True):=⟨by
 rintro _ _ r rfl hx w hK;unfold Pm at hx;refine CtS ntmps102 results102 ?_;exact au⟩
instance(p0:List Ab):Con (Mf p0) prog 59 (fun K vs=>∃E0 G0,vs=[.slice E0 p0.length G0]/\Has K E0 p0.length G0 2 Ar p0/\True) (fun _ r v Ln=>∃A0 c0,v=.slice A0 r.length c0/\Ln=[.r A0 r.length c0 99 2 (r.flatMap Ar)]/\True):=⟨by
 rintro K _ r ⟨E0,G0,rfl,ha0,-⟩ hx w hK;replace ha0:=ha0.lo hK;unfold Mf at hx;have:=dl 5 [0,0,0,0,0,1,0,0,0,0,1,0,0,0,0,0,1,0,0,0,0,1,0,0,2,3,2] [0,1,2,3,4,5,6,7,8,9,10,11,12,13,14,15,16,17,18,19,20,21,22,23,24,25,26];have:=dl 11 [0,0,0,0,0,0,1,0,0,0,0,1,2,0] [0,1,2,3,4,5,6,7,8,9,10,11,12,13];have:=dl 13 [0,0,0,0,0,0,0,0,0,1,0,0,0,1,0,3,0,3] [0,1,2,3,4,5,6,7,8,9,10,11,12,13,14,15,16,17];refine CtS ntmps59 results59 ?_;refine pq ?_;intros;rename_i hx
 refine pA ?_;intros;rename_i hx
 refine pA ?_;intros;rename_i hx
 apply Jr (γ:=OA×Nat) hx [] (fun s3 y3 f=>(3,.slice y3.1 s3.length y3.2)::f) [999] (fun s3 y3 l=>.r y3.1 s3.length y3.2 99 2 (s3.flatMap Ar)::l);exact kk
 .intro s3 y3 hx;apply Jr (γ:=OA×Nat) hx [] (fun s0 y0 f=>(3,.slice y0.1 s0.length y0.2)::f) [999] (fun s0 y0 l=>.r y0.1 s0.length y0.2 99 2 (s0.flatMap Ar)::l);exact kk
  .exact aI
  .refine pI ?_;intros;rename_i hx
   apply Lr (γ:=OA×Nat) hx [40] (fun s1 y1 f=>(3,.slice y1.1 s1.1.length y1.2)::(41,iq s1.2)::f) [999] (fun s1 y1 l=>.r y1.1 s1.1.length y1.2 99 2 (s1.1.flatMap Ar)::l) (_,_);exact kk;exact sk;intro s1 y1 x0 hx _;unfold If at hx;refine pq ?_;intros;rename_i hx
   refine Cq1 (s:=42) hx rfl ?_ ?_
   .refine pI ?_;intros;rename_i hx
    apply Jr (γ:=OA×Nat) hx [40,41] (fun s2 y2 f=>(3,.slice y2.1 s2.length y2.2)::f) [999] (fun s2 y2 l=>.r y2.1 s2.length y2.2 99 2 (s2.flatMap Ar)::l);exact kk
    .exact aI
    .refine pI ?_;intros;rename_i hx
     apply Lr (γ:=OA×Nat) hx [40,41] (fun s4 y4 f=>(3,.slice y4.1 s4.1.length y4.2)::(6,iq s4.2)::f) [999] (fun s4 y4 l=>.r y4.1 s4.1.length y4.2 99 2 (s4.1.flatMap Ar)::l) (_,_);exact kk;exact sk;intro s4 y4 x1 hx _;unfold Hk at hx;refine pq ?_;intros;rename_i hx
     refine pA ?_;intros;rename_i hx
     apply Jr (γ:=Unit) hx [3,6,40,41] (fun s5 y5 f=>(58,.bool s5)::f) [0,999] (fun s5 y5 l=>l);exact kk
     .exact aI
     .exact aI
   .exact aI
 .refine pI ?_;intros;rename_i hx
  refine Bf 99 2 ?_;apply Lr (γ:=OA×Nat) hx [0,8] (fun s6 y6 f=>(3,.slice y6.1 s6.1.length y6.2)::(9,iq s6.2)::f) [999] (fun s6 y6 l=>.r y6.1 s6.1.length y6.2 99 2 (s6.1.flatMap Ar)::l) (_,_);exact kk;exact sk;intro s6 y6 x2 hx _;unfold Mj at hx;exact au⟩
instance(p0:List Aa)(p1:List Ab):Con (Da p0 p1) prog 60 (fun K vs=>∃E0 G0 E1 G1,vs=[.slice E0 p0.length G0,.slice E1 p1.length G1]/\Has K E0 p0.length G0 4 Ai p0/\Has K E1 p1.length G1 2 Ar p1/\True) (fun _ r v Ln=>∃A0 c0,v=.slice A0 r.length c0/\Ln=[.r A0 r.length c0 122 3 (r.flatMap Bg)]/\True):=⟨by
 rintro K _ r ⟨E0,G0,E1,G1,rfl,ha0,ha1,-⟩ hx w hK;replace ha0:=ha0.lo hK;replace ha1:=ha1.lo hK;unfold Da at hx;have:=dl 19 [0,0,1,0,0,0,0,1,2,2] [0,1,2,3,4,5,6,7,8,9];refine CtS ntmps60 results60 ?_;refine pq ?_;intros;rename_i hx
 refine pA ?_;intros;rename_i hx
 refine pA ?_;intros;rename_i hx
 apply Jr (γ:=Unit) hx [0,1] (fun s3 y3 f=>(21,.bool s3)::f) [999] (fun s3 y3 l=>l);exact kk
 .intro s3 y3 hx;refine Cq3 (s:=21) hx rfl ?_ ?_
  .exact aI
  .refine pI ?_;intros;rename_i hx
   refine pA ?_;intros;rename_i hx
   refine pA ?_;intros;rename_i hx
   apply Jr (γ:=OA×Nat) hx [] (fun s9 y9 f=>(8,.slice y9.1 s9.length y9.2)::f) [999] (fun s9 y9 l=>.r y9.1 s9.length y9.2 122 3 (s9.flatMap Bg)::l);exact kk
   .exact aI
   .refine pI ?_;intros;rename_i hx
    (with_reducible apply Ack 29 (sz:=2));exact rfl;exact aT;exact iI;exact dL;exact (fun _=>rfl);exact rfl;exact rfl;exact sA
    refine pq ?_;intros;rename_i hx
    refine Bf 122 3 ?_;apply Lr (γ:=OA×Nat×OA×Nat×Nat) hx [0,1] (fun s0 y0 f=>(6,.slice y0.1 s0.1.length y0.2.1)::(7,.map (some y0.2.2.2.2))::(8,.slice y0.2.2.1 s0.2.2.length y0.2.2.2.1)::f) [999] (fun s0 y0 l=>.r y0.2.2.1 s0.2.2.length y0.2.2.2.1 122 3 (s0.2.2.flatMap Bg)::Be prog 99 Al Cc y0.2.2.2.2 s0.2.1 :: .r y0.1 s0.1.length y0.2.1 99 2 (s0.1.flatMap Ar)::l) (_,_,_,_,_);exact kk;exact sk;intro s0 y0 x0 hx _;unfold Gt at hx;refine pq ?_;intros;rename_i hx
    refine Cq1e (s:=33) hx rfl cQ ?_ ?_
    .refine pI ?_;intros;rename_i hx
     refine Cq3 (s:=47) hx rfl ?_ ?_
     .refine pI ?_;intros;rename_i hx
      (with_reducible apply Vc 6);exact rfl;exact aT;exact aS;exact rfl;exact (fun _=>rfl);exact sA
      exact au
     .refine pI ?_;intros;rename_i hx
      refine Cq1e (s:=56) hx rfl cQ ?_ ?_
      .refine pI ?_;intros;rename_i hx
       (with_reducible apply Vc 6);exact rfl;exact aT;exact aS;exact rfl;exact (fun _=>rfl);exact sA
       exact au
      .refine pI ?_;intros;rename_i hx
       (with_reducible apply Vc 6);exact rfl;exact aT;exact aS;exact rfl;exact (fun _=>rfl);exact sA
       refine pq ?_;intros;rename_i hx
       apply Lr (γ:=OA×Nat×Nat) hx [0,1,8,11] (fun s1 y1 f=>(6,.slice y1.1 s1.1.length y1.2.1)::(7,.map (some y1.2.2))::(70,iq s1.2.2)::f) [0,2,999] (fun s1 y1 l=>.r y1.1 s1.1.length y1.2.1 99 2 (s1.1.flatMap Ar)::Be prog 99 Al Cc y1.2.2 s1.2.1::l) (_,_,_);exact kk;exact sk;intro s1 y1 x1 hx _;unfold De at hx;exact au
    .exact aI
 .exact aI⟩
instance(p0:List Aa)(p1:List Ab):Con (Bt p0 p1) prog 17 (fun K vs=>∃E0 G0 E1 G1,vs=[.slice E0 p0.length G0,.slice E1 p1.length G1]/\Has K E0 p0.length G0 4 Ai p0/\Has K E1 p1.length G1 2 Ar p1/\True) (fun _ r v Ln=>∃A0 c0 A2 c2 A4 c4,v=.tuple #[.agg #[.slice A0 r.1.V.length c0,.slice A2 r.1.T.length c2,.slice A4 r.1.Lines.length c4],iq r.2]/\Ln=[.r A0 r.1.V.length c0 105 4 (r.1.V.flatMap Ai),.r A2 r.1.T.length c2 122 3 (r.1.T.flatMap Bg),.r A4 r.1.Lines.length c4 99 2 (r.1.Lines.flatMap Ar)]/\True):=⟨by
 rintro K _ r ⟨E0,G0,E1,G1,rfl,ha0,ha1,-⟩ hx w hK;replace ha0:=ha0.lo hK;replace ha1:=ha1.lo hK;unfold Bt at hx;refine CtS ntmps17 results17 ?_;refine pq ?_;intros;rename_i hx
 refine Cq2 (s:=14) hx rfl ?_ ?_
 .exact aI
 .refine pI ?_;intros;rename_i hx
  refine pA ?_;intros;rename_i hx
  apply Jr (γ:=OA×Nat) hx [0,1,4] (fun s7 y7 f=>(7,.slice y7.1 s7.length y7.2)::f) [0,999] (fun s7 y7 l=>.r y7.1 s7.length y7.2 105 4 (s7.flatMap Ai)::l);exact kk
  .exact aI
  .refine pI ?_;intros;rename_i hx
   refine Bf 105 4 ?_;apply Lr (γ:=OA×Nat) hx [0,1,4,18] (fun s0 y0 f=>(7,.slice y0.1 s0.1.length y0.2)::(19,iq s0.2)::f) [1,999] (fun s0 y0 l=>.r y0.1 s0.1.length y0.2 105 4 (s0.1.flatMap Ai)::l) (_,_);exact kk;exact sk;intro s0 y0 x0 hx _;unfold Ke at hx;exact au⟩
end
end Go.Proofs.YtlejkgngmjchdaaGreat
