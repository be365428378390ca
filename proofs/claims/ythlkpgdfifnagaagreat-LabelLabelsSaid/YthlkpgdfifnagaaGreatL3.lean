import Derived.Test.YthlkpgdfifnagaaGreatK8
namespace Go.Proofs.YthlkpgdfifnagaaGreat
open Go Go.RowKit List
noncomputable section
section
variable {P:Int->Ab}{V S:Int->Prop}{ap ap':Ap}{R:Int->Int->Prop}{p:Int}
def Vis(P:Int->Ab)(R:Int->Int->Prop)(p x y:Int):Prop:=R x y/\0<crs (P x) (P y) (P p)
def New(P:Int->Ab)(R:Int->Int->Prop)(p i j k:Int):Prop:=(Vis P R p i j/\k=p)\/(Vis P R p k i/\j=p)\/(Vis P R p j k/\i=p)
structure Adds(P:Int->Ab)(V S:Int->Prop)(ap:Ap)(R:Int->Int->Prop)(p:Int):Prop where
 tri:Tri P V ap
 used:∀i j k,ap i j=some k->S i
 sv:∀i,S i->V i
 vp:V p
 np:¬S p
 before:∀i,S i->befP (P i) (P p)
 behind:∀i,V i->¬S i->i≠p->befP (P p) (P i)
 r1:∀x y,R x y->S x/\S y/\x≠y/\∀d,S d->crs (P x) (P y) (P d)<=0
 r2:∀x y,Vis P R p x y->∀d,S d->d≠x->d≠y->crs (P x) (P y) (P d)=0->crs (P y) (P p) (P d)<0\/crs (P p) (P x) (P d)<0
 r3:∀x y,Vis P R p x y->((∃z,Vis P R p y z)\/∀d,S d->0<=crs (P y) (P p) (P d))/\((∃w,Vis P R p w x)\/∀d,S d->0<=crs (P p) (P x) (P d))
 r4:∀x y,R x y->ap x y=none
 r5:∀x y,Vis P R p x y->ap y x≠none\/((∀i j,ap i j=none)/\∀d,S d->0<=crs (P x) (P y) (P d))
 r6:∀i j k,ap i j=some k->ap j i=none->R j i
theorem New.rot{i j k:Int}(h:New P R p i j k):New P R p j k i:=by
 rcases h with h|h|h
 .exact .inr (.inl h)
 .exact .inr (.inr h)
 .exact .inl h
theorem Bcp{x y p d:Ab}(h1:befP x p)(h2:befP y p)(h3:befP p d)(h4:0<crs x y p):crs x y d<0\/crs y p d<0\/crs p x d<0:=by
 by_cases c1:crs x y d<0
 .exact .inl c1
 by_cases c2:crs y p d<0
 .exact .inr (.inl c2)
 by_cases c3:crs p x d<0
 .exact .inr (.inr c3)
 exfalso;have e1:crs y p d*(d.X-x.X)+crs p x d*(d.X-y.X)+crs x y d*(d.X-p.X)=0:=by unfold crs;grind
 have e2:crs y p d*(d.Y-x.Y)+crs p x d*(d.Y-y.Y)+crs x y d*(d.Y-p.Y)=0:=by unfold crs;grind
 have e3:=Aa4 x y p d;have nn:∀{u w:Int},0<=u->0<=w->0<=u*w:=fun h h'=>Int.mul_nonneg h h'
 have hx:x.X<=d.X/\y.X<=d.X/\p.X<=d.X:=by unfold befP at h1 h2 h3;omega
 have m1:=nn (oo:0<=crs y p d) (oo:0<=d.X-x.X);have m2:=nn (oo:0<=crs p x d) (oo:0<=d.X-y.X);have m3:=nn (oo:0<=crs x y d) (oo:0<=d.X-p.X);have z1:crs y p d*(d.X-x.X)=0:=oo;have z2:crs p x d*(d.X-y.X)=0:=oo;have z3:crs x y d*(d.X-p.X)=0:=oo;have key:∀(w:Int) (q:Ab),0<=w->befP q d->w*(d.X-q.X)=0->0<=w*(d.Y-q.Y)/\(w*(d.Y-q.Y)=0->w=0):=by
  intro w q hw hq hz
  by_cases hw0:w=0
  .subst hw0;simp
  .rcases Int.mul_eq_zero.1 hz with h|h
   .exact absurd h hw0
   .have:0<d.Y-q.Y:=by unfold befP at hq;omega
    have:=Int.mul_pos (oo:0<w) this;exact⟨oo,fun h=>oo⟩
 obtain⟨k1,k2⟩:=key _ x oo (Mj h1 h3) z1;obtain⟨k3,k4⟩:=key _ y oo (Mj h2 h3) z2;obtain⟨k5,k6⟩:=key _ p oo h3 z3;have q1:=k2 oo;have q2:=k4 oo;have q3:=k6 oo;omega
section
variable (h:Adds P V S ap R p)
include h
theorem Adds.uniq{x x' y:Int}(h1:Vis P R p x y)(h2:Vis P R p x' y):x=x':=by
 by_cases e:x=x'
 .exact e
 exfalso;obtain⟨s1,s2,n1,f1⟩:=h.r1 x y h1.1;obtain⟨s3,_,n2,f2⟩:=h.r1 x' y h2.1;have g1:=f1 x' s3;have g2:=f2 x s1;have e1:crs (P x') (P y) (P x) = -crs (P x) (P y) (P x'):=by unfold crs;grind
 have z:crs (P x) (P y) (P x')=0:=oo;have a1:=h.r2 x y h1 x' s3 (fun q=>e q.symm) n2 z;have a2:=h.r2 x' y h2 x s1 e n1 oo;have v1:=h1.2;have v2:=h2.2;have e2:crs (P y) (P p) (P x)=crs (P x) (P y) (P p):=Bu _ _ _;have e3:crs (P y) (P p) (P x')=crs (P x') (P y) (P p):=Bu _ _ _;have e4:crs (P p) (P x') (P x) = -crs (P p) (P x) (P x'):=Bv _ _ _;omega
theorem Adds.uniq2{x y y':Int}(h1:Vis P R p x y)(h2:Vis P R p x y'):y=y':=by
 by_cases e:y=y'
 .exact e
 exfalso;obtain⟨s1,s2,n1,f1⟩:=h.r1 x y h1.1;obtain⟨_,s3,n2,f2⟩:=h.r1 x y' h2.1;have g1:=f1 y' s3;have g2:=f2 y s2;have e1:crs (P x) (P y') (P y) = -crs (P x) (P y) (P y'):=Bv _ _ _;have z:crs (P x) (P y) (P y')=0:=oo;have a1:=h.r2 x y h1 y' s3 n2.symm (fun q=>e q.symm) z;have a2:=h.r2 x y' h2 y s2 n1.symm e oo;have v1:=h1.2;have v2:=h2.2;have e2:crs (P p) (P x) (P y)=crs (P x) (P y) (P p):=by rw[<-Bu,<-Bu]
 have e3:crs (P p) (P x) (P y')=crs (P x) (P y') (P p):=by rw[<-Bu,<-Bu]
 have e4:crs (P y') (P p) (P y) = -crs (P y) (P p) (P y'):=by unfold crs;grind
 omega
theorem Adds.emp{x y:Int}(hv:Vis P R p x y)(d:Int)(hd:V d)(n1:d≠x)(n2:d≠y)(n3:d≠p):crs (P x) (P y) (P d)<0\/crs (P y) (P p) (P d)<0\/crs (P p) (P x) (P d)<0:=by
 obtain⟨s1,s2,_,f1⟩:=h.r1 x y hv.1
 by_cases hs:S d
 .have:=f1 d hs
  by_cases c:crs (P x) (P y) (P d)=0
  .exact .inr (h.r2 x y hv d hs n1 n2 c)
  .exact .inl oo
 .exact Bcp (h.before x s1) (h.before y s2) (h.behind d hd hs n3) hv.2
theorem Adds.news{i j k:Int}(hn:New P R p i j k):(S i\/i=p)/\(S j\/j=p)/\(S k\/k=p):=by
 rcases hn with⟨hv,rfl⟩|⟨hv,rfl⟩|⟨hv,rfl⟩
 .obtain⟨s1,s2,_⟩:=h.r1 _ _ hv.1;exact⟨.inl s1,.inl s2,.inr rfl⟩
 .obtain⟨s1,s2,_⟩:=h.r1 _ _ hv.1;exact⟨.inl s2,.inr rfl,.inl s1⟩
 .obtain⟨s1,s2,_⟩:=h.r1 _ _ hv.1;exact⟨.inr rfl,.inl s1,.inl s2⟩
theorem Adds.old{i j k:Int}(hk:ap i j=some k):S i/\S j/\S k:=⟨h.used _ _ _ hk,h.used _ _ _ (h.tri.rot _ _ _ hk),h.used _ _ _ (h.tri.rot2 hk)⟩
variable (hA:∀i j k,ap' i j=some k↔ap i j=some k\/New P R p i j k)
include hA
theorem Adds.nbrs{s m:Int}(hm:ap' s m≠none\/ap' m s≠none):(S s/\S m/\((ap s m≠none\/ap m s≠none)\/∀i j,ap i j=none))\/(m=p/\S s/\((∃y,Vis P R p s y)\/∃x,Vis P R p x s))\/(s=p/\S m/\((∃y,Vis P R p m y)\/∃x,Vis P R p x m)):=by
 have key:∀a b,ap' a b≠none->(S a/\S b/\((ap a b≠none\/ap b a≠none)\/∀i j,ap i j=none))\/(b=p/\S a/\((∃y,Vis P R p a y)\/∃x,Vis P R p x a))\/(a=p/\S b/\((∃y,Vis P R p b y)\/∃x,Vis P R p x b)):=by
  intro a b hab;obtain⟨c,hc⟩:=Option.ne_none_iff_exists'.1 hab;rcases (hA a b c).1 hc with g|⟨hv,rfl⟩|⟨hv,rfl⟩|⟨hv,rfl⟩
  .exact .inl ⟨(h.old g).1,(h.old g).2.1,.inl (.inl (by rw[g];simp))⟩
  .obtain⟨s1,s2,_⟩:=h.r1 _ _ hv.1;rcases h.r5 _ _ hv with g|⟨g,_⟩
   .exact .inl ⟨s1,s2,.inl (.inr g)⟩
   .exact .inl ⟨s1,s2,.inr g⟩
  .exact .inr (.inl ⟨rfl,(h.r1 _ _ hv.1).2.1,.inr ⟨_,hv⟩⟩)
  .exact .inr (.inr ⟨rfl,(h.r1 _ _ hv.1).1,.inl ⟨_,hv⟩⟩)
 rcases hm with hm|hm
 .exact key s m hm
 .rcases key m s hm with⟨g1,g2,g3|g3⟩|⟨g1,g2,g3⟩|⟨g1,g2,g3⟩
  .exact .inl ⟨g2,g1,.inl g3.symm⟩
  .exact .inl ⟨g2,g1,.inr g3⟩
  .exact .inr (.inr ⟨g1,g2,g3⟩)
  .exact .inr (.inl ⟨g1,g2,g3⟩)
theorem Adds.tri':Tri P V ap':=by
 have rot':∀i j k,ap' i j=some k->ap' j k=some i:=fun i j k hk=>by
  rcases (hA i j k).1 hk with g|g
  .exact (hA _ _ _).2 (.inl (h.tri.rot _ _ _ g))
  .exact (hA _ _ _).2 (.inr g.rot)
 have e1:∀x y:Int,crs (P y) (P p) (P x)=crs (P x) (P y) (P p):=fun x y=>Bu _ _ _
 have e2:∀x y:Int,crs (P p) (P x) (P y)=crs (P x) (P y) (P p):=fun x y=>by rw[<-Bu,<-Bu]
 refine⟨rot',fun i j k hk=>?_,fun i j k hk d hd n1 n2 n3=>?_,fun s a b m hs hm=>?_⟩
 .rcases (hA i j k).1 hk with g|⟨hv,rfl⟩|⟨hv,rfl⟩|⟨hv,rfl⟩
  .exact h.tri.ccw _ _ _ g
  .obtain⟨s1,s2,_⟩:=h.r1 _ _ hv.1;exact⟨h.sv _ s1,h.sv _ s2,h.vp,hv.2⟩
  .obtain⟨s1,s2,_⟩:=h.r1 _ _ hv.1;exact⟨h.sv _ s2,h.vp,h.sv _ s1,by rw[e1];exact hv.2⟩
  .obtain⟨s1,s2,_⟩:=h.r1 _ _ hv.1;exact⟨h.vp,h.sv _ s1,h.sv _ s2,by rw[e2];exact hv.2⟩
 .rcases (hA i j k).1 hk with g|⟨hv,rfl⟩|⟨hv,rfl⟩|⟨hv,rfl⟩
  .exact h.tri.emp _ _ _ g d hd n1 n2 n3
  .exact h.emp hv d hd n1 n2 n3
  .rcases h.emp hv d hd n3 n1 n2 with g|g|g <;> simp[g]
  .rcases h.emp hv d hd n2 n3 n1 with g|g|g <;> simp[g]
 .rintro⟨g1,g2⟩;have hn:=h.nbrs hA hm;rcases (hA s a b).1 hs with g|⟨hv,rfl⟩|⟨hv,rfl⟩|⟨hv,rfl⟩
  ·-- an old triangle
   obtain⟨ss,sa,sb⟩:=h.old g;obtain⟨_,_,_,cab⟩:=h.tri.ccw _ _ _ g;rcases hn with⟨_,_,hn|hn⟩|⟨rfl,_,hn⟩|⟨rfl,_,_⟩
   .exact h.tri.cone s a b m g hn ⟨g1,g2⟩
   .rw[hn] at g;cases g
   .rcases hn with⟨y,hv⟩|⟨x,hv⟩
    .obtain⟨_,_,_,f⟩:=h.r1 _ _ hv.1;have h1:=f a sa;have h2:=f b sb;have h3:=hv.2;have hp:=Xk (P s) (P a) (P b) (P y) (P m);rw[Bv (P s) (P m) (P b),Bv (P s) (P y) (P a),Bv (P s) (P y) (P b)] at hp;have t1:=Int.mul_pos cab h3;have t2:=Int.mul_nonneg (oo:0<=-crs (P s) (P y) (P a)) (Int.le_of_lt g2);have t3:=Int.mul_nonneg (Int.le_of_lt g1) (oo:0<=-crs (P s) (P y) (P b));rw[Int.mul_neg] at hp;omega
    .obtain⟨_,_,_,f⟩:=h.r1 _ _ hv.1;have h1:=f a sa;have h2:=f b sb;have h3:=hv.2;have q:∀d,crs (P x) (P s) (P d)=crs (P s) (P d) (P x):=fun d=>(Bu _ _ _).symm
     rw[q] at h1 h2 h3;have hp:=Xk (P s) (P a) (P b) (P m) (P x);rw[Bv (P s) (P m) (P b)] at hp;have t1:=Int.mul_pos cab h3;have t2:=Int.mul_nonneg (Int.le_of_lt g1) (oo:0<=-crs (P s) (P b) (P x));have t3:=Int.mul_nonneg (oo:0<=-crs (P s) (P a) (P x)) (Int.le_of_lt g2);have t4:crs (P s) (P a) (P x) * -crs (P s) (P m) (P b) = -crs (P s) (P a) (P x)*crs (P s) (P m) (P b):=by grind
     have t5:crs (P s) (P a) (P m) * -crs (P s) (P b) (P x) = -(crs (P s) (P a) (P m)*crs (P s) (P b) (P x)):=Int.mul_neg _ _;omega
   .exact h.np ss
  ·-- at x,from y to the new place
   obtain⟨s1,s2,_,f⟩:=h.r1 _ _ hv.1;rcases hn with⟨_,sm,_⟩|⟨rfl,_,_⟩|⟨rfl,_,_⟩
   .have:=f m sm;omega
   .rw[Ce] at g2;omega
   .exact h.np s1
  ·-- at y,from the new place to x
   obtain⟨s1,s2,_,f⟩:=h.r1 _ _ hv.1;rcases hn with⟨_,sm,_⟩|⟨rfl,_,_⟩|⟨rfl,_,_⟩
   .have:=f m sm;rw[Bu] at g2;omega
   .rw[Ce] at g1;omega
   .exact h.np s2
  ·-- at the new place
   obtain⟨s1,s2,_,f⟩:=h.r1 _ _ hv.1;rcases hn with⟨ss,_,_⟩|⟨rfl,ss,_⟩|⟨_,sm,hn⟩
   .exact h.np ss
   .exact h.np ss
   ·obtain⟨u,w,hu,hm0⟩:∃ u w:Int,Vis P R s u w/\crs (P u) (P w) (P m)=0:=by
     rcases hn with⟨y,hy⟩|⟨x,hx⟩
     .exact⟨m,y,hy,Hd _ _⟩
     .exact⟨x,m,hx,Ce _ _⟩
    obtain⟨_,_,_,fu⟩:=h.r1 _ _ hu.1;have q1:=fu a s1;have q2:=fu b s2;have q3:=hu.2;have q4:=f m sm;have hi:=Am4 (P s) (P a) (P b) (P u) (P w) (P m);rw[hm0,Int.mul_zero] at hi;have r1:crs (P b) (P s) (P m)=crs (P s) (P m) (P b):=by rw[<-Bu]
    rw[r1] at hi;have t1:=Int.mul_nonneg (oo:0<=-crs (P a) (P b) (P m)) (Int.le_of_lt q3);have t2:=Int.mul_nonneg (Int.le_of_lt g2) (oo:0<=-crs (P u) (P w) (P a));have t3:=Int.mul_nonneg (Int.le_of_lt g1) (oo:0<=-crs (P u) (P w) (P b));rw[Int.neg_mul] at t1;rw[Int.mul_neg] at t2 t3;have z:crs (P a) (P b) (P m)*crs (P u) (P w) (P s)=0:=oo;have z2:crs (P a) (P b) (P m)=0:=by
     rcases Int.mul_eq_zero.1 z with g|g
     .exact g
     .omega
    have hne:m≠a/\m≠b:=by
     refine⟨fun e=>?_,fun e=>?_⟩
     .subst e;rw[Ce] at g1;omega
     .subst e;rw[Ce] at g2;omega
    rcases h.r2 a b hv m sm hne.1 hne.2 z2 with g|g
    .rw[r1] at g;omega
    .omega
theorem Adds.cov'(hc:Cov P S ap):Cov P (fun i=>S i\/i=p) ap':=by
 intro i j k hk hn d hd;have hn':ap j i=none/\∀x,¬New P R p j i x:=by
  refine⟨?_,fun x hx=>?_⟩
  .rcases e:ap j i with _|x
   .rfl
   .rw[(hA j i x).2 (.inl e)] at hn;cases hn
  .rw[(hA j i x).2 (.inr hx)] at hn;cases hn
 rcases (hA i j k).1 hk with g|⟨hv,rfl⟩|⟨hv,rfl⟩|⟨hv,rfl⟩
 .rcases hd with hd|rfl
  .exact hc _ _ _ g hn'.1 d hd
  .have hr:=h.r6 _ _ _ g hn'.1;have:¬0<crs (P j) (P i) (P d):=fun hp=>hn'.2 d (.inl ⟨⟨hr,hp⟩,rfl⟩)
   rw[Ch] at this;omega
 .rcases hd with hd|rfl
  .rcases h.r5 _ _ hv with q|⟨_,q⟩
   .exact absurd hn'.1 q
   .exact q d hd
  .exact Int.le_of_lt hv.2
 .rcases hd with hd|rfl
  .rcases (h.r3 _ _ hv).1 with⟨z,hz⟩|q
   .exact absurd (.inr (.inr ⟨hz,rfl⟩)) (hn'.2 z)
   .exact q d hd
  .rw[Ce];exact Int.le_refl _
 .rcases hd with hd|rfl
  .rcases (h.r3 _ _ hv).2 with⟨z,hz⟩|q
   .exact absurd (.inr (.inl ⟨hz,rfl⟩)) (hn'.2 z)
   .exact q d hd
  .rw[Hd];exact Int.le_refl _
theorem Adds.used':∀i j k,ap' i j=some k->S i\/i=p:=by
 intro i j k hk;rcases (hA i j k).1 hk with g|g
 .exact .inl (h.used _ _ _ g)
 .exact (h.news g).1
end
end
section
theorem Bn{α:Type}[DecidableEq α]:∀{l m:List α},l.Nodup->(∀x∈l,x∈m)->l.length<=m.length
 |[],_,_,_=>Nat.zero_le _
 |x::r,m,hd,hs=>by
  rw[nodup_cons] at hd;have hx:=hs x mS;have:=Bn (l:=r) (m:=m.erase x) hd.2 fun y hy=>(mem_erase_of_ne (fun e=>hd.1 (by rw[<-e];exact hy))).2 (hs y (mO _ hy))
  rw[length_erase_of_mem hx] at this;have:0<m.length:=length_pos_of_mem hx;simp only[length_cons];omega
theorem Zj{n:Nat}:(inds n).Nodup:=by
 unfold inds List.Nodup;rw[pairwise_map];exact nodup_range.imp fun h e=>h oo
variable {P:Int->Ab}{S:Int->Prop}{ap:Ap}{p:Int}{n:Nat}
def Rim(ap:Ap)(x y:Int):Prop:=(∃k,ap y x=some k)/\ap x y=none
def outs(ap:Ap)(n:Nat)(s:Int):LI:=(inds n).filter fun m=>(ap s m).isSome
def ins(ap:Ap)(n:Nat)(s:Int):LI:=(inds n).filter fun m=>(ap m s).isSome
theorem Zk{V:Int->Prop}(h:Tri P V ap)(hV:∀i,V i↔inN n i){s m:Int}:m∈outs ap n s↔∃k,ap s m=some k:=by
 unfold outs;rw[mem_filter,Xl,Option.isSome_iff_exists];exact⟨fun h=>h.2,fun ⟨k,hk⟩=>⟨(hV _).1 (h.ccw _ _ _ hk).2.1,k,hk⟩⟩
theorem Abx{V:Int->Prop}(h:Tri P V ap)(hV:∀i,V i↔inN n i){s m:Int}:m∈ins ap n s↔∃k,ap m s=some k:=by
 unfold ins;rw[mem_filter,Xl,Option.isSome_iff_exists];exact⟨fun h=>h.2,fun ⟨k,hk⟩=>⟨(hV _).1 (h.ccw _ _ _ hk).1,k,hk⟩⟩
theorem Aby{α β:Type}{f:α->β}:∀{l:List α},(∀x∈l,∀y∈l,f x=f y->x=y)->l.Nodup->(l.map f).Nodup
 |[],_,_=>List.Pairwise.nil
 |a::r,hf,hd=>by
  rw[nodup_cons] at hd;rw[map_cons,nodup_cons];refine⟨fun hm=>?_,Aby (fun x hx y hy=>hf x (mO _ hx) y (mO _ hy)) hd.2⟩;obtain⟨b,hb,e⟩:=mem_map.1 hm;exact hd.1 (by rw[<-hf b (mO _ hb) a mS e];exact hb)
theorem deg{V:Int->Prop}(h:Tri P V ap)(hV:∀i,V i↔inN n i)(s:Int):(ins ap n s).length=(outs ap n s).length:=by
 apply Nat.le_antisymm
 ·have h1:((ins ap n s).map fun m=>(ap m s).getD 0).Nodup:=Aby (fun x hx y hy e=>by
   obtain⟨k,hk⟩:=(Abx h hV).1 hx;obtain⟨k',hk'⟩:=(Abx h hV).1 hy;rw[hk,hk'] at e;simp only[Option.getD_some] at e;subst e;have e1:=h.rot _ _ _ hk;have e2:=h.rot _ _ _ hk';rw[e1] at e2;exact oI e2) (Zj.filter _)
  have:=Bn (m:=outs ap n s) h1 fun w hw=>by
   obtain⟨m,hm,rfl⟩:=mem_map.1 hw;obtain⟨k,hk⟩:=(Abx h hV).1 hm;rw[hk];exact (Zk h hV).2 ⟨m,h.rot _ _ _ hk⟩
  rw[length_map] at this;exact this
 ·have h1:((outs ap n s).map fun m=>(ap s m).getD 0).Nodup:=Aby (fun x hx y hy e=>by
   obtain⟨k,hk⟩:=(Zk h hV).1 hx;obtain⟨k',hk'⟩:=(Zk h hV).1 hy;rw[hk,hk'] at e;simp only[Option.getD_some] at e;subst e;have e1:=h.rot2 hk;have e2:=h.rot2 hk';rw[e1] at e2;exact oI e2) (Zj.filter _)
  have:=Bn (m:=ins ap n s) h1 fun w hw=>by
   obtain⟨m,hm,rfl⟩:=mem_map.1 hw;obtain⟨k,hk⟩:=(Zk h hV).1 hm;rw[hk];exact (Abx h hV).2 ⟨m,h.rot2 hk⟩
  rw[length_map] at this;exact this
theorem Azt{V:Int->Prop}(h:Tri P V ap)(hV:∀i,V i↔inN n i){x y:Int}(hr:Rim ap x y):∃z,Rim ap y z:=by
 obtain⟨⟨k,hk⟩,hn⟩:=hr;apply Classical.byContradiction;intro hno;have hd:=deg h hV y;have hx:x∈outs ap n y:=(Zk h hV).2 ⟨k,hk⟩;have:=Bn (l:=ins ap n y) (m:=(outs ap n y).erase x) (Zj.filter _) fun z hz=>by
  obtain⟨w,hw⟩:=(Abx h hV).1 hz;have hzx:z≠x:=fun e=>by subst e;rw[hw] at hn;cases hn
  rw[mem_erase_of_ne hzx,Zk h hV];rcases e:ap y z with _|u
  .exact absurd ⟨z,⟨w,hw⟩,e⟩ hno
  .exact⟨u,rfl⟩
 rw[length_erase_of_mem hx] at this;have:0<(outs ap n y).length:=length_pos_of_mem hx;omega
theorem Azu{V:Int->Prop}(h:Tri P V ap)(hV:∀i,V i↔inN n i){x y:Int}(hr:Rim ap x y):∃w,Rim ap w x:=by
 obtain⟨⟨k,hk⟩,hn⟩:=hr;apply Classical.byContradiction;intro hno;have hd:=deg h hV x;have hx:y∈ins ap n x:=(Abx h hV).2 ⟨k,hk⟩;have:=Bn (l:=outs ap n x) (m:=(ins ap n x).erase y) (Zj.filter _) fun z hz=>by
  obtain⟨w,hw⟩:=(Zk h hV).1 hz;have hzx:z≠y:=fun e=>by subst e;rw[hw] at hn;cases hn
  rw[mem_erase_of_ne hzx,Abx h hV];rcases e:ap z x with _|u
  .exact absurd ⟨z,⟨w,hw⟩,e⟩ hno
  .exact⟨u,rfl⟩
 rw[length_erase_of_mem hx] at this;have:0<(ins ap n x).length:=length_pos_of_mem hx;omega
theorem Bcq{x y z q d k k':Ab}(h1:crs x y d<=0)(h2:crs y z d<=0)(h3:0<crs x y q)(h4:crs y z q<=0)(h5:crs x y z<=0)(h6:crs x y k<0)(h7:crs y z k<=0)(h8:crs y z k'<0):0<=crs y q d:=by
 have r:∀u,crs x y u=crs y u x:=fun u=>(Bu _ _ _).symm
 rw[r] at h1 h3 h5 h6;have hp:=Xk y q d x z;rw[Bv y z q,Bv y z d,Bv y z x] at hp
 by_cases c:crs y z x=0
 .exfalso;have p1:=Xk y x z q k;rw[Bv y z x,Bv y q x,Bv y k x,c] at p1;have t1:=Int.mul_nonneg (oo:0<=-crs y k x) (oo:0<=-crs y z q);have t2:=Int.mul_nonneg (Int.le_of_lt h3) (oo:0<=-crs y z k);have e1:-crs y k x*crs y z q = -(-crs y k x * -crs y z q):=by grind
  have e2:-crs y q x*crs y z k=crs y q x * -crs y z k:=by grind
  have z1:crs y q x * -crs y z k=0:=oo;have z2:crs y z k=0:=by
   rcases Int.mul_eq_zero.1 z1 with g|g <;> omega
  have p2:=Xk y z k' x k;rw[c,z2,Bv y k x] at p2;have t3:=Int.mul_pos_of_neg_of_neg h8 h6;have e3:crs y z k' * -crs y k x = -(crs y z k'*crs y k x):=Int.mul_neg _ _;omega
 ·have c':0 < -crs y z x:=by
   have:crs y z x<=0:=h5;omega
  have t1:=Int.mul_nonneg (Int.le_of_lt h3) (oo:0<=-crs y z d);have t2:=Int.mul_nonneg (oo:0<=-crs y z q) (oo:0<=-crs y d x);have e2:-crs y z q * -crs y d x = -(-crs y z q*crs y d x):=by grind
  exact Yg (x:=-crs y z x) (by rw[Int.mul_comm];omega) c'
theorem Azv{x y w q d k k':Ab}(h1:crs x y d<=0)(h2:crs w x d<=0)(h3:0<crs x y q)(h4:crs w x q<=0)(h5:crs x y w<=0)(h6:crs x y k<0)(h7:crs w x k<=0)(h8:crs w x k'<0):0<=crs q x d:=by
 have r:∀u,crs w x u=crs x u w:=fun u=>(Bu _ _ _).symm
 rw[r] at h2 h4 h7 h8;rw[show crs q x d = -crs x q d from Ch _ _ _];have hp:=Xk x q d y w;rw[Bv x y q,Bv x y d] at hp
 by_cases c:crs x y w=0
 .exfalso;have p1:=Xk x y w q k;rw[c,Bv x q w,Bv x k w] at p1;have t1:=Int.mul_nonneg (Int.le_of_lt h3) (oo:0<=-crs x k w);have t2:=Int.mul_nonneg (oo:0<=-crs x y k) (oo:0<=-crs x q w);have e2:crs x y k * -crs x q w = -(-crs x y k * -crs x q w):=by grind
  have z1:crs x y q * -crs x k w=0:=oo;have z2:crs x k w=0:=by
   rcases Int.mul_eq_zero.1 z1 with g|g <;> omega
  have p2:=Xk x y w k k';rw[c,Bv x k w,Bv x k' w,z2] at p2;have t3:=Int.mul_pos_of_neg_of_neg h6 h8;have e3:crs x y k * -crs x k' w = -(crs x y k*crs x k' w):=Int.mul_neg _ _;omega
 .have c':0 < -crs x y w:=oo;have t1:=Int.mul_nonneg (Int.le_of_lt h3) (oo:0<=-crs x d w);have t2:=Int.mul_nonneg (oo:0<=-crs x y d) (oo:0<=-crs x q w);have e2:-crs x y d * -crs x q w = -(crs x q w * -crs x y d):=by grind
  have e3:-crs x y q*crs x d w=crs x y q * -crs x d w:=by grind
  refine Yg (x:=-crs x y w) ?_ c';have e4:-crs x y w * -crs x q d=crs x q d*crs x y w:=by grind
  rw[e4];omega
theorem Azw(h:Tri P (inN n) ap)(hc:Cov P S ap)(used:∀i j k,ap i j=some k->S i)(sv:∀i,S i->inN n i)(vp:inN n p)(np:¬S p)(before:∀i,S i->befP (P i) (P p))(behind:∀i,inN n i->¬S i->i≠p->befP (P p) (P i)):Adds P (inN n) S ap (Rim ap) p:=by
 have old:∀{i j k},ap i j=some k->S i/\S j/\S k:=fun hk=>⟨used _ _ _ hk,used _ _ _ (h.rot _ _ _ hk),used _ _ _ (h.rot2 hk)⟩
 have r1:∀x y,Rim ap x y->S x/\S y/\x≠y/\∀d,S d->crs (P x) (P y) (P d)<=0:=by
  rintro x y ⟨⟨k,hk⟩,hn⟩;refine⟨(old hk).2.1,(old hk).1,(h.ne hk).1.symm,fun d hd=>?_⟩;have:=hc _ _ _ hk hn d hd;rw[Ch] at this;omega
 have far:∀x y,Rim ap x y->∃k,S k/\crs (P x) (P y) (P k)<0:=by
  rintro x y ⟨⟨k,hk⟩,hn⟩;refine⟨k,(old hk).2.2,?_⟩;have:=(h.ccw _ _ _ hk).2.2.2;rw[Ch] at this;omega
 refine⟨h,used,sv,vp,np,before,behind,r1,?_,?_,fun x y hr=>hr.2,?_,fun i j k hk hn=>⟨⟨k,hk⟩,hn⟩⟩
 .rintro x y ⟨⟨⟨k,hk⟩,hn⟩,hp⟩ d hd n1 n2 z;have ck:=(h.ccw _ _ _ hk).2.2.2;have nk:d≠k:=fun e=>by subst e;rw[Ch,z] at ck;omega
  have q1:=Xk (P x) (P k) (P d) (P y) (P p);have e1:crs (P x) (P d) (P y)=0:=by rw[Bv,z];rfl
  have e2:crs (P x) (P k) (P y)=crs (P y) (P x) (P k):=Bu _ _ _;have e3:crs (P x) (P d) (P p)=crs (P p) (P x) (P d):=Bu _ _ _;rw[e1,e2,e3,Int.mul_zero] at q1;have q2:=Xk (P y) (P d) (P k) (P x) (P p);have f1:crs (P y) (P d) (P x)=0:=by rw[Bu,z]
  have f2:crs (P y) (P k) (P x) = -crs (P y) (P x) (P k):=Bv _ _ _;have f3:crs (P y) (P x) (P p) = -crs (P x) (P y) (P p):=Ch _ _ _;have f4:crs (P y) (P d) (P p) = -crs (P y) (P p) (P d):=Bv _ _ _;have f5:crs (P y) (P d) (P k)=crs (P k) (P y) (P d):=Bu _ _ _;rw[f1,f2,f3,f4,f5,Int.zero_mul] at q2;rcases h.emp _ _ _ hk d (sv d hd) n2 n1 nk with g|g|g
  .rw[Ch,z] at g;omega
  .right;rcases Int.lt_or_le (crs (P p) (P x) (P d)) 0 with c|c
   .exact c
   .have t1:=Int.mul_neg_of_neg_of_pos g hp;have t2:=Int.mul_nonneg (Int.le_of_lt ck) c;omega
  .left;rcases Int.lt_or_le (crs (P y) (P p) (P d)) 0 with c|c
   .exact c
   .have t1:=Int.mul_neg_of_neg_of_pos g hp;have t2:=Int.mul_nonneg c (Int.le_of_lt ck);have e4:crs (P k) (P y) (P d) * -crs (P x) (P y) (P p) = -(crs (P k) (P y) (P d)*crs (P x) (P y) (P p)):=Int.mul_neg _ _;have e5:-crs (P y) (P p) (P d) * -crs (P y) (P x) (P k)=crs (P y) (P p) (P d)*crs (P y) (P x) (P k):=Int.neg_mul_neg _ _;omega
 .rintro x y ⟨hr,hp⟩;obtain⟨s1,s2,_,f⟩:=r1 x y hr;obtain⟨k,sk,hk⟩:=far x y hr;constructor
  .obtain⟨z,hz⟩:=Azt h (fun _=>Iff.rfl) hr;obtain⟨_,sz,_,fz⟩:=r1 y z hz;obtain⟨k',sk',hk'⟩:=far y z hz
   by_cases c:0<crs (P y) (P z) (P p)
   .exact .inl ⟨z,hz,c⟩
   .exact .inr fun d hd=>Bcq (f d hd) (fz d hd) hp oo (f z sz) hk (fz k sk) hk'
  .obtain⟨w,hw⟩:=Azu h (fun _=>Iff.rfl) hr;obtain⟨sw,_,_,fw⟩:=r1 w x hw;obtain⟨k',sk',hk'⟩:=far w x hw
   by_cases c:0<crs (P w) (P x) (P p)
   .exact .inl ⟨w,hw,c⟩
   .exact .inr fun d hd=>Azv (f d hd) (fw d hd) hp oo (f w sw) hk (fw k sk) hk'
 .rintro x y ⟨⟨⟨k,hk⟩,hn⟩,hp⟩;exact .inl (by rw[hk];simp)
end
section
variable {P:Int->Ab}{S:Int->Prop}{ap:Ap}{p:Int}{n:Nat}
theorem Av4{V:Int->Prop}(h:∀i j,ap i j=none):Tri P V ap :=
 ⟨fun i j k hk=>(by rw[h] at hk;cases hk),fun i j k hk=>(by rw[h] at hk;cases hk),fun i j k hk=>(by rw[h] at hk;cases hk),fun s a b m hk=>(by rw[h] at hk;cases hk)⟩
def Apn(u:Nat->Int)(m:Nat)(x y:Int):Prop:=∃i,i+1<m/\x=u i/\y=u (i+1)
theorem Aj5{u:Nat->Int}{m:Nat}(he:∀i j,ap i j=none)(hS:∀i,S i↔∃k,k<m/\i=u k)(col:∀a b c,S a->S b->S c->crs (P a) (P b) (P c)=0)(inc:∀i,i+1<m->0<crs (P (u i)) (P (u (i+1))) (P p))(sv:∀i,S i->inN n i)(vp:inN n p)(np:¬S p)(before:∀i,S i->befP (P i) (P p))(behind:∀i,inN n i->¬S i->i≠p->befP (P p) (P i)):Adds P (inN n) S ap (Apn u m) p:=by
 have su:∀k,k<m->S (u k):=fun k hk=>(hS _).2 ⟨k,hk,rfl⟩
 have hg:∀a b,S a->S b->0<m->crs (P a) (P b) (P p)=crs (P (u 0)) (P b) (P p)-crs (P (u 0)) (P a) (P p):=fun a b ha hb hm=>by
  have e:=Aa4 (P (u 0)) (P a) (P b) (P p);rw[col _ _ _ (su 0 hm) ha hb] at e;have e2:crs (P b) (P (u 0)) (P p) = -crs (P (u 0)) (P b) (P p):=Ch _ _ _;omega
 have mono:∀i j,i<j->j<m->crs (P (u 0)) (P (u i)) (P p)<crs (P (u 0)) (P (u j)) (P p):=by
  intro i j hij
  induction j with
  |zero=>omega
  |succ j ih=>
   intro hj;have h1:=inc j hj;rw[hg _ _ (su j oo) (su (j+1) hj) oo] at h1
   by_cases e:i=j
   .subst e;omega
   .have:=ih oo oo;omega
 refine⟨Av4 he,fun i j k hk=>(by rw[he] at hk;cases hk),sv,vp,np,before,behind,?_,?_,?_,fun x y _=>he x y,?_,fun i j k hk=>(by rw[he] at hk;cases hk)⟩
 .rintro x y ⟨i,hi,rfl,rfl⟩;refine⟨su i oo,su (i+1) hi,?_,fun d hd=>by rw[col _ _ _ (su i oo) (su (i+1) hi) hd];exact Int.le_refl _⟩;exact (Abq (P:=P) (c:=p) (by have:=inc i hi;omega)).1
 .rintro x y ⟨⟨i,hi,rfl,rfl⟩,hp⟩ d hd n1 n2 _;obtain⟨j,hj,rfl⟩:=(hS d).1 hd;have e1:crs (P (u (i+1))) (P p) (P (u j))=crs (P (u j)) (P (u (i+1))) (P p):=Bu _ _ _;have e2:crs (P p) (P (u i)) (P (u j))=crs (P (u i)) (P (u j)) (P p):=by rw[<-Bu,<-Bu]
  rw[e1,e2,hg _ _ hd (su (i+1) hi) oo,hg _ _ (su i oo) hd oo];have nij:j≠i:=fun e=>n1 (by rw[e])
  have nij':j≠i+1:=fun e=>n2 (by rw[e])
  rcases Nat.lt_or_ge j i with c|c
  .have:=mono j i c oo;right;omega
  .have:=mono (i+1) j oo hj;left;omega
 .rintro x y ⟨⟨i,hi,rfl,rfl⟩,hp⟩;constructor
  .by_cases c:i+2<m
   .exact .inl ⟨u (i+2),⟨i+1,c,rfl,rfl⟩,inc (i+1) c⟩
   .right;intro d hd;obtain⟨j,hj,rfl⟩:=(hS d).1 hd;have e1:crs (P (u (i+1))) (P p) (P (u j))=crs (P (u j)) (P (u (i+1))) (P p):=Bu _ _ _;rw[e1,hg _ _ hd (su (i+1) hi) oo]
    by_cases e:j=i+1
    .subst e;omega
    .have:=mono j (i+1) oo hi;omega
  .by_cases c:0<i
   .left;obtain⟨i',rfl⟩:∃i',i=i'+1:=⟨i-1,oo⟩;exact⟨u i',⟨i',oo,rfl,rfl⟩,inc i' oo⟩
   .right;intro d hd;obtain⟨j,hj,rfl⟩:=(hS d).1 hd;have e2:crs (P p) (P (u i)) (P (u j))=crs (P (u i)) (P (u j)) (P p):=by rw[<-Bu,<-Bu]
    rw[e2,hg _ _ (su i oo) hd oo]
    by_cases e:j=i
    .subst e;omega
    .have:=mono i j oo hj;omega
 .rintro x y ⟨⟨i,hi,rfl,rfl⟩,hp⟩;exact .inr ⟨he,fun d hd=>by rw[col _ _ _ (su i oo) (su (i+1) hi) hd];exact Int.le_refl _⟩
theorem Av5{a b c q:Ab}(h1:befP a b)(h2:befP b c)(h0:crs a b c=0)(hq:0<crs a b q):0<crs b c q:=by
 have e1:crs b c q*(b.X-a.X)=crs a b q*(c.X-b.X)-(q.X-b.X)*crs a b c:=by unfold crs;grind
 have e2:crs b c q*(b.Y-a.Y)=crs a b q*(c.Y-b.Y)-(q.Y-b.Y)*crs a b c:=by unfold crs;grind
 have e3:(b.X-a.X)*(c.Y-b.Y)-(b.Y-a.Y)*(c.X-b.X)=crs a b c:=by unfold crs;grind
 rw[h0,Int.mul_zero,Int.sub_zero] at e1 e2;rw[h0] at e3
 by_cases g:a.X<b.X
 ·-- then c lies further to the right
  have hc:b.X<c.X:=by
   rcases Int.lt_or_le b.X c.X with k|k
   .exact k
   .have hx:c.X=b.X:=by unfold befP at h2;omega
    have hy:b.Y<c.Y:=by unfold befP at h2;omega
    have z:c.X-b.X=0:=oo;rw[z,Int.mul_zero] at e3;have:=Int.mul_pos (oo:0<b.X-a.X) (oo:0<c.Y-b.Y);omega
  have:=Int.mul_pos hq (oo:0<c.X-b.X);exact Vl (x:=b.X-a.X) (by rw[Int.mul_comm];omega) oo
 .have hx:a.X=b.X:=by unfold befP at h1;omega
  have hy:a.Y<b.Y:=by unfold befP at h1;omega
  have hc:b.X=c.X:=by
   have z:b.X-a.X=0:=oo;rw[z,Int.zero_mul] at e3;have:(b.Y-a.Y)*(c.X-b.X)=0:=oo;rcases Int.mul_eq_zero.1 this with k|k <;> omega
  have hy2:b.Y<c.Y:=by unfold befP at h2;omega
  have:=Int.mul_pos hq (oo:0<c.Y-b.Y);exact Vl (x:=b.Y-a.Y) (by rw[Int.mul_comm];omega) oo
theorem Afw{a b u w z:Ab}(hab:¬Co a b)(h1:crs a b u=0)(h2:crs a b w=0)(h3:crs a b z=0):crs u w z=0:=by
 have e1:(b.X-a.X)*crs u w z=(w.X-u.X)*(crs a b z-crs a b u)-(z.X-u.X)*(crs a b w-crs a b u):=by unfold crs;grind
 have e2:(b.Y-a.Y)*crs u w z=(w.Y-u.Y)*(crs a b z-crs a b u)-(z.Y-u.Y)*(crs a b w-crs a b u):=by unfold crs;grind
 rw[h1,h2,h3] at e1 e2;simp only[Int.sub_self,Int.mul_zero] at e1 e2;rcases Int.mul_eq_zero.1 e1 with g|g
 .rcases Int.mul_eq_zero.1 e2 with g'|g'
  .exact absurd ⟨oo,oo⟩ hab
  .exact g'
 .exact g
end
section
open Go.Shelf Go.Sort
theorem Db{α:Type}(cf:α->α->Int)(l:List α):(Bf cf l).Perm l:=mergeSort_perm _ _
theorem Pf{α:Type}{p:α->Prop}{cf:α->α->Int}(hT:Aa0 p cf){l:List α}(hp:∀x∈l,p x):(Bf cf l).Pairwise fun x y=>¬cf y x<0:=by
 obtain⟨l',rfl⟩:∃l':List {x // p x},l=l'.map Subtype.val:=⟨l.attach.map fun x=>⟨x.1,hp x.1 x.2⟩,by simp only[map_map,Function.comp_def];exact (attach_map_subtype_val _).symm⟩;rw[Aej,pairwise_map];have:=pairwise_mergeSort (le:=fun x y:{x // p x}=>!(ltOf fun x y:{x // p x}=>cf x.1 y.1) y x)
  (fun a b c h1 h2=>by
   simp only[Bool.not_eq_true',Xj] at *;intro h3
   by_cases h4:cf b.1 a.1<0
   .exact h1 h4
   .by_cases h5:cf c.1 b.1<0
    .exact h2 h5
    .by_cases h6:cf a.1 b.1<0
     .exact h2 (hT.trans _ _ _ c.2 a.2 b.2 h3 h6)
     .have:=hT.tot _ _ a.2 b.2 h6 h4;rw[this] at h3;exact h2 h3)
  (fun a b=>by
   by_cases h1:cf b.1 a.1<0
   .have:¬cf a.1 b.1<0:=fun h2=>hT.irr _ a.2 (hT.trans _ _ _ a.2 b.2 a.2 h2 h1)
    rw[Bool.or_eq_true];right;rw[Bool.not_eq_true'];exact Xj.2 this
   .rw[Bool.or_eq_true];left;rw[Bool.not_eq_true'];exact Xj.2 h1) l'
 exact this.imp fun h=>by simpa[Xj] using h
theorem Adl{α:Type}{p:α->Prop}{cf:α->α->Int}(hT:Aa0 p cf){l l':List α}(hp:∀x∈l,p x)(hl:l.Pairwise fun x y=>¬cf y x<0)(hl':l'.Pairwise fun x y=>¬cf y x<0)(h:l.Perm l'):l=l' :=
 List.Perm.eq_of_pairwise (fun a b ha hb h1 h2=>hT.tot a b (hp a ha) (hp b (h.mem_iff.2 hb)) h2 h1) hl hl' h
theorem Qt{α:Type}{p:α->Prop}{cf:α->α->Int}(hT:Aa0 p cf){l l':List α}(hp:∀x∈l,p x)(h:l.Perm l'):Bf cf l=Bf cf l':=by
 have hp':∀x∈l',p x:=fun x hx=>hp x (h.mem_iff.2 hx)
 refine Adl hT (fun x hx=>hp x ((Db cf l).mem_iff.1 hx)) (Pf hT hp) (Pf hT hp') (((Db cf l).trans h).trans (Db cf l').symm)
theorem Gs{α:Type}{cf:α->α->Int}{l:List α}{x:α}:x∈Bf cf l↔x∈l:=(Db cf l).mem_iff
theorem Agu{κ υ:Type}{m:List (κ×υ)}(hm:Cx m){q:κ×υ}(hq:q∈m):m.Perm (q::mdel m q.1):=by
 induction m with
 |nil=>cases hq
 |cons a r ih=>
  obtain⟨h1,h2⟩:=pairwise_cons.1 hm;unfold mdel;rcases mem_cons.1 hq with rfl|hq
  .rw[filter_cons_of_neg s_,filter_eq_self.2 (fun p hp=>by simp only[dQ];exact fun e=>h1 p hp e.symm)]
  .rw[filter_cons_of_pos (by simp only[dQ];exact h1 q hq)];exact ((ih h2 hq).cons a).trans (List.Perm.swap _ _ _)
theorem Agv{κ υ β ρ:Type}{BN:List β->Option (Sum (List β) (List β))}{BS:List β->κ×υ->Option (Sum (List β) (List β))}{m:List (κ×υ)}(hm:Cx m)(f:κ×υ->List β)(hf:∀q,(f q).length<=1)(hN:∀s,BN s=some (.inr s))(hS:∀s,∀q∈m,s.length<m.length->BS s q=some (.inl (s++f q))){k:List β->Option ρ}{r:ρ}(hk:∀l,l.Perm (m.flatMap f)->k l=some r):Ali BN BS m [] k=some r:=by
 have key:∀(n:Nat) (l:List (κ×υ)) (s:List β),l.length=n->Cx l->(∀q∈l,q∈m)->s.length+l.length<=m.length->(∀q:List (κ×υ),q.Perm l->k (s++q.flatMap f)=some r)->MR (mkN BN k) (mkS BS k) l s r:=by
  intro n
  induction n with
  |zero=>
   intro l s hn _ _ _ hk;have:l=[]:=eq_nil_of_length_eq_zero hn;subst this;refine .nil ?_;have:=hk [] (List.Perm.refl _);rw[flatMap_nil,append_nil] at this;unfold mkN;rw[hN];simp only[this]
  |succ n ih=>
   intro l s hn hl hs hlen hk;have hb:∀q∈l,mkS BS k s q=some (.inl (s++f q)):=fun q hq=>by
    unfold mkS mkN;simp only[hS s q (hs q hq) oo]
   refine .cons (fun e=>by subst e;simp at hn) (fun q hq=>by rw[hb q hq];rfl) (fun q hq t' e=>by rw[hb q hq] at e;cases e) (fun q hq s' e=>?_);rw[hb q hq] at e;cases e
   have hp:=Agu hl hq;have hlen2:=hp.length_eq;rw[length_cons] at hlen2;refine ih (mdel l q.1) (s++f q) oo (hl.del _) (fun x hx=>hs x (Mo.1 hx).1) (by rw[length_append];have:=hf q;omega) (fun w hw=>?_);rw[append_assoc,<-flatMap_cons];exact hk _ ((hw.cons q).trans hp.symm)
 refine As9 (key m.length m [] rfl hm (fun _ h=>h) s_ fun q hq=>?_);rw[nil_append];exact hk _ (List.Perm.flatMap_right f hq)
abbrev Mp:=List (Ad×Int)
structure MapN(n:Nat)(m:Mp):Prop where
 ok:Cx m
 key:∀q∈m,inN n q.1.a0/\inN n q.1.a1/\inN n q.2
theorem MapN.len{n:Nat}{m:Mp}(h:MapN n m):m.length<=n*n:=by
 have h1:(m.map fun q=>(q.1.a0.toNat*n+q.1.a1.toNat)).Nodup:=by
  unfold List.Nodup;rw[pairwise_map];refine List.Pairwise.imp_of_mem ?_ h.ok;intro a b ha hb hne e;obtain⟨⟨a1,a2⟩,⟨a3,a4⟩,_⟩:=h.key a ha;obtain⟨⟨b1,b2⟩,⟨b3,b4⟩,_⟩:=h.key b hb;have e1:a.1.a1.toNat=b.1.a1.toNat:=by
   have:=congrArg (· % n) e;simp only[Nat.mul_add_mod_self_right] at this
   rwa [Nat.mod_eq_of_lt oo,Nat.mod_eq_of_lt oo] at this
  have e2:a.1.a0.toNat=b.1.a0.toNat:=by
   rw[e1] at e;have e':a.1.a0.toNat*n=b.1.a0.toNat*n:=oo;exact Nat.eq_of_mul_eq_mul_right oo e'
  apply hne;obtain⟨⟨x,y⟩,c⟩:=a;obtain⟨⟨x',y'⟩,c'⟩:=b;simp only at *;rw[show x=x' by omega,show y=y' by omega]
 have:=Bn (m:=List.range (n*n)) h1 fun x hx=>by
  obtain⟨q,hq,rfl⟩:=mem_map.1 hx;obtain⟨⟨a1,a2⟩,⟨a3,a4⟩,_⟩:=h.key q hq;rw[mem_range];have h3:q.1.a0.toNat+1<=n:=oo;have:=Nat.mul_le_mul_right n h3;rw[Nat.add_mul] at this;omega
 rwa [length_map,length_range] at this
def rev2(k:Ad):Ad:=⟨k.a1,k.a0⟩
def rimF(m:Mp)(q:Ad×Int):List Ad:=if (mget m (rev2 q.1)).isSome=true then [] else [rev2 q.1]
def Zl(m:Mp)(q:Ad×Int):List Ad:=if q.1.a0<q.1.a1\/(mget m (rev2 q.1)).isSome=false then [⟨min q.1.a0 q.1.a1,max q.1.a0 q.1.a1⟩] else []
def triF(q:Ad×Int):List Ah:=if q.1.a0<q.1.a1/\q.1.a0<q.2 then [⟨q.1.a0,q.1.a1,q.2⟩] else []
theorem Av6{n:Nat}(hn:n<=1024){k:Ad}(h1:inN n k.a0)(h2:inN n k.a1):Ua k:=by
 unfold inN at h1 h2;exact⟨⟨oo,oo⟩,oo,oo⟩
theorem Wb{n:Nat}(hn:n<=1024){i j:Int}(h1:inN n i)(h2:inN n j):(-9223372036854775808<=i/\i<=9223372036854775807)/\-9223372036854775808<=j/\j<=9223372036854775807:=by
 unfold inN at h1 h2;exact⟨⟨oo,oo⟩,oo,oo⟩
theorem Ahr{n:Nat}(hn:n<=1024):n*n<=1048576:=Nat.mul_le_mul hn hn
theorem Qg{α β:Type}{f:α->List β}(hf:∀q,(f q).length<=1):∀l:List α,(l.flatMap f).length<=l.length
 |[]=>s_
 |a::r=>by
  rw[flatMap_cons,length_append,length_cons];have:=hf a;have:=Qg hf r;omega
theorem Bfp{n:Nat}(hn:n<=1024){b:An}(hm:MapN n b.apex):Lu b=some (b,Bf cmp2 (b.apex.flatMap (rimF b.apex))):=by
 have hl:=hm.len;have hsq:=Ahr hn;have hf:∀q,(rimF b.apex q).length<=1:=fun q=>by unfold rimF;split <;> simp
 have hsm:∀x∈b.apex.flatMap (rimF b.apex),Ua x:=fun x hx=>by
  obtain⟨q,hq,hx⟩:=mem_flatMap.1 hx;unfold rimF at hx;split at hx
  .cases hx
  .rw[mem_singleton] at hx;subst hx;exact Av6 hn (hm.key q hq).2.1 (hm.key q hq).1
 unfold Lu;rw[jn_d];refine Agv hm.ok (rimF b.apex) hf (fun s=>rfl) (fun s q hq hs=>?_) (fun l hp=>?_)
 .obtain⟨k1,k2,k3⟩:=hm.key q hq;unfold Ta;rw[gd_t (Wb hn k2 k1),Ac];unfold rimF rev2
  by_cases c:(mget b.apex (⟨q.1.a1,q.1.a0⟩:Ad)).isSome=true
  .rw[iP c,iP c,append_nil]
  .rw[iN c,iN c,gd_t oo]
 .have hlen:=hp.length_eq;have hfl:=Qg hf b.apex;dsimp only;rw[gd_t ⟨oo,fun x hx=>hsm x (hp.mem_iff.1 hx)⟩,Qt tot2 (fun x hx=>hsm x (hp.mem_iff.1 hx)) hp]
theorem Azx{n:Nat}(hn:n<=1024){b:An}(hm:MapN n b.apex):Ms b=some (b,Bf cmp2 (b.apex.flatMap (Zl b.apex))):=by
 have hl:=hm.len;have hsq:=Ahr hn;have hf:∀q,(Zl b.apex q).length<=1:=fun q=>by unfold Zl;split <;> simp
 have hsm:∀x∈b.apex.flatMap (Zl b.apex),Ua x:=fun x hx=>by
  obtain⟨q,hq,hx⟩:=mem_flatMap.1 hx;obtain⟨k1,k2,k3⟩:=hm.key q hq;unfold Zl at hx;split at hx
  .rw[mem_singleton] at hx;subst hx;unfold inN at k1 k2;exact⟨⟨by simp only;omega,by simp only;omega⟩,by simp only;omega,by simp only;omega⟩
  .cases hx
 unfold Ms;rw[jn_d];refine Agv hm.ok (Zl b.apex) hf (fun s=>rfl) (fun s q hq hs=>?_) (fun l hp=>?_)
 .obtain⟨k1,k2,k3⟩:=hm.key q hq;unfold Qv;rw[gd_t (Wb hn k2 k1),Ac,jn_d];unfold Zl rev2
  by_cases c:q.1.a0<q.1.a1
  .rw[iP c,iP (.inl c)];dsimp only;rw[iP rfl];unfold Tt;rw[Ac,gd_t oo]
  .rw[iN c]
   by_cases d:(mget b.apex (⟨q.1.a1,q.1.a0⟩:Ad)).isSome=true
   .rw[d,iN (by simp;omega),append_nil];rfl
   .rw[Bool.not_eq_true] at d;rw[d,iP (.inr rfl)];dsimp only;rw[Bool.not_false,iP rfl];unfold Tt;rw[Ac,gd_t oo]
 .have hlen:=hp.length_eq;have hfl:=Qg hf b.apex;dsimp only;rw[gd_t ⟨oo,fun x hx=>hsm x (hp.mem_iff.1 hx)⟩,Qt tot2 (fun x hx=>hsm x (hp.mem_iff.1 hx)) hp]
theorem Afx{n:Nat}(hn:n<=1024){b:An}(hm:MapN n b.apex):Gx b=some (b,Bf cmp3 (b.apex.flatMap triF)):=by
 have hl:=hm.len;have hsq:=Ahr hn;have hf:∀q,(triF q).length<=1:=fun q=>by unfold triF;split <;> simp
 unfold Gx;rw[jn_d];refine Agv hm.ok triF hf (fun s=>rfl) (fun s q hq hs=>?_) (fun l hp=>?_)
 .unfold Mu;rw[jn_d];unfold triF
  by_cases c:q.1.a0<q.1.a1
  .rw[iP c]
   by_cases d:q.1.a0<q.2
   .rw[dT d,iP ⟨c,d⟩];dsimp only;rw[iP rfl,gd_t oo]
   .rw[dF d,iN (by simp[d]),append_nil];rfl
  .rw[iN c,iN (by simp[c]),append_nil];rfl
 .have hlen:=hp.length_eq;have hfl:=Qg hf b.apex;dsimp only;rw[gd_t ⟨oo,fun x _=>trivial⟩,Qt tot3 (fun x _=>trivial) hp]
theorem Ary{κ υ β ρ:Type}{BN:List β->Option (Sum (List β) (List β))}{BS:List β->κ×υ->Option (Sum (List β) (List β))}{m:List (κ×υ)}(hm:Cx m)(s0:List β)(f:κ×υ->List β)(hf:∀q,(f q).length<=1)(hN:∀s,BN s=some (.inr s))(hS:∀s,∀q∈m,s.length<s0.length+m.length->BS s q=some (.inl (s++f q))){k:List β->Option ρ}{r:ρ}(hk:∀l,l.Perm (m.flatMap f)->k (s0++l)=some r):Ali BN BS m s0 k=some r:=by
 have key:∀(n:Nat) (l:List (κ×υ)) (s:List β),l.length=n->Cx l->(∀q∈l,q∈m)->s.length+l.length<=s0.length+m.length->(∀q:List (κ×υ),q.Perm l->k (s++q.flatMap f)=some r)->MR (mkN BN k) (mkS BS k) l s r:=by
  intro n
  induction n with
  |zero=>
   intro l s hn _ _ _ hk;have:l=[]:=eq_nil_of_length_eq_zero hn;subst this;refine .nil ?_;have:=hk [] (List.Perm.refl _);rw[flatMap_nil,append_nil] at this;unfold mkN;rw[hN];simp only[this]
  |succ n ih=>
   intro l s hn hl hs hlen hk;have hb:∀q∈l,mkS BS k s q=some (.inl (s++f q)):=fun q hq=>by
    unfold mkS mkN;simp only[hS s q (hs q hq) oo]
   refine .cons (fun e=>by subst e;simp at hn) (fun q hq=>by rw[hb q hq];rfl) (fun q hq t' e=>by rw[hb q hq] at e;cases e) (fun q hq s' e=>?_);rw[hb q hq] at e;cases e
   have hp:=Agu hl hq;have hlen2:=hp.length_eq;rw[length_cons] at hlen2;refine ih (mdel l q.1) (s++f q) oo (hl.del _) (fun x hx=>hs x (Mo.1 hx).1) (by rw[length_append];have:=hf q;omega) (fun w hw=>?_);rw[append_assoc,<-flatMap_cons];exact hk _ ((hw.cons q).trans hp.symm)
 refine As9 (key m.length m s0 rfl hm (fun _ h=>h) oo fun q hq=>?_);exact hk _ (List.Perm.flatMap_right f hq)
abbrev FitF:=Aa->Int×Bool×Int
def Uq(g:LI)(F:FitF)(b:List (Int×Bb))(p:Aa):List (Int×Bb):=
 if p.Id∈g\/(F p).2.1=false then b else
 match mget b (F p).1 with
 |none=>mput b (F p).1 ⟨p,(F p).2.2⟩
 |some o=>if (F p).2.2<o.far\/(F p).2.2=o.far/\X.lowB p o.p=true then mput b (F p).1 ⟨p,(F p).2.2⟩ else b
def Ya(g:LI)(F:FitF)(C:List Aa):List (Int×Bb):=C.foldl (Uq g F) []
def btr(f:Int)(p:Aa)(o:Bb):Prop:=f<o.far\/f=o.far/\X.lowB p o.p=true
theorem Bcr(f:Int)(p:Aa):¬btr f p ⟨p,f⟩:=by
 rintro (h|⟨_,h⟩)
 .exact Int.lt_irrefl _ h
 .rw[X.lowB_irrefl] at h;cases h
theorem Av7{f f':Int}{p q:Aa}{o:Bb}(h:btr f p ⟨q,f'⟩)(h':btr f' q o):btr f p o:=by
 unfold btr at *;dsimp only at h;rcases h with h|⟨h,g⟩ <;> rcases h' with h'|⟨h',g'⟩
 .exact .inl oo
 .exact .inl oo
 .exact .inl oo
 .exact .inr ⟨oo,X.lowB_trans g g'⟩
structure Aan(g:LI)(F:FitF)(C:List Aa)(b:List (Int×Bb)):Prop where
 map:Cx b
 src:∀q∈b,q.2.p∈C/\q.2.p.Id∉g/\F q.2.p=(q.1,true,q.2.far)
 all:∀p∈C,p.Id∉g->(F p).2.1=true->∃o,mget b (F p).1=some o/\¬btr (F p).2.2 p o
theorem Aan.nil(g:LI)(F:FitF):Aan g F [] []:=⟨List.Pairwise.nil,fun q hq=>(by cases hq),fun p hp=>(by cases hp)⟩
theorem Aan.step{g:LI}{F:FitF}{C:List Aa}{b:List (Int×Bb)}(h:Aan g F C b)(p:Aa):Aan g F (C++[p]) (Uq g F b p):=by
 unfold Uq
 by_cases c:p.Id∈g\/(F p).2.1=false
 .rw[iP c];refine⟨h.map,fun q hq=>⟨mem_append_left _ (h.src q hq).1,(h.src q hq).2⟩,fun x hx hg hf=>?_⟩;rcases mem_append.1 hx with hx|hx
  .exact h.all x hx hg hf
  .rw[mem_singleton.1 hx] at hg hf;rcases c with c|c
   .exact absurd c hg
   .rw[c] at hf;cases hf
 .rw[iN c];have hg:p.Id∉g:=fun e=>c (.inl e)
  have hf:(F p).2.1=true:=by
   cases e:(F p).2.1 with
   |true=>rfl
   |false=>exact absurd (.inr e) c
  have put:(∀o,mget b (F p).1=some o->btr (F p).2.2 p o)->Aan g F (C++[p]) (mput b (F p).1 ⟨p,(F p).2.2⟩):=fun hn=>by
   refine⟨h.map.put _ _,fun q hq=>?_,fun x hx hxg hxf=>?_⟩
   .rcases mem_cons.1 hq with rfl|hq
    .exact⟨mem_append_right _ (mem_singleton.2 rfl),hg,by dsimp only;rw[<-hf]⟩
    .have:=h.src q (Mo.1 hq).1;exact⟨mem_append_left _ this.1,this.2⟩
   .rw[Mq h.map]
    by_cases e:(F x).1=(F p).1
    .rw[iP e];refine⟨_,rfl,?_⟩;rcases mem_append.1 hx with hx|hx
     .obtain⟨o,ho,hb⟩:=h.all x hx hxg hxf;rw[e] at ho;exact fun g'=>hb (Av7 g' (hn o ho))
     .rw[mem_singleton.1 hx];exact Bcr _ _
    .rw[iN e];rcases mem_append.1 hx with hx|hx
     .exact h.all x hx hxg hxf
     .exact absurd (by rw[mem_singleton.1 hx]) e
  cases hm:mget b (F p).1 with
  |none=>exact put fun o ho=>by rw[hm] at ho;cases ho
  |some o=>
   dsimp only
   by_cases cb:(F p).2.2<o.far\/(F p).2.2=o.far/\X.lowB p o.p=true
   .rw[iP cb];exact put fun o' ho=>by rw[hm] at ho;cases ho;exact cb
   .rw[iN cb];refine⟨h.map,fun q hq=>⟨mem_append_left _ (h.src q hq).1,(h.src q hq).2⟩,fun x hx hxg hxf=>?_⟩;rcases mem_append.1 hx with hx|hx
    .exact h.all x hx hxg hxf
    .rw[mem_singleton.1 hx];exact⟨o,hm,cb⟩
theorem Aey{g:LI}{F:FitF}{C:List Aa}(k:Nat):Aan g F (C.take k) ((C.take k).foldl (Uq g F) []):=by
 induction k with
 |zero=>exact Aan.nil g F
 |succ k ih=>
  by_cases hk:k<C.length
  .rw[take_succ_eq_append_getElem hk,foldl_append];exact ih.step C[k]
  .rw[take_of_length_le oo];rw[take_of_length_le oo] at ih;exact ih
theorem Aba(g:LI)(F:FitF)(C:List Aa):Aan g F C (Ya g F C):=by
 have:=Aey (g:=g) (F:=F) (C:=C) C.length
 rwa [take_length] at this
def adds(g:LI)(F:FitF)(C:List Aa):LI:=(Ya g F C).map (·.2.p.Id)
def Kj(g:LI)(F:FitF)(C:List Aa):LI:=Cq (g++adds g F C)
section
variable {g:LI}{F:FitF}{C:List Aa}
theorem Apo{i:Int}(h:i∈adds g F C):i∉g/\∃p∈C,p.Id=i:=by
 obtain⟨q,hq,rfl⟩:=mem_map.1 h;obtain⟨h1,h2,_⟩:=(Aba g F C).src q hq;exact⟨h2,_,h1,rfl⟩
theorem Aez(hC:(C.map (·.Id)).Nodup):(adds g F C).Nodup:=by
 unfold adds List.Nodup;rw[pairwise_map];have hb:=Aba g F C;refine List.Pairwise.imp_of_mem ?_ hb.map;intro q q' hq hq' hne e;obtain⟨h1,_,h2⟩:=hb.src q hq;obtain⟨h3,_,h4⟩:=hb.src q' hq';rw[X.id_inj hC h1 h3 e,h4] at h2;exact hne (Prod.mk.inj h2).1.symm
theorem Abz:(Kj g F C).Perm (g++adds g F C):=X.perm_sortI _
theorem Adm:(Kj g F C).length=g.length+(Ya g F C).length:=by
 rw[Abz.length_eq,length_append,adds,length_map]
theorem Afy:(Kj g F C).Pairwise (·<=·):=X.sorted_sortI _
theorem App(hg:g.Nodup)(hC:(C.map (·.Id)).Nodup):(Kj g F C).Nodup:=by
 rw[Abz.nodup_iff,nodup_append];exact⟨hg,Aez hC,fun a ha b hb e=>(Apo hb).1 (e▸ha)⟩
theorem Av8(hg:∀i∈g,∃p∈C,p.Id=i){i:Int}(h:i∈Kj g F C):∃p∈C,p.Id=i:=by
 rcases mem_append.1 (Abz.mem_iff.1 h) with h|h
 .exact hg i h
 .exact (Apo h).2
theorem Av9{i:Int}(h:i∈g):i∈Kj g F C:=Abz.mem_iff.2 (mem_append_left _ h)
theorem Arz(hg:g.Pairwise (·<=·))(h:(Kj g F C).length=g.length):Kj g F C=g/\Ya g F C=[]:=by
 rw[Adm] at h;have hb:Ya g F C=[]:=eq_nil_of_length_eq_zero oo;refine⟨?_,hb⟩;unfold Kj adds;rw[hb,map_nil,append_nil];exact (X.sort_unique hg (List.Perm.refl _)).symm
end
end
namespace X
def cr(a b c:Ab):Int:=(b.X-a.X)*(c.Y-a.Y)-(b.Y-a.Y)*(c.X-a.X)
theorem Aj6{p:Ab}(h:okXY p=true):-268435456<=p.X/\p.X<=268435456/\-268435456<=p.Y/\p.Y<=268435456:=by
 simpa only[okXY,dQ] using h
theorem Aty{a b:Int}{m:Int}(ha:-m<=a/\a<=m)(hb:-m<=b/\b<=m):-(m*m)<=a*b/\a*b<=m*m:=by
 have hm:0<=m:=oo;rcases Int.le_total 0 a with h|h <;> rcases Int.le_total 0 b with k|k
 .have h1:=Int.mul_le_mul ha.2 hb.2 k hm;have h2:=Int.mul_nonneg h k;omega
 .have h1:=Int.mul_le_mul (a:=a) (b:=-b) (c:=m) (d:=m) ha.2 oo oo hm;have h2:=Int.mul_nonneg (a:=a) (b:=-b) h oo;rw[Int.mul_neg] at h1 h2;omega
 .have h1:=Int.mul_le_mul (a:=-a) (b:=b) (c:=m) (d:=m) oo hb.2 k hm;have h2:=Int.mul_nonneg (a:=-a) (b:=b) oo k;rw[Int.neg_mul] at h1 h2;omega
 .have h1:=Int.mul_le_mul (a:=-a) (b:=-b) (c:=m) (d:=m) oo oo oo hm;have h2:=Int.mul_nonneg (a:=-a) (b:=-b) oo oo;rw[Int.neg_mul_neg] at h1 h2;omega
theorem cr_w{a b c:Ab}(ha:okXY a=true)(hb:okXY b=true)(hc:okXY c=true):
  w64 ((w64 ((w64 (b.X-a.X))*(w64 (c.Y-a.Y))))-(w64 ((w64 (b.Y-a.Y))*(w64 (c.X-a.X)))))=cr a b c:=by
 have h1:=Aj6 ha;have h2:=Aj6 hb;have h3:=Aj6 hc;rw[Aq (x:=b.X-a.X) oo oo,Aq (x:=c.Y-a.Y) oo oo,Aq (x:=b.Y-a.Y) oo oo,Aq (x:=c.X-a.X) oo oo];have e1:=Aty (a:=b.X-a.X) (b:=c.Y-a.Y) (m:=536870912) oo oo;have e2:=Aty (a:=b.Y-a.Y) (b:=c.X-a.X) (m:=536870912) oo oo;rw[Aq (x:=(b.X-a.X)*(c.Y-a.Y)) oo oo,Aq (x:=(b.Y-a.Y)*(c.X-a.X)) oo oo,Aq oo oo];rfl
theorem Bcs(a b c:Ab):cr b a c = -cr a b c:=by unfold cr;grind
theorem turn_eq{a b c:Ab}(ha:okXY a=true)(hb:okXY b=true)(hc:okXY c=true):Vi a b c=some (Int.sign (cr a b c)):=by
 simp only[Vi,cr_w ha hb hc];rcases Int.lt_trichotomy (cr a b c) 0 with h|h|h
 .rw[iN oo,iP h,Int.sign_eq_neg_one_of_neg h]
 .rw[h];rfl
 .rw[iP h,Int.sign_eq_one_of_pos h]
theorem Azy{a b c:Ab}(ha:okXY a=true)(hb:okXY b=true)(hc:okXY c=true):Rq a b c=some (Int.sign (cr a b c)):=by
 simp only[Rq,cr_w ha hb hc];rcases Int.lt_trichotomy (cr a b c) 0 with h|h|h
 .rw[iP h,Int.sign_eq_neg_one_of_neg h]
 .rw[h];rfl
 .rw[iN oo,iP h,Int.sign_eq_one_of_pos h]
def onB(c:Ab)(s:Ab×Ab):Bool:=decide (cr s.1 s.2 c=0/\min s.1.X s.2.X<=c.X/\c.X<=max s.1.X s.2.X/\min s.1.Y s.2.Y<=c.Y/\c.Y<=max s.1.Y s.2.Y)
def croB(c:Ab)(s:Ab×Ab):Bool:=decide ((s.1.Y<=c.Y/\c.Y<s.2.Y/\0<cr s.1 s.2 c)\/(c.Y<s.1.Y/\s.2.Y<=c.Y/\cr s.1 s.2 c<0))
theorem sign_pos{x:Int}:0<Int.sign x↔0<x:=by
 rcases Int.lt_trichotomy x 0 with h|h|h
 .rw[Int.sign_eq_neg_one_of_neg h];omega
 .rw[h];simp
 .rw[Int.sign_eq_one_of_pos h];omega
theorem sign_neg{x:Int}:Int.sign x<0↔x<0:=by
 rcases Int.lt_trichotomy x 0 with h|h|h
 .rw[Int.sign_eq_neg_one_of_neg h];omega
 .rw[h];simp
 .rw[Int.sign_eq_one_of_pos h];omega
theorem sign_zero{x:Int}:Int.sign x=0↔x=0:=Int.sign_eq_zero_iff_zero
theorem Bg8{a b c:Ab}(ha:okXY a=true)(hb:okXY b=true)(hc:okXY c=true):Ac3 a b c=some (onB c (a,b)):=by
 simp only[Ac3,jn_d,turn_eq ha hb hc,Ac,within_eq,sign_zero,onB,dQ]
 by_cases h:cr a b c=0 <;> by_cases h2:(min a.X b.X<=c.X/\c.X<=max a.X b.X) <;> simp[h,h2]
 all_goals (try omega)
theorem Bfq{a b c:Ab}(ha:okXY a=true)(hb:okXY b=true)(hc:okXY c=true):Uy a b c=some (croB c (a,b)):=by
 simp only[Uy,turn_eq ha hb hc,turn_eq hb ha hc,Ac,croB,sign_pos,Bcs a b c]
 by_cases h1:c.Y<a.Y <;> by_cases h2:c.Y<b.Y <;> simp[h1,h2]
 all_goals (try omega)
 .rw[iN oo];simp;omega
 .rw[iP oo];simp;omega
def Sy(p:Ab):List Ab->List (Ab×Ab)
 |[]=>[]
 |q::r=>(p,q)::Sy q r
def oddB{α:Type}(f:α->Bool):List α->Bool
 |[]=>false
 |x::r=>f x != oddB f r
theorem Awa{α:Type}(f:α->Bool){l m:List α}(h:l.Perm m):oddB f l=oddB f m:=by
 induction h with
 |nil=>rfl
 |cons x _ ih=>simp only[oddB,ih]
 |swap x y l=>simp only[oddB];cases f x <;> cases f y <;> cases oddB f l <;> rfl
 |trans _ _ h1 h2=>rw[h1,h2]
def insB(c:Ab)(S:List (Ab×Ab)):Bool:=S.any (onB c) || oddB (croB c) S
theorem Awb{c:Ab}{S S':List (Ab×Ab)}(h:S.Perm S'):insB c S=insB c S':=by
 unfold insB;rw[Awa _ h];have:S.any (onB c)=S'.any (onB c):=by
  rw[Bool.eq_iff_iff,any_eq_true,any_eq_true];simp only[h.mem_iff]
 rw[this]
def Abb:List Ab->List (Ab×Ab)
 |[]=>[]
 |a::r=>Sy a (r++[a])
theorem Alz(p:Ab):∀(l m:List Ab),Sy p (l++m)=Sy p l++Sy ((p::l).getLast (cons_ne_nil _ _)) m
 |[],m=>rfl
 |q::r,m=>by
  have:=Alz q r m;simp only[cons_append,Sy,this];rw[getLast_cons (cons_ne_nil q r)]
theorem Adn(p:Ab):∀l:List Ab,(Sy p l).length=l.length
 |[]=>rfl
 |q::r=>by simp[Sy,Adn q r]
theorem Al0(p:Ab):∀(l:List Ab) (j:Nat) (h:j<(Sy p l).length),(Sy p l)[j]=((p::l)[j]'(by rw[Adn] at h;simp;omega),l[j]'(by rw[Adn] at h;exact h))
 |[],j,h=>by simp[Sy] at h
 |q::r,0,h=>rfl
 |q::r,j+1,h=>by
  have:=Al0 q r j (by simpa[Sy] using h);simp only[Sy,getElem_cons_succ,this]
def inF(c:Ab)(s:Bool×Ab)(q:Ab):Sum (Bool×Ab) (Sum Bool Bool):=if onB c (s.2,q)=true then .inr (.inr true) else .inl (if croB c (s.2,q)=true then !s.1 else s.1,q)
theorem Azz(c:Ab):∀(l:List Ab) (s:Bool×Ab),foldE (inF c) (fun s=>(.inl s.1:Sum Bool Bool)) l s=if (Sy s.2 l).any (onB c)=true then .inr true else .inl (s.1 != oddB (croB c) (Sy s.2 l))
 |[],s=>by simp[foldE,Sy,oddB]
 |q::r,s=>by
  unfold foldE inF
  by_cases h:onB c (s.2,q)=true
  .rw[iP h];simp[Sy,h]
  .rw[iN h];dsimp only;have ih:=Azz c r (if croB c (s.2,q)=true then !s.1 else s.1,q);unfold inF at ih;rw[ih];have h':onB c (s.2,q)=false:=by simpa using h
   simp only[Sy,any_cons,h',Bool.false_or,oddB];cases croB c (s.2,q) <;> cases s.1 <;> cases oddB (croB c) (Sy q r) <;> rfl
theorem Al1{l:List Ab}(h1:∀p∈l,okXY p=true)(h0:0<l.length)(h2:l.length<=1000){c:Ab}(hc:okXY c=true):Rc l c=some (insB c (Abb l)):=by
 have hlast:l.length-1<l.length:=oo;have hw:w64 ((l.length:Int)-1)=((l.length-1:Nat):Int):=by rw[Aq oo oo];omega
 unfold Rc;rw[hw,Aj hlast,Ac,jn_d];have key:=Im l (fun (s:Bool×Ab) (j:Int)=>(s.1,s.2.X,s.2.Y,j)) (inF c) (fun s=>(.inl s.1:Sum Bool Bool)) (Nt l c) (fun _ s=>okXY s.2=true) ?_ ?_ (false,l[l.length-1]) (h1 _ (gM hlast))
 ·have key':lfix (Nt l c) (false,l[l.length-1].X,l[l.length-1].Y,0)=_:=key;rw[key',Ac,Azz];have hp:(Sy l[l.length-1] l).Perm (Abb l):=by
   cases l with
   |nil=>simp at h0
   |cons a r=>
    show (Sy _ (a::r)).Perm (Sy a (r++[a]));rw[Alz];have:(a::r)[(a::r).length-1]=(a::r).getLast (cons_ne_nil _ _):=by rw[getLast_eq_getElem]
    rw[this];exact (perm_append_singleton _ _).symm
  have e:=Awb (c:=c) hp;unfold insB at e⊢;rw[<-e];cases (Sy l[l.length-1] l).any (onB c) <;> simp
 .rintro j hj ⟨b,p⟩ hp;dsimp only at hp;have hq:=h1 _ (gM hj);have hb:(⟨p.X,p.Y⟩:Ab)=p:=rfl;unfold inF;simp only[Nt,iP (oo:(j:Int)<(l.length:Int)),jn_d,Aj hj,Ac,hb,Bg8 hp hq hc,Bfq hp hq hc,As (oo:j<9223372036854775807)]
  by_cases g:onB c (p,l[j])=true
  .right;exact⟨_,by rw[iP g],by rw[iP g]⟩
  .left;refine⟨_,by rw[iN g],?_,hq⟩;rw[iN g]
   by_cases g2:croB c (p,l[j])=true <;> simp[g2]
 .intro s _;simp only[Nt,Int.lt_irrefl,if_false]
def Wc(l:List Ab):Bool:=decide (3<=l.length/\l.length<=64)&&l.all okXY
theorem Afz(l:List Ab):Nu l=some (Wc l):=by
 simp only[Nu,within_eq,Ac,dQ,jn_d,Wc]
 by_cases h:(3:Int)<=(l.length:Int)/\(l.length:Int)<=64
 .rw[iP h,dT (oo:3<=l.length/\l.length<=64),Bool.true_and];rw[Uf (β:=Unit) (γ:=Bool) l okXY (Mz l) () false ?_ ?_,Ac]
  .by_cases hk:l.all okXY=true <;> simp[hk]
  .intro j hj;simp only[Mz,iP (oo:(j:Int)<(l.length:Int)),Aj hj,Ac,Aak,As (oo:j<9223372036854775807)]
  .simp only[Mz,Int.lt_irrefl,if_false]
 .rw[iN h,dF (oo:¬(3<=l.length/\l.length<=64)),Bool.false_and]
theorem ring_eq{l:List Ab}(hl:l.length<=1000):Nk l=some (Wc l):=by
 simp only[Nk,jn_d,Wc];rw[Uf (β:=Unit) (γ:=Bool) l okXY (Mh l) () false ?_ ?_,Ac]
 .by_cases hk:l.all okXY=true
  .simp only[hk,if_true,Bool.and_true]
   by_cases h3:3<=l.length
   .rw[iP oo];congr 1;simp only[decide_eq_decide];omega
   .rw[iN oo];congr 1;symm;rw[decide_eq_false_iff_not];omega
  .simp[hk]
 .intro j hj;simp only[Mh,iP (oo:(j:Int)<(l.length:Int)),Aj hj,Ac,Ago,As (oo:j<9223372036854775807)]
 .simp only[Mh,Int.lt_irrefl,if_false]
def Aab(l:List Ab)(c:Ab):Bool×Int:=if Wc l=true then (if okXY c=true then (insB c (Abb l),0) else (false,11)) else (false,72)
theorem Acx{l:List Ab}(h:Wc l=true):3<=l.length/\l.length<=64/\∀p∈l,okXY p=true:=by
 simp only[Wc,Bool.and_eq_true,dQ,all_eq_true] at h;exact⟨h.1.1,h.1.2,h.2⟩
theorem Al2(l:List Ab)(c:Ab):Iz l c=some (Aab l c):=by
 simp only[Iz,Afz,Ac,Aak,Aab]
 by_cases h:Wc l=true
 .obtain⟨h1,h2,h3⟩:=Acx h
  by_cases hc:okXY c=true
  .simp only[h,hc,if_true,Al1 h3 oo oo hc,Ac]
  .simp[h,hc]
 .simp[h]
def outF(c:Ab)(s:Bool)(q:Ab×Ab):Sum Bool (Sum Bool (Bool×Int)):=if onB c q=true then .inr (.inr (true,0)) else .inl (if croB c q=true then !s else s)
theorem Atz(c:Ab):∀(S:List (Ab×Ab)) (s:Bool),foldE (outF c) (fun s=>(.inl s:Sum Bool (Bool×Int))) S s=if S.any (onB c)=true then .inr (true,0) else .inl (s != oddB (croB c) S)
 |[],s=>by simp[foldE,oddB]
 |q::r,s=>by
  unfold foldE outF
  by_cases h:onB c q=true
  .rw[iP h];simp[h]
  .rw[iN h];dsimp only;have ih:=Atz c r (if croB c q=true then !s else s);unfold outF at ih;rw[ih];have h':onB c q=false:=by simpa using h
   simp only[any_cons,h',Bool.false_or,oddB];cases croB c q <;> cases s <;> cases oddB (croB c) r <;> rfl
theorem Ado(l:List Ab):(Abb l).length=l.length:=by
 cases l with
 |nil=>rfl
 |cons a r=>simp[Abb,Adn]
theorem Awc{l:List Ab}{j:Nat}(hj:j<l.length):(Abb l)[j]'(by rw[Ado];exact hj)=(l[j],l[(j+1)%l.length]'(Nat.mod_lt _ oo)):=by
 cases l with
 |nil=>simp at hj
 |cons a r=>
  simp only[Abb];rw[Al0];have e1:(a::(r++[a]))[j]'(by simp at hj⊢;omega)=(a::r)[j]:=by
   have:a::(r++[a])=(a::r)++[a]:=rfl;simp only[this];rw[getElem_append_left hj]
  rw[e1];congr 1;simp only[length_cons] at hj⊢;rcases Nat.lt_or_ge (j+1) (r.length+1) with h|h
  .simp only[Nat.mod_eq_of_lt h,getElem_cons_succ];rw[getElem_append_left oo]
  .obtain rfl:j=r.length:=oo;simp
theorem Ar0{l:List Ab}(hl:l.length<=1000)(c:Ab):Oh l c=some (Aab l c):=by
 simp only[Oh,ring_eq hl,Ac,Ago,Aab,jn_d]
 by_cases h:Wc l=true
 .obtain⟨h1,h2,h3⟩:=Acx h
  by_cases hc:okXY c=true
  .simp only[h,hc,if_true];have key:=Im (Abb l) (fun (s:Bool) (j:Int)=>(s,j)) (outF c) (fun s=>(.inl s:Sum Bool (Bool×Int))) (Jg l c) (fun _ _=>True) ?_ ?_ false trivial
   .rw[key,Ac,Atz];unfold insB;cases (Abb l).any (onB c) <;> simp
   ·intro j hj s _;rw[Ado] at hj;have hm:(j+1) % l.length<l.length:=Nat.mod_lt _ oo;have ha:=h3 _ (getElem_mem hj);have hb:=h3 _ (getElem_mem hm);have e1:Int.tmod ((j+1:Nat):Int) (l.length:Int)=(((j+1) % l.length:Nat):Int):=by
     rw[Int.tmod_eq_emod_of_nonneg oo];rfl
    have hp:(⟨l[j].X,l[j].Y⟩:Ab)=l[j]:=rfl;have hq:(⟨l[(j+1)%l.length].X,l[(j+1)%l.length].Y⟩:Ab)=l[(j+1)%l.length]:=rfl;have hs:(Abb l)[j]'(by rw[Ado];exact hj)=(l[j],l[(j+1)%l.length]):=Awc hj;unfold outF;rw[hs];simp only[Jg,iP (oo:(j:Int)<(l.length:Int)),jn_d,Aj hj,Ac,e1,gd_t (oo:(l.length:Int)≠0),Aj hm,hp,hq,Azy ha hb hc,Aer,sign_zero,sign_pos,sign_neg,As (oo:j<9223372036854775807)];generalize l[j]=p at ha⊢;generalize l[(j+1)%l.length]=q at hb⊢;have hon:(if cr p q c=0 then (if decide (min p.X q.X<=c.X/\c.X<=max p.X q.X)=true then decide (min p.Y q.Y<=c.Y/\c.Y<=max p.Y q.Y) else false) else false)=onB c (p,q):=by
     unfold onB
     by_cases g1:cr p q c=0 <;> by_cases g2:(min p.X q.X<=c.X/\c.X<=max p.X q.X) <;> simp[g1,g2]
     all_goals (try omega)
    by_cases g:onB c (p,q)=true
    .right;refine⟨_,by rw[iP g],?_⟩;simp only[onB,dQ] at g;simp[g.1,g.2.1,g.2.2.1,g.2.2.2.1,g.2.2.2.2]
    ·left;refine⟨_,by rw[if_neg g],?_,trivial⟩;have main:∀ (b30 b31:Bool),b30=decide (p.Y<=c.Y/\c.Y<q.Y)->b31=decide (c.Y<p.Y/\q.Y<=c.Y)->(if b30=true then (if 0<cr p q c then true else (if b31=true then decide (cr p q c<0) else false)) else (if b31=true then decide (cr p q c<0) else false))=croB c (p,q):=by
      rintro _ _ rfl rfl;unfold croB
      by_cases k1:p.Y<=c.Y <;> by_cases k2:c.Y<q.Y <;> by_cases k3:0<cr p q c <;> by_cases k4:cr p q c<0 <;> simp[k1,k2,k3,k4]
      all_goals omega
     have m:=main _ _ rfl rfl;clear main;simp only[onB,dQ] at g;rw[<-m]
     by_cases k0:cr p q c=0
     .have g':¬((min p.X q.X<=c.X/\c.X<=max p.X q.X)/\(min p.Y q.Y<=c.Y/\c.Y<=max p.Y q.Y)):=fun h=>g ⟨k0,h.1.1,h.1.2,h.2.1,h.2.2⟩
      by_cases k5:(min p.X q.X<=c.X/\c.X<=max p.X q.X)
      .have k6:¬(min p.Y q.Y<=c.Y/\c.Y<=max p.Y q.Y):=fun h=>g' ⟨k5,h⟩
       by_cases k1:p.Y<=c.Y <;> by_cases k2:c.Y<q.Y <;> simp[k0,k5,k6,k1,k2]
       all_goals (try omega)
      .by_cases k1:p.Y<=c.Y <;> by_cases k2:c.Y<q.Y <;> simp[k0,k5,k1,k2]
       all_goals (try omega)
     .by_cases k1:p.Y<=c.Y <;> by_cases k2:c.Y<q.Y <;> by_cases k3:0<cr p q c <;> simp[k0,k1,k2,k3]
      all_goals (first|omega|grind)
   .intro s _;simp only[Jg,Ado,Int.lt_irrefl,if_false]
  .simp[h,hc]
 .simp[h]
theorem many_eq(l:List Aa)(n:Int):Rm l n=some (decide (300<l.length\/n<(l.length:Int)/\validL l=true)):=by
 simp only[Rm,jn_d,rvalid_eq,Ac]
 by_cases h1:300<l.length
 .rw[iP oo];simp[h1]
 .rw[iN oo]
  by_cases h2:n<(l.length:Int)
  .rw[iP h2];simp[h1,h2]
  .rw[iN h2];simp[h1,h2]
def sqr:List Ab:=[⟨0,0⟩,⟨4,0⟩,⟨4,4⟩,⟨0,4⟩]
def pts3:List Aa:=[⟨1,0,0,⟨3,3⟩,0,1,1,0⟩,⟨2,5,5,⟨1,1⟩,0,1,1,0⟩,⟨3,12,0,⟨2,2⟩,0,1,1,0⟩]
def ter3:Af:=⟨10,0,0,1,0,0,0,0,0,1⟩
theorem first_eq:Ih=some true:=by
 have e1:Aab sqr ⟨4,2⟩=(true,0):=dD;have e2:Aab sqr ⟨5,2⟩=(false,0):=dD;have e3:seedL pts3 ter3=[2,3]:=by
  have:(bot (ceF ter3.Cell) (candL pts3 ter3)).map (·.Id)=[2,3]:=dD;unfold seedL;rw[this];exact (sort_unique s_ (List.Perm.refl _)).symm
 have e4:okRules ter3=true:=dD;have e5:validL pts3=true:=dD;have f1:Iz sqr ⟨4,2⟩=some (true,0):=by rw[Al2,e1]
 have f2:Iz sqr ⟨5,2⟩=some (false,0):=by rw[Al2,e2]
 have f3:Sw pts3 ter3=some ([2,3],0):=by rw[Bbb,iP e4,iP e5,e3]
 unfold Ih;have g1:Iz ([(⟨0,0⟩:Ab),(⟨4,0⟩:Ab),(⟨4,4⟩:Ab),(⟨0,4⟩:Ab)]) (⟨4,2⟩:Ab)=some (true,0):=f1;have g2:Iz ([(⟨0,0⟩:Ab),(⟨4,0⟩:Ab),(⟨4,4⟩:Ab),(⟨0,4⟩:Ab)]) (⟨5,2⟩:Ab)=some (false,0):=f2;rw[g1,Ac,g2,Ac];show bnd (Sw pts3 ter3) _=_;rw[f3,Ac];rfl
end X
def ph(α β:Int)(p:Ab):Int:=α*p.X+β*p.Y
theorem Bea(α β:Int)(a b c d:Ab):(ph α β b-ph α β a)*crs a c d+(ph α β c-ph α β a)*crs a d b+(ph α β d-ph α β a)*crs a b c=0:=by unfold ph crs;grind
section
variable {α β:Int}
theorem Ae0{x y:Int}(hx:0<x)(h:0<x*y):0<y:=by
 rcases Int.lt_trichotomy y 0 with g|g|g
 .have:=Int.mul_neg_of_pos_of_neg hx g;omega
 .subst g;simp at h
 .exact g
theorem Xf{x y:Int}(hx:0<x)(h:0<=x*y):0<=y:=by
 rcases Int.lt_or_le y 0 with g|g
 .have:=Int.mul_neg_of_pos_of_neg hx g;omega
 .exact g
end
section
variable (P:Int->Ab)(α β:Int)
def Sup(D:LI)(a b:Int):Prop:=ph α β (P a)<ph α β (P b)/\∀k∈D,0<crs (P a) (P b) (P k)\/(crs (P a) (P b) (P k)=0/\ph α β (P a)<=ph α β (P k)/\ph α β (P k)<=ph α β (P b))
def Beb(Q:Int->Int->Prop):LI->Prop
 |b::a::r=>Q a b/\Beb Q (a::r)
 |_=>True
structure ChainC(f:Int)(D s:LI):Prop where
 sub:∀x∈s,x∈D
 edge:Beb (Sup P α β D) s
 bot:∃r,s=r++[f]
 low:∀k∈D,k=f\/ph α β (P f)<ph α β (P k)
variable {P α β}
end
def apM(m:Mp):Ap:=fun i j=>mget m ⟨i,j⟩
def putM(m:Mp)(i j k:Int):Mp:=mput (mput (mput m ⟨i,j⟩ k) ⟨j,k⟩ i) ⟨k,i⟩ j
def cutM(m:Mp)(i j k:Int):Mp:=mdel (mdel (mdel m ⟨i,j⟩) ⟨j,k⟩) ⟨k,i⟩
def Aj7(m:Mp)(i j k l:Int):Mp:=putM (putM (cutM (cutM m i j k) j i l) i l k) j k l
theorem Ol{i j a b:Int}:(⟨a,b⟩:Ad)=⟨i,j⟩↔a=i/\b=j:=s_
theorem MapN.put{n:Nat}{m:Mp}(h:MapN n m){i j k:Int}(hi:inN n i)(hj:inN n j)(hk:inN n k):MapN n (mput m ⟨i,j⟩ k):=by
 refine⟨h.ok.put _ _,fun q hq=>?_⟩;unfold mput at hq;rcases mem_cons.1 hq with rfl|hq
 .exact⟨hi,hj,hk⟩
 .exact h.key q (Mo.1 hq).1
theorem MapN.del{n:Nat}{m:Mp}(h:MapN n m)(x:Ad):MapN n (mdel m x):=⟨h.ok.del _,fun q hq=>h.key q (Mo.1 hq).1⟩
theorem MapN.putM{n:Nat}{m:Mp}(h:MapN n m){i j k:Int}(hi:inN n i)(hj:inN n j)(hk:inN n k):MapN n (putM m i j k):=((h.put hi hj hk).put hj hk hi).put hk hi hj
theorem MapN.cutM{n:Nat}{m:Mp}(h:MapN n m)(i j k:Int):MapN n (cutM m i j k):=((h.del _).del _).del _
theorem Adp{m:Mp}(h:Cx m)(i j k a b:Int):apM (putM m i j k) a b=if a=k/\b=i then some j else if a=j/\b=k then some i else if a=i/\b=j then some k else apM m a b:=by
 unfold apM putM;rw[Mq ((h.put _ _).put _ _),Mq (h.put _ _),Mq h];simp only[Ol]
theorem Qu{m:Mp}(h:Cx m)(i j k a b:Int):apM (cutM m i j k) a b=if (a=k/\b=i)\/(a=j/\b=k)\/(a=i/\b=j) then none else apM m a b:=by
 unfold apM cutM;rw[Xn ((h.del _).del _),Xn (h.del _),Xn h];simp only[Ol]
 by_cases c1:a=k/\b=i
 .simp[c1]
 .by_cases c2:a=j/\b=k
  .simp[c2]
  .by_cases c3:a=i/\b=j
   .simp[c3]
   .simp[c1,c2,c3]
theorem Aj8{m:Mp}(h:Cx m){i j k l:Int}(n1:i≠j)(n2:k≠l)(n3:k≠i)(n4:k≠j)(n5:l≠i)(n6:l≠j):apM (Aj7 m i j k l)=Rr (apM m) i j k l:=by
 have h1:Cx (cutM m i j k):=((h.del _).del _).del _;have h2:Cx (cutM (cutM m i j k) j i l):=((h1.del _).del _).del _;have h3:Cx (putM (cutM (cutM m i j k) j i l) i l k):=((h2.put _ _).put _ _).put _ _;funext a b;unfold Aj7;rw[Adp h3,Adp h2,Qu h1,Qu h];unfold Rr
 by_cases c1:a=i/\b=l
 .repeat first|rw[iP oo]|rw[iN oo]
 by_cases c2:a=l/\b=k
 .repeat first|rw[iP oo]|rw[iN oo]
 by_cases c3:a=k/\b=i
 .repeat first|rw[iP oo]|rw[iN oo]
 by_cases c4:a=j/\b=k
 .repeat first|rw[iP oo]|rw[iN oo]
 by_cases c5:a=k/\b=l
 .repeat first|rw[iP oo]|rw[iN oo]
 by_cases c6:a=l/\b=j
 .repeat first|rw[iP oo]|rw[iN oo]
 by_cases c7:a=i/\b=j
 .repeat first|rw[iP oo]|rw[iN oo]
 by_cases c8:a=j/\b=i
 .repeat first|rw[iP oo]|rw[iN oo]
 repeat first|rw[iP oo]|rw[iN oo]
theorem p_eq{b:An}{i:Int}(h:inN b.v.length i):Bj b i=some (plV b.v i):=by
 unfold Bj plV;obtain⟨k,hk,rfl,e⟩:=Mn (v:=b.v) (i:=i) h;rw[e];rfl
theorem Aj9{n:Nat}(hn:n<=1024){b:An}(hm:MapN n b.apex){i j k:Int}(hi:inN n i)(hj:inN n j)(hk:inN n k):Dy b i j k=some ⟨b.v,putM b.apex i j k,b.fixed⟩:=by
 have hsq:=Ahr hn;have l0:=hm.len;have l1:=(hm.put hi hj hk).len;have l2:=((hm.put hi hj hk).put hj hk hi).len;unfold Dy;rw[gd_t (Wb hn hi hj),gd_t oo,gd_t (Wb hn hj hk),gd_t oo,gd_t (Wb hn hk hi),gd_t oo];rfl
theorem Az0{n:Nat}(hn:n<=1024){b:An}{i j k:Int}(hi:inN n i)(hj:inN n j)(hk:inN n k):Lq b i j k=some ⟨b.v,cutM b.apex i j k,b.fixed⟩:=by
 unfold Lq;rw[gd_t (Wb hn hi hj),gd_t (Wb hn hj hk),gd_t (Wb hn hk hi)];rfl
theorem MapN.val{n:Nat}{m:Mp}(h:MapN n m){i j k:Int}(hk:apM m i j=some k):inN n i/\inN n j/\inN n k:=h.key _ (He hk)
theorem Bct{b:An}(hv:Iv b.v)(hn:b.v.length<=1024)(hm:MapN b.v.length b.apex){i j k l:Int}(hk:apM b.apex i j=some k)(hl:apM b.apex j i=some l):
  Jp b i j=some (if Int.sign (crs (plV b.v k) (plV b.v l) (plV b.v i))*Int.sign (crs (plV b.v k) (plV b.v l) (plV b.v j)) = -1 then (⟨b.v,Aj7 b.apex i j k l,b.fixed⟩,true) else (b,false)):=by
 obtain⟨vi,vj,vk⟩:=hm.val hk;obtain⟨_,_,vl⟩:=hm.val hl;have hk':mget b.apex (⟨i,j⟩:Ad)=some k:=hk;have hl':mget b.apex (⟨j,i⟩:Ad)=some l:=hl;unfold Jp;rw[gd_t (Wb hn vi vj),hk',Ac,gd_t (Wb hn vj vi),hl',Ac,jn_d];simp only[Option.getD_some,Option.isSome_some,if_true];rw[p_eq vk,Ac,p_eq vl,Ac,p_eq vi,Ac,turn_eq (hv.ok _ vk) (hv.ok _ vl) (hv.ok _ vi),Ac,Ac,Ac,p_eq vj,Ac,turn_eq (hv.ok _ vk) (hv.ok _ vl) (hv.ok _ vj),Ac,Ao1]
 by_cases c:Int.sign (crs (plV b.v k) (plV b.v l) (plV b.v i))*Int.sign (crs (plV b.v k) (plV b.v l) (plV b.v j)) = -1
 .rw[iP c,iN (by simp;omega)];have m1:=hm.cutM i j k;have m2:=m1.cutM j i l;have m3:=m2.putM vi vl vk;rw[Az0 hn vi vj vk,Ac,Az0 hn vj vi vl,Ac,Aj9 hn m2 vi vl vk,Ac,Aj9 hn m3 vj vk vl,Ac];rfl
 .rw[iN c,iP (by simpa using Am2.2 c)]
theorem Awd{m:Mp}{x:Ad}(h:mget m x=none)(hm:Cx m):mdel m x=m:=by
 unfold mdel;rw[filter_eq_self];intro p hp;simp only[dQ];intro e;have:=Up hm hp;rw[e,h] at this;cases this
section
variable {P:Int->Ab}{H:Int->Int}{n:Nat}
def phi(P:Int->Ab)(H:Int->Int)(n:Nat)(m:Mp):Nat:=(m.map fun q=>cnf P H n q.1.a0 q.1.a1 q.2).sum
theorem Anj{m:Mp}(hm:Cx m){i j k:Int}(h:mget m ⟨i,j⟩=some k):phi P H n m=cnf P H n i j k+phi P H n (mdel m ⟨i,j⟩):=by
 have hp:=Agu hm (He h);unfold phi;rw[(hp.map _).sum_nat,map_cons,sum_cons]
theorem Ank{m:Mp}(hm:Cx m){i j k:Int}(h:mget m ⟨i,j⟩=none):phi P H n (mput m ⟨i,j⟩ k)=cnf P H n i j k+phi P H n m:=by
 unfold mput;rw[Awd h hm];unfold phi;rw[map_cons,sum_cons]
theorem Az1:∀m:Mp,phi P H n m<=m.length*n
 |[]=>by simp[phi]
 |q::r=>by
  have h1:=Az1 r;have h2:=Bfd (P:=P) (H:=H) (n:=n) q.1.a0 q.1.a1 q.2;unfold phi at *;rw[map_cons,sum_cons,length_cons,Nat.add_mul];omega
theorem At0{m:Mp}(hm:Cx m){i j k:Int}(n1:i≠j)(n2:j≠k)(n3:k≠i)(h1:apM m i j=some k)(h2:apM m j k=some i)(h3:apM m k i=some j):phi P H n m=3*cnf P H n i j k+phi P H n (cutM m i j k):=by
 have g1:mget (mdel m ⟨i,j⟩) ⟨j,k⟩=some i:=by rw[Xn hm,Ol,iN oo];exact h2
 have g2:mget (mdel (mdel m ⟨i,j⟩) ⟨j,k⟩) ⟨k,i⟩=some j:=by rw[Xn (hm.del _),Xn hm,Ol,Ol,iN oo,iN oo];exact h3
 rw[Anj hm h1,Anj (hm.del _) g1,Anj ((hm.del _).del _) g2,Abs,Abs (P:=P) (H:=H) (n:=n) j k i,Abs];unfold cutM;omega
theorem Apq{m:Mp}(hm:Cx m){i j k:Int}(n1:i≠j)(n2:j≠k)(n3:k≠i)(h1:apM m i j=none)(h2:apM m j k=none)(h3:apM m k i=none):phi P H n (putM m i j k)=3*cnf P H n i j k+phi P H n m:=by
 have g1:mget (mput m ⟨i,j⟩ k) ⟨j,k⟩=none:=by rw[Mq hm,Ol,iN oo];exact h2
 have g2:mget (mput (mput m ⟨i,j⟩ k) ⟨j,k⟩ i) ⟨k,i⟩=none:=by rw[Mq (hm.put _ _),Mq hm,Ol,Ol,iN oo,iN oo];exact h3
 unfold putM;rw[Ank ((hm.put _ _).put _ _) g2,Ank (hm.put _ _) g1,Ank hm h1,Abs (P:=P) (H:=H) (n:=n) i j k,Abs (P:=P) (H:=H) (n:=n) k i j,<-Abs (P:=P) (H:=H) (n:=n) k i j];have e:=Abs (P:=P) (H:=H) (n:=n) k i j;omega
theorem Az2{m:Mp}(hm:Cx m){i j k l:Int}(hcv:Ajs P H (inN n))(q:Quad P (inN n) (apM m) i j k l)(hQ:0<DH P H i j k l):phi P H n (Aj7 m i j k l)<phi P H n m:=by
 obtain⟨n1,n2,n3,n4,n5,n6⟩:=q.ne;obtain⟨f1,f2⟩:=q.fresh;have h1:Cx (cutM m i j k):=((hm.del _).del _).del _;have h2:Cx (cutM (cutM m i j k) j i l):=((h1.del _).del _).del _;have h3:Cx (putM (cutM (cutM m i j k) j i l) i l k):=((h2.put _ _).put _ _).put _ _;have a1:=q.tri.rot _ _ _ q.hk;have a2:=q.tri.rot2 q.hk;have a3:=q.tri.rot _ _ _ q.hl;have a4:=q.tri.rot2 q.hl;have e1:=At0 (P:=P) (H:=H) (n:=n) hm n1 (fun e=>n4 e.symm) n3 q.hk a1 a2;have e2:=At0 (P:=P) (H:=H) (n:=n) h1 (i:=j) (j:=i) (k:=l) n1.symm (fun e=>n5 e.symm) n6 (by rw[Qu hm,iN oo];exact q.hl) (by rw[Qu hm,iN oo];exact a3) (by rw[Qu hm,iN oo];exact a4);have e3:=Apq (P:=P) (H:=H) (n:=n) h2 (i:=i) (j:=l) (k:=k) (fun e=>n5 e.symm) n2.symm n3
  (by rw[Qu h1,iP oo]) (by rw[Qu h1,iN oo,Qu hm,iN oo];exact f2) (by rw[Qu h1,iN oo,Qu hm,iP oo])
 have e4:=Apq (P:=P) (H:=H) (n:=n) h3 (i:=j) (j:=k) (k:=l) (fun e=>n4 e.symm) n2 n6
  (by rw[Adp h2,iN oo,iN oo,iN oo,Qu h1,iN oo,Qu hm,iP oo])
  (by rw[Adp h2,iN oo,iN oo,iN oo,Qu h1,iN oo,Qu hm,iN oo];exact f1)
  (by rw[Adp h2,iN oo,iN oo,iN oo,Qu h1,iP oo])
 have:=q.cnf_lt hcv hQ;unfold Aj7;omega
end
theorem Bcu(hi hj hk hl:Int)(i j k l:Ab):Dt hk hl hj hi k l j i = -Dt hi hj hk hl i j k l:=by unfold Dt crs;grind
def Fx(F:List (Ad×Bool))(i j:Int):Bool:=(mget F ⟨min i j,max i j⟩).getD false
def pr2(i j:Int):Ad:=⟨min i j,max i j⟩
theorem Abc(i j:Int):pr2 i j=pr2 j i:=by unfold pr2;rw[Int.min_comm,Int.max_comm]
theorem Az3{i j a b:Int}(h:pr2 i j=pr2 a b):(i=a/\j=b)\/(i=b/\j=a):=by
 unfold pr2 at h;rw[Ol] at h;omega
structure Om(v:List Ae)(F:List (Ad×Bool))(q:List Ad)(m:Mp):Prop where
 map:MapN v.length m
 tri:Tri (plV v) (inN v.length) (apM m)
 qn:∀s∈q,inN v.length s.a0/\inN v.length s.a1/\s.a0<=s.a1
 pend:∀i j k l,apM m i j=some k->apM m j i=some l->pr2 i j∈q\/Fx F i j=true\/DH (plV v) (hV v) i j k l<0
theorem Om.pop{v F q s m}(h:Om v F (q++[s]) m)(hs:∀k l,apM m s.a0 s.a1=some k->apM m s.a1 s.a0=some l->Fx F s.a0 s.a1=true\/DH (plV v) (hV v) s.a0 s.a1 k l<0):Om v F q m:=by
 have hq:=(h.qn s s_).2.2;refine⟨h.map,h.tri,fun x hx=>h.qn x (mem_append_left _ hx),fun i j k l hk hl=>?_⟩;rcases h.pend i j k l hk hl with g|g
 .rcases mem_append.1 g with g|g
  .exact .inl g
  ·rw[mem_singleton] at g;right;have e:pr2 s.a0 s.a1=s:=by
    obtain⟨x,y⟩:=s;unfold pr2;rw[Ol];simp only at hq⊢;omega
   rw[<-e] at g;rcases Az3 g with⟨e1,e2⟩|⟨e1,e2⟩
   .subst e1;subst e2;exact hs k l hk hl
   .subst e1;subst e2;rcases hs l k hl hk with t|t
    .left;unfold Fx at *;rw[Int.min_comm,Int.max_comm];exact t
    .right;rw[<-Quad.swapQ];exact t
 .exact .inr g
theorem At1{v:List Ae}{m:Mp}(hv:Iv v)(ht:Tri (plV v) (inN v.length) (apM m)){i j k l:Int}(hk:apM m i j=some k)(hl:apM m j i=some l)(hD:¬DH (plV v) (hV v) i j k l<0):Quad (plV v) (inN v.length) (apM m) i j k l:=by
 obtain⟨vi,vj,vk,ck⟩:=ht.ccw _ _ _ hk;obtain⟨_,_,vl,cl⟩:=ht.ccw _ _ _ hl;have c0:crs (plV v i) (plV v j) (plV v l)<0:=by rw[Ch];omega
 refine⟨ht,hk,hl,?_,?_⟩
 .rw[Bu];rcases Int.lt_or_le 0 (crs (plV v k) (plV v i) (plV v l)) with g|g
  .exact g
  .exact absurd (Adc hv i j k l vi vj vk vl ck c0 (.inr g)) hD
 .rcases Int.lt_or_le 0 (crs (plV v j) (plV v k) (plV v l)) with g|g
  .exact g
  .exact absurd (Adc hv i j k l vi vj vk vl ck c0 (.inl g)) hD
theorem Om.flip{v F q s m}(hv:Iv v)(h:Om v F (q++[s]) m){k l:Int}(hk:apM m s.a0 s.a1=some k)(hl:apM m s.a1 s.a0=some l)(hD:¬ DH (plV v) (hV v) s.a0 s.a1 k l<0):
  Om v F (q++[pr2 s.a0 k,pr2 k s.a1,pr2 s.a1 l,pr2 l s.a0]) (Aj7 m s.a0 s.a1 k l):=by
 have Q:=At1 hv h.tri hk hl hD;obtain⟨n1,n2,n3,n4,n5,n6⟩:=Q.ne;obtain⟨vi,vj,vk,ck⟩:=h.tri.ccw _ _ _ hk;obtain⟨_,_,vl,cl⟩:=h.tri.ccw _ _ _ hl;have hf:=Aj8 h.map.ok n1 n2 n3 n4 n5 n6;have hq:=(h.qn s s_).2.2;have es:pr2 s.a0 s.a1=s:=by
  obtain⟨x,y⟩:=s;unfold pr2;rw[Ol];simp only at hq⊢;omega
 have hD2:0<DH (plV v) (hV v) s.a0 s.a1 k l:=by
  have:=(Alo hv vi vj vk vl ck (by rw[Ch];omega)).2;omega
 refine⟨?_,by rw[hf];exact Q.flip,fun x hx=>?_,fun a b c d hc hd=>?_⟩
 .have m1:=h.map.cutM s.a0 s.a1 k;have m2:=m1.cutM s.a1 s.a0 l;exact (m2.putM vi vl vk).putM vj vk vl
 .rcases mem_append.1 hx with hx|hx
  .exact h.qn x (mem_append_left _ hx)
  ·have key:∀ i j,inN v.length i->inN v.length j->inN v.length (pr2 i j).a0/\inN v.length (pr2 i j).a1/\(pr2 i j).a0<=(pr2 i j).a1:=fun i j h1 h2=>by
    unfold pr2 inN at *;simp only;omega
   simp only[mem_cons,not_mem_nil,or_false] at hx;rcases hx with rfl|rfl|rfl|rfl
   .exact key _ _ vi vk
   .exact key _ _ vk vj
   .exact key _ _ vj vl
   .exact key _ _ vl vi
 .rw[hf] at hc hd;have mem:∀x,x∈[pr2 s.a0 k,pr2 k s.a1,pr2 s.a1 l,pr2 l s.a0]->x∈q++[pr2 s.a0 k,pr2 k s.a1,pr2 s.a1 l,pr2 l s.a0]:=fun x hx=>mem_append_right _ hx
  have dg:DH (plV v) (hV v) k l s.a1 s.a0<0:=by
   unfold DH at hD2⊢;rw[Bcu];omega
  have outer:∀ a b c,Rr (apM m) s.a0 s.a1 k l a b=some c->(pr2 a b∈[pr2 s.a0 k,pr2 k s.a1,pr2 s.a1 l,pr2 l s.a0])\/(a=l/\b=k/\c=s.a0)\/(a=k/\b=l/\c=s.a1) \/
    (apM m a b=some c/\¬(a=s.a0/\b=l)/\¬(a=l/\b=k)/\¬(a=k/\b=s.a0)/\¬(a=s.a1/\b=k)/\¬(a=k/\b=l)/\¬(a=l/\b=s.a1)/\¬(a=s.a0/\b=s.a1)/\¬(a=s.a1/\b=s.a0)):=by
   intro a b c hc;rcases Vd hc with⟨e1,e2,_⟩|g|⟨e1,e2,_⟩|⟨e1,e2,_⟩|g|⟨e1,e2,_⟩|g
   .left;rw[Abc a b,e1,e2];simp
   .exact .inr (.inl g)
   .left;rw[Abc a b,e1,e2];simp
   .left;rw[Abc a b,e1,e2];simp
   .exact .inr (.inr (.inl g))
   .left;rw[Abc a b,e1,e2];simp
   .exact .inr (.inr (.inr g))
  rcases outer a b c hc with g|⟨rfl,rfl,rfl⟩|⟨rfl,rfl,rfl⟩|⟨g0,g⟩
  .exact .inl (mem _ g)
  .rw[Atf n3 n2 n4 n5] at hd;obtain rfl:=oI hd;right;right;rw[Quad.swapQ (P:=plV v) (H:=hV v)];exact dg
  .rw[Ate n5] at hd;obtain rfl:=oI hd;exact .inr (.inr dg)
  .rcases outer b a d hd with g'|⟨e1,e2,_⟩|⟨e1,e2,_⟩|⟨g0',g'⟩
   .left;rw[Abc a b];exact mem _ g'
   .omega
   .omega
   .rcases h.pend a b c d g0 g0' with t|t
    .rcases mem_append.1 t with t|t
     .exact .inl (mem_append_left _ t)
     .rw[mem_singleton,<-es] at t;rcases Az3 t with⟨e1,e2⟩|⟨e1,e2⟩ <;> omega
    .exact .inr t
end
end Go.Proofs.YthlkpgdfifnagaaGreat
