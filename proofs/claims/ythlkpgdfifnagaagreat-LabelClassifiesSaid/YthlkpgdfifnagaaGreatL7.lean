import Derived.Test.YthlkpgdfifnagaaGreatK8
namespace Go.Proofs.YthlkpgdfifnagaaGreat
open Go Go.RowKit List
noncomputable section
section
variable {P:Int->Ab}{V S:Int->Prop}{ap ap':Ap}{R:Int->Int->Prop}{p:Int}
def Vis(P:Int->Ab)(R:Int->Int->Prop)(p x y:Int):Prop:=R x y/\0<crs (P x) (P y) (P p)
def New(P:Int->Ab)(R:Int->Int->Prop)(p i j k:Int):Prop:=(Vis P R p i j/\k=p)\/(Vis P R p k i/\j=p)\/(Vis P R p j k/\i=p)
structure Adds(P:Int->Ab)(V S:Int->Prop)(ap:Ap)(R:Int->Int->Prop)(p:Int):Prop where
 tri:Tri P V ap
 used:∀i j k,ap i j=some k->S i
 sv:∀i,S i->V i
 vp:V p
 np:¬S p
 before:∀i,S i->befP (P i) (P p)
 behind:∀i,V i->¬S i->i≠p->befP (P p) (P i)
 r1:∀x y,R x y->S x/\S y/\x≠y/\∀d,S d->crs (P x) (P y) (P d)<=0
 r2:∀x y,Vis P R p x y->∀d,S d->d≠x->d≠y->crs (P x) (P y) (P d)=0->crs (P y) (P p) (P d)<0\/crs (P p) (P x) (P d)<0
 r3:∀x y,Vis P R p x y->((∃z,Vis P R p y z)\/∀d,S d->0<=crs (P y) (P p) (P d))/\((∃w,Vis P R p w x)\/∀d,S d->0<=crs (P p) (P x) (P d))
 r4:∀x y,R x y->ap x y=none
 r5:∀x y,Vis P R p x y->ap y x≠none\/((∀i j,ap i j=none)/\∀d,S d->0<=crs (P x) (P y) (P d))
 r6:∀i j k,ap i j=some k->ap j i=none->R j i
theorem New.rot{i j k:Int}(h:New P R p i j k):New P R p j k i:=by
 rcases h with h|h|h
 .exact .inr (.inl h)
 .exact .inr (.inr h)
 .exact .inl h
theorem Azo{x y p d:Ab}(h1:befP x p)(h2:befP y p)(h3:befP p d)(h4:0<crs x y p):crs x y d<0\/crs y p d<0\/crs p x d<0:=by
 by_cases c1:crs x y d<0
 .exact .inl c1
 by_cases c2:crs y p d<0
 .exact .inr (.inl c2)
 by_cases c3:crs p x d<0
 .exact .inr (.inr c3)
 exfalso;have e1:crs y p d*(d.X-x.X)+crs p x d*(d.X-y.X)+crs x y d*(d.X-p.X)=0:=by unfold crs;grind
 have e2:crs y p d*(d.Y-x.Y)+crs p x d*(d.Y-y.Y)+crs x y d*(d.Y-p.Y)=0:=by unfold crs;grind
 have e3:=Zt x y p d;have nn:∀{u w:Int},0<=u->0<=w->0<=u*w:=fun h h'=>Int.mul_nonneg h h'
 have hx:x.X<=d.X/\y.X<=d.X/\p.X<=d.X:=by unfold befP at h1 h2 h3;omega
 have m1:=nn (show 0<=crs y p d by omega) (show 0<=d.X-x.X by omega);have m2:=nn (show 0<=crs p x d by omega) (show 0<=d.X-y.X by omega);have m3:=nn (show 0<=crs x y d by omega) (show 0<=d.X-p.X by omega);have z1:crs y p d*(d.X-x.X)=0:=oo;have z2:crs p x d*(d.X-y.X)=0:=oo;have z3:crs x y d*(d.X-p.X)=0:=oo;have key:∀(w:Int) (q:Ab),0<=w->befP q d->w*(d.X-q.X)=0->0<=w*(d.Y-q.Y)/\(w*(d.Y-q.Y)=0->w=0):=by
  intro w q hw hq hz
  by_cases hw0:w=0
  .subst hw0;simp
  .rcases Int.mul_eq_zero.1 hz with h|h
   .exact absurd h hw0
   .have:0<d.Y-q.Y:=by unfold befP at hq;omega
    have:=Int.mul_pos (show 0<w by omega) this;exact⟨oo,fun h=>oo⟩
 obtain⟨k1,k2⟩:=key _ x oo (Lj h1 h3) z1;obtain⟨k3,k4⟩:=key _ y oo (Lj h2 h3) z2;obtain⟨k5,k6⟩:=key _ p oo h3 z3;have q1:=k2 oo;have q2:=k4 oo;have q3:=k6 oo;omega
section
variable (h:Adds P V S ap R p)
include h
theorem Adds.uniq{x x' y:Int}(h1:Vis P R p x y)(h2:Vis P R p x' y):x=x':=by
 by_cases e:x=x'
 .exact e
 exfalso;obtain⟨s1,s2,n1,f1⟩:=h.r1 x y h1.1;obtain⟨s3,_,n2,f2⟩:=h.r1 x' y h2.1;have g1:=f1 x' s3;have g2:=f2 x s1;have e1:crs (P x') (P y) (P x) = -crs (P x) (P y) (P x'):=by unfold crs;grind
 have z:crs (P x) (P y) (P x')=0:=oo;have a1:=h.r2 x y h1 x' s3 (fun q=>e q.symm) n2 z;have a2:=h.r2 x' y h2 x s1 e n1 oo;have v1:=h1.2;have v2:=h2.2;have e2:crs (P y) (P p) (P x)=crs (P x) (P y) (P p):=Bq _ _ _;have e3:crs (P y) (P p) (P x')=crs (P x') (P y) (P p):=Bq _ _ _;have e4:crs (P p) (P x') (P x) = -crs (P p) (P x) (P x'):=Bs _ _ _;omega
theorem Adds.uniq2{x y y':Int}(h1:Vis P R p x y)(h2:Vis P R p x y'):y=y':=by
 by_cases e:y=y'
 .exact e
 exfalso;obtain⟨s1,s2,n1,f1⟩:=h.r1 x y h1.1;obtain⟨_,s3,n2,f2⟩:=h.r1 x y' h2.1;have g1:=f1 y' s3;have g2:=f2 y s2;have e1:crs (P x) (P y') (P y) = -crs (P x) (P y) (P y'):=Bs _ _ _;have z:crs (P x) (P y) (P y')=0:=oo;have a1:=h.r2 x y h1 y' s3 n2.symm (fun q=>e q.symm) z;have a2:=h.r2 x y' h2 y s2 n1.symm e oo;have v1:=h1.2;have v2:=h2.2;have e2:crs (P p) (P x) (P y)=crs (P x) (P y) (P p):=by rw[<-Bq,<-Bq]
 have e3:crs (P p) (P x) (P y')=crs (P x) (P y') (P p):=by rw[<-Bq,<-Bq]
 have e4:crs (P y') (P p) (P y) = -crs (P y) (P p) (P y'):=by unfold crs;grind
 omega
theorem Adds.emp{x y:Int}(hv:Vis P R p x y)(d:Int)(hd:V d)(n1:d≠x)(n2:d≠y)(n3:d≠p):crs (P x) (P y) (P d)<0\/crs (P y) (P p) (P d)<0\/crs (P p) (P x) (P d)<0:=by
 obtain⟨s1,s2,_,f1⟩:=h.r1 x y hv.1
 by_cases hs:S d
 .have:=f1 d hs
  by_cases c:crs (P x) (P y) (P d)=0
  .exact .inr (h.r2 x y hv d hs n1 n2 c)
  .exact .inl oo
 .exact Azo (h.before x s1) (h.before y s2) (h.behind d hd hs n3) hv.2
theorem Adds.news{i j k:Int}(hn:New P R p i j k):(S i\/i=p)/\(S j\/j=p)/\(S k\/k=p):=by
 rcases hn with⟨hv,rfl⟩|⟨hv,rfl⟩|⟨hv,rfl⟩
 .obtain⟨s1,s2,_⟩:=h.r1 _ _ hv.1;exact⟨.inl s1,.inl s2,.inr rfl⟩
 .obtain⟨s1,s2,_⟩:=h.r1 _ _ hv.1;exact⟨.inl s2,.inr rfl,.inl s1⟩
 .obtain⟨s1,s2,_⟩:=h.r1 _ _ hv.1;exact⟨.inr rfl,.inl s1,.inl s2⟩
theorem Adds.old{i j k:Int}(hk:ap i j=some k):S i/\S j/\S k:=⟨h.used _ _ _ hk,h.used _ _ _ (h.tri.rot _ _ _ hk),h.used _ _ _ (h.tri.rot2 hk)⟩
variable (hA:∀i j k,ap' i j=some k↔ap i j=some k\/New P R p i j k)
include hA
theorem Adds.nbrs{s m:Int}(hm:ap' s m≠none\/ap' m s≠none):(S s/\S m/\((ap s m≠none\/ap m s≠none)\/∀i j,ap i j=none))\/(m=p/\S s/\((∃y,Vis P R p s y)\/∃x,Vis P R p x s))\/(s=p/\S m/\((∃y,Vis P R p m y)\/∃x,Vis P R p x m)):=by
 have key:∀a b,ap' a b≠none->(S a/\S b/\((ap a b≠none\/ap b a≠none)\/∀i j,ap i j=none))\/(b=p/\S a/\((∃y,Vis P R p a y)\/∃x,Vis P R p x a))\/(a=p/\S b/\((∃y,Vis P R p b y)\/∃x,Vis P R p x b)):=by
  intro a b hab;obtain⟨c,hc⟩:=Option.ne_none_iff_exists'.1 hab;rcases (hA a b c).1 hc with g|⟨hv,rfl⟩|⟨hv,rfl⟩|⟨hv,rfl⟩
  .exact .inl ⟨(h.old g).1,(h.old g).2.1,.inl (.inl (by rw[g];simp))⟩
  .obtain⟨s1,s2,_⟩:=h.r1 _ _ hv.1;rcases h.r5 _ _ hv with g|⟨g,_⟩
   .exact .inl ⟨s1,s2,.inl (.inr g)⟩
   .exact .inl ⟨s1,s2,.inr g⟩
  .exact .inr (.inl ⟨rfl,(h.r1 _ _ hv.1).2.1,.inr ⟨_,hv⟩⟩)
  .exact .inr (.inr ⟨rfl,(h.r1 _ _ hv.1).1,.inl ⟨_,hv⟩⟩)
 rcases hm with hm|hm
 .exact key s m hm
 .rcases key m s hm with⟨g1,g2,g3|g3⟩|⟨g1,g2,g3⟩|⟨g1,g2,g3⟩
  .exact .inl ⟨g2,g1,.inl g3.symm⟩
  .exact .inl ⟨g2,g1,.inr g3⟩
  .exact .inr (.inr ⟨g1,g2,g3⟩)
  .exact .inr (.inl ⟨g1,g2,g3⟩)
theorem Adds.tri':Tri P V ap':=by
 have rot':∀i j k,ap' i j=some k->ap' j k=some i:=fun i j k hk=>by
  rcases (hA i j k).1 hk with g|g
  .exact (hA _ _ _).2 (.inl (h.tri.rot _ _ _ g))
  .exact (hA _ _ _).2 (.inr g.rot)
 have e1:∀x y:Int,crs (P y) (P p) (P x)=crs (P x) (P y) (P p):=fun x y=>Bq _ _ _
 have e2:∀x y:Int,crs (P p) (P x) (P y)=crs (P x) (P y) (P p):=fun x y=>by rw[<-Bq,<-Bq]
 refine⟨rot',fun i j k hk=>?_,fun i j k hk d hd n1 n2 n3=>?_,fun s a b m hs hm=>?_⟩
 .rcases (hA i j k).1 hk with g|⟨hv,rfl⟩|⟨hv,rfl⟩|⟨hv,rfl⟩
  .exact h.tri.ccw _ _ _ g
  .obtain⟨s1,s2,_⟩:=h.r1 _ _ hv.1;exact⟨h.sv _ s1,h.sv _ s2,h.vp,hv.2⟩
  .obtain⟨s1,s2,_⟩:=h.r1 _ _ hv.1;exact⟨h.sv _ s2,h.vp,h.sv _ s1,by rw[e1];exact hv.2⟩
  .obtain⟨s1,s2,_⟩:=h.r1 _ _ hv.1;exact⟨h.vp,h.sv _ s1,h.sv _ s2,by rw[e2];exact hv.2⟩
 .rcases (hA i j k).1 hk with g|⟨hv,rfl⟩|⟨hv,rfl⟩|⟨hv,rfl⟩
  .exact h.tri.emp _ _ _ g d hd n1 n2 n3
  .exact h.emp hv d hd n1 n2 n3
  .rcases h.emp hv d hd n3 n1 n2 with g|g|g <;> simp[g]
  .rcases h.emp hv d hd n2 n3 n1 with g|g|g <;> simp[g]
 .rintro⟨g1,g2⟩;have hn:=h.nbrs hA hm;rcases (hA s a b).1 hs with g|⟨hv,rfl⟩|⟨hv,rfl⟩|⟨hv,rfl⟩
  ·-- an old triangle
   obtain⟨ss,sa,sb⟩:=h.old g;obtain⟨_,_,_,cab⟩:=h.tri.ccw _ _ _ g;rcases hn with⟨_,_,hn|hn⟩|⟨rfl,_,hn⟩|⟨rfl,_,_⟩
   .exact h.tri.cone s a b m g hn ⟨g1,g2⟩
   .rw[hn] at g;cases g
   .rcases hn with⟨y,hv⟩|⟨x,hv⟩
    .obtain⟨_,_,_,f⟩:=h.r1 _ _ hv.1;have h1:=f a sa;have h2:=f b sb;have h3:=hv.2;have hp:=Wb (P s) (P a) (P b) (P y) (P m);rw[Bs (P s) (P m) (P b),Bs (P s) (P y) (P a),Bs (P s) (P y) (P b)] at hp;have t1:=Int.mul_pos cab h3;have t2:=Int.mul_nonneg (show 0<=-crs (P s) (P y) (P a) by omega) (Int.le_of_lt g2);have t3:=Int.mul_nonneg (Int.le_of_lt g1) (show 0<=-crs (P s) (P y) (P b) by omega);rw[Int.mul_neg] at hp;omega
    .obtain⟨_,_,_,f⟩:=h.r1 _ _ hv.1;have h1:=f a sa;have h2:=f b sb;have h3:=hv.2;have q:∀d,crs (P x) (P s) (P d)=crs (P s) (P d) (P x):=fun d=>(Bq _ _ _).symm
     rw[q] at h1 h2 h3;have hp:=Wb (P s) (P a) (P b) (P m) (P x);rw[Bs (P s) (P m) (P b)] at hp;have t1:=Int.mul_pos cab h3;have t2:=Int.mul_nonneg (Int.le_of_lt g1) (show 0<=-crs (P s) (P b) (P x) by omega);have t3:=Int.mul_nonneg (show 0<=-crs (P s) (P a) (P x) by omega) (Int.le_of_lt g2);have t4:crs (P s) (P a) (P x) * -crs (P s) (P m) (P b) = -crs (P s) (P a) (P x)*crs (P s) (P m) (P b):=by grind
     have t5:crs (P s) (P a) (P m) * -crs (P s) (P b) (P x) = -(crs (P s) (P a) (P m)*crs (P s) (P b) (P x)):=Int.mul_neg _ _;omega
   .exact h.np ss
  ·-- at x,from y to the new place
   obtain⟨s1,s2,_,f⟩:=h.r1 _ _ hv.1;rcases hn with⟨_,sm,_⟩|⟨rfl,_,_⟩|⟨rfl,_,_⟩
   .have:=f m sm;omega
   .rw[Cd] at g2;omega
   .exact h.np s1
  ·-- at y,from the new place to x
   obtain⟨s1,s2,_,f⟩:=h.r1 _ _ hv.1;rcases hn with⟨_,sm,_⟩|⟨rfl,_,_⟩|⟨rfl,_,_⟩
   .have:=f m sm;rw[Bq] at g2;omega
   .rw[Cd] at g1;omega
   .exact h.np s2
  ·-- at the new place
   obtain⟨s1,s2,_,f⟩:=h.r1 _ _ hv.1;rcases hn with⟨ss,_,_⟩|⟨rfl,ss,_⟩|⟨_,sm,hn⟩
   .exact h.np ss
   .exact h.np ss
   ·obtain⟨u,w,hu,hm0⟩:∃ u w:Int,Vis P R s u w/\crs (P u) (P w) (P m)=0:=by
     rcases hn with⟨y,hy⟩|⟨x,hx⟩
     .exact⟨m,y,hy,Gt _ _⟩
     .exact⟨x,m,hx,Cd _ _⟩
    obtain⟨_,_,_,fu⟩:=h.r1 _ _ hu.1;have q1:=fu a s1;have q2:=fu b s2;have q3:=hu.2;have q4:=f m sm;have hi:=Alq (P s) (P a) (P b) (P u) (P w) (P m);rw[hm0,Int.mul_zero] at hi;have r1:crs (P b) (P s) (P m)=crs (P s) (P m) (P b):=by rw[<-Bq]
    rw[r1] at hi;have t1:=Int.mul_nonneg (show 0<=-crs (P a) (P b) (P m) by omega) (Int.le_of_lt q3);have t2:=Int.mul_nonneg (Int.le_of_lt g2) (show 0<=-crs (P u) (P w) (P a) by omega);have t3:=Int.mul_nonneg (Int.le_of_lt g1) (show 0<=-crs (P u) (P w) (P b) by omega);rw[Int.neg_mul] at t1;rw[Int.mul_neg] at t2 t3;have z:crs (P a) (P b) (P m)*crs (P u) (P w) (P s)=0:=oo;have z2:crs (P a) (P b) (P m)=0:=by
     rcases Int.mul_eq_zero.1 z with g|g
     .exact g
     .omega
    have hne:m≠a/\m≠b:=by
     refine⟨fun e=>?_,fun e=>?_⟩
     .subst e;rw[Cd] at g1;omega
     .subst e;rw[Cd] at g2;omega
    rcases h.r2 a b hv m sm hne.1 hne.2 z2 with g|g
    .rw[r1] at g;omega
    .omega
theorem Adds.cov'(hc:Cov P S ap):Cov P (fun i=>S i\/i=p) ap':=by
 intro i j k hk hn d hd;have hn':ap j i=none/\∀x,¬New P R p j i x:=by
  refine⟨?_,fun x hx=>?_⟩
  .rcases e:ap j i with _|x
   .rfl
   .rw[(hA j i x).2 (.inl e)] at hn;cases hn
  .rw[(hA j i x).2 (.inr hx)] at hn;cases hn
 rcases (hA i j k).1 hk with g|⟨hv,rfl⟩|⟨hv,rfl⟩|⟨hv,rfl⟩
 .rcases hd with hd|rfl
  .exact hc _ _ _ g hn'.1 d hd
  .have hr:=h.r6 _ _ _ g hn'.1;have:¬0<crs (P j) (P i) (P d):=fun hp=>hn'.2 d (.inl ⟨⟨hr,hp⟩,rfl⟩)
   rw[Cf] at this;omega
 .rcases hd with hd|rfl
  .rcases h.r5 _ _ hv with q|⟨_,q⟩
   .exact absurd hn'.1 q
   .exact q d hd
  .exact Int.le_of_lt hv.2
 .rcases hd with hd|rfl
  .rcases (h.r3 _ _ hv).1 with⟨z,hz⟩|q
   .exact absurd (.inr (.inr ⟨hz,rfl⟩)) (hn'.2 z)
   .exact q d hd
  .rw[Cd];exact Int.le_refl _
 .rcases hd with hd|rfl
  .rcases (h.r3 _ _ hv).2 with⟨z,hz⟩|q
   .exact absurd (.inr (.inl ⟨hz,rfl⟩)) (hn'.2 z)
   .exact q d hd
  .rw[Gt];exact Int.le_refl _
theorem Adds.used':∀i j k,ap' i j=some k->S i\/i=p:=by
 intro i j k hk;rcases (hA i j k).1 hk with g|g
 .exact .inl (h.used _ _ _ g)
 .exact (h.news g).1
end
end
section
theorem Bm{α:Type}[DecidableEq α]:∀{l m:List α},l.Nodup->(∀x∈l,x∈m)->l.length<=m.length
 |[],_,_,_=>Nat.zero_le _
 |x::r,m,hd,hs=>by
  rw[nodup_cons] at hd;have hx:=hs x mem_cons_self;have:=Bm (l:=r) (m:=m.erase x) hd.2 fun y hy=>(mem_erase_of_ne (fun e=>hd.1 (by rw[<-e];exact hy))).2 (hs y (mem_cons_of_mem _ hy))
  rw[length_erase_of_mem hx] at this;have:0<m.length:=length_pos_of_mem hx;simp only[length_cons];omega
theorem Xl{n:Nat}:(inds n).Nodup:=by
 unfold inds List.Nodup;rw[pairwise_map];exact nodup_range.imp fun h e=>h oo
variable {P:Int->Ab}{S:Int->Prop}{ap:Ap}{p:Int}{n:Nat}
def Rim(ap:Ap)(x y:Int):Prop:=(∃k,ap y x=some k)/\ap x y=none
def outs(ap:Ap)(n:Nat)(s:Int):LI:=(inds n).filter fun m=>(ap s m).isSome
def ins(ap:Ap)(n:Nat)(s:Int):LI:=(inds n).filter fun m=>(ap m s).isSome
theorem Xm{V:Int->Prop}(h:Tri P V ap)(hV:∀i,V i↔inN n i){s m:Int}:m∈outs ap n s↔∃k,ap s m=some k:=by
 unfold outs;rw[mem_filter,Wc,Option.isSome_iff_exists];exact⟨fun h=>h.2,fun ⟨k,hk⟩=>⟨(hV _).1 (h.ccw _ _ _ hk).2.1,k,hk⟩⟩
theorem Aak{V:Int->Prop}(h:Tri P V ap)(hV:∀i,V i↔inN n i){s m:Int}:m∈ins ap n s↔∃k,ap m s=some k:=by
 unfold ins;rw[mem_filter,Wc,Option.isSome_iff_exists];exact⟨fun h=>h.2,fun ⟨k,hk⟩=>⟨(hV _).1 (h.ccw _ _ _ hk).1,k,hk⟩⟩
theorem Aal{α β:Type}{f:α->β}:∀{l:List α},(∀x∈l,∀y∈l,f x=f y->x=y)->l.Nodup->(l.map f).Nodup
 |[],_,_=>List.Pairwise.nil
 |a::r,hf,hd=>by
  rw[nodup_cons] at hd;rw[map_cons,nodup_cons];refine⟨fun hm=>?_,Aal (fun x hx y hy=>hf x (mem_cons_of_mem _ hx) y (mem_cons_of_mem _ hy)) hd.2⟩;obtain⟨b,hb,e⟩:=mem_map.1 hm;exact hd.1 (by rw[<-hf b (mem_cons_of_mem _ hb) a mem_cons_self e];exact hb)
theorem deg{V:Int->Prop}(h:Tri P V ap)(hV:∀i,V i↔inN n i)(s:Int):(ins ap n s).length=(outs ap n s).length:=by
 apply Nat.le_antisymm
 ·have h1:((ins ap n s).map fun m=>(ap m s).getD 0).Nodup:=Aal (fun x hx y hy e=>by
   obtain⟨k,hk⟩:=(Aak h hV).1 hx;obtain⟨k',hk'⟩:=(Aak h hV).1 hy;rw[hk,hk'] at e;simp only[Option.getD_some] at e;subst e;have e1:=h.rot _ _ _ hk;have e2:=h.rot _ _ _ hk';rw[e1] at e2;exact Option.some.inj e2) (Xl.filter _)
  have:=Bm (m:=outs ap n s) h1 fun w hw=>by
   obtain⟨m,hm,rfl⟩:=mem_map.1 hw;obtain⟨k,hk⟩:=(Aak h hV).1 hm;rw[hk];exact (Xm h hV).2 ⟨m,h.rot _ _ _ hk⟩
  rw[length_map] at this;exact this
 ·have h1:((outs ap n s).map fun m=>(ap s m).getD 0).Nodup:=Aal (fun x hx y hy e=>by
   obtain⟨k,hk⟩:=(Xm h hV).1 hx;obtain⟨k',hk'⟩:=(Xm h hV).1 hy;rw[hk,hk'] at e;simp only[Option.getD_some] at e;subst e;have e1:=h.rot2 hk;have e2:=h.rot2 hk';rw[e1] at e2;exact Option.some.inj e2) (Xl.filter _)
  have:=Bm (m:=ins ap n s) h1 fun w hw=>by
   obtain⟨m,hm,rfl⟩:=mem_map.1 hw;obtain⟨k,hk⟩:=(Xm h hV).1 hm;rw[hk];exact (Aak h hV).2 ⟨m,h.rot2 hk⟩
  rw[length_map] at this;exact this
theorem Avb{V:Int->Prop}(h:Tri P V ap)(hV:∀i,V i↔inN n i){x y:Int}(hr:Rim ap x y):∃z,Rim ap y z:=by
 obtain⟨⟨k,hk⟩,hn⟩:=hr;apply Classical.byContradiction;intro hno;have hd:=deg h hV y;have hx:x∈outs ap n y:=(Xm h hV).2 ⟨k,hk⟩;have:=Bm (l:=ins ap n y) (m:=(outs ap n y).erase x) (Xl.filter _) fun z hz=>by
  obtain⟨w,hw⟩:=(Aak h hV).1 hz;have hzx:z≠x:=fun e=>by subst e;rw[hw] at hn;cases hn
  rw[mem_erase_of_ne hzx,Xm h hV];rcases e:ap y z with _|u
  .exact absurd ⟨z,⟨w,hw⟩,e⟩ hno
  .exact⟨u,rfl⟩
 rw[length_erase_of_mem hx] at this;have:0<(outs ap n y).length:=length_pos_of_mem hx;omega
theorem Avc{V:Int->Prop}(h:Tri P V ap)(hV:∀i,V i↔inN n i){x y:Int}(hr:Rim ap x y):∃w,Rim ap w x:=by
 obtain⟨⟨k,hk⟩,hn⟩:=hr;apply Classical.byContradiction;intro hno;have hd:=deg h hV x;have hx:y∈ins ap n x:=(Aak h hV).2 ⟨k,hk⟩;have:=Bm (l:=outs ap n x) (m:=(ins ap n x).erase y) (Xl.filter _) fun z hz=>by
  obtain⟨w,hw⟩:=(Xm h hV).1 hz;have hzx:z≠y:=fun e=>by subst e;rw[hw] at hn;cases hn
  rw[mem_erase_of_ne hzx,Aak h hV];rcases e:ap z x with _|u
  .exact absurd ⟨z,⟨w,hw⟩,e⟩ hno
  .exact⟨u,rfl⟩
 rw[length_erase_of_mem hx] at this;have:0<(ins ap n x).length:=length_pos_of_mem hx;omega
theorem Azp{x y z q d k k':Ab}(h1:crs x y d<=0)(h2:crs y z d<=0)(h3:0<crs x y q)(h4:crs y z q<=0)(h5:crs x y z<=0)(h6:crs x y k<0)(h7:crs y z k<=0)(h8:crs y z k'<0):0<=crs y q d:=by
 have r:∀u,crs x y u=crs y u x:=fun u=>(Bq _ _ _).symm
 rw[r] at h1 h3 h5 h6;have hp:=Wb y q d x z;rw[Bs y z q,Bs y z d,Bs y z x] at hp
 by_cases c:crs y z x=0
 .exfalso;have p1:=Wb y x z q k;rw[Bs y z x,Bs y q x,Bs y k x,c] at p1;have t1:=Int.mul_nonneg (show 0<=-crs y k x by omega) (show 0<=-crs y z q by omega);have t2:=Int.mul_nonneg (Int.le_of_lt h3) (show 0<=-crs y z k by omega);have e1:-crs y k x*crs y z q = -(-crs y k x * -crs y z q):=by grind
  have e2:-crs y q x*crs y z k=crs y q x * -crs y z k:=by grind
  have z1:crs y q x * -crs y z k=0:=oo;have z2:crs y z k=0:=by
   rcases Int.mul_eq_zero.1 z1 with g|g <;> omega
  have p2:=Wb y z k' x k;rw[c,z2,Bs y k x] at p2;have t3:=Int.mul_pos_of_neg_of_neg h8 h6;have e3:crs y z k' * -crs y k x = -(crs y z k'*crs y k x):=Int.mul_neg _ _;omega
 ·have c':0 < -crs y z x:=by
   have:crs y z x<=0:=h5;omega
  have t1:=Int.mul_nonneg (Int.le_of_lt h3) (show 0<=-crs y z d by omega);have t2:=Int.mul_nonneg (show 0<=-crs y z q by omega) (show 0<=-crs y d x by omega);have e2:-crs y z q * -crs y d x = -(-crs y z q*crs y d x):=by grind
  exact Xc (x:=-crs y z x) (by rw[Int.mul_comm];omega) c'
theorem Avd{x y w q d k k':Ab}(h1:crs x y d<=0)(h2:crs w x d<=0)(h3:0<crs x y q)(h4:crs w x q<=0)(h5:crs x y w<=0)(h6:crs x y k<0)(h7:crs w x k<=0)(h8:crs w x k'<0):0<=crs q x d:=by
 have r:∀u,crs w x u=crs x u w:=fun u=>(Bq _ _ _).symm
 rw[r] at h2 h4 h7 h8;rw[show crs q x d = -crs x q d from Cf _ _ _];have hp:=Wb x q d y w;rw[Bs x y q,Bs x y d] at hp
 by_cases c:crs x y w=0
 .exfalso;have p1:=Wb x y w q k;rw[c,Bs x q w,Bs x k w] at p1;have t1:=Int.mul_nonneg (Int.le_of_lt h3) (show 0<=-crs x k w by omega);have t2:=Int.mul_nonneg (show 0<=-crs x y k by omega) (show 0<=-crs x q w by omega);have e2:crs x y k * -crs x q w = -(-crs x y k * -crs x q w):=by grind
  have z1:crs x y q * -crs x k w=0:=oo;have z2:crs x k w=0:=by
   rcases Int.mul_eq_zero.1 z1 with g|g <;> omega
  have p2:=Wb x y w k k';rw[c,Bs x k w,Bs x k' w,z2] at p2;have t3:=Int.mul_pos_of_neg_of_neg h6 h8;have e3:crs x y k * -crs x k' w = -(crs x y k*crs x k' w):=Int.mul_neg _ _;omega
 .have c':0 < -crs x y w:=oo;have t1:=Int.mul_nonneg (Int.le_of_lt h3) (show 0<=-crs x d w by omega);have t2:=Int.mul_nonneg (show 0<=-crs x y d by omega) (show 0<=-crs x q w by omega);have e2:-crs x y d * -crs x q w = -(crs x q w * -crs x y d):=by grind
  have e3:-crs x y q*crs x d w=crs x y q * -crs x d w:=by grind
  refine Xc (x:=-crs x y w) ?_ c';have e4:-crs x y w * -crs x q d=crs x q d*crs x y w:=by grind
  rw[e4];omega
theorem Ave(h:Tri P (inN n) ap)(hc:Cov P S ap)(used:∀i j k,ap i j=some k->S i)(sv:∀i,S i->inN n i)(vp:inN n p)(np:¬S p)(before:∀i,S i->befP (P i) (P p))(behind:∀i,inN n i->¬S i->i≠p->befP (P p) (P i)):Adds P (inN n) S ap (Rim ap) p:=by
 have old:∀{i j k},ap i j=some k->S i/\S j/\S k:=fun hk=>⟨used _ _ _ hk,used _ _ _ (h.rot _ _ _ hk),used _ _ _ (h.rot2 hk)⟩
 have r1:∀x y,Rim ap x y->S x/\S y/\x≠y/\∀d,S d->crs (P x) (P y) (P d)<=0:=by
  rintro x y ⟨⟨k,hk⟩,hn⟩;refine⟨(old hk).2.1,(old hk).1,(h.ne hk).1.symm,fun d hd=>?_⟩;have:=hc _ _ _ hk hn d hd;rw[Cf] at this;omega
 have far:∀x y,Rim ap x y->∃k,S k/\crs (P x) (P y) (P k)<0:=by
  rintro x y ⟨⟨k,hk⟩,hn⟩;refine⟨k,(old hk).2.2,?_⟩;have:=(h.ccw _ _ _ hk).2.2.2;rw[Cf] at this;omega
 refine⟨h,used,sv,vp,np,before,behind,r1,?_,?_,fun x y hr=>hr.2,?_,fun i j k hk hn=>⟨⟨k,hk⟩,hn⟩⟩
 .rintro x y ⟨⟨⟨k,hk⟩,hn⟩,hp⟩ d hd n1 n2 z;have ck:=(h.ccw _ _ _ hk).2.2.2;have nk:d≠k:=fun e=>by subst e;rw[Cf,z] at ck;omega
  have q1:=Wb (P x) (P k) (P d) (P y) (P p);have e1:crs (P x) (P d) (P y)=0:=by rw[Bs,z];rfl
  have e2:crs (P x) (P k) (P y)=crs (P y) (P x) (P k):=Bq _ _ _;have e3:crs (P x) (P d) (P p)=crs (P p) (P x) (P d):=Bq _ _ _;rw[e1,e2,e3,Int.mul_zero] at q1;have q2:=Wb (P y) (P d) (P k) (P x) (P p);have f1:crs (P y) (P d) (P x)=0:=by rw[Bq,z]
  have f2:crs (P y) (P k) (P x) = -crs (P y) (P x) (P k):=Bs _ _ _;have f3:crs (P y) (P x) (P p) = -crs (P x) (P y) (P p):=Cf _ _ _;have f4:crs (P y) (P d) (P p) = -crs (P y) (P p) (P d):=Bs _ _ _;have f5:crs (P y) (P d) (P k)=crs (P k) (P y) (P d):=Bq _ _ _;rw[f1,f2,f3,f4,f5,Int.zero_mul] at q2;rcases h.emp _ _ _ hk d (sv d hd) n2 n1 nk with g|g|g
  .rw[Cf,z] at g;omega
  .right;rcases Int.lt_or_le (crs (P p) (P x) (P d)) 0 with c|c
   .exact c
   .have t1:=Int.mul_neg_of_neg_of_pos g hp;have t2:=Int.mul_nonneg (Int.le_of_lt ck) c;omega
  .left;rcases Int.lt_or_le (crs (P y) (P p) (P d)) 0 with c|c
   .exact c
   .have t1:=Int.mul_neg_of_neg_of_pos g hp;have t2:=Int.mul_nonneg c (Int.le_of_lt ck);have e4:crs (P k) (P y) (P d) * -crs (P x) (P y) (P p) = -(crs (P k) (P y) (P d)*crs (P x) (P y) (P p)):=Int.mul_neg _ _;have e5:-crs (P y) (P p) (P d) * -crs (P y) (P x) (P k)=crs (P y) (P p) (P d)*crs (P y) (P x) (P k):=Int.neg_mul_neg _ _;omega
 .rintro x y ⟨hr,hp⟩;obtain⟨s1,s2,_,f⟩:=r1 x y hr;obtain⟨k,sk,hk⟩:=far x y hr;constructor
  .obtain⟨z,hz⟩:=Avb h (fun _=>Iff.rfl) hr;obtain⟨_,sz,_,fz⟩:=r1 y z hz;obtain⟨k',sk',hk'⟩:=far y z hz
   by_cases c:0<crs (P y) (P z) (P p)
   .exact .inl ⟨z,hz,c⟩
   .exact .inr fun d hd=>Azp (f d hd) (fz d hd) hp oo (f z sz) hk (fz k sk) hk'
  .obtain⟨w,hw⟩:=Avc h (fun _=>Iff.rfl) hr;obtain⟨sw,_,_,fw⟩:=r1 w x hw;obtain⟨k',sk',hk'⟩:=far w x hw
   by_cases c:0<crs (P w) (P x) (P p)
   .exact .inl ⟨w,hw,c⟩
   .exact .inr fun d hd=>Avd (f d hd) (fw d hd) hp oo (f w sw) hk (fw k sk) hk'
 .rintro x y ⟨⟨⟨k,hk⟩,hn⟩,hp⟩;exact .inl (by rw[hk];simp)
end
section
variable {P:Int->Ab}{S:Int->Prop}{ap:Ap}{p:Int}{n:Nat}
theorem Atd{V:Int->Prop}(h:∀i j,ap i j=none):Tri P V ap :=
 ⟨fun i j k hk=>(by rw[h] at hk;cases hk),fun i j k hk=>(by rw[h] at hk;cases hk),fun i j k hk=>(by rw[h] at hk;cases hk),fun s a b m hk=>(by rw[h] at hk;cases hk)⟩
def Amq(u:Nat->Int)(m:Nat)(x y:Int):Prop:=∃i,i+1<m/\x=u i/\y=u (i+1)
theorem Ahl{u:Nat->Int}{m:Nat}(he:∀i j,ap i j=none)(hS:∀i,S i↔∃k,k<m/\i=u k)(col:∀a b c,S a->S b->S c->crs (P a) (P b) (P c)=0)(inc:∀i,i+1<m->0<crs (P (u i)) (P (u (i+1))) (P p))(sv:∀i,S i->inN n i)(vp:inN n p)(np:¬S p)(before:∀i,S i->befP (P i) (P p))(behind:∀i,inN n i->¬S i->i≠p->befP (P p) (P i)):Adds P (inN n) S ap (Amq u m) p:=by
 have su:∀k,k<m->S (u k):=fun k hk=>(hS _).2 ⟨k,hk,rfl⟩
 have hg:∀a b,S a->S b->0<m->crs (P a) (P b) (P p)=crs (P (u 0)) (P b) (P p)-crs (P (u 0)) (P a) (P p):=fun a b ha hb hm=>by
  have e:=Zt (P (u 0)) (P a) (P b) (P p);rw[col _ _ _ (su 0 hm) ha hb] at e;have e2:crs (P b) (P (u 0)) (P p) = -crs (P (u 0)) (P b) (P p):=Cf _ _ _;omega
 have mono:∀i j,i<j->j<m->crs (P (u 0)) (P (u i)) (P p)<crs (P (u 0)) (P (u j)) (P p):=by
  intro i j hij
  induction j with
  |zero=>omega
  |succ j ih=>
   intro hj;have h1:=inc j hj;rw[hg _ _ (su j oo) (su (j+1) hj) oo] at h1
   by_cases e:i=j
   .subst e;omega
   .have:=ih oo oo;omega
 refine⟨Atd he,fun i j k hk=>(by rw[he] at hk;cases hk),sv,vp,np,before,behind,?_,?_,?_,fun x y _=>he x y,?_,fun i j k hk=>(by rw[he] at hk;cases hk)⟩
 .rintro x y ⟨i,hi,rfl,rfl⟩;refine⟨su i oo,su (i+1) hi,?_,fun d hd=>by rw[col _ _ _ (su i oo) (su (i+1) hi) hd];exact Int.le_refl _⟩;exact (Aat (P:=P) (c:=p) (by have:=inc i hi;omega)).1
 .rintro x y ⟨⟨i,hi,rfl,rfl⟩,hp⟩ d hd n1 n2 _;obtain⟨j,hj,rfl⟩:=(hS d).1 hd;have e1:crs (P (u (i+1))) (P p) (P (u j))=crs (P (u j)) (P (u (i+1))) (P p):=Bq _ _ _;have e2:crs (P p) (P (u i)) (P (u j))=crs (P (u i)) (P (u j)) (P p):=by rw[<-Bq,<-Bq]
  rw[e1,e2,hg _ _ hd (su (i+1) hi) oo,hg _ _ (su i oo) hd oo];have nij:j≠i:=fun e=>n1 (by rw[e])
  have nij':j≠i+1:=fun e=>n2 (by rw[e])
  rcases Nat.lt_or_ge j i with c|c
  .have:=mono j i c oo;right;omega
  .have:=mono (i+1) j oo hj;left;omega
 .rintro x y ⟨⟨i,hi,rfl,rfl⟩,hp⟩;constructor
  .by_cases c:i+2<m
   .exact .inl ⟨u (i+2),⟨i+1,c,rfl,rfl⟩,inc (i+1) c⟩
   .right;intro d hd;obtain⟨j,hj,rfl⟩:=(hS d).1 hd;have e1:crs (P (u (i+1))) (P p) (P (u j))=crs (P (u j)) (P (u (i+1))) (P p):=Bq _ _ _;rw[e1,hg _ _ hd (su (i+1) hi) oo]
    by_cases e:j=i+1
    .subst e;omega
    .have:=mono j (i+1) oo hi;omega
  .by_cases c:0<i
   .left;obtain⟨i',rfl⟩:∃i',i=i'+1:=⟨i-1,oo⟩;exact⟨u i',⟨i',oo,rfl,rfl⟩,inc i' oo⟩
   .right;intro d hd;obtain⟨j,hj,rfl⟩:=(hS d).1 hd;have e2:crs (P p) (P (u i)) (P (u j))=crs (P (u i)) (P (u j)) (P p):=by rw[<-Bq,<-Bq]
    rw[e2,hg _ _ (su i oo) hd oo]
    by_cases e:j=i
    .subst e;omega
    .have:=mono i j oo hj;omega
 .rintro x y ⟨⟨i,hi,rfl,rfl⟩,hp⟩;exact .inr ⟨he,fun d hd=>by rw[col _ _ _ (su i oo) (su (i+1) hi) hd];exact Int.le_refl _⟩
theorem Ate{a b c q:Ab}(h1:befP a b)(h2:befP b c)(h0:crs a b c=0)(hq:0<crs a b q):0<crs b c q:=by
 have e1:crs b c q*(b.X-a.X)=crs a b q*(c.X-b.X)-(q.X-b.X)*crs a b c:=by unfold crs;grind
 have e2:crs b c q*(b.Y-a.Y)=crs a b q*(c.Y-b.Y)-(q.Y-b.Y)*crs a b c:=by unfold crs;grind
 have e3:(b.X-a.X)*(c.Y-b.Y)-(b.Y-a.Y)*(c.X-b.X)=crs a b c:=by unfold crs;grind
 rw[h0,Int.mul_zero,Int.sub_zero] at e1 e2;rw[h0] at e3
 by_cases g:a.X<b.X
 ·-- then c lies further to the right
  have hc:b.X<c.X:=by
   rcases Int.lt_or_le b.X c.X with k|k
   .exact k
   .have hx:c.X=b.X:=by unfold befP at h2;omega
    have hy:b.Y<c.Y:=by unfold befP at h2;omega
    have z:c.X-b.X=0:=oo;rw[z,Int.mul_zero] at e3;have:=Int.mul_pos (show 0<b.X-a.X by omega) (show 0<c.Y-b.Y by omega);omega
  have:=Int.mul_pos hq (show 0<c.X-b.X by omega);exact Uj (x:=b.X-a.X) (by rw[Int.mul_comm];omega) oo
 .have hx:a.X=b.X:=by unfold befP at h1;omega
  have hy:a.Y<b.Y:=by unfold befP at h1;omega
  have hc:b.X=c.X:=by
   have z:b.X-a.X=0:=oo;rw[z,Int.zero_mul] at e3;have:(b.Y-a.Y)*(c.X-b.X)=0:=oo;rcases Int.mul_eq_zero.1 this with k|k <;> omega
  have hy2:b.Y<c.Y:=by unfold befP at h2;omega
  have:=Int.mul_pos hq (show 0<c.Y-b.Y by omega);exact Uj (x:=b.Y-a.Y) (by rw[Int.mul_comm];omega) oo
theorem Aea{a b u w z:Ab}(hab:¬Cl a b)(h1:crs a b u=0)(h2:crs a b w=0)(h3:crs a b z=0):crs u w z=0:=by
 have e1:(b.X-a.X)*crs u w z=(w.X-u.X)*(crs a b z-crs a b u)-(z.X-u.X)*(crs a b w-crs a b u):=by unfold crs;grind
 have e2:(b.Y-a.Y)*crs u w z=(w.Y-u.Y)*(crs a b z-crs a b u)-(z.Y-u.Y)*(crs a b w-crs a b u):=by unfold crs;grind
 rw[h1,h2,h3] at e1 e2;simp only[Int.sub_self,Int.mul_zero] at e1 e2;rcases Int.mul_eq_zero.1 e1 with g|g
 .rcases Int.mul_eq_zero.1 e2 with g'|g'
  .exact absurd ⟨oo,oo⟩ hab
  .exact g'
 .exact g
end
section
open Go.Shelf Go.Sort
theorem Ej{α:Type}(cf:α->α->Int)(l:List α):(Bi cf l).Perm l:=mergeSort_perm _ _
theorem Nw{α:Type}{p:α->Prop}{cf:α->α->Int}(hT:Zq p cf){l:List α}(hp:∀x∈l,p x):(Bi cf l).Pairwise fun x y=>¬cf y x<0:=by
 obtain⟨l',rfl⟩:∃l':List {x // p x},l=l'.map Subtype.val:=⟨l.attach.map fun x=>⟨x.1,hp x.1 x.2⟩,by simp only[map_map,Function.comp_def];exact (attach_map_subtype_val _).symm⟩;rw[Ado,pairwise_map];have:=pairwise_mergeSort (le:=fun x y:{x // p x}=>!(ltOf fun x y:{x // p x}=>cf x.1 y.1) y x)
  (fun a b c h1 h2=>by
   simp only[Bool.not_eq_true',Wa] at *;intro h3
   by_cases h4:cf b.1 a.1<0
   .exact h1 h4
   .by_cases h5:cf c.1 b.1<0
    .exact h2 h5
    .by_cases h6:cf a.1 b.1<0
     .exact h2 (hT.trans _ _ _ c.2 a.2 b.2 h3 h6)
     .have:=hT.tot _ _ a.2 b.2 h6 h4;rw[this] at h3;exact h2 h3)
  (fun a b=>by
   by_cases h1:cf b.1 a.1<0
   .have:¬cf a.1 b.1<0:=fun h2=>hT.irr _ a.2 (hT.trans _ _ _ a.2 b.2 a.2 h2 h1)
    rw[Bool.or_eq_true];right;rw[Bool.not_eq_true'];exact Wa.2 this
   .rw[Bool.or_eq_true];left;rw[Bool.not_eq_true'];exact Wa.2 h1) l'
 exact this.imp fun h=>by simpa[Wa] using h
theorem Acd{α:Type}{p:α->Prop}{cf:α->α->Int}(hT:Zq p cf){l l':List α}(hp:∀x∈l,p x)(hl:l.Pairwise fun x y=>¬cf y x<0)(hl':l'.Pairwise fun x y=>¬cf y x<0)(h:l.Perm l'):l=l' :=
 List.Perm.eq_of_pairwise (fun a b ha hb h1 h2=>hT.tot a b (hp a ha) (hp b (h.mem_iff.2 hb)) h2 h1) hl hl' h
theorem Up{α:Type}{p:α->Prop}{cf:α->α->Int}(hT:Zq p cf){l l':List α}(hp:∀x∈l,p x)(h:l.Perm l'):Bi cf l=Bi cf l':=by
 have hp':∀x∈l',p x:=fun x hx=>hp x (h.mem_iff.2 hx)
 refine Acd hT (fun x hx=>hp x ((Ej cf l).mem_iff.1 hx)) (Nw hT hp) (Nw hT hp') (((Ej cf l).trans h).trans (Ej cf l').symm)
theorem Ga{α:Type}{cf:α->α->Int}{l:List α}{x:α}:x∈Bi cf l↔x∈l:=(Ej cf l).mem_iff
theorem Ae9{κ υ:Type}{m:List (κ×υ)}(hm:Cv m){q:κ×υ}(hq:q∈m):m.Perm (q::mdel m q.1):=by
 induction m with
 |nil=>cases hq
 |cons a r ih=>
  obtain⟨h1,h2⟩:=pairwise_cons.1 hm;unfold mdel;rcases mem_cons.1 hq with rfl|hq
  .rw[filter_cons_of_neg s_,filter_eq_self.2 (fun p hp=>by simp only[decide_eq_true_eq];exact fun e=>h1 p hp e.symm)]
  .rw[filter_cons_of_pos (by simp only[decide_eq_true_eq];exact h1 q hq)];exact ((ih h2 hq).cons a).trans (List.Perm.swap _ _ _)
theorem Afa{κ υ β ρ:Type}{BN:List β->Option (Sum (List β) (List β))}{BS:List β->κ×υ->Option (Sum (List β) (List β))}{m:List (κ×υ)}(hm:Cv m)(f:κ×υ->List β)(hf:∀q,(f q).length<=1)(hN:∀s,BN s=some (.inr s))(hS:∀s,∀q∈m,s.length<m.length->BS s q=some (.inl (s++f q))){k:List β->Option ρ}{r:ρ}(hk:∀l,l.Perm (m.flatMap f)->k l=some r):Akb BN BS m [] k=some r:=by
 have key:∀(n:Nat) (l:List (κ×υ)) (s:List β),l.length=n->Cv l->(∀q∈l,q∈m)->s.length+l.length<=m.length->(∀q:List (κ×υ),q.Perm l->k (s++q.flatMap f)=some r)->MR (mkN BN k) (mkS BS k) l s r:=by
  intro n
  induction n with
  |zero=>
   intro l s hn _ _ _ hk;have:l=[]:=eq_nil_of_length_eq_zero hn;subst this;refine .nil ?_;have:=hk [] (List.Perm.refl _);rw[flatMap_nil,append_nil] at this;unfold mkN;rw[hN];simp only[this]
  |succ n ih=>
   intro l s hn hl hs hlen hk;have hb:∀q∈l,mkS BS k s q=some (.inl (s++f q)):=fun q hq=>by
    unfold mkS mkN;simp only[hS s q (hs q hq) oo]
   refine .cons (fun e=>by subst e;simp at hn) (fun q hq=>by rw[hb q hq];rfl) (fun q hq t' e=>by rw[hb q hq] at e;cases e) (fun q hq s' e=>?_);rw[hb q hq] at e;cases e
   have hp:=Ae9 hl hq;have hlen2:=hp.length_eq;rw[length_cons] at hlen2;refine ih (mdel l q.1) (s++f q) oo (hl.del _) (fun x hx=>hs x (Lw.1 hx).1) (by rw[length_append];have:=hf q;omega) (fun w hw=>?_);rw[append_assoc,<-flatMap_cons];exact hk _ ((hw.cons q).trans hp.symm)
 refine Arr (key m.length m [] rfl hm (fun _ h=>h) s_ fun q hq=>?_);rw[nil_append];exact hk _ (List.Perm.flatMap_right f hq)
abbrev Mp:=List (Ac×Int)
structure MapN(n:Nat)(m:Mp):Prop where
 ok:Cv m
 key:∀q∈m,inN n q.1.a0/\inN n q.1.a1/\inN n q.2
theorem MapN.len{n:Nat}{m:Mp}(h:MapN n m):m.length<=n*n:=by
 have h1:(m.map fun q=>(q.1.a0.toNat*n+q.1.a1.toNat)).Nodup:=by
  unfold List.Nodup;rw[pairwise_map];refine List.Pairwise.imp_of_mem ?_ h.ok;intro a b ha hb hne e;obtain⟨⟨a1,a2⟩,⟨a3,a4⟩,_⟩:=h.key a ha;obtain⟨⟨b1,b2⟩,⟨b3,b4⟩,_⟩:=h.key b hb;have e1:a.1.a1.toNat=b.1.a1.toNat:=by
   have:=congrArg (· % n) e;simp only[Nat.mul_add_mod_self_right] at this
   rwa [Nat.mod_eq_of_lt oo,Nat.mod_eq_of_lt oo] at this
  have e2:a.1.a0.toNat=b.1.a0.toNat:=by
   rw[e1] at e;have e':a.1.a0.toNat*n=b.1.a0.toNat*n:=oo;exact Nat.eq_of_mul_eq_mul_right oo e'
  apply hne;obtain⟨⟨x,y⟩,c⟩:=a;obtain⟨⟨x',y'⟩,c'⟩:=b;simp only at *;rw[show x=x' by omega,show y=y' by omega]
 have:=Bm (m:=List.range (n*n)) h1 fun x hx=>by
  obtain⟨q,hq,rfl⟩:=mem_map.1 hx;obtain⟨⟨a1,a2⟩,⟨a3,a4⟩,_⟩:=h.key q hq;rw[mem_range];have h3:q.1.a0.toNat+1<=n:=oo;have:=Nat.mul_le_mul_right n h3;rw[Nat.add_mul] at this;omega
 rwa [length_map,length_range] at this
def rev2(k:Ac):Ac:=⟨k.a1,k.a0⟩
def rimF(m:Mp)(q:Ac×Int):List Ac:=if (mget m (rev2 q.1)).isSome=true then [] else [rev2 q.1]
def Xn(m:Mp)(q:Ac×Int):List Ac:=if q.1.a0<q.1.a1\/(mget m (rev2 q.1)).isSome=false then [⟨min q.1.a0 q.1.a1,max q.1.a0 q.1.a1⟩] else []
def triF(q:Ac×Int):List Ag:=if q.1.a0<q.1.a1/\q.1.a0<q.2 then [⟨q.1.a0,q.1.a1,q.2⟩] else []
theorem Atf{n:Nat}(hn:n<=1024){k:Ac}(h1:inN n k.a0)(h2:inN n k.a1):Ss k:=by
 unfold inN at h1 h2;exact⟨⟨oo,oo⟩,oo,oo⟩
theorem Uq{n:Nat}(hn:n<=1024){i j:Int}(h1:inN n i)(h2:inN n j):(-9223372036854775808<=i/\i<=9223372036854775807)/\-9223372036854775808<=j/\j<=9223372036854775807:=by
 unfold inN at h1 h2;exact⟨⟨oo,oo⟩,oo,oo⟩
theorem Af0{n:Nat}(hn:n<=1024):n*n<=1048576:=Nat.mul_le_mul hn hn
theorem Ou{α β:Type}{f:α->List β}(hf:∀q,(f q).length<=1):∀l:List α,(l.flatMap f).length<=l.length
 |[]=>s_
 |a::r=>by
  rw[flatMap_cons,length_append,length_cons];have:=hf a;have:=Ou hf r;omega
theorem Bcp{n:Nat}(hn:n<=1024){b:An}(hm:MapN n b.apex):Kz b=some (b,Bi cmp2 (b.apex.flatMap (rimF b.apex))):=by
 have hl:=hm.len;have hsq:=Af0 hn;have hf:∀q,(rimF b.apex q).length<=1:=fun q=>by unfold rimF;split <;> simp
 have hsm:∀x∈b.apex.flatMap (rimF b.apex),Ss x:=fun x hx=>by
  obtain⟨q,hq,hx⟩:=mem_flatMap.1 hx;unfold rimF at hx;split at hx
  .cases hx
  .rw[mem_singleton] at hx;subst hx;exact Atf hn (hm.key q hq).2.1 (hm.key q hq).1
 unfold Kz;rw[jn_d];refine Afa hm.ok (rimF b.apex) hf (fun s=>rfl) (fun s q hq hs=>?_) (fun l hp=>?_)
 .obtain⟨k1,k2,k3⟩:=hm.key q hq;unfold Rv;rw[gd_t (Uq hn k2 k1),Ad];unfold rimF rev2
  by_cases c:(mget b.apex (⟨q.1.a1,q.1.a0⟩:Ac)).isSome=true
  .rw[if_pos c,if_pos c,append_nil]
  .rw[if_neg c,if_neg c,gd_t oo]
 .have hlen:=hp.length_eq;have hfl:=Ou hf b.apex;dsimp only;rw[gd_t ⟨oo,fun x hx=>hsm x (hp.mem_iff.1 hx)⟩,Up tot2 (fun x hx=>hsm x (hp.mem_iff.1 hx)) hp]
theorem Avf{n:Nat}(hn:n<=1024){b:An}(hm:MapN n b.apex):Lt b=some (b,Bi cmp2 (b.apex.flatMap (Xn b.apex))):=by
 have hl:=hm.len;have hsq:=Af0 hn;have hf:∀q,(Xn b.apex q).length<=1:=fun q=>by unfold Xn;split <;> simp
 have hsm:∀x∈b.apex.flatMap (Xn b.apex),Ss x:=fun x hx=>by
  obtain⟨q,hq,hx⟩:=mem_flatMap.1 hx;obtain⟨k1,k2,k3⟩:=hm.key q hq;unfold Xn at hx;split at hx
  .rw[mem_singleton] at hx;subst hx;unfold inN at k1 k2;exact⟨⟨by simp only;omega,by simp only;omega⟩,by simp only;omega,by simp only;omega⟩
  .cases hx
 unfold Lt;rw[jn_d];refine Afa hm.ok (Xn b.apex) hf (fun s=>rfl) (fun s q hq hs=>?_) (fun l hp=>?_)
 .obtain⟨k1,k2,k3⟩:=hm.key q hq;unfold Py;rw[gd_t (Uq hn k2 k1),Ad,jn_d];unfold Xn rev2
  by_cases c:q.1.a0<q.1.a1
  .rw[if_pos c,if_pos (.inl c)];dsimp only;rw[if_pos rfl];unfold Si;rw[Ad,gd_t oo]
  .rw[if_neg c]
   by_cases d:(mget b.apex (⟨q.1.a1,q.1.a0⟩:Ac)).isSome=true
   .rw[d,if_neg (by simp;omega),append_nil];rfl
   .rw[Bool.not_eq_true] at d;rw[d,if_pos (.inr rfl)];dsimp only;rw[Bool.not_false,if_pos rfl];unfold Si;rw[Ad,gd_t oo]
 .have hlen:=hp.length_eq;have hfl:=Ou hf b.apex;dsimp only;rw[gd_t ⟨oo,fun x hx=>hsm x (hp.mem_iff.1 hx)⟩,Up tot2 (fun x hx=>hsm x (hp.mem_iff.1 hx)) hp]
theorem Aeb{n:Nat}(hn:n<=1024){b:An}(hm:MapN n b.apex):Gk b=some (b,Bi cmp3 (b.apex.flatMap triF)):=by
 have hl:=hm.len;have hsq:=Af0 hn;have hf:∀q,(triF q).length<=1:=fun q=>by unfold triF;split <;> simp
 unfold Gk;rw[jn_d];refine Afa hm.ok triF hf (fun s=>rfl) (fun s q hq hs=>?_) (fun l hp=>?_)
 .unfold Lu;rw[jn_d];unfold triF
  by_cases c:q.1.a0<q.1.a1
  .rw[if_pos c]
   by_cases d:q.1.a0<q.2
   .rw[decide_eq_true d,if_pos ⟨c,d⟩];dsimp only;rw[if_pos rfl,gd_t oo]
   .rw[decide_eq_false d,if_neg (by simp[d]),append_nil];rfl
  .rw[if_neg c,if_neg (by simp[c]),append_nil];rfl
 .have hlen:=hp.length_eq;have hfl:=Ou hf b.apex;dsimp only;rw[gd_t ⟨oo,fun x _=>trivial⟩,Up tot3 (fun x _=>trivial) hp]
end
section
def apM(m:Mp):Ap:=fun i j=>mget m ⟨i,j⟩
def putM(m:Mp)(i j k:Int):Mp:=mput (mput (mput m ⟨i,j⟩ k) ⟨j,k⟩ i) ⟨k,i⟩ j
def cutM(m:Mp)(i j k:Int):Mp:=mdel (mdel (mdel m ⟨i,j⟩) ⟨j,k⟩) ⟨k,i⟩
def Ahm(m:Mp)(i j k l:Int):Mp:=putM (putM (cutM (cutM m i j k) j i l) i l k) j k l
theorem Nb{i j a b:Int}:(⟨a,b⟩:Ac)=⟨i,j⟩↔a=i/\b=j:=s_
theorem MapN.put{n:Nat}{m:Mp}(h:MapN n m){i j k:Int}(hi:inN n i)(hj:inN n j)(hk:inN n k):MapN n (mput m ⟨i,j⟩ k):=by
 refine⟨h.ok.put _ _,fun q hq=>?_⟩;unfold mput at hq;rcases mem_cons.1 hq with rfl|hq
 .exact⟨hi,hj,hk⟩
 .exact h.key q (Lw.1 hq).1
theorem MapN.del{n:Nat}{m:Mp}(h:MapN n m)(x:Ac):MapN n (mdel m x):=⟨h.ok.del _,fun q hq=>h.key q (Lw.1 hq).1⟩
theorem MapN.putM{n:Nat}{m:Mp}(h:MapN n m){i j k:Int}(hi:inN n i)(hj:inN n j)(hk:inN n k):MapN n (putM m i j k):=((h.put hi hj hk).put hj hk hi).put hk hi hj
theorem MapN.cutM{n:Nat}{m:Mp}(h:MapN n m)(i j k:Int):MapN n (cutM m i j k):=((h.del _).del _).del _
theorem Ace{m:Mp}(h:Cv m)(i j k a b:Int):apM (putM m i j k) a b=if a=k/\b=i then some j else if a=j/\b=k then some i else if a=i/\b=j then some k else apM m a b:=by
 unfold apM putM;rw[Lx ((h.put _ _).put _ _),Lx (h.put _ _),Lx h];simp only[Nb]
theorem Pr{m:Mp}(h:Cv m)(i j k a b:Int):apM (cutM m i j k) a b=if (a=k/\b=i)\/(a=j/\b=k)\/(a=i/\b=j) then none else apM m a b:=by
 unfold apM cutM;rw[Wj ((h.del _).del _),Wj (h.del _),Wj h];simp only[Nb]
 by_cases c1:a=k/\b=i
 .simp[c1]
 .by_cases c2:a=j/\b=k
  .simp[c2]
  .by_cases c3:a=i/\b=j
   .simp[c3]
   .simp[c1,c2,c3]
theorem Ahn{m:Mp}(h:Cv m){i j k l:Int}(n1:i≠j)(n2:k≠l)(n3:k≠i)(n4:k≠j)(n5:l≠i)(n6:l≠j):apM (Ahm m i j k l)=Qh (apM m) i j k l:=by
 have h1:Cv (cutM m i j k):=((h.del _).del _).del _;have h2:Cv (cutM (cutM m i j k) j i l):=((h1.del _).del _).del _;have h3:Cv (putM (cutM (cutM m i j k) j i l) i l k):=((h2.put _ _).put _ _).put _ _;funext a b;unfold Ahm;rw[Ace h3,Ace h2,Pr h1,Pr h];unfold Qh
 by_cases c1:a=i/\b=l
 .repeat first|rw[if_pos oo]|rw[if_neg oo]
 by_cases c2:a=l/\b=k
 .repeat first|rw[if_pos oo]|rw[if_neg oo]
 by_cases c3:a=k/\b=i
 .repeat first|rw[if_pos oo]|rw[if_neg oo]
 by_cases c4:a=j/\b=k
 .repeat first|rw[if_pos oo]|rw[if_neg oo]
 by_cases c5:a=k/\b=l
 .repeat first|rw[if_pos oo]|rw[if_neg oo]
 by_cases c6:a=l/\b=j
 .repeat first|rw[if_pos oo]|rw[if_neg oo]
 by_cases c7:a=i/\b=j
 .repeat first|rw[if_pos oo]|rw[if_neg oo]
 by_cases c8:a=j/\b=i
 .repeat first|rw[if_pos oo]|rw[if_neg oo]
 repeat first|rw[if_pos oo]|rw[if_neg oo]
theorem p_eq{b:An}{i:Int}(h:inN b.v.length i):Bg b i=some (plV b.v i):=by
 unfold Bg plV;obtain⟨k,hk,rfl,e⟩:=Lq (v:=b.v) (i:=i) h;rw[e];rfl
theorem Aho{n:Nat}(hn:n<=1024){b:An}(hm:MapN n b.apex){i j k:Int}(hi:inN n i)(hj:inN n j)(hk:inN n k):Dv b i j k=some ⟨b.v,putM b.apex i j k,b.fixed⟩:=by
 have hsq:=Af0 hn;have l0:=hm.len;have l1:=(hm.put hi hj hk).len;have l2:=((hm.put hi hj hk).put hj hk hi).len;unfold Dv;rw[gd_t (Uq hn hi hj),gd_t oo,gd_t (Uq hn hj hk),gd_t oo,gd_t (Uq hn hk hi),gd_t oo];rfl
theorem Avg{n:Nat}(hn:n<=1024){b:An}{i j k:Int}(hi:inN n i)(hj:inN n j)(hk:inN n k):Ky b i j k=some ⟨b.v,cutM b.apex i j k,b.fixed⟩:=by
 unfold Ky;rw[gd_t (Uq hn hi hj),gd_t (Uq hn hj hk),gd_t (Uq hn hk hi)];rfl
theorem MapN.val{n:Nat}{m:Mp}(h:MapN n m){i j k:Int}(hk:apM m i j=some k):inN n i/\inN n j/\inN n k:=h.key _ (Gu hk)
theorem Azq{b:An}(hv:Ie b.v)(hn:b.v.length<=1024)(hm:MapN b.v.length b.apex){i j k l:Int}(hk:apM b.apex i j=some k)(hl:apM b.apex j i=some l):
  Jc b i j=some (if Int.sign (crs (plV b.v k) (plV b.v l) (plV b.v i))*Int.sign (crs (plV b.v k) (plV b.v l) (plV b.v j)) = -1 then (⟨b.v,Ahm b.apex i j k l,b.fixed⟩,true) else (b,false)):=by
 obtain⟨vi,vj,vk⟩:=hm.val hk;obtain⟨_,_,vl⟩:=hm.val hl;have hk':mget b.apex (⟨i,j⟩:Ac)=some k:=hk;have hl':mget b.apex (⟨j,i⟩:Ac)=some l:=hl;unfold Jc;rw[gd_t (Uq hn vi vj),hk',Ad,gd_t (Uq hn vj vi),hl',Ad,jn_d];simp only[Option.getD_some,Option.isSome_some,if_true];rw[p_eq vk,Ad,p_eq vl,Ad,p_eq vi,Ad,turn_eq (hv.ok _ vk) (hv.ok _ vl) (hv.ok _ vi),Ad,Ad,Ad,p_eq vj,Ad,turn_eq (hv.ok _ vk) (hv.ok _ vl) (hv.ok _ vj),Ad,An7]
 by_cases c:Int.sign (crs (plV b.v k) (plV b.v l) (plV b.v i))*Int.sign (crs (plV b.v k) (plV b.v l) (plV b.v j)) = -1
 .rw[if_pos c,if_neg (by simp;omega)];have m1:=hm.cutM i j k;have m2:=m1.cutM j i l;have m3:=m2.putM vi vl vk;rw[Avg hn vi vj vk,Ad,Avg hn vj vi vl,Ad,Aho hn m2 vi vl vk,Ad,Aho hn m3 vj vk vl,Ad];rfl
 .rw[if_neg c,if_pos (by simpa using Al4.2 c)]
theorem Atg{m:Mp}{x:Ac}(h:mget m x=none)(hm:Cv m):mdel m x=m:=by
 unfold mdel;rw[filter_eq_self];intro p hp;simp only[decide_eq_true_eq];intro e;have:=Th hm hp;rw[e,h] at this;cases this
section
variable {P:Int->Ab}{H:Int->Int}{n:Nat}
def phi(P:Int->Ab)(H:Int->Int)(n:Nat)(m:Mp):Nat:=(m.map fun q=>cnf P H n q.1.a0 q.1.a1 q.2).sum
theorem Ak0{m:Mp}(hm:Cv m){i j k:Int}(h:mget m ⟨i,j⟩=some k):phi P H n m=cnf P H n i j k+phi P H n (mdel m ⟨i,j⟩):=by
 have hp:=Ae9 hm (Gu h);unfold phi;rw[(hp.map _).sum_nat,map_cons,sum_cons]
theorem Ak1{m:Mp}(hm:Cv m){i j k:Int}(h:mget m ⟨i,j⟩=none):phi P H n (mput m ⟨i,j⟩ k)=cnf P H n i j k+phi P H n m:=by
 unfold mput;rw[Atg h hm];unfold phi;rw[map_cons,sum_cons]
theorem Avh:∀m:Mp,phi P H n m<=m.length*n
 |[]=>by simp[phi]
 |q::r=>by
  have h1:=Avh r;have h2:=Bdf (P:=P) (H:=H) (n:=n) q.1.a0 q.1.a1 q.2;unfold phi at *;rw[map_cons,sum_cons,length_cons,Nat.add_mul];omega
theorem Aq9{m:Mp}(hm:Cv m){i j k:Int}(n1:i≠j)(n2:j≠k)(n3:k≠i)(h1:apM m i j=some k)(h2:apM m j k=some i)(h3:apM m k i=some j):phi P H n m=3*cnf P H n i j k+phi P H n (cutM m i j k):=by
 have g1:mget (mdel m ⟨i,j⟩) ⟨j,k⟩=some i:=by rw[Wj hm,Nb,if_neg oo];exact h2
 have g2:mget (mdel (mdel m ⟨i,j⟩) ⟨j,k⟩) ⟨k,i⟩=some j:=by rw[Wj (hm.del _),Wj hm,Nb,Nb,if_neg oo,if_neg oo];exact h3
 rw[Ak0 hm h1,Ak0 (hm.del _) g1,Ak0 ((hm.del _).del _) g2,Aav,Aav (P:=P) (H:=H) (n:=n) j k i,Aav];unfold cutM;omega
theorem Amr{m:Mp}(hm:Cv m){i j k:Int}(n1:i≠j)(n2:j≠k)(n3:k≠i)(h1:apM m i j=none)(h2:apM m j k=none)(h3:apM m k i=none):phi P H n (putM m i j k)=3*cnf P H n i j k+phi P H n m:=by
 have g1:mget (mput m ⟨i,j⟩ k) ⟨j,k⟩=none:=by rw[Lx hm,Nb,if_neg oo];exact h2
 have g2:mget (mput (mput m ⟨i,j⟩ k) ⟨j,k⟩ i) ⟨k,i⟩=none:=by rw[Lx (hm.put _ _),Lx hm,Nb,Nb,if_neg oo,if_neg oo];exact h3
 unfold putM;rw[Ak1 ((hm.put _ _).put _ _) g2,Ak1 (hm.put _ _) g1,Ak1 hm h1,Aav (P:=P) (H:=H) (n:=n) i j k,Aav (P:=P) (H:=H) (n:=n) k i j,<-Aav (P:=P) (H:=H) (n:=n) k i j];have e:=Aav (P:=P) (H:=H) (n:=n) k i j;omega
theorem Avi{m:Mp}(hm:Cv m){i j k l:Int}(hcv:Ait P H (inN n))(q:Quad P (inN n) (apM m) i j k l)(hQ:0<DH P H i j k l):phi P H n (Ahm m i j k l)<phi P H n m:=by
 obtain⟨n1,n2,n3,n4,n5,n6⟩:=q.ne;obtain⟨f1,f2⟩:=q.fresh;have h1:Cv (cutM m i j k):=((hm.del _).del _).del _;have h2:Cv (cutM (cutM m i j k) j i l):=((h1.del _).del _).del _;have h3:Cv (putM (cutM (cutM m i j k) j i l) i l k):=((h2.put _ _).put _ _).put _ _;have a1:=q.tri.rot _ _ _ q.hk;have a2:=q.tri.rot2 q.hk;have a3:=q.tri.rot _ _ _ q.hl;have a4:=q.tri.rot2 q.hl;have e1:=Aq9 (P:=P) (H:=H) (n:=n) hm n1 (fun e=>n4 e.symm) n3 q.hk a1 a2;have e2:=Aq9 (P:=P) (H:=H) (n:=n) h1 (i:=j) (j:=i) (k:=l) n1.symm (fun e=>n5 e.symm) n6 (by rw[Pr hm,if_neg oo];exact q.hl) (by rw[Pr hm,if_neg oo];exact a3) (by rw[Pr hm,if_neg oo];exact a4);have e3:=Amr (P:=P) (H:=H) (n:=n) h2 (i:=i) (j:=l) (k:=k) (fun e=>n5 e.symm) n2.symm n3
  (by rw[Pr h1,if_pos oo]) (by rw[Pr h1,if_neg oo,Pr hm,if_neg oo];exact f2) (by rw[Pr h1,if_neg oo,Pr hm,if_pos oo])
 have e4:=Amr (P:=P) (H:=H) (n:=n) h3 (i:=j) (j:=k) (k:=l) (fun e=>n4 e.symm) n2 n6
  (by rw[Ace h2,if_neg oo,if_neg oo,if_neg oo,Pr h1,if_neg oo,Pr hm,if_pos oo])
  (by rw[Ace h2,if_neg oo,if_neg oo,if_neg oo,Pr h1,if_neg oo,Pr hm,if_neg oo];exact f1)
  (by rw[Ace h2,if_neg oo,if_neg oo,if_neg oo,Pr h1,if_pos oo])
 have:=q.cnf_lt hcv hQ;unfold Ahm;omega
end
theorem Azr(hi hj hk hl:Int)(i j k l:Ab):Dt hk hl hj hi k l j i = -Dt hi hj hk hl i j k l:=by unfold Dt crs;grind
def Fx(F:List (Ac×Bool))(i j:Int):Bool:=(mget F ⟨min i j,max i j⟩).getD false
def pr2(i j:Int):Ac:=⟨min i j,max i j⟩
theorem Zj(i j:Int):pr2 i j=pr2 j i:=by unfold pr2;rw[Int.min_comm,Int.max_comm]
theorem Avj{i j a b:Int}(h:pr2 i j=pr2 a b):(i=a/\j=b)\/(i=b/\j=a):=by
 unfold pr2 at h;rw[Nb] at h;omega
structure Ov(v:List Ae)(F:List (Ac×Bool))(q:List Ac)(m:Mp):Prop where
 map:MapN v.length m
 tri:Tri (plV v) (inN v.length) (apM m)
 qn:∀s∈q,inN v.length s.a0/\inN v.length s.a1/\s.a0<=s.a1
 pend:∀i j k l,apM m i j=some k->apM m j i=some l->pr2 i j∈q\/Fx F i j=true\/DH (plV v) (hV v) i j k l<0
theorem Ov.pop{v F q s m}(h:Ov v F (q++[s]) m)(hs:∀k l,apM m s.a0 s.a1=some k->apM m s.a1 s.a0=some l->Fx F s.a0 s.a1=true\/DH (plV v) (hV v) s.a0 s.a1 k l<0):Ov v F q m:=by
 have hq:=(h.qn s s_).2.2;refine⟨h.map,h.tri,fun x hx=>h.qn x (mem_append_left _ hx),fun i j k l hk hl=>?_⟩;rcases h.pend i j k l hk hl with g|g
 .rcases mem_append.1 g with g|g
  .exact .inl g
  ·rw[mem_singleton] at g;right;have e:pr2 s.a0 s.a1=s:=by
    obtain⟨x,y⟩:=s;unfold pr2;rw[Nb];simp only at hq⊢;omega
   rw[<-e] at g;rcases Avj g with⟨e1,e2⟩|⟨e1,e2⟩
   .subst e1;subst e2;exact hs k l hk hl
   .subst e1;subst e2;rcases hs l k hl hk with t|t
    .left;unfold Fx at *;rw[Int.min_comm,Int.max_comm];exact t
    .right;rw[<-Quad.swapQ];exact t
 .exact .inr g
theorem Ara{v:List Ae}{m:Mp}(hv:Ie v)(ht:Tri (plV v) (inN v.length) (apM m)){i j k l:Int}(hk:apM m i j=some k)(hl:apM m j i=some l)(hD:¬DH (plV v) (hV v) i j k l<0):Quad (plV v) (inN v.length) (apM m) i j k l:=by
 obtain⟨vi,vj,vk,ck⟩:=ht.ccw _ _ _ hk;obtain⟨_,_,vl,cl⟩:=ht.ccw _ _ _ hl;have c0:crs (plV v i) (plV v j) (plV v l)<0:=by rw[Cf];omega
 refine⟨ht,hk,hl,?_,?_⟩
 .rw[Bq];rcases Int.lt_or_le 0 (crs (plV v k) (plV v i) (plV v l)) with g|g
  .exact g
  .exact absurd (Ack hv i j k l vi vj vk vl ck c0 (.inr g)) hD
 .rcases Int.lt_or_le 0 (crs (plV v j) (plV v k) (plV v l)) with g|g
  .exact g
  .exact absurd (Ack hv i j k l vi vj vk vl ck c0 (.inl g)) hD
theorem Ov.flip{v F q s m}(hv:Ie v)(h:Ov v F (q++[s]) m){k l:Int}(hk:apM m s.a0 s.a1=some k)(hl:apM m s.a1 s.a0=some l)(hD:¬ DH (plV v) (hV v) s.a0 s.a1 k l<0):
  Ov v F (q++[pr2 s.a0 k,pr2 k s.a1,pr2 s.a1 l,pr2 l s.a0]) (Ahm m s.a0 s.a1 k l):=by
 have Q:=Ara hv h.tri hk hl hD;obtain⟨n1,n2,n3,n4,n5,n6⟩:=Q.ne;obtain⟨vi,vj,vk,ck⟩:=h.tri.ccw _ _ _ hk;obtain⟨_,_,vl,cl⟩:=h.tri.ccw _ _ _ hl;have hf:=Ahn h.map.ok n1 n2 n3 n4 n5 n6;have hq:=(h.qn s s_).2.2;have es:pr2 s.a0 s.a1=s:=by
  obtain⟨x,y⟩:=s;unfold pr2;rw[Nb];simp only at hq⊢;omega
 have hD2:0<DH (plV v) (hV v) s.a0 s.a1 k l:=by
  have:=(Aki hv vi vj vk vl ck (by rw[Cf];omega)).2;omega
 refine⟨?_,by rw[hf];exact Q.flip,fun x hx=>?_,fun a b c d hc hd=>?_⟩
 .have m1:=h.map.cutM s.a0 s.a1 k;have m2:=m1.cutM s.a1 s.a0 l;exact (m2.putM vi vl vk).putM vj vk vl
 .rcases mem_append.1 hx with hx|hx
  .exact h.qn x (mem_append_left _ hx)
  ·have key:∀ i j,inN v.length i->inN v.length j->inN v.length (pr2 i j).a0/\inN v.length (pr2 i j).a1/\(pr2 i j).a0<=(pr2 i j).a1:=fun i j h1 h2=>by
    unfold pr2 inN at *;simp only;omega
   simp only[mem_cons,not_mem_nil,or_false] at hx;rcases hx with rfl|rfl|rfl|rfl
   .exact key _ _ vi vk
   .exact key _ _ vk vj
   .exact key _ _ vj vl
   .exact key _ _ vl vi
 .rw[hf] at hc hd;have mem:∀x,x∈[pr2 s.a0 k,pr2 k s.a1,pr2 s.a1 l,pr2 l s.a0]->x∈q++[pr2 s.a0 k,pr2 k s.a1,pr2 s.a1 l,pr2 l s.a0]:=fun x hx=>mem_append_right _ hx
  have dg:DH (plV v) (hV v) k l s.a1 s.a0<0:=by
   unfold DH at hD2⊢;rw[Azr];omega
  have outer:∀ a b c,Qh (apM m) s.a0 s.a1 k l a b=some c->(pr2 a b∈[pr2 s.a0 k,pr2 k s.a1,pr2 s.a1 l,pr2 l s.a0])\/(a=l/\b=k/\c=s.a0)\/(a=k/\b=l/\c=s.a1) \/
    (apM m a b=some c/\¬(a=s.a0/\b=l)/\¬(a=l/\b=k)/\¬(a=k/\b=s.a0)/\¬(a=s.a1/\b=k)/\¬(a=k/\b=l)/\¬(a=l/\b=s.a1)/\¬(a=s.a0/\b=s.a1)/\¬(a=s.a1/\b=s.a0)):=by
   intro a b c hc;rcases Tv hc with⟨e1,e2,_⟩|g|⟨e1,e2,_⟩|⟨e1,e2,_⟩|g|⟨e1,e2,_⟩|g
   .left;rw[Zj a b,e1,e2];simp
   .exact .inr (.inl g)
   .left;rw[Zj a b,e1,e2];simp
   .left;rw[Zj a b,e1,e2];simp
   .exact .inr (.inr (.inl g))
   .left;rw[Zj a b,e1,e2];simp
   .exact .inr (.inr (.inr g))
  rcases outer a b c hc with g|⟨rfl,rfl,rfl⟩|⟨rfl,rfl,rfl⟩|⟨g0,g⟩
  .exact .inl (mem _ g)
  .rw[Arx n3 n2 n4 n5] at hd;obtain rfl:=Option.some.inj hd;right;right;rw[Quad.swapQ (P:=plV v) (H:=hV v)];exact dg
  .rw[Arw n5] at hd;obtain rfl:=Option.some.inj hd;exact .inr (.inr dg)
  .rcases outer b a d hd with g'|⟨e1,e2,_⟩|⟨e1,e2,_⟩|⟨g0',g'⟩
   .left;rw[Zj a b];exact mem _ g'
   .omega
   .omega
   .rcases h.pend a b c d g0 g0' with t|t
    .rcases mem_append.1 t with t|t
     .exact .inl (mem_append_left _ t)
     .rw[mem_singleton,<-es] at t;rcases Avj t with⟨e1,e2⟩|⟨e1,e2⟩ <;> omega
    .exact .inr t
structure Ur(v:List Ae)(F:List (Ac×Bool))(m m':Mp):Prop where
 cov:∀S:Int->Prop,Cov (plV v) S (apM m)->Cov (plV v) S (apM m')
 fix:∀i j,Fx F i j=true->(apM m i j≠none\/apM m j i≠none)->(apM m' i j≠none\/apM m' j i≠none)
 ne:m≠[]->m'≠[]
theorem Ur.refl{v F m}:Ur v F m m:=⟨fun _ h=>h,fun _ _ _ h=>h,fun h=>h⟩
theorem Ur.trans{v F m m' m''}(h:Ur v F m m')(k:Ur v F m' m''):Ur v F m m'':=⟨fun S h1=>k.cov S (h.cov S h1),fun i j h1 h2=>k.fix i j h1 (h.fix i j h1 h2),fun h1=>k.ne (h.ne h1)⟩
theorem Arb{F:List (Ac×Bool)}{i j:Int}:Fx F j i=Fx F i j:=by unfold Fx;rw[Int.min_comm,Int.max_comm]
theorem Ams{v F q s m}(hv:Ie v)(hn:v.length<=1024)(h:Ov v F (q++[s]) m)(hq:q.length<=5000000000):
  ∃q' m',Cu (v,m,F,q++[s])=some (.inl (v,m',F,q'))/\Ov v F q' m'/\Ur v F m m'/\((m'=m/\q'=q)\/(phi (plV v) (hV v) v.length m'<phi (plV v) (hV v) v.length m/\q'.length=q.length+4)):=by
 obtain⟨k1,k2,k3⟩:=h.qn s s_;have es:pr2 s.a0 s.a1=s:=by
  obtain⟨x,y⟩:=s;unfold pr2;rw[Nb];simp only at k3⊢;omega
 have hw:w64 ((((q++[s]).length:Nat):Int)-1)=(q.length:Int):=by rw[length_append,length_singleton,Aq oo oo];omega
 have hi:idx (q++[s]) (q.length:Int)=some s:=(Am s_).trans s_;have ht:List.take (Int.toNat (q.length:Int)) (q++[s])=q:=s_;have e0:Cu (v,m,F,q++[s]) =
   (fun j18:List Ac×Bool->Option (Sum (List Ae×Mp×List (Ac×Bool)×List Ac) An)=>if ((mget m s).isSome)=true then (if ((mget m ((⟨s.a1,s.a0⟩:Ac))).isSome)=true then (
    if (mget F s).getD false=true then (j18 (q,true))
    else (bnd (Vm (plV v s.a0) (plV v s.a1) (plV v ((mget m s).getD 0)) (plV v ((mget m ((⟨s.a1,s.a0⟩:Ac))).getD 0))) fun r169=>j18 (q,r169)))
   else (j18 (q,true))) else (j18 (q,true)))
   (fun s18=>if s18.2=true then (some (.inl (v,m,F,s18.1)))
    else (bnd (Jc (⟨v,m,F⟩:An) s.a0 s.a1) fun r185=>
    if r185.2=true then (gd ((s18.1.length+4)*16<=140737488355328)<|
     some (.inl (r185.1.v,r185.1.apex,r185.1.fixed,s18.1++[pr2 s.a0 ((mget m s).getD 0),pr2 ((mget m s).getD 0) s.a1,pr2 s.a1 ((mget m ((⟨s.a1,s.a0⟩:Ac))).getD 0),pr2 ((mget m ((⟨s.a1,s.a0⟩:Ac))).getD 0) s.a0])))
    else (some (.inl (r185.1.v,r185.1.apex,r185.1.fixed,s18.1))))):=by
  unfold Cu;simp only[hw];rw[if_pos s_,hi,Ad,gd_t (by simp;omega),gd_t (Uq hn k1 k2),Ad,gd_t (Uq hn k2 k1),Ad,jn_d,ht]
  by_cases c1:(mget m s).isSome=true
  .rw[if_pos c1,if_pos c1]
   by_cases c2:(mget m (⟨s.a1,s.a0⟩:Ac)).isSome=true
   .rw[if_pos c2,if_pos c2,gd_t (Uq hn k1 k2),Ad];obtain⟨k,hk⟩:=Option.isSome_iff_exists.1 c1;obtain⟨l,hl⟩:=Option.isSome_iff_exists.1 c2;have hk':apM m s.a0 s.a1=some k:=hk;have vk:=(h.map.val hk').2.2;have vl:=(h.map.val (show apM m s.a1 s.a0=some l from hl)).2.2;rw[p_eq (b:=⟨v,m,F⟩) k1,Ad,p_eq (b:=⟨v,m,F⟩) k2,Ad,hk,hl];simp only[Option.getD_some];rw[p_eq (b:=⟨v,m,F⟩) vk,Ad,p_eq (b:=⟨v,m,F⟩) vl,Ad];rfl
   .rw[if_neg c2,if_neg c2];rfl
  .rw[if_neg c1,if_neg c1];rfl
 rw[e0];dsimp only;have pop:(∀ k l,apM m s.a0 s.a1=some k->apM m s.a1 s.a0=some l->Fx F s.a0 s.a1=true\/DH (plV v) (hV v) s.a0 s.a1 k l<0) ->
   ∃q' m',some (Sum.inl (v,m,F,q))=some (Sum.inl (β:=An) (v,m',F,q'))/\Ov v F q' m'/\Ur v F m m'/\((m'=m/\q'=q)\/(phi (plV v) (hV v) v.length m'<phi (plV v) (hV v) v.length m/\q'.length=q.length+4)):=
  fun hs=>⟨q,m,rfl,h.pop hs,.refl,.inl ⟨rfl,rfl⟩⟩
 by_cases c1:(mget m s).isSome=true
 .obtain⟨k,hk⟩:=Option.isSome_iff_exists.1 c1;have hk':apM m s.a0 s.a1=some k:=hk;rw[if_pos c1]
  by_cases c2:(mget m (⟨s.a1,s.a0⟩:Ac)).isSome=true
  ·obtain⟨l,hl⟩:=Option.isSome_iff_exists.1 c2;have hl':apM m s.a1 s.a0=some l:=hl;rw[if_pos c2];have hF:Fx F s.a0 s.a1=(mget F s).getD false:=by
    show (mget F (pr2 s.a0 s.a1)).getD false=_;rw[es]
   by_cases c3:(mget F s).getD false=true
   .rw[if_pos c3];exact pop fun _ _ _ _=>.inl (by rw[hF];exact c3)
   .rw[if_neg c3,hk,hl];simp only[Option.getD_some];obtain⟨vi,vj,vk,ck⟩:=h.tri.ccw _ _ _ hk';obtain⟨_,_,vl,cl⟩:=h.tri.ccw _ _ _ hl';have c0:crs (plV v s.a0) (plV v s.a1) (plV v l)<0:=by rw[Cf];omega
    obtain⟨hleg,hne⟩:=Aki hv vi vj vk vl ck c0;have hsd:Int.sign (crs (plV v s.a0) (plV v s.a1) (plV v k))*Int.sign (crs (plV v s.a0) (plV v s.a1) (plV v l)) = -1:=by rw[Afs];exact .inr ⟨ck,c0⟩
    obtain⟨d1,d2,d3,d4⟩:=Al5 hsd;rw[Ax3 (hv.ok _ vi) (hv.ok _ vj) (hv.ok _ vk) (hv.ok _ vl) d1 d2 d3 d4,Ad]
    by_cases c4:legP (plV v s.a0) (plV v s.a1) (plV v k) (plV v l)
    .rw[decide_eq_true c4,if_pos rfl];refine pop fun k' l' hk2 hl2=>.inr ?_
     rw[hk'] at hk2;rw[hl'] at hl2;cases hk2;cases hl2
     exact hleg.1 c4
    .rw[decide_eq_false c4,if_neg s_];have hD:¬DH (plV v) (hV v) s.a0 s.a1 k l<0:=fun g=>c4 (hleg.2 g)
     have Q:=Ara hv h.tri hk' hl' hD;have hs:Int.sign (crs (plV v k) (plV v l) (plV v s.a0))*Int.sign (crs (plV v k) (plV v l) (plV v s.a1)) = -1:=by
      rw[Afs];left;refine⟨?_,by rw[Bq];exact Q.c2⟩;have e:crs (plV v k) (plV v l) (plV v s.a0) = -crs (plV v s.a0) (plV v l) (plV v k):=by unfold crs;grind
      have:=Q.c1;omega
     rw[Azq (b:=⟨v,m,F⟩) hv hn h.map hk' hl',if_pos hs,Ad];simp only[if_true];rw[gd_t oo];obtain⟨n1,n2,n3,n4,n5,n6⟩:=Q.ne;refine⟨_,_,rfl,h.flip hv hk' hl' hD,⟨fun S hc=>?_,fun a b hF2 hab=>?_,fun _=>by simp[Ahm,putM,mput]⟩,.inr ⟨Avi h.map.ok (Ack hv) Q oo,s_⟩⟩
     .rw[Ahn h.map.ok n1 n2 n3 n4 n5 n6];exact Q.cov hc
     ·rw[Ahn h.map.ok n1 n2 n3 n4 n5 n6];have nf:∀ a b,Fx F a b=true->¬ ((a=s.a0/\b=s.a1)\/(a=s.a1/\b=s.a0)):=fun a b hab e=>by
       rcases e with⟨e1,e2⟩|⟨e1,e2⟩
       .rw[e1,e2,hF] at hab;exact c3 hab
       .rw[e1,e2,Arb,hF] at hab;exact c3 hab
      rcases hab with g|g
      .left;intro e;rcases Afo e with t|t
       .exact g t
       .exact nf a b hF2 t
      .right;intro e;rcases Afo e with t|t
       .exact g t
       .exact nf b a (by rw[Arb];exact hF2) t
  .rw[if_neg c2];refine pop fun k' l' _ hl2=>?_
   exact absurd (by rw[show mget m (⟨s.a1,s.a0⟩:Ac)=some l' from hl2];rfl) c2
 .rw[if_neg c1];refine pop fun k' l' hk2 _=>?_
  exact absurd (by rw[show mget m s=some k' from hk2];rfl) c1
theorem Ath{b:An}(hv:Ie b.v)(hn:b.v.length<=1024)(hm:MapN b.v.length b.apex)(ht:Tri (plV b.v) (inN b.v.length) (apM b.apex)):
  ∃m',Jx b=some ⟨b.v,m',b.fixed⟩/\Ov b.v b.fixed [] m'/\Ur b.v b.fixed b.apex m':=by
 have hsq:=Af0 hn;have hl:=hm.len;have hf:∀q,(Xn b.apex q).length<=1:=fun q=>by unfold Xn;split <;> simp
 have h0:Ov b.v b.fixed (Bi cmp2 (b.apex.flatMap (Xn b.apex))) b.apex:=by
  refine⟨hm,ht,fun s hs=>?_,fun i j k l hk hl=>.inl ?_⟩
  .rw[Ga] at hs;obtain⟨q,hq,hs⟩:=mem_flatMap.1 hs;obtain⟨k1,k2,k3⟩:=hm.key q hq;unfold Xn at hs;split at hs
   .rw[mem_singleton] at hs;subst hs;unfold inN at *;simp only;omega
   .cases hs
  .rw[Ga,mem_flatMap];have n1:=(ht.ne hk).1;rcases Int.lt_or_gt_of_ne n1 with c|c
   .refine⟨(⟨i,j⟩,k),Gu hk,?_⟩;unfold Xn pr2;rw[if_pos (.inl c)];exact mem_singleton.2 rfl
   .refine⟨(⟨j,i⟩,l),Gu hl,?_⟩;unfold Xn;rw[if_pos (.inl c),Zj];exact mem_singleton.2 rfl
 unfold Jx;rw[Avf hn hm,Ad];have hlen:(Bi cmp2 (b.apex.flatMap (Xn b.apex))).length<=1048576:=by
  rw[Cr];have:=Ou hf b.apex;omega
 have hphi:phi (plV b.v) (hV b.v) b.v.length b.apex<=1073741824:=by
  have h1:=Avh (P:=plV b.v) (H:=hV b.v) (n:=b.v.length) b.apex;have h2:=Nat.mul_le_mul (show b.apex.length<=1048576 by omega) hn;omega
 have:=Aw (B:=Cu) (fun s=>4*phi (plV b.v) (hV b.v) b.v.length s.2.1+s.2.2.2.length)
  (fun s=>s.1=b.v/\s.2.2.1=b.fixed/\Ov b.v b.fixed s.2.2.2 s.2.1/\Ur b.v b.fixed b.apex s.2.1/\4*phi (plV b.v) (hV b.v) b.v.length s.2.1+s.2.2.2.length<=5000000000)
  (fun t=>∃m',t=⟨b.v,m',b.fixed⟩/\Ov b.v b.fixed [] m'/\Ur b.v b.fixed b.apex m') (fun s hs=>by
   obtain⟨v,m,F,q⟩:=s;obtain⟨e1,e2,h1,h2,h3⟩:=hs;simp only at e1 e2 h1 h2 h3;subst e1;subst e2
   by_cases hq:q=[]
   .subst hq;right;refine⟨⟨b.v,m,b.fixed⟩,?_,m,rfl,h1,h2⟩;unfold Cu;rw[if_neg s_]
   .left;obtain⟨q0,s,rfl⟩:∃q0 s,q=q0++[s]:=⟨q.dropLast,q.getLast hq,(dropLast_concat_getLast hq).symm⟩;rw[length_append,length_singleton] at h3;obtain⟨q',m',h4,h5,h6,h7⟩:=Ams hv hn h1 oo;refine⟨_,h4,⟨rfl,rfl,h5,h2.trans h6,?_⟩,?_⟩
    .dsimp only;rcases h7 with⟨rfl,rfl⟩|⟨g1,g2⟩ <;> omega
    .dsimp only;rw[length_append,length_singleton];rcases h7 with⟨rfl,rfl⟩|⟨g1,g2⟩ <;> omega)
  (b.v,b.apex,b.fixed,Bi cmp2 (b.apex.flatMap (Xn b.apex))) ⟨rfl,rfl,h0,.refl,by dsimp only;omega⟩
 obtain⟨t,h1,m',rfl,h2,h3⟩:=this;rw[h1,Ad];exact⟨m',rfl,h2,h3⟩
theorem Add{σ τ:Type}{B:σ->Option (Sum σ τ)}(st:Nat->σ)(t:τ):∀(N:Nat),(∀k,k<N->B (st k)=some (.inl (st (k+1))))->B (st N)=some (.inr t)->lfix B (st 0)=some t:=by
 intro N h he;have key:∀j k,j+k=N->lfix B (st k)=some t:=by
  intro j
  induction j with
  |zero=>
   intro k hk;rw[Ay,show k=N by omega,he]
  |succ j ih=>
   intro k hk;rw[Ay,h k oo];exact ih (k+1) oo
 exact key N 0 oo
theorem Azs{v:List Ae}{i j:Nat}(hi:i<v.length)(hj:j<v.length):befV v[i] v[j]↔befP (plV v (i:Int)) (plV v (j:Int)):=by
 unfold plV;rw[Am hi,Am hj];rfl
theorem Aje{v:List Ae}(hv:Ie v):Eo v:=by
 unfold Eo;rw[pairwise_iff_getElem];intro i j hi hj hij hs;have:=hv.dist (i:Int) (j:Int) ⟨oo,oo⟩ ⟨oo,oo⟩ (by
  unfold plV Cl;rw[Am hi,Am hj];exact hs)
 omega
structure Qx(v:List Ae)(l:LI):Prop where
 perm:l.Perm (inds v.length)
 ord:l.Pairwise fun i j=>befP (plV v i) (plV v j)
theorem Amt{v:List Ae}(hv:Ie v)(hn:v.length<=1024):∃l,Vr v=some l/\Qx v l:=by
 have hd:=Aje hv;have h0:lfix (Tg v) (([]:LI),0)=some (inds v.length):=by
  refine Add (fun k=>(inds k,(k:Int))) _ v.length (fun k hk=>?_) ?_
  .unfold Tg;rw[if_pos (by simp only;omega),gd_t (by simp only[Zu];omega),Au oo];unfold inds;rw[range_succ,map_append];rfl
  .unfold Tg;rw[if_neg (by simp only;omega)]
 have hok:∀x∈inds v.length,okIx v x:=fun x hx=>Wc.1 hx
 refine⟨Bi (cmpR v) (inds v.length),?_,Ej _ _,?_⟩
 .unfold Vr;rw[jn_d,h0,Ad];exact gd_t ⟨by rw[Zu];omega,hok,hd⟩
 .have hs:=Nw (totR hd) hok;have hp:=Ej (cmpR v) (inds v.length);have hnd:(Bi (cmpR v) (inds v.length)).Nodup:=hp.nodup_iff.2 Xl;unfold List.Nodup at hnd;have:=hs.and hnd;refine List.Pairwise.imp_of_mem ?_ this;rintro i j hi hj ⟨h1,h2⟩;obtain⟨a,ha,rfl,_⟩:=Lq (hok i (hp.mem_iff.1 hi));obtain⟨b,hb,rfl,_⟩:=Lq (hok j (hp.mem_iff.1 hj));rw[<-Azs ha hb]
  by_cases c:befV v[a] v[b]
  .exact c
  .rw[Xh hb ha] at h1;exfalso;apply h2;have:=(totR hd).tot (a:Int) (b:Int) ⟨oo,oo⟩ ⟨oo,oo⟩ (by rw[Xh ha hb];exact c) (by rw[Xh hb ha];exact h1);exact this
def putAll(m:Mp)(p:Int)(l:List Ac):Mp:=l.foldl (fun m s=>putM m s.a0 s.a1 p) m
theorem MapN.putAll{n:Nat}{p:Int}(hp:inN n p):∀{l:List Ac} {m:Mp},MapN n m->(∀s∈l,inN n s.a0/\inN n s.a1)->MapN n (putAll m p l)
 |[],_,h,_=>h
 |s::r,m,h,hs=>MapN.putAll hp (l:=r) (h.putM (hs s mem_cons_self).1 (hs s mem_cons_self).2 hp) fun x hx=>hs x (mem_cons_of_mem _ hx)
variable {P:Int->Ab}{V S:Int->Prop}{R:Int->Int->Prop}{p:Int}
theorem Ajw{m:Mp}(hm:Cv m)(h:Adds P V S (apM m) R p):∀ (l:List Ac),(∀ s∈l,Vis P R p s.a0 s.a1)->Cv (putAll m p l) /\
  ∀i j k,apM (putAll m p l) i j=some k↔apM m i j=some k\/((⟨i,j⟩∈l/\k=p)\/(⟨k,i⟩∈l/\j=p)\/(⟨j,k⟩∈l/\i=p)):=by
 intro l;generalize hr:l.reverse=r;have hl:l=r.reverse:=by rw[<-hr,reverse_reverse]
 clear hr;subst hl
 induction r with
 |nil=>intro _;exact⟨hm,fun i j k=>by simp[putAll]⟩
 |cons s r ih=>
  intro hs;have hs':∀x∈r.reverse,Vis P R p x.a0 x.a1:=fun x hx=>hs x (by simp at hx⊢;exact .inl hx)
  have hv:=hs s s_;obtain⟨i1,i2⟩:=ih hs';obtain⟨sx,sy,nxy,_⟩:=h.r1 _ _ hv.1;have np:=h.np;have e:putAll m p (s::r).reverse=putM (putAll m p r.reverse) s.a0 s.a1 p:=by
   unfold putAll;rw[reverse_cons,foldl_append];rfl
  rw[e];refine⟨((i1.put _ _).put _ _).put _ _,fun i j k=>?_⟩;rw[Ace i1];have visS:∀{x y:Int},(⟨x,y⟩:Ac)∈r.reverse->Vis P R p x y:=fun hx=>hs' _ hx
  have k1:∀c,apM (putAll m p r.reverse) p s.a0=some c->c=s.a1:=fun c hc=>by
   rcases (i2 _ _ _).1 hc with g|⟨g,_⟩|⟨g,_⟩|⟨g,_⟩
   .exact absurd (h.used _ _ _ g) np
   .exact absurd (h.r1 _ _ (visS g).1).1 np
   .exact absurd (h.r1 _ _ (visS g).1).2.1 np
   .exact h.uniq2 (visS g) hv
  have k2:∀c,apM (putAll m p r.reverse) s.a1 p=some c->c=s.a0:=fun c hc=>by
   rcases (i2 _ _ _).1 hc with g|⟨g,_⟩|⟨g,_⟩|⟨g,e⟩
   .exact absurd (h.used _ _ _ (h.tri.rot _ _ _ g)) np
   .exact absurd (h.r1 _ _ (visS g).1).2.1 np
   .exact h.uniq (visS g) hv
   .exact absurd (e▸sy) np
  have k3:∀c,apM (putAll m p r.reverse) s.a0 s.a1=some c->c=p:=fun c hc=>by
   rcases (i2 _ _ _).1 hc with g|⟨_,g⟩|⟨_,e⟩|⟨_,e⟩
   .rw[h.r4 _ _ hv.1] at g;cases g
   .exact g
   .exact absurd (e▸sy) np
   .exact absurd (e▸sx) np
  have mem:∀x y:Int,(⟨x,y⟩:Ac)∈(s::r).reverse↔(x=s.a0/\y=s.a1)\/(⟨x,y⟩:Ac)∈r.reverse:=fun x y=>by
   obtain⟨s0,s1⟩:=s;rw[reverse_cons,mem_append,mem_singleton,Nb];exact Or.comm
  rw[mem,mem,mem];have i2':=i2 i j k
  by_cases c1:i=p/\j=s.a0
  .rw[if_pos c1];obtain⟨rfl,rfl⟩:=c1;constructor
   .intro hk;cases hk
    exact .inr (.inr (.inr ⟨.inl ⟨rfl,rfl⟩,rfl⟩))
   .rintro (g|⟨⟨e1,_⟩|g,e⟩|⟨⟨_,e2⟩|g,e⟩|⟨⟨_,e2⟩|g,_⟩)
    .exact absurd (h.used _ _ _ g) np
    .exact absurd (e1▸sx) np
    .exact absurd (h.r1 _ _ (visS g).1).1 np
    .exact absurd (e2▸sy) np
    .exact absurd (h.r1 _ _ (visS g).1).2.1 np
    .rw[e2]
    .rw[h.uniq2 hv (visS g)]
  rw[if_neg c1]
  by_cases c2:i=s.a1/\j=p
  .rw[if_pos c2];obtain⟨rfl,rfl⟩:=c2;constructor
   .intro hk;cases hk
    exact .inr (.inr (.inl ⟨.inl ⟨rfl,rfl⟩,rfl⟩))
   .rintro (g|⟨⟨_,e1⟩|g,e⟩|⟨⟨e1,_⟩|g,e⟩|⟨⟨e1,_⟩|g,e⟩)
    .exact absurd (h.used _ _ _ (h.tri.rot _ _ _ g)) np
    .exact absurd (e1▸sy) np
    .exact absurd (h.r1 _ _ (visS g).1).2.1 np
    .rw[e1]
    .rw[h.uniq hv (visS g)]
    .exact absurd (e▸sy) np
    .exact absurd (e▸sy) np
  rw[if_neg c2]
  by_cases c3:i=s.a0/\j=s.a1
  .rw[if_pos c3];obtain⟨rfl,rfl⟩:=c3;constructor
   .intro hk;cases hk
    exact .inr (.inl ⟨.inl ⟨rfl,rfl⟩,rfl⟩)
   .rintro (g|⟨_,e⟩|⟨_,e⟩|⟨_,e⟩)
    .rw[h.r4 _ _ hv.1] at g;cases g
    .rw[e]
    .exact absurd (e▸sy) np
    .exact absurd (e▸sx) np
  rw[if_neg c3,i2'];constructor
  .rintro (g|⟨g,e⟩|⟨g,e⟩|⟨g,e⟩)
   .exact .inl g
   .exact .inr (.inl ⟨.inr g,e⟩)
   .exact .inr (.inr (.inl ⟨.inr g,e⟩))
   .exact .inr (.inr (.inr ⟨.inr g,e⟩))
  .rintro (g|⟨g|g,e⟩|⟨g|g,e⟩|⟨g|g,e⟩)
   .exact .inl g
   .exact absurd g c3
   .exact .inr (.inl ⟨g,e⟩)
   .exact absurd ⟨g.2,e⟩ c2
   .exact .inr (.inr (.inl ⟨g,e⟩))
   .exact absurd ⟨e,g.1⟩ c1
   .exact .inr (.inr (.inr ⟨g,e⟩))
end
theorem Ajf{a b c q:Ab}(h1:befP a b)(h2:befP b c)(h0:crs a b c=0)(hq:crs a b q<0):crs b c q<0:=by
 have m:∀x y z:Ab,crs ⟨x.X,-x.Y⟩ ⟨y.X,-y.Y⟩ ⟨z.X,-z.Y⟩ = -crs x y z:=fun x y z=>by unfold crs;grind
 have e1:crs b c q*(b.X-a.X)=crs a b q*(c.X-b.X)-(q.X-b.X)*crs a b c:=by unfold crs;grind
 have e2:crs b c q*(b.Y-a.Y)=crs a b q*(c.Y-b.Y)-(q.Y-b.Y)*crs a b c:=by unfold crs;grind
 have e3:(b.X-a.X)*(c.Y-b.Y)-(b.Y-a.Y)*(c.X-b.X)=crs a b c:=by unfold crs;grind
 rw[h0,Int.mul_zero,Int.sub_zero] at e1 e2;rw[h0] at e3;have fin:∀x w z:Int,x*w=crs a b q*z->0<w->0<z->x<0:=fun x w z e hw hz=>by
  have:=Int.mul_neg_of_neg_of_pos hq hz;rcases Int.lt_or_le x 0 with k|k
  .exact k
  .have:=Int.mul_nonneg k (Int.le_of_lt hw);omega
 by_cases g:a.X<b.X
 ·have hc:b.X<c.X:=by
   rcases Int.lt_or_le b.X c.X with k|k
   .exact k
   .have hx:c.X=b.X:=by unfold befP at h2;omega
    have hy:b.Y<c.Y:=by unfold befP at h2;omega
    have z:c.X-b.X=0:=oo;rw[z,Int.mul_zero] at e3;have:=Int.mul_pos (show 0<b.X-a.X by omega) (show 0<c.Y-b.Y by omega);omega
  exact fin _ _ _ e1 oo oo
 .have hx:a.X=b.X:=by unfold befP at h1;omega
  have hy:a.Y<b.Y:=by unfold befP at h1;omega
  have hc:b.X=c.X:=by
   have z:b.X-a.X=0:=oo;rw[z,Int.zero_mul] at e3;have:(b.Y-a.Y)*(c.X-b.X)=0:=oo;rcases Int.mul_eq_zero.1 this with k|k <;> omega
  have hy2:b.Y<c.Y:=by unfold befP at h2;omega
  exact fin _ _ _ e2 oo oo
section
variable {v:List Ae}{l:LI}
theorem Qx.len(hr:Qx v l):l.length=v.length:=by rw[hr.perm.length_eq,Zu]
theorem Qx.val(hr:Qx v l){i:Int}:i∈l↔inN v.length i:=by rw[hr.perm.mem_iff,Wc]
theorem Qx.lt(hr:Qx v l){a b:Nat}(ha:a<l.length)(hb:b<l.length)(h:a<b):befP (plV v l[a]) (plV v l[b]):=(pairwise_iff_getElem.1 hr.ord) a b ha hb h
theorem Qx.inj(hr:Qx v l){a b:Nat}(ha:a<l.length)(hb:b<l.length)(h:l[a]=l[b]):a=b:=by
 rcases Nat.lt_trichotomy a b with c|c|c
 .have:=hr.lt ha hb c;rw[h] at this;exact (Vo this this).elim
 .exact c
 .have:=hr.lt hb ha c;rw[h] at this;exact (Vo this this).elim
def Ow(l:LI)(k:Nat)(i:Int):Prop:=∃(j:Nat) (hj:j<l.length),j<k/\i=l[j]
structure Ajx(v:List Ae)(l:LI)(k:Nat)(m:Mp):Prop where
 map:MapN v.length m
 tri:Tri (plV v) (inN v.length) (apM m)
 cov:Cov (plV v) (Ow l k) (apM m)
 used:∀i j c,apM m i j=some c->Ow l k i
theorem Ow.succ{k:Nat}(hk:k<l.length){i:Int}:Ow l (k+1) i↔Ow l k i\/i=l[k]:=by
 constructor
 .rintro⟨j,hj,h1,rfl⟩
  by_cases e:j=k
  .subst e;exact .inr rfl
  .exact .inl ⟨j,hj,oo,rfl⟩
 .rintro (⟨j,hj,h1,rfl⟩|rfl)
  .exact⟨j,hj,oo,rfl⟩
  .exact⟨k,hk,oo,rfl⟩
theorem Qx.place(hr:Qx v l){k:Nat}(hk:k<l.length):(∀i,Ow l k i->inN v.length i)/\inN v.length l[k]/\¬Ow l k l[k]/\(∀i,Ow l k i->befP (plV v i) (plV v l[k]))/\(∀i,inN v.length i->¬Ow l k i->i≠l[k]->befP (plV v l[k]) (plV v i)):=by
 refine⟨fun i hi=>?_,hr.val.1 (getElem_mem hk),fun hp=>?_,fun i hi=>?_,fun i hi h1 h2=>?_⟩
 .obtain⟨j,hj,_,rfl⟩:=hi;exact hr.val.1 (getElem_mem hj)
 .obtain⟨j,hj,h1,e⟩:=hp;have:=hr.inj hk hj e;omega
 .obtain⟨j,hj,h1,rfl⟩:=hi;exact hr.lt hj hk h1
 .obtain⟨j,hj,rfl⟩:=getElem_of_mem (hr.val.2 hi);refine hr.lt hk hj ?_;rcases Nat.lt_trichotomy j k with c|c|c
  .exact absurd ⟨j,hj,c,rfl⟩ h1
  .subst c;exact absurd rfl h2
  .exact c
def visB(v:List Ae)(p:Int)(s:Ac):Bool:=decide (0<crs (plV v s.a0) (plV v s.a1) (plV v p))
theorem Bcq(hv:Ie v)(hn:v.length<=1024){F:List (Ac × Bool)}{b:An}{rl:List Ac}{m:Mp}(hm:MapN v.length m){p:Int}(hp:inN v.length p)(hrl:∀ s∈rl,inN v.length s.a0/\inN v.length s.a1)(hlen:rl.length<=2000000):
  lfix (Ct (b,rl) p) (v,m,F,0)=some (v,putAll m p (rl.filter (visB v p)),F):=by
 have hM:∀k,MapN v.length (putAll m p ((rl.take k).filter (visB v p))):=fun k=>hm.putAll hp fun s hs=>hrl s (mem_of_mem_take (mem_filter.1 hs).1)
 have:=Add (B:=Ct (b,rl) p) (fun k=>(v,putAll m p ((rl.take k).filter (visB v p)),F,(k:Int))) (v,putAll m p (rl.filter (visB v p)),F) rl.length (fun k hk=>?_) ?_
 .simpa[putAll] using this
 ·unfold Ct;have hs:=hrl rl[k] (getElem_mem hk);have e:(rl.take (k+1)).filter (visB v p)=(rl.take k).filter (visB v p)++if visB v p rl[k] then [rl[k]] else []:=by
   rw[take_succ_eq_append_getElem hk,filter_append,filter_cons,filter_nil]
  simp only;rw[if_pos oo,jn_d,Am hk,Ad,p_eq (b:=⟨v,_,F⟩) hs.1,Ad,p_eq (b:=⟨v,_,F⟩) hs.2,Ad,p_eq (b:=⟨v,_,F⟩) hp,Ad,turn_eq (hv.ok _ hs.1) (hv.ok _ hs.2) (hv.ok _ hp),Ad,Au oo,e]
  by_cases c:0<crs (plV v rl[k].a0) (plV v rl[k].a1) (plV v p)
  .rw[Int.sign_eq_one_of_pos c,if_pos oo,Aho (b:=⟨v,putAll m p ((rl.take k).filter (visB v p)),F⟩) hn (hM k) hs.1 hs.2 hp,Ad,if_pos (by unfold visB;simpa using c)];dsimp only;unfold putAll;rw[foldl_append];rfl
  ·rw[if_neg (fun g=>c (by
    rcases Int.lt_trichotomy (crs (plV v rl[k].a0) (plV v rl[k].a1) (plV v p)) 0 with t|t|t
    .rw[Int.sign_eq_neg_one_of_neg t] at g;omega
    .rw[t] at g;simp at g
    .exact t)),if_neg (by unfold visB;simpa using c),append_nil]
 .unfold Ct;simp only;rw[if_neg oo,take_length]
theorem Ajx.step(hv:Ie v)(hn:v.length<=1024)(hr:Qx v l){F:List (Ac × Bool)}{k:Nat}(hk:k<l.length){m:Mp}(h:Ajx v l k m):
  ∃m',(bnd (Kz ⟨v,m,F⟩) fun r498=>bnd (lfix (Ct r498 l[k]) (r498.1.v,r498.1.apex,r498.1.fixed,0)) fun t=>some t)=some (v,m',F)/\Ajx v l (k+1) m'/\(m≠[]->m'≠[]):=by
 obtain⟨q1,q2,q3,q4,q5⟩:=hr.place hk;have hA:=Ave h.tri h.cov h.used q1 q2 q3 q4 q5;have hsq:=Af0 hn;have hl:=h.map.len;have hf:∀q,(rimF m q).length<=1:=fun q=>by unfold rimF;split <;> simp
 have hmem:∀x y:Int,(⟨x,y⟩:Ac)∈m.flatMap (rimF m)↔Rim (apM m) x y:=fun x y=>by
  rw[mem_flatMap];constructor
  .rintro⟨q,hq,hx⟩;unfold rimF at hx;split at hx
   .cases hx
   .rename_i hn;rw[mem_singleton] at hx;obtain⟨⟨a,b⟩,c⟩:=q;unfold rev2 at hx hn;rw[Nb] at hx;simp only at hx hn;obtain⟨rfl,rfl⟩:=hx;refine⟨⟨c,Th h.map.ok hq⟩,?_⟩;simpa[apM] using hn
  .rintro⟨⟨c,hc⟩,hn⟩;refine⟨(⟨y,x⟩,c),Gu hc,?_⟩;unfold rimF rev2;rw[if_neg (by rw[show mget m (⟨x,y⟩:Ac)=none from hn];simp)];exact mem_singleton.2 rfl
 have hrl:∀s∈Bi cmp2 (m.flatMap (rimF m)),inN v.length s.a0/\inN v.length s.a1:=fun s hs=>by
  rw[Ga] at hs;obtain⟨x,y⟩:=s;obtain⟨⟨c,hc⟩,_⟩:=(hmem x y).1 hs;have:=h.map.val hc;exact⟨this.2.1,this.1⟩
 have hlen:(Bi cmp2 (m.flatMap (rimF m))).length<=2000000:=by
  rw[Cr];have:=Ou hf m;omega
 rw[Bcp (b:=⟨v,m,F⟩) hn h.map,Ad];dsimp only;rw[Bcq hv hn h.map q2 hrl hlen,Ad];have hvis:∀s∈(Bi cmp2 (m.flatMap (rimF m))).filter (visB v l[k]),Vis (plV v) (Rim (apM m)) l[k] s.a0 s.a1:=fun s hs=>by
  obtain⟨h1,h2⟩:=mem_filter.1 hs;rw[Ga] at h1;exact⟨(hmem s.a0 s.a1).1 h1,by unfold visB at h2;simpa using h2⟩
 have hmv:∀x y:Int,(⟨x,y⟩:Ac)∈(Bi cmp2 (m.flatMap (rimF m))).filter (visB v l[k])↔Vis (plV v) (Rim (apM m)) l[k] x y:=fun x y=>by
  constructor
  .exact fun hs=>hvis _ hs
  .rintro⟨h1,h2⟩;exact mem_filter.2 ⟨Ga.2 ((hmem x y).2 h1),by unfold visB;simpa using h2⟩
 obtain⟨o1,o2⟩:=Ajw h.map.ok hA _ hvis;have hN:∀i j c,apM (putAll m l[k] ((Bi cmp2 (m.flatMap (rimF m))).filter (visB v l[k]))) i j=some c↔apM m i j=some c\/New (plV v) (Rim (apM m)) l[k] i j c:=fun i j c=>by
  rw[o2,hmv,hmv,hmv];rfl
 refine⟨_,rfl,⟨?_,hA.tri' hN,?_,?_⟩,fun hne=>?_⟩
 .exact h.map.putAll q2 fun s hs=>hrl s (mem_filter.1 hs).1
 .have:=hA.cov' hN h.cov;intro i j c hc hn d hd;exact this i j c hc hn d ((Ow.succ hk).1 hd)
 .intro i j c hc;exact (Ow.succ hk).2 (hA.used' hN i j c hc)
 .obtain⟨q,hq⟩:=exists_mem_of_ne_nil m hne;intro e;obtain⟨⟨a,b⟩,c⟩:=q;have hc:apM m a b=some c:=Th h.map.ok hq;have:=(hN a b c).2 (.inl hc);rw[e] at this;cases this
end
def Ahp(v:List Ae):Prop:=∀i j k,inN v.length i->inN v.length j->inN v.length k->crs (plV v i) (plV v j) (plV v k)=0
section
variable {v:List Ae}{l:LI}
theorem Bem(hv:Ie v)(hn:v.length<=1024)(hr:Qx v l)(b:An)(hb:b.v=v):∃ n0:Nat,lfix (Hl l b) 2=some (n0:Int)/\2<=n0/\(∀ k,2<=k->k<n0->∃ (h0:0<l.length) (h1:1<l.length) (hk:k<l.length),crs (plV v l[0]) (plV v l[1]) (plV v l[k])=0) /\
  (∀(h0:0<l.length) (h1:1<l.length) (hk:n0<l.length),crs (plV v l[0]) (plV v l[1]) (plV v l[n0])≠0)/\(n0<=l.length\/n0=2):=by
 have hlen:=hr.len;have:=Aw (B:=Hl l b) (fun s=>l.length-s.toNat) (fun s=>∃k:Nat,s=(k:Int)/\2<=k/\(k<=l.length\/k=2)/\∀j,2<=j->j<k->∃(h0:0<l.length) (h1:1<l.length) (hk:j<l.length),crs (plV v l[0]) (plV v l[1]) (plV v l[j])=0)
  (fun t=>∃n0:Nat,t=(n0:Int)/\2<=n0/\(∀k,2<=k->k<n0->∃(h0:0<l.length) (h1:1<l.length) (hk:k<l.length),crs (plV v l[0]) (plV v l[1]) (plV v l[k])=0) /\
   (∀(h0:0<l.length) (h1:1<l.length) (hk:n0<l.length),crs (plV v l[0]) (plV v l[1]) (plV v l[n0])≠0)/\(n0<=l.length\/n0=2)) (fun s hs=>by
   obtain⟨k,rfl,h2,h3,h4⟩:=hs;unfold Hl;rw[jn_d]
   by_cases c:k<l.length
   .have h0:0<l.length:=oo;have h1:1<l.length:=oo;have i0:idx l 0=some l[0]:=Am (j:=0) h0;have i1:idx l 1=some l[1]:=Am (j:=1) h1;have v0:=hr.val.1 (getElem_mem h0);have v1:=hr.val.1 (getElem_mem h1);have vk:=hr.val.1 (getElem_mem c);rw[<-hb] at v0 v1 vk;rw[if_pos oo,i0,Ad,i1,Ad,Am c,Ad,p_eq v0,Ad,p_eq v1,Ad,p_eq vk,Ad,hb];rw[hb] at v0 v1 vk;rw[turn_eq (hv.ok _ v0) (hv.ok _ v1) (hv.ok _ vk),Ad]
    by_cases z:crs (plV v l[0]) (plV v l[1]) (plV v l[k])=0
    .left;rw[decide_eq_true (by rw[z];rfl)];refine⟨((k+1:Nat):Int),?_,⟨k+1,rfl,oo,.inl oo,fun j hj hjk=>?_⟩,oo⟩
     .dsimp only;rw[if_pos rfl,Au oo]
     .by_cases e:j=k
      .subst e;exact⟨h0,h1,c,z⟩
      .exact h4 j hj oo
    .right;rw[decide_eq_false (by rwa [Int.sign_eq_zero_iff_zero])];exact⟨(k:Int),rfl,k,rfl,h2,h4,fun _ _ _=>z,h3⟩
   .right;rw[if_neg oo];exact⟨(k:Int),rfl,k,rfl,h2,h4,fun _ _ hk=>absurd hk c,h3⟩) 2 ⟨2,rfl,oo,.inr rfl,fun j h1 h2=>oo⟩
 obtain⟨t,h1,n0,rfl,h2⟩:=this;exact⟨n0,h1,h2⟩
structure Fan(v:List Ae)(l:LI)(n0:Nat):Prop where
 two:2<=n0
 lt:n0<l.length
 col:∀i j k,Ow l n0 i->Ow l n0 j->Ow l n0 k->crs (plV v i) (plV v j) (plV v k)=0
 off:crs (plV v l[0]) (plV v l[1]) (plV v l[n0])≠0
def fanS(v:List Ae)(l:LI)(n0 i:Nat):Ac:=if 0<crs (plV v (l.getD i 0)) (plV v (l.getD (i+1) 0)) (plV v (l.getD n0 0)) then ⟨l.getD i 0,l.getD (i+1) 0⟩ else ⟨l.getD (i+1) 0,l.getD i 0⟩
def fanL(v:List Ae)(l:LI)(n0 k:Nat):List Ac:=(List.range k).map (fanS v l n0)
theorem Ps{l:LI}{i:Nat}(h:i<l.length):l.getD i 0=l[i]:=by simp[h]
theorem Fan.place(hr:Qx v l){n0:Nat}(hf:Fan v l n0){i:Nat}(h:i<n0):Ow l n0 (l.getD i 0):=by
 have:=hf.lt;exact⟨i,oo,h,Ps oo⟩
theorem Fan.bef(hr:Qx v l){n0:Nat}(hf:Fan v l n0){i j:Nat}(h:i<j)(hj:j<n0):befP (plV v (l.getD i 0)) (plV v (l.getD j 0)):=by
 have:=hf.lt;rw[Ps (show i<l.length by omega),Ps (show j<l.length by omega)];exact hr.lt oo oo h
theorem Ben(hv:Ie v)(hn:v.length<=1024)(hr:Qx v l){n0:Nat}(hf:Fan v l n0){F:List (Ac × Bool)}:
  lfix (Ep (n0:Int) l) (v,[],F,0)=some (v,putAll [] (l.getD n0 0) (fanL v l n0 (n0-1)),F):=by
 have h2:=hf.two;have hlt:=hf.lt;have hlen:=hr.len;have val:∀i,i<l.length->inN v.length (l.getD i 0):=fun i hi=>by rw[Ps hi];exact hr.val.1 (getElem_mem hi)
 have hM:∀k,k<=n0-1->MapN v.length (putAll [] (l.getD n0 0) (fanL v l n0 k)):=fun k hk=>by
  refine MapN.putAll (val n0 hlt) ⟨List.Pairwise.nil,fun q hq=>by cases hq⟩ fun s hs=>?_
  obtain⟨i,hi,rfl⟩:=mem_map.1 hs;rw[mem_range] at hi;unfold fanS;split
  .exact⟨val _ oo,val _ oo⟩
  .exact⟨val _ oo,val _ oo⟩
 refine Add (B:=Ep (n0:Int) l) (fun k=>(v,putAll [] (l.getD n0 0) (fanL v l n0 k),F,(k:Int))) (v,putAll [] (l.getD n0 0) (fanL v l n0 (n0-1)),F) (n0-1) (fun k hk=>?_) ?_
 ·unfold Ep;simp only;rw[Au oo,if_pos oo,jn_d,Am (show k<l.length by omega),Ad,Am (show k+1<l.length by omega),Ad,Am hlt,Ad];have v0:=val k oo;have v1:=val (k+1) oo;have vp:=val n0 hlt;have e:putAll [] (l.getD n0 0) (fanL v l n0 (k+1))=putM (putAll [] (l.getD n0 0) (fanL v l n0 k)) (fanS v l n0 k).a0 (fanS v l n0 k).a1 (l.getD n0 0):=by
   unfold putAll fanL;rw[range_succ,map_append,foldl_append];rfl
  rw[e];unfold fanS;rw[Ps (show k<l.length by omega)] at v0⊢;rw[Ps (show k+1<l.length by omega)] at v1⊢;rw[Ps hlt] at vp⊢;have hM':=hM k oo;rw[Ps hlt] at hM';rw[p_eq (b:=⟨v,_,F⟩) v0,Ad,p_eq (b:=⟨v,_,F⟩) v1,Ad,p_eq (b:=⟨v,_,F⟩) vp,Ad,turn_eq (hv.ok _ v0) (hv.ok _ v1) (hv.ok _ vp),Ad]
  by_cases c:0<crs (plV v l[k]) (plV v l[k+1]) (plV v l[n0])
  .rw[Int.sign_eq_one_of_pos c,if_pos oo,if_pos c,Ad,Ad,Ad,Aho (b:=⟨v,putAll [] l[n0] (fanL v l n0 k),F⟩) hn hM' v0 v1 vp,Ad]
  ·rw[if_neg (fun g=>c (by
    rcases Int.lt_trichotomy (crs (plV v l[k]) (plV v l[k+1]) (plV v l[n0])) 0 with t|t|t
    .rw[Int.sign_eq_neg_one_of_neg t] at g;omega
    .rw[t] at g;simp at g
    .exact t)),if_neg c,Ad,Ad,Ad,Aho (b:=⟨v,putAll [] l[n0] (fanL v l n0 k),F⟩) hn hM' v1 v0 vp,Ad]
 .unfold Ep;simp only;rw[Au oo,if_neg oo]
theorem Fan.swept(hv:Ie v)(hn:v.length<=1024)(hr:Qx v l){n0:Nat}(hf:Fan v l n0):Ajx v l (n0+1) (putAll [] (l.getD n0 0) (fanL v l n0 (n0-1)))/\putAll [] (l.getD n0 0) (fanL v l n0 (n0-1))≠[]:=by
 have h2:=hf.two;have hlt:=hf.lt;have hlen:=hr.len;have val:∀i,i<l.length->inN v.length (l.getD i 0):=fun i hi=>by rw[Ps hi];exact hr.val.1 (getElem_mem hi)
 obtain⟨q1,q2,q3,q4,q5⟩:=hr.place hlt;rw[<-Ps hlt] at q2 q3 q4 q5;have hoff:=hf.off;rw[<-Ps (show 0<l.length by omega),<-Ps (show 1<l.length by omega),<-Ps hlt] at hoff;generalize hp:l.getD n0 0=p at *;have he:∀i j,apM [] i j=none:=fun i j=>rfl
 have hS:∀i,Ow l n0 i↔∃k,k<n0/\i=l.getD k 0:=fun i=>by
  constructor
  .rintro⟨j,hj,h1,rfl⟩;exact⟨j,h1,(Ps hj).symm⟩
  .rintro⟨k,hk,rfl⟩;exact hf.place hr hk
 have same:∀ i,i+1<n0->(0<crs (plV v (l.getD 0 0)) (plV v (l.getD 1 0)) (plV v p)->0<crs (plV v (l.getD i 0)) (plV v (l.getD (i+1) 0)) (plV v p)) /\
   (crs (plV v (l.getD 0 0)) (plV v (l.getD 1 0)) (plV v p)<0->crs (plV v (l.getD i 0)) (plV v (l.getD (i+1) 0)) (plV v p)<0):=by
  intro i
  induction i with
  |zero=>exact fun _=>⟨fun h=>h,fun h=>h⟩
  |succ i ih=>
   intro hi;obtain⟨i1,i2⟩:=ih oo;have b1:=hf.bef hr (show i<i+1 by omega) oo;have b2:=hf.bef hr (show i+1<i+2 by omega) hi;have c0:=hf.col _ _ _ (hf.place hr (show i<n0 by omega)) (hf.place hr (show i+1<n0 by omega)) (hf.place hr hi);exact⟨fun h=>Ate b1 b2 c0 (i1 h),fun h=>Ajf b1 b2 c0 (i2 h)⟩
 have key:∃R,Adds (plV v) (inN v.length) (Ow l n0) (apM []) R p/\∀x y:Int,(⟨x,y⟩:Ac)∈fanL v l n0 (n0-1)↔Vis (plV v) R p x y:=by
  rcases Int.lt_or_gt_of_ne hoff with c|c
  .refine⟨Amq (fun j=>l.getD (n0-1-j) 0) n0,Ahl he (fun i=>?_) (fun a b c h1 h2 h3=>hf.col a b c h1 h2 h3) (fun i hi=>?_) q1 q2 q3 q4 q5,fun x y=>?_⟩
   .rw[hS];constructor
    .rintro⟨k,hk,rfl⟩;exact⟨n0-1-k,oo,by (try dsimp only);rw[show n0-1-(n0-1-k)=k by omega]⟩
    .rintro⟨k,hk,rfl⟩;exact⟨n0-1-k,oo,rfl⟩
   .have:=(same (n0-2-i) oo).2 c;rw[show n0-2-i+1=n0-1-i by omega] at this;try dsimp only
    rw[show n0-1-(i+1)=n0-2-i by omega,Cf];omega
   .unfold fanL Vis Amq;rw[mem_map];constructor
    .rintro⟨i,hi,e⟩;rw[mem_range] at hi;have hneg:=(same i oo).2 c;unfold fanS at e;rw[hp,if_neg oo,Nb] at e;obtain⟨rfl,rfl⟩:=e;refine⟨⟨n0-2-i,oo,by (try dsimp only);rw[show n0-1-(n0-2-i)=i+1 by omega],by (try dsimp only);rw[show n0-1-(n0-2-i+1)=i by omega]⟩,?_⟩;rw[Cf];omega
    .rintro⟨⟨i,hi,rfl,rfl⟩,_⟩;refine⟨n0-2-i,by rw[mem_range];omega,?_⟩;have hneg:=(same (n0-2-i) oo).2 c;unfold fanS;rw[hp,if_neg oo,Nb];exact⟨by (try dsimp only);rw[show n0-2-i+1=n0-1-i by omega],by (try dsimp only);rw[show n0-1-(i+1)=n0-2-i by omega]⟩
  .refine⟨Amq (fun j=>l.getD j 0) n0,Ahl he hS (fun a b c h1 h2 h3=>hf.col a b c h1 h2 h3) (fun i hi=>(same i hi).1 c) q1 q2 q3 q4 q5,fun x y=>?_⟩;unfold fanL Vis Amq;rw[mem_map];constructor
   .rintro⟨i,hi,e⟩;rw[mem_range] at hi;have hpos:=(same i oo).1 c;unfold fanS at e;rw[hp,if_pos hpos,Nb] at e;obtain⟨rfl,rfl⟩:=e;exact⟨⟨i,oo,rfl,rfl⟩,hpos⟩
   .rintro⟨⟨i,hi,rfl,rfl⟩,hpos⟩;refine⟨i,by rw[mem_range];omega,?_⟩;unfold fanS;rw[hp,if_pos hpos]
 obtain⟨R,hA,hmv⟩:=key;obtain⟨o1,o2⟩:=Ajw (m:=[]) List.Pairwise.nil hA (fanL v l n0 (n0-1)) fun s hs=>(hmv s.a0 s.a1).1 hs
 have hN:∀i j c,apM (putAll [] p (fanL v l n0 (n0-1))) i j=some c↔apM [] i j=some c\/New (plV v) R p i j c:=fun i j c=>by
  rw[o2,hmv,hmv,hmv];rfl
 have hpl:p=l[n0]:=by rw[<-hp,Ps hlt]
 refine⟨⟨?_,hA.tri' hN,?_,?_⟩,fun e=>?_⟩
 .refine MapN.putAll q2 ⟨List.Pairwise.nil,fun q hq=>by cases hq⟩ fun s hs=>?_
  have:=(hA.r1 _ _ ((hmv s.a0 s.a1).1 hs).1);exact⟨q1 _ this.1,q1 _ this.2.1⟩
 .have:=hA.cov' hN (fun i j k hk=>by cases hk);intro i j c hc hn d hd;refine this i j c hc hn d ?_;rw[hpl];exact (Ow.succ hlt).1 hd
 .intro i j c hc;refine (Ow.succ hlt).2 ?_;rw[<-hpl];exact hA.used' hN i j c hc
 .have h0:fanS v l n0 0∈fanL v l n0 (n0-1):=mem_map.2 ⟨0,by rw[mem_range];omega,rfl⟩;have:=(o2 (fanS v l n0 0).a0 (fanS v l n0 0).a1 p).2 (.inr (.inl ⟨h0,rfl⟩));rw[e] at this;cases this
end
end
end Go.Proofs.YthlkpgdfifnagaaGreat
