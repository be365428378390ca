import Derived.Test.YtlejkgngmjchdaaGreatK4
namespace Go.Proofs.YtlejkgngmjchdaaGreat
open Go Go.RowKit List
noncomputable section
section
variable {P:Int->Ad}{H:Int->Int}{V:Int->Prop}{ap:Ap}
def Ef(ap:Ap)(i j k l:Int):Ap:=fun a b=>
 if a=i/\b=l then some k else if a=l/\b=k then some i else if a=k/\b=i then some l else
 if a=j/\b=k then some l else if a=k/\b=l then some j else if a=l/\b=j then some k else
 if a=i/\b=j then none else if a=j/\b=i then none else ap a b
theorem Qf{i j k l a b c:Int}(h:Ef ap i j k l a b=some c):
  (a=i/\b=l/\c=k)\/(a=l/\b=k/\c=i)\/(a=k/\b=i/\c=l)\/(a=j/\b=k/\c=l)\/(a=k/\b=l/\c=j)\/(a=l/\b=j/\c=k) \/
  (ap a b=some c/\¬(a=i/\b=l)/\¬(a=l/\b=k)/\¬(a=k/\b=i)/\¬(a=j/\b=k)/\¬(a=k/\b=l)/\¬(a=l/\b=j)/\¬(a=i/\b=j)/\¬(a=j/\b=i)):=by
 unfold Ef at h
 by_cases k0:a=i/\b=l
 .rw[iP k0] at h;exact .inl ⟨k0.1,k0.2,(oI h).symm⟩
 rw[iN k0] at h
 by_cases k1:a=l/\b=k
 .rw[iP k1] at h;exact .inr (.inl ⟨k1.1,k1.2,(oI h).symm⟩)
 rw[iN k1] at h
 by_cases k2:a=k/\b=i
 .rw[iP k2] at h;exact .inr (.inr (.inl ⟨k2.1,k2.2,(oI h).symm⟩))
 rw[iN k2] at h
 by_cases k3:a=j/\b=k
 .rw[iP k3] at h;exact .inr (.inr (.inr (.inl ⟨k3.1,k3.2,(oI h).symm⟩)))
 rw[iN k3] at h
 by_cases k4:a=k/\b=l
 .rw[iP k4] at h;exact .inr (.inr (.inr (.inr (.inl ⟨k4.1,k4.2,(oI h).symm⟩))))
 rw[iN k4] at h
 by_cases k5:a=l/\b=j
 .rw[iP k5] at h;exact .inr (.inr (.inr (.inr (.inr (.inl ⟨k5.1,k5.2,(oI h).symm⟩)))))
 rw[iN k5] at h
 by_cases k6:a=i/\b=j
 .rw[iP k6] at h;cases h
 rw[iN k6] at h
 by_cases k7:a=j/\b=i
 .rw[iP k7] at h;cases h
 rw[iN k7] at h;exact .inr (.inr (.inr (.inr (.inr (.inr ⟨h,k0,k1,k2,k3,k4,k5,k6,k7⟩)))))
theorem Art(ap:Ap)(i j k l:Int)(h1:i≠j)(h2:k≠l)(h3:k≠i)(h4:k≠j)(h5:l≠i)(h6:l≠j):Ef ap j i l k=Ef ap i j k l:=by
 funext a b;unfold Ef;grind
theorem Aun{i j k l s m:Int}(h:Tri P V ap)(hk:ap i j=some k)(hl:ap j i=some l)(hm:Ef ap i j k l s m≠none\/Ef ap i j k l m s≠none):
  ((ap s m≠none\/ap m s≠none)/\¬(s=i/\m=j)/\¬(s=j/\m=i))\/(s=k/\m=l)\/(s=l/\m=k):=by
 have a1:=h.rot _ _ _ hk;have a2:=h.rot2 hk;have a3:=h.rot _ _ _ hl;have a4:=h.rot2 hl;have n1:=h.ne hk;have n2:=h.ne hl;have key:∀x y,Ef ap i j k l x y≠none->((ap x y≠none\/ap y x≠none)/\¬(x=i/\y=j)/\¬(x=j/\y=i))\/(x=k/\y=l)\/(x=l/\y=k):=by
  intro x y hx;obtain⟨c,hc⟩:=Option.ne_none_iff_exists'.1 hx;rcases Qf hc with⟨rfl,rfl,rfl⟩|⟨rfl,rfl,rfl⟩|⟨rfl,rfl,rfl⟩|⟨rfl,rfl,rfl⟩|⟨rfl,rfl,rfl⟩|⟨rfl,rfl,rfl⟩|⟨h0,h1⟩
  .exact .inl ⟨.inl (by rw[a3];simp),oo,oo⟩
  .exact .inr (.inr ⟨rfl,rfl⟩)
  .exact .inl ⟨.inl (by rw[a2];simp),oo,oo⟩
  .exact .inl ⟨.inl (by rw[a1];simp),oo,oo⟩
  .exact .inr (.inl ⟨rfl,rfl⟩)
  .exact .inl ⟨.inl (by rw[a4];simp),oo,oo⟩
  .exact .inl ⟨.inl (by rw[h0];simp),oo,oo⟩
 rcases hm with hm|hm
 .exact key s m hm
 .rcases key m s hm with⟨g1,g2,g3⟩|⟨g1,g2⟩|⟨g1,g2⟩
  .exact .inl ⟨g1.symm,oo,oo⟩
  .exact .inr (.inr ⟨g2,g1⟩)
  .exact .inr (.inl ⟨g2,g1⟩)
structure Quad(P:Int->Ad)(V:Int->Prop)(ap:Ap)(i j k l:Int):Prop where
 tri:Tri P V ap
 hk:ap i j=some k
 hl:ap j i=some l
 c1:0<crs (P i) (P l) (P k)
 c2:0<crs (P j) (P k) (P l)
theorem Quad.symm{i j k l}(q:Quad P V ap i j k l):Quad P V ap j i l k:=⟨q.tri,q.hl,q.hk,q.c2,q.c1⟩
theorem Quad.ne{i j k l}(q:Quad P V ap i j k l):i≠j/\k≠l/\k≠i/\k≠j/\l≠i/\l≠j:=by
 have n1:=q.tri.ne q.hk;have n2:=q.tri.ne q.hl;have n3:=Ya (P:=P) (a:=i) (b:=l) (c:=k) (by have:=q.c1;omega);omega
theorem Quad.fresh{i j k l}(q:Quad P V ap i j k l):ap k l=none/\ap l k=none:=by
 have key:∀{i j k l},Quad P V ap i j k l->¬(ap k l≠none\/ap l k≠none):=fun {i j k l} q hn=>by
  refine q.tri.cone k i j l (q.tri.rot2 q.hk) hn ⟨?_,?_⟩
  .have:=q.c1;rw[Au] at this;exact this
  .rw[Au];exact q.c2
 have:=key q;exact⟨by rcases h:ap k l with _|x;rfl;exact absurd (.inl (by rw[h];simp)) this,by rcases h:ap l k with _|x;rfl;exact absurd (.inr (by rw[h];simp)) this⟩
theorem Auo{i j k l}(q:Quad P V ap i j k l):∀a b c,Ef ap i j k l a b=some c->Ef ap i j k l b c=some a:=by
 intro a b c hc;have a1:=q.tri.rot _ _ _ q.hk;have a2:=q.tri.rot2 q.hk;have a3:=q.tri.rot _ _ _ q.hl;have a4:=q.tri.rot2 q.hl;have hk:=q.hk;have hl:=q.hl;obtain⟨f1,f2⟩:=q.fresh;obtain⟨n1,n2,n3,n4,n5,n6⟩:=q.ne;have hr:=q.tri.rot;rcases Qf hc with⟨rfl,rfl,rfl⟩|⟨rfl,rfl,rfl⟩|⟨rfl,rfl,rfl⟩|⟨rfl,rfl,rfl⟩|⟨rfl,rfl,rfl⟩|⟨rfl,rfl,rfl⟩|⟨h0,h1⟩
 .unfold Ef;grind
 .unfold Ef;grind
 .unfold Ef;grind
 .unfold Ef;grind
 .unfold Ef;grind
 .unfold Ef;grind
 .have h2:=hr _ _ _ h0;unfold Ef;grind
theorem Ayr{pi pj pk pl pd:Ad}(hk:0<crs pi pj pk)(hl:0<crs pj pi pl)(c1:0<crs pi pl pk)(c2:0<crs pj pk pl)(d1:0<=crs pi pl pd)(d2:0<=crs pl pk pd)(d3:0<=crs pk pi pd):
  (0<=crs pi pj pd/\0<=crs pj pk pd/\0<=crs pk pi pd)\/(0<=crs pj pi pd/\0<=crs pi pl pd/\0<=crs pl pj pd):=by
 by_cases c:0<=crs pi pj pd
 .left;refine⟨c,?_,d3⟩;have e:crs pi pl pk*crs pj pk pd=crs pi pj pk*crs pl pk pd+crs pj pk pl*crs pk pi pd:=by unfold crs;grind
  have:=Int.mul_nonneg (Int.le_of_lt hk) d2;have:=Int.mul_nonneg (Int.le_of_lt c2) d3;exact Oj (x:=crs pi pl pk) oo c1
 .right;refine⟨by rw[Bb];omega,d1,?_⟩;have e:crs pi pl pk*crs pl pj pd=crs pj pi pl*crs pl pk pd+crs pj pk pl*crs pi pl pd:=by unfold crs;grind
  have:=Int.mul_nonneg (Int.le_of_lt hl) d2;have:=Int.mul_nonneg (Int.le_of_lt c2) d1;exact Oj (x:=crs pi pl pk) oo c1
theorem Quad.emp1{i j k l}(q:Quad P V ap i j k l)(d:Int)(hd:V d)(h1:d≠i)(h2:d≠l)(h3:d≠k):crs (P i) (P l) (P d)<0\/crs (P l) (P k) (P d)<0\/crs (P k) (P i) (P d)<0:=by
 obtain⟨_,_,_,ck⟩:=q.tri.ccw _ _ _ q.hk;obtain⟨_,_,_,cl⟩:=q.tri.ccw _ _ _ q.hl
 by_cases hj:d=j
 .subst hj;have:crs (P l) (P k) (P d) = -crs (P d) (P k) (P l):=by unfold crs;grind
  have:=q.c2;omega
 .by_cases g1:crs (P i) (P l) (P d)<0
  .exact .inl g1
  .by_cases g2:crs (P l) (P k) (P d)<0
   .exact .inr (.inl g2)
   .by_cases g3:crs (P k) (P i) (P d)<0
    .exact .inr (.inr g3)
    .exfalso;rcases Ayr (pd:=P d) ck cl q.c1 q.c2 oo oo oo with⟨e1,e2,e3⟩|⟨e1,e2,e3⟩
     .rcases q.tri.emp _ _ _ q.hk d hd h1 hj h3 with g|g|g <;> omega
     .rcases q.tri.emp _ _ _ q.hl d hd hj h1 h2 with g|g|g <;> omega
theorem Quad.cone_i{i j k l}(q:Quad P V ap i j k l)(m:Int)(hm:ap i m≠none\/ap m i≠none)(hj:m≠j):¬(0<crs (P i) (P l) (P m)/\0<crs (P i) (P m) (P k)):=by
 rintro⟨g1,g2⟩;have hk:=q.hk;have hl:=q.tri.rot _ _ _ q.hl;obtain⟨vi,vj,vk,ck⟩:=q.tri.ccw _ _ _ hk;obtain⟨_,vl,_,cl⟩:=q.tri.ccw _ _ _ hl;rcases Int.lt_trichotomy (crs (P i) (P j) (P m)) 0 with c|c|c
 .exact q.tri.cone i l j m hl hm ⟨g1,by rw[Bl];omega⟩
 ·-- on the ray to j
  have ne:=q.tri.ne hk;have ne':=q.tri.ne hl;have cmj:crs (P i) (P m) (P j)=0:=by rw[Bl,c];rfl
  rcases q.tri.nbr hm with⟨w,hw⟩|⟨w,hw⟩
  .obtain⟨_,vm,vw,cw⟩:=q.tri.ccw _ _ _ hw;have k1:0<crs (P i) (P j) (P w):=Af0 (l:=P k) c ck g2 cw;rcases At3 cmj cw k1 ck g2 with⟨q1,q2⟩|⟨q1,q2⟩
   .have nw:=q.tri.ne hw
    by_cases e:j=w
    .subst e;omega
    .rcases q.tri.emp _ _ _ hw j vj oo oo e with g|g|g <;> omega
   .by_cases e:m=k
    .subst e;omega
    .rcases q.tri.emp _ _ _ hk m vm (q.tri.ne hw).1.symm hj e with g|g|g <;> omega
  .obtain⟨_,vw,vm,cw⟩:=q.tri.ccw _ _ _ hw;have nw:=q.tri.ne hw;have k1:0<crs (P i) (P w) (P j):=Arp (l:=P l) c cl g1 cw;rcases Ax8 cmj cw k1 cl g1 with⟨q1,q2⟩|⟨q1,q2⟩
   .by_cases e:j=w
    .subst e;rw[Bq] at k1;omega
    .have:crs (P m) (P i) (P j)=0:=by rw[Bb,cmj];rfl
     rcases q.tri.emp _ _ _ hw j vj oo e oo with g|g|g <;> omega
   .by_cases e:m=l
    .subst e;rw[Bq] at g1;omega
    .have:crs (P j) (P i) (P m)=0:=by rw[Bb,c];rfl
     rcases q.tri.emp _ _ _ hl m vm oo e hj with g|g|g <;> omega
 .exact q.tri.cone i j k m hk hm ⟨c,g2⟩
theorem Quad.cone_k{i j k l}(q:Quad P V ap i j k l)(m:Int)(hm:ap k m≠none\/ap m k≠none):¬(0<crs (P k) (P i) (P m)/\0<crs (P k) (P m) (P l)):=by
 rintro⟨g1,g2⟩;have hk:=q.tri.rot2 q.hk;obtain⟨_,_,_,ck⟩:=q.tri.ccw _ _ _ hk;have c2:0<crs (P k) (P l) (P j):=by rw[Au];exact q.c2
 have c1:0<crs (P k) (P i) (P l):=by have:=q.c1;rw[Au] at this;exact this
 refine q.tri.cone k i j m hk hm ⟨g1,?_⟩;exact Zl (l:=P l) c1 c2 ck g1 g2
theorem Quad.cone_l{i j k l}(q:Quad P V ap i j k l)(m:Int)(hm:ap l m≠none\/ap m l≠none):¬(0<crs (P l) (P k) (P m)/\0<crs (P l) (P m) (P i)):=by
 rintro⟨g1,g2⟩;have hl:=q.tri.rot2 q.hl;obtain⟨_,_,_,cl⟩:=q.tri.ccw _ _ _ hl;have c1:0<crs (P l) (P k) (P i):=by rw[Au];exact q.c1
 have c2:0<crs (P l) (P j) (P k):=by have:=q.c2;rw[Au] at this;exact this
 refine q.tri.cone l j i m hl hm ⟨?_,g2⟩;exact Ajd (l:=P k) c2 c1 cl g2 g1
theorem Quad.flip{i j k l}(q:Quad P V ap i j k l):Tri P V (Ef ap i j k l):=by
 have hk:=q.hk;have hl:=q.hl;obtain⟨vi,vj,vk,ck⟩:=q.tri.ccw _ _ _ hk;obtain⟨_,_,vl,cl⟩:=q.tri.ccw _ _ _ hl;have c1:=q.c1;have c2:=q.c2;have c1':0<crs (P l) (P k) (P i):=by rw[Au];exact c1
 have c1'':0<crs (P k) (P i) (P l):=by rw[Au];exact c1'
 have c2':0<crs (P k) (P l) (P j):=by rw[Au];exact c2
 have c2'':0<crs (P l) (P j) (P k):=by rw[Au];exact c2'
 have n:=q.ne;refine⟨Auo q,fun a b c hc=>?_,fun a b c hc d hd h1 h2 h3=>?_,fun s a b m hc hm=>?_⟩
 .rcases Qf hc with⟨rfl,rfl,rfl⟩|⟨rfl,rfl,rfl⟩|⟨rfl,rfl,rfl⟩|⟨rfl,rfl,rfl⟩|⟨rfl,rfl,rfl⟩|⟨rfl,rfl,rfl⟩|⟨h0,_⟩
  .exact⟨vi,vl,vk,c1⟩
  .exact⟨vl,vk,vi,c1'⟩
  .exact⟨vk,vi,vl,c1''⟩
  .exact⟨vj,vk,vl,c2⟩
  .exact⟨vk,vl,vj,c2'⟩
  .exact⟨vl,vj,vk,c2''⟩
  .exact q.tri.ccw _ _ _ h0
 .rcases Qf hc with⟨rfl,rfl,rfl⟩|⟨rfl,rfl,rfl⟩|⟨rfl,rfl,rfl⟩|⟨rfl,rfl,rfl⟩|⟨rfl,rfl,rfl⟩|⟨rfl,rfl,rfl⟩|⟨h0,_⟩
  .exact q.emp1 d hd h1 h2 h3
  .rcases q.emp1 d hd h3 h1 h2 with g|g|g <;> simp[g]
  .rcases q.emp1 d hd h2 h3 h1 with g|g|g <;> simp[g]
  .exact q.symm.emp1 d hd h1 h2 h3
  .rcases q.symm.emp1 d hd h3 h1 h2 with g|g|g <;> simp[g]
  .rcases q.symm.emp1 d hd h2 h3 h1 with g|g|g <;> simp[g]
  .exact q.tri.emp _ _ _ h0 d hd h1 h2 h3
 .have hn:=Aun q.tri hk hl hm;rcases Qf hc with⟨rfl,rfl,rfl⟩|⟨rfl,rfl,rfl⟩|⟨rfl,rfl,rfl⟩|⟨rfl,rfl,rfl⟩|⟨rfl,rfl,rfl⟩|⟨rfl,rfl,rfl⟩|⟨h0,h9⟩
  ·-- at i
   rcases hn with⟨g1,g2,g3⟩|⟨g1,g2⟩|⟨g1,g2⟩
   .exact q.cone_i m g1 (fun e=>g2 ⟨rfl,e⟩)
   .omega
   .omega
  ·-- at l: from k to i
   rcases hn with⟨g1,g2,g3⟩|⟨g1,g2⟩|⟨g1,g2⟩
   .exact q.cone_l m g1
   .omega
   .rintro⟨e1,e2⟩;rw[g2,Bq] at e1;omega
  ·-- at k: from i to l
   rcases hn with⟨g1,g2,g3⟩|⟨g1,g2⟩|⟨g1,g2⟩
   .exact q.cone_k m g1
   .rintro⟨e1,e2⟩;rw[g2,Bq] at e2;omega
   .omega
  .rcases hn with⟨g1,g2,g3⟩|⟨g1,g2⟩|⟨g1,g2⟩
   .exact q.symm.cone_i m g1 (fun e=>g3 ⟨rfl,e⟩)
   .omega
   .omega
  .rcases hn with⟨g1,g2,g3⟩|⟨g1,g2⟩|⟨g1,g2⟩
   .exact q.symm.cone_l m g1
   .rintro⟨e1,e2⟩;rw[g2,Bq] at e1;omega
   .omega
  .rcases hn with⟨g1,g2,g3⟩|⟨g1,g2⟩|⟨g1,g2⟩
   .exact q.symm.cone_k m g1
   .omega
   .rintro⟨e1,e2⟩;rw[g2,Bq] at e2;omega
  .rcases hn with⟨g1,g2,g3⟩|⟨rfl,rfl⟩|⟨rfl,rfl⟩
   .exact q.tri.cone s a b m h0 g1
   ·-- at k,l within another angle
    rintro⟨e1,e2⟩;have:=q.tri.cones h0 (q.tri.rot2 hk) e1 e2 c1'' c2';omega
   .rintro⟨e1,e2⟩;have:=q.tri.cones h0 (q.tri.rot2 hl) e1 e2 c2'' c1';omega
end
section
variable {P:Int->Ad}{H:Int->Int}{V:Int->Prop}{ap:Ap}
def Af3(P:Int->Ad)(H:Int->Int)(V:Int->Prop):Prop :=
 ∀a b c d,V a->V b->V c->V d->0<crs (P a) (P b) (P c)->crs (P a) (P b) (P d)<0->(crs (P b) (P c) (P d)<=0\/crs (P c) (P a) (P d)<=0)->DH P H a b c d<0
def Cov(P:Int->Ad)(S:Int->Prop)(ap:Ap):Prop:=∀i j k,ap i j=some k->ap j i=none->∀d,S d->0<=crs (P i) (P j) (P d)
theorem Wz{i j k l a b:Int}(h:Ef ap i j k l a b=none):ap a b=none\/(a=i/\b=j)\/(a=j/\b=i):=by
 unfold Ef at h
 by_cases k0:a=i/\b=l
 .rw[iP k0] at h;cases h
 rw[iN k0] at h
 by_cases k1:a=l/\b=k
 .rw[iP k1] at h;cases h
 rw[iN k1] at h
 by_cases k2:a=k/\b=i
 .rw[iP k2] at h;cases h
 rw[iN k2] at h
 by_cases k3:a=j/\b=k
 .rw[iP k3] at h;cases h
 rw[iN k3] at h
 by_cases k4:a=k/\b=l
 .rw[iP k4] at h;cases h
 rw[iN k4] at h
 by_cases k5:a=l/\b=j
 .rw[iP k5] at h;cases h
 rw[iN k5] at h
 by_cases k6:a=i/\b=j
 .exact .inr (.inl k6)
 rw[iN k6] at h
 by_cases k7:a=j/\b=i
 .exact .inr (.inr k7)
 rw[iN k7] at h;exact .inl h
theorem Ays(ap:Ap)(i j k l:Int):Ef ap i j k l i l=some k:=by unfold Ef;simp
theorem Apk{i j k l:Int}(h1:l≠i):Ef ap i j k l l k=some i:=by unfold Ef;rw[iN oo];simp
theorem Apl{i j k l:Int}(h1:k≠i)(h2:k≠l)(h3:k≠j)(h4:l≠i):Ef ap i j k l k l=some j:=by unfold Ef;rw[iN oo,iN oo,iN oo,iN oo];simp
theorem Quad.cov{S:Int->Prop}{i j k l}(q:Quad P V ap i j k l)(h:Cov P S ap):Cov P S (Ef ap i j k l):=by
 have hk:=q.hk;have hl:=q.hl;have a1:=q.tri.rot _ _ _ hk;have a2:=q.tri.rot2 hk;have a3:=q.tri.rot _ _ _ hl;have a4:=q.tri.rot2 hl;obtain⟨n1,n2,n3,n4,n5,n6⟩:=q.ne;intro a b c hc hn d hd;have hn':ap b a=none\/(b=i/\a=j)\/(b=j/\a=i):=Wz hn;rcases Qf hc with⟨rfl,rfl,rfl⟩|⟨rfl,rfl,rfl⟩|⟨rfl,rfl,rfl⟩|⟨rfl,rfl,rfl⟩|⟨rfl,rfl,rfl⟩|⟨rfl,rfl,rfl⟩|⟨h0,h9⟩
 .exact h _ _ _ a3 (hn'.resolve_right oo) d hd
 .rw[Apl n3 n2 n4 n5] at hn;cases hn
 .exact h _ _ _ a2 (hn'.resolve_right oo) d hd
 .exact h _ _ _ a1 (hn'.resolve_right oo) d hd
 .rw[Apk n5] at hn;cases hn
 .exact h _ _ _ a4 (hn'.resolve_right oo) d hd
 .exact h _ _ _ h0 (hn'.resolve_right oo) d hd
theorem Sr(a b c d:Int):DH P H b c a d=DH P H a b c d:=Baw _ _ _ _ _ _ _ _
theorem Yb{a c x y Q s:Int}(h:x*a-y*c = -(Q*s))(ha:0<a)(hc:0<c)(hQ:0<Q)(hx:0<x)(hs:0<=s):0<y:=by
 have e1:=Int.mul_pos hx ha;have e2:=Int.mul_nonneg (Int.le_of_lt hQ) hs;exact Cs (x:=c) (by rw[Int.mul_comm];omega) hc
theorem Apm(hi hj hk hl hd:Int)(i j k l d:Ad):Dt hi hl hk hd i l k d*crs i j k-Dt hi hj hk hd i j k d*crs i l k = -(Dt hi hj hk hl i j k l*crs k i d):=by unfold Dt crs;grind
theorem Apn(hi hj hk hl hd:Int)(i j k l d:Ad):Dt hi hl hk hd i l k d*crs j i l-Dt hj hi hl hd j i l d*crs i l k = -(Dt hi hj hk hl i j k l*crs i l d):=by unfold Dt crs;grind
theorem Quad.swapQ{i j k l:Int}:DH P H j i l k=DH P H i j k l:=by
 unfold DH;rw[Ax7,Ak6,Int.neg_neg]
theorem Quad.conf1{i j k l d:Int}(hcv:Af3 P H V)(q:Quad P V ap i j k l)(hQ:0<DH P H i j k l)(hd:V d)(hC:0<DH P H i l k d):0<DH P H i j k d\/0<DH P H j i l d:=by
 obtain⟨vi,vj,vk,ck⟩:=q.tri.ccw _ _ _ q.hk;obtain⟨_,_,vl,cl⟩:=q.tri.ccw _ _ _ q.hl;have p1:=Apm (H i) (H j) (H k) (H l) (H d) (P i) (P j) (P k) (P l) (P d);have p2:=Apn (H i) (H j) (H k) (H l) (H d) (P i) (P j) (P k) (P l) (P d)
 by_cases g1:0<=crs (P k) (P i) (P d)
 .exact .inl (Yb p1 ck q.c1 hQ hC g1)
 .by_cases g2:0<=crs (P i) (P l) (P d)
  .exact .inr (Yb p2 cl q.c1 hQ hC g2)
  .have:=hcv i l k d vi vl vk hd q.c1 oo (.inr oo);omega
theorem Quad.conf2{i j k l d:Int}(hcv:Af3 P H V)(q:Quad P V ap i j k l)(hQ:0<DH P H i j k l)(hd:V d)(hC:0<DH P H i l k d)(hE:0<DH P H j k l d):0<DH P H i j k d:=by
 obtain⟨vi,vj,vk,ck⟩:=q.tri.ccw _ _ _ q.hk;obtain⟨_,_,vl,cl⟩:=q.tri.ccw _ _ _ q.hl;have p1:=Apm (H i) (H j) (H k) (H l) (H d) (P i) (P j) (P k) (P l) (P d);have p3:=Apn (H j) (H i) (H l) (H k) (H d) (P j) (P i) (P l) (P k) (P d)
 by_cases g1:0<=crs (P k) (P i) (P d)
 .exact Yb p1 ck q.c1 hQ hC g1
 .by_cases g2:0<=crs (P j) (P k) (P d)
  .exact Yb p3 ck q.c2 (by have:=Quad.swapQ (P:=P) (H:=H) (i:=i) (j:=j) (k:=k) (l:=l);unfold DH at this hQ;omega) hE g2
  .exfalso;have c2':0<crs (P k) (P l) (P j):=by rw[Au];exact q.c2
   have c1':0<crs (P k) (P i) (P l):=by have:=q.c1;rw[Au] at this;exact this
   by_cases g3:crs (P k) (P l) (P d)<=0
   .have:=hcv j k l d vj vk vl hd q.c2 oo (.inl g3);omega
   .have g4:crs (P l) (P k) (P d)<=0:=by rw[Bb];omega
    have:=hcv k i l d vk vi vl hd c1' oo (.inr g4);have e:DH P H k i l d=DH P H i l k d:=(Sr k i l d).symm;omega
end
section
theorem Apo{A B C E:Int->Bool}:∀{L:LI},(∀d∈L,(C d).toNat+(E d).toNat<=(A d).toNat+(B d).toNat)->L.countP C+L.countP E<=L.countP A+L.countP B
 |[],_=>s_
 |x::r,h=>by
  have h1:=h x mS;have h2:=Apo (L:=r) fun d hd=>h d (mO _ hd)
  simp only[countP_cons];cases hA:A x <;> cases hB:B x <;> cases hC:C x <;> cases hE:E x <;> rw[hA,hB,hC,hE] at h1 <;> simp at h1⊢ <;> omega
theorem App{A B C E:Int->Bool}:∀{L:LI} {x:Int},(∀d∈L,(C d).toNat+(E d).toNat<=(A d).toNat+(B d).toNat)->x∈L->(C x).toNat+(E x).toNat<(A x).toNat+(B x).toNat->L.countP C+L.countP E<L.countP A+L.countP B
 |[],_,_,hx,_=>by cases hx
 |y::r,x,h,hx,hlt=>by
  have h1:=h y mS;have h2:∀d∈r,(C d).toNat+(E d).toNat<=(A d).toNat+(B d).toNat:=fun d hd=>h d (mO _ hd)
  simp only[countP_cons];rcases mem_cons.1 hx with rfl|hx
  .have:=Apo h2;cases hA:A x <;> cases hB:B x <;> cases hC:C x <;> cases hE:E x <;> rw[hA,hB,hC,hE] at hlt <;> simp at hlt⊢ <;> omega
  .have:=App h2 hx hlt;cases hA:A y <;> cases hB:B y <;> cases hC:C y <;> cases hE:E y <;> rw[hA,hB,hC,hE] at h1 <;> simp at h1⊢ <;> omega
def inds(n:Nat):LI:=(List.range n).map fun k:Nat=>(k:Int)
def inN(n:Nat)(i:Int):Prop:=0<=i/\i<(n:Int)
theorem Ss{n:Nat}{i:Int}:i∈inds n↔inN n i:=by
 unfold inds inN;rw[mem_map];constructor
 .rintro⟨k,hk,rfl⟩;rw[mem_range] at hk;omega
 .rintro⟨h0,h1⟩;exact⟨i.toNat,by rw[mem_range];omega,oo⟩
theorem Xa{n:Nat}:(inds n).length=n:=by simp[inds]
variable {P:Int->Ad}{H:Int->Int}{ap:Ap}{n:Nat}
def cnf(P:Int->Ad)(H:Int->Int)(n:Nat)(a b c:Int):Nat:=(inds n).countP fun d=>decide (0<DH P H a b c d)
theorem Bbf(a b c:Int):cnf P H n a b c<=n:=by
 have:(inds n).countP (fun d=>decide (0<DH P H a b c d))<=(inds n).length:=countP_le_length;rw[Xa] at this;exact this
theorem Yc(a b c:Int):cnf P H n b c a=cnf P H n a b c:=by
 unfold cnf;simp only[Sr]
theorem DH_b(a b c:Int):DH P H a b c b=0:=by unfold DH;rw[Afx,Apd];omega
theorem DH_c(a b c:Int):DH P H a b c c=0:=by unfold DH;rw[Afx,Ape];omega
theorem Quad.cnf_lt{i j k l:Int}(hcv:Af3 P H (inN n))(q:Quad P (inN n) ap i j k l)(hQ:0<DH P H i j k l):cnf P H n i l k+cnf P H n j k l<cnf P H n i j k+cnf P H n j i l:=by
 obtain⟨vi,vj,vk,ck⟩:=q.tri.ccw _ _ _ q.hk;obtain⟨_,_,vl,cl⟩:=q.tri.ccw _ _ _ q.hl;have hQ':0<DH P H j i l k:=by rw[Quad.swapQ];exact hQ
 unfold cnf;refine App (x:=l) (fun d hd=>?_) (Ss.2 vl) ?_
 .have vd:=Ss.1 hd;have t1:=q.conf1 (d:=d) hcv hQ vd;have t2:=q.symm.conf1 (d:=d) hcv hQ' vd;have t3:=q.conf2 (d:=d) hcv hQ vd;have t4:=q.symm.conf2 (d:=d) hcv hQ' vd
  by_cases hC:0<DH P H i l k d
  .by_cases hE:0<DH P H j k l d
   .have hA:=t3 hC hE;have hB:=t4 hE hC;simp[hC,hE,hA,hB]
   .rcases t1 hC with hA|hB
    .simp[hC,hE,hA]
    .simp[hC,hE,hB]
  .by_cases hE:0<DH P H j k l d
   .rcases t2 hE with hB|hA
    .simp[hC,hE,hB]
    .simp[hC,hE,hA]
   .simp[hC,hE]
 .rw[DH_b,DH_c,DH_c];simp[hQ]
end
section
def plV(v:List Aa)(i:Int):Ad:=match idx v i with
 |some x=>⟨x.X,x.Y⟩
 |none=>⟨0,0⟩
structure Ci(v:List Aa):Prop where
 ok:∀i,inN v.length i->okP (plV v i)
 dist:∀i j,inN v.length i->inN v.length j->Bz (plV v i) (plV v j)->i=j
def KK:Int:=4611686018427387904
def aft(v:List Aa)(i:Int):Nat:=(inds v.length).countP fun j=>decide (befP (plV v i) (plV v j))
def hV(v:List Aa)(i:Int):Int:=KK^(v.length+1)*sq (plV v i)+KK^aft v i
theorem Bbg(v:List Aa)(i:Int):aft v i<=v.length:=by
 have:(inds v.length).countP (fun j=>decide (befP (plV v i) (plV v j)))<=(inds v.length).length:=countP_le_length;rw[Xa] at this;exact this
theorem Adq{v:List Aa}{i j:Int}(hj:inN v.length j)(h:befP (plV v i) (plV v j)):aft v j<aft v i:=by
 unfold aft;refine Wv (x:=j) (fun y _ hy=>?_) (Ss.2 hj) (sV h) (by simp[befP]);simp only[dQ] at hy⊢;unfold befP at *;omega
theorem St(k:Nat):1<=KK^k:=by
 have:0<KK^k:=Int.pow_pos dD;omega
theorem Apq{a b:Nat}(h:a<=b):KK^a<=KK^b:=by
 obtain⟨c,rfl⟩:=Nat.le.dest h;rw[Int.pow_add];have h1:=St a;have h2:=St c;have:=Int.mul_le_mul_of_nonneg_left h2 (oo:0<=KK^a);omega
theorem Ah6{a b:Nat}(h:a<b):KK*KK^a<=KK^b:=by
 have:=Apq (a:=a+1) (b:=b) h;rw[Int.pow_succ,Int.mul_comm] at this;exact this
theorem Bbh(B sa sb sc sd wa wb wc wd:Int)(a b c d:Ad):Dt (B*sa+wa) (B*sb+wb) (B*sc+wc) (B*sd+wd) a b c d=B*Dt sa sb sc sd a b c d+Dt wa wb wc wd a b c d:=by unfold Dt;grind
theorem Acn(v:List Aa)(a b c d:Int):DH (plV v) (hV v) a b c d=KK^(v.length+1)*inC (plV v a) (plV v b) (plV v c) (plV v d)+Dt (KK^aft v a) (KK^aft v b) (KK^aft v c) (KK^aft v d) (plV v a) (plV v b) (plV v c) (plV v d):=by
 unfold DH hV;rw[Bbh,<-Bav]
theorem Re{w x N C:Int}(hw0:0<=w)(hw:w<=N)(hC:0<=C)(h1:-C<=x)(h2:x<=C):-(N*C)<=w*x/\w*x<=N*C:=by
 have:=mulB (x:=w) (y:=x) (M:=N) (N:=C) oo oo hw h1 h2;exact this
theorem Aup{N wa wb wc wd:Int}{a b c d:Ad}(ha:okP a)(hb:okP b)(hc:okP c)(hd:okP d)(h1:0<=wa/\wa<=N)(h2:0<=wb/\wb<=N)(h3:0<=wc/\wc<=N)(h4:0<=wd/\wd<=N):
  -(N*2305843009213693952)<=Dt wa wb wc wd a b c d/\Dt wa wb wc wd a b c d<=N*2305843009213693952:=by
 have c1:=Il hb hc hd;have c2:=Il hc ha hd;have c3:=Il ha hb hd;have c4:=Il ha hb hc;have m1:=Re (C:=576460752303423488) h1.1 h1.2 oo c1.1 c1.2;have m2:=Re (C:=576460752303423488) h2.1 h2.2 oo c2.1 c2.2;have m3:=Re (C:=576460752303423488) h3.1 h3.2 oo c3.1 c3.2;have m4:=Re (C:=576460752303423488) h4.1 h4.2 oo c4.1 c4.2;unfold Dt;omega
section
variable {v:List Aa}(hv:Ci v){a b c d:Int}(ha:inN v.length a)(hb:inN v.length b)(hc:inN v.length c)(hd:inN v.length d)
include hv ha hb hc hd
theorem Auq:-(KK^(v.length+1))<Dt (KK^aft v a) (KK^aft v b) (KK^aft v c) (KK^aft v d) (plV v a) (plV v b) (plV v c) (plV v d)/\Dt (KK^aft v a) (KK^aft v b) (KK^aft v c) (KK^aft v d) (plV v a) (plV v b) (plV v c) (plV v d)<KK^(v.length+1):=by
 have w:∀i,0<=KK^aft v i/\KK^aft v i<=KK^v.length:=fun i=>⟨by have:=St (aft v i);omega,Apq (Bbg v i)⟩
 have:=Aup (hv.ok a ha) (hv.ok b hb) (hv.ok c hc) (hv.ok d hd) (w a) (w b) (w c) (w d);have h1:=St v.length;generalize Dt (KK^aft v a) (KK^aft v b) (KK^aft v c) (KK^aft v d) (plV v a) (plV v b) (plV v c) (plV v d)=D at *;rw[Int.pow_succ];have e:KK=4611686018427387904:=rfl;generalize KK^v.length=N at *;rw[e];omega
theorem Bda(h:0<inC (plV v a) (plV v b) (plV v c) (plV v d)):0<DH (plV v) (hV v) a b c d:=by
 rw[Acn];have h1:=Auq hv ha hb hc hd;have h2:=St (v.length+1);have:=Int.mul_le_mul_of_nonneg_left (oo:1<=inC (plV v a) (plV v b) (plV v c) (plV v d)) (oo:0<=KK^(v.length+1));omega
theorem Ajg(h:inC (plV v a) (plV v b) (plV v c) (plV v d)<0):DH (plV v) (hV v) a b c d<0:=by
 rw[Acn];have h1:=Auq hv ha hb hc hd;have h2:=St (v.length+1);have:=Int.mul_le_mul_of_nonneg_left (oo:inC (plV v a) (plV v b) (plV v c) (plV v d)<=-1) (oo:0<=KK^(v.length+1));omega
theorem Ve(h0:inC (plV v a) (plV v b) (plV v c) (plV v d)=0)(h1:befP (plV v a) (plV v b))(h2:befP (plV v a) (plV v c))(h3:befP (plV v a) (plV v d)):
  (0<crs (plV v b) (plV v c) (plV v d)->0<DH (plV v) (hV v) a b c d)/\(crs (plV v b) (plV v c) (plV v d)<0->DH (plV v) (hV v) a b c d<0):=by
 rw[Acn,h0,Int.mul_zero,Int.zero_add];have k1:=Ah6 (Adq hb h1);have k2:=Ah6 (Adq hc h2);have k3:=Ah6 (Adq hd h3);have e:KK=4611686018427387904:=rfl;rw[e] at k1 k2 k3;have w0:=St (aft v a);have w1:=St (aft v b);have w2:=St (aft v c);have w3:=St (aft v d);rw[e] at w0 w1 w2 w3;rw[e];have c1:=Il (hv.ok b hb) (hv.ok c hc) (hv.ok d hd);have c2:=Il (hv.ok c hc) (hv.ok a ha) (hv.ok d hd);have c3:=Il (hv.ok a ha) (hv.ok b hb) (hv.ok d hd);have c4:=Il (hv.ok a ha) (hv.ok b hb) (hv.ok c hc);generalize (4611686018427387904:Int)^aft v a=wa at *;generalize (4611686018427387904:Int)^aft v b=wb at *;generalize (4611686018427387904:Int)^aft v c=wc at *;generalize (4611686018427387904:Int)^aft v d=wd at *;have m2:=Re (w:=wb) (C:=576460752303423488) oo (Int.le_refl _) oo c2.1 c2.2;have m3:=Re (w:=wc) (C:=576460752303423488) oo (Int.le_refl _) oo c3.1 c3.2;have m4:=Re (w:=wd) (C:=576460752303423488) oo (Int.le_refl _) oo c4.1 c4.2;unfold Dt;constructor
 .intro hp;have:=Int.mul_le_mul_of_nonneg_left (oo:1<=crs (plV v b) (plV v c) (plV v d)) (oo:0<=wa);omega
 .intro hp;have:=Int.mul_le_mul_of_nonneg_left (oo:crs (plV v b) (plV v c) (plV v d)<=-1) (oo:0<=wa);omega
theorem Af4(h0:inC (plV v a) (plV v b) (plV v c) (plV v d)=0)(h1:befP (plV v d) (plV v a))(h2:befP (plV v d) (plV v b))(h3:befP (plV v d) (plV v c))(hp:0<crs (plV v a) (plV v b) (plV v c)):DH (plV v) (hV v) a b c d<0:=by
 rw[Acn,h0,Int.mul_zero,Int.zero_add];have k1:=Ah6 (Adq ha h1);have k2:=Ah6 (Adq hb h2);have k3:=Ah6 (Adq hc h3);have e:KK=4611686018427387904:=rfl;rw[e] at k1 k2 k3;have w0:=St (aft v a);have w1:=St (aft v b);have w2:=St (aft v c);have w3:=St (aft v d);rw[e] at w0 w1 w2 w3;rw[e];have c1:=Il (hv.ok b hb) (hv.ok c hc) (hv.ok d hd);have c2:=Il (hv.ok c hc) (hv.ok a ha) (hv.ok d hd);have c3:=Il (hv.ok a ha) (hv.ok b hb) (hv.ok d hd);generalize (4611686018427387904:Int)^aft v a=wa at *;generalize (4611686018427387904:Int)^aft v b=wb at *;generalize (4611686018427387904:Int)^aft v c=wc at *;generalize (4611686018427387904:Int)^aft v d=wd at *;have m1:=Re (w:=wa) (C:=576460752303423488) oo (Int.le_refl _) oo c1.1 c1.2;have m2:=Re (w:=wb) (C:=576460752303423488) oo (Int.le_refl _) oo c2.1 c2.2;have m3:=Re (w:=wc) (C:=576460752303423488) oo (Int.le_refl _) oo c3.1 c3.2;unfold Dt;have:=Int.mul_le_mul_of_nonneg_left (oo:1<=crs (plV v a) (plV v b) (plV v c)) (oo:0<=wd);omega
end
theorem To{v:List Aa}(hv:Ci v):Af3 (plV v) (hV v) (inN v.length):=by
 intro a b c d ha hb hc hd h1 h2 h3;rcases h3 with h3|h3
 .exact Ajg hv ha hb hc hd (Afy h1 h2 h3)
 .exact Ajg hv ha hb hc hd (Zk h1 h2 h3)
theorem Afa(a b c d:Ad):inC b c a d=inC a b c d:=by unfold inC lft crs;grind
theorem Ik{p q r:Ad}(h1:befP p q)(h2:befP q r):befP p r:=by unfold befP at *;omega
theorem Tp{p q:Ad}(h1:befP p q)(h2:befP q p):False:=by unfold befP at *;omega
theorem Lm{p q:Ad}(h:¬Bz p q):befP p q\/befP q p:=by unfold befP Bz at *;omega
theorem Ahq{a b c d:Ad}(n1:¬ Bz a b)(n2:¬ Bz a c)(n3:¬ Bz a d)(n4:¬ Bz b c)(n5:¬ Bz b d)(n6:¬ Bz c d):
  (befP a b/\befP a c/\befP a d)\/(befP b c/\befP b a/\befP b d)\/(befP c a/\befP c b/\befP c d)\/(befP d a/\befP d b/\befP d c):=by
 rcases Lm n1 with h1|h1
 .rcases Lm n6 with h2|h2
  .rcases Lm n2 with h3|h3
   .exact .inl ⟨h1,h3,Ik h3 h2⟩
   .exact .inr (.inr (.inl ⟨h3,Ik h3 h1,h2⟩))
  .rcases Lm n3 with h3|h3
   .exact .inl ⟨h1,Ik h3 h2,h3⟩
   .exact .inr (.inr (.inr ⟨h3,Ik h3 h1,h2⟩))
 .rcases Lm n6 with h2|h2
  .rcases Lm n4 with h3|h3
   .exact .inr (.inl ⟨h3,h1,Ik h3 h2⟩)
   .exact .inr (.inr (.inl ⟨Ik h3 h1,h3,h2⟩))
  .rcases Lm n5 with h3|h3
   .exact .inr (.inl ⟨Ik h3 h2,h1,h3⟩)
   .exact .inr (.inr (.inr ⟨Ik h3 h1,h3,h2⟩))
theorem Adr{v:List Aa}(hv:Ci v){a b c d:Int}(ha:inN v.length a)(hb:inN v.length b)(hc:inN v.length c)(hd:inN v.length d)(h1:0<crs (plV v a) (plV v b) (plV v c))(h2:crs (plV v a) (plV v b) (plV v d)<0):
  (legP (plV v a) (plV v b) (plV v c) (plV v d)↔DH (plV v) (hV v) a b c d<0)/\DH (plV v) (hV v) a b c d≠0:=by
 have hs:Int.sign (crs (plV v a) (plV v b) (plV v c))=1:=Int.sign_eq_one_of_pos h1;have n1:=Ya (P:=plV v) (a:=a) (b:=b) (c:=c) oo;have n2:=Ya (P:=plV v) (a:=a) (b:=b) (c:=d) oo;have ncd:c≠d:=fun e=>by subst e;omega
 have nab:¬Bz (plV v a) (plV v b):=fun e=>n1.1 (hv.dist a b ha hb e)
 have nac:¬Bz (plV v a) (plV v c):=fun e=>n1.2.2 (hv.dist a c ha hc e).symm
 have nad:¬Bz (plV v a) (plV v d):=fun e=>n2.2.2 (hv.dist a d ha hd e).symm
 have nbc:¬Bz (plV v b) (plV v c):=fun e=>n1.2.1 (hv.dist b c hb hc e)
 have nbd:¬Bz (plV v b) (plV v d):=fun e=>n2.2.1 (hv.dist b d hb hd e)
 have ncd':¬Bz (plV v c) (plV v d):=fun e=>ncd (hv.dist c d hc hd e)
 unfold legP;rw[hs,Int.one_mul];rcases Int.lt_trichotomy (inC (plV v a) (plV v b) (plV v c) (plV v d)) 0 with g|g|g
 .have:=Ajg hv ha hb hc hd g;rw[Int.sign_eq_neg_one_of_neg g];exact⟨⟨fun _=>this,fun _=>.inl oo⟩,oo⟩
 ·rw[g,Int.sign_zero];have k1:0<crs (plV v b) (plV v c) (plV v d):=by
   rcases Int.lt_or_le 0 (crs (plV v b) (plV v c) (plV v d)) with k|k
   .exact k
   .have:=Afy h1 h2 k;omega
  have k2:0<crs (plV v c) (plV v a) (plV v d):=by
   rcases Int.lt_or_le 0 (crs (plV v c) (plV v a) (plV v d)) with k|k
   .exact k
   .have:=Zk h1 h2 k;omega
  have fa:=Ve hv ha hb hc hd g;have fd:=Af4 hv ha hb hc hd g;have fb:=Ve hv hb hc ha hd (by rw[Afa];exact g);have fc:=Ve hv hc ha hb hd (by rw[<-Afa];exact g);rw[Sr] at fb;rw[<-Sr] at fc;have key:=Ahq nab nac nad nbc nbd ncd';rcases key with⟨b1,b2,b3⟩|⟨b1,b2,b3⟩|⟨b1,b2,b3⟩|⟨b1,b2,b3⟩
  .have:=(fa b1 b2 b3).1 k1;refine⟨⟨fun h=>?_,fun h=>oo⟩,oo⟩;rcases h with h|⟨_,⟨h,_⟩|⟨h,_⟩⟩
   .omega
   .exact (Tp b2 h).elim
   .exact (Tp b3 h).elim
  .have:=(fb b1 b2 b3).1 k2;refine⟨⟨fun h=>?_,fun h=>oo⟩,oo⟩;rcases h with h|⟨_,⟨_,h⟩|⟨_,h⟩⟩
   .omega
   .exact (Tp b1 h).elim
   .exact (Tp b3 h).elim
  .have:=(fc b1 b2 b3).2 h2;refine⟨⟨fun h=>this,fun h=>.inr ⟨rfl,.inl ⟨b1,b2⟩⟩⟩,oo⟩
  .have:=fd b1 b2 b3 h1;refine⟨⟨fun h=>this,fun h=>.inr ⟨rfl,.inr ⟨b1,b2⟩⟩⟩,oo⟩
 .have:=Bda hv ha hb hc hd g;rw[Int.sign_eq_one_of_pos g];refine⟨⟨fun h=>?_,fun h=>oo⟩,oo⟩;omega
variable {P:Int->Ad}{V S:Int->Prop}{ap ap':Ap}{R:Int->Int->Prop}{p:Int}
def Vis(P:Int->Ad)(R:Int->Int->Prop)(p x y:Int):Prop:=R x y/\0<crs (P x) (P y) (P p)
def New(P:Int->Ad)(R:Int->Int->Prop)(p i j k:Int):Prop:=(Vis P R p i j/\k=p)\/(Vis P R p k i/\j=p)\/(Vis P R p j k/\i=p)
structure Adds(P:Int->Ad)(V S:Int->Prop)(ap:Ap)(R:Int->Int->Prop)(p:Int):Prop where
 tri:Tri P V ap
 used:∀i j k,ap i j=some k->S i
 sv:∀i,S i->V i
 vp:V p
 np:¬S p
 before:∀i,S i->befP (P i) (P p)
 behind:∀i,V i->¬S i->i≠p->befP (P p) (P i)
 r1:∀x y,R x y->S x/\S y/\x≠y/\∀d,S d->crs (P x) (P y) (P d)<=0
 r2:∀x y,Vis P R p x y->∀d,S d->d≠x->d≠y->crs (P x) (P y) (P d)=0->crs (P y) (P p) (P d)<0\/crs (P p) (P x) (P d)<0
 r3:∀x y,Vis P R p x y->((∃z,Vis P R p y z)\/∀d,S d->0<=crs (P y) (P p) (P d))/\((∃w,Vis P R p w x)\/∀d,S d->0<=crs (P p) (P x) (P d))
 r4:∀x y,R x y->ap x y=none
 r5:∀x y,Vis P R p x y->ap y x≠none\/((∀i j,ap i j=none)/\∀d,S d->0<=crs (P x) (P y) (P d))
 r6:∀i j k,ap i j=some k->ap j i=none->R j i
theorem New.rot{i j k:Int}(h:New P R p i j k):New P R p j k i:=by
 rcases h with h|h|h
 .exact .inr (.inl h)
 .exact .inr (.inr h)
 .exact .inl h
theorem Ayt{x y p d:Ad}(h1:befP x p)(h2:befP y p)(h3:befP p d)(h4:0<crs x y p):crs x y d<0\/crs y p d<0\/crs p x d<0:=by
 by_cases c1:crs x y d<0
 .exact .inl c1
 by_cases c2:crs y p d<0
 .exact .inr (.inl c2)
 by_cases c3:crs p x d<0
 .exact .inr (.inr c3)
 exfalso;have e1:crs y p d*(d.X-x.X)+crs p x d*(d.X-y.X)+crs x y d*(d.X-p.X)=0:=by unfold crs;grind
 have e2:crs y p d*(d.Y-x.Y)+crs p x d*(d.Y-y.Y)+crs x y d*(d.Y-p.Y)=0:=by unfold crs;grind
 have e3:=Qe x y p d;have nn:∀{u w:Int},0<=u->0<=w->0<=u*w:=fun h h'=>Int.mul_nonneg h h'
 have hx:x.X<=d.X/\y.X<=d.X/\p.X<=d.X:=by unfold befP at h1 h2 h3;omega
 have m1:=nn (oo:0<=crs y p d) (oo:0<=d.X-x.X);have m2:=nn (oo:0<=crs p x d) (oo:0<=d.X-y.X);have m3:=nn (oo:0<=crs x y d) (oo:0<=d.X-p.X);have z1:crs y p d*(d.X-x.X)=0:=oo;have z2:crs p x d*(d.X-y.X)=0:=oo;have z3:crs x y d*(d.X-p.X)=0:=oo;have key:∀(w:Int) (q:Ad),0<=w->befP q d->w*(d.X-q.X)=0->0<=w*(d.Y-q.Y)/\(w*(d.Y-q.Y)=0->w=0):=by
  intro w q hw hq hz
  by_cases hw0:w=0
  .subst hw0;simp
  .rcases Int.mul_eq_zero.1 hz with h|h
   .exact absurd h hw0
   .have:0<d.Y-q.Y:=by unfold befP at hq;omega
    have:=Int.mul_pos (oo:0<w) this;exact⟨oo,fun h=>oo⟩
 obtain⟨k1,k2⟩:=key _ x oo (Ik h1 h3) z1;obtain⟨k3,k4⟩:=key _ y oo (Ik h2 h3) z2;obtain⟨k5,k6⟩:=key _ p oo h3 z3;have q1:=k2 oo;have q2:=k4 oo;have q3:=k6 oo;omega
section
variable (h:Adds P V S ap R p)
include h
theorem Adds.uniq{x x' y:Int}(h1:Vis P R p x y)(h2:Vis P R p x' y):x=x':=by
 by_cases e:x=x'
 .exact e
 exfalso;obtain⟨s1,s2,n1,f1⟩:=h.r1 x y h1.1;obtain⟨s3,_,n2,f2⟩:=h.r1 x' y h2.1;have g1:=f1 x' s3;have g2:=f2 x s1;have e1:crs (P x') (P y) (P x) = -crs (P x) (P y) (P x'):=by unfold crs;grind
 have z:crs (P x) (P y) (P x')=0:=oo;have a1:=h.r2 x y h1 x' s3 (fun q=>e q.symm) n2 z;have a2:=h.r2 x' y h2 x s1 e n1 oo;have v1:=h1.2;have v2:=h2.2;have e2:crs (P y) (P p) (P x)=crs (P x) (P y) (P p):=Au _ _ _;have e3:crs (P y) (P p) (P x')=crs (P x') (P y) (P p):=Au _ _ _;have e4:crs (P p) (P x') (P x) = -crs (P p) (P x) (P x'):=Bl _ _ _;omega
theorem Adds.uniq2{x y y':Int}(h1:Vis P R p x y)(h2:Vis P R p x y'):y=y':=by
 by_cases e:y=y'
 .exact e
 exfalso;obtain⟨s1,s2,n1,f1⟩:=h.r1 x y h1.1;obtain⟨_,s3,n2,f2⟩:=h.r1 x y' h2.1;have g1:=f1 y' s3;have g2:=f2 y s2;have e1:crs (P x) (P y') (P y) = -crs (P x) (P y) (P y'):=Bl _ _ _;have z:crs (P x) (P y) (P y')=0:=oo;have a1:=h.r2 x y h1 y' s3 n2.symm (fun q=>e q.symm) z;have a2:=h.r2 x y' h2 y s2 n1.symm e oo;have v1:=h1.2;have v2:=h2.2;have e2:crs (P p) (P x) (P y)=crs (P x) (P y) (P p):=by rw[<-Au,<-Au]
 have e3:crs (P p) (P x) (P y')=crs (P x) (P y') (P p):=by rw[<-Au,<-Au]
 have e4:crs (P y') (P p) (P y) = -crs (P y) (P p) (P y'):=by unfold crs;grind
 omega
theorem Adds.emp{x y:Int}(hv:Vis P R p x y)(d:Int)(hd:V d)(n1:d≠x)(n2:d≠y)(n3:d≠p):crs (P x) (P y) (P d)<0\/crs (P y) (P p) (P d)<0\/crs (P p) (P x) (P d)<0:=by
 obtain⟨s1,s2,_,f1⟩:=h.r1 x y hv.1
 by_cases hs:S d
 .have:=f1 d hs
  by_cases c:crs (P x) (P y) (P d)=0
  .exact .inr (h.r2 x y hv d hs n1 n2 c)
  .exact .inl oo
 .exact Ayt (h.before x s1) (h.before y s2) (h.behind d hd hs n3) hv.2
theorem Adds.news{i j k:Int}(hn:New P R p i j k):(S i\/i=p)/\(S j\/j=p)/\(S k\/k=p):=by
 rcases hn with⟨hv,rfl⟩|⟨hv,rfl⟩|⟨hv,rfl⟩
 .obtain⟨s1,s2,_⟩:=h.r1 _ _ hv.1;exact⟨.inl s1,.inl s2,.inr rfl⟩
 .obtain⟨s1,s2,_⟩:=h.r1 _ _ hv.1;exact⟨.inl s2,.inr rfl,.inl s1⟩
 .obtain⟨s1,s2,_⟩:=h.r1 _ _ hv.1;exact⟨.inr rfl,.inl s1,.inl s2⟩
theorem Adds.old{i j k:Int}(hk:ap i j=some k):S i/\S j/\S k:=⟨h.used _ _ _ hk,h.used _ _ _ (h.tri.rot _ _ _ hk),h.used _ _ _ (h.tri.rot2 hk)⟩
variable (hA:∀i j k,ap' i j=some k↔ap i j=some k\/New P R p i j k)
include hA
theorem Adds.nbrs{s m:Int}(hm:ap' s m≠none\/ap' m s≠none):(S s/\S m/\((ap s m≠none\/ap m s≠none)\/∀i j,ap i j=none))\/(m=p/\S s/\((∃y,Vis P R p s y)\/∃x,Vis P R p x s))\/(s=p/\S m/\((∃y,Vis P R p m y)\/∃x,Vis P R p x m)):=by
 have key:∀a b,ap' a b≠none->(S a/\S b/\((ap a b≠none\/ap b a≠none)\/∀i j,ap i j=none))\/(b=p/\S a/\((∃y,Vis P R p a y)\/∃x,Vis P R p x a))\/(a=p/\S b/\((∃y,Vis P R p b y)\/∃x,Vis P R p x b)):=by
  intro a b hab;obtain⟨c,hc⟩:=Option.ne_none_iff_exists'.1 hab;rcases (hA a b c).1 hc with g|⟨hv,rfl⟩|⟨hv,rfl⟩|⟨hv,rfl⟩
  .exact .inl ⟨(h.old g).1,(h.old g).2.1,.inl (.inl (by rw[g];simp))⟩
  .obtain⟨s1,s2,_⟩:=h.r1 _ _ hv.1;rcases h.r5 _ _ hv with g|⟨g,_⟩
   .exact .inl ⟨s1,s2,.inl (.inr g)⟩
   .exact .inl ⟨s1,s2,.inr g⟩
  .exact .inr (.inl ⟨rfl,(h.r1 _ _ hv.1).2.1,.inr ⟨_,hv⟩⟩)
  .exact .inr (.inr ⟨rfl,(h.r1 _ _ hv.1).1,.inl ⟨_,hv⟩⟩)
 rcases hm with hm|hm
 .exact key s m hm
 .rcases key m s hm with⟨g1,g2,g3|g3⟩|⟨g1,g2,g3⟩|⟨g1,g2,g3⟩
  .exact .inl ⟨g2,g1,.inl g3.symm⟩
  .exact .inl ⟨g2,g1,.inr g3⟩
  .exact .inr (.inr ⟨g1,g2,g3⟩)
  .exact .inr (.inl ⟨g1,g2,g3⟩)
theorem Adds.tri':Tri P V ap':=by
 have rot':∀i j k,ap' i j=some k->ap' j k=some i:=fun i j k hk=>by
  rcases (hA i j k).1 hk with g|g
  .exact (hA _ _ _).2 (.inl (h.tri.rot _ _ _ g))
  .exact (hA _ _ _).2 (.inr g.rot)
 have e1:∀x y:Int,crs (P y) (P p) (P x)=crs (P x) (P y) (P p):=fun x y=>Au _ _ _
 have e2:∀x y:Int,crs (P p) (P x) (P y)=crs (P x) (P y) (P p):=fun x y=>by rw[<-Au,<-Au]
 refine⟨rot',fun i j k hk=>?_,fun i j k hk d hd n1 n2 n3=>?_,fun s a b m hs hm=>?_⟩
 .rcases (hA i j k).1 hk with g|⟨hv,rfl⟩|⟨hv,rfl⟩|⟨hv,rfl⟩
  .exact h.tri.ccw _ _ _ g
  .obtain⟨s1,s2,_⟩:=h.r1 _ _ hv.1;exact⟨h.sv _ s1,h.sv _ s2,h.vp,hv.2⟩
  .obtain⟨s1,s2,_⟩:=h.r1 _ _ hv.1;exact⟨h.sv _ s2,h.vp,h.sv _ s1,by rw[e1];exact hv.2⟩
  .obtain⟨s1,s2,_⟩:=h.r1 _ _ hv.1;exact⟨h.vp,h.sv _ s1,h.sv _ s2,by rw[e2];exact hv.2⟩
 .rcases (hA i j k).1 hk with g|⟨hv,rfl⟩|⟨hv,rfl⟩|⟨hv,rfl⟩
  .exact h.tri.emp _ _ _ g d hd n1 n2 n3
  .exact h.emp hv d hd n1 n2 n3
  .rcases h.emp hv d hd n3 n1 n2 with g|g|g <;> simp[g]
  .rcases h.emp hv d hd n2 n3 n1 with g|g|g <;> simp[g]
 .rintro⟨g1,g2⟩;have hn:=h.nbrs hA hm;rcases (hA s a b).1 hs with g|⟨hv,rfl⟩|⟨hv,rfl⟩|⟨hv,rfl⟩
  ·-- an old triangle
   obtain⟨ss,sa,sb⟩:=h.old g;obtain⟨_,_,_,cab⟩:=h.tri.ccw _ _ _ g;rcases hn with⟨_,_,hn|hn⟩|⟨rfl,_,hn⟩|⟨rfl,_,_⟩
   .exact h.tri.cone s a b m g hn ⟨g1,g2⟩
   .rw[hn] at g;cases g
   .rcases hn with⟨y,hv⟩|⟨x,hv⟩
    .obtain⟨_,_,_,f⟩:=h.r1 _ _ hv.1;have h1:=f a sa;have h2:=f b sb;have h3:=hv.2;have hp:=Ty (P s) (P a) (P b) (P y) (P m);rw[Bl (P s) (P m) (P b),Bl (P s) (P y) (P a),Bl (P s) (P y) (P b)] at hp;have t1:=Int.mul_pos cab h3;have t2:=Int.mul_nonneg (oo:0<=-crs (P s) (P y) (P a)) (Int.le_of_lt g2);have t3:=Int.mul_nonneg (Int.le_of_lt g1) (oo:0<=-crs (P s) (P y) (P b));rw[Int.mul_neg] at hp;omega
    .obtain⟨_,_,_,f⟩:=h.r1 _ _ hv.1;have h1:=f a sa;have h2:=f b sb;have h3:=hv.2;have q:∀d,crs (P x) (P s) (P d)=crs (P s) (P d) (P x):=fun d=>(Au _ _ _).symm
     rw[q] at h1 h2 h3;have hp:=Ty (P s) (P a) (P b) (P m) (P x);rw[Bl (P s) (P m) (P b)] at hp;have t1:=Int.mul_pos cab h3;have t2:=Int.mul_nonneg (Int.le_of_lt g1) (oo:0<=-crs (P s) (P b) (P x));have t3:=Int.mul_nonneg (oo:0<=-crs (P s) (P a) (P x)) (Int.le_of_lt g2);have t4:crs (P s) (P a) (P x) * -crs (P s) (P m) (P b) = -crs (P s) (P a) (P x)*crs (P s) (P m) (P b):=by grind
     have t5:crs (P s) (P a) (P m) * -crs (P s) (P b) (P x) = -(crs (P s) (P a) (P m)*crs (P s) (P b) (P x)):=Int.mul_neg _ _;omega
   .exact h.np ss
  ·-- at x,from y to the new place
   obtain⟨s1,s2,_,f⟩:=h.r1 _ _ hv.1;rcases hn with⟨_,sm,_⟩|⟨rfl,_,_⟩|⟨rfl,_,_⟩
   .have:=f m sm;omega
   .rw[Bq] at g2;omega
   .exact h.np s1
  ·-- at y,from the new place to x
   obtain⟨s1,s2,_,f⟩:=h.r1 _ _ hv.1;rcases hn with⟨_,sm,_⟩|⟨rfl,_,_⟩|⟨rfl,_,_⟩
   .have:=f m sm;rw[Au] at g2;omega
   .rw[Bq] at g1;omega
   .exact h.np s2
  ·-- at the new place
   obtain⟨s1,s2,_,f⟩:=h.r1 _ _ hv.1;rcases hn with⟨ss,_,_⟩|⟨rfl,ss,_⟩|⟨_,sm,hn⟩
   .exact h.np ss
   .exact h.np ss
   ·obtain⟨u,w,hu,hm0⟩:∃ u w:Int,Vis P R s u w/\crs (P u) (P w) (P m)=0:=by
     rcases hn with⟨y,hy⟩|⟨x,hx⟩
     .exact⟨m,y,hy,Bx _ _⟩
     .exact⟨x,m,hx,Bq _ _⟩
    obtain⟨_,_,_,fu⟩:=h.r1 _ _ hu.1;have q1:=fu a s1;have q2:=fu b s2;have q3:=hu.2;have q4:=f m sm;have hi:=Ajb (P s) (P a) (P b) (P u) (P w) (P m);rw[hm0,Int.mul_zero] at hi;have r1:crs (P b) (P s) (P m)=crs (P s) (P m) (P b):=by rw[<-Au]
    rw[r1] at hi;have t1:=Int.mul_nonneg (oo:0<=-crs (P a) (P b) (P m)) (Int.le_of_lt q3);have t2:=Int.mul_nonneg (Int.le_of_lt g2) (oo:0<=-crs (P u) (P w) (P a));have t3:=Int.mul_nonneg (Int.le_of_lt g1) (oo:0<=-crs (P u) (P w) (P b));rw[Int.neg_mul] at t1;rw[Int.mul_neg] at t2 t3;have z:crs (P a) (P b) (P m)*crs (P u) (P w) (P s)=0:=oo;have z2:crs (P a) (P b) (P m)=0:=by
     rcases Int.mul_eq_zero.1 z with g|g
     .exact g
     .omega
    have hne:m≠a/\m≠b:=by
     refine⟨fun e=>?_,fun e=>?_⟩
     .subst e;rw[Bq] at g1;omega
     .subst e;rw[Bq] at g2;omega
    rcases h.r2 a b hv m sm hne.1 hne.2 z2 with g|g
    .rw[r1] at g;omega
    .omega
theorem Adds.cov'(hc:Cov P S ap):Cov P (fun i=>S i\/i=p) ap':=by
 intro i j k hk hn d hd;have hn':ap j i=none/\∀x,¬New P R p j i x:=by
  refine⟨?_,fun x hx=>?_⟩
  .rcases e:ap j i with _|x
   .rfl
   .rw[(hA j i x).2 (.inl e)] at hn;cases hn
  .rw[(hA j i x).2 (.inr hx)] at hn;cases hn
 rcases (hA i j k).1 hk with g|⟨hv,rfl⟩|⟨hv,rfl⟩|⟨hv,rfl⟩
 .rcases hd with hd|rfl
  .exact hc _ _ _ g hn'.1 d hd
  .have hr:=h.r6 _ _ _ g hn'.1;have:¬0<crs (P j) (P i) (P d):=fun hp=>hn'.2 d (.inl ⟨⟨hr,hp⟩,rfl⟩)
   rw[Bb] at this;omega
 .rcases hd with hd|rfl
  .rcases h.r5 _ _ hv with q|⟨_,q⟩
   .exact absurd hn'.1 q
   .exact q d hd
  .exact Int.le_of_lt hv.2
 .rcases hd with hd|rfl
  .rcases (h.r3 _ _ hv).1 with⟨z,hz⟩|q
   .exact absurd (.inr (.inr ⟨hz,rfl⟩)) (hn'.2 z)
   .exact q d hd
  .rw[Bq];exact Int.le_refl _
 .rcases hd with hd|rfl
  .rcases (h.r3 _ _ hv).2 with⟨z,hz⟩|q
   .exact absurd (.inr (.inl ⟨hz,rfl⟩)) (hn'.2 z)
   .exact q d hd
  .rw[Bx];exact Int.le_refl _
theorem Adds.used':∀i j k,ap' i j=some k->S i\/i=p:=by
 intro i j k hk;rcases (hA i j k).1 hk with g|g
 .exact .inl (h.used _ _ _ g)
 .exact (h.news g).1
end
end
section
theorem Em{α:Type}[DecidableEq α]:∀{l m:List α},l.Nodup->(∀x∈l,x∈m)->l.length<=m.length
 |[],_,_,_=>Nat.zero_le _
 |x::r,m,hd,hs=>by
  rw[nodup_cons] at hd;have hx:=hs x mS;have:=Em (l:=r) (m:=m.erase x) hd.2 fun y hy=>(mem_erase_of_ne (fun e=>hd.1 (by rw[<-e];exact hy))).2 (hs y (mO _ hy))
  rw[length_erase_of_mem hx] at this;have:0<m.length:=length_pos_of_mem hx;simp only[length_cons];omega
theorem Vf{n:Nat}:(inds n).Nodup:=by
 unfold inds List.Nodup;rw[pairwise_map];exact nodup_range.imp fun h e=>h oo
variable {P:Int->Ad}{S:Int->Prop}{ap:Ap}{p:Int}{n:Nat}
def Rim(ap:Ap)(x y:Int):Prop:=(∃k,ap y x=some k)/\ap x y=none
def outs(ap:Ap)(n:Nat)(s:Int):LI:=(inds n).filter fun m=>(ap s m).isSome
def ins(ap:Ap)(n:Nat)(s:Int):LI:=(inds n).filter fun m=>(ap m s).isSome
theorem Vg{V:Int->Prop}(h:Tri P V ap)(hV:∀i,V i↔inN n i){s m:Int}:m∈outs ap n s↔∃k,ap s m=some k:=by
 unfold outs;rw[mem_filter,Ss,Option.isSome_iff_exists];exact⟨fun h=>h.2,fun ⟨k,hk⟩=>⟨(hV _).1 (h.ccw _ _ _ hk).2.1,k,hk⟩⟩
theorem Yd{V:Int->Prop}(h:Tri P V ap)(hV:∀i,V i↔inN n i){s m:Int}:m∈ins ap n s↔∃k,ap m s=some k:=by
 unfold ins;rw[mem_filter,Ss,Option.isSome_iff_exists];exact⟨fun h=>h.2,fun ⟨k,hk⟩=>⟨(hV _).1 (h.ccw _ _ _ hk).1,k,hk⟩⟩
theorem Un{α β:Type}{f:α->β}:∀{l:List α},(∀x∈l,∀y∈l,f x=f y->x=y)->l.Nodup->(l.map f).Nodup
 |[],_,_=>List.Pairwise.nil
 |a::r,hf,hd=>by
  rw[nodup_cons] at hd;rw[map_cons,nodup_cons];refine⟨fun hm=>?_,Un (fun x hx y hy=>hf x (mO _ hx) y (mO _ hy)) hd.2⟩;obtain⟨b,hb,e⟩:=mem_map.1 hm;exact hd.1 (by rw[<-hf b (mO _ hb) a mS e];exact hb)
theorem deg{V:Int->Prop}(h:Tri P V ap)(hV:∀i,V i↔inN n i)(s:Int):(ins ap n s).length=(outs ap n s).length:=by
 apply Nat.le_antisymm
 ·have h1:((ins ap n s).map fun m=>(ap m s).getD 0).Nodup:=Un (fun x hx y hy e=>by
   obtain⟨k,hk⟩:=(Yd h hV).1 hx;obtain⟨k',hk'⟩:=(Yd h hV).1 hy;rw[hk,hk'] at e;simp only[Option.getD_some] at e;subst e;have e1:=h.rot _ _ _ hk;have e2:=h.rot _ _ _ hk';rw[e1] at e2;exact oI e2) (Vf.filter _)
  have:=Em (m:=outs ap n s) h1 fun w hw=>by
   obtain⟨m,hm,rfl⟩:=mem_map.1 hw;obtain⟨k,hk⟩:=(Yd h hV).1 hm;rw[hk];exact (Vg h hV).2 ⟨m,h.rot _ _ _ hk⟩
  rw[length_map] at this;exact this
 ·have h1:((outs ap n s).map fun m=>(ap s m).getD 0).Nodup:=Un (fun x hx y hy e=>by
   obtain⟨k,hk⟩:=(Vg h hV).1 hx;obtain⟨k',hk'⟩:=(Vg h hV).1 hy;rw[hk,hk'] at e;simp only[Option.getD_some] at e;subst e;have e1:=h.rot2 hk;have e2:=h.rot2 hk';rw[e1] at e2;exact oI e2) (Vf.filter _)
  have:=Em (m:=ins ap n s) h1 fun w hw=>by
   obtain⟨m,hm,rfl⟩:=mem_map.1 hw;obtain⟨k,hk⟩:=(Vg h hV).1 hm;rw[hk];exact (Yd h hV).2 ⟨m,h.rot2 hk⟩
  rw[length_map] at this;exact this
theorem Aur{V:Int->Prop}(h:Tri P V ap)(hV:∀i,V i↔inN n i){x y:Int}(hr:Rim ap x y):∃z,Rim ap y z:=by
 obtain⟨⟨k,hk⟩,hn⟩:=hr;apply Classical.byContradiction;intro hno;have hd:=deg h hV y;have hx:x∈outs ap n y:=(Vg h hV).2 ⟨k,hk⟩;have:=Em (l:=ins ap n y) (m:=(outs ap n y).erase x) (Vf.filter _) fun z hz=>by
  obtain⟨w,hw⟩:=(Yd h hV).1 hz;have hzx:z≠x:=fun e=>by subst e;rw[hw] at hn;cases hn
  rw[mem_erase_of_ne hzx,Vg h hV];rcases e:ap y z with _|u
  .exact absurd ⟨z,⟨w,hw⟩,e⟩ hno
  .exact⟨u,rfl⟩
 rw[length_erase_of_mem hx] at this;have:0<(outs ap n y).length:=length_pos_of_mem hx;omega
theorem Aus{V:Int->Prop}(h:Tri P V ap)(hV:∀i,V i↔inN n i){x y:Int}(hr:Rim ap x y):∃w,Rim ap w x:=by
 obtain⟨⟨k,hk⟩,hn⟩:=hr;apply Classical.byContradiction;intro hno;have hd:=deg h hV x;have hx:y∈ins ap n x:=(Yd h hV).2 ⟨k,hk⟩;have:=Em (l:=outs ap n x) (m:=(ins ap n x).erase y) (Vf.filter _) fun z hz=>by
  obtain⟨w,hw⟩:=(Vg h hV).1 hz;have hzx:z≠y:=fun e=>by subst e;rw[hw] at hn;cases hn
  rw[mem_erase_of_ne hzx,Yd h hV];rcases e:ap z x with _|u
  .exact absurd ⟨z,⟨w,hw⟩,e⟩ hno
  .exact⟨u,rfl⟩
 rw[length_erase_of_mem hx] at this;have:0<(ins ap n x).length:=length_pos_of_mem hx;omega
theorem Ayu{x y z q d k k':Ad}(h1:crs x y d<=0)(h2:crs y z d<=0)(h3:0<crs x y q)(h4:crs y z q<=0)(h5:crs x y z<=0)(h6:crs x y k<0)(h7:crs y z k<=0)(h8:crs y z k'<0):0<=crs y q d:=by
 have r:∀u,crs x y u=crs y u x:=fun u=>(Au _ _ _).symm
 rw[r] at h1 h3 h5 h6;have hp:=Ty y q d x z;rw[Bl y z q,Bl y z d,Bl y z x] at hp
 by_cases c:crs y z x=0
 .exfalso;have p1:=Ty y x z q k;rw[Bl y z x,Bl y q x,Bl y k x,c] at p1;have t1:=Int.mul_nonneg (oo:0<=-crs y k x) (oo:0<=-crs y z q);have t2:=Int.mul_nonneg (Int.le_of_lt h3) (oo:0<=-crs y z k);have e1:-crs y k x*crs y z q = -(-crs y k x * -crs y z q):=by grind
  have e2:-crs y q x*crs y z k=crs y q x * -crs y z k:=by grind
  have z1:crs y q x * -crs y z k=0:=oo;have z2:crs y z k=0:=by
   rcases Int.mul_eq_zero.1 z1 with g|g <;> omega
  have p2:=Ty y z k' x k;rw[c,z2,Bl y k x] at p2;have t3:=Int.mul_pos_of_neg_of_neg h8 h6;have e3:crs y z k' * -crs y k x = -(crs y z k'*crs y k x):=Int.mul_neg _ _;omega
 ·have c':0 < -crs y z x:=by
   have:crs y z x<=0:=h5;omega
  have t1:=Int.mul_nonneg (Int.le_of_lt h3) (oo:0<=-crs y z d);have t2:=Int.mul_nonneg (oo:0<=-crs y z q) (oo:0<=-crs y d x);have e2:-crs y z q * -crs y d x = -(-crs y z q*crs y d x):=by grind
  exact Oj (x:=-crs y z x) (by rw[Int.mul_comm];omega) c'
theorem Aut{x y w q d k k':Ad}(h1:crs x y d<=0)(h2:crs w x d<=0)(h3:0<crs x y q)(h4:crs w x q<=0)(h5:crs x y w<=0)(h6:crs x y k<0)(h7:crs w x k<=0)(h8:crs w x k'<0):0<=crs q x d:=by
 have r:∀u,crs w x u=crs x u w:=fun u=>(Au _ _ _).symm
 rw[r] at h2 h4 h7 h8;rw[show crs q x d = -crs x q d from Bb _ _ _];have hp:=Ty x q d y w;rw[Bl x y q,Bl x y d] at hp
 by_cases c:crs x y w=0
 .exfalso;have p1:=Ty x y w q k;rw[c,Bl x q w,Bl x k w] at p1;have t1:=Int.mul_nonneg (Int.le_of_lt h3) (oo:0<=-crs x k w);have t2:=Int.mul_nonneg (oo:0<=-crs x y k) (oo:0<=-crs x q w);have e2:crs x y k * -crs x q w = -(-crs x y k * -crs x q w):=by grind
  have z1:crs x y q * -crs x k w=0:=oo;have z2:crs x k w=0:=by
   rcases Int.mul_eq_zero.1 z1 with g|g <;> omega
  have p2:=Ty x y w k k';rw[c,Bl x k w,Bl x k' w,z2] at p2;have t3:=Int.mul_pos_of_neg_of_neg h6 h8;have e3:crs x y k * -crs x k' w = -(crs x y k*crs x k' w):=Int.mul_neg _ _;omega
 .have c':0 < -crs x y w:=oo;have t1:=Int.mul_nonneg (Int.le_of_lt h3) (oo:0<=-crs x d w);have t2:=Int.mul_nonneg (oo:0<=-crs x y d) (oo:0<=-crs x q w);have e2:-crs x y d * -crs x q w = -(crs x q w * -crs x y d):=by grind
  have e3:-crs x y q*crs x d w=crs x y q * -crs x d w:=by grind
  refine Oj (x:=-crs x y w) ?_ c';have e4:-crs x y w * -crs x q d=crs x q d*crs x y w:=by grind
  rw[e4];omega
theorem Auu(h:Tri P (inN n) ap)(hc:Cov P S ap)(used:∀i j k,ap i j=some k->S i)(sv:∀i,S i->inN n i)(vp:inN n p)(np:¬S p)(before:∀i,S i->befP (P i) (P p))(behind:∀i,inN n i->¬S i->i≠p->befP (P p) (P i)):Adds P (inN n) S ap (Rim ap) p:=by
 have old:∀{i j k},ap i j=some k->S i/\S j/\S k:=fun hk=>⟨used _ _ _ hk,used _ _ _ (h.rot _ _ _ hk),used _ _ _ (h.rot2 hk)⟩
 have r1:∀x y,Rim ap x y->S x/\S y/\x≠y/\∀d,S d->crs (P x) (P y) (P d)<=0:=by
  rintro x y ⟨⟨k,hk⟩,hn⟩;refine⟨(old hk).2.1,(old hk).1,(h.ne hk).1.symm,fun d hd=>?_⟩;have:=hc _ _ _ hk hn d hd;rw[Bb] at this;omega
 have far:∀x y,Rim ap x y->∃k,S k/\crs (P x) (P y) (P k)<0:=by
  rintro x y ⟨⟨k,hk⟩,hn⟩;refine⟨k,(old hk).2.2,?_⟩;have:=(h.ccw _ _ _ hk).2.2.2;rw[Bb] at this;omega
 refine⟨h,used,sv,vp,np,before,behind,r1,?_,?_,fun x y hr=>hr.2,?_,fun i j k hk hn=>⟨⟨k,hk⟩,hn⟩⟩
 .rintro x y ⟨⟨⟨k,hk⟩,hn⟩,hp⟩ d hd n1 n2 z;have ck:=(h.ccw _ _ _ hk).2.2.2;have nk:d≠k:=fun e=>by subst e;rw[Bb,z] at ck;omega
  have q1:=Ty (P x) (P k) (P d) (P y) (P p);have e1:crs (P x) (P d) (P y)=0:=by rw[Bl,z];rfl
  have e2:crs (P x) (P k) (P y)=crs (P y) (P x) (P k):=Au _ _ _;have e3:crs (P x) (P d) (P p)=crs (P p) (P x) (P d):=Au _ _ _;rw[e1,e2,e3,Int.mul_zero] at q1;have q2:=Ty (P y) (P d) (P k) (P x) (P p);have f1:crs (P y) (P d) (P x)=0:=by rw[Au,z]
  have f2:crs (P y) (P k) (P x) = -crs (P y) (P x) (P k):=Bl _ _ _;have f3:crs (P y) (P x) (P p) = -crs (P x) (P y) (P p):=Bb _ _ _;have f4:crs (P y) (P d) (P p) = -crs (P y) (P p) (P d):=Bl _ _ _;have f5:crs (P y) (P d) (P k)=crs (P k) (P y) (P d):=Au _ _ _;rw[f1,f2,f3,f4,f5,Int.zero_mul] at q2;rcases h.emp _ _ _ hk d (sv d hd) n2 n1 nk with g|g|g
  .rw[Bb,z] at g;omega
  .right;rcases Int.lt_or_le (crs (P p) (P x) (P d)) 0 with c|c
   .exact c
   .have t1:=Int.mul_neg_of_neg_of_pos g hp;have t2:=Int.mul_nonneg (Int.le_of_lt ck) c;omega
  .left;rcases Int.lt_or_le (crs (P y) (P p) (P d)) 0 with c|c
   .exact c
   .have t1:=Int.mul_neg_of_neg_of_pos g hp;have t2:=Int.mul_nonneg c (Int.le_of_lt ck);have e4:crs (P k) (P y) (P d) * -crs (P x) (P y) (P p) = -(crs (P k) (P y) (P d)*crs (P x) (P y) (P p)):=Int.mul_neg _ _;have e5:-crs (P y) (P p) (P d) * -crs (P y) (P x) (P k)=crs (P y) (P p) (P d)*crs (P y) (P x) (P k):=Int.neg_mul_neg _ _;omega
 .rintro x y ⟨hr,hp⟩;obtain⟨s1,s2,_,f⟩:=r1 x y hr;obtain⟨k,sk,hk⟩:=far x y hr;constructor
  .obtain⟨z,hz⟩:=Aur h (fun _=>Iff.rfl) hr;obtain⟨_,sz,_,fz⟩:=r1 y z hz;obtain⟨k',sk',hk'⟩:=far y z hz
   by_cases c:0<crs (P y) (P z) (P p)
   .exact .inl ⟨z,hz,c⟩
   .exact .inr fun d hd=>Ayu (f d hd) (fz d hd) hp oo (f z sz) hk (fz k sk) hk'
  .obtain⟨w,hw⟩:=Aus h (fun _=>Iff.rfl) hr;obtain⟨sw,_,_,fw⟩:=r1 w x hw;obtain⟨k',sk',hk'⟩:=far w x hw
   by_cases c:0<crs (P w) (P x) (P p)
   .exact .inl ⟨w,hw,c⟩
   .exact .inr fun d hd=>Aut (f d hd) (fw d hd) hp oo (f w sw) hk (fw k sk) hk'
 .rintro x y ⟨⟨⟨k,hk⟩,hn⟩,hp⟩;exact .inl (by rw[hk];simp)
end
section
variable {P:Int->Ad}{S:Int->Prop}{ap:Ap}{p:Int}{n:Nat}
theorem Aru{V:Int->Prop}(h:∀i j,ap i j=none):Tri P V ap :=
 ⟨fun i j k hk=>(by rw[h] at hk;cases hk),fun i j k hk=>(by rw[h] at hk;cases hk),fun i j k hk=>(by rw[h] at hk;cases hk),fun s a b m hk=>(by rw[h] at hk;cases hk)⟩
def Alc(u:Nat->Int)(m:Nat)(x y:Int):Prop:=∃i,i+1<m/\x=u i/\y=u (i+1)
theorem Af5{u:Nat->Int}{m:Nat}(he:∀i j,ap i j=none)(hS:∀i,S i↔∃k,k<m/\i=u k)(col:∀a b c,S a->S b->S c->crs (P a) (P b) (P c)=0)(inc:∀i,i+1<m->0<crs (P (u i)) (P (u (i+1))) (P p))(sv:∀i,S i->inN n i)(vp:inN n p)(np:¬S p)(before:∀i,S i->befP (P i) (P p))(behind:∀i,inN n i->¬S i->i≠p->befP (P p) (P i)):Adds P (inN n) S ap (Alc u m) p:=by
 have su:∀k,k<m->S (u k):=fun k hk=>(hS _).2 ⟨k,hk,rfl⟩
 have hg:∀a b,S a->S b->0<m->crs (P a) (P b) (P p)=crs (P (u 0)) (P b) (P p)-crs (P (u 0)) (P a) (P p):=fun a b ha hb hm=>by
  have e:=Qe (P (u 0)) (P a) (P b) (P p);rw[col _ _ _ (su 0 hm) ha hb] at e;have e2:crs (P b) (P (u 0)) (P p) = -crs (P (u 0)) (P b) (P p):=Bb _ _ _;omega
 have mono:∀i j,i<j->j<m->crs (P (u 0)) (P (u i)) (P p)<crs (P (u 0)) (P (u j)) (P p):=by
  intro i j hij
  induction j with
  |zero=>omega
  |succ j ih=>
   intro hj;have h1:=inc j hj;rw[hg _ _ (su j oo) (su (j+1) hj) oo] at h1
   by_cases e:i=j
   .subst e;omega
   .have:=ih oo oo;omega
 refine⟨Aru he,fun i j k hk=>(by rw[he] at hk;cases hk),sv,vp,np,before,behind,?_,?_,?_,fun x y _=>he x y,?_,fun i j k hk=>(by rw[he] at hk;cases hk)⟩
 .rintro x y ⟨i,hi,rfl,rfl⟩;refine⟨su i oo,su (i+1) hi,?_,fun d hd=>by rw[col _ _ _ (su i oo) (su (i+1) hi) hd];exact Int.le_refl _⟩;exact (Ya (P:=P) (c:=p) (by have:=inc i hi;omega)).1
 .rintro x y ⟨⟨i,hi,rfl,rfl⟩,hp⟩ d hd n1 n2 _;obtain⟨j,hj,rfl⟩:=(hS d).1 hd;have e1:crs (P (u (i+1))) (P p) (P (u j))=crs (P (u j)) (P (u (i+1))) (P p):=Au _ _ _;have e2:crs (P p) (P (u i)) (P (u j))=crs (P (u i)) (P (u j)) (P p):=by rw[<-Au,<-Au]
  rw[e1,e2,hg _ _ hd (su (i+1) hi) oo,hg _ _ (su i oo) hd oo];have nij:j≠i:=fun e=>n1 (by rw[e])
  have nij':j≠i+1:=fun e=>n2 (by rw[e])
  rcases Nat.lt_or_ge j i with c|c
  .have:=mono j i c oo;right;omega
  .have:=mono (i+1) j oo hj;left;omega
 .rintro x y ⟨⟨i,hi,rfl,rfl⟩,hp⟩;constructor
  .by_cases c:i+2<m
   .exact .inl ⟨u (i+2),⟨i+1,c,rfl,rfl⟩,inc (i+1) c⟩
   .right;intro d hd;obtain⟨j,hj,rfl⟩:=(hS d).1 hd;have e1:crs (P (u (i+1))) (P p) (P (u j))=crs (P (u j)) (P (u (i+1))) (P p):=Au _ _ _;rw[e1,hg _ _ hd (su (i+1) hi) oo]
    by_cases e:j=i+1
    .subst e;omega
    .have:=mono j (i+1) oo hi;omega
  .by_cases c:0<i
   .left;obtain⟨i',rfl⟩:∃i',i=i'+1:=⟨i-1,oo⟩;exact⟨u i',⟨i',oo,rfl,rfl⟩,inc i' oo⟩
   .right;intro d hd;obtain⟨j,hj,rfl⟩:=(hS d).1 hd;have e2:crs (P p) (P (u i)) (P (u j))=crs (P (u i)) (P (u j)) (P p):=by rw[<-Au,<-Au]
    rw[e2,hg _ _ (su i oo) hd oo]
    by_cases e:j=i
    .subst e;omega
    .have:=mono i j oo hj;omega
 .rintro x y ⟨⟨i,hi,rfl,rfl⟩,hp⟩;exact .inr ⟨he,fun d hd=>by rw[col _ _ _ (su i oo) (su (i+1) hi) hd];exact Int.le_refl _⟩
theorem Arv{a b c q:Ad}(h1:befP a b)(h2:befP b c)(h0:crs a b c=0)(hq:0<crs a b q):0<crs b c q:=by
 have e1:crs b c q*(b.X-a.X)=crs a b q*(c.X-b.X)-(q.X-b.X)*crs a b c:=by unfold crs;grind
 have e2:crs b c q*(b.Y-a.Y)=crs a b q*(c.Y-b.Y)-(q.Y-b.Y)*crs a b c:=by unfold crs;grind
 have e3:(b.X-a.X)*(c.Y-b.Y)-(b.Y-a.Y)*(c.X-b.X)=crs a b c:=by unfold crs;grind
 rw[h0,Int.mul_zero,Int.sub_zero] at e1 e2;rw[h0] at e3
 by_cases g:a.X<b.X
 ·-- then c lies further to the right
  have hc:b.X<c.X:=by
   rcases Int.lt_or_le b.X c.X with k|k
   .exact k
   .have hx:c.X=b.X:=by unfold befP at h2;omega
    have hy:b.Y<c.Y:=by unfold befP at h2;omega
    have z:c.X-b.X=0:=oo;rw[z,Int.mul_zero] at e3;have:=Int.mul_pos (oo:0<b.X-a.X) (oo:0<c.Y-b.Y);omega
  have:=Int.mul_pos hq (oo:0<c.X-b.X);exact Cs (x:=b.X-a.X) (by rw[Int.mul_comm];omega) oo
 .have hx:a.X=b.X:=by unfold befP at h1;omega
  have hy:a.Y<b.Y:=by unfold befP at h1;omega
  have hc:b.X=c.X:=by
   have z:b.X-a.X=0:=oo;rw[z,Int.zero_mul] at e3;have:(b.Y-a.Y)*(c.X-b.X)=0:=oo;rcases Int.mul_eq_zero.1 this with k|k <;> omega
  have hy2:b.Y<c.Y:=by unfold befP at h2;omega
  have:=Int.mul_pos hq (oo:0<c.Y-b.Y);exact Cs (x:=b.Y-a.Y) (by rw[Int.mul_comm];omega) oo
theorem Af6{a b u w z:Ad}(hab:¬Bz a b)(h1:crs a b u=0)(h2:crs a b w=0)(h3:crs a b z=0):crs u w z=0:=by
 have e1:(b.X-a.X)*crs u w z=(w.X-u.X)*(crs a b z-crs a b u)-(z.X-u.X)*(crs a b w-crs a b u):=by unfold crs;grind
 have e2:(b.Y-a.Y)*crs u w z=(w.Y-u.Y)*(crs a b z-crs a b u)-(z.Y-u.Y)*(crs a b w-crs a b u):=by unfold crs;grind
 rw[h1,h2,h3] at e1 e2;simp only[Int.sub_self,Int.mul_zero] at e1 e2;rcases Int.mul_eq_zero.1 e1 with g|g
 .rcases Int.mul_eq_zero.1 e2 with g'|g'
  .exact absurd ⟨oo,oo⟩ hab
  .exact g'
 .exact g
end
section
open Go.Shelf Go.Sort
theorem Dk{α:Type}(cf:α->α->Int)(l:List α):(Ba cf l).Perm l:=mergeSort_perm _ _
theorem Kq{α:Type}{p:α->Prop}{cf:α->α->Int}(hT:Yx p cf){l:List α}(hp:∀x∈l,p x):(Ba cf l).Pairwise fun x y=>¬cf y x<0:=by
 obtain⟨l',rfl⟩:∃l':List {x // p x},l=l'.map Subtype.val:=⟨l.attach.map fun x=>⟨x.1,hp x.1 x.2⟩,by simp only[map_map,Function.comp_def];exact (attach_map_subtype_val _).symm⟩;rw[Ab5,pairwise_map];have:=pairwise_mergeSort (le:=fun x y:{x // p x}=>!(ltOf fun x y:{x // p x}=>cf x.1 y.1) y x)
  (fun a b c h1 h2=>by
   simp only[Bool.not_eq_true',Ub] at *;intro h3
   by_cases h4:cf b.1 a.1<0
   .exact h1 h4
   .by_cases h5:cf c.1 b.1<0
    .exact h2 h5
    .by_cases h6:cf a.1 b.1<0
     .exact h2 (hT.trans _ _ _ c.2 a.2 b.2 h3 h6)
     .have:=hT.tot _ _ a.2 b.2 h6 h4;rw[this] at h3;exact h2 h3)
  (fun a b=>by
   by_cases h1:cf b.1 a.1<0
   .have:¬cf a.1 b.1<0:=fun h2=>hT.irr _ a.2 (hT.trans _ _ _ a.2 b.2 a.2 h2 h1)
    rw[Bool.or_eq_true];right;rw[Bool.not_eq_true'];exact Ub.2 this
   .rw[Bool.or_eq_true];left;rw[Bool.not_eq_true'];exact Ub.2 h1) l'
 exact this.imp fun h=>by simpa[Ub] using h
theorem Xb{α:Type}{p:α->Prop}{cf:α->α->Int}(hT:Yx p cf){l l':List α}(hp:∀x∈l,p x)(hl:l.Pairwise fun x y=>¬cf y x<0)(hl':l'.Pairwise fun x y=>¬cf y x<0)(h:l.Perm l'):l=l' :=
 List.Perm.eq_of_pairwise (fun a b ha hb h1 h2=>hT.tot a b (hp a ha) (hp b (h.mem_iff.2 hb)) h2 h1) hl hl' h
theorem Ye{α:Type}{p:α->Prop}{cf:α->α->Int}(hT:Yx p cf){l l':List α}(hp:∀x∈l,p x)(h:l.Perm l'):Ba cf l=Ba cf l':=by
 have hp':∀x∈l',p x:=fun x hx=>hp x (h.mem_iff.2 hx)
 refine Xb hT (fun x hx=>hp x ((Dk cf l).mem_iff.1 hx)) (Kq hT hp) (Kq hT hp') (((Dk cf l).trans h).trans (Dk cf l').symm)
theorem Hc{α:Type}{cf:α->α->Int}{l:List α}{x:α}:x∈Ba cf l↔x∈l:=(Dk cf l).mem_iff
theorem Ah7{κ υ:Type}{m:List (κ×υ)}(hm:Ep m){q:κ×υ}(hq:q∈m):m.Perm (q::mdel m q.1):=by
 induction m with
 |nil=>cases hq
 |cons a r ih=>
  obtain⟨h1,h2⟩:=pairwise_cons.1 hm;unfold mdel;rcases mem_cons.1 hq with rfl|hq
  .rw[filter_cons_of_neg s_,filter_eq_self.2 (fun p hp=>by simp only[dQ];exact fun e=>h1 p hp e.symm)]
  .rw[filter_cons_of_pos (by simp only[dQ];exact h1 q hq)];exact ((ih h2 hq).cons a).trans (List.Perm.swap _ _ _)
theorem Ads{κ υ β ρ:Type}{BN:List β->Option (Sum (List β) (List β))}{BS:List β->κ×υ->Option (Sum (List β) (List β))}{m:List (κ×υ)}(hm:Ep m)(f:κ×υ->List β)(hf:∀q,(f q).length<=1)(hN:∀s,BN s=some (.inr s))(hS:∀s,∀q∈m,s.length<m.length->BS s q=some (.inl (s++f q))){k:List β->Option ρ}{r:ρ}(hk:∀l,l.Perm (m.flatMap f)->k l=some r):Aqs BN BS m [] k=some r:=by
 have key:∀(n:Nat) (l:List (κ×υ)) (s:List β),l.length=n->Ep l->(∀q∈l,q∈m)->s.length+l.length<=m.length->(∀q:List (κ×υ),q.Perm l->k (s++q.flatMap f)=some r)->MR (mkN BN k) (mkS BS k) l s r:=by
  intro n
  induction n with
  |zero=>
   intro l s hn _ _ _ hk;have:l=[]:=eq_nil_of_length_eq_zero hn;subst this;refine .nil ?_;have:=hk [] (List.Perm.refl _);rw[flatMap_nil,append_nil] at this;unfold mkN;rw[hN];simp only[this]
  |succ n ih=>
   intro l s hn hl hs hlen hk;have hb:∀q∈l,mkS BS k s q=some (.inl (s++f q)):=fun q hq=>by
    unfold mkS mkN;simp only[hS s q (hs q hq) oo]
   refine .cons (fun e=>by subst e;simp at hn) (fun q hq=>by rw[hb q hq];rfl) (fun q hq t' e=>by rw[hb q hq] at e;cases e) (fun q hq s' e=>?_);rw[hb q hq] at e;cases e
   have hp:=Ah7 hl hq;have hlen2:=hp.length_eq;rw[length_cons] at hlen2;refine ih (mdel l q.1) (s++f q) oo (hl.del _) (fun x hx=>hs x (Ql.1 hx).1) (by rw[length_append];have:=hf q;omega) (fun w hw=>?_);rw[append_assoc,<-flatMap_cons];exact hk _ ((hw.cons q).trans hp.symm)
 refine Azg (key m.length m [] rfl hm (fun _ h=>h) s_ fun q hq=>?_);rw[nil_append];exact hk _ (List.Perm.flatMap_right f hq)
abbrev Mp:=List (Ab×Int)
structure MapN(n:Nat)(m:Mp):Prop where
 ok:Ep m
 key:∀q∈m,inN n q.1.a0/\inN n q.1.a1/\inN n q.2
theorem MapN.len{n:Nat}{m:Mp}(h:MapN n m):m.length<=n*n:=by
 have h1:(m.map fun q=>(q.1.a0.toNat*n+q.1.a1.toNat)).Nodup:=by
  unfold List.Nodup;rw[pairwise_map];refine List.Pairwise.imp_of_mem ?_ h.ok;intro a b ha hb hne e;obtain⟨⟨a1,a2⟩,⟨a3,a4⟩,_⟩:=h.key a ha;obtain⟨⟨b1,b2⟩,⟨b3,b4⟩,_⟩:=h.key b hb;have e1:a.1.a1.toNat=b.1.a1.toNat:=by
   have:=congrArg (· % n) e;simp only[Nat.mul_add_mod_self_right] at this
   rwa [Nat.mod_eq_of_lt oo,Nat.mod_eq_of_lt oo] at this
  have e2:a.1.a0.toNat=b.1.a0.toNat:=by
   rw[e1] at e;have e':a.1.a0.toNat*n=b.1.a0.toNat*n:=oo;exact Nat.eq_of_mul_eq_mul_right oo e'
  apply hne;obtain⟨⟨x,y⟩,c⟩:=a;obtain⟨⟨x',y'⟩,c'⟩:=b;simp only at *;rw[show x=x' by omega,show y=y' by omega]
 have:=Em (m:=List.range (n*n)) h1 fun x hx=>by
  obtain⟨q,hq,rfl⟩:=mem_map.1 hx;obtain⟨⟨a1,a2⟩,⟨a3,a4⟩,_⟩:=h.key q hq;rw[mem_range];have h3:q.1.a0.toNat+1<=n:=oo;have:=Nat.mul_le_mul_right n h3;rw[Nat.add_mul] at this;omega
 rwa [length_map,length_range] at this
def rev2(k:Ab):Ab:=⟨k.a1,k.a0⟩
def rimF(m:Mp)(q:Ab×Int):List Ab:=if (mget m (rev2 q.1)).isSome=true then [] else [rev2 q.1]
def Iy(m:Mp)(q:Ab×Int):List Ab:=if q.1.a0<q.1.a1\/(mget m (rev2 q.1)).isSome=false then [⟨min q.1.a0 q.1.a1,max q.1.a0 q.1.a1⟩] else []
def triF(q:Ab×Int):List Ah:=if q.1.a0<q.1.a1/\q.1.a0<q.2 then [⟨q.1.a0,q.1.a1,q.2⟩] else []
theorem Aaq{n:Nat}(hn:n<=1024){k:Ab}(h1:inN n k.a0)(h2:inN n k.a1):Oe k:=by
 unfold inN at h1 h2;exact⟨⟨oo,oo⟩,oo,oo⟩
theorem Ok{n:Nat}(hn:n<=1024){i j:Int}(h1:inN n i)(h2:inN n j):(-9223372036854775808<=i/\i<=9223372036854775807)/\-9223372036854775808<=j/\j<=9223372036854775807:=by
 unfold inN at h1 h2;exact⟨⟨oo,oo⟩,oo,oo⟩
theorem Abg{n:Nat}(hn:n<=1024):n*n<=1048576:=Nat.mul_le_mul hn hn
theorem Jh{α β:Type}{f:α->List β}(hf:∀q,(f q).length<=1):∀l:List α,(l.flatMap f).length<=l.length
 |[]=>s_
 |a::r=>by
  rw[flatMap_cons,length_append,length_cons];have:=hf a;have:=Jh hf r;omega
theorem Bbi{n:Nat}(hn:n<=1024){b:Ag}(hm:MapN n b.apex):Li b=some (b,Ba cmp2 (b.apex.flatMap (rimF b.apex))):=by
 have hl:=hm.len;have hsq:=Abg hn;have hf:∀q,(rimF b.apex q).length<=1:=fun q=>by unfold rimF;split <;> simp
 have hsm:∀x∈b.apex.flatMap (rimF b.apex),Oe x:=fun x hx=>by
  obtain⟨q,hq,hx⟩:=mem_flatMap.1 hx;unfold rimF at hx;split at hx
  .cases hx
  .rw[mem_singleton] at hx;subst hx;exact Aaq hn (hm.key q hq).2.1 (hm.key q hq).1
 unfold Li;rw[jn_d];refine Ads hm.ok (rimF b.apex) hf (fun s=>rfl) (fun s q hq hs=>?_) (fun l hp=>?_)
 .obtain⟨k1,k2,k3⟩:=hm.key q hq;unfold Qo;rw[gd_t (Ok hn k2 k1),Ac];unfold rimF rev2
  by_cases c:(mget b.apex (⟨q.1.a1,q.1.a0⟩:Ab)).isSome=true
  .rw[iP c,iP c,append_nil]
  .rw[iN c,iN c,gd_t oo]
 .have hlen:=hp.length_eq;have hfl:=Jh hf b.apex;dsimp only;rw[gd_t ⟨oo,fun x hx=>hsm x (hp.mem_iff.1 hx)⟩,Ye tot2 (fun x hx=>hsm x (hp.mem_iff.1 hx)) hp]
theorem Ald{n:Nat}(hn:n<=1024){b:Ag}(hm:MapN n b.apex):Gh b=some (b,Ba cmp2 (b.apex.flatMap (Iy b.apex))):=by
 have hl:=hm.len;have hsq:=Abg hn;have hf:∀q,(Iy b.apex q).length<=1:=fun q=>by unfold Iy;split <;> simp
 have hsm:∀x∈b.apex.flatMap (Iy b.apex),Oe x:=fun x hx=>by
  obtain⟨q,hq,hx⟩:=mem_flatMap.1 hx;obtain⟨k1,k2,k3⟩:=hm.key q hq;unfold Iy at hx;split at hx
  .rw[mem_singleton] at hx;subst hx;unfold inN at k1 k2;exact⟨⟨by simp only;omega,by simp only;omega⟩,by simp only;omega,by simp only;omega⟩
  .cases hx
 unfold Gh;rw[jn_d];refine Ads hm.ok (Iy b.apex) hf (fun s=>rfl) (fun s q hq hs=>?_) (fun l hp=>?_)
 .obtain⟨k1,k2,k3⟩:=hm.key q hq;unfold Pb;rw[gd_t (Ok hn k2 k1),Ac,jn_d];unfold Iy rev2
  by_cases c:q.1.a0<q.1.a1
  .rw[iP c,iP (.inl c)];dsimp only;rw[iP rfl];unfold Gp;rw[Ac,gd_t oo]
  .rw[iN c]
   by_cases d:(mget b.apex (⟨q.1.a1,q.1.a0⟩:Ab)).isSome=true
   .rw[d,iN (by simp;omega),append_nil];rfl
   .rw[Bool.not_eq_true] at d;rw[d,iP (.inr rfl)];dsimp only;rw[Bool.not_false,iP rfl];unfold Gp;rw[Ac,gd_t oo]
 .have hlen:=hp.length_eq;have hfl:=Jh hf b.apex;dsimp only;rw[gd_t ⟨oo,fun x hx=>hsm x (hp.mem_iff.1 hx)⟩,Ye tot2 (fun x hx=>hsm x (hp.mem_iff.1 hx)) hp]
theorem Aco{n:Nat}(hn:n<=1024){b:Ag}(hm:MapN n b.apex):Hj b=some (b,Ba cmp3 (b.apex.flatMap triF)):=by
 have hl:=hm.len;have hsq:=Abg hn;have hf:∀q,(triF q).length<=1:=fun q=>by unfold triF;split <;> simp
 unfold Hj;rw[jn_d];refine Ads hm.ok triF hf (fun s=>rfl) (fun s q hq hs=>?_) (fun l hp=>?_)
 .unfold Mc;rw[jn_d];unfold triF
  by_cases c:q.1.a0<q.1.a1
  .rw[iP c]
   by_cases d:q.1.a0<q.2
   .rw[dT d,iP ⟨c,d⟩];dsimp only;rw[iP rfl,gd_t oo]
   .rw[dF d,iN (by simp[d]),append_nil];rfl
  .rw[iN c,iN (by simp[c]),append_nil];rfl
 .have hlen:=hp.length_eq;have hfl:=Jh hf b.apex;dsimp only;rw[gd_t ⟨oo,fun x _=>trivial⟩,Ye tot3 (fun x _=>trivial) hp]
end
end
end Go.Proofs.YtlejkgngmjchdaaGreat
