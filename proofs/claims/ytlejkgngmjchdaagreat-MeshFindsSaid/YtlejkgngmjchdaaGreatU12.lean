import Derived.Test.YtlejkgngmjchdaaGreatU4
namespace Go.Proofs.YtlejkgngmjchdaaGreat
open Go Go.RowKit List
section
theorem Alx{A B s p q r:Ad}(h1:0<crs s p q)(h2:0<crs s q r)(hp:crs A B s<=crs A B p)(hq:crs A B s<crs A B q)(hr:crs A B s<crs A B r):0<crs s p r:=by
 have h:=Aj6 A B s p q r;rw[Bl s p r] at h;have m1:=Int.mul_nonneg (oo:0<=crs A B p-crs A B s) (Int.le_of_lt h2);have m2:=Int.mul_pos (oo:0<crs A B r-crs A B s) h1;have m3:(crs A B q-crs A B s) * -crs s p r = -((crs A B q-crs A B s)*crs s p r):=Int.mul_neg _ _;exact Cs (x:=crs A B q-crs A B s) oo oo
theorem Asd{A B s p q r:Ad}(h1:0<crs s p q)(h2:0<crs s q r)(hp:crs A B p<=crs A B s)(hq:crs A B q<crs A B s)(hr:crs A B r<crs A B s):0<crs s p r:=by
 have h:=Aj6 A B s p q r;rw[Bl s p r] at h;have m1:=Int.mul_nonneg (oo:0<=crs A B s-crs A B p) (Int.le_of_lt h2);have m2:=Int.mul_pos (oo:0<crs A B s-crs A B r) h1;have m3:(crs A B q-crs A B s) * -crs s p r=(crs A B s-crs A B q)*crs s p r:=by grind
 have m4:(crs A B p-crs A B s)*crs s q r = -((crs A B s-crs A B p)*crs s q r):=by grind
 have m5:(crs A B r-crs A B s)*crs s p q = -((crs A B s-crs A B r)*crs s p q):=by grind
 exact Cs (x:=crs A B s-crs A B q) oo oo
theorem Ap6{A B u w k l:Ad}(hu:0<crs A B u)(hk0:crs A B k<=0)(hl0:crs A B l<=0)(hw:crs A B w<0)(t1:0<crs u w k)(t2:0<crs w u l)(hl:crs A B w<crs A B l)(hk:crs A B w<=crs A B k):
  0<crs k u l/\0<crs l w k:=by
 constructor
 .have:=Agr (A:=A) (B:=B) (s:=u) (p:=l) (q:=w) (r:=k) (by rw[Au];exact t2) t1 oo oo oo;rw[<-Au] at this;rw[<-Au] at this;exact this
 .have:=Alx (A:=A) (B:=B) (s:=w) (p:=k) (q:=u) (r:=l) (by rw[<-Au];rw[<-Au];exact t1) t2 hk oo hl;rw[<-Au] at this;rw[<-Au] at this;exact this
theorem Av7{A B u u' w k:Ad}(hu:0<crs A B u)(hu':0<crs A B u')(hk0:crs A B k<=0)(hw:crs A B w<0)(t1:0<crs u w k)(t2:0<crs w u u')(hk:crs A B w<=crs A B k):
  0<crs u' w k/\(crs k u u'<=0->crs A B u<crs A B u'):=by
 constructor
 .have:=Alx (A:=A) (B:=B) (s:=w) (p:=k) (q:=u) (r:=u') (by rw[<-Au];rw[<-Au];exact t1) t2 hk oo oo;rw[<-Au] at this;rw[<-Au] at this;exact this
 .intro h;refine Classical.byContradiction fun g=>?_
  have:=Asd (A:=A) (B:=B) (s:=u) (p:=u') (q:=w) (r:=k) (by rw[Au];exact t2) t1 oo oo oo;rw[<-Au] at this;rw[<-Au] at this;omega
def ups(u:Nat->Int):Nat->Nat
 |0=>0
 |i+1=>ups u i+(if u (i+1)=u i then 0 else 1)
theorem Ia(u:Nat->Int)(i:Nat):ups u (i+1)=ups u i+(if u (i+1)=u i then 0 else 1):=rfl
theorem Ft(m:Nat)(u:Nat->Int):Path m (ups u):=⟨rfl,fun i _=>by simp only[ups];split <;> omega⟩
theorem Av8{u u':Nat->Int}:∀i,(∀k,k<=i->u' k=u k)->ups u' i=ups u i:=by
 intro i
 induction i with
 |zero=>intro _;rfl
 |succ i ih=>
  intro h;simp only[ups];rw[ih fun k hk=>h k oo,h (i+1) (nL _),h i oo]
theorem Aav{u:Nat->Int}{i:Nat}{x:Int}(h0:0<i):∀k,k<i->ups (setF i x u) k=ups u k:=fun k hk=>Av8 k fun t ht=>iN oo
variable {P:Int->Ad}{V:Int->Prop}{ap:Ap}{a b:Int}{m:Nat}{u w:Nat->Int}
theorem Bb3(h:Eo P ap a b m u w){i:Nat}(h0:0<i)(h1:i+1<m)(hu:u i=u (i-1))(hw:w (i+1)=w i):Move m (ups u) (ups (setF i (u (i+1)) u)) i:=by
 obtain⟨n,rfl⟩:∃n,i=n+1:=⟨i-1,oo⟩;have hne:u (n+1+1)≠u (n+1):=fun e=>h.inj (n+1) (n+1+1) oo h1 ⟨e.symm,hw.symm⟩
 rw[show n+1-1=n from rfl] at hu;have s1:setF (n+1) (u (n+1+1)) u (n+1)=u (n+1+1):=iP rfl;have s0:setF (n+1) (u (n+1+1)) u n=u n:=iN oo;have s2:setF (n+1) (u (n+1+1)) u (n+1+1)=u (n+1+1):=iN oo;have e0:ups (setF (n+1) (u (n+1+1)) u) n=ups u n:=Aav oo n oo;have e1:ups u (n+1)=ups u n:=by simp only[ups];rw[iP hu];rfl
 have e1':ups (setF (n+1) (u (n+1+1)) u) (n+1)=ups u n+1:=by simp only[ups];rw[s1,s0,iN (by rw[<-hu];exact hne),e0]
 have e2:ups u (n+1+1)=ups u n+1:=by rw[<-e1];show ups u (n+1)+_=_;rw[iN hne]
 have e2':ups (setF (n+1) (u (n+1+1)) u) (n+1+1)=ups u n+1:=by show ups _ (n+1)+_=_;rw[s1,s2,iP rfl,e1']
 refine⟨fun k hk=>?_,.inr (.inl ⟨oo,h1,?_,?_,?_⟩)⟩
 .by_cases c:k<n+1
  .exact Aav oo k c
  ·-- behind it all is as before
   have key:∀d,ups (setF (n+1) (u (n+1+1)) u) (n+1+1+d)=ups u (n+1+1+d):=by
    intro d
    induction d with
    |zero=>rw[Nat.add_zero,e2,e2']
    |succ d ih=>
     rw[show n+1+1+(d+1)=n+1+1+d+1 from rfl,Ia,Ia,ih,show setF (n+1) (u (n+1+1)) u (n+1+1+d+1)=u (n+1+1+d+1) from iN oo,show setF (n+1) (u (n+1+1)) u (n+1+1+d)=u (n+1+1+d) from iN oo]
   have:=key (k-(n+1+1))
   rwa [show n+1+1+(k-(n+1+1))=k by omega] at this
 .rw[show n+1-1=n from rfl,e1]
 .rw[e2,e1]
 .rw[e1',e1]
theorem Bb4(h:Eo P ap a b m u w){i:Nat}(h0:0<i)(h1:i+1<m)(hw:w i=w (i-1))(hu:u (i+1)=u i):Move m (ups u) (ups (setF i (u (i-1)) u)) i:=by
 obtain⟨n,rfl⟩:∃n,i=n+1:=⟨i-1,oo⟩;rw[show n+1-1=n from rfl] at *;have hne:u (n+1)≠u n:=fun e=>h.inj n (n+1) oo oo ⟨e.symm,hw.symm⟩
 have s1:setF (n+1) (u n) u (n+1)=u n:=iP rfl;have s0:setF (n+1) (u n) u n=u n:=iN oo;have s2:setF (n+1) (u n) u (n+1+1)=u (n+1+1):=iN oo;have e0:ups (setF (n+1) (u n) u) n=ups u n:=Aav oo n oo;have e1:ups u (n+1)=ups u n+1:=by simp only[ups];rw[iN hne]
 have e1':ups (setF (n+1) (u n) u) (n+1)=ups u n:=by simp only[ups];rw[s1,s0,iP rfl,e0];rfl
 have e2:ups u (n+1+1)=ups u n+1:=by show ups u (n+1)+_=_;rw[iP hu,e1]
 have e2':ups (setF (n+1) (u n) u) (n+1+1)=ups u n+1:=by show ups _ (n+1)+_=_;rw[s1,s2,iN (by rw[hu];exact hne),e1']
 refine⟨fun k hk=>?_,.inr (.inr ⟨oo,h1,?_,?_,?_⟩)⟩
 .by_cases c:k<n+1
  .exact Aav oo k c
  ·have key:∀ d,ups (setF (n+1) (u n) u) (n+1+1+d)=ups u (n+1+1+d):=by
    intro d
    induction d with
    |zero=>rw[Nat.add_zero,e2,e2']
    |succ d ih=>
     rw[show n+1+1+(d+1)=n+1+1+d+1 from rfl,Ia,Ia,ih,show setF (n+1) (u n) u (n+1+1+d+1)=u (n+1+1+d+1) from iN oo,show setF (n+1) (u n) u (n+1+1+d)=u (n+1+1+d) from iN oo]
   have:=key (k-(n+1+1))
   rwa [show n+1+1+(k-(n+1+1))=k by omega] at this
 .rw[show n+1-1=n from rfl,e1]
 .rw[e2,e1]
 .rw[e1',e1]
def Wn(m:Nat)(u w:Nat->Int)(U W:Nat->Int):Prop:=∀i,i<m->u i=U (ups u i)/\w i=W (cop (ups u) i)
theorem Eo.chains(h:Eo P ap a b m u w):∃U W,Wn m u w U W:=by
 have exU:∀x,∃y:Int,∀i,i<m->ups u i=x->u i=y:=fun x=>by
  by_cases c:∃i,i<m/\ups u i=x
  ·obtain⟨i0,h1,h2⟩:=c;refine⟨u i0,fun i hi hx=>?_⟩;have key:∀ d i j,j=i+d->j<m->ups u i=ups u j->u i=u j:=by
    intro d
    induction d with
    |zero=>intro i j e _ _;rw[e,Nat.add_zero]
    |succ d ih=>
     intro i j e hj he;have m1:=(Ft m u).mono i (i+d) oo oo;have m2:=(Ft m u).mono (i+d) j oo hj;have e3:=ih i (i+d) rfl oo oo;rw[e3];have e4:ups u (i+d+1)=ups u (i+d):=by rw[show i+d+1=j by omega];omega
     simp only[ups] at e4;rw[e]
     by_cases g:u (i+d+1)=u (i+d)
     .exact g.symm
     .rw[iN g] at e4;omega
   rcases Nat.le_total i i0 with g|g
   .exact key (i0-i) i i0 oo h1 oo
   .exact (key (i-i0) i0 i oo hi oo).symm
  .exact⟨0,fun i hi hx=>absurd ⟨i,hi,hx⟩ c⟩
 have exW:∀x,∃y:Int,∀i,i<m->cop (ups u) i=x->w i=y:=fun x=>by
  by_cases c:∃i,i<m/\cop (ups u) i=x
  ·obtain⟨i0,h1,h2⟩:=c;refine⟨w i0,fun i hi hx=>?_⟩;have key:∀ d i j,j=i+d->j<m->cop (ups u) i=cop (ups u) j->w i=w j:=by
    intro d
    induction d with
    |zero=>intro i j e _ _;rw[e,Nat.add_zero]
    |succ d ih=>
     intro i j e hj he;have m1:=(Ft m u).other.mono i (i+d) oo oo;have m2:=(Ft m u).other.mono (i+d) j oo hj;have e3:=ih i (i+d) rfl oo oo;rw[e3,e];have e4:cop (ups u) (i+d+1)=cop (ups u) (i+d):=by rw[show i+d+1=j by omega];omega
     have l1:=(Ft m u).le (i+d) oo;have e5:ups u (i+d+1)=ups u (i+d)+1:=by
      have:=(Ft m u).step (i+d) oo;unfold cop at e4;omega
     have hne:u (i+d+1)≠u (i+d):=fun g=>by simp only[ups] at e5;rw[iP g] at e5;omega
     rcases h.next (i+d) oo with g|g
     .exact absurd g.1 hne
     .exact g.1.symm
   rcases Nat.le_total i i0 with g|g
   .exact key (i0-i) i i0 oo h1 oo
   .exact (key (i-i0) i0 i oo hi oo).symm
  .exact⟨0,fun i hi hx=>absurd ⟨i,hi,hx⟩ c⟩
 refine⟨fun x=>Classical.choose (exU x),fun x=>Classical.choose (exW x),fun i hi=>⟨?_,?_⟩⟩
 .exact Classical.choose_spec (exU (ups u i)) i hi rfl
 .exact Classical.choose_spec (exW (cop (ups u) i)) i hi rfl
end
section
def Peak(H:Nat->Int)(n x:Nat):Prop:=x<=n/\(0<x->H (x-1)<H x)/\(x<n->H (x+1)<=H x)
theorem Bb5(H:Nat->Int):∀n,∃x,x<=n/\(∀y,y<x->H y<H x)/\∀y,y<=n->H y<=H x:=by
 intro n
 induction n with
 |zero=>exact⟨0,nL _,fun y hy=>oo,fun y hy=>by rw[show y=0 by omega];exact Int.le_refl _⟩
 |succ n ih=>
  obtain⟨x,h1,h2,h3⟩:=ih
  by_cases c:H (n+1)<=H x
  .refine⟨x,oo,h2,fun y hy=>?_⟩
   by_cases e:y=n+1
   .rw[e];exact c
   .exact h3 y oo
  .refine⟨n+1,nL _,fun y hy=>?_,fun y hy=>?_⟩
   .have:=h3 y oo;omega
   .by_cases e:y=n+1
    .rw[e];exact Int.le_refl _
    .have:=h3 y oo;omega
theorem An5(H:Nat->Int)(n N:Nat)(hn:n<=N)(h:n<N->H (n+1)<=H n):∃x,x<=n/\Peak H N x:=by
 obtain⟨x,h1,h2,h3⟩:=Bb5 H n;refine⟨x,h1,oo,fun hx=>h2 _ oo,fun hx=>?_⟩
 by_cases e:x=n
 .rw[e] at hx⊢;exact h hx
 .exact h3 _ oo
variable {P:Int->Ad}{V:Int->Prop}{ap ap':Ap}{a b:Int}{m:Nat}{u w u' w':Nat->Int}{U W:Nat->Int}
theorem Eo.someR(h:Eo P ap a b m u w){i:Nat}(hi:i<m):∃k,ap (u i) (w i)=some k:=by
 by_cases c:i+1=m
 .exact⟨_,h.last i c⟩
 .rcases h.next i oo with⟨_,g⟩|⟨_,g⟩ <;> exact⟨_,g⟩
theorem Eo.someL(h:Eo P ap a b m u w)(ht:Tri P V ap){i:Nat}(hi:i<m):∃l,ap (w i) (u i)=some l:=by
 by_cases c:i=0
 .subst c;exact⟨_,h.first hi⟩
 .obtain⟨j,rfl⟩:∃j,i=j+1:=⟨i-1,oo⟩;rcases h.prev ht hi with⟨_,g⟩|⟨_,g⟩ <;> exact⟨_,g⟩
def Yj(P:Int->Ad)(ap:Ap)(u w:Nat->Int)(i:Nat):Prop :=
 ∀k l,ap (u i) (w i)=some k->ap (w i) (u i)=some l->¬(0<crs (P (u i)) (P l) (P k)/\0<crs (P (w i)) (P k) (P l))
def Acs(P:Int->Ad)(V:Int->Prop)(m:Nat)(ap:Ap)(u w:Nat->Int)(i:Nat)(ap':Ap)(u' w':Nat->Int):Prop :=
 ∃k l,Quad P V ap (u i) (w i) k l/\ap'=Ef ap (u i) (w i) k l/\0<i/\i+1<m /\
  ((u i=u (i-1)/\w (i+1)=w i/\u'=setF i k u/\w'=setF i l w)\/(w i=w (i-1)/\u (i+1)=u i/\u'=setF i l u/\w'=setF i k w))
theorem Wn.move(hp:Path m (ups u))(hp':Path m (ups u'))(h:Wn m u w U W){i:Nat}(hmv:Move m (ups u) (ups u') i)(hu:∀k,k≠i->u' k=u k)(hw:∀k,k≠i->w' k=w k)(hi:i<m->u' i=U (ups u' i)/\w' i=W (cop (ups u') i)):Wn m u' w' U W:=fun k hk=>by
 by_cases c:k=i
 .rw[c];exact hi oo
 .rw[hu k c,hw k c,hmv.1 k c];unfold cop;rw[hmv.1 k c];exact h k hk
theorem Acs.keeps(ht:Tri P V ap)(hs:Eo P ap a b m u w)(hc:Wn m u w U W){i:Nat}(h:Acs P V m ap u w i ap' u' w'):
  Tri P V ap'/\Eo P ap' a b m u' w'/\Wn m u' w' U W/\Move m (ups u) (ups u') i/\ups u' i≠ups u i:=by
 obtain⟨k,l,q,rfl,h0,h1,⟨g1,g2,rfl,rfl⟩|⟨g1,g2,rfl,rfl⟩⟩:=h
 .obtain⟨ek,el,hs'⟩:=hs.turnU oo q h0 h1 g1 g2;subst ek el;have mv:=Bb3 hs h0 h1 g1 g2;have ne:u (i+1)≠u i:=fun e=>hs.inj i (i+1) oo h1 ⟨e.symm,g2.symm⟩
  have e1:ups u (i+1)=ups u i+1:=by rw[Ia,iN ne]
  have e0:ups u i=ups u (i-1):=by
   obtain⟨n,rfl⟩:∃n,i=n+1:=⟨i-1,oo⟩;rw[show n+1-1=n from rfl] at g1⊢;rw[Ia,iP g1];rfl
  have e2:ups (setF i (u (i+1)) u) i=ups u i+1:=by
   obtain⟨n,rfl⟩:∃n,i=n+1:=⟨i-1,oo⟩;rw[show n+1-1=n from rfl] at *;rw[Ia,Aav oo n oo,show setF (n+1) (u (n+1+1)) u (n+1)=u (n+1+1) from iP rfl,show setF (n+1) (u (n+1+1)) u n=u n from iN oo,iN (by rw[<-g1];exact ne),e0]
  refine⟨q.flip,hs',Wn.move (Ft m _) (Ft m _) hc mv (fun k hk=>iN hk) (fun k hk=>iN hk) (fun hi=>⟨?_,?_⟩),mv,oo⟩
  .rw[e2,<-e1,<-(hc (i+1) h1).1];exact iP rfl
  .have:cop (ups (setF i (u (i+1)) u)) i=cop (ups u) (i-1):=by unfold cop;rw[e2,<-e0];omega
   rw[this,<-(hc (i-1) oo).2];exact iP rfl
 .obtain⟨ek,el,hs'⟩:=hs.turnL oo q h0 h1 g1 g2;subst ek el;have mv:=Bb4 hs h0 h1 g1 g2;have ne:u i≠u (i-1):=fun e=>hs.inj (i-1) i oo oo ⟨e.symm,g1.symm⟩
  have e1:ups u (i+1)=ups u i:=by rw[Ia,iP g2];rfl
  have e0:ups u i=ups u (i-1)+1:=by
   obtain⟨n,rfl⟩:∃n,i=n+1:=⟨i-1,oo⟩;rw[show n+1-1=n from rfl] at ne⊢;rw[Ia,iN ne]
  have e2:ups (setF i (u (i-1)) u) i=ups u (i-1):=by
   obtain⟨n,rfl⟩:∃n,i=n+1:=⟨i-1,oo⟩;rw[show n+1-1=n from rfl] at *;rw[Ia,Aav oo n oo,show setF (n+1) (u n) u (n+1)=u n from iP rfl,show setF (n+1) (u n) u n=u n from iN oo,iP rfl];rfl
  have hle:=(Ft m u).le i oo;refine⟨q.flip,hs',Wn.move (Ft m _) (Ft m _) hc mv (fun k hk=>iN hk) (fun k hk=>iN hk) (fun hi=>⟨?_,?_⟩),mv,oo⟩
  .rw[e2,<-(hc (i-1) oo).1];exact iP rfl
  .have:cop (ups (setF i (u (i-1)) u)) i=cop (ups u) (i+1):=by unfold cop;rw[e2,e1];omega
   rw[this,<-(hc (i+1) h1).2];exact iP rfl
def hU(P:Int->Ad)(a b:Int)(U:Nat->Int)(x:Nat):Int:=crs (P a) (P b) (P (U x))
def hL(P:Int->Ad)(a b:Int)(W:Nat->Int)(x:Nat):Int:=-crs (P a) (P b) (P (W x))
section
variable (ht:Tri P V ap)(hs:Eo P ap a b m u w)(hc:Wn m u w U W){X Y:Nat}(hX:X=ups u (m-1))(hY:Y=cop (ups u) (m-1))
include ht hs hc hX hY
theorem Av9{i x:Nat}(hx:Peak (hU P a b U) X x)(hl:Last m (ups u) x i)(hst:Yj P ap u w i):∃y,Peak (hL P a b W) Y y/\y<cop (ups u) i:=by
 obtain⟨him,hix,hlast⟩:=hl;obtain⟨k,hk⟩:=hs.someR him;obtain⟨l,hl⟩:=hs.someL ht him;have hu0:=hs.up i him;have hw0:=hs.lo i him;have t1:=(ht.ccw _ _ _ hk).2.2.2;have t2:=(ht.ccw _ _ _ hl).2.2.2;have ui:=(hc i him).1;rw[hix] at ui;have hno:=hst k l hk hl;have hkk:0<=crs (P a) (P b) (P k)/\crs (P a) (P b) (P k)<=crs (P a) (P b) (P (u i)):=by
  rcases hs.right him hk with⟨_,g⟩|⟨g1,g2,_⟩|⟨g1,g2,g3⟩
  .rw[g,Aio];omega
  .exact absurd (by rw[Ia,iP g2,hix];rfl) (hlast (i+1) oo g1)
  .have ne:u (i+1)≠u i:=fun e=>hs.inj i (i+1) oo g1 ⟨e.symm,g2.symm⟩
   have e1:ups u (i+1)=x+1:=by rw[Ia,iN ne,hix]
   have m1:=(Ft m u).mono (i+1) (m-1) oo oo;have:=hx.2.2 oo;unfold hU at this;rw[<-e1,<-(hc (i+1) g1).1,<-ui,<-g3] at this;exact⟨by rw[g3];exact Int.le_of_lt (hs.up _ g1),this⟩
 have done:0<crs (P k) (P (u i)) (P l)/\0<crs (P l) (P (w i)) (P k)->False:=fun g=>hno ⟨by rw[Au];exact g.1,by rw[Au];exact g.2⟩
 rcases hs.left ht him hl with⟨g1,g2⟩|⟨g1,g2,g3⟩|⟨g1,g2,g3⟩
 .exact absurd (Aqn hw0 hkk.1 (by rw[g2,Aip];exact Int.le_refl _) hu0 t1 t2 (by rw[g2,Aip];exact hu0) hkk.2) done
 ·obtain⟨n,rfl⟩:∃ n,i=n+1:=⟨i-1,oo⟩;rw[show n+1-1=n from rfl] at *;have hwl:=hs.lo n oo;rw[<- g3] at hwl;have tm:=Awr (A:=P a) (B:=P b) hw0 hwl hkk.1 hu0 t1 (by rw[Au];exact t2) hkk.2;have hdeep:=tm.2 (by
   refine Classical.byContradiction fun c=>done ⟨tm.1,oo⟩)
  have e1:ups u (n+1)=ups u n:=by rw[Ia,iP g2];rfl
  have l0:=(Ft m u).le n oo;have e2:cop (ups u) (n+1)=cop (ups u) n+1:=by unfold cop;omega
  have m1:=(Ft m u).other.mono (n+1) (m-1) oo oo;obtain⟨y,hy1,hy2⟩:=An5 (hL P a b W) (cop (ups u) n) Y oo (fun _=>by
   unfold hL;rw[<-e2,<-(hc (n+1) him).2,<-(hc n oo).2,<-g3];omega)
  exact⟨y,hy2,oo⟩
 .obtain⟨n,rfl⟩:∃n,i=n+1:=⟨i-1,oo⟩;rw[show n+1-1=n from rfl] at *;have ne:u (n+1)≠u n:=fun e=>hs.inj n (n+1) oo him ⟨e.symm,g2.symm⟩
  have e1:ups u (n+1)=ups u n+1:=by rw[Ia,iN ne]
  have:=hx.2.1 oo;unfold hU at this;rw[show x-1=ups u n by omega,<-(hc n oo).1,<-ui,<-g3] at this;exact absurd (Aqn hw0 hkk.1 (by rw[g3];exact Int.le_of_lt (hs.up n oo)) hu0 t1 t2 this hkk.2) done
theorem Awa{i y:Nat}(hy:Peak (hL P a b W) Y y)(hl:Last m (cop (ups u)) y i)(hst:Yj P ap u w i):∃x,Peak (hU P a b U) X x/\x<ups u i:=by
 obtain⟨him,hix,hlast⟩:=hl;obtain⟨k,hk⟩:=hs.someR him;obtain⟨l,hl⟩:=hs.someL ht him;have hu0:=hs.up i him;have hw0:=hs.lo i him;have t1:=(ht.ccw _ _ _ hk).2.2.2;have t2:=(ht.ccw _ _ _ hl).2.2.2;have wi:=(hc i him).2;rw[hix] at wi;have hno:=hst k l hk hl;have li:=(Ft m u).le i him;have hkk:crs (P a) (P b) (P k)<=0/\crs (P a) (P b) (P (w i))<=crs (P a) (P b) (P k):=by
  rcases hs.right him hk with⟨_,g⟩|⟨g1,g2,g3⟩|⟨g1,g2,g3⟩
  .rw[g,Aio];omega
  .have e1:ups u (i+1)=ups u i:=by rw[Ia,iP g2];rfl
   have e2:cop (ups u) (i+1)=y+1:=by rw[<-hix];unfold cop;omega
   have m1:=(Ft m u).other.mono (i+1) (m-1) oo oo;have:=hy.2.2 oo;unfold hL at this;rw[<-e2,<-(hc (i+1) g1).2,<-wi,<-g3] at this;exact⟨by rw[g3];exact Int.le_of_lt (hs.lo _ g1),oo⟩
  .have ne:u (i+1)≠u i:=fun e=>hs.inj i (i+1) oo g1 ⟨e.symm,g2.symm⟩
   have e1:ups u (i+1)=ups u i+1:=by rw[Ia,iN ne]
   exact absurd (by rw[<-hix];unfold cop;omega) (hlast (i+1) oo g1)
 have done:0<crs (P k) (P (u i)) (P l)/\0<crs (P l) (P (w i)) (P k)->False:=fun g=>hno ⟨by rw[Au];exact g.1,by rw[Au];exact g.2⟩
 rcases hs.left ht him hl with⟨g1,g2⟩|⟨g1,g2,g3⟩|⟨g1,g2,g3⟩
 .exact absurd (Ap6 hu0 hkk.1 (by rw[g2,Aip];exact Int.le_refl _) hw0 t1 t2 (by rw[g2,Aip];exact hw0) hkk.2) done
 .obtain⟨n,rfl⟩:∃n,i=n+1:=⟨i-1,oo⟩;rw[show n+1-1=n from rfl] at *;have e1:ups u (n+1)=ups u n:=by rw[Ia,iP g2];rfl
  have l0:=(Ft m u).le n oo;have e2:cop (ups u) (n+1)=cop (ups u) n+1:=by unfold cop;omega
  have:=hy.2.1 oo;unfold hL at this;rw[show y-1=cop (ups u) n by omega,<-(hc n oo).2,<-wi,<-g3] at this;exact absurd (Ap6 hu0 hkk.1 (by rw[g3];exact Int.le_of_lt (hs.lo n oo)) hw0 t1 t2 oo hkk.2) done
 .obtain⟨n,rfl⟩:∃n,i=n+1:=⟨i-1,oo⟩;rw[show n+1-1=n from rfl] at *;have ne:u (n+1)≠u n:=fun e=>hs.inj n (n+1) oo him ⟨e.symm,g2.symm⟩
  have e1:ups u (n+1)=ups u n+1:=by rw[Ia,iN ne]
  have hul:=hs.up n oo;rw[<-g3] at hul;have tm:=Av7 (A:=P a) (B:=P b) hu0 hul hkk.1 hw0 t1 t2 hkk.2;have hdeep:=tm.2 (by
   refine Classical.byContradiction fun c=>done ⟨oo,tm.1⟩)
  have m1:=(Ft m u).mono (n+1) (m-1) oo oo;obtain⟨x,hx1,hx2⟩:=An5 (hU P a b U) (ups u n) X oo (fun _=>by
   unfold hU;rw[<-e1,<-(hc (n+1) him).1,<-(hc n oo).1,<-g3];omega)
  exact⟨x,hx2,oo⟩
end
theorem Path.meets{j:Nat->Nat}(h:Path m j):∀n,n<m->∀x,x<=j n->∃i,i<=n/\j i=x:=by
 intro n
 induction n with
 |zero=>intro _ x hx;exact⟨0,nL _,by have:=h.start;omega⟩
 |succ n ih=>
  intro hn x hx
  by_cases c:x<=j n
  .obtain⟨i,h1,h2⟩:=ih oo x c;exact⟨i,oo,h2⟩
  .have:=h.step n hn;exact⟨n+1,nL _,oo⟩
theorem Awb{apt:Nat->Ap}{ut wt:Nat->Nat->Int}{s:Nat->Nat}(h0:0<m)(ht:Tri P V (apt 0))(hs:Eo P (apt 0) a b m (ut 0) (wt 0))(hw:∀t i,i<m->∃t',t<=t'/\t'<t+m/\s t'=i)(hu:∀t t',t<t'->t'<t+m->s t≠s t')(hsm:∀t,s t<m)(step:∀t,(Yj P (apt t) (ut t) (wt t) (s t)/\apt (t+1)=apt t/\ut (t+1)=ut t/\wt (t+1)=wt t)\/Acs P V m (apt t) (ut t) (wt t) (s t) (apt (t+1)) (ut (t+1)) (wt (t+1))):False:=by
 obtain⟨U,W,hc⟩:=hs.chains;have all:∀t,Tri P V (apt t)/\Eo P (apt t) a b m (ut t) (wt t)/\Wn m (ut t) (wt t) U W/\ups (ut t) (m-1)=ups (ut 0) (m-1):=by
  intro t
  induction t with
  |zero=>exact⟨ht,hs,hc,rfl⟩
  |succ t ih=>
   obtain⟨i1,i2,i3,i4⟩:=ih;rcases step t with⟨_,e1,e2,e3⟩|g
   .rw[e1,e2,e3];exact⟨i1,i2,i3,i4⟩
   .obtain⟨k1,k2,k3,k4,_⟩:=g.keeps i1 i2 i3;refine⟨k1,k2,k3,?_⟩;obtain⟨_,_,_,_,_,hlt,_⟩:=g;rw[k4.1 (m-1) oo,i4]
 have mv:∀t,Move m (ups (ut t)) (ups (ut (t+1))) (s t)/\(ups (ut (t+1)) (s t)=ups (ut t) (s t)->Yj P (apt t) (ut t) (wt t) (s t)):=fun t=>by
  obtain⟨i1,i2,i3,i4⟩:=all t;rcases step t with⟨g,e1,e2,e3⟩|g
  .rw[e2];exact⟨⟨fun _ _=>rfl,.inl rfl⟩,fun _=>g⟩
  .obtain⟨_,_,_,k4,k5⟩:=g.keeps i1 i2 i3;exact⟨k4,fun e=>absurd e k5⟩
 refine Bcf (m:=m) (s:=s) (j:=fun t=>ups (ut t)) (CU:=Peak (hU P a b U) (ups (ut 0) (m-1))) (CL:=Peak (hL P a b W) (cop (ups (ut 0)) (m-1))) hw hu hsm (fun t=>Ft m _) (fun t=>(mv t).1)
  (fun x hx t=>?_) (fun y hy t=>?_) (fun x t i hx hl e1 e2=>?_) (fun y t i hy hl e1 e2=>?_) ?_
 .obtain⟨i,g1,g2⟩:=(Ft m (ut t)).meets (m-1) oo x (by rw[(all t).2.2.2];exact hx.1);exact⟨i,oo,g2⟩
 .obtain⟨i,g1,g2⟩:=(Ft m (ut t)).other.meets (m-1) oo y (by unfold cop;rw[(all t).2.2.2];exact hy.1);exact⟨i,oo,g2⟩
 .obtain⟨i1,i2,i3,i4⟩:=all t;subst e1;exact Av9 i1 i2 i3 i4.symm (by unfold cop;rw[i4]) hx hl ((mv t).2 e2)
 .obtain⟨i1,i2,i3,i4⟩:=all t;subst e1;exact Awa i1 i2 i3 i4.symm (by unfold cop;rw[i4]) hy hl ((mv t).2 e2)
 .obtain⟨x,hx1,hx2⟩:=An5 (hU P a b U) (ups (ut 0) (m-1)) (ups (ut 0) (m-1)) (nL _) (fun h=>oo);exact⟨x,hx2⟩
end
section
section
variable {P:Int->Ad}{H:Int->Int}{V:Int->Prop}{ap:Ap}
def Yk(P:Int->Ad)(ap:Ap)(a b:Int):Prop:=∃x y,ap a x=some y/\0<=crs (P a) (P x) (P b)/\0<=crs (P a) (P b) (P y)
theorem Bdq{s j x y b:Ad}(h:0<crs s x y)(h1:0<=crs s x b)(h2:0<=crs s b y)(h3:0<crs s j x)(h4:0<crs s j y):0<=crs s j b:=by
 have e:crs s x y*crs s j b=crs s b y*crs s j x+crs s x b*crs s j y:=by unfold crs;grind
 have m1:=Int.mul_nonneg h2 (Int.le_of_lt h3);have m2:=Int.mul_nonneg h1 (Int.le_of_lt h4);exact Oj (x:=crs s x y) oo h
theorem Bdr{s j x y b:Ad}(h:0<crs s x y)(h1:0<=crs s x b)(h2:0<=crs s b y)(h3:0<crs s x j)(h4:0<crs s y j):0<=crs s b j:=by
 have e:crs s x y*crs s b j=crs s b y*crs s x j+crs s x b*crs s y j:=by unfold crs;grind
 have m1:=Int.mul_nonneg h2 (Int.le_of_lt h3);have m2:=Int.mul_nonneg h1 (Int.le_of_lt h4);exact Oj (x:=crs s x y) oo h
theorem Quad.cone_back{i j k l:Int}(q:Quad P V ap i j k l){a b:Int}(h:Yk P (Ef ap i j k l) a b):Yk P ap a b:=by
 have half:∀{i j k l:Int},Quad P V ap i j k l->∀x y,(a=i/\x=l/\y=k)\/(a=l/\x=k/\y=i)\/(a=k/\x=i/\y=l)->0<=crs (P a) (P x) (P b)->0<=crs (P a) (P b) (P y)->Yk P ap a b:=by
  intro i j k l q x y hc g1 g2;have ck:=(q.tri.ccw _ _ _ q.hk).2.2.2;have cl:=(q.tri.ccw _ _ _ q.hl).2.2.2;rcases hc with⟨rfl,rfl,rfl⟩|⟨rfl,rfl,rfl⟩|⟨rfl,rfl,rfl⟩
  .rcases Int.le_total 0 (crs (P a) (P j) (P b)) with g|g
   .exact⟨j,y,q.hk,g,g2⟩
   .exact⟨x,j,q.tri.rot _ _ _ q.hl,g1,by rw[Bl];omega⟩
  .refine⟨j,y,q.tri.rot2 q.hl,?_,g2⟩;exact Bdq (by rw[<-Au];rw[<-Au];rw[Au];rw[<-Au];first|exact q.c1|(rw[Au];exact q.c1)) g1 g2 (by first|exact q.c2|(rw[Au];exact q.c2)|(rw[Au,Au];exact q.c2)) (by first|exact cl|(rw[Au];exact cl)|(rw[Au,Au];exact cl))
  .refine⟨x,j,q.tri.rot2 q.hk,g1,?_⟩;exact Bdr (by first|exact q.c1|(rw[Au];exact q.c1)|(rw[Au,Au];exact q.c1)) g1 g2 (by first|exact ck|(rw[Au];exact ck)|(rw[Au,Au];exact ck)) (by first|exact q.c2|(rw[Au];exact q.c2)|(rw[Au,Au];exact q.c2))
 obtain⟨x,y,hf,g1,g2⟩:=h;rcases Qf hf with c|c|c|c|c|c|⟨c,_⟩
 .exact half q x y (.inl c) g1 g2
 .exact half q x y (.inr (.inl c)) g1 g2
 .exact half q x y (.inr (.inr c)) g1 g2
 .exact half q.symm x y (.inl c) g1 g2
 .exact half q.symm x y (.inr (.inl c)) g1 g2
 .exact half q.symm x y (.inr (.inr c)) g1 g2
 .exact⟨x,y,c,g1,g2⟩
def c2(n:Int)(x y a b:Ad):Int:=n*crs x y a+crs x y b
def p2(n ha hb hc:Int)(x y z a b:Ad):Int:=n*plt ha hb hc x y z a+plt ha hb hc x y z b
theorem Ase(n ha hb hc hd:Int)(a b c d p q:Ad):p2 n hb ha hd b a d p q*crs a b c-p2 n ha hb hc a b c p q*crs b a d=Dt ha hb hc hd a b c d*c2 n a b p q:=by
 have h1:=Tm ha hb hc hd a b c d p;have h2:=Tm ha hb hc hd a b c d q;unfold p2 c2;have e:(n*plt hb ha hd b a d p+plt hb ha hd b a d q)*crs a b c-(n*plt ha hb hc a b c p+plt ha hb hc a b c q)*crs b a d=n*(plt hb ha hd b a d p*crs a b c-plt ha hb hc a b c p*crs b a d)+(plt hb ha hd b a d q*crs a b c-plt ha hb hc a b c q*crs b a d):=by grind
 rw[e,h1,h2];grind
theorem Awc(n ha hb hc:Int)(a b c p q:Ad):p2 n hb hc ha b c a p q=p2 n ha hb hc a b c p q:=by unfold p2;rw[Aci ha hb hc a b c p,Aci ha hb hc a b c q]
def hgt2(P:Int->Ad)(H:Int->Int)(n:Int)(t:T3)(p q:Ad):Int:=p2 n (H t.1) (H t.2.1) (H t.2.2) (P t.1) (P t.2.1) (P t.2.2) p q
def Ab0(P:Int->Ad)(H:Int->Int)(n:Int)(p q:Ad)(t s:T3):Prop:=hgt2 P H n t p q*Ww P s<hgt2 P H n s p q*Ww P t
instance(n:Int)(p q:Ad)(t s:T3):Decidable (Ab0 P H n p q t s):=by unfold Ab0;infer_instance
theorem Bds{X:List T3}(hX:Adm P X)(n:Int)(p q:Ad)(step:∀ a b c,(a,b,c)∈X->c2 n (P a) (P b) p q<0->∃ d,(b,a,d)∈X/\DH P H a b c d<0):
  ∀t∈X,∃s∈X,0<=c2 n (P s.1) (P s.2.1) p q/\0<=c2 n (P s.2.1) (P s.2.2) p q/\0<=c2 n (P s.2.2) (P s.1) p q:=by
 have key:∀(N:Nat) (t:T3),t∈X->X.countP (fun s=>decide (Ab0 P H n p q t s))=N->∃s∈X,0<=c2 n (P s.1) (P s.2.1) p q/\0<=c2 n (P s.2.1) (P s.2.2) p q/\0<=c2 n (P s.2.2) (P s.1) p q:=by
  intro N
  induction N using Nat.strongRecOn with
  |ind N ih=>
   intro t ht hn;have go:∀ t':T3,t'∈X->hgt2 P H n t' p q=hgt2 P H n t p q->Ww P t'=Ww P t->c2 n (P t'.1) (P t'.2.1) p q<0 ->
     ∃s∈X,0<=c2 n (P s.1) (P s.2.1) p q/\0<=c2 n (P s.2.1) (P s.2.2) p q/\0<=c2 n (P s.2.2) (P s.1) p q:=by
    rintro⟨a,b,c⟩ h1 h2 h3 h4;obtain⟨d,h5,h6⟩:=step a b c h1 h4;have hb:Ab0 P H n p q t (b,a,d):=by
     unfold Ab0;rw[<-h2,<-h3];have e:=Ase n (H a) (H b) (H c) (H d) (P a) (P b) (P c) (P d) p q;have:0<Dt (H a) (H b) (H c) (H d) (P a) (P b) (P c) (P d)*c2 n (P a) (P b) p q:=Int.mul_pos_of_neg_of_neg h6 h4;show p2 _ _ _ _ _ _ _ p q*crs _ _ _<p2 _ _ _ _ _ _ _ p q*crs _ _ _;simp only;omega
    have hpos:∀u∈X,0<Ww P u:=fun u hu=>hX.ccw u.1 u.2.1 u.2.2 hu
    have hlt:X.countP (fun s=>decide (Ab0 P H n p q (b,a,d) s))<N:=by
     rw[<-hn];refine Wv (x:=(b,a,d)) (fun y hy hb2=>?_) h5 (sV hb) (by simp[Ab0]);rw[dQ] at hb2⊢;exact Xz (hpos t ht) (hpos _ h5) (hpos y hy) hb hb2
    exact ih _ hlt (b,a,d) h5 rfl
   obtain⟨a,b,c⟩:=t
   by_cases g1:c2 n (P a) (P b) p q<0
   .exact go (a,b,c) ht rfl rfl g1
   .by_cases g2:c2 n (P b) (P c) p q<0
    .exact go (b,c,a) (hX.rot _ _ _ ht) (Awc _ _ _ _ _ _ _ _ _) (Au _ _ _) g2
    .by_cases g3:c2 n (P c) (P a) p q<0
     .exact go (c,a,b) (hX.rot _ _ _ (hX.rot _ _ _ ht)) (by unfold hgt2;rw[<-Awc]) (by unfold Ww;rw[<-Au]) g3
     .exact⟨(a,b,c),ht,by simp only;omega,by simp only;omega,by simp only;omega⟩
 exact fun t ht=>key _ t ht rfl
theorem Ajv{n:Int}{x y a b:Ad}(hn:0<=n)(hb:crs x y b<n)(h:0<=c2 n x y a b):0<=crs x y a/\(crs x y a=0->0<=crs x y b):=by
 unfold c2 at h;constructor
 .refine Classical.byContradiction fun g=>?_
  have:=Int.mul_le_mul_of_nonneg_left (oo:crs x y a<=-1) hn;omega
 .intro e;rw[e] at h;omega
end
theorem Awd{v:List Aa}(hv:Ci v){m:Mp}(hm:MapN v.length m)(ht:Tri (plV v) (inN v.length) (apM m))(hc:Cov (plV v) (inN v.length) (apM m))(hl:∀i j k l,apM m i j=some k->apM m j i=some l->DH (plV v) (hV v) i j k l<0)(hne:m≠[]){a b:Int}(ha:inN v.length a)(hb:inN v.length b):Yk (plV v) (apM m) a b:=by
 have mem:∀a b c:Int,(a,b,c)∈(m.map fun q=>(q.1.a0,q.1.a1,q.2))↔apM m a b=some c:=fun a b c=>by
  rw[mem_map];constructor
  .rintro⟨⟨⟨x,y⟩,z⟩,hq,e⟩;cases e
   exact Nv hm.ok hq
  .intro h;exact⟨(⟨a,b⟩,c),Er h,rfl⟩
 have hX:Adm (plV v) (m.map fun q=>(q.1.a0,q.1.a1,q.2)):=⟨fun a b c h=>(mem _ _ _).2 (ht.rot _ _ _ ((mem _ _ _).1 h)),fun a b c h=>(ht.ccw _ _ _ ((mem _ _ _).1 h)).2.2.2⟩;have bd:∀x y z,inN v.length x->inN v.length y->inN v.length z->crs (plV v x) (plV v y) (plV v z)<KK:=fun x y z hx hy hz=>by
  have:=Il (hv.ok x hx) (hv.ok y hy) (hv.ok z hz);unfold KK;omega
 obtain⟨t,hmt⟩:=exists_mem_of_ne_nil _ hne;obtain⟨⟨x,y,z⟩,hs,g1,g2,g3⟩:=Bds (H:=hV v) hX KK (plV v a) (plV v b) (fun x y z hmem hlt=>by
  have h1:=(mem _ _ _).1 hmem;obtain⟨vx,vy,vz,_⟩:=ht.ccw _ _ _ h1;have:∃e,apM m y x=some e:=by
   rcases e:apM m y x with _|w
   .have k1:=hc _ _ _ h1 e a ha;have k2:=hc _ _ _ h1 e b hb;unfold c2 at hlt;have:=Int.mul_nonneg (show (0:Int)<=KK by unfold KK;omega) k1;omega
   .exact⟨w,rfl⟩
  obtain⟨e,he⟩:=this;exact⟨e,(mem _ _ _).2 he,hl _ _ _ _ h1 he⟩) (t.1.a0,t.1.a1,t.2) (mem_map.2 ⟨t,hmt,rfl⟩)
 have h1:=(mem _ _ _).1 hs;obtain⟨vx,vy,vz,_⟩:=ht.ccw _ _ _ h1;have n1:=Ajv (by unfold KK;omega) (bd _ _ _ vx vy hb) g1;have n2:=Ajv (by unfold KK;omega) (bd _ _ _ vy vz hb) g2;have n3:=Ajv (by unfold KK;omega) (bd _ _ _ vz vx hb) g3;have cor:a=x\/a=y\/a=z:=by
  refine Classical.byContradiction fun g=>?_
  have:=ht.emp _ _ _ h1 a ha oo oo oo;omega
 have go:∀x y z,apM m x y=some z->a=x->(crs (plV v x) (plV v y) (plV v a)=0->0<=crs (plV v x) (plV v y) (plV v b))->(crs (plV v z) (plV v x) (plV v a)=0->0<=crs (plV v z) (plV v x) (plV v b))->Yk (plV v) (apM m) a b:=by
  rintro x y z h rfl k1 k2;refine⟨y,z,h,k1 (Bx _ _),?_⟩;have:=k2 (Bq _ _);rw[<-Au] at this;exact this
 rcases cor with e|e|e
 .exact go x y z h1 e n1.2 n3.2
 .exact go y z x (ht.rot _ _ _ h1) e n2.2 n1.2
 .exact go z x y (ht.rot2 h1) e n3.2 n2.2
theorem MapN.flipM{n:Nat}{m:Mp}(h:MapN n m){i j k l:Int}(hi:inN n i)(hj:inN n j)(hk:inN n k)(hl:inN n l):MapN n (flipM m i j k l):=((h.cutM _ _ _).cutM _ _ _ |>.putM hi hl hk).putM hj hk hl
theorem Agi{v:List Aa}(hv:Ci v){m:Mp}(hm:MapN v.length m)(ht:Tri (plV v) (inN v.length) (apM m))(hc:Cov (plV v) (inN v.length) (apM m))(hne:m≠[]){a b:Int}(ha:inN v.length a)(hb:inN v.length b):Yk (plV v) (apM m) a b:=by
 have key:∀(N:Nat) (m:Mp),phi (plV v) (hV v) v.length m=N->MapN v.length m->Tri (plV v) (inN v.length) (apM m)->Cov (plV v) (inN v.length) (apM m)->m≠[]->Yk (plV v) (apM m) a b:=by
  intro N
  induction N using Nat.strongRecOn with
  |ind N ih=>
   intro m hN hm ht hc hne
   by_cases c:∃i j k l,apM m i j=some k/\apM m j i=some l/\¬DH (plV v) (hV v) i j k l<0
   ·obtain⟨i,j,k,l,hk,hl,hD⟩:=c;have q:=Ako hv ht hk hl hD;obtain⟨n1,n2,n3,n4,n5,n6⟩:=q.ne;have ef:=Xr hm.ok n1 n2 n3 n4 n5 n6;obtain⟨vi,vj,vk,_⟩:=ht.ccw _ _ _ hk;obtain⟨_,_,vl,_⟩:=ht.ccw _ _ _ hl;have hpos:0<DH (plV v) (hV v) i j k l:=by
     have:=(Adr hv vi vj vk vl (ht.ccw _ _ _ hk).2.2.2 (by rw[Bb];have:=(ht.ccw _ _ _ hl).2.2.2;omega)).2;omega
    have lt:=Amo hm.ok (To hv) q hpos;refine q.cone_back ?_;rw[<-ef];refine ih _ (by rw[<-hN];exact lt) _ rfl (hm.flipM vi vj vk vl) (by rw[ef];exact q.flip) (by rw[ef];exact q.cov hc) (fun e=>?_);have:=Ays (apM m) i j k l;rw[<-ef,e] at this;cases this
   .exact Awd hv hm ht hc (fun i j k l hk hl=>Classical.byContradiction fun g=>c ⟨i,j,k,l,hk,hl,g⟩) hne ha hb
 exact key _ m rfl hm ht hc hne
theorem Aly{D d X x:Int}(hD:0<D)(hd:0<d)(h:D*x=d*X):(0<X->0<x)/\(X<0->x<0)/\(X=0->x=0):=by
 refine⟨fun hX=>?_,fun hX=>?_,fun hX=>?_⟩
 .have:=Int.mul_pos hd hX;exact Cs (x:=D) oo hD
 .have:=Int.mul_pos hd (oo:0 < -X);have e:d * -X = -(d*X):=Int.mul_neg _ _;have e2:D * -x = -(D*x):=Int.mul_neg _ _;have:=Cs (x:=D) (y:=-x) oo hD;omega
 .rw[hX,Int.mul_zero] at h;rcases Int.mul_eq_zero.1 h with g|g <;> omega
def Btw(a b k:Ad):Prop:=crs a b k=0/\¬(befP a k↔befP b k)
theorem An6{p q a k b:Ad}(h0:crs a b k=0)(h1:crs p q a<crs p q k)(h2:crs p q k<crs p q b):Btw a b k:=by
 refine⟨h0,?_⟩;have ex1:(crs p q b-crs p q a)*(k.X-a.X)=(crs p q k-crs p q a)*(b.X-a.X):=by unfold crs at *;grind
 have ey1:(crs p q b-crs p q a)*(k.Y-a.Y)=(crs p q k-crs p q a)*(b.Y-a.Y):=by unfold crs at *;grind
 have ex2:(crs p q b-crs p q a)*(b.X-k.X)=(crs p q b-crs p q k)*(b.X-a.X):=by unfold crs at *;grind
 have ey2:(crs p q b-crs p q a)*(b.Y-k.Y)=(crs p q b-crs p q k)*(b.Y-a.Y):=by unfold crs at *;grind
 obtain⟨x1,x2,x3⟩:=Aly oo oo ex1;obtain⟨y1,y2,y3⟩:=Aly oo oo ey1;obtain⟨x4,x5,x6⟩:=Aly oo oo ex2;obtain⟨y4,y5,y6⟩:=Aly oo oo ey2;have ne:¬(b.X-a.X=0/\b.Y-a.Y=0):=fun ⟨e1,e2⟩=>by
  have e3:crs p q b=crs p q a:=by
   have e4:b.X=a.X:=oo;have e5:b.Y=a.Y:=oo;unfold crs;rw[e4,e5]
  omega
 unfold befP;rcases Int.lt_trichotomy (b.X-a.X) 0 with c|c|c
 .have:=x2 c;have:=x5 c;omega
 .have:=x3 c;have:=x6 c;rcases Int.lt_trichotomy (b.Y-a.Y) 0 with d|d|d
  .have:=y2 d;have:=y5 d;omega
  .exact absurd ⟨c,d⟩ ne
  .have:=y1 d;have:=y4 d;omega
 .have:=x1 c;have:=x4 c;omega
theorem bary(a x y b:Ad):crs a x y*b.X=crs x y b*a.X+crs y a b*x.X+crs a x b*y.X/\crs a x y*b.Y=crs x y b*a.Y+crs y a b*x.Y+crs a x b*y.Y:=by
 constructor <;> (unfold crs;grind)
theorem Awe(A B a x y b:Ad):crs a x y*crs A B b=crs x y b*crs A B a+crs y a b*crs A B x+crs a x b*crs A B y:=by unfold crs;grind
theorem Ap7{a x y b:Ad}(h:0<crs a x y)(h1:crs a x b=0)(h2:crs x y b=0):Bz b x:=by
 have e:=Qe a x y b;obtain⟨e1,e2⟩:=bary a x y b;rw[h1,h2,Int.zero_mul,Int.zero_mul,Int.zero_add,Int.add_zero,show crs y a b=crs a x y by omega] at e1 e2;exact⟨Int.eq_of_mul_eq_mul_left oo e1,Int.eq_of_mul_eq_mul_left oo e2⟩
variable {v:List Aa}{ap:Ap}{a b:Int}
def Free(v:List Aa)(a b:Int):Prop:=∀z,inN v.length z->z≠a->z≠b->¬Btw (plV v a) (plV v b) (plV v z)
theorem Ajw(hv:Ci v)(ht:Tri (plV v) (inN v.length) ap)(ha:inN v.length a)(hb:inN v.length b)(hab:a≠b)(hf:Free v a b)(hc:Yk (plV v) ap a b):
  (ap a b≠none\/ap b a≠none)\/∃x y,ap x y=some a/\crs (plV v a) (plV v b) (plV v x)<0/\0<crs (plV v a) (plV v b) (plV v y):=by
 obtain⟨x,y,h,g1,g2⟩:=hc;obtain⟨_,vx,vy,c⟩:=ht.ccw _ _ _ h;obtain⟨n1,n2,n3⟩:=ht.ne h
 by_cases ex:x=b
 .left;left;rw[<-ex,h];simp
 by_cases ey:y=b
 .left;right;rw[<-ey,ht.rot2 h];simp
 have sum:=Qe (plV v a) (plV v x) (plV v y) (plV v b);have e0:crs (plV v y) (plV v a) (plV v b)=crs (plV v a) (plV v b) (plV v y):=by rw[<-Au]
 have em:=ht.emp _ _ _ h b hb (fun e=>hab e.symm) (fun e=>ex e.symm) (fun e=>ey e.symm);have gx:crs (plV v a) (plV v x) (plV v b)≠0:=fun e=>by
  have hx0:crs (plV v a) (plV v b) (plV v x)=0:=by rw[Bl];omega
  have hx1:crs (plV v y) (plV v a) (plV v a)=0:=Sc _ _;have hx2:crs (plV v y) (plV v a) (plV v x)=crs (plV v a) (plV v x) (plV v y):=by rw[<-Au]
  have gb:crs (plV v y) (plV v a) (plV v b)≠0:=fun e2=>by
   obtain⟨b1,b2⟩:=bary (plV v a) (plV v x) (plV v y) (plV v b);rw[e,e2,Int.zero_mul,Int.zero_mul,Int.add_zero,Int.add_zero,show crs (plV v x) (plV v y) (plV v b)=crs (plV v a) (plV v x) (plV v y) by omega] at b1 b2;exact hab (hv.dist b a hb ha ⟨Int.eq_of_mul_eq_mul_left oo b1,Int.eq_of_mul_eq_mul_left oo b2⟩).symm
  rcases Int.lt_trichotomy (crs (plV v y) (plV v a) (plV v x)) (crs (plV v y) (plV v a) (plV v b)) with k|k|k
  .exact hf x vx (fun e=>n1 e.symm) ex (An6 (p:=plV v y) (q:=plV v a) hx0 oo k)
  .exact ex (hv.dist b x hb vx (Ap7 c e oo)).symm
  .omega
 have gy:crs (plV v a) (plV v b) (plV v y)≠0:=fun e=>by
  have hx1:crs (plV v a) (plV v x) (plV v a)=0:=Bx _ _;rcases Int.lt_trichotomy (crs (plV v a) (plV v x) (plV v y)) (crs (plV v a) (plV v x) (plV v b)) with k|k|k
  .exact hf y vy (fun e=>n3 e) ey (An6 (p:=plV v a) (q:=plV v x) e oo k)
  .have:=Ap7 (a:=plV v x) (x:=plV v y) (y:=plV v a) (b:=plV v b) (by rw[Au];exact c) oo oo;exact ey (hv.dist b y hb vy this).symm
  .omega
 right;exact⟨x,y,ht.rot _ _ _ h,by rw[Bl];omega,oo⟩
structure Cr(v:List Aa)(a b u w:Int):Prop where
 up:0<crs (plV v a) (plV v b) (plV v u)
 lo:crs (plV v a) (plV v b) (plV v w)<0
 ra:crs (plV v u) (plV v w) (plV v a)<0
 rb:0<crs (plV v u) (plV v w) (plV v b)
def Fore(v:List Aa)(a b:Int)(s t:Int×Int):Prop :=
 crs (plV v t.1) (plV v t.2) (plV v a)*crs (plV v s.1) (plV v s.2) (plV v b)<crs (plV v s.1) (plV v s.2) (plV v a)*crs (plV v t.1) (plV v t.2) (plV v b)
instance(s t:Int×Int):Decidable (Fore v a b s t):=by unfold Fore;infer_instance
theorem Cr.step(ht:Tri (plV v) (inN v.length) ap)(hc:Cov (plV v) (inN v.length) ap)(ha:inN v.length a)(hb:inN v.length b)(hf:Free v a b){u w k:Int}(h:Cr v a b u w)(hk:ap u w=some k):
  k=b\/(Cr v a b k w/\(∃z,ap k w=some z)/\Fore v a b (u,w) (k,w))\/(Cr v a b u k/\(∃z,ap u k=some z)/\Fore v a b (u,w) (u,k)):=by
 obtain⟨h1,h2,h3,h4⟩:=h;obtain⟨vu,vw,vk,T⟩:=ht.ccw _ _ _ hk;have sa:=Qe (plV v u) (plV v w) (plV v k) (plV v a);have sb:=Qe (plV v u) (plV v w) (plV v k) (plV v b);have ba:=Awe (plV v a) (plV v b) (plV v u) (plV v w) (plV v k) (plV v a);have bb:=Awe (plV v a) (plV v b) (plV v u) (plV v w) (plV v k) (plV v b);rw[Bx,Int.mul_zero] at ba;rw[Sc,Int.mul_zero] at bb;have nu:b≠u:=fun e=>by rw[<-e,Sc] at h1;omega
 have nw:b≠w:=fun e=>by rw[<-e,Sc] at h2;omega
 have cov:∀x y,ap x y≠none->crs (plV v x) (plV v y) (plV v b)<0->∃z,ap y x=some z:=fun x y hxy hlt=>by
  rcases e:ap y x with _|z
  .obtain⟨t,e'⟩:=Option.ne_none_iff_exists'.1 hxy;have:=hc _ _ _ e' e b hb;omega
  .exact⟨z,rfl⟩
 by_cases kb:k=b
 .exact .inl kb
 have em:=ht.emp _ _ _ hk b hb nu nw (fun e=>kb e.symm);right;rcases Int.lt_trichotomy (crs (plV v a) (plV v b) (plV v k)) 0 with g|g|g
 ·right;have c1:crs (plV v u) (plV v k) (plV v a)<0:=by
   refine Classical.byContradiction fun n=>?_
   have e:crs (plV v k) (plV v u) (plV v a) = -crs (plV v u) (plV v k) (plV v a):=Bb _ _ _;have m1:=Int.mul_nonneg (oo:0<=-crs (plV v k) (plV v u) (plV v a)) (oo:0<=-crs (plV v a) (plV v b) (plV v w));have m2:=Int.mul_pos (oo:0 < -crs (plV v u) (plV v w) (plV v a)) (oo:0 < -crs (plV v a) (plV v b) (plV v k));rw[Int.neg_mul_neg] at m1 m2;have:=Cs (x:=crs (plV v a) (plV v b) (plV v u)) (y:=-crs (plV v w) (plV v k) (plV v a)) (by rw[Int.mul_neg,Int.mul_comm];omega) h1;omega
  have c2:0<crs (plV v u) (plV v k) (plV v b):=by
   refine Classical.byContradiction fun n=>?_
   have e:crs (plV v k) (plV v u) (plV v b) = -crs (plV v u) (plV v k) (plV v b):=Bb _ _ _;have m1:=Int.mul_nonneg (oo:0<=crs (plV v k) (plV v u) (plV v b)) (oo:0<=-crs (plV v a) (plV v b) (plV v w));have m2:=Int.mul_pos h4 (oo:0 < -crs (plV v a) (plV v b) (plV v k));rw[Int.mul_neg] at m1 m2;have:=Cs (x:=crs (plV v a) (plV v b) (plV v u)) (y:=crs (plV v w) (plV v k) (plV v b)) (by rw[Int.mul_comm];omega) h1;omega
  refine⟨⟨h1,g,c1,c2⟩,cov k u (by rw[ht.rot2 hk];simp) (by rw[Bb];omega),?_⟩;have e:crs (plV v u) (plV v w) (plV v a)*crs (plV v u) (plV v k) (plV v b)-crs (plV v u) (plV v k) (plV v a)*crs (plV v u) (plV v w) (plV v b)=crs (plV v u) (plV v w) (plV v k)*crs (plV v a) (plV v b) (plV v u):=by unfold crs;grind
  have:=Int.mul_pos T h1;unfold Fore;simp only;omega
 ·-- k on the line
  exfalso;rw[g,Int.mul_zero,Int.add_zero] at bb;have nn:crs (plV v w) (plV v k) (plV v b)<0:=by
   refine Classical.byContradiction fun n=>?_
   have m1:=Int.mul_nonneg (oo:0<=crs (plV v w) (plV v k) (plV v b)) (Int.le_of_lt h1);have:=Oj (x:=-crs (plV v a) (plV v b) (plV v w)) (y:=crs (plV v k) (plV v u) (plV v b)) (by rw[Int.neg_mul,Int.mul_comm];omega) oo;omega
  have nm:crs (plV v k) (plV v u) (plV v b)<0:=by
   have m1:=Int.mul_pos (oo:0 < -crs (plV v w) (plV v k) (plV v b)) h1;rw[Int.neg_mul] at m1;have:=Cs (x:=-crs (plV v a) (plV v b) (plV v w)) (y:=-crs (plV v k) (plV v u) (plV v b)) (by rw[Int.neg_mul_neg,Int.mul_comm];omega) oo;omega
  refine hf k vk (fun e=>?_) kb (An6 (p:=plV v u) (q:=plV v w) g oo oo);rw[e] at T;omega
 ·left;have c1:crs (plV v k) (plV v w) (plV v a)<0:=by
   refine Classical.byContradiction fun n=>?_
   have e:crs (plV v w) (plV v k) (plV v a) = -crs (plV v k) (plV v w) (plV v a):=Bb _ _ _;have m1:=Int.mul_nonneg (oo:0<=-crs (plV v w) (plV v k) (plV v a)) (Int.le_of_lt h1);have m2:=Int.mul_pos (oo:0 < -crs (plV v u) (plV v w) (plV v a)) g;rw[Int.neg_mul] at m1 m2;have:=Cs (x:=-crs (plV v a) (plV v b) (plV v w)) (y:=-crs (plV v k) (plV v u) (plV v a)) (by rw[Int.neg_mul_neg,Int.mul_comm];omega) oo;omega
  have c2:0<crs (plV v k) (plV v w) (plV v b):=by
   refine Classical.byContradiction fun n=>?_
   have e:crs (plV v w) (plV v k) (plV v b) = -crs (plV v k) (plV v w) (plV v b):=Bb _ _ _;have m1:=Int.mul_nonneg (oo:0<=crs (plV v w) (plV v k) (plV v b)) (Int.le_of_lt h1);have m2:=Int.mul_pos h4 g;have:=Cs (x:=-crs (plV v a) (plV v b) (plV v w)) (y:=crs (plV v k) (plV v u) (plV v b)) (by rw[Int.neg_mul,Int.mul_comm];omega) oo;omega
  refine⟨⟨g,h2,c1,c2⟩,cov w k (by rw[ht.rot _ _ _ hk];simp) (by rw[Bb];omega),?_⟩;have e:crs (plV v u) (plV v w) (plV v a)*crs (plV v k) (plV v w) (plV v b)-crs (plV v k) (plV v w) (plV v a)*crs (plV v u) (plV v w) (plV v b) = -crs (plV v u) (plV v w) (plV v k)*crs (plV v a) (plV v b) (plV v w):=by unfold crs;grind
  have:=Int.mul_pos T (oo:0 < -crs (plV v a) (plV v b) (plV v w));rw[Int.mul_neg,<-Int.neg_mul] at this;unfold Fore;simp only;omega
structure Run(v:List Aa)(ap:Ap)(a b:Int)(m:Nat)(u w:Nat->Int):Prop where
 cr:∀i,i<m->Cr v a b (u i) (w i)
 last:∀i,i+1=m->ap (u i) (w i)=some b
 next:∀i,i+1<m->(u (i+1)=u i/\ap (u i) (w i)=some (w (i+1)))\/(w (i+1)=w i/\ap (u i) (w i)=some (u (i+1)))
def Ajx(n:Nat):List (Int×Int):=(inds n).flatMap fun i=>(inds n).map fun j=>(i,j)
theorem An7{n:Nat}{i j:Int}:(i,j)∈Ajx n↔inN n i/\inN n j:=by
 unfold Ajx;simp only[mem_flatMap,mem_map,Ss,Prod.mk.injEq];constructor
 .rintro⟨x,hx,y,hy,rfl,rfl⟩;exact⟨hx,hy⟩
 .rintro⟨hx,hy⟩;exact⟨i,hx,j,hy,rfl,rfl⟩
theorem Ajy(ht:Tri (plV v) (inN v.length) ap)(hc:Cov (plV v) (inN v.length) ap)(ha:inN v.length a)(hb:inN v.length b)(hf:Free v a b):
  ∀{u w k:Int},Cr v a b u w->ap u w=some k->∃m U W,0<m/\U 0=u/\W 0=w/\Run v ap a b m U W:=by
 have key:∀(N:Nat) (u w k:Int),(Ajx v.length).countP (fun s=>decide (0<crs (plV v s.1) (plV v s.2) (plV v b)/\Fore v a b (u,w) s))=N->Cr v a b u w->ap u w=some k->∃m U W,0<m/\U 0=u/\W 0=w/\Run v ap a b m U W:=by
  intro N
  induction N using Nat.strongRecOn with
  |ind N ih=>
   intro u w k hN h hk;have more:∀u' w' k',Cr v a b u' w'->ap u' w'=some k'->Fore v a b (u,w) (u',w')->((u'=u/\ap u w=some w')\/(w'=w/\ap u w=some u'))->∃m U W,0<m/\U 0=u/\W 0=w/\Run v ap a b m U W:=by
    intro u' w' k' h' hk' hfo hn;obtain⟨vu,vw,_⟩:=ht.ccw _ _ _ hk';have lt:(Ajx v.length).countP (fun s=>decide (0<crs (plV v s.1) (plV v s.2) (plV v b)/\Fore v a b (u',w') s))<N:=by
     rw[<-hN];refine Wv (x:=(u',w')) (fun y hy hb2=>?_) (An7.2 ⟨vu,vw⟩) (by simp only[dQ];exact⟨h'.rb,hfo⟩) (by simp[Fore]);rw[dQ] at hb2⊢;exact⟨hb2.1,Xz hb2.1 h'.rb h.rb hb2.2 hfo⟩
    obtain⟨m,U,W,g0,g1,g2,g3⟩:=ih _ lt u' w' k' rfl h' hk';refine⟨m+1,fun i=>if i=0 then u else U (i-1),fun i=>if i=0 then w else W (i-1),oo,rfl,rfl,⟨fun i hi=>?_,fun i hi=>?_,fun i hi=>?_⟩⟩
    .by_cases c:i=0
     .simp only[c,if_true];exact h
     .simp only[iN c];exact g3.cr _ oo
    .have c:i≠0:=oo;simp only[iN c];exact g3.last _ oo
    .by_cases c:i=0
     .subst c;simp only[if_true,Nat.zero_add,iN (oo:¬1=0),Nat.sub_self];rw[g1,g2];exact hn
     .have c2:¬i+1=0:=oo;have:=g3.next (i-1) oo;rw[show i-1+1=i by omega] at this;simp only[iN c,iN c2,Nat.add_sub_cancel];exact this
   rcases h.step ht hc ha hb hf hk with e|⟨h',⟨z,hz⟩,hfo⟩|⟨h',⟨z,hz⟩,hfo⟩
   .refine⟨1,fun _=>u,fun _=>w,oo,rfl,rfl,⟨fun _ _=>h,fun _ _=>by rw[hk,e],fun i hi=>oo⟩⟩
   .exact more k w z h' hz hfo (.inr ⟨rfl,hk⟩)
   .exact more u k z h' hz hfo (.inl ⟨rfl,hk⟩)
 intro u w k h hk;exact key _ u w k rfl h hk
section
variable {m m':Nat}{u w u' w':Nat->Int}
theorem Run.prev(h:Run v ap a b m u w)(ht:Tri (plV v) (inN v.length) ap){i:Nat}(hi:i+1<m):(u (i+1)=u i/\ap (w (i+1)) (u (i+1))=some (w i))\/(w (i+1)=w i/\ap (w (i+1)) (u (i+1))=some (u i)):=by
 rcases h.next i hi with⟨g1,g2⟩|⟨g1,g2⟩
 .left;refine⟨g1,?_⟩;rw[g1];exact ht.rot2 g2
 .right;refine⟨g1,?_⟩;rw[g1];exact ht.rot _ _ _ g2
theorem Run.same(h:Run v ap a b m u w)(h':Run v ap a b m' u' w')(ht:Tri (plV v) (inN v.length) ap):∀d,d<m->d<m'->u (m-1-d)=u' (m'-1-d)/\w (m-1-d)=w' (m'-1-d):=by
 intro d
 induction d with
 |zero=>
  intro hm hm';rw[Nat.sub_zero,Nat.sub_zero];have l:=ht.rot2 (h.last (m-1) oo);have l':=ht.rot2 (h'.last (m'-1) oo);have c:=h.cr (m-1) oo;have c':=h'.cr (m'-1) oo;have e:=ht.cones (l:=plV v a) l l' (by rw[<-Au];rw[<-Au];first|exact c.up|(rw[Au];exact c.up)) (by rw[Bl,Au];have:=c.lo;first|omega|(rw[Au];omega)) (by rw[<-Au];rw[<-Au];first|exact c'.up|(rw[Au];exact c'.up)) (by rw[Bl,Au];have:=c'.lo;first|omega|(rw[Au];omega));rw[<-e,l] at l';exact⟨e,oI l'⟩
 |succ d ih=>
  intro hm hm';obtain⟨e1,e2⟩:=ih oo oo;have p:=h.prev ht (i:=m-1-(d+1)) oo;have p':=h'.prev ht (i:=m'-1-(d+1)) oo;have c:=h.cr (m-1-(d+1)) oo;have c':=h'.cr (m'-1-(d+1)) oo;rw[show m-1-(d+1)+1=m-1-d by omega] at p;rw[show m'-1-(d+1)+1=m'-1-d by omega,<-e1,<-e2] at p';rcases p with⟨g1,g2⟩|⟨g1,g2⟩ <;> rcases p' with⟨k1,k2⟩|⟨k1,k2⟩ <;> rw[g2] at k2 <;> have k3:=oI k2
  .exact⟨by rw[<-g1,k1],k3⟩
  .have:=c.lo;have:=c'.up;rw[k3] at *;omega
  .have:=c.up;have:=c'.lo;rw[k3] at *;omega
  .exact⟨k3,by rw[<-g1,k1]⟩
theorem Run.strip(h:Run v ap a b m u w)(h0:ap (w 0) (u 0)=some a):Eo (plV v) ap a b m u w:=⟨fun i hi=>(h.cr i hi).up,fun i hi=>(h.cr i hi).lo,fun _=>h0,h.last,h.next⟩
theorem Run.has(h:Run v ap a b m u w)(ht:Tri (plV v) (inN v.length) ap)(h0:ap (w 0) (u 0)=some a)(hm:0<m)(h':Run v ap a b m' u' w')(hm':0<m'):∃i,i<m/\u i=u' 0/\w i=w' 0:=by
 by_cases c:m'<=m
 .obtain⟨e1,e2⟩:=h.same h' ht (m'-1) oo oo;rw[show m'-1-(m'-1)=0 by omega] at e1 e2;exact⟨m-1-(m'-1),oo,e1,e2⟩
 .exfalso;obtain⟨e1,e2⟩:=h.same h' ht (m-1) oo oo;rw[show m-1-(m-1)=0 by omega] at e1 e2;have p:=h'.prev ht (i:=m'-1-(m-1)-1) oo;have c':=h'.cr (m'-1-(m-1)-1) oo;rw[show m'-1-(m-1)-1+1=m'-1-(m-1) by omega,<-e1,<-e2,h0] at p;have ha0:crs (plV v a) (plV v b) (plV v a)=0:=Bx _ _;rcases p with⟨_,g⟩|⟨_,g⟩
  .have:=c'.lo;rw[<-oI g] at this;omega
  .have:=c'.up;rw[<-oI g] at this;omega
end
end
section
theorem Agj(p q:Ad):Fm p q=some (decide (befP p q)):=by
 unfold Fm befP;grind [Ac,jn_d]
theorem Aaw{v:List Aa}{i:Int}(hi:inN v.length i):∃x,idx v i=some x/\(⟨x.X,x.Y⟩:Ad)=plV v i:=by
 obtain⟨k,hk,rfl,e⟩:=Kb (v:=v) (i:=i) hi;exact⟨v[k],e,by unfold plV;rw[e]⟩
def BtwF(p q r:Ad):Prop:=Btw p q r/\¬Bz r p/\¬Bz r q
theorem Vn{p q r:Ad}(hp:okP p)(hq:okP q)(hr:okP r)[Decidable (BtwF p q r)]:Ki p q r=some (decide (BtwF p q r)):=by
 unfold Ki;rw[jn_d,Qt hp hq hr,Ac,Agj,Agj];have e0:(Int.sign (crs p q r)=0)↔crs p q r=0:=Int.sign_eq_zero_iff_zero
 by_cases c:crs p q r=0
 .rw[iP (e0.2 c)]
  by_cases c1:Bz r p
  .rw[iP (by simpa[Bz] using c1)];simp only[Option.some.injEq];exact (dF fun h=>h.2.1 c1).symm
  .rw[iN (by simpa[Bz] using c1)]
   by_cases c2:Bz r q
   .rw[iP (by simpa[Bz] using c2)];simp only[Option.some.injEq];exact (dF fun h=>h.2.2 c2).symm
   .rw[iN (by simpa[Bz] using c2),Ac,Ac];simp only[Option.some.injEq]
    by_cases g1:befP p r <;> by_cases g2:befP q r <;> simp[g1,g2,BtwF,Btw,c,c1,c2]
 .rw[iN (fun h=>c (e0.1 h))];simp only[Option.some.injEq];exact (dF fun h=>c h.1.1).symm
def Meet(a b c d:Ad):Prop:=(BtwF a b c\/BtwF a b d\/BtwF c d a\/BtwF c d b)\/(Int.sign (crs a b c)*Int.sign (crs a b d)<0/\Int.sign (crs c d a)*Int.sign (crs c d b)<0)
theorem Ay2{a b c d:Ad}(ha:okP a)(hb:okP b)(hc:okP c)(hd:okP d)[Decidable (Meet a b c d)]:Xe a b c d=some (decide (Meet a b c d)):=by
 unfold Xe
 haveI:∀p q r,Decidable (BtwF p q r):=fun _ _ _=>Classical.propDecidable _
 have w0:∀x y:Ad,∀z t:Ad,w64 (Int.sign (crs x y z)*Int.sign (crs x y t))=Int.sign (crs x y z)*Int.sign (crs x y t):=fun x y z t=>Wb
 rw[jn_d,Vn ha hb hc,Ac,Vn ha hb hd,Ac,Vn hc hd ha,Ac,Vn hc hd hb,Ac]
 by_cases c1:BtwF a b c
 .rw[iP (sV c1)];dsimp only;rw[iP rfl,dT (show Meet a b c d from .inl (.inl c1))]
 rw[iN (sV c1)]
 by_cases c2:BtwF a b d
 .rw[iP (sV c2)];dsimp only;rw[iP rfl,dT (show Meet a b c d from .inl (.inr (.inl c2)))]
 rw[iN (sV c2)]
 by_cases c3:BtwF c d a
 .rw[iP (sV c3)];dsimp only;rw[iP rfl,dT (show Meet a b c d from .inl (.inr (.inr (.inl c3))))]
 rw[iN (sV c3)];dsimp only
 by_cases c4:BtwF c d b
 .rw[iP (sV c4),dT (show Meet a b c d from .inl (.inr (.inr (.inr c4))))]
 rw[iN (sV c4),jn_d,Qt ha hb hc,Ac,Qt ha hb hd,Ac,w0]
 by_cases c5:Int.sign (crs a b c)*Int.sign (crs a b d)<0
 .rw[iP c5,Qt hc hd ha,Ac,Qt hc hd hb,Ac,w0];simp only[Option.some.injEq];exact decide_eq_decide.2 ⟨fun h=>.inr ⟨c5,h⟩,fun h=>h.elim (fun g=>by rcases g with g|g|g|g <;> contradiction) fun g=>g.2⟩
 .rw[iN c5];simp only[Option.some.injEq];exact (dF fun h=>h.elim (fun g=>by rcases g with g|g|g|g <;> contradiction) fun g=>c5 g.1).symm
variable {v:List Aa}{ap:Ap}{a b:Int}
def Hu(v:List Aa)(a b x y:Int):Prop:=(a≠x/\a≠y/\b≠x/\b≠y)/\Meet (plV v a) (plV v b) (plV v x) (plV v y)
noncomputable instance(v:List Aa)(a b x y:Int):Decidable (Hu v a b x y):=Classical.propDecidable _
theorem Zu(hv:Ci v){k l:Ab}(h1:inN v.length k.a0)(h2:inN v.length k.a1)(h3:inN v.length l.a0)(h4:inN v.length l.a1):Ja v k l=some (decide (Hu v k.a0 k.a1 l.a0 l.a1)):=by
 unfold Ja
 haveI:∀p q r s,Decidable (Meet p q r s):=fun _ _ _ _=>Classical.propDecidable _
 obtain⟨x1,i1,e1⟩:=Aaw h1;obtain⟨x2,i2,e2⟩:=Aaw h2;obtain⟨x3,i3,e3⟩:=Aaw h3;obtain⟨x4,i4,e4⟩:=Aaw h4;rw[jn_d]
 by_cases c1:k.a0=l.a0
 .rw[iP c1];dsimp only;rw[iP rfl,dF fun h=>h.1.1 c1]
 rw[iN c1]
 by_cases c2:k.a0=l.a1
 .rw[iP c2];dsimp only;rw[iP rfl,dF fun h=>h.1.2.1 c2]
 rw[iN c2]
 by_cases c3:k.a1=l.a0
 .rw[iP c3];dsimp only;rw[iP rfl,dF fun h=>h.1.2.2.1 c3]
 rw[iN c3];dsimp only
 by_cases c4:k.a1=l.a1
 .rw[iP (sV c4),dF fun h=>h.1.2.2.2 c4]
 rw[iN (sV c4),i1,Ac,i2,Ac,i3,Ac,i4,Ac];unfold Df;rw[Ac,Ac,Ac,Ac,e1,e2,e3,e4,Ay2 (hv.ok _ h1) (hv.ok _ h2) (hv.ok _ h3) (hv.ok _ h4),Ac];simp only[Option.some.injEq];exact decide_eq_decide.2 ⟨fun h=>⟨⟨c1,c2,c3,c4⟩,h⟩,fun h=>h.2⟩
theorem Ap8{x y k:Ad}(h:BtwF x y k):∃d D:Int,0<d/\d<D/\∀p q:Ad,D*crs p q k=(D-d)*crs p q x+d*crs p q y:=by
 obtain⟨⟨h0,hb⟩,n1,n2⟩:=h;have fin:∀d D:Int,0<d->d<D->D*(k.X-x.X)=d*(y.X-x.X)->D*(k.Y-x.Y)=d*(y.Y-x.Y)->∃d D:Int,0<d/\d<D/\∀p q:Ad,D*crs p q k=(D-d)*crs p q x+d*crs p q y:=by
  intro d D g1 g2 g3 g4;refine⟨d,D,g1,g2,fun p q=>?_⟩;have e1:D*k.X=(D-d)*x.X+d*y.X:=by grind
  have e2:D*k.Y=(D-d)*x.Y+d*y.Y:=by grind
  have e3:D*crs p q k=(q.X-p.X)*(D*k.Y-D*p.Y)-(q.Y-p.Y)*(D*k.X-D*p.X):=by unfold crs;grind
  rw[e3,e1,e2];unfold crs;grind
 have h0':(y.X-x.X)*(k.Y-x.Y)=(y.Y-x.Y)*(k.X-x.X):=by unfold crs at h0;omega
 unfold befP at hb;unfold Bz at n1 n2;rcases Int.lt_trichotomy x.X y.X with c|c|c
 ·-- to the right
  have b1:x.X<k.X:=by
   refine Classical.byContradiction fun g=>?_
   by_cases e:k.X=x.X
   .rw[e,Int.sub_self,Int.mul_zero] at h0';rcases Int.mul_eq_zero.1 h0' with g'|g' <;> omega
   .omega
  have b2:k.X<y.X:=by
   refine Classical.byContradiction fun g=>?_
   by_cases e:k.X=y.X
   .rw[e,Int.mul_comm] at h0';have:=Int.eq_of_mul_eq_mul_right oo h0';omega
   .omega
  refine fin (k.X-x.X) (y.X-x.X) oo oo (Int.mul_comm _ _) (by rw[h0',Int.mul_comm])
 ·-- upright
  rw[c,Int.sub_self,Int.zero_mul] at h0';rcases Int.mul_eq_zero.1 h0'.symm with g|g
  .omega
  .by_cases d:x.Y<y.Y
   .refine fin (k.Y-x.Y) (y.Y-x.Y) oo oo ?_ (Int.mul_comm _ _);rw[show k.X-x.X=0 by omega,show y.X-x.X=0 by omega,Int.mul_zero,Int.mul_zero]
   .refine fin (x.Y-k.Y) (x.Y-y.Y) oo oo ?_ ?_
    .rw[show k.X-x.X=0 by omega,show y.X-x.X=0 by omega,Int.mul_zero,Int.mul_zero]
    .grind
 ·have b1:k.X<x.X:=by
   refine Classical.byContradiction fun g=>?_
   by_cases e:k.X=x.X
   .rw[e,Int.sub_self,Int.mul_zero] at h0';rcases Int.mul_eq_zero.1 h0' with g'|g' <;> omega
   .omega
  have b2:y.X<k.X:=by
   refine Classical.byContradiction fun g=>?_
   by_cases e:k.X=y.X
   .rw[e,Int.mul_comm] at h0';have:=Int.eq_of_mul_eq_mul_right oo h0';omega
   .omega
  refine fin (x.X-k.X) (x.X-y.X) oo oo (by grind) (by grind)
theorem Adv(ht:Tri (plV v) (inN v.length) ap){x y z k:Int}(h:ap x y=some z)(hk:inN v.length k)(h1:k≠x)(h2:k≠y):¬BtwF (plV v x) (plV v y) (plV v k):=fun g=>by
 obtain⟨d,D,d1,d2,hd⟩:=Ap8 g;obtain⟨vx,vy,vz,T⟩:=ht.ccw _ _ _ h;have e0:crs (plV v x) (plV v y) (plV v k)=0:=g.1.1
 by_cases e:k=z
 .rw[e] at e0;omega
 have em:=ht.emp _ _ _ h k hk h1 h2 e;have i1:=hd (plV v y) (plV v z);have i2:=hd (plV v z) (plV v x);rw[Bx,Int.mul_zero,Int.add_zero] at i1;rw[Sc,Int.mul_zero,Int.zero_add] at i2;have t1:crs (plV v y) (plV v z) (plV v x)=crs (plV v x) (plV v y) (plV v z):=by rw[Au]
 have t2:crs (plV v z) (plV v x) (plV v y)=crs (plV v x) (plV v y) (plV v z):=by rw[<-Au]
 rw[t1] at i1;rw[t2] at i2;have m1:=Int.mul_pos (oo:0<D-d) T;have m2:=Int.mul_pos d1 T;have p1:=Cs (x:=D) (y:=crs (plV v y) (plV v z) (plV v k)) oo oo;have p2:=Cs (x:=D) (y:=crs (plV v z) (plV v x) (plV v k)) oo oo;omega
theorem Hd{x y:Int}:Int.sign x*Int.sign y<0↔(0<x/\y<0)\/(x<0/\0<y):=by
 rcases Int.lt_trichotomy x 0 with h|h|h <;> rcases Int.lt_trichotomy y 0 with k|k|k
 all_goals first
  |(subst h;simp;try omega)
  |(subst k;simp;try omega)
  |(rw[Int.sign_eq_neg_one_of_neg h,Int.sign_eq_neg_one_of_neg k];omega)
  |(rw[Int.sign_eq_neg_one_of_neg h,Int.sign_eq_one_of_pos k];omega)
  |(rw[Int.sign_eq_one_of_pos h,Int.sign_eq_neg_one_of_neg k];omega)
  |(rw[Int.sign_eq_one_of_pos h,Int.sign_eq_one_of_pos k];omega)
theorem Cr.cross{x y:Int}(h:Cr v a b x y):Hu v a b x y/\Hu v a b y x:=by
 obtain⟨h1,h2,h3,h4⟩:=h;have ends:a≠x/\a≠y/\b≠x/\b≠y:=by
  refine⟨fun e=>?_,fun e=>?_,fun e=>?_,fun e=>?_⟩
  .rw[<-e,Bx] at h1;omega
  .rw[<-e,Bx] at h2;omega
  .rw[<-e,Sc] at h1;omega
  .rw[<-e,Sc] at h2;omega
 refine⟨⟨ends,.inr ⟨Hd.2 oo,Hd.2 oo⟩⟩,⟨⟨ends.2.1,ends.1,ends.2.2.2,ends.2.2.1⟩,.inr ⟨Hd.2 oo,Hd.2 ?_⟩⟩⟩;have e1:crs (plV v y) (plV v x) (plV v a) = -crs (plV v x) (plV v y) (plV v a):=Bb _ _ _;have e2:crs (plV v y) (plV v x) (plV v b) = -crs (plV v x) (plV v y) (plV v b):=Bb _ _ _;omega
theorem Agk(ht:Tri (plV v) (inN v.length) ap)(ha:inN v.length a)(hb:inN v.length b)(hf:Free v a b){x y:Int}(hs:ap x y≠none\/ap y x≠none):Hu v a b x y↔Cr v a b x y\/Cr v a b y x:=by
 constructor
 ·rintro⟨⟨n1,n2,n3,n4⟩,h⟩;have vxy:inN v.length x/\inN v.length y:=by
   rcases hs with hs|hs <;> obtain⟨z,hz⟩:=Option.ne_none_iff_exists'.1 hs <;> obtain⟨p,q,_⟩:=ht.ccw _ _ _ hz
   .exact⟨p,q⟩
   .exact⟨q,p⟩
  have nb:∀k,inN v.length k->k≠x->k≠y->¬BtwF (plV v x) (plV v y) (plV v k):=fun k hk k1 k2 g=>by
   rcases hs with hs|hs <;> obtain⟨z,hz⟩:=Option.ne_none_iff_exists'.1 hs
   .exact Adv ht hz hk k1 k2 g
   .refine Adv ht hz hk k2 k1 ⟨⟨?_,fun e=>g.1.2 e.symm⟩,g.2.2,g.2.1⟩;rw[Bb];have:=g.1.1;omega
  rcases h with (g|g|g|g)|⟨g1,g2⟩
  .exact absurd g.1 (hf x vxy.1 (fun e=>n1 e.symm) (fun e=>n3 e.symm))
  .exact absurd g.1 (hf y vxy.2 (fun e=>n2 e.symm) (fun e=>n4 e.symm))
  .exact absurd g (nb a ha n1 n2)
  .exact absurd g (nb b hb n3 n4)
  .have e:crs (plV v x) (plV v y) (plV v b)-crs (plV v x) (plV v y) (plV v a)=crs (plV v a) (plV v b) (plV v x)-crs (plV v a) (plV v b) (plV v y):=by unfold crs;grind
   have e1:crs (plV v y) (plV v x) (plV v a) = -crs (plV v x) (plV v y) (plV v a):=Bb _ _ _;have e2:crs (plV v y) (plV v x) (plV v b) = -crs (plV v x) (plV v y) (plV v b):=Bb _ _ _;rw[Hd] at g1 g2;rcases g1 with⟨g1,g1'⟩|⟨g1,g1'⟩
   .exact .inl ⟨g1,g1',oo,oo⟩
   .exact .inr ⟨g1',g1,oo,oo⟩
 .rintro (h|h)
  .exact h.cross.1
  .exact h.cross.2
theorem fwd(ht:Tri (plV v) (inN v.length) ap){u w k:Int}(h1:0<crs (plV v a) (plV v b) (plV v u))(h2:crs (plV v a) (plV v b) (plV v w)<0)(h3:crs (plV v u) (plV v w) (plV v a)<0)(hk:ap u w=some k):
  (0<crs (plV v a) (plV v b) (plV v k)->crs (plV v k) (plV v w) (plV v a)<0)/\(crs (plV v a) (plV v b) (plV v k)<0->crs (plV v u) (plV v k) (plV v a)<0):=by
 obtain⟨vu,vw,vk,T⟩:=ht.ccw _ _ _ hk;have sa:=Qe (plV v u) (plV v w) (plV v k) (plV v a);have ba:=Awe (plV v a) (plV v b) (plV v u) (plV v w) (plV v k) (plV v a);rw[Bx,Int.mul_zero] at ba;constructor
 .intro g;refine Classical.byContradiction fun n=>?_
  have e:crs (plV v w) (plV v k) (plV v a) = -crs (plV v k) (plV v w) (plV v a):=Bb _ _ _;have m1:=Int.mul_nonneg (oo:0<=-crs (plV v w) (plV v k) (plV v a)) (Int.le_of_lt h1);have m2:=Int.mul_pos (oo:0 < -crs (plV v u) (plV v w) (plV v a)) g;rw[Int.neg_mul] at m1 m2;have:=Cs (x:=-crs (plV v a) (plV v b) (plV v w)) (y:=-crs (plV v k) (plV v u) (plV v a)) (by rw[Int.neg_mul_neg,Int.mul_comm];omega) oo;omega
 .intro g;refine Classical.byContradiction fun n=>?_
  have e:crs (plV v k) (plV v u) (plV v a) = -crs (plV v u) (plV v k) (plV v a):=Bb _ _ _;have m1:=Int.mul_nonneg (oo:0<=-crs (plV v k) (plV v u) (plV v a)) (oo:0<=-crs (plV v a) (plV v b) (plV v w));have m2:=Int.mul_pos (oo:0 < -crs (plV v u) (plV v w) (plV v a)) (oo:0 < -crs (plV v a) (plV v b) (plV v k));rw[Int.neg_mul_neg] at m1 m2;have:=Cs (x:=crs (plV v a) (plV v b) (plV v u)) (y:=-crs (plV v w) (plV v k) (plV v a)) (by rw[Int.mul_neg,Int.mul_comm];omega) h1;omega
theorem Eo.cr{m:Nat}{u w:Nat->Int}(h:Eo (plV v) ap a b m u w)(ht:Tri (plV v) (inN v.length) ap):∀i,i<m->Cr v a b (u i) (w i):=by
 have ra:∀i,i<m->crs (plV v (u i)) (plV v (w i)) (plV v a)<0:=by
  intro i
  induction i with
  |zero=>
   intro hi;have:=(ht.ccw _ _ _ (h.first hi)).2.2.2;rw[Bb] at this;omega
  |succ i ih=>
   intro hi;have g:=ih oo;rcases h.next i hi with⟨k1,k2⟩|⟨k1,k2⟩
   .rw[k1];exact (fwd ht (h.up i oo) (h.lo i oo) g k2).2 (h.lo _ hi)
   .rw[k1];exact (fwd ht (h.up i oo) (h.lo i oo) g k2).1 (h.up _ hi)
 have rb:∀d,d<m->0<crs (plV v (u (m-1-d))) (plV v (w (m-1-d))) (plV v b):=by
  intro d
  induction d with
  |zero=>
   intro hi;exact (ht.ccw _ _ _ (h.last (m-1-0) oo)).2.2.2
  |succ d ih=>
   intro hi;have g:=ih oo;have hd:=h.prev ht (i:=m-1-(d+1)) oo;rw[show m-1-(d+1)+1=m-1-d by omega] at hd;have i1:=h.up (m-1-d) oo;have i2:=h.lo (m-1-d) oo;have i3:=h.up (m-1-(d+1)) oo;have i4:=h.lo (m-1-(d+1)) oo;have s1:∀z,crs (plV v b) (plV v a) z = -crs (plV v a) (plV v b) z:=fun z=>Bb _ _ _
   rcases hd with⟨k1,k2⟩|⟨k1,k2⟩
   .have:=(fwd (a:=b) (b:=a) ht (by rw[s1];omega) (by rw[s1];omega) (by rw[Bb];omega) k2).1 (by rw[s1];omega);rw[k1,Bb] at this;omega
   .have:=(fwd (a:=b) (b:=a) ht (by rw[s1];omega) (by rw[s1];omega) (by rw[Bb];omega) k2).2 (by rw[s1];omega);rw[k1,Bb] at this;omega
 intro i hi;have:=rb (m-1-i) oo;rw[show m-1-(m-1-i)=i by omega] at this;exact⟨h.up i hi,h.lo i hi,ra i hi,this⟩
end
theorem An8{σ τ γ:Type}{B:σ->Option (Sum σ τ)}(I:σ->γ->Prop)(R:σ->γ->σ->γ->Prop)(Post:τ->Prop)(step:∀ s g,I s g->(∃ t,B s=some (.inr t)/\Post t)\/∃ s' g',B s=some (.inl s')/\I s' g'/\R s g s' g')(noinf:∀ f:Nat->σ × γ,(∀ n,I (f n).1 (f n).2)->(∀ n,R (f n).1 (f n).2 (f (n+1)).1 (f (n+1)).2)->False):
  ∀s g,I s g->∃t,lfix B s=some t/\Post t:=by
 intro s g h;refine Classical.byContradiction fun hno=>?_
 have next:∀x:{x:σ×γ // I x.1 x.2/\¬ ∃t,lfix B x.1=some t/\Post t},∃y:{x:σ×γ // I x.1 x.2/\¬ ∃t,lfix B x.1=some t/\Post t},R x.1.1 x.1.2 y.1.1 y.1.2:=by
  rintro⟨⟨s,g⟩,hi,hn⟩;simp only at hi hn;rcases step s g hi with⟨t,h1,h2⟩|⟨s',g',h1,h2,h3⟩
  .exact absurd ⟨t,by rw[Ax,h1],h2⟩ hn
  .refine⟨⟨(s',g'),h2,fun ⟨t,h4,h5⟩=>hn ⟨t,?_,h5⟩⟩,h3⟩;rw[Ax,h1];exact h4
 let F:Nat->{x:σ×γ // I x.1 x.2/\¬ ∃t,lfix B x.1=some t/\Post t}:=fun n=>Nat.rec ⟨(s,g),h,hno⟩ (fun _ x=>Classical.choose (next x)) n
 exact noinf (fun n=>(F n).1) (fun n=>(F n).2.1) (fun n=>Classical.choose_spec (next (F n)))
theorem Agl{m:Nat->Nat}(h:∀n,m (n+1)<=m n):∃T,∀n,T<=n->m n=m T:=by
 have mono:∀a d,m (a+d)<=m a:=by
  intro a d
  induction d with
  |zero=>exact nL _
  |succ d ih=>exact Nat.le_trans (h (a+d)) ih
 have key:∀N T,m T=N->∃T,∀n,T<=n->m n=m T:=by
  intro N
  induction N using Nat.strongRecOn with
  |ind N ih=>
   intro T hT
   by_cases c:∃n,T<=n/\m n≠m T
   .obtain⟨n,h1,h2⟩:=c;have:=mono T (n-T);rw[show T+(n-T)=n by omega] at this;exact ih (m n) oo n rfl
   .exact⟨T,fun n hn=>Classical.byContradiction fun g=>c ⟨n,hn,g⟩⟩
 exact key _ 0 rfl
theorem Asf{π:Nat->LM}(h:∀t,∃i l,π t=i::l/\π (t+1)=l++[i]):∀k t,k<=(π t).length->π (t+k)=(π t).drop k++(π t).take k:=by
 intro k
 induction k with
 |zero=>intro t _;simp
 |succ k ih=>
  intro t hk;have e:=ih t oo;obtain⟨i,l,h1,h2⟩:=h (t+k);rw[show t+(k+1)=t+k+1 by omega,h2];rw[h1] at e;have hd:(π t).drop k=(π t)[k]::(π t).drop (k+1):=(drop_eq_getElem_cons oo);rw[hd,cons_append] at e;injection e with e1 e2
  rw[e1,e2,append_assoc];congr 1;rw[take_succ_eq_append_getElem oo]
theorem Asg{π:Nat->List Nat}{m:Nat}(h:∀ t,∃ i l,π t=i::l/\π (t+1)=l++[i])(hn:∀ t,(π t).Nodup)(hm:∀ t i,i∈π t↔i<m):
  (∀t i,i<m->∃t',t<=t'/\t'<t+m/\(π t').headD 0=i)/\(∀t t',t<t'->t'<t+m->(π t).headD 0≠(π t').headD 0)/\∀t,(π t).headD 0<m:=by
 have len:∀t,(π t).length=m:=fun t=>by
  have p:(π t).Perm (List.range m):=(perm_ext_iff_of_nodup (hn t) nodup_range).2 fun i=>by rw[hm t i,mem_range]
  rw[p.length_eq,length_range]
 have head:∀t k (hk:k<(π t).length),(π (t+k)).headD 0=(π t)[k]:=fun t k hk=>by
  rw[Asf h k t oo,drop_eq_getElem_cons hk,cons_append];rfl
 refine⟨fun t i hi=>?_,fun t t' h1 h2 e=>?_,fun t=>?_⟩
 .obtain⟨k,hk,e⟩:=mem_iff_getElem.1 ((hm t i).2 hi);have:=len t;exact⟨t+k,oo,oo,by rw[head t k hk];exact e⟩
 .have l:=len t;have e1:=head t 0 oo;have e2:=head t (t'-t) oo;rw[show t+(t'-t)=t' by omega] at e2;rw[Nat.add_zero] at e1;rw[e1,e2] at e;exact (pairwise_iff_getElem.1 (hn t)) 0 (t'-t) oo oo oo e
 .obtain⟨i,l,h1,_⟩:=h t;have:=(hm t i).1 (by rw[h1];exact mS);rw[h1];exact this
theorem Ash(i j k l:Ad):crs i l k+crs j k l=crs i j k+crs j i l:=by unfold crs;grind
theorem Aax{i j k l:Ad}(h1:0<crs i j k)(h2:0<crs j i l):(Int.sign (crs k l i)*Int.sign (crs k l j) = -1)↔(0<crs i l k/\0<crs j k l):=by
 have e1:crs k l i = -crs i l k:=by unfold crs;grind
 have e2:crs k l j=crs j k l:=by unfold crs;grind
 have ha:=Ash i j k l;rw[e1,e2];generalize crs i l k=x at *;generalize crs j k l=y at *;rcases Int.lt_trichotomy x 0 with h|h|h <;> rcases Int.lt_trichotomy y 0 with k'|k'|k'
 all_goals first
  |omega
  |(subst h;simp;try omega)
  |(subst k';simp;try omega)
  |(rw[Int.sign_eq_one_of_pos oo,Int.sign_eq_neg_one_of_neg k'];omega)
  |(rw[Int.sign_eq_one_of_pos (oo:0 < -x),Int.sign_eq_one_of_pos k'];omega)
  |(rw[Int.sign_eq_neg_one_of_neg (oo:-x<0),Int.sign_eq_neg_one_of_neg k'];omega)
  |(rw[Int.sign_eq_neg_one_of_neg (oo:-x<0),Int.sign_eq_one_of_pos k'];omega)
section
variable {v:List Aa}{F:List (Ab×Bool)}{m:Mp}{i j k l:Int}
theorem Ay3(hv:Ci v)(hn:v.length<=1024)(hm:MapN v.length m)(ht:Tri (plV v) (inN v.length) (apM m))(hk:apM m i j=some k)(hl:apM m j i=some l):
  (¬(0<crs (plV v i) (plV v l) (plV v k)/\0<crs (plV v j) (plV v k) (plV v l))/\Cz ⟨v,m,F⟩ (pr2 i j).a0 (pr2 i j).a1=some (⟨v,m,F⟩,false)) \/
  ∃m',Quad (plV v) (inN v.length) (apM m) i j k l/\Cz ⟨v,m,F⟩ (pr2 i j).a0 (pr2 i j).a1=some (⟨v,m',F⟩,true)/\MapN v.length m'/\apM m'=Ef (apM m) i j k l:=by
 obtain⟨vi,vj,vk,c1⟩:=ht.ccw _ _ _ hk;obtain⟨_,_,vl,c2⟩:=ht.ccw _ _ _ hl;have hij:=(ht.ne hk).1
 by_cases c:i<=j
 .have e0:(pr2 i j).a0=i:=by unfold pr2;simp only;omega
  have e1:(pr2 i j).a1=j:=by unfold pr2;simp only;omega
  rw[e0,e1,Akl (b:=⟨v,m,F⟩) hv hn hm hk hl]
  by_cases s:0<crs (plV v i) (plV v l) (plV v k)/\0<crs (plV v j) (plV v k) (plV v l)
  .right;have q:Quad (plV v) (inN v.length) (apM m) i j k l:=⟨ht,hk,hl,s.1,s.2⟩;obtain⟨n1,n2,n3,n4,n5,n6⟩:=q.ne;exact⟨flipM m i j k l,q,by rw[iP ((Aax c1 c2).2 s)],hm.flipM vi vj vk vl,Xr hm.ok n1 n2 n3 n4 n5 n6⟩
  .left;exact⟨s,by rw[iN fun g=>s ((Aax c1 c2).1 g)]⟩
 .have e0:(pr2 i j).a0=j:=by unfold pr2;simp only;omega
  have e1:(pr2 i j).a1=i:=by unfold pr2;simp only;omega
  rw[e0,e1,Akl (b:=⟨v,m,F⟩) hv hn hm hl hk]
  by_cases s:0<crs (plV v i) (plV v l) (plV v k)/\0<crs (plV v j) (plV v k) (plV v l)
  ·right;have q:Quad (plV v) (inN v.length) (apM m) i j k l:=⟨ht,hk,hl,s.1,s.2⟩;obtain⟨n1,n2,n3,n4,n5,n6⟩:=q.ne;exact⟨flipM m j i l k,q,by rw[if_pos ((Aax c2 c1).2 ⟨s.2,s.1⟩)],hm.flipM vj vi vl vk,by
    rw[Xr hm.ok (fun e=>n1 e.symm) (fun e=>n2 e.symm) n6 n5 n4 n3];exact Art _ _ _ _ _ n1 n2 n3 n4 n5 n6⟩
  .left;exact⟨s,by rw[iN fun g=>s (by have:=(Aax c2 c1).1 g;exact⟨this.2,this.1⟩)]⟩
theorem Yl(h1:inN v.length i)(h2:inN v.length j):inN v.length (pr2 i j).a0/\inN v.length (pr2 i j).a1:=by
 unfold pr2 inN at *;simp only;omega
theorem Ay4(hk:apM m i j=some k)(hl:apM m j i=some l):∃x y,mget m (pr2 i j)=some x/\mget m ⟨(pr2 i j).a1,(pr2 i j).a0⟩=some y/\pr2 x y=pr2 k l:=by
 by_cases c:i<=j
 .have e:pr2 i j=⟨i,j⟩:=by unfold pr2;rw[Jn];omega
  rw[e];exact⟨k,l,hk,hl,rfl⟩
 .have e:pr2 i j=⟨j,i⟩:=by unfold pr2;rw[Jn];omega
  rw[e];exact⟨l,k,hl,hk,Oa _ _⟩
end
section
variable {v:List Aa}{ap:Ap}{a b:Int}
theorem Cr.ends{x y:Int}(h:Cr v a b x y):x≠a/\x≠b/\y≠a/\y≠b:=by
 obtain⟨h1,h2,_,_⟩:=h;refine⟨fun e=>?_,fun e=>?_,fun e=>?_,fun e=>?_⟩
 .rw[e,Bx] at h1;omega
 .rw[e,Bq] at h1;omega
 .rw[e,Bx] at h2;omega
 .rw[e,Bq] at h2;omega
theorem Cr.both(ht:Tri (plV v) (inN v.length) ap)(hc:Cov (plV v) (inN v.length) ap)(ha:inN v.length a)(hb:inN v.length b){x y:Int}(h:Cr v a b x y)(hs:ap x y≠none\/ap y x≠none):(∃k,ap x y=some k)/\∃l,ap y x=some l:=by
 have r1:=h.ra;have r2:=h.rb;have e1:crs (plV v y) (plV v x) (plV v b) = -crs (plV v x) (plV v y) (plV v b):=Bb _ _ _;rcases hs with hs|hs <;> obtain⟨k,hk⟩:=Option.ne_none_iff_exists'.1 hs
 .refine⟨⟨k,hk⟩,?_⟩;rcases e:ap y x with _|l
  .have:=hc _ _ _ hk e a ha;omega
  .exact⟨l,rfl⟩
 .refine⟨?_,⟨k,hk⟩⟩;rcases e:ap x y with _|l
  .have:=hc _ _ _ hk e b hb;omega
  .exact⟨l,rfl⟩
theorem Adw(ht:Tri (plV v) (inN v.length) ap)(hc:Cov (plV v) (inN v.length) ap)(ha:inN v.length a)(hb:inN v.length b)(hf:Free v a b)(hs:ap a b≠none\/ap b a≠none){x y:Int}(h:Cr v a b x y):¬(ap x y≠none\/ap y x≠none):=fun g=>by
 obtain⟨⟨k,hk⟩,_⟩:=h.both ht hc ha hb g;obtain⟨M,U,W,hM,_,_,hr⟩:=Ajy ht hc ha hb hf h hk;have hl:=hr.last (M-1) oo;have cr:=hr.cr (M-1) oo;have h1:=ht.rot2 hl;refine ht.cone b (U (M-1)) (W (M-1)) a h1 hs.symm ⟨?_,?_⟩
 .have:=cr.up;rw[<-Au] at this;rw[<-Au] at this;have e:crs (plV v b) (plV v (U (M-1))) (plV v a)=crs (plV v a) (plV v b) (plV v (U (M-1))):=by unfold crs;grind
  rw[e];exact cr.up
 .have e:crs (plV v b) (plV v a) (plV v (W (M-1))) = -crs (plV v a) (plV v b) (plV v (W (M-1))):=by unfold crs;grind
  have:=cr.lo;rw[e];omega
theorem Awf(hv:Ci v)(ht:Tri (plV v) (inN v.length) ap)(hc:Cov (plV v) (inN v.length) ap)(ha:inN v.length a)(hb:inN v.length b)(hab:a≠b)(hf:Free v a b)(hcone:Yk (plV v) ap a b):
  ∃M u w,Eo (plV v) ap a b M u w/\(M=0->ap a b≠none\/ap b a≠none)/\∀x y,Cr v a b x y->(ap x y≠none\/ap y x≠none)->∃i,i<M/\x=u i/\y=w i:=by
 rcases Ajw hv ht ha hb hab hf hcone with hs|⟨x,y,h0,h1,h2⟩
 .exact⟨0,fun _=>0,fun _=>0,⟨fun i hi=>oo,fun i hi=>oo,fun hi=>oo,fun i hi=>oo,fun i hi=>oo⟩,fun _=>hs,fun x y h g=>absurd g (Adw ht hc ha hb hf hs h)⟩
 .obtain⟨vx,vy,_,T⟩:=ht.ccw _ _ _ h0;have nbx:b≠x:=fun e=>by rw[<-e,Bq] at h1;omega
  have nby:b≠y:=fun e=>by rw[<-e,Bq] at h2;omega
  have em:=ht.emp _ _ _ h0 b hb nbx nby (fun e=>hab e.symm);have k1:crs (plV v y) (plV v a) (plV v b)=crs (plV v a) (plV v b) (plV v y):=by unfold crs;grind
  have k2:crs (plV v a) (plV v x) (plV v b) = -crs (plV v a) (plV v b) (plV v x):=by unfold crs;grind
  have k3:crs (plV v y) (plV v x) (plV v b) = -crs (plV v x) (plV v y) (plV v b):=Bb _ _ _;have k4:crs (plV v y) (plV v x) (plV v a) = -crs (plV v x) (plV v y) (plV v a):=Bb _ _ _;have cr:Cr v a b y x:=⟨h2,h1,oo,oo⟩;obtain⟨⟨k,hk⟩,_⟩:=cr.both ht hc ha hb (.inr (by rw[h0];simp));obtain⟨M,U,W,hM,e1,e2,hr⟩:=Ajy ht hc ha hb hf cr hk;have h00:ap (W 0) (U 0)=some a:=by rw[e1,e2];exact h0
  refine⟨M,U,W,hr.strip h00,fun h=>oo,fun x' y' hcr hs=>?_⟩;obtain⟨⟨k',hk'⟩,_⟩:=hcr.both ht hc ha hb hs;obtain⟨M',U',W',hM',e1',e2',hr'⟩:=Ajy ht hc ha hb hf hcr hk';obtain⟨i,hi,g1,g2⟩:=hr.has ht h00 hM hr' hM';exact⟨i,hi,by rw[g1,e1'],by rw[g2,e2']⟩
theorem Eo.pr_inj{M:Nat}{u w:Nat->Int}(h:Eo (plV v) ap a b M u w){i j:Nat}(hi:i<M)(hj:j<M)(e:pr2 (u i) (w i)=pr2 (u j) (w j)):i=j:=by
 rcases Ahb e with⟨e1,e2⟩|⟨e1,e2⟩
 .rcases Nat.lt_trichotomy i j with g|g|g
  .exact absurd ⟨e1,e2⟩ (h.inj i j g hj)
  .exact g
  .exact absurd ⟨e1.symm,e2.symm⟩ (h.inj j i g hi)
 .have k1:=h.up i hi;have k2:=h.lo j hj;rw[e1] at k1;omega
end
def Uk(ap:Ap)(x y:Int):Prop:=ap x y≠none\/ap y x≠none
structure Ur(v:List Aa)(a b:Int)(m0 m:Mp)(q:List Ab)(M:Nat)(u w:Nat->Int)(π:LM):Prop where
 map:MapN v.length m
 tri:Tri (plV v) (inN v.length) (apM m)
 cov:Cov (plV v) (inN v.length) (apM m)
 ne:m≠[]
 strip:Eo (plV v) (apM m) a b M u w
 nd:π.Nodup
 all:∀i,i∈π↔i<M
 que:q=π.map fun i=>pr2 (u i) (w i)
 fin:M=0->Uk (apM m) a b
 keep:∀x y,¬Cr v a b x y->¬Cr v a b y x->Uk (apM m0) x y->Uk (apM m) x y
 len:π.length<=1048576
section
variable {v:List Aa}{a b:Int}
theorem Agm{ap:Ap}(ht:Tri (plV v) (inN v.length) ap)(ha:inN v.length a)(hb:inN v.length b)(hf:Free v a b){k l:Int}(hs:ap k l≠none\/ap l k≠none):
  Hu v a b (pr2 k l).a0 (pr2 k l).a1↔Cr v a b k l\/Cr v a b l k:=by
 by_cases c:k<=l
 .have e0:(pr2 k l).a0=k:=by unfold pr2;simp only;omega
  have e1:(pr2 k l).a1=l:=by unfold pr2;simp only;omega
  rw[e0,e1];exact Agk ht ha hb hf hs
 .have e0:(pr2 k l).a0=l:=by unfold pr2;simp only;omega
  have e1:(pr2 k l).a1=k:=by unfold pr2;simp only;omega
  rw[e0,e1,Agk ht ha hb hf hs.symm];exact Or.comm
theorem Asi{ap:Ap}{i j k l x y:Int}(h:Uk ap x y)(h1:¬(x=i/\y=j))(h2:¬(x=j/\y=i)):Uk (Ef ap i j k l) x y:=by
 unfold Uk at *;rcases h with h|h
 .left;intro g;rcases Wz g with g|g|g
  .exact h g
  .exact h1 g
  .exact h2 g
 .right;intro g;rcases Wz g with g|g|g
  .exact h g
  .exact h2 ⟨g.2,g.1⟩
  .exact h1 ⟨g.2,g.1⟩
def Agn(i j:Nat):Nat:=if j<i then j else j-1
theorem Aih(i:Nat)(f:Nat->Int){j:Nat}(hj:j≠i):cutF i f (Agn i j)=f j:=by
 unfold cutF Agn
 by_cases c:j<i
 .rw[iP c,iP c]
 .rw[iN c,iN oo,show j-1+1=j by omega]
theorem Ur.round(hv:Ci v)(hn:v.length<=1024)(ha:inN v.length a)(hb:inN v.length b)(hf:Free v a b){F:List (Ab × Bool)}{m0 m:Mp}{q:List Ab}{M i:Nat}{u w:Nat->Int}{π:List Nat}(h:Ur v a b m0 m q M u w (i::π)):
  ∃m' q' M' u' w' π',Ce ⟨a,b⟩ (v,m,F,q)=some (.inl (v,m',F,q'))/\Ur v a b m0 m' q' M' u' w' π' /\
   (M'<M\/(M'=M/\π'=π++[i]/\((Yj (plV v) (apM m) u w i/\apM m'=apM m/\u'=u/\w'=w)\/Acs (plV v) (inN v.length) M (apM m) u w i (apM m') u' w'))):=by
 have hi:i<M:=(h.all i).1 mS;obtain⟨k,hk⟩:=h.strip.someR hi;obtain⟨l,hl⟩:=h.strip.someL h.tri hi;obtain⟨vu,vw,vk,_⟩:=h.tri.ccw _ _ _ hk;obtain⟨_,_,vl,_⟩:=h.tri.ccw _ _ _ hl;obtain⟨x,y,hx,hy,hxy⟩:=Ay4 hk hl;obtain⟨nd1,nd2⟩:=nodup_cons.1 h.nd;have hlen:=h.len;rw[length_cons] at hlen;have hq:q=pr2 (u i) (w i)::π.map fun i=>pr2 (u i) (w i):=by rw[h.que,map_cons]
 have hr:=Yl vu vw;have hne:∀j∈π,j≠i:=fun j hj e=>nd1 (e▸hj)
 have inp:∀j,j<M->j≠i->j∈π:=fun j h1 h2=>(mem_cons.1 ((h.all j).2 h1)).resolve_left h2
 have hlt:∀j∈π,j<M:=fun j hj=>(h.all j).1 (mO _ hj)
 have pre:∀ (fl:Ag × Bool),Cz ⟨v,m,F⟩ (pr2 (u i) (w i)).a0 (pr2 (u i) (w i)).a1=some fl->Ce ⟨a,b⟩ (v,m,F,q) =
   if fl.2=true then (bnd (Ja fl.1.v ⟨a,b⟩ (pr2 k l)) fun r189=>if r189=true then (gd (((π.map fun i=>pr2 (u i) (w i)).length+1)*16<=140737488355328) <| some (.inl (fl.1.v,fl.1.apex,fl.1.fixed,(π.map fun i=>pr2 (u i) (w i))++[pr2 k l]))) else (some (.inl (fl.1.v,fl.1.apex,fl.1.fixed,π.map fun i=>pr2 (u i) (w i)))))
   else (gd (((π.map fun i=>pr2 (u i) (w i)).length+1)*16<=140737488355328) <| some (.inl (fl.1.v,fl.1.apex,fl.1.fixed,(π.map fun i=>pr2 (u i) (w i))++[pr2 (u i) (w i)]))):=fun fl hfl=>by
  unfold Ce;dsimp only;rw[hq,iP s_,show idx (pr2 (u i) (w i)::π.map fun i=>pr2 (u i) (w i)) 0=some (pr2 (u i) (w i)) from rfl,Ac,gd_t ⟨oo,by simp;omega⟩,gd_t (Ok hn hr.1 hr.2),hx,Ac,gd_t (Ok hn hr.2 hr.1),hy,Ac,hfl,Ac];rw[show Gp ((some x).getD 0) ((some y).getD 0)=some (pr2 k l) from by rw[<-hxy];rfl,Ac];rfl
 have okl:((π.map fun i=>pr2 (u i) (w i)).length+1)*16<=140737488355328:=by rw[length_map];omega
 rcases Ay3 (F:=F) hv hn h.map h.tri hk hl with⟨s,e⟩|⟨m',Q,e,hm',ha'⟩
 ·-- it stands
  refine⟨m,_,M,u,w,π++[i],by rw[pre _ e,iN s_,gd_t okl],⟨h.map,h.tri,h.cov,h.ne,h.strip,?_,fun j=>?_,by rw[map_append];rfl,h.fin,h.keep,by simp;omega⟩,.inr ⟨rfl,rfl,.inl ⟨fun k' l' hk' hl'=>?_,rfl,rfl,rfl⟩⟩⟩
  .exact (perm_append_comm (l₁:=[i]) (l₂:=π)).nodup_iff.1 h.nd
  .rw[<-h.all j];simp only[mem_append,mem_cons,not_mem_nil,or_false];exact Or.comm
  .rw[hk] at hk';rw[hl] at hl';obtain rfl:=oI hk';obtain rfl:=oI hl';exact s
 .have tri':Tri (plV v) (inN v.length) (apM m'):=by rw[ha'];exact Q.flip
  have cov':Cov (plV v) (inN v.length) (apM m'):=by rw[ha'];exact Q.cov h.cov
  have vals:=Aa0 Q;have ne':m'≠[]:=fun e=>by
   have:=vals.1;rw[<-ha',e] at this;cases this
  have hs':apM m' k l≠none\/apM m' l k≠none:=.inr (by rw[ha',vals.2.1];simp);have cr0:=h.strip.cr h.tri i hi;have keep':∀x y,¬Cr v a b x y->¬Cr v a b y x->Uk (apM m0) x y->Uk (apM m') x y:=fun x y n1 n2 hs=>by
   rw[ha'];exact Asi (h.keep x y n1 n2 hs) (fun e=>n1 (by rw[e.1,e.2];exact cr0)) (fun e=>n2 (by rw[e.1,e.2];exact cr0))
  have hcr:=Zu hv (k:=⟨a,b⟩) (l:=pr2 k l) ha hb (Yl vk vl).1 (Yl vk vl).2;have hcp:=Agm tri' ha hb hf hs';have cut:((i=0\/i+1=M)\/(0<i/\i+1<M/\((u i=u (i-1)/\u (i+1)=u i)\/(w i=w (i-1)/\w (i+1)=w i))))->¬ (Cr v a b k l\/Cr v a b l k)->(M=1->k=b/\l=a) ->
    ∃m' q' M' u' w' π',Ce ⟨a,b⟩ (v,m,F,q)=some (.inl (v,m',F,q'))/\Ur v a b m0 m' q' M' u' w' π' /\
   (M'<M\/(M'=M/\π'=π++[i]/\((Yj (plV v) (apM m) u w i/\apM m'=apM m/\u'=u/\w'=w)\/Acs (plV v) (inN v.length) M (apM m) u w i (apM m') u' w'))):=fun hc hnc hone=>by
   refine⟨m',_,M-1,cutF i u,cutF i w,π.map (Agn i),by rw[pre _ e,iP rfl,hcr,Ac,iN (by rw[dQ];exact fun g=>hnc (hcp.1 g))],⟨hm',tri',cov',ne',?_,?_,fun j=>?_,?_,fun h0=>?_,keep',by simp;omega⟩,.inl oo⟩
   .rw[ha'];exact h.strip.cut hi Q hc
   .unfold List.Nodup;rw[pairwise_map];refine List.Pairwise.imp_of_mem (fun {p r} hp hr' hpr e=>?_) nd2;have:=hne p hp;have:=hne r hr';unfold Agn at e;split at e <;> split at e <;> omega
   .rw[mem_map];constructor
    .rintro⟨t,ht',rfl⟩;have:=hlt t ht';have:=hne t ht';unfold Agn;split <;> omega
    .intro hj
     by_cases c:j<i
     .exact⟨j,inp j oo oo,by unfold Agn;rw[iP c]⟩
     .exact⟨j+1,inp (j+1) oo oo,by unfold Agn;rw[iN oo];omega⟩
   .rw[map_map];refine map_congr_left fun j hj=>?_
    simp only[Function.comp];rw[Aih i u (hne j hj),Aih i w (hne j hj)]
   .obtain⟨e1,e2⟩:=hone oo;unfold Uk;rw[ha',<-e1,<-e2];exact .inl (by rw[vals.2.1];simp)
  have turn:∀ u' w',Eo (plV v) (apM m') a b M u' w'->(∀ j,j≠i->u' j=u j)->(∀ j,j≠i->w' j=w j)->pr2 (u' i) (w' i)=pr2 k l->(Cr v a b k l\/Cr v a b l k)->Acs (plV v) (inN v.length) M (apM m) u w i (apM m') u' w' ->
    ∃m' q' M' u' w' π',Ce ⟨a,b⟩ (v,m,F,q)=some (.inl (v,m',F,q'))/\Ur v a b m0 m' q' M' u' w' π' /\
   (M'<M\/(M'=M/\π'=π++[i]/\((Yj (plV v) (apM m) u w i/\apM m'=apM m/\u'=u/\w'=w)\/Acs (plV v) (inN v.length) M (apM m) u w i (apM m') u' w'))):=fun u' w' hst hu hw he hc ht=>by
   refine⟨m',_,M,u',w',π++[i],by rw[pre _ e,iP rfl,hcr,Ac,iP (by rw[dQ];exact hcp.2 hc),gd_t okl],⟨hm',tri',cov',ne',hst,?_,fun j=>?_,?_,fun h0=>oo,keep',by simp;omega⟩,.inr ⟨rfl,rfl,.inr ht⟩⟩
   .exact (perm_append_comm (l₁:=[i]) (l₂:=π)).nodup_iff.1 h.nd
   .rw[<-h.all j];simp only[mem_append,mem_cons,not_mem_nil,or_false];exact Or.comm
   .have e2:(π.map fun i=>pr2 (u i) (w i))=π.map fun i=>pr2 (u' i) (w' i):=map_congr_left fun j hj=>by rw[hu j (hne j hj),hw j (hne j hj)]
    rw[map_append,map_singleton,he,e2]
  have up:=h.strip.up;have lo:=h.strip.lo;rcases h.strip.left h.tri hi hl with⟨g1,g2⟩|⟨g0,g1,g2⟩|⟨g0,g1,g2⟩ <;> rcases h.strip.right hi hk with⟨k1,k2⟩|⟨k0,k1,k2⟩|⟨k0,k1,k2⟩
  .exact cut (.inl (.inl g1)) (fun g=>g.elim (fun g=>g.ends.2.2.1 g2) (fun g=>g.ends.1 g2)) (fun _=>⟨k2,g2⟩)
  .exact cut (.inl (.inl g1)) (fun g=>g.elim (fun g=>g.ends.2.2.1 g2) (fun g=>g.ends.1 g2)) (fun _=>oo)
  .exact cut (.inl (.inl g1)) (fun g=>g.elim (fun g=>g.ends.2.2.1 g2) (fun g=>g.ends.1 g2)) (fun _=>oo)
  .exact cut (.inl (.inr k1)) (fun g=>g.elim (fun g=>g.ends.2.1 k2) (fun g=>g.ends.2.2.2 k2)) (fun _=>oo)
  .refine cut (.inr ⟨g0,k0,.inl ⟨g1,k1⟩⟩) (fun g=>?_) (fun _=>oo);have p1:=lo (i-1) oo;have p2:=lo (i+1) oo;rcases g with g|g
   .have:=g.up;rw[k2] at this;omega
   .have:=g.up;rw[g2] at this;omega
  .obtain⟨e1,e2,hst⟩:=h.strip.turnU hi Q g0 k0 g1 k1;have hcr':=(Eo.cr (ap:=apM m') (by rw[ha'];exact hst) tri' i hi);have s1:setF i k u i=k:=iP rfl;have s2:setF i l w i=l:=iP rfl;rw[s1,s2] at hcr';exact turn (setF i k u) (setF i l w) (by rw[ha'];exact hst) (fun j hj=>iN hj) (fun j hj=>iN hj) (by rw[s1,s2]) (.inl hcr') ⟨k,l,Q,ha',g0,k0,.inl ⟨g1,k1,rfl,rfl⟩⟩
  .exact cut (.inl (.inr k1)) (fun g=>g.elim (fun g=>g.ends.2.1 k2) (fun g=>g.ends.2.2.2 k2)) (fun _=>oo)
  .obtain⟨e1,e2,hst⟩:=h.strip.turnL hi Q g0 k0 g1 k1;have hcr':=(Eo.cr (ap:=apM m') (by rw[ha'];exact hst) tri' i hi);have s1:setF i l u i=l:=iP rfl;have s2:setF i k w i=k:=iP rfl;rw[s1,s2] at hcr';exact turn (setF i l u) (setF i k w) (by rw[ha'];exact hst) (fun j hj=>iN hj) (fun j hj=>iN hj) (by rw[s1,s2];exact Oa _ _) (.inr hcr') ⟨k,l,Q,ha',g0,k0,.inr ⟨g1,k1,rfl,rfl⟩⟩
  .refine cut (.inr ⟨g0,k0,.inr ⟨g1,k1⟩⟩) (fun g=>?_) (fun _=>oo);have p1:=up (i-1) oo;have p2:=up (i+1) oo;rcases g with g|g
   .have:=g.lo;rw[g2] at this;omega
   .have:=g.lo;rw[k2] at this;omega
end
end Go.Proofs.YtlejkgngmjchdaaGreat
