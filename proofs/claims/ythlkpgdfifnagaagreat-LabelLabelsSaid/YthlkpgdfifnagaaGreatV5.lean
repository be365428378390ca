import Derived.Test.YthlkpgdfifnagaaGreatL9
namespace Go.Proofs.YthlkpgdfifnagaaGreat
open Go Go.RowKit List
section
theorem Ah2(x:Ae):Gy x=some (decide (Mb x)):=by
 unfold Gy At;rw[jn_d,Ac,Atb,Ac]
 by_cases h:okP (⟨x.X,x.Y⟩:Ab)
 .rw[dT h,iP rfl]
  by_cases h1:-268435456<=x.Z.Lo
  .rw[iP h1]
   by_cases h2:x.Z.Lo<=x.Z.Hi
   .rw[iP h2];congr 1;rw[Bool.eq_iff_iff,dQ,dQ];exact⟨fun g=>⟨h,h1,h2,g⟩,fun g=>g.2.2.2⟩
   .rw[iN h2,dF (fun g:Mb x=>h2 g.2.2.1)]
  .rw[iN h1,dF (fun g:Mb x=>h1 g.2.1)]
 .rw[dF h,iN s_,dF (fun g:Mb x=>h g.1)]
theorem Bcv{v:List Ae}(c:v.length<=1024):lfix (Dz v) 0=some (if ((List.range v.length).any fun k=>!decide (Mb (v.getD k ⟨0,0,⟨0,0⟩⟩)))=true then .inr 60 else .inl ()):=by
 refine Afj v.length oo (fun k=>!decide (Mb (v.getD k ⟨0,0,⟨0,0⟩⟩))) (Dz v) () 60 (fun k hk=>?_) ?_
 .unfold Dz;rw[iP oo,Aj hk,Ac,Ah2,Ac,As oo];have e:v.getD k ⟨0,0,⟨0,0⟩⟩=v[k]:=by simp[hk]
  rw[e]
  by_cases g:Mb v[k]
  .simp[g]
  .simp[g]
 .unfold Dz;rw[iN oo]
theorem Ah3(v:List Ae):Ko v=some (Wu v):=by
 unfold Ko Wu
 by_cases c:1024<v.length
 .rw[iP oo,iP c]
 .rw[iN oo,iN c,jn_d];rw[Bcv oo,Ac]
  .by_cases h:∀x∈v,Mb x
   ·rw[if_neg (fun g=>Aie.1 g h),if_neg (not_not_intro h)];dsimp only;rw[jn_d];have hin:∀ i (hi:i<v.length),lfix (Gc (i:Int) v) 0=some (if (List.range i).any (fun j=>decide (Aa7 v[i] (v.getD j ⟨0,0,⟨0,0⟩⟩))) then .inr 61 else .inl ()):=fun i hi=>by
     refine Afj i oo _ _ () 61 (fun k hk=>?_) ?_
     .unfold Gc;have e:v.getD k ⟨0,0,⟨0,0⟩⟩=v[k]'oo:=by simp[show k<v.length by omega]
      rw[iP oo,jn_d,Aj hi,Ac,Aj (oo:k<v.length),Ac,As oo,e];unfold Aa7
      by_cases g1:v[i].X=v[k].X
      .rw[iP g1,Ac,Ac]
       by_cases g2:v[i].Y=v[k].Y
       .simp[g1,g2]
       .simp[g2]
      .rw[iN g1];simp[g1]
     .unfold Gc;rw[iN oo]
    have hout:lfix (Di v) 0=some (if ((List.range v.length).any fun i=>(List.range i).any fun j=>decide (Aa7 (v.getD i ⟨0,0,⟨0,0⟩⟩) (v.getD j ⟨0,0,⟨0,0⟩⟩)))=true then .inr 61 else .inl ()):=by
     refine Afj v.length oo (fun i=>(List.range i).any fun j=>decide (Aa7 (v.getD i ⟨0,0,⟨0,0⟩⟩) (v.getD j ⟨0,0,⟨0,0⟩⟩))) (Di v) () 61 (fun i hi=>?_) ?_
     .unfold Di;have e:v.getD i ⟨0,0,⟨0,0⟩⟩=v[i]:=by simp[hi]
      rw[iP oo,jn_d,hin i hi,Ac,As oo,e]
      by_cases g:((List.range i).any fun j=>decide (Aa7 v[i] (v.getD j ⟨0,0,⟨0,0⟩⟩)))=true
      .rw[iP g,iP g]
      .rw[iN g,iN g]
     .unfold Di;rw[iN oo]
    rw[hout,Ac]
    ·have hd:((List.range v.length).any fun i=>(List.range i).any fun j=>decide (Aa7 (v.getD i ⟨0,0,⟨0,0⟩⟩) (v.getD j ⟨0,0,⟨0,0⟩⟩)))=true↔¬ Eu v:=by
      rw[<-Am0,any_eq_true];constructor
      .rintro⟨i,hi,hj⟩;rw[any_eq_true] at hj;obtain⟨j,hj,hs⟩:=hj;rw[mem_range] at hi hj;rw[dQ] at hs;refine⟨i,j,hi,oo,hj,?_⟩;simpa[hi,show j<v.length by omega] using hs
      .rintro⟨i,j,hi,hj,hji,hs⟩;refine⟨i,mem_range.2 hi,?_⟩;rw[any_eq_true];exact⟨j,mem_range.2 hji,by simpa[hi,hj] using hs⟩
     by_cases g:Eu v
     .rw[iN (fun q=>hd.1 q g),iN (not_not_intro g)]
     .rw[iP (hd.2 g),iP g]
   .rw[iP (Aie.2 h),iP h]
def Box(p q k:Ab):Prop:=min p.X q.X<=k.X/\k.X<=max p.X q.X/\min p.Y q.Y<=k.Y/\k.Y<=max p.Y q.Y
instance(p q k:Ab):Decidable (Box p q k):=by unfold Box;infer_instance
def lexA:Int:=2147483648
theorem Ar1{p q:Ab}(hp:okP p)(hq:okP q):ph lexA 1 p<ph lexA 1 q↔befP p q:=by unfold ph lexA okP befP at *;omega
theorem mid{a b c d:Int}(h0:0<a)(h1:0<=b)(h2:b<=a)(h:a*c=d*b):(0<=d->0<=c/\c<=d)/\(d<=0->d<=c/\c<=0):=by
 constructor
 .intro hd;have e1:=Int.mul_nonneg hd h1;have e2:=Int.mul_nonneg hd (oo:0<=a-b);refine⟨Xf h0 oo,?_⟩;have:0<=d-c:=Xf h0 (by rw[Int.mul_sub] at *;rw[Int.mul_comm a d];omega);omega
 .intro hd;have e1:=Int.mul_nonneg (oo:0<=-d) h1;have e2:=Int.mul_nonneg (oo:0<=-d) (oo:0<=a-b);rw[Int.neg_mul] at e1 e2;rw[Int.mul_sub] at e2;constructor
  .have:0<=c-d:=Xf h0 (by rw[Int.mul_sub,Int.mul_comm a d];omega);omega
  .have:0<=-c:=Xf h0 (by rw[Int.mul_neg];omega);omega
theorem Bcw{p q k:Ab}(h:crs p q k=0)(h1:¬befP k p)(h2:¬befP q k):Box p q k:=by
 unfold befP at h1 h2;unfold crs at h;unfold Box
 by_cases e:p.X=q.X
 .omega
 .have:=mid (a:=q.X-p.X) (b:=k.X-p.X) (c:=k.Y-p.Y) (d:=q.Y-p.Y) oo oo oo oo;rcases Int.le_total 0 (q.Y-p.Y) with g|g
  .have:=this.1 g;omega
  .have:=this.2 g;omega
theorem Bfr{p q k:Ab}(h:crs p q k=0)(h1:¬befP q p)(h2:befP q k)(h3:¬Co p q):¬Box p q k:=by
 intro hb;unfold befP Co at *;unfold Box at hb;unfold crs at h
 by_cases e:p.X=q.X
 .omega
 .have hk:k.X=q.X:=oo;rw[hk] at h;have:(q.X-p.X)*(k.Y-q.Y)=0:=by grind
  rcases Int.mul_eq_zero.1 this with g|g <;> omega
variable {v:List Ae}
theorem Abd(hv:Iv v){i j:Int}(hi:inN v.length i)(hj:inN v.length j)(h:i≠j):¬Co (plV v i) (plV v j):=fun g=>h (hv.dist i j hi hj g)
theorem Af0(a b c:Ab):crs a c b = -crs a b c:=by unfold crs;grind
theorem Apr{p q r:Ab}(hp:okP p)(hq:okP q)(hr:okP r):Mw p q r=some (decide (crs p q r=0/\Box p q r)):=by
 unfold Mw;rw[jn_d,Aa2 hp hq hr,Ac];have e:Int.sign (crs p q r)=0↔crs p q r=0:=Int.sign_eq_zero_iff_zero
 by_cases h:crs p q r=0
 .rw[iP (e.2 h)];unfold Box
  by_cases h1:min p.X q.X<=r.X
  .rw[iP h1]
   by_cases h2:r.X<=max p.X q.X
   .rw[iP h2]
    by_cases h3:min p.Y q.Y<=r.Y
    .rw[iP h3];simp[h,h1,h2,h3]
    .rw[iN h3];simp[h3]
   .rw[iN h2];simp[h2]
  .rw[iN h1];simp[h1]
 .rw[iN (fun g=>h (e.1 g))];simp[h]
theorem Aka(p q:Ab):Jq p q=some (decide (befP p q)):=by
 unfold Jq befP;rw[jn_d]
 by_cases h1:p.X<q.X
 .rw[iP h1];simp[h1]
 .rw[iN h1]
  by_cases h2:p.X=q.X
  .rw[iP h2];simp[h2]
  .rw[iN h2];simp[h1,h2]
theorem At2(p:Ab):¬befP p p:=by unfold befP;omega
theorem Af1{p q:Ab}(h:befP p q):¬befP q p:=by unfold befP at *;omega
theorem Sz{i:Int}(hi:inN v.length i):∃x,idx v i=some x/\(⟨x.X,x.Y⟩:Ab)=plV v i:=by
 obtain⟨k,hk,rfl,f⟩:=Mn (v:=v) (i:=i) hi;exact⟨v[k],f,by unfold plV;rw[f]⟩
theorem first_eq(hn:v.length<=1024){f:Int}(hf:inN v.length f)(low:∀k,inN v.length k->k=f\/befP (plV v f) (plV v k)):Qk v=some f:=by
 unfold inN at hf;unfold Qk;rw[jn_d];have:=Ax (B:=Pn v) (fun s=>v.length-s.2.toNat) (fun s=>0<=s.2/\s.2<=(v.length:Int)/\inN v.length s.1/\(f<s.2->s.1=f)) (fun t=>t=f) (fun s hs=>by
  obtain⟨b,k⟩:=s;obtain⟨h1,h2,h3,h4⟩:=hs;simp only at h1 h2 h3 h4;unfold Pn;dsimp only
  by_cases hk:k<(v.length:Int)
  .left;obtain⟨x,hx,px⟩:=Sz (v:=v) (i:=k) ⟨h1,hk⟩;obtain⟨y,hy,py⟩:=Sz (v:=v) (i:=b) h3;rw[iP hk,jn_d,hx,Ac,hy,Ac];unfold At;rw[Ac,Ac,px,py,Aka,Ac,Aq oo oo]
   by_cases c:befP (plV v k) (plV v b)
   .rw[iP (dT c)];refine⟨_,rfl,⟨by dsimp only;omega,by dsimp only;omega,⟨h1,hk⟩,fun g=>?_⟩,by dsimp only;omega⟩;dsimp only at g⊢
    by_cases e:f<k
    .rw[h4 e] at c;rcases low k ⟨h1,hk⟩ with e2|e2
     .exact e2
     .exact absurd c (Af1 e2)
    .omega
   .rw[iN (sV c)];refine⟨_,rfl,⟨by dsimp only;omega,by dsimp only;omega,h3,fun g=>?_⟩,by dsimp only;omega⟩;dsimp only at g⊢
    by_cases e:f<k
    .exact h4 e
    .have:k=f:=oo;rcases low b h3 with e2|e2
     .exact e2
     .rw[this] at c;exact absurd e2 c
  .right;rw[iN hk];exact⟨_,rfl,h4 oo⟩) (0,0) ⟨s_,s_,⟨s_,by simp only;omega⟩,fun g=>by simp only at g;omega⟩
 obtain⟨t,ht,rfl⟩:=this;rw[ht,Ac]
theorem Bcx(hv:Iv v)(hn:v.length<=1024):∃b,Rw v=some b/\(b=true↔∀k,2<=k->inN v.length k->crs (plV v 0) (plV v 1) (plV v k)=0):=by
 unfold Rw;rw[jn_d];have:=Ax (B:=Qx v) (fun s=>v.length-s.toNat) (fun s=>2<=s/\∀k,2<=k->k<s->inN v.length k->crs (plV v 0) (plV v 1) (plV v k)=0)
  (fun t=>(t=.inl ()/\∀k,2<=k->inN v.length k->crs (plV v 0) (plV v 1) (plV v k)=0)\/(t=.inr false/\¬ ∀k,2<=k->inN v.length k->crs (plV v 0) (plV v 1) (plV v k)=0)) (fun s hs=>by
  obtain⟨h1,h2⟩:=hs;unfold Qx
  by_cases hk:s<(v.length:Int)
  .have hs':inN v.length s:=⟨oo,hk⟩;have h0':inN v.length 0:=⟨oo,oo⟩;have h1':inN v.length 1:=⟨oo,oo⟩;obtain⟨x,hx,px⟩:=Sz (v:=v) h0';obtain⟨y,hy,py⟩:=Sz (v:=v) h1';obtain⟨z,hz,pz⟩:=Sz (v:=v) hs';rw[iP hk,hx,Ac,hy,Ac,hz,Ac];unfold At;rw[Ac,Ac,Ac,px,py,pz,Aa2 (hv.ok _ h0') (hv.ok _ h1') (hv.ok _ hs'),Ac,Aq oo oo];have s0:Int.sign (crs (plV v 0) (plV v 1) (plV v s))=0↔crs (plV v 0) (plV v 1) (plV v s)=0:=Int.sign_eq_zero_iff_zero
   by_cases c:crs (plV v 0) (plV v 1) (plV v s)=0
   .left;rw[iP (s0.2 c)];refine⟨_,rfl,⟨oo,fun k k1 k2 k3=>?_⟩,oo⟩
    by_cases e:k=s
    .rw[e];exact c
    .exact h2 k k1 oo k3
   .right;rw[iN (fun g=>c (s0.1 g))];exact⟨_,rfl,.inr ⟨rfl,fun g=>c (g s h1 hs')⟩⟩
  .right;rw[iN hk];exact⟨_,rfl,.inl ⟨rfl,fun k k1 k2=>h2 k k1 (by have:=k2.2;omega) k2⟩⟩) 2 ⟨oo,fun k k1 k2=>oo⟩
 obtain⟨t,ht,g|g⟩:=this
 .obtain⟨rfl,g⟩:=g;rw[ht,Ac];exact⟨true,rfl,fun _=>g,fun _=>rfl⟩
 .obtain⟨rfl,g⟩:=g;rw[ht,Ac];exact⟨false,rfl,fun h=>(by cases h),fun h=>absurd h g⟩
end
section
variable {v:List Ae}
def Top(v:List Ae)(a b c:Int):Prop:=inN v.length c/\0<crs (plV v a) (plV v b) (plV v c)/\∀d,inN v.length d->0<crs (plV v a) (plV v b) (plV v d)->d≠c->DH (plV v) (hV v) a b c d<0
theorem Bcy(a b c d:Int):DH (plV v) (hV v) a b d c = -DH (plV v) (hV v) a b c d:=Ao2 _ _ _ _ _ _ _ _
theorem Top.unique{a b c d:Int}(h:Top v a b c)(k:Top v a b d):c=d:=by
 by_cases e:c=d
 .exact e
 .have h1:=h.2.2 d k.1 k.2.1 (fun g=>e g.symm);have h2:=k.2.2 c h.1 h.2.1 e;rw[Bcy] at h2;omega
theorem Del.top{a b c:Int}(h:Del v a b c):Top v a b c:=by
 obtain⟨h1,h2,h3,h4,h5⟩:=h;refine⟨h3,h4,fun d hd hp hne=>h5 d hd (fun e=>?_) (fun e=>?_) hne⟩
 .subst e;rw[Hd] at hp;omega
 .subst e;rw[Ce] at hp;omega
theorem Del.unique{a b c d:Int}(h:Del v a b c)(k:Del v a b d):c=d:=h.top.unique k.top
theorem Top.across{a b c e:Int}(h:Del v a b c)(k:Top v b a e):Del v b a e:=by
 obtain⟨h1,h2,h3,h4,h5⟩:=h;obtain⟨k1,k2,k3⟩:=k;refine⟨h2,h1,k1,k2,fun d hd n1 n2 n3=>?_⟩
 by_cases hp:0<crs (plV v b) (plV v a) (plV v d)
 .exact k3 d hd hp n3
 have hx:0<=crs (plV v a) (plV v b) (plV v d):=by rw[Ch] at hp;omega
 have he:crs (plV v a) (plV v b) (plV v e)<0:=by rw[Ch] at k2;omega
 have hne:e≠c:=fun g=>by rw[g] at he;omega
 have hea:e≠a:=fun g=>by rw[g,Hd] at he;omega
 have heb:e≠b:=fun g=>by rw[g,Ce] at he;omega
 have hD:=h5 e k1 hea heb hne;obtain⟨p1,p2⟩:=Aen (P:=plV v) (H:=hV v) (a:=a) (b:=b) (c:=c) (d:=d) (h5 d hd);have key:=Abo (hV v a) (hV v b) (hV v c) (hV v e) (plV v a) (plV v b) (plV v c) (plV v e) (plV v d);unfold DH at hD⊢;rw[Ajl];generalize plt (hV v b) (hV v a) (hV v e) (plV v b) (plV v a) (plV v e) (plV v d)=L at *;generalize plt (hV v a) (hV v b) (hV v c) (plV v a) (plV v b) (plV v c) (plV v d)=M at *;generalize Dt (hV v a) (hV v b) (hV v c) (hV v e) (plV v a) (plV v b) (plV v c) (plV v e)=D at *;have hlt:M*crs (plV v b) (plV v a) (plV v e)+D*crs (plV v a) (plV v b) (plV v d)<hV v d*crs (plV v a) (plV v b) (plV v c)*crs (plV v b) (plV v a) (plV v e):=by
  by_cases g:d=c
  .subst g;have e1:=Int.mul_le_mul_of_nonneg_right p1 (Int.le_of_lt k2);have e2:=Int.mul_neg_of_neg_of_pos hD h4;omega
  .have e1:=Int.mul_lt_mul_of_pos_right (p2 n2 n1 g) k2;have e2:=Int.mul_nonpos_of_nonpos_of_nonneg (Int.le_of_lt hD) hx;omega
 have e3:(L-hV v d*crs (plV v b) (plV v a) (plV v e))*crs (plV v a) (plV v b) (plV v c)<0:=by
  have:(L-hV v d*crs (plV v b) (plV v a) (plV v e))*crs (plV v a) (plV v b) (plV v c)=L*crs (plV v a) (plV v b) (plV v c)-hV v d*crs (plV v a) (plV v b) (plV v c)*crs (plV v b) (plV v a) (plV v e):=by grind
  omega
 rcases Int.lt_or_le (L-hV v d*crs (plV v b) (plV v a) (plV v e)) 0 with g|g
 .exact g
 .have:=Int.mul_nonneg g (Int.le_of_lt h4);omega
theorem Top.hull{a b c:Int}(hv:Iv v)(ha:inN v.length a)(hb:inN v.length b)(hl:∀d,inN v.length d->0<=crs (plV v a) (plV v b) (plV v d))(ho:∀d,inN v.length d->d≠a->d≠b->crs (plV v a) (plV v b) (plV v d)=0->∀x,0<crs (plV v a) (plV v b) x->crs (plV v b) x (plV v d)<0)(k:Top v a b c):Del v a b c:=by
 obtain⟨k1,k2,k3⟩:=k;refine⟨ha,hb,k1,k2,fun d hd n1 n2 n3=>?_⟩
 by_cases hp:0<crs (plV v a) (plV v b) (plV v d)
 .exact k3 d hd hp n3
 have h0:crs (plV v a) (plV v b) (plV v d)=0:=by have:=hl d hd;omega
 rw[<-Aeo];exact Adc hv b c a d hb k1 ha hd (by rw[Bu];exact k2) (ho d hd n1 n2 h0 _ k2) (.inr oo)
def dtp(a b x:Ab):Int:=(x.X-a.X)*(x.X-b.X)+(x.Y-a.Y)*(x.Y-b.Y)
theorem Ab0(a b c d:Ab):inC a b c d=dtp a b c*crs a b d-dtp a b d*crs a b c:=by unfold inC dtp lft crs;grind
theorem Anl{a b c d e:Ab}(hc:0<crs a b c)(hd:0<crs a b d)(he:0<crs a b e)(h1:0<inC a b c d)(h2:inC a b c e<=0):inC a b d e<0:=by
 rw[Ab0] at *;have e1:dtp a b d*crs a b c<dtp a b c*crs a b d:=oo;have e2:dtp a b c*crs a b e<=dtp a b e*crs a b c:=oo;have m1:=Int.mul_lt_mul_of_pos_right e1 he;have m2:=Int.mul_le_mul_of_nonneg_right e2 (Int.le_of_lt hd);have m3:(dtp a b d*crs a b e)*crs a b c<(dtp a b e*crs a b d)*crs a b c:=by
  have r1:(dtp a b d*crs a b e)*crs a b c=dtp a b d*crs a b c*crs a b e:=by grind
  have r2:dtp a b c*crs a b d*crs a b e=dtp a b c*crs a b e*crs a b d:=by grind
  have r3:(dtp a b e*crs a b d)*crs a b c=dtp a b e*crs a b c*crs a b d:=by grind
  omega
 have:=Int.lt_of_mul_lt_mul_right m3 (Int.le_of_lt hc);omega
theorem Aps{a b c d e:Ab}(hc:0<crs a b c)(h1:inC a b c d=0):inC a b c e*crs a b d=inC a b d e*crs a b c:=by
 rw[Ab0 a b c e,Ab0 a b d e];rw[Ab0] at h1;have e1:dtp a b c*crs a b d=dtp a b d*crs a b c:=oo;have r1:(dtp a b c*crs a b e-dtp a b e*crs a b c)*crs a b d=dtp a b c*crs a b d*crs a b e-dtp a b e*crs a b c*crs a b d:=by grind
 rw[r1,e1];grind
theorem Adq{a b c d e:Ab}(hc:0<crs a b c)(hd:0<crs a b d)(h1:inC a b c d=0):(inC a b c e<0->inC a b d e<0)/\(inC a b c e=0->inC a b d e=0):=by
 have h:=Aps (e:=e) hc h1;constructor
 .intro g;rcases Int.lt_or_le (inC a b d e) 0 with k|k
  .exact k
  .have e1:=Int.mul_nonneg k (Int.le_of_lt hc);have e2:=Int.mul_neg_of_neg_of_pos g hd;omega
 .intro g;rw[g,Int.zero_mul] at h;rcases Int.mul_eq_zero.1 h.symm with k|k
  .exact k
  .omega
theorem Ar2{a b c d:Ab}(hc:0<crs a b c)(hd:0<crs a b d)(h0:inC a b c d=0)(h1:crs a c d=0):Co c d:=by
 have hca:¬Co c a:=fun e=>by have:=Afl e;subst this;rw[Hd] at hc;omega
 have L1:=Am6 hca;have e0:lft c a*crs a b d=lft d a*crs a b c:=by
  have:inC a b c d=lft b a*crs c a d+lft c a*crs a b d-lft d a*crs a b c:=by unfold inC lft crs;grind
  rw[h0,Ch,h1] at this;simp only[Int.neg_zero,Int.mul_zero,Int.zero_add] at this;omega
 have ex:crs a b c*(d.X-a.X)=crs a b d*(c.X-a.X):=by
  have:crs a b c*(d.X-a.X)-crs a b d*(c.X-a.X) = -(b.X-a.X)*crs a c d:=by unfold crs;grind
  rw[h1,Int.mul_zero] at this;omega
 have ey:crs a b c*(d.Y-a.Y)=crs a b d*(c.Y-a.Y):=by
  have:crs a b c*(d.Y-a.Y)-crs a b d*(c.Y-a.Y) = -(b.Y-a.Y)*crs a c d:=by unfold crs;grind
  rw[h1,Int.mul_zero] at this;omega
 generalize hk1:crs a b c=k1 at *;generalize hk2:crs a b d=k2 at *;have e2:k1*(k1*lft d a)=k2*(k2*lft c a):=by
  unfold lft;have x2:(k1*(d.X-a.X))*(k1*(d.X-a.X))=(k2*(c.X-a.X))*(k2*(c.X-a.X)):=by rw[ex]
  have y2:(k1*(d.Y-a.Y))*(k1*(d.Y-a.Y))=(k2*(c.Y-a.Y))*(k2*(c.Y-a.Y)):=by rw[ey]
  grind
 have e3:(lft c a*k2)*(k1-k2)=0:=by
  have:k1*(k1*lft d a)=k1*(lft c a*k2):=by rw[e0,Int.mul_comm k1 (lft d a)]
  grind
 have e4:k1=k2:=by
  rcases Int.mul_eq_zero.1 e3 with g|g
  .rcases Int.mul_eq_zero.1 g with g|g <;> omega
  .omega
 subst e4;have gx:=Int.eq_of_mul_eq_mul_left oo ex;have gy:=Int.eq_of_mul_eq_mul_left oo ey;unfold Co;omega
theorem Az4{a b c d:Ab}(hc:0<crs a b c)(h0:inC a b c d=0)(h1:0<crs a c d)(hd:0<crs a b d):0<crs b c d:=by
 rcases Int.lt_or_le 0 (crs b c d) with g|g
 .exact g
 .have:=Acp (a:=c) (b:=a) (c:=b) (d:=d) (by rw[<-Bu];exact hc) (by rw[Ch];omega) g;rw[<-Aif,h0] at this;omega
end
section
variable {v:List Ae}{a b:Int}
structure Best(v:List Ae)(a b k:Int)(s:LI):Prop where
 mem:∀c∈s,inN v.length c/\c<k/\0<crs (plV v a) (plV v b) (plV v c)
 none:s=[]->∀d,inN v.length d->d<k->crs (plV v a) (plV v b) (plV v d)<=0
 top:∀c∈s,∀d,inN v.length d->d<k->0<crs (plV v a) (plV v b) (plV v d)->(inC (plV v a) (plV v b) (plV v c) (plV v d)<0/\d∉s)\/(inC (plV v a) (plV v b) (plV v c) (plV v d)=0/\d∈s)
 nd:s.Nodup
theorem Best.nil:Best v a b 0 []:=⟨fun c h=>(by cases h),fun _ d hd h=>by unfold inN at hd;omega,fun c h=>(by cases h),nodup_nil⟩
theorem Best.skip{k:Int}{s:LI}(h:Best v a b k s)(hk:crs (plV v a) (plV v b) (plV v k)<=0):Best v a b (k+1) s:=by
 refine⟨fun c hc=>?_,fun e d hd hl=>?_,fun c hc d hd hl hp=>?_,h.nd⟩
 .obtain⟨h1,h2,h3⟩:=h.mem c hc;exact⟨h1,oo,h3⟩
 .by_cases g:d=k
  .subst g;exact hk
  .exact h.none e d hd oo
 .by_cases g:d=k
  .subst g;omega
  .exact h.top c hc d hd oo hp
theorem Apt(a b c:Ab):inC a b c c=0:=by unfold inC lft crs;grind
theorem Best.one{k:Int}(hk:inN v.length k)(hp:0<crs (plV v a) (plV v b) (plV v k))(ho:∀d,inN v.length d->d<k->0<crs (plV v a) (plV v b) (plV v d)->inC (plV v a) (plV v b) (plV v k) (plV v d)<0):Best v a b (k+1) [k]:=by
 refine⟨fun c hc=>?_,fun e=>(by cases e),fun c hc d hd hl hq=>?_,s_⟩
 .rw[mem_singleton] at hc;subst hc;exact⟨hk,oo,hp⟩
 .rw[mem_singleton] at hc;subst hc
  by_cases g:d=c
  .subst g;exact .inr ⟨Apt _ _ _,mem_singleton.2 rfl⟩
  .exact .inl ⟨ho d hd oo hq,sV g⟩
theorem Best.first{k:Int}(h:Best v a b k [])(hk:inN v.length k)(hp:0<crs (plV v a) (plV v b) (plV v k)):Best v a b (k+1) [k] :=
 Best.one hk hp fun d hd hl hq=>by have:=h.none rfl d hd hl;omega
theorem Best.better{k c:Int}{s:LI}(h:Best v a b k s)(hk:inN v.length k)(hp:0<crs (plV v a) (plV v b) (plV v k))(hc:c∈s)(hi:0<inC (plV v a) (plV v b) (plV v c) (plV v k)):Best v a b (k+1) [k] :=
 Best.one hk hp fun d hd hl hq=>Anl (h.mem c hc).2.2 hp hq hi (by rcases h.top c hc d hd hl hq with g|g <;> omega)
theorem Best.worse{k c:Int}{s:LI}(h:Best v a b k s)(hc:c∈s)(hi:inC (plV v a) (plV v b) (plV v c) (plV v k)<0):Best v a b (k+1) s:=by
 refine⟨fun x hx=>?_,fun e=>(by rw[e] at hc;cases hc),fun x hx d hd hl hp=>?_,h.nd⟩
 .obtain⟨h1,h2,h3⟩:=h.mem x hx;exact⟨h1,oo,h3⟩
 .by_cases g:d=k
  .subst g;refine .inl ⟨?_,fun e=>?_⟩
   ·obtain⟨h1,h2,h3⟩:=h.mem x hx;obtain⟨q1,q2,q3⟩:=h.mem c hc;have h0:inC (plV v a) (plV v b) (plV v c) (plV v x)=0:=by
     rcases h.top c hc x h1 h2 h3 with g|g
     .exact absurd hx g.2
     .exact g.1
    exact (Adq q3 h3 h0).1 hi
   .have:=(h.mem d e).2.1;omega
  .exact h.top x hx d hd oo hp
theorem Best.tie{k c:Int}{s:LI}(h:Best v a b k s)(hk:inN v.length k)(hp:0<crs (plV v a) (plV v b) (plV v k))(hc:c∈s)(hi:inC (plV v a) (plV v b) (plV v c) (plV v k)=0):Best v a b (k+1) (s++[k]):=by
 have same:∀x∈s,inC (plV v a) (plV v b) (plV v x) (plV v k)=0:=fun x hx=>by
  obtain⟨h1,h2,h3⟩:=h.mem x hx;obtain⟨q1,q2,q3⟩:=h.mem c hc;have h0:inC (plV v a) (plV v b) (plV v c) (plV v x)=0:=by
   rcases h.top c hc x h1 h2 h3 with g|g
   .exact absurd hx g.2
   .exact g.1
  exact (Adq q3 h3 h0).2 hi
 refine⟨fun x hx=>?_,fun e=>(by simp at e),fun x hx d hd hl hq=>?_,?_⟩
 .rcases mem_append.1 hx with hx|hx
  .obtain⟨h1,h2,h3⟩:=h.mem x hx;exact⟨h1,oo,h3⟩
  .rw[mem_singleton] at hx;subst hx;exact⟨hk,oo,hp⟩
 .by_cases g:d=k
  .subst g;refine .inr ⟨?_,s_⟩;rcases mem_append.1 hx with hx|hx
   .exact same x hx
   .rw[mem_singleton] at hx;subst hx;exact Apt _ _ _
  .have hnk:d ∉ [k]:=by simpa using g
   rcases mem_append.1 hx with hx|hx
   .rcases h.top x hx d hd oo hq with⟨g1,g2⟩|⟨g1,g2⟩
    .exact .inl ⟨g1,fun e=>(mem_append.1 e).elim g2 hnk⟩
    .exact .inr ⟨g1,mem_append.2 (.inl g2)⟩
   .rw[mem_singleton] at hx;subst hx;obtain⟨q1,q2,q3⟩:=h.mem c hc;rcases h.top c hc d hd oo hq with⟨g1,g2⟩|⟨g1,g2⟩
    .exact .inl ⟨(Adq q3 hp hi).1 g1,fun e=>(mem_append.1 e).elim g2 hnk⟩
    .exact .inr ⟨(Adq q3 hp hi).2 g1,mem_append.2 (.inl g2)⟩
 .rw[nodup_append];refine⟨h.nd,s_,fun x hx y hy e=>?_⟩;rw[mem_singleton] at hy;subst hy;subst e;have:=(h.mem x hx).2.1;omega
structure Circ(v:List Ae)(a b:Int)(l:LI):Prop where
 mem:∀c∈l,inN v.length c/\0<crs (plV v a) (plV v b) (plV v c)
 on:∀c∈l,∀d∈l,inC (plV v a) (plV v b) (plV v c) (plV v d)=0
 nd:l.Nodup
theorem Best.circ{k:Int}{s:LI}(h:Best v a b k s):Circ v a b s :=
 ⟨fun c hc=>⟨(h.mem c hc).1,(h.mem c hc).2.2⟩,fun c hc d hd=>by
  obtain⟨h1,h2,h3⟩:=h.mem d hd;rcases h.top c hc d h1 h2 h3 with g|g
  .exact absurd hd g.2
  .exact g.1,h.nd⟩
theorem Circ.sub{l l':LI}(h:Circ v a b l)(hs:∀x∈l',x∈l)(hn:l'.Nodup):Circ v a b l':=⟨fun c hc=>h.mem c (hs c hc),fun c hc d hd=>h.on c (hs c hc) d (hs d hd),hn⟩
theorem Circ.ne0{l:LI}(hv:Iv v)(h:Circ v a b l){c d:Int}(hc:c∈l)(hd:d∈l)(hne:c≠d):crs (plV v a) (plV v c) (plV v d)≠0:=fun e=>by
 obtain⟨c1,c2⟩:=h.mem c hc;obtain⟨d1,d2⟩:=h.mem d hd;exact hne (hv.dist c d c1 d1 (Ar2 c2 d2 (h.on c hc d hd) e))
theorem Circ.trans{l:LI}(h:Circ v a b l){c d e:Int}(hc:c∈l)(hd:d∈l)(he:e∈l)(h1:0<crs (plV v a) (plV v c) (plV v d))(h2:0<crs (plV v a) (plV v d) (plV v e)):0<crs (plV v a) (plV v c) (plV v e):=by
 have p:=Xk (plV v a) (plV v b) (plV v c) (plV v d) (plV v e);have e1:=Int.mul_pos (h.mem c hc).2 h2;have e2:=Int.mul_pos (h.mem e he).2 h1;refine Vl (x:=crs (plV v a) (plV v b) (plV v d)) ?_ (h.mem d hd).2;omega
structure Ring(v:List Ae)(a b:Int)(l:LI):Prop where
 circ:Circ v a b l
 ord:l.Pairwise fun x y=>0<crs (plV v a) (plV v x) (plV v y)
def Ans(v:List Ae)(a b:Int)(l:LI)(c:Int):Prop:=c∈l/\∀d∈l,d≠c->DH (plV v) (hV v) a b c d<0
section
variable (hv:Iv v)(ha:inN v.length a)(hb:inN v.length b){l:LI}
include hv ha hb
theorem Ring.ans_a{c:Int}{l:LI}(h:Ring v a b (l++[c]))(hab:befP (plV v a) (plV v b))(hf:∀x∈l++[c],befP (plV v a) (plV v x)):Ans v a b (l++[c]) c:=by
 have hc:c∈l++[c]:=s_;refine⟨hc,fun d hd hne=>?_⟩;obtain⟨c1,c2⟩:=h.circ.mem c hc;obtain⟨d1,d2⟩:=h.circ.mem d hd;have hdl:d∈l:=by
  rcases mem_append.1 hd with g|g
  .exact g
  .exact absurd (mem_singleton.1 g) hne
 have hdc:0<crs (plV v a) (plV v d) (plV v c):=(pairwise_append.1 h.ord).2.2 d hdl c s_;have:=Az4 d2 (h.circ.on d hd c hc) hdc c2;refine (Zc hv ha hb c1 d1 (h.circ.on c hc d hd) hab (hf c hc) (hf d hd)).2 ?_;rw[Af0];omega
theorem Ring.ans_b{c:Int}{l:LI}(h:Ring v a b (c::l))(hab:befP (plV v b) (plV v a))(hf:∀x∈c::l,befP (plV v b) (plV v x)):Ans v a b (c::l) c:=by
 have hc:c∈c::l:=s_;refine⟨hc,fun d hd hne=>?_⟩;obtain⟨c1,c2⟩:=h.circ.mem c hc;obtain⟨d1,d2⟩:=h.circ.mem d hd;have hdl:d∈l:=by
  rcases mem_cons.1 hd with g|g
  .exact absurd g hne
  .exact g
 have hcd:0<crs (plV v a) (plV v c) (plV v d):=(pairwise_cons.1 h.ord).1 d hdl;rw[<-Aeo];refine (Zc hv hb c1 ha d1 (by rw[Aif];exact h.circ.on c hc d hd) (hf c hc) hab (hf d hd)).2 ?_;rw[Ch];omega
theorem Ring.ans_cut{x c:Int}(h:Ring v a b l)(hx:x∈l)(hxa:befP (plV v x) (plV v a))(hxb:befP (plV v x) (plV v b))(hf:∀y∈l,y≠x->befP (plV v x) (plV v y)){l':LI}(hl:∀y,y∈l'↔y∈l/\y≠x)(hc:Ans v a b l' c):Ans v a b l c:=by
 obtain⟨h1,h2⟩:=hc;obtain⟨hcl,hcx⟩:=(hl c).1 h1;obtain⟨c1,c2⟩:=h.circ.mem c hcl;obtain⟨x1,x2⟩:=h.circ.mem x hx;refine⟨hcl,fun d hd hne=>?_⟩
 by_cases e:d=x
 .subst e;exact Ajt hv ha hb c1 x1 (h.circ.on c hcl d hx) hxa hxb (hf c hcl hcx) c2
 .exact h2 d ((hl d).2 ⟨hd,e⟩) hne
theorem Best.ans{s l:LI}{c:Int}(h:Best v a b v.length s)(hp:∀x,x∈l↔x∈s)(hc:Ans v a b l c):Top v a b c:=by
 obtain⟨h1,h2⟩:=hc;have hcs:=(hp c).1 h1;obtain⟨c1,_,c2⟩:=h.mem c hcs;refine⟨c1,c2,fun d hd hq hne=>?_⟩;rcases h.top c hcs d hd hd.2 hq with g|g
 .exact Am8 hv ha hb c1 hd g.1
 .exact h2 d ((hp d).2 g.2) hne
end
end
section
variable {v:List Ae}{p0 q0:Int}
def Vg(t:Ah)(p q:Int):Prop:=(p=t.a0/\q=t.a1)\/(p=t.a1/\q=t.a2)\/(p=t.a2/\q=t.a0)
def Al3(v:List Ae)(t:Ah):Prop:=t.a0<t.a1/\t.a0<t.a2/\Del v t.a0 t.a1 t.a2
theorem Al3.side{t:Ah}(h:Al3 v t){p q:Int}(hs:Vg t p q):∃e,Del v p q e:=by
 obtain⟨_,_,h⟩:=h;rcases hs with⟨rfl,rfl⟩|⟨rfl,rfl⟩|⟨rfl,rfl⟩
 .exact⟨_,h⟩
 .exact⟨_,h.rot⟩
 .exact⟨_,h.rot.rot⟩
def noT(v:List Ae)(p q:Int):Prop:=∀d,inN v.length d->crs (plV v p) (plV v q) (plV v d)<=0
def okS(v:List Ae)(p q:Int):Prop:=inN v.length p/\inN v.length q/\(noT v p q\/∃e,Del v p q e)
structure Tr(v:List Ae)(p0 q0:Int)(op:List Ad)(dn:Int->Int->Prop)(out:List Ah):Prop where
 mem:∀t∈out,Al3 v t
 nd:out.Nodup
 opn:∀s∈op,okS v s.a0 s.a1
 don:∀p q,dn p q->(∃t∈out,Vg t p q)\/noT v p q
 all:∀t∈out,∀p q,Vg t p q->dn p q
 rev:∀t∈out,∀p q,Vg t p q->⟨q,p⟩∈op\/dn q p
 sta:⟨p0,q0⟩∈op\/dn p0 q0
 len:op.length<=3*out.length+1
theorem Tr.init{dn:Int->Int->Prop}(h:okS v p0 q0)(hd:∀p q,¬dn p q):Tr v p0 q0 [⟨p0,q0⟩] dn [] :=
 ⟨fun t h=>(by cases h),nodup_nil,fun s hs=>by rw[mem_singleton] at hs;subst hs;exact h,fun p q g=>absurd g (hd p q),fun t h=>(by cases h),fun t h=>(by cases h),.inl s_,s_⟩
theorem Anm{x s:Ad}{op:List Ad}(h:x∈op++[s]):x∈op\/x=s:=by simpa using h
theorem Tr.skip{op:List Ad}{dn:Int->Int->Prop}{out:List Ah}{s:Ad}(h:Tr v p0 q0 (op++[s]) dn out)(hs:dn s.a0 s.a1):Tr v p0 q0 op dn out :=
 ⟨h.mem,h.nd,fun x hx=>h.opn x (by simp[hx]),h.don,h.all,fun t ht p q hp=>(h.rev t ht p q hp).elim (fun g=>(Anm g).imp id fun e=>by subst e;exact hs) .inr,
  h.sta.elim (fun g=>(Anm g).imp id fun e=>by subst e;exact hs) .inr,by have:=h.len;rw[length_append,length_singleton] at this;omega⟩
theorem Tr.none{op:List Ad}{dn dn':Int->Int->Prop}{out:List Ah}{s:Ad}(h:Tr v p0 q0 (op++[s]) dn out)(hd:∀p q,dn' p q↔dn p q\/(p=s.a0/\q=s.a1))(hn:noT v s.a0 s.a1):Tr v p0 q0 op dn' out:=by
 have key:Tr v p0 q0 (op++[s]) dn' out:=⟨h.mem,h.nd,h.opn,fun p q g=>by
  rcases (hd p q).1 g with g|⟨rfl,rfl⟩
  .exact h.don p q g
  .exact .inr hn,fun t ht p q hp=>(hd p q).2 (.inl (h.all t ht p q hp)),fun t ht p q hp=>(h.rev t ht p q hp).imp id fun g=>(hd _ _).2 (.inl g),h.sta.imp id fun g=>(hd _ _).2 (.inl g),h.len⟩
 exact key.skip ((hd _ _).2 (.inr ⟨rfl,rfl⟩))
theorem Tr.more{op:List Ad}{dn dn':Int->Int->Prop}{out:List Ah}{s:Ad}{t:Ah}(h:Tr v p0 q0 (op++[s]) dn out)(hs:¬dn s.a0 s.a1)(ht:Al3 v t)(hst:Vg t s.a0 s.a1)(hd:∀p q,dn' p q↔dn p q\/Vg t p q)(hx:∀p q,Vg t p q->okS v q p):Tr v p0 q0 (op++[⟨t.a1,t.a0⟩,⟨t.a2,t.a1⟩,⟨t.a0,t.a2⟩]) dn' (out++[t]):=by
 have hin:∀{p q:Int},⟨p,q⟩∈op++[s]->(⟨p,q⟩:Ad)∈op++[⟨t.a1,t.a0⟩,⟨t.a2,t.a1⟩,⟨t.a0,t.a2⟩]\/dn' p q:=fun {p q} g=>by
  rcases Anm g with g|g
  .exact .inl (mem_append.2 (.inl g))
  .right;rw[<-g] at hst;exact (hd _ _).2 (.inr hst)
 refine⟨fun x hx=>?_,?_,fun x hx'=>?_,fun p q g=>?_,fun x hx' p q g=>?_,fun x hx' p q g=>?_,?_,?_⟩
 .rcases mem_append.1 hx with hx|hx
  .exact h.mem x hx
  .rw[mem_singleton] at hx;subst hx;exact ht
 .rw[nodup_append];refine⟨h.nd,s_,fun x hm y hy e=>?_⟩;rw[mem_singleton] at hy;rw[hy] at e;rw[e] at hm;exact hs (h.all t hm _ _ hst)
 .rcases mem_append.1 hx' with hx'|hx'
  .exact h.opn x (by simp[hx'])
  .simp only[mem_cons,not_mem_nil,or_false] at hx';rcases hx' with rfl|rfl|rfl
   .exact hx t.a0 t.a1 (.inl ⟨rfl,rfl⟩)
   .exact hx t.a1 t.a2 (.inr (.inl ⟨rfl,rfl⟩))
   .exact hx t.a2 t.a0 (.inr (.inr ⟨rfl,rfl⟩))
 .rcases (hd p q).1 g with g|g
  .rcases h.don p q g with⟨x,hx,g⟩|g
   .exact .inl ⟨x,by simp[hx],g⟩
   .exact .inr g
  .exact .inl ⟨t,s_,g⟩
 .rcases mem_append.1 hx' with hx'|hx'
  .exact (hd p q).2 (.inl (h.all x hx' p q g))
  .rw[mem_singleton] at hx';subst hx';exact (hd p q).2 (.inr g)
 .rcases mem_append.1 hx' with hx'|hx'
  .rcases h.rev x hx' p q g with g|g
   .exact hin g
   .exact .inr ((hd _ _).2 (.inl g))
  .rw[mem_singleton] at hx';subst hx';left;refine mem_append.2 (.inr ?_);rcases g with⟨rfl,rfl⟩|⟨rfl,rfl⟩|⟨rfl,rfl⟩ <;> simp
 .rcases h.sta with g|g
  .exact hin g
  .exact .inr ((hd _ _).2 (.inl g))
 .have:=h.len;simp only[length_append,length_cons,length_nil] at this⊢;omega
theorem Ae1{out:List Ah}(hmem:∀t∈out,Al3 v t)(hnd:out.Nodup):out.length<=v.length*v.length:=by
 have h1:(out.map fun t=>(t.a0.toNat*v.length+t.a1.toNat)).Nodup:=by
  unfold List.Nodup;rw[pairwise_map];refine List.Pairwise.imp_of_mem ?_ hnd;intro x y hx hy hne e;obtain⟨x1,x2,x3⟩:=hmem x hx;obtain⟨y1,y2,y3⟩:=hmem y hy;have x4:=x3.1;have x5:=x3.2.1;have y4:=y3.1;have y5:=y3.2.1;unfold inN at x4 x5 y4 y5;have e1:x.a1.toNat=y.a1.toNat:=by
   have:=congrArg (· % v.length) e;simp only[Nat.mul_add_mod_self_right] at this
   rwa [Nat.mod_eq_of_lt oo,Nat.mod_eq_of_lt oo] at this
  have e2:x.a0.toNat=y.a0.toNat:=by
   rw[e1] at e;have e':x.a0.toNat*v.length=y.a0.toNat*v.length:=oo;exact Nat.eq_of_mul_eq_mul_right oo e'
  have e3:x.a0=y.a0:=oo;have e4:x.a1=y.a1:=oo;apply hne;obtain⟨xa,xb,xc⟩:=x;obtain⟨ya,yb,yc⟩:=y;simp only at e3 e4 x3 y3;subst e3;subst e4;rw[x3.unique y3]
 have:=Bn (m:=List.range (v.length*v.length)) h1 fun x hx=>by
  obtain⟨t,ht,rfl⟩:=mem_map.1 hx;obtain⟨_,_,t3⟩:=hmem t ht;have t4:=t3.1;have t5:=t3.2.1;unfold inN at t4 t5;rw[mem_range];have h3:t.a0.toNat+1<=v.length:=oo;have:=Nat.mul_le_mul_right v.length h3;rw[Nat.add_mul] at this;omega
 rwa [length_map,length_range] at this
theorem Tr.bound{op:List Ad}{dn:Int->Int->Prop}{out:List Ah}(h:Tr v p0 q0 op dn out):out.length<=v.length*v.length:=Ae1 h.mem h.nd
def rots(t:Ah):List T3:=[(t.a0,t.a1,t.a2),(t.a1,t.a2,t.a0),(t.a2,t.a0,t.a1)]
theorem Tr.full{dn:Int->Int->Prop}{out:List Ah}(h:Tr v p0 q0 [] dn out)(hs:∃e,Del v p0 q0 e)(t:Ah):t∈out↔t.a0<t.a1/\t.a0<t.a2/\Del v t.a0 t.a1 t.a2:=by
 refine⟨fun ht=>h.mem t ht,fun ⟨t1,t2,t3⟩=>?_⟩;have memX:∀a b c:Int,(a,b,c)∈out.flatMap rots->∃t∈out,Vg t a b/\Del v a b c:=fun a b c g=>by
  obtain⟨t,ht,g⟩:=mem_flatMap.1 g;have:=(h.mem t ht).2.2;unfold rots at g;simp only[mem_cons,not_mem_nil,or_false] at g;rcases g with g|g|g <;> cases g
  .exact⟨t,ht,.inl ⟨rfl,rfl⟩,this⟩
  .exact⟨t,ht,.inr (.inl ⟨rfl,rfl⟩),this.rot⟩
  .exact⟨t,ht,.inr (.inr ⟨rfl,rfl⟩),this.rot.rot⟩
 have inX:∀t∈out,∀a b c,Vg t a b->Del v a b c->(a,b,c)∈out.flatMap rots:=fun t ht a b c g hd=>by
  have:=(h.mem t ht).2.2;refine mem_flatMap.2 ⟨t,ht,?_⟩;unfold rots;rcases g with⟨rfl,rfl⟩|⟨rfl,rfl⟩|⟨rfl,rfl⟩
  .rw[hd.unique this];simp
  .rw[hd.unique this.rot];simp
  .rw[hd.unique this.rot.rot];simp
 have hX:Ajp (plV v) (out.flatMap rots):=⟨fun a b c g=>by
  obtain⟨t,ht,g1,g2⟩:=memX a b c g;refine inX t ht b c a ?_ g2.rot;have:=(h.mem t ht).2.2;rcases g1 with⟨rfl,rfl⟩|⟨rfl,rfl⟩|⟨rfl,rfl⟩
  .rw[g2.unique this];exact .inr (.inl ⟨rfl,rfl⟩)
  .rw[g2.unique this.rot];exact .inr (.inr ⟨rfl,rfl⟩)
  .rw[g2.unique this.rot.rot];exact .inl ⟨rfl,rfl⟩,fun a b c g=>by
  obtain⟨t,ht,g1,g2⟩:=memX a b c g;exact g2.2.2.2.1⟩
 have dnX:∀p q e,dn p q->Del v p q e->(p,q,e)∈out.flatMap rots:=fun p q e g hd=>by
  rcases h.don p q g with⟨t,ht,g⟩|g
  .exact inX t ht p q e g hd
  .have:=g e hd.2.2.1;have:=hd.2.2.2.1;omega
 have:=Ajq (H:=hV v) (V:=inN v.length) hX (fun a b c g=>by obtain⟨t,ht,g1,g2⟩:=memX a b c g;exact⟨g2.1,g2.2.1,g2.2.2.1⟩) (fun a b c g=>by obtain⟨t,ht,g1,g2⟩:=memX a b c g;exact g2.2.2.2.2)
  (fun a b c g d hd hl=>by
   obtain⟨t,ht,g1,g2⟩:=memX a b c g;rcases h.rev t ht a b g1 with k|k
   .cases k
   .rcases h.don b a k with⟨t',ht',k'⟩|k'
    .obtain⟨e,he⟩:=(h.mem t' ht').side k';exact⟨e,inX t' ht' b a e k' he⟩
    .have:=k' d hd;rw[Ch] at this;omega)
  (fun e=>by
   obtain⟨x,hx⟩:=hs;rcases h.sta with k|k
   .cases k
   .have:=dnX p0 q0 x k hx;rw[e] at this;cases this) t3.1 t3.2.1 t3.2.2.1 t3.2.2.2.1 t3.2.2.2.2
 obtain⟨t',ht',g⟩:=mem_flatMap.1 this;obtain⟨s1,s2,s3⟩:=h.mem t' ht';obtain⟨ta,tb,tc⟩:=t;obtain⟨sa,sb,sc⟩:=t';unfold rots at g;simp only[mem_cons,not_mem_nil,or_false,Prod.mk.injEq] at g t1 t2 s1 s2;rcases g with⟨rfl,rfl,rfl⟩|⟨rfl,rfl,rfl⟩|⟨rfl,rfl,rfl⟩
 .exact ht'
 .omega
 .omega
end
section
variable {v:List Ae}
def behind(v:List Ae)(f b k:Int):Prop:=0<crs (plV v f) (plV v b) (plV v k)\/(crs (plV v f) (plV v b) (plV v k)=0/\¬befP (plV v k) (plV v b))
theorem Ar3{f b d x:Ab}(hf:okP f)(hb:okP b)(hd:okP d)(h1:befP f b)(h2:befP b d)(h0:crs f b d=0)(hx:0<crs f b x):crs b x d<0:=by
 have q1:=(Ar1 hf hb).2 h1;have q2:=(Ar1 hb hd).2 h2;have e:=Bea lexA 1 b f d x;have e1:crs b f d=0:=by rw[Ch];omega
 have e2:crs b x f=crs f b x:=Bu f b x;rw[e1,e2,Int.mul_zero] at e;have e3:=Int.mul_pos (oo:0<ph lexA 1 d-ph lexA 1 b) hx;have e4:(ph lexA 1 f-ph lexA 1 b)*crs b d x = -((ph lexA 1 b-ph lexA 1 f)*crs b d x):=by grind
 have:=Ae0 (x:=ph lexA 1 b-ph lexA 1 f) (y:=crs b d x) oo oo;rw[Af0];omega
theorem Awe(hv:Iv v)(hn:v.length<=1024){f:Int}(hf:inN v.length f)(low:∀ k,inN v.length k->k=f\/befP (plV v f) (plV v k))(h2:2<=v.length):
  ∃b,Rv v f false=some b/\inN v.length b/\b≠f/\∀k,inN v.length k->k≠f->behind v f b k:=by
 unfold Rv;rw[jn_d];have up:∀k,inN v.length k->k≠f->ph lexA 1 (plV v f)<ph lexA 1 (plV v k):=fun k hk hne=>(Ar1 (hv.ok f hf) (hv.ok k hk)).2 ((low k hk).resolve_left hne)
 have:=Ax (B:=Qw v f false) (fun s=>v.length-s.2.toNat)
  (fun s=>0<=s.2/\s.2<=(v.length:Int)/\((s.1 = -1/\∀j,inN v.length j->j<s.2->j=f)\/(inN v.length s.1/\s.1≠f/\∀j,inN v.length j->j<s.2->j≠f->behind v f s.1 j))) (fun t=>inN v.length t/\t≠f/\∀k,inN v.length k->k≠f->behind v f t k) (fun s hs=>by
   obtain⟨out,k⟩:=s;obtain⟨h1,h2',h3⟩:=hs;simp only at h1 h2' h3;unfold Qw;dsimp only
   by_cases hk:k<(v.length:Int)
   .left;have hkn:inN v.length k:=⟨h1,hk⟩;have w1:w64 (k+1)=k+1:=Aq oo oo;rw[iP hk,jn_d]
    by_cases e1:k=f
    .rw[iP e1,w1];refine⟨_,rfl,⟨by dsimp only;omega,by dsimp only;omega,?_⟩,by dsimp only;omega⟩;dsimp only;rcases h3 with⟨g1,g2⟩|⟨g1,g2,g3⟩
     ·exact .inl ⟨g1,fun j hj hl=>by
       by_cases e:j=k
       .rw[e];exact e1
       .exact g2 j hj oo⟩
     .exact .inr ⟨g1,g2,fun j hj hl hne=>g3 j hj oo hne⟩
    .rw[iN e1];have self:behind v f k k:=.inr ⟨Ce _ _,At2 _⟩
     by_cases e2:out<0
     ·rw[if_pos e2,w1];have h4:∀ j,inN v.length j->j<k->j=f:=by
       rcases h3 with⟨_,g⟩|⟨g,_⟩
       .exact g
       .unfold inN at g;omega
      refine⟨_,rfl,⟨by dsimp only;omega,by dsimp only;omega,.inr ⟨hkn,e1,fun j hj hl hne=>?_⟩⟩,by dsimp only;omega⟩;dsimp only at hl⊢
      by_cases e:j=k
      .rw[e];exact self
      .exact absurd (h4 j hj oo) hne
     ·rw[if_neg e2];obtain⟨g1,g2,g3⟩:inN v.length out/\out≠f/\∀ j,inN v.length j->j<k->j≠f->behind v f out j:=by
       rcases h3 with g|g
       .omega
       .exact g
      obtain⟨xa,fa,pa⟩:=Sz (v:=v) hf;obtain⟨xo,fo,po⟩:=Sz (v:=v) g1;obtain⟨xk,fk,pk⟩:=Sz (v:=v) hkn;try rw[jn_d]
      rw[fa,Ac,fo,Ac,fk,Ac];unfold At;rw[Ac,Ac,Ac];dsimp only;rw[pa,po,pk,Aa2 (hv.ok _ hf) (hv.ok _ g1) (hv.ok _ hkn),Ac,jn_d,Apr (hv.ok _ hf) (hv.ok _ g1) (hv.ok _ hkn),w1];have sg:Int.sign (crs (plV v f) (plV v out) (plV v k))<0↔crs (plV v f) (plV v out) (plV v k)<0:=Int.sign_neg_iff;have s0:Int.sign (crs (plV v f) (plV v out) (plV v k))=0↔crs (plV v f) (plV v out) (plV v k)=0:=Int.sign_eq_zero_iff_zero;have po':=up out g1 g2;have pk':=up k hkn e1;have take:(∀j,inN v.length j->j<k->j≠f->behind v f k j)->∃s',(some (.inl (k,k+1)):Option (Sum (Int×Int) Int))=some (.inl s')/\(0<=s'.2/\s'.2<=(v.length:Int)/\((s'.1 = -1/\∀j,inN v.length j->j<s'.2->j=f)\/(inN v.length s'.1/\s'.1≠f/\∀j,inN v.length j->j<s'.2->j≠f->behind v f s'.1 j)))/\v.length-s'.2.toNat<v.length-k.toNat:=fun hx=>
       ⟨_,rfl,⟨by dsimp only;omega,by dsimp only;omega,.inr ⟨hkn,e1,fun j hj hl hne=>by
        dsimp only at hl⊢
        by_cases e:j=k
        .rw[e];exact self
        .exact hx j hj oo hne⟩⟩,by dsimp only;omega⟩
      have keep:behind v f out k->∃s',(some (.inl (out,k+1)):Option (Sum (Int×Int) Int))=some (.inl s')/\(0<=s'.2/\s'.2<=(v.length:Int)/\((s'.1 = -1/\∀j,inN v.length j->j<s'.2->j=f)\/(inN v.length s'.1/\s'.1≠f/\∀j,inN v.length j->j<s'.2->j≠f->behind v f s'.1 j)))/\v.length-s'.2.toNat<v.length-k.toNat:=fun hx=>
       ⟨_,rfl,⟨by dsimp only;omega,by dsimp only;omega,.inr ⟨g1,g2,fun j hj hl hne=>by
        dsimp only at hl⊢
        by_cases e:j=k
        .rw[e];exact hx
        .exact g3 j hj oo hne⟩⟩,by dsimp only;omega⟩
      have turn:∀j,(ph lexA 1 (plV v out)-ph lexA 1 (plV v f))*crs (plV v f) (plV v k) (plV v j)=(ph lexA 1 (plV v k)-ph lexA 1 (plV v f))*crs (plV v f) (plV v out) (plV v j)-(ph lexA 1 (plV v j)-ph lexA 1 (plV v f))*crs (plV v f) (plV v out) (plV v k):=fun j=>by
       have:=Bea lexA 1 (plV v f) (plV v out) (plV v k) (plV v j);rw[Af0 (plV v f) (plV v out) (plV v j),Int.mul_neg] at this;omega
      by_cases c1:crs (plV v f) (plV v out) (plV v k)<0
      .rw[iP (sg.2 c1)];dsimp only;rw[iP rfl];refine take fun j hj hl hne=>.inl ?_
       have t:=turn j;have m2:=Int.mul_pos (show 0<ph lexA 1 (plV v j)-ph lexA 1 (plV v f) by have:=up j hj hne;omega) (oo:0 < -crs (plV v f) (plV v out) (plV v k));rw[Int.mul_neg] at m2;have m1:0<=(ph lexA 1 (plV v k)-ph lexA 1 (plV v f))*crs (plV v f) (plV v out) (plV v j):=Int.mul_nonneg oo (by rcases g3 j hj hl hne with g|g <;> omega);exact Ae0 (x:=ph lexA 1 (plV v out)-ph lexA 1 (plV v f)) oo oo
      .rw[iN (fun g=>c1 (sg.1 g))]
       by_cases c2:crs (plV v f) (plV v out) (plV v k)=0
       .rw[iP (s0.2 c2),Ac];have nok:=Abd hv g1 hkn
        by_cases c3:Box (plV v f) (plV v out) (plV v k)
        .rw[dT ⟨c2,c3⟩];have hko:¬befP (plV v out) (plV v k):=fun e=>Bfr c2 (Af1 ((low out g1).resolve_left g2)) e (Abd hv hf g1 (fun e=>g2 e.symm)) c3
         dsimp only;rw[iP (by rfl)];refine take fun j hj hl hne=>?_
         have t:=turn j;rw[c2,Int.mul_zero,Int.sub_zero] at t;rcases g3 j hj hl hne with g|⟨g,g'⟩
         .left;have m1:=Int.mul_pos (oo:0<ph lexA 1 (plV v k)-ph lexA 1 (plV v f)) g;exact Ae0 (x:=ph lexA 1 (plV v out)-ph lexA 1 (plV v f)) oo oo
         .right;rw[g,Int.mul_zero] at t;refine⟨?_,fun e=>?_⟩
          .rcases Int.mul_eq_zero.1 t with t|t
           .omega
           .exact t
          .unfold befP at *;omega
        .rw[dF (fun g=>c3 g.2)];dsimp only;rw[iN s_];refine keep (.inr ⟨c2,fun e=>c3 ?_⟩);exact Bcw c2 (Af1 ((low k hkn).resolve_left e1)) (Af1 e)
       .rw[iN (fun g=>c2 (s0.1 g))];dsimp only;rw[iN s_];exact keep (.inl oo)
   .right;rw[iN hk];refine⟨_,rfl,?_⟩;rcases h3 with⟨g1,g2⟩|⟨g1,g2,g3⟩
    .have x0:(0:Int)=f:=g2 0 ⟨oo,oo⟩ oo;have x1:(1:Int)=f:=g2 1 ⟨oo,oo⟩ oo;omega
    .exact⟨g1,g2,fun j hj hne=>g3 j hj (by have:=hj.2;omega) hne⟩) (-1,0) ⟨s_,s_,.inl ⟨rfl,fun j hj hl=>by unfold inN at hj;simp only at hl;omega⟩⟩
 obtain⟨t,ht,g⟩:=this;rw[ht,Ac];exact⟨t,rfl,g⟩
end
section
variable {v:List Ae}{a b:Int}
theorem Apu(v:List Ae)(i k:Int):Nh v [] i k=some true:=by
 unfold Nh;rw[jn_d,Ay];unfold Vc;rw[iN s_];rfl
theorem Awf(hv:Iv v)(hn:v.length<=1024)(ha:inN v.length a)(hb:inN v.length b):∃s,lfix (Lz v a b []) (([]:LI),0)=some s/\Best v a b v.length s:=by
 refine Ax (B:=Lz v a b []) (fun s=>v.length-s.2.toNat) (fun s=>0<=s.2/\s.2<=(v.length:Int)/\Best v a b s.2 s.1/\(s.1.length:Int)<=s.2) (fun t=>Best v a b v.length t) (fun s hs=>?_) _ ⟨s_,s_,Best.nil,s_⟩;obtain⟨l,k⟩:=s;obtain⟨h1,h2,h3,h4⟩:=hs;dsimp only at h1 h2 h3 h4;unfold Lz;dsimp only
 by_cases hk:k<(v.length:Int)
 ·left;have hkn:inN v.length k:=⟨h1,hk⟩;obtain⟨xa,fa,pa⟩:=Sz (v:=v) ha;obtain⟨xb,fb,pb⟩:=Sz (v:=v) hb;obtain⟨xk,fk,pk⟩:=Sz (v:=v) hkn;have w1:w64 (k+1)=k+1:=Aq oo oo;have sg:Int.sign (crs (plV v a) (plV v b) (plV v k))<=0↔crs (plV v a) (plV v b) (plV v k)<=0:=by
   have:=@Int.sign_eq_one_iff_pos (crs (plV v a) (plV v b) (plV v k));have:=Int.sign_trichotomy (crs (plV v a) (plV v b) (plV v k));omega
  have go:∀l',Best v a b (k+1) l'->(l'.length:Int)<=k+1->∃s',(some (.inl (l',w64 (k+1))):Option (Sum (LI×Int) LI))=some (.inl s')/\(0<=s'.2/\s'.2<=(v.length:Int)/\Best v a b s'.2 s'.1/\(s'.1.length:Int)<=s'.2)/\v.length-s'.2.toNat<v.length-k.toNat:=fun l' g g'=>
   ⟨_,rfl,⟨by dsimp only;omega,by dsimp only;omega,by dsimp only;rw[w1];exact g,by dsimp only;omega⟩,by dsimp only;omega⟩
  rw[iP hk,jn_d,jn_d,fa,Ac,fb,Ac,fk,Ac];unfold At;rw[Ac,Ac,Ac,pa,pb,pk,Aa2 (hv.ok _ ha) (hv.ok _ hb) (hv.ok _ hkn),Ac]
  by_cases c1:crs (plV v a) (plV v b) (plV v k)<=0
  .rw[iP (sg.2 c1)];dsimp only;rw[iP rfl];exact go l (h3.skip c1) oo
  .have hp:0<crs (plV v a) (plV v b) (plV v k):=oo;rw[iN (fun g=>c1 (sg.1 g)),Apu,Ac,iP rfl,Apu,Ac];dsimp only;rw[iN s_]
   by_cases c2:l=[]
   .subst c2;rw[iP s_];exact go [k] (h3.first hkn hp) (by simp;omega)
   .obtain⟨c,r,rfl⟩:=exists_cons_of_ne_nil c2;have hc:c∈c::r:=s_;have hcn:=(h3.mem c hc).1;obtain⟨xc,fc,pc⟩:=Sz (v:=v) hcn;have i0:idx (c::r) 0=some c:=Aj (l:=c::r) (j:=0) s_;rw[iN (by simp;omega)];simp only[i0,fc,Ac,pc,pa,pb,pk];rw[Arb (hv.ok _ ha) (hv.ok _ hb) (hv.ok _ hcn) (hv.ok _ hkn),Ac];rcases Int.lt_trichotomy (inC (plV v a) (plV v b) (plV v c) (plV v k)) 0 with g|g|g
    .rw[Int.sign_eq_neg_one_of_neg g,iN oo,iN oo];exact go _ (h3.worse hc g) oo
    .rw[g,Int.sign_zero,iN oo,iP rfl,gd_t oo];exact go _ (h3.tie hkn hp hc g) (by rw[length_append,length_singleton];omega)
    .rw[Int.sign_eq_one_of_pos g,iP rfl];exact go [k] (h3.better hkn hp hc g) (by simp;omega)
 .right;rw[iN hk];have:k=v.length:=oo;subst this;exact⟨_,rfl,h3⟩
theorem Bcz{l:LI}(hl:l.length<=5000)(c:Int):lfix (Lx l c) (false,0)=some (decide (c∈l)):=by
 have:=Ax (B:=Lx l c) (fun s=>l.length-s.2.toNat) (fun s=>∃k:Nat,k<=l.length/\s=(decide (c∈l.take k),(k:Int))) (fun t=>t=decide (c∈l)) (fun s hs=>by
  obtain⟨k,hk,rfl⟩:=hs;unfold Lx;dsimp only
  by_cases hk2:k<l.length
  ·left;rw[if_pos oo,jn_d,Aj hk2,Ac,show w64 ((k:Int)+1)=((k+1:Nat):Int) from by rw[Aq oo oo];omega];refine⟨_,?_,⟨k+1,hk2,rfl⟩,by dsimp only;omega⟩;have e:(c∈l.take (k+1))↔(c∈l.take k\/l[k]=c):=by
    rw[take_succ_eq_append_getElem hk2,mem_append,mem_singleton];exact or_congr_right ⟨fun h=>h.symm,fun h=>h.symm⟩
   by_cases h1:c∈l.take k
   .simp[h1,e]
   .simp[h1,e]
  .right;rw[iN oo];have:k=l.length:=oo;subst this;exact⟨_,rfl,by rw[take_length]⟩) (false,0) ⟨0,oo,s_⟩
 obtain⟨t,ht,rfl⟩:=this;exact ht
theorem Bc0(hv:Iv v)(hn:v.length<=1024)(ha:inN v.length a){l out:List Int}(hl:Circ v a b l)(hll:l.length<=1024)(ho:out.length<=5000)(hex:∃ y∈l,y ∉ out):
  ∃x,lfix (Ly l v a out) (-1,0)=some x/\x∈l/\x∉out/\∀y∈l,y∉out->y≠x->0<crs (plV v a) (plV v x) (plV v y):=by
 refine Ax (B:=Ly l v a out) (fun s=>l.length-s.2.toNat)
  (fun s=>∃k:Nat,k<=l.length/\s.2=(k:Int)/\((s.1 = -1/\∀y∈l.take k,y∈out)\/(s.1∈l/\s.1∉out/\∀y∈l.take k,y∉out->y≠s.1->0<crs (plV v a) (plV v s.1) (plV v y)))) _ (fun s hs=>?_) _ ⟨0,oo,rfl,.inl ⟨rfl,fun y hy=>by simp at hy⟩⟩
 obtain⟨x,i⟩:=s;obtain⟨k,hk,rfl,h3⟩:=hs;dsimp only at h3;unfold Ly;dsimp only
 by_cases hk2:k<l.length
 .left;have w1:w64 ((k:Int)+1)=((k+1:Nat):Int):=by rw[Aq oo oo];omega
  have hmem:l[k]∈l:=gM hk2;have ts:l.take (k+1)=l.take k++[l[k]]:=take_succ_eq_append_getElem hk2;have sub:∀y,y∈l.take k->y∈l:=fun y=>mem_of_mem_take
  rw[iP oo,jn_d,Aj hk2,Ac,jn_d,Bcz ho,Ac];dsimp only;rw[jn_d,w1]
  by_cases c1:l[k]∈out
  .rw[iP (sV c1)];dsimp only;rw[iN s_];refine⟨_,rfl,⟨k+1,hk2,rfl,?_⟩,by dsimp only;omega⟩;dsimp only;rcases h3 with⟨g1,g2⟩|⟨g1,g2,g3⟩
   .refine .inl ⟨g1,fun y hy=>?_⟩;rw[ts,mem_append,mem_singleton] at hy;rcases hy with hy|rfl
    .exact g2 y hy
    .exact c1
   .refine .inr ⟨g1,g2,fun y hy hno=>?_⟩;rw[ts,mem_append,mem_singleton] at hy;rcases hy with hy|rfl
    .exact g3 y hy hno
    .exact absurd c1 hno
  .rw[iN (sV c1)]
   by_cases c2:x<0
   .rw[iP c2];dsimp only;rw[iP rfl];refine⟨_,rfl,⟨k+1,hk2,rfl,.inr ⟨hmem,c1,fun y hy hno hne=>?_⟩⟩,by dsimp only;omega⟩;dsimp only at hne⊢;rw[ts,mem_append,mem_singleton] at hy;rcases hy with hy|rfl
    .rcases h3 with⟨_,g⟩|⟨g,_⟩
     .exact absurd (g y hy) hno
     .have:=(hl.mem x g).1.1;omega
    .exact absurd rfl hne
   ·obtain⟨g1,g2,g3⟩:x∈l/\x ∉ out/\∀ y∈l.take k,y ∉ out->y≠x->0<crs (plV v a) (plV v x) (plV v y):=by
     rcases h3 with g|g
     .omega
     .exact g
    obtain⟨xa,fa,pa⟩:=Sz (v:=v) ha;obtain⟨xk,fk,pk⟩:=Sz (v:=v) (hl.mem _ hmem).1;obtain⟨xx,fx,px⟩:=Sz (v:=v) (hl.mem _ g1).1;rw[iN c2,fa,Ac,fk,Ac,fx,Ac];unfold At;rw[Ac,Ac,Ac,pa,pk,px,Aa2 (hv.ok _ ha) (hv.ok _ (hl.mem _ hmem).1) (hv.ok _ (hl.mem _ g1).1),Ac];have sg:0<Int.sign (crs (plV v a) (plV v l[k]) (plV v x))↔0<crs (plV v a) (plV v l[k]) (plV v x):=Int.sign_pos_iff
    by_cases c3:0<crs (plV v a) (plV v l[k]) (plV v x)
    .dsimp only;rw[iP (by simpa using sg.2 c3)];refine⟨_,rfl,⟨k+1,hk2,rfl,.inr ⟨hmem,c1,fun y hy hno hne=>?_⟩⟩,by dsimp only;omega⟩;dsimp only at hne⊢;rw[ts,mem_append,mem_singleton] at hy;rcases hy with hy|rfl
     .by_cases e:y=x
      .rw[e];exact c3
      .exact hl.trans hmem g1 (sub y hy) c3 (g3 y hy hno e)
     .exact absurd rfl hne
    .dsimp only;rw[iN (by simpa using fun g=>c3 (sg.1 g))];refine⟨_,rfl,⟨k+1,hk2,rfl,.inr ⟨g1,g2,fun y hy hno hne=>?_⟩⟩,by dsimp only;omega⟩;dsimp only at hne⊢;rw[ts,mem_append,mem_singleton] at hy;rcases hy with hy|rfl
     .exact g3 y hy hno hne
     .have:=hl.ne0 hv hmem g1 hne;rw[Af0];omega
 .right;rw[iN oo];have:k=l.length:=oo;subst this;rw[take_length] at h3;rcases h3 with⟨_,g⟩|g
  .obtain⟨y,hy,hno⟩:=hex;exact absurd (g y hy) hno
  .exact⟨_,rfl,g⟩
theorem ring_eq(hv:Iv v)(hn:v.length<=1024)(ha:inN v.length a){l:List Int}(hl:Circ v a b l)(hll:l.length<=1024):
  ∃m,Rh v a b l=some (a::b::m)/\Ring v a b m/\(∀x,x∈m↔x∈l):=by
 have hal:a∉l:=fun h=>by have:=(hl.mem a h).2;rw[Hd] at this;omega
 have hbl:b∉l:=fun h=>by have:=(hl.mem b h).2;rw[Ce] at this;omega
 unfold Rh;rw[jn_d];have:=Ax (B:=Qq l v a) (fun s=>l.length+2-s.length)
  (fun s=>∃m:LI,s=a::b::m/\m.Nodup/\(∀x∈m,x∈l)/\(m.Pairwise fun x y=>0<crs (plV v a) (plV v x) (plV v y))/\∀x∈m,∀y∈l,y∉m->0<crs (plV v a) (plV v x) (plV v y))
  (fun t=>∃m:LI,t=a::b::m/\m.Nodup/\(∀x,x∈m↔x∈l)/\(m.Pairwise fun x y=>0<crs (plV v a) (plV v x) (plV v y))) (fun s hs=>by
  obtain⟨m,rfl,h1,h2,h3,h4⟩:=hs;have hle:=Bn h1 h2;unfold Qq;rw[Aq (x:=(l.length:Int)+2) oo oo]
  by_cases c:m.length<l.length
  ·left;rw[if_pos (by simp only[length_cons];omega),jn_d];have hex:∃ y∈l,y ∉ a::b::m:=by
    refine Classical.byContradiction fun hno=>?_
    have:∀y∈l,y∈m:=fun y hy=>by
     refine Classical.byContradiction fun g=>hno ⟨y,hy,fun e=>?_⟩
     rcases mem_cons.1 e with rfl|e
     .exact hal hy
     .rcases mem_cons.1 e with rfl|e
      .exact hbl hy
      .exact g e
    have:=Bn hl.nd this;omega
   obtain⟨x,e1,e2,e3,e4⟩:=Bc0 hv hn ha hl hll (out:=a::b::m) (by simp only[length_cons];omega) hex;rw[e1,Ac];dsimp only;rw[gd_t (by simp only[length_cons];omega)];have hxm:x∉m:=fun g=>e3 (by simp[g])
   refine⟨_,rfl,⟨m++[x],rfl,?_,fun y hy=>?_,?_,fun y hy z hz hzn=>?_⟩,by simp only[cons_append,length_cons,length_append,length_nil];omega⟩
   .rw[nodup_append];refine⟨h1,s_,fun y hy z hz e=>?_⟩;rw[mem_singleton] at hz;subst hz;subst e;exact hxm hy
   .rcases mem_append.1 hy with hy|hy
    .exact h2 y hy
    .rw[mem_singleton] at hy;subst hy;exact e2
   .rw[pairwise_append];refine⟨h3,s_,fun y hy z hz=>?_⟩;rw[mem_singleton] at hz;subst hz;exact h4 y hy z e2 hxm
   .have hzm:z∉m:=fun g=>hzn (by simp[g])
    have hzx:z≠x:=fun g=>hzn (by simp[g])
    rcases mem_append.1 hy with hy|hy
    .exact h4 y hy z hz hzm
    .rw[mem_singleton] at hy;subst hy;refine e4 z hz (fun g=>?_) hzx;rcases mem_cons.1 g with rfl|g
     .exact hal hz
     .rcases mem_cons.1 g with rfl|g
      .exact hbl hz
      .exact hzm g
  .right;rw[iN (by simp only[length_cons];omega)];refine⟨_,rfl,m,rfl,h1,fun x=>⟨h2 x,fun hx=>?_⟩,h3⟩;refine Classical.byContradiction fun g=>?_
   have:(x::m).Nodup:=nodup_cons.2 ⟨g,h1⟩;have:=Bn this (fun y hy=>by rcases mem_cons.1 hy with rfl|hy;exact hx;exact h2 y hy);rw[length_cons] at this;omega) [a,b] ⟨[],rfl,nodup_nil,fun x hx=>(by cases hx),List.Pairwise.nil,fun x hx=>(by cases hx)⟩
 obtain⟨t,ht,m,rfl,h1,h2,h3⟩:=this;rw[ht,Ac];exact⟨m,rfl,⟨hl.sub (fun x hx=>(h2 x).1 hx) h1,h3⟩,h2⟩
theorem Bfs(hv:Iv v){r:List Int}(hr:r.length<=5000)(hne:r≠[])(hin:∀ x∈r,inN v.length x):
  ∃(m:Nat) (hm:m<r.length),lfix (Kb r v) (0,0)=some (m:Int)/\∀y∈r,¬befP (plV v y) (plV v r[m]):=by
 have:=Ax (B:=Kb r v) (fun s=>r.length-s.2.toNat)
  (fun s=>∃(m k:Nat) (hm:m<r.length),k<=r.length/\s=((m:Int),(k:Int))/\∀y∈r.take k,¬befP (plV v y) (plV v r[m])) (fun t=>∃(m:Nat) (hm:m<r.length),t=(m:Int)/\∀y∈r,¬befP (plV v y) (plV v r[m])) (fun s hs=>by
  obtain⟨m,k,hm,hk,rfl,h⟩:=hs;unfold Kb;dsimp only
  by_cases hk2:k<r.length
  .left;have ts:r.take (k+1)=r.take k++[r[k]]:=take_succ_eq_append_getElem hk2;obtain⟨xk,fk,pk⟩:=Sz (v:=v) (hin _ (gM hk2));obtain⟨xm,fm,pm⟩:=Sz (v:=v) (hin _ (gM hm));rw[iP oo,jn_d,Aj hk2,Ac,fk,Ac,Aj hm,Ac,fm,Ac];unfold At;rw[Ac,Ac,pk,pm,Aka,Ac,show w64 ((k:Int)+1)=((k+1:Nat):Int) from by rw[Aq oo oo];omega]
   by_cases c:befP (plV v r[k]) (plV v r[m])
   .rw[iP (sV c)];refine⟨_,rfl,⟨k,k+1,hk2,hk2,rfl,fun y hy=>?_⟩,by dsimp only;omega⟩;rw[ts,mem_append,mem_singleton] at hy;rcases hy with hy|rfl
    .exact fun g=>h y hy (Mj g c)
    .exact At2 _
   .rw[iN (sV c)];refine⟨_,rfl,⟨m,k+1,hm,hk2,rfl,fun y hy=>?_⟩,by dsimp only;omega⟩;rw[ts,mem_append,mem_singleton] at hy;rcases hy with hy|rfl
    .exact h y hy
    .exact c
  .right;rw[iN oo];have:k=r.length:=oo;subst this;rw[take_length] at h;exact⟨_,rfl,m,hm,rfl,h⟩) (0,0) ⟨0,0,length_pos_iff.2 hne,oo,rfl,fun y hy=>by simp at hy⟩
 obtain⟨t,ht,m,hm,rfl,h⟩:=this;exact⟨m,hm,ht,h⟩
theorem Az5{α:Type}{l:List α}(h:l.Nodup){i j:Nat}(hi:i<l.length)(hj:j<l.length)(hne:i≠j):l[i]≠l[j]:=by
 have:=pairwise_iff_getElem.1 h;rcases Nat.lt_trichotomy i j with g|g|g
 .exact this i j hi hj g
 .exact absurd g hne
 .exact fun e=>this j i hj hi g e.symm
theorem Bc1{r:LI}(hr:r.length<=5000)(hn:r.Nodup){m:Nat}(hm:m<r.length):lfix (Ja r m) (([]:LI),0)=some (r.filter fun y=>decide (y≠r[m])):=by
 have:=Ax (B:=Ja r m) (fun s=>r.length-s.2.toNat) (fun s=>∃k:Nat,k<=r.length/\s=((r.take k).filter (fun y=>decide (y≠r[m])),(k:Int))) (fun t=>t=r.filter fun y=>decide (y≠r[m])) (fun s hs=>by
  obtain⟨k,hk,rfl⟩:=hs;unfold Ja;dsimp only
  by_cases hk2:k<r.length
  .left;have ts:r.take (k+1)=r.take k++[r[k]]:=take_succ_eq_append_getElem hk2;have w1:w64 ((k:Int)+1)=((k+1:Nat):Int):=by rw[Aq oo oo];omega
   rw[iP oo,jn_d,w1]
   by_cases c:k=m
   .subst c;rw[iP rfl];refine⟨_,rfl,⟨k+1,hk2,?_⟩,by dsimp only;omega⟩;rw[ts,filter_append];simp
   ·have hne:r[k]≠r[m]:=Az5 hn hk2 hm c;have hle:((r.take k).filter fun y=>decide (y≠r[m])).length<=r.length:=by
     have h1:=length_filter_le (fun y=>decide (y≠r[m])) (r.take k);rw[length_take] at h1;omega
    rw[iN oo,Aj hk2,Ac,gd_t oo];refine⟨_,rfl,⟨k+1,hk2,?_⟩,by dsimp only;omega⟩;rw[ts,filter_append];simp[hne]
  .right;rw[iN oo];have:k=r.length:=oo;subst this;exact⟨_,rfl,by rw[take_length]⟩) (([]:LI),0) ⟨0,oo,s_⟩
 obtain⟨t,ht,rfl⟩:=this;exact ht
theorem tm(x n:Int)(hx:0<=x):Int.tmod x n=x%n:=Int.tmod_eq_emod_of_nonneg hx
theorem Ar4(hv:Iv v)(hn:v.length<=1024)(ha:inN v.length a)(hb:inN v.length b):∀ (n:Nat) (l:List Int),l.length=n->n<=1024->l≠[]->Ring v a b l ->
  ∃c,Ans v a b l c/\(lfix (Ef b a v) (a::b::l)=some (.inr c)\/lfix (Ef b a v) (a::b::l)=some (.inl [a,b,c])):=by
 intro n
 induction n with
 |zero=>intro l hl _ hne _;exact absurd (eq_nil_of_length_eq_zero hl) hne
 |succ n ih=>
  intro l hl hn1 hne hr;have hal:a∉l:=fun h=>by have:=(hr.circ.mem a h).2;rw[Hd] at this;omega
  have hbl:b∉l:=fun h=>by have:=(hr.circ.mem b h).2;rw[Ce] at this;omega
  have hab:a≠b:=fun e=>by
   obtain⟨x,hx⟩:=exists_mem_of_ne_nil l hne;have:=(hr.circ.mem x hx).2;rw[e,Aa3] at this;omega
  by_cases hn0:n=0
  .subst hn0;obtain⟨c,rfl⟩:=length_eq_one_iff.1 hl;refine⟨c,⟨s_,fun d hd hne=>absurd (sV hd) hne⟩,.inr ?_⟩;rw[Ay];unfold Ef;rw[iN s_]
  .have hlen:(a::b::l).length=n+3:=by simp[hl]
   have hnd:(a::b::l).Nodup:=by
    rw[nodup_cons,nodup_cons];refine⟨fun h=>?_,hbl,hr.circ.nd⟩;rcases mem_cons.1 h with h|h
    .exact hab h
    .exact hal h
   have hin:∀x∈a::b::l,inN v.length x:=fun x hx=>by
    rcases mem_cons.1 hx with rfl|hx
    .exact ha
    .rcases mem_cons.1 hx with rfl|hx
     .exact hb
     .exact (hr.circ.mem x hx).1
   obtain⟨m,hm,h1,h2⟩:=Bfs (r:=a::b::l) hv oo s_ hin;have far:∀y∈a::b::l,y≠(a::b::l)[m]->befP (plV v (a::b::l)[m]) (plV v y):=fun y hy hne=>by
    rcases Qs (Abd hv (hin _ (gM hm)) (hin y hy) (fun e=>hne e.symm)) with g|g
    .exact g
    .exact absurd g (h2 y hy)
   have step:∀ x y z,idx (a::b::l) (Int.tmod (w64 ((w64 ((m:Int)+(((a::b::l).length:Nat):Int)))-1)) (((a::b::l).length:Nat):Int))=some x->idx (a::b::l) (Int.tmod (w64 ((m:Int)+1)) (((a::b::l).length:Nat):Int))=some y->(a::b::l)[m]=z ->
     Ef b a v (a::b::l)=if z=a/\y=b then some (.inr (.inr x)) else if z=b/\x=a then some (.inr (.inr y)) else some (.inl ((a::b::l).filter fun y=>decide (y≠z))):=fun x y z hx hy hz=>by
    unfold Ef;rw[iP oo,jn_d,h1,Ac];dsimp only;rw[gd_t oo,hx,Ac,gd_t oo,hy,Ac,jn_d,Aj hm,Ac,hz];have c:=Bc1 (r:=a::b::l) oo hnd hm;rw[hz] at c;rw[jn_d,Ac,jn_d,c,Ac];dsimp only;have hba:b≠a:=fun e=>hab e.symm
    by_cases e1:z=a
    .have e3:z≠b:=fun e=>hab (by rw[<-e1,e])
     by_cases e2:y=b
     .simp[e1,e2]
     .simp[e1,e2,hab]
    .by_cases e3:z=b
     .by_cases e4:x=a
      .simp[e3,e4,hba]
      .simp[e3,e4,hba]
     .simp[e1,e3]
   have m1:Int.tmod (w64 ((w64 ((m:Int)+(((a::b::l).length:Nat):Int)))-1)) (((a::b::l).length:Nat):Int)=((m:Int)+(n+2))%(n+3):=by
    rw[hlen,Aq (x:=(m:Int)+((n+3:Nat):Int)) oo oo,Aq oo oo,tm _ _ oo];congr 1;omega
   have m2:Int.tmod (w64 ((m:Int)+1)) (((a::b::l).length:Nat):Int)=((m:Int)+1)%(n+3):=by
    rw[hlen,Aq oo oo,tm _ _ oo];rfl
   rw[m1,m2] at step;rw[hlen] at hm
   by_cases cm0:m=0
   ·-- a is the first
    subst cm0;obtain⟨l',c,rfl⟩:∃l' c,l=l'++[c]:=⟨l.dropLast,l.getLast hne,(dropLast_concat_getLast hne).symm⟩;have i1:idx (a::b::(l'++[c])) (((0:Nat):Int)+(n+2))=some c:=by
     have:(((0:Nat):Int)+(n+2))=((n+2:Nat):Int):=oo;rw[this,Aj (by rw[hlen];omega)];have hn':l'.length=n:=by simpa using hl
     congr 1;simp only[getElem_cons_succ];rw[getElem_append_right oo];simp[hn']
    have i2:idx (a::b::(l'++[c])) (((0:Nat):Int)+1)=some b:=Aj (l:=a::b::(l'++[c])) (j:=1) s_;rw[Int.emod_eq_of_lt oo oo,Int.emod_eq_of_lt oo oo] at step;have st:=step c b a i1 i2 rfl;rw[iP ⟨rfl,rfl⟩] at st;refine⟨c,hr.ans_a hv ha hb (far b s_ (fun e=>hab e.symm)) (fun x hx=>far x (by simp only[mem_cons];exact .inr (.inr hx)) (fun e=>?_)),.inl ?_⟩
    .have e:x=a:=e;rw[e] at hx;exact hal hx
    .rw[Ay,st]
   .by_cases cm1:m=1
    ·subst cm1;obtain⟨c,l',rfl⟩:=exists_cons_of_ne_nil hne;have i1:idx (a::b::c::l') ((((1:Nat):Int)+(n+2)) % (n+3))=some a:=by
      have:(((1:Nat):Int)+(n+2))%(n+3)=((0:Nat):Int):=by
       rw[show (((1:Nat):Int)+((n:Int)+2))=(n:Int)+3 by omega,Int.emod_self];rfl
      rw[this];exact Aj (l:=a::b::c::l') (j:=0) s_
     have i2:idx (a::b::c::l') ((((1:Nat):Int)+1)%(n+3))=some c:=by
      rw[Int.emod_eq_of_lt oo oo];exact Aj (l:=a::b::c::l') (j:=2) s_
     have st:=step a c b i1 i2 rfl;rw[iN (fun g=>hab g.1.symm),iP ⟨rfl,rfl⟩] at st;refine⟨c,hr.ans_b hv ha hb (far a s_ hab) (fun x hx=>far x (by simp only[mem_cons] at hx⊢;exact .inr (.inr hx)) (fun e=>?_)),.inl ?_⟩
     .have e:x=b:=e;rw[e] at hx;exact hbl hx
     .rw[Ay,st]
    ·-- one of the others
     obtain⟨k,rfl⟩:∃k,m=k+2:=⟨m-2,oo⟩;have hk:k<l.length:=oo;have hx:(a::b::l)[k+2]'(by rw[hlen];omega)=l[k]:=rfl;have hxl:l[k]∈l:=gM hk;have e1:∃x,idx (a::b::l) ((((k+2:Nat):Int)+(n+2))%(n+3))=some x:=by
      obtain⟨j,hj⟩:=Int.eq_ofNat_of_zero_le (Int.emod_nonneg (((k+2:Nat):Int)+(n+2)) (oo:((n:Int)+3)≠0));have:=Int.emod_lt_of_pos (((k+2:Nat):Int)+(n+2)) (oo:(0:Int)<(n:Int)+3);rw[hj] at this⊢;exact⟨_,Aj (by rw[hlen];omega)⟩
     have e2:∃x,idx (a::b::l) ((((k+2:Nat):Int)+1)%(n+3))=some x:=by
      obtain⟨j,hj⟩:=Int.eq_ofNat_of_zero_le (Int.emod_nonneg (((k+2:Nat):Int)+1) (oo:((n:Int)+3)≠0));have:=Int.emod_lt_of_pos (((k+2:Nat):Int)+1) (oo:(0:Int)<(n:Int)+3);rw[hj] at this⊢;exact⟨_,Aj (by rw[hlen];omega)⟩
     obtain⟨x,e1⟩:=e1;obtain⟨y,e2⟩:=e2;have st:=step x y l[k] e1 e2 hx;have na:l[k]≠a:=fun e=>hal (e▸hxl)
     have nb:l[k]≠b:=fun e=>hbl (e▸hxl)
     rw[iN (fun g=>na g.1),iN (fun g=>nb g.1),filter_cons_of_pos (by simpa using fun e=>na e.symm),filter_cons_of_pos (by simpa using fun e=>nb e.symm)] at st;have hsub:∀z,z∈(l.filter fun y=>decide (y≠l[k]))↔z∈l/\z≠l[k]:=fun z=>by rw[mem_filter];simp
     have hlen2:(l.filter fun y=>decide (y≠l[k])).length=n:=by
      have h3:=hr.circ.nd.erase_eq_filter l[k];have h4:(l.filter fun y=>decide (y≠l[k]))=l.filter (fun y=>y != l[k]):=filter_congr fun y _=>by by_cases g:y=l[k] <;> simp[g]
      rw[h4,<-h3,length_erase_of_mem hxl,hl];rfl
     obtain⟨c,g1,g2⟩:=ih _ hlen2 oo (fun e=>by rw[e] at hlen2;simp at hlen2;omega) ⟨hr.circ.sub (fun z hz=>((hsub z).1 hz).1) (hr.circ.nd.filter _),hr.ord.filter _⟩;rw[hx] at far;refine⟨c,hr.ans_cut hv ha hb hxl (far a s_ (fun e=>na e.symm)) (far b s_ (fun e=>nb e.symm)) (fun z hz hzn=>far z (by simp[hz]) hzn) hsub g1,?_⟩;rw[Ay,st];exact g2
theorem Az6(hv:Iv v)(hn:v.length<=1024)(ha:inN v.length a)(hb:inN v.length b){l:LI}(hll:l.length<=1024)(hne:l≠[])(hr:Ring v a b l):∃c,Pw v a b (a::b::l)=some c/\Ans v a b l c:=by
 obtain⟨c,h1,h2⟩:=Ar4 hv hn ha hb l.length l rfl hll hne hr;refine⟨c,?_,h1⟩;unfold Pw;rw[jn_d];rcases h2 with h2|h2
 .rw[h2,Ac]
 .rw[h2,Ac];dsimp only;have hc:=hr.circ.mem c h1.1;have nca:c≠a:=fun e=>by have:=hc.2;rw[e,Hd] at this;omega
  have ncb:c≠b:=fun e=>by have:=hc.2;rw[e,Ce] at this;omega
  have nab:b≠a:=fun e=>by have:=hc.2;rw[e,Aa3] at this;omega
  have s0:Cp [a,b,c] a b 0=some (.inl 1):=by
   unfold Cp;rw[iP s_,show idx [a,b,c] 0=some a from rfl,Ac,jn_d,iP rfl];dsimp only;rw[iN s_,Aq oo oo];rfl
  have s1:Cp [a,b,c] a b 1=some (.inl 2):=by
   unfold Cp;rw[iP s_,show idx [a,b,c] 1=some b from rfl,Ac,jn_d,iN nab];dsimp only;rw[iN s_,Aq oo oo];rfl
  have s2:Cp [a,b,c] a b 2=some (.inr (.inr c)):=by
   unfold Cp;rw[iP s_,show idx [a,b,c] 2=some c from rfl,Ac,jn_d,iN nca];dsimp only;rw[iP (sV ncb)]
  rw[jn_d,Ay,s0];dsimp only;rw[Ay,s1];dsimp only;rw[Ay,s2,Ac]
theorem Ann(hv:Iv v)(hn:v.length<=1024)(ha:inN v.length a)(hb:inN v.length b):∃c,Ri v [] a b=some c/\((c = -1/\∀d,inN v.length d->crs (plV v a) (plV v b) (plV v d)<=0)\/Top v a b c):=by
 obtain⟨s,h1,h2⟩:=Awf hv hn ha hb;unfold Ri;rw[jn_d,h1,Ac];dsimp only
 by_cases hs:s=[]
 .rw[iP (by simp[hs])];exact⟨-1,rfl,.inl ⟨rfl,fun d hd=>h2.none hs d hd hd.2⟩⟩
 ·have hpos:=length_pos_iff.2 hs;have hle:s.length<=1024:=by
   have:=Bn (m:=inds v.length) h2.nd (fun x hx=>Xl.2 (h2.mem x hx).1);rw[Aa5] at this;omega
  rw[iN oo];obtain⟨m,g1,g2,g3⟩:=ring_eq hv hn ha h2.circ hle;have hm:m≠[]:=fun e=>by
   obtain⟨x,hx⟩:=exists_mem_of_ne_nil s hs;have:=(g3 x).2 hx;rw[e] at this;cases this
  have hml:m.length<=1024:=by
   have:=Bn g2.circ.nd (fun x hx=>(g3 x).1 hx);omega
  obtain⟨c,e1,e2⟩:=Az6 hv hn ha hb hml hm g2;rw[g1,Ac,e1,Ac];exact⟨c,rfl,.inr (h2.ans hv ha hb g3 e2)⟩
end
end Go.Proofs.YthlkpgdfifnagaaGreat
