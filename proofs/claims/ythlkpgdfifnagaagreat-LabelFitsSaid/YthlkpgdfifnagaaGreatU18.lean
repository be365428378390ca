import Derived.Test.YthlkpgdfifnagaaGreatU8
import Derived.Test.YthlkpgdfifnagaaGreatE2
namespace Go.Proofs.YthlkpgdfifnagaaGreat
open Go Go.RowKit List
theorem Ahu(p q:Aa):Fe p q=some (decide (befP p q)):=by
 unfold Fe befP;grind [Ad,jn_d]
theorem Abn{v:List Ac}{i:Int}(hi:inN v.length i):∃ x,idx v i=some x/\(⟨x.X,x.Y⟩:Aa)=plV v i:=by
 obtain⟨k,hk,rfl,e⟩:=Jn (v:=v) (i:=i) hi;exact⟨v[k],e,by unfold plV;rw[e]⟩
def BtwF(p q r:Aa):Prop:=Btw p q r/\¬ Bx r p/\¬ Bx r q
theorem Wa{p q r:Aa}(hp:okP p)(hq:okP q)(hr:okP r)[Decidable (BtwF p q r)]:Ju p q r=some (decide (BtwF p q r)):=by
 unfold Ju;rw[jn_d,turn_eq hp hq hr,Ad,Ahu,Ahu];have e0:(Int.sign (crs p q r)=0)↔crs p q r=0:=Int.sign_eq_zero_iff_zero
 by_cases c:crs p q r=0
 ·rw[if_pos (e0.2 c)]
  by_cases c1:Bx r p
  ·rw[if_pos (by simpa[Bx] using c1)];simp only[Option.some.injEq];exact (decide_eq_false fun h=>h.2.1 c1).symm
  ·rw[if_neg (by simpa[Bx] using c1)]
   by_cases c2:Bx r q
   ·rw[if_pos (by simpa[Bx] using c2)];simp only[Option.some.injEq];exact (decide_eq_false fun h=>h.2.2 c2).symm
   ·rw[if_neg (by simpa[Bx] using c2),Ad,Ad];simp only[Option.some.injEq]
    by_cases g1:befP p r <;> by_cases g2:befP q r <;> simp[g1,g2,BtwF,Btw,c,c1,c2]
 ·rw[if_neg (fun h=>c (e0.1 h))];simp only[Option.some.injEq];exact (decide_eq_false fun h=>c h.1.1).symm
def Meet(a b c d:Aa):Prop:=(BtwF a b c\/BtwF a b d\/BtwF c d a\/BtwF c d b)\/(Int.sign (crs a b c)*Int.sign (crs a b d)<0/\Int.sign (crs c d a)*Int.sign (crs c d b)<0)
theorem Azp{a b c d:Aa}(ha:okP a)(hb:okP b)(hc:okP c)(hd:okP d)[Decidable (Meet a b c d)]:Xy a b c d=some (decide (Meet a b c d)):=by
 unfold Xy
 haveI:∀ p q r,Decidable (BtwF p q r):=fun _ _ _=>Classical.propDecidable _
 have w0:∀ x y:Aa,∀ z t:Aa,w64 (Int.sign (crs x y z)*Int.sign (crs x y t))=Int.sign (crs x y z)*Int.sign (crs x y t):=fun x y z t=>Ww
 rw[jn_d,Wa ha hb hc,Ad,Wa ha hb hd,Ad,Wa hc hd ha,Ad,Wa hc hd hb,Ad]
 by_cases c1:BtwF a b c
 ·rw[if_pos (by simpa using c1)];dsimp only;rw[if_pos rfl,decide_eq_true (show Meet a b c d from .inl (.inl c1))]
 rw[if_neg (by simpa using c1)]
 by_cases c2:BtwF a b d
 ·rw[if_pos (by simpa using c2)];dsimp only;rw[if_pos rfl,decide_eq_true (show Meet a b c d from .inl (.inr (.inl c2)))]
 rw[if_neg (by simpa using c2)]
 by_cases c3:BtwF c d a
 ·rw[if_pos (by simpa using c3)];dsimp only;rw[if_pos rfl,decide_eq_true (show Meet a b c d from .inl (.inr (.inr (.inl c3))))]
 rw[if_neg (by simpa using c3)];dsimp only
 by_cases c4:BtwF c d b
 ·rw[if_pos (by simpa using c4),decide_eq_true (show Meet a b c d from .inl (.inr (.inr (.inr c4))))]
 rw[if_neg (by simpa using c4),jn_d,turn_eq ha hb hc,Ad,turn_eq ha hb hd,Ad,w0]
 by_cases c5:Int.sign (crs a b c)*Int.sign (crs a b d)<0
 ·rw[if_pos c5,turn_eq hc hd ha,Ad,turn_eq hc hd hb,Ad,w0];simp only[Option.some.injEq];exact decide_eq_decide.2 ⟨fun h=>.inr ⟨c5,h⟩,fun h=>h.elim (fun g=>by rcases g with g | g | g | g <;> contradiction) fun g=>g.2⟩
 ·rw[if_neg c5];simp only[Option.some.injEq];exact (decide_eq_false fun h=>h.elim (fun g=>by rcases g with g | g | g | g <;> contradiction) fun g=>c5 g.1).symm
variable {v:List Ac} {ap:Ap} {a b:Int}
def He(v:List Ac)(a b x y:Int):Prop:=(a≠x/\a≠y/\b≠x/\b≠y)/\Meet (plV v a) (plV v b) (plV v x) (plV v y)
noncomputable instance(v:List Ac)(a b x y:Int):Decidable (He v a b x y):=Classical.propDecidable _
theorem Aax(hv:Cc v){k l:Ab}(h1:inN v.length k.a0)(h2:inN v.length k.a1)(h3:inN v.length l.a0)(h4:inN v.length l.a1):Io v k l=some (decide (He v k.a0 k.a1 l.a0 l.a1)):=by
 unfold Io
 haveI:∀ p q r s,Decidable (Meet p q r s):=fun _ _ _ _=>Classical.propDecidable _
 obtain⟨x1,i1,e1⟩:=Abn h1;obtain⟨x2,i2,e2⟩:=Abn h2;obtain⟨x3,i3,e3⟩:=Abn h3;obtain⟨x4,i4,e4⟩:=Abn h4;rw[jn_d]
 by_cases c1:k.a0=l.a0
 ·rw[if_pos c1];dsimp only;rw[if_pos rfl,decide_eq_false fun h=>h.1.1 c1]
 rw[if_neg c1]
 by_cases c2:k.a0=l.a1
 ·rw[if_pos c2];dsimp only;rw[if_pos rfl,decide_eq_false fun h=>h.1.2.1 c2]
 rw[if_neg c2]
 by_cases c3:k.a1=l.a0
 ·rw[if_pos c3];dsimp only;rw[if_pos rfl,decide_eq_false fun h=>h.1.2.2.1 c3]
 rw[if_neg c3];dsimp only
 by_cases c4:k.a1=l.a1
 ·rw[if_pos (by simpa using c4),decide_eq_false fun h=>h.1.2.2.2 c4]
 rw[if_neg (by simpa using c4),i1,Ad,i2,Ad,i3,Ad,i4,Ad];unfold Fs;rw[Ad,Ad,Ad,Ad,e1,e2,e3,e4,Azp (hv.ok _ h1) (hv.ok _ h2) (hv.ok _ h3) (hv.ok _ h4),Ad];simp only[Option.some.injEq];exact decide_eq_decide.2 ⟨fun h=>⟨⟨c1,c2,c3,c4⟩,h⟩,fun h=>h.2⟩
theorem Aq7{x y k:Aa}(h:BtwF x y k):∃ d D:Int,0<d/\d<D/\∀ p q:Aa,D*crs p q k=(D-d)*crs p q x+d*crs p q y:=by
 obtain⟨⟨h0,hb⟩,n1,n2⟩:=h;have fin:∀ d D:Int,0<d->d<D->D*(k.X-x.X)=d*(y.X-x.X)->D*(k.Y-x.Y)=d*(y.Y-x.Y)->∃ d D:Int,0<d/\d<D/\∀ p q:Aa,D*crs p q k=(D-d)*crs p q x+d*crs p q y:=by
  intro d D g1 g2 g3 g4;refine⟨d,D,g1,g2,fun p q=>?_⟩;have e1:D*k.X=(D-d)*x.X+d*y.X:=by grind
  have e2:D*k.Y=(D-d)*x.Y+d*y.Y:=by grind
  have e3:D*crs p q k=(q.X-p.X)*(D*k.Y-D*p.Y)-(q.Y-p.Y)*(D*k.X-D*p.X):=by unfold crs;grind
  rw[e3,e1,e2];unfold crs;grind
 have h0':(y.X-x.X)*(k.Y-x.Y)=(y.Y-x.Y)*(k.X-x.X):=by unfold crs at h0;omega
 unfold befP at hb;unfold Bx at n1 n2;rcases Int.lt_trichotomy x.X y.X with c | c | c
 ·-- to the right
  have b1:x.X<k.X:=by
   refine Classical.byContradiction fun g=>?_
   by_cases e:k.X=x.X
   ·rw[e,Int.sub_self,Int.mul_zero] at h0';rcases Int.mul_eq_zero.1 h0' with g' | g' <;> omega
   ·omega
  have b2:k.X<y.X:=by
   refine Classical.byContradiction fun g=>?_
   by_cases e:k.X=y.X
   ·rw[e,Int.mul_comm] at h0';have:=Int.eq_of_mul_eq_mul_right oo h0';omega
   ·omega
  refine fin (k.X-x.X) (y.X-x.X) oo oo (Int.mul_comm _ _) (by rw[h0',Int.mul_comm])
 ·-- upright
  rw[c,Int.sub_self,Int.zero_mul] at h0';rcases Int.mul_eq_zero.1 h0'.symm with g | g
  ·omega
  ·by_cases d:x.Y<y.Y
   ·refine fin (k.Y-x.Y) (y.Y-x.Y) oo oo ?_ (Int.mul_comm _ _);rw[show k.X-x.X=0 by omega,show y.X-x.X=0 by omega,Int.mul_zero,Int.mul_zero]
   ·refine fin (x.Y-k.Y) (x.Y-y.Y) oo oo ?_ ?_
    ·rw[show k.X-x.X=0 by omega,show y.X-x.X=0 by omega,Int.mul_zero,Int.mul_zero]
    ·grind
 ·have b1:k.X<x.X:=by
   refine Classical.byContradiction fun g=>?_
   by_cases e:k.X=x.X
   ·rw[e,Int.sub_self,Int.mul_zero] at h0';rcases Int.mul_eq_zero.1 h0' with g' | g' <;> omega
   ·omega
  have b2:y.X<k.X:=by
   refine Classical.byContradiction fun g=>?_
   by_cases e:k.X=y.X
   ·rw[e,Int.mul_comm] at h0';have:=Int.eq_of_mul_eq_mul_right oo h0';omega
   ·omega
  refine fin (x.X-k.X) (x.X-y.X) oo oo (by grind) (by grind)
theorem Aen(ht:Tri (plV v) (inN v.length) ap){x y z k:Int}(h:ap x y=some z)(hk:inN v.length k)(h1:k≠x)(h2:k≠y):¬ BtwF (plV v x) (plV v y) (plV v k):=fun g=>by
 obtain⟨d,D,d1,d2,hd⟩:=Aq7 g;obtain⟨vx,vy,vz,T⟩:=ht.ccw _ _ _ h;have e0:crs (plV v x) (plV v y) (plV v k)=0:=g.1.1
 by_cases e:k=z
 ·rw[e] at e0;omega
 have em:=ht.emp _ _ _ h k hk h1 h2 e;have i1:=hd (plV v y) (plV v z);have i2:=hd (plV v z) (plV v x);rw[Bv,Int.mul_zero,Int.add_zero] at i1;rw[Sm,Int.mul_zero,Int.zero_add] at i2;have t1:crs (plV v y) (plV v z) (plV v x)=crs (plV v x) (plV v y) (plV v z):=by rw[Ar]
 have t2:crs (plV v z) (plV v x) (plV v y)=crs (plV v x) (plV v y) (plV v z):=by rw[<- Ar]
 rw[t1] at i1;rw[t2] at i2;have m1:=Int.mul_pos (show 0<D-d by omega) T;have m2:=Int.mul_pos d1 T;have p1:=Cj (x:=D) (y:=crs (plV v y) (plV v z) (plV v k)) oo oo;have p2:=Cj (x:=D) (y:=crs (plV v z) (plV v x) (plV v k)) oo oo;omega
theorem Gm{x y:Int}:Int.sign x*Int.sign y<0↔(0<x/\y<0)\/(x<0/\0<y):=by
 rcases Int.lt_trichotomy x 0 with h | h | h <;> rcases Int.lt_trichotomy y 0 with k | k | k
 all_goals first
  | (subst h;simp;try omega)
  | (subst k;simp;try omega)
  | (rw[Int.sign_eq_neg_one_of_neg h,Int.sign_eq_neg_one_of_neg k];omega)
  | (rw[Int.sign_eq_neg_one_of_neg h,Int.sign_eq_one_of_pos k];omega)
  | (rw[Int.sign_eq_one_of_pos h,Int.sign_eq_neg_one_of_neg k];omega)
  | (rw[Int.sign_eq_one_of_pos h,Int.sign_eq_one_of_pos k];omega)
theorem Cr.cross{x y:Int}(h:Cr v a b x y):He v a b x y/\He v a b y x:=by
 obtain⟨h1,h2,h3,h4⟩:=h;have ends:a≠x/\a≠y/\b≠x/\b≠y:=by
  refine⟨fun e=>?_,fun e=>?_,fun e=>?_,fun e=>?_⟩
  ·rw[<- e,Bv] at h1;omega
  ·rw[<- e,Bv] at h2;omega
  ·rw[<- e,Sm] at h1;omega
  ·rw[<- e,Sm] at h2;omega
 refine⟨⟨ends,.inr ⟨Gm.2 oo,Gm.2 oo⟩⟩,⟨⟨ends.2.1,ends.1,ends.2.2.2,ends.2.2.1⟩,.inr ⟨Gm.2 oo,Gm.2 ?_⟩⟩⟩;have e1:crs (plV v y) (plV v x) (plV v a) = -crs (plV v x) (plV v y) (plV v a):=Bb _ _ _;have e2:crs (plV v y) (plV v x) (plV v b) = -crs (plV v x) (plV v y) (plV v b):=Bb _ _ _;omega
theorem Ahv(ht:Tri (plV v) (inN v.length) ap)(ha:inN v.length a)(hb:inN v.length b)(hf:Free v a b){x y:Int}(hs:ap x y≠none\/ap y x≠none):He v a b x y↔Cr v a b x y\/Cr v a b y x:=by
 constructor
 ·rintro⟨⟨n1,n2,n3,n4⟩,h⟩;have vxy:inN v.length x/\inN v.length y:=by
   rcases hs with hs | hs <;> obtain⟨z,hz⟩:=Option.ne_none_iff_exists'.1 hs <;> obtain⟨p,q,_⟩:=ht.ccw _ _ _ hz
   ·exact⟨p,q⟩
   ·exact⟨q,p⟩
  have nb:∀ k,inN v.length k->k≠x->k≠y->¬ BtwF (plV v x) (plV v y) (plV v k):=fun k hk k1 k2 g=>by
   rcases hs with hs | hs <;> obtain⟨z,hz⟩:=Option.ne_none_iff_exists'.1 hs
   ·exact Aen ht hz hk k1 k2 g
   ·refine Aen ht hz hk k2 k1 ⟨⟨?_,fun e=>g.1.2 e.symm⟩,g.2.2,g.2.1⟩;rw[Bb];have:=g.1.1;omega
  rcases h with (g | g | g | g) | ⟨g1,g2⟩
  ·exact absurd g.1 (hf x vxy.1 (fun e=>n1 e.symm) (fun e=>n3 e.symm))
  ·exact absurd g.1 (hf y vxy.2 (fun e=>n2 e.symm) (fun e=>n4 e.symm))
  ·exact absurd g (nb a ha n1 n2)
  ·exact absurd g (nb b hb n3 n4)
  ·have e:crs (plV v x) (plV v y) (plV v b)-crs (plV v x) (plV v y) (plV v a)=crs (plV v a) (plV v b) (plV v x)-crs (plV v a) (plV v b) (plV v y):=by unfold crs;grind
   have e1:crs (plV v y) (plV v x) (plV v a) = -crs (plV v x) (plV v y) (plV v a):=Bb _ _ _;have e2:crs (plV v y) (plV v x) (plV v b) = -crs (plV v x) (plV v y) (plV v b):=Bb _ _ _;rw[Gm] at g1 g2;rcases g1 with⟨g1,g1'⟩|⟨g1,g1'⟩
   ·exact .inl ⟨g1,g1',oo,oo⟩
   ·exact .inr ⟨g1',g1,oo,oo⟩
 ·rintro (h | h)
  ·exact h.cross.1
  ·exact h.cross.2
theorem fwd(ht:Tri (plV v) (inN v.length) ap){u w k:Int}(h1:0<crs (plV v a) (plV v b) (plV v u))(h2:crs (plV v a) (plV v b) (plV v w)<0)(h3:crs (plV v u) (plV v w) (plV v a)<0)(hk:ap u w=some k):
  (0<crs (plV v a) (plV v b) (plV v k)->crs (plV v k) (plV v w) (plV v a)<0)/\(crs (plV v a) (plV v b) (plV v k)<0->crs (plV v u) (plV v k) (plV v a)<0):=by
 obtain⟨vu,vw,vk,T⟩:=ht.ccw _ _ _ hk;have sa:=Qu (plV v u) (plV v w) (plV v k) (plV v a);have ba:=Avf (plV v a) (plV v b) (plV v u) (plV v w) (plV v k) (plV v a);rw[Bv,Int.mul_zero] at ba;constructor
 ·intro g;refine Classical.byContradiction fun n=>?_
  have e:crs (plV v w) (plV v k) (plV v a) = -crs (plV v k) (plV v w) (plV v a):=Bb _ _ _;have m1:=Int.mul_nonneg (show 0<=-crs (plV v w) (plV v k) (plV v a) by omega) (Int.le_of_lt h1);have m2:=Int.mul_pos (show 0 < -crs (plV v u) (plV v w) (plV v a) by omega) g;rw[Int.neg_mul] at m1 m2;have:=Cj (x:=-crs (plV v a) (plV v b) (plV v w)) (y:=-crs (plV v k) (plV v u) (plV v a)) (by rw[Int.neg_mul_neg,Int.mul_comm];omega) oo;omega
 ·intro g;refine Classical.byContradiction fun n=>?_
  have e:crs (plV v k) (plV v u) (plV v a) = -crs (plV v u) (plV v k) (plV v a):=Bb _ _ _;have m1:=Int.mul_nonneg (show 0<=-crs (plV v k) (plV v u) (plV v a) by omega) (show 0<=-crs (plV v a) (plV v b) (plV v w) by omega);have m2:=Int.mul_pos (show 0 < -crs (plV v u) (plV v w) (plV v a) by omega) (show 0 < -crs (plV v a) (plV v b) (plV v k) by omega);rw[Int.neg_mul_neg] at m1 m2;have:=Cj (x:=crs (plV v a) (plV v b) (plV v u)) (y:=-crs (plV v w) (plV v k) (plV v a)) (by rw[Int.mul_neg,Int.mul_comm];omega) h1;omega
theorem El.cr{m:Nat}{u w:Nat->Int}(h:El (plV v) ap a b m u w)(ht:Tri (plV v) (inN v.length) ap):∀ i,i<m->Cr v a b (u i) (w i):=by
 have ra:∀ i,i<m->crs (plV v (u i)) (plV v (w i)) (plV v a)<0:=by
  intro i
  induction i with
  | zero=>
   intro hi;have:=(ht.ccw _ _ _ (h.first hi)).2.2.2;rw[Bb] at this;omega
  | succ i ih=>
   intro hi;have g:=ih oo;rcases h.next i hi with⟨k1,k2⟩|⟨k1,k2⟩
   ·rw[k1];exact (fwd ht (h.up i oo) (h.lo i oo) g k2).2 (h.lo _ hi)
   ·rw[k1];exact (fwd ht (h.up i oo) (h.lo i oo) g k2).1 (h.up _ hi)
 have rb:∀ d,d<m->0<crs (plV v (u (m-1-d))) (plV v (w (m-1-d))) (plV v b):=by
  intro d
  induction d with
  | zero=>
   intro hi;exact (ht.ccw _ _ _ (h.last (m-1-0) oo)).2.2.2
  | succ d ih=>
   intro hi;have g:=ih oo;have hd:=h.prev ht (i:=m-1-(d+1)) oo;rw[show m-1-(d+1)+1=m-1-d by omega] at hd;have i1:=h.up (m-1-d) oo;have i2:=h.lo (m-1-d) oo;have i3:=h.up (m-1-(d+1)) oo;have i4:=h.lo (m-1-(d+1)) oo;have s1:∀ z,crs (plV v b) (plV v a) z = -crs (plV v a) (plV v b) z:=fun z=>Bb _ _ _
   rcases hd with⟨k1,k2⟩|⟨k1,k2⟩
   ·have:=(fwd (a:=b) (b:=a) ht (by rw[s1];omega) (by rw[s1];omega) (by rw[Bb];omega) k2).1 (by rw[s1];omega);rw[k1,Bb] at this;omega
   ·have:=(fwd (a:=b) (b:=a) ht (by rw[s1];omega) (by rw[s1];omega) (by rw[Bb];omega) k2).2 (by rw[s1];omega);rw[k1,Bb] at this;omega
 intro i hi;have:=rb (m-1-i) oo;rw[show m-1-(m-1-i)=i by omega] at this;exact⟨h.up i hi,h.lo i hi,ra i hi,this⟩
end Go.Proofs.YthlkpgdfifnagaaGreat
namespace Go.Proofs.YthlkpgdfifnagaaGreat
open Go Go.RowKit List
theorem Apb{σ τ γ:Type}{B:σ->Option (Sum σ τ)}(I:σ->γ->Prop)(R:σ->γ->σ->γ->Prop)(Post:τ->Prop)(step:∀ s g,I s g->(∃ t,B s=some (.inr t)/\Post t)\/∃ s' g',B s=some (.inl s')/\I s' g'/\R s g s' g')(noinf:∀ f:Nat->σ × γ,(∀ n,I (f n).1 (f n).2)->(∀ n,R (f n).1 (f n).2 (f (n+1)).1 (f (n+1)).2)->False):
  ∀ s g,I s g->∃ t,lfix B s=some t/\Post t:=by
 intro s g h;refine Classical.byContradiction fun hno=>?_
 have next:∀ x:{x:σ × γ // I x.1 x.2/\¬ ∃ t,lfix B x.1=some t/\Post t},∃ y:{x:σ × γ // I x.1 x.2/\¬ ∃ t,lfix B x.1=some t/\Post t},R x.1.1 x.1.2 y.1.1 y.1.2:=by
  rintro⟨⟨s,g⟩,hi,hn⟩;simp only at hi hn;rcases step s g hi with⟨t,h1,h2⟩|⟨s',g',h1,h2,h3⟩
  ·exact absurd ⟨t,by rw[Bg,h1],h2⟩ hn
  ·refine⟨⟨(s',g'),h2,fun ⟨t,h4,h5⟩=>hn ⟨t,?_,h5⟩⟩,h3⟩;rw[Bg,h1];exact h4
 let F:Nat->{x:σ × γ // I x.1 x.2/\¬ ∃ t,lfix B x.1=some t/\Post t}:=fun n=>Nat.rec ⟨(s,g),h,hno⟩ (fun _ x=>Classical.choose (next x)) n
 exact noinf (fun n=>(F n).1) (fun n=>(F n).2.1) (fun n=>Classical.choose_spec (next (F n)))
theorem Ahw{m:Nat->Nat}(h:∀ n,m (n+1)<=m n):∃ T,∀ n,T<=n->m n=m T:=by
 have mono:∀ a d,m (a+d)<=m a:=by
  intro a d
  induction d with
  | zero=>exact Nat.le_refl _
  | succ d ih=>exact Nat.le_trans (h (a+d)) ih
 have key:∀ N T,m T=N->∃ T,∀ n,T<=n->m n=m T:=by
  intro N
  induction N using Nat.strongRecOn with
  | ind N ih=>
   intro T hT
   by_cases c:∃ n,T<=n/\m n≠m T
   ·obtain⟨n,h1,h2⟩:=c;have:=mono T (n-T);rw[show T+(n-T)=n by omega] at this;exact ih (m n) oo n rfl
   ·exact⟨T,fun n hn=>Classical.byContradiction fun g=>c ⟨n,hn,g⟩⟩
 exact key _ 0 rfl
theorem As8{π:Nat->List Nat}(h:∀ t,∃ i l,π t=i::l/\π (t+1)=l++[i]):∀ k t,k<=(π t).length->π (t+k)=(π t).drop k++(π t).take k:=by
 intro k
 induction k with
 | zero=>intro t _;simp
 | succ k ih=>
  intro t hk;have e:=ih t oo;obtain⟨i,l,h1,h2⟩:=h (t+k);rw[show t+(k+1)=t+k+1 by omega,h2];rw[h1] at e;have hd:(π t).drop k=(π t)[k]::(π t).drop (k+1):=(drop_eq_getElem_cons oo);rw[hd,cons_append] at e;injection e with e1 e2
  rw[e1,e2,append_assoc];congr 1;rw[take_succ_eq_append_getElem oo]
theorem As9{π:Nat->List Nat}{m:Nat}(h:∀ t,∃ i l,π t=i::l/\π (t+1)=l++[i])(hn:∀ t,(π t).Nodup)(hm:∀ t i,i∈π t↔i<m):
  (∀ t i,i<m->∃ t',t<=t'/\t'<t+m/\(π t').headD 0=i)/\(∀ t t',t<t'->t'<t+m->(π t).headD 0≠(π t').headD 0)/\∀ t,(π t).headD 0<m:=by
 have len:∀ t,(π t).length=m:=fun t=>by
  have p:(π t).Perm (List.range m):=(perm_ext_iff_of_nodup (hn t) nodup_range).2 fun i=>by rw[hm t i,mem_range]
  rw[p.length_eq,length_range]
 have head:∀ t k (hk:k<(π t).length),(π (t+k)).headD 0=(π t)[k]:=fun t k hk=>by
  rw[As8 h k t oo,drop_eq_getElem_cons hk,cons_append];rfl
 refine⟨fun t i hi=>?_,fun t t' h1 h2 e=>?_,fun t=>?_⟩
 ·obtain⟨k,hk,e⟩:=mem_iff_getElem.1 ((hm t i).2 hi);have:=len t;exact⟨t+k,oo,oo,by rw[head t k hk];exact e⟩
 ·have l:=len t;have e1:=head t 0 oo;have e2:=head t (t'-t) oo;rw[show t+(t'-t)=t' by omega] at e2;rw[Nat.add_zero] at e1;rw[e1,e2] at e;exact (pairwise_iff_getElem.1 (hn t)) 0 (t'-t) oo oo oo e
 ·obtain⟨i,l,h1,_⟩:=h t;have:=(hm t i).1 (by rw[h1];exact mem_cons_self);rw[h1];exact this
theorem Ata(i j k l:Aa):crs i l k+crs j k l=crs i j k+crs j i l:=by unfold crs;grind
theorem Abo{i j k l:Aa}(h1:0<crs i j k)(h2:0<crs j i l):(Int.sign (crs k l i)*Int.sign (crs k l j) = -1)↔(0<crs i l k/\0<crs j k l):=by
 have e1:crs k l i = -crs i l k:=by unfold crs;grind
 have e2:crs k l j=crs j k l:=by unfold crs;grind
 have ha:=Ata i j k l;rw[e1,e2];generalize crs i l k=x at *;generalize crs j k l=y at *;rcases Int.lt_trichotomy x 0 with h | h | h <;> rcases Int.lt_trichotomy y 0 with k' | k' | k'
 all_goals first
  | omega
  | (subst h;simp;try omega)
  | (subst k';simp;try omega)
  | (rw[Int.sign_eq_one_of_pos oo,Int.sign_eq_neg_one_of_neg k'];omega)
  | (rw[Int.sign_eq_one_of_pos (show 0 < -x by omega),Int.sign_eq_one_of_pos k'];omega)
  | (rw[Int.sign_eq_neg_one_of_neg (show -x<0 by omega),Int.sign_eq_neg_one_of_neg k'];omega)
  | (rw[Int.sign_eq_neg_one_of_neg (show -x<0 by omega),Int.sign_eq_one_of_pos k'];omega)
section
variable {v:List Ac} {F:List (Ab × Bool)} {m:Mp} {i j k l:Int}
theorem Azq(hv:Cc v)(hn:v.length<=1024)(hm:MapN v.length m)(ht:Tri (plV v) (inN v.length) (apM m))(hk:apM m i j=some k)(hl:apM m j i=some l):
  (¬ (0<crs (plV v i) (plV v l) (plV v k)/\0<crs (plV v j) (plV v k) (plV v l))/\Cx ⟨v,m,F⟩ (pr2 i j).a0 (pr2 i j).a1=some (⟨v,m,F⟩,false)) \/
  ∃ m',Quad (plV v) (inN v.length) (apM m) i j k l/\Cx ⟨v,m,F⟩ (pr2 i j).a0 (pr2 i j).a1=some (⟨v,m',F⟩,true)/\MapN v.length m'/\apM m'=Dz (apM m) i j k l:=by
 obtain⟨vi,vj,vk,c1⟩:=ht.ccw _ _ _ hk;obtain⟨_,_,vl,c2⟩:=ht.ccw _ _ _ hl;have hij:=(ht.ne hk).1
 by_cases c:i<=j
 ·have e0:(pr2 i j).a0=i:=by unfold pr2;simp only;omega
  have e1:(pr2 i j).a1=j:=by unfold pr2;simp only;omega
  rw[e0,e1,Aky (b:=⟨v,m,F⟩) hv hn hm hk hl]
  by_cases s:0<crs (plV v i) (plV v l) (plV v k)/\0<crs (plV v j) (plV v k) (plV v l)
  ·right;have q:Quad (plV v) (inN v.length) (apM m) i j k l:=⟨ht,hk,hl,s.1,s.2⟩;obtain⟨n1,n2,n3,n4,n5,n6⟩:=q.ne;exact⟨flipM m i j k l,q,by rw[if_pos ((Abo c1 c2).2 s)],hm.flipM vi vj vk vl,Xu hm.ok n1 n2 n3 n4 n5 n6⟩
  ·left;exact⟨s,by rw[if_neg fun g=>s ((Abo c1 c2).1 g)]⟩
 ·have e0:(pr2 i j).a0=j:=by unfold pr2;simp only;omega
  have e1:(pr2 i j).a1=i:=by unfold pr2;simp only;omega
  rw[e0,e1,Aky (b:=⟨v,m,F⟩) hv hn hm hl hk]
  by_cases s:0<crs (plV v i) (plV v l) (plV v k)/\0<crs (plV v j) (plV v k) (plV v l)
  ·right;have q:Quad (plV v) (inN v.length) (apM m) i j k l:=⟨ht,hk,hl,s.1,s.2⟩;obtain⟨n1,n2,n3,n4,n5,n6⟩:=q.ne;exact⟨flipM m j i l k,q,by rw[if_pos ((Abo c2 c1).2 ⟨s.2,s.1⟩)],hm.flipM vj vi vl vk,by
    rw[Xu hm.ok (fun e=>n1 e.symm) (fun e=>n2 e.symm) n6 n5 n4 n3];exact Ath _ _ _ _ _ n1 n2 n3 n4 n5 n6⟩
  ·left;exact⟨s,by rw[if_neg fun g=>s (by have:=(Abo c2 c1).1 g;exact⟨this.2,this.1⟩)]⟩
theorem Yv(h1:inN v.length i)(h2:inN v.length j):inN v.length (pr2 i j).a0/\inN v.length (pr2 i j).a1:=by
 unfold pr2 inN at *;simp only;omega
theorem Azr(hk:apM m i j=some k)(hl:apM m j i=some l):∃ x y,mget m (pr2 i j)=some x/\mget m ⟨(pr2 i j).a1,(pr2 i j).a0⟩=some y/\pr2 x y=pr2 k l:=by
 by_cases c:i<=j
 ·have e:pr2 i j=⟨i,j⟩:=by unfold pr2;rw[Iz];omega
  rw[e];exact⟨k,l,hk,hl,rfl⟩
 ·have e:pr2 i j=⟨j,i⟩:=by unfold pr2;rw[Iz];omega
  rw[e];exact⟨l,k,hl,hk,Nu _ _⟩
end
section
variable {v:List Ac} {ap:Ap} {a b:Int}
theorem Cr.ends{x y:Int}(h:Cr v a b x y):x≠a/\x≠b/\y≠a/\y≠b:=by
 obtain⟨h1,h2,_,_⟩:=h;refine⟨fun e=>?_,fun e=>?_,fun e=>?_,fun e=>?_⟩
 ·rw[e,Bv] at h1;omega
 ·rw[e,Bo] at h1;omega
 ·rw[e,Bv] at h2;omega
 ·rw[e,Bo] at h2;omega
theorem Cr.both(ht:Tri (plV v) (inN v.length) ap)(hc:Cov (plV v) (inN v.length) ap)(ha:inN v.length a)(hb:inN v.length b){x y:Int}(h:Cr v a b x y)(hs:ap x y≠none\/ap y x≠none):(∃ k,ap x y=some k)/\∃ l,ap y x=some l:=by
 have r1:=h.ra;have r2:=h.rb;have e1:crs (plV v y) (plV v x) (plV v b) = -crs (plV v x) (plV v y) (plV v b):=Bb _ _ _;rcases hs with hs | hs <;> obtain⟨k,hk⟩:=Option.ne_none_iff_exists'.1 hs
 ·refine⟨⟨k,hk⟩,?_⟩;rcases e:ap y x with _ | l
  ·have:=hc _ _ _ hk e a ha;omega
  ·exact⟨l,rfl⟩
 ·refine⟨?_,⟨k,hk⟩⟩;rcases e:ap x y with _ | l
  ·have:=hc _ _ _ hk e b hb;omega
  ·exact⟨l,rfl⟩
theorem Aeo(ht:Tri (plV v) (inN v.length) ap)(hc:Cov (plV v) (inN v.length) ap)(ha:inN v.length a)(hb:inN v.length b)(hf:Free v a b)(hs:ap a b≠none\/ap b a≠none){x y:Int}(h:Cr v a b x y):¬ (ap x y≠none\/ap y x≠none):=fun g=>by
 obtain⟨⟨k,hk⟩,_⟩:=h.both ht hc ha hb g;obtain⟨M,U,W,hM,_,_,hr⟩:=Akv ht hc ha hb hf h hk;have hl:=hr.last (M-1) oo;have cr:=hr.cr (M-1) oo;have h1:=ht.rot2 hl;refine ht.cone b (U (M-1)) (W (M-1)) a h1 hs.symm ⟨?_,?_⟩
 ·have:=cr.up;rw[<- Ar] at this;rw[<- Ar] at this;have e:crs (plV v b) (plV v (U (M-1))) (plV v a)=crs (plV v a) (plV v b) (plV v (U (M-1))):=by unfold crs;grind
  rw[e];exact cr.up
 ·have e:crs (plV v b) (plV v a) (plV v (W (M-1))) = -crs (plV v a) (plV v b) (plV v (W (M-1))):=by unfold crs;grind
  have:=cr.lo;rw[e];omega
theorem Awo(hv:Cc v)(ht:Tri (plV v) (inN v.length) ap)(hc:Cov (plV v) (inN v.length) ap)(ha:inN v.length a)(hb:inN v.length b)(hab:a≠b)(hf:Free v a b)(hcone:Ys (plV v) ap a b):
  ∃ M u w,El (plV v) ap a b M u w/\(M=0->ap a b≠none\/ap b a≠none)/\∀ x y,Cr v a b x y->(ap x y≠none\/ap y x≠none)->∃ i,i<M/\x=u i/\y=w i:=by
 rcases Akt hv ht ha hb hab hf hcone with hs | ⟨x,y,h0,h1,h2⟩
 ·exact⟨0,fun _=>0,fun _=>0,⟨fun i hi=>oo,fun i hi=>oo,fun hi=>oo,fun i hi=>oo,fun i hi=>oo⟩,fun _=>hs,fun x y h g=>absurd g (Aeo ht hc ha hb hf hs h)⟩
 ·obtain⟨vx,vy,_,T⟩:=ht.ccw _ _ _ h0;have nbx:b≠x:=fun e=>by rw[<- e,Bo] at h1;omega
  have nby:b≠y:=fun e=>by rw[<- e,Bo] at h2;omega
  have em:=ht.emp _ _ _ h0 b hb nbx nby (fun e=>hab e.symm);have k1:crs (plV v y) (plV v a) (plV v b)=crs (plV v a) (plV v b) (plV v y):=by unfold crs;grind
  have k2:crs (plV v a) (plV v x) (plV v b) = -crs (plV v a) (plV v b) (plV v x):=by unfold crs;grind
  have k3:crs (plV v y) (plV v x) (plV v b) = -crs (plV v x) (plV v y) (plV v b):=Bb _ _ _;have k4:crs (plV v y) (plV v x) (plV v a) = -crs (plV v x) (plV v y) (plV v a):=Bb _ _ _;have cr:Cr v a b y x:=⟨h2,h1,oo,oo⟩;obtain⟨⟨k,hk⟩,_⟩:=cr.both ht hc ha hb (.inr (by rw[h0];simp));obtain⟨M,U,W,hM,e1,e2,hr⟩:=Akv ht hc ha hb hf cr hk;have h00:ap (W 0) (U 0)=some a:=by rw[e1,e2];exact h0
  refine⟨M,U,W,hr.strip h00,fun h=>oo,fun x' y' hcr hs=>?_⟩;obtain⟨⟨k',hk'⟩,_⟩:=hcr.both ht hc ha hb hs;obtain⟨M',U',W',hM',e1',e2',hr'⟩:=Akv ht hc ha hb hf hcr hk';obtain⟨i,hi,g1,g2⟩:=hr.has ht h00 hM hr' hM';exact⟨i,hi,by rw[g1,e1'],by rw[g2,e2']⟩
theorem El.pr_inj{M:Nat}{u w:Nat->Int}(h:El (plV v) ap a b M u w){i j:Nat}(hi:i<M)(hj:j<M)(e:pr2 (u i) (w i)=pr2 (u j) (w j)):i=j:=by
 rcases Ahn e with⟨e1,e2⟩|⟨e1,e2⟩
 ·rcases Nat.lt_trichotomy i j with g | g | g
  ·exact absurd ⟨e1,e2⟩ (h.inj i j g hj)
  ·exact g
  ·exact absurd ⟨e1.symm,e2.symm⟩ (h.inj j i g hi)
 ·have k1:=h.up i hi;have k2:=h.lo j hj;rw[e1] at k1;omega
end
def Uo(ap:Ap)(x y:Int):Prop:=ap x y≠none\/ap y x≠none
structure Wt(v:List Ac)(a b:Int)(m0 m:Mp)(q:List Ab)(M:Nat)(u w:Nat->Int)(π:List Nat):Prop where
 map:MapN v.length m
 tri:Tri (plV v) (inN v.length) (apM m)
 cov:Cov (plV v) (inN v.length) (apM m)
 ne:m≠[]
 strip:El (plV v) (apM m) a b M u w
 nd:π.Nodup
 all:∀ i,i∈π↔i<M
 que:q=π.map fun i=>pr2 (u i) (w i)
 fin:M=0->Uo (apM m) a b
 keep:∀ x y,¬ Cr v a b x y->¬ Cr v a b y x->Uo (apM m0) x y->Uo (apM m) x y
 len:π.length<=1048576
section
variable {v:List Ac} {a b:Int}
theorem Ahx{ap:Ap}(ht:Tri (plV v) (inN v.length) ap)(ha:inN v.length a)(hb:inN v.length b)(hf:Free v a b){k l:Int}(hs:ap k l≠none\/ap l k≠none):
  He v a b (pr2 k l).a0 (pr2 k l).a1↔Cr v a b k l\/Cr v a b l k:=by
 by_cases c:k<=l
 ·have e0:(pr2 k l).a0=k:=by unfold pr2;simp only;omega
  have e1:(pr2 k l).a1=l:=by unfold pr2;simp only;omega
  rw[e0,e1];exact Ahv ht ha hb hf hs
 ·have e0:(pr2 k l).a0=l:=by unfold pr2;simp only;omega
  have e1:(pr2 k l).a1=k:=by unfold pr2;simp only;omega
  rw[e0,e1,Ahv ht ha hb hf hs.symm];exact Or.comm
theorem Atb{ap:Ap}{i j k l x y:Int}(h:Uo ap x y)(h1:¬ (x=i/\y=j))(h2:¬ (x=j/\y=i)):Uo (Dz ap i j k l) x y:=by
 unfold Uo at *;rcases h with h | h
 ·left;intro g;rcases Yc g with g | g | g
  ·exact h g
  ·exact h1 g
  ·exact h2 g
 ·right;intro g;rcases Yc g with g | g | g
  ·exact h g
  ·exact h2 ⟨g.2,g.1⟩
  ·exact h1 ⟨g.2,g.1⟩
def Ahy(i j:Nat):Nat:=if j<i then j else j-1
theorem Ajw(i:Nat)(f:Nat->Int){j:Nat}(hj:j≠i):cutF i f (Ahy i j)=f j:=by
 unfold cutF Ahy
 by_cases c:j<i
 ·rw[if_pos c,if_pos c]
 ·rw[if_neg c,if_neg oo,show j-1+1=j by omega]
theorem Wt.round(hv:Cc v)(hn:v.length<=1024)(ha:inN v.length a)(hb:inN v.length b)(hf:Free v a b){F:List (Ab × Bool)}{m0 m:Mp}{q:List Ab}{M i:Nat}{u w:Nat->Int}{π:List Nat}(h:Wt v a b m0 m q M u w (i::π)):
  ∃ m' q' M' u' w' π',Cb ⟨a,b⟩ (v,m,F,q)=some (.inl (v,m',F,q'))/\Wt v a b m0 m' q' M' u' w' π' /\
   (M'<M\/(M'=M/\π'=π++[i]/\((Yr (plV v) (apM m) u w i/\apM m'=apM m/\u'=u/\w'=w)\/Adl (plV v) (inN v.length) M (apM m) u w i (apM m') u' w'))):=by
 have hi:i<M:=(h.all i).1 mem_cons_self;obtain⟨k,hk⟩:=h.strip.someR hi;obtain⟨l,hl⟩:=h.strip.someL h.tri hi;obtain⟨vu,vw,vk,_⟩:=h.tri.ccw _ _ _ hk;obtain⟨_,_,vl,_⟩:=h.tri.ccw _ _ _ hl;obtain⟨x,y,hx,hy,hxy⟩:=Azr hk hl;obtain⟨nd1,nd2⟩:=nodup_cons.1 h.nd;have hlen:=h.len;rw[length_cons] at hlen;have hq:q=pr2 (u i) (w i)::π.map fun i=>pr2 (u i) (w i):=by rw[h.que,map_cons]
 have hr:=Yv vu vw;have hne:∀ j∈π,j≠i:=fun j hj e=>nd1 (e ▸ hj)
 have inp:∀ j,j<M->j≠i->j∈π:=fun j h1 h2=>(mem_cons.1 ((h.all j).2 h1)).resolve_left h2
 have hlt:∀ j∈π,j<M:=fun j hj=>(h.all j).1 (mem_cons_of_mem _ hj)
 have pre:∀ (fl:Aj × Bool),Cx ⟨v,m,F⟩ (pr2 (u i) (w i)).a0 (pr2 (u i) (w i)).a1=some fl->Cb ⟨a,b⟩ (v,m,F,q) =
   if fl.2=true then (bnd (Io fl.1.v ⟨a,b⟩ (pr2 k l)) fun r189=>if r189=true then (gd (((π.map fun i=>pr2 (u i) (w i)).length+1)*16<=140737488355328) <| some (.inl (fl.1.v,fl.1.apex,fl.1.fixed,(π.map fun i=>pr2 (u i) (w i))++[pr2 k l]))) else (some (.inl (fl.1.v,fl.1.apex,fl.1.fixed,π.map fun i=>pr2 (u i) (w i)))))
   else (gd (((π.map fun i=>pr2 (u i) (w i)).length+1)*16<=140737488355328) <| some (.inl (fl.1.v,fl.1.apex,fl.1.fixed,(π.map fun i=>pr2 (u i) (w i))++[pr2 (u i) (w i)]))):=fun fl hfl=>by
  unfold Cb;dsimp only;rw[hq,if_pos s_,show idx (pr2 (u i) (w i)::π.map fun i=>pr2 (u i) (w i)) 0=some (pr2 (u i) (w i)) from rfl,Ad,gd_t ⟨oo,by simp;omega⟩,gd_t (Oq hn hr.1 hr.2),hx,Ad,gd_t (Oq hn hr.2 hr.1),hy,Ad,hfl,Ad];rw[show Fy ((some x).getD 0) ((some y).getD 0)=some (pr2 k l) from by rw[<- hxy];rfl,Ad];rfl
 have okl:((π.map fun i=>pr2 (u i) (w i)).length+1)*16<=140737488355328:=by rw[length_map];omega
 rcases Azq (F:=F) hv hn h.map h.tri hk hl with⟨s,e⟩|⟨m',Q,e,hm',ha'⟩
 ·-- it stands
  refine⟨m,_,M,u,w,π++[i],by rw[pre _ e,if_neg s_,gd_t okl],⟨h.map,h.tri,h.cov,h.ne,h.strip,?_,fun j=>?_,by rw[map_append];rfl,h.fin,h.keep,by simp;omega⟩,.inr ⟨rfl,rfl,.inl ⟨fun k' l' hk' hl'=>?_,rfl,rfl,rfl⟩⟩⟩
  ·exact (perm_append_comm (l₁:=[i]) (l₂:=π)).nodup_iff.1 h.nd
  ·rw[<- h.all j];simp only[mem_append,mem_cons,not_mem_nil,or_false];exact Or.comm
  ·rw[hk] at hk';rw[hl] at hl';obtain rfl:=Option.some.inj hk';obtain rfl:=Option.some.inj hl';exact s
 ·have tri':Tri (plV v) (inN v.length) (apM m'):=by rw[ha'];exact Q.flip
  have cov':Cov (plV v) (inN v.length) (apM m'):=by rw[ha'];exact Q.cov h.cov
  have vals:=Abe Q;have ne':m'≠[]:=fun e=>by
   have:=vals.1;rw[<- ha',e] at this;cases this
  have hs':apM m' k l≠none\/apM m' l k≠none:=.inr (by rw[ha',vals.2.1];simp);have cr0:=h.strip.cr h.tri i hi;have keep':∀ x y,¬ Cr v a b x y->¬ Cr v a b y x->Uo (apM m0) x y->Uo (apM m') x y:=fun x y n1 n2 hs=>by
   rw[ha'];exact Atb (h.keep x y n1 n2 hs) (fun e=>n1 (by rw[e.1,e.2];exact cr0)) (fun e=>n2 (by rw[e.1,e.2];exact cr0))
  have hcr:=Aax hv (k:=⟨a,b⟩) (l:=pr2 k l) ha hb (Yv vk vl).1 (Yv vk vl).2;have hcp:=Ahx tri' ha hb hf hs';have cut:((i=0\/i+1=M)\/(0<i/\i+1<M/\((u i=u (i-1)/\u (i+1)=u i)\/(w i=w (i-1)/\w (i+1)=w i))))->¬ (Cr v a b k l\/Cr v a b l k)->(M=1->k=b/\l=a) ->
    ∃ m' q' M' u' w' π',Cb ⟨a,b⟩ (v,m,F,q)=some (.inl (v,m',F,q'))/\Wt v a b m0 m' q' M' u' w' π' /\
   (M'<M\/(M'=M/\π'=π++[i]/\((Yr (plV v) (apM m) u w i/\apM m'=apM m/\u'=u/\w'=w)\/Adl (plV v) (inN v.length) M (apM m) u w i (apM m') u' w'))):=fun hc hnc hone=>by
   refine⟨m',_,M-1,cutF i u,cutF i w,π.map (Ahy i),by rw[pre _ e,if_pos rfl,hcr,Ad,if_neg (by rw[decide_eq_true_eq];exact fun g=>hnc (hcp.1 g))],⟨hm',tri',cov',ne',?_,?_,fun j=>?_,?_,fun h0=>?_,keep',by simp;omega⟩,.inl oo⟩
   ·rw[ha'];exact h.strip.cut hi Q hc
   ·unfold List.Nodup;rw[pairwise_map];refine List.Pairwise.imp_of_mem (fun {p r} hp hr' hpr e=>?_) nd2;have:=hne p hp;have:=hne r hr';unfold Ahy at e;split at e <;> split at e <;> omega
   ·rw[mem_map];constructor
    ·rintro⟨t,ht',rfl⟩;have:=hlt t ht';have:=hne t ht';unfold Ahy;split <;> omega
    ·intro hj
     by_cases c:j<i
     ·exact⟨j,inp j oo oo,by unfold Ahy;rw[if_pos c]⟩
     ·exact⟨j+1,inp (j+1) oo oo,by unfold Ahy;rw[if_neg oo];omega⟩
   ·rw[map_map];refine map_congr_left fun j hj=>?_
    simp only[Function.comp];rw[Ajw i u (hne j hj),Ajw i w (hne j hj)]
   ·obtain⟨e1,e2⟩:=hone oo;unfold Uo;rw[ha',<- e1,<- e2];exact .inl (by rw[vals.2.1];simp)
  have turn:∀ u' w',El (plV v) (apM m') a b M u' w'->(∀ j,j≠i->u' j=u j)->(∀ j,j≠i->w' j=w j)->pr2 (u' i) (w' i)=pr2 k l->(Cr v a b k l\/Cr v a b l k)->Adl (plV v) (inN v.length) M (apM m) u w i (apM m') u' w' ->
    ∃ m' q' M' u' w' π',Cb ⟨a,b⟩ (v,m,F,q)=some (.inl (v,m',F,q'))/\Wt v a b m0 m' q' M' u' w' π' /\
   (M'<M\/(M'=M/\π'=π++[i]/\((Yr (plV v) (apM m) u w i/\apM m'=apM m/\u'=u/\w'=w)\/Adl (plV v) (inN v.length) M (apM m) u w i (apM m') u' w'))):=fun u' w' hst hu hw he hc ht=>by
   refine⟨m',_,M,u',w',π++[i],by rw[pre _ e,if_pos rfl,hcr,Ad,if_pos (by rw[decide_eq_true_eq];exact hcp.2 hc),gd_t okl],⟨hm',tri',cov',ne',hst,?_,fun j=>?_,?_,fun h0=>oo,keep',by simp;omega⟩,.inr ⟨rfl,rfl,.inr ht⟩⟩
   ·exact (perm_append_comm (l₁:=[i]) (l₂:=π)).nodup_iff.1 h.nd
   ·rw[<- h.all j];simp only[mem_append,mem_cons,not_mem_nil,or_false];exact Or.comm
   ·have e2:(π.map fun i=>pr2 (u i) (w i))=π.map fun i=>pr2 (u' i) (w' i):=map_congr_left fun j hj=>by rw[hu j (hne j hj),hw j (hne j hj)]
    rw[map_append,map_singleton,he,e2]
  have up:=h.strip.up;have lo:=h.strip.lo;rcases h.strip.left h.tri hi hl with⟨g1,g2⟩|⟨g0,g1,g2⟩|⟨g0,g1,g2⟩ <;> rcases h.strip.right hi hk with⟨k1,k2⟩|⟨k0,k1,k2⟩|⟨k0,k1,k2⟩
  ·exact cut (.inl (.inl g1)) (fun g=>g.elim (fun g=>g.ends.2.2.1 g2) (fun g=>g.ends.1 g2)) (fun _=>⟨k2,g2⟩)
  ·exact cut (.inl (.inl g1)) (fun g=>g.elim (fun g=>g.ends.2.2.1 g2) (fun g=>g.ends.1 g2)) (fun _=>oo)
  ·exact cut (.inl (.inl g1)) (fun g=>g.elim (fun g=>g.ends.2.2.1 g2) (fun g=>g.ends.1 g2)) (fun _=>oo)
  ·exact cut (.inl (.inr k1)) (fun g=>g.elim (fun g=>g.ends.2.1 k2) (fun g=>g.ends.2.2.2 k2)) (fun _=>oo)
  ·refine cut (.inr ⟨g0,k0,.inl ⟨g1,k1⟩⟩) (fun g=>?_) (fun _=>oo);have p1:=lo (i-1) oo;have p2:=lo (i+1) oo;rcases g with g | g
   ·have:=g.up;rw[k2] at this;omega
   ·have:=g.up;rw[g2] at this;omega
  ·obtain⟨e1,e2,hst⟩:=h.strip.turnU hi Q g0 k0 g1 k1;have hcr':=(El.cr (ap:=apM m') (by rw[ha'];exact hst) tri' i hi);have s1:setF i k u i=k:=if_pos rfl;have s2:setF i l w i=l:=if_pos rfl;rw[s1,s2] at hcr';exact turn (setF i k u) (setF i l w) (by rw[ha'];exact hst) (fun j hj=>if_neg hj) (fun j hj=>if_neg hj) (by rw[s1,s2]) (.inl hcr') ⟨k,l,Q,ha',g0,k0,.inl ⟨g1,k1,rfl,rfl⟩⟩
  ·exact cut (.inl (.inr k1)) (fun g=>g.elim (fun g=>g.ends.2.1 k2) (fun g=>g.ends.2.2.2 k2)) (fun _=>oo)
  ·obtain⟨e1,e2,hst⟩:=h.strip.turnL hi Q g0 k0 g1 k1;have hcr':=(El.cr (ap:=apM m') (by rw[ha'];exact hst) tri' i hi);have s1:setF i l u i=l:=if_pos rfl;have s2:setF i k w i=k:=if_pos rfl;rw[s1,s2] at hcr';exact turn (setF i l u) (setF i k w) (by rw[ha'];exact hst) (fun j hj=>if_neg hj) (fun j hj=>if_neg hj) (by rw[s1,s2];exact Nu _ _) (.inr hcr') ⟨k,l,Q,ha',g0,k0,.inr ⟨g1,k1,rfl,rfl⟩⟩
  ·refine cut (.inr ⟨g0,k0,.inr ⟨g1,k1⟩⟩) (fun g=>?_) (fun _=>oo);have p1:=up (i-1) oo;have p2:=up (i+1) oo;rcases g with g | g
   ·have:=g.lo;rw[g2] at this;omega
   ·have:=g.lo;rw[k2] at this;omega
end
structure Apc(v:List Ac)(a b:Int)(m0 m:Mp):Prop where
 map:MapN v.length m
 tri:Tri (plV v) (inN v.length) (apM m)
 cov:Cov (plV v) (inN v.length) (apM m)
 ne:m≠[]
 side:Uo (apM m) a b
 keep:∀ x y,¬ Cr v a b x y->¬ Cr v a b y x->Uo (apM m0) x y->Uo (apM m) x y
section
variable {v:List Ac} {a b:Int} {F:List (Ab × Bool)} {m0:Mp}
abbrev FS:=List Ac × Mp × (List (Ab × Bool)) × List Ab
abbrev FG:=Nat × (Nat->Int) × (Nat->Int) × List Nat
theorem Apd(hv:Cc v)(hn:v.length<=1024)(ha:inN v.length a)(hb:inN v.length b)(hf:Free v a b){m:Mp}{q:List Ab}{M:Nat}{u w:Nat->Int}{π:List Nat}(h:Wt v a b m0 m q M u w π):
  ∃ m',lfix (Cb ⟨a,b⟩) (v,m,F,q)=some (v,m',F)/\Apc v a b m0 m':=by
 have key:=Apb (B:=Cb ⟨a,b⟩) (γ:=FG)
  (fun (s:FS) g=>s.1=v/\s.2.2.1=F/\Wt v a b m0 s.2.1 s.2.2.2 g.1 g.2.1 g.2.2.1 g.2.2.2)
  (fun s g s' g'=>g'.1<g.1\/(g'.1=g.1/\∃ i l,g.2.2.2=i::l/\g'.2.2.2=l++[i]/\((Yr (plV v) (apM s.2.1) g.2.1 g.2.2.1 i/\apM s'.2.1=apM s.2.1/\g'.2.1=g.2.1/\g'.2.2.1=g.2.2.1)\/Adl (plV v) (inN v.length) g.1 (apM s.2.1) g.2.1 g.2.2.1 i (apM s'.2.1) g'.2.1 g'.2.2.1)))
  (fun t=>∃ m',t=(v,m',F)/\Apc v a b m0 m')
  (by
   rintro⟨v',m,F',q⟩ ⟨M,u,w,π⟩ ⟨e1,e2,h⟩;dsimp only at e1 e2 h;subst e1 e2;cases π with
   | nil=>
    left;have h0:M=0:=by
     rcases Nat.eq_zero_or_pos M with g | g
     ·exact g
     ·have:=(h.all 0).2 g;cases this
    refine⟨(v',m,F'),?_,m,rfl,⟨h.map,h.tri,h.cov,h.ne,h.fin h0,h.keep⟩⟩;have hq:=h.que;rw[map_nil] at hq;unfold Cb;rw[hq,if_neg s_]
   | cons i π=>
    right;obtain⟨m',q',M',u',w',π',g1,g2,g3⟩:=h.round hv hn ha hb hf (F:=F');refine⟨(v',m',F',q'),(M',u',w',π'),g1,⟨rfl,rfl,g2⟩,?_⟩;dsimp only;rcases g3 with g3 | ⟨k1,k2,k3⟩
    ·exact .inl g3
    ·exact .inr ⟨k1,i,π,rfl,k2,k3⟩)
  (by
   intro f hI hR;obtain⟨T,hT⟩:=Ahw (m:=fun n=>(f n).2.1) (fun n=>by
    rcases hR n with g | ⟨g,_⟩
    ·exact Nat.le_of_lt g
    ·exact Nat.le_of_eq g)
   have hM:∀ t,(f (T+t)).2.1=(f T).2.1:=fun t=>hT (T+t) oo
   have hst:∀ t,∃ i l,(f (T+t)).2.2.2.2=i::l/\(f (T+(t+1))).2.2.2.2=l++[i]/\((Yr (plV v) (apM (f (T+t)).1.2.1) (f (T+t)).2.2.1 (f (T+t)).2.2.2.1 i/\apM (f (T+(t+1))).1.2.1=apM (f (T+t)).1.2.1/\(f (T+(t+1))).2.2.1=(f (T+t)).2.2.1/\(f (T+(t+1))).2.2.2.1=(f (T+t)).2.2.2.1)\/Adl (plV v) (inN v.length) (f (T+t)).2.1 (apM (f (T+t)).1.2.1) (f (T+t)).2.2.1 (f (T+t)).2.2.2.1 i (apM (f (T+(t+1))).1.2.1) (f (T+(t+1))).2.2.1 (f (T+(t+1))).2.2.2.1):=fun t=>by
    have h1:=hM t;have h2:=hM (t+1);have:=hR (T+t);rw[show T+t+1=T+(t+1) by omega] at this;rcases this with g | ⟨_,g⟩
    ·omega
    ·exact g
   have hm:∀ t i,i∈(f (T+t)).2.2.2.2↔i<(f T).2.1:=fun t i=>by rw[<- hM t];exact (hI (T+t)).2.2.all i
   obtain⟨w1,w2,w3⟩:=As9 (π:=fun t=>(f (T+t)).2.2.2.2) (m:=(f T).2.1) (fun t=>by
    obtain⟨i,l,g1,g2,_⟩:=hst t;exact⟨i,l,g1,g2⟩) (fun t=>(hI (T+t)).2.2.nd) hm
   have h0:0<(f T).2.1:=by
    have:=w3 0;omega
   refine Avc (V:=inN v.length) (P:=plV v) (a:=a) (b:=b) (m:=(f T).2.1) (apt:=fun t=>apM (f (T+t)).1.2.1) (ut:=fun t=>(f (T+t)).2.2.1) (wt:=fun t=>(f (T+t)).2.2.2.1) (s:=fun t=>((f (T+t)).2.2.2.2).headD 0) h0 (hI (T+0)).2.2.tri (hI (T+0)).2.2.strip w1 w2 w3 (fun t=>?_);obtain⟨i,l,g1,g2,g3⟩:=hst t;rw[g1,headD_cons];rw[hM t] at g3;exact g3)
  (v,m,F,q) (M,u,w,π) ⟨rfl,rfl,h⟩
 obtain⟨t,h1,m',rfl,h2⟩:=key;exact⟨m',h1,h2⟩
end
section
variable {v:List Ac} {m:Mp}
theorem Ajx(hm:MapN v.length m)(ht:Tri (plV v) (inN v.length) (apM m)){s:Ab}:s∈m.flatMap (Il m)↔∃ x y,Uo (apM m) x y/\s=pr2 x y:=by
 rw[mem_flatMap];constructor
 ·rintro⟨⟨⟨x,y⟩,z⟩,hq,hs⟩;unfold Il at hs;split at hs
  ·rw[mem_singleton] at hs;refine⟨x,y,.inl ?_,hs⟩;have:apM m x y=some z:=Qg hm.ok hq;rw[this];simp
  ·cases hs
 ·have one:∀ x y z,apM m x y=some z->∃ a∈m,pr2 x y∈Il m a:=fun x y z h=>by
   by_cases c:x<y\/(mget m ⟨y,x⟩).isSome=false
   ·refine⟨(⟨x,y⟩,z),Fw h,?_⟩;unfold Il rev2;rw[if_pos c];exact mem_singleton.2 rfl
   ·have c2:(mget m ⟨y,x⟩).isSome=true:=by
     cases e:(mget m ⟨y,x⟩).isSome with
     | true=>rfl
     | false=>exact absurd (.inr e) c
    obtain⟨z',hz'⟩:=Option.isSome_iff_exists.1 c2;refine⟨(⟨y,x⟩,z'),Fw hz',?_⟩;unfold Il rev2;have hne:=(ht.ne h).1;have hxy:¬ x<y:=fun g=>c (.inl g)
    rw[if_pos (.inl (show y<x by omega)),Nu];exact mem_singleton.2 rfl
  rintro⟨x,y,h | h,rfl⟩
  ·obtain⟨z,hz⟩:=Option.ne_none_iff_exists'.1 h;exact one x y z hz
  ·obtain⟨z,hz⟩:=Option.ne_none_iff_exists'.1 h;rw[Nu];exact one y x z hz
theorem Anf(ht:Tri (plV v) (inN v.length) (apM m)):∀ l:Mp,Ek l->(∀ q∈l,q∈m)->(∀ q∈l,apM m q.1.a0 q.1.a1=some q.2)->(l.flatMap (Il m)).Nodup:=by
 intro l
 induction l with
 | nil=>intro _ _ _;exact List.Pairwise.nil
 | cons q r ih=>
  intro hl hsub hval;obtain⟨h1,h2⟩:=pairwise_cons.1 hl;rw[flatMap_cons,nodup_append];refine⟨?_,ih h2 (fun q hq=>hsub q (mem_cons_of_mem _ hq)) (fun q hq=>hval q (mem_cons_of_mem _ hq)),fun x hx y hy e=>?_⟩
  ·unfold Il;split
   ·simp
   ·exact List.Pairwise.nil
  ·subst e;obtain⟨q',hq',hy⟩:=mem_flatMap.1 hy;have n1:=h1 q' hq';have v1:=hval q mem_cons_self;have v2:=hval q' (mem_cons_of_mem _ hq');obtain⟨⟨x0,x1⟩,z⟩:=q;obtain⟨⟨y0,y1⟩,z'⟩:=q';have e1:=(ht.ne v1).1;have e2:=(ht.ne v2).1;unfold Il rev2 at hx hy;dsimp only at *;split at hx
   ·rename_i c1;split at hy
    ·rename_i c2;rw[mem_singleton] at hx hy;rw[hx] at hy;rcases Ahn (i:=x0) (j:=x1) (a:=y0) (b:=y1) hy with⟨k1,k2⟩|⟨k1,k2⟩
     ·subst k1 k2;exact n1 rfl
     ·subst k1 k2;rcases c1 with c1 | c1
      ·rcases c2 with c2 | c2
       ·omega
       ·have:mget m ⟨x0,x1⟩=some z:=v1;rw[this] at c2;cases c2
      ·have:mget m ⟨x1,x0⟩=some z':=v2;rw[this] at c1;cases c1
    ·cases hy
   ·cases hx
end
section
variable {v:List Ac} {a b:Int} {F:List (Ab × Bool)} {m:Mp}
noncomputable def crB(v:List Ac)(a b:Int)(s:Ab):Bool:=decide (He v a b s.a0 s.a1)
theorem Ang(hv:Cc v)(ha:inN v.length a)(hb:inN v.length b)(l:List Ab)(hl:l.length<=1048576)(hin:∀ s∈l,inN v.length s.a0/\inN v.length s.a1):
  lfix (Hn (⟨v,m,F⟩,l) ⟨a,b⟩) ([],0)=some (v,m,F,l.filter (crB v a b)):=by
 obtain⟨t,ht,hR⟩:=Bn (B:=Hn (⟨v,m,F⟩,l) ⟨a,b⟩) (fun s=>l.length-s.2.toNat)
  (fun s=>∃ k:Nat,s=((l.take k).filter (crB v a b),(k:Int))/\k<=l.length)
  (fun t=>t=(v,m,F,l.filter (crB v a b))) (by
   rintro s ⟨k,rfl,hk⟩;unfold Hn;dsimp only
   by_cases hlt:k<l.length
   ·left;obtain⟨h1,h2⟩:=hin _ (getElem_mem hlt);have hle:((l.take k).filter (crB v a b)).length<=1048576:=Nat.le_trans (length_filter_le _ _) (by simp;omega);refine⟨((l.take (k+1)).filter (crB v a b),((k+1:Nat):Int)),?_,⟨k+1,rfl,oo⟩,by simp;omega⟩;rw[if_pos oo,jn_d,At hlt,Ad,Aax hv (k:=⟨a,b⟩) (l:=l[k]) ha hb h1 h2,Ad,Bd oo,take_add_one,List.getElem?_eq_getElem hlt,Option.toList_some,filter_append]
    by_cases c:He v a b l[k].a0 l[k].a1
    ·rw[if_pos (decide_eq_true c),gd_t oo];have:crB v a b l[k]=true:=decide_eq_true c;rw[filter_cons_of_pos this,filter_nil]
    ·rw[if_neg (by rw[decide_eq_true_eq];exact c)];have:¬ crB v a b l[k]=true:=by unfold crB;rw[decide_eq_true_eq];exact c
     rw[filter_cons_of_neg this,filter_nil,append_nil]
   ·right;obtain rfl:k=l.length:=oo;exact⟨_,by rw[if_neg oo],s_⟩)
  ([],0) ⟨0,s_,oo⟩
 rw[ht,hR]
theorem Anh(hv:Cc v)(hn:v.length<=1024)(hm:MapN v.length m)(ht:Tri (plV v) (inN v.length) (apM m))(hc:Cov (plV v) (inN v.length) (apM m))(hne:m≠[])(ha:inN v.length a)(hb:inN v.length b)(hab:a≠b)(hf:Free v a b):
  ∃ M u w π,Wt v a b m m ((Az cmp2 (m.flatMap (Il m))).filter (crB v a b)) M u w π:=by
 obtain⟨M,u,w,hs,hfin,hall⟩:=Awo hv ht hc ha hb hab hf (Ahh hv hm ht hc hne ha hb);have pm:=Du cmp2 (m.flatMap (Il m));have nds:(m.flatMap (Il m)).Nodup:=Anf ht m hm.ok (fun q h=>h) (fun q hq=>Qg hm.ok hq);have hf1:∀ q,(Il m q).length<=1:=fun q=>by unfold Il;split <;> simp
 have hl1:=Iu hf1 m;have hl2:=hm.len;have hl3:=Ace hn;have hq:∀ s,s∈(Az cmp2 (m.flatMap (Il m))).filter (crB v a b)↔∃ i,i<M/\pr2 (u i) (w i)=s:=fun s=>by
  rw[mem_filter,Ia,Ajx hm ht];constructor
  ·rintro⟨⟨x,y,h1,rfl⟩,h2⟩;unfold crB at h2;rw[decide_eq_true_eq,Ahx ht ha hb hf h1] at h2;rcases h2 with h2 | h2
   ·obtain⟨i,hi,rfl,rfl⟩:=hall x y h2 h1;exact⟨i,hi,rfl⟩
   ·obtain⟨i,hi,rfl,rfl⟩:=hall y x h2 h1.symm;exact⟨i,hi,Nu _ _⟩
  ·rintro⟨i,hi,rfl⟩;obtain⟨k,hk⟩:=hs.someR hi;have h1:Uo (apM m) (u i) (w i):=.inl (by rw[hk];simp);refine⟨⟨u i,w i,h1,rfl⟩,?_⟩;unfold crB;rw[decide_eq_true_eq,Ahx ht ha hb hf h1];exact .inl (hs.cr ht i hi)
 haveI:∀ s,Decidable (∃ i,i<M/\pr2 (u i) (w i)=s):=fun _=>Classical.propDecidable _
 let ix:Ab->Nat:=fun s=>if h:∃ i,i<M/\pr2 (u i) (w i)=s then Classical.choose h else 0
 have hix:∀ s∈(Az cmp2 (m.flatMap (Il m))).filter (crB v a b),ix s<M/\pr2 (u (ix s)) (w (ix s))=s:=fun s h=>by
  have h':=(hq s).1 h;have e:ix s=Classical.choose h':=dif_pos h';rw[e];exact Classical.choose_spec h'
 have ndq:((Az cmp2 (m.flatMap (Il m))).filter (crB v a b)).Nodup:=(pm.nodup_iff.2 nds).filter _;refine⟨M,u,w,((Az cmp2 (m.flatMap (Il m))).filter (crB v a b)).map ix,hm,ht,hc,hne,hs,?_,fun i=>?_,?_,hfin,fun _ _ _ _ h=>h,?_⟩
 ·exact Uv (fun x hx y hy e=>by rw[<- (hix x hx).2,<- (hix y hy).2,e]) ndq
 ·rw[mem_map];constructor
  ·rintro⟨s,h,rfl⟩;exact (hix s h).1
  ·intro hi;have hmem:=(hq _).2 ⟨i,hi,rfl⟩;exact⟨_,hmem,hs.pr_inj (hix _ hmem).1 hi (hix _ hmem).2⟩
 ·rw[map_map];have:((Az cmp2 (m.flatMap (Il m))).filter (crB v a b)).map ((fun i=>pr2 (u i) (w i)) ∘ ix)=((Az cmp2 (m.flatMap (Il m))).filter (crB v a b)).map id:=map_congr_left fun s h=>(hix s h).2
  rw[this,map_id]
 ·rw[length_map];refine Nat.le_trans (length_filter_le _ _) ?_;rw[pm.length_eq];omega
theorem Awp(hv:Cc v)(hn:v.length<=1024)(hm:MapN v.length m)(ht:Tri (plV v) (inN v.length) (apM m))(hc:Cov (plV v) (inN v.length) (apM m))(hne:m≠[])(ha:inN v.length a)(hb:inN v.length b)(hab:a≠b)(hf:Free v a b)(hF:F.length<=1000000000):
  ∃ m',Ib ⟨v,m,F⟩ ⟨a,b⟩=some ⟨v,m',mput F ⟨a,b⟩ true⟩/\Apc v a b m m':=by
 obtain⟨M,u,w,π,h⟩:=Anh hv hn hm ht hc hne ha hb hab hf;obtain⟨m',h1,h2⟩:=Apd (F:=F) hv hn ha hb hf h;have hf1:∀ q,(Il m q).length<=1:=fun q=>by unfold Il;split <;> simp
 have hl1:=Iu hf1 m;have hl2:=hm.len;have hl3:=Ace hn;refine⟨m',?_,h2⟩;unfold Ib;rw[jn_d,Anm (b:=⟨v,m,F⟩) hn hm,Ad,Ang hv ha hb _ (by rw[(Du _ _).length_eq];dsimp only;omega) (fun s hs=>?_),Ad]
 ·dsimp only;rw[jn_d,h1,Ad];dsimp only;rw[gd_t (Oq hn ha hb),gd_t oo]
 ·rw[Ia,Ajx hm ht] at hs;obtain⟨x,y,hs,rfl⟩:=hs;rcases hs with hs | hs <;> obtain⟨z,hz⟩:=Option.ne_none_iff_exists'.1 hs <;> obtain⟨p,q,_⟩:=ht.ccw _ _ _ hz
  ·exact Yv p q
  ·exact Yv q p
end
def prL(s:Ab):Ab:=pr2 s.a0 s.a1
def okL(v:List Ac)(s:Ab):Prop:=inN v.length s.a0/\inN v.length s.a1/\s.a0≠s.a1
def Lin1(v:List Ac)(l:List Ab):Prop:=(∀ s∈l,okL v s)/\(l.map prL).Nodup
def Lin2(v:List Ac)(l:List Ab):Prop:=(∀ s∈l,∀ k,inN v.length k->¬ BtwF (plV v s.a0) (plV v s.a1) (plV v k))/\l.Pairwise fun x y=>¬ He v x.a0 x.a1 y.a0 y.a1
noncomputable instance(v:List Ac)(l:List Ab):Decidable (Lin1 v l):=Classical.propDecidable _
noncomputable instance(v:List Ac)(l:List Ab):Decidable (Lin2 v l):=Classical.propDecidable _
noncomputable def Oa(v:List Ac)(l:List Ab):Int:=if Lin1 v l then if Lin2 v l then 0 else 63 else 62
section
variable {v:List Ac} {l:List Ab}
theorem By{α:Type}{l:List α}{k:Nat}(h:k<l.length):l.take (k+1)=l.take k++[l[k]]:=by
 rw[take_add_one,List.getElem?_eq_getElem h];rfl
theorem Wb{α:Type}{l:List α}{x:α}:(l++[x]).Nodup↔l.Nodup/\x ∉ l:=by
 rw[nodup_append];constructor
 ·rintro⟨h1,_,h3⟩;exact⟨h1,fun h=>h3 x h x s_ rfl⟩
 ·rintro⟨h1,h2⟩;exact⟨h1,s_,fun a ha b hb e=>h2 (by rw[mem_singleton] at hb;rw[<- hb,<- e];exact ha)⟩
structure L3(v:List Ac)(l:List Ab)(mp:List (Ab × Bool))(k:Nat):Prop where
 le:k<=l.length
 ok:Ek mp
 len:mp.length<=k
 get:∀ p,(mget mp p).getD false=true↔p∈(l.take k).map prL
 lin:Lin1 v (l.take k)
theorem Atc(hn:v.length<=1024)(hl:l.length<=1000000):lfix (Kx l v) ([],0)=some (if Lin1 v l then .inl () else .inr 62):=by
 obtain⟨t,ht,hR⟩:=Bn (B:=Kx l v) (fun s=>l.length-s.2.toNat)
  (fun s=>∃ (mp:List (Ab × Bool)) (k:Nat),s=(mp,(k:Int))/\L3 v l mp k)
  (fun t=>t=if Lin1 v l then .inl () else .inr 62) (by
   rintro s ⟨mp,k,rfl,h⟩;unfold Kx;dsimp only;have hle:=h.le
   by_cases hlt:k<l.length
   ·have hm:l[k]∈l:=getElem_mem hlt;rw[if_pos oo,At hlt,Ad,jn_d]
    by_cases ho:okL v l[k]
    ·obtain⟨h1,h2,h3⟩:=ho;have hr:=Yv h1 h2;have e:Fy l[k].a0 l[k].a1=some (prL l[k]):=rfl;have hr':inN v.length (prL l[k]).a0/\inN v.length (prL l[k]).a1:=hr;rw[if_neg (by have:=h1.1;omega),if_neg (by have:=h2.1;omega),if_neg (by have:=h1.2;omega),if_neg (by have:=h2.2;omega),if_neg h3,e,Ad,gd_t (Oq hn hr'.1 hr'.2),Ad];dsimp only
     by_cases c:prL l[k]∈(l.take k).map prL
     ·right;refine⟨.inr 62,by rw[if_pos ((h.get _).2 c)],?_⟩;rw[if_neg];rintro⟨_,hnd⟩;have hs:List.Sublist ((l.take (k+1)).map prL) (l.map prL):=(take_sublist _ _).map _;have:=hnd.sublist hs;rw[By hlt,map_append,map_singleton,Wb] at this;exact this.2 c
     ·left;have hf:(mget mp (prL l[k])).getD false=false:=by
       cases g:(mget mp (prL l[k])).getD false with
       | false=>rfl
       | true=>exact absurd ((h.get _).1 g) c
      have hlen:=h.len;refine⟨(mput mp (prL l[k]) true,((k+1:Nat):Int)),?_,⟨mput mp (prL l[k]) true,k+1,rfl,⟨oo,h.ok.put _ _,?_,fun p=>?_,?_⟩⟩,by simp;omega⟩
      ·rw[hf,if_neg s_,Ad,gd_t (Oq hn hr'.1 hr'.2),gd_t oo,Bd oo]
      ·unfold mput;have:(mdel mp (prL l[k])).length<=mp.length:=length_filter_le _ _;rw[length_cons];omega
      ·rw[Pd h.ok,By hlt,map_append,map_singleton,mem_append,mem_singleton]
       by_cases e:p=prL l[k]
       ·simp[e]
       ·rw[if_neg e,h.get p];simp[e]
      ·rw[By hlt];refine⟨fun s hs=>?_,?_⟩
       ·rcases mem_append.1 hs with hs | hs
        ·exact h.lin.1 s hs
        ·rw[mem_singleton] at hs;rw[hs];exact⟨h1,h2,h3⟩
       ·rw[map_append,map_singleton,Wb];exact⟨h.lin.2,c⟩
    ·right;have hno:¬ Lin1 v l:=fun g=>ho (g.1 _ hm)
     refine⟨.inr 62,?_,by rw[if_neg hno]⟩;unfold okL inN at ho
     by_cases c1:l[k].a0<0
     ·rw[if_pos c1];rfl
     ·rw[if_neg c1]
      by_cases c2:l[k].a1<0
      ·rw[if_pos c2];rfl
      ·rw[if_neg c2]
       by_cases c3:(v.length:Int)<=l[k].a0
       ·rw[if_pos c3];rfl
       ·rw[if_neg c3]
        by_cases c4:(v.length:Int)<=l[k].a1
        ·rw[if_pos c4];rfl
        ·rw[if_neg c4,if_pos oo];rfl
   ·right;obtain rfl:k=l.length:=oo;refine⟨.inl (),by rw[if_neg oo],?_⟩;have:=h.lin;rw[take_length] at this;rw[if_pos this])
  ([],0) ⟨[],0,rfl,⟨oo,List.Pairwise.nil,s_,fun p=>by simp[mget],⟨fun s hs=>by simp at hs,s_⟩⟩⟩
 rw[ht,hR]
theorem Ape(hv:Cc v)(hn:v.length<=1024){x:Ab}(h1:inN v.length x.a0)(h2:inN v.length x.a1):
  (lfix (Ew v x) 0=some (.inl ())/\∀ k,inN v.length k->¬ BtwF (plV v x.a0) (plV v x.a1) (plV v k))\/(lfix (Ew v x) 0=some (.inr 63)/\∃ k,inN v.length k/\BtwF (plV v x.a0) (plV v x.a1) (plV v k)):=by
 haveI:∀ p q r,Decidable (BtwF p q r):=fun _ _ _=>Classical.propDecidable _
 obtain⟨x0,i0,e0⟩:=Abn h1;obtain⟨x1,i1,e1⟩:=Abn h2;have L:=Sv (β:=Unit) (γ:=Int) v.length oo (fun k=>decide (BtwF (plV v x.a0) (plV v x.a1) (plV v (k:Int)))) (Ew v x) () 63 (fun k hk=>by
  unfold Ew Fs;have hp:(⟨v[k].X,v[k].Y⟩:Aa)=plV v (k:Int):=(Tt hk).symm;rw[if_pos oo,At hk,Ad,i0,Ad,i1,Ad,Ad,Ad,Ad,e0,e1,hp,Wa (hv.ok _ h1) (hv.ok _ h2) (hv.ok _ ⟨oo,oo⟩),Ad,Bd oo]) (by
  unfold Ew;rw[if_neg oo])
 rw[L]
 by_cases c:∃ k,inN v.length k/\BtwF (plV v x.a0) (plV v x.a1) (plV v k)
 ·right;refine⟨?_,c⟩;obtain⟨k,⟨k0,k1⟩,hk⟩:=c;rw[if_pos];rw[any_eq_true];exact⟨k.toNat,mem_range.2 oo,by rw[decide_eq_true_eq,Int.toNat_of_nonneg k0];exact hk⟩
 ·left;refine⟨?_,fun k hk g=>c ⟨k,hk,g⟩⟩;rw[if_neg];rw[any_eq_true];rintro⟨k,hk,g⟩;rw[decide_eq_true_eq] at g;exact c ⟨(k:Int),⟨oo,by have:=mem_range.1 hk;omega⟩,g⟩
theorem Apf(hv:Cc v)(hl:l.length<=1000000)(hok:∀ s∈l,okL v s){i:Nat}(hi:i<l.length):
  (lfix (Gx (i:Int) v l[i]) (l.take i,0)=some (.inl ())/\∀ x∈l.take i,¬ He v x.a0 x.a1 l[i].a0 l[i].a1)\/(lfix (Gx (i:Int) v l[i]) (l.take i,0)=some (.inr 63)/\∃ x∈l.take i,He v x.a0 x.a1 l[i].a0 l[i].a1):=by
 obtain⟨h1,h2,_⟩:=hok _ (getElem_mem hi);obtain⟨t,ht,hR⟩:=Bn (B:=Gx (i:Int) v l[i]) (fun s=>i-s.2.toNat)
  (fun s=>∃ k:Nat,s=(l.take i,(k:Int))/\k<=i/\∀ x∈(l.take i).take k,¬ He v x.a0 x.a1 l[i].a0 l[i].a1)
  (fun t=>(t = .inl ()/\∀ x∈l.take i,¬ He v x.a0 x.a1 l[i].a0 l[i].a1)\/(t = .inr 63/\∃ x∈l.take i,He v x.a0 x.a1 l[i].a0 l[i].a1)) (by
   rintro s ⟨k,rfl,hk,hno⟩;unfold Gx;dsimp only;have hlen:(l.take i).length=i:=by simp;omega
   by_cases hlt:k<i
   ·have hlt':k<(l.take i).length:=oo;obtain⟨q1,q2,_⟩:=hok _ (mem_of_mem_take (getElem_mem hlt'));rw[if_pos oo,At hlt',Ad,Aax hv q1 q2 h1 h2,Ad]
    by_cases c:He v (l.take i)[k].a0 (l.take i)[k].a1 l[i].a0 l[i].a1
    ·right;exact⟨.inr 63,by rw[if_pos (decide_eq_true c)],.inr ⟨rfl,_,getElem_mem hlt',c⟩⟩
    ·left;refine⟨(l.take i,((k+1:Nat):Int)),by rw[if_neg (by rw[decide_eq_true_eq];exact c),Bd oo],⟨k+1,rfl,oo,fun x hx=>?_⟩,by simp;omega⟩;rw[By hlt',mem_append,mem_singleton] at hx;rcases hx with hx | rfl
     ·exact hno x hx
     ·exact c
   ·right;obtain rfl:k=i:=oo;refine⟨.inl (),by rw[if_neg oo],.inl ⟨rfl,fun x hx=>hno x ?_⟩⟩
    rwa [take_of_length_le oo])
  (l.take i,0) ⟨0,rfl,oo,s_⟩
 rcases hR with⟨rfl,h⟩|⟨rfl,h⟩
 ·exact .inl ⟨ht,h⟩
 ·exact .inr ⟨ht,h⟩
theorem Apg(hv:Cc v)(hn:v.length<=1024)(hl:l.length<=1000000)(hok:∀ s∈l,okL v s):lfix (Jj l v) 0=some (if Lin2 v l then .inl () else .inr 63):=by
 obtain⟨t,ht,hR⟩:=Bn (B:=Jj l v) (fun s=>l.length-s.toNat)
  (fun s=>∃ k:Nat,s=(k:Int)/\k<=l.length/\Lin2 v (l.take k))
  (fun t=>t=if Lin2 v l then .inl () else .inr 63) (by
   rintro s ⟨k,rfl,hk,h⟩;unfold Jj
   by_cases hlt:k<l.length
   ·obtain⟨h1,h2,_⟩:=hok _ (getElem_mem hlt);rw[if_pos oo,jn_d,At hlt,Ad,jn_d];rcases Ape hv hn h1 h2 with⟨e,g⟩|⟨e,g⟩
    ·rw[e,Ad];dsimp only;rw[gd_t ⟨oo,oo⟩,show subl l 0 (k:Int)=l.take k from by rw[Aqh];simp];rcases Apf hv hl hok hlt with⟨e2,g2⟩|⟨e2,g2⟩
     ·left;rw[e2,Ad];refine⟨((k+1:Nat):Int),by dsimp only;rw[Bd oo],⟨k+1,rfl,oo,?_⟩,by simp;omega⟩;rw[By hlt];refine⟨fun s hs=>?_,?_⟩
      ·rcases mem_append.1 hs with hs | hs
       ·exact h.1 s hs
       ·rw[mem_singleton] at hs;rw[hs];exact g
      ·rw[pairwise_append];exact⟨h.2,s_,fun x hx y hy=>by rw[mem_singleton] at hy;rw[hy];exact g2 x hx⟩
     ·right;rw[e2,Ad];refine⟨.inr 63,rfl,?_⟩;rw[if_neg];rintro⟨_,hp⟩;obtain⟨x,hx,hc⟩:=g2;have:=hp.sublist (take_sublist (k+1) l);rw[By hlt,pairwise_append] at this;exact this.2.2 x hx l[k] s_ hc
    ·right;rw[e,Ad];refine⟨.inr 63,rfl,?_⟩;rw[if_neg];rintro⟨hp,_⟩;obtain⟨z,hz,hb⟩:=g;exact hp _ (getElem_mem hlt) z hz hb
   ·right;obtain rfl:k=l.length:=oo;refine⟨.inl (),by rw[if_neg oo],?_⟩;rw[take_length] at h;rw[if_pos h])
  0 ⟨0,rfl,oo,⟨fun s hs=>by simp at hs,s_⟩⟩
 rw[ht,hR]
theorem Acd(hv:Cc v)(hn:v.length<=1024)(hl:l.length<=1000000):Pi v l=some (Oa v l):=by
 unfold Pi Oa;rw[jn_d,Atc hn hl,Ad]
 by_cases c1:Lin1 v l
 ·rw[if_pos c1,if_pos c1];dsimp only;rw[jn_d,Apg hv hn hl c1.1,Ad]
  by_cases c2:Lin2 v l
  ·rw[if_pos c2,if_pos c2]
  ·rw[if_neg c2,if_neg c2]
 ·rw[if_neg c1,if_neg c1]
end
section
variable {v:List Ac} {l:List Ab}
theorem Ani(hl:l.length<=1000000)(hs:∀ s∈l.map prL,Ob s):Uh l=some (Az cmp2 (l.map prL)):=by
 obtain⟨t,ht,hR⟩:=Bn (B:=Td l) (fun s=>l.length-s.2.toNat)
  (fun s=>∃ k:Nat,s=((l.take k).map prL,(k:Int))/\k<=l.length)
  (fun t=>t=l.map prL) (by
   rintro s ⟨k,rfl,hk⟩;unfold Td;dsimp only
   by_cases hlt:k<l.length
   ·left;refine⟨((l.take (k+1)).map prL,((k+1:Nat):Int)),?_,⟨k+1,rfl,oo⟩,by simp;omega⟩;rw[if_pos oo,At hlt,Ad,show Fy l[k].a0 l[k].a1=some (prL l[k]) from rfl,Ad,gd_t (by simp;omega),Bd oo,By hlt,map_append];rfl
   ·right;obtain rfl:k=l.length:=oo;exact⟨_,by rw[if_neg oo],s_⟩)
  ([],0) ⟨0,s_,oo⟩
 unfold Uh;rw[jn_d,ht,Ad,hR];dsimp only;rw[gd_t ⟨by simp;omega,hs⟩]
theorem He.symm{a b c d:Int}(h:He v a b c d):He v c d a b:=by
 obtain⟨⟨n1,n2,n3,n4⟩,h⟩:=h;refine⟨⟨n1.symm,n3.symm,n2.symm,n4.symm⟩,?_⟩;unfold Meet at *;rcases h with (h | h | h | h) | ⟨h1,h2⟩
 ·exact .inl (.inr (.inr (.inl h)))
 ·exact .inl (.inr (.inr (.inr h)))
 ·exact .inl (.inl h)
 ·exact .inl (.inr (.inl h))
 ·exact .inr ⟨h2,h1⟩
theorem He.swap{a b c d:Int}(h:He v a b c d):He v a b d c:=by
 obtain⟨⟨n1,n2,n3,n4⟩,h⟩:=h;refine⟨⟨n2,n1,n4,n3⟩,?_⟩;unfold Meet at *;have bs:∀ p q r,BtwF p q r->BtwF q p r:=fun p q r h=>⟨⟨by have:=h.1.1;rw[Bb];omega,fun e=>h.1.2 e.symm⟩,h.2.2,h.2.1⟩
 rcases h with (h | h | h | h) | ⟨h1,h2⟩
 ·exact .inl (.inr (.inl h))
 ·exact .inl (.inl h)
 ·exact .inl (.inr (.inr (.inl (bs _ _ _ h))))
 ·exact .inl (.inr (.inr (.inr (bs _ _ _ h))))
 ·refine .inr ⟨by rw[Int.mul_comm];exact h1,?_⟩;rw[Bb (plV v c) (plV v d) (plV v a),Bb (plV v c) (plV v d) (plV v b)];rw[Int.sign_neg,Int.sign_neg,Int.neg_mul_neg];exact h2
theorem Atd{a b c d:Int}(h:He v (pr2 a b).a0 (pr2 a b).a1 (pr2 c d).a0 (pr2 c d).a1):He v a b c d:=by
 have one:∀ {a b c d:Int},He v a b (pr2 c d).a0 (pr2 c d).a1->He v a b c d:=fun {a b c d} h=>by
  by_cases e:c<=d
  ·have e0:(pr2 c d).a0=c:=by unfold pr2;simp only;omega
   have e1:(pr2 c d).a1=d:=by unfold pr2;simp only;omega
   rwa [e0,e1] at h
  ·have e0:(pr2 c d).a0=d:=by unfold pr2;simp only;omega
   have e1:(pr2 c d).a1=c:=by unfold pr2;simp only;omega
   rw[e0,e1] at h;exact h.swap
 exact (one (one h).symm).symm
structure Lines(v:List Ac)(L:List Ab):Prop where
 ok:∀ s∈L,okL v s/\s.a0<=s.a1
 nd:L.Nodup
 free:∀ s∈L,Free v s.a0 s.a1
 apart:∀ s∈L,∀ t∈L,s≠t->¬ He v s.a0 s.a1 t.a0 t.a1
theorem Bcr{s:Ab}(h:okL v s):okL v (prL s)/\(prL s).a0<=(prL s).a1:=by
 obtain⟨h1,h2,h3⟩:=h;have:=Yv h1 h2;refine⟨⟨this.1,this.2,?_⟩,?_⟩
 ·unfold prL pr2;simp only;omega
 ·unfold prL pr2;simp only;omega
theorem Ahz(hv:Cc v)(h1:Lin1 v l)(h2:Lin2 v l):Lines v (Az cmp2 (l.map prL)):=by
 have mem:∀ s,s∈Az cmp2 (l.map prL)↔∃ t∈l,prL t=s:=fun s=>by rw[Ia,mem_map]
 refine⟨fun s hs=>?_,(Du _ _).nodup_iff.2 h1.2,fun s hs=>?_,fun s hs t ht hne=>?_⟩
 ·obtain⟨x,hx,rfl⟩:=(mem s).1 hs;exact Bcr (h1.1 x hx)
 ·obtain⟨x,hx,rfl⟩:=(mem s).1 hs;have f:=h2.1 x hx;have fr:Free v x.a0 x.a1:=fun z hz n1 n2 g=>by
   obtain⟨k1,k2,_⟩:=h1.1 x hx;exact f z hz ⟨g,fun e=>n1 (hv.dist _ _ hz k1 e),fun e=>n2 (hv.dist _ _ hz k2 e)⟩
  unfold prL
  by_cases c:x.a0<=x.a1
  ·have e0:(pr2 x.a0 x.a1).a0=x.a0:=by unfold pr2;simp only;omega
   have e1:(pr2 x.a0 x.a1).a1=x.a1:=by unfold pr2;simp only;omega
   rw[e0,e1];exact fr
  ·have e0:(pr2 x.a0 x.a1).a0=x.a1:=by unfold pr2;simp only;omega
   have e1:(pr2 x.a0 x.a1).a1=x.a0:=by unfold pr2;simp only;omega
   rw[e0,e1];exact fun z hz n1 n2 g=>fr z hz n2 n1 ⟨by have:=g.1;rw[Bb];omega,fun e=>g.2 e.symm⟩
 ·obtain⟨x,hx,rfl⟩:=(mem s).1 hs;obtain⟨y,hy,rfl⟩:=(mem t).1 ht;intro g;have g':=Atd g;obtain⟨i,hi,rfl⟩:=getElem_of_mem hx;obtain⟨j,hj,rfl⟩:=getElem_of_mem hy;rcases Nat.lt_trichotomy i j with c | c | c
  ·exact (pairwise_iff_getElem.1 h2.2) i j hi hj c g'
  ·subst c;exact hne rfl
  ·exact (pairwise_iff_getElem.1 h2.2) j i hj hi c g'.symm
structure Awq(v:List Ac)(L:List Ab)(k:Nat)(m:Mp)(F:List (Ab × Bool)):Prop where
 le:k<=L.length
 map:MapN v.length m
 tri:Tri (plV v) (inN v.length) (apM m)
 cov:Cov (plV v) (inN v.length) (apM m)
 ne:m≠[]
 side:∀ s∈L.take k,Uo (apM m) s.a0 s.a1
 fok:Ek F
 fix:∀ p,(mget F p).getD false=true↔p∈L.take k
 flen:F.length<=k
theorem Ate(hv:Cc v)(hn:v.length<=1024){L:List Ab}(hL:Lines v L)(hlen:L.length<=1000000){m:Mp}(hm:MapN v.length m)(ht:Tri (plV v) (inN v.length) (apM m))(hc:Cov (plV v) (inN v.length) (apM m))(hne:m≠[]):
  ∃ m' F,lfix (Qr L) (v,m,[],0)=some (v,m',F)/\Awq v L L.length m' F:=by
 obtain⟨t,h1,h2⟩:=Bn (B:=Qr L) (fun s=>L.length-s.2.2.2.toNat)
  (fun s=>∃ (m:Mp) (F:List (Ab × Bool)) (k:Nat),s=(v,m,F,(k:Int))/\Awq v L k m F)
  (fun t=>∃ m' F,t=(v,m',F)/\Awq v L L.length m' F) (by
   rintro s ⟨m,F,k,rfl,h⟩;unfold Qr;dsimp only;have hle:=h.le
   by_cases hlt:k<L.length
   ·left;have hmem:L[k]∈L:=getElem_mem hlt;obtain⟨⟨k1,k2,k3⟩,k4⟩:=hL.ok _ hmem;have hfl:=h.flen;obtain⟨m',e,g⟩:=Awp (F:=F) hv hn h.map h.tri h.cov h.ne k1 k2 k3 (hL.free _ hmem) oo;refine⟨(v,m',mput F L[k] true,((k+1:Nat):Int)),?_,⟨m',mput F L[k] true,k+1,rfl,⟨oo,g.map,g.tri,g.cov,g.ne,fun s hs=>?_,h.fok.put _ _,fun p=>?_,?_⟩⟩,by simp;omega⟩
    ·rw[if_pos oo,At hlt,Ad,show (L[k]:Ab)=⟨L[k].a0,L[k].a1⟩ from rfl,e,Ad,Bd oo]
    ·rw[By hlt,mem_append,mem_singleton] at hs;rcases hs with hs | rfl
     ·have hsL:=mem_of_mem_take hs;have hne2:L[k]≠s:=fun e=>by
       have:=hL.nd.sublist (take_sublist (k+1) L);rw[By hlt,Wb] at this;exact this.2 (e ▸ hs)
      have hap:=hL.apart _ hmem _ hsL hne2;exact g.keep _ _ (fun c=>hap c.cross.1) (fun c=>hap c.cross.2) (h.side s hs)
     ·exact g.side
    ·rw[Pd h.fok,By hlt,mem_append,mem_singleton]
     by_cases c:p=L[k]
     ·simp[c]
     ·rw[if_neg c,h.fix p];simp[c]
    ·unfold mput;have:(mdel F L[k]).length<=F.length:=length_filter_le _ _;rw[length_cons];omega
   ·right;obtain rfl:k=L.length:=oo;exact⟨_,by rw[if_neg oo],m,F,rfl,h⟩)
  (v,m,[],0) ⟨m,[],0,rfl,⟨oo,hm,ht,hc,hne,fun s hs=>by simp at hs,List.Pairwise.nil,fun p=>by simp[mget],s_⟩⟩
 obtain⟨m',F,rfl,h3⟩:=h2;exact⟨m',F,h1,h3⟩
structure Mesh(v:List Ac)(L:List Ab)(m:Mp):Prop where
 map:MapN v.length m
 tri:Tri (plV v) (inN v.length) (apM m)
 cov:Cov (plV v) (inN v.length) (apM m)
 ne:m≠[]
 side:∀ s∈L,Uo (apM m) s.a0 s.a1
 leg:∀ i j k l,apM m i j=some k->apM m j i=some l->pr2 i j∈L\/DH (plV v) (hV v) i j k l<0
theorem Anj(h:Ny v=0)(hl:l.length<=1000000)(h1:Lin1 v l)(h2:Lin2 v l):
  ∃ T,Ic v l=some (⟨v,T,Az cmp2 (l.map prL)⟩,0)/\((Aao v/\T=[])\/(¬ Aao v/\∃ m,Mesh v (Az cmp2 (l.map prL)) m/\T=Az cmp3 (m.flatMap triF))):=by
 obtain⟨hn,_,hv⟩:=Sg h;have hL:=Ahz hv h1 h2;have sm:∀ s∈l.map prL,Ob s:=fun s hs=>by
  obtain⟨⟨k1,k2,_⟩,_⟩:=hL.ok s (Ia.2 hs);exact Abq hn k1 k2
 have hlen:(Az cmp2 (l.map prL)).length<=1000000:=by rw[(Du _ _).length_eq];simp;omega
 obtain⟨r,hr1,hr⟩:=Am1 hv hn;obtain⟨m,s1,s2⟩:=Avs hv hn hr [];have e0:Oa v l=0:=by unfold Oa;rw[if_pos h1,if_pos h2]
 unfold Ic;rw[Aap,h,Ad,if_pos rfl,Acd hv hn hl,e0,Ad,if_pos rfl,Ani hl sm,Ad,hr1,Ad,s1,Ad,jn_d];dsimp only;have hcl:Oc v=some v:=by
  unfold Oc;rw[gd_t oo]
 rcases s2 with⟨h3,rfl⟩|⟨h3,h4,h5,h6,h7⟩
 ·rw[if_neg s_];have ht:=Ad1 (n:=v.length) hn (b:=⟨v,[],[]⟩) ⟨List.Pairwise.nil,s_⟩;rw[hcl,Ad,ht,Ad];exact⟨_,rfl,.inl ⟨h3,by simp[Az]⟩⟩
 ·have hpos:0<m.length:=length_pos_iff.2 h7;rw[if_pos oo,jn_d];obtain⟨m1,F,f1,f2⟩:=Ate hv hn hL hlen h4 h5 h6 h7;rw[f1,Ad];dsimp only;obtain⟨m',g1,g2,g3⟩:=Asx (b:=⟨v,m1,F⟩) hv hn f2.map f2.tri;rw[g1,Ad];dsimp only at g1 g2 g3 ⊢;have ht:=Ad1 (n:=v.length) hn (b:=⟨v,m',F⟩) g2.map;rw[hcl,Ad,ht,Ad];have fx:∀ p q:Int,Fx F p q=true↔pr2 p q∈Az cmp2 (l.map prL):=fun p q=>by
   have:=f2.fix (pr2 p q);rw[take_length] at this;exact this
  refine⟨_,rfl,.inr ⟨h3,m',⟨g2.map,g2.tri,g3.cov _ f2.cov,g3.ne f2.ne,fun s hs=>?_,fun i j k l hk hl=>?_⟩,rfl⟩⟩
  ·obtain⟨⟨_,_,k3⟩,k4⟩:=hL.ok s hs;have hp:pr2 s.a0 s.a1=s:=by
    obtain⟨x,y⟩:=s;unfold pr2;rw[Iz];dsimp only at k4 ⊢;omega
   refine g3.fix _ _ ((fx _ _).2 (by rw[hp];exact hs)) (f2.side s (by rw[take_length];exact hs))
  ·rcases g2.pend i j k l hk hl with q | q | q
   ·cases q
   ·exact .inl ((fx _ _).1 q)
   ·exact .inr q
theorem Ah0(h:Ny v=0)(hl:l.length<=1000000)(h1:Oa v l≠0):Ic v l=some (⟨[],[],[]⟩,Oa v l):=by
 obtain⟨hn,_,hv⟩:=Sg h;unfold Ic;rw[Aap,h,Ad,if_pos rfl,Acd hv hn hl,Ad,if_neg h1]
end
theorem Bek{a b p:Aa}(h:crs a b p=0)(e:p.X=a.X):b.X=a.X\/p.Y=a.Y:=by
 unfold crs at h;rw[e,Int.sub_self,Int.mul_zero,Int.sub_zero] at h;rcases Int.mul_eq_zero.1 h with g | g
 ·exact .inl oo
 ·exact .inr oo
theorem Bel{a b p:Aa}(h:crs a b p=0)(e:p.X=b.X):b.X=a.X\/p.Y=b.Y:=by
 unfold crs at h;rw[e] at h;have:(b.X-a.X)*(p.Y-b.Y)=0:=by grind
 rcases Int.mul_eq_zero.1 this with g | g
 ·exact .inl oo
 ·exact .inr oo
theorem Aq8{a b p:Aa}(h0:crs a b p=0)(hab:¬ Bx a b)(hpa:¬ Bx p a)(hpb:¬ Bx p b):Box a b p↔BtwF a b p:=by
 have key:∀ a b p:Aa,crs a b p=0->¬ Bx a b->¬ Bx p a->¬ Bx p b->befP a b->(Box a b p↔BtwF a b p):=by
  intro a b p h0 hab hpa hpb hb;constructor
  ·intro hbox;refine⟨⟨h0,fun g=>?_⟩,hpa,hpb⟩;rcases Lb hpa with c | c
   ·exfalso;obtain⟨h1,h2,h3,h4⟩:=hbox;unfold befP Bx at *
    by_cases e:p.X=a.X
    ·rcases Bek h0 e with q | q <;> omega
    ·omega
   ·have c2:=g.1 c;exfalso;obtain⟨h1,h2,h3,h4⟩:=hbox;unfold befP Bx at *
    by_cases e:p.X=b.X
    ·rcases Bel h0 e with q | q <;> omega
    ·omega
  ·intro g;refine Ar4 h0 (fun c=>?_) (fun c=>?_)
   ·refine g.1.2 ⟨fun c2=>absurd c2 (Yk c),fun c2=>absurd c2 (Yk (Hz c hb))⟩
   ·refine g.1.2 ⟨fun _=>c,fun _=>Hz hb c⟩
 rcases Lb hab with c | c
 ·exact key a b p h0 hab hpa hpb c
 ·have h0':crs b a p=0:=by rw[Bb];omega
  have:=key b a p h0' (fun e=>hab ⟨e.1.symm,e.2.symm⟩) hpb hpa c;constructor
  ·intro h;have g:=this.1 h.swap;exact⟨⟨h0,fun e=>g.1.2 e.symm⟩,g.2.2,g.2.1⟩
  ·intro g;exact (this.2 ⟨⟨h0',fun e=>g.1.2 e.symm⟩,g.2.2,g.2.1⟩).swap
section
variable {v:List Ac} {l:List Ab}
theorem Age{x y:Ab}:prL x=prL y↔(x.a0=y.a0/\x.a1=y.a1)\/(x.a0=y.a1/\x.a1=y.a0):=by
 constructor
 ·intro h;exact Ahn h
 ·rintro (⟨h1,h2⟩|⟨h1,h2⟩)
  ·unfold prL;rw[h1,h2]
  ·unfold prL;rw[h1,h2,Nu]
theorem Azs(hl:l.length<=1000000){i:Nat}(hi:i<l.length):
  (lfix (Da (i:Int) l) 0=some (.inl ())/\prL l[i] ∉ (l.take i).map prL)\/(lfix (Da (i:Int) l) 0=some (.inr 62)/\prL l[i]∈(l.take i).map prL):=by
 haveI:∀ x y:Ab,Decidable (x=y):=fun _ _=>Classical.propDecidable _
 have L:=Sv (β:=Unit) (γ:=Int) i oo (fun k=>decide (prL l[i]=prL (l.getD k ⟨0,0⟩))) (Da (i:Int) l) () 62 (fun k hk=>by
  have hk':k<l.length:=oo;have e:l.getD k ⟨0,0⟩=l[k]:=by simp[hk']
  unfold Da;rw[if_pos oo,jn_d,At hi,Ad,At hk',Ad,e,Bd oo]
  by_cases c1:l[i].a0=l[k].a0/\l[i].a1=l[k].a1
  ·rw[if_pos (by simp[c1])];dsimp only;rw[if_pos rfl,if_pos (decide_eq_true (Age.2 (.inl c1)))]
  ·rw[if_neg (by simp;intro a;exact fun b=>c1 ⟨a,b⟩),Ad,Ad];dsimp only
   by_cases c2:l[i].a0=l[k].a1
   ·rw[if_pos c2,Ad,Ad]
    by_cases c3:l[i].a1=l[k].a0
    ·rw[if_pos (decide_eq_true c3),if_pos (decide_eq_true (Age.2 (.inr ⟨c2,c3⟩)))]
    ·rw[if_neg (by simpa using c3),if_neg (by rw[decide_eq_true_eq,Age];exact fun g=>g.elim c1 (fun g=>c3 g.2))]
   ·rw[if_neg c2,if_neg s_,if_neg (by rw[decide_eq_true_eq,Age];exact fun g=>g.elim c1 (fun g=>c2 g.1))]) (by
  unfold Da;rw[if_neg oo])
 have iff:((List.range i).any fun k=>decide (prL l[i]=prL (l.getD k ⟨0,0⟩)))=true↔prL l[i]∈(l.take i).map prL:=by
  rw[any_eq_true,mem_map];constructor
  ·rintro⟨k,hk,h⟩;have hk:=mem_range.1 hk;have hk':k<l.length:=oo;have e:l.getD k ⟨0,0⟩=l[k]:=by simp[hk']
   rw[decide_eq_true_eq,e] at h;exact⟨l[k],mem_take_iff_getElem.2 ⟨k,oo,rfl⟩,h.symm⟩
  ·rintro⟨x,hx,h⟩;obtain⟨k,hk,rfl⟩:=mem_take_iff_getElem.1 hx;have hk':k<l.length:=oo;have e:l.getD k ⟨0,0⟩=l[k]:=by simp[hk']
   exact⟨k,mem_range.2 oo,by rw[decide_eq_true_eq,e];exact h.symm⟩
 rw[L]
 by_cases c:prL l[i]∈(l.take i).map prL
 ·right;exact⟨by rw[if_pos (iff.2 c)],c⟩
 ·left;exact⟨by rw[if_neg (fun g=>c (iff.1 g))],c⟩
theorem Azt(hn:v.length<=1024)(hl:l.length<=1000000):lfix (Fq l v) 0=some (if Lin1 v l then .inl () else .inr 62):=by
 obtain⟨t,ht,hR⟩:=Bn (B:=Fq l v) (fun s=>l.length-s.toNat)
  (fun s=>∃ k:Nat,s=(k:Int)/\k<=l.length/\Lin1 v (l.take k))
  (fun t=>t=if Lin1 v l then .inl () else .inr 62) (by
   rintro s ⟨k,rfl,hk,h⟩;unfold Fq
   by_cases hlt:k<l.length
   ·have hm:l[k]∈l:=getElem_mem hlt;rw[if_pos oo,jn_d,jn_d,At hlt,Ad]
    by_cases ho:okL v l[k]
    ·obtain⟨h1,h2,h3⟩:=ho;rw[if_neg (by have:=h1.1;omega),Ad,if_neg (by have:=h1.2;omega),Ad,if_neg (by have:=h2.1;omega),Ad,if_neg (by have:=h2.2;omega),Ad,Ad,decide_eq_false h3];dsimp only;rw[if_neg (show ¬ (false=true) by simp)];rcases Azs hl hlt with⟨e,c⟩|⟨e,c⟩
     ·left;refine⟨((k+1:Nat):Int),by rw[e,Ad];dsimp only;rw[Bd oo],⟨k+1,rfl,oo,?_⟩,by simp;omega⟩;rw[By hlt];refine⟨fun s hs=>?_,?_⟩
      ·rcases mem_append.1 hs with hs | hs
       ·exact h.1 s hs
       ·rw[mem_singleton] at hs;rw[hs];exact⟨h1,h2,h3⟩
      ·rw[map_append,map_singleton,Wb];exact⟨h.2,c⟩
     ·right;refine⟨.inr 62,by rw[e,Ad],?_⟩;have hnl:¬ Lin1 v l:=by
       rintro⟨_,hnd⟩;have hs:List.Sublist ((l.take (k+1)).map prL) (l.map prL):=(take_sublist _ _).map _;have:=hnd.sublist hs;rw[By hlt,map_append,map_singleton,Wb] at this;exact this.2 c
      rw[if_neg hnl]
    ·right;have hno:¬ Lin1 v l:=fun g=>ho (g.1 _ hm)
     refine⟨.inr 62,?_,by rw[if_neg hno]⟩;unfold okL inN at ho
     by_cases c1:l[k].a0<0
     ·rw[if_pos c1];rfl
     ·rw[if_neg c1,Ad]
      by_cases c2:(v.length:Int)<=l[k].a0
      ·rw[if_pos c2];rfl
      ·rw[if_neg c2,Ad]
       by_cases c3:l[k].a1<0
       ·rw[if_pos c3];rfl
       ·rw[if_neg c3,Ad]
        by_cases c4:(v.length:Int)<=l[k].a1
        ·rw[if_pos c4];rfl
        ·rw[if_neg c4,Ad,Ad,decide_eq_true (show l[k].a0=l[k].a1 by omega)];rfl
   ·right;obtain rfl:k=l.length:=oo;refine⟨.inl (),by rw[if_neg oo],?_⟩;rw[take_length] at h;rw[if_pos h])
  0 ⟨0,rfl,oo,⟨fun s hs=>by simp at hs,s_⟩⟩
 rw[ht,hR]
def Hf(v:List Ac)(a b x y:Int):Prop:=Int.sign (crs (plV v a) (plV v b) (plV v x))*Int.sign (crs (plV v a) (plV v b) (plV v y))<0/\Int.sign (crs (plV v x) (plV v y) (plV v a))*Int.sign (crs (plV v x) (plV v y) (plV v b))<0
theorem Hf.symm{a b x y:Int}(h:Hf v a b x y):Hf v x y a b:=⟨h.2,h.1⟩
theorem Atf{a b x y:Int}(hx:inN v.length x)(hy:inN v.length y)(ha:inN v.length a)(hb:inN v.length b)(f1:∀ k,inN v.length k->¬ BtwF (plV v a) (plV v b) (plV v k))(f2:∀ k,inN v.length k->¬ BtwF (plV v x) (plV v y) (plV v k)):He v a b x y↔Hf v a b x y:=by
 constructor
 ·rintro⟨_,(g | g | g | g) | g⟩
  ·exact absurd g (f1 x hx)
  ·exact absurd g (f1 y hy)
  ·exact absurd g (f2 a ha)
  ·exact absurd g (f2 b hb)
  ·exact g
 ·intro g;obtain⟨g1,g2⟩:=g;refine⟨⟨fun e=>?_,fun e=>?_,fun e=>?_,fun e=>?_⟩,.inr ⟨g1,g2⟩⟩
  ·rw[e,Bv] at g1;simp at g1
  ·rw[e,Bv] at g1;simp at g1
  ·rw[e,Bo] at g1;simp at g1
  ·rw[e,Bo] at g1;simp at g1
theorem Ajy{a b c d:Aa}(ha:okP a)(hb:okP b)(hc:okP c)(hd:okP d):Ko a b c d=some (decide (Int.sign (crs a b c)*Int.sign (crs a b d)<0/\Int.sign (crs c d a)*Int.sign (crs c d b)<0)):=by
 unfold Ko;rw[jn_d,Rx ha hb hc,Ad,Rx ha hb hd,Ad,Ww]
 by_cases h:Int.sign (crs a b c)*Int.sign (crs a b d)<0
 ·rw[if_pos h,Rx hc hd ha,Ad,Rx hc hd hb,Ad,Ww];simp[h]
 ·rw[if_neg h];simp[h]
theorem Awr(hv:Cc v)(hn:v.length<=1024){i:Nat}(hi:i<l.length)(ho:okL v l[i]):
  (lfix (Co v l (i:Int) (plV v l[i].a0) (plV v l[i].a1)) 0=some (.inl ())/\∀ k,inN v.length k->¬ BtwF (plV v l[i].a0) (plV v l[i].a1) (plV v k))\/(lfix (Co v l (i:Int) (plV v l[i].a0) (plV v l[i].a1)) 0=some (.inr 63)/\∃ k,inN v.length k/\BtwF (plV v l[i].a0) (plV v l[i].a1) (plV v k)):=by
 haveI:∀ p q r,Decidable (BtwF p q r):=fun _ _ _=>Classical.propDecidable _
 obtain⟨h1,h2,h3⟩:=ho;have L:=Sv (β:=Unit) (γ:=Int) v.length oo (fun k=>decide (BtwF (plV v l[i].a0) (plV v l[i].a1) (plV v (k:Int)))) (Co v l (i:Int) (plV v l[i].a0) (plV v l[i].a1)) () 63 (fun k hk=>by
  have hkn:inN v.length (k:Int):=⟨oo,oo⟩;unfold Co;rw[if_pos oo,jn_d,At hi,Ad,Bd oo]
  by_cases c1:(k:Int)=l[i].a0
  ·have:¬ BtwF (plV v l[i].a0) (plV v l[i].a1) (plV v (k:Int)):=fun g=>g.2.1 (by rw[c1];exact⟨rfl,rfl⟩)
   rw[if_pos c1];dsimp only;rw[if_neg (show ¬ (false=true) by simp),if_neg (show ¬ (decide (BtwF (plV v l[i].a0) (plV v l[i].a1) (plV v (k:Int)))=true) by simpa using this)]
  ·rw[if_neg c1,Ad]
   by_cases c2:(k:Int)=l[i].a1
   ·have:¬ BtwF (plV v l[i].a0) (plV v l[i].a1) (plV v (k:Int)):=fun g=>g.2.2 (by rw[c2];exact⟨rfl,rfl⟩)
    rw[if_pos c2];dsimp only;rw[if_neg (show ¬ (false=true) by simp),if_neg (show ¬ (decide (BtwF (plV v l[i].a0) (plV v l[i].a1) (plV v (k:Int)))=true) by simpa using this)]
   ·have hp:(⟨v[k].X,v[k].Y⟩:Aa)=plV v (k:Int):=(Tt hk).symm;rw[if_neg c2,At hk,Ad];unfold An;dsimp only;rw[Ad,hp,Aft (hv.ok _ h1) (hv.ok _ h2) (hv.ok _ hkn),Ad]
    by_cases c:BtwF (plV v l[i].a0) (plV v l[i].a1) (plV v (k:Int))
    ·have hb:=(Aq8 c.1.1 (Qv hv h1 h2 h3) (Qv hv hkn h1 c1) (Qv hv hkn h2 c2)).2 c;rw[if_pos (by rw[decide_eq_true_eq];exact⟨c.1.1,hb⟩),if_pos (decide_eq_true c)]
    ·rw[if_neg (by
      rw[decide_eq_true_eq];rintro⟨g0,g⟩;exact c ((Aq8 g0 (Qv hv h1 h2 h3) (Qv hv hkn h1 c1) (Qv hv hkn h2 c2)).1 g)),if_neg (by simpa using c)]) (by
  unfold Co;rw[if_neg oo])
 rw[L]
 by_cases c:∃ k,inN v.length k/\BtwF (plV v l[i].a0) (plV v l[i].a1) (plV v k)
 ·right;refine⟨?_,c⟩;obtain⟨k,⟨k0,k1⟩,hk⟩:=c;rw[if_pos];rw[any_eq_true];exact⟨k.toNat,mem_range.2 oo,by rw[decide_eq_true_eq,Int.toNat_of_nonneg k0];exact hk⟩
 ·left;refine⟨?_,fun k hk g=>c ⟨k,hk,g⟩⟩;rw[if_neg];rw[any_eq_true];rintro⟨k,hk,g⟩;rw[decide_eq_true_eq] at g;exact c ⟨(k:Int),⟨oo,by have:=mem_range.1 hk;omega⟩,g⟩
theorem Aws(hv:Cc v)(hl:l.length<=1000000)(hok:∀ s∈l,okL v s){i:Nat}(hi:i<l.length):
  (lfix (Cp (i:Int) l v (plV v l[i].a0) (plV v l[i].a1)) 0=some (.inl ())/\∀ x∈l.take i,¬ Hf v x.a0 x.a1 l[i].a0 l[i].a1)\/(lfix (Cp (i:Int) l v (plV v l[i].a0) (plV v l[i].a1)) 0=some (.inr 63)/\∃ x∈l.take i,Hf v x.a0 x.a1 l[i].a0 l[i].a1):=by
 haveI:∀ a b c d,Decidable (Hf v a b c d):=fun _ _ _ _=>Classical.propDecidable _
 obtain⟨h1,h2,_⟩:=hok _ (getElem_mem hi);have L:=Sv (β:=Unit) (γ:=Int) i oo (fun k=>decide (Hf v (l.getD k ⟨0,0⟩).a0 (l.getD k ⟨0,0⟩).a1 l[i].a0 l[i].a1)) (Cp (i:Int) l v (plV v l[i].a0) (plV v l[i].a1)) () 63 (fun k hk=>by
  have hk':k<l.length:=oo;have e:l.getD k ⟨0,0⟩=l[k]:=by simp[hk']
  obtain⟨q1,q2,_⟩:=hok _ (getElem_mem hk');obtain⟨x0,i0,e0⟩:=Jg q1;obtain⟨x1,i1,e1⟩:=Jg q2;unfold Cp An;rw[if_pos oo,At hk',Ad,i0,Ad,Ad,i1,Ad];try dsimp only
  rw[Ad,Ad,e0,e1,Ajy (hv.ok _ h1) (hv.ok _ h2) (hv.ok _ q1) (hv.ok _ q2),Ad,e,Bd oo]
  by_cases c:Hf v l[k].a0 l[k].a1 l[i].a0 l[i].a1
  ·rw[if_pos (by rw[decide_eq_true_eq];exact c.symm),if_pos (decide_eq_true c)]
  ·rw[if_neg (by rw[decide_eq_true_eq];exact fun g=>c (Hf.symm (v:=v) g)),if_neg (by simpa using c)]) (by
  unfold Cp;rw[if_neg oo])
 have iff:((List.range i).any fun k=>decide (Hf v (l.getD k ⟨0,0⟩).a0 (l.getD k ⟨0,0⟩).a1 l[i].a0 l[i].a1))=true↔∃ x∈l.take i,Hf v x.a0 x.a1 l[i].a0 l[i].a1:=by
  rw[any_eq_true];constructor
  ·rintro⟨k,hk,h⟩;have hk:=mem_range.1 hk;have hk':k<l.length:=oo;have e:l.getD k ⟨0,0⟩=l[k]:=by simp[hk']
   rw[decide_eq_true_eq,e] at h;exact⟨l[k],mem_take_iff_getElem.2 ⟨k,oo,rfl⟩,h⟩
  ·rintro⟨x,hx,h⟩;obtain⟨k,hk,rfl⟩:=mem_take_iff_getElem.1 hx;have hk':k<l.length:=oo;have e:l.getD k ⟨0,0⟩=l[k]:=by simp[hk']
   exact⟨k,mem_range.2 oo,by rw[decide_eq_true_eq,e];exact h⟩
 rw[L]
 by_cases c:∃ x∈l.take i,Hf v x.a0 x.a1 l[i].a0 l[i].a1
 ·right;exact⟨by rw[if_pos (iff.2 c)],c⟩
 ·left;exact⟨by rw[if_neg (fun g=>c (iff.1 g))],fun x hx g=>c ⟨x,hx,g⟩⟩
theorem Awt(hv:Cc v)(hn:v.length<=1024)(hl:l.length<=1000000)(hok:∀ s∈l,okL v s):lfix (Et l v) 0=some (if Lin2 v l then .inl () else .inr 63):=by
 obtain⟨t,ht,hR⟩:=Bn (B:=Et l v) (fun s=>l.length-s.toNat)
  (fun s=>∃ k:Nat,s=(k:Int)/\k<=l.length/\Lin2 v (l.take k))
  (fun t=>t=if Lin2 v l then .inl () else .inr 63) (by
   rintro s ⟨k,rfl,hk,h⟩;unfold Et An
   by_cases hlt:k<l.length
   ·have ho:=hok _ (getElem_mem hlt);obtain⟨h1,h2,_⟩:=hok _ (getElem_mem hlt);obtain⟨x0,i0,e0⟩:=Jg h1;obtain⟨x1,i1,e1⟩:=Jg h2;rw[if_pos oo,jn_d,At hlt,Ad,i0,Ad,Ad,i1,Ad];dsimp only;rw[Ad,Ad,e0,e1,jn_d];rcases Awr hv hn hlt ho with⟨e,g⟩|⟨e,g⟩
    ·rw[e,Ad];dsimp only;have cr:∀ x∈l.take k,(He v x.a0 x.a1 l[k].a0 l[k].a1↔Hf v x.a0 x.a1 l[k].a0 l[k].a1):=fun x hx=>by
      obtain⟨q1,q2,_⟩:=hok _ (mem_of_mem_take hx);exact Atf h1 h2 q1 q2 (h.1 x hx) g
     rcases Aws hv hl hok hlt with⟨e2,g2⟩|⟨e2,g2⟩
     ·left;rw[e2,Ad];refine⟨((k+1:Nat):Int),by dsimp only;rw[Bd oo],⟨k+1,rfl,oo,?_⟩,by simp;omega⟩;rw[By hlt];refine⟨fun s hs=>?_,?_⟩
      ·rcases mem_append.1 hs with hs | hs
       ·exact h.1 s hs
       ·rw[mem_singleton] at hs;rw[hs];exact g
      ·rw[pairwise_append];exact⟨h.2,s_,fun x hx y hy=>by rw[mem_singleton] at hy;rw[hy];exact fun c=>g2 x hx ((cr x hx).1 c)⟩
     ·right;rw[e2,Ad];refine⟨.inr 63,rfl,?_⟩;rw[if_neg];rintro⟨_,hp⟩;obtain⟨x,hx,hc⟩:=g2;have:=hp.sublist (take_sublist (k+1) l);rw[By hlt,pairwise_append] at this;exact this.2.2 x hx l[k] s_ ((cr x hx).2 hc)
    ·right;rw[e,Ad];refine⟨.inr 63,rfl,?_⟩;rw[if_neg];rintro⟨hp,_⟩;obtain⟨z,hz,hb⟩:=g;exact hp _ (getElem_mem hlt) z hz hb
   ·right;obtain rfl:k=l.length:=oo;refine⟨.inl (),by rw[if_neg oo],?_⟩;rw[take_length] at h;rw[if_pos h])
  0 ⟨0,rfl,oo,⟨fun s hs=>by simp at hs,s_⟩⟩
 rw[ht,hR]
theorem Ady(hv:Cc v)(hn:v.length<=1024)(hl:l.length<=1000000):Ho v l=some (Oa v l):=by
 unfold Ho Oa;rw[jn_d,Azt hn hl,Ad]
 by_cases c1:Lin1 v l
 ·rw[if_pos c1,if_pos c1];dsimp only;rw[jn_d,Awt hv hn hl c1.1,Ad]
  by_cases c2:Lin2 v l
  ·rw[if_pos c2,if_pos c2]
  ·rw[if_neg c2,if_neg c2]
 ·rw[if_neg c1,if_neg c1]
theorem Adz(hl:l.length<=1000000):Kq v l=some (if Ny v=0 then Oa v l else Ny v):=by
 unfold Kq;rw[Zn,Ad]
 by_cases h:Ny v=0
 ·obtain⟨hn,_,hv⟩:=Sg h;rw[if_pos h,if_pos h,Ady hv hn hl,Ad]
 ·rw[if_neg h,if_neg h]
end
section
variable {v:List Ac} {L:List Ab} {m:Mp} {ap:Ap}
theorem Ank{w u l r c:Int}(t1:0<crs (plV v w) (plV v u) (plV v l))(t2:0<crs (plV v u) (plV v w) (plV v r))(hD:DH (plV v) (hV v) w u l r<0)(hx:crs (plV v w) (plV v u) (plV v c)<0)(hn:DH (plV v) (hV v) u w r c<=0):DH (plV v) (hV v) w u l c<0:=by
 have key:=Ty (hV v w) (hV v u) (hV v l) (hV v r) (plV v w) (plV v u) (plV v l) (plV v r) (plV v c);unfold DH at hD hn ⊢;rw[Alt] at hn ⊢;have e1:=Int.mul_pos_of_neg_of_neg hD hx;generalize plt (hV v u) (hV v w) (hV v r) (plV v u) (plV v w) (plV v r) (plV v c)=N at *;generalize plt (hV v w) (hV v u) (hV v l) (plV v w) (plV v u) (plV v l) (plV v c)=M at *;generalize crs (plV v w) (plV v u) (plV v l)=A at *;generalize crs (plV v u) (plV v w) (plV v r)=B at *;have e2:(N-hV v c*B)*A<=0:=Int.mul_nonpos_of_nonpos_of_nonneg hn (Int.le_of_lt t1);have e3:(M-hV v c*A)*B=M*B-N*A+(N-hV v c*B)*A:=by grind
 rcases Int.lt_or_le (M-hV v c*A) 0 with g | g
 ·exact g
 ·have:=Int.mul_nonneg g (Int.le_of_lt t2);omega
theorem Azu(ht:Tri (plV v) (inN v.length) ap){a b:Int}{M:Nat}{U W:Nat->Int}(hr:Run v ap a b M U W)(hl:∀ i,i<M->∀ k l,ap (W i) (U i)=some k->ap (U i) (W i)=some l->DH (plV v) (hV v) (W i) (U i) k l<0):
  ∀ n i,i+n+1=M->∀ l,ap (W i) (U i)=some l->DH (plV v) (hV v) (W i) (U i) l b<0:=by
 intro n
 induction n with
 | zero=>
  intro i hi l hk;have hR:=hr.last i oo;have cr:=hr.cr i oo;exact hl i oo l b hk hR
 | succ n ih=>
  intro i hi l hk;have cr:=hr.cr i oo;have hx:crs (plV v (W i)) (plV v (U i)) (plV v b)<0:=by rw[Bb];have:=cr.rb;omega
  have t1:=(ht.ccw _ _ _ hk).2.2.2;rcases hr.next i oo with⟨e1,e2⟩|⟨e1,e2⟩
  ·have g:=ih (i+1) oo (W i) (by rw[e1];exact ht.rot2 e2);rw[e1] at g;refine Ank t1 (ht.ccw _ _ _ e2).2.2.2 (hl i oo _ _ hk e2) hx (Int.le_of_lt ?_);rw[<- Sy,<- Sy];exact g
  ·have g:=ih (i+1) oo (U i) (by rw[e1];exact ht.rot _ _ _ e2);rw[e1] at g;refine Ank t1 (ht.ccw _ _ _ e2).2.2.2 (hl i oo _ _ hk e2) hx (Int.le_of_lt ?_);rw[<- Sy];exact g
def Seen(v:List Ac)(L:List Ab)(i k:Int):Prop:=∀ s∈L,¬ Hf v i k s.a0 s.a1
theorem Hf.rev{a b x y:Int}(h:Hf v a b x y):Hf v a b y x:=by
 obtain⟨h1,h2⟩:=h;refine⟨by rw[Int.mul_comm];exact h1,?_⟩;rw[Bb (plV v x) (plV v y) (plV v a),Bb (plV v x) (plV v y) (plV v b),Int.sign_neg,Int.sign_neg,Int.neg_mul_neg];exact h2
theorem Cr.crossR{a b x y:Int}(h:Cr v a b x y):Hf v a b x y:=by
 obtain⟨h1,h2,h3,h4⟩:=h;exact⟨Gm.2 oo,Gm.2 oo⟩
theorem Hf.cr{a b x y:Int}(h:Hf v a b x y):Cr v a b x y\/Cr v a b y x:=by
 obtain⟨g1,g2⟩:=h;have e:crs (plV v x) (plV v y) (plV v b)-crs (plV v x) (plV v y) (plV v a)=crs (plV v a) (plV v b) (plV v x)-crs (plV v a) (plV v b) (plV v y):=by unfold crs;grind
 have e1:crs (plV v y) (plV v x) (plV v a) = -crs (plV v x) (plV v y) (plV v a):=Bb _ _ _;have e2:crs (plV v y) (plV v x) (plV v b) = -crs (plV v x) (plV v y) (plV v b):=Bb _ _ _;rw[Gm] at g1 g2;rcases g1 with⟨g1,g1'⟩|⟨g1,g1'⟩
 ·exact .inl ⟨g1,g1',oo,oo⟩
 ·exact .inr ⟨g1',g1,oo,oo⟩
theorem Seen.pr{a b x y:Int}(h:Seen v L a b)(hc:Cr v a b x y):pr2 x y ∉ L:=fun hm=>by
 refine h _ hm ?_
 by_cases e:x<=y
 ·have e0:(pr2 x y).a0=x:=by unfold pr2;simp only;omega
  have e1:(pr2 x y).a1=y:=by unfold pr2;simp only;omega
  rw[e0,e1];exact hc.crossR
 ·have e0:(pr2 x y).a0=y:=by unfold pr2;simp only;omega
  have e1:(pr2 x y).a1=x:=by unfold pr2;simp only;omega
  rw[e0,e1];exact hc.crossR.rev
theorem Mesh.sees(h:Mesh v L m){a b k c:Int}(hk:apM m a b=some k)(hc:inN v.length c)(hf:Free v a c)(hs:Seen v L a c)(h1:0<crs (plV v a) (plV v b) (plV v c))(h2:0<crs (plV v a) (plV v c) (plV v k)):DH (plV v) (hV v) a b k c<0:=by
 obtain⟨va,vb,vk,T⟩:=h.tri.ccw _ _ _ hk;have na:c≠a:=fun e=>by rw[e,Bv] at h1;omega
 have nb:c≠b:=fun e=>by rw[e,Bo] at h1;omega
 have nk:c≠k:=fun e=>by rw[e,Bo] at h2;omega
 have em:=h.tri.emp _ _ _ hk c hc na nb nk;have e1:crs (plV v k) (plV v a) (plV v c)=crs (plV v a) (plV v c) (plV v k):=by unfold crs;grind
 have e2:crs (plV v a) (plV v c) (plV v b) = -crs (plV v a) (plV v b) (plV v c):=by unfold crs;grind
 have e3:crs (plV v k) (plV v b) (plV v a) = -crs (plV v a) (plV v b) (plV v k):=by unfold crs;grind
 have e4:crs (plV v k) (plV v b) (plV v c) = -crs (plV v b) (plV v k) (plV v c):=Bb _ _ _;have cr:Cr v a c k b:=⟨h2,oo,oo,oo⟩;have hbk:=h.tri.rot _ _ _ hk;obtain⟨⟨r,hr⟩,_⟩:=cr.both h.tri h.cov va hc (.inr (by rw[hbk];simp));obtain⟨M,U,W,hM,u0,w0,run⟩:=Akv h.tri h.cov va hc hf cr hr;have:=Azu h.tri run (fun i hi x y hx hy=>by
  rcases h.leg _ _ _ _ hx hy with g | g
  ·exact absurd g (by rw[Nu];exact hs.pr (run.cr i hi))
  ·exact g) (M-1) 0 oo a (by rw[u0,w0];exact hbk)
 rw[u0,w0,Sy] at this;exact this
theorem Atg(a b z k c:Int):DH (plV v) (hV v) a b k c*crs (plV v a) (plV v b) (plV v z)=DH (plV v) (hV v) a b z c*crs (plV v a) (plV v b) (plV v k)+DH (plV v) (hV v) a b k z*crs (plV v a) (plV v b) (plV v c):=by unfold DH Dt crs;grind
theorem Mesh.sees2(hv:Cc v)(h:Mesh v L m){a b k:Int}(hk:apM m a b=some k):∀ (n:Nat) (c:Int),(crs (plV v a) (plV v b) (plV v c)).toNat=n->inN v.length c->Seen v L a c->0<crs (plV v a) (plV v b) (plV v c)->0<crs (plV v a) (plV v c) (plV v k)->DH (plV v) (hV v) a b k c<0:=by
 intro n
 induction n using Nat.strongRecOn with
 | ind n ih=>
  intro c hn hc hs h1 h2;obtain⟨va,vb,vk,T⟩:=h.tri.ccw _ _ _ hk
  by_cases hf:Free v a c
  ·exact h.sees hk hc hf hs h1 h2
  ·unfold Free at hf;have⟨z,hf⟩:=Classical.not_forall.1 hf;have⟨hz,hf⟩:=Classical.not_imp.1 hf;have⟨za,hf⟩:=Classical.not_imp.1 hf;have⟨zc,hf⟩:=Classical.not_imp.1 hf;have hb:=Classical.not_not.1 hf;obtain⟨d,D,d1,d2,hd⟩:=Aq7 ⟨hb,fun e=>za (hv.dist _ _ hz va e),fun e=>zc (hv.dist _ _ hz hc e)⟩;have i1:=hd (plV v a) (plV v b);rw[Bv,Int.mul_zero,Int.zero_add] at i1;have m1:=Int.mul_pos d1 h1;have z1:=Cj (x:=D) (y:=crs (plV v a) (plV v b) (plV v z)) oo oo;have m2:=Int.mul_lt_mul_of_pos_right d2 h1;have z2:crs (plV v a) (plV v b) (plV v z)<crs (plV v a) (plV v b) (plV v c):=by
    refine Classical.byContradiction fun n=>?_
    have:=Int.mul_le_mul_of_nonneg_left (show crs (plV v a) (plV v b) (plV v c)<=crs (plV v a) (plV v b) (plV v z) by omega) (show 0<=D by omega);omega
   have i2:=hd (plV v k) (plV v a);rw[Bo,Int.mul_zero,Int.zero_add] at i2;have r1:crs (plV v k) (plV v a) (plV v c)=crs (plV v a) (plV v c) (plV v k):=by unfold crs;grind
   have r2:crs (plV v k) (plV v a) (plV v z)=crs (plV v a) (plV v z) (plV v k):=by unfold crs;grind
   rw[r1,r2] at i2;have m3:=Int.mul_pos d1 h2;have z3:=Cj (x:=D) (y:=crs (plV v a) (plV v z) (plV v k)) oo oo;have sz:Seen v L a z:=fun s hm g=>by
    refine hs s hm ?_;have j1:=hd (plV v s.a0) (plV v s.a1);have j2:=hd (plV v s.a0) (plV v a);have j3:=hd (plV v s.a1) (plV v a);rw[Bo,Int.mul_zero,Int.zero_add] at j2 j3;have q2:∀ x y,crs (plV v x) (plV v a) (plV v y)=crs (plV v a) (plV v y) (plV v x):=fun x y=>by unfold crs;grind
    rw[q2,q2] at j2 j3;obtain⟨g1,g2⟩:=g;have pos:∀ x:Int,D*crs (plV v a) (plV v z) (plV v x)=d*crs (plV v a) (plV v c) (plV v x)->(0<crs (plV v a) (plV v z) (plV v x)->0<crs (plV v a) (plV v c) (plV v x))/\(crs (plV v a) (plV v z) (plV v x)<0->crs (plV v a) (plV v c) (plV v x)<0):=fun x e=>by
     have:=Amr (D:=d) (d:=D) (X:=crs (plV v a) (plV v z) (plV v x)) (x:=crs (plV v a) (plV v c) (plV v x)) d1 oo e.symm;exact⟨this.1,this.2.1⟩
    have p0:=pos _ j2;have p1:=pos _ j3;rw[Gm] at g1 g2;refine⟨Gm.2 ?_,Gm.2 ?_⟩
    ·rcases g1 with⟨x1,x2⟩|⟨x1,x2⟩
     ·exact .inl ⟨p0.1 x1,p1.2 x2⟩
     ·exact .inr ⟨p0.2 x1,p1.1 x2⟩
    ·rcases g2 with⟨x1,x2⟩|⟨x1,x2⟩
     ·refine .inl ⟨x1,?_⟩;refine Classical.byContradiction fun n=>?_
      have w1:=Int.mul_pos (show 0<D-d by omega) x1;have w2:=Int.mul_nonneg (Int.le_of_lt d1) (show 0<=crs (plV v s.a0) (plV v s.a1) (plV v c) by omega);have w3:=Int.mul_neg_of_pos_of_neg (show 0<D by omega) x2;omega
     ·refine .inr ⟨x1,?_⟩;refine Classical.byContradiction fun n=>?_
      have w1:=Int.mul_neg_of_pos_of_neg (show 0<D-d by omega) x1;have w2:=Int.mul_nonpos_of_nonneg_of_nonpos (Int.le_of_lt d1) (show crs (plV v s.a0) (plV v s.a1) (plV v c)<=0 by omega);have w3:=Int.mul_pos (show 0<D by omega) x2;omega
   have g1:=ih _ oo z rfl hz sz z1 z3;have g2:DH (plV v) (hV v) b z a c<0:=by
    refine Tu hv b z a c vb hz va hc (by rw[Ar];exact z1) ?_ (.inl ?_)
    ·have j:=hd (plV v b) (plV v c);rw[Bo,Int.mul_zero,Int.add_zero] at j;have q:crs (plV v b) (plV v c) (plV v a)=crs (plV v a) (plV v b) (plV v c):=by unfold crs;grind
     rw[q] at j;have w:=Int.mul_pos (show 0<D-d by omega) h1;have:=Cj (x:=D) (y:=crs (plV v b) (plV v c) (plV v z)) oo oo;rw[Bl] at this;omega
    ·have j:=hd (plV v c) (plV v a);rw[Bo,Bv,Int.mul_zero,Int.mul_zero] at j;rcases Int.mul_eq_zero.1 (show D*crs (plV v c) (plV v a) (plV v z)=0 by omega) with e | e
     ·omega
     ·have:crs (plV v z) (plV v a) (plV v c) = -crs (plV v c) (plV v a) (plV v z):=by unfold crs;grind
      omega
   rw[Sy] at g2;have key:=Atg (v:=v) a b z k c;have w1:=Int.mul_neg_of_neg_of_pos g2 T;have w2:=Int.mul_neg_of_neg_of_pos g1 h1;refine Classical.byContradiction fun n=>?_
   have:=Int.mul_nonneg (show 0<=DH (plV v) (hV v) a b k c by omega) (Int.le_of_lt z1);omega
theorem Mesh.best(hv:Cc v)(h:Mesh v L m){a b k c:Int}(hk:apM m a b=some k)(hc:inN v.length c)(h1:0<crs (plV v a) (plV v b) (plV v c))(hne:c≠k)(sa:Seen v L a c)(sb:Seen v L b c):DH (plV v) (hV v) a b k c<0:=by
 obtain⟨va,vb,vk,T⟩:=h.tri.ccw _ _ _ hk;have na:c≠a:=fun e=>by rw[e,Bv] at h1;omega
 have nb:c≠b:=fun e=>by rw[e,Bo] at h1;omega
 have e1:crs (plV v k) (plV v a) (plV v c)=crs (plV v a) (plV v c) (plV v k):=by unfold crs;grind
 have e2:crs (plV v b) (plV v c) (plV v a)=crs (plV v a) (plV v b) (plV v c):=by unfold crs;grind
 rcases h.tri.emp _ _ _ hk c hc na nb hne with g | g | g
 ·omega
 ·by_cases p:0<crs (plV v a) (plV v c) (plV v k)
  ·exact h.sees2 hv hk _ c rfl hc sa h1 p
  ·rw[<- Sy];exact Tu hv b k a c vb vk va hc (by rw[Ar];exact T) g (.inl oo)
 ·by_cases p:0<crs (plV v b) (plV v k) (plV v c)
  ·rw[<- Sy];exact h.sees2 hv (h.tri.rot _ _ _ hk) _ c rfl hc sb p oo
  ·rw[<- Sy,<- Sy];exact Tu hv k a b c vk va vb hc (by rw[<- Ar];exact T) g (.inr oo)
end
end Go.Proofs.YthlkpgdfifnagaaGreat
