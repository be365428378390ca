/- The places on the border of a mesh. -/
import Derived.Test.YtjfndjmabhbicaaGreatU41
import Derived.Test.YtjfndjmabhbicaaGreatU22
import Derived.Test.YtjfndjmabhbicaaGreatFlow2
import Derived.Test.YtjfndjmabhbicaaGreatRows
import Derived.ProofKit
import Derived.OpenShut
import Derived.ShutString
import Derived.ChangeOld
import Derived.Below
import Derived.Carry
import Derived.ChangeArms
import Derived.Deep.Slices
namespace Go.Proofs.YtjfndjmabhbicaaGreat
open Go Go.RowKit
section
variable {v:List Ab} {L:List Aa} {T:List Ae} {m:Mp}
theorem Ars (hv:Be v) (hM:Mesh v L m) {p b:Int} (hp:inN v.length p) (hb:inN v.length b) (hne:p≠b) (left:∀ d,inN v.length d->0<=crs (plV v p) (plV v b) (plV v d)) (hfree:Free v p b):∃ e,apM m p b=some e:=by
 rcases Acu hv hM.tri hp hb hne hfree (Vo hv hM.map hM.tri hM.cov hM.ne hp hb) with (g | g) | ⟨x,y,g,g1,g2⟩
 ·exact Option.ne_none_iff_exists'.1 g
 ·exfalso
  obtain ⟨e,he⟩:=Option.ne_none_iff_exists'.1 g
  obtain ⟨_,_,ve,T⟩:=hM.tri.ccw _ _ _ he
  have:=left e ve
  rw [Ar] at T;omega
 ·exfalso
  obtain ⟨vx,_,_,_⟩:=hM.tri.ccw _ _ _ g
  have:=left x vx
  omega
theorem Ai3 (F:Int->Int) {P:Int->Prop}:∀ (l:List Int),(∃ k∈l,P k)->∃ k∈l,P k/\∀ j∈l,P j->F k<=F j
 | [],h=>by obtain ⟨k,hk,_⟩:=h;cases hk
 | x::r,h=>by
  by_cases c:∃ k∈r,P k
  ·obtain ⟨k,hk,hp,hm⟩:=Ai3 F r c
   by_cases d:P x/\F x < F k
   ·exact ⟨x,by simp,d.1,fun j hj hpj=>by
     rcases List.mem_cons.1 hj with e | hj
     ·rw [e];omega
     ·have:=hm j hj hpj;omega⟩
   ·refine ⟨k,by simp [hk],hp,fun j hj hpj=>?_⟩
    rcases List.mem_cons.1 hj with e | hj
    ·subst e
     refine Classical.byContradiction fun n=>d ⟨hpj,by omega⟩
    ·exact hm j hj hpj
  ·obtain ⟨k,hk,hp⟩:=h
   rcases List.mem_cons.1 hk with e | hk
   ·subst e
    refine ⟨k,by simp,hp,fun j hj hpj=>?_⟩
    rcases List.mem_cons.1 hj with e | hj
    ·rw [e];exact Int.le_refl _
    ·exact absurd ⟨j,hj,hpj⟩ c
   ·exact absurd ⟨k,hk,hp⟩ c
theorem Amk (hv:Be v) (hM:Mesh v L m) (hT:Ix v m T) {α β a b i:Int} (bef:∀ x y,inN v.length x->inN v.length y->x≠y->(ph α β (plV v x) < ph α β (plV v y)\/ph α β (plV v y) < ph α β (plV v x))) (btw:∀ x y z,inN v.length x->inN v.length y->inN v.length z->BtwF (plV v x) (plV v y) (plV v z)->ph α β (plV v x) < ph α β (plV v y)->ph α β (plV v x) < ph α β (plV v z)/\ph α β (plV v z) < ph α β (plV v y)) (ha:inN v.length a) (hb:inN v.length b) (hi:inN v.length i) (left:∀ d,inN v.length d->0<=crs (plV v a) (plV v b) (plV v d)) (hab:ph α β (plV v a) < ph α β (plV v b)) (h0:crs (plV v a) (plV v b) (plV v i)=0) (hib:ph α β (plV v i) < ph α β (plV v b)):∃ q,(i,q)∈bds m T:=by
 obtain ⟨k,hk,⟨hk0,hk1⟩,hkm⟩:=Ai3 (fun k=>ph α β (plV v k)) (P:=fun k=>crs (plV v a) (plV v b) (plV v k)=0/\ph α β (plV v i) < ph α β (plV v k)) (inds v.length) ⟨b,Gm.2 hb,Bb _ _,hib⟩
 have hkn:=Gm.1 hk
 have nik:i≠k:=fun e=>by subst e;omega
 have dir:∀ d,(ph α β (plV v b)-ph α β (plV v a))*crs (plV v i) (plV v k) (plV v d)=(ph α β (plV v k)-ph α β (plV v i))*crs (plV v a) (plV v b) (plV v d):=fun d=>by
  have e1:crs (plV v a) (plV v b) (plV v i)=0:=h0
  have e2:crs (plV v a) (plV v b) (plV v k)=0:=hk0
  unfold crs ph at *
  grind
 have lft:∀ d,inN v.length d->0<=crs (plV v i) (plV v k) (plV v d):=fun d hd=>by
  have:=dir d
  have h1:=Int.mul_nonneg (show 0<=ph α β (plV v k)-ph α β (plV v i) by omega) (left d hd)
  refine Classical.byContradiction fun n=>?_
  have h2:=Int.mul_neg_of_pos_of_neg (show 0 < ph α β (plV v b)-ph α β (plV v a) by omega) (show crs (plV v i) (plV v k) (plV v d) < 0 by omega)
  omega
 have hfree:Free v i k:=fun z hz n1 n2 g=>by
  have hg:BtwF (plV v i) (plV v k) (plV v z):=⟨g,fun e=>n1 (hv.dist _ _ hz hi e),fun e=>n2 (hv.dist _ _ hz hkn e)⟩
  obtain ⟨q1,q2⟩:=btw i k z hi hkn hz hg hk1
  have e0:crs (plV v a) (plV v b) (plV v z)=0:=by
   have:=dir z
   rw [g.1,Int.mul_zero] at this
   rcases Int.mul_eq_zero.1 this.symm with w | w
   ·omega
   ·exact w
  have:=hkm z (Gm.2 hz) ⟨e0,q1⟩
  omega
 obtain ⟨e,he⟩:=Ars hv hM hi hkn nik lft hfree
 refine ⟨k,(Lg hM.tri hT).2 ⟨⟨e,he⟩,?_⟩⟩
 rcases w:apM m k i with _ | z
 ·rfl
 ·exfalso
  obtain ⟨_,_,vz,Tz⟩:=hM.tri.ccw _ _ _ w
  have:=lft z vz
  rw [Ar] at Tz
  omega
end
section
variable {v:List Ab} {L:List Aa} {T:List Ae} {m:Mp}
theorem Nf (p:Ac):ph (-lexA) (-1) p = -ph lexA 1 p:=by unfold ph;grind
theorem Oh (hv:Be v) {x y:Int} (hx:inN v.length x) (hy:inN v.length y):ph lexA 1 (plV v x) < ph lexA 1 (plV v y)↔befP (plV v x) (plV v y):=Uh (hv.ok _ hx) (hv.ok _ hy)
theorem Uw (hv:Be v) {x y:Int} (hx:inN v.length x) (hy:inN v.length y) (h:x≠y):ph lexA 1 (plV v x) < ph lexA 1 (plV v y)\/ph lexA 1 (plV v y) < ph lexA 1 (plV v x):=by
 rw [Oh hv hx hy,Oh hv hy hx]
 exact Ft (Cp hv hx hy h)
theorem Aml (hv:Be v) {x y z:Int} (hx:inN v.length x) (hy:inN v.length y) (hz:inN v.length z) (h:BtwF (plV v x) (plV v y) (plV v z)) (h1:ph lexA 1 (plV v x) < ph lexA 1 (plV v y)):ph lexA 1 (plV v x) < ph lexA 1 (plV v z)/\ph lexA 1 (plV v z) < ph lexA 1 (plV v y):=by
 obtain ⟨⟨_,h2⟩,h3,h4⟩:=h
 rw [<- Oh hv hx hz,<- Oh hv hy hz] at h2
 have n1:z≠x:=fun e=>h3 (by rw [e];exact ⟨rfl,rfl⟩)
 have n2:z≠y:=fun e=>h4 (by rw [e];exact ⟨rfl,rfl⟩)
 have t1:=Uw hv hz hx n1
 have t2:=Uw hv hz hy n2
 omega
theorem Art (hv:Be v) {x y z:Int} (hx:inN v.length x) (hy:inN v.length y) (hz:inN v.length z) (h:BtwF (plV v x) (plV v y) (plV v z)) (h1:ph (-lexA) (-1) (plV v x) < ph (-lexA) (-1) (plV v y)):ph (-lexA) (-1) (plV v x) < ph (-lexA) (-1) (plV v z)/\ph (-lexA) (-1) (plV v z) < ph (-lexA) (-1) (plV v y):=by
 rw [Nf,Nf] at h1
 obtain ⟨⟨h0,h2⟩,h3,h4⟩:=h
 have:=Aml hv hy hx hz ⟨⟨by rw [Ar,h0];rfl,fun w=>h2 w.symm⟩,h4,h3⟩ (by omega)
 rw [Nf,Nf,Nf]
 omega
theorem Ai4 (hM:Mesh v L m) (hT:Ix v m T) {p q:Int} (h:(p,q)∈bds m T):inN v.length p/\inN v.length q/\p≠q:=by
 obtain ⟨⟨e,he⟩,_⟩:=(Lg hM.tri hT).1 h
 obtain ⟨q1,q2,_⟩:=hM.tri.ccw _ _ _ he
 exact ⟨q1,q2,(hM.tri.ne he).1⟩
theorem So (hM:Mesh v L m) (hT:Ix v m T) {p q:Int} (h:(p,q)∈bds m T):∀ k,inN v.length k->0<=crs (plV v p) (plV v q) (plV v k):=fun k hk=>by
 obtain ⟨⟨e,he⟩,h2⟩:=(Lg hM.tri hT).1 h
 exact hM.cov _ _ _ he h2 k hk
theorem Amm (hv:Be v) (hM:Mesh v L m) (hT:Ix v m T) {p q:Int} (h:(p,q)∈bds m T) {k:Int} (hk:inN v.length k) (h0:crs (plV v p) (plV v q) (plV v k)=0):¬ ((ph lexA 1 (plV v p) < ph lexA 1 (plV v k)/\ph lexA 1 (plV v k) < ph lexA 1 (plV v q))\/(ph lexA 1 (plV v q) < ph lexA 1 (plV v k)/\ph lexA 1 (plV v k) < ph lexA 1 (plV v p))):=fun g=>by
 obtain ⟨⟨e,he⟩,_⟩:=(Lg hM.tri hT).1 h
 obtain ⟨vp,vq,_⟩:=Ai4 hM hT h
 have n1:k≠p:=fun e=>by subst e;omega
 have n2:k≠q:=fun e=>by subst e;omega
 refine Rf hM.tri he hk n1 n2 ⟨⟨h0,fun w=>?_⟩,Cp hv hk vp n1,Cp hv hk vq n2⟩
 rw [<- Oh hv vp hk,<- Oh hv vq hk] at w
 omega
theorem Aw2 (hv:Be v) (hM:Mesh v L m) (hT:Ix v m T) (hfl:¬ Nv v) {p q r:Int} (h:(p,q)∈bds m T) (k:(p,r)∈bds m T):q=r:=by
 refine Classical.byContradiction fun n=>?_
 obtain ⟨vp,vq,npq⟩:=Ai4 hM hT h
 obtain ⟨_,vr,npr⟩:=Ai4 hM hT k
 have c1:=So hM hT h r vr
 have c2:=So hM hT k q vq
 have c3:crs (plV v p) (plV v r) (plV v q) = -crs (plV v p) (plV v q) (plV v r):=Av _ _ _
 have f1:=Amm hv hM hT h vr (by omega)
 have f2:=Amm hv hM hT k vq (by omega)
 have t:=Uw hv vq vr n
 rcases Uw hv vp vq npq with a | a <;> rcases Uw hv vp vr npr with b | b
 ·omega
 ·exact hfl (Zj hv vp vr npr (fork (P:=plV v) (V:=inN v.length) (α:=lexA) (β:=1) vr vq b a (So hM hT k) (So hM hT h)))
 ·exact hfl (Zj hv vp vq npq (fork (P:=plV v) (V:=inN v.length) (α:=lexA) (β:=1) vq vr a b (So hM hT h) (So hM hT k)))
 ·omega
theorem Af2 {P:Int->Ac} {V:Int->Prop} {α β c c' i j:Int} (hs:SupV P V α β c c') (hi:V i) (hj:V j) (h1:ph α β (P c)<=ph α β (P i)) (h2:ph α β (P i) < ph α β (P c')) (h3:ph α β (P i) < ph α β (P j)) (hb:∀ k,V k->0<=crs (P i) (P j) (P k)):crs (P c) (P c') (P i)=0:=by
 obtain ⟨vc,vc',hlt,hk⟩:=hs
 have id:=Tq α β (P i) (P c) (P c') (P j)
 have a1:=hb c vc
 have a2:=hb c' vc'
 have a3:=hk i hi
 have e1:crs (P i) (P c') (P j) = -crs (P i) (P j) (P c'):=Av _ _ _
 have e2:crs (P i) (P c) (P c')=crs (P c) (P c') (P i):=by unfold crs;grind
 rw [e1,e2] at id
 have t1:=Int.mul_nonneg (show 0<=ph α β (P i)-ph α β (P c) by omega) a2
 have t2:=Int.mul_nonneg (show 0<=ph α β (P c')-ph α β (P i) by omega) a1
 have t3:=Int.mul_nonneg (show 0<=ph α β (P j)-ph α β (P i) by omega) a3
 have e3:(ph α β (P c)-ph α β (P i)) * -crs (P i) (P j) (P c')=(ph α β (P i)-ph α β (P c))*crs (P i) (P j) (P c'):=by grind
 rw [e3] at id
 rcases Int.mul_eq_zero.1 (show (ph α β (P j)-ph α β (P i))*crs (P c) (P c') (P i)=0 by omega) with g | g
 ·omega
 ·exact g
def HitL (v:List Ab) (C:List Int) (p:Int):Prop:=∃ (k:Nat) (a b:Int),C[k]? = some a/\C[k+1]? = some b/\crs (plV v a) (plV v b) (plV v p)=0
theorem Af3 {α β i j g:Int} (hi:inN v.length i) (hj:inN v.length j) (h3:ph α β (plV v i) < ph α β (plV v j)) (hb:∀ k,inN v.length k->0<=crs (plV v i) (plV v j) (plV v k)) (hg:ph α β (plV v i) < ph α β (plV v g)):∀ {r:List Int} {c:Int},Ih (SupV (plV v) (inN v.length) α β) (c::r++[g])->ph α β (plV v c)<=ph α β (plV v i)->HitL v (c::r++[g]) i:=by
 intro r
 induction r with
 | nil =>
  intro c h hc
  exact ⟨0,c,g,rfl,rfl,Af2 h.1 hi hj hc hg h3 hb⟩
 | cons x r ih =>
  intro c h hc
  by_cases c1:ph α β (plV v i) < ph α β (plV v x)
  ·exact ⟨0,c,x,rfl,rfl,Af2 h.1 hi hj hc c1 h3 hb⟩
  ·obtain ⟨k,a,b,h1,h2,h4⟩:=ih (c:=x) h.2 (by omega)
   exact ⟨k+1,a,b,h1,h2,h4⟩
theorem Ri {Q:Int->Int->Prop}:∀ {C:List Int} {k:Nat} {a b:Int},Ih Q C->C[k]? = some a->C[k+1]? = some b->Q a b
 | [],_,_,_,_,h,_=>by simp at h
 | [x],k,_,_,_,_,h=>by simp at h
 | x::y::r,0,a,b,h,h1,h2=>by
  cases h1;cases h2;exact h.1
 | x::y::r,k+1,a,b,h,h1,h2=>Ri (C:=y::r) (k:=k) h.2 h1 h2
theorem Aru {C D:List Int} {k:Nat} {a:Int} (h:C[k]? = some a):(C++D)[k]? = some a:=by
 rw [List.getElem?_append_left (List.getElem?_eq_some_iff.1 h).1];exact h
theorem Avk {C D:List Int} {k:Nat} {a:Int} (h:D[k]? = some a):(C++D)[C.length+k]? = some a:=by
 rw [List.getElem?_append_right (by omega),show C.length+k-C.length=k by omega];exact h
structure Hull (v:List Ab) (f g:Int) (X Y:List Int):Prop where
 lo:Ih (SupV (plV v) (inN v.length) lexA 1) (f::X++[g])
 up:Ih (SupV (plV v) (inN v.length) (-lexA) (-1)) (g::Y++[f])
 inf:inN v.length f
 low:∀ k,inN v.length k->k=f\/befP (plV v f) (plV v k)
 ing:inN v.length g
 high:∀ k,inN v.length k->k=g\/befP (plV v k) (plV v g)
 nx:Ih (Nx v) (f::X++g::Y++[f])
theorem Hull.edge {f g:Int} {X Y:List Int} (h:Hull v f g X Y) {k:Nat} {a b:Int} (h1:(f::X++g::Y++[f])[k]? = some a) (h2:(f::X++g::Y++[f])[k+1]? = some b):SupV (plV v) (inN v.length) lexA 1 a b\/SupV (plV v) (inN v.length) (-lexA) (-1) a b:=by
 by_cases c:k < (f::X).length
 ·have e:f::X++g::Y++[f]=(f::X++[g])++(Y++[f]):=by simp
  rw [e,List.getElem?_append_left (by simp at c ⊢;omega)] at h1 h2
  exact .inl (Ri h.lo h1 h2)
 ·have e:f::X++g::Y++[f]=(f::X)++(g::Y++[f]):=by simp
  rw [e,List.getElem?_append_right (by omega)] at h1 h2
  rw [show k+1-(f::X).length=k-(f::X).length+1 by omega] at h2
  exact .inr (Ri h.up h1 h2)
theorem Hull.on {f g:Int} {X Y:List Int} (h:Hull v f g X Y) (hv:Be v) (hM:Mesh v L m) (hT:Ix v m T) {p:Int} (hp:inN v.length p):HitL v (f::X++g::Y++[f]) p↔∃ q,(p,q)∈bds m T:=by
 have corner:∀ {k:Nat} {a b i:Int},(f::X++g::Y++[f])[k]? = some a->(f::X++g::Y++[f])[k+1]? = some b->inN v.length i->crs (plV v a) (plV v b) (plV v i)=0->i≠b->∃ q,(i,q)∈bds m T:=fun {k a b i} h1 h2 hi h0 nib=>by
  have N:=Ri h.nx h1 h2
  have t:=Uw hv hi N.inb nib
  rcases h.edge h1 h2 with w | w
  ·rcases t with t | t
   ·exact Amk hv hM hT (fun x y hx hy n=>Uw hv hx hy n) (fun x y z hx hy hz=>Aml hv hx hy hz) N.ina N.inb hi w.2.2.2 w.2.2.1 h0 t
   ·exfalso
    have w1:=w.2.2.1
    have nia:i≠a:=fun e=>by subst e;omega
    refine N.far i hi nia nib h0 (Xb (by rw [Av,h0];rfl) ?_ ?_)
    ·rw [<- Oh hv N.inb N.ina];omega
    ·rw [<- Oh hv hi N.inb];omega
  ·have w1:=w.2.2.1
   rw [Nf,Nf] at w1
   rcases t with t | t
   ·exfalso
    have nia:i≠a:=fun e=>by subst e;omega
    refine N.far i hi nia nib h0 (Box.swap (Xb (by rw [Amg,Amg,h0]) ?_ ?_))
    ·rw [<- Oh hv N.inb hi];omega
    ·rw [<- Oh hv N.ina N.inb];omega
   ·exact Amk hv hM hT (fun x y hx hy n=>by have:=Uw hv hx hy n;rw [Nf,Nf];omega) (fun x y z hx hy hz=>Art hv hx hy hz) N.ina N.inb hi w.2.2.2 w.2.2.1 h0 (by rw [Nf,Nf];omega)
 constructor
 ·rintro ⟨k,a,b,h1,h2,h0⟩
  by_cases e:p=b
  ·subst e
   rcases c:(f::X++g::Y++[f])[k+1+1]? with _ | c
   ·have e1:=List.getElem?_eq_none_iff.1 c
    have e2:=(List.getElem?_eq_some_iff.1 h2).1
    have e3:k+1=(f::X++g::Y).length:=by simp at e1 e2 ⊢;omega
    rw [e3,List.getElem?_append_right (by omega),Nat.sub_self] at h2
    cases h2
    obtain ⟨b,hb⟩:∃ b,(f::X++g::Y++[f])[0+1]? = some b:=by
     cases X with
     | nil=>exact ⟨_,rfl⟩
     | cons x X=>exact ⟨_,rfl⟩
    have N:=Ri h.nx (k:=0) (a:=f) rfl hb
    exact corner (k:=0) (a:=f) rfl hb hp (Bi _ _) N.ne
   ·have N:=Ri h.nx h2 c
    exact corner h2 c hp (Bi _ _) N.ne
  ·exact corner h1 h2 hp h0 e
 ·rintro ⟨q,hq⟩
  obtain ⟨vp,vq,npq⟩:=Ai4 hM hT hq
  have lowf:∀ k,inN v.length k->ph lexA 1 (plV v f)<=ph lexA 1 (plV v k):=fun k hk=>by
   rcases h.low k hk with e | e
   ·rw [e];omega
   ·have:=(Oh hv h.inf hk).2 e;omega
  have higg:∀ k,inN v.length k->ph lexA 1 (plV v k)<=ph lexA 1 (plV v g):=fun k hk=>by
   rcases h.high k hk with e | e
   ·rw [e];omega
   ·have:=(Oh hv hk h.ing).2 e;omega
  rcases Uw hv vp vq npq with t | t
  ·obtain ⟨k,a,b,h1,h2,h0⟩:=Af3 vp vq t (So hM hT hq) (by have:=higg q vq;omega) h.lo (lowf p vp)
   refine ⟨k,a,b,?_,?_,h0⟩
   ·rw [show f::X++g::Y++[f]=(f::X++[g])++(Y++[f]) by simp];exact Aru h1
   ·rw [show f::X++g::Y++[f]=(f::X++[g])++(Y++[f]) by simp];exact Aru h2
  ·obtain ⟨k,a,b,h1,h2,h0⟩:=Af3 (α:=-lexA) (β:=-1) vp vq (by rw [Nf,Nf];omega) (So hM hT hq) (by have:=lowf q vq;rw [Nf,Nf];omega) h.up (by have:=higg p vp;rw [Nf,Nf];omega)
   refine ⟨(f::X).length+k,a,b,?_,?_,h0⟩
   ·rw [show f::X++g::Y++[f]=(f::X)++(g::Y++[f]) by simp];exact Avk h1
   ·rw [show f::X++g::Y++[f]=(f::X)++(g::Y++[f]) by simp];exact Avk h2
end
section
variable {v:List Ab} {L:List Aa} {T:List Ae} {m:Mp}
theorem Ak6 (hv:Be v) {f:Int} {R:List Int} (hl:(f::R).length<=4096) (hin:∀ x∈f::R,inN v.length x) (e c:Int) {p:Int} (hp:inN v.length p):∃ b,lfix (Fq (f::R,e) v (c,p)) (false,0)=some b/\(b=true↔HitL v (f::R++[f]) p):=by
 obtain ⟨t,h1,h2⟩:=Bk (B:=Fq (f::R,e) v (c,p)) (fun s=>(f::R).length-s.2.toNat)
  (fun s=>∃ k:Nat,k<=(f::R).length/\s.2=(k:Int)/\(s.1=true↔∃ (j:Nat) (a b:Int),j < k/\(f::R++[f])[j]? = some a/\(f::R++[f])[j+1]? = some b/\crs (plV v a) (plV v b) (plV v p)=0))
  (fun t=>t=true↔HitL v (f::R++[f]) p) (by
   rintro ⟨b,i⟩ ⟨k,hk,e0,hb⟩
   dsimp only at e0 hb
   subst e0
   unfold Fq
   dsimp only
   by_cases hlt:k < (f::R).length
   ·left
    obtain ⟨a,ga⟩:∃ a,(f::R)[k]? = some a:=⟨_,List.getElem?_eq_getElem hlt⟩
    have gb:∃ b,(f::R++[f])[k+1]? = some b/\idx (f::R) (Int.tmod (w64 ((k:Int)+1)) (((f::R).length:Nat):Int))=some b/\inN v.length b:=by
     rw [Au (by omega)]
     by_cases c1:k+1 < (f::R).length
     ·refine ⟨(f::R)[k+1],?_,?_,hin _ (List.getElem_mem _)⟩
      ·rw [List.getElem?_append_left c1];exact List.getElem?_eq_getElem c1
      ·rw [Int.tmod_eq_of_lt (by omega) (by omega),As c1]
     ·have c2:k+1=(f::R).length:=by omega
      refine ⟨f,?_,?_,hin f (by simp)⟩
      ·rw [c2,List.getElem?_append_right (by omega),Nat.sub_self];rfl
      ·rw [c2,Int.tmod_self];exact As (l:=f::R) (j:=0) (by simp)
    obtain ⟨d,g1,g2,vd⟩:=gb
    have ia:idx (f::R) (k:Int)=some a:=by rw [As hlt];rw [List.getElem?_eq_getElem hlt] at ga;exact ga
    have va:inN v.length a:=hin a (List.mem_of_getElem? ga)
    have ga':(f::R++[f])[k]? = some a:=Aru ga
    have nx:∀ {b':Bool},(b'=true↔b=true\/crs (plV v a) (plV v d) (plV v p)=0)->(b'=true↔∃ (j:Nat) (x y:Int),j < k+1/\(f::R++[f])[j]? = some x/\(f::R++[f])[j+1]? = some y/\crs (plV v x) (plV v y) (plV v p)=0):=fun {b'} h=>by
     rw [h,hb]
     constructor
     ·rintro (⟨j,x,y,w,r⟩ | g)
      ·exact ⟨j,x,y,by omega,r⟩
      ·exact ⟨k,a,d,by omega,ga',g1,g⟩
     ·rintro ⟨j,x,y,w,r1,r2,r3⟩
      by_cases ej:j=k
      ·subst ej
       rw [ga'] at r1;rw [g1] at r2
       cases r1;cases r2
       exact .inr r3
      ·exact .inl ⟨j,x,y,by omega,r1,r2,r3⟩
    rw [if_pos (by omega),jn_d,Au (by omega)]
    by_cases cb:b=true
    ·rw [if_pos cb]
     exact ⟨_,rfl,⟨k+1,by omega,rfl,nx (by simp [cb])⟩,by dsimp only;omega⟩
    ·obtain ⟨x0,i0,e0⟩:=Ek va
     obtain ⟨x1,i1,e1⟩:=Ek vd
     obtain ⟨x2,i2,e2⟩:=Ek hp
     rw [Au (by omega)] at g2
     rw [if_neg cb,ia,Ad,i0,Ad,gd_t (by simp;omega),g2,Ad,i1,Ad,i2,Ad]
     unfold Aj
     rw [Ad,Ad,Ad]
     dsimp only
     rw [e0,e1,e2,Nb (hv.ok _ va) (hv.ok _ vd) (hv.ok _ hp),Ad]
     refine ⟨_,rfl,⟨k+1,by omega,rfl,nx ?_⟩,by dsimp only;omega⟩
     rw [decide_eq_true_iff,Int.sign_eq_zero_iff_zero]
     simp [cb]
   ·right
    obtain rfl:k=(f::R).length:=by omega
    rw [if_neg (by omega)]
    refine ⟨_,rfl,hb.trans ⟨fun ⟨j,a,b,_,r⟩=>⟨j,a,b,r⟩,fun ⟨j,a,b,r1,r2,r3⟩=>⟨j,a,b,?_,r1,r2,r3⟩⟩⟩
    have:=(List.getElem?_eq_some_iff.1 r2).1
    simp at this ⊢
    omega)
  (false,0) ⟨0,by omega,rfl,by simp⟩
 exact ⟨t,h1,h2⟩
theorem Aok {Q:Int->Prop} [DecidablePred Q] (k:Nat):((inds (k+1)).filter fun p=>decide (Q p)).length=((inds k).filter fun p=>decide (Q p)).length+if Q (k:Int) then 1 else 0:=by
 unfold inds
 rw [List.range_succ,List.map_append,List.filter_append,List.length_append]
 congr 1
 by_cases c:Q (k:Int)
 ·rw [if_pos c];simp [c]
 ·rw [if_neg c];simp [c]
theorem Ai5 (hv:Be v) (hn:v.length<=1024) {f:Int} {R:List Int} (hl:(f::R).length<=4096) (hin:∀ x∈f::R,inN v.length x) (e:Int) [DecidablePred (HitL v (f::R++[f]))]:lfix (Fs v (f::R,e)) (0,0)=some ((((inds v.length).filter fun p=>decide (HitL v (f::R++[f]) p)).length:Nat):Int):=by
 have step:=fun k=>Aok (Q:=HitL v (f::R++[f])) k
 have bound:∀ k,((inds k).filter fun p=>decide (HitL v (f::R++[f]) p)).length<=k:=fun k=>by
  have:=List.length_filter_le (fun p=>decide (HitL v (f::R++[f]) p)) (inds k)
  rw [Qm] at this
  exact this
 obtain ⟨t,h1,h2⟩:=Bk (B:=Fs v (f::R,e)) (fun s=>v.length-s.2.toNat)
  (fun s=>∃ k:Nat,k<=v.length/\s=((((inds k).filter fun p=>decide (HitL v (f::R++[f]) p)).length:Int),(k:Int)))
  (fun t=>t=((((inds v.length).filter fun p=>decide (HitL v (f::R++[f]) p)).length:Nat):Int)) (by
   rintro s ⟨k,hk,rfl⟩
   unfold Fs
   dsimp only
   by_cases hlt:k < v.length
   ·left
    obtain ⟨b,b1,b2⟩:=Ak6 hv hl hin e (((inds k).filter fun p=>decide (HitL v (f::R++[f]) p)).length:Int) (p:=(k:Int)) ⟨by omega,by omega⟩
    have:=bound k
    rw [if_pos (by omega),jn_d,jn_d,b1,Ad,Au (by omega)]
    dsimp only
    by_cases c:HitL v (f::R++[f]) (k:Int)
    ·rw [if_pos (b2.2 c),Au (by omega)]
     refine ⟨_,rfl,⟨k+1,by omega,?_⟩,by dsimp only;omega⟩
     rw [step k,if_pos c]
    ·rw [if_neg (fun w=>c (b2.1 w))]
     refine ⟨_,rfl,⟨k+1,by omega,?_⟩,by dsimp only;omega⟩
     rw [step k,if_neg c];rfl
   ·right
    obtain rfl:k=v.length:=by omega
    rw [if_neg (by omega)]
    exact ⟨_,rfl,rfl⟩)
  (0,0) ⟨0,by omega,by simp [inds]⟩
 rw [h1,h2]
theorem Ai6 (h:Ja v=0) (hfl:¬ Nv v) (hM:Mesh v L m) (hT:Ix v m T):Hu v=some (((bds m T).length:Nat):Int):=by
 obtain ⟨hn,_,hv⟩:=Ii h
 obtain ⟨f,g,X,Y,h1,h2,h3,Lo,Up,hf,low,hg,high,W⟩:=Aab h hfl
 have H:Hull v f g X Y:=⟨Lo,Up,hf,low,hg,high,W⟩
 haveI:DecidablePred (HitL v (f::(X++g::Y)++[f])):=fun _=>Classical.propDecidable _
 have nd:((bds m T).map fun s=>s.1).Nodup:=by
  refine List.pairwise_map.2 ?_
  refine ((Aau hM.tri hT).filter _).imp_of_mem fun {a b} ha hb n e=>n ?_
  obtain ⟨a1,a2⟩:=a
  obtain ⟨b1,b2⟩:=b
  dsimp only at e
  subst e
  rw [Aw2 hv hM hT hfl ha hb]
 have perm:((inds v.length).filter fun p=>decide (HitL v (f::(X++g::Y)++[f]) p)).Perm ((bds m T).map fun s=>s.1):=by
  refine (List.perm_ext_iff_of_nodup (Lj.filter _) nd).2 fun p=>?_
  rw [List.mem_filter,decide_eq_true_iff,Gm,List.mem_map]
  constructor
  ·rintro ⟨hp,hh⟩
   obtain ⟨q,hq⟩:=(H.on hv hM hT hp).1 hh
   exact ⟨(p,q),hq,rfl⟩
  ·rintro ⟨⟨p',q⟩,hq,rfl⟩
   have hp:=(Ai4 hM hT hq).1
   exact ⟨hp,(H.on hv hM hT hp).2 ⟨q,hq⟩⟩
 unfold Hu
 rw [h1,Ad,jn_d,show f::X++g::Y=f::(X++g::Y) from rfl,Ai5 hv hn (R:=X++g::Y) h2 h3,Ad,perm.length_eq,List.length_map]
end
section
variable {v:List Ab}
theorem Aol (hn:v.length<=1024) {f g:Int} (hf:inN v.length f) (hg:inN v.length g) (high:∀ k,inN v.length k->k=g\/befP (plV v k) (plV v g)):lfix (Gp v) (f,0)=some g:=by
 have irr:∀ p:Ac,¬ befP p p:=fun p=>by unfold befP;omega
 have asym:∀ {p q:Ac},befP p q->¬ befP q p:=fun {p q} h=>by unfold befP at *;omega
 obtain ⟨t,h1,h2⟩:=Bk (B:=Gp v) (fun s=>v.length-s.2.toNat)
  (fun s=>∃ k:Nat,k<=v.length/\s.2=(k:Int)/\inN v.length s.1/\(g < (k:Int)->s.1=g))
  (fun t=>t=g) (by
   rintro ⟨x,i⟩ ⟨k,hk,e,hx,hs⟩
   dsimp only at e hx hs
   subst e
   unfold Gp
   dsimp only
   by_cases hlt:k < v.length
   ·left
    have hkn:inN v.length (k:Int):=⟨by omega,by omega⟩
    have hp:(⟨v[k].X,v[k].Y⟩:Ac)=plV v (k:Int):=(Aa9 hlt).symm
    obtain ⟨x0,i0,e0⟩:=Ek hx
    rw [if_pos (by omega),jn_d,i0,Ad,As hlt,Ad]
    unfold Aj
    rw [Ad,Ad]
    dsimp only
    rw [hp,e0,Yj,Ad,Au (by omega)]
    by_cases c:befP (plV v x) (plV v (k:Int))
    ·rw [if_pos (decide_eq_true c)]
     refine ⟨_,rfl,⟨k+1,by omega,rfl,hkn,fun w=>?_⟩,by dsimp only;omega⟩
     dsimp only
     by_cases e:g < (k:Int)
     ·have:=hs e
      subst this
      rcases high _ hkn with w | w
      ·exact w
      ·exact absurd c (asym w)
     ·omega
    ·rw [if_neg (by simpa using c)]
     refine ⟨_,rfl,⟨k+1,by omega,rfl,hx,fun w=>?_⟩,by dsimp only;omega⟩
     dsimp only
     by_cases e:g < (k:Int)
     ·exact hs e
     ·have e:(k:Int)=g:=by omega
      rw [e] at c
      exact (high x hx).resolve_right c
   ·right
    obtain rfl:k=v.length:=by omega
    rw [if_neg (by omega)]
    exact ⟨_,rfl,hs hg.2⟩)
  (f,0) ⟨0,by omega,rfl,hf,fun w=>by unfold inN at hg;omega⟩
 rw [h1,h2]
theorem Afa (h:Ja v=0) (hfl:Nv v):Cz v=some 0:=by
 obtain ⟨hn,_,hv⟩:=Ii h
 have short:∀ (L:List Int) (e:Int),L.length<=2->lfix (Cv (L,e) v) (0,2)=some 0:=fun L e hL=>by
  rw [Bf]
  unfold Cv
  dsimp only
  rw [if_neg (by omega)]
 have bord:∃ L:List Int,Dd v=some (L,0)/\L.length<=2:=by
  unfold Dd
  rw [Oe,h,Ad,if_pos rfl]
  by_cases c0:((v.length:Nat):Int)=0
  ·rw [if_pos c0];exact ⟨[],rfl,by simp⟩
  ·rw [if_neg c0]
   obtain ⟨l,hl,hr⟩:=Vn hv hn
   have hlen:=hr.len
   have g0:0 < l.length:=by omega
   have g1:l.length-1 < l.length:=by omega
   have hf:=hr.val.1 (List.getElem_mem g0)
   have hg:=hr.val.1 (List.getElem_mem g1)
   have low:∀ k,inN v.length k->k=l[0]\/befP (plV v l[0]) (plV v k):=fun k hk=>by
    obtain ⟨j,hj,rfl⟩:=List.getElem_of_mem (hr.val.2 hk)
    by_cases e:j=0
    ·subst e;exact .inl rfl
    ·exact .inr (hr.lt g0 hj (by omega))
   have high:∀ k,inN v.length k->k=l[l.length-1]\/befP (plV v k) (plV v l[l.length-1]):=fun k hk=>by
    obtain ⟨j,hj,rfl⟩:=List.getElem_of_mem (hr.val.2 hk)
    by_cases e:j=l.length-1
    ·subst e;exact .inl rfl
    ·exact .inr (hr.lt hj g1 (by omega))
   obtain ⟨b,hb,hb2⟩:=Acv hv hn
   have hbt:b=true:=hb2.2 fun k k1 k2=>by
    unfold inN at k2
    exact hfl 0 1 k ⟨by omega,by omega⟩ ⟨by omega,by omega⟩ k2
   rw [Adl hn hf low,Ad,hb,Ad,if_pos hbt,jn_d,Aol hn hf hg high,Ad]
   dsimp only
   split
   ·exact ⟨_,rfl,by simp⟩
   ·exact ⟨_,rfl,by simp⟩
 obtain ⟨L,h1,h2⟩:=bord
 unfold Cz
 rw [h1,Ad,jn_d,short L 0 h2,Ad]
end
section
variable {v:List Ab} {L S:List Aa} {T:List Ae} {m:Mp}
theorem Ai7 {R:List Int} (h:R.length<=100000000):Hv R R=some true:=by
 have e:lfix (Du R R) 0=some (.inl ()):=by
  rw [Rx (β:=Unit) (γ:=Bool) R (fun _=>true) (Du R R) () false (fun j hj=>?_) ?_]
  ·simp
  ·unfold Du
   rw [if_neg (by omega)]
  ·unfold Du
   rw [if_pos (by omega),As hj,Ad,Ad,if_pos rfl,if_pos rfl,Au (by omega)]
 unfold Hv
 rw [if_pos rfl,jn_d,e,Ad]
theorem Ahe (h:S.length<=100000000):Hd S S=some true:=by
 have e:lfix (Dh S S) 0=some (.inl ()):=by
  rw [Rx (β:=Unit) (γ:=Bool) S (fun _=>true) (Dh S S) () false (fun j hj=>?_) ?_]
  ·simp
  ·unfold Dh
   rw [if_neg (by omega)]
  ·unfold Dh
   rw [if_pos (by omega),As hj,Ad,Ad,if_pos (by simp),if_pos rfl,Au (by omega)]
 unfold Hd
 rw [if_pos rfl,jn_d,e,Ad]
structure Fine (v:List Ab) (T:List Ae):Prop where
 len:T.length<=3000
 cor:∀ t∈T,inN v.length t.a0/\inN v.length t.a1/\inN v.length t.a2
 sid:∀ s,Tl T s->s.a0 < s.a1/\inN v.length s.a0/\inN v.length s.a1
theorem Aom (hv:Be v) (hn:v.length<=1024) (h:(Nv v/\T=[])\/(¬ Nv v/\∃ m,Mesh v L m/\Ix v m T)):Fine v T:=by
 rcases h with ⟨_,rfl⟩ | ⟨_,m,hM,hT⟩
 ·exact ⟨by simp,fun t ht=>(by cases ht),fun s hs=>by obtain ⟨t,ht,_⟩:=hs;cases ht⟩
 ·refine ⟨by have:=Ajj hv hn hM hT;omega,fun t ht=>?_,fun s hs=>?_⟩
  ·obtain ⟨_,_,h⟩:=(hT.mem t).1 ht
   obtain ⟨h1,h2,h3,_⟩:=hM.tri.ccw _ _ _ h
   exact ⟨h1,h2,h3⟩
  ·obtain ⟨x,y,hxy,rfl⟩:=Abh.1 hs
   obtain ⟨e,he⟩:=(memS hM.tri hT).1 hxy
   obtain ⟨h1,h2,_⟩:=hM.tri.ccw _ _ _ he
   have n:=(hM.tri.ne he).1
   unfold pr2 inN at *
   dsimp only
   omega
theorem Ai8 (hn:v.length<=1024) (hF:Fine v T) (hc:Kk ⟨v,T,L⟩=some 0) (hr:Fd ⟨v,T,L⟩=some 0) (h1:Ke ⟨v,T,L⟩=some S) (h2:Fe T=some S) (nd:S.Nodup) (mem:∀ s,s∈S↔Tl T s) (hS:S.length<=100000) (i:Int):∃ R e,Ld ⟨v,T,L⟩ i=some (R,e)/\Eh ⟨v,T,L⟩ i=some (R,e)/\R.length<=1000000:=by
 have hin:∀ s∈S,inN v.length s.a0/\inN v.length s.a1:=fun s hs=>(hF.sid s ((mem s).1 hs)).2
 have hlt:∀ s∈S,s.a0 < s.a1:=fun s hs=>(hF.sid s ((mem s).1 hs)).1
 by_cases c:i < 0
 ·refine ⟨[],2,?_,?_,by simp⟩
  ·unfold Ld
   rw [hc,Ad,if_pos rfl,jn_d,if_pos c];rfl
  ·unfold Eh
   rw [hr,Ad,if_pos rfl,jn_d,if_pos c];rfl
 ·by_cases c2:((v.length:Nat):Int)<=i
  ·refine ⟨[],2,?_,?_,by simp⟩
   ·unfold Ld
    rw [hc,Ad,if_pos rfl,jn_d,if_neg c]
    dsimp only
    rw [decide_eq_true c2,if_pos rfl]
   ·unfold Eh
    rw [hr,Ad,if_pos rfl,jn_d,if_neg c]
    dsimp only
    rw [decide_eq_true c2,if_pos rfl]
  ·obtain ⟨M,m1,m2,m3⟩:=Alb (S:=S) (n:=v.length) (by omega) hin i
   obtain ⟨R,r1,r2,r3⟩:=Ajo M (by omega)
   have same:=Aox hlt nd hin m3 r2 r3
   have fl:(S.filterMap (other i)).length<=S.length:=List.length_filterMap_le _ _
   have fR:R.length<=S.length:=by rw [<- same,Wo];exact fl
   refine ⟨R,0,?_,?_,by omega⟩
   ·unfold Ld
    rw [hc,Ad,if_pos rfl,jn_d,if_neg c]
    dsimp only
    rw [decide_eq_false c2,if_neg Bool.false_ne_true,jn_d,h1,Ad,Ajm (by omega),Ad]
    dsimp only
    rw [gd_t (by omega),same]
   ·unfold Eh
    rw [hr,Ad,if_pos rfl,jn_d,if_neg c]
    dsimp only
    rw [decide_eq_false c2,if_neg Bool.false_ne_true,gd_t ⟨by omega,by omega⟩,jn_d,h2,Ad,Int.toNat_natCast,m1,Ad]
    dsimp only
    rw [jn_d,r1,Ad]
theorem Aud (hv:Be v) (hF:Fine v T) (hc:Kk ⟨v,T,L⟩=some 0):Tf ⟨v,T,L⟩=some (w64 (tot (fun t:Ae=>crs (plV v t.a0) (plV v t.a1) (plV v t.a2)) T),0):=by
 unfold Tf
 have:=hF.len
 rw [hc,Ad,if_pos rfl,jn_d,Aov hv (by omega) hF.cor,Ad]
theorem Ahf (p:Dk) (i:Int):He p i=some true:=by
 obtain ⟨v,l⟩:=p
 unfold He Of
 dsimp only
 rw [jn_d]
 by_cases c:24 < ((v.length:Nat):Int)
 ·rw [if_pos c,Ad,if_pos rfl,Aba,Ad]
 ·rw [if_neg c,Ad]
  by_cases c2:8 < ((l.length:Nat):Int)
  ·rw [decide_eq_true c2,if_pos rfl,Aba,Ad]
  ·rw [decide_eq_false c2,if_neg Bool.false_ne_true]
   have hl:l.length<=1000000:=by omega
   by_cases h:Ja v=0
   ·by_cases h1:Mq v l=0
    ·obtain ⟨hn,_,hv⟩:=Ii h
     obtain ⟨T,e1,e2,e3,e4,e5,e6,e7⟩:=Aiv h hl h1
     have hF:=Aom hv hn e7
     have hlen:(An cmp2 (l.map prL)).length=l.length:=by rw [(Cg _ _).length_eq,List.length_map]
     revert e1 e2 e4 e5 e6 e7 hlen
     generalize An cmp2 (l.map prL)=L
     intro e1 e2 e4 e5 e6 e7 hlen
     have chk:Fd ⟨v,T,L⟩=some 0:=by
      unfold Fd
      dsimp only
      rw [e6,Ad,jn_d]
      dsimp only
      rw [if_pos rfl,Aiu (by dsimp only;omega) (by have:=hF.len;dsimp only;omega) (by dsimp only;omega),Ad]
      rfl
     have m3:∀ t∈T,mod3 t:=fun t ht=>by
      have:=hF.cor t ht
      unfold inN at this
      unfold mod3
      omega
     have tl:=hF.len
     obtain ⟨S,s1,s2,nd,mem,sl,_⟩:=Akb (T:=T) v L (by omega) m3
     obtain ⟨R,e,a1,a2,a3⟩:=Ai8 hn hF e4 chk s1 s2 nd mem (by omega) i
     have S1:Rn ⟨v,T,L⟩=some (S,0):=by
      unfold Rn
      rw [e4,Ad,if_pos rfl,s1,Ad]
     have S2:Lb ⟨v,T,L⟩=some (S,0):=by
      unfold Lb
      rw [chk,Ad,if_pos rfl]
      dsimp only
      rw [s2,Ad]
     have hA:Cz v=some (w64 (tot (fun t:Ae=>crs (plV v t.a0) (plV v t.a1) (plV v t.a2)) T)):=by
      rcases e7 with ⟨f,rfl⟩ | ⟨f,m,hM,hT⟩
      ·exact Afa h f
      ·exact Ais h f hM hT
     rw [e2,Ad,if_pos rfl]
     dsimp only
     rw [S1,Ad,S2,Ad,a1,Ad,a2,Ad,Aud hv hF e4,Ad,jn_d]
     dsimp only
     rw [if_pos rfl,Ahe (by omega),Ad,if_pos rfl,if_pos rfl,Ai7 (by omega),Ad,if_pos rfl,if_pos rfl,hA,Ad,decide_eq_true rfl,show (!true)=false from rfl,if_neg Bool.false_ne_true]
     rcases e7 with ⟨f,rfl⟩ | ⟨f,m,hM,hT⟩
     ·have:S=[]:=List.eq_nil_iff_forall_not_mem.2 fun s hs=>by
       obtain ⟨t,ht,_⟩:=(mem s).1 hs
       cases ht
      subst this
      rw [if_neg (by simp),jn_d,if_pos (by simp),Aba,Ad]
     ·obtain ⟨k1,k2⟩:=Ajl hv hn hM hT nd mem
      have hne:0 < T.length:=by
       refine Classical.byContradiction fun n=>f fun a b c ha hb hc=>?_
       have e0:T=[]:=List.eq_nil_of_length_eq_zero (by omega)
       rw [e0] at k1
       have k3:(0:Int)=2*v.length-2-0:=k1
       unfold inN at ha hb hc
       have:a=b:=by omega
       subst this
       exact Px _ _
      have bl:(bds m T).length<=3000:=by omega
      have w1:w64 (2*(v.length:Int))=2*(v.length:Int):=Ay (by omega) (by omega)
      have w2:w64 (2*(v.length:Int)-2)=2*(v.length:Int)-2:=Ay (by omega) (by omega)
      have w3:w64 (2*(v.length:Int)-2-((bds m T).length:Nat))=2*(v.length:Int)-2-((bds m T).length:Nat):=Ay (by omega) (by omega)
      have w4:w64 (3*(v.length:Int))=3*(v.length:Int):=Ay (by omega) (by omega)
      have w5:w64 (3*(v.length:Int)-3)=3*(v.length:Int)-3:=Ay (by omega) (by omega)
      have w6:w64 (3*(v.length:Int)-3-((bds m T).length:Nat))=3*(v.length:Int)-3-((bds m T).length:Nat):=Ay (by omega) (by omega)
      rw [if_pos (by omega),Ai6 h f hM hT,Ad,jn_d,if_pos (by rw [w1,w2,w3];omega),if_pos (by rw [w4,w5,w6];omega),Aba,Ad]
    ·rw [Ac7 hl h h1,Ad]
     dsimp only
     rw [if_neg h1,Aba,Ad]
   ·rw [Ae4 _ h,Ad]
    dsimp only
    rw [if_neg h,Aba,Ad]
end
end Go.Proofs.YtjfndjmabhbicaaGreat
namespace Go.Proofs.YtjfndjmabhbicaaGreat
open Go.ChangeShapes Go.WideShapes Go.ChangeAt Go.RowKit

theorem own2:ownKnob Tryz.prog.godebug=none:=by kernel_rfl
theorem Ai9:laidOutB Tryz.prog=true:=by kernel_rfl
def rI64 (z:Int):Prop:=-9223372036854775808<=z/\z<=9223372036854775807
theorem Ahg {cs:List Value} {o:Nat} (h:cs.length=o):cs.drop o=[]:=by rw [<- h,List.drop_length]
theorem Rd {cs X R:List Value} {o k o':Nat} (h1:(cs.drop o).take k=X) (h2:cs.drop o'=R) (ho:o'=o+k):cs.drop o=X++R:=by
 subst ho;rw [<- h1,<- h2,<- List.drop_drop,List.take_append_drop]
section
variable {H:Type} {enc:TypeId × Value->H} {w:World} {base:Nat} {spare:Nat->Bool} {held:Bool} {P:Program}
theorem Aw3 {t:TypeId} (ht:P.underlying t=some (.int .i64)) {fuel:Nat} {cs:List Value} {x:DataW H × List MemPlace} (h:DataW.trod enc P w base spare held fuel t cs=some x):∃ z:Int,cs=[.int .i64 z]/\rI64 z:=by
 obtain ⟨n,hc,_,hw⟩:=DataW.trod_int ht h
 refine ⟨n,hc,?_⟩
 have h1:IntKind.i64.min = -9223372036854775808:=rfl
 have h2:IntKind.i64.max=9223372036854775807:=rfl
 simp only [Lit.wf,Bool.and_eq_true,decide_eq_true_eq] at hw
 unfold rI64;omega
theorem Aja {α:Type} {en:α->List Value} {okα:α->Prop} {t e:TypeId} {sz:Nat} (ht:P.underlying t=some (.slice e)) (hsz:P.cellsOf e=sz) (hp:0 < sz)
  (hel:∀ {fuel:Nat} {cs:List Value} {x:DataW H × List MemPlace},DataW.trod enc P w base spare held fuel e cs=some x->∃ v,cs=en v/\okα v)
  {fuel:Nat} {cs:List Value} {x:DataW H × List MemPlace} (h:DataW.trod enc P w base spare held fuel t cs=some x) :
  ∃ (v:List α) (A:Option Addr) (c:Nat),cs=[.slice A v.length c]/\Has [.old w] A v.length c sz en v/\∀ z∈v,okα z:=by
 rcases Go.Deep.open_slice ht h with ⟨rfl,_⟩ | ⟨a,len,cap,m,n,D,Pl,rfl,hb,hl,hm,hmm,_,hx⟩
 ·exact ⟨[],none,0,rfl,Has.nil,fun z hz=>by simp at hz⟩
 ·have hle:len<=m:=by rw [hmm];split <;> omega
  have key:∀ k,k<=len->∃ v:List α,v.length=k/\(∀ z∈v,okα z)/\∀ i (hi:i < v.length),w.cells? base (a.add (i*sz)) sz=some (en v[i]):=by
   intro k
   induction k with
   | zero=>intro _;exact ⟨[],rfl,fun z hz=>by simp at hz,fun i hi=>by simp at hi⟩
   | succ k ih =>
    intro hk
    obtain ⟨v,h1,h2,h3⟩:=ih (by omega)
    obtain ⟨cs',h4,h5⟩:=hx k (by omega)
    obtain ⟨z,rfl,hz⟩:=hel h5
    rw [hsz] at h4
    refine ⟨v++[z],by simp [h1],fun y hy=>?_,fun i hi=>?_⟩
    ·rcases List.mem_append.1 hy with hy | hy
     ·exact h2 y hy
     ·simp at hy;subst hy;exact hz
    ·simp at hi
     rcases Nat.lt_or_ge i v.length with hlt | hge
     ·rw [List.getElem_append_left hlt];exact h3 i hlt
     ·have:i=k:=by omega
      subst this
      rw [List.getElem_append_right hge]
      simp [h1];exact h4
  obtain ⟨v,h1,h2,h3⟩:=key len (Nat.le_refl _)
  subst h1
  have hesz:∀ z∈v,(en z).length=sz:=by
   intro z hz
   obtain ⟨i,hi,rfl⟩:=List.getElem_of_mem hz
   exact (World.cells?_some (h3 i hi)).2.1
  have hsl:Sl w (some a) v.length cap sz en v:=by
   refine ⟨rfl,hl,hm,hesz,fun hn=>?_⟩
   have hsp:a.spot=none:=by
    have h4:=(World.cells?_some (h3 0 hn)).2.2 0 hp
    have h5:(en v[0])[0]? = some ((en v[0])[0]'(by rw [hesz _ (List.getElem_mem hn)];exact hp)):=List.getElem?_eq_getElem _
    rw [h5] at h4
    simp only [Nat.zero_mul,Addr.add,if_true] at h4
    unfold World.cell? at h4
    split at h4
    ·split at h4
     ·cases h4
     ·rename_i hs;simpa using hs
    ·cases h4
   obtain ⟨b,o,sp⟩:=a
   have hsp:sp=none:=hsp
   subst hsp
   refine ⟨b,o,rfl,fun i hi j u hu=>?_⟩
   have hj:j < sz:=by rw [<- hesz _ (List.getElem_mem hi)];exact (List.getElem?_eq_some_iff.1 hu).1
   have h4:=(World.cells?_some (h3 i hi)).2.2 j hj
   rw [hu,Addr.add_lit,Addr.add_lit] at h4
   exact h4
  exact ⟨v,some a,cap,rfl,hsl.has,h2⟩
end
theorem Ayx (w:World):∀ e∈[Ent.old w],Ent.ok w e:=fun e he=>by simp at he;subst he;exact ⟨Below.refl _ _,Nat.le_refl _⟩
end Go.Proofs.YtjfndjmabhbicaaGreat
