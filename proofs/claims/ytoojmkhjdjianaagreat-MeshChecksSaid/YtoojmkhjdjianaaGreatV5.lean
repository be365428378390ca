/- The reference's triangles: the stack of open sides. -/
import Derived.Test.YtoojmkhjdjianaaGreatV2
import Derived.Test.YtoojmkhjdjianaaGreatE2
namespace Go.Proofs.YtoojmkhjdjianaaGreat
open Go Go.RowKit
variable {v:List Ab} {p0 q0:Int}
def Hp (t:Ah) (p q:Int):Prop:=(p=t.a0/\q=t.a1)\/(p=t.a1/\q=t.a2)\/(p=t.a2/\q=t.a0)
def Ah1 (v:List Ab) (t:Ah):Prop:=t.a0 < t.a1/\t.a0 < t.a2/\Del v t.a0 t.a1 t.a2
theorem Ah1.side {t:Ah} (h:Ah1 v t) {p q:Int} (hs:Hp t p q):∃ e,Del v p q e:=by
 obtain ⟨_,_,h⟩:=h
 rcases hs with ⟨rfl,rfl⟩ | ⟨rfl,rfl⟩ | ⟨rfl,rfl⟩
 ·exact ⟨_,h⟩
 ·exact ⟨_,h.rot⟩
 ·exact ⟨_,h.rot.rot⟩
def noT (v:List Ab) (p q:Int):Prop:=∀ d,inN v.length d->crs (plV v p) (plV v q) (plV v d)<=0
def okS (v:List Ab) (p q:Int):Prop:=inN v.length p/\inN v.length q/\(noT v p q\/∃ e,Del v p q e)
structure Tr (v:List Ab) (p0 q0:Int) (op:List Aa) (dn:Int->Int->Prop) (out:List Ah):Prop where
 mem:∀ t∈out,Ah1 v t
 nd:out.Nodup
 opn:∀ s∈op,okS v s.a0 s.a1
 don:∀ p q,dn p q->(∃ t∈out,Hp t p q)\/noT v p q
 all:∀ t∈out,∀ p q,Hp t p q->dn p q
 rev:∀ t∈out,∀ p q,Hp t p q->⟨q,p⟩∈op\/dn q p
 sta:⟨p0,q0⟩∈op\/dn p0 q0
 len:op.length<=3*out.length+1
theorem Tr.init {dn:Int->Int->Prop} (h:okS v p0 q0) (hd:∀ p q,¬ dn p q):Tr v p0 q0 [⟨p0,q0⟩] dn [] :=
 ⟨fun t h=>(by cases h),List.nodup_nil,fun s hs=>by rw [List.mem_singleton] at hs;subst hs;exact h,fun p q g=>absurd g (hd p q),fun t h=>(by cases h),fun t h=>(by cases h),.inl (by simp),by simp⟩
theorem Ww {x s:Aa} {op:List Aa} (h:x∈op++[s]):x∈op\/x=s:=by simpa using h
theorem Tr.skip {op:List Aa} {dn:Int->Int->Prop} {out:List Ah} {s:Aa} (h:Tr v p0 q0 (op++[s]) dn out) (hs:dn s.a0 s.a1):Tr v p0 q0 op dn out :=
 ⟨h.mem,h.nd,fun x hx=>h.opn x (by simp [hx]),h.don,h.all,fun t ht p q hp=>(h.rev t ht p q hp).elim (fun g=>(Ww g).imp id fun e=>by subst e;exact hs) .inr,
  h.sta.elim (fun g=>(Ww g).imp id fun e=>by subst e;exact hs) .inr,by have:=h.len;rw [List.length_append,List.length_singleton] at this;omega⟩
theorem Tr.none {op:List Aa} {dn dn':Int->Int->Prop} {out:List Ah} {s:Aa} (h:Tr v p0 q0 (op++[s]) dn out) (hd:∀ p q,dn' p q↔dn p q\/(p=s.a0/\q=s.a1)) (hn:noT v s.a0 s.a1):Tr v p0 q0 op dn' out:=by
 have key:Tr v p0 q0 (op++[s]) dn' out:=⟨h.mem,h.nd,h.opn,fun p q g=>by
  rcases (hd p q).1 g with g | ⟨rfl,rfl⟩
  ·exact h.don p q g
  ·exact .inr hn,fun t ht p q hp=>(hd p q).2 (.inl (h.all t ht p q hp)),fun t ht p q hp=>(h.rev t ht p q hp).imp id fun g=>(hd _ _).2 (.inl g),h.sta.imp id fun g=>(hd _ _).2 (.inl g),h.len⟩
 exact key.skip ((hd _ _).2 (.inr ⟨rfl,rfl⟩))
theorem Tr.more {op:List Aa} {dn dn':Int->Int->Prop} {out:List Ah} {s:Aa} {t:Ah} (h:Tr v p0 q0 (op++[s]) dn out) (hs:¬ dn s.a0 s.a1) (ht:Ah1 v t) (hst:Hp t s.a0 s.a1)
  (hd:∀ p q,dn' p q↔dn p q\/Hp t p q) (hx:∀ p q,Hp t p q->okS v q p):Tr v p0 q0 (op++[⟨t.a1,t.a0⟩,⟨t.a2,t.a1⟩,⟨t.a0,t.a2⟩]) dn' (out++[t]):=by
 have hin:∀ {p q:Int},⟨p,q⟩∈op++[s]->(⟨p,q⟩:Aa)∈op++[⟨t.a1,t.a0⟩,⟨t.a2,t.a1⟩,⟨t.a0,t.a2⟩]\/dn' p q:=fun {p q} g=>by
  rcases Ww g with g | g
  ·exact .inl (List.mem_append.2 (.inl g))
  ·right
   rw [<- g] at hst
   exact (hd _ _).2 (.inr hst)
 refine ⟨fun x hx=>?_,?_,fun x hx'=>?_,fun p q g=>?_,fun x hx' p q g=>?_,fun x hx' p q g=>?_,?_,?_⟩
 ·rcases List.mem_append.1 hx with hx | hx
  ·exact h.mem x hx
  ·rw [List.mem_singleton] at hx;subst hx;exact ht
 ·rw [List.nodup_append]
  refine ⟨h.nd,by simp,fun x hm y hy e=>?_⟩
  rw [List.mem_singleton] at hy
  rw [hy] at e
  rw [e] at hm
  exact hs (h.all t hm _ _ hst)
 ·rcases List.mem_append.1 hx' with hx' | hx'
  ·exact h.opn x (by simp [hx'])
  ·simp only [List.mem_cons,List.not_mem_nil,or_false] at hx'
   rcases hx' with rfl | rfl | rfl
   ·exact hx t.a0 t.a1 (.inl ⟨rfl,rfl⟩)
   ·exact hx t.a1 t.a2 (.inr (.inl ⟨rfl,rfl⟩))
   ·exact hx t.a2 t.a0 (.inr (.inr ⟨rfl,rfl⟩))
 ·rcases (hd p q).1 g with g | g
  ·rcases h.don p q g with ⟨x,hx,g⟩ | g
   ·exact .inl ⟨x,by simp [hx],g⟩
   ·exact .inr g
  ·exact .inl ⟨t,by simp,g⟩
 ·rcases List.mem_append.1 hx' with hx' | hx'
  ·exact (hd p q).2 (.inl (h.all x hx' p q g))
  ·rw [List.mem_singleton] at hx';subst hx';exact (hd p q).2 (.inr g)
 ·rcases List.mem_append.1 hx' with hx' | hx'
  ·rcases h.rev x hx' p q g with g | g
   ·exact hin g
   ·exact .inr ((hd _ _).2 (.inl g))
  ·rw [List.mem_singleton] at hx'
   subst hx'
   left
   refine List.mem_append.2 (.inr ?_)
   rcases g with ⟨rfl,rfl⟩ | ⟨rfl,rfl⟩ | ⟨rfl,rfl⟩ <;> simp
 ·rcases h.sta with g | g
  ·exact hin g
  ·exact .inr ((hd _ _).2 (.inl g))
 ·have:=h.len
  simp only [List.length_append,List.length_cons,List.length_nil] at this ⊢
  omega
theorem Ajn {out:List Ah} (hmem:∀ t∈out,Ah1 v t) (hnd:out.Nodup):out.length<=v.length*v.length:=by
 have h1:(out.map fun t=>(t.a0.toNat*v.length+t.a1.toNat)).Nodup:=by
  unfold List.Nodup
  rw [List.pairwise_map]
  refine List.Pairwise.imp_of_mem ?_ hnd
  intro x y hx hy hne e
  obtain ⟨x1,x2,x3⟩:=hmem x hx
  obtain ⟨y1,y2,y3⟩:=hmem y hy
  have x4:=x3.1
  have x5:=x3.2.1
  have y4:=y3.1
  have y5:=y3.2.1
  unfold inN at x4 x5 y4 y5
  have e1:x.a1.toNat=y.a1.toNat:=by
   have:=congrArg (· % v.length) e
   simp only [Nat.mul_add_mod_self_right] at this
   rwa [Nat.mod_eq_of_lt (by omega),Nat.mod_eq_of_lt (by omega)] at this
  have e2:x.a0.toNat=y.a0.toNat:=by
   rw [e1] at e
   have e':x.a0.toNat*v.length=y.a0.toNat*v.length:=by omega
   exact Nat.eq_of_mul_eq_mul_right (by omega) e'
  have e3:x.a0=y.a0:=by omega
  have e4:x.a1=y.a1:=by omega
  apply hne
  obtain ⟨xa,xb,xc⟩:=x
  obtain ⟨ya,yb,yc⟩:=y
  simp only at e3 e4 x3 y3
  subst e3;subst e4
  rw [x3.unique y3]
 have:=Di (m:=List.range (v.length*v.length)) h1 fun x hx=>by
  obtain ⟨t,ht,rfl⟩:=List.mem_map.1 hx
  obtain ⟨_,_,t3⟩:=hmem t ht
  have t4:=t3.1
  have t5:=t3.2.1
  unfold inN at t4 t5
  rw [List.mem_range]
  have h3:t.a0.toNat+1<=v.length:=by omega
  have:=Nat.mul_le_mul_right v.length h3
  rw [Nat.add_mul] at this
  omega
 rwa [List.length_map,List.length_range] at this
theorem Tr.bound {op:List Aa} {dn:Int->Int->Prop} {out:List Ah} (h:Tr v p0 q0 op dn out):out.length<=v.length*v.length:=Ajn h.mem h.nd
def rots (t:Ah):List T3:=[(t.a0,t.a1,t.a2),(t.a1,t.a2,t.a0),(t.a2,t.a0,t.a1)]
theorem Tr.full {dn:Int->Int->Prop} {out:List Ah} (h:Tr v p0 q0 [] dn out) (hs:∃ e,Del v p0 q0 e) (t:Ah):t∈out↔t.a0 < t.a1/\t.a0 < t.a2/\Del v t.a0 t.a1 t.a2:=by
 refine ⟨fun ht=>h.mem t ht,fun ⟨t1,t2,t3⟩=>?_⟩
 have memX:∀ a b c:Int,(a,b,c)∈out.flatMap rots->∃ t∈out,Hp t a b/\Del v a b c:=fun a b c g=>by
  obtain ⟨t,ht,g⟩:=List.mem_flatMap.1 g
  have:=(h.mem t ht).2.2
  unfold rots at g
  simp only [List.mem_cons,List.not_mem_nil,or_false] at g
  rcases g with g | g | g <;> cases g
  ·exact ⟨t,ht,.inl ⟨rfl,rfl⟩,this⟩
  ·exact ⟨t,ht,.inr (.inl ⟨rfl,rfl⟩),this.rot⟩
  ·exact ⟨t,ht,.inr (.inr ⟨rfl,rfl⟩),this.rot.rot⟩
 have inX:∀ t∈out,∀ a b c,Hp t a b->Del v a b c->(a,b,c)∈out.flatMap rots:=fun t ht a b c g hd=>by
  have:=(h.mem t ht).2.2
  refine List.mem_flatMap.2 ⟨t,ht,?_⟩
  unfold rots
  rcases g with ⟨rfl,rfl⟩ | ⟨rfl,rfl⟩ | ⟨rfl,rfl⟩
  ·rw [hd.unique this];simp
  ·rw [hd.unique this.rot];simp
  ·rw [hd.unique this.rot.rot];simp
 have hX:Yh (plV v) (out.flatMap rots):=⟨fun a b c g=>by
  obtain ⟨t,ht,g1,g2⟩:=memX a b c g
  refine inX t ht b c a ?_ g2.rot
  have:=(h.mem t ht).2.2
  rcases g1 with ⟨rfl,rfl⟩ | ⟨rfl,rfl⟩ | ⟨rfl,rfl⟩
  ·rw [g2.unique this];exact .inr (.inl ⟨rfl,rfl⟩)
  ·rw [g2.unique this.rot];exact .inr (.inr ⟨rfl,rfl⟩)
  ·rw [g2.unique this.rot.rot];exact .inl ⟨rfl,rfl⟩,fun a b c g=>by
  obtain ⟨t,ht,g1,g2⟩:=memX a b c g
  exact g2.2.2.2.1⟩
 have dnX:∀ p q e,dn p q->Del v p q e->(p,q,e)∈out.flatMap rots:=fun p q e g hd=>by
  rcases h.don p q g with ⟨t,ht,g⟩ | g
  ·exact inX t ht p q e g hd
  ·have:=g e hd.2.2.1
   have:=hd.2.2.2.1
   omega
 have:=Ad4 (H:=hV v) (V:=inN v.length) hX (fun a b c g=>by obtain ⟨t,ht,g1,g2⟩:=memX a b c g;exact ⟨g2.1,g2.2.1,g2.2.2.1⟩) (fun a b c g=>by obtain ⟨t,ht,g1,g2⟩:=memX a b c g;exact g2.2.2.2.2)
  (fun a b c g d hd hl=>by
   obtain ⟨t,ht,g1,g2⟩:=memX a b c g
   rcases h.rev t ht a b g1 with k | k
   ·cases k
   ·rcases h.don b a k with ⟨t',ht',k'⟩ | k'
    ·obtain ⟨e,he⟩:=(h.mem t' ht').side k'
     exact ⟨e,inX t' ht' b a e k' he⟩
    ·have:=k' d hd
     rw [Av] at this
     omega)
  (fun e=>by
   obtain ⟨x,hx⟩:=hs
   rcases h.sta with k | k
   ·cases k
   ·have:=dnX p0 q0 x k hx
    rw [e] at this
    cases this) t3.1 t3.2.1 t3.2.2.1 t3.2.2.2.1 t3.2.2.2.2
 obtain ⟨t',ht',g⟩:=List.mem_flatMap.1 this
 obtain ⟨s1,s2,s3⟩:=h.mem t' ht'
 obtain ⟨ta,tb,tc⟩:=t
 obtain ⟨sa,sb,sc⟩:=t'
 unfold rots at g
 simp only [List.mem_cons,List.not_mem_nil,or_false,Prod.mk.injEq] at g t1 t2 s1 s2
 rcases g with ⟨rfl,rfl,rfl⟩ | ⟨rfl,rfl,rfl⟩ | ⟨rfl,rfl,rfl⟩
 ·exact ht'
 ·omega
 ·omega
variable {v:List Ab}
def behind (v:List Ab) (f b k:Int):Prop:=0 < crs (plV v f) (plV v b) (plV v k)\/(crs (plV v f) (plV v b) (plV v k)=0/\¬ befP (plV v k) (plV v b))
theorem Amw (hv:Cd v) (hn:v.length<=1024) {f:Int} (hf:inN v.length f) (low:∀ k,inN v.length k->k=f\/befP (plV v f) (plV v k)) (h2:2<=v.length) :
  ∃ b,Lz v f false=some b/\inN v.length b/\b≠f/\∀ k,inN v.length k->k≠f->behind v f b k:=by
 unfold Lz
 rw [jn_d]
 have up:∀ k,inN v.length k->k≠f->ph lexA 1 (plV v f) < ph lexA 1 (plV v k):=fun k hk hne=>(Aud (hv.ok f hf) (hv.ok k hk)).2 ((low k hk).resolve_left hne)
 have:=Cf (B:=Li v f false) (fun s=>v.length-s.2.toNat)
  (fun s=>0<=s.2/\s.2<=(v.length:Int)/\((s.1 = -1/\∀ j,inN v.length j->j < s.2->j=f)\/(inN v.length s.1/\s.1≠f/\∀ j,inN v.length j->j < s.2->j≠f->behind v f s.1 j))) (fun t=>inN v.length t/\t≠f/\∀ k,inN v.length k->k≠f->behind v f t k) (fun s hs=>by
   obtain ⟨out,k⟩:=s
   obtain ⟨h1,h2',h3⟩:=hs
   simp only at h1 h2' h3
   unfold Li
   dsimp only
   by_cases hk:k < (v.length:Int)
   ·left
    have hkn:inN v.length k:=⟨h1,hk⟩
    have w1:w64 (k+1)=k+1:=Bh (by omega) (by omega)
    rw [if_pos hk,jn_d]
    by_cases e1:k=f
    ·rw [if_pos e1,w1]
     refine ⟨_,rfl,⟨by dsimp only;omega,by dsimp only;omega,?_⟩,by dsimp only;omega⟩
     dsimp only
     rcases h3 with ⟨g1,g2⟩ | ⟨g1,g2,g3⟩
     ·exact .inl ⟨g1,fun j hj hl=>by
       by_cases e:j=k
       ·rw [e];exact e1
       ·exact g2 j hj (by omega)⟩
     ·exact .inr ⟨g1,g2,fun j hj hl hne=>g3 j hj (by omega) hne⟩
    ·rw [if_neg e1]
     have self:behind v f k k:=.inr ⟨Bg _ _,Akp _⟩
     by_cases e2:out < 0
     ·rw [if_pos e2,w1]
      have h4:∀ j,inN v.length j->j < k->j=f:=by
       rcases h3 with ⟨_,g⟩ | ⟨g,_⟩
       ·exact g
       ·unfold inN at g;omega
      refine ⟨_,rfl,⟨by dsimp only;omega,by dsimp only;omega,.inr ⟨hkn,e1,fun j hj hl hne=>?_⟩⟩,by dsimp only;omega⟩
      dsimp only at hl ⊢
      by_cases e:j=k
      ·rw [e];exact self
      ·exact absurd (h4 j hj (by omega)) hne
     ·rw [if_neg e2]
      obtain ⟨g1,g2,g3⟩:inN v.length out/\out≠f/\∀ j,inN v.length j->j < k->j≠f->behind v f out j:=by
       rcases h3 with g | g
       ·omega
       ·exact g
      obtain ⟨xa,fa,pa⟩:=Ho (v:=v) hf
      obtain ⟨xo,fo,po⟩:=Ho (v:=v) g1
      obtain ⟨xk,fk,pk⟩:=Ho (v:=v) hkn
      try rw [jn_d]
      rw [fa,Ad,fo,Ad,fk,Ad]
      unfold Ak
      rw [Ad,Ad,Ad]
      dsimp only
      rw [pa,po,pk,Pb (hv.ok _ hf) (hv.ok _ g1) (hv.ok _ hkn),Ad,jn_d,Abb (hv.ok _ hf) (hv.ok _ g1) (hv.ok _ hkn),w1]
      have sg:Int.sign (crs (plV v f) (plV v out) (plV v k)) < 0↔crs (plV v f) (plV v out) (plV v k) < 0:=Int.sign_neg_iff
      have s0:Int.sign (crs (plV v f) (plV v out) (plV v k))=0↔crs (plV v f) (plV v out) (plV v k)=0:=Int.sign_eq_zero_iff_zero
      have po':=up out g1 g2
      have pk':=up k hkn e1
      have take:(∀ j,inN v.length j->j < k->j≠f->behind v f k j)->∃ s',(some (.inl (k,k+1)):Option (Sum (Int × Int) Int))=some (.inl s')/\(0<=s'.2/\s'.2<=(v.length:Int)/\((s'.1 = -1/\∀ j,inN v.length j->j < s'.2->j=f)\/(inN v.length s'.1/\s'.1≠f/\∀ j,inN v.length j->j < s'.2->j≠f->behind v f s'.1 j)))/\v.length-s'.2.toNat < v.length-k.toNat:=fun hx =>
       ⟨_,rfl,⟨by dsimp only;omega,by dsimp only;omega,.inr ⟨hkn,e1,fun j hj hl hne=>by
        dsimp only at hl ⊢
        by_cases e:j=k
        ·rw [e];exact self
        ·exact hx j hj (by omega) hne⟩⟩,by dsimp only;omega⟩
      have keep:behind v f out k->∃ s',(some (.inl (out,k+1)):Option (Sum (Int × Int) Int))=some (.inl s')/\(0<=s'.2/\s'.2<=(v.length:Int)/\((s'.1 = -1/\∀ j,inN v.length j->j < s'.2->j=f)\/(inN v.length s'.1/\s'.1≠f/\∀ j,inN v.length j->j < s'.2->j≠f->behind v f s'.1 j)))/\v.length-s'.2.toNat < v.length-k.toNat:=fun hx =>
       ⟨_,rfl,⟨by dsimp only;omega,by dsimp only;omega,.inr ⟨g1,g2,fun j hj hl hne=>by
        dsimp only at hl ⊢
        by_cases e:j=k
        ·rw [e];exact hx
        ·exact g3 j hj (by omega) hne⟩⟩,by dsimp only;omega⟩
      have turn:∀ j,(ph lexA 1 (plV v out)-ph lexA 1 (plV v f))*crs (plV v f) (plV v k) (plV v j)=(ph lexA 1 (plV v k)-ph lexA 1 (plV v f))*crs (plV v f) (plV v out) (plV v j)-(ph lexA 1 (plV v j)-ph lexA 1 (plV v f))*crs (plV v f) (plV v out) (plV v k):=fun j=>by
       have:=Awo lexA 1 (plV v f) (plV v out) (plV v k) (plV v j)
       rw [Acr (plV v f) (plV v out) (plV v j),Int.mul_neg] at this
       omega
      by_cases c1:crs (plV v f) (plV v out) (plV v k) < 0
      ·rw [if_pos (sg.2 c1)]
       dsimp only
       rw [if_pos rfl]
       refine take fun j hj hl hne=>.inl ?_
       have t:=turn j
       have m2:=Int.mul_pos (show 0 < ph lexA 1 (plV v j)-ph lexA 1 (plV v f) by have:=up j hj hne;omega) (show 0 < -crs (plV v f) (plV v out) (plV v k) by omega)
       rw [Int.mul_neg] at m2
       have m1:0<=(ph lexA 1 (plV v k)-ph lexA 1 (plV v f))*crs (plV v f) (plV v out) (plV v j):=Int.mul_nonneg (by omega) (by rcases g3 j hj hl hne with g | g <;> omega)
       exact Ac6 (x:=ph lexA 1 (plV v out)-ph lexA 1 (plV v f)) (by omega) (by omega)
      ·rw [if_neg (fun g=>c1 (sg.1 g))]
       by_cases c2:crs (plV v f) (plV v out) (plV v k)=0
       ·rw [if_pos (s0.2 c2),Ad]
        have nok:=Mw hv g1 hkn
        by_cases c3:Box (plV v f) (plV v out) (plV v k)
        ·rw [decide_eq_true ⟨c2,c3⟩]
         have hko:¬ befP (plV v out) (plV v k):=fun e=>Aue c2 (Tl ((low out g1).resolve_left g2)) e (Mw hv hf g1 (fun e=>g2 e.symm)) c3
         dsimp only
         rw [if_pos (by rfl)]
         refine take fun j hj hl hne=>?_
         have t:=turn j
         rw [c2,Int.mul_zero,Int.sub_zero] at t
         rcases g3 j hj hl hne with g | ⟨g,g'⟩
         ·left
          have m1:=Int.mul_pos (show 0 < ph lexA 1 (plV v k)-ph lexA 1 (plV v f) by omega) g
          exact Ac6 (x:=ph lexA 1 (plV v out)-ph lexA 1 (plV v f)) (by omega) (by omega)
         ·right
          rw [g,Int.mul_zero] at t
          refine ⟨?_,fun e=>?_⟩
          ·rcases Int.mul_eq_zero.1 t with t | t
           ·omega
           ·exact t
          ·unfold befP at *
           omega
        ·rw [decide_eq_false (fun g=>c3 g.2)]
         dsimp only
         rw [if_neg (by simp)]
         refine keep (.inr ⟨c2,fun e=>c3 ?_⟩)
         exact Ako c2 (Tl ((low k hkn).resolve_left e1)) (Tl e)
       ·rw [if_neg (fun g=>c2 (s0.1 g))]
        dsimp only
        rw [if_neg (by simp)]
        exact keep (.inl (by omega))
   ·right
    rw [if_neg hk]
    refine ⟨_,rfl,?_⟩
    rcases h3 with ⟨g1,g2⟩ | ⟨g1,g2,g3⟩
    ·have x0:(0:Int)=f:=g2 0 ⟨by omega,by omega⟩ (by omega)
     have x1:(1:Int)=f:=g2 1 ⟨by omega,by omega⟩ (by omega)
     omega
    ·exact ⟨g1,g2,fun j hj hne=>g3 j hj (by have:=hj.2;omega) hne⟩) (-1,0) ⟨by simp,by simp,.inl ⟨rfl,fun j hj hl=>by unfold inN at hj;simp only at hl;omega⟩⟩
 obtain ⟨t,ht,g⟩:=this
 rw [ht,Ad]
 exact ⟨t,rfl,g⟩
variable {v:List Ab} {a b:Int}
theorem Ar9 {l:List Int} (hl:l.length<=5000) (c:Int):lfix (Iw l c) (false,0)=some (decide (c∈l)):=by
 have:=Cf (B:=Iw l c) (fun s=>l.length-s.2.toNat) (fun s=>∃ k:Nat,k<=l.length/\s=(decide (c∈l.take k),(k:Int))) (fun t=>t=decide (c∈l)) (fun s hs=>by
  obtain ⟨k,hk,rfl⟩:=hs
  unfold Iw
  dsimp only
  by_cases hk2:k < l.length
  ·left
   rw [if_pos (by omega),jn_d,Ay hk2,Ad,show w64 ((k:Int)+1)=((k+1:Nat):Int) from by rw [Bh (by omega) (by omega)];omega]
   refine ⟨_,?_,⟨k+1,hk2,rfl⟩,by dsimp only;omega⟩
   have e:(c∈l.take (k+1))↔(c∈l.take k\/l[k]=c):=by
    rw [List.take_succ_eq_append_getElem hk2,List.mem_append,List.mem_singleton]
    exact or_congr_right ⟨fun h=>h.symm,fun h=>h.symm⟩
   by_cases h1:c∈l.take k
   ·simp [h1,e]
   ·simp [h1,e]
  ·right
   rw [if_neg (by omega)]
   have:k=l.length:=by omega
   subst this
   exact ⟨_,rfl,by rw [List.take_length]⟩) (false,0) ⟨0,by omega,by simp⟩
 obtain ⟨t,ht,rfl⟩:=this
 exact ht
theorem Asa (hv:Cd v) (hn:v.length<=1024) (ha:inN v.length a) {l out:List Int} (hl:Circ v a b l) (hll:l.length<=1024) (ho:out.length<=5000) (hex:∃ y∈l,y ∉ out) :
  ∃ x,lfix (Ix l v a out) (-1,0)=some x/\x∈l/\x ∉ out/\∀ y∈l,y ∉ out->y≠x->0 < crs (plV v a) (plV v x) (plV v y):=by
 refine Cf (B:=Ix l v a out) (fun s=>l.length-s.2.toNat)
  (fun s=>∃ k:Nat,k<=l.length/\s.2=(k:Int)/\((s.1 = -1/\∀ y∈l.take k,y∈out)\/(s.1∈l/\s.1 ∉ out/\∀ y∈l.take k,y ∉ out->y≠s.1->0 < crs (plV v a) (plV v s.1) (plV v y)))) _ (fun s hs=>?_) _ ⟨0,by omega,rfl,.inl ⟨rfl,fun y hy=>by simp at hy⟩⟩
 obtain ⟨x,i⟩:=s
 obtain ⟨k,hk,rfl,h3⟩:=hs
 dsimp only at h3
 unfold Ix
 dsimp only
 by_cases hk2:k < l.length
 ·left
  have w1:w64 ((k:Int)+1)=((k+1:Nat):Int):=by rw [Bh (by omega) (by omega)];omega
  have hmem:l[k]∈l:=List.getElem_mem hk2
  have ts:l.take (k+1)=l.take k++[l[k]]:=List.take_succ_eq_append_getElem hk2
  have sub:∀ y,y∈l.take k->y∈l:=fun y=>List.mem_of_mem_take
  rw [if_pos (by omega),jn_d,Ay hk2,Ad,jn_d,Ar9 ho,Ad]
  dsimp only
  rw [jn_d,w1]
  by_cases c1:l[k]∈out
  ·rw [if_pos (by simpa using c1)]
   dsimp only
   rw [if_neg (by simp)]
   refine ⟨_,rfl,⟨k+1,hk2,rfl,?_⟩,by dsimp only;omega⟩
   dsimp only
   rcases h3 with ⟨g1,g2⟩ | ⟨g1,g2,g3⟩
   ·refine .inl ⟨g1,fun y hy=>?_⟩
    rw [ts,List.mem_append,List.mem_singleton] at hy
    rcases hy with hy | rfl
    ·exact g2 y hy
    ·exact c1
   ·refine .inr ⟨g1,g2,fun y hy hno=>?_⟩
    rw [ts,List.mem_append,List.mem_singleton] at hy
    rcases hy with hy | rfl
    ·exact g3 y hy hno
    ·exact absurd c1 hno
  ·rw [if_neg (by simpa using c1)]
   by_cases c2:x < 0
   ·rw [if_pos c2]
    dsimp only
    rw [if_pos rfl]
    refine ⟨_,rfl,⟨k+1,hk2,rfl,.inr ⟨hmem,c1,fun y hy hno hne=>?_⟩⟩,by dsimp only;omega⟩
    dsimp only at hne ⊢
    rw [ts,List.mem_append,List.mem_singleton] at hy
    rcases hy with hy | rfl
    ·rcases h3 with ⟨_,g⟩ | ⟨g,_⟩
     ·exact absurd (g y hy) hno
     ·have:=(hl.mem x g).1.1;omega
    ·exact absurd rfl hne
   ·obtain ⟨g1,g2,g3⟩:x∈l/\x ∉ out/\∀ y∈l.take k,y ∉ out->y≠x->0 < crs (plV v a) (plV v x) (plV v y):=by
     rcases h3 with g | g
     ·omega
     ·exact g
    obtain ⟨xa,fa,pa⟩:=Ho (v:=v) ha
    obtain ⟨xk,fk,pk⟩:=Ho (v:=v) (hl.mem _ hmem).1
    obtain ⟨xx,fx,px⟩:=Ho (v:=v) (hl.mem _ g1).1
    rw [if_neg c2,fa,Ad,fk,Ad,fx,Ad]
    unfold Ak
    rw [Ad,Ad,Ad,pa,pk,px,Pb (hv.ok _ ha) (hv.ok _ (hl.mem _ hmem).1) (hv.ok _ (hl.mem _ g1).1),Ad]
    have sg:0 < Int.sign (crs (plV v a) (plV v l[k]) (plV v x))↔0 < crs (plV v a) (plV v l[k]) (plV v x):=Int.sign_pos_iff
    by_cases c3:0 < crs (plV v a) (plV v l[k]) (plV v x)
    ·dsimp only
     rw [if_pos (by simpa using sg.2 c3)]
     refine ⟨_,rfl,⟨k+1,hk2,rfl,.inr ⟨hmem,c1,fun y hy hno hne=>?_⟩⟩,by dsimp only;omega⟩
     dsimp only at hne ⊢
     rw [ts,List.mem_append,List.mem_singleton] at hy
     rcases hy with hy | rfl
     ·by_cases e:y=x
      ·rw [e];exact c3
      ·exact hl.trans hmem g1 (sub y hy) c3 (g3 y hy hno e)
     ·exact absurd rfl hne
    ·dsimp only
     rw [if_neg (by simpa using fun g=>c3 (sg.1 g))]
     refine ⟨_,rfl,⟨k+1,hk2,rfl,.inr ⟨g1,g2,fun y hy hno hne=>?_⟩⟩,by dsimp only;omega⟩
     dsimp only at hne ⊢
     rw [ts,List.mem_append,List.mem_singleton] at hy
     rcases hy with hy | rfl
     ·exact g3 y hy hno hne
     ·have:=hl.ne0 hv hmem g1 hne
      rw [Acr]
      omega
 ·right
  rw [if_neg (by omega)]
  have:k=l.length:=by omega
  subst this
  rw [List.take_length] at h3
  rcases h3 with ⟨_,g⟩ | g
  ·obtain ⟨y,hy,hno⟩:=hex
   exact absurd (g y hy) hno
  ·exact ⟨_,rfl,g⟩
theorem Asb (hv:Cd v) (hn:v.length<=1024) (ha:inN v.length a) {l:List Int} (hl:Circ v a b l) (hll:l.length<=1024) :
  ∃ m,Mc v a b l=some (a::b::m)/\Ring v a b m/\(∀ x,x∈m↔x∈l):=by
 have hal:a ∉ l:=fun h=>by have:=(hl.mem a h).2;rw [Bm] at this;omega
 have hbl:b ∉ l:=fun h=>by have:=(hl.mem b h).2;rw [Bg] at this;omega
 unfold Mc
 rw [jn_d]
 have:=Cf (B:=Ls l v a) (fun s=>l.length+2-s.length)
  (fun s=>∃ m:List Int,s=a::b::m/\m.Nodup/\(∀ x∈m,x∈l)/\(m.Pairwise fun x y=>0 < crs (plV v a) (plV v x) (plV v y))/\∀ x∈m,∀ y∈l,y ∉ m->0 < crs (plV v a) (plV v x) (plV v y))
  (fun t=>∃ m:List Int,t=a::b::m/\m.Nodup/\(∀ x,x∈m↔x∈l)/\(m.Pairwise fun x y=>0 < crs (plV v a) (plV v x) (plV v y))) (fun s hs=>by
  obtain ⟨m,rfl,h1,h2,h3,h4⟩:=hs
  have hle:=Di h1 h2
  unfold Ls
  rw [Bh (x:=(l.length:Int)+2) (by omega) (by omega)]
  by_cases c:m.length < l.length
  ·left
   rw [if_pos (by simp only [List.length_cons];omega),jn_d]
   have hex:∃ y∈l,y ∉ a::b::m:=by
    refine Classical.byContradiction fun hno=>?_
    have:∀ y∈l,y∈m:=fun y hy=>by
     refine Classical.byContradiction fun g=>hno ⟨y,hy,fun e=>?_⟩
     rcases List.mem_cons.1 e with rfl | e
     ·exact hal hy
     ·rcases List.mem_cons.1 e with rfl | e
      ·exact hbl hy
      ·exact g e
    have:=Di hl.nd this
    omega
   obtain ⟨x,e1,e2,e3,e4⟩:=Asa hv hn ha hl hll (out:=a::b::m) (by simp only [List.length_cons];omega) hex
   rw [e1,Ad]
   dsimp only
   rw [gd_t (by simp only [List.length_cons];omega)]
   have hxm:x ∉ m:=fun g=>e3 (by simp [g])
   refine ⟨_,rfl,⟨m++[x],rfl,?_,fun y hy=>?_,?_,fun y hy z hz hzn=>?_⟩,by simp only [List.cons_append,List.length_cons,List.length_append,List.length_nil];omega⟩
   ·rw [List.nodup_append]
    refine ⟨h1,by simp,fun y hy z hz e=>?_⟩
    rw [List.mem_singleton] at hz
    subst hz;subst e
    exact hxm hy
   ·rcases List.mem_append.1 hy with hy | hy
    ·exact h2 y hy
    ·rw [List.mem_singleton] at hy;subst hy;exact e2
   ·rw [List.pairwise_append]
    refine ⟨h3,by simp,fun y hy z hz=>?_⟩
    rw [List.mem_singleton] at hz
    subst hz
    exact h4 y hy z e2 hxm
   ·have hzm:z ∉ m:=fun g=>hzn (by simp [g])
    have hzx:z≠x:=fun g=>hzn (by simp [g])
    rcases List.mem_append.1 hy with hy | hy
    ·exact h4 y hy z hz hzm
    ·rw [List.mem_singleton] at hy
     subst hy
     refine e4 z hz (fun g=>?_) hzx
     rcases List.mem_cons.1 g with rfl | g
     ·exact hal hz
     ·rcases List.mem_cons.1 g with rfl | g
      ·exact hbl hz
      ·exact hzm g
  ·right
   rw [if_neg (by simp only [List.length_cons];omega)]
   refine ⟨_,rfl,m,rfl,h1,fun x=>⟨h2 x,fun hx=>?_⟩,h3⟩
   refine Classical.byContradiction fun g=>?_
   have:(x::m).Nodup:=List.nodup_cons.2 ⟨g,h1⟩
   have:=Di this (fun y hy=>by rcases List.mem_cons.1 hy with rfl | hy;exact hx;exact h2 y hy)
   rw [List.length_cons] at this
   omega) [a,b] ⟨[],rfl,List.nodup_nil,fun x hx=>(by cases hx),List.Pairwise.nil,fun x hx=>(by cases hx)⟩
 obtain ⟨t,ht,m,rfl,h1,h2,h3⟩:=this
 rw [ht,Ad]
 exact ⟨m,rfl,⟨hl.sub (fun x hx=>(h2 x).1 hx) h1,h3⟩,h2⟩
theorem Aus (hv:Cd v) {r:List Int} (hr:r.length<=5000) (hne:r≠[]) (hin:∀ x∈r,inN v.length x) :
  ∃ (m:Nat) (hm:m < r.length),lfix (Hw r v) (0,0)=some (m:Int)/\∀ y∈r,¬ befP (plV v y) (plV v r[m]):=by
 have:=Cf (B:=Hw r v) (fun s=>r.length-s.2.toNat)
  (fun s=>∃ (m k:Nat) (hm:m < r.length),k<=r.length/\s=((m:Int),(k:Int))/\∀ y∈r.take k,¬ befP (plV v y) (plV v r[m])) (fun t=>∃ (m:Nat) (hm:m < r.length),t=(m:Int)/\∀ y∈r,¬ befP (plV v y) (plV v r[m])) (fun s hs=>by
  obtain ⟨m,k,hm,hk,rfl,h⟩:=hs
  unfold Hw
  dsimp only
  by_cases hk2:k < r.length
  ·left
   have ts:r.take (k+1)=r.take k++[r[k]]:=List.take_succ_eq_append_getElem hk2
   obtain ⟨xk,fk,pk⟩:=Ho (v:=v) (hin _ (List.getElem_mem hk2))
   obtain ⟨xm,fm,pm⟩:=Ho (v:=v) (hin _ (List.getElem_mem hm))
   rw [if_pos (by omega),jn_d,Ay hk2,Ad,fk,Ad,Ay hm,Ad,fm,Ad]
   unfold Ak
   rw [Ad,Ad,pk,pm,Acs,Ad,show w64 ((k:Int)+1)=((k+1:Nat):Int) from by rw [Bh (by omega) (by omega)];omega]
   by_cases c:befP (plV v r[k]) (plV v r[m])
   ·rw [if_pos (by simpa using c)]
    refine ⟨_,rfl,⟨k,k+1,hk2,hk2,rfl,fun y hy=>?_⟩,by dsimp only;omega⟩
    rw [ts,List.mem_append,List.mem_singleton] at hy
    rcases hy with hy | rfl
    ·exact fun g=>h y hy (Gu g c)
    ·exact Akp _
   ·rw [if_neg (by simpa using c)]
    refine ⟨_,rfl,⟨m,k+1,hm,hk2,rfl,fun y hy=>?_⟩,by dsimp only;omega⟩
    rw [ts,List.mem_append,List.mem_singleton] at hy
    rcases hy with hy | rfl
    ·exact h y hy
    ·exact c
  ·right
   rw [if_neg (by omega)]
   have:k=r.length:=by omega
   subst this
   rw [List.take_length] at h
   exact ⟨_,rfl,m,hm,rfl,h⟩) (0,0) ⟨0,0,List.length_pos_iff.2 hne,by omega,rfl,fun y hy=>by simp at hy⟩
 obtain ⟨t,ht,m,hm,rfl,h⟩:=this
 exact ⟨m,hm,ht,h⟩
theorem Apl {α:Type} {l:List α} (h:l.Nodup) {i j:Nat} (hi:i < l.length) (hj:j < l.length) (hne:i≠j):l[i]≠l[j]:=by
 have:=List.pairwise_iff_getElem.1 h
 rcases Nat.lt_trichotomy i j with g | g | g
 ·exact this i j hi hj g
 ·exact absurd g hne
 ·exact fun e=>this j i hj hi g e.symm
theorem Asc {r:List Int} (hr:r.length<=5000) (hn:r.Nodup) {m:Nat} (hm:m < r.length):lfix (He r m) (([]:List Int),0)=some (r.filter fun y=>decide (y≠r[m])):=by
 have:=Cf (B:=He r m) (fun s=>r.length-s.2.toNat) (fun s=>∃ k:Nat,k<=r.length/\s=((r.take k).filter (fun y=>decide (y≠r[m])),(k:Int))) (fun t=>t=r.filter fun y=>decide (y≠r[m])) (fun s hs=>by
  obtain ⟨k,hk,rfl⟩:=hs
  unfold He
  dsimp only
  by_cases hk2:k < r.length
  ·left
   have ts:r.take (k+1)=r.take k++[r[k]]:=List.take_succ_eq_append_getElem hk2
   have w1:w64 ((k:Int)+1)=((k+1:Nat):Int):=by rw [Bh (by omega) (by omega)];omega
   rw [if_pos (by omega),jn_d,w1]
   by_cases c:k=m
   ·subst c
    rw [if_pos rfl]
    refine ⟨_,rfl,⟨k+1,hk2,?_⟩,by dsimp only;omega⟩
    rw [ts,List.filter_append]
    simp
   ·have hne:r[k]≠r[m]:=Apl hn hk2 hm c
    have hle:((r.take k).filter fun y=>decide (y≠r[m])).length<=r.length:=by
     have h1:=List.length_filter_le (fun y=>decide (y≠r[m])) (r.take k)
     rw [List.length_take] at h1
     omega
    rw [if_neg (by omega),Ay hk2,Ad,gd_t (by omega)]
    refine ⟨_,rfl,⟨k+1,hk2,?_⟩,by dsimp only;omega⟩
    rw [ts,List.filter_append]
    simp [hne]
  ·right
   rw [if_neg (by omega)]
   have:k=r.length:=by omega
   subst this
   exact ⟨_,rfl,by rw [List.take_length]⟩) (([]:List Int),0) ⟨0,by omega,by simp⟩
 obtain ⟨t,ht,rfl⟩:=this
 exact ht
theorem tm (x n:Int) (hx:0<=x):Int.tmod x n=x % n:=Int.tmod_eq_emod_of_nonneg hx
theorem Ajo (hv:Cd v) (hn:v.length<=1024) (ha:inN v.length a) (hb:inN v.length b):∀ (n:Nat) (l:List Int),l.length=n->n<=1024->l≠[]->Ring v a b l ->
  ∃ c,Ans v a b l c/\(lfix (Ee b a v) (a::b::l)=some (.inr c)\/lfix (Ee b a v) (a::b::l)=some (.inl [a,b,c])):=by
 intro n
 induction n with
 | zero=>intro l hl _ hne _;exact absurd (List.eq_nil_of_length_eq_zero hl) hne
 | succ n ih =>
  intro l hl hn1 hne hr
  have hal:a ∉ l:=fun h=>by have:=(hr.circ.mem a h).2;rw [Bm] at this;omega
  have hbl:b ∉ l:=fun h=>by have:=(hr.circ.mem b h).2;rw [Bg] at this;omega
  have hab:a≠b:=fun e=>by
   obtain ⟨x,hx⟩:=List.exists_mem_of_ne_nil l hne
   have:=(hr.circ.mem x hx).2
   rw [e,Tn] at this
   omega
  by_cases hn0:n=0
  ·subst hn0
   obtain ⟨c,rfl⟩:=List.length_eq_one_iff.1 hl
   refine ⟨c,⟨by simp,fun d hd hne=>absurd (by simpa using hd) hne⟩,.inr ?_⟩
   rw [Br]
   unfold Ee
   rw [if_neg (by simp)]
  ·have hlen:(a::b::l).length=n+3:=by simp [hl]
   have hnd:(a::b::l).Nodup:=by
    rw [List.nodup_cons,List.nodup_cons]
    refine ⟨fun h=>?_,hbl,hr.circ.nd⟩
    rcases List.mem_cons.1 h with h | h
    ·exact hab h
    ·exact hal h
   have hin:∀ x∈a::b::l,inN v.length x:=fun x hx=>by
    rcases List.mem_cons.1 hx with rfl | hx
    ·exact ha
    ·rcases List.mem_cons.1 hx with rfl | hx
     ·exact hb
     ·exact (hr.circ.mem x hx).1
   obtain ⟨m,hm,h1,h2⟩:=Aus (r:=a::b::l) hv (by omega) (by simp) hin
   have far:∀ y∈a::b::l,y≠(a::b::l)[m]->befP (plV v (a::b::l)[m]) (plV v y):=fun y hy hne=>by
    rcases Jb (Mw hv (hin _ (List.getElem_mem hm)) (hin y hy) (fun e=>hne e.symm)) with g | g
    ·exact g
    ·exact absurd g (h2 y hy)
   have step:∀ x y z,idx (a::b::l) (Int.tmod (w64 ((w64 ((m:Int)+(((a::b::l).length:Nat):Int)))-1)) (((a::b::l).length:Nat):Int))=some x->idx (a::b::l) (Int.tmod (w64 ((m:Int)+1)) (((a::b::l).length:Nat):Int))=some y->(a::b::l)[m]=z ->
     Ee b a v (a::b::l)=if z=a/\y=b then some (.inr (.inr x)) else if z=b/\x=a then some (.inr (.inr y)) else some (.inl ((a::b::l).filter fun y=>decide (y≠z))):=fun x y z hx hy hz=>by
    unfold Ee
    rw [if_pos (by omega),jn_d,h1,Ad]
    dsimp only
    rw [gd_t (by omega),hx,Ad,gd_t (by omega),hy,Ad,jn_d,Ay hm,Ad,hz]
    have c:=Asc (r:=a::b::l) (by omega) hnd hm
    rw [hz] at c
    rw [jn_d,Ad,jn_d,c,Ad]
    dsimp only
    have hba:b≠a:=fun e=>hab e.symm
    by_cases e1:z=a
    ·have e3:z≠b:=fun e=>hab (by rw [<- e1,e])
     by_cases e2:y=b
     ·simp [e1,e2]
     ·simp [e1,e2,hab]
    ·by_cases e3:z=b
     ·by_cases e4:x=a
      ·simp [e3,e4,hba]
      ·simp [e3,e4,hba]
     ·simp [e1,e3]
   have m1:Int.tmod (w64 ((w64 ((m:Int)+(((a::b::l).length:Nat):Int)))-1)) (((a::b::l).length:Nat):Int)=((m:Int)+(n+2)) % (n+3):=by
    rw [hlen,Bh (x:=(m:Int)+((n+3:Nat):Int)) (by omega) (by omega),Bh (by omega) (by omega),tm _ _ (by omega)]
    congr 1
    omega
   have m2:Int.tmod (w64 ((m:Int)+1)) (((a::b::l).length:Nat):Int)=((m:Int)+1) % (n+3):=by
    rw [hlen,Bh (by omega) (by omega),tm _ _ (by omega)]
    rfl
   rw [m1,m2] at step
   rw [hlen] at hm
   by_cases cm0:m=0
   ·-- a is the first
    subst cm0
    obtain ⟨l',c,rfl⟩:∃ l' c,l=l' ++ [c]:=⟨l.dropLast,l.getLast hne,(List.dropLast_concat_getLast hne).symm⟩
    have i1:idx (a::b::(l' ++ [c])) (((0:Nat):Int)+(n+2))=some c:=by
     have:(((0:Nat):Int)+(n+2))=((n+2:Nat):Int):=by omega
     rw [this,Ay (by rw [hlen];omega)]
     have hn':l'.length=n:=by simpa using hl
     congr 1
     simp only [List.getElem_cons_succ]
     rw [List.getElem_append_right (by omega)]
     simp [hn']
    have i2:idx (a::b::(l' ++ [c])) (((0:Nat):Int)+1)=some b:=Ay (l:=a::b::(l' ++ [c])) (j:=1) (by simp)
    rw [Int.emod_eq_of_lt (by omega) (by omega),Int.emod_eq_of_lt (by omega) (by omega)] at step
    have st:=step c b a i1 i2 rfl
    rw [if_pos ⟨rfl,rfl⟩] at st
    refine ⟨c,hr.ans_a hv ha hb (far b (by simp) (fun e=>hab e.symm)) (fun x hx=>far x (by simp only [List.mem_cons];exact .inr (.inr hx)) (fun e=>?_)),.inl ?_⟩
    ·have e:x=a:=e
     rw [e] at hx
     exact hal hx
    ·rw [Br,st]
   ·by_cases cm1:m=1
    ·subst cm1
     obtain ⟨c,l',rfl⟩:=List.exists_cons_of_ne_nil hne
     have i1:idx (a::b::c::l') ((((1:Nat):Int)+(n+2)) % (n+3))=some a:=by
      have:(((1:Nat):Int)+(n+2)) % (n+3)=((0:Nat):Int):=by
       rw [show (((1:Nat):Int)+((n:Int)+2))=(n:Int)+3 by omega,Int.emod_self];rfl
      rw [this]
      exact Ay (l:=a::b::c::l') (j:=0) (by simp)
     have i2:idx (a::b::c::l') ((((1:Nat):Int)+1) % (n+3))=some c:=by
      rw [Int.emod_eq_of_lt (by omega) (by omega)]
      exact Ay (l:=a::b::c::l') (j:=2) (by simp)
     have st:=step a c b i1 i2 rfl
     rw [if_neg (fun g=>hab g.1.symm),if_pos ⟨rfl,rfl⟩] at st
     refine ⟨c,hr.ans_b hv ha hb (far a (by simp) hab) (fun x hx=>far x (by simp only [List.mem_cons] at hx ⊢;exact .inr (.inr hx)) (fun e=>?_)),.inl ?_⟩
     ·have e:x=b:=e
      rw [e] at hx
      exact hbl hx
     ·rw [Br,st]
    ·-- one of the others
     obtain ⟨k,rfl⟩:∃ k,m=k+2:=⟨m-2,by omega⟩
     have hk:k < l.length:=by omega
     have hx:(a::b::l)[k+2]'(by rw [hlen];omega)=l[k]:=rfl
     have hxl:l[k]∈l:=List.getElem_mem hk
     have e1:∃ x,idx (a::b::l) ((((k+2:Nat):Int)+(n+2)) % (n+3))=some x:=by
      obtain ⟨j,hj⟩:=Int.eq_ofNat_of_zero_le (Int.emod_nonneg (((k+2:Nat):Int)+(n+2)) (show ((n:Int)+3)≠0 by omega))
      have:=Int.emod_lt_of_pos (((k+2:Nat):Int)+(n+2)) (show (0:Int) < (n:Int)+3 by omega)
      rw [hj] at this ⊢
      exact ⟨_,Ay (by rw [hlen];omega)⟩
     have e2:∃ x,idx (a::b::l) ((((k+2:Nat):Int)+1) % (n+3))=some x:=by
      obtain ⟨j,hj⟩:=Int.eq_ofNat_of_zero_le (Int.emod_nonneg (((k+2:Nat):Int)+1) (show ((n:Int)+3)≠0 by omega))
      have:=Int.emod_lt_of_pos (((k+2:Nat):Int)+1) (show (0:Int) < (n:Int)+3 by omega)
      rw [hj] at this ⊢
      exact ⟨_,Ay (by rw [hlen];omega)⟩
     obtain ⟨x,e1⟩:=e1
     obtain ⟨y,e2⟩:=e2
     have st:=step x y l[k] e1 e2 hx
     have na:l[k]≠a:=fun e=>hal (e ▸ hxl)
     have nb:l[k]≠b:=fun e=>hbl (e ▸ hxl)
     rw [if_neg (fun g=>na g.1),if_neg (fun g=>nb g.1),List.filter_cons_of_pos (by simpa using fun e=>na e.symm),List.filter_cons_of_pos (by simpa using fun e=>nb e.symm)] at st
     have hsub:∀ z,z∈(l.filter fun y=>decide (y≠l[k]))↔z∈l/\z≠l[k]:=fun z=>by rw [List.mem_filter];simp
     have hlen2:(l.filter fun y=>decide (y≠l[k])).length=n:=by
      have h3:=hr.circ.nd.erase_eq_filter l[k]
      have h4:(l.filter fun y=>decide (y≠l[k]))=l.filter (fun y=>y != l[k]):=List.filter_congr fun y _=>by by_cases g:y=l[k] <;> simp [g]
      rw [h4,<- h3,List.length_erase_of_mem hxl,hl]
      rfl
     obtain ⟨c,g1,g2⟩:=ih _ hlen2 (by omega) (fun e=>by rw [e] at hlen2;simp at hlen2;omega) ⟨hr.circ.sub (fun z hz=>((hsub z).1 hz).1) (hr.circ.nd.filter _),hr.ord.filter _⟩
     rw [hx] at far
     refine ⟨c,hr.ans_cut hv ha hb hxl (far a (by simp) (fun e=>na e.symm)) (far b (by simp) (fun e=>nb e.symm)) (fun z hz hzn=>far z (by simp [hz]) hzn) hsub g1,?_⟩
     rw [Br,st]
     exact g2
theorem Apm (hv:Cd v) (hn:v.length<=1024) (ha:inN v.length a) (hb:inN v.length b) {l:List Int} (hll:l.length<=1024) (hne:l≠[]) (hr:Ring v a b l):∃ c,Iq v a b (a::b::l)=some c/\Ans v a b l c:=by
 obtain ⟨c,h1,h2⟩:=Ajo hv hn ha hb l.length l rfl hll hne hr
 refine ⟨c,?_,h1⟩
 unfold Iq
 rw [jn_d]
 rcases h2 with h2 | h2
 ·rw [h2,Ad]
 ·rw [h2,Ad]
  dsimp only
  have hc:=hr.circ.mem c h1.1
  have nca:c≠a:=fun e=>by have:=hc.2;rw [e,Bm] at this;omega
  have ncb:c≠b:=fun e=>by have:=hc.2;rw [e,Bg] at this;omega
  have nab:b≠a:=fun e=>by have:=hc.2;rw [e,Tn] at this;omega
  have s0:Cz [a,b,c] a b 0=some (.inl 1):=by
   unfold Cz
   rw [if_pos (by simp),show idx [a,b,c] 0=some a from rfl,Ad,jn_d,if_pos rfl]
   dsimp only
   rw [if_neg (by simp),Bh (by omega) (by omega)]
   rfl
  have s1:Cz [a,b,c] a b 1=some (.inl 2):=by
   unfold Cz
   rw [if_pos (by simp),show idx [a,b,c] 1=some b from rfl,Ad,jn_d,if_neg nab]
   dsimp only
   rw [if_neg (by simp),Bh (by omega) (by omega)]
   rfl
  have s2:Cz [a,b,c] a b 2=some (.inr (.inr c)):=by
   unfold Cz
   rw [if_pos (by simp),show idx [a,b,c] 2=some c from rfl,Ad,jn_d,if_neg nca]
   dsimp only
   rw [if_pos (by simpa using ncb)]
  rw [jn_d,Br,s0]
  dsimp only
  rw [Br,s1]
  dsimp only
  rw [Br,s2,Ad]
end Go.Proofs.YtoojmkhjdjianaaGreat
