import Derived.Test.YthlkpgdfifnagaaGreatV2
namespace Go.Proofs.YthlkpgdfifnagaaGreat
open Go Go.RowKit List
variable {v:List Ad} {p0 q0:Int}
def Tn(t:Aj)(p q:Int):Prop:=(p=t.a0/\q=t.a1)\/(p=t.a1/\q=t.a2)\/(p=t.a2/\q=t.a0)
def Alj(v:List Ad)(t:Aj):Prop:=t.a0<t.a1/\t.a0<t.a2/\Del v t.a0 t.a1 t.a2
theorem Alj.side{t:Aj}(h:Alj v t){p q:Int}(hs:Tn t p q):∃ e,Del v p q e:=by
 obtain⟨_,_,h⟩:=h;rcases hs with⟨rfl,rfl⟩|⟨rfl,rfl⟩|⟨rfl,rfl⟩
 ·exact⟨_,h⟩
 ·exact⟨_,h.rot⟩
 ·exact⟨_,h.rot.rot⟩
def noT(v:List Ad)(p q:Int):Prop:=∀ d,inN v.length d->crs (plV v p) (plV v q) (plV v d)<=0
def okS(v:List Ad)(p q:Int):Prop:=inN v.length p/\inN v.length q/\(noT v p q\/∃ e,Del v p q e)
structure Tr(v:List Ad)(p0 q0:Int)(op:List Ac)(dn:Int->Int->Prop)(out:List Aj):Prop where
 mem:∀ t∈out,Alj v t
 nd:out.Nodup
 opn:∀ s∈op,okS v s.a0 s.a1
 don:∀ p q,dn p q->(∃ t∈out,Tn t p q)\/noT v p q
 all:∀ t∈out,∀ p q,Tn t p q->dn p q
 rev:∀ t∈out,∀ p q,Tn t p q->⟨q,p⟩∈op\/dn q p
 sta:⟨p0,q0⟩∈op\/dn p0 q0
 len:op.length<=3*out.length+1
theorem Tr.init{dn:Int->Int->Prop}(h:okS v p0 q0)(hd:∀ p q,¬ dn p q):Tr v p0 q0 [⟨p0,q0⟩] dn [] :=
 ⟨fun t h=>(by cases h),nodup_nil,fun s hs=>by rw[mem_singleton] at hs;subst hs;exact h,fun p q g=>absurd g (hd p q),fun t h=>(by cases h),fun t h=>(by cases h),.inl (by simp),by simp⟩
theorem Ams{x s:Ac}{op:List Ac}(h:x∈op++[s]):x∈op\/x=s:=by simpa using h
theorem Tr.skip{op:List Ac}{dn:Int->Int->Prop}{out:List Aj}{s:Ac}(h:Tr v p0 q0 (op++[s]) dn out)(hs:dn s.a0 s.a1):Tr v p0 q0 op dn out :=
 ⟨h.mem,h.nd,fun x hx=>h.opn x (by simp[hx]),h.don,h.all,fun t ht p q hp=>(h.rev t ht p q hp).elim (fun g=>(Ams g).imp id fun e=>by subst e;exact hs) .inr,
  h.sta.elim (fun g=>(Ams g).imp id fun e=>by subst e;exact hs) .inr,by have:=h.len;rw[length_append,length_singleton] at this;omega⟩
theorem Tr.none{op:List Ac}{dn dn':Int->Int->Prop}{out:List Aj}{s:Ac}(h:Tr v p0 q0 (op++[s]) dn out)(hd:∀ p q,dn' p q↔dn p q\/(p=s.a0/\q=s.a1))(hn:noT v s.a0 s.a1):Tr v p0 q0 op dn' out:=by
 have key:Tr v p0 q0 (op++[s]) dn' out:=⟨h.mem,h.nd,h.opn,fun p q g=>by
  rcases (hd p q).1 g with g | ⟨rfl,rfl⟩
  ·exact h.don p q g
  ·exact .inr hn,fun t ht p q hp=>(hd p q).2 (.inl (h.all t ht p q hp)),fun t ht p q hp=>(h.rev t ht p q hp).imp id fun g=>(hd _ _).2 (.inl g),h.sta.imp id fun g=>(hd _ _).2 (.inl g),h.len⟩
 exact key.skip ((hd _ _).2 (.inr ⟨rfl,rfl⟩))
theorem Tr.more{op:List Ac}{dn dn':Int->Int->Prop}{out:List Aj}{s:Ac}{t:Aj}(h:Tr v p0 q0 (op++[s]) dn out)(hs:¬ dn s.a0 s.a1)(ht:Alj v t)(hst:Tn t s.a0 s.a1)(hd:∀ p q,dn' p q↔dn p q\/Tn t p q)(hx:∀ p q,Tn t p q->okS v q p):Tr v p0 q0 (op++[⟨t.a1,t.a0⟩,⟨t.a2,t.a1⟩,⟨t.a0,t.a2⟩]) dn' (out++[t]):=by
 have hin:∀ {p q:Int},⟨p,q⟩∈op++[s]->(⟨p,q⟩:Ac)∈op++[⟨t.a1,t.a0⟩,⟨t.a2,t.a1⟩,⟨t.a0,t.a2⟩]\/dn' p q:=fun {p q} g=>by
  rcases Ams g with g | g
  ·exact .inl (mem_append.2 (.inl g))
  ·right;rw[<- g] at hst;exact (hd _ _).2 (.inr hst)
 refine⟨fun x hx=>?_,?_,fun x hx'=>?_,fun p q g=>?_,fun x hx' p q g=>?_,fun x hx' p q g=>?_,?_,?_⟩
 ·rcases mem_append.1 hx with hx | hx
  ·exact h.mem x hx
  ·rw[mem_singleton] at hx;subst hx;exact ht
 ·rw[nodup_append];refine⟨h.nd,by simp,fun x hm y hy e=>?_⟩;rw[mem_singleton] at hy;rw[hy] at e;rw[e] at hm;exact hs (h.all t hm _ _ hst)
 ·rcases mem_append.1 hx' with hx' | hx'
  ·exact h.opn x (by simp[hx'])
  ·simp only[mem_cons,not_mem_nil,or_false] at hx';rcases hx' with rfl | rfl | rfl
   ·exact hx t.a0 t.a1 (.inl ⟨rfl,rfl⟩)
   ·exact hx t.a1 t.a2 (.inr (.inl ⟨rfl,rfl⟩))
   ·exact hx t.a2 t.a0 (.inr (.inr ⟨rfl,rfl⟩))
 ·rcases (hd p q).1 g with g | g
  ·rcases h.don p q g with⟨x,hx,g⟩ | g
   ·exact .inl ⟨x,by simp[hx],g⟩
   ·exact .inr g
  ·exact .inl ⟨t,by simp,g⟩
 ·rcases mem_append.1 hx' with hx' | hx'
  ·exact (hd p q).2 (.inl (h.all x hx' p q g))
  ·rw[mem_singleton] at hx';subst hx';exact (hd p q).2 (.inr g)
 ·rcases mem_append.1 hx' with hx' | hx'
  ·rcases h.rev x hx' p q g with g | g
   ·exact hin g
   ·exact .inr ((hd _ _).2 (.inl g))
  ·rw[mem_singleton] at hx';subst hx';left;refine mem_append.2 (.inr ?_);rcases g with⟨rfl,rfl⟩|⟨rfl,rfl⟩|⟨rfl,rfl⟩ <;> simp
 ·rcases h.sta with g | g
  ·exact hin g
  ·exact .inr ((hd _ _).2 (.inl g))
 ·have:=h.len;simp only[length_append,length_cons,length_nil] at this ⊢;omega
theorem Ai8{out:List Aj}(hmem:∀ t∈out,Alj v t)(hnd:out.Nodup):out.length<=v.length*v.length:=by
 have h1:(out.map fun t=>(t.a0.toNat*v.length+t.a1.toNat)).Nodup:=by
  unfold List.Nodup;rw[pairwise_map];refine List.Pairwise.imp_of_mem ?_ hnd;intro x y hx hy hne e;obtain⟨x1,x2,x3⟩:=hmem x hx;obtain⟨y1,y2,y3⟩:=hmem y hy;have x4:=x3.1;have x5:=x3.2.1;have y4:=y3.1;have y5:=y3.2.1;unfold inN at x4 x5 y4 y5;have e1:x.a1.toNat=y.a1.toNat:=by
   have:=congrArg (· % v.length) e;simp only[Nat.mul_add_mod_self_right] at this
   rwa [Nat.mod_eq_of_lt oo,Nat.mod_eq_of_lt oo] at this
  have e2:x.a0.toNat=y.a0.toNat:=by
   rw[e1] at e;have e':x.a0.toNat*v.length=y.a0.toNat*v.length:=oo;exact Nat.eq_of_mul_eq_mul_right oo e'
  have e3:x.a0=y.a0:=oo;have e4:x.a1=y.a1:=oo;apply hne;obtain⟨xa,xb,xc⟩:=x;obtain⟨ya,yb,yc⟩:=y;simp only at e3 e4 x3 y3;subst e3;subst e4;rw[x3.unique y3]
 have:=Bz (m:=List.range (v.length*v.length)) h1 fun x hx=>by
  obtain⟨t,ht,rfl⟩:=mem_map.1 hx;obtain⟨_,_,t3⟩:=hmem t ht;have t4:=t3.1;have t5:=t3.2.1;unfold inN at t4 t5;rw[mem_range];have h3:t.a0.toNat+1<=v.length:=oo;have:=Nat.mul_le_mul_right v.length h3;rw[Nat.add_mul] at this;omega
 rwa [length_map,length_range] at this
theorem Tr.bound{op:List Ac}{dn:Int->Int->Prop}{out:List Aj}(h:Tr v p0 q0 op dn out):out.length<=v.length*v.length:=Ai8 h.mem h.nd
def rots(t:Aj):List T3:=[(t.a0,t.a1,t.a2),(t.a1,t.a2,t.a0),(t.a2,t.a0,t.a1)]
theorem Tr.full{dn:Int->Int->Prop}{out:List Aj}(h:Tr v p0 q0 [] dn out)(hs:∃ e,Del v p0 q0 e)(t:Aj):t∈out↔t.a0<t.a1/\t.a0<t.a2/\Del v t.a0 t.a1 t.a2:=by
 refine⟨fun ht=>h.mem t ht,fun ⟨t1,t2,t3⟩=>?_⟩;have memX:∀ a b c:Int,(a,b,c)∈out.flatMap rots->∃ t∈out,Tn t a b/\Del v a b c:=fun a b c g=>by
  obtain⟨t,ht,g⟩:=mem_flatMap.1 g;have:=(h.mem t ht).2.2;unfold rots at g;simp only[mem_cons,not_mem_nil,or_false] at g;rcases g with g | g | g <;> cases g
  ·exact⟨t,ht,.inl ⟨rfl,rfl⟩,this⟩
  ·exact⟨t,ht,.inr (.inl ⟨rfl,rfl⟩),this.rot⟩
  ·exact⟨t,ht,.inr (.inr ⟨rfl,rfl⟩),this.rot.rot⟩
 have inX:∀ t∈out,∀ a b c,Tn t a b->Del v a b c->(a,b,c)∈out.flatMap rots:=fun t ht a b c g hd=>by
  have:=(h.mem t ht).2.2;refine mem_flatMap.2 ⟨t,ht,?_⟩;unfold rots;rcases g with⟨rfl,rfl⟩|⟨rfl,rfl⟩|⟨rfl,rfl⟩
  ·rw[hd.unique this];simp
  ·rw[hd.unique this.rot];simp
  ·rw[hd.unique this.rot.rot];simp
 have hX:Ajm (plV v) (out.flatMap rots):=⟨fun a b c g=>by
  obtain⟨t,ht,g1,g2⟩:=memX a b c g;refine inX t ht b c a ?_ g2.rot;have:=(h.mem t ht).2.2;rcases g1 with⟨rfl,rfl⟩|⟨rfl,rfl⟩|⟨rfl,rfl⟩
  ·rw[g2.unique this];exact .inr (.inl ⟨rfl,rfl⟩)
  ·rw[g2.unique this.rot];exact .inr (.inr ⟨rfl,rfl⟩)
  ·rw[g2.unique this.rot.rot];exact .inl ⟨rfl,rfl⟩,fun a b c g=>by
  obtain⟨t,ht,g1,g2⟩:=memX a b c g;exact g2.2.2.2.1⟩
 have dnX:∀ p q e,dn p q->Del v p q e->(p,q,e)∈out.flatMap rots:=fun p q e g hd=>by
  rcases h.don p q g with⟨t,ht,g⟩ | g
  ·exact inX t ht p q e g hd
  ·have:=g e hd.2.2.1;have:=hd.2.2.2.1;omega
 have:=Ajn (H:=hV v) (V:=inN v.length) hX (fun a b c g=>by obtain⟨t,ht,g1,g2⟩:=memX a b c g;exact⟨g2.1,g2.2.1,g2.2.2.1⟩) (fun a b c g=>by obtain⟨t,ht,g1,g2⟩:=memX a b c g;exact g2.2.2.2.2)
  (fun a b c g d hd hl=>by
   obtain⟨t,ht,g1,g2⟩:=memX a b c g;rcases h.rev t ht a b g1 with k | k
   ·cases k
   ·rcases h.don b a k with⟨t',ht',k'⟩ | k'
    ·obtain⟨e,he⟩:=(h.mem t' ht').side k';exact⟨e,inX t' ht' b a e k' he⟩
    ·have:=k' d hd;rw[Cu] at this;omega)
  (fun e=>by
   obtain⟨x,hx⟩:=hs;rcases h.sta with k | k
   ·cases k
   ·have:=dnX p0 q0 x k hx;rw[e] at this;cases this) t3.1 t3.2.1 t3.2.2.1 t3.2.2.2.1 t3.2.2.2.2
 obtain⟨t',ht',g⟩:=mem_flatMap.1 this;obtain⟨s1,s2,s3⟩:=h.mem t' ht';obtain⟨ta,tb,tc⟩:=t;obtain⟨sa,sb,sc⟩:=t';unfold rots at g;simp only[mem_cons,not_mem_nil,or_false,Prod.mk.injEq] at g t1 t2 s1 s2;rcases g with⟨rfl,rfl,rfl⟩|⟨rfl,rfl,rfl⟩|⟨rfl,rfl,rfl⟩
 ·exact ht'
 ·omega
 ·omega
end Go.Proofs.YthlkpgdfifnagaaGreat
namespace Go.Proofs.YthlkpgdfifnagaaGreat
open Go Go.RowKit List
variable {v:List Ad}
def behind(v:List Ad)(f b k:Int):Prop:=0<crs (plV v f) (plV v b) (plV v k)\/(crs (plV v f) (plV v b) (plV v k)=0/\¬ befP (plV v k) (plV v b))
theorem Aqi{f b d x:Ab}(hf:okP f)(hb:okP b)(hd:okP d)(h1:befP f b)(h2:befP b d)(h0:crs f b d=0)(hx:0<crs f b x):crs b x d<0:=by
 have q1:=(Aq9 hf hb).2 h1;have q2:=(Aq9 hb hd).2 h2;have e:=Bcn lexA 1 b f d x;have e1:crs b f d=0:=by rw[Cu];omega
 have e2:crs b x f=crs f b x:=Cf f b x;rw[e1,e2,Int.mul_zero] at e;have e3:=Int.mul_pos (show 0<ph lexA 1 d-ph lexA 1 b by omega) hx;have e4:(ph lexA 1 f-ph lexA 1 b)*crs b d x = -((ph lexA 1 b-ph lexA 1 f)*crs b d x):=by grind
 have:=Aez (x:=ph lexA 1 b-ph lexA 1 f) (y:=crs b d x) oo oo;rw[Af8];omega
theorem At3(hv:Ij v)(hn:v.length<=1024){f:Int}(hf:inN v.length f)(low:∀ k,inN v.length k->k=f\/befP (plV v f) (plV v k))(h2:2<=v.length):
  ∃ b,Qb v f false=some b/\inN v.length b/\b≠f/\∀ k,inN v.length k->k≠f->behind v f b k:=by
 unfold Qb;rw[jn_d];have up:∀ k,inN v.length k->k≠f->ph lexA 1 (plV v f)<ph lexA 1 (plV v k):=fun k hk hne=>(Aq9 (hv.ok f hf) (hv.ok k hk)).2 ((low k hk).resolve_left hne)
 have:=Bk (B:=Ps v f false) (fun s=>v.length-s.2.toNat)
  (fun s=>0<=s.2/\s.2<=(v.length:Int)/\((s.1 = -1/\∀ j,inN v.length j->j<s.2->j=f)\/(inN v.length s.1/\s.1≠f/\∀ j,inN v.length j->j<s.2->j≠f->behind v f s.1 j))) (fun t=>inN v.length t/\t≠f/\∀ k,inN v.length k->k≠f->behind v f t k) (fun s hs=>by
   obtain⟨out,k⟩:=s;obtain⟨h1,h2',h3⟩:=hs;simp only at h1 h2' h3;unfold Ps;dsimp only
   by_cases hk:k<(v.length:Int)
   ·left;have hkn:inN v.length k:=⟨h1,hk⟩;have w1:w64 (k+1)=k+1:=Av oo oo;rw[if_pos hk,jn_d]
    by_cases e1:k=f
    ·rw[if_pos e1,w1];refine⟨_,rfl,⟨by dsimp only;omega,by dsimp only;omega,?_⟩,by dsimp only;omega⟩;dsimp only;rcases h3 with⟨g1,g2⟩|⟨g1,g2,g3⟩
     ·exact .inl ⟨g1,fun j hj hl=>by
       by_cases e:j=k
       ·rw[e];exact e1
       ·exact g2 j hj oo⟩
     ·exact .inr ⟨g1,g2,fun j hj hl hne=>g3 j hj oo hne⟩
    ·rw[if_neg e1];have self:behind v f k k:=.inr ⟨Cs _ _,Atf _⟩
     by_cases e2:out<0
     ·rw[if_pos e2,w1];have h4:∀ j,inN v.length j->j<k->j=f:=by
       rcases h3 with⟨_,g⟩|⟨g,_⟩
       ·exact g
       ·unfold inN at g;omega
      refine⟨_,rfl,⟨by dsimp only;omega,by dsimp only;omega,.inr ⟨hkn,e1,fun j hj hl hne=>?_⟩⟩,by dsimp only;omega⟩;dsimp only at hl ⊢
      by_cases e:j=k
      ·rw[e];exact self
      ·exact absurd (h4 j hj oo) hne
     ·rw[if_neg e2];obtain⟨g1,g2,g3⟩:inN v.length out/\out≠f/\∀ j,inN v.length j->j<k->j≠f->behind v f out j:=by
       rcases h3 with g | g
       ·omega
       ·exact g
      obtain⟨xa,fa,pa⟩:=Sb (v:=v) hf;obtain⟨xo,fo,po⟩:=Sb (v:=v) g1;obtain⟨xk,fk,pk⟩:=Sb (v:=v) hkn;try rw[jn_d]
      rw[fa,Ae,fo,Ae,fk,Ae];unfold Au;rw[Ae,Ae,Ae];dsimp only;rw[pa,po,pk,Aaf (hv.ok _ hf) (hv.ok _ g1) (hv.ok _ hkn),Ae,jn_d,Apj (hv.ok _ hf) (hv.ok _ g1) (hv.ok _ hkn),w1];have sg:Int.sign (crs (plV v f) (plV v out) (plV v k))<0↔crs (plV v f) (plV v out) (plV v k)<0:=Int.sign_neg_iff;have s0:Int.sign (crs (plV v f) (plV v out) (plV v k))=0↔crs (plV v f) (plV v out) (plV v k)=0:=Int.sign_eq_zero_iff_zero;have po':=up out g1 g2;have pk':=up k hkn e1;have take:(∀ j,inN v.length j->j<k->j≠f->behind v f k j)->∃ s',(some (.inl (k,k+1)):Option (Sum (Int × Int) Int))=some (.inl s')/\(0<=s'.2/\s'.2<=(v.length:Int)/\((s'.1 = -1/\∀ j,inN v.length j->j<s'.2->j=f)\/(inN v.length s'.1/\s'.1≠f/\∀ j,inN v.length j->j<s'.2->j≠f->behind v f s'.1 j)))/\v.length-s'.2.toNat<v.length-k.toNat:=fun hx=>
       ⟨_,rfl,⟨by dsimp only;omega,by dsimp only;omega,.inr ⟨hkn,e1,fun j hj hl hne=>by
        dsimp only at hl ⊢
        by_cases e:j=k
        ·rw[e];exact self
        ·exact hx j hj oo hne⟩⟩,by dsimp only;omega⟩
      have keep:behind v f out k->∃ s',(some (.inl (out,k+1)):Option (Sum (Int × Int) Int))=some (.inl s')/\(0<=s'.2/\s'.2<=(v.length:Int)/\((s'.1 = -1/\∀ j,inN v.length j->j<s'.2->j=f)\/(inN v.length s'.1/\s'.1≠f/\∀ j,inN v.length j->j<s'.2->j≠f->behind v f s'.1 j)))/\v.length-s'.2.toNat<v.length-k.toNat:=fun hx=>
       ⟨_,rfl,⟨by dsimp only;omega,by dsimp only;omega,.inr ⟨g1,g2,fun j hj hl hne=>by
        dsimp only at hl ⊢
        by_cases e:j=k
        ·rw[e];exact hx
        ·exact g3 j hj oo hne⟩⟩,by dsimp only;omega⟩
      have turn:∀ j,(ph lexA 1 (plV v out)-ph lexA 1 (plV v f))*crs (plV v f) (plV v k) (plV v j)=(ph lexA 1 (plV v k)-ph lexA 1 (plV v f))*crs (plV v f) (plV v out) (plV v j)-(ph lexA 1 (plV v j)-ph lexA 1 (plV v f))*crs (plV v f) (plV v out) (plV v k):=fun j=>by
       have:=Bcn lexA 1 (plV v f) (plV v out) (plV v k) (plV v j);rw[Af8 (plV v f) (plV v out) (plV v j),Int.mul_neg] at this;omega
      by_cases c1:crs (plV v f) (plV v out) (plV v k)<0
      ·rw[if_pos (sg.2 c1)];dsimp only;rw[if_pos rfl];refine take fun j hj hl hne=>.inl ?_
       have t:=turn j;have m2:=Int.mul_pos (show 0<ph lexA 1 (plV v j)-ph lexA 1 (plV v f) by have:=up j hj hne;omega) (show 0 < -crs (plV v f) (plV v out) (plV v k) by omega);rw[Int.mul_neg] at m2;have m1:0<=(ph lexA 1 (plV v k)-ph lexA 1 (plV v f))*crs (plV v f) (plV v out) (plV v j):=Int.mul_nonneg oo (by rcases g3 j hj hl hne with g | g <;> omega);exact Aez (x:=ph lexA 1 (plV v out)-ph lexA 1 (plV v f)) oo oo
      ·rw[if_neg (fun g=>c1 (sg.1 g))]
       by_cases c2:crs (plV v f) (plV v out) (plV v k)=0
       ·rw[if_pos (s0.2 c2),Ae];have nok:=Aas hv g1 hkn
        by_cases c3:Box (plV v f) (plV v out) (plV v k)
        ·rw[decide_eq_true ⟨c2,c3⟩];have hko:¬ befP (plV v out) (plV v k):=fun e=>Ben c2 (Af9 ((low out g1).resolve_left g2)) e (Aas hv hf g1 (fun e=>g2 e.symm)) c3
         dsimp only;rw[if_pos (by rfl)];refine take fun j hj hl hne=>?_
         have t:=turn j;rw[c2,Int.mul_zero,Int.sub_zero] at t;rcases g3 j hj hl hne with g | ⟨g,g'⟩
         ·left;have m1:=Int.mul_pos (show 0<ph lexA 1 (plV v k)-ph lexA 1 (plV v f) by omega) g;exact Aez (x:=ph lexA 1 (plV v out)-ph lexA 1 (plV v f)) oo oo
         ·right;rw[g,Int.mul_zero] at t;refine⟨?_,fun e=>?_⟩
          ·rcases Int.mul_eq_zero.1 t with t | t
           ·omega
           ·exact t
          ·unfold befP at *;omega
        ·rw[decide_eq_false (fun g=>c3 g.2)];dsimp only;rw[if_neg (by simp)];refine keep (.inr ⟨c2,fun e=>c3 ?_⟩);exact Bbl c2 (Af9 ((low k hkn).resolve_left e1)) (Af9 e)
       ·rw[if_neg (fun g=>c2 (s0.1 g))];dsimp only;rw[if_neg (by simp)];exact keep (.inl oo)
   ·right;rw[if_neg hk];refine⟨_,rfl,?_⟩;rcases h3 with⟨g1,g2⟩|⟨g1,g2,g3⟩
    ·have x0:(0:Int)=f:=g2 0 ⟨oo,oo⟩ oo;have x1:(1:Int)=f:=g2 1 ⟨oo,oo⟩ oo;omega
    ·exact⟨g1,g2,fun j hj hne=>g3 j hj (by have:=hj.2;omega) hne⟩) (-1,0) ⟨by simp,by simp,.inl ⟨rfl,fun j hj hl=>by unfold inN at hj;simp only at hl;omega⟩⟩
 obtain⟨t,ht,g⟩:=this;rw[ht,Ae];exact⟨t,rfl,g⟩
end Go.Proofs.YthlkpgdfifnagaaGreat
namespace Go.Proofs.YthlkpgdfifnagaaGreat
open Go Go.RowKit List
variable {v:List Ad} {a b:Int}
theorem Aol(v:List Ad)(i k:Int):Mq v [] i k=some true:=by
 unfold Mq;rw[jn_d,Bd];unfold Tu;rw[if_neg (by simp)];rfl
theorem At4(hv:Ij v)(hn:v.length<=1024)(ha:inN v.length a)(hb:inN v.length b):∃ s,lfix (Lz v a b []) (([]:List Int),0)=some s/\Best v a b v.length s:=by
 refine Bk (B:=Lz v a b []) (fun s=>v.length-s.2.toNat) (fun s=>0<=s.2/\s.2<=(v.length:Int)/\Best v a b s.2 s.1/\(s.1.length:Int)<=s.2) (fun t=>Best v a b v.length t) (fun s hs=>?_) _ ⟨by simp,by simp,Best.nil,by simp⟩;obtain⟨l,k⟩:=s;obtain⟨h1,h2,h3,h4⟩:=hs;dsimp only at h1 h2 h3 h4;unfold Lz;dsimp only
 by_cases hk:k<(v.length:Int)
 ·left;have hkn:inN v.length k:=⟨h1,hk⟩;obtain⟨xa,fa,pa⟩:=Sb (v:=v) ha;obtain⟨xb,fb,pb⟩:=Sb (v:=v) hb;obtain⟨xk,fk,pk⟩:=Sb (v:=v) hkn;have w1:w64 (k+1)=k+1:=Av oo oo;have sg:Int.sign (crs (plV v a) (plV v b) (plV v k))<=0↔crs (plV v a) (plV v b) (plV v k)<=0:=by
   have:=@Int.sign_eq_one_iff_pos (crs (plV v a) (plV v b) (plV v k));have:=Int.sign_trichotomy (crs (plV v a) (plV v b) (plV v k));omega
  have go:∀ l',Best v a b (k+1) l'->(l'.length:Int)<=k+1->∃ s',(some (.inl (l',w64 (k+1))):Option (Sum (List Int × Int) (List Int)))=some (.inl s')/\(0<=s'.2/\s'.2<=(v.length:Int)/\Best v a b s'.2 s'.1/\(s'.1.length:Int)<=s'.2)/\v.length-s'.2.toNat<v.length-k.toNat:=fun l' g g'=>
   ⟨_,rfl,⟨by dsimp only;omega,by dsimp only;omega,by dsimp only;rw[w1];exact g,by dsimp only;omega⟩,by dsimp only;omega⟩
  rw[if_pos hk,jn_d,jn_d,fa,Ae,fb,Ae,fk,Ae];unfold Au;rw[Ae,Ae,Ae,pa,pb,pk,Aaf (hv.ok _ ha) (hv.ok _ hb) (hv.ok _ hkn),Ae]
  by_cases c1:crs (plV v a) (plV v b) (plV v k)<=0
  ·rw[if_pos (sg.2 c1)];dsimp only;rw[if_pos rfl];exact go l (h3.skip c1) oo
  ·have hp:0<crs (plV v a) (plV v b) (plV v k):=oo;rw[if_neg (fun g=>c1 (sg.1 g)),Aol,Ae,if_pos rfl,Aol,Ae];dsimp only;rw[if_neg (by simp)]
   by_cases c2:l=[]
   ·subst c2;rw[if_pos (by simp)];exact go [k] (h3.first hkn hp) (by simp;omega)
   ·obtain⟨c,r,rfl⟩:=exists_cons_of_ne_nil c2;have hc:c∈c::r:=by simp
    have hcn:=(h3.mem c hc).1;obtain⟨xc,fc,pc⟩:=Sb (v:=v) hcn;have i0:idx (c::r) 0=some c:=At (l:=c::r) (j:=0) (by simp);rw[if_neg (by simp;omega)];simp only[i0,fc,Ae,pc,pa,pb,pk];rw[Aqq (hv.ok _ ha) (hv.ok _ hb) (hv.ok _ hcn) (hv.ok _ hkn),Ae];rcases Int.lt_trichotomy (inC (plV v a) (plV v b) (plV v c) (plV v k)) 0 with g | g | g
    ·rw[Int.sign_eq_neg_one_of_neg g,if_neg oo,if_neg oo];exact go _ (h3.worse hc g) oo
    ·rw[g,Int.sign_zero,if_neg oo,if_pos rfl,gd_t oo];exact go _ (h3.tie hkn hp hc g) (by rw[length_append,length_singleton];omega)
    ·rw[Int.sign_eq_one_of_pos g,if_pos rfl];exact go [k] (h3.better hkn hp hc g) (by simp;omega)
 ·right;rw[if_neg hk];have:k=v.length:=oo;subst this;exact⟨_,rfl,h3⟩
theorem Bar{l:List Int}(hl:l.length<=5000)(c:Int):lfix (Lx l c) (false,0)=some (decide (c∈l)):=by
 have:=Bk (B:=Lx l c) (fun s=>l.length-s.2.toNat) (fun s=>∃ k:Nat,k<=l.length/\s=(decide (c∈l.take k),(k:Int))) (fun t=>t=decide (c∈l)) (fun s hs=>by
  obtain⟨k,hk,rfl⟩:=hs;unfold Lx;dsimp only
  by_cases hk2:k<l.length
  ·left;rw[if_pos oo,jn_d,At hk2,Ae,show w64 ((k:Int)+1)=((k+1:Nat):Int) from by rw[Av oo oo];omega];refine⟨_,?_,⟨k+1,hk2,rfl⟩,by dsimp only;omega⟩;have e:(c∈l.take (k+1))↔(c∈l.take k\/l[k]=c):=by
    rw[take_succ_eq_append_getElem hk2,mem_append,mem_singleton];exact or_congr_right ⟨fun h=>h.symm,fun h=>h.symm⟩
   by_cases h1:c∈l.take k
   ·simp[h1,e]
   ·simp[h1,e]
  ·right;rw[if_neg oo];have:k=l.length:=oo;subst this;exact⟨_,rfl,by rw[take_length]⟩) (false,0) ⟨0,oo,by simp⟩
 obtain⟨t,ht,rfl⟩:=this;exact ht
theorem Bas(hv:Ij v)(hn:v.length<=1024)(ha:inN v.length a){l out:List Int}(hl:Circ v a b l)(hll:l.length<=1024)(ho:out.length<=5000)(hex:∃ y∈l,y ∉ out):
  ∃ x,lfix (Ly l v a out) (-1,0)=some x/\x∈l/\x ∉ out/\∀ y∈l,y ∉ out->y≠x->0<crs (plV v a) (plV v x) (plV v y):=by
 refine Bk (B:=Ly l v a out) (fun s=>l.length-s.2.toNat)
  (fun s=>∃ k:Nat,k<=l.length/\s.2=(k:Int)/\((s.1 = -1/\∀ y∈l.take k,y∈out)\/(s.1∈l/\s.1 ∉ out/\∀ y∈l.take k,y ∉ out->y≠s.1->0<crs (plV v a) (plV v s.1) (plV v y)))) _ (fun s hs=>?_) _ ⟨0,oo,rfl,.inl ⟨rfl,fun y hy=>by simp at hy⟩⟩
 obtain⟨x,i⟩:=s;obtain⟨k,hk,rfl,h3⟩:=hs;dsimp only at h3;unfold Ly;dsimp only
 by_cases hk2:k<l.length
 ·left;have w1:w64 ((k:Int)+1)=((k+1:Nat):Int):=by rw[Av oo oo];omega
  have hmem:l[k]∈l:=getElem_mem hk2;have ts:l.take (k+1)=l.take k++[l[k]]:=take_succ_eq_append_getElem hk2;have sub:∀ y,y∈l.take k->y∈l:=fun y=>mem_of_mem_take
  rw[if_pos oo,jn_d,At hk2,Ae,jn_d,Bar ho,Ae];dsimp only;rw[jn_d,w1]
  by_cases c1:l[k]∈out
  ·rw[if_pos (by simpa using c1)];dsimp only;rw[if_neg (by simp)];refine⟨_,rfl,⟨k+1,hk2,rfl,?_⟩,by dsimp only;omega⟩;dsimp only;rcases h3 with⟨g1,g2⟩|⟨g1,g2,g3⟩
   ·refine .inl ⟨g1,fun y hy=>?_⟩;rw[ts,mem_append,mem_singleton] at hy;rcases hy with hy | rfl
    ·exact g2 y hy
    ·exact c1
   ·refine .inr ⟨g1,g2,fun y hy hno=>?_⟩;rw[ts,mem_append,mem_singleton] at hy;rcases hy with hy | rfl
    ·exact g3 y hy hno
    ·exact absurd c1 hno
  ·rw[if_neg (by simpa using c1)]
   by_cases c2:x<0
   ·rw[if_pos c2];dsimp only;rw[if_pos rfl];refine⟨_,rfl,⟨k+1,hk2,rfl,.inr ⟨hmem,c1,fun y hy hno hne=>?_⟩⟩,by dsimp only;omega⟩;dsimp only at hne ⊢;rw[ts,mem_append,mem_singleton] at hy;rcases hy with hy | rfl
    ·rcases h3 with⟨_,g⟩|⟨g,_⟩
     ·exact absurd (g y hy) hno
     ·have:=(hl.mem x g).1.1;omega
    ·exact absurd rfl hne
   ·obtain⟨g1,g2,g3⟩:x∈l/\x ∉ out/\∀ y∈l.take k,y ∉ out->y≠x->0<crs (plV v a) (plV v x) (plV v y):=by
     rcases h3 with g | g
     ·omega
     ·exact g
    obtain⟨xa,fa,pa⟩:=Sb (v:=v) ha;obtain⟨xk,fk,pk⟩:=Sb (v:=v) (hl.mem _ hmem).1;obtain⟨xx,fx,px⟩:=Sb (v:=v) (hl.mem _ g1).1;rw[if_neg c2,fa,Ae,fk,Ae,fx,Ae];unfold Au;rw[Ae,Ae,Ae,pa,pk,px,Aaf (hv.ok _ ha) (hv.ok _ (hl.mem _ hmem).1) (hv.ok _ (hl.mem _ g1).1),Ae];have sg:0<Int.sign (crs (plV v a) (plV v l[k]) (plV v x))↔0<crs (plV v a) (plV v l[k]) (plV v x):=Int.sign_pos_iff
    by_cases c3:0<crs (plV v a) (plV v l[k]) (plV v x)
    ·dsimp only;rw[if_pos (by simpa using sg.2 c3)];refine⟨_,rfl,⟨k+1,hk2,rfl,.inr ⟨hmem,c1,fun y hy hno hne=>?_⟩⟩,by dsimp only;omega⟩;dsimp only at hne ⊢;rw[ts,mem_append,mem_singleton] at hy;rcases hy with hy | rfl
     ·by_cases e:y=x
      ·rw[e];exact c3
      ·exact hl.trans hmem g1 (sub y hy) c3 (g3 y hy hno e)
     ·exact absurd rfl hne
    ·dsimp only;rw[if_neg (by simpa using fun g=>c3 (sg.1 g))];refine⟨_,rfl,⟨k+1,hk2,rfl,.inr ⟨g1,g2,fun y hy hno hne=>?_⟩⟩,by dsimp only;omega⟩;dsimp only at hne ⊢;rw[ts,mem_append,mem_singleton] at hy;rcases hy with hy | rfl
     ·exact g3 y hy hno hne
     ·have:=hl.ne0 hv hmem g1 hne;rw[Af8];omega
 ·right;rw[if_neg oo];have:k=l.length:=oo;subst this;rw[take_length] at h3;rcases h3 with⟨_,g⟩ | g
  ·obtain⟨y,hy,hno⟩:=hex;exact absurd (g y hy) hno
  ·exact⟨_,rfl,g⟩
theorem ring_eq(hv:Ij v)(hn:v.length<=1024)(ha:inN v.length a){l:List Int}(hl:Circ v a b l)(hll:l.length<=1024):
  ∃ m,Qk v a b l=some (a::b::m)/\Ring v a b m/\(∀ x,x∈m↔x∈l):=by
 have hal:a ∉ l:=fun h=>by have:=(hl.mem a h).2;rw[Gy] at this;omega
 have hbl:b ∉ l:=fun h=>by have:=(hl.mem b h).2;rw[Cs] at this;omega
 unfold Qk;rw[jn_d];have:=Bk (B:=Py l v a) (fun s=>l.length+2-s.length)
  (fun s=>∃ m:List Int,s=a::b::m/\m.Nodup/\(∀ x∈m,x∈l)/\(m.Pairwise fun x y=>0<crs (plV v a) (plV v x) (plV v y))/\∀ x∈m,∀ y∈l,y ∉ m->0<crs (plV v a) (plV v x) (plV v y))
  (fun t=>∃ m:List Int,t=a::b::m/\m.Nodup/\(∀ x,x∈m↔x∈l)/\(m.Pairwise fun x y=>0<crs (plV v a) (plV v x) (plV v y))) (fun s hs=>by
  obtain⟨m,rfl,h1,h2,h3,h4⟩:=hs;have hle:=Bz h1 h2;unfold Py;rw[Av (x:=(l.length:Int)+2) oo oo]
  by_cases c:m.length<l.length
  ·left;rw[if_pos (by simp only[length_cons];omega),jn_d];have hex:∃ y∈l,y ∉ a::b::m:=by
    refine Classical.byContradiction fun hno=>?_
    have:∀ y∈l,y∈m:=fun y hy=>by
     refine Classical.byContradiction fun g=>hno ⟨y,hy,fun e=>?_⟩
     rcases mem_cons.1 e with rfl | e
     ·exact hal hy
     ·rcases mem_cons.1 e with rfl | e
      ·exact hbl hy
      ·exact g e
    have:=Bz hl.nd this;omega
   obtain⟨x,e1,e2,e3,e4⟩:=Bas hv hn ha hl hll (out:=a::b::m) (by simp only[length_cons];omega) hex;rw[e1,Ae];dsimp only;rw[gd_t (by simp only[length_cons];omega)];have hxm:x ∉ m:=fun g=>e3 (by simp[g])
   refine⟨_,rfl,⟨m++[x],rfl,?_,fun y hy=>?_,?_,fun y hy z hz hzn=>?_⟩,by simp only[cons_append,length_cons,length_append,length_nil];omega⟩
   ·rw[nodup_append];refine⟨h1,by simp,fun y hy z hz e=>?_⟩;rw[mem_singleton] at hz;subst hz;subst e;exact hxm hy
   ·rcases mem_append.1 hy with hy | hy
    ·exact h2 y hy
    ·rw[mem_singleton] at hy;subst hy;exact e2
   ·rw[pairwise_append];refine⟨h3,by simp,fun y hy z hz=>?_⟩;rw[mem_singleton] at hz;subst hz;exact h4 y hy z e2 hxm
   ·have hzm:z ∉ m:=fun g=>hzn (by simp[g])
    have hzx:z≠x:=fun g=>hzn (by simp[g])
    rcases mem_append.1 hy with hy | hy
    ·exact h4 y hy z hz hzm
    ·rw[mem_singleton] at hy;subst hy;refine e4 z hz (fun g=>?_) hzx;rcases mem_cons.1 g with rfl | g
     ·exact hal hz
     ·rcases mem_cons.1 g with rfl | g
      ·exact hbl hz
      ·exact hzm g
  ·right;rw[if_neg (by simp only[length_cons];omega)];refine⟨_,rfl,m,rfl,h1,fun x=>⟨h2 x,fun hx=>?_⟩,h3⟩;refine Classical.byContradiction fun g=>?_
   have:(x::m).Nodup:=nodup_cons.2 ⟨g,h1⟩;have:=Bz this (fun y hy=>by rcases mem_cons.1 hy with rfl | hy;exact hx;exact h2 y hy);rw[length_cons] at this;omega) [a,b] ⟨[],rfl,nodup_nil,fun x hx=>(by cases hx),List.Pairwise.nil,fun x hx=>(by cases hx)⟩
 obtain⟨t,ht,m,rfl,h1,h2,h3⟩:=this;rw[ht,Ae];exact⟨m,rfl,⟨hl.sub (fun x hx=>(h2 x).1 hx) h1,h3⟩,h2⟩
theorem Bdz(hv:Ij v){r:List Int}(hr:r.length<=5000)(hne:r≠[])(hin:∀ x∈r,inN v.length x):
  ∃ (m:Nat) (hm:m<r.length),lfix (Jw r v) (0,0)=some (m:Int)/\∀ y∈r,¬ befP (plV v y) (plV v r[m]):=by
 have:=Bk (B:=Jw r v) (fun s=>r.length-s.2.toNat)
  (fun s=>∃ (m k:Nat) (hm:m<r.length),k<=r.length/\s=((m:Int),(k:Int))/\∀ y∈r.take k,¬ befP (plV v y) (plV v r[m])) (fun t=>∃ (m:Nat) (hm:m<r.length),t=(m:Int)/\∀ y∈r,¬ befP (plV v y) (plV v r[m])) (fun s hs=>by
  obtain⟨m,k,hm,hk,rfl,h⟩:=hs;unfold Jw;dsimp only
  by_cases hk2:k<r.length
  ·left;have ts:r.take (k+1)=r.take k++[r[k]]:=take_succ_eq_append_getElem hk2;obtain⟨xk,fk,pk⟩:=Sb (v:=v) (hin _ (getElem_mem hk2));obtain⟨xm,fm,pm⟩:=Sb (v:=v) (hin _ (getElem_mem hm));rw[if_pos oo,jn_d,At hk2,Ae,fk,Ae,At hm,Ae,fm,Ae];unfold Au;rw[Ae,Ae,pk,pm,Ake,Ae,show w64 ((k:Int)+1)=((k+1:Nat):Int) from by rw[Av oo oo];omega]
   by_cases c:befP (plV v r[k]) (plV v r[m])
   ·rw[if_pos (by simpa using c)];refine⟨_,rfl,⟨k,k+1,hk2,hk2,rfl,fun y hy=>?_⟩,by dsimp only;omega⟩;rw[ts,mem_append,mem_singleton] at hy;rcases hy with hy | rfl
    ·exact fun g=>h y hy (Lt g c)
    ·exact Atf _
   ·rw[if_neg (by simpa using c)];refine⟨_,rfl,⟨m,k+1,hm,hk2,rfl,fun y hy=>?_⟩,by dsimp only;omega⟩;rw[ts,mem_append,mem_singleton] at hy;rcases hy with hy | rfl
    ·exact h y hy
    ·exact c
  ·right;rw[if_neg oo];have:k=r.length:=oo;subst this;rw[take_length] at h;exact⟨_,rfl,m,hm,rfl,h⟩) (0,0) ⟨0,0,length_pos_iff.2 hne,oo,rfl,fun y hy=>by simp at hy⟩
 obtain⟨t,ht,m,hm,rfl,h⟩:=this;exact⟨m,hm,ht,h⟩
theorem Axh{α:Type}{l:List α}(h:l.Nodup){i j:Nat}(hi:i<l.length)(hj:j<l.length)(hne:i≠j):l[i]≠l[j]:=by
 have:=pairwise_iff_getElem.1 h;rcases Nat.lt_trichotomy i j with g | g | g
 ·exact this i j hi hj g
 ·exact absurd g hne
 ·exact fun e=>this j i hj hi g e.symm
theorem Bat{r:List Int}(hr:r.length<=5000)(hn:r.Nodup){m:Nat}(hm:m<r.length):lfix (Iv r m) (([]:List Int),0)=some (r.filter fun y=>decide (y≠r[m])):=by
 have:=Bk (B:=Iv r m) (fun s=>r.length-s.2.toNat) (fun s=>∃ k:Nat,k<=r.length/\s=((r.take k).filter (fun y=>decide (y≠r[m])),(k:Int))) (fun t=>t=r.filter fun y=>decide (y≠r[m])) (fun s hs=>by
  obtain⟨k,hk,rfl⟩:=hs;unfold Iv;dsimp only
  by_cases hk2:k<r.length
  ·left;have ts:r.take (k+1)=r.take k++[r[k]]:=take_succ_eq_append_getElem hk2;have w1:w64 ((k:Int)+1)=((k+1:Nat):Int):=by rw[Av oo oo];omega
   rw[if_pos oo,jn_d,w1]
   by_cases c:k=m
   ·subst c;rw[if_pos rfl];refine⟨_,rfl,⟨k+1,hk2,?_⟩,by dsimp only;omega⟩;rw[ts,filter_append];simp
   ·have hne:r[k]≠r[m]:=Axh hn hk2 hm c;have hle:((r.take k).filter fun y=>decide (y≠r[m])).length<=r.length:=by
     have h1:=length_filter_le (fun y=>decide (y≠r[m])) (r.take k);rw[length_take] at h1;omega
    rw[if_neg oo,At hk2,Ae,gd_t oo];refine⟨_,rfl,⟨k+1,hk2,?_⟩,by dsimp only;omega⟩;rw[ts,filter_append];simp[hne]
  ·right;rw[if_neg oo];have:k=r.length:=oo;subst this;exact⟨_,rfl,by rw[take_length]⟩) (([]:List Int),0) ⟨0,oo,by simp⟩
 obtain⟨t,ht,rfl⟩:=this;exact ht
theorem tm(x n:Int)(hx:0<=x):Int.tmod x n=x % n:=Int.tmod_eq_emod_of_nonneg hx
theorem Aqj(hv:Ij v)(hn:v.length<=1024)(ha:inN v.length a)(hb:inN v.length b):∀ (n:Nat) (l:List Int),l.length=n->n<=1024->l≠[]->Ring v a b l ->
  ∃ c,Ans v a b l c/\(lfix (Fh b a v) (a::b::l)=some (.inr c)\/lfix (Fh b a v) (a::b::l)=some (.inl [a,b,c])):=by
 intro n
 induction n with
 | zero=>intro l hl _ hne _;exact absurd (eq_nil_of_length_eq_zero hl) hne
 | succ n ih=>
  intro l hl hn1 hne hr;have hal:a ∉ l:=fun h=>by have:=(hr.circ.mem a h).2;rw[Gy] at this;omega
  have hbl:b ∉ l:=fun h=>by have:=(hr.circ.mem b h).2;rw[Cs] at this;omega
  have hab:a≠b:=fun e=>by
   obtain⟨x,hx⟩:=exists_mem_of_ne_nil l hne;have:=(hr.circ.mem x hx).2;rw[e,Aag] at this;omega
  by_cases hn0:n=0
  ·subst hn0;obtain⟨c,rfl⟩:=length_eq_one_iff.1 hl;refine⟨c,⟨by simp,fun d hd hne=>absurd (by simpa using hd) hne⟩,.inr ?_⟩;rw[Bd];unfold Fh;rw[if_neg (by simp)]
  ·have hlen:(a::b::l).length=n+3:=by simp[hl]
   have hnd:(a::b::l).Nodup:=by
    rw[nodup_cons,nodup_cons];refine⟨fun h=>?_,hbl,hr.circ.nd⟩;rcases mem_cons.1 h with h | h
    ·exact hab h
    ·exact hal h
   have hin:∀ x∈a::b::l,inN v.length x:=fun x hx=>by
    rcases mem_cons.1 hx with rfl | hx
    ·exact ha
    ·rcases mem_cons.1 hx with rfl | hx
     ·exact hb
     ·exact (hr.circ.mem x hx).1
   obtain⟨m,hm,h1,h2⟩:=Bdz (r:=a::b::l) hv oo (by simp) hin;have far:∀ y∈a::b::l,y≠(a::b::l)[m]->befP (plV v (a::b::l)[m]) (plV v y):=fun y hy hne=>by
    rcases Pw (Aas hv (hin _ (getElem_mem hm)) (hin y hy) (fun e=>hne e.symm)) with g | g
    ·exact g
    ·exact absurd g (h2 y hy)
   have step:∀ x y z,idx (a::b::l) (Int.tmod (w64 ((w64 ((m:Int)+(((a::b::l).length:Nat):Int)))-1)) (((a::b::l).length:Nat):Int))=some x->idx (a::b::l) (Int.tmod (w64 ((m:Int)+1)) (((a::b::l).length:Nat):Int))=some y->(a::b::l)[m]=z ->
     Fh b a v (a::b::l)=if z=a/\y=b then some (.inr (.inr x)) else if z=b/\x=a then some (.inr (.inr y)) else some (.inl ((a::b::l).filter fun y=>decide (y≠z))):=fun x y z hx hy hz=>by
    unfold Fh;rw[if_pos oo,jn_d,h1,Ae];dsimp only;rw[gd_t oo,hx,Ae,gd_t oo,hy,Ae,jn_d,At hm,Ae,hz];have c:=Bat (r:=a::b::l) oo hnd hm;rw[hz] at c;rw[jn_d,Ae,jn_d,c,Ae];dsimp only;have hba:b≠a:=fun e=>hab e.symm
    by_cases e1:z=a
    ·have e3:z≠b:=fun e=>hab (by rw[<- e1,e])
     by_cases e2:y=b
     ·simp[e1,e2]
     ·simp[e1,e2,hab]
    ·by_cases e3:z=b
     ·by_cases e4:x=a
      ·simp[e3,e4,hba]
      ·simp[e3,e4,hba]
     ·simp[e1,e3]
   have m1:Int.tmod (w64 ((w64 ((m:Int)+(((a::b::l).length:Nat):Int)))-1)) (((a::b::l).length:Nat):Int)=((m:Int)+(n+2)) % (n+3):=by
    rw[hlen,Av (x:=(m:Int)+((n+3:Nat):Int)) oo oo,Av oo oo,tm _ _ oo];congr 1;omega
   have m2:Int.tmod (w64 ((m:Int)+1)) (((a::b::l).length:Nat):Int)=((m:Int)+1) % (n+3):=by
    rw[hlen,Av oo oo,tm _ _ oo];rfl
   rw[m1,m2] at step;rw[hlen] at hm
   by_cases cm0:m=0
   ·-- a is the first
    subst cm0;obtain⟨l',c,rfl⟩:∃ l' c,l=l' ++ [c]:=⟨l.dropLast,l.getLast hne,(dropLast_concat_getLast hne).symm⟩;have i1:idx (a::b::(l' ++ [c])) (((0:Nat):Int)+(n+2))=some c:=by
     have:(((0:Nat):Int)+(n+2))=((n+2:Nat):Int):=oo;rw[this,At (by rw[hlen];omega)];have hn':l'.length=n:=by simpa using hl
     congr 1;simp only[getElem_cons_succ];rw[getElem_append_right oo];simp[hn']
    have i2:idx (a::b::(l' ++ [c])) (((0:Nat):Int)+1)=some b:=At (l:=a::b::(l' ++ [c])) (j:=1) (by simp);rw[Int.emod_eq_of_lt oo oo,Int.emod_eq_of_lt oo oo] at step;have st:=step c b a i1 i2 rfl;rw[if_pos ⟨rfl,rfl⟩] at st;refine⟨c,hr.ans_a hv ha hb (far b (by simp) (fun e=>hab e.symm)) (fun x hx=>far x (by simp only[mem_cons];exact .inr (.inr hx)) (fun e=>?_)),.inl ?_⟩
    ·have e:x=a:=e;rw[e] at hx;exact hal hx
    ·rw[Bd,st]
   ·by_cases cm1:m=1
    ·subst cm1;obtain⟨c,l',rfl⟩:=exists_cons_of_ne_nil hne;have i1:idx (a::b::c::l') ((((1:Nat):Int)+(n+2)) % (n+3))=some a:=by
      have:(((1:Nat):Int)+(n+2)) % (n+3)=((0:Nat):Int):=by
       rw[show (((1:Nat):Int)+((n:Int)+2))=(n:Int)+3 by omega,Int.emod_self];rfl
      rw[this];exact At (l:=a::b::c::l') (j:=0) (by simp)
     have i2:idx (a::b::c::l') ((((1:Nat):Int)+1) % (n+3))=some c:=by
      rw[Int.emod_eq_of_lt oo oo];exact At (l:=a::b::c::l') (j:=2) (by simp)
     have st:=step a c b i1 i2 rfl;rw[if_neg (fun g=>hab g.1.symm),if_pos ⟨rfl,rfl⟩] at st;refine⟨c,hr.ans_b hv ha hb (far a (by simp) hab) (fun x hx=>far x (by simp only[mem_cons] at hx ⊢;exact .inr (.inr hx)) (fun e=>?_)),.inl ?_⟩
     ·have e:x=b:=e;rw[e] at hx;exact hbl hx
     ·rw[Bd,st]
    ·-- one of the others
     obtain⟨k,rfl⟩:∃ k,m=k+2:=⟨m-2,oo⟩;have hk:k<l.length:=oo;have hx:(a::b::l)[k+2]'(by rw[hlen];omega)=l[k]:=rfl;have hxl:l[k]∈l:=getElem_mem hk;have e1:∃ x,idx (a::b::l) ((((k+2:Nat):Int)+(n+2)) % (n+3))=some x:=by
      obtain⟨j,hj⟩:=Int.eq_ofNat_of_zero_le (Int.emod_nonneg (((k+2:Nat):Int)+(n+2)) (show ((n:Int)+3)≠0 by omega));have:=Int.emod_lt_of_pos (((k+2:Nat):Int)+(n+2)) (show (0:Int)<(n:Int)+3 by omega);rw[hj] at this ⊢;exact⟨_,At (by rw[hlen];omega)⟩
     have e2:∃ x,idx (a::b::l) ((((k+2:Nat):Int)+1) % (n+3))=some x:=by
      obtain⟨j,hj⟩:=Int.eq_ofNat_of_zero_le (Int.emod_nonneg (((k+2:Nat):Int)+1) (show ((n:Int)+3)≠0 by omega));have:=Int.emod_lt_of_pos (((k+2:Nat):Int)+1) (show (0:Int)<(n:Int)+3 by omega);rw[hj] at this ⊢;exact⟨_,At (by rw[hlen];omega)⟩
     obtain⟨x,e1⟩:=e1;obtain⟨y,e2⟩:=e2;have st:=step x y l[k] e1 e2 hx;have na:l[k]≠a:=fun e=>hal (e ▸ hxl)
     have nb:l[k]≠b:=fun e=>hbl (e ▸ hxl)
     rw[if_neg (fun g=>na g.1),if_neg (fun g=>nb g.1),filter_cons_of_pos (by simpa using fun e=>na e.symm),filter_cons_of_pos (by simpa using fun e=>nb e.symm)] at st;have hsub:∀ z,z∈(l.filter fun y=>decide (y≠l[k]))↔z∈l/\z≠l[k]:=fun z=>by rw[mem_filter];simp
     have hlen2:(l.filter fun y=>decide (y≠l[k])).length=n:=by
      have h3:=hr.circ.nd.erase_eq_filter l[k];have h4:(l.filter fun y=>decide (y≠l[k]))=l.filter (fun y=>y != l[k]):=filter_congr fun y _=>by by_cases g:y=l[k] <;> simp[g]
      rw[h4,<- h3,length_erase_of_mem hxl,hl];rfl
     obtain⟨c,g1,g2⟩:=ih _ hlen2 oo (fun e=>by rw[e] at hlen2;simp at hlen2;omega) ⟨hr.circ.sub (fun z hz=>((hsub z).1 hz).1) (hr.circ.nd.filter _),hr.ord.filter _⟩;rw[hx] at far;refine⟨c,hr.ans_cut hv ha hb hxl (far a (by simp) (fun e=>na e.symm)) (far b (by simp) (fun e=>nb e.symm)) (fun z hz hzn=>far z (by simp[hz]) hzn) hsub g1,?_⟩;rw[Bd,st];exact g2
theorem Axi(hv:Ij v)(hn:v.length<=1024)(ha:inN v.length a)(hb:inN v.length b){l:List Int}(hll:l.length<=1024)(hne:l≠[])(hr:Ring v a b l):∃ c,Kt v a b (a::b::l)=some c/\Ans v a b l c:=by
 obtain⟨c,h1,h2⟩:=Aqj hv hn ha hb l.length l rfl hll hne hr;refine⟨c,?_,h1⟩;unfold Kt;rw[jn_d];rcases h2 with h2 | h2
 ·rw[h2,Ae]
 ·rw[h2,Ae];dsimp only;have hc:=hr.circ.mem c h1.1;have nca:c≠a:=fun e=>by have:=hc.2;rw[e,Gy] at this;omega
  have ncb:c≠b:=fun e=>by have:=hc.2;rw[e,Cs] at this;omega
  have nab:b≠a:=fun e=>by have:=hc.2;rw[e,Aag] at this;omega
  have s0:Dg [a,b,c] a b 0=some (.inl 1):=by
   unfold Dg;rw[if_pos (by simp),show idx [a,b,c] 0=some a from rfl,Ae,jn_d,if_pos rfl];dsimp only;rw[if_neg (by simp),Av oo oo];rfl
  have s1:Dg [a,b,c] a b 1=some (.inl 2):=by
   unfold Dg;rw[if_pos (by simp),show idx [a,b,c] 1=some b from rfl,Ae,jn_d,if_neg nab];dsimp only;rw[if_neg (by simp),Av oo oo];rfl
  have s2:Dg [a,b,c] a b 2=some (.inr (.inr c)):=by
   unfold Dg;rw[if_pos (by simp),show idx [a,b,c] 2=some c from rfl,Ae,jn_d,if_neg nca];dsimp only;rw[if_pos (by simpa using ncb)]
  rw[jn_d,Bd,s0];dsimp only;rw[Bd,s1];dsimp only;rw[Bd,s2,Ae]
theorem Amt(hv:Ij v)(hn:v.length<=1024)(ha:inN v.length a)(hb:inN v.length b):∃ c,Ql v [] a b=some c/\((c = -1/\∀ d,inN v.length d->crs (plV v a) (plV v b) (plV v d)<=0)\/Top v a b c):=by
 obtain⟨s,h1,h2⟩:=At4 hv hn ha hb;unfold Ql;rw[jn_d,h1,Ae];dsimp only
 by_cases hs:s=[]
 ·rw[if_pos (by simp[hs])];exact⟨-1,rfl,.inl ⟨rfl,fun d hd=>h2.none hs d hd hd.2⟩⟩
 ·have hpos:=length_pos_iff.2 hs;have hle:s.length<=1024:=by
   have:=Bz (m:=inds v.length) h2.nd (fun x hx=>We.2 (h2.mem x hx).1);rw[Aam] at this;omega
  rw[if_neg oo];obtain⟨m,g1,g2,g3⟩:=ring_eq hv hn ha h2.circ hle;have hm:m≠[]:=fun e=>by
   obtain⟨x,hx⟩:=exists_mem_of_ne_nil s hs;have:=(g3 x).2 hx;rw[e] at this;cases this
  have hml:m.length<=1024:=by
   have:=Bz g2.circ.nd (fun x hx=>(g3 x).1 hx);omega
  obtain⟨c,e1,e2⟩:=Axi hv hn ha hb hml hm g2;rw[g1,Ae,e1,Ae];exact⟨c,rfl,.inr (h2.ans hv ha hb g3 e2)⟩
end Go.Proofs.YthlkpgdfifnagaaGreat
namespace Go.Proofs.YthlkpgdfifnagaaGreat
open Go Go.RowKit List
theorem Ai9(v:List Ad):Qo v []=some 0:=by
 unfold Qo;rw[jn_d,Bd];unfold Tw;try dsimp only
 rw[if_neg (by simp)];try dsimp only
 rw[Ae];try dsimp only
 rw[jn_d,Bd];unfold Sq;try dsimp only
 rw[if_neg (by simp)];rfl
theorem Aqk:Vy []=some []:=by
 unfold Vy;rw[jn_d,Bd];unfold Ya;try dsimp only
 rw[if_neg (by simp)];try dsimp only
 rw[Ae];try dsimp only
 rw[gd_t (by simp)];rw[show Bi cmp2 []=[] from by simp[Bi]]
theorem Akq:lfix (Ur []) ()=some ():=by
 rw[Bd];unfold Ur;rw[if_neg (by simp)]
theorem Aja{v:List Ad}(h:Akd v):Wy v [] :=
 ⟨List.Pairwise.nil,nodup_nil,fun t=>⟨fun h=>(by cases h),fun g=>(by have:=h _ _ _ g.2.2.1 g.2.2.2.1 g.2.2.2.2.1;have:=g.2.2.2.2.2.1;omega)⟩⟩
theorem Aom{v:List Ad}(h:Vp v=0):∃ T,Rr v []=some (⟨v,T,[]⟩,0)/\Wy v T:=by
 obtain⟨hn,_,hv⟩:=Ahq h;obtain⟨l,hl,hr⟩:=Apf hv hn;obtain⟨m,h1,h2⟩:=Ay6 hv hn hr [];unfold Rr;rw[Ahr,h,Ae,if_pos rfl,Ai9,Ae,if_pos rfl,Aqk,Ae,hl,Ae,h1,Ae,jn_d];dsimp only;have hcl:Ou v=some v:=by
  unfold Ou;rw[gd_t oo]
 rcases h2 with⟨h3,rfl⟩|⟨h3,h4,h5,h6,h7⟩
 ·rw[if_neg (by simp)];have ht:=Af5 (n:=v.length) hn (b:=⟨v,[],[]⟩) ⟨List.Pairwise.nil,by simp⟩;rw[hcl,Ae,ht,Ae];exact⟨_,rfl,by simpa[Bi] using Aja h3⟩
 ·have hpos:0<m.length:=length_pos_iff.2 h7;rw[if_pos oo,jn_d,Akq,Ae];obtain⟨m',g1,g2,g3⟩:=Au2 (b:=⟨v,m,[]⟩) hv hn h4 h5;rw[g1,Ae];dsimp only at g1 g2 g3 ⊢;have ht:=Af5 (n:=v.length) hn (b:=⟨v,m',[]⟩) g2.map;rw[hcl,Ae,ht,Ae];refine⟨_,rfl,Bbj g2.map (Api hv g2.map g2.tri (g3.cov _ h6) (fun i j k l hk hl=>?_) ?_)⟩
  ·rcases g2.pend i j k l hk hl with q | q | q
   ·cases q
   ·unfold Fx mget at q;simp at q
   ·exact q
  ·exact g3.ne h7
theorem Alk{v:List Ad}(lines:List Ac)(h:Vp v≠0):Rr v lines=some (⟨[],[],[]⟩,Vp v):=by
 unfold Rr;rw[Ahr,Ae,if_neg h]
section
variable {α:Type} {lt:α->α->Bool}
theorem Axj(htr:∀ x y z,lt y x=false->lt z y=false->lt z x=false)(has:∀ x y,lt x y=true->lt y x=false){B:List α × Int->Option (Sum (List α × Int) (List α))}(hB:∀ (A:List α) (y x:α) (R:List α),A.length<=100000000->B (A++y::x::R,((A.length+1:Nat):Int))=if lt x y=true then some (.inl (A++x::y::R,(A.length:Int))) else some (.inr (A++y::x::R)))(hB0:∀ (x:α) (R:List α),B (x::R,0)=some (.inr (x::R))):
  ∀ (n:Nat) (A C D:List α) (x:α),A.length=n->n<=100000000->((A++C).Pairwise fun x y=>lt y x=false)->(∀ c∈C,lt x c=true)->∃ A' C',A' ++ C'=A++C/\lfix B (A++x::(C++D),(A.length:Int))=some (A' ++ x::(C' ++ D))/\(A' ++ x::C').Pairwise fun x y=>lt y x=false:=by
 intro n
 induction n with
 | zero=>
  intro A C D x hA _ hs hc;have:A=[]:=eq_nil_of_length_eq_zero hA;subst this;refine⟨[],C,rfl,?_,?_⟩
  ·rw[nil_append,Bd,show ((([]:List α).length:Nat):Int)=0 from rfl,hB0]
  ·exact pairwise_cons.2 ⟨fun c hc'=>has _ _ (hc c hc'),hs⟩
 | succ n ih=>
  intro A C D x hA hn hs hc;obtain⟨A',y,rfl⟩:∃ A' y,A=A' ++ [y]:=⟨A.dropLast,A.getLast (fun e=>by rw[e] at hA;simp at hA),(dropLast_concat_getLast _).symm⟩;have hA':A'.length=n:=by simpa using hA
  have e1:(A' ++ [y])++x::(C++D)=A' ++ y::x::(C++D):=by simp
  have e2:(((A' ++ [y]).length:Nat):Int)=((A'.length+1:Nat):Int):=by simp
  rw[e1,e2,Bd,hB _ _ _ _ oo]
  by_cases c:lt x y=true
  ·rw[if_pos c];dsimp only;obtain⟨A2,C2,g1,g2,g3⟩:=ih A' (y::C) D x hA' oo (by simpa using hs) (fun z hz=>by rcases mem_cons.1 hz with rfl | hz;exact c;exact hc z hz);exact⟨A2,C2,by rw[g1];simp,g2,g3⟩
  ·rw[if_neg c];have c':lt x y=false:=by simpa using c
   refine⟨A' ++ [y],C,rfl,by simp,?_⟩;rw[pairwise_append] at hs ⊢;obtain⟨h1,h2,h3⟩:=hs;refine⟨h1,pairwise_cons.2 ⟨fun z hz=>has _ _ (hc z hz),h2⟩,fun z hz w hw=>?_⟩;rcases mem_cons.1 hw with rfl | hw
   ·rw[pairwise_append] at h1;rcases mem_append.1 hz with hz | hz
    ·exact htr _ _ _ (h1.2.2 z hz y (by simp)) c'
    ·rw[mem_singleton] at hz;subst hz;exact c'
   ·exact h3 z hz w hw
theorem Axk(htr:∀ x y z,lt y x=false->lt z y=false->lt z x=false)(has:∀ x y,lt x y=true->lt y x=false){B:List α × Int->Option (Sum (List α × Int) (List α))}{B2:List α × Int->Option (Sum (List α × Int) (List α))}{p:List α}(hB:∀ (A:List α) (y x:α) (R:List α),A.length<=100000000->B (A++y::x::R,((A.length+1:Nat):Int))=if lt x y=true then some (.inl (A++x::y::R,(A.length:Int))) else some (.inr (A++y::x::R)))(hB0:∀ (x:α) (R:List α),B (x::R,0)=some (.inr (x::R)))(hp:p.length<=100000000)(h2:∀ (l:List α) (k:Nat),k<p.length->B2 (l,(k:Int))=bnd (lfix B (l,(k:Int))) fun t=>some (.inl (t,((k+1:Nat):Int))))(h3:∀ l:List α,B2 (l,(p.length:Int))=some (.inr l)):
  ∃ r,lfix B2 (p,0)=some r/\r.Perm p/\r.Pairwise fun x y=>lt y x=false:=by
 refine Bk (B:=B2) (fun s=>p.length-s.2.toNat) (fun s=>∃ S D:List α,s=(S++D,(S.length:Int))/\(S++D).Perm p/\S.Pairwise fun x y=>lt y x=false) _ (fun s hs=>?_) _ ⟨[],p,rfl,List.Perm.refl _,List.Pairwise.nil⟩;obtain⟨S,D,rfl,h4,h5⟩:=hs;have hlen:=h4.length_eq;rw[length_append] at hlen;rcases D with _ | ⟨x,D⟩
 ·right;have:S.length=p.length:=by simpa using hlen
  rw[this,h3];exact⟨_,rfl,h4,by simpa using h5⟩
 ·left;rw[length_cons] at hlen;rw[h2 _ _ oo];obtain⟨A',C',g1,g2,g3⟩:=Axj htr has hB hB0 S.length S [] D x rfl oo (by simpa using h5) (fun c hc=>(by cases hc));rw[append_nil] at g1;rw[nil_append] at g2;rw[g2,Ae];have hl:A'.length+C'.length=S.length:=by rw[<- length_append,g1]
  have e:(A' ++ x::(C' ++ D))=(A' ++ x::C')++D:=by simp
  refine⟨_,rfl,⟨A' ++ x::C',D,by rw[e,length_append,length_cons,<- hl];congr 2,?_,g3⟩,by dsimp only;omega⟩;rw[<- e];refine List.Perm.trans ?_ h4;rw[<- g1];have:(A' ++ x::(C' ++ D)).Perm (x::(A' ++ (C' ++ D))):=perm_middle;refine this.trans ?_;have:((A' ++ C')++x::D).Perm (x::((A' ++ C')++D)):=perm_middle;rw[<- append_assoc];exact this.symm
end
theorem Axl{α:Type}(A:List α)(y x:α)(R:List α):idx (A++y::x::R) (A.length:Int)=some y/\idx (A++y::x::R) ((A.length+1:Nat):Int)=some x:=by
 constructor
 ·rw[At (by simp)];simp
 ·rw[At (by simp)];simp
theorem Bau(x y:Aj):Qm x y=some (decide (cmp3 x y<0)):=by
 obtain⟨x0,x1,x2⟩:=x;obtain⟨y0,y1,y2⟩:=y;have step:∀ (a b c a' b' c':Int) (i:Int) (h:Int),w64 (i+1)=h->∀ p q,i<3->idx [a,b,c] i=some p->idx [a',b',c'] i=some q->Ig ⟨a,b,c⟩ ⟨a',b',c'⟩ i=if p=q then some (.inl h) else some (.inr (.inr (decide (p<q)))):=by
  intro a b c a' b' c' i h hh p q hi hp hq;unfold Ig;dsimp only;rw[if_pos hi,hp,Ae,hq,Ae,Ae,Ae,hh]
 have w1:w64 (0+1)=1:=Av oo oo;have w2:w64 (1+1)=2:=Av oo oo;have w3:w64 (2+1)=3:=Av oo oo;have s0:=step x0 x1 x2 y0 y1 y2 0 1 w1 x0 y0 oo rfl rfl;have s1:=step x0 x1 x2 y0 y1 y2 1 2 w2 x1 y1 oo rfl rfl;have s2:=step x0 x1 x2 y0 y1 y2 2 3 w3 x2 y2 oo rfl rfl;have s3:Ig ⟨x0,x1,x2⟩ ⟨y0,y1,y2⟩ 3=some (.inr (.inl ())):=by unfold Ig;rw[if_neg oo]
 unfold Qm;rw[jn_d,Bd,s0];have key:∀ P:Prop,∀ Q:Prop,[Decidable P]->[Decidable Q]->(P↔Q)->some (decide P)=some (decide Q):=fun P Q _ _ h=>by rw[decide_eq_decide.2 h]
 have hc:=Adl ⟨x0,x1,x2⟩ ⟨y0,y1,y2⟩;dsimp only at hc
 by_cases h0:x0=y0
 ·rw[if_pos h0];dsimp only;rw[Bd,s1]
  by_cases h1:x1=y1
  ·rw[if_pos h1];dsimp only;rw[Bd,s2]
   by_cases h2:x2=y2
   ·rw[if_pos h2];dsimp only;rw[Bd,s3,Ae];dsimp only;rw[decide_eq_false (fun g=>by have:=hc.1 g;omega)]
   ·rw[if_neg h2,Ae];dsimp only;exact key _ _ (by rw[hc];omega)
  ·rw[if_neg h1,Ae];dsimp only;exact key _ _ (by rw[hc];omega)
 ·rw[if_neg h0,Ae];dsimp only;exact key _ _ (by rw[hc];omega)
theorem Aql(p:List Aj)(hp:p.length<=100000000):∃ r,Nq p=some r/\r.Perm p/\r.Pairwise fun x y=>¬ cmp3 y x<0:=by
 have:=Axk (lt:=fun x y:Aj=>decide (cmp3 x y<0)) (B:=Iw) (B2:=Ix p) (p:=p)
  (fun x y z h1 h2=>by
   simp only[decide_eq_false_iff_not,Adl] at *;omega)
  (fun x y h=>by
   simp only[decide_eq_false_iff_not,decide_eq_true_eq,Adl] at *;omega)
  (fun A y x R hA=>by
   obtain⟨i0,i1⟩:=Axl A y x R;have w1:w64 (((A.length+1:Nat):Int)-1)=(A.length:Int):=by rw[Av oo oo];omega
   unfold Iw;dsimp only;rw[jn_d,if_pos oo,w1,i1,Ae,i0,Ae,Bau,Ae]
   by_cases c:decide (cmp3 x y<0)=true
   ·have e1:(A++y::x::R).set (A.length+1) y=A++y::y::R:=by simp[set_append]
    have e2:(A++y::y::R).set A.length x=A++x::y::R:=by simp[set_append]
    have j0:∃ z,idx (A++y::y::R) (A.length:Int)=some z:=⟨_,(Axl A y y R).1⟩;obtain⟨z,j0⟩:=j0;dsimp only;rw[if_pos c,if_pos c,Ae,Ae,Ae,Yf,e1,j0,Ae,Yf,e2]
   ·dsimp only;rw[if_neg c,if_neg c])
  (fun x R=>by
   unfold Iw;dsimp only;rw[jn_d,if_neg oo];dsimp only;rw[if_neg (by simp)])
  hp
  (fun l k hk=>by
   unfold Ix;dsimp only;rw[if_pos oo,jn_d,show w64 ((k:Int)+1)=((k+1:Nat):Int) from by rw[Av oo oo];omega])
  (fun l=>by
   unfold Ix;dsimp only;rw[if_neg oo])
 obtain⟨r,h1,h2,h3⟩:=this;refine⟨r,?_,h2,h3.imp fun h=>by simpa using h⟩;unfold Nq;rw[jn_d,h1,Ae]
variable {v:List Ad}
theorem At5{a b c:Int}(h:Del v a b c):∃ t,Nr ⟨a,b,c⟩=some t/\Alj v t/\Tn t a b/\(∀ p q,Tn t p q↔Tn ⟨a,b,c⟩ p q):=by
 have hn:=Aa4 (P:=plV v) (a:=a) (b:=b) (c:=c) (by have:=h.2.2.2.1;omega);have stop:∀ x y z:Int,¬ y<x->¬ z<x->Gd (x,y,z)=some (.inr (x,y,z)):=fun x y z h1 h2=>by
  unfold Gd;dsimp only;rw[jn_d,if_neg h1,decide_eq_false h2];dsimp only;rw[if_neg (by simp)]
 have more:∀ x y z:Int,y<x\/z<x->Gd (x,y,z)=some (.inl (y,z,x)):=fun x y z h1=>by
  unfold Gd;dsimp only;rw[jn_d]
  by_cases c:y<x
  ·rw[if_pos c];dsimp only;rw[if_pos rfl]
  ·rw[if_neg c,decide_eq_true (h1.resolve_left c)];dsimp only;rw[if_pos rfl]
 unfold Nr;rw[jn_d];dsimp only
 by_cases h1:b<a\/c<a
 ·rw[Bd,more _ _ _ h1];dsimp only
  by_cases h2:c<b\/a<b
  ·rw[Bd,more _ _ _ h2];dsimp only;rw[Bd,stop _ _ _ oo oo,Ae];refine⟨_,rfl,⟨by dsimp only;omega,by dsimp only;omega,h.rot.rot⟩,.inr (.inl ⟨rfl,rfl⟩),fun p q=>?_⟩;unfold Tn;dsimp only;omega
  ·rw[Bd,stop _ _ _ oo oo,Ae];refine⟨_,rfl,⟨by dsimp only;omega,by dsimp only;omega,h.rot⟩,.inr (.inr ⟨rfl,rfl⟩),fun p q=>?_⟩;unfold Tn;dsimp only;omega
 ·rw[Bd,stop _ _ _ oo oo,Ae];exact⟨_,rfl,⟨by dsimp only;omega,by dsimp only;omega,h⟩,.inl ⟨rfl,rfl⟩,fun p q=>Iff.rfl⟩
theorem Bd0{n:Nat}(hn:n<=1024){t:Aj}(h0:inN n t.a0)(h1:inN n t.a1)(h2:inN n t.a2){s:List Ac × (List (Ac × Bool)) × List Aj}{op:List Ac}{dn:List (Ac × Bool)}(hop:op.length<=10000000)(hdn:dn.length<=10000000)(hpl:∀ (m:List (Ac × Bool)) (x:Ac),(mput m x true).length<=m.length+1):
  lfix (Cw t s) (op,dn,0)=some (op++[⟨t.a1,t.a0⟩,⟨t.a2,t.a1⟩,⟨t.a0,t.a2⟩],mput (mput (mput dn ⟨t.a0,t.a1⟩ true) ⟨t.a1,t.a2⟩ true) ⟨t.a2,t.a0⟩ true,s.2.2++[t]):=by
 unfold inN at h0 h1 h2;have step:∀ (op:List Ac) (dn:List (Ac × Bool)) (i j:Int) (p q:Int),op.length<=20000000->dn.length<=20000000->0<=i->i<3->Int.tmod (w64 (i+1)) 3=j->idx [t.a0,t.a1,t.a2] i=some p->idx [t.a0,t.a1,t.a2] j=some q->(0<=p/\p<1024)->(0<=q/\q<1024) ->
   Cw t s (op,dn,i)=some (.inl (op++[⟨q,p⟩],mput dn ⟨p,q⟩ true,i+1)):=fun op dn i j p q ho hd hi hi3 hj hp hq hpr hqr=>by
  unfold Cw;dsimp only;rw[if_pos hi3,hp,Ae,hj,hq,Ae,gd_t ⟨⟨oo,oo⟩,oo,oo⟩,gd_t oo,gd_t oo,Av oo oo]
 have last:∀ (op:List Ac) (dn:List (Ac × Bool)),Cw t s (op,dn,3)=some (.inr (op,dn,s.2.2++[t])):=fun op dn=>by
  unfold Cw;dsimp only;rw[if_neg oo]
 have l1:=hpl dn ⟨t.a0,t.a1⟩;have l2:=hpl (mput dn ⟨t.a0,t.a1⟩ true) ⟨t.a1,t.a2⟩;have m0:Int.tmod (w64 (0+1)) 3=1:=by rw[Av oo oo];rfl
 have m1:Int.tmod (w64 (1+1)) 3=2:=by rw[Av oo oo];rfl
 have m2:Int.tmod (w64 (2+1)) 3=0:=by rw[Av oo oo];rfl
 rw[Bd,step op dn 0 1 t.a0 t.a1 oo oo oo oo m0 rfl rfl oo oo];dsimp only;rw[Bd,show (0:Int)+1=1 from rfl,step _ _ 1 2 t.a1 t.a2 (by simp;omega) oo oo oo m1 rfl rfl oo oo];dsimp only;rw[Bd,show (1:Int)+1=2 from rfl,step _ _ 2 0 t.a2 t.a0 (by simp;omega) oo oo oo m2 rfl rfl oo oo];dsimp only;rw[Bd,show (2:Int)+1=3 from rfl,last];simp
def dnM(m:List (Ac × Bool))(p q:Int):Prop:=(mget m ⟨p,q⟩).getD false=true
theorem Aie{m:List (Ac × Bool)}(hm:Do m)(x y p q:Int):dnM (mput m ⟨x,y⟩ true) p q↔dnM m p q\/(p=x/\q=y):=by
 unfold dnM;rw[Nc hm]
 by_cases h:(⟨p,q⟩:Ac)=⟨x,y⟩
 ·rw[if_pos h];simp only[Ac.mk.injEq] at h;simp[h]
 ·rw[if_neg h];simp only[Ac.mk.injEq] at h;exact⟨.inl,fun g=>g.elim id fun g=>absurd g h⟩
theorem Ab8(m:List (Ac × Bool))(x:Ac):(mput m x true).length<=m.length+1:=by
 unfold mput;have:(mdel m x).length<=m.length:=length_filter_le _ _;simp only[length_cons,length_append,length_nil];omega
theorem Ajb(hv:Ij v)(hn:v.length<=1024){p0 q0:Int}(h0:okS v p0 q0)(hs:∃ e,Del v p0 q0 e):
  ∃ out,lfix (Ge v []) ([⟨p0,q0⟩],([]:List (Ac × Bool)),([]:List Aj))=some out/\out.Nodup/\out.length<=1048576/\∀ t,t∈out↔t.a0<t.a1/\t.a0<t.a2/\Del v t.a0 t.a1 t.a2:=by
 have hsq:=Aho hn;refine Bk (B:=Ge v []) (fun s=>4*(v.length*v.length-s.2.2.length)+s.1.length)
  (fun s=>Tr v p0 q0 s.1 (dnM s.2.1) s.2.2/\Do s.2.1/\s.2.1.length+s.1.length<=1+6*s.2.2.length) _ (fun s hst=>?_) _ ⟨Tr.init h0 (fun p q h=>by simp[dnM,Ao4] at h),List.Pairwise.nil,by simp⟩
 obtain⟨op,dn,out⟩:=s;obtain⟨h1,h2,h3⟩:=hst;dsimp only at h1 h2 h3;have hb:=h1.bound;have hl:=h1.len;unfold Ge;dsimp only
 by_cases hop:op=[]
 ·right;subst hop;rw[if_neg (by simp)];exact⟨_,rfl,h1.nd,oo,h1.full hs⟩
 ·left;obtain⟨r,s,rfl⟩:∃ r s,op=r++[s]:=⟨op.dropLast,op.getLast hop,(dropLast_concat_getLast hop).symm⟩;obtain⟨s1,s2,s3⟩:=h1.opn s (by simp);have hln:(r++[s]).length=r.length+1:=by simp
  have w1:w64 ((((r++[s]).length:Nat):Int)-1)=(r.length:Int):=by rw[hln,Av oo oo];omega
  have i1:idx (r++[s]) (r.length:Int)=some s:=by rw[At (by simp)];simp
  have tk:List.take (Int.toNat (r.length:Int)) (r++[s])=r:=by simp
  have hr1:=Ut hn s1 s2;rw[if_pos oo,w1,i1,Ae,gd_t ⟨oo,oo⟩,gd_t hr1,Ae,tk]
  by_cases c1:(mget dn s).getD false=true
  ·rw[if_pos c1];exact⟨_,rfl,⟨h1.skip c1,h2,by dsimp only;omega⟩,by dsimp only;omega⟩
  ·rw[if_neg c1];obtain⟨c,e1,e2⟩:=Amt hv hn s1 s2;rw[e1,Ae];have hput:=Ab8 dn s
   by_cases c2:c<0
   ·have hno:noT v s.a0 s.a1:=by
     rcases e2 with⟨_,g⟩ | g
     ·exact g
     ·have:=g.1.1;omega
    rw[if_pos c2,gd_t hr1,gd_t oo];exact⟨_,rfl,⟨h1.none (fun p q=>Aie h2 s.a0 s.a1 p q) hno,h2.put _ _,by dsimp only;omega⟩,by dsimp only;omega⟩
   ·have ht:Top v s.a0 s.a1 c:=by
     rcases e2 with⟨g,_⟩ | g
     ·omega
     ·exact g
    have hd:Del v s.a0 s.a1 c:=by
     rcases s3 with g | ⟨e,he⟩
     ·have:=g c ht.1;have:=ht.2.1;omega
     ·rw[<- he.top.unique ht];exact he
    obtain⟨t,t1,t2,t3,t4⟩:=At5 hd;have tin:inN v.length t.a0/\inN v.length t.a1/\inN v.length t.a2:=⟨t2.2.2.1,t2.2.2.2.1,t2.2.2.2.2.1⟩;have hnew:=h1.more (dn':=dnM (mput (mput (mput dn ⟨t.a0,t.a1⟩ true) ⟨t.a1,t.a2⟩ true) ⟨t.a2,t.a0⟩ true)) c1 t2 t3 (fun p q=>by
      rw[Aie ((h2.put _ _).put _ _),Aie (h2.put _ _),Aie h2];unfold Tn;constructor
      ·rintro (((g | g) | g) | g)
       ·exact .inl g
       ·exact .inr (.inl g)
       ·exact .inr (.inr (.inl g))
       ·exact .inr (.inr (.inr g))
      ·rintro (g | g | g | g)
       ·exact .inl (.inl (.inl g))
       ·exact .inl (.inl (.inr g))
       ·exact .inl (.inr g)
       ·exact .inr g) (fun p q hpq=>by
      obtain⟨e,he⟩:=t2.side hpq;refine⟨he.2.1,he.1,?_⟩;obtain⟨x,_,hx⟩:=Amt hv hn he.2.1 he.1;rcases hx with⟨_,hx⟩ | hx
      ·exact .inl hx
      ·exact .inr ⟨x,Top.across he hx⟩)
    have hb2:=hnew.bound;rw[length_append,length_singleton] at hb2;have q1:=Ab8 dn ⟨t.a0,t.a1⟩;have q2:=Ab8 (mput dn ⟨t.a0,t.a1⟩ true) ⟨t.a1,t.a2⟩;have q3:=Ab8 (mput (mput dn ⟨t.a0,t.a1⟩ true) ⟨t.a1,t.a2⟩ true) ⟨t.a2,t.a0⟩;rw[if_neg c2,t1,Ae,gd_t oo,Bd0 hn tin.1 tin.2.1 tin.2.2 oo oo Ab8,Ae];refine⟨_,rfl,⟨hnew,((h2.put _ _).put _ _).put _ _,?_⟩,?_⟩
    ·dsimp only;simp only[length_append,length_cons,length_nil];rw[hln] at h3;omega
    ·dsimp only;simp only[length_append,length_cons,length_nil];omega
theorem Axm(hv:Ij v)(hn:v.length<=1024){f b:Int}(hf:inN v.length f)(low:∀ k,inN v.length k->k=f\/befP (plV v f) (plV v k))(hb:inN v.length b)(hbf:b≠f)(hh:∀ k,inN v.length k->k≠f->behind v f b k)(hfl:¬ Akd v):∃ e,Del v f b e:=by
 obtain⟨c,_,hc⟩:=Amt hv hn hf hb;have left:∀ d,inN v.length d->0<=crs (plV v f) (plV v b) (plV v d):=fun d hd=>by
  by_cases e:d=f
  ·rw[e,Gy];exact Int.le_refl _
  ·rcases hh d hd e with g | g <;> omega
 rcases hc with⟨_,hc⟩ | hc
 ·exfalso;have on:∀ d,inN v.length d->crs (plV v f) (plV v b) (plV v d)=0:=fun d hd=>by have:=left d hd;have:=hc d hd;omega
  exact hfl fun i j k hi hj hk=>Af4 (Aas hv hf hb (fun e=>hbf e.symm)) (on i hi) (on j hj) (on k hk)
 ·refine⟨c,hc.hull hv hf hb left fun d hd n1 n2 h0 x hx=>?_⟩;have h1:befP (plV v f) (plV v b):=(low b hb).resolve_left hbf;have h2:befP (plV v b) (plV v d):=by
   rcases hh d hd n1 with g | g
   ·omega
   ·exact (Pw (Aas hv hb hd (fun e=>n2 e.symm))).resolve_right g.2
  exact Aqi (hv.ok _ hf) (hv.ok _ hb) (hv.ok _ hd) h1 h2 h0 hx
theorem Axn(hv:Ij v)(hn:v.length<=1024)(h0:0<v.length):∃ f,inN v.length f/\∀ k,inN v.length k->k=f\/befP (plV v f) (plV v k):=by
 obtain⟨l,hl,hr⟩:=Apf hv hn;have hlen:=hr.len;have g0:0<l.length:=oo;refine⟨l[0],hr.val.1 (getElem_mem g0),fun k hk=>?_⟩;obtain⟨j,hj,rfl⟩:=getElem_of_mem (hr.val.2 hk)
 by_cases e:j=0
 ·subst e;exact .inl rfl
 ·exact .inr (hr.lt g0 hj oo)
theorem Aon(hv:Ij v)(h3:3<=v.length):(∀ k,2<=k->inN v.length k->crs (plV v 0) (plV v 1) (plV v k)=0)↔Akd v:=by
 have i0:inN v.length 0:=⟨oo,oo⟩;have i1:inN v.length 1:=⟨oo,oo⟩;constructor
 ·intro h i j k hi hj hk;have on:∀ d,inN v.length d->crs (plV v 0) (plV v 1) (plV v d)=0:=fun d hd=>by
   by_cases e0:d=0
   ·subst e0;exact Gy _ _
   ·by_cases e1:d=1
    ·subst e1;exact Cs _ _
    ·exact h d (by have:=hd.1;omega) hd
  exact Af4 (Aas hv i0 i1 oo) (on i hi) (on j hj) (on k hk)
 ·intro h k _ hk;exact h 0 1 k i0 i1 hk
theorem Akr(hv:Ij v)(hn:v.length<=1024):∃ T,Iy v []=some T/\Wy v T:=by
 unfold Iy;rw[jn_d];have flatT:Akd v->∃ T,(some ([]:List Aj))=some T/\Wy v T:=fun h=>⟨[],rfl,Aja h⟩
 by_cases c:v.length<3
 ·rw[if_pos oo];dsimp only;rw[if_pos rfl];refine flatT fun i j k hi hj hk=>?_
  unfold inN at hi hj hk;have:i=j\/j=k\/i=k:=oo;rcases this with rfl | rfl | rfl
  ·exact Aag _ _
  ·exact Cs _ _
  ·exact Gy _ _
 ·rw[if_neg oo];obtain⟨x,f1,f2⟩:=Bbm hv hn;rw[f1,Ae];dsimp only
  by_cases hx:x=true
  ·rw[if_pos hx];exact flatT ((Aon hv oo).1 (f2.1 hx))
  ·rw[if_neg hx];have hfl:¬ Akd v:=fun g=>hx (f2.2 ((Aon hv oo).2 g))
   obtain⟨f,hf,low⟩:=Axn hv hn oo;obtain⟨b,b1,b2,b3,b4⟩:=At3 hv hn hf low oo;obtain⟨e,he⟩:=Axm hv hn hf low b2 b3 b4 hfl;obtain⟨out,o1,o2,o3,o4⟩:=Ajb hv hn ⟨hf,b2,.inr ⟨e,he⟩⟩ ⟨e,he⟩;obtain⟨r,r1,r2,r3⟩:=Aql out oo;rw[first_eq hn hf low,Ae,b1,Ae,jn_d,o1,Ae];dsimp only;rw[r1,Ae];exact⟨r,rfl,r3,r2.nodup_iff.2 o2,fun t=>by rw[r2.mem_iff];exact o4 t⟩
theorem Ael(v:List Ad):Hp v []=some 0:=by
 unfold Hp;rw[jn_d,Bd];unfold Oc;try dsimp only
 rw[if_neg (by simp)];try dsimp only
 rw[Ae];try dsimp only
 rw[jn_d,Bd];unfold Mi;try dsimp only
 rw[if_neg (by simp)];rfl
theorem Axo(v:List Ad)(hn:v.length<=1024):lfix (Jx v) (([]:List Ad),0)=some v:=by
 have:=Bk (B:=Jx v) (fun s=>v.length-s.2.toNat) (fun s=>∃ k:Nat,k<=v.length/\s=(v.take k,(k:Int))) (fun t=>t=v) (fun s hs=>by
  obtain⟨k,hk,rfl⟩:=hs;unfold Jx;dsimp only
  by_cases hk2:k<v.length
  ·left;rw[if_pos oo,At hk2,Ae,gd_t (by rw[length_take];omega),show w64 ((k:Int)+1)=((k+1:Nat):Int) from by rw[Av oo oo];omega];exact⟨_,rfl,⟨k+1,hk2,by rw[take_succ_eq_append_getElem hk2]⟩,by dsimp only;omega⟩
  ·right;rw[if_neg oo];have:k=v.length:=oo;subst this;exact⟨_,rfl,by rw[take_length]⟩) (([]:List Ad),0) ⟨0,oo,by simp⟩
 obtain⟨t,ht,rfl⟩:=this;exact ht
theorem Ah0:Mb []=some []:=by
 unfold Mb;rw[jn_d,Bd];unfold Qv;try dsimp only
 rw[if_neg (by simp)];try dsimp only
 rw[Ae];try dsimp only
 rw[jn_d,Bd];unfold Qw;try dsimp only
 rw[if_neg (by simp)];rfl
theorem Afu{v:List Ad}(h:Vp v=0):∃ T,Ku v []=some (⟨v,T,[]⟩,0)/\Rr v []=some (⟨v,T,[]⟩,0)/\Wy v T:=by
 obtain⟨hn,_,hv⟩:=Ahq h;obtain⟨T,t1,t2⟩:=Aom h;obtain⟨T',e1,e2⟩:=Akr hv hn;have:T'=T:=e2.unique t2;subst this;refine⟨T',?_,t1,t2⟩;unfold Ku Si;rw[Ah5,h,Ae,if_pos rfl,Ael,Ae,Ae,if_pos rfl,jn_d,Axo v hn,Ae,Ah0];dsimp only;rw[Ae,e1,Ae]
end Go.Proofs.YthlkpgdfifnagaaGreat
namespace Go.Proofs.YthlkpgdfifnagaaGreat
open Go Go.RowKit Go.Sort List
theorem w1{k n:Nat}(h:k<n)(hn:n<=1000000000):w64 ((k:Int)+1)=((k+1:Nat):Int):=by rw[Av oo oo];omega
theorem has_eq{l:List Int}(hl:l.length<=1000000)(n:Int):Lj l n=some (decide (n∈l)):=by
 unfold Lj;rw[jn_d];have:=Bk (B:=Rd l n) (fun s=>l.length-s.toNat) (fun s=>∃ k:Nat,k<=l.length/\s=(k:Int)/\n ∉ l.take k) (fun t=>(t = .inl ()/\n ∉ l)\/(t = .inr true/\n∈l)) (fun s hs=>by
  obtain⟨k,hk,rfl,h⟩:=hs;unfold Rd
  by_cases hk2:k<l.length
  ·rw[if_pos oo,At hk2,Ae]
   by_cases c:l[k]=n
   ·right;rw[if_pos c];exact⟨_,rfl,.inr ⟨rfl,c ▸ getElem_mem hk2⟩⟩
   ·left;rw[if_neg c,w1 hk2 oo];refine⟨_,rfl,⟨k+1,hk2,rfl,fun g=>?_⟩,oo⟩;rw[take_succ_eq_append_getElem hk2,mem_append,mem_singleton] at g;rcases g with g | g
    ·exact h g
    ·exact c g.symm
  ·right;rw[if_neg oo];have:k=l.length:=oo;subst this;rw[take_length] at h;exact⟨_,rfl,.inl ⟨rfl,h⟩⟩) 0 ⟨0,oo,rfl,by simp⟩
 obtain⟨t,ht,g | g⟩:=this
 ·obtain⟨rfl,g⟩:=g;rw[ht,Ae];simp[g]
 ·obtain⟨rfl,g⟩:=g;rw[ht,Ae];simp[g]
def Abm(l:List Aa)(ids:List Int):Prop:=ids.Nodup/\∀ i∈ids,∃ p∈l,p.Id=i
noncomputable instance(l:List Aa)(ids:List Int):Decidable (Abm l ids):=Classical.propDecidable _
noncomputable def selL(l:List Aa)(ids:List Int):List Aa:=l.filter fun p=>decide (p.Id∈ids)
noncomputable def Un(l:List Aa)(ids:List Int):List Aa:=Bi Vz (selL l ids)
variable {l:List Aa} {ids:List Int}
theorem Ajc(hl:X.Fit l):Alp l:=⟨hl.id,fun x hx=>by have:=X.okPt_rng (hl.ok x hx);omega⟩
theorem At6{m:List Aa}(h:Alp l)(hm:∀ x∈m,x∈l)(hn:(m.map (·.Id)).Nodup):Alp m:=⟨hn,fun x hx=>h.2 x (hm x hx)⟩
theorem Bd1{out:List Aa}(hl:X.Fit l)(h1:out.map (·.Id)=ids)(h2:∀ p∈out,p∈l)(hn:ids.Nodup):out.Perm (selL l ids):=by
 have hon:out.Nodup:=X.nodup_of_ids (by rw[h1];exact hn);refine (perm_ext_iff_of_nodup hon ((X.nodup_of_ids hl.id).filter _)).2 fun p=>?_
 rw[mem_filter,decide_eq_true_eq];constructor
 ·intro hp;exact⟨h2 p hp,by rw[<- h1];exact mem_map_of_mem hp⟩
 ·rintro⟨hp,hi⟩;rw[<- h1,mem_map] at hi;obtain⟨q,hq,e⟩:=hi;rw[<- Aqt hl.id (h2 q hq) hp e];exact hq
theorem Aoo{out:List Aa}(h:Alp out)(hp:out.Perm (selL l ids)):Bi Vz out=Un l ids :=
 Xg (totP out) (fun x hx=>⟨hx,h⟩) hp
theorem Axp(hl:X.Fit l):∃ m,lfix (Qn l) (([]:List (Int × Aa)),0)=some m/\Do m/\∀ x p,mget m x=some p↔p∈l/\p.Id=x:=by
 have hn:=hl.n;refine Bk (B:=Qn l) (fun s=>l.length-s.2.toNat) (fun s=>∃ k:Nat,k<=l.length/\s.2=(k:Int)/\Do s.1/\s.1.length<=k/\∀ x p,mget s.1 x=some p↔p∈l.take k/\p.Id=x) _ (fun s hs=>?_) _ ⟨0,oo,rfl,List.Pairwise.nil,by simp,fun x p=>by simp[Ao4]⟩;obtain⟨m,j⟩:=s;obtain⟨k,hk,rfl,h1,h2,h3⟩:=hs;dsimp only at h1 h2 h3;unfold Qn;dsimp only
 by_cases hk2:k<l.length
 ·left;have hr:=X.okPt_rng (hl.ok _ (getElem_mem hk2));rw[if_pos oo,At hk2,Ae,gd_t oo,gd_t oo,w1 hk2 oo];refine⟨_,rfl,⟨k+1,hk2,rfl,h1.put _ _,?_,fun x p=>?_⟩,by dsimp only;omega⟩
  ·dsimp only;unfold mput;have:(mdel m l[k].Id).length<=m.length:=length_filter_le _ _;rw[length_cons];omega
  ·dsimp only;rw[Nc h1,take_succ_eq_append_getElem hk2,mem_append,mem_singleton]
   by_cases e:x=l[k].Id
   ·rw[if_pos e];constructor
    ·intro g;cases g
     exact⟨.inr rfl,e.symm⟩
    ·rintro⟨g | g,g2⟩
     ·rw[Aqt hl.id (mem_of_mem_take g) (getElem_mem hk2) oo]
     ·rw[g]
   ·rw[if_neg e,h3];constructor
    ·rintro⟨g,g2⟩;exact⟨.inl g,g2⟩
    ·rintro⟨g | g,g2⟩
     ·exact⟨g,g2⟩
     ·rw[g] at g2;exact absurd g2.symm e
 ·right;rw[if_neg oo];have:k=l.length:=oo;subst this;rw[take_length] at h3;exact⟨_,rfl,h1,h3⟩
theorem Axq(hl:X.Fit l)(hi:ids.length<=300){m:List (Int × Aa)}(hm:Do m)(hg:∀ x p,mget m x=some p↔p∈l/\p.Id=x)(hr:∀ i∈ids,-9223372036854775808<=i/\i<=9223372036854775807):
  (∃ out:List Aa,lfix (Mr ids) (m,([]:List Aa),0)=some (.inl out)/\out.map (·.Id)=ids/\(∀ p∈out,p∈l)/\Abm l ids)\/(lfix (Mr ids) (m,([]:List Aa),0)=some (.inr ([],false))/\¬ Abm l ids):=by
 have:=Bk (B:=Mr ids) (fun s=>ids.length-s.2.2.toNat)
  (fun s=>∃ k:Nat,k<=ids.length/\s.2.2=(k:Int)/\Do s.1/\s.2.1.map (·.Id)=ids.take k/\(∀ p∈s.2.1,p∈l)/\(ids.take k).Nodup/\∀ x p,mget s.1 x=some p↔p∈l/\p.Id=x/\x ∉ ids.take k)
  (fun t=>(∃ out:List Aa,t = .inl out/\out.map (·.Id)=ids/\(∀ p∈out,p∈l)/\Abm l ids)\/(t = .inr ([],false)/\¬ Abm l ids)) (fun s hs=>by
  obtain⟨m,out,j⟩:=s;obtain⟨k,hk,rfl,h1,h2,h3,h4,h5⟩:=hs;dsimp only at h1 h2 h3 h5;unfold Mr;dsimp only
  by_cases hk2:k<ids.length
  ·have ts:ids.take (k+1)=ids.take k++[ids[k]]:=take_succ_eq_append_getElem hk2;have hl2:out.length=k:=by have:=congrArg List.length h2;rw[length_map,length_take] at this;omega
   have hrk:=hr _ (getElem_mem hk2);rw[if_pos oo,At hk2,Ae,gd_t hrk,Ae];rcases e:mget m ids[k] with _ | p
   ·right;rw[if_neg (by simp)];refine⟨_,rfl,.inr ⟨rfl,fun g=>?_⟩⟩;obtain⟨q,q1,q2⟩:=g.2 _ (getElem_mem hk2);have hno:ids[k] ∉ ids.take k:=fun hin=>by
     obtain⟨i,hi',e'⟩:=getElem_of_mem hin;rw[length_take] at hi';rw[getElem_take] at e';have:=pairwise_iff_getElem.1 g.1 i k oo hk2 oo;exact this e'
    have:=(h5 ids[k] q).2 ⟨q1,q2,hno⟩;rw[e] at this;cases this
   ·left;obtain⟨p1,p2,p3⟩:=(h5 _ _).1 e;rw[if_pos (by simp),gd_t hrk,gd_t oo,w1 hk2 oo];refine⟨_,rfl,⟨k+1,hk2,rfl,h1.del _,?_,fun q hq=>?_,?_,fun x q=>?_⟩,by dsimp only;omega⟩
    ·dsimp only;rw[map_append,h2,ts];simp[p2]
    ·dsimp only at hq;rcases mem_append.1 hq with hq | hq
     ·exact h3 q hq
     ·rw[mem_singleton] at hq;subst hq;exact p1
    ·rw[ts,nodup_append];refine⟨h4,by simp,fun a ha b hb e=>?_⟩;rw[mem_singleton] at hb;subst hb;subst e;exact p3 ha
    ·dsimp only;rw[Vu h1,ts,mem_append,mem_singleton]
     by_cases c:x=ids[k]
     ·rw[if_pos c];exact⟨fun g=>(by cases g),fun g=>absurd (.inr c) g.2.2⟩
     ·rw[if_neg c,h5];exact⟨fun g=>⟨g.1,g.2.1,fun h=>h.elim g.2.2 c⟩,fun g=>⟨g.1,g.2.1,fun h=>g.2.2 (.inl h)⟩⟩
  ·right;rw[if_neg oo];have:k=ids.length:=oo;subst this;rw[take_length] at h2 h4;refine⟨_,rfl,.inl ⟨out,rfl,h2,h3,h4,fun i hi=>?_⟩⟩;rw[<- h2,mem_map] at hi;obtain⟨p,hp,e⟩:=hi;exact⟨p,h3 p hp,e⟩) (m,[],0) ⟨0,oo,rfl,hm,by simp,fun p hp=>(by cases hp),by simp,fun x p=>by rw[hg];simp⟩
 obtain⟨t,ht,⟨out,rfl,g⟩|⟨rfl,g⟩⟩:=this
 ·exact .inl ⟨out,ht,g⟩
 ·exact .inr ⟨ht,g⟩
theorem Ac9(hl:X.Fit l)(hi:ids.length<=300)(hr:∀ i∈ids,-9223372036854775808<=i/\i<=9223372036854775807):Uz l ids=some (if Abm l ids then (Un l ids,true) else ([],false)):=by
 obtain⟨m,h1,h2,h3⟩:=Axp hl;unfold Uz;rw[jn_d,h1,Ae];dsimp only;rw[gd_t oo,jn_d];rcases Axq hl hi h2 h3 hr with⟨out,g1,g2,g3,g4⟩|⟨g1,g2⟩
 ·rw[g1,Ae];dsimp only;have ho:Alp out:=At6 (Ajc hl) g3 (by rw[g2];exact g4.1);have hlen:out.length=ids.length:=by rw[<- g2,length_map]
  rw[gd_t ⟨oo,fun x hx=>⟨hx,ho⟩⟩,Aoo ho (Bd1 hl g2 g3 g4.1),if_pos g4]
 ·rw[g1,Ae];dsimp only;rw[if_neg g2]
theorem Axr(hi:ids.length<=300):(lfix (Ia ids) 0=some (.inl ())/\ids.Nodup)\/(lfix (Ia ids) 0=some (.inr ([],false))/\¬ ids.Nodup):=by
 have:=Bk (B:=Ia ids) (fun s=>ids.length-s.toNat) (fun s=>∃ k:Nat,k<=ids.length/\s=(k:Int)/\(ids.take k).Nodup) (fun t=>(t = .inl ()/\ids.Nodup)\/(t = .inr ([],false)/\¬ ids.Nodup)) (fun s hs=>by
  obtain⟨k,hk,rfl,h⟩:=hs;unfold Ia
  by_cases hk2:k<ids.length
  ·have ts:ids.take (k+1)=ids.take k++[ids[k]]:=take_succ_eq_append_getElem hk2;have hsub:subl ids 0 (k:Int)=ids.take k:=by unfold subl;simp
   rw[if_pos oo,gd_t ⟨oo,oo⟩,At hk2,Ae,hsub,has_eq (by rw[length_take];omega),Ae]
   by_cases c:ids[k]∈ids.take k
   ·right;rw[if_pos (by simpa using c)];refine⟨_,rfl,.inr ⟨rfl,fun g=>?_⟩⟩;have h2:(ids.take (k+1)).Nodup:=g.sublist (take_sublist _ _);rw[ts,nodup_append] at h2;exact h2.2.2 _ c _ (mem_singleton.2 rfl) rfl
   ·left;rw[if_neg (by simpa using c),w1 hk2 oo];refine⟨_,rfl,⟨k+1,hk2,rfl,?_⟩,oo⟩;rw[ts,nodup_append];refine⟨h,by simp,fun a ha b hb e=>?_⟩;rw[mem_singleton] at hb;subst hb;subst e;exact c ha
  ·right;rw[if_neg oo];have:k=ids.length:=oo;subst this;rw[take_length] at h;exact⟨_,rfl,.inl ⟨rfl,h⟩⟩) 0 ⟨0,oo,rfl,by simp⟩
 obtain⟨t,ht,⟨rfl,g⟩|⟨rfl,g⟩⟩:=this
 ·exact .inl ⟨ht,g⟩
 ·exact .inr ⟨ht,g⟩
theorem Axs(hl:X.Fit l)(hi:ids.length<=300):lfix (Lk l ids) (([]:List Aa),0)=some (selL l ids):=by
 have hn:=hl.n;refine X.lfix_filter l (fun p=>decide (p.Id∈ids)) _ (fun j hj s hs=>?_) (fun s=>?_)
 ·unfold Lk;dsimp only;rw[if_pos oo,jn_d,At hj,Ae,has_eq oo,Ae,Ae,w1 hj oo]
  by_cases c:l[j].Id∈ids
  ·rw[if_pos (by simpa using c),if_pos (by simpa using c),gd_t oo]
  ·rw[if_neg (by simpa using c),if_neg (by simpa using c)]
 ·unfold Lk;dsimp only;rw[if_neg oo]
theorem Ajd{L:List Aa}(hL:X.Fit L):Jb L=some (Bi Vz L):=by
 have hn:=hL.n;have ho:=Ajc hL;unfold Jb;rw[X.rids_eq hn,Ae,jn_d];generalize hr:Ej (L.map (·.Id))=r;have hrp:r.Perm (L.map (·.Id)):=by rw[<- hr];exact X.perm_sortI _
 have hrl:r.length=L.length:=by rw[hrp.length_eq,length_map]
 have hrn:r.Nodup:=hrp.nodup_iff.2 hL.id;have hrs:r.Pairwise (· < ·):=by
  have h1:r.Pairwise (·<=·):=by rw[<- hr];exact X.sorted_sortI _
  exact (pairwise_and_iff.2 ⟨h1,hrn⟩).imp fun h=>oo
 have inner:∀ (i:Nat) (hi:i<r.length) (acc:List Aa),acc.length<=1024*i->lfix (It L r (acc,(i:Int))) (acc,0)=some (acc++L.filter fun p=>decide (p.Id=r[i])):=fun i hi acc ha=>by
  have:=Bk (B:=It L r (acc,(i:Int))) (fun s=>L.length-s.2.toNat) (fun s=>∃ k:Nat,k<=L.length/\s=(acc++(L.take k).filter (fun p=>decide (p.Id=r[i])),(k:Int))) (fun t=>t=acc++L.filter fun p=>decide (p.Id=r[i])) (fun s hs=>by
   obtain⟨k,hk,rfl⟩:=hs;unfold It;dsimp only
   by_cases hk2:k<L.length
   ·left;have ts:L.take (k+1)=L.take k++[L[k]]:=take_succ_eq_append_getElem hk2;have hf:=length_filter_le (fun p:Aa=>decide (p.Id=r[i])) (L.take k);rw[length_take] at hf;have hi4:i<1024:=oo;rw[if_pos oo,jn_d,At hk2,Ae,At hi,Ae,Ae,w1 hk2 oo]
    by_cases c:L[k].Id=r[i]
    ·rw[if_pos c,gd_t (by rw[length_append];omega)];exact⟨_,rfl,⟨k+1,hk2,by rw[ts,filter_append];simp[c]⟩,by dsimp only;omega⟩
    ·rw[if_neg c];exact⟨_,rfl,⟨k+1,hk2,by rw[ts,filter_append];simp[c]⟩,by dsimp only;omega⟩
   ·right;rw[if_neg oo];have:k=L.length:=oo;subst this;exact⟨_,rfl,by rw[take_length]⟩) (acc,0) ⟨0,oo,by simp⟩
  obtain⟨t,ht,rfl⟩:=this;exact ht
 have outer:=Bk (B:=Nk r L) (fun s=>r.length-s.2.toNat) (fun s=>∃ k:Nat,k<=r.length/\s=((r.take k).flatMap (fun i=>L.filter fun p=>decide (p.Id=i)),(k:Int))/\s.1.length<=1024*k) (fun t=>t=r.flatMap fun i=>L.filter fun p=>decide (p.Id=i)) (fun s hs=>by
  obtain⟨k,hk,rfl,hb⟩:=hs;dsimp only at hb;unfold Nk;dsimp only
  by_cases hk2:k<r.length
  ·left;have ts:r.take (k+1)=r.take k++[r[k]]:=take_succ_eq_append_getElem hk2;rw[if_pos oo,jn_d,inner k hk2 _ hb,Ae,w1 hk2 oo];refine⟨_,rfl,⟨k+1,hk2,by rw[ts,flatMap_append];simp,?_⟩,by dsimp only;omega⟩;dsimp only;have hf:=length_filter_le (fun p:Aa=>decide (p.Id=r[k])) L;rw[length_append];omega
  ·right;rw[if_neg oo];have:k=r.length:=oo;subst this;exact⟨_,rfl,by rw[take_length]⟩) (([]:List Aa),0) ⟨0,oo,by simp,by simp⟩
 obtain⟨t,ht,rfl⟩:=outer;rw[ht,Ae];congr 1;have hpw:(r.flatMap fun i=>L.filter fun p=>decide (p.Id=i)).Pairwise fun x y=>x.Id<y.Id:=by
  rw[pairwise_flatMap];refine⟨fun i _=>?_,hrs.imp fun {a b} hab x hx y hy=>?_⟩
  ·refine List.Pairwise.imp_of_mem ?_ ((pairwise_map.1 hL.id).filter _);intro a b ha hb hne;rw[mem_filter,decide_eq_true_eq] at ha hb;exact absurd (ha.2.trans hb.2.symm) hne
  ·rw[mem_filter,decide_eq_true_eq] at hx hy;omega
 have hmem:∀ p,p∈(r.flatMap fun i=>L.filter fun p=>decide (p.Id=i))↔p∈L:=fun p=>by
  rw[mem_flatMap];constructor
  ·rintro⟨i,_,hp⟩;exact (mem_filter.1 hp).1
  ·intro hp;exact⟨p.Id,hrp.mem_iff.2 (mem_map_of_mem hp),mem_filter.2 ⟨hp,by simp⟩⟩
 have hnd:(r.flatMap fun i=>L.filter fun p=>decide (p.Id=i)).Nodup:=hpw.imp fun h e=>by rw[e] at h;omega
 refine Agz (totP L) (fun x hx=>⟨(hmem x).1 hx,ho⟩) (hpw.imp fun h=>by unfold Vz;omega) (Ta (totP L) fun x hx=>⟨hx,ho⟩) ?_;exact ((perm_ext_iff_of_nodup hnd (X.nodup_of_ids hL.id)).2 hmem).trans (Kj _ _).symm
theorem Fit.sel(hl:X.Fit l):X.Fit (selL l ids):=hl.filter _
theorem Bav(hl:X.Fit l)(hi:ids.length<=300):Qe l ids=some (if Abm l ids then (Un l ids,true) else ([],false)):=by
 unfold Qe;rw[jn_d];have hsn:=(Fit.sel (ids:=ids) hl).id;have hsub:∀ i∈(selL l ids).map (·.Id),i∈ids:=fun i hi=>by
  obtain⟨p,hp,rfl⟩:=mem_map.1 hi;exact of_decide_eq_true (mem_filter.1 hp).2
 rcases Axr hi with⟨g1,g2⟩|⟨g1,g2⟩
 ·rw[g1,Ae];dsimp only;rw[jn_d,Axs hl hi,Ae];dsimp only;have key:((((selL l ids).length:Nat):Int))=(ids.length:Int)↔Abm l ids:=by
   have h1:=Bz hsn hsub;rw[length_map] at h1;constructor
   ·intro e;refine⟨g2,fun i hi'=>?_⟩;refine Classical.byContradiction fun hno=>?_
    have hni:i ∉ (selL l ids).map (·.Id):=fun h=>by
     obtain⟨p,hp,e2⟩:=mem_map.1 h;exact hno ⟨p,(mem_filter.1 hp).1,e2⟩
    have:=Bz (l:=i::(selL l ids).map (·.Id)) (m:=ids) (nodup_cons.2 ⟨hni,hsn⟩) (fun x hx=>by rcases mem_cons.1 hx with rfl | hx;exact hi';exact hsub x hx);rw[length_cons,length_map] at this;omega
   ·intro ho;have:=Bz (l:=ids) (m:=(selL l ids).map (·.Id)) g2 (fun i hi'=>by
     obtain⟨p,hp,rfl⟩:=ho.2 i hi';exact mem_map_of_mem (mem_filter.2 ⟨hp,by simpa using hi'⟩))
    rw[length_map] at this;omega
  by_cases c:Abm l ids
  ·rw[if_pos (key.2 c),Ajd (Fit.sel hl),Ae,if_pos c];rfl
  ·rw[if_neg (fun h=>c (key.1 h)),if_neg c]
 ·rw[g1,Ae];dsimp only;rw[if_neg (fun h=>g2 h.1)]
def vxL(L:List Aa):List Ad:=L.map fun p=>⟨p.X,p.Y,p.Z⟩
theorem Aje{L:List Aa}(hn:L.length<=1024):lfix (Rx L) (([]:List Ad),0)=some (vxL L):=by
 have:=Bk (B:=Rx L) (fun s=>L.length-s.2.toNat) (fun s=>∃ k:Nat,k<=L.length/\s=(vxL (L.take k),(k:Int))) (fun t=>t=vxL L) (fun s hs=>by
  obtain⟨k,hk,rfl⟩:=hs;unfold Rx;dsimp only
  by_cases hk2:k<L.length
  ·left;rw[if_pos oo,At hk2,Ae,gd_t (by unfold vxL;rw[length_map,length_take];omega),w1 hk2 oo];exact⟨_,rfl,⟨k+1,hk2,by unfold vxL;rw[take_succ_eq_append_getElem hk2,map_append];rfl⟩,by dsimp only;omega⟩
  ·right;rw[if_neg oo];have:k=L.length:=oo;subst this;exact⟨_,rfl,by rw[take_length]⟩) (([]:List Ad),0) ⟨0,oo,rfl⟩
 obtain⟨t,ht,rfl⟩:=this;exact ht
def Jh(L:List Aa):Prop:=L.Pairwise fun p q=>¬ (p.X=q.X/\p.Y=q.Y)
theorem Agp{L:List Aa}(hL:X.Fit L):Vp (vxL L)=0/\Jh L\/Vp (vxL L)=61/\¬ Jh L:=by
 have hn:=hL.n;have h1:¬ 1024<(vxL L).length:=by unfold vxL;rw[length_map];omega
 have h2:∀ x∈vxL L,Md x:=fun x hx=>by
  unfold vxL at hx;obtain⟨p,hp,rfl⟩:=mem_map.1 hx;have:=X.okPt_rng (hL.ok p hp);unfold Md okP pP;dsimp only;omega
 have h3:Fp (vxL L)↔Jh L:=by
  unfold Fp Jh vxL;rw[pairwise_map];exact Iff.rfl
 unfold Vp;rw[if_neg h1,if_neg (fun h=>h h2)]
 by_cases c:Jh L
 ·rw[if_neg (fun h=>h (h3.2 c))];exact .inl ⟨rfl,c⟩
 ·rw[if_pos (fun h=>c (h3.1 h))];exact .inr ⟨rfl,c⟩
theorem Ajf{L:List Aa}(hL:X.Fit L):(lfix (Ic L) (([]:List Ad),0)=some (.inl (vxL L))/\Jh L)\/(lfix (Ic L) (([]:List Ad),0)=some (.inr (⟨[],[],[]⟩,11))/\¬ Jh L):=by
 have hn:=hL.n;have inner:∀ (i:Nat) (hi:i<L.length) (acc:List Ad),(lfix (Ib (acc,(i:Int)) L L[i] L[i] L[i]) 0=some (.inl (acc++[(⟨L[i].X,L[i].Y,L[i].Z⟩:Ad)]))/\∀ q∈L.take i,¬ (q.X=L[i].X/\q.Y=L[i].Y)) \/
   (lfix (Ib (acc,(i:Int)) L L[i] L[i] L[i]) 0=some (.inr (⟨[],[],[]⟩,11))/\∃ q∈L.take i,q.X=L[i].X/\q.Y=L[i].Y):=fun i hi acc=>by
  have:=Bk (B:=Ib (acc,(i:Int)) L L[i] L[i] L[i]) (fun s=>i-s.toNat) (fun s=>∃ k:Nat,k<=i/\s=(k:Int)/\∀ q∈L.take k,¬ (q.X=L[i].X/\q.Y=L[i].Y))
   (fun t=>(t = .inl (acc++[(⟨L[i].X,L[i].Y,L[i].Z⟩:Ad)])/\∀ q∈L.take i,¬ (q.X=L[i].X/\q.Y=L[i].Y))\/(t = .inr (⟨[],[],[]⟩,11)/\∃ q∈L.take i,q.X=L[i].X/\q.Y=L[i].Y)) (fun s hs=>by
   obtain⟨k,hk,rfl,h⟩:=hs;unfold Ib;dsimp only
   by_cases hk2:k<i
   ·have hkl:k<L.length:=oo;rw[if_pos oo,At hkl,Ae,At hi,Ae,X.apart_eq (hL.ok _ (getElem_mem hkl)) (hL.ok _ (getElem_mem hi)),Ae];have hz:=@X.sq_zero L[k] L[i];have hmem:L[k]∈L.take i:=by
     rw[mem_take_iff_getElem];exact⟨k,oo,rfl⟩
    by_cases c:X.sq L[k] L[i]=0
    ·right;rw[if_pos c];exact⟨_,rfl,.inr ⟨rfl,L[k],hmem,hz.1 oo⟩⟩
    ·left;rw[if_neg c,w1 hk2 oo];refine⟨_,rfl,⟨k+1,hk2,rfl,fun q hq=>?_⟩,oo⟩;rw[take_succ_eq_append_getElem hkl,mem_append,mem_singleton] at hq;rcases hq with hq | rfl
     ·exact h q hq
     ·intro g;have h0:0<=X.sq L[k] L[i]:=by unfold X.sq;rw[<- Int.natAbs_mul_self,<- Int.natAbs_mul_self (a:=L[k].Y-L[i].Y)];omega
      have:=hz.2 g;omega
   ·right;rw[if_neg oo];have:k=i:=oo;subst this;exact⟨.inl (acc++[⟨L[k].X,L[k].Y,L[k].Z⟩]),rfl,.inl ⟨rfl,h⟩⟩) 0 ⟨0,oo,rfl,by simp⟩
  obtain⟨t,ht,⟨rfl,g⟩|⟨rfl,g⟩⟩:=this
  ·exact .inl ⟨ht,g⟩
  ·exact .inr ⟨ht,g⟩
 have:=Bk (B:=Ic L) (fun s=>L.length-s.2.toNat) (fun s=>∃ k:Nat,k<=L.length/\s=(vxL (L.take k),(k:Int))/\Jh (L.take k))
  (fun t=>(t = .inl (vxL L)/\Jh L)\/(t = .inr (⟨[],[],[]⟩,11)/\¬ Jh L)) (fun s hs=>by
  obtain⟨k,hk,rfl,h⟩:=hs;unfold Ic;dsimp only
  by_cases hk2:k<L.length
  ·have ts:L.take (k+1)=L.take k++[L[k]]:=take_succ_eq_append_getElem hk2;rw[if_pos oo,jn_d,At hk2,Ae,Ae,Ae,gd_t (by unfold vxL;rw[length_map,length_take];omega)];rcases inner k hk2 (vxL (L.take k)) with⟨g1,g2⟩|⟨g1,q,q1,q2⟩
   ·left;rw[g1,Ae];dsimp only;rw[w1 hk2 oo];refine⟨_,rfl,⟨k+1,hk2,by unfold vxL;rw[ts,map_append];rfl,?_⟩,by dsimp only;omega⟩;unfold Jh at h ⊢;rw[ts,pairwise_append];refine⟨h,by simp,fun x hx y hy=>?_⟩;rw[mem_singleton] at hy;subst hy;exact g2 x hx
   ·right;rw[g1,Ae];refine⟨_,rfl,.inr ⟨rfl,fun g=>?_⟩⟩;have g':Jh (L.take (k+1)):=List.Pairwise.sublist (take_sublist _ _) g;unfold Jh at g';rw[ts,pairwise_append] at g';exact g'.2.2 q q1 _ (mem_singleton.2 rfl) q2
  ·right;rw[if_neg oo];have:k=L.length:=oo;subst this;rw[take_length] at h;exact⟨_,rfl,.inl ⟨by rw[take_length],h⟩⟩) (([]:List Ad),0) ⟨0,oo,rfl,by simp[Jh]⟩
 obtain⟨t,ht,⟨rfl,g⟩|⟨rfl,g⟩⟩:=this
 ·exact .inl ⟨ht,g⟩
 ·exact .inr ⟨ht,g⟩
theorem Axt{L:List Aa}(hL:X.Fit L):∃ r:Aq × Int,Ry L=some r/\Mm L=some r/\((r.2=0/\Jh L/\r.1.V=vxL L/\r.1.Lines=[]/\Wy (vxL L) r.1.T)\/(r=(⟨[],[],[]⟩,11)/\¬ Jh L)):=by
 have hn:=hL.n;unfold Ry Mm;rw[gd_t oo,jn_d,jn_d,Aje hn,Ae];dsimp only;rcases Agp hL with⟨e,ha⟩|⟨e,ha⟩
 ·obtain⟨T,t1,t2,t3⟩:=Afu e;rcases Ajf hL with⟨g1,_⟩|⟨_,g2⟩
  ·rw[g1,t2,Ae,Ae];dsimp only;rw[if_pos rfl,t1,Ae];exact⟨_,rfl,rfl,.inl ⟨rfl,ha,rfl,rfl,t3⟩⟩
  ·exact absurd ha g2
 ·rcases Ajf hL with⟨_,g2⟩|⟨g1,_⟩
  ·exact absurd g2 ha
  ·rw[g1,Alk [] oo,Ae,Ae];dsimp only;rw[if_neg oo];exact⟨_,rfl,rfl,.inr ⟨rfl,ha⟩⟩
end Go.Proofs.YthlkpgdfifnagaaGreat
