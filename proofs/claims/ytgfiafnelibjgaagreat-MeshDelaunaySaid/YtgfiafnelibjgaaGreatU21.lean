/- The reference's first side: of the places on the first ray the nearest one. -/
import Derived.Test.YtgfiafnelibjgaaGreatV3
import Derived.Test.YtgfiafnelibjgaaGreatE2
namespace Go.Proofs.YtgfiafnelibjgaaGreat
open Go Go.RowKit
variable {v:List Ab}
/-- k lies to the left of f-b, or behind b. -/
def behind (v:List Ab) (f b k:Int):Prop:=0 < crs (plV v f) (plV v b) (plV v k)∨(crs (plV v f) (plV v b) (plV v k)=0∧¬ befP (plV v k) (plV v b))
theorem Al3 (hv:Ci v) (hn:v.length≤1024) {f:Int} (hf:inN v.length f) (low:∀ k,inN v.length k→k=f∨befP (plV v f) (plV v k)) (h2:2≤v.length) :
  ∃ b,Fa v f false=some b∧inN v.length b∧b≠f∧∀ k,inN v.length k→k≠f→behind v f b k:=by
 unfold Fa
 rw [jn_d]
 have up:∀ k,inN v.length k→k≠f→ph lexA 1 (plV v f) < ph lexA 1 (plV v k):=fun k hk hne=>(Xd (hv.ok f hf) (hv.ok k hk)).2 ((low k hk).resolve_left hne)
 have:=Cx (B:=Gr v f false) (fun s=>v.length-s.2.toNat)
  (fun s=>0≤s.2∧s.2≤(v.length:Int)∧((s.1 = -1∧∀ j,inN v.length j→j < s.2→j=f)∨(inN v.length s.1∧s.1≠f∧∀ j,inN v.length j→j < s.2→j≠f→behind v f s.1 j))) (fun t=>inN v.length t∧t≠f∧∀ k,inN v.length k→k≠f→behind v f t k) (fun s hs=>by
   obtain ⟨out,k⟩:=s
   obtain ⟨h1,h2',h3⟩:=hs
   simp only at h1 h2' h3
   unfold Gr
   dsimp only
   by_cases hk:k < (v.length:Int)
   ·left
    have hkn:inN v.length k:=⟨h1,hk⟩
    have w1:w64 (k+1)=k+1:=Bl (by omega) (by omega)
    rw [if_pos hk,jn_d]
    by_cases e1:k=f
    ·rw [if_pos e1,w1]
     refine ⟨_,rfl,⟨by dsimp only;omega,by dsimp only;omega,?_⟩,by dsimp only;omega⟩
     dsimp only
     rcases h3 with ⟨g1,g2⟩ | ⟨g1,g2,g3⟩
     ·exact .inl ⟨g1,fun j hj hl=>by
       by_cases e:j=k
       ·rw [e];exact e1
       ·exact g2 j hj (by omega)⟩
     ·exact .inr ⟨g1,g2,fun j hj hl hne=>g3 j hj (by omega) hne⟩
    ·rw [if_neg e1]
     have self:behind v f k k:=.inr ⟨Bk _ _,Aq0 _⟩
     by_cases e2:out < 0
     ·rw [if_pos e2,w1]
      have h4:∀ j,inN v.length j→j < k→j=f:=by
       rcases h3 with ⟨_,g⟩ | ⟨g,_⟩
       ·exact g
       ·unfold inN at g;omega
      refine ⟨_,rfl,⟨by dsimp only;omega,by dsimp only;omega,.inr ⟨hkn,e1,fun j hj hl hne=>?_⟩⟩,by dsimp only;omega⟩
      dsimp only at hl ⊢
      by_cases e:j=k
      ·rw [e];exact self
      ·exact absurd (h4 j hj (by omega)) hne
     ·rw [if_neg e2]
      obtain ⟨g1,g2,g3⟩:inN v.length out∧out≠f∧∀ j,inN v.length j→j < k→j≠f→behind v f out j:=by
       rcases h3 with g | g
       ·omega
       ·exact g
      obtain ⟨xa,fa,pa⟩:=Hc (v:=v) hf
      obtain ⟨xo,fo,po⟩:=Hc (v:=v) g1
      obtain ⟨xk,fk,pk⟩:=Hc (v:=v) hkn
      try rw [jn_d]
      rw [fa,Ae,fo,Ae,fk,Ae]
      unfold Aj
      rw [Ae,Ae,Ae]
      dsimp only
      rw [pa,po,pk,Jg (hv.ok _ hf) (hv.ok _ g1) (hv.ok _ hkn),Ae,jn_d,Uo (hv.ok _ hf) (hv.ok _ g1) (hv.ok _ hkn),w1]
      have sg:Int.sign (crs (plV v f) (plV v out) (plV v k)) < 0↔crs (plV v f) (plV v out) (plV v k) < 0:=Int.sign_neg_iff
      have s0:Int.sign (crs (plV v f) (plV v out) (plV v k))=0↔crs (plV v f) (plV v out) (plV v k)=0:=Int.sign_eq_zero_iff_zero
      have po':=up out g1 g2
      have pk':=up k hkn e1
      have take:(∀ j,inN v.length j→j < k→j≠f→behind v f k j)→∃ s',(some (.inl (k,k+1)):Option (Sum (Int × Int) Int))=some (.inl s')∧(0≤s'.2∧s'.2≤(v.length:Int)∧((s'.1 = -1∧∀ j,inN v.length j→j < s'.2→j=f)∨(inN v.length s'.1∧s'.1≠f∧∀ j,inN v.length j→j < s'.2→j≠f→behind v f s'.1 j)))∧v.length-s'.2.toNat < v.length-k.toNat:=fun hx =>
       ⟨_,rfl,⟨by dsimp only;omega,by dsimp only;omega,.inr ⟨hkn,e1,fun j hj hl hne=>by
        dsimp only at hl ⊢
        by_cases e:j=k
        ·rw [e];exact self
        ·exact hx j hj (by omega) hne⟩⟩,by dsimp only;omega⟩
      have keep:behind v f out k→∃ s',(some (.inl (out,k+1)):Option (Sum (Int × Int) Int))=some (.inl s')∧(0≤s'.2∧s'.2≤(v.length:Int)∧((s'.1 = -1∧∀ j,inN v.length j→j < s'.2→j=f)∨(inN v.length s'.1∧s'.1≠f∧∀ j,inN v.length j→j < s'.2→j≠f→behind v f s'.1 j)))∧v.length-s'.2.toNat < v.length-k.toNat:=fun hx =>
       ⟨_,rfl,⟨by dsimp only;omega,by dsimp only;omega,.inr ⟨g1,g2,fun j hj hl hne=>by
        dsimp only at hl ⊢
        by_cases e:j=k
        ·rw [e];exact hx
        ·exact g3 j hj (by omega) hne⟩⟩,by dsimp only;omega⟩
      -- (out-f)*crs f k j=(k-f)*crs f out j-(j-f)*crs f out k
      have turn:∀ j,(ph lexA 1 (plV v out)-ph lexA 1 (plV v f))*crs (plV v f) (plV v k) (plV v j)=(ph lexA 1 (plV v k)-ph lexA 1 (plV v f))*crs (plV v f) (plV v out) (plV v j)-(ph lexA 1 (plV v j)-ph lexA 1 (plV v f))*crs (plV v f) (plV v out) (plV v k):=fun j=>by
       have:=Za lexA 1 (plV v f) (plV v out) (plV v k) (plV v j)
       rw [Un (plV v f) (plV v out) (plV v j),Int.mul_neg] at this
       omega
      by_cases c1:crs (plV v f) (plV v out) (plV v k) < 0
      ·rw [if_pos (sg.2 c1)]
       dsimp only
       rw [if_pos rfl]
       refine take fun j hj hl hne=>.inl ?_
       have t:=turn j
       have m2:=Int.mul_pos (show 0 < ph lexA 1 (plV v j)-ph lexA 1 (plV v f) by have:=up j hj hne;omega) (show 0 < -crs (plV v f) (plV v out) (plV v k) by omega)
       rw [Int.mul_neg] at m2
       have m1:0≤(ph lexA 1 (plV v k)-ph lexA 1 (plV v f))*crs (plV v f) (plV v out) (plV v j):=Int.mul_nonneg (by omega) (by rcases g3 j hj hl hne with g | g <;> omega)
       exact Tm (x:=ph lexA 1 (plV v out)-ph lexA 1 (plV v f)) (by omega) (by omega)
      ·rw [if_neg (fun g=>c1 (sg.1 g))]
       by_cases c2:crs (plV v f) (plV v out) (plV v k)=0
       ·rw [if_pos (s0.2 c2),Ae]
        have nok:=Gl hv g1 hkn
        by_cases c3:Box (plV v f) (plV v out) (plV v k)
        ·rw [decide_eq_true ⟨c2,c3⟩]
         have hko:¬ befP (plV v out) (plV v k):=fun e=>Aod c2 (Ry ((low out g1).resolve_left g2)) e (Gl hv hf g1 (fun e=>g2 e.symm)) c3
         dsimp only
         rw [if_pos (by rfl)]
         refine take fun j hj hl hne=>?_
         have t:=turn j
         rw [c2,Int.mul_zero,Int.sub_zero] at t
         rcases g3 j hj hl hne with g | ⟨g,g'⟩
         ·left
          have m1:=Int.mul_pos (show 0 < ph lexA 1 (plV v k)-ph lexA 1 (plV v f) by omega) g
          exact Tm (x:=ph lexA 1 (plV v out)-ph lexA 1 (plV v f)) (by omega) (by omega)
         ·right
          rw [g,Int.mul_zero] at t
          refine ⟨?_,fun e=>?_⟩
          ·rcases Int.mul_eq_zero.1 t with t | t
           ·omega
           ·exact t
          ·unfold befP at *
           omega
        ·rw [decide_eq_false (fun g=>c3 g.2)]
         dsimp only
         rw [if_neg (by simp)]
         refine keep (.inr ⟨c2,fun e=>c3 ?_⟩)
         exact Abn c2 (Ry ((low k hkn).resolve_left e1)) (Ry e)
       ·rw [if_neg (fun g=>c2 (s0.1 g))]
        dsimp only
        rw [if_neg (by simp)]
        exact keep (.inl (by omega))
   ·right
    rw [if_neg hk]
    refine ⟨_,rfl,?_⟩
    rcases h3 with ⟨g1,g2⟩ | ⟨g1,g2,g3⟩
    ·have x0:(0:Int)=f:=g2 0 ⟨by omega,by omega⟩ (by omega)
     have x1:(1:Int)=f:=g2 1 ⟨by omega,by omega⟩ (by omega)
     omega
    ·exact ⟨g1,g2,fun j hj hne=>g3 j hj (by have:=hj.2;omega) hne⟩) (-1,0) ⟨by simp,by simp,.inl ⟨rfl,fun j hj hl=>by unfold inN at hj;simp only at hl;omega⟩⟩
 obtain ⟨t,ht,g⟩:=this
 rw [ht,Ae]
 exact ⟨t,rfl,g⟩
end Go.Proofs.YtgfiafnelibjgaaGreat
/- The reference's apex: the program's loops. -/
namespace Go.Proofs.YtgfiafnelibjgaaGreat
open Go Go.RowKit
variable {v:List Ab} {a b:Int}
/-! ### the ring -/
/-! ### the third corner -/
theorem tm (x n:Int) (hx:0≤x):Int.tmod x n=x % n:=Int.tmod_eq_emod_of_nonneg hx
end Go.Proofs.YtgfiafnelibjgaaGreat
/- The reference's apex with lines: the best of the places that are seen. -/
namespace Go.Proofs.YtgfiafnelibjgaaGreat
open Go Go.RowKit
section
variable {v:List Ab} {S:Int→Prop} {a b:Int} {L:List Aa}
/-- The best ones of the places before k that are seen. -/
structure Qk (v:List Ab) (S:Int→Prop) (a b k:Int) (s:List Int):Prop where
 mem:∀ c∈s,inN v.length c∧c < k∧0 < crs (plV v a) (plV v b) (plV v c)∧S c
 none:s=[]→∀ d,inN v.length d→d < k→S d→crs (plV v a) (plV v b) (plV v d)≤0
 top:∀ c∈s,∀ d,inN v.length d→d < k→0 < crs (plV v a) (plV v b) (plV v d)→S d→(inC (plV v a) (plV v b) (plV v c) (plV v d) < 0∧d ∉ s)∨(inC (plV v a) (plV v b) (plV v c) (plV v d)=0∧d∈s)
 nd:s.Nodup
theorem Qk.nil:Qk v S a b 0 []:=⟨fun c h=>(by cases h),fun _ d hd h=>by unfold inN at hd;omega,fun c h=>(by cases h),List.nodup_nil⟩
theorem Qk.skip {k:Int} {s:List Int} (h:Qk v S a b k s) (hk:¬ (0 < crs (plV v a) (plV v b) (plV v k)∧S k)):Qk v S a b (k+1) s:=by
 refine ⟨fun c hc=>?_,fun e d hd hl hs=>?_,fun c hc d hd hl hp hs=>?_,h.nd⟩
 ·obtain ⟨h1,h2,h3⟩:=h.mem c hc
  exact ⟨h1,by omega,h3⟩
 ·by_cases g:d=k
  ·subst g
   refine Classical.byContradiction fun n=>hk ⟨by omega,hs⟩
  ·exact h.none e d hd (by omega) hs
 ·by_cases g:d=k
  ·subst g;exact absurd ⟨hp,hs⟩ hk
  ·exact h.top c hc d hd (by omega) hp hs
theorem Qk.one {k:Int} (hk:inN v.length k) (hp:0 < crs (plV v a) (plV v b) (plV v k)) (hsk:S k) (ho:∀ d,inN v.length d→d < k→0 < crs (plV v a) (plV v b) (plV v d)→S d→inC (plV v a) (plV v b) (plV v k) (plV v d) < 0):Qk v S a b (k+1) [k]:=by
 refine ⟨fun c hc=>?_,fun e=>(by cases e),fun c hc d hd hl hq hs=>?_,by simp⟩
 ·rw [List.mem_singleton] at hc
  subst hc
  exact ⟨hk,by omega,hp,hsk⟩
 ·rw [List.mem_singleton] at hc
  subst hc
  by_cases g:d=c
  ·subst g;exact .inr ⟨Ahg _ _ _,List.mem_singleton.2 rfl⟩
  ·exact .inl ⟨ho d hd (by omega) hq hs,by simpa using g⟩
theorem Qk.first {k:Int} (h:Qk v S a b k []) (hk:inN v.length k) (hp:0 < crs (plV v a) (plV v b) (plV v k)) (hsk:S k):Qk v S a b (k+1) [k] :=
 Qk.one hk hp hsk fun d hd hl hq hs=>by have:=h.none rfl d hd hl hs;omega
theorem Qk.same0 {k c x:Int} {s:List Int} (h:Qk v S a b k s) (hc:c∈s) (hx:x∈s):inC (plV v a) (plV v b) (plV v c) (plV v x)=0:=by
 obtain ⟨h1,h2,h3,h4⟩:=h.mem x hx
 rcases h.top c hc x h1 h2 h3 h4 with g | g
 ·exact absurd hx g.2
 ·exact g.1
theorem Qk.circ {k:Int} {s:List Int} (h:Qk v S a b k s):Circ v a b s :=
 ⟨fun c hc=>⟨(h.mem c hc).1,(h.mem c hc).2.2.1⟩,fun c hc d hd=>h.same0 hc hd,h.nd⟩
/-- The third corner, of those that are seen. -/
def TopS (v:List Ab) (S:Int→Prop) (a b c:Int):Prop:=inN v.length c∧0 < crs (plV v a) (plV v b) (plV v c)∧S c∧∀ d,inN v.length d→0 < crs (plV v a) (plV v b) (plV v d)→S d→d≠c→DH (plV v) (hV v) a b c d < 0
theorem TopS.unique {c d:Int} (h:TopS v S a b c) (k:TopS v S a b d):c=d:=by
 by_cases e:c=d
 ·exact e
 ·have h1:=h.2.2.2 d k.1 k.2.1 k.2.2.1 (fun g=>e g.symm)
  have h2:=k.2.2.2 c h.1 h.2.1 h.2.2.1 e
  rw [Akt] at h2
  omega
/-! ### seen -/
end
end Go.Proofs.YtgfiafnelibjgaaGreat
/- The reference's triangles with lines: the stack of open sides; every triangle is reached. -/
namespace Go.Proofs.YtgfiafnelibjgaaGreat
open Go Go.RowKit
section
variable {v:List Ab} {p0 q0:Int} {m:Mp} {L:List Aa}
/-! ### a part of a triangulation that goes on across every side is the whole -/
theorem Mesh.free (hv:Ci v) (h:Tri (plV v) (inN v.length) (apM m)) {a b c:Int} (hk:apM m a b=some c):Free v a b:=fun z hz n1 n2 g=>by
 obtain ⟨va,vb,_,_⟩:=h.ccw _ _ _ hk
 exact Vj h hk hz n1 n2 ⟨g,fun e=>n1 (hv.dist _ _ hz va e),fun e=>n2 (hv.dist _ _ hz vb e)⟩
/-! ### the stack -/
def Ut (m:Mp) (t:Ai):Prop:=t.a0 < t.a1∧t.a0 < t.a2∧apM m t.a0 t.a1=some t.a2
theorem Ut.side (hM:Tri (plV v) (inN v.length) (apM m)) {t:Ai} (h:Ut m t) {p q:Int} (hs:Fk t p q):∃ e,apM m p q=some e:=by
 obtain ⟨_,_,h⟩:=h
 rcases hs with ⟨rfl,rfl⟩ | ⟨rfl,rfl⟩ | ⟨rfl,rfl⟩
 ·exact ⟨_,h⟩
 ·exact ⟨_,hM.rot _ _ _ h⟩
 ·exact ⟨_,hM.rot2 h⟩
def okM (v:List Ab) (m:Mp) (p q:Int):Prop:=inN v.length p∧inN v.length q∧(noT v p q∨∃ e,apM m p q=some e)
/-- What the stack, the sides done and the triangles are. -/
structure TrM (v:List Ab) (m:Mp) (p0 q0:Int) (op:List Aa) (dn:Int→Int→Prop) (out:List Ai):Prop where
 mem:∀ t∈out,Ut m t
 nd:out.Nodup
 opn:∀ s∈op,okM v m s.a0 s.a1
 don:∀ p q,dn p q→(∃ t∈out,Fk t p q)∨noT v p q
 all:∀ t∈out,∀ p q,Fk t p q→dn p q
 rev:∀ t∈out,∀ p q,Fk t p q→⟨q,p⟩∈op∨dn q p
 sta:⟨p0,q0⟩∈op∨dn p0 q0
 len:op.length≤3*out.length+1
theorem TrM.skip {op:List Aa} {dn:Int→Int→Prop} {out:List Ai} {s:Aa} (h:TrM v m p0 q0 (op++[s]) dn out) (hs:dn s.a0 s.a1):TrM v m p0 q0 op dn out :=
 ⟨h.mem,h.nd,fun x hx=>h.opn x (by simp [hx]),h.don,h.all,fun t ht p q hp=>(h.rev t ht p q hp).elim (fun g=>(Vy g).imp id fun e=>by subst e;exact hs) .inr,
  h.sta.elim (fun g=>(Vy g).imp id fun e=>by subst e;exact hs) .inr,by have:=h.len;rw [List.length_append,List.length_singleton] at this;omega⟩
theorem TrM.none {op:List Aa} {dn dn':Int→Int→Prop} {out:List Ai} {s:Aa} (h:TrM v m p0 q0 (op++[s]) dn out) (hd:∀ p q,dn' p q↔dn p q∨(p=s.a0∧q=s.a1)) (hn:noT v s.a0 s.a1):TrM v m p0 q0 op dn' out:=by
 have key:TrM v m p0 q0 (op++[s]) dn' out:=⟨h.mem,h.nd,h.opn,fun p q g=>by
  rcases (hd p q).1 g with g | ⟨rfl,rfl⟩
  ·exact h.don p q g
  ·exact .inr hn,fun t ht p q hp=>(hd p q).2 (.inl (h.all t ht p q hp)),fun t ht p q hp=>(h.rev t ht p q hp).imp id fun g=>(hd _ _).2 (.inl g),h.sta.imp id fun g=>(hd _ _).2 (.inl g),h.len⟩
 exact key.skip ((hd _ _).2 (.inr ⟨rfl,rfl⟩))
theorem TrM.more {op:List Aa} {dn dn':Int→Int→Prop} {out:List Ai} {s:Aa} {t:Ai} (h:TrM v m p0 q0 (op++[s]) dn out) (hs:¬ dn s.a0 s.a1) (ht:Ut m t) (hst:Fk t s.a0 s.a1)
  (hd:∀ p q,dn' p q↔dn p q∨Fk t p q) (hx:∀ p q,Fk t p q→okM v m q p):TrM v m p0 q0 (op++[⟨t.a1,t.a0⟩,⟨t.a2,t.a1⟩,⟨t.a0,t.a2⟩]) dn' (out++[t]):=by
 have hin:∀ {p q:Int},⟨p,q⟩∈op++[s]→(⟨p,q⟩:Aa)∈op++[⟨t.a1,t.a0⟩,⟨t.a2,t.a1⟩,⟨t.a0,t.a2⟩]∨dn' p q:=fun {p q} g=>by
  rcases Vy g with g | g
  ·exact .inl (List.mem_append.2 (.inl g))
  ·right
   rw [← g] at hst
   exact (hd _ _).2 (.inr hst)
 refine ⟨fun x hx=>?_,?_,fun x hx'=>?_,fun p q g=>?_,fun x hx' p q g=>?_,fun x hx' p q g=>?_,?_,?_⟩
 ·rcases List.mem_append.1 hx with hx | hx
  ·exact h.mem x hx
  ·rw [List.mem_singleton] at hx;subst hx;exact ht
 ·rw [List.nodup_append]
  refine ⟨h.nd,by simp,fun x hm y hy e=>?_⟩
  rw [List.mem_singleton] at hy
  rw [hy] at e
  rw [e] at hm
  exact hs (h.all t hm _ _ hst)
 ·rcases List.mem_append.1 hx' with hx' | hx'
  ·exact h.opn x (by simp [hx'])
  ·simp only [List.mem_cons,List.not_mem_nil,or_false] at hx'
   rcases hx' with rfl | rfl | rfl
   ·exact hx t.a0 t.a1 (.inl ⟨rfl,rfl⟩)
   ·exact hx t.a1 t.a2 (.inr (.inl ⟨rfl,rfl⟩))
   ·exact hx t.a2 t.a0 (.inr (.inr ⟨rfl,rfl⟩))
 ·rcases (hd p q).1 g with g | g
  ·rcases h.don p q g with ⟨x,hx,g⟩ | g
   ·exact .inl ⟨x,by simp [hx],g⟩
   ·exact .inr g
  ·exact .inl ⟨t,by simp,g⟩
 ·rcases List.mem_append.1 hx' with hx' | hx'
  ·exact (hd p q).2 (.inl (h.all x hx' p q g))
  ·rw [List.mem_singleton] at hx';subst hx';exact (hd p q).2 (.inr g)
 ·rcases List.mem_append.1 hx' with hx' | hx'
  ·rcases h.rev x hx' p q g with g | g
   ·exact hin g
   ·exact .inr ((hd _ _).2 (.inl g))
  ·rw [List.mem_singleton] at hx'
   subst hx'
   left
   refine List.mem_append.2 (.inr ?_)
   rcases g with ⟨rfl,rfl⟩ | ⟨rfl,rfl⟩ | ⟨rfl,rfl⟩ <;> simp
 ·rcases h.sta with g | g
  ·exact hin g
  ·exact .inr ((hd _ _).2 (.inl g))
 ·have:=h.len
  simp only [List.length_append,List.length_cons,List.length_nil] at this ⊢
  omega
theorem Aap (hM:Tri (plV v) (inN v.length) (apM m)) {out:List Ai} (hmem:∀ t∈out,Ut m t) (hnd:out.Nodup):out.length≤v.length*v.length:=by
 have h1:(out.map fun t=>(t.a0.toNat*v.length+t.a1.toNat)).Nodup:=by
  unfold List.Nodup
  rw [List.pairwise_map]
  refine List.Pairwise.imp_of_mem ?_ hnd
  intro x y hx hy hne e
  obtain ⟨x1,x2,x3⟩:=hmem x hx
  obtain ⟨y1,y2,y3⟩:=hmem y hy
  obtain ⟨x4,x5,_⟩:=hM.ccw _ _ _ x3
  obtain ⟨y4,y5,_⟩:=hM.ccw _ _ _ y3
  unfold inN at x4 x5 y4 y5
  have e1:x.a1.toNat=y.a1.toNat:=by
   have:=congrArg (· % v.length) e
   simp only [Nat.mul_add_mod_self_right] at this
   rwa [Nat.mod_eq_of_lt (by omega),Nat.mod_eq_of_lt (by omega)] at this
  have e2:x.a0.toNat=y.a0.toNat:=by
   rw [e1] at e
   have e':x.a0.toNat*v.length=y.a0.toNat*v.length:=by omega
   exact Nat.eq_of_mul_eq_mul_right (by omega) e'
  have e3:x.a0=y.a0:=by omega
  have e4:x.a1=y.a1:=by omega
  apply hne
  obtain ⟨xa,xb,xc⟩:=x
  obtain ⟨ya,yb,yc⟩:=y
  simp only at e3 e4 x3 y3
  subst e3;subst e4
  rw [Option.some.inj (x3.symm.trans y3)]
 have:=Hw (m:=List.range (v.length*v.length)) h1 fun x hx=>by
  obtain ⟨t,ht,rfl⟩:=List.mem_map.1 hx
  obtain ⟨_,_,t3⟩:=hmem t ht
  obtain ⟨t4,t5,_⟩:=hM.ccw _ _ _ t3
  unfold inN at t4 t5
  rw [List.mem_range]
  have h3:t.a0.toNat+1≤v.length:=by omega
  have:=Nat.mul_le_mul_right v.length h3
  rw [Nat.add_mul] at this
  omega
 rwa [List.length_map,List.length_range] at this
theorem TrM.bound (hM:Tri (plV v) (inN v.length) (apM m)) {op:List Aa} {dn:Int→Int→Prop} {out:List Ai} (h:TrM v m p0 q0 op dn out):out.length≤v.length*v.length:=Aap hM h.mem h.nd
end
end Go.Proofs.YtgfiafnelibjgaaGreat
/- Sorting by insertion, the stack's sides, the copy of the vertices: what the reference's mesh needs with lines and without. -/
namespace Go.Proofs.YtgfiafnelibjgaaGreat
open Go Go.RowKit
/-! ### sorting by insertion -/
section
variable {α:Type} {lt:α→α→Bool}
end
variable {v:List Ab}
end Go.Proofs.YtgfiafnelibjgaaGreat
/- The reference's mesh with lines is the program's. -/
namespace Go.Proofs.YtgfiafnelibjgaaGreat
open Go Go.RowKit
section
variable {v:List Ab} {m:Mp} {L l:List Aa}
/-- The first side has a triangle. -/
theorem Al4 (hv:Ci v) (hM:Mesh v L m) {f b:Int} (hf:inN v.length f) (low:∀ k,inN v.length k→k=f∨befP (plV v f) (plV v k)) (hb:inN v.length b) (hbf:b≠f) (hh:∀ k,inN v.length k→k≠f→behind v f b k):∃ e,apM m f b=some e:=by
 have left:∀ d,inN v.length d→0≤crs (plV v f) (plV v b) (plV v d):=fun d hd=>by
  by_cases e:d=f
  ·rw [e,Cc];exact Int.le_refl _
  ·rcases hh d hd e with g | g <;> omega
 have hfree:Free v f b:=fun z hz n1 n2 g=>by
  obtain ⟨g0,g⟩:=g
  have h1:=(low z hz).resolve_left n1
  rcases hh z hz n1 with k | ⟨_,k⟩
  ·omega
  ·have h2:=(Iq (Gl hv hz hb n2)).resolve_left k
   exact g ⟨fun _=>h2,fun _=>h1⟩
 rcases Aj3 hv hM.tri hf hb (fun e=>hbf e.symm) hfree (Ags hv hM.map hM.tri hM.cov hM.ne hf hb) with (g | g) | ⟨x,y,g,g1,g2⟩
 ·exact Option.ne_none_iff_exists'.1 g
 ·exfalso
  obtain ⟨e,he⟩:=Option.ne_none_iff_exists'.1 g
  obtain ⟨_,_,ve,T⟩:=hM.tri.ccw _ _ _ he
  have:=left e ve
  rw [Aw] at T;omega
 ·exfalso
  obtain ⟨vx,_,_,_⟩:=hM.tri.ccw _ _ _ g
  have:=left x vx
  omega
/-- The triangles are those of a mesh, each once, in order. -/
structure Ni (v:List Ab) (m:Mp) (T:List Ai):Prop where
 ord:T.Pairwise fun x y=>¬ cmp3 y x < 0
 nd:T.Nodup
 mem:∀ t,t∈T↔Ut m t
theorem Ni.unique {T T':List Ai} (h:Ni v m T) (h':Ni v m T'):T=T' :=
 Zn tot3 (fun _ _=>trivial) h.ord h'.ord ((List.perm_ext_iff_of_nodup h.nd h'.nd).2 fun t=>(h.mem t).trans (h'.mem t).symm)
theorem Aow (hm:MapN v.length m):Ni v m (Av cmp3 (m.flatMap triF)):=by
 have memt:∀ t:Ai,t∈m.flatMap triF↔Ut m t:=fun t=>by
  rw [List.mem_flatMap]
  constructor
  ·rintro ⟨⟨⟨a,b⟩,c⟩,hq,ht⟩
   unfold triF at ht
   split at ht
   ·rename_i hlt
    rw [List.mem_singleton] at ht
    subst ht
    exact ⟨hlt.1,hlt.2,Kt hm.ok hq⟩
   ·cases ht
  ·rintro ⟨h1,h2,h3⟩
   refine ⟨(⟨t.a0,t.a1⟩,t.a2),Fz h3,?_⟩
   unfold triF
   rw [if_pos ⟨h1,h2⟩]
   exact List.mem_singleton.2 rfl
 refine ⟨Mo tot3 (fun _ _=>trivial),(Gc _ _).nodup_iff.2 ?_,fun t=>by rw [Gu,memt]⟩
 have:∀ l:Mp,El l→(l.flatMap triF).Nodup:=by
  intro l
  induction l with
  | nil=>intro _;exact List.Pairwise.nil
  | cons q r ih =>
   intro hl
   obtain ⟨h1,h2⟩:=List.pairwise_cons.1 hl
   rw [List.flatMap_cons,List.nodup_append]
   refine ⟨?_,ih h2,fun x hx y hy e=>?_⟩
   ·unfold triF
    split
    ·simp
    ·exact List.Pairwise.nil
   ·subst e
    obtain ⟨q',hq',hy⟩:=List.mem_flatMap.1 hy
    have key:∀ q:Aa × Int,x∈triF q→q.1=⟨x.a0,x.a1⟩:=fun q hq=>by
     unfold triF at hq
     split at hq
     ·rw [List.mem_singleton] at hq
      subst hq
      rfl
     ·cases hq
    exact h1 q' hq' (by rw [key _ hx,key _ hy])
 exact this m hm.ok
end
end Go.Proofs.YtgfiafnelibjgaaGreat
