/- The reference's apex: the triangle to the left of a side whose circle is the least; ties by the first place. -/
import Derived.Test.YtgfiafnelibjgaaGreatEs
import Derived.Test.YtgfiafnelibjgaaGreatL9
import Derived.Test.YtgfiafnelibjgaaGreatE2
import Derived.Test.YtgfiafnelibjgaaGreatU18
namespace Go.Proofs.YtgfiafnelibjgaaGreat
open Go Go.RowKit
variable {v:List Ab}
/-- The third corner of the triangle to the left of a side, if there is one. -/
def Top (v:List Ab) (a b c:Int):Prop:=inN v.length c∧0 < crs (plV v a) (plV v b) (plV v c)∧∀ d,inN v.length d→0 < crs (plV v a) (plV v b) (plV v d)→d≠c→DH (plV v) (hV v) a b c d < 0
theorem Ajh (a b c d:Int):DH (plV v) (hV v) a b d c = -DH (plV v) (hV v) a b c d:=Afq _ _ _ _ _ _ _ _
theorem Top.unique {a b c d:Int} (h:Top v a b c) (k:Top v a b d):c=d:=by
 by_cases e:c=d
 ·exact e
 ·have h1:=h.2.2 d k.1 k.2.1 (fun g=>e g.symm)
  have h2:=k.2.2 c h.1 h.2.1 e
  rw [Ajh] at h2
  omega
theorem Del.top {a b c:Int} (h:Del v a b c):Top v a b c:=by
 obtain ⟨h1,h2,h3,h4,h5⟩:=h
 refine ⟨h3,h4,fun d hd hp hne=>h5 d hd (fun e=>?_) (fun e=>?_) hne⟩
 ·subst e;rw [Ck] at hp;omega
 ·subst e;rw [Bo] at hp;omega
theorem Del.unique {a b c d:Int} (h:Del v a b c) (k:Del v a b d):c=d:=h.top.unique k.top
/-- Across a side of a triangle. -/
theorem Top.across {a b c e:Int} (h:Del v a b c) (k:Top v b a e):Del v b a e:=by
 obtain ⟨h1,h2,h3,h4,h5⟩:=h
 obtain ⟨k1,k2,k3⟩:=k
 refine ⟨h2,h1,k1,k2,fun d hd n1 n2 n3=>?_⟩
 by_cases hp:0 < crs (plV v b) (plV v a) (plV v d)
 ·exact k3 d hd hp n3
 have hx:0≤crs (plV v a) (plV v b) (plV v d):=by rw [Ay] at hp;omega
 have he:crs (plV v a) (plV v b) (plV v e) < 0:=by rw [Ay] at k2;omega
 have hne:e≠c:=fun g=>by rw [g] at he;omega
 have hea:e≠a:=fun g=>by rw [g,Ck] at he;omega
 have heb:e≠b:=fun g=>by rw [g,Bo] at he;omega
 have hD:=h5 e k1 hea heb hne
 obtain ⟨p1,p2⟩:=Wj (P:=plV v) (H:=hV v) (a:=a) (b:=b) (c:=c) (d:=d) (h5 d hd)
 have key:=Mk (hV v a) (hV v b) (hV v c) (hV v e) (plV v a) (plV v b) (plV v c) (plV v e) (plV v d)
 unfold DH at hD ⊢
 rw [Yn]
 generalize plt (hV v b) (hV v a) (hV v e) (plV v b) (plV v a) (plV v e) (plV v d)=L at *
 generalize plt (hV v a) (hV v b) (hV v c) (plV v a) (plV v b) (plV v c) (plV v d)=M at *
 generalize Dt (hV v a) (hV v b) (hV v c) (hV v e) (plV v a) (plV v b) (plV v c) (plV v e)=D at *
 have hlt:M*crs (plV v b) (plV v a) (plV v e)+D*crs (plV v a) (plV v b) (plV v d) < hV v d*crs (plV v a) (plV v b) (plV v c)*crs (plV v b) (plV v a) (plV v e):=by
  by_cases g:d=c
  ·subst g
   have e1:=Int.mul_le_mul_of_nonneg_right p1 (Int.le_of_lt k2)
   have e2:=Int.mul_neg_of_neg_of_pos hD h4
   omega
  ·have e1:=Int.mul_lt_mul_of_pos_right (p2 n2 n1 g) k2
   have e2:=Int.mul_nonpos_of_nonpos_of_nonneg (Int.le_of_lt hD) hx
   omega
 have e3:(L-hV v d*crs (plV v b) (plV v a) (plV v e))*crs (plV v a) (plV v b) (plV v c) < 0:=by
  have:(L-hV v d*crs (plV v b) (plV v a) (plV v e))*crs (plV v a) (plV v b) (plV v c)=L*crs (plV v a) (plV v b) (plV v c)-hV v d*crs (plV v a) (plV v b) (plV v c)*crs (plV v b) (plV v a) (plV v e):=by grind
  omega
 rcases Int.lt_or_le (L-hV v d*crs (plV v b) (plV v a) (plV v e)) 0 with g | g
 ·exact g
 ·have:=Int.mul_nonneg g (Int.le_of_lt h4);omega
/-- At a side of the hull. -/
theorem Top.hull {a b c:Int} (hv:Cg v) (ha:inN v.length a) (hb:inN v.length b) (hl:∀ d,inN v.length d→0≤crs (plV v a) (plV v b) (plV v d))
  (ho:∀ d,inN v.length d→d≠a→d≠b→crs (plV v a) (plV v b) (plV v d)=0→∀ x,0 < crs (plV v a) (plV v b) x→crs (plV v b) x (plV v d) < 0) (k:Top v a b c):Del v a b c:=by
 obtain ⟨k1,k2,k3⟩:=k
 refine ⟨ha,hb,k1,k2,fun d hd n1 n2 n3=>?_⟩
 by_cases hp:0 < crs (plV v a) (plV v b) (plV v d)
 ·exact k3 d hd hp n3
 have h0:crs (plV v a) (plV v b) (plV v d)=0:=by have:=hl d hd;omega
 rw [← Mn]
 exact Mv hv b c a d hb k1 ha hd (by rw [Am];exact k2) (ho d hd n1 n2 h0 _ k2) (.inr (by omega))
/-! ### circles through two places -/
end Go.Proofs.YtgfiafnelibjgaaGreat
/- The reference's apex: the best places, their order around a, and who cuts off whom. -/
namespace Go.Proofs.YtgfiafnelibjgaaGreat
open Go Go.RowKit
variable {v:List Ab} {a b:Int}
/-- The best ones of the places before k. -/
structure Best (v:List Ab) (a b k:Int) (s:List Int):Prop where
 mem:∀ c∈s,inN v.length c∧c < k∧0 < crs (plV v a) (plV v b) (plV v c)
 none:s=[]→∀ d,inN v.length d→d < k→crs (plV v a) (plV v b) (plV v d)≤0
 top:∀ c∈s,∀ d,inN v.length d→d < k→0 < crs (plV v a) (plV v b) (plV v d)→(inC (plV v a) (plV v b) (plV v c) (plV v d) < 0∧d ∉ s)∨(inC (plV v a) (plV v b) (plV v c) (plV v d)=0∧d∈s)
 nd:s.Nodup
theorem Best.nil:Best v a b 0 []:=⟨fun c h=>(by cases h),fun _ d hd h=>by unfold inN at hd;omega,fun c h=>(by cases h),List.nodup_nil⟩
theorem Best.skip {k:Int} {s:List Int} (h:Best v a b k s) (hk:crs (plV v a) (plV v b) (plV v k)≤0):Best v a b (k+1) s:=by
 refine ⟨fun c hc=>?_,fun e d hd hl=>?_,fun c hc d hd hl hp=>?_,h.nd⟩
 ·obtain ⟨h1,h2,h3⟩:=h.mem c hc
  exact ⟨h1,by omega,h3⟩
 ·by_cases g:d=k
  ·subst g;exact hk
  ·exact h.none e d hd (by omega)
 ·by_cases g:d=k
  ·subst g;omega
  ·exact h.top c hc d hd (by omega) hp
theorem Agj (a b c:Ac):inC a b c c=0:=by unfold inC lft crs;grind
theorem Best.one {k:Int} (hk:inN v.length k) (hp:0 < crs (plV v a) (plV v b) (plV v k)) (ho:∀ d,inN v.length d→d < k→0 < crs (plV v a) (plV v b) (plV v d)→inC (plV v a) (plV v b) (plV v k) (plV v d) < 0):Best v a b (k+1) [k]:=by
 refine ⟨fun c hc=>?_,fun e=>(by cases e),fun c hc d hd hl hq=>?_,by simp⟩
 ·rw [List.mem_singleton] at hc
  subst hc
  exact ⟨hk,by omega,hp⟩
 ·rw [List.mem_singleton] at hc
  subst hc
  by_cases g:d=c
  ·subst g;exact .inr ⟨Agj _ _ _,List.mem_singleton.2 rfl⟩
  ·exact .inl ⟨ho d hd (by omega) hq,by simpa using g⟩
theorem Best.first {k:Int} (h:Best v a b k []) (hk:inN v.length k) (hp:0 < crs (plV v a) (plV v b) (plV v k)):Best v a b (k+1) [k] :=
 Best.one hk hp fun d hd hl hq=>by have:=h.none rfl d hd hl;omega
/-- Places to the left of a-b, on one circle with a and b. -/
structure Circ (v:List Ab) (a b:Int) (l:List Int):Prop where
 mem:∀ c∈l,inN v.length c∧0 < crs (plV v a) (plV v b) (plV v c)
 on:∀ c∈l,∀ d∈l,inC (plV v a) (plV v b) (plV v c) (plV v d)=0
 nd:l.Nodup
theorem Best.circ {k:Int} {s:List Int} (h:Best v a b k s):Circ v a b s :=
 ⟨fun c hc=>⟨(h.mem c hc).1,(h.mem c hc).2.2⟩,fun c hc d hd=>by
  obtain ⟨h1,h2,h3⟩:=h.mem d hd
  rcases h.top c hc d h1 h2 h3 with g | g
  ·exact absurd hd g.2
  ·exact g.1,h.nd⟩
theorem Circ.sub {l l':List Int} (h:Circ v a b l) (hs:∀ x∈l',x∈l) (hn:l'.Nodup):Circ v a b l':=⟨fun c hc=>h.mem c (hs c hc),fun c hc d hd=>h.on c (hs c hc) d (hs d hd),hn⟩
theorem Circ.trans {l:List Int} (h:Circ v a b l) {c d e:Int} (hc:c∈l) (hd:d∈l) (he:e∈l) (h1:0 < crs (plV v a) (plV v c) (plV v d)) (h2:0 < crs (plV v a) (plV v d) (plV v e)):0 < crs (plV v a) (plV v c) (plV v e):=by
 have p:=Ou (plV v a) (plV v b) (plV v c) (plV v d) (plV v e)
 have e1:=Int.mul_pos (h.mem c hc).2 h2
 have e2:=Int.mul_pos (h.mem e he).2 h1
 refine Cp (x:=crs (plV v a) (plV v b) (plV v d)) ?_ (h.mem d hd).2
 omega
/-- .. in their order around a. -/
structure Ring (v:List Ab) (a b:Int) (l:List Int):Prop where
 circ:Circ v a b l
 ord:l.Pairwise fun x y=>0 < crs (plV v a) (plV v x) (plV v y)
section
variable (hv:Cg v) (ha:inN v.length a) (hb:inN v.length b) {l:List Int}
include hv ha hb
end
end Go.Proofs.YtgfiafnelibjgaaGreat
/- The reference's triangles: the stack of open sides. -/
namespace Go.Proofs.YtgfiafnelibjgaaGreat
open Go Go.RowKit
variable {v:List Ab} {p0 q0:Int}
def Nq (t:Aj) (p q:Int):Prop:=(p=t.a0∧q=t.a1)∨(p=t.a1∧q=t.a2)∨(p=t.a2∧q=t.a0)
def Agk (v:List Ab) (t:Aj):Prop:=t.a0 < t.a1∧t.a0 < t.a2∧Del v t.a0 t.a1 t.a2
theorem Agk.side {t:Aj} (h:Agk v t) {p q:Int} (hs:Nq t p q):∃ e,Del v p q e:=by
 obtain ⟨_,_,h⟩:=h
 rcases hs with ⟨rfl,rfl⟩ | ⟨rfl,rfl⟩ | ⟨rfl,rfl⟩
 ·exact ⟨_,h⟩
 ·exact ⟨_,h.rot⟩
 ·exact ⟨_,h.rot.rot⟩
def noT (v:List Ab) (p q:Int):Prop:=∀ d,inN v.length d→crs (plV v p) (plV v q) (plV v d)≤0
def okS (v:List Ab) (p q:Int):Prop:=inN v.length p∧inN v.length q∧(noT v p q∨∃ e,Del v p q e)
/-- What the stack, the sides done and the triangles are. -/
structure Tr (v:List Ab) (p0 q0:Int) (op:List Aa) (dn:Int→Int→Prop) (out:List Aj):Prop where
 mem:∀ t∈out,Agk v t
 nd:out.Nodup
 opn:∀ s∈op,okS v s.a0 s.a1
 don:∀ p q,dn p q→(∃ t∈out,Nq t p q)∨noT v p q
 all:∀ t∈out,∀ p q,Nq t p q→dn p q
 rev:∀ t∈out,∀ p q,Nq t p q→⟨q,p⟩∈op∨dn q p
 sta:⟨p0,q0⟩∈op∨dn p0 q0
 len:op.length≤3*out.length+1
theorem Vm {x s:Aa} {op:List Aa} (h:x∈op++[s]):x∈op∨x=s:=by simpa using h
theorem Tr.skip {op:List Aa} {dn:Int→Int→Prop} {out:List Aj} {s:Aa} (h:Tr v p0 q0 (op++[s]) dn out) (hs:dn s.a0 s.a1):Tr v p0 q0 op dn out :=
 ⟨h.mem,h.nd,fun x hx=>h.opn x (by simp [hx]),h.don,h.all,fun t ht p q hp=>(h.rev t ht p q hp).elim (fun g=>(Vm g).imp id fun e=>by subst e;exact hs) .inr,
  h.sta.elim (fun g=>(Vm g).imp id fun e=>by subst e;exact hs) .inr,by have:=h.len;rw [List.length_append,List.length_singleton] at this;omega⟩
theorem Tr.none {op:List Aa} {dn dn':Int→Int→Prop} {out:List Aj} {s:Aa} (h:Tr v p0 q0 (op++[s]) dn out) (hd:∀ p q,dn' p q↔dn p q∨(p=s.a0∧q=s.a1)) (hn:noT v s.a0 s.a1):Tr v p0 q0 op dn' out:=by
 have key:Tr v p0 q0 (op++[s]) dn' out:=⟨h.mem,h.nd,h.opn,fun p q g=>by
  rcases (hd p q).1 g with g | ⟨rfl,rfl⟩
  ·exact h.don p q g
  ·exact .inr hn,fun t ht p q hp=>(hd p q).2 (.inl (h.all t ht p q hp)),fun t ht p q hp=>(h.rev t ht p q hp).imp id fun g=>(hd _ _).2 (.inl g),h.sta.imp id fun g=>(hd _ _).2 (.inl g),h.len⟩
 exact key.skip ((hd _ _).2 (.inr ⟨rfl,rfl⟩))
theorem Tr.more {op:List Aa} {dn dn':Int→Int→Prop} {out:List Aj} {s:Aa} {t:Aj} (h:Tr v p0 q0 (op++[s]) dn out) (hs:¬ dn s.a0 s.a1) (ht:Agk v t) (hst:Nq t s.a0 s.a1)
  (hd:∀ p q,dn' p q↔dn p q∨Nq t p q) (hx:∀ p q,Nq t p q→okS v q p):Tr v p0 q0 (op++[⟨t.a1,t.a0⟩,⟨t.a2,t.a1⟩,⟨t.a0,t.a2⟩]) dn' (out++[t]):=by
 have hin:∀ {p q:Int},⟨p,q⟩∈op++[s]→(⟨p,q⟩:Aa)∈op++[⟨t.a1,t.a0⟩,⟨t.a2,t.a1⟩,⟨t.a0,t.a2⟩]∨dn' p q:=fun {p q} g=>by
  rcases Vm g with g | g
  ·exact .inl (List.mem_append.2 (.inl g))
  ·right
   rw [← g] at hst
   exact (hd _ _).2 (.inr hst)
 refine ⟨fun x hx=>?_,?_,fun x hx'=>?_,fun p q g=>?_,fun x hx' p q g=>?_,fun x hx' p q g=>?_,?_,?_⟩
 ·rcases List.mem_append.1 hx with hx | hx
  ·exact h.mem x hx
  ·rw [List.mem_singleton] at hx;subst hx;exact ht
 ·rw [List.nodup_append]
  refine ⟨h.nd,by simp,fun x hm y hy e=>?_⟩
  rw [List.mem_singleton] at hy
  rw [hy] at e
  rw [e] at hm
  exact hs (h.all t hm _ _ hst)
 ·rcases List.mem_append.1 hx' with hx' | hx'
  ·exact h.opn x (by simp [hx'])
  ·simp only [List.mem_cons,List.not_mem_nil,or_false] at hx'
   rcases hx' with rfl | rfl | rfl
   ·exact hx t.a0 t.a1 (.inl ⟨rfl,rfl⟩)
   ·exact hx t.a1 t.a2 (.inr (.inl ⟨rfl,rfl⟩))
   ·exact hx t.a2 t.a0 (.inr (.inr ⟨rfl,rfl⟩))
 ·rcases (hd p q).1 g with g | g
  ·rcases h.don p q g with ⟨x,hx,g⟩ | g
   ·exact .inl ⟨x,by simp [hx],g⟩
   ·exact .inr g
  ·exact .inl ⟨t,by simp,g⟩
 ·rcases List.mem_append.1 hx' with hx' | hx'
  ·exact (hd p q).2 (.inl (h.all x hx' p q g))
  ·rw [List.mem_singleton] at hx';subst hx';exact (hd p q).2 (.inr g)
 ·rcases List.mem_append.1 hx' with hx' | hx'
  ·rcases h.rev x hx' p q g with g | g
   ·exact hin g
   ·exact .inr ((hd _ _).2 (.inl g))
  ·rw [List.mem_singleton] at hx'
   subst hx'
   left
   refine List.mem_append.2 (.inr ?_)
   rcases g with ⟨rfl,rfl⟩ | ⟨rfl,rfl⟩ | ⟨rfl,rfl⟩ <;> simp
 ·rcases h.sta with g | g
  ·exact hin g
  ·exact .inr ((hd _ _).2 (.inl g))
 ·have:=h.len
  simp only [List.length_append,List.length_cons,List.length_nil] at this ⊢
  omega
/-- How many triangles there may be. -/
theorem Ahu {out:List Aj} (hmem:∀ t∈out,Agk v t) (hnd:out.Nodup):out.length≤v.length*v.length:=by
 have h1:(out.map fun t=>(t.a0.toNat*v.length+t.a1.toNat)).Nodup:=by
  unfold List.Nodup
  rw [List.pairwise_map]
  refine List.Pairwise.imp_of_mem ?_ hnd
  intro x y hx hy hne e
  obtain ⟨x1,x2,x3⟩:=hmem x hx
  obtain ⟨y1,y2,y3⟩:=hmem y hy
  have x4:=x3.1
  have x5:=x3.2.1
  have y4:=y3.1
  have y5:=y3.2.1
  unfold inN at x4 x5 y4 y5
  have e1:x.a1.toNat=y.a1.toNat:=by
   have:=congrArg (· % v.length) e
   simp only [Nat.mul_add_mod_self_right] at this
   rwa [Nat.mod_eq_of_lt (by omega),Nat.mod_eq_of_lt (by omega)] at this
  have e2:x.a0.toNat=y.a0.toNat:=by
   rw [e1] at e
   have e':x.a0.toNat*v.length=y.a0.toNat*v.length:=by omega
   exact Nat.eq_of_mul_eq_mul_right (by omega) e'
  have e3:x.a0=y.a0:=by omega
  have e4:x.a1=y.a1:=by omega
  apply hne
  obtain ⟨xa,xb,xc⟩:=x
  obtain ⟨ya,yb,yc⟩:=y
  simp only at e3 e4 x3 y3
  subst e3;subst e4
  rw [x3.unique y3]
 have:=Hz (m:=List.range (v.length*v.length)) h1 fun x hx=>by
  obtain ⟨t,ht,rfl⟩:=List.mem_map.1 hx
  obtain ⟨_,_,t3⟩:=hmem t ht
  have t4:=t3.1
  have t5:=t3.2.1
  unfold inN at t4 t5
  rw [List.mem_range]
  have h3:t.a0.toNat+1≤v.length:=by omega
  have:=Nat.mul_le_mul_right v.length h3
  rw [Nat.add_mul] at this
  omega
 rwa [List.length_map,List.length_range] at this
theorem Tr.bound {op:List Aa} {dn:Int→Int→Prop} {out:List Aj} (h:Tr v p0 q0 op dn out):out.length≤v.length*v.length:=Ahu h.mem h.nd
end Go.Proofs.YtgfiafnelibjgaaGreat
/- The reference's first side: of the places on the first ray the nearest one. -/
namespace Go.Proofs.YtgfiafnelibjgaaGreat
open Go Go.RowKit
variable {v:List Ab}
/-- k lies to the left of f-b, or behind b. -/
def behind (v:List Ab) (f b k:Int):Prop:=0 < crs (plV v f) (plV v b) (plV v k)∨(crs (plV v f) (plV v b) (plV v k)=0∧¬ befP (plV v k) (plV v b))
end Go.Proofs.YtgfiafnelibjgaaGreat
/- The reference's apex: the program's loops. -/
namespace Go.Proofs.YtgfiafnelibjgaaGreat
open Go Go.RowKit
variable {v:List Ab} {a b:Int}
/-! ### the ring -/
/-! ### the third corner -/
theorem tm (x n:Int) (hx:0≤x):Int.tmod x n=x % n:=Int.tmod_eq_emod_of_nonneg hx
end Go.Proofs.YtgfiafnelibjgaaGreat
/- The reference's apex with lines: the best of the places that are seen. -/
namespace Go.Proofs.YtgfiafnelibjgaaGreat
open Go Go.RowKit
section
variable {v:List Ab} {S:Int→Prop} {a b:Int} {L:List Aa}
/-- The best ones of the places before k that are seen. -/
structure Qh (v:List Ab) (S:Int→Prop) (a b k:Int) (s:List Int):Prop where
 mem:∀ c∈s,inN v.length c∧c < k∧0 < crs (plV v a) (plV v b) (plV v c)∧S c
 none:s=[]→∀ d,inN v.length d→d < k→S d→crs (plV v a) (plV v b) (plV v d)≤0
 top:∀ c∈s,∀ d,inN v.length d→d < k→0 < crs (plV v a) (plV v b) (plV v d)→S d→(inC (plV v a) (plV v b) (plV v c) (plV v d) < 0∧d ∉ s)∨(inC (plV v a) (plV v b) (plV v c) (plV v d)=0∧d∈s)
 nd:s.Nodup
theorem Qh.nil:Qh v S a b 0 []:=⟨fun c h=>(by cases h),fun _ d hd h=>by unfold inN at hd;omega,fun c h=>(by cases h),List.nodup_nil⟩
theorem Qh.skip {k:Int} {s:List Int} (h:Qh v S a b k s) (hk:¬ (0 < crs (plV v a) (plV v b) (plV v k)∧S k)):Qh v S a b (k+1) s:=by
 refine ⟨fun c hc=>?_,fun e d hd hl hs=>?_,fun c hc d hd hl hp hs=>?_,h.nd⟩
 ·obtain ⟨h1,h2,h3⟩:=h.mem c hc
  exact ⟨h1,by omega,h3⟩
 ·by_cases g:d=k
  ·subst g
   refine Classical.byContradiction fun n=>hk ⟨by omega,hs⟩
  ·exact h.none e d hd (by omega) hs
 ·by_cases g:d=k
  ·subst g;exact absurd ⟨hp,hs⟩ hk
  ·exact h.top c hc d hd (by omega) hp hs
theorem Qh.one {k:Int} (hk:inN v.length k) (hp:0 < crs (plV v a) (plV v b) (plV v k)) (hsk:S k) (ho:∀ d,inN v.length d→d < k→0 < crs (plV v a) (plV v b) (plV v d)→S d→inC (plV v a) (plV v b) (plV v k) (plV v d) < 0):Qh v S a b (k+1) [k]:=by
 refine ⟨fun c hc=>?_,fun e=>(by cases e),fun c hc d hd hl hq hs=>?_,by simp⟩
 ·rw [List.mem_singleton] at hc
  subst hc
  exact ⟨hk,by omega,hp,hsk⟩
 ·rw [List.mem_singleton] at hc
  subst hc
  by_cases g:d=c
  ·subst g;exact .inr ⟨Agj _ _ _,List.mem_singleton.2 rfl⟩
  ·exact .inl ⟨ho d hd (by omega) hq hs,by simpa using g⟩
theorem Qh.first {k:Int} (h:Qh v S a b k []) (hk:inN v.length k) (hp:0 < crs (plV v a) (plV v b) (plV v k)) (hsk:S k):Qh v S a b (k+1) [k] :=
 Qh.one hk hp hsk fun d hd hl hq hs=>by have:=h.none rfl d hd hl hs;omega
theorem Qh.same0 {k c x:Int} {s:List Int} (h:Qh v S a b k s) (hc:c∈s) (hx:x∈s):inC (plV v a) (plV v b) (plV v c) (plV v x)=0:=by
 obtain ⟨h1,h2,h3,h4⟩:=h.mem x hx
 rcases h.top c hc x h1 h2 h3 h4 with g | g
 ·exact absurd hx g.2
 ·exact g.1
theorem Qh.circ {k:Int} {s:List Int} (h:Qh v S a b k s):Circ v a b s :=
 ⟨fun c hc=>⟨(h.mem c hc).1,(h.mem c hc).2.2.1⟩,fun c hc d hd=>h.same0 hc hd,h.nd⟩
/-- The third corner, of those that are seen. -/
def TopS (v:List Ab) (S:Int→Prop) (a b c:Int):Prop:=inN v.length c∧0 < crs (plV v a) (plV v b) (plV v c)∧S c∧∀ d,inN v.length d→0 < crs (plV v a) (plV v b) (plV v d)→S d→d≠c→DH (plV v) (hV v) a b c d < 0
theorem TopS.unique {c d:Int} (h:TopS v S a b c) (k:TopS v S a b d):c=d:=by
 by_cases e:c=d
 ·exact e
 ·have h1:=h.2.2.2 d k.1 k.2.1 k.2.2.1 (fun g=>e g.symm)
  have h2:=k.2.2.2 c h.1 h.2.1 h.2.2.1 e
  rw [Ajh] at h2
  omega
/-! ### seen -/
/-- Seen from both ends. -/
def See2 (v:List Ab) (L:List Aa) (a b c:Int):Prop:=Seen v L a c∧Seen v L b c
end
end Go.Proofs.YtgfiafnelibjgaaGreat
