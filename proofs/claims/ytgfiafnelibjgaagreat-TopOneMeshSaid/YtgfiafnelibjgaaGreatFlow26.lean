/- The reference's triangles with lines: the stack of open sides; every triangle is reached. -/
import Derived.Test.YtgfiafnelibjgaaGreatU19
import Derived.Test.YtgfiafnelibjgaaGreatE2
import Derived.Test.YtgfiafnelibjgaaGreatL9
import Derived.Test.YtgfiafnelibjgaaGreatFlow19
namespace Go.Proofs.YtgfiafnelibjgaaGreat
open Go Go.RowKit
section
variable {v:List Ab} {p0 q0:Int} {m:Mp} {L:List Aa}
/-! ### a part of a triangulation that goes on across every side is the whole -/
theorem Mesh.free (hv:Cg v) (h:Tri (plV v) (inN v.length) (apM m)) {a b c:Int} (hk:apM m a b=some c):Free v a b:=fun z hz n1 n2 g=>by
 obtain ⟨va,vb,_,_⟩:=h.ccw _ _ _ hk
 exact Yy h hk hz n1 n2 ⟨g,fun e=>n1 (hv.dist _ _ hz va e),fun e=>n2 (hv.dist _ _ hz vb e)⟩
theorem Alr (hv:Cg v) (h:Mesh v L m) {X:Int→Int→Int→Prop} (hsub:∀ a b c,X a b c→apM m a b=some c) (hrot:∀ a b c,X a b c→X b c a) (htw:∀ a b c,X a b c→∀ d,inN v.length d→crs (plV v a) (plV v b) (plV v d) < 0→∃ e,X b a e) (hne:∃ a b c,X a b c) {a b c:Int} (hk:apM m a b=some c):X a b c:=by
 haveI:∀ i j k,Decidable (X i j k):=fun _ _ _=>Classical.propDecidable _
 have hok:MapN v.length (m.filter fun q=>decide (X q.1.a0 q.1.a1 q.2)):=⟨List.Pairwise.filter _ h.map.ok,fun q hq=>h.map.key q (List.mem_filter.1 hq).1⟩
 have hap:∀ i j k,apM (m.filter fun q=>decide (X q.1.a0 q.1.a1 q.2)) i j=some k↔X i j k:=fun i j k=>by
  constructor
  ·intro g
   have:=(List.mem_filter.1 (Ei g)).2
   exact of_decide_eq_true (p:=X i j k) this
  ·intro g
   refine Jv hok.ok (List.mem_filter.2 ⟨Ei (hsub _ _ _ g),?_⟩)
   exact decide_eq_true (p:=X i j k) g
 have sub:∀ i j,apM (m.filter fun q=>decide (X q.1.a0 q.1.a1 q.2)) i j≠none→apM m i j≠none:=fun i j g=>by
  obtain ⟨k,hk⟩:=Option.ne_none_iff_exists'.1 g
  rw [hsub _ _ _ ((hap _ _ _).1 hk)];simp
 have ht:Tri (plV v) (inN v.length) (apM (m.filter fun q=>decide (X q.1.a0 q.1.a1 q.2))):=⟨fun i j k g=>(hap _ _ _).2 (hrot _ _ _ ((hap _ _ _).1 g)),fun i j k g=>h.tri.ccw _ _ _ (hsub _ _ _ ((hap _ _ _).1 g)),fun i j k g=>h.tri.emp _ _ _ (hsub _ _ _ ((hap _ _ _).1 g)),fun s i j k g n=>h.tri.cone s i j k (hsub _ _ _ ((hap _ _ _).1 g)) (n.imp (sub _ _) (sub _ _))⟩
 have hc:Cov (plV v) (inN v.length) (apM (m.filter fun q=>decide (X q.1.a0 q.1.a1 q.2))):=fun i j k g n d hd=>by
  refine Classical.byContradiction fun w=>?_
  obtain ⟨e,he⟩:=htw _ _ _ ((hap _ _ _).1 g) d hd (by omega)
  rw [(hap _ _ _).2 he] at n
  cases n
 have hnil:(m.filter fun q=>decide (X q.1.a0 q.1.a1 q.2))≠[]:=fun e=>by
  obtain ⟨x,y,z,hx⟩:=hne
  have:=Ei ((hap _ _ _).2 hx)
  rw [e] at this
  cases this
 obtain ⟨va,vb,vc,T⟩:=h.tri.ccw _ _ _ hk
 obtain ⟨n1,_,_⟩:=h.tri.ne hk
 have fin:(∃ e,X a b e)→X a b c:=fun ⟨e,he⟩=>by
  have:=hsub _ _ _ he
  rw [hk] at this
  cases this
  exact he
 rcases Aev hv ht va vb n1 (Mesh.free hv h.tri hk) (Ach hv hok ht hc hnil va vb) with (g | g) | ⟨x,y,g,g1,g2⟩
 ·obtain ⟨e,he⟩:=Option.ne_none_iff_exists'.1 g
  exact fin ⟨e,(hap _ _ _).1 he⟩
 ·obtain ⟨e,he⟩:=Option.ne_none_iff_exists'.1 g
  exact fin (htw _ _ _ ((hap _ _ _).1 he) c vc (by rw [Ay];omega))
 ·exfalso
  have gx:=h.tri.rot2 (hsub _ _ _ ((hap _ _ _).1 g))
  refine h.tri.cone a x y b gx (.inl (by rw [hk];simp)) ⟨?_,g2⟩
  rw [Bh];omega
/-! ### the stack -/
def Aaw (m:Mp) (t:Aj):Prop:=t.a0 < t.a1∧t.a0 < t.a2∧apM m t.a0 t.a1=some t.a2
theorem Aaw.side (hM:Tri (plV v) (inN v.length) (apM m)) {t:Aj} (h:Aaw m t) {p q:Int} (hs:Nq t p q):∃ e,apM m p q=some e:=by
 obtain ⟨_,_,h⟩:=h
 rcases hs with ⟨rfl,rfl⟩ | ⟨rfl,rfl⟩ | ⟨rfl,rfl⟩
 ·exact ⟨_,h⟩
 ·exact ⟨_,hM.rot _ _ _ h⟩
 ·exact ⟨_,hM.rot2 h⟩
def okM (v:List Ab) (m:Mp) (p q:Int):Prop:=inN v.length p∧inN v.length q∧(noT v p q∨∃ e,apM m p q=some e)
/-- What the stack, the sides done and the triangles are. -/
structure TrM (v:List Ab) (m:Mp) (p0 q0:Int) (op:List Aa) (dn:Int→Int→Prop) (out:List Aj):Prop where
 mem:∀ t∈out,Aaw m t
 nd:out.Nodup
 opn:∀ s∈op,okM v m s.a0 s.a1
 don:∀ p q,dn p q→(∃ t∈out,Nq t p q)∨noT v p q
 all:∀ t∈out,∀ p q,Nq t p q→dn p q
 rev:∀ t∈out,∀ p q,Nq t p q→⟨q,p⟩∈op∨dn q p
 sta:⟨p0,q0⟩∈op∨dn p0 q0
 len:op.length≤3*out.length+1
theorem TrM.skip {op:List Aa} {dn:Int→Int→Prop} {out:List Aj} {s:Aa} (h:TrM v m p0 q0 (op++[s]) dn out) (hs:dn s.a0 s.a1):TrM v m p0 q0 op dn out :=
 ⟨h.mem,h.nd,fun x hx=>h.opn x (by simp [hx]),h.don,h.all,fun t ht p q hp=>(h.rev t ht p q hp).elim (fun g=>(Vm g).imp id fun e=>by subst e;exact hs) .inr,
  h.sta.elim (fun g=>(Vm g).imp id fun e=>by subst e;exact hs) .inr,by have:=h.len;rw [List.length_append,List.length_singleton] at this;omega⟩
theorem TrM.none {op:List Aa} {dn dn':Int→Int→Prop} {out:List Aj} {s:Aa} (h:TrM v m p0 q0 (op++[s]) dn out) (hd:∀ p q,dn' p q↔dn p q∨(p=s.a0∧q=s.a1)) (hn:noT v s.a0 s.a1):TrM v m p0 q0 op dn' out:=by
 have key:TrM v m p0 q0 (op++[s]) dn' out:=⟨h.mem,h.nd,h.opn,fun p q g=>by
  rcases (hd p q).1 g with g | ⟨rfl,rfl⟩
  ·exact h.don p q g
  ·exact .inr hn,fun t ht p q hp=>(hd p q).2 (.inl (h.all t ht p q hp)),fun t ht p q hp=>(h.rev t ht p q hp).imp id fun g=>(hd _ _).2 (.inl g),h.sta.imp id fun g=>(hd _ _).2 (.inl g),h.len⟩
 exact key.skip ((hd _ _).2 (.inr ⟨rfl,rfl⟩))
theorem TrM.more {op:List Aa} {dn dn':Int→Int→Prop} {out:List Aj} {s:Aa} {t:Aj} (h:TrM v m p0 q0 (op++[s]) dn out) (hs:¬ dn s.a0 s.a1) (ht:Aaw m t) (hst:Nq t s.a0 s.a1)
  (hd:∀ p q,dn' p q↔dn p q∨Nq t p q) (hx:∀ p q,Nq t p q→okM v m q p):TrM v m p0 q0 (op++[⟨t.a1,t.a0⟩,⟨t.a2,t.a1⟩,⟨t.a0,t.a2⟩]) dn' (out++[t]):=by
 have hin:∀ {p q:Int},⟨p,q⟩∈op++[s]→(⟨p,q⟩:Aa)∈op++[⟨t.a1,t.a0⟩,⟨t.a2,t.a1⟩,⟨t.a0,t.a2⟩]∨dn' p q:=fun {p q} g=>by
  rcases Vm g with g | g
  ·exact .inl (List.mem_append.2 (.inl g))
  ·right
   rw [← g] at hst
   exact (hd _ _).2 (.inr hst)
 refine ⟨fun x hx=>?_,?_,fun x hx'=>?_,fun p q g=>?_,fun x hx' p q g=>?_,fun x hx' p q g=>?_,?_,?_⟩
 ·rcases List.mem_append.1 hx with hx | hx
  ·exact h.mem x hx
  ·rw [List.mem_singleton] at hx;subst hx;exact ht
 ·rw [List.nodup_append]
  refine ⟨h.nd,by simp,fun x hm y hy e=>?_⟩
  rw [List.mem_singleton] at hy
  rw [hy] at e
  rw [e] at hm
  exact hs (h.all t hm _ _ hst)
 ·rcases List.mem_append.1 hx' with hx' | hx'
  ·exact h.opn x (by simp [hx'])
  ·simp only [List.mem_cons,List.not_mem_nil,or_false] at hx'
   rcases hx' with rfl | rfl | rfl
   ·exact hx t.a0 t.a1 (.inl ⟨rfl,rfl⟩)
   ·exact hx t.a1 t.a2 (.inr (.inl ⟨rfl,rfl⟩))
   ·exact hx t.a2 t.a0 (.inr (.inr ⟨rfl,rfl⟩))
 ·rcases (hd p q).1 g with g | g
  ·rcases h.don p q g with ⟨x,hx,g⟩ | g
   ·exact .inl ⟨x,by simp [hx],g⟩
   ·exact .inr g
  ·exact .inl ⟨t,by simp,g⟩
 ·rcases List.mem_append.1 hx' with hx' | hx'
  ·exact (hd p q).2 (.inl (h.all x hx' p q g))
  ·rw [List.mem_singleton] at hx';subst hx';exact (hd p q).2 (.inr g)
 ·rcases List.mem_append.1 hx' with hx' | hx'
  ·rcases h.rev x hx' p q g with g | g
   ·exact hin g
   ·exact .inr ((hd _ _).2 (.inl g))
  ·rw [List.mem_singleton] at hx'
   subst hx'
   left
   refine List.mem_append.2 (.inr ?_)
   rcases g with ⟨rfl,rfl⟩ | ⟨rfl,rfl⟩ | ⟨rfl,rfl⟩ <;> simp
 ·rcases h.sta with g | g
  ·exact hin g
  ·exact .inr ((hd _ _).2 (.inl g))
 ·have:=h.len
  simp only [List.length_append,List.length_cons,List.length_nil] at this ⊢
  omega
theorem Aax (hM:Tri (plV v) (inN v.length) (apM m)) {out:List Aj} (hmem:∀ t∈out,Aaw m t) (hnd:out.Nodup):out.length≤v.length*v.length:=by
 have h1:(out.map fun t=>(t.a0.toNat*v.length+t.a1.toNat)).Nodup:=by
  unfold List.Nodup
  rw [List.pairwise_map]
  refine List.Pairwise.imp_of_mem ?_ hnd
  intro x y hx hy hne e
  obtain ⟨x1,x2,x3⟩:=hmem x hx
  obtain ⟨y1,y2,y3⟩:=hmem y hy
  obtain ⟨x4,x5,_⟩:=hM.ccw _ _ _ x3
  obtain ⟨y4,y5,_⟩:=hM.ccw _ _ _ y3
  unfold inN at x4 x5 y4 y5
  have e1:x.a1.toNat=y.a1.toNat:=by
   have:=congrArg (· % v.length) e
   simp only [Nat.mul_add_mod_self_right] at this
   rwa [Nat.mod_eq_of_lt (by omega),Nat.mod_eq_of_lt (by omega)] at this
  have e2:x.a0.toNat=y.a0.toNat:=by
   rw [e1] at e
   have e':x.a0.toNat*v.length=y.a0.toNat*v.length:=by omega
   exact Nat.eq_of_mul_eq_mul_right (by omega) e'
  have e3:x.a0=y.a0:=by omega
  have e4:x.a1=y.a1:=by omega
  apply hne
  obtain ⟨xa,xb,xc⟩:=x
  obtain ⟨ya,yb,yc⟩:=y
  simp only at e3 e4 x3 y3
  subst e3;subst e4
  rw [Option.some.inj (x3.symm.trans y3)]
 have:=Hz (m:=List.range (v.length*v.length)) h1 fun x hx=>by
  obtain ⟨t,ht,rfl⟩:=List.mem_map.1 hx
  obtain ⟨_,_,t3⟩:=hmem t ht
  obtain ⟨t4,t5,_⟩:=hM.ccw _ _ _ t3
  unfold inN at t4 t5
  rw [List.mem_range]
  have h3:t.a0.toNat+1≤v.length:=by omega
  have:=Nat.mul_le_mul_right v.length h3
  rw [Nat.add_mul] at this
  omega
 rwa [List.length_map,List.length_range] at this
theorem TrM.bound (hM:Tri (plV v) (inN v.length) (apM m)) {op:List Aa} {dn:Int→Int→Prop} {out:List Aj} (h:TrM v m p0 q0 op dn out):out.length≤v.length*v.length:=Aax hM h.mem h.nd
end
end Go.Proofs.YtgfiafnelibjgaaGreat
/- Walks of the program, with their plain functions: the reference's mesh. -/
namespace Go.Proofs.YtgfiafnelibjgaaGreat
open Go Go.RowKit
theorem Ark:Mr Tryz.prog 35 [.int .i64 (0),.int .i64 (0),.int .i64 (0)]:=⟨_,Tryz.zeroValue35,rfl⟩
instance:Wd Tryz.prog 35 [.int .i64 (0),.int .i64 (0),.int .i64 (0)]:=⟨Ark⟩
theorem Hw (x0:Int) (x1:Int) (x2:Int) (x3:Int):Dn Tryz.prog 22 1 [(0,.agg #[.int .i64 x0,.int .i64 x1,.int .i64 x2,.int .i64 x3])] 43 [.int .i64 x0,.int .i64 x1,.int .i64 x2,.int .i64 x3]:=fun w=>by kernel_rfl
instance (x0:Int) (x1:Int) (x2:Int) (x3:Int):Lv Tryz.prog 22 1 [(0,.agg #[.int .i64 x0,.int .i64 x1,.int .i64 x2,.int .i64 x3])] 43 [.int .i64 x0,.int .i64 x1,.int .i64 x2,.int .i64 x3]:=⟨Hw _ _ _ _⟩
end Go.Proofs.YtgfiafnelibjgaaGreat
/- Sorting by insertion, the stack's sides, the copy of the vertices: what the reference's mesh needs with lines and without. -/
namespace Go.Proofs.YtgfiafnelibjgaaGreat
open Go Go.RowKit
/-! ### sorting by insertion -/
section
variable {α:Type} {lt:α→α→Bool}
end
variable {v:List Ab}
theorem Ao1 (hv:Cg v) (hn:v.length≤1024) (h0:0 < v.length):∃ f,inN v.length f∧∀ k,inN v.length k→k=f∨befP (plV v f) (plV v k):=by
 obtain ⟨l,hl,hr⟩:=Ag8 hv hn
 have hlen:=hr.len
 have g0:0 < l.length:=by omega
 refine ⟨l[0],hr.val.1 (List.getElem_mem g0),fun k hk=>?_⟩
 obtain ⟨j,hj,rfl⟩:=List.getElem_of_mem (hr.val.2 hk)
 by_cases e:j=0
 ·subst e;exact .inl rfl
 ·exact .inr (hr.lt g0 hj (by omega))
end Go.Proofs.YtgfiafnelibjgaaGreat
/- The reference's mesh with lines is the program's. -/
namespace Go.Proofs.YtgfiafnelibjgaaGreat
open Go Go.RowKit
section
variable {v:List Ab} {m:Mp} {L l:List Aa}
theorem Mesh.seen_side (hv:Cg v) (h:Mesh v L m) {x y z:Int} (hk:apM m x y=some z):Seen v L x y∧Seen v L y x:=by
 obtain ⟨vx,vy,_,_⟩:=h.tri.ccw _ _ _ hk
 have hf:=Mesh.free hv h.tri hk
 have one:Seen v L x y:=fun s hs g=>by
  have hsd:apM m s.a0 s.a1≠none∨apM m s.a1 s.a0≠none:=h.side s hs
  rcases g.cr with g | g
  ·exact Yz h.tri h.cov vx vy hf (.inl (by rw [hk];simp)) g hsd
  ·exact Yz h.tri h.cov vx vy hf (.inl (by rw [hk];simp)) g hsd.symm
 exact ⟨one,fun s hs g=>one s hs (Fh.symm (Fh.rev (Fh.symm g)))⟩
theorem Mesh.topS (hv:Cg v) (h:Mesh v L m) {a b k:Int} (hk:apM m a b=some k):TopS v (See2 v L a b) a b k:=by
 obtain ⟨_,_,vk,T⟩:=h.tri.ccw _ _ _ hk
 exact ⟨vk,T,⟨(h.seen_side hv (h.tri.rot2 hk)).2,(h.seen_side hv (h.tri.rot _ _ _ hk)).1⟩,fun d hd hp hs hne=>h.best hv hk hd hp hne hs.1 hs.2⟩
/-- The first side has a triangle. -/
theorem Ad2 (hv:Cg v) (hM:Mesh v L m) {f b:Int} (hf:inN v.length f) (low:∀ k,inN v.length k→k=f∨befP (plV v f) (plV v k)) (hb:inN v.length b) (hbf:b≠f) (hh:∀ k,inN v.length k→k≠f→behind v f b k):∃ e,apM m f b=some e:=by
 have left:∀ d,inN v.length d→0≤crs (plV v f) (plV v b) (plV v d):=fun d hd=>by
  by_cases e:d=f
  ·rw [e,Ck];exact Int.le_refl _
  ·rcases hh d hd e with g | g <;> omega
 have hfree:Free v f b:=fun z hz n1 n2 g=>by
  obtain ⟨g0,g⟩:=g
  have h1:=(low z hz).resolve_left n1
  rcases hh z hz n1 with k | ⟨_,k⟩
  ·omega
  ·have h2:=(Jl (Qe hv hz hb n2)).resolve_left k
   exact g ⟨fun _=>h2,fun _=>h1⟩
 rcases Aev hv hM.tri hf hb (fun e=>hbf e.symm) hfree (Ach hv hM.map hM.tri hM.cov hM.ne hf hb) with (g | g) | ⟨x,y,g,g1,g2⟩
 ·exact Option.ne_none_iff_exists'.1 g
 ·exfalso
  obtain ⟨e,he⟩:=Option.ne_none_iff_exists'.1 g
  obtain ⟨_,_,ve,T⟩:=hM.tri.ccw _ _ _ he
  have:=left e ve
  rw [Ay] at T;omega
 ·exfalso
  obtain ⟨vx,_,_,_⟩:=hM.tri.ccw _ _ _ g
  have:=left x vx
  omega
/-- The triangles are those of a mesh, each once, in order. -/
structure Tt (v:List Ab) (m:Mp) (T:List Aj):Prop where
 ord:T.Pairwise fun x y=>¬ cmp3 y x < 0
 nd:T.Nodup
 mem:∀ t,t∈T↔Aaw m t
theorem Tt.unique {T T':List Aj} (h:Tt v m T) (h':Tt v m T'):T=T' :=
 Vi tot3 (fun _ _=>trivial) h.ord h'.ord ((List.perm_ext_iff_of_nodup h.nd h'.nd).2 fun t=>(h.mem t).trans (h'.mem t).symm)
theorem Ao2 (hm:MapN v.length m):Tt v m (Av cmp3 (m.flatMap triF)):=by
 have memt:∀ t:Aj,t∈m.flatMap triF↔Aaw m t:=fun t=>by
  rw [List.mem_flatMap]
  constructor
  ·rintro ⟨⟨⟨a,b⟩,c⟩,hq,ht⟩
   unfold triF at ht
   split at ht
   ·rename_i hlt
    rw [List.mem_singleton] at ht
    subst ht
    exact ⟨hlt.1,hlt.2,Jv hm.ok hq⟩
   ·cases ht
  ·rintro ⟨h1,h2,h3⟩
   refine ⟨(⟨t.a0,t.a1⟩,t.a2),Ei h3,?_⟩
   unfold triF
   rw [if_pos ⟨h1,h2⟩]
   exact List.mem_singleton.2 rfl
 refine ⟨Jm tot3 (fun _ _=>trivial),(Eo _ _).nodup_iff.2 ?_,fun t=>by rw [Dh,memt]⟩
 have:∀ l:Mp,Er l→(l.flatMap triF).Nodup:=by
  intro l
  induction l with
  | nil=>intro _;exact List.Pairwise.nil
  | cons q r ih =>
   intro hl
   obtain ⟨h1,h2⟩:=List.pairwise_cons.1 hl
   rw [List.flatMap_cons,List.nodup_append]
   refine ⟨?_,ih h2,fun x hx y hy e=>?_⟩
   ·unfold triF
    split
    ·simp
    ·exact List.Pairwise.nil
   ·subst e
    obtain ⟨q',hq',hy⟩:=List.mem_flatMap.1 hy
    have key:∀ q:Aa × Int,x∈triF q→q.1=⟨x.a0,x.a1⟩:=fun q hq=>by
     unfold triF at hq
     split at hq
     ·rw [List.mem_singleton] at hq
      subst hq
      rfl
     ·cases hq
    exact h1 q' hq' (by rw [key _ hx,key _ hy])
 exact this m hm.ok
end
end Go.Proofs.YtgfiafnelibjgaaGreat
/- The mesh of the square, for the layouts with lines. -/
namespace Go.Proofs.YtgfiafnelibjgaaGreat
open Go Go.RowKit
def sqv:List Ab:=[⟨0,0,⟨0,0⟩⟩,⟨2,0,⟨0,0⟩⟩,⟨0,2,⟨0,0⟩⟩,⟨2,2,⟨0,0⟩⟩]
theorem Arl:Dx sqv=0:=by
 unfold Dx sqv Dj Rc Jp okP pP
 simp
theorem Aj6:∀ a∈([0,1,2,3]:List Int),∀ b∈([0,1,2,3]:List Int),∀ c∈([0,1,2,3]:List Int),
  ((a < b∧a < c∧0 < crs (plV sqv a) (plV sqv b) (plV sqv c)∧∀ d∈([0,1,2,3]:List Int),d≠a→d≠b→d≠c→DH (plV sqv) (hV sqv) a b c d < 0)↔((a=0∧b=1∧c=2)∨(a=1∧b=3∧c=2))):=by
 decide +kernel
theorem in4 {i:Int}:inN sqv.length i↔i∈([0,1,2,3]:List Int):=by
 unfold inN sqv
 simp
 omega
theorem Ao3:Af6 sqv [⟨0,1,2⟩,⟨1,3,2⟩]:=by
 refine ⟨by simp [cmp3,cmpI],by simp,fun t=>?_⟩
 obtain ⟨a,b,c⟩:=t
 have key:∀ a b c,Del sqv a b c↔a∈([0,1,2,3]:List Int)∧b∈([0,1,2,3]:List Int)∧c∈([0,1,2,3]:List Int)∧0 < crs (plV sqv a) (plV sqv b) (plV sqv c)∧∀ d∈([0,1,2,3]:List Int),d≠a→d≠b→d≠c→DH (plV sqv) (hV sqv) a b c d < 0:=fun a b c=>by
  unfold Del
  simp only [in4]
 dsimp only
 rw [key]
 constructor
 ·intro h
  have e:(a=0∧b=1∧c=2)∨(a=1∧b=3∧c=2):=by simpa using h
  have ha:a∈([0,1,2,3]:List Int):=by rcases e with ⟨rfl,_,_⟩ | ⟨rfl,_,_⟩ <;> simp
  have hb:b∈([0,1,2,3]:List Int):=by rcases e with ⟨_,rfl,_⟩ | ⟨_,rfl,_⟩ <;> simp
  have hc:c∈([0,1,2,3]:List Int):=by rcases e with ⟨_,_,rfl⟩ | ⟨_,_,rfl⟩ <;> simp
  obtain ⟨h1,h2,h3,h4⟩:=(Aj6 a ha b hb c hc).2 e
  exact ⟨h1,h2,ha,hb,hc,h3,h4⟩
 ·rintro ⟨h1,h2,ha,hb,hc,h3,h4⟩
  have e:=(Aj6 a ha b hb c hc).1 ⟨h1,h2,h3,h4⟩
  simpa using e
end Go.Proofs.YtgfiafnelibjgaaGreat
/- Maps that are only read, through a pointer: known wherever the entries K stand. -/
namespace Go.Proofs.YtgfiafnelibjgaaGreat
open Go Go.RowKit
open Go.Maps (Keyed)
section
variable {κ υ:Type}
def MapK (K:List Ent) (P:Program) (k:TypeId) (ke:κ→Value) (ve:υ→Value) (g:Nat) (m:List (κ × υ)):Prop:=∀ w,(∀ e∈K,Ent.ok w e)→Tb P k ke ve g m w
variable {P:Program} {k:TypeId} {ke:κ→Value} {ve:υ→Value} {g:Nat} {m:List (κ × υ)} {K E:List Ent} {w:World}
theorem MapK.m0 (h:Au P k ke ve g m∈K):MapK K P k ke ve g m:=fun w hw=>Fo w (hw _ h)
theorem MapK.up0 (h:MapK K P k ke ve g m):MapK (K++[]) P k ke ve g m:=by rw [List.append_nil];exact h
theorem MapK.low (h:MapK (K++E) P k ke ve g m) (hK:∀ e∈K,Ent.ok w e):MapK (.old w::E) P k ke ve g m:=fun w' hw'=>h w' (fun e he=>by
 rcases List.mem_append.1 he with he | he
 ·exact Ent.ext (hK e he) (hw' (.old w) List.mem_cons_self)
 ·exact hw' e (List.mem_cons_of_mem _ he))
variable {n:Nat} {fr:List (Nat × Value)} {L:List Ent} {dst:Option Tmp} {ty:TypeId} {pos:String} {after:Array Edge} {guard:Option (Nat × Bool)} {K':List Ent}
end
section
variable {P:Program} {n:Nat} {N:Act→World→Prop} {Q:Exit→Act→World→Prop} {fr:List (Nat × Value)} {L:List Ent}
theorem RowN.one {α:Type} {sz:Nat} {K:List Ent} {R:List Ent→α→List Value→Prop} {hs:List (Vec sz)} {l:List α} (h:RowN K R hs l) (h1:∀ {x:α} {ys:List Value},R K x ys→Jw ys=true):∀ x∈hs,Jw (Asb x)=true:=fun x hx=>by
 obtain ⟨i,hi,rfl⟩:=List.getElem_of_mem hx
 exact h1 (h.2 i (by rw [← h.1];exact hi) hi)
end
end Go.Proofs.YtgfiafnelibjgaaGreat
/- Stores into an array at an index that is computed; slices.Delete of one element of an own row. -/
namespace Go.Proofs.YtgfiafnelibjgaaGreat
open Go Go.RowKit
/-- A store at an index that is computed. -/
def ifx (z k v a:Int):Int:=if z=k then v else a
theorem Atd {kd:IntKind} {a b z x v:Int} (h:idx [a,b] z=some x):Spl [.int kd a,.int kd b] (0+z.toNat*1) [.int kd v] [.int kd (ifx z 0 v a),.int kd (ifx z 1 v b)]:=by
 obtain ⟨h1,h2⟩:=Pp h
 have:z=0∨z=1:=by simp at h2;omega
 rcases this with rfl | rfl
 ·exact .put .done
 ·exact .skip (.put .done)
section
variable {P:Program} {n:Nat} {N:Act→World→Prop} {Q:Exit→Act→World→Prop} {fr:List (Nat × Value)} {L:List Ent}
variable {dst:Option Tmp} {ty:TypeId} {pos:String} {after:Array Edge} {guard:Option (Nat × Bool)}
theorem Yl (w:World) (g:Nat) (X:Array Value):w.grownBy (w.setRow g X) (some g):=⟨rfl,rfl,rfl,by simp,fun k _ hk=>setRow_other w g k _ (fun e=>hk (by rw [e]))⟩
theorem Aq3 {t x lo hi mx A m c e sz k1 k2 k3} {i j q:Nat} (hx:evo fr x=some (.slice A m c)) (hl:evo fr lo=some (.int k1 (i:Int))) (hh:evo fr hi=some (.int k2 (j:Int))) (hm:evo fr mx=some (.int k3 (q:Int))) (ht:Hv P t e sz) (h0:i≤j) (h1:j≤q) (h2:q≤c) :
  Ev P n ⟨dst,.slice t x (some lo) (some hi) (some mx),ty,pos,after,guard⟩ fr L (.slice (if q=i then A else A.map (·.add (i*sz))) (j-i) (q-i)):=fun a w ha _=>by
 simp [execOp,ha.eval hx,ha.eval hl,ha.eval hh,ha.eval hm,Instr.sliceAt,Instr.slice,run_underlying ht.1,Instr.sliceBounds,Instr.sliceBound,asIntOf,h0,h1,h2,ht.2 w,Addr.add]
/-- append(s[:i], s[j:]...): a part of an own row is moved within the row. -/
theorem Ao4 {α:Type} (enc:α→List Value) (l:List α) {d:Nat} {s x:Operand} {t e:TypeId} {sz bytes c q q' k:Nat} {A:Option Addr} {i j:Nat} {ty':TypeId} {L':List Ent}
  (hs:evo fr s=some (.slice A i c)) (hx:evo fr x=some (.slice (slA A c j sz) q q')) (ht:Ql P t e sz bytes) (he:∀ x,(enc x).length=sz) (h1:∀ x,Jw (enc x)=true) (hij:i < j) (hj:j+q=l.length) (hd:Nat.blt d n=true)
  (hL:SetE L k (.r A l.length c e sz (l.flatMap enc)) (.r A (i+q) c e sz ((l.take i++l.drop j).flatMap enc)) L')
  (kk:T n N ((d,.slice A (i+q) c)::fr) L') :
  Wh P Q n ⟨some d,.call ⟨.builtin .append,#[s,x],#[t,t]⟩,ty',pos,after,guard⟩ fr L N:=by
 intro a w ha hw
 obtain ⟨i0,z,e1,e2,e3,e4,e5⟩:=ht.ex
 have hown:w.ownsRow 0 e sz (.slice A l.length c) l.length (l.flatMap enc):=hw.ok _ hL.mem
 have hcl:=fun g=>hown.cells (g:=g)
 obtain ⟨_,h2⟩:=hown
 rcases h2 with ⟨_,h3⟩ | ⟨g,cap,cur,hv,_,hb,h3,h4,h5,h6⟩
 ·omega
 injection hv with hg _ hcap
 subst hg;subst hcap;subst e3
 have hsp:l.flatMap enc=(l.take j).flatMap enc++(l.drop j).flatMap enc:=by rw [← List.flatMap_append,List.take_append_drop]
 have hlj:((l.take j).flatMap enc).length=j*i0.size:=by rw [Gp he,List.length_take,Nat.min_eq_left (by omega)]
 have hln:((l.drop j).flatMap enc).length=q*i0.size:=by rw [Gp he,List.length_drop];congr 1;omega
 obtain ⟨b,hb1,hb2⟩:∃ b:Addr,slA (some ⟨g,0,none⟩) c j i0.size=some b∧∀ jj u,((l.drop j).flatMap enc)[jj]? = some u→w.cell? (b.add jj)=some u:=by
  unfold slA
  by_cases hc:c=j
  ·refine ⟨_,by rw [if_pos hc],fun jj u hu=>?_⟩
   have:q=0:=by omega
   subst this
   rw [Nat.zero_mul] at hln
   rw [List.length_eq_zero_iff.1 hln] at hu
   simp at hu
  ·refine ⟨⟨g,j*i0.size,none⟩,by rw [if_neg hc];simp [Addr.add_lit],fun jj u hu=>?_⟩
   have:=hcl g rfl (j*i0.size+jj) u (by rw [hsp,← hlj,List.getElem?_append_right (by omega)];simpa using hu)
   rw [Addr.add_lit] at this ⊢
   simpa using this
 have hone:∀ u∈(l.drop j).flatMap enc,u.oneCell'=true:=by
  intro u hu
  obtain ⟨x,_,hu⟩:=List.mem_flatMap.1 hu
  exact Kj (h1 x) u hu
 have hroom:i+q≤c:=by omega
 have hfit:i*i0.size+((l.drop j).flatMap enc).length≤cur.size:=by rw [hln,h5,← Nat.add_mul];exact Nat.mul_le_mul_right _ hroom
 have hr:=run_append_room (P:=P) w t ty' e i0 ht.sl e1 g i c cur hb b q q' _ hln hb2 hone hroom hfit
 rw [hb1] at hx
 have hrun:(execOp a.eval ⟨some d,.call ⟨.builtin .append,#[s,x],#[t,t]⟩,ty',pos,after,guard⟩).run P w = .ok (.value (.slice (some ⟨g,0,none⟩) (i+q) c)) (w.setRow g (cur.toList.take (i*i0.size)++(l.drop j).flatMap enc++cur.toList.drop (i*i0.size+((l.drop j).flatMap enc).length)).toArray):=by
  simp only [execOp,resolve,invoke,builtin,ha.eval hs,ha.eval hx]
  simp [hr,ha.eval hs,ha.eval hx]
 simp only [Oper.wp,hrun,Oper.upon_value]
 have hti:(l.take i).flatMap enc=cur.toList.take (i*i0.size):=by
  have e0:(l.take i).flatMap enc=(l.flatMap enc).take (i*i0.size):=by
   conv=>rhs;rw [← List.take_append_drop i l,List.flatMap_append]
   rw [List.take_left' (by rw [Gp he,List.length_take,Nat.min_eq_left (by omega)])]
  rw [e0,← h6,List.take_take,Nat.min_eq_left (Nat.mul_le_mul_right _ (by omega))]
 have hsz:(i*i0.size)≤cur.toList.length:=by rw [Array.length_toList,h5];exact Nat.mul_le_mul_right _ (by omega)
 refine kk _ _ (ha.put hd) (Heap.turn (e:=.r (some ⟨g,0,none⟩) l.length c e i0.size (l.flatMap enc)) (e':=.r (some ⟨g,0,none⟩) (i+q) c e i0.size ((l.take i++l.drop j).flatMap enc)) (Yl w g _) ?_ (Nat.le_refl _) (fun _ hg=>.inl hg) hL hw)
 refine ⟨by rw [List.flatMap_append,List.length_append,hln,hti,List.length_take,Nat.min_eq_left hsz,Nat.add_mul],.inr ⟨g,c,_,rfl,Nat.zero_le _,setRow_heap w g cur _ e _ hb,hroom,h4,?_,?_⟩⟩
 ·simp only [List.size_toArray,List.length_append,List.length_take,List.length_drop,Array.length_toList]
  rw [Array.length_toList] at hsz
  omega
 ·rw [List.flatMap_append,hti]
  have:(i+q)*i0.size=(cur.toList.take (i*i0.size)++(l.drop j).flatMap enc).length:=by rw [List.length_append,List.length_take,Nat.min_eq_left hsz,hln,Nat.add_mul]
  show List.take _ (_++_++_)=_
  rw [this]
  exact List.take_left
theorem Ade (cs:List Value):(Builtin.zeroCells cs.toArray 1).toList=cs:=by
 unfold Builtin.zeroCells
 apply List.ext_getElem
 ·simp
 ·intro i h1 h2
  simp [Nat.mod_eq_of_lt h2,h2]
/-- clear of a cell behind the elements of an own row. -/
theorem Als {x:Operand} {t e:TypeId} {sz bytes c q q' k m m':Nat} {A:Option Addr} {ty':TypeId} {xs:List Value} {L':List Ent}
  (hx:evo fr x=some (.slice (slA A c m' sz) q q')) (hm':m'=m) (hq:q=1) (ht:Ql P t e sz bytes) {z:Value} (hz:∀ w,(zeroValue e).run P w = .ok z w) {cs:List Value} (hzc:z.cells=cs.toArray) (hzs:cs.length=sz) (h1:Jw cs=true) (hm:m+1≤c) (hA:A≠none)
  (hL:SetE L k (.r A m c e sz xs) (.r A m c e sz xs) L')
  (kk:T n N fr L') :
  Wh P Q n ⟨none,.call ⟨.builtin .clear,#[x],#[t]⟩,ty',pos,after,guard⟩ fr L N:=by
 subst hq
 obtain rfl:=hm'.symm
 intro a w ha hw
 have hzo:=Ade cs
 have hown:w.ownsRow 0 e sz (.slice A m c) m xs:=hw.ok _ hL.mem
 obtain ⟨h0,h2⟩:=hown
 rcases h2 with ⟨hv,_⟩ | ⟨g,cap,cur,hv,_,hb,h3,h4,h5,h6⟩
 ·injection hv with hv _ _;exact absurd hv hA
 injection hv with hg _ hcap
 subst hg;subst hcap
 have hsl:slA (some (⟨g,0,none⟩:Addr)) c m sz=some ⟨g,m*sz,none⟩:=by
  unfold slA
  rw [if_neg (by omega)]
  simp [Addr.add_lit]
 rw [hsl] at hx
 have hfit:m*sz+0+cs.length≤cur.size:=by
  rw [hzs,h5]
  have:=Nat.mul_le_mul_right sz hm
  rw [Nat.add_mul,Nat.one_mul] at this
  omega
 have hst:=run_storeCells_at P g (m*sz) e cs 0 cur w hb hfit (Kj h1)
 have hrun:(execOp a.eval ⟨none,.call ⟨.builtin .clear,#[x],#[t]⟩,ty',pos,after,guard⟩).run P w = .ok (.value (.tuple #[])) (w.setRow g (cur.toList.take (m*sz+0)++cs++cur.toList.drop (m*sz+0+cs.length)).toArray):=by
  simp [execOp,resolve,invoke,builtin,ha.eval hx,Builtin.clear_,run_underlying ht.sl,hz,hzc,hzo,hst,Result.andThen]
 simp only [Oper.wp,hrun,Oper.upon_value]
 have hsz:m*sz≤cur.toList.length:=by rw [Array.length_toList];omega
 refine kk _ _ ha (Heap.turn (e:=.r (some ⟨g,0,none⟩) m c e sz xs) (e':=.r (some ⟨g,0,none⟩) m c e sz xs) (Yl w g _) ?_ (Nat.le_refl _) (fun _ hg=>.inl hg) hL hw)
 refine ⟨h0,.inr ⟨g,c,_,rfl,Nat.zero_le _,setRow_heap w g cur _ e _ hb,h3,h4,?_,?_⟩⟩
 ·simp only [List.size_toArray,List.length_append,List.length_take,List.length_drop,Array.length_toList]
  rw [Array.length_toList] at hsz
  rw [Nat.min_eq_left (by omega)]
  omega
 ·show List.take _ (_++_++_)=_
  rw [Nat.add_zero,List.append_assoc,List.take_append_of_le_length (by rw [List.length_take,Nat.min_eq_left hsz];exact Nat.le_refl _),List.take_take,Nat.min_self]
  exact h6
end
/-- A list without its element at i. -/
def delI {α:Type} (l:List α) (i:Int):List α:=l.take i.toNat++l.drop (i.toNat+1)
theorem Ag9 {α:Type} {l:List α} {i:Int} (h0:0≤i) (h:i+1≤(l.length:Int)):(delI l i).length=l.length-1:=by
 unfold delI
 rw [List.length_append,List.length_take,List.length_drop]
 omega
end Go.Proofs.YtgfiafnelibjgaaGreat
