/- The points with the Ids of a list, and their mesh. -/
import Derived.Test.YtbkobeeileemjaaGreatL2
import Derived.Test.YtbkobeeileemjaaGreatL10
import Derived.Test.YtbkobeeileemjaaGreatQ2
import Derived.Test.YtbkobeeileemjaaGreatI8
import Derived.Test.YtbkobeeileemjaaGreatY2
namespace Go.Proofs.YtbkobeeileemjaaGreat
open Go Go.RowKit Go.Sort
theorem w1 {k n:Nat} (h:k < n) (hn:n≤1000000000):w64 ((k:Int)+1)=((k+1:Nat):Int):=by rw [Bo (by omega) (by omega)];omega
theorem has_eq {l:List Int} (hl:l.length≤1000000) (n:Int):It l n=some (decide (n∈l)):=by
 unfold It
 rw [jn_d]
 have:=Du (B:=Ml l n) (fun s=>l.length-s.toNat) (fun s=>∃ k:Nat,k≤l.length∧s=(k:Int)∧n ∉ l.take k) (fun t=>(t = .inl ()∧n ∉ l)∨(t = .inr true∧n∈l)) (fun s hs=>by
  obtain ⟨k,hk,rfl,h⟩:=hs
  unfold Ml
  by_cases hk2:k < l.length
  ·rw [if_pos (by omega),Bf hk2,Ah]
   by_cases c:l[k]=n
   ·right
    rw [if_pos c]
    exact ⟨_,rfl,.inr ⟨rfl,c ▸ List.getElem_mem hk2⟩⟩
   ·left
    rw [if_neg c,w1 hk2 (by omega)]
    refine ⟨_,rfl,⟨k+1,hk2,rfl,fun g=>?_⟩,by omega⟩
    rw [List.take_succ_eq_append_getElem hk2,List.mem_append,List.mem_singleton] at g
    rcases g with g | g
    ·exact h g
    ·exact c g.symm
  ·right
   rw [if_neg (by omega)]
   have:k=l.length:=by omega
   subst this
   rw [List.take_length] at h
   exact ⟨_,rfl,.inl ⟨rfl,h⟩⟩) 0 ⟨0,by omega,rfl,by simp⟩
 obtain ⟨t,ht,g | g⟩:=this
 ·obtain ⟨rfl,g⟩:=g
  rw [ht,Ah]
  simp [g]
 ·obtain ⟨rfl,g⟩:=g
  rw [ht,Ah]
  simp [g]
/-- What is asked of the list of Ids. -/
def Ags (l:List Aa) (ids:List Int):Prop:=ids.Nodup∧∀ i∈ids,∃ p∈l,p.Id=i
noncomputable instance (l:List Aa) (ids:List Int):Decidable (Ags l ids):=Classical.propDecidable _
noncomputable def selL (l:List Aa) (ids:List Int):List Aa:=l.filter fun p=>decide (p.Id∈ids)
/-- The points with these Ids, in the order of their Ids. -/
noncomputable def Acg (l:List Aa) (ids:List Int):List Aa:=Bg Ig (selL l ids)
variable {l:List Aa} {ids:List Int}
theorem Agt (hl:X.Fit l):Aho l:=⟨hl.id,fun x hx=>by have:=X.okPt_rng (hl.ok x hx);omega⟩
theorem Aqy {m:List Aa} (h:Aho l) (hm:∀ x∈m,x∈l) (hn:(m.map (·.Id)).Nodup):Aho m:=⟨hn,fun x hx=>h.2 x (hm x hx)⟩
theorem Ax5 {out:List Aa} (hl:X.Fit l) (h1:out.map (·.Id)=ids) (h2:∀ p∈out,p∈l) (hn:ids.Nodup):out.Perm (selL l ids):=by
 have hon:out.Nodup:=X.nodup_of_ids (by rw [h1];exact hn)
 refine (List.perm_ext_iff_of_nodup hon ((X.nodup_of_ids hl.id).filter _)).2 fun p=>?_
 rw [List.mem_filter,decide_eq_true_eq]
 constructor
 ·intro hp
  exact ⟨h2 p hp,by rw [← h1];exact List.mem_map_of_mem hp⟩
 ·rintro ⟨hp,hi⟩
  rw [← h1,List.mem_map] at hi
  obtain ⟨q,hq,e⟩:=hi
  rw [← Amr hl.id (h2 q hq) hp e]
  exact hq
theorem At6 {out:List Aa} (h:Aho out) (hp:out.Perm (selL l ids)):Bg Ig out=Acg l ids :=
 Pq (totP out) (fun _ hx=>⟨hx,h⟩) hp
/-! ### the program's list -/
theorem At7 (hl:X.Fit l):∃ m,lfix (Ll l) (([]:List (Int × Aa)),0)=some m∧Dv m∧∀ x p,mget m x=some p↔p∈l∧p.Id=x:=by
 have hn:=hl.n
 refine Du (B:=Ll l) (fun s=>l.length-s.2.toNat) (fun s=>∃ k:Nat,k≤l.length∧s.2=(k:Int)∧Dv s.1∧s.1.length≤k∧∀ x p,mget s.1 x=some p↔p∈l.take k∧p.Id=x) _ (fun s hs=>?_) _ ⟨0,by omega,rfl,List.Pairwise.nil,by simp,fun x p=>by simp [Ars]⟩
 obtain ⟨m,j⟩:=s
 obtain ⟨k,hk,rfl,h1,h2,h3⟩:=hs
 dsimp only at h1 h2 h3
 unfold Ll
 dsimp only
 by_cases hk2:k < l.length
 ·left
  have hr:=X.okPt_rng (hl.ok _ (List.getElem_mem hk2))
  rw [if_pos (by omega),Bf hk2,Ah,gd_t (by omega),gd_t (by omega),w1 hk2 (by omega)]
  refine ⟨_,rfl,⟨k+1,hk2,rfl,h1.put _ _,?_,fun x p=>?_⟩,by dsimp only;omega⟩
  ·dsimp only
   unfold mput
   have:(mdel m l[k].Id).length≤m.length:=List.length_filter_le _ _
   rw [List.length_cons]
   omega
  ·dsimp only
   rw [Mv h1,List.take_succ_eq_append_getElem hk2,List.mem_append,List.mem_singleton]
   by_cases e:x=l[k].Id
   ·rw [if_pos e]
    constructor
    ·intro g
     cases g
     exact ⟨.inr rfl,e.symm⟩
    ·rintro ⟨g | g,g2⟩
     ·rw [Amr hl.id (List.mem_of_mem_take g) (List.getElem_mem hk2) (by omega)]
     ·rw [g]
   ·rw [if_neg e,h3]
    constructor
    ·rintro ⟨g,g2⟩
     exact ⟨.inl g,g2⟩
    ·rintro ⟨g | g,g2⟩
     ·exact ⟨g,g2⟩
     ·rw [g] at g2
      exact absurd g2.symm e
 ·right
  rw [if_neg (by omega)]
  have:k=l.length:=by omega
  subst this
  rw [List.take_length] at h3
  exact ⟨_,rfl,h1,h3⟩
theorem At8 (_:X.Fit l) (hi:ids.length≤300) {m:List (Int × Aa)} (hm:Dv m) (hg:∀ x p,mget m x=some p↔p∈l∧p.Id=x) (hr:∀ i∈ids,-9223372036854775808≤i∧i≤9223372036854775807) :
  (∃ out:List Aa,lfix (Iy ids) (m,([]:List Aa),0)=some (.inl out)∧out.map (·.Id)=ids∧(∀ p∈out,p∈l)∧Ags l ids)∨(lfix (Iy ids) (m,([]:List Aa),0)=some (.inr ([],false))∧¬ Ags l ids):=by
 have:=Du (B:=Iy ids) (fun s=>ids.length-s.2.2.toNat)
  (fun s=>∃ k:Nat,k≤ids.length∧s.2.2=(k:Int)∧Dv s.1∧s.2.1.map (·.Id)=ids.take k∧(∀ p∈s.2.1,p∈l)∧(ids.take k).Nodup∧∀ x p,mget s.1 x=some p↔p∈l∧p.Id=x∧x ∉ ids.take k)
  (fun t=>(∃ out:List Aa,t = .inl out∧out.map (·.Id)=ids∧(∀ p∈out,p∈l)∧Ags l ids)∨(t = .inr ([],false)∧¬ Ags l ids)) (fun s hs=>by
  obtain ⟨m,out,j⟩:=s
  obtain ⟨k,hk,rfl,h1,h2,h3,h4,h5⟩:=hs
  dsimp only at h1 h2 h3 h5
  unfold Iy
  dsimp only
  by_cases hk2:k < ids.length
  ·have ts:ids.take (k+1)=ids.take k++[ids[k]]:=List.take_succ_eq_append_getElem hk2
   have hl2:out.length=k:=by have:=congrArg List.length h2;rw [List.length_map,List.length_take] at this;omega
   have hrk:=hr _ (List.getElem_mem hk2)
   rw [if_pos (by omega),Bf hk2,Ah,gd_t hrk,Ah]
   rcases e:mget m ids[k] with _ | p
   ·right
    rw [if_neg (by simp)]
    refine ⟨_,rfl,.inr ⟨rfl,fun g=>?_⟩⟩
    obtain ⟨q,q1,q2⟩:=g.2 _ (List.getElem_mem hk2)
    have hno:ids[k] ∉ ids.take k:=fun hin=>by
     obtain ⟨i,hi',e'⟩:=List.getElem_of_mem hin
     rw [List.length_take] at hi'
     rw [List.getElem_take] at e'
     have:=List.pairwise_iff_getElem.1 g.1 i k (by omega) hk2 (by omega)
     exact this e'
    have:=(h5 ids[k] q).2 ⟨q1,q2,hno⟩
    rw [e] at this
    cases this
   ·left
    obtain ⟨p1,p2,p3⟩:=(h5 _ _).1 e
    rw [if_pos (by simp),gd_t hrk,gd_t (by omega),w1 hk2 (by omega)]
    refine ⟨_,rfl,⟨k+1,hk2,rfl,h1.del _,?_,fun q hq=>?_,?_,fun x q=>?_⟩,by dsimp only;omega⟩
    ·dsimp only
     rw [List.map_append,h2,ts]
     simp [p2]
    ·dsimp only at hq
     rcases List.mem_append.1 hq with hq | hq
     ·exact h3 q hq
     ·rw [List.mem_singleton] at hq
      subst hq
      exact p1
    ·rw [ts,List.nodup_append]
     refine ⟨h4,by simp,fun a ha b hb e=>?_⟩
     rw [List.mem_singleton] at hb
     subst hb;subst e
     exact p3 ha
    ·dsimp only
     rw [Rn h1,ts,List.mem_append,List.mem_singleton]
     by_cases c:x=ids[k]
     ·rw [if_pos c]
      exact ⟨fun g=>(by cases g),fun g=>absurd (.inr c) g.2.2⟩
     ·rw [if_neg c,h5]
      exact ⟨fun g=>⟨g.1,g.2.1,fun h=>h.elim g.2.2 c⟩,fun g=>⟨g.1,g.2.1,fun h=>g.2.2 (.inl h)⟩⟩
  ·right
   rw [if_neg (by omega)]
   have:k=ids.length:=by omega
   subst this
   rw [List.take_length] at h2 h4
   refine ⟨_,rfl,.inl ⟨out,rfl,h2,h3,h4,fun i hi=>?_⟩⟩
   rw [← h2,List.mem_map] at hi
   obtain ⟨p,hp,e⟩:=hi
   exact ⟨p,h3 p hp,e⟩) (m,[],0) ⟨0,by omega,rfl,hm,by simp,fun p hp=>(by cases hp),by simp,fun x p=>by rw [hg];simp⟩
 obtain ⟨t,ht,⟨out,rfl,g⟩ | ⟨rfl,g⟩⟩:=this
 ·exact .inl ⟨out,ht,g⟩
 ·exact .inr ⟨ht,g⟩
theorem Aqz (hl:X.Fit l) (hi:ids.length≤300) (hr:∀ i∈ids,-9223372036854775808≤i∧i≤9223372036854775807):Nn l ids=some (if Ags l ids then (Acg l ids,true) else ([],false)):=by
 obtain ⟨m,h1,h2,h3⟩:=At7 hl
 unfold Nn
 rw [jn_d,h1,Ah]
 dsimp only
 rw [gd_t (by omega),jn_d]
 rcases At8 hl hi h2 h3 hr with ⟨out,g1,g2,g3,g4⟩ | ⟨g1,g2⟩
 ·rw [g1,Ah]
  dsimp only
  have ho:Aho out:=Aqy (Agt hl) g3 (by rw [g2];exact g4.1)
  have hlen:out.length=ids.length:=by rw [← g2,List.length_map]
  rw [gd_t ⟨by omega,fun x hx=>⟨hx,ho⟩⟩,At6 ho (Ax5 hl g2 g3 g4.1),if_pos g4]
 ·rw [g1,Ah]
  dsimp only
  rw [if_neg g2]
/-! ### the document's list -/
theorem Fit.sel (hl:X.Fit l):X.Fit (selL l ids):=hl.filter _
/-! ### the mesh of points -/
def vxL (L:List Aa):List Ae:=L.map fun p=>⟨p.X,p.Y,p.Z⟩
theorem Ank {L:List Aa} (hn:L.length≤1024):lfix (Nc L) (([]:List Ae),0)=some (vxL L):=by
 have:=Du (B:=Nc L) (fun s=>L.length-s.2.toNat) (fun s=>∃ k:Nat,k≤L.length∧s=(vxL (L.take k),(k:Int))) (fun t=>t=vxL L) (fun s hs=>by
  obtain ⟨k,hk,rfl⟩:=hs
  unfold Nc
  dsimp only
  by_cases hk2:k < L.length
  ·left
   rw [if_pos (by omega),Bf hk2,Ah,gd_t (by unfold vxL;rw [List.length_map,List.length_take];omega),w1 hk2 (by omega)]
   exact ⟨_,rfl,⟨k+1,hk2,by unfold vxL;rw [List.take_succ_eq_append_getElem hk2,List.map_append];rfl⟩,by dsimp only;omega⟩
  ·right
   rw [if_neg (by omega)]
   have:k=L.length:=by omega
   subst this
   exact ⟨_,rfl,by rw [List.take_length]⟩) (([]:List Ae),0) ⟨0,by omega,rfl⟩
 obtain ⟨t,ht,rfl⟩:=this
 exact ht
/-- No two of the points at one place. -/
def Qz (L:List Aa):Prop:=L.Pairwise fun p q=>¬ (p.X=q.X∧p.Y=q.Y)
theorem Ah7 {L:List Aa} (hL:X.Fit L):Vb (vxL L)=0∧Qz L∨Vb (vxL L)=61∧¬ Qz L:=by
 have hn:=hL.n
 have h1:¬ 1024 < (vxL L).length:=by unfold vxL;rw [List.length_map];omega
 have h2:∀ x∈vxL L,Mq x:=fun x hx=>by
  unfold vxL at hx
  obtain ⟨p,hp,rfl⟩:=List.mem_map.1 hx
  have:=X.okPt_rng (hL.ok p hp)
  unfold Mq okP pP
  dsimp only
  omega
 have h3:Ft (vxL L)↔Qz L:=by
  unfold Ft Qz vxL
  rw [List.pairwise_map]
  exact Iff.rfl
 unfold Vb
 rw [if_neg h1,if_neg (fun h=>h h2)]
 by_cases c:Qz L
 ·rw [if_neg (fun h=>h (h3.2 c))]
  exact .inl ⟨rfl,c⟩
 ·rw [if_pos (fun h=>c (h3.1 h))]
  exact .inr ⟨rfl,c⟩
end Go.Proofs.YtbkobeeileemjaaGreat
/- Meshes looked up, plainly: where a place lies, the span of the heights there, whether a point fits. -/
namespace Go.Proofs.YtbkobeeileemjaaGreat
open Go Go.RowKit
theorem Apc (a b c p:Ab):crs b c p+crs c a p+crs a b p=crs a b c:=by unfold crs;grind
theorem Apd {w0 w1 w2:Int} (n0:0≤w0) (n1:0≤w1) (n2:0≤w2) (hA:w0+w1+w2≤2305843009213693952) (h0:0 < w0+w1+w2) {p:Aq}
  (k0:-1099511627776≤p.a0∧p.a0≤1099511627776) (k1:-1099511627776≤p.a1∧p.a1≤1099511627776) (k2:-1099511627776≤p.a2∧p.a2≤1099511627776) :
  Hh ⟨w0,w1,w2⟩ p=some ((w0*p.a0+w1*p.a1+w2*p.a2) / (w0+w1+w2),-((-(w0*p.a0+w1*p.a1+w2*p.a2)) / (w0+w1+w2))):=by
 obtain ⟨m0,rfl⟩:=Int.eq_ofNat_of_zero_le n0
 obtain ⟨m1,rfl⟩:=Int.eq_ofNat_of_zero_le n1
 obtain ⟨m2,rfl⟩:=Int.eq_ofNat_of_zero_le n2
 obtain ⟨b,hb⟩:∃ b,min (min p.a0 p.a1) p.a2=b:=⟨_,rfl⟩
 obtain ⟨d0,e0⟩:∃ d:Nat,p.a0=b+d:=⟨(p.a0-b).toNat,by omega⟩
 obtain ⟨d1,e1⟩:∃ d:Nat,p.a1=b+d:=⟨(p.a1-b).toNat,by omega⟩
 obtain ⟨d2,e2⟩:∃ d:Nat,p.a2=b+d:=⟨(p.a2-b).toNat,by omega⟩
 have h:=Av5 (m0:=m0) (m1:=m1) (m2:=m2) (d0:=d0) (d1:=d1) (d2:=d2) (b:=b) (p:=p) (by omega) (by omega) (by omega) (by omega) (by omega) (by omega) (by omega) hb e0 e1 e2
 rw [h]
 have hS:(m0:Int)*p.a0+(m1:Int)*p.a1+(m2:Int)*p.a2=((m0*d0+m1*d1+m2*d2:Nat):Int)+b*((m0+m1+m2:Nat):Int):=by
  rw [e0,e1,e2];push_cast;grind
 have hA2:(m0:Int)+(m1:Int)+(m2:Int)=((m0+m1+m2:Nat):Int):=by push_cast;rfl
 rw [hS,hA2]
 have hpos:0 < m0+m1+m2:=by omega
 clear hS hA2 h e0 e1 e2 hb n0 n1 n2 hA h0 k0 k1 k2
 generalize m0*d0+m1*d1+m2*d2=N at *
 generalize m0+m1+m2=A at *
 have q1:=Nat.div_add_mod N A
 have q2:=Nat.mod_lt N hpos
 generalize N / A=q at *
 generalize N % A=r at *
 have q3:(N:Int)=(A:Int)*(q:Int)+(r:Int):=by rw [← q1];push_cast;rfl
 have l1:((N:Int)+b*(A:Int)) / (A:Int)=b+(q:Int):=X.ediv_of (r:=(r:Int)) (by omega) (by rw [q3];grind) (by omega) (by omega)
 by_cases hr:0 < r
 ·have l2:(-((N:Int)+b*(A:Int))) / (A:Int) = -(b+(q:Int)+1):=X.ediv_of (r:=(A:Int)-(r:Int)) (by omega) (by rw [q3];grind) (by omega) (by omega)
  rw [l1,l2,if_pos hr,Int.neg_neg]
 ·have l2:(-((N:Int)+b*(A:Int))) / (A:Int) = -(b+(q:Int)):=X.ediv_of (r:=0) (by omega) (by rw [q3,show r=0 by omega];grind) (by omega) (by omega)
  rw [l1,l2,if_neg hr,Int.neg_neg,Int.add_zero]
/-- The height of a vertex. -/
def zV (v:List Ae) (i:Int):Bl:=match idx v i with
 | some x=>x.Z
 | none=>⟨0,0⟩
def covT (v:List Ae) (at_:Ab) (t:Aq):Bool:=decide (0≤crs (plV v t.a0) (plV v t.a1) at_∧0≤crs (plV v t.a1) (plV v t.a2) at_∧0≤crs (plV v t.a2) (plV v t.a0) at_)
def Aec (v:List Ae) (t:Aq):Int:=crs (plV v t.a0) (plV v t.a1) (plV v t.a2)
/-- The sum of the heights of the corners by their weights. -/
def wsum (v:List Ae) (at_:Ab) (t:Aq) (f:Bl→Int):Int :=
 crs (plV v t.a1) (plV v t.a2) at_*f (zV v t.a0)+crs (plV v t.a2) (plV v t.a0) at_*f (zV v t.a1)+crs (plV v t.a0) (plV v t.a1) at_*f (zV v t.a2)
def bndT (v:List Ae) (at_:Ab) (t:Aq):Bl:=⟨wsum v at_ t (·.Lo) / Aec v t,-((-(wsum v at_ t (·.Hi))) / Aec v t)⟩
/-- The first triangle in which a place lies. -/
def locT (v:List Ae) (T:List Aq) (at_:Ab):Option Nat:=T.findIdx? (covT v at_)
def gapI (a b:Bl):Int:=max (max 0 (a.Lo-b.Hi)) (b.Lo-a.Hi)
def Ss (v:List Ae) (r:Af) (p:Aa) (k:Int):Bool :=
 decide (gapI p.Z (zV v k)*gapI p.Z (zV v k)*1000000≤r.Slope*r.Slope*((p.X-(plV v k).X)*(p.X-(plV v k).X)+(p.Y-(plV v k).Y)*(p.Y-(plV v k).Y)))
def fitV (v:List Ae) (T:List Aq) (r:Af) (p:Aa):Int × Bool × Int:=match locT v T (X.plF p) with
 | none=>(-1,false,0)
 | some i=>match idx T (i:Int) with
  | none=>(-1,false,0)
  | some t =>
   if r.Reach < gapI p.Z (bndT v (X.plF p) t) then ((i:Int),false,0) else
   if Ss v r p t.a0=true∧Ss v r p t.a1=true∧Ss v r p t.a2=true then ((i:Int),true,gapI p.Z (bndT v (X.plF p) t)) else ((i:Int),false,0)
end Go.Proofs.YtbkobeeileemjaaGreat
/- Meshes looked up: what the program's functions return. -/
namespace Go.Proofs.YtbkobeeileemjaaGreat
open Go Go.RowKit
/-- A loop that stops at the first place where a test holds. -/
theorem Ah8 {α:Type} (l:List α) (p:α→Bool) (B:Int→Option (Sum Int (Sum Unit Int)))
  (h1:∀ (j:Nat) (h:j < l.length),B j=if p l[j]=true then some (.inr (.inr (j:Int))) else some (.inl ((j+1:Nat):Int))) (h2:B l.length=some (.inr (.inl ()))) :
  lfix B 0=some (match l.findIdx? p with | some i=>.inr (i:Int) | none=>.inl ()):=by
 have key:∀ (m k:Nat),k≤l.length→l.length-k=m→(∀ j (hj:j < l.length),j < k→p l[j]=false)→lfix B k=some (match l.findIdx? p with | some i=>.inr (i:Int) | none=>.inl ()):=by
  intro m
  induction m with
  | zero =>
   intro k hk hm hf
   obtain rfl:k=l.length:=by omega
   rw [Cu,h2]
   have:l.findIdx? p=none:=by
    rw [List.findIdx?_eq_none_iff]
    intro x hx
    obtain ⟨j,hj,rfl⟩:=List.getElem_of_mem hx
    exact hf j hj hj
   rw [this]
  | succ m ih =>
   intro k hk hm hf
   have hlt:k < l.length:=by omega
   rw [Cu,h1 k hlt]
   by_cases hp:p l[k]=true
   ·rw [if_pos hp]
    have:l.findIdx? p=some k:=by
     rw [List.findIdx?_eq_some_iff_getElem]
     exact ⟨hlt,hp,fun j hj=>by rw [hf j (by omega) hj];simp⟩
    rw [this]
   ·rw [if_neg hp]
    refine ih (k+1) (by omega) (by omega) fun j hj hjk=>?_
    by_cases e:j=k
    ·subst e;exact Bool.eq_false_iff.2 hp
    ·exact hf j hj (by omega)
 exact key l.length 0 (Nat.zero_le _) rfl (fun j _ h=>absurd h (by omega))
theorem Aed {l:List Int} (hl:l.length≤1000000) (n:Int):Cq l n=some (decide (n∈l)):=by
 unfold Cq Gk
 rw [jn_d,Ah8 l (fun x=>decide (n=x)) (Dy l n) (fun j hj=>?_) ?_,Ah]
 ·cases e:l.findIdx? (fun x=>decide (n=x)) with
  | none =>
   dsimp only
   rw [List.findIdx?_eq_none_iff] at e
   rw [Ah]
   have:n ∉ l:=fun h=>by simpa using e n h
   simp [this]
  | some i =>
   dsimp only
   rw [List.findIdx?_eq_some_iff_getElem] at e
   obtain ⟨hi,h,_⟩:=e
   rw [Ah]
   have:n∈l:=by
    rw [decide_eq_true_eq] at h
    rw [h]
    exact List.getElem_mem hi
   simp [this]
 ·unfold Dy
  rw [if_neg (by omega)]
 ·unfold Dy
  rw [if_pos (by omega),Bf hj,Ah,w1 hj (by omega)]
  simp only [decide_eq_true_eq]
/-! ### meshes -/
/-- A mesh whose vertices are valid and whose triangles turn to the left. -/
structure Msh (m:Bb):Prop where
 n:m.V.length≤1024
 ok:∀ x∈m.V,Mq x
 len:m.T.length≤1152921504606846976
 t:∀ t∈m.T,inN m.V.length t.a0∧inN m.V.length t.a1∧inN m.V.length t.a2∧0 < Aec m.V t
theorem Qe {n:Nat} {i:Int} (h:inN n i):∃ k:Nat,i=(k:Int)∧k < n:=⟨i.toNat,by unfold inN at h;omega,by unfold inN at h;omega⟩
theorem Al0 {v:List Ae} {k:Nat} (hk:k < v.length):zV v (k:Int)=v[k].Z:=by unfold zV;rw [Bf hk]
theorem Vr {v:List Ae} (h:∀ x∈v,Mq x) {i:Int} (hi:inN v.length i):okP (plV v i)∧-268435456≤(zV v i).Lo∧(zV v i).Lo≤(zV v i).Hi∧(zV v i).Hi≤268435456:=by
 obtain ⟨k,rfl,hk⟩:=Qe hi
 rw [Ya hk,Al0 hk]
 exact h _ (List.getElem_mem hk)
theorem Sx {a b c:Ab} (ha:okP a) (hb:okP b) (hc:okP c):Et a b c=some (crs a b c):=by
 have h0:=Nk ha hb hc
 unfold okP at ha hb hc
 have h1:=mulB (x:=b.X-a.X) (y:=c.Y-a.Y) (M:=536870912) (N:=536870912) (by omega) (by omega) (by omega) (by omega) (by omega)
 have h2:=mulB (x:=b.Y-a.Y) (y:=c.X-a.X) (M:=536870912) (N:=536870912) (by omega) (by omega) (by omega) (by omega) (by omega)
 unfold Et
 unfold crs at h0 ⊢
 rw [Bo (x:=b.X-a.X) (by omega) (by omega),Bo (x:=c.Y-a.Y) (by omega) (by omega),Bo (x:=b.Y-a.Y) (by omega) (by omega),Bo (x:=c.X-a.X) (by omega) (by omega),
  Bo (x:=(b.X-a.X)*(c.Y-a.Y)) (by omega) (by omega),Bo (x:=(b.Y-a.Y)*(c.X-a.X)) (by omega) (by omega),Bo (by omega) (by omega)]
theorem Aq0 {a b:Ab} (ha:okP a) (hb:okP b):Ij a b=some ((a.X-b.X)*(a.X-b.X)+(a.Y-b.Y)*(a.Y-b.Y))∧0≤(a.X-b.X)*(a.X-b.X)+(a.Y-b.Y)*(a.Y-b.Y)∧(a.X-b.X)*(a.X-b.X)+(a.Y-b.Y)*(a.Y-b.Y)≤576460752303423488:=by
 unfold okP at ha hb
 obtain ⟨a1,a2,a3,a4⟩:=X.sq_w (a:=a.X) (b:=b.X) (by omega) (by omega)
 obtain ⟨b1,b2,b3,b4⟩:=X.sq_w (a:=a.Y) (b:=b.Y) (by omega) (by omega)
 refine ⟨?_,by omega,by omega⟩
 unfold Ij
 rw [a1,b1,a2,b2,Bo (by omega) (by omega)]
section
variable {m:Bb} (h:Msh m)
include h
theorem Agu {i:Nat} (hi:i < m.T.length):Gq m (i:Int)=some ⟨plV m.V m.T[i].a0,plV m.V m.T[i].a1,plV m.V m.T[i].a2⟩:=by
 obtain ⟨h0,h1,h2,_⟩:=h.t _ (List.getElem_mem hi)
 obtain ⟨a,ea,ha⟩:=Qe h0
 obtain ⟨b,eb,hb⟩:=Qe h1
 obtain ⟨c,ec,hc⟩:=Qe h2
 unfold Gq Hg
 rw [Bf hi,Ah,ea,eb,ec,Bf ha,Ah,Ah,Bf hb,Ah,Ah,Bf hc,Ah,Ah,Ya ha,Ya hb,Ya hc]
 rfl
theorem Ah9 {p:Ab} (hp:okP p):Km m p=some (match locT m.V m.T p with | some i=>(i:Int) | none=>-1):=by
 unfold Km
 have hl:=h.len
 rw [jn_d,Ah8 m.T (covT m.V p) (Ji m p) (fun j hj=>?_) ?_,Ah]
 ·unfold locT
  cases m.T.findIdx? (covT m.V p) <;> rfl
 ·unfold Ji
  rw [if_neg (by omega)]
 ·obtain ⟨h0,h1,h2,_⟩:=h.t _ (List.getElem_mem hj)
  have q0:=(Vr h.ok h0).1
  have q1:=(Vr h.ok h1).1
  have q2:=(Vr h.ok h2).1
  unfold Ji
  rw [if_pos (by omega),Agu h hj,Ah,jn_d,Bt (by omega)]
  dsimp only
  rw [Sx q0 q1 hp,Ah]
  unfold covT
  by_cases c1:0≤crs (plV m.V m.T[j].a0) (plV m.V m.T[j].a1) p
  ·rw [if_pos c1,Sx q1 q2 hp,Ah]
   by_cases c2:0≤crs (plV m.V m.T[j].a1) (plV m.V m.T[j].a2) p
   ·rw [if_pos c2,Sx q2 q0 hp,Ah]
    by_cases c3:0≤crs (plV m.V m.T[j].a2) (plV m.V m.T[j].a0) p
    ·simp [c1,c2,c3]
    ·simp [c1,c2,c3]
   ·rw [if_neg c2,if_neg (by simp),if_neg (by simp [c2])]
  ·rw [if_neg c1,if_neg (by simp),if_neg (by simp [c1])]
theorem Aia {p:Ab} (hp:okP p) {i:Nat} (hi:i < m.T.length) (hc:covT m.V p m.T[i]=true):Ih m (i:Int) p=some (bndT m.V p m.T[i]):=by
 obtain ⟨h0,h1,h2,hpos⟩:=h.t _ (List.getElem_mem hi)
 obtain ⟨q0,z0⟩:=Vr h.ok h0
 obtain ⟨q1,z1⟩:=Vr h.ok h1
 obtain ⟨q2,z2⟩:=Vr h.ok h2
 have hs:=Apc (plV m.V m.T[i].a0) (plV m.V m.T[i].a1) (plV m.V m.T[i].a2) p
 have hb:=Nk q0 q1 q2
 unfold Aec at hpos
 unfold covT at hc
 rw [decide_eq_true_eq] at hc
 obtain ⟨a,ea,ha⟩:=Qe h0
 obtain ⟨b,eb,hb'⟩:=Qe h1
 obtain ⟨c,ec,hc'⟩:=Qe h2
 unfold Ih
 rw [Agu h hi,Ah,jn_d]
 dsimp only
 rw [Sx q1 q2 hp,Ah,Sx q2 q0 hp,Ah,Sx q0 q1 hp,Ah,Bf hi,Ah,jn_d,ea,Bf ha,Ah,Ah]
 dsimp only
 rw [jn_d,eb,Bf hb',Ah,Ah]
 dsimp only
 rw [jn_d,ec,Bf hc',Ah,Ah]
 dsimp only
 rw [← ea,← eb,← ec]
 have ga:zV m.V m.T[i].a0=m.V[a].Z:=by rw [ea,Al0 ha]
 have gb:zV m.V m.T[i].a1=m.V[b].Z:=by rw [eb,Al0 hb']
 have gc:zV m.V m.T[i].a2=m.V[c].Z:=by rw [ec,Al0 hc']
 rw [ga] at z0
 rw [gb] at z1
 rw [gc] at z2
 rw [Apd (by omega) (by omega) (by omega) (by omega) (by omega) (by dsimp only;omega) (by dsimp only;omega) (by dsimp only;omega),Ah,
  Apd (by omega) (by omega) (by omega) (by omega) (by omega) (by dsimp only;omega) (by dsimp only;omega) (by dsimp only;omega),Ah]
 unfold bndT wsum Aec
 rw [ga,gb,gc,hs]
/-- The span of the heights at a place lies within the heights. -/
theorem Agv {p:Ab} {t:Aq} (ht:t∈m.T) (hc:covT m.V p t=true):-268435456≤(bndT m.V p t).Lo∧(bndT m.V p t).Lo≤(bndT m.V p t).Hi∧(bndT m.V p t).Hi≤268435456:=by
 obtain ⟨h0,h1,h2,hpos⟩:=h.t _ ht
 obtain ⟨q0,z0⟩:=Vr h.ok h0
 obtain ⟨q1,z1⟩:=Vr h.ok h1
 obtain ⟨q2,z2⟩:=Vr h.ok h2
 have hs:=Apc (plV m.V t.a0) (plV m.V t.a1) (plV m.V t.a2) p
 unfold Aec at hpos
 unfold covT at hc
 rw [decide_eq_true_eq] at hc
 unfold bndT wsum Aec
 dsimp only
 rw [← hs]
 rw [← hs] at hpos
 obtain ⟨n0,n1,n2⟩:=hc
 generalize crs (plV m.V t.a1) (plV m.V t.a2) p=w0 at *
 generalize crs (plV m.V t.a2) (plV m.V t.a0) p=w1 at *
 generalize crs (plV m.V t.a0) (plV m.V t.a1) p=w2 at *
 generalize zV m.V t.a0=s0 at *
 generalize zV m.V t.a1=s1 at *
 generalize zV m.V t.a2=s2 at *
 have a0:=Int.mul_le_mul_of_nonneg_left (show -268435456≤s0.Lo by omega) n1
 have a1:=Int.mul_le_mul_of_nonneg_left (show -268435456≤s1.Lo by omega) n2
 have a2:=Int.mul_le_mul_of_nonneg_left (show -268435456≤s2.Lo by omega) n0
 have b0:=Int.mul_le_mul_of_nonneg_left (show s0.Hi≤268435456 by omega) n1
 have b1:=Int.mul_le_mul_of_nonneg_left (show s1.Hi≤268435456 by omega) n2
 have b2:=Int.mul_le_mul_of_nonneg_left (show s2.Hi≤268435456 by omega) n0
 have c0:=Int.mul_le_mul_of_nonneg_left (show s0.Lo≤s0.Hi by omega) n1
 have c1:=Int.mul_le_mul_of_nonneg_left (show s1.Lo≤s1.Hi by omega) n2
 have c2:=Int.mul_le_mul_of_nonneg_left (show s2.Lo≤s2.Hi by omega) n0
 generalize w0*s0.Lo=x0 at *
 generalize w1*s1.Lo=x1 at *
 generalize w2*s2.Lo=x2 at *
 generalize w0*s0.Hi=y0 at *
 generalize w1*s1.Hi=y1 at *
 generalize w2*s2.Hi=y2 at *
 generalize hA:w0+w1+w2=A at *
 have e1:-268435456≤(x0+x1+x2) / A:=Int.le_ediv_of_mul_le hpos (by omega)
 have e2:-268435456≤(-(y0+y1+y2)) / A:=Int.le_ediv_of_mul_le hpos (by omega)
 have g1:=Int.mul_ediv_self_le (x:=x0+x1+x2) (k:=A) (by omega)
 have g2:=Int.mul_ediv_self_le (x:=-(y0+y1+y2)) (k:=A) (by omega)
 refine ⟨e1,?_,by omega⟩
 refine Int.not_lt.1 fun hlt=>?_
 have g3:=Int.mul_le_mul_of_nonneg_left (show -((-(y0+y1+y2)) / A)+1≤(x0+x1+x2) / A by omega) (show 0≤A by omega)
 rw [Int.mul_add,Int.mul_neg,Int.mul_one] at g3
 omega
end
end Go.Proofs.YtbkobeeileemjaaGreat
