/- The sweep, run. -/
import Derived.Test.YtebkcipolijfmaaGreatL6
namespace Go.Proofs.YtebkcipolijfmaaGreat
open Go Go.RowKit
/-- All places lie on one line. -/
def Anm (v:List Ab):Prop:=∀ i j k,inN v.length i→inN v.length j→inN v.length k→crs (plV v i) (plV v j) (plV v k)=0
section
variable {v:List Ab} {l:List Int}
theorem Axx (hv:Hj v) (hn:v.length≤1024) (hr:Mc v l) (b:Ae) (hb:b.v=v):∃ n0:Nat,lfix (Gi l b) 2=some (n0:Int)∧2≤n0∧(∀ k,2≤k→k < n0→∃ (h0:0 < l.length) (h1:1 < l.length) (hk:k < l.length),crs (plV v l[0]) (plV v l[1]) (plV v l[k])=0) ∧
  (∀ (h0:0 < l.length) (h1:1 < l.length) (hk:n0 < l.length),crs (plV v l[0]) (plV v l[1]) (plV v l[n0])≠0)∧(n0≤l.length∨n0=2):=by
 have hlen:=hr.len
 have:=He (B:=Gi l b) (fun s=>l.length-s.toNat) (fun s=>∃ k:Nat,s=(k:Int)∧2≤k∧(k≤l.length∨k=2)∧∀ j,2≤j→j < k→∃ (h0:0 < l.length) (h1:1 < l.length) (hk:j < l.length),crs (plV v l[0]) (plV v l[1]) (plV v l[j])=0)
  (fun t=>∃ n0:Nat,t=(n0:Int)∧2≤n0∧(∀ k,2≤k→k < n0→∃ (h0:0 < l.length) (h1:1 < l.length) (hk:k < l.length),crs (plV v l[0]) (plV v l[1]) (plV v l[k])=0) ∧
   (∀ (h0:0 < l.length) (h1:1 < l.length) (hk:n0 < l.length),crs (plV v l[0]) (plV v l[1]) (plV v l[n0])≠0)∧(n0≤l.length∨n0=2)) (fun s hs=>by
   obtain ⟨k,rfl,h2,h3,h4⟩:=hs
   unfold Gi
   rw [jn_d]
   by_cases c:k < l.length
   ·have h0:0 < l.length:=by omega
    have h1:1 < l.length:=by omega
    have i0:idx l 0=some l[0]:=Cf (j:=0) h0
    have i1:idx l 1=some l[1]:=Cf (j:=1) h1
    have v0:=hr.val.1 (List.getElem_mem h0)
    have v1:=hr.val.1 (List.getElem_mem h1)
    have vk:=hr.val.1 (List.getElem_mem c)
    rw [← hb] at v0 v1 vk
    rw [if_pos (by omega),i0,Ah,i1,Ah,Cf c,Ah,p_eq v0,Ah,p_eq v1,Ah,p_eq vk,Ah,hb]
    rw [hb] at v0 v1 vk
    rw [Qp (hv.ok _ v0) (hv.ok _ v1) (hv.ok _ vk),Ah]
    by_cases z:crs (plV v l[0]) (plV v l[1]) (plV v l[k])=0
    ·left
     rw [decide_eq_true (by rw [z];rfl)]
     refine ⟨((k+1:Nat):Int),?_,⟨k+1,rfl,by omega,.inl (by omega),fun j hj hjk=>?_⟩,by omega⟩
     ·dsimp only
      rw [if_pos rfl,Cq (by omega)]
     ·by_cases e:j=k
      ·subst e;exact ⟨h0,h1,c,z⟩
      ·exact h4 j hj (by omega)
    ·right
     rw [decide_eq_false (by rwa [Int.sign_eq_zero_iff_zero])]
     exact ⟨(k:Int),rfl,k,rfl,h2,h4,fun _ _ _=>z,h3⟩
   ·right
    rw [if_neg (by omega)]
    exact ⟨(k:Int),rfl,k,rfl,h2,h4,fun _ _ hk=>absurd hk c,h3⟩) 2 ⟨2,rfl,by omega,.inr rfl,fun j h1 h2=>by omega⟩
 obtain ⟨t,h1,n0,rfl,h2⟩:=this
 exact ⟨n0,h1,h2⟩
/-- The places ahead of the first one beside the line. -/
structure Fan (v:List Ab) (l:List Int) (n0:Nat):Prop where
 two:2≤n0
 lt:n0 < l.length
 col:∀ i j k,Kt l n0 i→Kt l n0 j→Kt l n0 k→crs (plV v i) (plV v j) (plV v k)=0
 off:crs (plV v l[0]) (plV v l[1]) (plV v l[n0])≠0
def fanS (v:List Ab) (l:List Int) (n0 i:Nat):Aa:=if 0 < crs (plV v (l.getD i 0)) (plV v (l.getD (i+1) 0)) (plV v (l.getD n0 0)) then ⟨l.getD i 0,l.getD (i+1) 0⟩ else ⟨l.getD (i+1) 0,l.getD i 0⟩
def fanL (v:List Ab) (l:List Int) (n0 k:Nat):List Aa:=(List.range k).map (fanS v l n0)
theorem Lm {l:List Int} {i:Nat} (h:i < l.length):l.getD i 0=l[i]:=by simp [h]
theorem Fan.place (hr:Mc v l) {n0:Nat} (hf:Fan v l n0) {i:Nat} (h:i < n0):Kt l n0 (l.getD i 0):=by
 have:=hf.lt
 exact ⟨i,by omega,h,Lm (by omega)⟩
theorem Fan.bef (hr:Mc v l) {n0:Nat} (hf:Fan v l n0) {i j:Nat} (h:i < j) (hj:j < n0):befP (plV v (l.getD i 0)) (plV v (l.getD j 0)):=by
 have:=hf.lt
 rw [Lm (show i < l.length by omega),Lm (show j < l.length by omega)]
 exact hr.lt (by omega) (by omega) h
theorem Axy (hv:Hj v) (hn:v.length≤1024) (hr:Mc v l) {n0:Nat} (hf:Fan v l n0) {F:List (Aa × Bool)} :
  lfix (Eo (n0:Int) l) (v,[],F,0)=some (v,putAll [] (l.getD n0 0) (fanL v l n0 (n0-1)),F):=by
 have h2:=hf.two
 have hlt:=hf.lt
 have hlen:=hr.len
 have val:∀ i,i < l.length→inN v.length (l.getD i 0):=fun i hi=>by rw [Lm hi];exact hr.val.1 (List.getElem_mem hi)
 have hM:∀ k,k≤n0-1→MapN v.length (putAll [] (l.getD n0 0) (fanL v l n0 k)):=fun k hk=>by
  refine MapN.putAll (val n0 hlt) ⟨List.Pairwise.nil,fun q hq=>by cases hq⟩ fun s hs=>?_
  obtain ⟨i,hi,rfl⟩:=List.mem_map.1 hs
  rw [List.mem_range] at hi
  unfold fanS
  split
  ·exact ⟨val _ (by omega),val _ (by omega)⟩
  ·exact ⟨val _ (by omega),val _ (by omega)⟩
 refine Zc (B:=Eo (n0:Int) l) (fun k=>(v,putAll [] (l.getD n0 0) (fanL v l n0 k),F,(k:Int))) (v,putAll [] (l.getD n0 0) (fanL v l n0 (n0-1)),F) (n0-1) (fun k hk=>?_) ?_
 ·unfold Eo
  simp only
  rw [Cq (by omega),if_pos (by omega),jn_d,Cf (show k < l.length by omega),Ah,Cf (show k+1 < l.length by omega),Ah,Cf hlt,Ah]
  have v0:=val k (by omega)
  have v1:=val (k+1) (by omega)
  have vp:=val n0 hlt
  have e:putAll [] (l.getD n0 0) (fanL v l n0 (k+1))=putM (putAll [] (l.getD n0 0) (fanL v l n0 k)) (fanS v l n0 k).a0 (fanS v l n0 k).a1 (l.getD n0 0):=by
   unfold putAll fanL
   rw [List.range_succ,List.map_append,List.foldl_append]
   rfl
  rw [e]
  unfold fanS
  rw [Lm (show k < l.length by omega)] at v0 ⊢
  rw [Lm (show k+1 < l.length by omega)] at v1 ⊢
  rw [Lm hlt] at vp ⊢
  have hM':=hM k (by omega)
  rw [Lm hlt] at hM'
  rw [p_eq (b:=⟨v,_,F⟩) v0,Ah,p_eq (b:=⟨v,_,F⟩) v1,Ah,p_eq (b:=⟨v,_,F⟩) vp,Ah,Qp (hv.ok _ v0) (hv.ok _ v1) (hv.ok _ vp),Ah]
  by_cases c:0 < crs (plV v l[k]) (plV v l[k+1]) (plV v l[n0])
  ·rw [Int.sign_eq_one_of_pos c,if_pos (by omega),if_pos c,Ah,Ah,Ah,Afe (b:=⟨v,putAll [] l[n0] (fanL v l n0 k),F⟩) hn hM' v0 v1 vp,Ah]
  ·rw [if_neg (fun g=>c (by
    rcases Int.lt_trichotomy (crs (plV v l[k]) (plV v l[k+1]) (plV v l[n0])) 0 with t | t | t
    ·rw [Int.sign_eq_neg_one_of_neg t] at g;omega
    ·rw [t] at g;simp at g
    ·exact t)),if_neg c,Ah,Ah,Ah,Afe (b:=⟨v,putAll [] l[n0] (fanL v l n0 k),F⟩) hn hM' v1 v0 vp,Ah]
 ·unfold Eo
  simp only
  rw [Cq (by omega),if_neg (by omega)]
/-- The fan is a triangulation. -/
theorem Fan.swept (hv:Hj v) (hn:v.length≤1024) (hr:Mc v l) {n0:Nat} (hf:Fan v l n0):Afv v l (n0+1) (putAll [] (l.getD n0 0) (fanL v l n0 (n0-1)))∧putAll [] (l.getD n0 0) (fanL v l n0 (n0-1))≠[]:=by
 have h2:=hf.two
 have hlt:=hf.lt
 have hlen:=hr.len
 have val:∀ i,i < l.length→inN v.length (l.getD i 0):=fun i hi=>by rw [Lm hi];exact hr.val.1 (List.getElem_mem hi)
 obtain ⟨q1,q2,q3,q4,q5⟩:=hr.place hlt
 rw [← Lm hlt] at q2 q3 q4 q5
 have hoff:=hf.off
 rw [← Lm (show 0 < l.length by omega),← Lm (show 1 < l.length by omega),← Lm hlt] at hoff
 generalize hp:l.getD n0 0=p at *
 have he:∀ i j,apM [] i j=none:=fun i j=>rfl
 have hS:∀ i,Kt l n0 i↔∃ k,k < n0∧i=l.getD k 0:=fun i=>by
  constructor
  ·rintro ⟨j,hj,h1,rfl⟩;exact ⟨j,h1,(Lm hj).symm⟩
  ·rintro ⟨k,hk,rfl⟩;exact hf.place hr hk
 -- all sides are seen from one side
 have same:∀ i,i+1 < n0→(0 < crs (plV v (l.getD 0 0)) (plV v (l.getD 1 0)) (plV v p)→0 < crs (plV v (l.getD i 0)) (plV v (l.getD (i+1) 0)) (plV v p)) ∧
   (crs (plV v (l.getD 0 0)) (plV v (l.getD 1 0)) (plV v p) < 0→crs (plV v (l.getD i 0)) (plV v (l.getD (i+1) 0)) (plV v p) < 0):=by
  intro i
  induction i with
  | zero=>exact fun _=>⟨fun h=>h,fun h=>h⟩
  | succ i ih =>
   intro hi
   obtain ⟨i1,i2⟩:=ih (by omega)
   have b1:=hf.bef hr (show i < i+1 by omega) (by omega)
   have b2:=hf.bef hr (show i+1 < i+2 by omega) hi
   have c0:=hf.col _ _ _ (hf.place hr (show i < n0 by omega)) (hf.place hr (show i+1 < n0 by omega)) (hf.place hr hi)
   exact ⟨fun h=>Aol b1 b2 c0 (i1 h),fun h=>Afj b1 b2 c0 (i2 h)⟩
 -- an order in which the place sees them,and that the fan has them
 have key:∃ R,Adds (plV v) (inN v.length) (Kt l n0) (apM []) R p∧∀ x y:Int,(⟨x,y⟩:Aa)∈fanL v l n0 (n0-1)↔Vis (plV v) R p x y:=by
  rcases Int.lt_or_gt_of_ne hoff with c | c
  ·refine ⟨Aji (fun j=>l.getD (n0-1-j) 0) n0,Aez he (fun i=>?_) (fun a b c h1 h2 h3=>hf.col a b c h1 h2 h3) (fun i hi=>?_) q1 q2 q3 q4 q5,fun x y=>?_⟩
   ·rw [hS]
    constructor
    ·rintro ⟨k,hk,rfl⟩;exact ⟨n0-1-k,by omega,by (try dsimp only);rw [show n0-1-(n0-1-k)=k by omega]⟩
    ·rintro ⟨k,hk,rfl⟩;exact ⟨n0-1-k,by omega,rfl⟩
   ·have:=(same (n0-2-i) (by omega)).2 c
    rw [show n0-2-i+1=n0-1-i by omega] at this
    try dsimp only
    rw [show n0-1-(i+1)=n0-2-i by omega,Bv]
    omega
   ·unfold fanL Vis Aji
    rw [List.mem_map]
    constructor
    ·rintro ⟨i,hi,e⟩
     rw [List.mem_range] at hi
     have hneg:=(same i (by omega)).2 c
     unfold fanS at e
     rw [hp,if_neg (by omega),Hl] at e
     obtain ⟨rfl,rfl⟩:=e
     refine ⟨⟨n0-2-i,by omega,by (try dsimp only);rw [show n0-1-(n0-2-i)=i+1 by omega],by (try dsimp only);rw [show n0-1-(n0-2-i+1)=i by omega]⟩,?_⟩
     rw [Bv];omega
    ·rintro ⟨⟨i,hi,rfl,rfl⟩,_⟩
     refine ⟨n0-2-i,by rw [List.mem_range];omega,?_⟩
     have hneg:=(same (n0-2-i) (by omega)).2 c
     unfold fanS
     rw [hp,if_neg (by omega),Hl]
     exact ⟨by (try dsimp only);rw [show n0-2-i+1=n0-1-i by omega],by (try dsimp only);rw [show n0-1-(i+1)=n0-2-i by omega]⟩
  ·refine ⟨Aji (fun j=>l.getD j 0) n0,Aez he hS (fun a b c h1 h2 h3=>hf.col a b c h1 h2 h3) (fun i hi=>(same i hi).1 c) q1 q2 q3 q4 q5,fun x y=>?_⟩
   unfold fanL Vis Aji
   rw [List.mem_map]
   constructor
   ·rintro ⟨i,hi,e⟩
    rw [List.mem_range] at hi
    have hpos:=(same i (by omega)).1 c
    unfold fanS at e
    rw [hp,if_pos hpos,Hl] at e
    obtain ⟨rfl,rfl⟩:=e
    exact ⟨⟨i,by omega,rfl,rfl⟩,hpos⟩
   ·rintro ⟨⟨i,hi,rfl,rfl⟩,hpos⟩
    refine ⟨i,by rw [List.mem_range];omega,?_⟩
    unfold fanS
    rw [hp,if_pos hpos]
 obtain ⟨R,hA,hmv⟩:=key
 obtain ⟨o1,o2⟩:=Afu (m:=[]) List.Pairwise.nil hA (fanL v l n0 (n0-1)) fun s hs=>(hmv s.a0 s.a1).1 hs
 have hN:∀ i j c,apM (putAll [] p (fanL v l n0 (n0-1))) i j=some c↔apM [] i j=some c∨New (plV v) R p i j c:=fun i j c=>by
  rw [o2,hmv,hmv,hmv]
  rfl
 have hpl:p=l[n0]:=by rw [← hp,Lm hlt]
 refine ⟨⟨?_,hA.tri' hN,?_,?_⟩,fun e=>?_⟩
 ·refine MapN.putAll q2 ⟨List.Pairwise.nil,fun q hq=>by cases hq⟩ fun s hs=>?_
  have:=(hA.r1 _ _ ((hmv s.a0 s.a1).1 hs).1)
  exact ⟨q1 _ this.1,q1 _ this.2.1⟩
 ·have:=hA.cov' hN (fun i j k hk=>by cases hk)
  intro i j c hc hn d hd
  refine this i j c hc hn d ?_
  rw [hpl]
  exact (Kt.succ hlt).1 hd
 ·intro i j c hc
  refine (Kt.succ hlt).2 ?_
  rw [← hpl]
  exact hA.used' hN i j c hc
 ·have h0:fanS v l n0 0∈fanL v l n0 (n0-1):=List.mem_map.2 ⟨0,by rw [List.mem_range];omega,rfl⟩
  have:=(o2 (fanS v l n0 0).a0 (fanS v l n0 0).a1 p).2 (.inr (.inl ⟨h0,rfl⟩))
  rw [e] at this
  cases this
end
end Go.Proofs.YtebkcipolijfmaaGreat
/- The mesh of vertices without lines. -/
namespace Go.Proofs.YtebkcipolijfmaaGreat
open Go Go.RowKit
variable {v:List Ab} {l:List Int}
theorem Asv (hv:Hj v) (hn:v.length≤1024) (hr:Mc v l) (F:List (Aa × Bool)) :
  ∃ m,Jc ⟨v,[],F⟩ l=some ⟨v,m,F⟩∧((Anm v∧m=[])∨(¬ Anm v∧MapN v.length m∧Tri (plV v) (inN v.length) (apM m)∧Cov (plV v) (inN v.length) (apM m)∧m≠[])):=by
 have hlen:=hr.len
 obtain ⟨n0,h1,h2,h3,h4,h5⟩:=Axx hv hn hr ⟨v,[],F⟩ rfl
 unfold Jc
 rw [jn_d,h1,Ah]
 dsimp only
 by_cases c:l.length≤n0
 ·rw [if_pos (by omega)]
  refine ⟨[],rfl,.inl ⟨?_,rfl⟩⟩
  by_cases c2:2≤l.length
  ·-- all on the line of the first two
   have g0:0 < l.length:=by omega
   have g1:1 < l.length:=by omega
   have on:∀ i,inN v.length i→crs (plV v l[0]) (plV v l[1]) (plV v i)=0:=fun i hi=>by
    obtain ⟨k,hk,rfl⟩:=List.getElem_of_mem (hr.val.2 hi)
    by_cases e0:k=0
    ·subst e0;exact Eq _ _
    ·by_cases e1:k=1
     ·subst e1;exact De _ _
     ·obtain ⟨_,_,_,g⟩:=h3 k (by omega) (by omega)
      exact g
   have hne:¬ Da (plV v l[0]) (plV v l[1]):=fun e=>by
    have:=hr.lt g0 g1 (by omega)
    unfold befP Da at *
    omega
   exact fun i j k hi hj hk=>Ajj hne (on i hi) (on j hj) (on k hk)
  ·intro i j k hi hj hk
   unfold inN at hi hj hk
   have:i=j:=by omega
   subst this
   exact Agi _ _
 ·rw [if_neg (by omega),jn_d]
  have g0:0 < l.length:=by omega
  have g1:1 < l.length:=by omega
  have gn:n0 < l.length:=by omega
  have off:=h4 g0 g1 gn
  have hne:¬ Da (plV v l[0]) (plV v l[1]):=fun e=>by
   have:=hr.lt g0 g1 (by omega)
   unfold befP Da at *
   omega
  have hf:Fan v l n0:=by
   refine ⟨h2,gn,fun i j k hi hj hk=>?_,off⟩
   have on:∀ i,Kt l n0 i→crs (plV v l[0]) (plV v l[1]) (plV v i)=0:=fun i hi=>by
    obtain ⟨k,hk,hk2,rfl⟩:=hi
    by_cases e0:k=0
    ·subst e0;exact Eq _ _
    ·by_cases e1:k=1
     ·subst e1;exact De _ _
     ·obtain ⟨_,_,_,g⟩:=h3 k (by omega) hk2
      exact g
   exact Ajj hne (on i hi) (on j hj) (on k hk)
  obtain ⟨s1,s2⟩:=hf.swept hv hn hr
  rw [Axy hv hn hr hf,Ah]
  dsimp only
  rw [Cq (by omega),gd_t ⟨by omega,by omega⟩]
  have ht:subl l (((n0+1:Nat):Int)) ((l.length:Nat):Int)=l.drop (n0+1):=by unfold subl;simp
  rw [ht]
  have:=He (B:=Ie l (n0:Int)) (fun s=>l.length-s.2.2.2.2.toNat) (fun s=>∃ (k:Nat) (m:Mp),n0+1≤k∧k≤l.length∧s=(v,m,F,l.drop (n0+1),((k-(n0+1):Nat):Int))∧Afv v l k m∧m≠[])
   (fun t=>∃ m:Mp,t=⟨v,m,F⟩∧Afv v l l.length m∧m≠[]) (fun s hs=>by
    obtain ⟨k,m,k1,k2,rfl,k3,k4⟩:=hs
    unfold Ie
    dsimp only
    rw [Cq (by omega)]
    by_cases c2:k < l.length
    ·left
     obtain ⟨m',e1,e2,e3⟩:=k3.step hv hn hr (F:=F) c2
     have hi:idx (l.drop (n0+1)) (((k-(n0+1):Nat):Int))=some l[k]:=by
      rw [Cf (by rw [List.length_drop];omega),List.getElem_drop]
      congr 2
      omega
     rw [if_pos (by simp;omega),jn_d,hi,Ah]
     refine ⟨(v,m',F,l.drop (n0+1),((k+1-(n0+1):Nat):Int)),?_,⟨k+1,m',by omega,by omega,rfl,e2,e3 k4⟩,by dsimp only;omega⟩
     obtain ⟨r,hr1,hr2⟩:=Ad e1
     obtain ⟨t,ht1,ht2⟩:=Ad hr2
     cases ht2
     rw [hr1,Ah,ht1,Ah,Cq (by omega),show k-(n0+1)+1=k+1-(n0+1) by omega]
    ·right
     rw [if_neg (by simp;omega)]
     have:k=l.length:=by omega
     subst this
     exact ⟨_,rfl,m,rfl,k3,k4⟩) (v,putAll [] (l.getD n0 0) (fanL v l n0 (n0-1)),F,l.drop (n0+1),0) ⟨n0+1,_,by omega,by omega,by simp,s1,s2⟩
  obtain ⟨t,e1,m,rfl,e2,e3⟩:=this
  rw [e1,Ah]
  refine ⟨m,rfl,.inr ⟨fun hfl=>?_,e2.map,e2.tri,fun i j k hk hnn d hd=>?_,e3⟩⟩
  ·exact off (hfl _ _ _ (hr.val.1 (List.getElem_mem g0)) (hr.val.1 (List.getElem_mem g1)) (hr.val.1 (List.getElem_mem gn)))
  ·obtain ⟨j',hj',rfl⟩:=List.getElem_of_mem (hr.val.2 hd)
   exact e2.cov _ _ _ hk hnn _ ⟨j',hj',hj',rfl⟩
/-- A triangle whose circle is empty. -/
def Del (v:List Ab) (a b c:Int):Prop:=inN v.length a∧inN v.length b∧inN v.length c∧0 < crs (plV v a) (plV v b) (plV v c)∧∀ d,inN v.length d→d≠a→d≠b→d≠c→DH (plV v) (hV v) a b c d < 0
theorem Del.rot {a b c:Int} (h:Del v a b c):Del v b c a:=by
 obtain ⟨h1,h2,h3,h4,h5⟩:=h
 exact ⟨h2,h3,h1,by rw [Ar];exact h4,fun d hd n1 n2 n3=>by rw [Ad7];exact h5 d hd n3 n1 n2⟩
/-- The triangles of a mesh without lines. -/
structure Asw (v:List Ab) (T:List Aq):Prop where
 ord:T.Pairwise fun x y=>¬ cmp3 y x < 0
 nd:T.Nodup
 mem:∀ t,t∈T↔t.a0 < t.a1∧t.a0 < t.a2∧Del v t.a0 t.a1 t.a2
theorem Asw.unique {T T':List Aq} (h:Asw v T) (h':Asw v T'):T=T' :=
 Agf tot3 (fun _ _=>trivial) h.ord h'.ord ((List.perm_ext_iff_of_nodup h.nd h'.nd).2 fun t=>(h.mem t).trans (h'.mem t).symm)
end Go.Proofs.YtebkcipolijfmaaGreat
/- Which vertices are valid: the program and the reference. -/
namespace Go.Proofs.YtebkcipolijfmaaGreat
open Go Go.RowKit
/-- A loop that looks for a number below N with p. -/
theorem Xn {β γ:Type} (N:Nat) (hN:N≤1000000000) (p:Nat→Bool) (B:Int→Option (Sum Int (Sum β γ))) (u:β) (w:γ) (h1:∀ k:Nat,k < N→B (k:Int)=if p k=true then some (.inr (.inr w)) else some (.inl ((k+1:Nat):Int)))
  (h2:B (N:Int)=some (.inr (.inl u))):lfix B 0=some (if (List.range N).any p then .inr w else .inl u):=by
 have key:∀ j k,j+k=N→lfix B (k:Int)=some (if ((List.range N).drop k).any p then .inr w else .inl u):=by
  intro j
  induction j with
  | zero =>
   intro k hk
   rw [Ci,show k=N by omega,h2,List.drop_eq_nil_of_le (by simp)]
   rfl
  | succ j ih =>
   intro k hk
   rw [Ci,h1 k (by omega),List.drop_eq_getElem_cons (by simp;omega),List.any_cons,List.getElem_range]
   by_cases c:p k=true
   ·rw [if_pos c,c];rfl
   ·rw [if_neg c]
    rw [Bool.not_eq_true] at c
    rw [c,Bool.false_or]
    exact ih (k+1) (by omega)
 have:=key N 0 (by omega)
 rwa [List.drop_zero] at this
def pP (x:Ab):Ac:=⟨x.X,x.Y⟩
def Oy (x:Ab):Prop:=okP (pP x)∧-268435456≤x.Z.Lo∧x.Z.Lo≤x.Z.Hi∧x.Z.Hi≤268435456
instance (x:Ab):Decidable (Oy x):=by unfold Oy;infer_instance
theorem Xo {v:List Ab} {k:Nat} (hk:k < v.length):plV v (k:Int)=pP v[k]:=by unfold plV;rw [Cf hk];rfl
theorem Aie (x:Ab):Ub x=some (decide (Oy x)):=by
 unfold Ub Fb
 rw [Ah,Ah,Ah,Anb,Ah,jn_d]
 unfold Mq
 by_cases h:okP (⟨x.X,x.Y⟩:Ac)
 ·simp only [h,and_self,if_true]
  rw [jn_d]
  by_cases h1:-1152921504606846976≤x.Z.Lo
  ·rw [if_pos h1]
   by_cases h2:x.Z.Lo≤x.Z.Hi
   ·rw [if_pos h2]
    by_cases h3:x.Z.Hi≤1152921504606846976
    ·rw [decide_eq_true h3,Ah,if_pos rfl]
     by_cases h4:-268435456≤x.Z.Lo
     ·rw [if_pos h4]
      congr 1
      rw [Bool.eq_iff_iff,decide_eq_true_eq,decide_eq_true_eq]
      unfold Oy pP
      exact ⟨fun g=>⟨h,h4,h2,g⟩,fun g=>g.2.2.2⟩
     ·rw [if_neg h4,decide_eq_false (fun g:Oy x=>h4 g.2.1)]
    ·rw [decide_eq_false h3,Ah,if_neg (by simp),decide_eq_false (fun g:Oy x=>h3 (by have:=g.2.2.2;omega))]
   ·rw [if_neg h2,Ah,if_neg (by simp),decide_eq_false (fun g:Oy x=>h2 g.2.2.1)]
  ·rw [if_neg h1,Ah,if_neg (by simp),decide_eq_false (fun g:Oy x=>h1 (by have:=g.2.1;omega))]
 ·simp only [h,false_and,if_false]
  rw [if_neg (by decide),decide_eq_false (fun g:Oy x=>h g.1)]
/-- The first error of vertices. -/
def Vu (v:List Ab):Int:=if 1024 < v.length then 2 else if ¬ (∀ x∈v,Oy x) then 60 else if ¬ Hm v then 61 else 0
theorem Xp {v:List Ab} (h:Vu v=0):v.length≤1024∧(∀ x∈v,Oy x)∧Hj v:=by
 unfold Vu at h
 split at h
 ·omega
 ·split at h
  ·omega
  ·split at h
   ·omega
   ·rename_i h1 h2 h3
    have h2:=Classical.not_not.1 h2
    have h3:=Classical.not_not.1 h3
    refine ⟨by omega,h2,fun i hi=>?_,fun i j hi hj hs=>?_⟩
    ·obtain ⟨k,hk,rfl,_⟩:=Ji (v:=v) (i:=i) hi
     rw [Xo hk]
     exact (h2 _ (List.getElem_mem hk)).1
    ·obtain ⟨a,ha,rfl,_⟩:=Ji (v:=v) (i:=i) hi
     obtain ⟨b,hb,rfl,_⟩:=Ji (v:=v) (i:=j) hj
     rw [Xo ha,Xo hb] at hs
     unfold Hm at h3
     rw [List.pairwise_iff_getElem] at h3
     rcases Nat.lt_trichotomy a b with c | c | c
     ·exact absurd hs (h3 a b ha hb c)
     ·rw [c]
     ·exact absurd ⟨hs.1.symm,hs.2.symm⟩ (h3 b a hb ha c)
theorem Ann {v:List Ab}:((List.range v.length).any fun k=>!decide (Oy (v.getD k ⟨0,0,⟨0,0⟩⟩)))=true↔¬ ∀ x∈v,Oy x:=by
 rw [List.any_eq_true]
 constructor
 ·rintro ⟨k,hk,h⟩ hall
  rw [List.mem_range] at hk
  simp [hk] at h
  exact h (hall _ (List.getElem_mem hk))
 ·intro h
  apply Classical.byContradiction
  intro hno
  apply h
  intro x hx
  obtain ⟨k,hk,rfl⟩:=List.getElem_of_mem hx
  apply Classical.byContradiction
  intro hb
  exact hno ⟨k,List.mem_range.2 hk,by simp [hk,hb]⟩
theorem Ano {v:List Ab}:(∃ i j,∃ (hi:i < v.length) (hj:j < v.length),j < i∧Afh v[i] v[j])↔¬ Hm v:=by
 unfold Hm
 rw [List.pairwise_iff_getElem]
 constructor
 ·rintro ⟨i,j,hi,hj,hji,hs⟩ h
  exact h j i hj hi hji ⟨hs.1.symm,hs.2.symm⟩
 ·intro h
  apply Classical.byContradiction
  intro hno
  apply h
  intro i j hi hj hij hs
  exact hno ⟨j,i,hj,hi,hij,hs.1.symm,hs.2.symm⟩
theorem Awt {v:List Ab} (c:v.length≤1024):lfix (Iu v) 0=some (if ((List.range v.length).any fun k=>!decide (Oy (v.getD k ⟨0,0,⟨0,0⟩⟩)))=true then .inr 60 else .inl ()):=by
 refine Xn v.length (by omega) (fun k=>!decide (Oy (v.getD k ⟨0,0,⟨0,0⟩⟩))) (Iu v) () 60 (fun k hk=>?_) ?_
 ·unfold Iu
  rw [if_pos (by omega),Cf hk,Ah,Aie,Ah,Cq (by omega)]
  have e:v.getD k ⟨0,0,⟨0,0⟩⟩=v[k]:=by simp [hk]
  rw [e]
  by_cases g:Oy v[k]
  ·simp [g]
  ·simp [g]
 ·unfold Iu
  rw [if_neg (by omega)]
theorem Xq (v:List Ab):Ly v=some (Vu v):=by
 unfold Ly Vu
 by_cases c:1024 < v.length
 ·rw [if_pos (by omega),if_pos c]
 ·rw [if_neg (by omega),if_neg c,jn_d]
  rw [Awt (by omega),Ah]
  ·by_cases h:∀ x∈v,Oy x
   ·rw [if_neg (fun g=>Ann.1 g h),if_neg (not_not_intro h)]
    dsimp only
    rw [jn_d]
    have hL:=He (B:=Ml v) (fun s=>v.length-s.2.toNat) (fun s=>∃ k:Nat,k≤v.length∧s.2=(k:Int)∧Fc s.1∧s.1.length≤k∧(∀ x,(mget s.1 x).getD false=true↔∃ (j:Nat) (hj:j < v.length),j < k∧pP v[j]=x)∧∀ i j (hi:i < v.length) (hj:j < v.length),i < k→j < i→¬ Afh v[i] v[j])
     (fun t=>t=if ¬ Hm v then .inr 61 else .inl ()) (fun s hs=>by
      obtain ⟨m,k⟩:=s
      obtain ⟨k,h1,rfl,h2,h3,h4,h5⟩:=hs
      simp only at h1 h2 h3 h4
      unfold Ml
      dsimp only
      by_cases hk:k < v.length
      ·have hg:=(h _ (List.getElem_mem hk)).1
       have hr:(-9223372036854775808≤v[k].X∧v[k].X≤9223372036854775807)∧-9223372036854775808≤v[k].Y∧v[k].Y≤9223372036854775807:=by
        unfold okP pP at hg
        simp only at hg
        omega
       unfold Fb
       rw [if_pos (by omega),Cf hk,Ah,Ah,gd_t hr,Ah]
       have e4:=h4 (⟨v[k].X,v[k].Y⟩:Ac)
       by_cases hd:(mget m (⟨v[k].X,v[k].Y⟩:Ac)).getD false=true
       ·right
        rw [if_pos hd]
        obtain ⟨j,hj,hjk,he⟩:=e4.1 hd
        refine ⟨_,rfl,?_⟩
        rw [if_pos]
        refine Ano.1 ⟨k,j,hk,hj,hjk,?_⟩
        unfold pP at he
        simp at he
        exact ⟨he.1.symm,he.2.symm⟩
       ·left
        rw [if_neg hd,Ah,gd_t hr,gd_t (by omega),Cq (by omega)]
        refine ⟨_,rfl,⟨k+1,hk,rfl,h2.put _ _,?_,fun x=>?_,fun i j hi hj hik hji=>?_⟩,by dsimp only;omega⟩
        ·dsimp only
         unfold mput mdel
         rw [List.length_cons]
         refine Nat.succ_le_succ (Nat.le_trans (List.length_filter_le _ m) h3)
        ·dsimp only
         rw [Pn h2]
         by_cases hx:x=⟨v[k].X,v[k].Y⟩
         ·rw [if_pos hx]
          simp only [Option.getD_some,true_iff]
          exact ⟨k,hk,by omega,hx.symm⟩
         ·rw [if_neg hx,h4]
          constructor
          ·rintro ⟨j,hj,h6,h7⟩;exact ⟨j,hj,by omega,h7⟩
          ·rintro ⟨j,hj,h6,h7⟩
           refine ⟨j,hj,?_,h7⟩
           by_cases e:j=k
           ·subst e;exact absurd h7.symm hx
           ·omega
        ·by_cases e:i=k
         ·subst e
          intro hs
          exact hd (e4.2 ⟨j,hj,hji,by unfold pP;rw [hs.1,hs.2]⟩)
         ·exact h5 i j hi hj (by omega) hji
      ·right
       rw [if_neg (by omega)]
       refine ⟨_,rfl,?_⟩
       rw [if_neg]
       intro hno
       obtain ⟨i,j,hi,hj,hji,hs⟩:=Ano.2 hno
       exact h5 i j hi hj (by omega) hji hs) ([],0) ⟨0,by omega,rfl,List.Pairwise.nil,by simp,fun x=>by simp [mget],fun i j hi hj h1=>by omega⟩
    obtain ⟨t,h1,rfl⟩:=hL
    rw [h1,Ah]
    by_cases hd:Hm v
    ·rw [if_neg (not_not_intro hd),if_neg (not_not_intro hd)]
    ·rw [if_pos hd,if_pos hd]
   ·rw [if_pos (Ann.2 h),if_pos h]
end Go.Proofs.YtebkcipolijfmaaGreat
