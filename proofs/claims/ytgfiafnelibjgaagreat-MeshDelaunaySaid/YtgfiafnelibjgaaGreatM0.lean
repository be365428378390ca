/- Which vertices are valid: the reference. -/
import Derived.Test.YtgfiafnelibjgaaGreatL9
import Derived.Test.YtgfiafnelibjgaaGreatE1b
import Derived.Test.YtgfiafnelibjgaaGreatK3
namespace Go.Proofs.YtgfiafnelibjgaaGreat
open Go Go.RowKit
theorem Abc (x:Ab):Fn x=some (decide (Kd x)):=by
 unfold Fn Aj
 rw [jn_d,Ae,Ajg,Ae]
 by_cases h:okP (⟨x.X,x.Y⟩:Ac)
 ·rw [decide_eq_true h,if_pos rfl]
  by_cases h1:-268435456≤x.Z.Lo
  ·rw [if_pos h1]
   by_cases h2:x.Z.Lo≤x.Z.Hi
   ·rw [if_pos h2]
    congr 1
    rw [Bool.eq_iff_iff,decide_eq_true_eq,decide_eq_true_eq]
    exact ⟨fun g=>⟨h,h1,h2,g⟩,fun g=>g.2.2.2⟩
   ·rw [if_neg h2,decide_eq_false (fun g:Kd x=>h2 g.2.2.1)]
  ·rw [if_neg h1,decide_eq_false (fun g:Kd x=>h1 g.2.1)]
 ·rw [decide_eq_false h,if_neg (by simp),decide_eq_false (fun g:Kd x=>h g.1)]
theorem Aqy {v:List Ab} (c:v.length≤1024):lfix (Dv v) 0=some (if ((List.range v.length).any fun k=>!decide (Kd (v.getD k ⟨0,0,⟨0,0⟩⟩)))=true then .inr 60 else .inl ()):=by
 refine Jw v.length (by omega) (fun k=>!decide (Kd (v.getD k ⟨0,0,⟨0,0⟩⟩))) (Dv v) () 60 (fun k hk=>?_) ?_
 ·unfold Dv
  rw [if_pos (by omega),Bm hk,Ae,Abc,Ae,Bh (by omega)]
  have e:v.getD k ⟨0,0,⟨0,0⟩⟩=v[k]:=by simp [hk]
  rw [e]
  by_cases g:Kd v[k]
  ·simp [g]
  ·simp [g]
 ·unfold Dv
  rw [if_neg (by omega)]
theorem Pj (v:List Ab):Ef v=some (Mg v):=by
 unfold Ef Mg
 by_cases c:1024 < v.length
 ·rw [if_pos (by omega),if_pos c]
 ·rw [if_neg (by omega),if_neg c,jn_d]
  rw [Aqy (by omega),Ae]
  ·by_cases h:∀ x∈v,Kd x
   ·rw [if_neg (fun g=>Abo.1 g h),if_neg (not_not_intro h)]
    dsimp only
    rw [jn_d]
    have hin:∀ i (hi:i < v.length),lfix (Fg (i:Int) v) 0=some (if (List.range i).any (fun j=>decide (Pi v[i] (v.getD j ⟨0,0,⟨0,0⟩⟩))) then .inr 61 else .inl ()):=fun i hi=>by
     refine Jw i (by omega) _ _ () 61 (fun k hk=>?_) ?_
     ·unfold Fg
      have e:v.getD k ⟨0,0,⟨0,0⟩⟩=v[k]'(by omega):=by simp [show k < v.length by omega]
      rw [if_pos (by omega),jn_d,Bm hi,Ae,Bm (show k < v.length by omega),Ae,Bh (by omega),e]
      unfold Pi
      by_cases g1:v[i].X=v[k].X
      ·rw [if_pos g1,Ae,Ae]
       by_cases g2:v[i].Y=v[k].Y
       ·simp [g1,g2]
       ·simp [g2]
      ·rw [if_neg g1]
       simp [g1]
     ·unfold Fg
      rw [if_neg (by omega)]
    have hout:lfix (Dk v) 0=some (if ((List.range v.length).any fun i=>(List.range i).any fun j=>decide (Pi (v.getD i ⟨0,0,⟨0,0⟩⟩) (v.getD j ⟨0,0,⟨0,0⟩⟩)))=true then .inr 61 else .inl ()):=by
     refine Jw v.length (by omega) (fun i=>(List.range i).any fun j=>decide (Pi (v.getD i ⟨0,0,⟨0,0⟩⟩) (v.getD j ⟨0,0,⟨0,0⟩⟩))) (Dk v) () 61 (fun i hi=>?_) ?_
     ·unfold Dk
      have e:v.getD i ⟨0,0,⟨0,0⟩⟩=v[i]:=by simp [hi]
      rw [if_pos (by omega),jn_d,hin i hi,Ae,Bh (by omega),e]
      by_cases g:((List.range i).any fun j=>decide (Pi v[i] (v.getD j ⟨0,0,⟨0,0⟩⟩)))=true
      ·rw [if_pos g,if_pos g]
      ·rw [if_neg g,if_neg g]
     ·unfold Dk
      rw [if_neg (by omega)]
    rw [hout,Ae]
    ·have hd:((List.range v.length).any fun i=>(List.range i).any fun j=>decide (Pi (v.getD i ⟨0,0,⟨0,0⟩⟩) (v.getD j ⟨0,0,⟨0,0⟩⟩)))=true↔¬ Fh v:=by
      rw [← Ae7,List.any_eq_true]
      constructor
      ·rintro ⟨i,hi,hj⟩
       rw [List.any_eq_true] at hj
       obtain ⟨j,hj,hs⟩:=hj
       rw [List.mem_range] at hi hj
       rw [decide_eq_true_eq] at hs
       refine ⟨i,j,hi,by omega,hj,?_⟩
       simpa [hi,show j < v.length by omega] using hs
      ·rintro ⟨i,j,hi,hj,hji,hs⟩
       refine ⟨i,List.mem_range.2 hi,?_⟩
       rw [List.any_eq_true]
       exact ⟨j,List.mem_range.2 hji,by simpa [hi,hj] using hs⟩
     by_cases g:Fh v
     ·rw [if_neg (fun q=>hd.1 q g),if_neg (not_not_intro g)]
     ·rw [if_pos (hd.2 g),if_pos g]
   ·rw [if_pos (Abo.2 h),if_pos h]
end Go.Proofs.YtgfiafnelibjgaaGreat
/- Boxes, the order of places, the reference's scans: what the texts on the reference's mesh share with those on hulls (of M3, M4, M6). -/
namespace Go.Proofs.YtgfiafnelibjgaaGreat
open Go Go.RowKit
/-- In the box of two places. -/
def Box (p q k:Ac):Prop:=min p.X q.X≤k.X∧k.X≤max p.X q.X∧min p.Y q.Y≤k.Y∧k.Y≤max p.Y q.Y
instance (p q k:Ac):Decidable (Box p q k):=by unfold Box;infer_instance
def lexA:Int:=2147483648
theorem Xd {p q:Ac} (hp:okP p) (hq:okP q):ph lexA 1 p < ph lexA 1 q↔befP p q:=by unfold ph lexA okP befP at *;omega
theorem Acl {p q:Ac} (hp:okP p) (hq:okP q):ph (-lexA) (-1) p < ph (-lexA) (-1) q↔befP q p:=by unfold ph lexA okP befP at *;omega
theorem mid {a b c d:Int} (h0:0 < a) (h1:0≤b) (h2:b≤a) (h:a*c=d*b):(0≤d→0≤c∧c≤d)∧(d≤0→d≤c∧c≤0):=by
 constructor
 ·intro hd
  have e1:=Int.mul_nonneg hd h1
  have e2:=Int.mul_nonneg hd (show 0≤a-b by omega)
  refine ⟨Ky h0 (by omega),?_⟩
  have:0≤d-c:=Ky h0 (by rw [Int.mul_sub] at *;rw [Int.mul_comm a d];omega)
  omega
 ·intro hd
  have e1:=Int.mul_nonneg (show 0≤-d by omega) h1
  have e2:=Int.mul_nonneg (show 0≤-d by omega) (show 0≤a-b by omega)
  rw [Int.neg_mul] at e1 e2
  rw [Int.mul_sub] at e2
  constructor
  ·have:0≤c-d:=Ky h0 (by rw [Int.mul_sub,Int.mul_comm a d];omega)
   omega
  ·have:0≤-c:=Ky h0 (by rw [Int.mul_neg];omega)
   omega
theorem Abn {p q k:Ac} (h:crs p q k=0) (h1:¬ befP k p) (h2:¬ befP q k):Box p q k:=by
 unfold befP at h1 h2
 unfold crs at h
 unfold Box
 by_cases e:p.X=q.X
 ·omega
 ·have:=mid (a:=q.X-p.X) (b:=k.X-p.X) (c:=k.Y-p.Y) (d:=q.Y-p.Y) (by omega) (by omega) (by omega) (by omega)
  rcases Int.le_total 0 (q.Y-p.Y) with g | g
  ·have:=this.1 g;omega
  ·have:=this.2 g;omega
theorem Box.swap {p q k:Ac} (h:Box p q k):Box q p k:=by unfold Box at *;omega
theorem Aod {p q k:Ac} (h:crs p q k=0) (h1:¬ befP q p) (h2:befP q k) (h3:¬ Bj p q):¬ Box p q k:=by
 intro hb
 unfold befP Bj at *
 unfold Box at hb
 unfold crs at h
 by_cases e:p.X=q.X
 ·omega
 ·have hk:k.X=q.X:=by omega
  rw [hk] at h
  have:(q.X-p.X)*(k.Y-q.Y)=0:=by grind
  rcases Int.mul_eq_zero.1 this with g | g <;> omega
theorem Aqz {p q k:Ac} (h:crs p q k=0) (h1:¬ befP p q) (h2:befP k q) (h3:¬ Bj p q):¬ Box p q k:=by
 intro hb
 unfold befP Bj at *
 unfold Box at hb
 unfold crs at h
 by_cases e:p.X=q.X
 ·omega
 ·have hk:k.X=q.X:=by omega
  rw [hk] at h
  have:(q.X-p.X)*(k.Y-q.Y)=0:=by grind
  rcases Int.mul_eq_zero.1 this with g | g <;> omega
variable {v:List Ab}
theorem Gl (hv:Ci v) {i j:Int} (hi:inN v.length i) (hj:inN v.length j) (h:i≠j):¬ Bj (plV v i) (plV v j):=fun g=>h (hv.dist i j hi hj g)
theorem Un (a b c:Ac):crs a c b = -crs a b c:=by unfold crs;grind
theorem Uo {p q r:Ac} (hp:okP p) (hq:okP q) (hr:okP r):Fc p q r=some (decide (crs p q r=0∧Box p q r)):=by
 unfold Fc
 rw [jn_d,Jg hp hq hr,Ae]
 have e:Int.sign (crs p q r)=0↔crs p q r=0:=Int.sign_eq_zero_iff_zero
 by_cases h:crs p q r=0
 ·rw [if_pos (e.2 h)]
  unfold Box
  by_cases h1:min p.X q.X≤r.X
  ·rw [if_pos h1]
   by_cases h2:r.X≤max p.X q.X
   ·rw [if_pos h2]
    by_cases h3:min p.Y q.Y≤r.Y
    ·rw [if_pos h3];simp [h,h1,h2,h3]
    ·rw [if_neg h3];simp [h3]
   ·rw [if_neg h2];simp [h2]
  ·rw [if_neg h1];simp [h1]
 ·rw [if_neg (fun g=>h (e.1 g))];simp [h]
theorem Acm (p q:Ac):Dg p q=some (decide (befP p q)):=by
 unfold Dg befP
 rw [jn_d]
 by_cases h1:p.X < q.X
 ·rw [if_pos h1];simp [h1]
 ·rw [if_neg h1]
  by_cases h2:p.X=q.X
  ·rw [if_pos h2];simp [h2]
  ·rw [if_neg h2];simp [h1,h2]
theorem Aq0 (p:Ac):¬ befP p p:=by unfold befP;omega
theorem Ry {p q:Ac} (h:befP p q):¬ befP q p:=by unfold befP at *;omega
theorem Hc {i:Int} (hi:inN v.length i):∃ x,idx v i=some x∧(⟨x.X,x.Y⟩:Ac)=plV v i:=by
 obtain ⟨k,hk,rfl,f⟩:=Fv (v:=v) (i:=i) hi
 exact ⟨v[k],f,by unfold plV;rw [f]⟩
theorem Agi (hn:v.length≤1024) {f:Int} (hf:inN v.length f) (low:∀ k,inN v.length k→k=f∨befP (plV v f) (plV v k)):Ih v=some f:=by
 unfold inN at hf
 unfold Ih
 rw [jn_d]
 have:=Cx (B:=Jp v) (fun s=>v.length-s.2.toNat) (fun s=>0≤s.2∧s.2≤(v.length:Int)∧inN v.length s.1∧(f < s.2→s.1=f)) (fun t=>t=f) (fun s hs=>by
  obtain ⟨b,k⟩:=s
  obtain ⟨h1,h2,h3,h4⟩:=hs
  simp only at h1 h2 h3 h4
  unfold Jp
  dsimp only
  by_cases hk:k < (v.length:Int)
  ·left
   obtain ⟨x,hx,px⟩:=Hc (v:=v) (i:=k) ⟨h1,hk⟩
   obtain ⟨y,hy,py⟩:=Hc (v:=v) (i:=b) h3
   rw [if_pos hk,jn_d,hx,Ae,hy,Ae]
   unfold Aj
   rw [Ae,Ae,px,py,Acm,Ae,Bl (by omega) (by omega)]
   by_cases c:befP (plV v k) (plV v b)
   ·rw [if_pos (decide_eq_true c)]
    refine ⟨_,rfl,⟨by dsimp only;omega,by dsimp only;omega,⟨h1,hk⟩,fun g=>?_⟩,by dsimp only;omega⟩
    dsimp only at g ⊢
    by_cases e:f < k
    ·rw [h4 e] at c
     rcases low k ⟨h1,hk⟩ with e2 | e2
     ·exact e2
     ·exact absurd c (Ry e2)
    ·omega
   ·rw [if_neg (by simpa using c)]
    refine ⟨_,rfl,⟨by dsimp only;omega,by dsimp only;omega,h3,fun g=>?_⟩,by dsimp only;omega⟩
    dsimp only at g ⊢
    by_cases e:f < k
    ·exact h4 e
    ·have:k=f:=by omega
     rcases low b h3 with e2 | e2
     ·exact e2
     ·rw [this] at c;exact absurd e2 c
  ·right
   rw [if_neg hk]
   exact ⟨_,rfl,h4 (by omega)⟩) (0,0) ⟨by simp,by simp,⟨by simp,by simp only;omega⟩,fun g=>by simp only at g;omega⟩
 obtain ⟨t,ht,rfl⟩:=this
 rw [ht,Ae]
theorem Ajy (hv:Ci v) (hn:v.length≤1024):∃ b,Jb v=some b∧(b=true↔∀ k,2≤k→inN v.length k→crs (plV v 0) (plV v 1) (plV v k)=0):=by
 unfold Jb
 rw [jn_d]
 have:=Cx (B:=Ke v) (fun s=>v.length-s.toNat) (fun s=>2≤s∧∀ k,2≤k→k < s→inN v.length k→crs (plV v 0) (plV v 1) (plV v k)=0)
  (fun t=>(t = .inl ()∧∀ k,2≤k→inN v.length k→crs (plV v 0) (plV v 1) (plV v k)=0)∨(t = .inr false∧¬ ∀ k,2≤k→inN v.length k→crs (plV v 0) (plV v 1) (plV v k)=0)) (fun s hs=>by
  obtain ⟨h1,h2⟩:=hs
  unfold Ke
  by_cases hk:s < (v.length:Int)
  ·have hs':inN v.length s:=⟨by omega,hk⟩
   have h0':inN v.length 0:=⟨by omega,by omega⟩
   have h1':inN v.length 1:=⟨by omega,by omega⟩
   obtain ⟨x,hx,px⟩:=Hc (v:=v) h0'
   obtain ⟨y,hy,py⟩:=Hc (v:=v) h1'
   obtain ⟨z,hz,pz⟩:=Hc (v:=v) hs'
   rw [if_pos hk,hx,Ae,hy,Ae,hz,Ae]
   unfold Aj
   rw [Ae,Ae,Ae,px,py,pz,Jg (hv.ok _ h0') (hv.ok _ h1') (hv.ok _ hs'),Ae,Bl (by omega) (by omega)]
   have s0:Int.sign (crs (plV v 0) (plV v 1) (plV v s))=0↔crs (plV v 0) (plV v 1) (plV v s)=0:=Int.sign_eq_zero_iff_zero
   by_cases c:crs (plV v 0) (plV v 1) (plV v s)=0
   ·left
    rw [if_pos (s0.2 c)]
    refine ⟨_,rfl,⟨by omega,fun k k1 k2 k3=>?_⟩,by omega⟩
    by_cases e:k=s
    ·rw [e];exact c
    ·exact h2 k k1 (by omega) k3
   ·right
    rw [if_neg (fun g=>c (s0.1 g))]
    exact ⟨_,rfl,.inr ⟨rfl,fun g=>c (g s h1 hs')⟩⟩
  ·right
   rw [if_neg hk]
   exact ⟨_,rfl,.inl ⟨rfl,fun k k1 k2=>h2 k k1 (by have:=k2.2;omega) k2⟩⟩) 2 ⟨by omega,fun k k1 k2=>by omega⟩
 obtain ⟨t,ht,g | g⟩:=this
 ·obtain ⟨rfl,g⟩:=g
  rw [ht,Ae]
  exact ⟨true,rfl,fun _=>g,fun _=>rfl⟩
 ·obtain ⟨rfl,g⟩:=g
  rw [ht,Ae]
  exact ⟨false,rfl,fun h=>(by cases h),fun h=>absurd h g⟩
end Go.Proofs.YtgfiafnelibjgaaGreat
