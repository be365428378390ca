/- The area of a mesh is the sum over the edges of the hull. -/
import Derived.Test.YtgfiafnelibjgaaGreatU23
import Derived.Test.YtgfiafnelibjgaaGreatL9
import Derived.Test.YtgfiafnelibjgaaGreatU21
import Derived.Test.YtgfiafnelibjgaaGreatZ2
import Derived.Test.YtgfiafnelibjgaaGreatE2
namespace Go.Proofs.YtgfiafnelibjgaaGreat
open Go Go.RowKit
section
variable {v:List Ab} {m:Mp} {L:List Aa} {T:List Ai}
def Ls (t:Ai):List (Int × Int):=[(t.a0,t.a1),(t.a1,t.a2),(t.a2,t.a0)]
theorem Mz {t:Ai} {p q:Int}:(p,q)∈Ls t↔Fk t p q:=by
 unfold Ls Fk
 simp
theorem memS (hM:Tri (plV v) (inN v.length) (apM m)) (hT:Ni v m T) {p q:Int}:(p,q)∈T.flatMap Ls↔∃ e,apM m p q=some e:=by
 rw [List.mem_flatMap]
 constructor
 ·rintro ⟨t,ht,hs⟩
  exact ((hT.mem t).1 ht).side hM (Mz.1 hs)
 ·rintro ⟨e,he⟩
  obtain ⟨n1,n2,n3⟩:=hM.ne he
  by_cases c1:p < q∧p < e
  ·exact ⟨⟨p,q,e⟩,(hT.mem _).2 ⟨c1.1,c1.2,he⟩,Mz.2 (.inl ⟨rfl,rfl⟩)⟩
  ·by_cases c2:q < p∧q < e
   ·exact ⟨⟨q,e,p⟩,(hT.mem _).2 ⟨c2.2,c2.1,hM.rot _ _ _ he⟩,Mz.2 (.inr (.inr ⟨rfl,rfl⟩))⟩
   ·exact ⟨⟨e,p,q⟩,(hT.mem _).2 ⟨by dsimp only;omega,by dsimp only;omega,hM.rot2 he⟩,Mz.2 (.inr (.inl ⟨rfl,rfl⟩))⟩
theorem Agj (hM:Tri (plV v) (inN v.length) (apM m)) {t t':Ai} (h:Ut m t) (h':Ut m t') {p q:Int} (hs:Fk t p q) (hs':Fk t' p q):t=t':=by
 obtain ⟨a,b,c⟩:=t
 obtain ⟨a',b',c'⟩:=t'
 obtain ⟨h1,h2,h3⟩:=h
 obtain ⟨h1',h2',h3'⟩:=h'
 have r3:=hM.rot _ _ _ h3
 have q3:=hM.rot2 h3
 have r3':=hM.rot _ _ _ h3'
 have q3':=hM.rot2 h3'
 unfold Fk at hs hs'
 dsimp only at *
 rcases hs with ⟨rfl,rfl⟩ | ⟨rfl,rfl⟩ | ⟨rfl,rfl⟩ <;> rcases hs' with ⟨rfl,rfl⟩ | ⟨rfl,rfl⟩ | ⟨rfl,rfl⟩
 ·rw [h3] at h3';cases h3';rfl
 ·rw [h3] at r3';cases r3';omega
 ·rw [h3] at q3';cases q3';omega
 ·rw [r3] at h3';cases h3';omega
 ·rw [r3] at r3';cases r3';rfl
 ·rw [r3] at q3';cases q3';omega
 ·rw [q3] at h3';cases h3';omega
 ·rw [q3] at r3';cases r3';omega
 ·rw [q3] at q3';cases q3';rfl
theorem Aoe (hM:Tri (plV v) (inN v.length) (apM m)) (hT:Ni v m T):(T.flatMap Ls).Nodup:=by
 unfold List.Nodup
 rw [List.pairwise_flatMap]
 refine ⟨fun t ht=>?_,?_⟩
 ·obtain ⟨n1,n2,n3⟩:=hM.ne ((hT.mem t).1 ht).2.2
  unfold Ls
  simp
  omega
 ·refine List.Pairwise.imp_of_mem (fun {t t'} ht ht' hne x hx y hy e=>?_) hT.nd
  subst e
  obtain ⟨p,q⟩:=x
  exact hne (Agj hM ((hT.mem t).1 ht) ((hT.mem t').1 ht') (Mz.1 hx) (Mz.1 hy))
/-- The sides with nothing to their right. -/
noncomputable def bds (m:Mp) (T:List Ai):List (Int × Int):=(T.flatMap Ls).filter fun s=>(apM m s.2 s.1).isNone
theorem Ajz (hM:Tri (plV v) (inN v.length) (apM m)) (hT:Ni v m T) {p q:Int}:(p,q)∈bds m T↔(∃ e,apM m p q=some e)∧apM m q p=none:=by
 unfold bds
 rw [List.mem_filter,memS hM hT]
 simp
theorem Agk (hM:Tri (plV v) (inN v.length) (apM m)) (hT:Ni v m T) (f:Int × Int→Int):tot f ((T.flatMap Ls).filter fun s=>!(apM m s.2 s.1).isNone)=tot (fun s=>f (s.2,s.1)) ((T.flatMap Ls).filter fun s=>!(apM m s.2 s.1).isNone):=by
 have hnd:=(Aoe hM hT).filter (fun s=>!(apM m s.2 s.1).isNone)
 have mem:∀ p q,(p,q)∈((T.flatMap Ls).filter fun s=>!(apM m s.2 s.1).isNone)↔(∃ e,apM m p q=some e)∧∃ e,apM m q p=some e:=fun p q=>by
  rw [List.mem_filter,memS hM hT]
  simp only [Bool.not_eq_true',Option.isNone_eq_false_iff,Option.isSome_iff_exists]
 rw [← Aj6 f (fun s:Int × Int=>(s.2,s.1))]
 refine Aov ((List.perm_ext_iff_of_nodup hnd (Np (fun x _ y _ e=>?_) hnd)).2 fun s=>?_)
 ·obtain ⟨x1,x2⟩:=x
  obtain ⟨y1,y2⟩:=y
  simp only [Prod.mk.injEq] at e
  rw [e.1,e.2]
 ·obtain ⟨p,q⟩:=s
  rw [mem,List.mem_map]
  constructor
  ·rintro ⟨h1,h2⟩
   exact ⟨(q,p),(mem q p).2 ⟨h2,h1⟩,rfl⟩
  ·rintro ⟨⟨x,y⟩,h,e⟩
   cases e
   have:=(mem _ _).1 h
   exact ⟨this.2,this.1⟩
theorem Acn (hM:Tri (plV v) (inN v.length) (apM m)) (hT:Ni v m T) (F:Int→Int):tot (fun s:Int × Int=>F s.1) (bds m T)=tot (fun s:Int × Int=>F s.2) (bds m T):=by
 have h1:=Vu (fun s:Int × Int=>F s.1) (fun s=>(apM m s.2 s.1).isNone) (T.flatMap Ls)
 have h2:=Vu (fun s:Int × Int=>F s.2) (fun s=>(apM m s.2 s.1).isNone) (T.flatMap Ls)
 have h3:=Agk hM hT (fun s:Int × Int=>F s.1)
 have h4:tot (fun s:Int × Int=>F s.1) (T.flatMap Ls)=tot (fun s:Int × Int=>F s.2) (T.flatMap Ls):=by
  rw [Qy,Qy]
  refine Sa fun t _=>?_
  simp only [Ls,tot]
  omega
 unfold bds
 dsimp only at h3
 omega
theorem Aof (hM:Tri (plV v) (inN v.length) (apM m)) (hT:Ni v m T):tot (fun t:Ai=>crs (plV v t.a0) (plV v t.a1) (plV v t.a2)) T=tot (fun s:Int × Int=>xp (plV v s.1) (plV v s.2)) (bds m T):=by
 have h1:=Vu (fun s:Int × Int=>xp (plV v s.1) (plV v s.2)) (fun s=>(apM m s.2 s.1).isNone) (T.flatMap Ls)
 have h2:=Agk hM hT (fun s:Int × Int=>xp (plV v s.1) (plV v s.2))
 dsimp only at h2
 have h3:∀ l:List (Int × Int),tot (fun s:Int × Int=>xp (plV v s.2) (plV v s.1)) l = -tot (fun s:Int × Int=>xp (plV v s.1) (plV v s.2)) l:=fun l=>by
  rw [← Aj9]
  exact Sa fun s _=>Abp _ _
 rw [h3] at h2
 have h4:tot (fun t:Ai=>crs (plV v t.a0) (plV v t.a1) (plV v t.a2)) T=tot (fun s:Int × Int=>xp (plV v s.1) (plV v s.2)) (T.flatMap Ls):=by
  rw [Qy]
  refine Sa fun t _=>?_
  simp only [Ls,tot]
  rw [Aif]
  omega
 unfold bds
 omega
theorem Ae4 (hv:Ci v) {p y:Int} (hp:inN v.length p) (hy:inN v.length y) (hne:p≠y) (h:∀ k,inN v.length k→crs (plV v p) (plV v y) (plV v k)=0):Zb v :=
 fun i j k hi hj hk=>Us (Gl hv hp hy hne) (h i hi) (h j hj) (h k hk)
/-- The area. -/
theorem Alv (hv:Ci v) (hn:v.length≤1024) (hM:Mesh v L m) (hT:Ni v m T) (hfl:¬ Zb v) {f g:Int} {X Y:List Int} (Lo:Le (SupV (plV v) (inN v.length) lexA 1) (f::X++[g])) (Up:Le (SupV (plV v) (inN v.length) (-lexA) (-1)) (g::Y++[f])) (hf:inN v.length f) (low:∀ k,inN v.length k→k=f∨befP (plV v f) (plV v k)) (hg:inN v.length g) (high:∀ k,inN v.length k→k=g∨befP (plV v k) (plV v g)) :
  tot (fun t:Ai=>crs (plV v t.a0) (plV v t.a1) (plV v t.a2)) T=clen (plV v) (f::X++[g])+clen (plV v) (g::Y++[f]):=by
 haveI:DecidablePred fun p:Int=>∃ q,(p,q)∈bds m T∧ph lexA 1 (plV v p) < ph lexA 1 (plV v q):=fun _=>Classical.propDecidable _
 have mem:∀ {p q},(p,q)∈bds m T→(∃ e,apM m p q=some e)∧apM m q p=none:=fun h=>(Ajz hM.tri hT).1 h
 have vs:∀ {p q},(p,q)∈bds m T→inN v.length p∧inN v.length q∧p≠q:=fun h=>by
  obtain ⟨⟨e,he⟩,_⟩:=mem h
  obtain ⟨q1,q2,_⟩:=hM.tri.ccw _ _ _ he
  exact ⟨q1,q2,(hM.tri.ne he).1⟩
 have hb:∀ {p q},(p,q)∈bds m T→∀ k,inN v.length k→0≤crs (plV v p) (plV v q) (plV v k):=fun h k hk=>by
  obtain ⟨⟨e,he⟩,h2⟩:=mem h
  exact hM.cov _ _ _ he h2 k hk
 have bef:∀ {p q},inN v.length p→inN v.length q→(ph lexA 1 (plV v p) < ph lexA 1 (plV v q)↔befP (plV v p) (plV v q)):=fun hp hq=>Xd (hv.ok _ hp) (hv.ok _ hq)
 have neg:∀ p,ph (-lexA) (-1) p = -ph lexA 1 p:=fun p=>by unfold ph;grind
 have free:∀ {p q},(p,q)∈bds m T→∀ k,inN v.length k→crs (plV v p) (plV v q) (plV v k)=0→¬ ((ph lexA 1 (plV v p) < ph lexA 1 (plV v k)∧ph lexA 1 (plV v k) < ph lexA 1 (plV v q))∨(ph lexA 1 (plV v q) < ph lexA 1 (plV v k)∧ph lexA 1 (plV v k) < ph lexA 1 (plV v p))):=fun {p q} h k hk h0 g=>by
  obtain ⟨⟨e,he⟩,_⟩:=mem h
  obtain ⟨vp,vq,_⟩:=vs h
  have b1:=bef vp hk
  have b2:=bef hk vq
  have b3:=bef vq hk
  have b4:=bef hk vp
  have n1:k≠p:=fun e=>by subst e;omega
  have n2:k≠q:=fun e=>by subst e;omega
  refine Vj hM.tri he hk n1 n2 ⟨⟨h0,fun w=>?_⟩,Gl hv hk vp n1,Gl hv hk vq n2⟩
  rw [← b1,← b3] at w
  omega
 have inj:∀ a b,inN v.length a→inN v.length b→ph lexA 1 (plV v a)=ph lexA 1 (plV v b)→a=b:=fun a b ha hb e=>by
  refine Classical.byContradiction fun n=>?_
  rcases Iq (Gl hv ha hb n) with g | g
  ·have:=(bef ha hb).2 g;omega
  ·have:=(bef hb ha).2 g;omega
 have lowf:∀ k,inN v.length k→ph lexA 1 (plV v f)≤ph lexA 1 (plV v k):=fun k hk=>by
  rcases low k hk with e | e
  ·rw [e];omega
  ·have:=(bef hf hk).2 e;omega
 have higg:∀ k,inN v.length k→ph lexA 1 (plV v k)≤ph lexA 1 (plV v g):=fun k hk=>by
  rcases high k hk with e | e
  ·rw [e];omega
  ·have:=(bef hk hg).2 e;omega
 have lowq:∀ k,inN v.length k→k≠f→ph lexA 1 (plV v f) < ph lexA 1 (plV v k):=fun k hk hne=>by
  have:=lowf k hk
  refine Classical.byContradiction fun n=>hne (inj k f hk hf (by omega))
 have higq:∀ k,inN v.length k→k≠g→ph lexA 1 (plV v k) < ph lexA 1 (plV v g):=fun k hk hne=>by
  have:=higg k hk
  refine Classical.byContradiction fun n=>hne (inj k g hk hg (by omega))
 -- one side leaves the first place
 have h2:2≤v.length:=by
  have:=Xg Lo
  have n:f≠g:=fun e=>by subst e;omega
  unfold inN at hf hg
  omega
 obtain ⟨b,b1,b2,b3,b4⟩:=Al3 hv hn hf low h2
 obtain ⟨e,he⟩:=Al4 hv hM hf low b2 b3 b4
 have fb:(f,b)∈bds m T:=by
  refine (Ajz hM.tri hT).2 ⟨⟨e,he⟩,?_⟩
  rcases w:apM m b f with _ | z
  ·rfl
  ·exfalso
   obtain ⟨_,_,vz,Tz⟩:=hM.tri.ccw _ _ _ w
   rw [Aw] at Tz
   by_cases e:z=f
   ·rw [e,Cc] at Tz;omega
   ·rcases b4 z vz e with g | g <;> omega
 have one:∀ q,(f,q)∈bds m T→q=b:=fun q hq=>by
  obtain ⟨_,vq,nq⟩:=vs hq
  refine Classical.byContradiction fun n=>?_
  have c1:=hb fb q vq
  have c2:=hb hq b b2
  rw [Ax] at c2
  have lq:=lowq q vq (fun e=>nq e.symm)
  have lb:=lowq b b2 b3
  rcases Int.lt_trichotomy (ph lexA 1 (plV v q)) (ph lexA 1 (plV v b)) with g | g | g
  ·exact free fb q vq (by omega) (.inl ⟨lq,g⟩)
  ·exact n (inj q b vq b2 g)
  ·exact free hq b b2 (by rw [Ax];omega) (.inl ⟨lb,g⟩)
 have fst1:tot (fun s:Int × Int=>if s.1=f then (1:Int) else 0) (bds m T)=1:=by
  refine Akb (p:=fun s:Int × Int=>s.1=f) (x:=(f,b)) ((Aoe hM.tri hT).filter _) fb fun y hy=>?_
  obtain ⟨y1,y2⟩:=y
  constructor
  ·intro e
   dsimp only at e
   subst e
   rw [one _ hy]
  ·intro e;cases e;rfl
 have snd1:tot (fun s:Int × Int=>if s.2=f then (1:Int) else 0) (bds m T)=1:=by
  exact (Acn hM.tri hT (fun i=>if i=f then (1:Int) else 0)).symm.trans fst1
 have cont:∀ {i j},(i,j)∈bds m T→∃ z,(j,z)∈bds m T:=fun {i j} h=>by
  have h1:0 < tot (fun s:Int × Int=>if s.2=j then (1:Int) else 0) (bds m T):=Akc (p:=fun s:Int × Int=>s.2=j) h rfl
  have h2:=Acn hM.tri hT (fun i=>if i=j then (1:Int) else 0)
  rw [← h2] at h1
  obtain ⟨⟨x,y⟩,hx,e⟩:=Aie (p:=fun s:Int × Int=>s.1=j) h1
  dsimp only at e
  subst e
  exact ⟨y,hx⟩
 -- the potential
 have pU:phiC (plV v) (-lexA) (-1) (g::Y++[f]) g=0:=Zr Up
 have pL:phiC (plV v) lexA 1 (f::X++[g]) f=0:=Zr Lo
 have lowF:∃ q,(f,q)∈bds m T∧ph lexA 1 (plV v f) < ph lexA 1 (plV v q):=⟨b,fb,lowq b b2 b3⟩
 have Pi:∀ a b,inN v.length a→inN v.length b→Bj (plV v a) (plV v b)→a=b:=fun a b ha hb e=>hv.dist a b ha hb e
 have key:∀ s∈bds m T,xp (plV v s.1) (plV v s.2)=((if ∃ q,(s.2,q)∈bds m T∧ph lexA 1 (plV v s.2) < ph lexA 1 (plV v q) then phiC (plV v) lexA 1 (f::X++[g]) s.2 else clen (plV v) (f::X++[g])+phiC (plV v) (-lexA) (-1) (g::Y++[f]) s.2)-(if ∃ q,(s.1,q)∈bds m T∧ph lexA 1 (plV v s.1) < ph lexA 1 (plV v q) then phiC (plV v) lexA 1 (f::X++[g]) s.1 else clen (plV v) (f::X++[g])+phiC (plV v) (-lexA) (-1) (g::Y++[f]) s.1))+(clen (plV v) (f::X++[g])+clen (plV v) (g::Y++[f]))*(if s.2=f then (1:Int) else 0):=by
  rintro ⟨i,j⟩ hs
  dsimp only
  obtain ⟨vi,vj,nij⟩:=vs hs
  rcases Int.lt_trichotomy (ph lexA 1 (plV v i)) (ph lexA 1 (plV v j)) with c | c | c
  ·-- Mb
   have hi:∃ q,(i,q)∈bds m T∧ph lexA 1 (plV v i) < ph lexA 1 (plV v q):=⟨j,hs,c⟩
   have e1:=Agz (g:=g) vi vj Pi inj c (hb hs) (fun k hk h0 g1 g2=>free hs k hk h0 (.inl ⟨g1,g2⟩)) (higg j vj) Lo (lowf i vi)
   have jf:j≠f:=fun e=>by subst e;have:=lowf i vi;omega
   rw [if_pos hi,if_neg jf,Int.mul_zero,Int.add_zero]
   by_cases hj:∃ q,(j,q)∈bds m T∧ph lexA 1 (plV v j) < ph lexA 1 (plV v q)
   ·rw [if_pos hj];omega
   ·rw [if_neg hj]
    have jg:j=g:=by
     refine Classical.byContradiction fun n=>?_
     obtain ⟨z,hz⟩:=cont hs
     obtain ⟨_,vz,njz⟩:=vs hz
     have cz:ph lexA 1 (plV v z) < ph lexA 1 (plV v j):=by
      rcases Int.lt_trichotomy (ph lexA 1 (plV v z)) (ph lexA 1 (plV v j)) with w | w | w
      ·exact w
      ·exact absurd (inj z j vz vj w).symm njz
      ·exact absurd ⟨z,hz,w⟩ hj
     have:=Asg (P:=plV v) (V:=inN v.length) (α:=-lexA) (β:=-1) (p:=j) (x:=i) (y:=z) (d:=g) vi hg (by rw [neg,neg];omega) (by rw [neg,neg];omega) (by rw [neg,neg];have:=higq j vj n;omega) (hb hs) (hb hz)
     exact hfl (Ae4 hv vj vz njz this)
    rw [jg,pU,← Acz Lo]
    rw [jg] at e1
    omega
  ·exact absurd (inj i j vi vj c) nij
  ·-- above
   have e1:=Agz (P:=plV v) (V:=inN v.length) (α:=-lexA) (β:=-1) (g:=f) vi vj Pi (fun a b ha hb e=>inj a b ha hb (by rw [neg,neg] at e;omega)) (by rw [neg,neg];omega) (hb hs) (fun k hk h0 g1 g2=>free hs k hk h0 (.inr (by rw [neg,neg] at g1 g2;omega))) (by rw [neg,neg];have:=lowf j vj;omega) Up (by rw [neg,neg];have:=higg i vi;omega)
   have hi:¬ ∃ q,(i,q)∈bds m T∧ph lexA 1 (plV v i) < ph lexA 1 (plV v q):=by
    rintro ⟨z,hz,cz⟩
    obtain ⟨_,vz,_⟩:=vs hz
    exact hfl (Ae4 hv vi vj nij (fork vj vz c cz (hb hs) (hb hz)))
   rw [if_neg hi]
   by_cases jf:j=f
   ·subst jf
    rw [if_pos lowF,if_pos rfl,pL,Int.mul_one]
    rw [Acz Up] at e1
    omega
   ·have hj:¬ ∃ q,(j,q)∈bds m T∧ph lexA 1 (plV v j) < ph lexA 1 (plV v q):=by
     rintro ⟨z,hz,cz⟩
     obtain ⟨_,vz,njz⟩:=vs hz
     exact hfl (Ae4 hv vj vz njz (Asg (P:=plV v) (V:=inN v.length) (α:=lexA) (β:=1) (p:=j) (x:=i) (y:=z) (d:=f) vi hf c cz (lowq j vj jf) (hb hs) (hb hz)))
    rw [if_neg hj,if_neg jf,Int.mul_zero,Int.add_zero]
    omega
 rw [Aof hM.tri hT,Sa key,Aj7,Aj8,Aka,snd1,Int.mul_one]
 have:=Acn hM.tri hT (fun i=>if ∃ q,(i,q)∈bds m T∧ph lexA 1 (plV v i) < ph lexA 1 (plV v q) then phiC (plV v) lexA 1 (f::X++[g]) i else clen (plV v) (f::X++[g])+phiC (plV v) (-lexA) (-1) (g::Y++[f]) i)
 try dsimp only at this
 omega
end
end Go.Proofs.YtgfiafnelibjgaaGreat
/- The hull's area as the law computes it. -/
namespace Go.Proofs.YtgfiafnelibjgaaGreat
open Go Go.RowKit
section
variable {v:List Ab} {m:Mp} {L:List Aa} {T:List Ai}
/-- The hull of places that are not on one line. -/
theorem Agl (h:Mg v=0) (hfl:¬ Zb v):∃ f g X Y,Ek v=some (f::X++g::Y,0)∧(f::X++g::Y).length≤4096∧(∀ x∈f::X++g::Y,inN v.length x)∧Le (SupV (plV v) (inN v.length) lexA 1) (f::X++[g])∧Le (SupV (plV v) (inN v.length) (-lexA) (-1)) (g::Y++[f])∧inN v.length f∧(∀ k,inN v.length k→k=f∨befP (plV v f) (plV v k))∧inN v.length g∧(∀ k,inN v.length k→k=g∨befP (plV v k) (plV v g)):=by
 obtain ⟨hn,_,hv⟩:=Lt h
 obtain ⟨l,hl,hr⟩:=Adm hv hn
 have hlen:=hr.len
 have h3:2≤l.length:=by
  refine Classical.byContradiction fun c=>hfl fun i j k hi hj hk=>?_
  unfold inN at hi hj hk
  have:i=j:=by omega
  subst this
  exact Zh _ _
 obtain ⟨f,g,X,Y,e1,e2,W,ne1,ne2,hf,low,hg,high⟩:=Agy hv hr h3
 have hord:l.Pairwise fun i j=>ph lexA 1 (plV v i) < ph lexA 1 (plV v j):=by
  refine hr.ord.imp_of_mem fun {a b} ha hb h=>?_
  exact (Xd (hv.ok _ (hr.val.1 ha)) (hv.ok _ (hr.val.1 hb))).2 h
 have hord':l.reverse.Pairwise fun i j=>ph (-lexA) (-1) (plV v i) < ph (-lexA) (-1) (plV v j):=by
  rw [List.pairwise_reverse]
  refine hr.ord.imp_of_mem fun {a b} ha hb h=>?_
  exact (Acl (hv.ok _ (hr.val.1 hb)) (hv.ok _ (hr.val.1 ha))).2 h
 have hne:l≠[]:=by rintro rfl;simp at h3
 obtain ⟨_,_,a2,_⟩:=Ym l hord hne
 obtain ⟨_,_,b2,_⟩:=Ym l.reverse hord' (by simpa using hne)
 have L1:=Vs a2.edge
 have L2:=Vs b2.edge
 have in1:∀ x∈(Lu (plV v) l).reverse,inN v.length x:=fun x hx=>hr.val.1 (a2.sub x (List.mem_reverse.1 hx))
 have in2:∀ x∈(Lu (plV v) l.reverse).reverse,inN v.length x:=fun x hx=>hr.val.1 (List.mem_reverse.1 (b2.sub x (List.mem_reverse.1 hx)))
 have S1:=Vt (R:=SupV (plV v) (inN v.length) lexA 1) (fun a b ha hb (h:Sup (plV v) lexA 1 l a b)=>⟨in1 a ha,in1 b hb,h.1,fun k hk=>by rcases h.2 k (hr.val.2 hk) with g | g <;> omega⟩) L1
 have S2:=Vt (R:=SupV (plV v) (inN v.length) (-lexA) (-1)) (fun a b ha hb (h:Sup (plV v) (-lexA) (-1) l.reverse a b)=>⟨in2 a ha,in2 b hb,h.1,fun k hk=>by rcases h.2 k (List.mem_reverse.2 (hr.val.2 hk)) with g | g <;> omega⟩) L2
 rw [e1] at S1 in1
 rw [e2] at S2 in2
 have len1:=Acv (P:=plV v) (l:=l)
 have len2:=Acv (P:=plV v) (l:=l.reverse)
 have len3:=congrArg List.length e1
 have len4:=congrArg List.length e2
 simp only [List.length_reverse,List.length_append,List.length_cons,List.length_nil] at len1 len2 len3 len4
 refine ⟨f,g,X,Y,?_,by simp only [List.length_append,List.length_cons];omega,fun x hx=>?_,S1,S2,hf,low,hg,high⟩
 ·obtain ⟨b,hb,hb2⟩:=Ajy hv hn
  have c:¬ b=true:=fun c=>by
   have v0:inN v.length 0:=⟨by omega,by omega⟩
   have v1:inN v.length 1:=⟨by omega,by omega⟩
   have n01:=Gl hv v0 v1 (by omega)
   have all:∀ k,inN v.length k→crs (plV v 0) (plV v 1) (plV v k)=0:=fun k hk=>by
    have:=hk.1
    by_cases k0:k=0
    ·rw [k0];unfold crs;grind
    ·by_cases k1:k=1
     ·rw [k1];unfold crs;grind
     ·exact hb2.1 c k (by omega) hk
   exact hfl fun a b c ha hb hc=>Us n01 (all a ha) (all b hb) (all c hc)
  have hW:Nx v f ((X++g::Y++[f]).headD f)∧Le (Nx v) (X++g::Y++[f]):=by
   cases X with
   | nil=>exact ⟨W.1,W.2⟩
   | cons x X=>exact ⟨W.1,W.2⟩
  unfold Ek
  rw [Pj,h,Ae,if_pos rfl,if_neg (by omega),Agi hn hf low,Ae,hb,Ae,if_neg c,jn_d,Aed hv hn hW.1,Ae]
  have:=Al1 hv hn (X++g::Y) [f] (by simp only [List.length_append,List.length_cons,List.length_nil];omega) ne1 hW.2
  rw [this,Ae]
  rfl
 ·simp only [List.cons_append,List.mem_cons,List.mem_append] at hx
  rcases hx with e | hx | e | hx
  ·rw [e];exact hf
  ·exact in1 x (by simp [hx])
  ·rw [e];exact hg
  ·exact in2 x (by simp [hx])
/-! ### the fan -/
def fan (P:Int→Ac) (f:Int):List Int→Int
 | a::b::r=>crs (P f) (P a) (P b)+fan P f (b::r)
 | _=>0
theorem Ae5 (P:Int→Ac) (f:Int):∀ (r:List Int) (a:Int),fan P f (a::r)=xp (P f) (P a)+clen P (a::r++[f])
 | [],a=>by
  show (0:Int)=xp (P f) (P a)+(xp (P a) (P f)+0)
  rw [Abp (P a) (P f)];omega
 | b::r,a=>by
  have ih:=Ae5 P f r b
  show crs (P f) (P a) (P b)+fan P f (b::r)=xp (P f) (P a)+(xp (P a) (P b)+clen P (b::r++[f]))
  have:=Aif (P f) (P a) (P b)
  have:=Abp (P b) (P f)
  omega
theorem Aea (P:Int→Ac) (g:Int) (Z:List Int):∀ (X:List Int) (c:Int),clen P (c::X++g::Z)=clen P (c::X++[g])+clen P (g::Z)
 | [],c=>by
  show xp (P c) (P g)+clen P (g::Z)=xp (P c) (P g)+0+clen P (g::Z)
  omega
 | x::X,c=>by
  have ih:=Aea P g Z X x
  show xp (P c) (P x)+clen P (x::X++g::Z)=xp (P c) (P x)+clen P (x::X++[g])+clen P (g::Z)
  omega
theorem Aog (P:Int→Ac) (f g:Int) (X Y:List Int):fan P f (X++g::Y)=clen P (f::X++[g])+clen P (g::Y++[f]):=by
 have h:=Aea P g (Y++[f]) X f
 have e:clen P (f::X++g::(Y++[f]))=fan P f (X++g::Y):=by
  cases X with
  | nil=>exact (Ae5 P f Y g).symm
  | cons x X =>
   have:=Ae5 P f (X++g::Y) x
   show xp (P f) (P x)+clen P (x::(X++g::(Y++[f])))=fan P f (x::(X++g::Y))
   rw [this]
   simp
 rw [← e,h]
 rfl
theorem Aoh (a b:Int):w64 (w64 a+b)=w64 (a+b):=by rw [Ae1,Ae1,Ae1];omega
theorem Aoi (hv:Ci v) {f:Int} {r:List Int} (hl:(f::r).length≤4096) (hin:∀ x∈f::r,inN v.length x) (e:Int):lfix (Db (f::r,e) v) (0,2)=some (w64 (fan (plV v) f r)):=by
 obtain ⟨t,h1,h2⟩:=Cx (B:=Db (f::r,e) v) (fun s=>(f::r).length-s.2.toNat)
  (fun s=>∃ (k:Nat) (S:Int),s=(w64 S,((k+2:Nat):Int))∧S+fan (plV v) f (r.drop k)=fan (plV v) f r)
  (fun t=>t=w64 (fan (plV v) f r)) (by
   rintro s ⟨k,S,rfl,hS⟩
   unfold Db
   dsimp only
   by_cases hk:k+2 < (f::r).length
   ·left
    have k1:k+1 < r.length:=by simp at hk;omega
    have h0:idx (f::r) 0=some f:=Bm (l:=f::r) (j:=0) (by simp)
    have ha:idx (f::r) ((k+1:Nat):Int)=some r[k]:=by rw [Bm (by omega)];simp
    have hb:idx (f::r) ((k+2:Nat):Int)=some r[k+1]:=by rw [Bm hk];simp
    have vf:=hin f (by simp)
    have va:=hin r[k] (List.mem_cons_of_mem _ (List.getElem_mem _))
    have vb:=hin r[k+1] (List.mem_cons_of_mem _ (List.getElem_mem _))
    obtain ⟨x0,i0,e0⟩:=Hc vf
    obtain ⟨x1,i1,e1⟩:=Hc va
    obtain ⟨x2,i2,e2⟩:=Hc vb
    have w1:w64 (((k+2:Nat):Int)-1)=((k+1:Nat):Int):=by rw [Bl (by omega) (by omega)];omega
    rw [if_pos (by omega),h0,Ae,i0,Ae,w1,ha,Ae,i1,Ae,hb,Ae,i2,Ae]
    unfold Aj
    rw [Ae,Ae,Ae]
    dsimp only
    rw [e0,e1,e2,Zg (hv.ok _ vf) (hv.ok _ va) (hv.ok _ vb),Ae,Aoh,Bh (by omega)]
    refine ⟨_,rfl,⟨k+1,_,rfl,?_⟩,by dsimp only;omega⟩
    rw [List.drop_eq_getElem_cons (show k < r.length by omega),List.drop_eq_getElem_cons k1] at hS
    rw [List.drop_eq_getElem_cons k1]
    have hS':S+(crs (plV v f) (plV v r[k]) (plV v r[k+1])+fan (plV v) f (r[k+1]::r.drop (k+1+1)))=fan (plV v) f r:=hS
    omega
   ·right
    rw [if_neg (by omega)]
    refine ⟨_,rfl,?_⟩
    have:fan (plV v) f (r.drop k)=0:=by
     rcases hd:r.drop k with _ | ⟨x,_ | ⟨y,z⟩⟩
     ·rfl
     ·rfl
     ·have:=congrArg List.length hd
      simp at this hk
      omega
    rw [this,Int.add_zero] at hS
    rw [hS])
  (0,2) ⟨0,0,by simp [Bl],by simp⟩
 rw [h1,h2]
theorem Agm (h:Mg v=0) (hfl:¬ Zb v) (hM:Mesh v L m) (hT:Ni v m T):Eg v=some (w64 (tot (fun t:Ai=>crs (plV v t.a0) (plV v t.a1) (plV v t.a2)) T)):=by
 obtain ⟨hn,_,hv⟩:=Lt h
 obtain ⟨f,g,X,Y,h1,h2,h3,Lo,Up,hf,low,hg,high⟩:=Agl h hfl
 unfold Eg
 rw [h1,Ae,jn_d,show f::X++g::Y=f::(X++g::Y) from rfl,Aoi hv (r:=X++g::Y) h2 h3,Ae,Aog,Alv hv hn hM hT hfl Lo Up hf low hg high]
end
end Go.Proofs.YtgfiafnelibjgaaGreat
/- The mesh of the square, for the layouts with lines. -/
namespace Go.Proofs.YtgfiafnelibjgaaGreat
open Go Go.RowKit
def sqv:List Ab:=[⟨0,0,⟨0,0⟩⟩,⟨2,0,⟨0,0⟩⟩,⟨0,2,⟨0,0⟩⟩,⟨2,2,⟨0,0⟩⟩]
theorem Ase:Mg sqv=0:=by
 unfold Mg sqv Fh Pi Kd okP pP
 simp
theorem Aj0:∀ a∈([0,1,2,3]:List Int),∀ b∈([0,1,2,3]:List Int),∀ c∈([0,1,2,3]:List Int),
  ((a < b∧a < c∧0 < crs (plV sqv a) (plV sqv b) (plV sqv c)∧∀ d∈([0,1,2,3]:List Int),d≠a→d≠b→d≠c→DH (plV sqv) (hV sqv) a b c d < 0)↔((a=0∧b=1∧c=2)∨(a=1∧b=3∧c=2))):=by
 decide +kernel
theorem in4 {i:Int}:inN sqv.length i↔i∈([0,1,2,3]:List Int):=by
 unfold inN sqv
 simp
 omega
theorem Aoj:Agn sqv [⟨0,1,2⟩,⟨1,3,2⟩]:=by
 refine ⟨by simp [cmp3,cmpI],by simp,fun t=>?_⟩
 obtain ⟨a,b,c⟩:=t
 have key:∀ a b c,Del sqv a b c↔a∈([0,1,2,3]:List Int)∧b∈([0,1,2,3]:List Int)∧c∈([0,1,2,3]:List Int)∧0 < crs (plV sqv a) (plV sqv b) (plV sqv c)∧∀ d∈([0,1,2,3]:List Int),d≠a→d≠b→d≠c→DH (plV sqv) (hV sqv) a b c d < 0:=fun a b c=>by
  unfold Del
  simp only [in4]
 dsimp only
 rw [key]
 constructor
 ·intro h
  have e:(a=0∧b=1∧c=2)∨(a=1∧b=3∧c=2):=by simpa using h
  have ha:a∈([0,1,2,3]:List Int):=by rcases e with ⟨rfl,_,_⟩ | ⟨rfl,_,_⟩ <;> simp
  have hb:b∈([0,1,2,3]:List Int):=by rcases e with ⟨_,rfl,_⟩ | ⟨_,rfl,_⟩ <;> simp
  have hc:c∈([0,1,2,3]:List Int):=by rcases e with ⟨_,_,rfl⟩ | ⟨_,_,rfl⟩ <;> simp
  obtain ⟨h1,h2,h3,h4⟩:=(Aj0 a ha b hb c hc).2 e
  exact ⟨h1,h2,ha,hb,hc,h3,h4⟩
 ·rintro ⟨h1,h2,ha,hb,hc,h3,h4⟩
  have e:=(Aj0 a ha b hb c hc).1 ⟨h1,h2,h3,h4⟩
  simpa using e
end Go.Proofs.YtgfiafnelibjgaaGreat
/- Meshes with lines: what is built twice is the same; the square; MeshBuilds. -/
namespace Go.Proofs.YtgfiafnelibjgaaGreat
open Go Go.RowKit
section
variable {v:List Ab} {l:List Aa} {m:Mp} {T:List Ai}
theorem Uq:Qs v l=0↔Lin1 v l∧Lin2 v l:=by
 unfold Qs
 by_cases c1:Lin1 v l
 ·rw [if_pos c1]
  by_cases c2:Lin2 v l
  ·rw [if_pos c2];exact ⟨fun _=>⟨c1,c2⟩,fun _=>rfl⟩
  ·rw [if_neg c2];exact ⟨fun h=>(by cases h),fun h=>absurd h.2 c2⟩
 ·rw [if_neg c1];exact ⟨fun h=>(by cases h),fun h=>absurd h.1 c1⟩
theorem Ni.len (hn:v.length≤1024) {L:List Aa} (hM:Mesh v L m) (h:Ni v m T):T.length≤1048576:=by
 have hsq:=Yk hn
 have:=Aap hM.tri (fun t ht=>(h.mem t).1 ht) h.nd
 omega
/-! ### the square -/
theorem Aia:Qs v []=0:=Uq.2 ⟨⟨fun s hs=>(by cases hs),List.Pairwise.nil⟩,fun s hs=>(by cases hs),List.Pairwise.nil⟩
theorem Aib:Li sqv []=some (⟨sqv,[⟨0,1,2⟩,⟨1,3,2⟩],[]⟩,0):=by
 obtain ⟨_,_,hv⟩:=Lt Ase
 have hE:=Uq.1 (Aia (v:=sqv))
 obtain ⟨T,h1,h2⟩:=Aa9 Ase (l:=[]) (by simp) hE.1 hE.2
 have e:Av cmp2 (([]:List Aa).map prL)=[]:=by simp [Av]
 rw [e] at h1 h2
 rcases h2 with ⟨f,_⟩ | ⟨_,m,hM,rfl⟩
 ·have:=f 0 1 2 (in4.2 (by simp)) (in4.2 (by simp)) (in4.2 (by simp))
  exact absurd this (by decide)
 ·have hd:=Aam hv hM.map hM.tri hM.cov (fun i j k l hk hl=>(hM.leg i j k l hk hl).resolve_left (by simp)) hM.ne
  rw [h1,(Aq1 hM.map hd).unique Aoj]
theorem Zm:Ik=some true:=by
 unfold Ik
 refine Eq.trans (congrArg (fun z=>bnd z _) Aib) ?_
 show bnd (some _) _=_
 rw [Ae,jn_d]
 rfl
end
end Go.Proofs.YtgfiafnelibjgaaGreat
