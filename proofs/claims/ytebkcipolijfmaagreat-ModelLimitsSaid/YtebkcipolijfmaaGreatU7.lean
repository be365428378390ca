/- The builder's steps, closed. -/
import Derived.Test.YtebkcipolijfmaaGreatL1
import Derived.Test.YtebkcipolijfmaaGreatU6
namespace Go.Proofs.YtebkcipolijfmaaGreat
open Go Go.RowKit
noncomputable def apM (m:Mp):Ap:=fun i j=>mget m ⟨i,j⟩
noncomputable def putM (m:Mp) (i j k:Int):Mp:=mput (mput (mput m ⟨i,j⟩ k) ⟨j,k⟩ i) ⟨k,i⟩ j
noncomputable def cutM (m:Mp) (i j k:Int):Mp:=mdel (mdel (mdel m ⟨i,j⟩) ⟨j,k⟩) ⟨k,i⟩
noncomputable def flipM (m:Mp) (i j k l:Int):Mp:=putM (putM (cutM (cutM m i j k) j i l) i l k) j k l
theorem Hl {i j a b:Int}:(⟨a,b⟩:Aa)=⟨i,j⟩↔a=i∧b=j:=by simp
theorem MapN.put {n:Nat} {m:Mp} (h:MapN n m) {i j k:Int} (hi:inN n i) (hj:inN n j) (hk:inN n k):MapN n (mput m ⟨i,j⟩ k):=by
 refine ⟨h.ok.put _ _,fun q hq=>?_⟩
 unfold mput at hq
 rcases List.mem_cons.1 hq with rfl | hq
 ·exact ⟨hi,hj,hk⟩
 ·exact h.key q (My.1 hq).1
theorem MapN.del {n:Nat} {m:Mp} (h:MapN n m) (x:Aa):MapN n (mdel m x):=⟨h.ok.del _,fun q hq=>h.key q (My.1 hq).1⟩
theorem MapN.putM {n:Nat} {m:Mp} (h:MapN n m) {i j k:Int} (hi:inN n i) (hj:inN n j) (hk:inN n k):MapN n (putM m i j k):=((h.put hi hj hk).put hj hk hi).put hk hi hj
theorem MapN.cutM {n:Nat} {m:Mp} (h:MapN n m) (i j k:Int):MapN n (cutM m i j k):=((h.del _).del _).del _
theorem Yh {m:Mp} (h:Fc m) (i j k a b:Int):apM (putM m i j k) a b=if a=k∧b=i then some j else if a=j∧b=k then some i else if a=i∧b=j then some k else apM m a b:=by
 unfold apM putM
 rw [Pn ((h.put _ _).put _ _),Pn (h.put _ _),Pn h]
 simp only [Hl]
theorem Ll {m:Mp} (h:Fc m) (i j k a b:Int):apM (cutM m i j k) a b=if (a=k∧b=i)∨(a=j∧b=k)∨(a=i∧b=j) then none else apM m a b:=by
 unfold apM cutM
 rw [Sj ((h.del _).del _),Sj (h.del _),Sj h]
 simp only [Hl]
 by_cases c1:a=k∧b=i
 ·simp [c1]
 ·by_cases c2:a=j∧b=k
  ·simp [c2]
  ·by_cases c3:a=i∧b=j
   ·simp [c3]
   ·simp [c1,c2,c3]
theorem Us {m:Mp} (h:Fc m) {i j k l:Int} (n1:i≠j) (n2:k≠l) (n3:k≠i) (n4:k≠j) (n5:l≠i) (n6:l≠j):apM (flipM m i j k l)=Dx (apM m) i j k l:=by
 have h1:Fc (cutM m i j k):=((h.del _).del _).del _
 have h2:Fc (cutM (cutM m i j k) j i l):=((h1.del _).del _).del _
 have h3:Fc (putM (cutM (cutM m i j k) j i l) i l k):=((h2.put _ _).put _ _).put _ _
 funext a b
 unfold flipM
 rw [Yh h3,Yh h2,Ll h1,Ll h]
 unfold Dx
 by_cases c1:a=i∧b=l
 ·repeat first | rw [if_pos (by omega)] | rw [if_neg (by omega)]
 by_cases c2:a=l∧b=k
 ·repeat first | rw [if_pos (by omega)] | rw [if_neg (by omega)]
 by_cases c3:a=k∧b=i
 ·repeat first | rw [if_pos (by omega)] | rw [if_neg (by omega)]
 by_cases c4:a=j∧b=k
 ·repeat first | rw [if_pos (by omega)] | rw [if_neg (by omega)]
 by_cases c5:a=k∧b=l
 ·repeat first | rw [if_pos (by omega)] | rw [if_neg (by omega)]
 by_cases c6:a=l∧b=j
 ·repeat first | rw [if_pos (by omega)] | rw [if_neg (by omega)]
 by_cases c7:a=i∧b=j
 ·repeat first | rw [if_pos (by omega)] | rw [if_neg (by omega)]
 by_cases c8:a=j∧b=i
 ·repeat first | rw [if_pos (by omega)] | rw [if_neg (by omega)]
 repeat first | rw [if_pos (by omega)] | rw [if_neg (by omega)]
theorem p_eq {b:Ae} {i:Int} (h:inN b.v.length i):Bt b i=some (plV b.v i):=by
 unfold Bt plV
 obtain ⟨k,hk,rfl,e⟩:=Ji (v:=b.v) (i:=i) h
 rw [e]
 rfl
theorem Afe {n:Nat} (hn:n≤1024) {b:Ae} (hm:MapN n b.apex) {i j k:Int} (hi:inN n i) (hj:inN n j) (hk:inN n k):Ed b i j k=some ⟨b.v,putM b.apex i j k,b.fixed⟩:=by
 have hsq:=Ys hn
 have l0:=hm.len
 have l1:=(hm.put hi hj hk).len
 have l2:=((hm.put hi hj hk).put hj hk hi).len
 unfold Ed
 rw [gd_t (Mh hn hi hj),gd_t (by omega),gd_t (Mh hn hj hk),gd_t (by omega),gd_t (Mh hn hk hi),gd_t (by omega)]
 rfl
theorem Ar3 {n:Nat} (hn:n≤1024) {b:Ae} {i j k:Int} (hi:inN n i) (hj:inN n j) (hk:inN n k):Io b i j k=some ⟨b.v,cutM b.apex i j k,b.fixed⟩:=by
 unfold Io
 rw [gd_t (Mh hn hi hj),gd_t (Mh hn hj hk),gd_t (Mh hn hk hi)]
 rfl
theorem MapN.val {n:Nat} {m:Mp} (h:MapN n m) {i j k:Int} (hk:apM m i j=some k):inN n i∧inN n j∧inN n k:=h.key _ (Is hk)
theorem Ah1 {b:Ae} (hv:Hj b.v) (hn:b.v.length≤1024) (hm:MapN b.v.length b.apex) {i j k l:Int} (hk:apM b.apex i j=some k) (hl:apM b.apex j i=some l) :
  Df b i j=some (if Int.sign (crs (plV b.v k) (plV b.v l) (plV b.v i))*Int.sign (crs (plV b.v k) (plV b.v l) (plV b.v j)) = -1 then (⟨b.v,flipM b.apex i j k l,b.fixed⟩,true) else (b,false)):=by
 obtain ⟨vi,vj,vk⟩:=hm.val hk
 obtain ⟨_,_,vl⟩:=hm.val hl
 have hk':mget b.apex (⟨i,j⟩:Aa)=some k:=hk
 have hl':mget b.apex (⟨j,i⟩:Aa)=some l:=hl
 unfold Df
 rw [gd_t (Mh hn vi vj),hk',Ah,gd_t (Mh hn vj vi),hl',Ah,jn_d]
 simp only [Option.getD_some,Option.isSome_some,if_true]
 rw [p_eq vk,Ah,p_eq vl,Ah,p_eq vi,Ah,Qp (hv.ok _ vk) (hv.ok _ vl) (hv.ok _ vi),Ah,Ah,Ah,p_eq vj,Ah,Qp (hv.ok _ vk) (hv.ok _ vl) (hv.ok _ vj),Ah,Acw]
 by_cases c:Int.sign (crs (plV b.v k) (plV b.v l) (plV b.v i))*Int.sign (crs (plV b.v k) (plV b.v l) (plV b.v j)) = -1
 ·rw [if_pos c,if_neg (by simp;omega)]
  have m1:=hm.cutM i j k
  have m2:=m1.cutM j i l
  have m3:=m2.putM vi vl vk
  rw [Ar3 hn vi vj vk,Ah,Ar3 hn vj vi vl,Ah,Afe hn m2 vi vl vk,Ah,Afe hn m3 vj vk vl,Ah]
  rfl
 ·rw [if_neg c,if_pos (by simpa using Aho.2 c)]
end Go.Proofs.YtebkcipolijfmaaGreat
/- Settling: it ends, and all sides are legal then. -/
namespace Go.Proofs.YtebkcipolijfmaaGreat
open Go Go.RowKit
theorem Ao2 {m:Mp} {x:Aa} (h:mget m x=none) (hm:Fc m):mdel m x=m:=by
 unfold mdel
 rw [List.filter_eq_self]
 intro p hp
 simp only [decide_eq_true_eq]
 intro e
 have:=Ob hm hp
 rw [e,h] at this
 cases this
section
variable {P:Int→Ac} {H:Int→Int} {n:Nat}
noncomputable def phi (P:Int→Ac) (H:Int→Int) (n:Nat) (m:Mp):Nat:=(m.map fun q=>cnf P H n q.1.a0 q.1.a1 q.2).sum
theorem Ah2 {m:Mp} (hm:Fc m) {i j k:Int} (h:mget m ⟨i,j⟩=some k):phi P H n m=cnf P H n i j k+phi P H n (mdel m ⟨i,j⟩):=by
 have hp:=Agg hm (Is h)
 unfold phi
 rw [(hp.map _).sum_nat,List.map_cons,List.sum_cons]
theorem Ah3 {m:Mp} (hm:Fc m) {i j k:Int} (h:mget m ⟨i,j⟩=none):phi P H n (mput m ⟨i,j⟩ k)=cnf P H n i j k+phi P H n m:=by
 unfold mput
 rw [Ao2 h hm]
 unfold phi
 rw [List.map_cons,List.sum_cons]
theorem Ar4:∀ m:Mp,phi P H n m≤m.length*n
 | []=>by simp [phi]
 | q::r=>by
  have h1:=Ar4 r
  have h2:=Avn (P:=P) (H:=H) (n:=n) q.1.a0 q.1.a1 q.2
  unfold phi at *
  rw [List.map_cons,List.sum_cons,List.length_cons,Nat.add_mul]
  omega
theorem Anc {m:Mp} (hm:Fc m) {i j k:Int} (n1:i≠j) (n2:j≠k) (n3:k≠i) (h1:apM m i j=some k) (h2:apM m j k=some i) (h3:apM m k i=some j):phi P H n m=3*cnf P H n i j k+phi P H n (cutM m i j k):=by
 have g1:mget (mdel m ⟨i,j⟩) ⟨j,k⟩=some i:=by rw [Sj hm,Hl,if_neg (by omega)];exact h2
 have g2:mget (mdel (mdel m ⟨i,j⟩) ⟨j,k⟩) ⟨k,i⟩=some j:=by rw [Sj (hm.del _),Sj hm,Hl,Hl,if_neg (by omega),if_neg (by omega)];exact h3
 rw [Ah2 hm h1,Ah2 (hm.del _) g1,Ah2 ((hm.del _).del _) g2,Ve,Ve (P:=P) (H:=H) (n:=n) j k i,Ve]
 unfold cutM
 omega
theorem Aj0 {m:Mp} (hm:Fc m) {i j k:Int} (n1:i≠j) (n2:j≠k) (n3:k≠i) (h1:apM m i j=none) (h2:apM m j k=none) (h3:apM m k i=none):phi P H n (putM m i j k)=3*cnf P H n i j k+phi P H n m:=by
 have g1:mget (mput m ⟨i,j⟩ k) ⟨j,k⟩=none:=by rw [Pn hm,Hl,if_neg (by omega)];exact h2
 have g2:mget (mput (mput m ⟨i,j⟩ k) ⟨j,k⟩ i) ⟨k,i⟩=none:=by rw [Pn (hm.put _ _),Pn hm,Hl,Hl,if_neg (by omega),if_neg (by omega)];exact h3
 unfold putM
 rw [Ah3 ((hm.put _ _).put _ _) g2,Ah3 (hm.put _ _) g1,Ah3 hm h1,Ve (P:=P) (H:=H) (n:=n) i j k,Ve (P:=P) (H:=H) (n:=n) k i j,← Ve (P:=P) (H:=H) (n:=n) k i j]
 have e:=Ve (P:=P) (H:=H) (n:=n) k i j
 omega
theorem Aj1 {m:Mp} (hm:Fc m) {i j k l:Int} (hcv:Ad6 P H (inN n)) (q:Quad P (inN n) (apM m) i j k l) (hQ:0 < DH P H i j k l):phi P H n (flipM m i j k l) < phi P H n m:=by
 obtain ⟨n1,n2,n3,n4,n5,n6⟩:=q.ne
 obtain ⟨f1,f2⟩:=q.fresh
 have h1:Fc (cutM m i j k):=((hm.del _).del _).del _
 have h2:Fc (cutM (cutM m i j k) j i l):=((h1.del _).del _).del _
 have h3:Fc (putM (cutM (cutM m i j k) j i l) i l k):=((h2.put _ _).put _ _).put _ _
 have a1:=q.tri.rot _ _ _ q.hk
 have a2:=q.tri.rot2 q.hk
 have a3:=q.tri.rot _ _ _ q.hl
 have a4:=q.tri.rot2 q.hl
 have e1:=Anc (P:=P) (H:=H) (n:=n) hm n1 (fun e=>n4 e.symm) n3 q.hk a1 a2
 have e2:=Anc (P:=P) (H:=H) (n:=n) h1 (i:=j) (j:=i) (k:=l) n1.symm (fun e=>n5 e.symm) n6 (by rw [Ll hm,if_neg (by omega)];exact q.hl) (by rw [Ll hm,if_neg (by omega)];exact a3) (by rw [Ll hm,if_neg (by omega)];exact a4)
 have e3:=Aj0 (P:=P) (H:=H) (n:=n) h2 (i:=i) (j:=l) (k:=k) (fun e=>n5 e.symm) n2.symm n3
  (by rw [Ll h1,if_pos (by omega)]) (by rw [Ll h1,if_neg (by omega),Ll hm,if_neg (by omega)];exact f2) (by rw [Ll h1,if_neg (by omega),Ll hm,if_pos (by omega)])
 have e4:=Aj0 (P:=P) (H:=H) (n:=n) h3 (i:=j) (j:=k) (k:=l) (fun e=>n4 e.symm) n2 n6
  (by rw [Yh h2,if_neg (by omega),if_neg (by omega),if_neg (by omega),Ll h1,if_neg (by omega),Ll hm,if_pos (by omega)])
  (by rw [Yh h2,if_neg (by omega),if_neg (by omega),if_neg (by omega),Ll h1,if_neg (by omega),Ll hm,if_neg (by omega)];exact f1)
  (by rw [Yh h2,if_neg (by omega),if_neg (by omega),if_neg (by omega),Ll h1,if_pos (by omega)])
 have:=q.cnf_lt hcv hQ
 unfold flipM
 omega
end
theorem At3 (hi hj hk hl:Int) (i j k l:Ac):Dt hk hl hj hi k l j i = -Dt hi hj hk hl i j k l:=by unfold Dt crs;grind
noncomputable def Fx (F:List (Aa × Bool)) (i j:Int):Bool:=(mget F ⟨min i j,max i j⟩).getD false
def pr2 (i j:Int):Aa:=⟨min i j,max i j⟩
theorem Nh (i j:Int):pr2 i j=pr2 j i:=by unfold pr2;rw [Int.min_comm,Int.max_comm]
theorem Ah4 {i j a b:Int} (h:pr2 i j=pr2 a b):(i=a∧j=b)∨(i=b∧j=a):=by
 unfold pr2 at h
 rw [Hl] at h
 omega
/-- What settling keeps. -/
structure Jg (v:List Ab) (F:List (Aa × Bool)) (q:List Aa) (m:Mp):Prop where
 map:MapN v.length m
 tri:Tri (plV v) (inN v.length) (apM m)
 qn:∀ s∈q,inN v.length s.a0∧inN v.length s.a1∧s.a0≤s.a1
 pend:∀ i j k l,apM m i j=some k→apM m j i=some l→pr2 i j∈q∨Fx F i j=true∨DH (plV v) (hV v) i j k l < 0
theorem Jg.pop {v F q s m} (h:Jg v F (q++[s]) m) (hs:∀ k l,apM m s.a0 s.a1=some k→apM m s.a1 s.a0=some l→Fx F s.a0 s.a1=true∨DH (plV v) (hV v) s.a0 s.a1 k l < 0):Jg v F q m:=by
 have hq:=(h.qn s (by simp)).2.2
 refine ⟨h.map,h.tri,fun x hx=>h.qn x (List.mem_append_left _ hx),fun i j k l hk hl=>?_⟩
 rcases h.pend i j k l hk hl with g | g
 ·rcases List.mem_append.1 g with g | g
  ·exact .inl g
  ·rw [List.mem_singleton] at g
   right
   have e:pr2 s.a0 s.a1=s:=by
    obtain ⟨x,y⟩:=s
    unfold pr2
    rw [Hl]
    simp only at hq ⊢
    omega
   rw [← e] at g
   rcases Ah4 g with ⟨e1,e2⟩ | ⟨e1,e2⟩
   ·subst e1;subst e2;exact hs k l hk hl
   ·subst e1;subst e2
    rcases hs l k hl hk with t | t
    ·left;unfold Fx at *;rw [Int.min_comm,Int.max_comm];exact t
    ·right;rw [← Quad.swapQ];exact t
 ·exact .inr g
theorem Ah5 {v:List Ab} {m:Mp} (hv:Hj v) (ht:Tri (plV v) (inN v.length) (apM m)) {i j k l:Int} (hk:apM m i j=some k) (hl:apM m j i=some l) (hD:¬ DH (plV v) (hV v) i j k l < 0):Quad (plV v) (inN v.length) (apM m) i j k l:=by
 obtain ⟨vi,vj,vk,ck⟩:=ht.ccw _ _ _ hk
 obtain ⟨_,_,vl,cl⟩:=ht.ccw _ _ _ hl
 have c0:crs (plV v i) (plV v j) (plV v l) < 0:=by rw [Bv];omega
 refine ⟨ht,hk,hl,?_,?_⟩
 ·rw [Ar]
  rcases Int.lt_or_le 0 (crs (plV v k) (plV v i) (plV v l)) with g | g
  ·exact g
  ·exact absurd (Xx hv i j k l vi vj vk vl ck c0 (.inr g)) hD
 ·rcases Int.lt_or_le 0 (crs (plV v j) (plV v k) (plV v l)) with g | g
  ·exact g
  ·exact absurd (Xx hv i j k l vi vj vk vl ck c0 (.inl g)) hD
theorem Jg.flip {v F q s m} (hv:Hj v) (h:Jg v F (q++[s]) m) {k l:Int} (hk:apM m s.a0 s.a1=some k) (hl:apM m s.a1 s.a0=some l) (hD:¬ DH (plV v) (hV v) s.a0 s.a1 k l < 0) :
  Jg v F (q++[pr2 s.a0 k,pr2 k s.a1,pr2 s.a1 l,pr2 l s.a0]) (flipM m s.a0 s.a1 k l):=by
 have Q:=Ah5 hv h.tri hk hl hD
 obtain ⟨n1,n2,n3,n4,n5,n6⟩:=Q.ne
 obtain ⟨vi,vj,vk,ck⟩:=h.tri.ccw _ _ _ hk
 obtain ⟨_,_,vl,cl⟩:=h.tri.ccw _ _ _ hl
 have hf:=Us h.map.ok n1 n2 n3 n4 n5 n6
 have hq:=(h.qn s (by simp)).2.2
 have es:pr2 s.a0 s.a1=s:=by
  obtain ⟨x,y⟩:=s
  unfold pr2
  rw [Hl]
  simp only at hq ⊢
  omega
 have hD2:0 < DH (plV v) (hV v) s.a0 s.a1 k l:=by
  have:=(Abp hv vi vj vk vl ck (by rw [Bv];omega)).2
  omega
 refine ⟨?_,by rw [hf];exact Q.flip,fun x hx=>?_,fun a b c d hc hd=>?_⟩
 ·have m1:=h.map.cutM s.a0 s.a1 k
  have m2:=m1.cutM s.a1 s.a0 l
  exact (m2.putM vi vl vk).putM vj vk vl
 ·rcases List.mem_append.1 hx with hx | hx
  ·exact h.qn x (List.mem_append_left _ hx)
  ·have key:∀ i j,inN v.length i→inN v.length j→inN v.length (pr2 i j).a0∧inN v.length (pr2 i j).a1∧(pr2 i j).a0≤(pr2 i j).a1:=fun i j h1 h2=>by
    unfold pr2 inN at *
    simp only
    omega
   simp only [List.mem_cons,List.not_mem_nil,or_false] at hx
   rcases hx with rfl | rfl | rfl | rfl
   ·exact key _ _ vi vk
   ·exact key _ _ vk vj
   ·exact key _ _ vj vl
   ·exact key _ _ vl vi
 ·rw [hf] at hc hd
  have mem:∀ x,x∈[pr2 s.a0 k,pr2 k s.a1,pr2 s.a1 l,pr2 l s.a0]→x∈q++[pr2 s.a0 k,pr2 k s.a1,pr2 s.a1 l,pr2 l s.a0]:=fun x hx=>List.mem_append_right _ hx
  have dg:DH (plV v) (hV v) k l s.a1 s.a0 < 0:=by
   unfold DH at hD2 ⊢
   rw [At3]
   omega
  -- an outer side
  have outer:∀ a b c,Dx (apM m) s.a0 s.a1 k l a b=some c→(pr2 a b∈[pr2 s.a0 k,pr2 k s.a1,pr2 s.a1 l,pr2 l s.a0])∨(a=l∧b=k∧c=s.a0)∨(a=k∧b=l∧c=s.a1) ∨
    (apM m a b=some c∧¬ (a=s.a0∧b=l)∧¬ (a=l∧b=k)∧¬ (a=k∧b=s.a0)∧¬ (a=s.a1∧b=k)∧¬ (a=k∧b=l)∧¬ (a=l∧b=s.a1)∧¬ (a=s.a0∧b=s.a1)∧¬ (a=s.a1∧b=s.a0)):=by
   intro a b c hc
   rcases Ni hc with ⟨e1,e2,_⟩ | g | ⟨e1,e2,_⟩ | ⟨e1,e2,_⟩ | g | ⟨e1,e2,_⟩ | g
   ·left;rw [Nh a b,e1,e2];simp
   ·exact .inr (.inl g)
   ·left;rw [Nh a b,e1,e2];simp
   ·left;rw [Nh a b,e1,e2];simp
   ·exact .inr (.inr (.inl g))
   ·left;rw [Nh a b,e1,e2];simp
   ·exact .inr (.inr (.inr g))
  rcases outer a b c hc with g | ⟨rfl,rfl,rfl⟩ | ⟨rfl,rfl,rfl⟩ | ⟨g0,g⟩
  ·exact .inl (mem _ g)
  ·rw [Amh n3 n2 n4 n5] at hd
   obtain rfl:=Option.some.inj hd
   right;right
   rw [Quad.swapQ (P:=plV v) (H:=hV v)]
   exact dg
  ·rw [Amg n5] at hd
   obtain rfl:=Option.some.inj hd
   exact .inr (.inr dg)
  ·rcases outer b a d hd with g' | ⟨e1,e2,_⟩ | ⟨e1,e2,_⟩ | ⟨g0',g'⟩
   ·left;rw [Nh a b];exact mem _ g'
   ·omega
   ·omega
   ·rcases h.pend a b c d g0 g0' with t | t
    ·rcases List.mem_append.1 t with t | t
     ·exact .inl (List.mem_append_left _ t)
     ·rw [List.mem_singleton,← es] at t
      rcases Ah4 t with ⟨e1,e2⟩ | ⟨e1,e2⟩ <;> omega
    ·exact .inr t
end Go.Proofs.YtebkcipolijfmaaGreat
/- In a triangulation, each direction at each vertex lies within a triangle. -/
namespace Go.Proofs.YtebkcipolijfmaaGreat
open Go Go.RowKit
section
variable {P:Int→Ac} {H:Int→Int} {V:Int→Prop} {ap:Ap}
/-- The direction from a to b lies within a triangle at a. -/
def Vt (P:Int→Ac) (ap:Ap) (a b:Int):Prop:=∃ x y,ap a x=some y∧0≤crs (P a) (P x) (P b)∧0≤crs (P a) (P b) (P y)
theorem Axo {s j x y b:Ac} (h:0 < crs s x y) (h1:0≤crs s x b) (h2:0≤crs s b y) (h3:0 < crs s j x) (h4:0 < crs s j y):0≤crs s j b:=by
 have e:crs s x y*crs s j b=crs s b y*crs s j x+crs s x b*crs s j y:=by unfold crs;grind
 have m1:=Int.mul_nonneg h2 (Int.le_of_lt h3)
 have m2:=Int.mul_nonneg h1 (Int.le_of_lt h4)
 exact Lk (x:=crs s x y) (by omega) h
theorem Axp {s j x y b:Ac} (h:0 < crs s x y) (h1:0≤crs s x b) (h2:0≤crs s b y) (h3:0 < crs s x j) (h4:0 < crs s y j):0≤crs s b j:=by
 have e:crs s x y*crs s b j=crs s b y*crs s x j+crs s x b*crs s y j:=by unfold crs;grind
 have m1:=Int.mul_nonneg h2 (Int.le_of_lt h3)
 have m2:=Int.mul_nonneg h1 (Int.le_of_lt h4)
 exact Lk (x:=crs s x y) (by omega) h
/-- Before a flip as behind it. -/
theorem Quad.cone_back {i j k l:Int} (q:Quad P V ap i j k l) {a b:Int} (h:Vt P (Dx ap i j k l) a b):Vt P ap a b:=by
 have half:∀ {i j k l:Int},Quad P V ap i j k l→∀ x y,(a=i∧x=l∧y=k)∨(a=l∧x=k∧y=i)∨(a=k∧x=i∧y=l)→0≤crs (P a) (P x) (P b)→0≤crs (P a) (P b) (P y)→Vt P ap a b:=by
  intro i j k l q x y hc g1 g2
  have ck:=(q.tri.ccw _ _ _ q.hk).2.2.2
  have cl:=(q.tri.ccw _ _ _ q.hl).2.2.2
  rcases hc with ⟨rfl,rfl,rfl⟩ | ⟨rfl,rfl,rfl⟩ | ⟨rfl,rfl,rfl⟩
  ·rcases Int.le_total 0 (crs (P a) (P j) (P b)) with g | g
   ·exact ⟨j,y,q.hk,g,g2⟩
   ·exact ⟨x,j,q.tri.rot _ _ _ q.hl,g1,by rw [Bw];omega⟩
  ·refine ⟨j,y,q.tri.rot2 q.hl,?_,g2⟩
   exact Axo (by rw [← Ar];rw [← Ar];rw [Ar];rw [← Ar];first | exact q.c1 | (rw [Ar];exact q.c1)) g1 g2 (by first | exact q.c2 | (rw [Ar];exact q.c2) | (rw [Ar,Ar];exact q.c2)) (by first | exact cl | (rw [Ar];exact cl) | (rw [Ar,Ar];exact cl))
  ·refine ⟨x,j,q.tri.rot2 q.hk,g1,?_⟩
   exact Axp (by first | exact q.c1 | (rw [Ar];exact q.c1) | (rw [Ar,Ar];exact q.c1)) g1 g2 (by first | exact ck | (rw [Ar];exact ck) | (rw [Ar,Ar];exact ck)) (by first | exact q.c2 | (rw [Ar];exact q.c2) | (rw [Ar,Ar];exact q.c2))
 obtain ⟨x,y,hf,g1,g2⟩:=h
 rcases Ni hf with c | c | c | c | c | c | ⟨c,_⟩
 ·exact half q x y (.inl c) g1 g2
 ·exact half q x y (.inr (.inl c)) g1 g2
 ·exact half q x y (.inr (.inr c)) g1 g2
 ·exact half q.symm x y (.inl c) g1 g2
 ·exact half q.symm x y (.inr (.inl c)) g1 g2
 ·exact half q.symm x y (.inr (.inr c)) g1 g2
 ·exact ⟨x,y,c,g1,g2⟩
/-! ### the walk to a place that lies just beside a, towards b -/
def c2 (n:Int) (x y a b:Ac):Int:=n*crs x y a+crs x y b
def p2 (n ha hb hc:Int) (x y z a b:Ac):Int:=n*plt ha hb hc x y z a+plt ha hb hc x y z b
theorem Ao3 (n ha hb hc hd:Int) (a b c d p q:Ac):p2 n hb ha hd b a d p q*crs a b c-p2 n ha hb hc a b c p q*crs b a d=Dt ha hb hc hd a b c d*c2 n a b p q:=by
 have h1:=Sw ha hb hc hd a b c d p
 have h2:=Sw ha hb hc hd a b c d q
 unfold p2 c2
 have e:(n*plt hb ha hd b a d p+plt hb ha hd b a d q)*crs a b c-(n*plt ha hb hc a b c p+plt ha hb hc a b c q)*crs b a d=n*(plt hb ha hd b a d p*crs a b c-plt ha hb hc a b c p*crs b a d)+(plt hb ha hd b a d q*crs a b c-plt ha hb hc a b c q*crs b a d):=by grind
 rw [e,h1,h2]
 grind
theorem Ar5 (n ha hb hc:Int) (a b c p q:Ac):p2 n hb hc ha b c a p q=p2 n ha hb hc a b c p q:=by unfold p2;rw [Aa6 ha hb hc a b c p,Aa6 ha hb hc a b c q]
def hgt2 (P:Int→Ac) (H:Int→Int) (n:Int) (t:T3) (p q:Ac):Int:=p2 n (H t.1) (H t.2.1) (H t.2.2) (P t.1) (P t.2.1) (P t.2.2) p q
def Zz (P:Int→Ac) (H:Int→Int) (n:Int) (p q:Ac) (t s:T3):Prop:=hgt2 P H n t p q*Ur P s < hgt2 P H n s p q*Ur P t
instance (n:Int) (p q:Ac) (t s:T3):Decidable (Zz P H n p q t s):=by unfold Zz;infer_instance
theorem Axq {X:List T3} (hX:Ahq P X) (n:Int) (p q:Ac) (step:∀ a b c,(a,b,c)∈X→c2 n (P a) (P b) p q < 0→∃ d,(b,a,d)∈X∧DH P H a b c d < 0) :
  ∀ t∈X,∃ s∈X,0≤c2 n (P s.1) (P s.2.1) p q∧0≤c2 n (P s.2.1) (P s.2.2) p q∧0≤c2 n (P s.2.2) (P s.1) p q:=by
 have key:∀ (N:Nat) (t:T3),t∈X→X.countP (fun s=>decide (Zz P H n p q t s))=N→∃ s∈X,0≤c2 n (P s.1) (P s.2.1) p q∧0≤c2 n (P s.2.1) (P s.2.2) p q∧0≤c2 n (P s.2.2) (P s.1) p q:=by
  intro N
  induction N using Nat.strongRecOn with
  | ind N ih =>
   intro t ht hn
   have go:∀ t':T3,t'∈X→hgt2 P H n t' p q=hgt2 P H n t p q→Ur P t'=Ur P t→c2 n (P t'.1) (P t'.2.1) p q < 0 →
     ∃ s∈X,0≤c2 n (P s.1) (P s.2.1) p q∧0≤c2 n (P s.2.1) (P s.2.2) p q∧0≤c2 n (P s.2.2) (P s.1) p q:=by
    rintro ⟨a,b,c⟩ h1 h2 h3 h4
    obtain ⟨d,h5,h6⟩:=step a b c h1 h4
    have hb:Zz P H n p q t (b,a,d):=by
     unfold Zz
     rw [← h2,← h3]
     have e:=Ao3 n (H a) (H b) (H c) (H d) (P a) (P b) (P c) (P d) p q
     have:0 < Dt (H a) (H b) (H c) (H d) (P a) (P b) (P c) (P d)*c2 n (P a) (P b) p q:=Int.mul_pos_of_neg_of_neg h6 h4
     show p2 _ _ _ _ _ _ _ p q*crs _ _ _ < p2 _ _ _ _ _ _ _ p q*crs _ _ _
     simp only
     omega
    have hpos:∀ u∈X,0 < Ur P u:=fun u hu=>hX.ccw u.1 u.2.1 u.2.2 hu
    have hlt:X.countP (fun s=>decide (Zz P H n p q (b,a,d) s)) < N:=by
     rw [← hn]
     refine Uq (x:=(b,a,d)) (fun y hy hb2=>?_) h5 (by simpa using hb) (by simp [Zz])
     rw [decide_eq_true_eq] at hb2 ⊢
     exact Vp (hpos t ht) (hpos _ h5) (hpos y hy) hb hb2
    exact ih _ hlt (b,a,d) h5 rfl
   obtain ⟨a,b,c⟩:=t
   by_cases g1:c2 n (P a) (P b) p q < 0
   ·exact go (a,b,c) ht rfl rfl g1
   ·by_cases g2:c2 n (P b) (P c) p q < 0
    ·exact go (b,c,a) (hX.rot _ _ _ ht) (Ar5 _ _ _ _ _ _ _ _ _) (Ar _ _ _) g2
    ·by_cases g3:c2 n (P c) (P a) p q < 0
     ·exact go (c,a,b) (hX.rot _ _ _ (hX.rot _ _ _ ht)) (by unfold hgt2;rw [← Ar5]) (by unfold Ur;rw [← Ar]) g3
     ·exact ⟨(a,b,c),ht,by simp only;omega,by simp only;omega,by simp only;omega⟩
 exact fun t ht=>key _ t ht rfl
theorem Ah6 {n:Int} {x y a b:Ac} (hn:0≤n) (hb:crs x y b < n) (h:0≤c2 n x y a b):0≤crs x y a∧(crs x y a=0→0≤crs x y b):=by
 unfold c2 at h
 constructor
 ·refine Classical.byContradiction fun g=>?_
  have:=Int.mul_le_mul_of_nonneg_left (show crs x y a≤-1 by omega) hn
  omega
 ·intro e;rw [e] at h;omega
end
/-- Of a triangulation whose sides are all legal. -/
theorem Ar6 {v:List Ab} (hv:Hj v) {m:Mp} (hm:MapN v.length m) (ht:Tri (plV v) (inN v.length) (apM m)) (hc:Cov (plV v) (inN v.length) (apM m)) (hl:∀ i j k l,apM m i j=some k→apM m j i=some l→DH (plV v) (hV v) i j k l < 0) (hne:m≠[])
  {a b:Int} (ha:inN v.length a) (hb:inN v.length b):Vt (plV v) (apM m) a b:=by
 have mem:∀ a b c:Int,(a,b,c)∈(m.map fun q=>(q.1.a0,q.1.a1,q.2))↔apM m a b=some c:=fun a b c=>by
  rw [List.mem_map]
  constructor
  ·rintro ⟨⟨⟨x,y⟩,z⟩,hq,e⟩
   cases e
   exact Ob hm.ok hq
  ·intro h
   exact ⟨(⟨a,b⟩,c),Is h,rfl⟩
 have hX:Ahq (plV v) (m.map fun q=>(q.1.a0,q.1.a1,q.2)):=⟨fun a b c h=>(mem _ _ _).2 (ht.rot _ _ _ ((mem _ _ _).1 h)),fun a b c h=>(ht.ccw _ _ _ ((mem _ _ _).1 h)).2.2.2⟩
 have bd:∀ x y z,inN v.length x→inN v.length y→inN v.length z→crs (plV v x) (plV v y) (plV v z) < KK:=fun x y z hx hy hz=>by
  have:=Mi (hv.ok x hx) (hv.ok y hy) (hv.ok z hz)
  unfold KK
  omega
 obtain ⟨t,hmt⟩:=List.exists_mem_of_ne_nil _ hne
 obtain ⟨⟨x,y,z⟩,hs,g1,g2,g3⟩:=Axq (H:=hV v) hX KK (plV v a) (plV v b) (fun x y z hmem hlt=>by
  have h1:=(mem _ _ _).1 hmem
  obtain ⟨vx,vy,vz,_⟩:=ht.ccw _ _ _ h1
  have:∃ e,apM m y x=some e:=by
   rcases e:apM m y x with _ | w
   ·have k1:=hc _ _ _ h1 e a ha
    have k2:=hc _ _ _ h1 e b hb
    unfold c2 at hlt
    have:=Int.mul_nonneg (show (0:Int)≤KK by unfold KK;omega) k1
    omega
   ·exact ⟨w,rfl⟩
  obtain ⟨e,he⟩:=this
  exact ⟨e,(mem _ _ _).2 he,hl _ _ _ _ h1 he⟩) (t.1.a0,t.1.a1,t.2) (List.mem_map.2 ⟨t,hmt,rfl⟩)
 have h1:=(mem _ _ _).1 hs
 obtain ⟨vx,vy,vz,_⟩:=ht.ccw _ _ _ h1
 have n1:=Ah6 (by unfold KK;omega) (bd _ _ _ vx vy hb) g1
 have n2:=Ah6 (by unfold KK;omega) (bd _ _ _ vy vz hb) g2
 have n3:=Ah6 (by unfold KK;omega) (bd _ _ _ vz vx hb) g3
 have cor:a=x∨a=y∨a=z:=by
  refine Classical.byContradiction fun g=>?_
  have:=ht.emp _ _ _ h1 a ha (by omega) (by omega) (by omega)
  omega
 -- a is the corner at which two sides meet
 have go:∀ x y z,apM m x y=some z→a=x→(crs (plV v x) (plV v y) (plV v a)=0→0≤crs (plV v x) (plV v y) (plV v b))→(crs (plV v z) (plV v x) (plV v a)=0→0≤crs (plV v z) (plV v x) (plV v b))→Vt (plV v) (apM m) a b:=by
  rintro x y z h rfl k1 k2
  refine ⟨y,z,h,k1 (Eq _ _),?_⟩
  have:=k2 (De _ _)
  rw [← Ar] at this
  exact this
 rcases cor with e | e | e
 ·exact go x y z h1 e n1.2 n3.2
 ·exact go y z x (ht.rot _ _ _ h1) e n2.2 n1.2
 ·exact go z x y (ht.rot2 h1) e n3.2 n2.2
theorem MapN.flipM {n:Nat} {m:Mp} (h:MapN n m) {i j k l:Int} (hi:inN n i) (hj:inN n j) (hk:inN n k) (hl:inN n l):MapN n (flipM m i j k l):=((h.cutM _ _ _).cutM _ _ _ |>.putM hi hl hk).putM hj hk hl
/-- .. and so of each. -/
theorem Ar7 {v:List Ab} (hv:Hj v) {m:Mp} (hm:MapN v.length m) (ht:Tri (plV v) (inN v.length) (apM m)) (hc:Cov (plV v) (inN v.length) (apM m)) (hne:m≠[])
  {a b:Int} (ha:inN v.length a) (hb:inN v.length b):Vt (plV v) (apM m) a b:=by
 have key:∀ (N:Nat) (m:Mp),phi (plV v) (hV v) v.length m=N→MapN v.length m→Tri (plV v) (inN v.length) (apM m)→Cov (plV v) (inN v.length) (apM m)→m≠[]→Vt (plV v) (apM m) a b:=by
  intro N
  induction N using Nat.strongRecOn with
  | ind N ih =>
   intro m hN hm ht hc hne
   by_cases c:∃ i j k l,apM m i j=some k∧apM m j i=some l∧¬ DH (plV v) (hV v) i j k l < 0
   ·obtain ⟨i,j,k,l,hk,hl,hD⟩:=c
    have q:=Ah5 hv ht hk hl hD
    obtain ⟨n1,n2,n3,n4,n5,n6⟩:=q.ne
    have ef:=Us hm.ok n1 n2 n3 n4 n5 n6
    obtain ⟨vi,vj,vk,_⟩:=ht.ccw _ _ _ hk
    obtain ⟨_,_,vl,_⟩:=ht.ccw _ _ _ hl
    have hpos:0 < DH (plV v) (hV v) i j k l:=by
     have:=(Abp hv vi vj vk vl (ht.ccw _ _ _ hk).2.2.2 (by rw [Bv];have:=(ht.ccw _ _ _ hl).2.2.2;omega)).2
     omega
    have lt:=Aj1 hm.ok (Xx hv) q hpos
    refine q.cone_back ?_
    rw [← ef]
    refine ih _ (by rw [← hN];exact lt) _ rfl (hm.flipM vi vj vk vl) (by rw [ef];exact q.flip) (by rw [ef];exact q.cov hc) (fun e=>?_)
    have:=Atj (apM m) i j k l
    rw [← ef,e] at this
    cases this
   ·exact Ar6 hv hm ht hc (fun i j k l hk hl=>Classical.byContradiction fun g=>c ⟨i,j,k,l,hk,hl,g⟩) hne ha hb
 exact key _ m rfl hm ht hc hne
end Go.Proofs.YtebkcipolijfmaaGreat
