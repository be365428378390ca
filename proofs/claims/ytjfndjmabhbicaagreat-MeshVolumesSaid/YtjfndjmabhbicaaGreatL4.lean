/- The builder's steps, closed. -/
import Derived.Test.YtjfndjmabhbicaaGreatL1
namespace Go.Proofs.YtjfndjmabhbicaaGreat
open Go Go.RowKit
noncomputable def apM (m:Mp):Ap:=fun i j=>mget m ⟨i,j⟩
noncomputable def putM (m:Mp) (i j k:Int):Mp:=mput (mput (mput m ⟨i,j⟩ k) ⟨j,k⟩ i) ⟨k,i⟩ j
noncomputable def cutM (m:Mp) (i j k:Int):Mp:=mdel (mdel (mdel m ⟨i,j⟩) ⟨j,k⟩) ⟨k,i⟩
noncomputable def flipM (m:Mp) (i j k l:Int):Mp:=putM (putM (cutM (cutM m i j k) j i l) i l k) j k l
theorem Id {i j a b:Int}:(⟨a,b⟩:Aa)=⟨i,j⟩↔a=i/\b=j:=by simp
theorem MapN.put {n:Nat} {m:Mp} (h:MapN n m) {i j k:Int} (hi:inN n i) (hj:inN n j) (hk:inN n k):MapN n (mput m ⟨i,j⟩ k):=by
 refine ⟨h.ok.put _ _,fun q hq=>?_⟩
 unfold mput at hq
 rcases List.mem_cons.1 hq with rfl | hq
 ·exact ⟨hi,hj,hk⟩
 ·exact h.key q (Oq.1 hq).1
theorem MapN.del {n:Nat} {m:Mp} (h:MapN n m) (x:Aa):MapN n (mdel m x):=⟨h.ok.del _,fun q hq=>h.key q (Oq.1 hq).1⟩
theorem MapN.putM {n:Nat} {m:Mp} (h:MapN n m) {i j k:Int} (hi:inN n i) (hj:inN n j) (hk:inN n k):MapN n (putM m i j k):=((h.put hi hj hk).put hj hk hi).put hk hi hj
theorem MapN.cutM {n:Nat} {m:Mp} (h:MapN n m) (i j k:Int):MapN n (cutM m i j k):=((h.del _).del _).del _
theorem Yx {m:Mp} (h:Dx m) (i j k a b:Int):apM (putM m i j k) a b=if a=k/\b=i then some j else if a=j/\b=k then some i else if a=i/\b=j then some k else apM m a b:=by
 unfold apM putM
 rw[Po ((h.put _ _).put _ _),Po (h.put _ _),Po h]
 simp only[Id]
theorem Nc {m:Mp} (h:Dx m) (i j k a b:Int):apM (cutM m i j k) a b=if (a=k/\b=i)\/(a=j/\b=k)\/(a=i/\b=j) then none else apM m a b:=by
 unfold apM cutM
 rw[Ta ((h.del _).del _),Ta (h.del _),Ta h]
 simp only[Id]
 by_cases c1:a=k/\b=i
 ·simp[c1]
 ·by_cases c2:a=j/\b=k
  ·simp[c2]
  ·by_cases c3:a=i/\b=j
   ·simp[c3]
   ·simp[c1,c2,c3]
theorem Vn {m:Mp} (h:Dx m) {i j k l:Int} (n1:i≠j) (n2:k≠l) (n3:k≠i) (n4:k≠j) (n5:l≠i) (n6:l≠j):apM (flipM m i j k l)=Dq (apM m) i j k l:=by
 have h1:Dx (cutM m i j k):=((h.del _).del _).del _
 have h2:Dx (cutM (cutM m i j k) j i l):=((h1.del _).del _).del _
 have h3:Dx (putM (cutM (cutM m i j k) j i l) i l k):=((h2.put _ _).put _ _).put _ _
 funext a b
 unfold flipM
 rw[Yx h3,Yx h2,Nc h1,Nc h]
 unfold Dq
 by_cases c1:a=i/\b=l
 ·repeat first | rw[if_pos (by omega)] | rw[if_neg (by omega)]
 by_cases c2:a=l/\b=k
 ·repeat first | rw[if_pos (by omega)] | rw[if_neg (by omega)]
 by_cases c3:a=k/\b=i
 ·repeat first | rw[if_pos (by omega)] | rw[if_neg (by omega)]
 by_cases c4:a=j/\b=k
 ·repeat first | rw[if_pos (by omega)] | rw[if_neg (by omega)]
 by_cases c5:a=k/\b=l
 ·repeat first | rw[if_pos (by omega)] | rw[if_neg (by omega)]
 by_cases c6:a=l/\b=j
 ·repeat first | rw[if_pos (by omega)] | rw[if_neg (by omega)]
 by_cases c7:a=i/\b=j
 ·repeat first | rw[if_pos (by omega)] | rw[if_neg (by omega)]
 by_cases c8:a=j/\b=i
 ·repeat first | rw[if_pos (by omega)] | rw[if_neg (by omega)]
 repeat first | rw[if_pos (by omega)] | rw[if_neg (by omega)]
theorem p_eq {b:Ag} {i:Int} (h:inN b.v.length i):Bg b i=some (plV b.v i):=by
 unfold Bg plV
 obtain ⟨k,hk,rfl,e⟩:=Ik (v:=b.v) (i:=i) h
 rw[e]
 rfl
theorem Af0 {n:Nat} (hn:n<=1024) {b:Ag} (hm:MapN n b.apex) {i j k:Int} (hi:inN n i) (hj:inN n j) (hk:inN n k):Dz b i j k=some ⟨b.v,putM b.apex i j k,b.fixed⟩:=by
 have hsq:=Zi hn
 have l0:=hm.len
 have l1:=(hm.put hi hj hk).len
 have l2:=((hm.put hi hj hk).put hj hk hi).len
 unfold Dz
 rw[gd_t (Mv hn hi hj),gd_t (by omega),gd_t (Mv hn hj hk),gd_t (by omega),gd_t (Mv hn hk hi),gd_t (by omega)]
 rfl
theorem Aub {n:Nat} (hn:n<=1024) {b:Ag} {i j k:Int} (hi:inN n i) (hj:inN n j) (hk:inN n k):Jj b i j k=some ⟨b.v,cutM b.apex i j k,b.fixed⟩:=by
 unfold Jj
 rw[gd_t (Mv hn hi hj),gd_t (Mv hn hj hk),gd_t (Mv hn hk hi)]
 rfl
theorem MapN.val {n:Nat} {m:Mp} (h:MapN n m) {i j k:Int} (hk:apM m i j=some k):inN n i/\inN n j/\inN n k:=h.key _ (Ed hk)
theorem Ai1 {b:Ag} (hv:Bu b.v) (hn:b.v.length<=1024) (hm:MapN b.v.length b.apex) {i j k l:Int} (hk:apM b.apex i j=some k) (hl:apM b.apex j i=some l) :
  Ck b i j=some (if Int.sign (crs (plV b.v k) (plV b.v l) (plV b.v i))*Int.sign (crs (plV b.v k) (plV b.v l) (plV b.v j)) = -1 then (⟨b.v,flipM b.apex i j k l,b.fixed⟩,true) else (b,false)):=by
 obtain ⟨vi,vj,vk⟩:=hm.val hk
 obtain ⟨_,_,vl⟩:=hm.val hl
 have hk':mget b.apex (⟨i,j⟩:Aa)=some k:=hk
 have hl':mget b.apex (⟨j,i⟩:Aa)=some l:=hl
 unfold Ck
 rw[gd_t (Mv hn vi vj),hk',Ad,gd_t (Mv hn vj vi),hl',Ad,jn_d]
 simp only[Option.getD_some,Option.isSome_some,if_true]
 rw[p_eq vk,Ad,p_eq vl,Ad,p_eq vi,Ad,Rq (hv.ok _ vk) (hv.ok _ vl) (hv.ok _ vi),Ad,Ad,Ad,p_eq vj,Ad,Rq (hv.ok _ vk) (hv.ok _ vl) (hv.ok _ vj),Ad,Tw]
 by_cases c:Int.sign (crs (plV b.v k) (plV b.v l) (plV b.v i))*Int.sign (crs (plV b.v k) (plV b.v l) (plV b.v j)) = -1
 ·rw[if_pos c,if_neg (by simp;omega)]
  have m1:=hm.cutM i j k
  have m2:=m1.cutM j i l
  have m3:=m2.putM vi vl vk
  rw[Aub hn vi vj vk,Ad,Aub hn vj vi vl,Ad,Af0 hn m2 vi vl vk,Ad,Af0 hn m3 vj vk vl,Ad]
  rfl
 ·rw[if_neg c,if_pos (by simpa using Aik.2 c)]
theorem Aqj {m:Mp} {x:Aa} (h:mget m x=none) (hm:Dx m):mdel m x=m:=by
 unfold mdel
 rw[List.filter_eq_self]
 intro p hp
 simp only[decide_eq_true_eq]
 intro e
 have:=Mf hm hp
 rw[e,h] at this
 cases this
section
variable {P:Int->Ac} {H:Int->Int} {n:Nat}
noncomputable def phi (P:Int->Ac) (H:Int->Int) (n:Nat) (m:Mp):Nat:=(m.map fun q=>cnf P H n q.1.a0 q.1.a1 q.2).sum
theorem Ai2 {m:Mp} (hm:Dx m) {i j k:Int} (h:mget m ⟨i,j⟩=some k):phi P H n m=cnf P H n i j k+phi P H n (mdel m ⟨i,j⟩):=by
 have hp:=Agm hm (Ed h)
 unfold phi
 rw[(hp.map _).sum_nat,List.map_cons,List.sum_cons]
theorem Ai3 {m:Mp} (hm:Dx m) {i j k:Int} (h:mget m ⟨i,j⟩=none):phi P H n (mput m ⟨i,j⟩ k)=cnf P H n i j k+phi P H n m:=by
 unfold mput
 rw[Aqj h hm]
 unfold phi
 rw[List.map_cons,List.sum_cons]
theorem Auc:∀ m:Mp,phi P H n m<=m.length*n
 | []=>by simp[phi]
 | q::r=>by
  have h1:=Auc r
  have h2:=Az0 (P:=P) (H:=H) (n:=n) q.1.a0 q.1.a1 q.2
  unfold phi at *
  rw[List.map_cons,List.sum_cons,List.length_cons,Nat.add_mul]
  omega
theorem Aow {m:Mp} (hm:Dx m) {i j k:Int} (n1:i≠j) (n2:j≠k) (n3:k≠i) (h1:apM m i j=some k) (h2:apM m j k=some i) (h3:apM m k i=some j):phi P H n m=3*cnf P H n i j k+phi P H n (cutM m i j k):=by
 have g1:mget (mdel m ⟨i,j⟩) ⟨j,k⟩=some i:=by rw[Ta hm,Id,if_neg (by omega)];exact h2
 have g2:mget (mdel (mdel m ⟨i,j⟩) ⟨j,k⟩) ⟨k,i⟩=some j:=by rw[Ta (hm.del _),Ta hm,Id,Id,if_neg (by omega),if_neg (by omega)];exact h3
 rw[Ai2 hm h1,Ai2 (hm.del _) g1,Ai2 ((hm.del _).del _) g2,Wl,Wl (P:=P) (H:=H) (n:=n) j k i,Wl]
 unfold cutM
 omega
theorem Ak2 {m:Mp} (hm:Dx m) {i j k:Int} (n1:i≠j) (n2:j≠k) (n3:k≠i) (h1:apM m i j=none) (h2:apM m j k=none) (h3:apM m k i=none):phi P H n (putM m i j k)=3*cnf P H n i j k+phi P H n m:=by
 have g1:mget (mput m ⟨i,j⟩ k) ⟨j,k⟩=none:=by rw[Po hm,Id,if_neg (by omega)];exact h2
 have g2:mget (mput (mput m ⟨i,j⟩ k) ⟨j,k⟩ i) ⟨k,i⟩=none:=by rw[Po (hm.put _ _),Po hm,Id,Id,if_neg (by omega),if_neg (by omega)];exact h3
 unfold putM
 rw[Ai3 ((hm.put _ _).put _ _) g2,Ai3 (hm.put _ _) g1,Ai3 hm h1,Wl (P:=P) (H:=H) (n:=n) i j k,Wl (P:=P) (H:=H) (n:=n) k i j,<- Wl (P:=P) (H:=H) (n:=n) k i j]
 have e:=Wl (P:=P) (H:=H) (n:=n) k i j
 omega
theorem Ak3 {m:Mp} (hm:Dx m) {i j k l:Int} (hcv:Afn P H (inN n)) (q:Quad P (inN n) (apM m) i j k l) (hQ:0 < DH P H i j k l):phi P H n (flipM m i j k l) < phi P H n m:=by
 obtain ⟨n1,n2,n3,n4,n5,n6⟩:=q.ne
 obtain ⟨f1,f2⟩:=q.fresh
 have h1:Dx (cutM m i j k):=((hm.del _).del _).del _
 have h2:Dx (cutM (cutM m i j k) j i l):=((h1.del _).del _).del _
 have h3:Dx (putM (cutM (cutM m i j k) j i l) i l k):=((h2.put _ _).put _ _).put _ _
 have a1:=q.tri.rot _ _ _ q.hk
 have a2:=q.tri.rot2 q.hk
 have a3:=q.tri.rot _ _ _ q.hl
 have a4:=q.tri.rot2 q.hl
 have e1:=Aow (P:=P) (H:=H) (n:=n) hm n1 (fun e=>n4 e.symm) n3 q.hk a1 a2
 have e2:=Aow (P:=P) (H:=H) (n:=n) h1 (i:=j) (j:=i) (k:=l) n1.symm (fun e=>n5 e.symm) n6 (by rw[Nc hm,if_neg (by omega)];exact q.hl) (by rw[Nc hm,if_neg (by omega)];exact a3) (by rw[Nc hm,if_neg (by omega)];exact a4)
 have e3:=Ak2 (P:=P) (H:=H) (n:=n) h2 (i:=i) (j:=l) (k:=k) (fun e=>n5 e.symm) n2.symm n3
  (by rw[Nc h1,if_pos (by omega)]) (by rw[Nc h1,if_neg (by omega),Nc hm,if_neg (by omega)];exact f2) (by rw[Nc h1,if_neg (by omega),Nc hm,if_pos (by omega)])
 have e4:=Ak2 (P:=P) (H:=H) (n:=n) h3 (i:=j) (j:=k) (k:=l) (fun e=>n4 e.symm) n2 n6
  (by rw[Yx h2,if_neg (by omega),if_neg (by omega),if_neg (by omega),Nc h1,if_neg (by omega),Nc hm,if_pos (by omega)])
  (by rw[Yx h2,if_neg (by omega),if_neg (by omega),if_neg (by omega),Nc h1,if_neg (by omega),Nc hm,if_neg (by omega)];exact f1)
  (by rw[Yx h2,if_neg (by omega),if_neg (by omega),if_neg (by omega),Nc h1,if_pos (by omega)])
 have:=q.cnf_lt hcv hQ
 unfold flipM
 omega
end
theorem Aw3 (hi hj hk hl:Int) (i j k l:Ac):Dt hk hl hj hi k l j i = -Dt hi hj hk hl i j k l:=by unfold Dt crs;grind
noncomputable def Fx (F:List (Aa × Bool)) (i j:Int):Bool:=(mget F ⟨min i j,max i j⟩).getD false
def pr2 (i j:Int):Aa:=⟨min i j,max i j⟩
theorem Ml (i j:Int):pr2 i j=pr2 j i:=by unfold pr2;rw[Int.min_comm,Int.max_comm]
theorem Af1 {i j a b:Int} (h:pr2 i j=pr2 a b):(i=a/\j=b)\/(i=b/\j=a):=by
 unfold pr2 at h
 rw[Id] at h
 omega
structure Mm (v:List Ab) (F:List (Aa × Bool)) (q:List Aa) (m:Mp):Prop where
 map:MapN v.length m
 tri:Tri (plV v) (inN v.length) (apM m)
 qn:∀ s∈q,inN v.length s.a0/\inN v.length s.a1/\s.a0<=s.a1
 pend:∀ i j k l,apM m i j=some k->apM m j i=some l->pr2 i j∈q\/Fx F i j=true\/DH (plV v) (hV v) i j k l < 0
theorem Mm.pop {v F q s m} (h:Mm v F (q++[s]) m) (hs:∀ k l,apM m s.a0 s.a1=some k->apM m s.a1 s.a0=some l->Fx F s.a0 s.a1=true\/DH (plV v) (hV v) s.a0 s.a1 k l < 0):Mm v F q m:=by
 have hq:=(h.qn s (by simp)).2.2
 refine ⟨h.map,h.tri,fun x hx=>h.qn x (List.mem_append_left _ hx),fun i j k l hk hl=>?_⟩
 rcases h.pend i j k l hk hl with g | g
 ·rcases List.mem_append.1 g with g | g
  ·exact .inl g
  ·rw[List.mem_singleton] at g
   right
   have e:pr2 s.a0 s.a1=s:=by
    obtain ⟨x,y⟩:=s
    unfold pr2
    rw[Id]
    simp only at hq ⊢
    omega
   rw[<- e] at g
   rcases Af1 g with ⟨e1,e2⟩ | ⟨e1,e2⟩
   ·subst e1;subst e2;exact hs k l hk hl
   ·subst e1;subst e2
    rcases hs l k hl hk with t | t
    ·left;unfold Fx at *;rw[Int.min_comm,Int.max_comm];exact t
    ·right;rw[<- Quad.swapQ];exact t
 ·exact .inr g
theorem Ai4 {v:List Ab} {m:Mp} (hv:Bu v) (ht:Tri (plV v) (inN v.length) (apM m)) {i j k l:Int} (hk:apM m i j=some k) (hl:apM m j i=some l) (hD:¬ DH (plV v) (hV v) i j k l < 0):Quad (plV v) (inN v.length) (apM m) i j k l:=by
 obtain ⟨vi,vj,vk,ck⟩:=ht.ccw _ _ _ hk
 obtain ⟨_,_,vl,cl⟩:=ht.ccw _ _ _ hl
 have c0:crs (plV v i) (plV v j) (plV v l) < 0:=by rw[Ax];omega
 refine ⟨ht,hk,hl,?_,?_⟩
 ·rw[An]
  rcases Int.lt_or_le 0 (crs (plV v k) (plV v i) (plV v l)) with g | g
  ·exact g
  ·exact absurd (Qk hv i j k l vi vj vk vl ck c0 (.inr g)) hD
 ·rcases Int.lt_or_le 0 (crs (plV v j) (plV v k) (plV v l)) with g | g
  ·exact g
  ·exact absurd (Qk hv i j k l vi vj vk vl ck c0 (.inl g)) hD
theorem Mm.flip {v F q s m} (hv:Bu v) (h:Mm v F (q++[s]) m) {k l:Int} (hk:apM m s.a0 s.a1=some k) (hl:apM m s.a1 s.a0=some l) (hD:¬ DH (plV v) (hV v) s.a0 s.a1 k l < 0) :
  Mm v F (q++[pr2 s.a0 k,pr2 k s.a1,pr2 s.a1 l,pr2 l s.a0]) (flipM m s.a0 s.a1 k l):=by
 have Q:=Ai4 hv h.tri hk hl hD
 obtain ⟨n1,n2,n3,n4,n5,n6⟩:=Q.ne
 obtain ⟨vi,vj,vk,ck⟩:=h.tri.ccw _ _ _ hk
 obtain ⟨_,_,vl,cl⟩:=h.tri.ccw _ _ _ hl
 have hf:=Vn h.map.ok n1 n2 n3 n4 n5 n6
 have hq:=(h.qn s (by simp)).2.2
 have es:pr2 s.a0 s.a1=s:=by
  obtain ⟨x,y⟩:=s
  unfold pr2
  rw[Id]
  simp only at hq ⊢
  omega
 have hD2:0 < DH (plV v) (hV v) s.a0 s.a1 k l:=by
  have:=(Ace hv vi vj vk vl ck (by rw[Ax];omega)).2
  omega
 refine ⟨?_,by rw[hf];exact Q.flip,fun x hx=>?_,fun a b c d hc hd=>?_⟩
 ·have m1:=h.map.cutM s.a0 s.a1 k
  have m2:=m1.cutM s.a1 s.a0 l
  exact (m2.putM vi vl vk).putM vj vk vl
 ·rcases List.mem_append.1 hx with hx | hx
  ·exact h.qn x (List.mem_append_left _ hx)
  ·have key:∀ i j,inN v.length i->inN v.length j->inN v.length (pr2 i j).a0/\inN v.length (pr2 i j).a1/\(pr2 i j).a0<=(pr2 i j).a1:=fun i j h1 h2=>by
    unfold pr2 inN at *
    simp only
    omega
   simp only[List.mem_cons,List.not_mem_nil,or_false] at hx
   rcases hx with rfl | rfl | rfl | rfl
   ·exact key _ _ vi vk
   ·exact key _ _ vk vj
   ·exact key _ _ vj vl
   ·exact key _ _ vl vi
 ·rw[hf] at hc hd
  have mem:∀ x,x∈[pr2 s.a0 k,pr2 k s.a1,pr2 s.a1 l,pr2 l s.a0]->x∈q++[pr2 s.a0 k,pr2 k s.a1,pr2 s.a1 l,pr2 l s.a0]:=fun x hx=>List.mem_append_right _ hx
  have dg:DH (plV v) (hV v) k l s.a1 s.a0 < 0:=by
   unfold DH at hD2 ⊢
   rw[Aw3]
   omega
  have outer:∀ a b c,Dq (apM m) s.a0 s.a1 k l a b=some c->(pr2 a b∈[pr2 s.a0 k,pr2 k s.a1,pr2 s.a1 l,pr2 l s.a0])\/(a=l/\b=k/\c=s.a0)\/(a=k/\b=l/\c=s.a1) \/
    (apM m a b=some c/\¬ (a=s.a0/\b=l)/\¬ (a=l/\b=k)/\¬ (a=k/\b=s.a0)/\¬ (a=s.a1/\b=k)/\¬ (a=k/\b=l)/\¬ (a=l/\b=s.a1)/\¬ (a=s.a0/\b=s.a1)/\¬ (a=s.a1/\b=s.a0)):=by
   intro a b c hc
   rcases Oz hc with ⟨e1,e2,_⟩ | g | ⟨e1,e2,_⟩ | ⟨e1,e2,_⟩ | g | ⟨e1,e2,_⟩ | g
   ·left;rw[Ml a b,e1,e2];simp
   ·exact .inr (.inl g)
   ·left;rw[Ml a b,e1,e2];simp
   ·left;rw[Ml a b,e1,e2];simp
   ·exact .inr (.inr (.inl g))
   ·left;rw[Ml a b,e1,e2];simp
   ·exact .inr (.inr (.inr g))
  rcases outer a b c hc with g | ⟨rfl,rfl,rfl⟩ | ⟨rfl,rfl,rfl⟩ | ⟨g0,g⟩
  ·exact .inl (mem _ g)
  ·rw[Aon n3 n2 n4 n5] at hd
   obtain rfl:=Option.some.inj hd
   right;right
   rw[Quad.swapQ (P:=plV v) (H:=hV v)]
   exact dg
  ·rw[Aom n5] at hd
   obtain rfl:=Option.some.inj hd
   exact .inr (.inr dg)
  ·rcases outer b a d hd with g' | ⟨e1,e2,_⟩ | ⟨e1,e2,_⟩ | ⟨g0',g'⟩
   ·left;rw[Ml a b];exact mem _ g'
   ·omega
   ·omega
   ·rcases h.pend a b c d g0 g0' with t | t
    ·rcases List.mem_append.1 t with t | t
     ·exact .inl (List.mem_append_left _ t)
     ·rw[List.mem_singleton,<- es] at t
      rcases Af1 t with ⟨e1,e2⟩ | ⟨e1,e2⟩ <;> omega
    ·exact .inr t
structure Rc (v:List Ab) (F:List (Aa × Bool)) (m m':Mp):Prop where
 cov:∀ S:Int->Prop,Cov (plV v) S (apM m)->Cov (plV v) S (apM m')
 fix:∀ i j,Fx F i j=true->(apM m i j≠none\/apM m j i≠none)->(apM m' i j≠none\/apM m' j i≠none)
 ne:m≠[]->m'≠[]
theorem Rc.refl {v F m}:Rc v F m m:=⟨fun _ h=>h,fun _ _ _ h=>h,fun h=>h⟩
theorem Rc.trans {v F m m' m''} (h:Rc v F m m') (k:Rc v F m' m''):Rc v F m m'':=⟨fun S h1=>k.cov S (h.cov S h1),fun i j h1 h2=>k.fix i j h1 (h.fix i j h1 h2),fun h1=>k.ne (h.ne h1)⟩
theorem Aox {F:List (Aa × Bool)} {i j:Int}:Fx F j i=Fx F i j:=by unfold Fx;rw[Int.min_comm,Int.max_comm]
theorem Ak4 {v F q s m} (hv:Bu v) (hn:v.length<=1024) (h:Mm v F (q++[s]) m) (hq:q.length<=5000000000) :
  ∃ q' m',Dg (v,m,F,q++[s])=some (.inl (v,m',F,q'))/\Mm v F q' m'/\Rc v F m m'/\((m'=m/\q'=q)\/(phi (plV v) (hV v) v.length m' < phi (plV v) (hV v) v.length m/\q'.length=q.length+4)):=by
 obtain ⟨k1,k2,k3⟩:=h.qn s (by simp)
 have es:pr2 s.a0 s.a1=s:=by
  obtain ⟨x,y⟩:=s
  unfold pr2
  rw[Id]
  simp only at k3 ⊢
  omega
 have hw:w64 ((((q++[s]).length:Nat):Int)-1)=((q.length:Nat):Int):=by rw[List.length_append,List.length_singleton,Ay (by omega) (by omega)];omega
 have hi:idx (q++[s]) ((q.length:Nat):Int)=some s:=(Bb (by simp)).trans (by simp)
 have ht:List.take (Int.toNat ((q.length:Nat):Int)) (q++[s])=q:=by simp
 have e0:Dg (v,m,F,q++[s]) =
   (fun j18:List Aa × Bool->Option (Sum (List Ab × Mp × List (Aa × Bool) × List Aa) Ag)=>if ((mget m s).isSome)=true then (if ((mget m ((⟨s.a1,s.a0⟩:Aa))).isSome)=true then (
    if (mget F s).getD false=true then (j18 (q,true))
    else (bnd (Rh (plV v s.a0) (plV v s.a1) (plV v ((mget m s).getD 0)) (plV v ((mget m ((⟨s.a1,s.a0⟩:Aa))).getD 0))) fun r169=>j18 (q,r169)))
   else (j18 (q,true))) else (j18 (q,true)))
   (fun s18=>if s18.2=true then (some (.inl (v,m,F,s18.1)))
    else (bnd (Ck (⟨v,m,F⟩:Ag) s.a0 s.a1) fun r185=>
    if r185.2=true then (gd (((s18.1).length+4)*16<=140737488355328) <|
     some (.inl (r185.1.v,r185.1.apex,r185.1.fixed,s18.1++[pr2 s.a0 ((mget m s).getD 0),pr2 ((mget m s).getD 0) s.a1,pr2 s.a1 ((mget m ((⟨s.a1,s.a0⟩:Aa))).getD 0),pr2 ((mget m ((⟨s.a1,s.a0⟩:Aa))).getD 0) s.a0])))
    else (some (.inl (r185.1.v,r185.1.apex,r185.1.fixed,s18.1))))):=by
  unfold Dg
  simp only[hw]
  rw[if_pos (by simp),hi,Ad,gd_t (by simp;omega),gd_t (Mv hn k1 k2),Ad,gd_t (Mv hn k2 k1),Ad,jn_d,ht]
  by_cases c1:(mget m s).isSome=true
  ·rw[if_pos c1,if_pos c1]
   by_cases c2:(mget m (⟨s.a1,s.a0⟩:Aa)).isSome=true
   ·rw[if_pos c2,if_pos c2,gd_t (Mv hn k1 k2),Ad]
    obtain ⟨k,hk⟩:=Option.isSome_iff_exists.1 c1
    obtain ⟨l,hl⟩:=Option.isSome_iff_exists.1 c2
    have hk':apM m s.a0 s.a1=some k:=hk
    have vk:=(h.map.val hk').2.2
    have vl:=(h.map.val (show apM m s.a1 s.a0=some l from hl)).2.2
    rw[p_eq (b:=⟨v,m,F⟩) k1,Ad,p_eq (b:=⟨v,m,F⟩) k2,Ad,hk,hl]
    simp only[Option.getD_some]
    rw[p_eq (b:=⟨v,m,F⟩) vk,Ad,p_eq (b:=⟨v,m,F⟩) vl,Ad]
    rfl
   ·rw[if_neg c2,if_neg c2];rfl
  ·rw[if_neg c1,if_neg c1];rfl
 rw[e0]
 dsimp only
 have pop:(∀ k l,apM m s.a0 s.a1=some k->apM m s.a1 s.a0=some l->Fx F s.a0 s.a1=true\/DH (plV v) (hV v) s.a0 s.a1 k l < 0) ->
   ∃ q' m',some (Sum.inl (v,m,F,q))=some (Sum.inl (β:=Ag) (v,m',F,q'))/\Mm v F q' m'/\Rc v F m m'/\((m'=m/\q'=q)\/(phi (plV v) (hV v) v.length m' < phi (plV v) (hV v) v.length m/\q'.length=q.length+4)) :=
  fun hs=>⟨q,m,rfl,h.pop hs,.refl,.inl ⟨rfl,rfl⟩⟩
 by_cases c1:(mget m s).isSome=true
 ·obtain ⟨k,hk⟩:=Option.isSome_iff_exists.1 c1
  have hk':apM m s.a0 s.a1=some k:=hk
  rw[if_pos c1]
  by_cases c2:(mget m (⟨s.a1,s.a0⟩:Aa)).isSome=true
  ·obtain ⟨l,hl⟩:=Option.isSome_iff_exists.1 c2
   have hl':apM m s.a1 s.a0=some l:=hl
   rw[if_pos c2]
   have hF:Fx F s.a0 s.a1=(mget F s).getD false:=by
    show (mget F (pr2 s.a0 s.a1)).getD false=_
    rw[es]
   by_cases c3:(mget F s).getD false=true
   ·rw[if_pos c3]
    exact pop fun _ _ _ _=>.inl (by rw[hF];exact c3)
   ·rw[if_neg c3,hk,hl]
    simp only[Option.getD_some]
    obtain ⟨vi,vj,vk,ck⟩:=h.tri.ccw _ _ _ hk'
    obtain ⟨_,_,vl,cl⟩:=h.tri.ccw _ _ _ hl'
    have c0:crs (plV v s.a0) (plV v s.a1) (plV v l) < 0:=by rw[Ax];omega
    obtain ⟨hleg,hne⟩:=Ace hv vi vj vk vl ck c0
    have hsd:Int.sign (crs (plV v s.a0) (plV v s.a1) (plV v k))*Int.sign (crs (plV v s.a0) (plV v s.a1) (plV v l)) = -1:=by rw[Ab8];exact .inr ⟨ck,c0⟩
    obtain ⟨d1,d2,d3,d4⟩:=Ail hsd
    rw[Asy (hv.ok _ vi) (hv.ok _ vj) (hv.ok _ vk) (hv.ok _ vl) d1 d2 d3 d4,Ad]
    by_cases c4:legP (plV v s.a0) (plV v s.a1) (plV v k) (plV v l)
    ·rw[decide_eq_true c4,if_pos rfl]
     refine pop fun k' l' hk2 hl2=>.inr ?_
     rw[hk'] at hk2
     rw[hl'] at hl2
     cases hk2;cases hl2
     exact hleg.1 c4
    ·rw[decide_eq_false c4,if_neg (by simp)]
     have hD:¬ DH (plV v) (hV v) s.a0 s.a1 k l < 0:=fun g=>c4 (hleg.2 g)
     have Q:=Ai4 hv h.tri hk' hl' hD
     have hs:Int.sign (crs (plV v k) (plV v l) (plV v s.a0))*Int.sign (crs (plV v k) (plV v l) (plV v s.a1)) = -1:=by
      rw[Ab8]
      left
      refine ⟨?_,by rw[An];exact Q.c2⟩
      have e:crs (plV v k) (plV v l) (plV v s.a0) = -crs (plV v s.a0) (plV v l) (plV v k):=by unfold crs;grind
      have:=Q.c1
      omega
     rw[Ai1 (b:=⟨v,m,F⟩) hv hn h.map hk' hl',if_pos hs,Ad]
     simp only[if_true]
     rw[gd_t (by omega)]
     obtain ⟨n1,n2,n3,n4,n5,n6⟩:=Q.ne
     refine ⟨_,_,rfl,h.flip hv hk' hl' hD,⟨fun S hc=>?_,fun a b hF2 hab=>?_,fun _=>by simp[flipM,putM,mput]⟩,.inr ⟨Ak3 h.map.ok (Qk hv) Q (by omega),by simp⟩⟩
     ·rw[Vn h.map.ok n1 n2 n3 n4 n5 n6]
      exact Q.cov hc
     ·rw[Vn h.map.ok n1 n2 n3 n4 n5 n6]
      have nf:∀ a b,Fx F a b=true->¬ ((a=s.a0/\b=s.a1)\/(a=s.a1/\b=s.a0)):=fun a b hab e=>by
       rcases e with ⟨e1,e2⟩ | ⟨e1,e2⟩
       ·rw[e1,e2,hF] at hab;exact c3 hab
       ·rw[e1,e2,Aox,hF] at hab;exact c3 hab
      rcases hab with g | g
      ·left
       intro e
       rcases Vk e with t | t
       ·exact g t
       ·exact nf a b hF2 t
      ·right
       intro e
       rcases Vk e with t | t
       ·exact g t
       ·exact nf b a (by rw[Aox];exact hF2) t
  ·rw[if_neg c2]
   refine pop fun k' l' _ hl2=>?_
   exact absurd (by rw[show mget m (⟨s.a1,s.a0⟩:Aa)=some l' from hl2];rfl) c2
 ·rw[if_neg c1]
  refine pop fun k' l' hk2 _=>?_
  exact absurd (by rw[show mget m s=some k' from hk2];rfl) c1
theorem Aqk {b:Ag} (hv:Bu b.v) (hn:b.v.length<=1024) (hm:MapN b.v.length b.apex) (ht:Tri (plV b.v) (inN b.v.length) (apM b.apex)) :
  ∃ m',Iv b=some ⟨b.v,m',b.fixed⟩/\Mm b.v b.fixed [] m'/\Rc b.v b.fixed b.apex m':=by
 have hsq:=Zi hn
 have hl:=hm.len
 have hf:∀ q,(Hp b.apex q).length<=1:=fun q=>by unfold Hp;split <;> simp
 have h0:Mm b.v b.fixed (Au cmp2 (b.apex.flatMap (Hp b.apex))) b.apex:=by
  refine ⟨hm,ht,fun s hs=>?_,fun i j k l hk hl=>.inl ?_⟩
  ·rw[Ga] at hs
   obtain ⟨q,hq,hs⟩:=List.mem_flatMap.1 hs
   obtain ⟨k1,k2,k3⟩:=hm.key q hq
   unfold Hp at hs
   split at hs
   ·rw[List.mem_singleton] at hs
    subst hs
    unfold inN at *
    simp only
    omega
   ·cases hs
  ·rw[Ga,List.mem_flatMap]
   have n1:=(ht.ne hk).1
   rcases Int.lt_or_gt_of_ne n1 with c | c
   ·refine ⟨(⟨i,j⟩,k),Ed hk,?_⟩
    unfold Hp pr2
    rw[if_pos (.inl c)]
    exact List.mem_singleton.2 rfl
   ·refine ⟨(⟨j,i⟩,l),Ed hl,?_⟩
    unfold Hp
    rw[if_pos (.inl c),Ml]
    exact List.mem_singleton.2 rfl
 unfold Iv
 rw[Aji hn hm,Ad]
 have hlen:(Au cmp2 (b.apex.flatMap (Hp b.apex))).length<=1048576:=by
  rw[Bo]
  have:=Hu hf b.apex
  omega
 have hphi:phi (plV b.v) (hV b.v) b.v.length b.apex<=1073741824:=by
  have h1:=Auc (P:=plV b.v) (H:=hV b.v) (n:=b.v.length) b.apex
  have h2:=Nat.mul_le_mul (show b.apex.length<=1048576 by omega) hn
  omega
 have:=Bl (B:=Dg) (fun s=>4*phi (plV b.v) (hV b.v) b.v.length s.2.1+s.2.2.2.length)
  (fun s=>s.1=b.v/\s.2.2.1=b.fixed/\Mm b.v b.fixed s.2.2.2 s.2.1/\Rc b.v b.fixed b.apex s.2.1/\4*phi (plV b.v) (hV b.v) b.v.length s.2.1+s.2.2.2.length<=5000000000)
  (fun t=>∃ m',t=⟨b.v,m',b.fixed⟩/\Mm b.v b.fixed [] m'/\Rc b.v b.fixed b.apex m') (fun s hs=>by
   obtain ⟨v,m,F,q⟩:=s
   obtain ⟨e1,e2,h1,h2,h3⟩:=hs
   simp only at e1 e2 h1 h2 h3
   subst e1;subst e2
   by_cases hq:q=[]
   ·subst hq
    right
    refine ⟨⟨b.v,m,b.fixed⟩,?_,m,rfl,h1,h2⟩
    unfold Dg
    rw[if_neg (by simp)]
   ·left
    obtain ⟨q0,s,rfl⟩:∃ q0 s,q=q0++[s]:=⟨q.dropLast,q.getLast hq,(List.dropLast_concat_getLast hq).symm⟩
    rw[List.length_append,List.length_singleton] at h3
    obtain ⟨q',m',h4,h5,h6,h7⟩:=Ak4 hv hn h1 (by omega)
    refine ⟨_,h4,⟨rfl,rfl,h5,h2.trans h6,?_⟩,?_⟩
    ·dsimp only
     rcases h7 with ⟨rfl,rfl⟩ | ⟨g1,g2⟩ <;> omega
    ·dsimp only
     rw[List.length_append,List.length_singleton]
     rcases h7 with ⟨rfl,rfl⟩ | ⟨g1,g2⟩ <;> omega)
  (b.v,b.apex,b.fixed,Au cmp2 (b.apex.flatMap (Hp b.apex))) ⟨rfl,rfl,h0,.refl,by dsimp only;omega⟩
 obtain ⟨t,h1,m',rfl,h2,h3⟩:=this
 rw[h1,Ad]
 exact ⟨m',rfl,h2,h3⟩
end Go.Proofs.YtjfndjmabhbicaaGreat
