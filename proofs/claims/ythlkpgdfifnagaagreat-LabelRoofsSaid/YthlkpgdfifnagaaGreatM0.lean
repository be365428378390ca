import Derived.Test.YthlkpgdfifnagaaGreatL1
set_option maxRecDepth 100000
set_option maxHeartbeats 1000000
namespace Go.Proofs.YthlkpgdfifnagaaGreat
open Go Go.RowKit Tryz List
noncomputable def apM(m:Mp):Ap:=fun i j=>mget m ⟨i,j⟩
noncomputable def putM(m:Mp)(i j k:Int):Mp:=mput (mput (mput m ⟨i,j⟩ k) ⟨j,k⟩ i) ⟨k,i⟩ j
noncomputable def cutM(m:Mp)(i j k:Int):Mp:=mdel (mdel (mdel m ⟨i,j⟩) ⟨j,k⟩) ⟨k,i⟩
noncomputable def Aj0(m:Mp)(i j k l:Int):Mp:=putM (putM (cutM (cutM m i j k) j i l) i l k) j k l
theorem Nc{i j a b:Int}:(⟨a,b⟩:Ab)=⟨i,j⟩↔a=i/\b=j:=s_
theorem MapN.put{n:Nat}{m:Mp}(h:MapN n m){i j k:Int}(hi:inN n i)(hj:inN n j)(hk:inN n k):MapN n (mput m ⟨i,j⟩ k):=by
 refine⟨h.ok.put _ _,fun q hq=>?_⟩;unfold mput at hq;rcases mem_cons.1 hq with rfl | hq
 ·exact⟨hi,hj,hk⟩
 ·exact h.key q (Rk.1 hq).1
theorem MapN.del{n:Nat}{m:Mp}(h:MapN n m)(x:Ab):MapN n (mdel m x):=⟨h.ok.del _,fun q hq=>h.key q (Rk.1 hq).1⟩
theorem MapN.putM{n:Nat}{m:Mp}(h:MapN n m){i j k:Int}(hi:inN n i)(hj:inN n j)(hk:inN n k):MapN n (putM m i j k):=((h.put hi hj hk).put hj hk hi).put hk hi hj
theorem MapN.cutM{n:Nat}{m:Mp}(h:MapN n m)(i j k:Int):MapN n (cutM m i j k):=((h.del _).del _).del _
theorem Ac8{m:Mp}(h:Dq m)(i j k a b:Int):apM (putM m i j k) a b=if a=k/\b=i then some j else if a=j/\b=k then some i else if a=i/\b=j then some k else apM m a b:=by
 unfold apM putM;rw[Pu ((h.put _ _).put _ _),Pu (h.put _ _),Pu h];simp only[Nc]
theorem Pm{m:Mp}(h:Dq m)(i j k a b:Int):apM (cutM m i j k) a b=if (a=k/\b=i)\/(a=j/\b=k)\/(a=i/\b=j) then none else apM m a b:=by
 unfold apM cutM;rw[Vz ((h.del _).del _),Vz (h.del _),Vz h];simp only[Nc]
 by_cases c1:a=k/\b=i
 ·simp[c1]
 ·by_cases c2:a=j/\b=k
  ·simp[c2]
  ·by_cases c3:a=i/\b=j
   ·simp[c3]
   ·simp[c1,c2,c3]
theorem Aj1{m:Mp}(h:Dq m){i j k l:Int}(n1:i≠j)(n2:k≠l)(n3:k≠i)(n4:k≠j)(n5:l≠i)(n6:l≠j):apM (Aj0 m i j k l)=Pv (apM m) i j k l:=by
 have h1:Dq (cutM m i j k):=((h.del _).del _).del _;have h2:Dq (cutM (cutM m i j k) j i l):=((h1.del _).del _).del _;have h3:Dq (putM (cutM (cutM m i j k) j i l) i l k):=((h2.put _ _).put _ _).put _ _;funext a b;unfold Aj0;rw[Ac8 h3,Ac8 h2,Pm h1,Pm h];unfold Pv
 by_cases c1:a=i/\b=l
 ·repeat first | rw[if_pos oo] | rw[if_neg oo]
 by_cases c2:a=l/\b=k
 ·repeat first | rw[if_pos oo] | rw[if_neg oo]
 by_cases c3:a=k/\b=i
 ·repeat first | rw[if_pos oo] | rw[if_neg oo]
 by_cases c4:a=j/\b=k
 ·repeat first | rw[if_pos oo] | rw[if_neg oo]
 by_cases c5:a=k/\b=l
 ·repeat first | rw[if_pos oo] | rw[if_neg oo]
 by_cases c6:a=l/\b=j
 ·repeat first | rw[if_pos oo] | rw[if_neg oo]
 by_cases c7:a=i/\b=j
 ·repeat first | rw[if_pos oo] | rw[if_neg oo]
 by_cases c8:a=j/\b=i
 ·repeat first | rw[if_pos oo] | rw[if_neg oo]
 repeat first | rw[if_pos oo] | rw[if_neg oo]
theorem p_eq{b:Am}{i:Int}(h:inN b.v.length i):Bk b i=some (plV b.v i):=by
 unfold Bk plV;obtain⟨k,hk,rfl,e⟩:=Lw (v:=b.v) (i:=i) h;rw[e];rfl
theorem Aj2{n:Nat}(hn:n<=1024){b:Am}(hm:MapN n b.apex){i j k:Int}(hi:inN n i)(hj:inN n j)(hk:inN n k):Ek b i j k=some ⟨b.v,putM b.apex i j k,b.fixed⟩:=by
 have hsq:=Ag1 hn;have l0:=hm.len;have l1:=(hm.put hi hj hk).len;have l2:=((hm.put hi hj hk).put hj hk hi).len;unfold Ek;rw[gd_t (Uo hn hi hj),gd_t oo,gd_t (Uo hn hj hk),gd_t oo,gd_t (Uo hn hk hi),gd_t oo];rfl
theorem Ayg{n:Nat}(hn:n<=1024){b:Am}{i j k:Int}(hi:inN n i)(hj:inN n j)(hk:inN n k):Kq b i j k=some ⟨b.v,cutM b.apex i j k,b.fixed⟩:=by
 unfold Kq;rw[gd_t (Uo hn hi hj),gd_t (Uo hn hj hk),gd_t (Uo hn hk hi)];rfl
theorem MapN.val{n:Nat}{m:Mp}(h:MapN n m){i j k:Int}(hk:apM m i j=some k):inN n i/\inN n j/\inN n k:=h.key _ (Md hk)
theorem Ba3{b:Am}(hv:Ig b.v)(hn:b.v.length<=1024)(hm:MapN b.v.length b.apex){i j k l:Int}(hk:apM b.apex i j=some k)(hl:apM b.apex j i=some l):
  Jc b i j=some (if Int.sign (crs (plV b.v k) (plV b.v l) (plV b.v i))*Int.sign (crs (plV b.v k) (plV b.v l) (plV b.v j)) = -1 then (⟨b.v,Aj0 b.apex i j k l,b.fixed⟩,true) else (b,false)):=by
 obtain⟨vi,vj,vk⟩:=hm.val hk;obtain⟨_,_,vl⟩:=hm.val hl;have hk':mget b.apex (⟨i,j⟩:Ab)=some k:=hk;have hl':mget b.apex (⟨j,i⟩:Ab)=some l:=hl;unfold Jc;rw[gd_t (Uo hn vi vj),hk',Ae,gd_t (Uo hn vj vi),hl',Ae,jn_d];simp only[Option.getD_some,Option.isSome_some,if_true];rw[p_eq vk,Ae,p_eq vl,Ae,p_eq vi,Ae,turn_eq (hv.ok _ vk) (hv.ok _ vl) (hv.ok _ vi),Ae,Ae,Ae,p_eq vj,Ae,turn_eq (hv.ok _ vk) (hv.ok _ vl) (hv.ok _ vj),Ae,Apk]
 by_cases c:Int.sign (crs (plV b.v k) (plV b.v l) (plV b.v i))*Int.sign (crs (plV b.v k) (plV b.v l) (plV b.v j)) = -1
 ·rw[if_pos c,if_neg (by simp;omega)];have m1:=hm.cutM i j k;have m2:=m1.cutM j i l;have m3:=m2.putM vi vl vk;rw[Ayg hn vi vj vk,Ae,Ayg hn vj vi vl,Ae,Aj2 hn m2 vi vl vk,Ae,Aj2 hn m3 vj vk vl,Ae];rfl
 ·rw[if_neg c,if_pos (by simpa using Anh.2 c)]
theorem Auw{m:Mp}{x:Ab}(h:mget m x=none)(hm:Dq m):mdel m x=m:=by
 unfold mdel;rw[filter_eq_self];intro p hp;simp only[decide_eq_true_eq];intro e;have:=Vy hm hp;rw[e,h] at this;cases this
section
variable {P:Int->Ac} {H:Int->Int} {n:Nat}
noncomputable def phi(P:Int->Ac)(H:Int->Int)(n:Nat)(m:Mp):Nat:=(m.map fun q=>cnf P H n q.1.a0 q.1.a1 q.2).sum
theorem And{m:Mp}(hm:Dq m){i j k:Int}(h:mget m ⟨i,j⟩=some k):phi P H n m=cnf P H n i j k+phi P H n (mdel m ⟨i,j⟩):=by
 have hp:=Alc hm (Md h);unfold phi;rw[(hp.map _).sum_nat,map_cons,sum_cons]
theorem Ane{m:Mp}(hm:Dq m){i j k:Int}(h:mget m ⟨i,j⟩=none):phi P H n (mput m ⟨i,j⟩ k)=cnf P H n i j k+phi P H n m:=by
 unfold mput;rw[Auw h hm];unfold phi;rw[map_cons,sum_cons]
theorem Ayh:∀ m:Mp,phi P H n m<=m.length*n
 | []=>by simp[phi]
 | q::r=>by
  have h1:=Ayh r;have h2:=Bcs (P:=P) (H:=H) (n:=n) q.1.a0 q.1.a1 q.2;unfold phi at *;rw[map_cons,sum_cons,length_cons,Nat.add_mul];omega
theorem As8{m:Mp}(hm:Dq m){i j k:Int}(n1:i≠j)(n2:j≠k)(n3:k≠i)(h1:apM m i j=some k)(h2:apM m j k=some i)(h3:apM m k i=some j):phi P H n m=3*cnf P H n i j k+phi P H n (cutM m i j k):=by
 have g1:mget (mdel m ⟨i,j⟩) ⟨j,k⟩=some i:=by rw[Vz hm,Nc,if_neg oo];exact h2
 have g2:mget (mdel (mdel m ⟨i,j⟩) ⟨j,k⟩) ⟨k,i⟩=some j:=by rw[Vz (hm.del _),Vz hm,Nc,Nc,if_neg oo,if_neg oo];exact h3
 rw[And hm h1,And (hm.del _) g1,And ((hm.del _).del _) g2,Aax,Aax (P:=P) (H:=H) (n:=n) j k i,Aax];unfold cutM;omega
theorem Apf{m:Mp}(hm:Dq m){i j k:Int}(n1:i≠j)(n2:j≠k)(n3:k≠i)(h1:apM m i j=none)(h2:apM m j k=none)(h3:apM m k i=none):phi P H n (putM m i j k)=3*cnf P H n i j k+phi P H n m:=by
 have g1:mget (mput m ⟨i,j⟩ k) ⟨j,k⟩=none:=by rw[Pu hm,Nc,if_neg oo];exact h2
 have g2:mget (mput (mput m ⟨i,j⟩ k) ⟨j,k⟩ i) ⟨k,i⟩=none:=by rw[Pu (hm.put _ _),Pu hm,Nc,Nc,if_neg oo,if_neg oo];exact h3
 unfold putM;rw[Ane ((hm.put _ _).put _ _) g2,Ane (hm.put _ _) g1,Ane hm h1,Aax (P:=P) (H:=H) (n:=n) i j k,Aax (P:=P) (H:=H) (n:=n) k i j,<- Aax (P:=P) (H:=H) (n:=n) k i j];have e:=Aax (P:=P) (H:=H) (n:=n) k i j;omega
theorem Ayi{m:Mp}(hm:Dq m){i j k l:Int}(hcv:Aiz P H (inN n))(q:Quad P (inN n) (apM m) i j k l)(hQ:0<DH P H i j k l):phi P H n (Aj0 m i j k l)<phi P H n m:=by
 obtain⟨n1,n2,n3,n4,n5,n6⟩:=q.ne;obtain⟨f1,f2⟩:=q.fresh;have h1:Dq (cutM m i j k):=((hm.del _).del _).del _;have h2:Dq (cutM (cutM m i j k) j i l):=((h1.del _).del _).del _;have h3:Dq (putM (cutM (cutM m i j k) j i l) i l k):=((h2.put _ _).put _ _).put _ _;have a1:=q.tri.rot _ _ _ q.hk;have a2:=q.tri.rot2 q.hk;have a3:=q.tri.rot _ _ _ q.hl;have a4:=q.tri.rot2 q.hl;have e1:=As8 (P:=P) (H:=H) (n:=n) hm n1 (fun e=>n4 e.symm) n3 q.hk a1 a2;have e2:=As8 (P:=P) (H:=H) (n:=n) h1 (i:=j) (j:=i) (k:=l) n1.symm (fun e=>n5 e.symm) n6 (by rw[Pm hm,if_neg oo];exact q.hl) (by rw[Pm hm,if_neg oo];exact a3) (by rw[Pm hm,if_neg oo];exact a4);have e3:=Apf (P:=P) (H:=H) (n:=n) h2 (i:=i) (j:=l) (k:=k) (fun e=>n5 e.symm) n2.symm n3
  (by rw[Pm h1,if_pos oo]) (by rw[Pm h1,if_neg oo,Pm hm,if_neg oo];exact f2) (by rw[Pm h1,if_neg oo,Pm hm,if_pos oo])
 have e4:=Apf (P:=P) (H:=H) (n:=n) h3 (i:=j) (j:=k) (k:=l) (fun e=>n4 e.symm) n2 n6
  (by rw[Ac8 h2,if_neg oo,if_neg oo,if_neg oo,Pm h1,if_neg oo,Pm hm,if_pos oo])
  (by rw[Ac8 h2,if_neg oo,if_neg oo,if_neg oo,Pm h1,if_neg oo,Pm hm,if_neg oo];exact f1)
  (by rw[Ac8 h2,if_neg oo,if_neg oo,if_neg oo,Pm h1,if_pos oo])
 have:=q.cnf_lt hcv hQ;unfold Aj0;omega
end
theorem Ba4(hi hj hk hl:Int)(i j k l:Ac):Dt hk hl hj hi k l j i = -Dt hi hj hk hl i j k l:=by unfold Dt crs;grind
noncomputable def Fx(F:List (Ab × Bool))(i j:Int):Bool:=(mget F ⟨min i j,max i j⟩).getD false
def pr2(i j:Int):Ab:=⟨min i j,max i j⟩
theorem Zz(i j:Int):pr2 i j=pr2 j i:=by unfold pr2;rw[Int.min_comm,Int.max_comm]
theorem Ayj{i j a b:Int}(h:pr2 i j=pr2 a b):(i=a/\j=b)\/(i=b/\j=a):=by
 unfold pr2 at h;rw[Nc] at h;omega
structure Oq(v:List Ad)(F:List (Ab × Bool))(q:List Ab)(m:Mp):Prop where
 map:MapN v.length m
 tri:Tri (plV v) (inN v.length) (apM m)
 qn:∀ s∈q,inN v.length s.a0/\inN v.length s.a1/\s.a0<=s.a1
 pend:∀ i j k l,apM m i j=some k->apM m j i=some l->pr2 i j∈q\/Fx F i j=true\/DH (plV v) (hV v) i j k l<0
theorem Oq.pop{v F q s m}(h:Oq v F (q++[s]) m)(hs:∀ k l,apM m s.a0 s.a1=some k->apM m s.a1 s.a0=some l->Fx F s.a0 s.a1=true\/DH (plV v) (hV v) s.a0 s.a1 k l<0):Oq v F q m:=by
 have hq:=(h.qn s s_).2.2;refine⟨h.map,h.tri,fun x hx=>h.qn x (mem_append_left _ hx),fun i j k l hk hl=>?_⟩;rcases h.pend i j k l hk hl with g | g
 ·rcases mem_append.1 g with g | g
  ·exact .inl g
  ·rw[mem_singleton] at g;right;have e:pr2 s.a0 s.a1=s:=by
    obtain⟨x,y⟩:=s;unfold pr2;rw[Nc];simp only at hq ⊢;omega
   rw[<- e] at g;rcases Ayj g with⟨e1,e2⟩|⟨e1,e2⟩
   ·subst e1;subst e2;exact hs k l hk hl
   ·subst e1;subst e2;rcases hs l k hl hk with t | t
    ·left;unfold Fx at *;rw[Int.min_comm,Int.max_comm];exact t
    ·right;rw[<- Quad.swapQ];exact t
 ·exact .inr g
theorem As9{v:List Ad}{m:Mp}(hv:Ig v)(ht:Tri (plV v) (inN v.length) (apM m)){i j k l:Int}(hk:apM m i j=some k)(hl:apM m j i=some l)(hD:¬ DH (plV v) (hV v) i j k l<0):Quad (plV v) (inN v.length) (apM m) i j k l:=by
 obtain⟨vi,vj,vk,ck⟩:=ht.ccw _ _ _ hk;obtain⟨_,_,vl,cl⟩:=ht.ccw _ _ _ hl;have c0:crs (plV v i) (plV v j) (plV v l)<0:=by rw[Cq];omega
 refine⟨ht,hk,hl,?_,?_⟩
 ·rw[Ca];rcases Int.lt_or_le 0 (crs (plV v k) (plV v i) (plV v l)) with g | g
  ·exact g
  ·exact absurd (Acx hv i j k l vi vj vk vl ck c0 (.inr g)) hD
 ·rcases Int.lt_or_le 0 (crs (plV v j) (plV v k) (plV v l)) with g | g
  ·exact g
  ·exact absurd (Acx hv i j k l vi vj vk vl ck c0 (.inl g)) hD
theorem Oq.flip{v F q s m}(hv:Ig v)(h:Oq v F (q++[s]) m){k l:Int}(hk:apM m s.a0 s.a1=some k)(hl:apM m s.a1 s.a0=some l)(hD:¬ DH (plV v) (hV v) s.a0 s.a1 k l<0):
  Oq v F (q++[pr2 s.a0 k,pr2 k s.a1,pr2 s.a1 l,pr2 l s.a0]) (Aj0 m s.a0 s.a1 k l):=by
 have Q:=As9 hv h.tri hk hl hD;obtain⟨n1,n2,n3,n4,n5,n6⟩:=Q.ne;obtain⟨vi,vj,vk,ck⟩:=h.tri.ccw _ _ _ hk;obtain⟨_,_,vl,cl⟩:=h.tri.ccw _ _ _ hl;have hf:=Aj1 h.map.ok n1 n2 n3 n4 n5 n6;have hq:=(h.qn s s_).2.2;have es:pr2 s.a0 s.a1=s:=by
  obtain⟨x,y⟩:=s;unfold pr2;rw[Nc];simp only at hq ⊢;omega
 have hD2:0<DH (plV v) (hV v) s.a0 s.a1 k l:=by
  have:=(Alb hv vi vj vk vl ck (by rw[Cq];omega)).2;omega
 refine⟨?_,by rw[hf];exact Q.flip,fun x hx=>?_,fun a b c d hc hd=>?_⟩
 ·have m1:=h.map.cutM s.a0 s.a1 k;have m2:=m1.cutM s.a1 s.a0 l;exact (m2.putM vi vl vk).putM vj vk vl
 ·rcases mem_append.1 hx with hx | hx
  ·exact h.qn x (mem_append_left _ hx)
  ·have key:∀ i j,inN v.length i->inN v.length j->inN v.length (pr2 i j).a0/\inN v.length (pr2 i j).a1/\(pr2 i j).a0<=(pr2 i j).a1:=fun i j h1 h2=>by
    unfold pr2 inN at *;simp only;omega
   simp only[mem_cons,not_mem_nil,or_false] at hx;rcases hx with rfl | rfl | rfl | rfl
   ·exact key _ _ vi vk
   ·exact key _ _ vk vj
   ·exact key _ _ vj vl
   ·exact key _ _ vl vi
 ·rw[hf] at hc hd;have mem:∀ x,x∈[pr2 s.a0 k,pr2 k s.a1,pr2 s.a1 l,pr2 l s.a0]->x∈q++[pr2 s.a0 k,pr2 k s.a1,pr2 s.a1 l,pr2 l s.a0]:=fun x hx=>mem_append_right _ hx
  have dg:DH (plV v) (hV v) k l s.a1 s.a0<0:=by
   unfold DH at hD2 ⊢;rw[Ba4];omega
  have outer:∀ a b c,Pv (apM m) s.a0 s.a1 k l a b=some c->(pr2 a b∈[pr2 s.a0 k,pr2 k s.a1,pr2 s.a1 l,pr2 l s.a0])\/(a=l/\b=k/\c=s.a0)\/(a=k/\b=l/\c=s.a1) \/
    (apM m a b=some c/\¬ (a=s.a0/\b=l)/\¬ (a=l/\b=k)/\¬ (a=k/\b=s.a0)/\¬ (a=s.a1/\b=k)/\¬ (a=k/\b=l)/\¬ (a=l/\b=s.a1)/\¬ (a=s.a0/\b=s.a1)/\¬ (a=s.a1/\b=s.a0)):=by
   intro a b c hc;rcases Tq hc with⟨e1,e2,_⟩ | g | ⟨e1,e2,_⟩|⟨e1,e2,_⟩ | g | ⟨e1,e2,_⟩ | g
   ·left;rw[Zz a b,e1,e2];simp
   ·exact .inr (.inl g)
   ·left;rw[Zz a b,e1,e2];simp
   ·left;rw[Zz a b,e1,e2];simp
   ·exact .inr (.inr (.inl g))
   ·left;rw[Zz a b,e1,e2];simp
   ·exact .inr (.inr (.inr g))
  rcases outer a b c hc with g | ⟨rfl,rfl,rfl⟩|⟨rfl,rfl,rfl⟩|⟨g0,g⟩
  ·exact .inl (mem _ g)
  ·rw[Asb n3 n2 n4 n5] at hd;obtain rfl:=Option.some.inj hd;right;right;rw[Quad.swapQ (P:=plV v) (H:=hV v)];exact dg
  ·rw[Asa n5] at hd;obtain rfl:=Option.some.inj hd;exact .inr (.inr dg)
  ·rcases outer b a d hd with g' | ⟨e1,e2,_⟩|⟨e1,e2,_⟩|⟨g0',g'⟩
   ·left;rw[Zz a b];exact mem _ g'
   ·omega
   ·omega
   ·rcases h.pend a b c d g0 g0' with t | t
    ·rcases mem_append.1 t with t | t
     ·exact .inl (mem_append_left _ t)
     ·rw[mem_singleton,<- es] at t;rcases Ayj t with⟨e1,e2⟩|⟨e1,e2⟩ <;> omega
    ·exact .inr t
structure Uv(v:List Ad)(F:List (Ab × Bool))(m m':Mp):Prop where
 cov:∀ S:Int->Prop,Cov (plV v) S (apM m)->Cov (plV v) S (apM m')
 fix:∀ i j,Fx F i j=true->(apM m i j≠none\/apM m j i≠none)->(apM m' i j≠none\/apM m' j i≠none)
 ne:m≠[]->m'≠[]
theorem Uv.refl{v F m}:Uv v F m m:=⟨fun _ h=>h,fun _ _ _ h=>h,fun h=>h⟩
theorem Uv.trans{v F m m' m''}(h:Uv v F m m')(k:Uv v F m' m''):Uv v F m m'':=⟨fun S h1=>k.cov S (h.cov S h1),fun i j h1 h2=>k.fix i j h1 (h.fix i j h1 h2),fun h1=>k.ne (h.ne h1)⟩
theorem Ata{F:List (Ab × Bool)}{i j:Int}:Fx F j i=Fx F i j:=by unfold Fx;rw[Int.min_comm,Int.max_comm]
theorem Apg{v F q s m}(hv:Ig v)(hn:v.length<=1024)(h:Oq v F (q++[s]) m)(hq:q.length<=5000000000):
  ∃ q' m',Dh (v,m,F,q++[s])=some (.inl (v,m',F,q'))/\Oq v F q' m'/\Uv v F m m'/\((m'=m/\q'=q)\/(phi (plV v) (hV v) v.length m'<phi (plV v) (hV v) v.length m/\q'.length=q.length+4)):=by
 obtain⟨k1,k2,k3⟩:=h.qn s s_;have es:pr2 s.a0 s.a1=s:=by
  obtain⟨x,y⟩:=s;unfold pr2;rw[Nc];simp only at k3 ⊢;omega
 have hw:w64 ((((q++[s]).length:Nat):Int)-1)=(q.length:Int):=by rw[length_append,length_singleton,Av oo oo];omega
 have hi:idx (q++[s]) (q.length:Int)=some s:=(As s_).trans s_;have ht:List.take (Int.toNat (q.length:Int)) (q++[s])=q:=s_;have e0:Dh (v,m,F,q++[s]) =
   (fun j18:List Ab × Bool->Option (Sum (List Ad × Mp × List (Ab × Bool) × List Ab) Am)=>if ((mget m s).isSome)=true then (if ((mget m ((⟨s.a1,s.a0⟩:Ab))).isSome)=true then (
    if (mget F s).getD false=true then (j18 (q,true))
    else (bnd (Vu (plV v s.a0) (plV v s.a1) (plV v ((mget m s).getD 0)) (plV v ((mget m ((⟨s.a1,s.a0⟩:Ab))).getD 0))) fun r169=>j18 (q,r169)))
   else (j18 (q,true))) else (j18 (q,true)))
   (fun s18=>if s18.2=true then (some (.inl (v,m,F,s18.1)))
    else (bnd (Jc (⟨v,m,F⟩:Am) s.a0 s.a1) fun r185=>
    if r185.2=true then (gd ((s18.1.length+4)*16<=140737488355328)<|
     some (.inl (r185.1.v,r185.1.apex,r185.1.fixed,s18.1++[pr2 s.a0 ((mget m s).getD 0),pr2 ((mget m s).getD 0) s.a1,pr2 s.a1 ((mget m ((⟨s.a1,s.a0⟩:Ab))).getD 0),pr2 ((mget m ((⟨s.a1,s.a0⟩:Ab))).getD 0) s.a0])))
    else (some (.inl (r185.1.v,r185.1.apex,r185.1.fixed,s18.1))))):=by
  unfold Dh;simp only[hw];rw[if_pos s_,hi,Ae,gd_t (by simp;omega),gd_t (Uo hn k1 k2),Ae,gd_t (Uo hn k2 k1),Ae,jn_d,ht]
  by_cases c1:(mget m s).isSome=true
  ·rw[if_pos c1,if_pos c1]
   by_cases c2:(mget m (⟨s.a1,s.a0⟩:Ab)).isSome=true
   ·rw[if_pos c2,if_pos c2,gd_t (Uo hn k1 k2),Ae];obtain⟨k,hk⟩:=Option.isSome_iff_exists.1 c1;obtain⟨l,hl⟩:=Option.isSome_iff_exists.1 c2;have hk':apM m s.a0 s.a1=some k:=hk;have vk:=(h.map.val hk').2.2;have vl:=(h.map.val (show apM m s.a1 s.a0=some l from hl)).2.2;rw[p_eq (b:=⟨v,m,F⟩) k1,Ae,p_eq (b:=⟨v,m,F⟩) k2,Ae,hk,hl];simp only[Option.getD_some];rw[p_eq (b:=⟨v,m,F⟩) vk,Ae,p_eq (b:=⟨v,m,F⟩) vl,Ae];rfl
   ·rw[if_neg c2,if_neg c2];rfl
  ·rw[if_neg c1,if_neg c1];rfl
 rw[e0];dsimp only;have pop:(∀ k l,apM m s.a0 s.a1=some k->apM m s.a1 s.a0=some l->Fx F s.a0 s.a1=true\/DH (plV v) (hV v) s.a0 s.a1 k l<0) ->
   ∃ q' m',some (Sum.inl (v,m,F,q))=some (Sum.inl (β:=Am) (v,m',F,q'))/\Oq v F q' m'/\Uv v F m m'/\((m'=m/\q'=q)\/(phi (plV v) (hV v) v.length m'<phi (plV v) (hV v) v.length m/\q'.length=q.length+4)):=
  fun hs=>⟨q,m,rfl,h.pop hs,.refl,.inl ⟨rfl,rfl⟩⟩
 by_cases c1:(mget m s).isSome=true
 ·obtain⟨k,hk⟩:=Option.isSome_iff_exists.1 c1;have hk':apM m s.a0 s.a1=some k:=hk;rw[if_pos c1]
  by_cases c2:(mget m (⟨s.a1,s.a0⟩:Ab)).isSome=true
  ·obtain⟨l,hl⟩:=Option.isSome_iff_exists.1 c2;have hl':apM m s.a1 s.a0=some l:=hl;rw[if_pos c2];have hF:Fx F s.a0 s.a1=(mget F s).getD false:=by
    show (mget F (pr2 s.a0 s.a1)).getD false=_;rw[es]
   by_cases c3:(mget F s).getD false=true
   ·rw[if_pos c3];exact pop fun _ _ _ _=>.inl (by rw[hF];exact c3)
   ·rw[if_neg c3,hk,hl];simp only[Option.getD_some];obtain⟨vi,vj,vk,ck⟩:=h.tri.ccw _ _ _ hk';obtain⟨_,_,vl,cl⟩:=h.tri.ccw _ _ _ hl';have c0:crs (plV v s.a0) (plV v s.a1) (plV v l)<0:=by rw[Cq];omega
    obtain⟨hleg,hne⟩:=Alb hv vi vj vk vl ck c0;have hsd:Int.sign (crs (plV v s.a0) (plV v s.a1) (plV v k))*Int.sign (crs (plV v s.a0) (plV v s.a1) (plV v l)) = -1:=by rw[Agr];exact .inr ⟨ck,c0⟩
    obtain⟨d1,d2,d3,d4⟩:=Ani hsd;rw[Ayp (hv.ok _ vi) (hv.ok _ vj) (hv.ok _ vk) (hv.ok _ vl) d1 d2 d3 d4,Ae]
    by_cases c4:legP (plV v s.a0) (plV v s.a1) (plV v k) (plV v l)
    ·rw[decide_eq_true c4,if_pos rfl];refine pop fun k' l' hk2 hl2=>.inr ?_
     rw[hk'] at hk2;rw[hl'] at hl2;cases hk2;cases hl2
     exact hleg.1 c4
    ·rw[decide_eq_false c4,if_neg s_];have hD:¬ DH (plV v) (hV v) s.a0 s.a1 k l<0:=fun g=>c4 (hleg.2 g)
     have Q:=As9 hv h.tri hk' hl' hD;have hs:Int.sign (crs (plV v k) (plV v l) (plV v s.a0))*Int.sign (crs (plV v k) (plV v l) (plV v s.a1)) = -1:=by
      rw[Agr];left;refine⟨?_,by rw[Ca];exact Q.c2⟩;have e:crs (plV v k) (plV v l) (plV v s.a0) = -crs (plV v s.a0) (plV v l) (plV v k):=by unfold crs;grind
      have:=Q.c1;omega
     rw[Ba3 (b:=⟨v,m,F⟩) hv hn h.map hk' hl',if_pos hs,Ae];simp only[if_true];rw[gd_t oo];obtain⟨n1,n2,n3,n4,n5,n6⟩:=Q.ne;refine⟨_,_,rfl,h.flip hv hk' hl' hD,⟨fun S hc=>?_,fun a b hF2 hab=>?_,fun _=>by simp[Aj0,putM,mput]⟩,.inr ⟨Ayi h.map.ok (Acx hv) Q oo,s_⟩⟩
     ·rw[Aj1 h.map.ok n1 n2 n3 n4 n5 n6];exact Q.cov hc
     ·rw[Aj1 h.map.ok n1 n2 n3 n4 n5 n6];have nf:∀ a b,Fx F a b=true->¬ ((a=s.a0/\b=s.a1)\/(a=s.a1/\b=s.a0)):=fun a b hab e=>by
       rcases e with⟨e1,e2⟩|⟨e1,e2⟩
       ·rw[e1,e2,hF] at hab;exact c3 hab
       ·rw[e1,e2,Ata,hF] at hab;exact c3 hab
      rcases hab with g | g
      ·left;intro e;rcases Agd e with t | t
       ·exact g t
       ·exact nf a b hF2 t
      ·right;intro e;rcases Agd e with t | t
       ·exact g t
       ·exact nf b a (by rw[Ata];exact hF2) t
  ·rw[if_neg c2];refine pop fun k' l' _ hl2=>?_
   exact absurd (by rw[show mget m (⟨s.a1,s.a0⟩:Ab)=some l' from hl2];rfl) c2
 ·rw[if_neg c1];refine pop fun k' l' hk2 _=>?_
  exact absurd (by rw[show mget m s=some k' from hk2];rfl) c1
theorem Aux{b:Am}(hv:Ig b.v)(hn:b.v.length<=1024)(hm:MapN b.v.length b.apex)(ht:Tri (plV b.v) (inN b.v.length) (apM b.apex)):
  ∃ m',Jp b=some ⟨b.v,m',b.fixed⟩/\Oq b.v b.fixed [] m'/\Uv b.v b.fixed b.apex m':=by
 have hsq:=Ag1 hn;have hl:=hm.len;have hf:∀ q,(Xr b.apex q).length<=1:=fun q=>by unfold Xr;split <;> simp
 have h0:Oq b.v b.fixed (Bc cmp2 (b.apex.flatMap (Xr b.apex))) b.apex:=by
  refine⟨hm,ht,fun s hs=>?_,fun i j k l hk hl=>.inl ?_⟩
  ·rw[Nk] at hs;obtain⟨q,hq,hs⟩:=mem_flatMap.1 hs;obtain⟨k1,k2,k3⟩:=hm.key q hq;unfold Xr at hs;split at hs
   ·rw[mem_singleton] at hs;subst hs;unfold inN at *;simp only;omega
   ·cases hs
  ·rw[Nk,mem_flatMap];have n1:=(ht.ne hk).1;rcases Int.lt_or_gt_of_ne n1 with c | c
   ·refine⟨(⟨i,j⟩,k),Md hk,?_⟩;unfold Xr pr2;rw[if_pos (.inl c)];exact mem_singleton.2 rfl
   ·refine⟨(⟨j,i⟩,l),Md hl,?_⟩;unfold Xr;rw[if_pos (.inl c),Zz];exact mem_singleton.2 rfl
 unfold Jp;rw[Awg hn hm,Ae];have hlen:(Bc cmp2 (b.apex.flatMap (Xr b.apex))).length<=1048576:=by
  rw[Cb];have:=Ob hf b.apex;omega
 have hphi:phi (plV b.v) (hV b.v) b.v.length b.apex<=1073741824:=by
  have h1:=Ayh (P:=plV b.v) (H:=hV b.v) (n:=b.v.length) b.apex;have h2:=Nat.mul_le_mul (show b.apex.length<=1048576 by omega) hn;omega
 have:=Be (B:=Dh) (fun s=>4*phi (plV b.v) (hV b.v) b.v.length s.2.1+s.2.2.2.length)
  (fun s=>s.1=b.v/\s.2.2.1=b.fixed/\Oq b.v b.fixed s.2.2.2 s.2.1/\Uv b.v b.fixed b.apex s.2.1/\4*phi (plV b.v) (hV b.v) b.v.length s.2.1+s.2.2.2.length<=5000000000)
  (fun t=>∃ m',t=⟨b.v,m',b.fixed⟩/\Oq b.v b.fixed [] m'/\Uv b.v b.fixed b.apex m') (fun s hs=>by
   obtain⟨v,m,F,q⟩:=s;obtain⟨e1,e2,h1,h2,h3⟩:=hs;simp only at e1 e2 h1 h2 h3;subst e1;subst e2
   by_cases hq:q=[]
   ·subst hq;right;refine⟨⟨b.v,m,b.fixed⟩,?_,m,rfl,h1,h2⟩;unfold Dh;rw[if_neg s_]
   ·left;obtain⟨q0,s,rfl⟩:∃ q0 s,q=q0++[s]:=⟨q.dropLast,q.getLast hq,(dropLast_concat_getLast hq).symm⟩;rw[length_append,length_singleton] at h3;obtain⟨q',m',h4,h5,h6,h7⟩:=Apg hv hn h1 oo;refine⟨_,h4,⟨rfl,rfl,h5,h2.trans h6,?_⟩,?_⟩
    ·dsimp only;rcases h7 with⟨rfl,rfl⟩|⟨g1,g2⟩ <;> omega
    ·dsimp only;rw[length_append,length_singleton];rcases h7 with⟨rfl,rfl⟩|⟨g1,g2⟩ <;> omega)
  (b.v,b.apex,b.fixed,Bc cmp2 (b.apex.flatMap (Xr b.apex))) ⟨rfl,rfl,h0,.refl,by dsimp only;omega⟩
 obtain⟨t,h1,m',rfl,h2,h3⟩:=this;rw[h1,Ae];exact⟨m',rfl,h2,h3⟩
theorem Aep{σ τ:Type}{B:σ->Option (Sum σ τ)}(st:Nat->σ)(t:τ):∀ (N:Nat),(∀ k,k<N->B (st k)=some (.inl (st (k+1))))->B (st N)=some (.inr t)->lfix B (st 0)=some t:=by
 intro N h he;have key:∀ j k,j+k=N->lfix B (st k)=some t:=by
  intro j
  induction j with
  | zero=>
   intro k hk;rw[Ba,show k=N by omega,he]
  | succ j ih=>
   intro k hk;rw[Ba,h k oo];exact ih (k+1) oo
 exact key N 0 oo
theorem Ba5{v:List Ad}{i j:Nat}(hi:i<v.length)(hj:j<v.length):befV v[i] v[j]↔befP (plV v (i:Int)) (plV v (j:Int)):=by
 unfold plV;rw[As hi,As hj];rfl
theorem Akv{v:List Ad}(hv:Ig v):Fe v:=by
 unfold Fe;rw[pairwise_iff_getElem];intro i j hi hj hij hs;have:=hv.dist (i:Int) (j:Int) ⟨oo,oo⟩ ⟨oo,oo⟩ (by
  unfold plV Cy;rw[As hi,As hj];exact hs)
 omega
structure Qx(v:List Ad)(l:List Int):Prop where
 perm:l.Perm (inds v.length)
 ord:l.Pairwise fun i j=>befP (plV v i) (plV v j)
theorem Aph{v:List Ad}(hv:Ig v)(hn:v.length<=1024):∃ l,Vs v=some l/\Qx v l:=by
 have hd:=Akv hv;have h0:lfix (Th v) (([]:List Int),0)=some (inds v.length):=by
  refine Aep (fun k=>(inds k,(k:Int))) _ v.length (fun k hk=>?_) ?_
  ·unfold Th;rw[if_pos (by simp only;omega),gd_t (by simp only[Zp];omega),Az oo];unfold inds;rw[range_succ,map_append];rfl
  ·unfold Th;rw[if_neg (by simp only;omega)]
 have hok:∀ x∈inds v.length,okIx v x:=fun x hx=>Wb.1 hx
 refine⟨Bc (cmpR v) (inds v.length),?_,Ex _ _,?_⟩
 ·unfold Vs;rw[jn_d,h0,Ae];exact gd_t ⟨by rw[Zp];omega,hok,hd⟩
 ·have hs:=Nj (totR hd) hok;have hp:=Ex (cmpR v) (inds v.length);have hnd:(Bc (cmpR v) (inds v.length)).Nodup:=hp.nodup_iff.2 Xp;unfold List.Nodup at hnd;have:=hs.and hnd;refine List.Pairwise.imp_of_mem ?_ this;rintro i j hi hj ⟨h1,h2⟩;obtain⟨a,ha,rfl,_⟩:=Lw (hok i (hp.mem_iff.1 hi));obtain⟨b,hb,rfl,_⟩:=Lw (hok j (hp.mem_iff.1 hj));rw[<- Ba5 ha hb]
  by_cases c:befV v[a] v[b]
  ·exact c
  ·rw[Xf hb ha] at h1;exfalso;apply h2;have:=(totR hd).tot (a:Int) (b:Int) ⟨oo,oo⟩ ⟨oo,oo⟩ (by rw[Xf ha hb];exact c) (by rw[Xf hb ha];exact h1);exact this
noncomputable def putAll(m:Mp)(p:Int)(l:List Ab):Mp:=l.foldl (fun m s=>putM m s.a0 s.a1 p) m
theorem MapN.putAll{n:Nat}{p:Int}(hp:inN n p):∀ {l:List Ab} {m:Mp},MapN n m->(∀ s∈l,inN n s.a0/\inN n s.a1)->MapN n (putAll m p l)
 | [],_,h,_=>h
 | s::r,m,h,hs=>MapN.putAll hp (l:=r) (h.putM (hs s mem_cons_self).1 (hs s mem_cons_self).2 hp) fun x hx=>hs x (mem_cons_of_mem _ hx)
variable {P:Int->Ac} {V S:Int->Prop} {R:Int->Int->Prop} {p:Int}
theorem Al3{m:Mp}(hm:Dq m)(h:Adds P V S (apM m) R p):∀ (l:List Ab),(∀ s∈l,Vis P R p s.a0 s.a1)->Dq (putAll m p l) /\
  ∀ i j k,apM (putAll m p l) i j=some k↔apM m i j=some k\/((⟨i,j⟩∈l/\k=p)\/(⟨k,i⟩∈l/\j=p)\/(⟨j,k⟩∈l/\i=p)):=by
 intro l;generalize hr:l.reverse=r;have hl:l=r.reverse:=by rw[<- hr,reverse_reverse]
 clear hr;subst hl
 induction r with
 | nil=>intro _;exact⟨hm,fun i j k=>by simp[putAll]⟩
 | cons s r ih=>
  intro hs;have hs':∀ x∈r.reverse,Vis P R p x.a0 x.a1:=fun x hx=>hs x (by simp at hx ⊢;exact .inl hx)
  have hv:=hs s s_;obtain⟨i1,i2⟩:=ih hs';obtain⟨sx,sy,nxy,_⟩:=h.r1 _ _ hv.1;have np:=h.np;have e:putAll m p (s::r).reverse=putM (putAll m p r.reverse) s.a0 s.a1 p:=by
   unfold putAll;rw[reverse_cons,foldl_append];rfl
  rw[e];refine⟨((i1.put _ _).put _ _).put _ _,fun i j k=>?_⟩;rw[Ac8 i1];have visS:∀ {x y:Int},(⟨x,y⟩:Ab)∈r.reverse->Vis P R p x y:=fun hx=>hs' _ hx
  have k1:∀ c,apM (putAll m p r.reverse) p s.a0=some c->c=s.a1:=fun c hc=>by
   rcases (i2 _ _ _).1 hc with g | ⟨g,_⟩|⟨g,_⟩|⟨g,_⟩
   ·exact absurd (h.used _ _ _ g) np
   ·exact absurd (h.r1 _ _ (visS g).1).1 np
   ·exact absurd (h.r1 _ _ (visS g).1).2.1 np
   ·exact h.uniq2 (visS g) hv
  have k2:∀ c,apM (putAll m p r.reverse) s.a1 p=some c->c=s.a0:=fun c hc=>by
   rcases (i2 _ _ _).1 hc with g | ⟨g,_⟩|⟨g,_⟩|⟨g,e⟩
   ·exact absurd (h.used _ _ _ (h.tri.rot _ _ _ g)) np
   ·exact absurd (h.r1 _ _ (visS g).1).2.1 np
   ·exact h.uniq (visS g) hv
   ·exact absurd (e ▸ sy) np
  have k3:∀ c,apM (putAll m p r.reverse) s.a0 s.a1=some c->c=p:=fun c hc=>by
   rcases (i2 _ _ _).1 hc with g | ⟨_,g⟩|⟨_,e⟩|⟨_,e⟩
   ·rw[h.r4 _ _ hv.1] at g;cases g
   ·exact g
   ·exact absurd (e ▸ sy) np
   ·exact absurd (e ▸ sx) np
  have mem:∀ x y:Int,(⟨x,y⟩:Ab)∈(s::r).reverse↔(x=s.a0/\y=s.a1)\/(⟨x,y⟩:Ab)∈r.reverse:=fun x y=>by
   obtain⟨s0,s1⟩:=s;rw[reverse_cons,mem_append,mem_singleton,Nc];exact Or.comm
  rw[mem,mem,mem];have i2':=i2 i j k
  by_cases c1:i=p/\j=s.a0
  ·rw[if_pos c1];obtain⟨rfl,rfl⟩:=c1;constructor
   ·intro hk;cases hk
    exact .inr (.inr (.inr ⟨.inl ⟨rfl,rfl⟩,rfl⟩))
   ·rintro (g | ⟨⟨e1,_⟩ | g,e⟩|⟨⟨_,e2⟩ | g,e⟩|⟨⟨_,e2⟩ | g,_⟩)
    ·exact absurd (h.used _ _ _ g) np
    ·exact absurd (e1 ▸ sx) np
    ·exact absurd (h.r1 _ _ (visS g).1).1 np
    ·exact absurd (e2 ▸ sy) np
    ·exact absurd (h.r1 _ _ (visS g).1).2.1 np
    ·rw[e2]
    ·rw[h.uniq2 hv (visS g)]
  rw[if_neg c1]
  by_cases c2:i=s.a1/\j=p
  ·rw[if_pos c2];obtain⟨rfl,rfl⟩:=c2;constructor
   ·intro hk;cases hk
    exact .inr (.inr (.inl ⟨.inl ⟨rfl,rfl⟩,rfl⟩))
   ·rintro (g | ⟨⟨_,e1⟩ | g,e⟩|⟨⟨e1,_⟩ | g,e⟩|⟨⟨e1,_⟩ | g,e⟩)
    ·exact absurd (h.used _ _ _ (h.tri.rot _ _ _ g)) np
    ·exact absurd (e1 ▸ sy) np
    ·exact absurd (h.r1 _ _ (visS g).1).2.1 np
    ·rw[e1]
    ·rw[h.uniq hv (visS g)]
    ·exact absurd (e ▸ sy) np
    ·exact absurd (e ▸ sy) np
  rw[if_neg c2]
  by_cases c3:i=s.a0/\j=s.a1
  ·rw[if_pos c3];obtain⟨rfl,rfl⟩:=c3;constructor
   ·intro hk;cases hk
    exact .inr (.inl ⟨.inl ⟨rfl,rfl⟩,rfl⟩)
   ·rintro (g | ⟨_,e⟩|⟨_,e⟩|⟨_,e⟩)
    ·rw[h.r4 _ _ hv.1] at g;cases g
    ·rw[e]
    ·exact absurd (e ▸ sy) np
    ·exact absurd (e ▸ sx) np
  rw[if_neg c3,i2'];constructor
  ·rintro (g | ⟨g,e⟩|⟨g,e⟩|⟨g,e⟩)
   ·exact .inl g
   ·exact .inr (.inl ⟨.inr g,e⟩)
   ·exact .inr (.inr (.inl ⟨.inr g,e⟩))
   ·exact .inr (.inr (.inr ⟨.inr g,e⟩))
  ·rintro (g | ⟨g | g,e⟩|⟨g | g,e⟩|⟨g | g,e⟩)
   ·exact .inl g
   ·exact absurd g c3
   ·exact .inr (.inl ⟨g,e⟩)
   ·exact absurd ⟨g.2,e⟩ c2
   ·exact .inr (.inr (.inl ⟨g,e⟩))
   ·exact absurd ⟨e,g.1⟩ c1
   ·exact .inr (.inr (.inr ⟨g,e⟩))
end Go.Proofs.YthlkpgdfifnagaaGreat
namespace Go.Proofs.YthlkpgdfifnagaaGreat
open Go Go.RowKit Tryz List
theorem Akw{a b c q:Ac}(h1:befP a b)(h2:befP b c)(h0:crs a b c=0)(hq:crs a b q<0):crs b c q<0:=by
 have m:∀ x y z:Ac,crs ⟨x.X,-x.Y⟩ ⟨y.X,-y.Y⟩ ⟨z.X,-z.Y⟩ = -crs x y z:=fun x y z=>by unfold crs;grind
 have e1:crs b c q*(b.X-a.X)=crs a b q*(c.X-b.X)-(q.X-b.X)*crs a b c:=by unfold crs;grind
 have e2:crs b c q*(b.Y-a.Y)=crs a b q*(c.Y-b.Y)-(q.Y-b.Y)*crs a b c:=by unfold crs;grind
 have e3:(b.X-a.X)*(c.Y-b.Y)-(b.Y-a.Y)*(c.X-b.X)=crs a b c:=by unfold crs;grind
 rw[h0,Int.mul_zero,Int.sub_zero] at e1 e2;rw[h0] at e3;have fin:∀ x w z:Int,x*w=crs a b q*z->0<w->0<z->x<0:=fun x w z e hw hz=>by
  have:=Int.mul_neg_of_neg_of_pos hq hz;rcases Int.lt_or_le x 0 with k | k
  ·exact k
  ·have:=Int.mul_nonneg k (Int.le_of_lt hw);omega
 by_cases g:a.X<b.X
 ·have hc:b.X<c.X:=by
   rcases Int.lt_or_le b.X c.X with k | k
   ·exact k
   ·have hx:c.X=b.X:=by unfold befP at h2;omega
    have hy:b.Y<c.Y:=by unfold befP at h2;omega
    have z:c.X-b.X=0:=oo;rw[z,Int.mul_zero] at e3;have:=Int.mul_pos (show 0<b.X-a.X by omega) (show 0<c.Y-b.Y by omega);omega
  exact fin _ _ _ e1 oo oo
 ·have hx:a.X=b.X:=by unfold befP at h1;omega
  have hy:a.Y<b.Y:=by unfold befP at h1;omega
  have hc:b.X=c.X:=by
   have z:b.X-a.X=0:=oo;rw[z,Int.zero_mul] at e3;have:(b.Y-a.Y)*(c.X-b.X)=0:=oo;rcases Int.mul_eq_zero.1 this with k | k <;> omega
  have hy2:b.Y<c.Y:=by unfold befP at h2;omega
  exact fin _ _ _ e2 oo oo
section
variable {v:List Ad} {l:List Int}
theorem Qx.len(hr:Qx v l):l.length=v.length:=by rw[hr.perm.length_eq,Zp]
theorem Qx.val(hr:Qx v l){i:Int}:i∈l↔inN v.length i:=by rw[hr.perm.mem_iff,Wb]
theorem Qx.lt(hr:Qx v l){a b:Nat}(ha:a<l.length)(hb:b<l.length)(h:a<b):befP (plV v l[a]) (plV v l[b]):=(pairwise_iff_getElem.1 hr.ord) a b ha hb h
theorem Qx.inj(hr:Qx v l){a b:Nat}(ha:a<l.length)(hb:b<l.length)(h:l[a]=l[b]):a=b:=by
 rcases Nat.lt_trichotomy a b with c | c | c
 ·have:=hr.lt ha hb c;rw[h] at this;exact (Vk this this).elim
 ·exact c
 ·have:=hr.lt hb ha c;rw[h] at this;exact (Vk this this).elim
def Ot(l:List Int)(k:Nat)(i:Int):Prop:=∃ (j:Nat) (hj:j<l.length),j<k/\i=l[j]
structure Al4(v:List Ad)(l:List Int)(k:Nat)(m:Mp):Prop where
 map:MapN v.length m
 tri:Tri (plV v) (inN v.length) (apM m)
 cov:Cov (plV v) (Ot l k) (apM m)
 used:∀ i j c,apM m i j=some c->Ot l k i
theorem Ot.succ{k:Nat}(hk:k<l.length){i:Int}:Ot l (k+1) i↔Ot l k i\/i=l[k]:=by
 constructor
 ·rintro⟨j,hj,h1,rfl⟩
  by_cases e:j=k
  ·subst e;exact .inr rfl
  ·exact .inl ⟨j,hj,oo,rfl⟩
 ·rintro (⟨j,hj,h1,rfl⟩ | rfl)
  ·exact⟨j,hj,oo,rfl⟩
  ·exact⟨k,hk,oo,rfl⟩
theorem Qx.place(hr:Qx v l){k:Nat}(hk:k<l.length):(∀ i,Ot l k i->inN v.length i)/\inN v.length l[k]/\¬ Ot l k l[k]/\(∀ i,Ot l k i->befP (plV v i) (plV v l[k]))/\(∀ i,inN v.length i->¬ Ot l k i->i≠l[k]->befP (plV v l[k]) (plV v i)):=by
 refine⟨fun i hi=>?_,hr.val.1 (getElem_mem hk),fun hp=>?_,fun i hi=>?_,fun i hi h1 h2=>?_⟩
 ·obtain⟨j,hj,_,rfl⟩:=hi;exact hr.val.1 (getElem_mem hj)
 ·obtain⟨j,hj,h1,e⟩:=hp;have:=hr.inj hk hj e;omega
 ·obtain⟨j,hj,h1,rfl⟩:=hi;exact hr.lt hj hk h1
 ·obtain⟨j,hj,rfl⟩:=getElem_of_mem (hr.val.2 hi);refine hr.lt hk hj ?_;rcases Nat.lt_trichotomy j k with c | c | c
  ·exact absurd ⟨j,hj,c,rfl⟩ h1
  ·subst c;exact absurd rfl h2
  ·exact c
def visB(v:List Ad)(p:Int)(s:Ab):Bool:=decide (0<crs (plV v s.a0) (plV v s.a1) (plV v p))
theorem Bd6(hv:Ig v)(hn:v.length<=1024){F:List (Ab × Bool)}{b:Am}{rl:List Ab}{m:Mp}(hm:MapN v.length m){p:Int}(hp:inN v.length p)(hrl:∀ s∈rl,inN v.length s.a0/\inN v.length s.a1)(hlen:rl.length<=2000000):
  lfix (Dg (b,rl) p) (v,m,F,0)=some (v,putAll m p (rl.filter (visB v p)),F):=by
 have hM:∀ k,MapN v.length (putAll m p ((rl.take k).filter (visB v p))):=fun k=>hm.putAll hp fun s hs=>hrl s (mem_of_mem_take (mem_filter.1 hs).1)
 have:=Aep (B:=Dg (b,rl) p) (fun k=>(v,putAll m p ((rl.take k).filter (visB v p)),F,(k:Int))) (v,putAll m p (rl.filter (visB v p)),F) rl.length (fun k hk=>?_) ?_
 ·simpa[putAll] using this
 ·unfold Dg;have hs:=hrl rl[k] (getElem_mem hk);have e:(rl.take (k+1)).filter (visB v p)=(rl.take k).filter (visB v p)++if visB v p rl[k] then [rl[k]] else []:=by
   rw[take_succ_eq_append_getElem hk,filter_append,filter_cons,filter_nil]
  simp only;rw[if_pos oo,jn_d,As hk,Ae,p_eq (b:=⟨v,_,F⟩) hs.1,Ae,p_eq (b:=⟨v,_,F⟩) hs.2,Ae,p_eq (b:=⟨v,_,F⟩) hp,Ae,turn_eq (hv.ok _ hs.1) (hv.ok _ hs.2) (hv.ok _ hp),Ae,Az oo,e]
  by_cases c:0<crs (plV v rl[k].a0) (plV v rl[k].a1) (plV v p)
  ·rw[Int.sign_eq_one_of_pos c,if_pos oo,Aj2 (b:=⟨v,putAll m p ((rl.take k).filter (visB v p)),F⟩) hn (hM k) hs.1 hs.2 hp,Ae,if_pos (by unfold visB;simpa using c)];dsimp only;unfold putAll;rw[foldl_append];rfl
  ·rw[if_neg (fun g=>c (by
    rcases Int.lt_trichotomy (crs (plV v rl[k].a0) (plV v rl[k].a1) (plV v p)) 0 with t | t | t
    ·rw[Int.sign_eq_neg_one_of_neg t] at g;omega
    ·rw[t] at g;simp at g
    ·exact t)),if_neg (by unfold visB;simpa using c),append_nil]
 ·unfold Dg;simp only;rw[if_neg oo,take_length]
theorem Al4.step(hv:Ig v)(hn:v.length<=1024)(hr:Qx v l){F:List (Ab × Bool)}{k:Nat}(hk:k<l.length){m:Mp}(h:Al4 v l k m):
  ∃ m',(bnd (Ia ⟨v,m,F⟩) fun r498=>bnd (lfix (Dg r498 l[k]) (r498.1.v,r498.1.apex,r498.1.fixed,0)) fun t=>some t)=some (v,m',F)/\Al4 v l (k+1) m'/\(m≠[]->m'≠[]):=by
 obtain⟨q1,q2,q3,q4,q5⟩:=hr.place hk;have hA:=Awf h.tri h.cov h.used q1 q2 q3 q4 q5;have hsq:=Ag1 hn;have hl:=h.map.len;have hf:∀ q,(rimF m q).length<=1:=fun q=>by unfold rimF;split <;> simp
 have hmem:∀ x y:Int,(⟨x,y⟩:Ab)∈m.flatMap (rimF m)↔Rim (apM m) x y:=fun x y=>by
  rw[mem_flatMap];constructor
  ·rintro⟨q,hq,hx⟩;unfold rimF at hx;split at hx
   ·cases hx
   ·rename_i hn;rw[mem_singleton] at hx;obtain⟨⟨a,b⟩,c⟩:=q;unfold rev2 at hx hn;rw[Nc] at hx;simp only at hx hn;obtain⟨rfl,rfl⟩:=hx;refine⟨⟨c,Vy h.map.ok hq⟩,?_⟩;simpa[apM] using hn
  ·rintro⟨⟨c,hc⟩,hn⟩;refine⟨(⟨y,x⟩,c),Md hc,?_⟩;unfold rimF rev2;rw[if_neg (by rw[show mget m (⟨x,y⟩:Ab)=none from hn];simp)];exact mem_singleton.2 rfl
 have hrl:∀ s∈Bc cmp2 (m.flatMap (rimF m)),inN v.length s.a0/\inN v.length s.a1:=fun s hs=>by
  rw[Nk] at hs;obtain⟨x,y⟩:=s;obtain⟨⟨c,hc⟩,_⟩:=(hmem x y).1 hs;have:=h.map.val hc;exact⟨this.2.1,this.1⟩
 have hlen:(Bc cmp2 (m.flatMap (rimF m))).length<=2000000:=by
  rw[Cb];have:=Ob hf m;omega
 rw[Bcv (b:=⟨v,m,F⟩) hn h.map,Ae];dsimp only;rw[Bd6 hv hn h.map q2 hrl hlen,Ae];have hvis:∀ s∈(Bc cmp2 (m.flatMap (rimF m))).filter (visB v l[k]),Vis (plV v) (Rim (apM m)) l[k] s.a0 s.a1:=fun s hs=>by
  obtain⟨h1,h2⟩:=mem_filter.1 hs;rw[Nk] at h1;exact⟨(hmem s.a0 s.a1).1 h1,by unfold visB at h2;simpa using h2⟩
 have hmv:∀ x y:Int,(⟨x,y⟩:Ab)∈(Bc cmp2 (m.flatMap (rimF m))).filter (visB v l[k])↔Vis (plV v) (Rim (apM m)) l[k] x y:=fun x y=>by
  constructor
  ·exact fun hs=>hvis _ hs
  ·rintro⟨h1,h2⟩;exact mem_filter.2 ⟨Nk.2 ((hmem x y).2 h1),by unfold visB;simpa using h2⟩
 obtain⟨o1,o2⟩:=Al3 h.map.ok hA _ hvis;have hN:∀ i j c,apM (putAll m l[k] ((Bc cmp2 (m.flatMap (rimF m))).filter (visB v l[k]))) i j=some c↔apM m i j=some c\/New (plV v) (Rim (apM m)) l[k] i j c:=fun i j c=>by
  rw[o2,hmv,hmv,hmv];rfl
 refine⟨_,rfl,⟨?_,hA.tri' hN,?_,?_⟩,fun hne=>?_⟩
 ·exact h.map.putAll q2 fun s hs=>hrl s (mem_filter.1 hs).1
 ·have:=hA.cov' hN h.cov;intro i j c hc hn d hd;exact this i j c hc hn d ((Ot.succ hk).1 hd)
 ·intro i j c hc;exact (Ot.succ hk).2 (hA.used' hN i j c hc)
 ·obtain⟨q,hq⟩:=exists_mem_of_ne_nil m hne;intro e;obtain⟨⟨a,b⟩,c⟩:=q;have hc:apM m a b=some c:=Vy h.map.ok hq;have:=(hN a b c).2 (.inl hc);rw[e] at this;cases this
end
def Aj3(v:List Ad):Prop:=∀ i j k,inN v.length i->inN v.length j->inN v.length k->crs (plV v i) (plV v j) (plV v k)=0
section
variable {v:List Ad} {l:List Int}
theorem Bfd(hv:Ig v)(hn:v.length<=1024)(hr:Qx v l)(b:Am)(hb:b.v=v):∃ n0:Nat,lfix (Hj l b) 2=some (n0:Int)/\2<=n0/\(∀ k,2<=k->k<n0->∃ (h0:0<l.length) (h1:1<l.length) (hk:k<l.length),crs (plV v l[0]) (plV v l[1]) (plV v l[k])=0) /\
  (∀ (h0:0<l.length) (h1:1<l.length) (hk:n0<l.length),crs (plV v l[0]) (plV v l[1]) (plV v l[n0])≠0)/\(n0<=l.length\/n0=2):=by
 have hlen:=hr.len;have:=Be (B:=Hj l b) (fun s=>l.length-s.toNat) (fun s=>∃ k:Nat,s=(k:Int)/\2<=k/\(k<=l.length\/k=2)/\∀ j,2<=j->j<k->∃ (h0:0<l.length) (h1:1<l.length) (hk:j<l.length),crs (plV v l[0]) (plV v l[1]) (plV v l[j])=0)
  (fun t=>∃ n0:Nat,t=(n0:Int)/\2<=n0/\(∀ k,2<=k->k<n0->∃ (h0:0<l.length) (h1:1<l.length) (hk:k<l.length),crs (plV v l[0]) (plV v l[1]) (plV v l[k])=0) /\
   (∀ (h0:0<l.length) (h1:1<l.length) (hk:n0<l.length),crs (plV v l[0]) (plV v l[1]) (plV v l[n0])≠0)/\(n0<=l.length\/n0=2)) (fun s hs=>by
   obtain⟨k,rfl,h2,h3,h4⟩:=hs;unfold Hj;rw[jn_d]
   by_cases c:k<l.length
   ·have h0:0<l.length:=oo;have h1:1<l.length:=oo;have i0:idx l 0=some l[0]:=As (j:=0) h0;have i1:idx l 1=some l[1]:=As (j:=1) h1;have v0:=hr.val.1 (getElem_mem h0);have v1:=hr.val.1 (getElem_mem h1);have vk:=hr.val.1 (getElem_mem c);rw[<- hb] at v0 v1 vk;rw[if_pos oo,i0,Ae,i1,Ae,As c,Ae,p_eq v0,Ae,p_eq v1,Ae,p_eq vk,Ae,hb];rw[hb] at v0 v1 vk;rw[turn_eq (hv.ok _ v0) (hv.ok _ v1) (hv.ok _ vk),Ae]
    by_cases z:crs (plV v l[0]) (plV v l[1]) (plV v l[k])=0
    ·left;rw[decide_eq_true (by rw[z];rfl)];refine⟨((k+1:Nat):Int),?_,⟨k+1,rfl,oo,.inl oo,fun j hj hjk=>?_⟩,oo⟩
     ·dsimp only;rw[if_pos rfl,Az oo]
     ·by_cases e:j=k
      ·subst e;exact⟨h0,h1,c,z⟩
      ·exact h4 j hj oo
    ·right;rw[decide_eq_false (by rwa [Int.sign_eq_zero_iff_zero])];exact⟨(k:Int),rfl,k,rfl,h2,h4,fun _ _ _=>z,h3⟩
   ·right;rw[if_neg oo];exact⟨(k:Int),rfl,k,rfl,h2,h4,fun _ _ hk=>absurd hk c,h3⟩) 2 ⟨2,rfl,oo,.inr rfl,fun j h1 h2=>oo⟩
 obtain⟨t,h1,n0,rfl,h2⟩:=this;exact⟨n0,h1,h2⟩
structure Fan(v:List Ad)(l:List Int)(n0:Nat):Prop where
 two:2<=n0
 lt:n0<l.length
 col:∀ i j k,Ot l n0 i->Ot l n0 j->Ot l n0 k->crs (plV v i) (plV v j) (plV v k)=0
 off:crs (plV v l[0]) (plV v l[1]) (plV v l[n0])≠0
def fanS(v:List Ad)(l:List Int)(n0 i:Nat):Ab:=if 0<crs (plV v (l.getD i 0)) (plV v (l.getD (i+1) 0)) (plV v (l.getD n0 0)) then ⟨l.getD i 0,l.getD (i+1) 0⟩ else ⟨l.getD (i+1) 0,l.getD i 0⟩
def fanL(v:List Ad)(l:List Int)(n0 k:Nat):List Ab:=(List.range k).map (fanS v l n0)
theorem Pn{l:List Int}{i:Nat}(h:i<l.length):l.getD i 0=l[i]:=by simp[h]
theorem Fan.place(hr:Qx v l){n0:Nat}(hf:Fan v l n0){i:Nat}(h:i<n0):Ot l n0 (l.getD i 0):=by
 have:=hf.lt;exact⟨i,oo,h,Pn oo⟩
theorem Fan.bef(hr:Qx v l){n0:Nat}(hf:Fan v l n0){i j:Nat}(h:i<j)(hj:j<n0):befP (plV v (l.getD i 0)) (plV v (l.getD j 0)):=by
 have:=hf.lt;rw[Pn (show i<l.length by omega),Pn (show j<l.length by omega)];exact hr.lt oo oo h
theorem Bfe(hv:Ig v)(hn:v.length<=1024)(hr:Qx v l){n0:Nat}(hf:Fan v l n0){F:List (Ab × Bool)}:
  lfix (Fb (n0:Int) l) (v,[],F,0)=some (v,putAll [] (l.getD n0 0) (fanL v l n0 (n0-1)),F):=by
 have h2:=hf.two;have hlt:=hf.lt;have hlen:=hr.len;have val:∀ i,i<l.length->inN v.length (l.getD i 0):=fun i hi=>by rw[Pn hi];exact hr.val.1 (getElem_mem hi)
 have hM:∀ k,k<=n0-1->MapN v.length (putAll [] (l.getD n0 0) (fanL v l n0 k)):=fun k hk=>by
  refine MapN.putAll (val n0 hlt) ⟨List.Pairwise.nil,fun q hq=>by cases hq⟩ fun s hs=>?_
  obtain⟨i,hi,rfl⟩:=mem_map.1 hs;rw[mem_range] at hi;unfold fanS;split
  ·exact⟨val _ oo,val _ oo⟩
  ·exact⟨val _ oo,val _ oo⟩
 refine Aep (B:=Fb (n0:Int) l) (fun k=>(v,putAll [] (l.getD n0 0) (fanL v l n0 k),F,(k:Int))) (v,putAll [] (l.getD n0 0) (fanL v l n0 (n0-1)),F) (n0-1) (fun k hk=>?_) ?_
 ·unfold Fb;simp only;rw[Az oo,if_pos oo,jn_d,As (show k<l.length by omega),Ae,As (show k+1<l.length by omega),Ae,As hlt,Ae];have v0:=val k oo;have v1:=val (k+1) oo;have vp:=val n0 hlt;have e:putAll [] (l.getD n0 0) (fanL v l n0 (k+1))=putM (putAll [] (l.getD n0 0) (fanL v l n0 k)) (fanS v l n0 k).a0 (fanS v l n0 k).a1 (l.getD n0 0):=by
   unfold putAll fanL;rw[range_succ,map_append,foldl_append];rfl
  rw[e];unfold fanS;rw[Pn (show k<l.length by omega)] at v0 ⊢;rw[Pn (show k+1<l.length by omega)] at v1 ⊢;rw[Pn hlt] at vp ⊢;have hM':=hM k oo;rw[Pn hlt] at hM';rw[p_eq (b:=⟨v,_,F⟩) v0,Ae,p_eq (b:=⟨v,_,F⟩) v1,Ae,p_eq (b:=⟨v,_,F⟩) vp,Ae,turn_eq (hv.ok _ v0) (hv.ok _ v1) (hv.ok _ vp),Ae]
  by_cases c:0<crs (plV v l[k]) (plV v l[k+1]) (plV v l[n0])
  ·rw[Int.sign_eq_one_of_pos c,if_pos oo,if_pos c,Ae,Ae,Ae,Aj2 (b:=⟨v,putAll [] l[n0] (fanL v l n0 k),F⟩) hn hM' v0 v1 vp,Ae]
  ·rw[if_neg (fun g=>c (by
    rcases Int.lt_trichotomy (crs (plV v l[k]) (plV v l[k+1]) (plV v l[n0])) 0 with t | t | t
    ·rw[Int.sign_eq_neg_one_of_neg t] at g;omega
    ·rw[t] at g;simp at g
    ·exact t)),if_neg c,Ae,Ae,Ae,Aj2 (b:=⟨v,putAll [] l[n0] (fanL v l n0 k),F⟩) hn hM' v1 v0 vp,Ae]
 ·unfold Fb;simp only;rw[Az oo,if_neg oo]
theorem Fan.swept(hv:Ig v)(hn:v.length<=1024)(hr:Qx v l){n0:Nat}(hf:Fan v l n0):Al4 v l (n0+1) (putAll [] (l.getD n0 0) (fanL v l n0 (n0-1)))/\putAll [] (l.getD n0 0) (fanL v l n0 (n0-1))≠[]:=by
 have h2:=hf.two;have hlt:=hf.lt;have hlen:=hr.len;have val:∀ i,i<l.length->inN v.length (l.getD i 0):=fun i hi=>by rw[Pn hi];exact hr.val.1 (getElem_mem hi)
 obtain⟨q1,q2,q3,q4,q5⟩:=hr.place hlt;rw[<- Pn hlt] at q2 q3 q4 q5;have hoff:=hf.off;rw[<- Pn (show 0<l.length by omega),<- Pn (show 1<l.length by omega),<- Pn hlt] at hoff;generalize hp:l.getD n0 0=p at *;have he:∀ i j,apM [] i j=none:=fun i j=>rfl
 have hS:∀ i,Ot l n0 i↔∃ k,k<n0/\i=l.getD k 0:=fun i=>by
  constructor
  ·rintro⟨j,hj,h1,rfl⟩;exact⟨j,h1,(Pn hj).symm⟩
  ·rintro⟨k,hk,rfl⟩;exact hf.place hr hk
 have same:∀ i,i+1<n0->(0<crs (plV v (l.getD 0 0)) (plV v (l.getD 1 0)) (plV v p)->0<crs (plV v (l.getD i 0)) (plV v (l.getD (i+1) 0)) (plV v p)) /\
   (crs (plV v (l.getD 0 0)) (plV v (l.getD 1 0)) (plV v p)<0->crs (plV v (l.getD i 0)) (plV v (l.getD (i+1) 0)) (plV v p)<0):=by
  intro i
  induction i with
  | zero=>exact fun _=>⟨fun h=>h,fun h=>h⟩
  | succ i ih=>
   intro hi;obtain⟨i1,i2⟩:=ih oo;have b1:=hf.bef hr (show i<i+1 by omega) oo;have b2:=hf.bef hr (show i+1<i+2 by omega) hi;have c0:=hf.col _ _ _ (hf.place hr (show i<n0 by omega)) (hf.place hr (show i+1<n0 by omega)) (hf.place hr hi);exact⟨fun h=>At2 b1 b2 c0 (i1 h),fun h=>Akw b1 b2 c0 (i2 h)⟩
 have key:∃ R,Adds (plV v) (inN v.length) (Ot l n0) (apM []) R p/\∀ x y:Int,(⟨x,y⟩:Ab)∈fanL v l n0 (n0-1)↔Vis (plV v) R p x y:=by
  rcases Int.lt_or_gt_of_ne hoff with c | c
  ·refine⟨An8 (fun j=>l.getD (n0-1-j) 0) n0,Ai1 he (fun i=>?_) (fun a b c h1 h2 h3=>hf.col a b c h1 h2 h3) (fun i hi=>?_) q1 q2 q3 q4 q5,fun x y=>?_⟩
   ·rw[hS];constructor
    ·rintro⟨k,hk,rfl⟩;exact⟨n0-1-k,oo,by (try dsimp only);rw[show n0-1-(n0-1-k)=k by omega]⟩
    ·rintro⟨k,hk,rfl⟩;exact⟨n0-1-k,oo,rfl⟩
   ·have:=(same (n0-2-i) oo).2 c;rw[show n0-2-i+1=n0-1-i by omega] at this;try dsimp only
    rw[show n0-1-(i+1)=n0-2-i by omega,Cq];omega
   ·unfold fanL Vis An8;rw[mem_map];constructor
    ·rintro⟨i,hi,e⟩;rw[mem_range] at hi;have hneg:=(same i oo).2 c;unfold fanS at e;rw[hp,if_neg oo,Nc] at e;obtain⟨rfl,rfl⟩:=e;refine⟨⟨n0-2-i,oo,by (try dsimp only);rw[show n0-1-(n0-2-i)=i+1 by omega],by (try dsimp only);rw[show n0-1-(n0-2-i+1)=i by omega]⟩,?_⟩;rw[Cq];omega
    ·rintro⟨⟨i,hi,rfl,rfl⟩,_⟩;refine⟨n0-2-i,by rw[mem_range];omega,?_⟩;have hneg:=(same (n0-2-i) oo).2 c;unfold fanS;rw[hp,if_neg oo,Nc];exact⟨by (try dsimp only);rw[show n0-2-i+1=n0-1-i by omega],by (try dsimp only);rw[show n0-1-(i+1)=n0-2-i by omega]⟩
  ·refine⟨An8 (fun j=>l.getD j 0) n0,Ai1 he hS (fun a b c h1 h2 h3=>hf.col a b c h1 h2 h3) (fun i hi=>(same i hi).1 c) q1 q2 q3 q4 q5,fun x y=>?_⟩;unfold fanL Vis An8;rw[mem_map];constructor
   ·rintro⟨i,hi,e⟩;rw[mem_range] at hi;have hpos:=(same i oo).1 c;unfold fanS at e;rw[hp,if_pos hpos,Nc] at e;obtain⟨rfl,rfl⟩:=e;exact⟨⟨i,oo,rfl,rfl⟩,hpos⟩
   ·rintro⟨⟨i,hi,rfl,rfl⟩,hpos⟩;refine⟨i,by rw[mem_range];omega,?_⟩;unfold fanS;rw[hp,if_pos hpos]
 obtain⟨R,hA,hmv⟩:=key;obtain⟨o1,o2⟩:=Al3 (m:=[]) List.Pairwise.nil hA (fanL v l n0 (n0-1)) fun s hs=>(hmv s.a0 s.a1).1 hs
 have hN:∀ i j c,apM (putAll [] p (fanL v l n0 (n0-1))) i j=some c↔apM [] i j=some c\/New (plV v) R p i j c:=fun i j c=>by
  rw[o2,hmv,hmv,hmv];rfl
 have hpl:p=l[n0]:=by rw[<- hp,Pn hlt]
 refine⟨⟨?_,hA.tri' hN,?_,?_⟩,fun e=>?_⟩
 ·refine MapN.putAll q2 ⟨List.Pairwise.nil,fun q hq=>by cases hq⟩ fun s hs=>?_
  have:=(hA.r1 _ _ ((hmv s.a0 s.a1).1 hs).1);exact⟨q1 _ this.1,q1 _ this.2.1⟩
 ·have:=hA.cov' hN (fun i j k hk=>by cases hk);intro i j c hc hn d hd;refine this i j c hc hn d ?_;rw[hpl];exact (Ot.succ hlt).1 hd
 ·intro i j c hc;refine (Ot.succ hlt).2 ?_;rw[<- hpl];exact hA.used' hN i j c hc
 ·have h0:fanS v l n0 0∈fanL v l n0 (n0-1):=mem_map.2 ⟨0,by rw[mem_range];omega,rfl⟩;have:=(o2 (fanS v l n0 0).a0 (fanS v l n0 0).a1 p).2 (.inr (.inl ⟨h0,rfl⟩));rw[e] at this;cases this
end
variable {v:List Ad} {l:List Int}
theorem Ayk(hv:Ig v)(hn:v.length<=1024)(hr:Qx v l)(F:List (Ab × Bool)):
  ∃ m,Lt ⟨v,[],F⟩ l=some ⟨v,m,F⟩/\((Aj3 v/\m=[])\/(¬ Aj3 v/\MapN v.length m/\Tri (plV v) (inN v.length) (apM m)/\Cov (plV v) (inN v.length) (apM m)/\m≠[])):=by
 have hlen:=hr.len;obtain⟨n0,h1,h2,h3,h4,h5⟩:=Bfd hv hn hr ⟨v,[],F⟩ rfl;unfold Lt;rw[jn_d,h1,Ae];dsimp only
 by_cases c:l.length<=n0
 ·rw[if_pos oo];refine⟨[],rfl,.inl ⟨?_,rfl⟩⟩
  by_cases c2:2<=l.length
  ·-- all on the line of the first two
   have g0:0<l.length:=oo;have g1:1<l.length:=oo;have on:∀ i,inN v.length i->crs (plV v l[0]) (plV v l[1]) (plV v i)=0:=fun i hi=>by
    obtain⟨k,hk,rfl⟩:=getElem_of_mem (hr.val.2 hi)
    by_cases e0:k=0
    ·subst e0;exact Gs _ _
    ·by_cases e1:k=1
     ·subst e1;exact Cm _ _
     ·obtain⟨_,_,_,g⟩:=h3 k oo oo;exact g
   have hne:¬ Cy (plV v l[0]) (plV v l[1]):=fun e=>by
    have:=hr.lt g0 g1 oo;unfold befP Cy at *;omega
   exact fun i j k hi hj hk=>Ae7 hne (on i hi) (on j hj) (on k hk)
  ·intro i j k hi hj hk;unfold inN at hi hj hk;have:i=j:=oo;subst this;exact Aac _ _
 ·rw[if_neg oo,jn_d];have g0:0<l.length:=oo;have g1:1<l.length:=oo;have gn:n0<l.length:=oo;have off:=h4 g0 g1 gn;have hne:¬ Cy (plV v l[0]) (plV v l[1]):=fun e=>by
   have:=hr.lt g0 g1 oo;unfold befP Cy at *;omega
  have hf:Fan v l n0:=by
   refine⟨h2,gn,fun i j k hi hj hk=>?_,off⟩;have on:∀ i,Ot l n0 i->crs (plV v l[0]) (plV v l[1]) (plV v i)=0:=fun i hi=>by
    obtain⟨k,hk,hk2,rfl⟩:=hi
    by_cases e0:k=0
    ·subst e0;exact Gs _ _
    ·by_cases e1:k=1
     ·subst e1;exact Cm _ _
     ·obtain⟨_,_,_,g⟩:=h3 k oo hk2;exact g
   exact Ae7 hne (on i hi) (on j hj) (on k hk)
  obtain⟨s1,s2⟩:=hf.swept hv hn hr;rw[Bfe hv hn hr hf,Ae];dsimp only;rw[Az oo,gd_t ⟨oo,oo⟩];have ht:subl l (((n0+1:Nat):Int)) (l.length:Int)=l.drop (n0+1):=by unfold subl;simp
  rw[ht];have:=Be (B:=Jy l (n0:Int)) (fun s=>l.length-s.2.2.2.2.toNat) (fun s=>∃ (k:Nat) (m:Mp),n0+1<=k/\k<=l.length/\s=(v,m,F,l.drop (n0+1),((k-(n0+1):Nat):Int))/\Al4 v l k m/\m≠[])
   (fun t=>∃ m:Mp,t=⟨v,m,F⟩/\Al4 v l l.length m/\m≠[]) (fun s hs=>by
    obtain⟨k,m,k1,k2,rfl,k3,k4⟩:=hs;unfold Jy;dsimp only;rw[Az oo]
    by_cases c2:k<l.length
    ·left;obtain⟨m',e1,e2,e3⟩:=k3.step hv hn hr (F:=F) c2;have hi:idx (l.drop (n0+1)) (((k-(n0+1):Nat):Int))=some l[k]:=by
      rw[As (by rw[length_drop];omega),getElem_drop];congr 2;omega
     rw[if_pos (by simp;omega),jn_d,hi,Ae];refine⟨(v,m',F,l.drop (n0+1),((k+1-(n0+1):Nat):Int)),?_,⟨k+1,m',oo,oo,rfl,e2,e3 k4⟩,by dsimp only;omega⟩;obtain⟨r,hr1,hr2⟩:=Ao e1;obtain⟨t,ht1,ht2⟩:=Ao hr2;cases ht2
     rw[hr1,Ae,ht1,Ae,Az oo,show k-(n0+1)+1=k+1-(n0+1) by omega]
    ·right;rw[if_neg (by simp;omega)];have:k=l.length:=oo;subst this;exact⟨_,rfl,m,rfl,k3,k4⟩) (v,putAll [] (l.getD n0 0) (fanL v l n0 (n0-1)),F,l.drop (n0+1),0) ⟨n0+1,_,oo,oo,s_,s1,s2⟩
  obtain⟨t,e1,m,rfl,e2,e3⟩:=this;rw[e1,Ae];refine⟨m,rfl,.inr ⟨fun hfl=>?_,e2.map,e2.tri,fun i j k hk hnn d hd=>?_,e3⟩⟩
  ·exact off (hfl _ _ _ (hr.val.1 (getElem_mem g0)) (hr.val.1 (getElem_mem g1)) (hr.val.1 (getElem_mem gn)))
  ·obtain⟨j',hj',rfl⟩:=getElem_of_mem (hr.val.2 hd);exact e2.cov _ _ _ hk hnn _ ⟨j',hj',hj',rfl⟩
def Del(v:List Ad)(a b c:Int):Prop:=inN v.length a/\inN v.length b/\inN v.length c/\0<crs (plV v a) (plV v b) (plV v c)/\∀ d,inN v.length d->d≠a->d≠b->d≠c->DH (plV v) (hV v) a b c d<0
theorem Del.rot{a b c:Int}(h:Del v a b c):Del v b c a:=by
 obtain⟨h1,h2,h3,h4,h5⟩:=h;exact⟨h2,h3,h1,by rw[Ca];exact h4,fun d hd n1 n2 n3=>by rw[Ad5];exact h5 d hd n3 n1 n2⟩
structure Yx(v:List Ad)(T:List Ah):Prop where
 ord:T.Pairwise fun x y=>¬ cmp3 y x<0
 nd:T.Nodup
 mem:∀ t,t∈T↔t.a0<t.a1/\t.a0<t.a2/\Del v t.a0 t.a1 t.a2
theorem Yx.unique{T T':List Ah}(h:Yx v T)(h':Yx v T'):T=T' :=
 Acy tot3 (fun _ _=>trivial) h.ord h'.ord ((perm_ext_iff_of_nodup h.nd h'.nd).2 fun t=>(h.mem t).trans (h'.mem t).symm)
theorem Api(hv:Ig v){m:Mp}(hm:MapN v.length m)(ht:Tri (plV v) (inN v.length) (apM m))(hc:Cov (plV v) (inN v.length) (apM m))(hl:∀ i j k l,apM m i j=some k->apM m j i=some l->DH (plV v) (hV v) i j k l<0)(hne:m≠[])(a b c:Int):
  apM m a b=some c↔Del v a b c:=by
 have mem:∀ a b c:Int,(a,b,c)∈(m.map fun q=>(q.1.a0,q.1.a1,q.2))↔apM m a b=some c:=fun a b c=>by
  rw[mem_map];constructor
  ·rintro⟨⟨⟨x,y⟩,z⟩,hq,e⟩;cases e
   exact Vy hm.ok hq
  ·intro h;exact⟨(⟨a,b⟩,c),Md h,rfl⟩
 have hX:Aiw (plV v) (m.map fun q=>(q.1.a0,q.1.a1,q.2)):=⟨fun a b c h=>(mem _ _ _).2 (ht.rot _ _ _ ((mem _ _ _).1 h)),fun a b c h=>(ht.ccw _ _ _ ((mem _ _ _).1 h)).2.2.2⟩;have twin:∀ a b c,apM m a b=some c->∀ d,inN v.length d->crs (plV v a) (plV v b) (plV v d)<0->∃ e,apM m b a=some e:=fun a b c h d hd hlt=>by
  rcases e:apM m b a with _ | x
  ·have:=hc a b c h e d hd;omega
  ·exact⟨x,rfl⟩
 have G:=global (H:=hV v) (V:=inN v.length) hX (fun a b c h d hd n1 n2 n3=>ht.emp _ _ _ ((mem _ _ _).1 h) d hd n1 n2 n3) (fun a b c h d hd hlt=>by
  obtain⟨e,he⟩:=twin a b c ((mem _ _ _).1 h) d hd hlt;exact⟨e,(mem _ _ _).2 he,hl _ _ _ _ ((mem _ _ _).1 h) he⟩)
 constructor
 ·intro h;obtain⟨k1,k2,k3,k4⟩:=ht.ccw _ _ _ h;exact⟨k1,k2,k3,k4,G a b c ((mem _ _ _).2 h)⟩
 ·rintro⟨k1,k2,k3,k4,k5⟩;refine (mem _ _ _).1 (Aix (H:=hV v) (V:=inN v.length) hX (fun a b c h=>?_) G (fun a b c h d hd hlt=>?_) ?_ k1 k2 k3 k4 k5)
  ·obtain⟨q1,q2,q3,_⟩:=ht.ccw _ _ _ ((mem _ _ _).1 h);exact⟨q1,q2,q3⟩
  ·obtain⟨e,he⟩:=twin a b c ((mem _ _ _).1 h) d hd hlt;exact⟨e,(mem _ _ _).2 he⟩
  ·intro e;rw[map_eq_nil_iff] at e;exact hne e
theorem Ba6{m:Mp}(hm:MapN v.length m)(h:∀ a b c,apM m a b=some c↔Del v a b c):Yx v (Bc cmp3 (m.flatMap triF)):=by
 have memt:∀ t:Ah,t∈m.flatMap triF↔t.a0<t.a1/\t.a0<t.a2/\Del v t.a0 t.a1 t.a2:=fun t=>by
  rw[mem_flatMap];constructor
  ·rintro⟨⟨⟨a,b⟩,c⟩,hq,ht⟩;unfold triF at ht;split at ht
   ·rename_i hlt;rw[mem_singleton] at ht;subst ht;exact⟨hlt.1,hlt.2,(h _ _ _).1 (Vy hm.ok hq)⟩
   ·cases ht
  ·rintro⟨h1,h2,h3⟩;refine⟨(⟨t.a0,t.a1⟩,t.a2),Md ((h _ _ _).2 h3),?_⟩;unfold triF;rw[if_pos ⟨h1,h2⟩];exact mem_singleton.2 rfl
 refine⟨Nj tot3 (fun _ _=>trivial),(Ex _ _).nodup_iff.2 ?_,fun t=>by rw[Nk,memt]⟩;have:∀ l:Mp,Dq l->(l.flatMap triF).Nodup:=by
  intro l
  induction l with
  | nil=>intro _;exact List.Pairwise.nil
  | cons q r ih=>
   intro hl;obtain⟨h1,h2⟩:=pairwise_cons.1 hl;rw[flatMap_cons,nodup_append];refine⟨?_,ih h2,fun x hx y hy e=>?_⟩
   ·unfold triF;split
    ·simp
    ·exact List.Pairwise.nil
   ·subst e;obtain⟨q',hq',hy⟩:=mem_flatMap.1 hy;have key:∀ q:Ab × Int,x∈triF q->q.1=⟨x.a0,x.a1⟩:=fun q hq=>by
     unfold triF at hq;split at hq
     ·rw[mem_singleton] at hq;subst hq;rfl
     ·cases hq
    exact h1 q' hq' (by rw[key _ hx,key _ hy])
 exact this m hm.ok
end Go.Proofs.YthlkpgdfifnagaaGreat
namespace Go.Proofs.YthlkpgdfifnagaaGreat
open Go Go.RowKit Tryz List
theorem Aft{β γ:Type}(N:Nat)(hN:N<=1000000000)(p:Nat->Bool)(B:Int->Option (Sum Int (Sum β γ)))(u:β)(w:γ)(h1:∀ k:Nat,k<N->B (k:Int)=if p k=true then some (.inr (.inr w)) else some (.inl ((k+1:Nat):Int)))(h2:B (N:Int)=some (.inr (.inl u))):lfix B 0=some (if (List.range N).any p then .inr w else .inl u):=by
 have key:∀ j k,j+k=N->lfix B (k:Int)=some (if ((List.range N).drop k).any p then .inr w else .inl u):=by
  intro j
  induction j with
  | zero=>
   intro k hk;rw[Ba,show k=N by omega,h2,drop_eq_nil_of_le s_];rfl
  | succ j ih=>
   intro k hk;rw[Ba,h1 k oo,drop_eq_getElem_cons (by simp;omega),any_cons,getElem_range]
   by_cases c:p k=true
   ·rw[if_pos c,c];rfl
   ·rw[if_neg c];rw[Bool.not_eq_true] at c;rw[c,Bool.false_or];exact ih (k+1) oo
 have:=key N 0 oo
 rwa [drop_zero] at this
def pP(x:Ad):Ac:=⟨x.X,x.Y⟩
def Lm(x:Ad):Prop:=okP (pP x)/\-268435456<=x.Z.Lo/\x.Z.Lo<=x.Z.Hi/\x.Z.Hi<=268435456
instance(x:Ad):Decidable (Lm x):=by unfold Lm;infer_instance
theorem Abb{v:List Ad}{k:Nat}(hk:k<v.length):plV v (k:Int)=pP v[k]:=by unfold plV;rw[As hk];rfl
theorem Anf(x:Ad):Aah x=some (decide (Lm x)):=by
 unfold Aah Oa;rw[Ae,Ae,Ae,Atk,Ae,jn_d];unfold Yy
 by_cases h:okP (⟨x.X,x.Y⟩:Ac)
 ·simp only[h,and_self,if_true];rw[jn_d]
  by_cases h1:-1152921504606846976<=x.Z.Lo
  ·rw[if_pos h1]
   by_cases h2:x.Z.Lo<=x.Z.Hi
   ·rw[if_pos h2]
    by_cases h3:x.Z.Hi<=1152921504606846976
    ·rw[decide_eq_true h3,Ae,if_pos rfl]
     by_cases h4:-268435456<=x.Z.Lo
     ·rw[if_pos h4];congr 1;rw[Bool.eq_iff_iff,decide_eq_true_eq,decide_eq_true_eq];unfold Lm pP;exact⟨fun g=>⟨h,h4,h2,g⟩,fun g=>g.2.2.2⟩
     ·rw[if_neg h4,decide_eq_false (fun g:Lm x=>h4 g.2.1)]
    ·rw[decide_eq_false h3,Ae,if_neg s_,decide_eq_false (fun g:Lm x=>h3 (by have:=g.2.2.2;omega))]
   ·rw[if_neg h2,Ae,if_neg s_,decide_eq_false (fun g:Lm x=>h2 g.2.2.1)]
  ·rw[if_neg h1,Ae,if_neg s_,decide_eq_false (fun g:Lm x=>h1 (by have:=g.2.1;omega))]
 ·simp only[h,false_and,if_false];rw[if_neg dD,decide_eq_false (fun g:Lm x=>h g.1)]
def Vq(v:List Ad):Int:=if 1024<v.length then 2 else if ¬ (∀ x∈v,Lm x) then 60 else if ¬ Fe v then 61 else 0
theorem Ahj{v:List Ad}(h:Vq v=0):v.length<=1024/\(∀ x∈v,Lm x)/\Ig v:=by
 unfold Vq at h;split at h
 ·omega
 ·split at h
  ·omega
  ·split at h
   ·omega
   ·rename_i h1 h2 h3;have h2:=Classical.not_not.1 h2;have h3:=Classical.not_not.1 h3;refine⟨oo,h2,fun i hi=>?_,fun i j hi hj hs=>?_⟩
    ·obtain⟨k,hk,rfl,_⟩:=Lw (v:=v) (i:=i) hi;rw[Abb hk];exact (h2 _ (getElem_mem hk)).1
    ·obtain⟨a,ha,rfl,_⟩:=Lw (v:=v) (i:=i) hi;obtain⟨b,hb,rfl,_⟩:=Lw (v:=v) (i:=j) hj;rw[Abb ha,Abb hb] at hs;unfold Fe at h3;rw[pairwise_iff_getElem] at h3;rcases Nat.lt_trichotomy a b with c | c | c
     ·exact absurd hs (h3 a b ha hb c)
     ·rw[c]
     ·exact absurd ⟨hs.1.symm,hs.2.symm⟩ (h3 b a hb ha c)
theorem Aif{v:List Ad}:((List.range v.length).any fun k=>!decide (Lm (v.getD k ⟨0,0,⟨0,0⟩⟩)))=true↔¬ ∀ x∈v,Lm x:=by
 rw[any_eq_true];constructor
 ·rintro⟨k,hk,h⟩ hall;rw[mem_range] at hk;simp[hk] at h;exact h (hall _ (getElem_mem hk))
 ·intro h;apply Classical.byContradiction;intro hno;apply h;intro x hx;obtain⟨k,hk,rfl⟩:=getElem_of_mem hx;apply Classical.byContradiction;intro hb;exact hno ⟨k,mem_range.2 hk,by simp[hk,hb]⟩
theorem Ang{v:List Ad}:(∃ i j,∃ (hi:i<v.length) (hj:j<v.length),j<i/\Aag v[i] v[j])↔¬ Fe v:=by
 unfold Fe;rw[pairwise_iff_getElem];constructor
 ·rintro⟨i,j,hi,hj,hji,hs⟩ h;exact h j i hj hi hji ⟨hs.1.symm,hs.2.symm⟩
 ·intro h;apply Classical.byContradiction;intro hno;apply h;intro i j hi hj hij hs;exact hno ⟨j,i,hj,hi,hij,hs.1.symm,hs.2.symm⟩
theorem Bd7{v:List Ad}(c:v.length<=1024):lfix (Ko v) 0=some (if ((List.range v.length).any fun k=>!decide (Lm (v.getD k ⟨0,0,⟨0,0⟩⟩)))=true then .inr 60 else .inl ()):=by
 refine Aft v.length oo (fun k=>!decide (Lm (v.getD k ⟨0,0,⟨0,0⟩⟩))) (Ko v) () 60 (fun k hk=>?_) ?_
 ·unfold Ko;rw[if_pos oo,As hk,Ae,Anf,Ae,Az oo];have e:v.getD k ⟨0,0,⟨0,0⟩⟩=v[k]:=by simp[hk]
  rw[e]
  by_cases g:Lm v[k]
  ·simp[g]
  ·simp[g]
 ·unfold Ko;rw[if_neg oo]
theorem Ahk(v:List Ad):Tg v=some (Vq v):=by
 unfold Tg Vq
 by_cases c:1024<v.length
 ·rw[if_pos oo,if_pos c]
 ·rw[if_neg oo,if_neg c,jn_d];rw[Bd7 oo,Ae]
  ·by_cases h:∀ x∈v,Lm x
   ·rw[if_neg (fun g=>Aif.1 g h),if_neg (not_not_intro h)];dsimp only;rw[jn_d];have hL:=Be (B:=Re v) (fun s=>v.length-s.2.toNat) (fun s=>∃ k:Nat,k<=v.length/\s.2=(k:Int)/\Dq s.1/\s.1.length<=k/\(∀ x,(mget s.1 x).getD false=true↔∃ (j:Nat) (hj:j<v.length),j<k/\pP v[j]=x)/\∀ i j (hi:i<v.length) (hj:j<v.length),i<k->j<i->¬ Aag v[i] v[j])
     (fun t=>t=if ¬ Fe v then .inr 61 else .inl ()) (fun s hs=>by
      obtain⟨m,k⟩:=s;obtain⟨k,h1,rfl,h2,h3,h4,h5⟩:=hs;simp only at h1 h2 h3 h4;unfold Re;dsimp only
      by_cases hk:k<v.length
      ·have hg:=(h _ (getElem_mem hk)).1;have hr:(-9223372036854775808<=v[k].X/\v[k].X<=9223372036854775807)/\-9223372036854775808<=v[k].Y/\v[k].Y<=9223372036854775807:=by
        unfold okP pP at hg;simp only at hg;omega
       unfold Oa;rw[if_pos oo,As hk,Ae,Ae,gd_t hr,Ae];have e4:=h4 (⟨v[k].X,v[k].Y⟩:Ac)
       by_cases hd:(mget m (⟨v[k].X,v[k].Y⟩:Ac)).getD false=true
       ·right;rw[if_pos hd];obtain⟨j,hj,hjk,he⟩:=e4.1 hd;refine⟨_,rfl,?_⟩;rw[if_pos];refine Ang.1 ⟨k,j,hk,hj,hjk,?_⟩;unfold pP at he;simp at he;exact⟨he.1.symm,he.2.symm⟩
       ·left;rw[if_neg hd,Ae,gd_t hr,gd_t oo,Az oo];refine⟨_,rfl,⟨k+1,hk,rfl,h2.put _ _,?_,fun x=>?_,fun i j hi hj hik hji=>?_⟩,by dsimp only;omega⟩
        ·dsimp only;unfold mput mdel;rw[length_cons];refine Nat.succ_le_succ (Nat.le_trans (length_filter_le _ m) h3)
        ·dsimp only;rw[Pu h2]
         by_cases hx:x=⟨v[k].X,v[k].Y⟩
         ·rw[if_pos hx];simp only[Option.getD_some,true_iff];exact⟨k,hk,oo,hx.symm⟩
         ·rw[if_neg hx,h4];constructor
          ·rintro⟨j,hj,h6,h7⟩;exact⟨j,hj,oo,h7⟩
          ·rintro⟨j,hj,h6,h7⟩;refine⟨j,hj,?_,h7⟩
           by_cases e:j=k
           ·subst e;exact absurd h7.symm hx
           ·omega
        ·by_cases e:i=k
         ·subst e;intro hs;exact hd (e4.2 ⟨j,hj,hji,by unfold pP;rw[hs.1,hs.2]⟩)
         ·exact h5 i j hi hj oo hji
      ·right;rw[if_neg oo];refine⟨_,rfl,?_⟩;rw[if_neg];intro hno;obtain⟨i,j,hi,hj,hji,hs⟩:=Ang.2 hno;exact h5 i j hi hj oo hji hs) ([],0) ⟨0,oo,rfl,List.Pairwise.nil,s_,fun x=>by simp[mget],fun i j hi hj h1=>oo⟩
    obtain⟨t,h1,rfl⟩:=hL;rw[h1,Ae]
    by_cases hd:Fe v
    ·rw[if_neg (not_not_intro hd),if_neg (not_not_intro hd)]
    ·rw[if_pos hd,if_pos hd]
   ·rw[if_pos (Aif.2 h),if_pos h]
noncomputable def Lq(p0:Ac)(p1:Ac)(p2:Ac):Option Bool :=
 jn (fun (s2:Bool)=>
 some s2)
 (fun j2=>bnd (Eb p0 p1 p2) fun r4=>
 if r4=0 then (if (min p0.X p1.X)<=p2.X then (if p2.X<=(max p0.X p1.X) then (if (min p0.Y p1.Y)<=p2.Y then (j2 (decide (p2.Y<=(max p0.Y p1.Y))))
 else (j2 false))
 else (j2 false))
 else (j2 false))
 else (j2 false))
noncomputable def Ej(p0:List Ad):Int->Option (Sum Int (Sum Unit Int)):=fun s0=>
 if s0<(p0.length:Int) then (bnd (idx p0 s0) fun x0=>
 bnd (Gi x0) fun r0=>
 if r0=true then (some (.inl (w64 (s0+1))))
 else (some (.inr (.inr 60))))
 else (some (.inr (.inl ())))
noncomputable def Fy(s0:Int)(p0:List Ad):Int->Option (Sum Int (Sum Unit Int)):=fun s1=>
 if s1<s0 then (jn (fun (s2:Bool)=>
 if s2=true then (some (.inr (.inr 61)))
 else (some (.inl (w64 (s1+1)))))
 (fun j0=>bnd (idx p0 s0) fun x0=>
 bnd (idx p0 s1) fun x1=>
 if x0.X=x1.X then (bnd (idx p0 s0) fun x2=>
 bnd (idx p0 s1) fun x3=>
 j0 (decide (x2.Y=x3.Y)))
 else (j0 false)))
 else (some (.inr (.inl ())))
noncomputable def Dw(p0:List Ad):Int->Option (Sum Int (Sum Unit Int)):=fun s0=>
 if s0<(p0.length:Int) then (jn (fun (s1:Unit)=>
 some (.inl (w64 (s0+1))))
 (fun j0=>bnd (lfix (Fy s0 p0) 0) fun t0=>
 (match t0 with
 | (.inl z0)=>j0 z0
 | (.inr z0)=>some (.inr (.inr z0))
 )))
 else (some (.inr (.inl ())))
noncomputable def Jo(p0:List Ad):Option Int :=
 if 1024<(p0.length:Int) then (some 2)
 else (jn (fun (s5:Unit)=>
 jn (fun (s0:Unit)=>
 some 0)
 (fun j0=>bnd (lfix (Dw p0) 0) fun t0=>
 (match t0 with
 | (.inl z0)=>j0 z0
 | (.inr z0)=>some z0
 )))
 (fun j5=>bnd (lfix (Ej p0) 0) fun t1=>
 (match t1 with
 | (.inl z1)=>j5 z1
 | (.inr z1)=>some z1
 )))
noncomputable def Ny(p0:List Ad):(Int × Int)->Option (Sum (Int × Int) Int):=fun s0=>
 if s0.2<(p0.length:Int) then (jn (fun (s1:Int)=>
 some (.inl (s1,w64 (s0.2+1))))
 (fun j0=>bnd (idx p0 s0.2) fun x0=>
 bnd (idx p0 s0.1) fun x1=>
 bnd (Au x0) fun r0=>
 bnd (Au x1) fun r1=>
 bnd (Gj r0 r1) fun r2=>
 if r2=true then (j0 s0.2)
 else (j0 s0.1)))
 else (some (.inr s0.1))
noncomputable def Ou(p0:List Ad):Option Int :=
 jn (fun (s3:Int)=>
 some s3)
 (fun j3=>bnd (lfix (Ny p0) (0,0)) fun t0=>
 j3 t0)
noncomputable def Po(p0:List Ad)(p1:Int)(p2:Bool):(Int × Int)->Option (Sum (Int × Int) Int):=fun s0=>
 if s0.2<(p0.length:Int) then (jn (fun (s1:Int)=>
 some (.inl (s1,w64 (s0.2+1))))
 (fun j0=>if s0.2=p1 then (j0 s0.1)
 else (if s0.1<0 then (j0 s0.2)
 else (bnd (idx p0 p1) fun x0=>
 bnd (idx p0 s0.1) fun x1=>
 bnd (idx p0 s0.2) fun x2=>
 bnd (Au x0) fun r0=>
 bnd (Au x1) fun r1=>
 bnd (Au x2) fun r2=>
 bnd (Eb r0 r1 r2) fun r3=>
 jn (fun (s2:Bool)=>
 if s2=true then (j0 s0.2)
 else (j0 s0.1))
 (fun j1=>if r3<0 then (j1 true)
 else (if r3=0 then (bnd (Lq r0 r1 r2) fun r4=>
 j1 (!(r4 == p2)))
 else (j1 false)))))))
 else (some (.inr s0.1))
noncomputable def Qh(p0:List Ad)(p1:Int)(p2:Bool):Option Int :=
 jn (fun (s3:Int)=>
 some s3)
 (fun j3=>bnd (lfix (Po p0 p1 p2) (-1,0)) fun t0=>
 j3 t0)
noncomputable def Pp(p0:List Ad):Int->Option (Sum Int (Sum Unit Bool)):=fun s0=>
 if s0<(p0.length:Int) then (bnd (idx p0 0) fun x0=>
 bnd (idx p0 1) fun x1=>
 bnd (idx p0 s0) fun x2=>
 bnd (Au x0) fun r0=>
 bnd (Au x1) fun r1=>
 bnd (Au x2) fun r2=>
 bnd (Eb r0 r1 r2) fun r3=>
 if r3=0 then (some (.inl (w64 (s0+1))))
 else (some (.inr (.inr false))))
 else (some (.inr (.inl ())))
noncomputable def Qi(p0:List Ad):Option Bool :=
 jn (fun (s2:Unit)=>
 some true)
 (fun j2=>bnd (lfix (Pp p0) 2) fun t0=>
 (match t0 with
 | (.inl z0)=>j2 z0
 | (.inr z0)=>some z0
 ))
instance(p0:Ac)(p1:Ac)(p2:Ac):Con (Lq p0 p1 p2) prog 242 (fun _ vs=>vs=[.agg #[.int .i64 p0.X,.int .i64 p0.Y],.agg #[.int .i64 p1.X,.int .i64 p1.Y],.agg #[.int .i64 p2.X,.int .i64 p2.Y]]) (fun _ r=>fun v Ln=>v = .bool r/\Ln=[]/\True):=⟨by
 rintro _ _ r rfl hx w hK;unfold Lq at hx;refine CtS ntmps242 results242 ?_;try (refine pre ?_;intros;rename_i hx)
 refine Bh ?_;try (refine pre ?_;intros;rename_i hx)
 apply Jr (γ:=Unit) hx [] (fun s2 y2 f=>(6,.bool s2)::f) [999] (fun s2 y2 l=>l);exact kk
 ·intro s2 y2 hx;exact au
 ·intro _ hx;try (refine pre ?_;intros;rename_i hx)
  refine Cq1 (s:=12) hx rfl (fun _ hx=>?_) (fun _ hx=>?_)
  ·exact au
  ·exact au⟩
instance(p0:List Ad):Con (Jo p0) prog 193 (fun K vs=>∃ E0 G0,vs=[.slice E0 p0.length G0]/\Has K E0 p0.length G0 4 Ak p0/\True) (fun _ r=>fun v Ln=>v = .int .i64 r/\Ln=[]/\True):=⟨by
 rintro K _ r ⟨E0,G0,rfl,ha0,-⟩ hx w hK;replace ha0:=Has.lo ha0 hK;unfold Jo at hx;have:=dl 15 [0,0,0,0,1,0,0,0,0,1,0,0,0,0,0,0,1,0,0,0,0,1,0,0] [0,1,2,3,4,5,6,7,8,9,10,11,12,13,14,15,16,17,18,19,20,21,22,23];refine CtS ntmps193 results193 ?_;try (refine pre ?_;intros;rename_i hx)
 refine Cq1 (s:=8) hx rfl (fun _ hx=>?_) (fun _ hx=>?_)
 ·exact au
 ·try (refine pre ?_;intros;rename_i hx)
  apply Jr (γ:=Unit) hx [0] (fun s5 y5 f=>f) [999] (fun s5 y5 l=>l);exact kk
  ·intro s5 y5 hx;apply Jr (γ:=Unit) hx [] (fun s19 y19 f=>f) [999] (fun s19 y19 l=>l);exact kk
   ·intro s19 y19 hx;exact au
   ·intro _ hx;try (refine pre ?_;intros;rename_i hx)
    apply Lr (γ:=Unit) hx [0,22] (fun s166 y166 f=>(23,.int .i64 s166)::f) [999] (fun s166 y166 l=>l) ();exact kk;exact sk;intro s166 y166 x166 hx _;unfold Dw at hx;try (refine pre ?_;intros;rename_i hx)
    refine Cq1 (s:=24) hx rfl (fun _ hx=>?_) (fun _ hx=>?_)
    ·try (refine pre ?_;intros;rename_i hx)
     apply Jr (γ:=Unit) hx [0,22,23] (fun s38 y38 f=>f) [999] (fun s38 y38 l=>l);exact kk
     ·intro s38 y38 hx;exact au
     ·intro _ hx;try (refine pre ?_;intros;rename_i hx)
      apply Lr (γ:=Unit) hx [0,4,22,23] (fun s226 y226 f=>(5,.int .i64 s226)::f) [999] (fun s226 y226 l=>l) ();exact kk;exact sk;intro s226 y226 x226 hx _;unfold Fy at hx;exact au
    ·exact au
  ·intro _ hx;try (refine pre ?_;intros;rename_i hx)
   apply Lr (γ:=Unit) hx [0,10] (fun s25 y25 f=>(11,.int .i64 s25)::f) [999] (fun s25 y25 l=>l) ();exact kk;exact sk;intro s25 y25 x25 hx _;unfold Ej at hx;exact au⟩
instance(p0:List Ad):Con (Ou p0) prog 197 (fun K vs=>∃ E0 G0,vs=[.slice E0 p0.length G0]/\Has K E0 p0.length G0 4 Ak p0/\True) (fun _ r=>fun v Ln=>v = .int .i64 r/\Ln=[]/\True):=⟨by
 rintro K _ r ⟨E0,G0,rfl,ha0,-⟩ hx w hK;replace ha0:=Has.lo ha0 hK;unfold Ou at hx;have:=dl 5 [0,0,0,1,2,0,0,0,1,2,2] [0,1,2,3,5,6,7,8,4,9,10];refine CtS ntmps197 results197 ?_;try (refine pre ?_;intros;rename_i hx)
 refine Bh ?_;try (refine pre ?_;intros;rename_i hx)
 refine Bh ?_;try (refine pre ?_;intros;rename_i hx)
 apply Jr (γ:=Unit) hx [] (fun s3 y3 f=>(3,.int .i64 s3)::f) [999] (fun s3 y3 l=>l);exact kk
 ·intro s3 y3 hx;exact au
 ·intro _ hx;try (refine pre ?_;intros;rename_i hx)
  apply Lr (γ:=Unit) hx [0,6] (fun s0 y0 f=>(3,.int .i64 s0.1)::(7,.int .i64 s0.2)::f) [999] (fun s0 y0 l=>l) ();exact kk;exact sk;intro s0 y0 x0 hx _;unfold Ny at hx;exact au⟩
instance(p0:List Ad)(p1:Int)(p2:Bool):Con (Qh p0 p1 p2) prog 198 (fun K vs=>∃ E0 G0,vs=[.slice E0 p0.length G0,.int .i64 p1,.bool p2]/\Has K E0 p0.length G0 4 Ak p0/\True) (fun _ r=>fun v Ln=>v = .int .i64 r/\Ln=[]/\True):=⟨by
 rintro K _ r ⟨E0,G0,rfl,ha0,-⟩ hx w hK;replace ha0:=Has.lo ha0 hK;unfold Qh at hx;have:=dl 8 [0,0,0,1,2,0,0,0,1,2,0,0,0,1,2,4,4,4,3,3,3] [0,1,2,3,5,6,7,8,10,11,12,13,4,9,14,15,16,17,18,19,20] [15,16,17];refine CtS ntmps198 results198 ?_;try (refine pre ?_;intros;rename_i hx)
 refine Bh ?_;try (refine pre ?_;intros;rename_i hx)
 refine Bh ?_;try (refine pre ?_;intros;rename_i hx)
 apply Jr (γ:=Unit) hx [] (fun s3 y3 f=>(7,.int .i64 s3)::f) [999] (fun s3 y3 l=>l);exact kk
 ·intro s3 y3 hx;exact au
 ·intro _ hx;try (refine pre ?_;intros;rename_i hx)
  apply Lr (γ:=Unit) hx [0,1,2,14] (fun s0 y0 f=>(7,.int .i64 s0.1)::(15,.int .i64 s0.2)::f) [999] (fun s0 y0 l=>l) ();exact kk;exact sk;intro s0 y0 x0 hx _;unfold Po at hx;try (refine pre ?_;intros;rename_i hx)
  refine Cq1 (s:=16) hx rfl (fun _ hx=>?_) (fun _ hx=>?_)
  ·try (refine pre ?_;intros;rename_i hx)
   apply Jr (γ:=Unit) hx [0,1,2,14,15] (fun s1 y1 f=>(7,.int .i64 s1)::f) [999] (fun s1 y1 l=>l);exact kk
   ·intro s1 y1 hx;exact au
   ·intro _ hx;try (refine pre ?_;intros;rename_i hx)
    refine Cq1 (s:=20) hx rfl (fun _ hx=>?_) (fun _ hx=>?_)
    ·exact au
    ·try (refine pre ?_;intros;rename_i hx)
     refine Cq1 (s:=22) hx rfl (fun _ hx=>?_) (fun _ hx=>?_)
     ·exact au
     ·try (refine pre ?_;intros;rename_i hx)
      apply Jr (γ:=Unit) hx [0,1,2,7,8,14,15] (fun s2 y2 f=>(56,.bool s2)::f) [999] (fun s2 y2 l=>l);exact kk
      ·intro s2 y2 hx;exact au
      ·intro _ hx;exact au
  ·exact au⟩
instance(p0:List Ad):Con (Qi p0) prog 196 (fun K vs=>∃ E0 G0,vs=[.slice E0 p0.length G0]/\Has K E0 p0.length G0 4 Ak p0/\True) (fun _ r=>fun v Ln=>v = .bool r/\Ln=[]/\True):=⟨by
 rintro K _ r ⟨E0,G0,rfl,ha0,-⟩ hx w hK;replace ha0:=Has.lo ha0 hK;unfold Qi at hx;have:=dl 4 [0,0,1,2,0,0,1,2,0,0,0,1,2,2,0] [0,1,2,4,5,6,8,9,10,11,3,7,12,13,14];refine CtS ntmps196 results196 ?_;try (refine pre ?_;intros;rename_i hx)
 refine Bh ?_;try (refine pre ?_;intros;rename_i hx)
 apply Jr (γ:=Unit) hx [] (fun s2 y2 f=>f) [999] (fun s2 y2 l=>l);exact kk
 ·intro s2 y2 hx;exact au
 ·intro _ hx;try (refine pre ?_;intros;rename_i hx)
  apply Lr (γ:=Unit) hx [0] (fun s0 y0 f=>(3,.int .i64 s0)::f) [999] (fun s0 y0 l=>l) ();exact kk;exact sk;intro s0 y0 x0 hx _;unfold Pp at hx;exact au⟩
theorem Ahv(x:Ad):Gi x=some (decide (Lm x)):=by
 unfold Gi Au;rw[jn_d,Ae,Atd,Ae]
 by_cases h:okP (⟨x.X,x.Y⟩:Ac)
 ·rw[decide_eq_true h,if_pos rfl]
  by_cases h1:-268435456<=x.Z.Lo
  ·rw[if_pos h1]
   by_cases h2:x.Z.Lo<=x.Z.Hi
   ·rw[if_pos h2];congr 1;rw[Bool.eq_iff_iff,decide_eq_true_eq,decide_eq_true_eq];exact⟨fun g=>⟨h,h1,h2,g⟩,fun g=>g.2.2.2⟩
   ·rw[if_neg h2,decide_eq_false (fun g:Lm x=>h2 g.2.2.1)]
  ·rw[if_neg h1,decide_eq_false (fun g:Lm x=>h1 g.2.1)]
 ·rw[decide_eq_false h,if_neg s_,decide_eq_false (fun g:Lm x=>h g.1)]
theorem Ba7{v:List Ad}(c:v.length<=1024):lfix (Ej v) 0=some (if ((List.range v.length).any fun k=>!decide (Lm (v.getD k ⟨0,0,⟨0,0⟩⟩)))=true then .inr 60 else .inl ()):=by
 refine Aft v.length oo (fun k=>!decide (Lm (v.getD k ⟨0,0,⟨0,0⟩⟩))) (Ej v) () 60 (fun k hk=>?_) ?_
 ·unfold Ej;rw[if_pos oo,As hk,Ae,Ahv,Ae,Az oo];have e:v.getD k ⟨0,0,⟨0,0⟩⟩=v[k]:=by simp[hk]
  rw[e]
  by_cases g:Lm v[k]
  ·simp[g]
  ·simp[g]
 ·unfold Ej;rw[if_neg oo]
theorem Ahw(v:List Ad):Jo v=some (Vq v):=by
 unfold Jo Vq
 by_cases c:1024<v.length
 ·rw[if_pos oo,if_pos c]
 ·rw[if_neg oo,if_neg c,jn_d];rw[Ba7 oo,Ae]
  ·by_cases h:∀ x∈v,Lm x
   ·rw[if_neg (fun g=>Aif.1 g h),if_neg (not_not_intro h)];dsimp only;rw[jn_d];have hin:∀ i (hi:i<v.length),lfix (Fy (i:Int) v) 0=some (if (List.range i).any (fun j=>decide (Aag v[i] (v.getD j ⟨0,0,⟨0,0⟩⟩))) then .inr 61 else .inl ()):=fun i hi=>by
     refine Aft i oo _ _ () 61 (fun k hk=>?_) ?_
     ·unfold Fy;have e:v.getD k ⟨0,0,⟨0,0⟩⟩=v[k]'oo:=by simp[show k<v.length by omega]
      rw[if_pos oo,jn_d,As hi,Ae,As (show k<v.length by omega),Ae,Az oo,e];unfold Aag
      by_cases g1:v[i].X=v[k].X
      ·rw[if_pos g1,Ae,Ae]
       by_cases g2:v[i].Y=v[k].Y
       ·simp[g1,g2]
       ·simp[g2]
      ·rw[if_neg g1];simp[g1]
     ·unfold Fy;rw[if_neg oo]
    have hout:lfix (Dw v) 0=some (if ((List.range v.length).any fun i=>(List.range i).any fun j=>decide (Aag (v.getD i ⟨0,0,⟨0,0⟩⟩) (v.getD j ⟨0,0,⟨0,0⟩⟩)))=true then .inr 61 else .inl ()):=by
     refine Aft v.length oo (fun i=>(List.range i).any fun j=>decide (Aag (v.getD i ⟨0,0,⟨0,0⟩⟩) (v.getD j ⟨0,0,⟨0,0⟩⟩))) (Dw v) () 61 (fun i hi=>?_) ?_
     ·unfold Dw;have e:v.getD i ⟨0,0,⟨0,0⟩⟩=v[i]:=by simp[hi]
      rw[if_pos oo,jn_d,hin i hi,Ae,Az oo,e]
      by_cases g:((List.range i).any fun j=>decide (Aag v[i] (v.getD j ⟨0,0,⟨0,0⟩⟩)))=true
      ·rw[if_pos g,if_pos g]
      ·rw[if_neg g,if_neg g]
     ·unfold Dw;rw[if_neg oo]
    rw[hout,Ae]
    ·have hd:((List.range v.length).any fun i=>(List.range i).any fun j=>decide (Aag (v.getD i ⟨0,0,⟨0,0⟩⟩) (v.getD j ⟨0,0,⟨0,0⟩⟩)))=true↔¬ Fe v:=by
      rw[<- Ang,any_eq_true];constructor
      ·rintro⟨i,hi,hj⟩;rw[any_eq_true] at hj;obtain⟨j,hj,hs⟩:=hj;rw[mem_range] at hi hj;rw[decide_eq_true_eq] at hs;refine⟨i,j,hi,oo,hj,?_⟩;simpa[hi,show j<v.length by omega] using hs
      ·rintro⟨i,j,hi,hj,hji,hs⟩;refine⟨i,mem_range.2 hi,?_⟩;rw[any_eq_true];exact⟨j,mem_range.2 hji,by simpa[hi,hj] using hs⟩
     by_cases g:Fe v
     ·rw[if_neg (fun q=>hd.1 q g),if_neg (not_not_intro g)]
     ·rw[if_pos (hd.2 g),if_pos g]
   ·rw[if_pos (Aif.2 h),if_pos h]
def Box(p q k:Ac):Prop:=min p.X q.X<=k.X/\k.X<=max p.X q.X/\min p.Y q.Y<=k.Y/\k.Y<=max p.Y q.Y
instance(p q k:Ac):Decidable (Box p q k):=by unfold Box;infer_instance
def lexA:Int:=2147483648
theorem Aq7{p q:Ac}(hp:okP p)(hq:okP q):ph lexA 1 p<ph lexA 1 q↔befP p q:=by unfold ph lexA okP befP at *;omega
theorem mid{a b c d:Int}(h0:0<a)(h1:0<=b)(h2:b<=a)(h:a*c=d*b):(0<=d->0<=c/\c<=d)/\(d<=0->d<=c/\c<=0):=by
 constructor
 ·intro hd;have e1:=Int.mul_nonneg hd h1;have e2:=Int.mul_nonneg hd (show 0<=a-b by omega);refine⟨Vw h0 oo,?_⟩;have:0<=d-c:=Vw h0 (by rw[Int.mul_sub] at *;rw[Int.mul_comm a d];omega);omega
 ·intro hd;have e1:=Int.mul_nonneg (show 0<=-d by omega) h1;have e2:=Int.mul_nonneg (show 0<=-d by omega) (show 0<=a-b by omega);rw[Int.neg_mul] at e1 e2;rw[Int.mul_sub] at e2;constructor
  ·have:0<=c-d:=Vw h0 (by rw[Int.mul_sub,Int.mul_comm a d];omega);omega
  ·have:0<=-c:=Vw h0 (by rw[Int.mul_neg];omega);omega
theorem Ba8{p q k:Ac}(h:crs p q k=0)(h1:¬ befP k p)(h2:¬ befP q k):Box p q k:=by
 unfold befP at h1 h2;unfold crs at h;unfold Box
 by_cases e:p.X=q.X
 ·omega
 ·have:=mid (a:=q.X-p.X) (b:=k.X-p.X) (c:=k.Y-p.Y) (d:=q.Y-p.Y) oo oo oo oo;rcases Int.le_total 0 (q.Y-p.Y) with g | g
  ·have:=this.1 g;omega
  ·have:=this.2 g;omega
theorem Bd8{p q k:Ac}(h:crs p q k=0)(h1:¬ befP q p)(h2:befP q k)(h3:¬ Cy p q):¬ Box p q k:=by
 intro hb;unfold befP Cy at *;unfold Box at hb;unfold crs at h
 by_cases e:p.X=q.X
 ·omega
 ·have hk:k.X=q.X:=oo;rw[hk] at h;have:(q.X-p.X)*(k.Y-q.Y)=0:=by grind
  rcases Int.mul_eq_zero.1 this with g | g <;> omega
variable {v:List Ad}
theorem Aaa(hv:Ig v){i j:Int}(hi:inN v.length i)(hj:inN v.length j)(h:i≠j):¬ Cy (plV v i) (plV v j):=fun g=>h (hv.dist i j hi hj g)
theorem Afu(a b c:Ac):crs a c b = -crs a b c:=by unfold crs;grind
theorem Apj{p q r:Ac}(hp:okP p)(hq:okP q)(hr:okP r):Lq p q r=some (decide (crs p q r=0/\Box p q r)):=by
 unfold Lq;rw[jn_d,Aab hp hq hr,Ae];have e:Int.sign (crs p q r)=0↔crs p q r=0:=Int.sign_eq_zero_iff_zero
 by_cases h:crs p q r=0
 ·rw[if_pos (e.2 h)];unfold Box
  by_cases h1:min p.X q.X<=r.X
  ·rw[if_pos h1]
   by_cases h2:r.X<=max p.X q.X
   ·rw[if_pos h2]
    by_cases h3:min p.Y q.Y<=r.Y
    ·rw[if_pos h3];simp[h,h1,h2,h3]
    ·rw[if_neg h3];simp[h3]
   ·rw[if_neg h2];simp[h2]
  ·rw[if_neg h1];simp[h1]
 ·rw[if_neg (fun g=>h (e.1 g))];simp[h]
theorem Aj4(p q:Ac):Gj p q=some (decide (befP p q)):=by
 unfold Gj befP;rw[jn_d]
 by_cases h1:p.X<q.X
 ·rw[if_pos h1];simp[h1]
 ·rw[if_neg h1]
  by_cases h2:p.X=q.X
  ·rw[if_pos h2];simp[h2]
  ·rw[if_neg h2];simp[h1,h2]
theorem Atb(p:Ac):¬ befP p p:=by unfold befP;omega
theorem Afv{p q:Ac}(h:befP p q):¬ befP q p:=by unfold befP at *;omega
theorem Ru{i:Int}(hi:inN v.length i):∃ x,idx v i=some x/\(⟨x.X,x.Y⟩:Ac)=plV v i:=by
 obtain⟨k,hk,rfl,f⟩:=Lw (v:=v) (i:=i) hi;exact⟨v[k],f,by unfold plV;rw[f]⟩
theorem first_eq(hn:v.length<=1024){f:Int}(hf:inN v.length f)(low:∀ k,inN v.length k->k=f\/befP (plV v f) (plV v k)):Ou v=some f:=by
 unfold inN at hf;unfold Ou;rw[jn_d];have:=Be (B:=Ny v) (fun s=>v.length-s.2.toNat) (fun s=>0<=s.2/\s.2<=(v.length:Int)/\inN v.length s.1/\(f<s.2->s.1=f)) (fun t=>t=f) (fun s hs=>by
  obtain⟨b,k⟩:=s;obtain⟨h1,h2,h3,h4⟩:=hs;simp only at h1 h2 h3 h4;unfold Ny;dsimp only
  by_cases hk:k<(v.length:Int)
  ·left;obtain⟨x,hx,px⟩:=Ru (v:=v) (i:=k) ⟨h1,hk⟩;obtain⟨y,hy,py⟩:=Ru (v:=v) (i:=b) h3;rw[if_pos hk,jn_d,hx,Ae,hy,Ae];unfold Au;rw[Ae,Ae,px,py,Aj4,Ae,Av oo oo]
   by_cases c:befP (plV v k) (plV v b)
   ·rw[if_pos (decide_eq_true c)];refine⟨_,rfl,⟨by dsimp only;omega,by dsimp only;omega,⟨h1,hk⟩,fun g=>?_⟩,by dsimp only;omega⟩;dsimp only at g ⊢
    by_cases e:f<k
    ·rw[h4 e] at c;rcases low k ⟨h1,hk⟩ with e2 | e2
     ·exact e2
     ·exact absurd c (Afv e2)
    ·omega
   ·rw[if_neg (by simpa using c)];refine⟨_,rfl,⟨by dsimp only;omega,by dsimp only;omega,h3,fun g=>?_⟩,by dsimp only;omega⟩;dsimp only at g ⊢
    by_cases e:f<k
    ·exact h4 e
    ·have:k=f:=oo;rcases low b h3 with e2 | e2
     ·exact e2
     ·rw[this] at c;exact absurd e2 c
  ·right;rw[if_neg hk];exact⟨_,rfl,h4 oo⟩) (0,0) ⟨s_,s_,⟨s_,by simp only;omega⟩,fun g=>by simp only at g;omega⟩
 obtain⟨t,ht,rfl⟩:=this;rw[ht,Ae]
theorem Ba9(hv:Ig v)(hn:v.length<=1024):∃ b,Qi v=some b/\(b=true↔∀ k,2<=k->inN v.length k->crs (plV v 0) (plV v 1) (plV v k)=0):=by
 unfold Qi;rw[jn_d];have:=Be (B:=Pp v) (fun s=>v.length-s.toNat) (fun s=>2<=s/\∀ k,2<=k->k<s->inN v.length k->crs (plV v 0) (plV v 1) (plV v k)=0)
  (fun t=>(t = .inl ()/\∀ k,2<=k->inN v.length k->crs (plV v 0) (plV v 1) (plV v k)=0)\/(t = .inr false/\¬ ∀ k,2<=k->inN v.length k->crs (plV v 0) (plV v 1) (plV v k)=0)) (fun s hs=>by
  obtain⟨h1,h2⟩:=hs;unfold Pp
  by_cases hk:s<(v.length:Int)
  ·have hs':inN v.length s:=⟨oo,hk⟩;have h0':inN v.length 0:=⟨oo,oo⟩;have h1':inN v.length 1:=⟨oo,oo⟩;obtain⟨x,hx,px⟩:=Ru (v:=v) h0';obtain⟨y,hy,py⟩:=Ru (v:=v) h1';obtain⟨z,hz,pz⟩:=Ru (v:=v) hs';rw[if_pos hk,hx,Ae,hy,Ae,hz,Ae];unfold Au;rw[Ae,Ae,Ae,px,py,pz,Aab (hv.ok _ h0') (hv.ok _ h1') (hv.ok _ hs'),Ae,Av oo oo];have s0:Int.sign (crs (plV v 0) (plV v 1) (plV v s))=0↔crs (plV v 0) (plV v 1) (plV v s)=0:=Int.sign_eq_zero_iff_zero
   by_cases c:crs (plV v 0) (plV v 1) (plV v s)=0
   ·left;rw[if_pos (s0.2 c)];refine⟨_,rfl,⟨oo,fun k k1 k2 k3=>?_⟩,oo⟩
    by_cases e:k=s
    ·rw[e];exact c
    ·exact h2 k k1 oo k3
   ·right;rw[if_neg (fun g=>c (s0.1 g))];exact⟨_,rfl,.inr ⟨rfl,fun g=>c (g s h1 hs')⟩⟩
  ·right;rw[if_neg hk];exact⟨_,rfl,.inl ⟨rfl,fun k k1 k2=>h2 k k1 (by have:=k2.2;omega) k2⟩⟩) 2 ⟨oo,fun k k1 k2=>oo⟩
 obtain⟨t,ht,g | g⟩:=this
 ·obtain⟨rfl,g⟩:=g;rw[ht,Ae];exact⟨true,rfl,fun _=>g,fun _=>rfl⟩
 ·obtain⟨rfl,g⟩:=g;rw[ht,Ae];exact⟨false,rfl,fun h=>(by cases h),fun h=>absurd h g⟩
end Go.Proofs.YthlkpgdfifnagaaGreat
