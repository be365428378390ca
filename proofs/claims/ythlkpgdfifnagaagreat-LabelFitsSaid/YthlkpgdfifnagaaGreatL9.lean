import Derived.Test.YthlkpgdfifnagaaGreatL1
namespace Go.Proofs.YthlkpgdfifnagaaGreat
open Go Go.RowKit List
noncomputable def apM(m:Mp):Ap:=fun i j=>mget m ⟨i,j⟩
noncomputable def putM(m:Mp)(i j k:Int):Mp:=mput (mput (mput m ⟨i,j⟩ k) ⟨j,k⟩ i) ⟨k,i⟩ j
noncomputable def cutM(m:Mp)(i j k:Int):Mp:=mdel (mdel (mdel m ⟨i,j⟩) ⟨j,k⟩) ⟨k,i⟩
noncomputable def flipM(m:Mp)(i j k l:Int):Mp:=putM (putM (cutM (cutM m i j k) j i l) i l k) j k l
theorem Iz{i j a b:Int}:(⟨a,b⟩:Ab)=⟨i,j⟩↔a=i/\b=j:=s_
theorem MapN.put{n:Nat}{m:Mp}(h:MapN n m){i j k:Int}(hi:inN n i)(hj:inN n j)(hk:inN n k):MapN n (mput m ⟨i,j⟩ k):=by
 refine⟨h.ok.put _ _,fun q hq=>?_⟩;unfold mput at hq;rcases mem_cons.1 hq with rfl | hq
 ·exact⟨hi,hj,hk⟩
 ·exact h.key q (Qf.1 hq).1
theorem MapN.del{n:Nat}{m:Mp}(h:MapN n m)(x:Ab):MapN n (mdel m x):=⟨h.ok.del _,fun q hq=>h.key q (Qf.1 hq).1⟩
theorem MapN.putM{n:Nat}{m:Mp}(h:MapN n m){i j k:Int}(hi:inN n i)(hj:inN n j)(hk:inN n k):MapN n (putM m i j k):=((h.put hi hj hk).put hj hk hi).put hk hi hj
theorem MapN.cutM{n:Nat}{m:Mp}(h:MapN n m)(i j k:Int):MapN n (cutM m i j k):=((h.del _).del _).del _
theorem Abg{m:Mp}(h:Ek m)(i j k a b:Int):apM (putM m i j k) a b=if a=k/\b=i then some j else if a=j/\b=k then some i else if a=i/\b=j then some k else apM m a b:=by
 unfold apM putM;rw[Pd ((h.put _ _).put _ _),Pd (h.put _ _),Pd h];simp only[Iz]
theorem Ok{m:Mp}(h:Ek m)(i j k a b:Int):apM (cutM m i j k) a b=if (a=k/\b=i)\/(a=j/\b=k)\/(a=i/\b=j) then none else apM m a b:=by
 unfold apM cutM;rw[Vg ((h.del _).del _),Vg (h.del _),Vg h];simp only[Iz]
 by_cases c1:a=k/\b=i
 ·simp[c1]
 ·by_cases c2:a=j/\b=k
  ·simp[c2]
  ·by_cases c3:a=i/\b=j
   ·simp[c3]
   ·simp[c1,c2,c3]
theorem Xu{m:Mp}(h:Ek m){i j k l:Int}(n1:i≠j)(n2:k≠l)(n3:k≠i)(n4:k≠j)(n5:l≠i)(n6:l≠j):apM (flipM m i j k l)=Dz (apM m) i j k l:=by
 have h1:Ek (cutM m i j k):=((h.del _).del _).del _;have h2:Ek (cutM (cutM m i j k) j i l):=((h1.del _).del _).del _;have h3:Ek (putM (cutM (cutM m i j k) j i l) i l k):=((h2.put _ _).put _ _).put _ _;funext a b;unfold flipM;rw[Abg h3,Abg h2,Ok h1,Ok h];unfold Dz
 by_cases c1:a=i/\b=l
 ·repeat first | rw[if_pos oo] | rw[if_neg oo]
 by_cases c2:a=l/\b=k
 ·repeat first | rw[if_pos oo] | rw[if_neg oo]
 by_cases c3:a=k/\b=i
 ·repeat first | rw[if_pos oo] | rw[if_neg oo]
 by_cases c4:a=j/\b=k
 ·repeat first | rw[if_pos oo] | rw[if_neg oo]
 by_cases c5:a=k/\b=l
 ·repeat first | rw[if_pos oo] | rw[if_neg oo]
 by_cases c6:a=l/\b=j
 ·repeat first | rw[if_pos oo] | rw[if_neg oo]
 by_cases c7:a=i/\b=j
 ·repeat first | rw[if_pos oo] | rw[if_neg oo]
 by_cases c8:a=j/\b=i
 ·repeat first | rw[if_pos oo] | rw[if_neg oo]
 repeat first | rw[if_pos oo] | rw[if_neg oo]
theorem p_eq{b:Aj}{i:Int}(h:inN b.v.length i):Bk b i=some (plV b.v i):=by
 unfold Bk plV;obtain⟨k,hk,rfl,e⟩:=Jn (v:=b.v) (i:=i) h;rw[e];rfl
theorem Ahm{n:Nat}(hn:n<=1024){b:Aj}(hm:MapN n b.apex){i j k:Int}(hi:inN n i)(hj:inN n j)(hk:inN n k):Eo b i j k=some ⟨b.v,putM b.apex i j k,b.fixed⟩:=by
 have hsq:=Ace hn;have l0:=hm.len;have l1:=(hm.put hi hj hk).len;have l2:=((hm.put hi hj hk).put hj hk hi).len;unfold Eo;rw[gd_t (Oq hn hi hj),gd_t oo,gd_t (Oq hn hj hk),gd_t oo,gd_t (Oq hn hk hi),gd_t oo];rfl
theorem Avq{n:Nat}(hn:n<=1024){b:Aj}{i j k:Int}(hi:inN n i)(hj:inN n j)(hk:inN n k):Kk b i j k=some ⟨b.v,cutM b.apex i j k,b.fixed⟩:=by
 unfold Kk;rw[gd_t (Oq hn hi hj),gd_t (Oq hn hj hk),gd_t (Oq hn hk hi)];rfl
theorem MapN.val{n:Nat}{m:Mp}(h:MapN n m){i j k:Int}(hk:apM m i j=some k):inN n i/\inN n j/\inN n k:=h.key _ (Fw hk)
theorem Aky{b:Aj}(hv:Cc b.v)(hn:b.v.length<=1024)(hm:MapN b.v.length b.apex){i j k l:Int}(hk:apM b.apex i j=some k)(hl:apM b.apex j i=some l):
  Cx b i j=some (if Int.sign (crs (plV b.v k) (plV b.v l) (plV b.v i))*Int.sign (crs (plV b.v k) (plV b.v l) (plV b.v j)) = -1 then (⟨b.v,flipM b.apex i j k l,b.fixed⟩,true) else (b,false)):=by
 obtain⟨vi,vj,vk⟩:=hm.val hk;obtain⟨_,_,vl⟩:=hm.val hl;have hk':mget b.apex (⟨i,j⟩:Ab)=some k:=hk;have hl':mget b.apex (⟨j,i⟩:Ab)=some l:=hl;unfold Cx;rw[gd_t (Oq hn vi vj),hk',Ad,gd_t (Oq hn vj vi),hl',Ad,jn_d];simp only[Option.getD_some,Option.isSome_some,if_true];rw[p_eq vk,Ad,p_eq vl,Ad,p_eq vi,Ad,turn_eq (hv.ok _ vk) (hv.ok _ vl) (hv.ok _ vi),Ad,Ad,Ad,p_eq vj,Ad,turn_eq (hv.ok _ vk) (hv.ok _ vl) (hv.ok _ vj),Ad,Ww]
 by_cases c:Int.sign (crs (plV b.v k) (plV b.v l) (plV b.v i))*Int.sign (crs (plV b.v k) (plV b.v l) (plV b.v j)) = -1
 ·rw[if_pos c,if_neg (by simp;omega)];have m1:=hm.cutM i j k;have m2:=m1.cutM j i l;have m3:=m2.putM vi vl vk;rw[Avq hn vi vj vk,Ad,Avq hn vj vi vl,Ad,Ahm hn m2 vi vl vk,Ad,Ahm hn m3 vj vk vl,Ad];rfl
 ·rw[if_neg c,if_pos (by simpa using Alr.2 c)]
theorem Asw{m:Mp}{x:Ab}(h:mget m x=none)(hm:Ek m):mdel m x=m:=by
 unfold mdel;rw[filter_eq_self];intro p hp;simp only[decide_eq_true_eq];intro e;have:=Qg hm hp;rw[e,h] at this;cases this
section
variable {P:Int->Aa} {H:Int->Int} {n:Nat}
noncomputable def phi(P:Int->Aa)(H:Int->Int)(n:Nat)(m:Mp):Nat:=(m.map fun q=>cnf P H n q.1.a0 q.1.a1 q.2).sum
theorem Akz{m:Mp}(hm:Ek m){i j k:Int}(h:mget m ⟨i,j⟩=some k):phi P H n m=cnf P H n i j k+phi P H n (mdel m ⟨i,j⟩):=by
 have hp:=Aj0 hm (Fw h);unfold phi;rw[(hp.map _).sum_nat,map_cons,sum_cons]
theorem Ak0{m:Mp}(hm:Ek m){i j k:Int}(h:mget m ⟨i,j⟩=none):phi P H n (mput m ⟨i,j⟩ k)=cnf P H n i j k+phi P H n m:=by
 unfold mput;rw[Asw h hm];unfold phi;rw[map_cons,sum_cons]
theorem Avr:∀ m:Mp,phi P H n m<=m.length*n
 | []=>by simp[phi]
 | q::r=>by
  have h1:=Avr r;have h2:=Bcs (P:=P) (H:=H) (n:=n) q.1.a0 q.1.a1 q.2;unfold phi at *;rw[map_cons,sum_cons,length_cons,Nat.add_mul];omega
theorem Aqu{m:Mp}(hm:Ek m){i j k:Int}(n1:i≠j)(n2:j≠k)(n3:k≠i)(h1:apM m i j=some k)(h2:apM m j k=some i)(h3:apM m k i=some j):phi P H n m=3*cnf P H n i j k+phi P H n (cutM m i j k):=by
 have g1:mget (mdel m ⟨i,j⟩) ⟨j,k⟩=some i:=by rw[Vg hm,Iz,if_neg oo];exact h2
 have g2:mget (mdel (mdel m ⟨i,j⟩) ⟨j,k⟩) ⟨k,i⟩=some j:=by rw[Vg (hm.del _),Vg hm,Iz,Iz,if_neg oo,if_neg oo];exact h3
 rw[Akz hm h1,Akz (hm.del _) g1,Akz ((hm.del _).del _) g2,Yx,Yx (P:=P) (H:=H) (n:=n) j k i,Yx];unfold cutM;omega
theorem Amy{m:Mp}(hm:Ek m){i j k:Int}(n1:i≠j)(n2:j≠k)(n3:k≠i)(h1:apM m i j=none)(h2:apM m j k=none)(h3:apM m k i=none):phi P H n (putM m i j k)=3*cnf P H n i j k+phi P H n m:=by
 have g1:mget (mput m ⟨i,j⟩ k) ⟨j,k⟩=none:=by rw[Pd hm,Iz,if_neg oo];exact h2
 have g2:mget (mput (mput m ⟨i,j⟩ k) ⟨j,k⟩ i) ⟨k,i⟩=none:=by rw[Pd (hm.put _ _),Pd hm,Iz,Iz,if_neg oo,if_neg oo];exact h3
 unfold putM;rw[Ak0 ((hm.put _ _).put _ _) g2,Ak0 (hm.put _ _) g1,Ak0 hm h1,Yx (P:=P) (H:=H) (n:=n) i j k,Yx (P:=P) (H:=H) (n:=n) k i j,<- Yx (P:=P) (H:=H) (n:=n) k i j];have e:=Yx (P:=P) (H:=H) (n:=n) k i j;omega
theorem Amz{m:Mp}(hm:Ek m){i j k l:Int}(hcv:Ah1 P H (inN n))(q:Quad P (inN n) (apM m) i j k l)(hQ:0<DH P H i j k l):phi P H n (flipM m i j k l)<phi P H n m:=by
 obtain⟨n1,n2,n3,n4,n5,n6⟩:=q.ne;obtain⟨f1,f2⟩:=q.fresh;have h1:Ek (cutM m i j k):=((hm.del _).del _).del _;have h2:Ek (cutM (cutM m i j k) j i l):=((h1.del _).del _).del _;have h3:Ek (putM (cutM (cutM m i j k) j i l) i l k):=((h2.put _ _).put _ _).put _ _;have a1:=q.tri.rot _ _ _ q.hk;have a2:=q.tri.rot2 q.hk;have a3:=q.tri.rot _ _ _ q.hl;have a4:=q.tri.rot2 q.hl;have e1:=Aqu (P:=P) (H:=H) (n:=n) hm n1 (fun e=>n4 e.symm) n3 q.hk a1 a2;have e2:=Aqu (P:=P) (H:=H) (n:=n) h1 (i:=j) (j:=i) (k:=l) n1.symm (fun e=>n5 e.symm) n6 (by rw[Ok hm,if_neg oo];exact q.hl) (by rw[Ok hm,if_neg oo];exact a3) (by rw[Ok hm,if_neg oo];exact a4);have e3:=Amy (P:=P) (H:=H) (n:=n) h2 (i:=i) (j:=l) (k:=k) (fun e=>n5 e.symm) n2.symm n3
  (by rw[Ok h1,if_pos oo]) (by rw[Ok h1,if_neg oo,Ok hm,if_neg oo];exact f2) (by rw[Ok h1,if_neg oo,Ok hm,if_pos oo])
 have e4:=Amy (P:=P) (H:=H) (n:=n) h3 (i:=j) (j:=k) (k:=l) (fun e=>n4 e.symm) n2 n6
  (by rw[Abg h2,if_neg oo,if_neg oo,if_neg oo,Ok h1,if_neg oo,Ok hm,if_pos oo])
  (by rw[Abg h2,if_neg oo,if_neg oo,if_neg oo,Ok h1,if_neg oo,Ok hm,if_neg oo];exact f1)
  (by rw[Abg h2,if_neg oo,if_neg oo,if_neg oo,Ok h1,if_pos oo])
 have:=q.cnf_lt hcv hQ;unfold flipM;omega
end
theorem Ay3(hi hj hk hl:Int)(i j k l:Aa):Dt hk hl hj hi k l j i = -Dt hi hj hk hl i j k l:=by unfold Dt crs;grind
noncomputable def Fx(F:List (Ab × Bool))(i j:Int):Bool:=(mget F ⟨min i j,max i j⟩).getD false
def pr2(i j:Int):Ab:=⟨min i j,max i j⟩
theorem Nu(i j:Int):pr2 i j=pr2 j i:=by unfold pr2;rw[Int.min_comm,Int.max_comm]
theorem Ahn{i j a b:Int}(h:pr2 i j=pr2 a b):(i=a/\j=b)\/(i=b/\j=a):=by
 unfold pr2 at h;rw[Iz] at h;omega
structure Nv(v:List Ac)(F:List (Ab × Bool))(q:List Ab)(m:Mp):Prop where
 map:MapN v.length m
 tri:Tri (plV v) (inN v.length) (apM m)
 qn:∀ s∈q,inN v.length s.a0/\inN v.length s.a1/\s.a0<=s.a1
 pend:∀ i j k l,apM m i j=some k->apM m j i=some l->pr2 i j∈q\/Fx F i j=true\/DH (plV v) (hV v) i j k l<0
theorem Nv.pop{v F q s m}(h:Nv v F (q++[s]) m)(hs:∀ k l,apM m s.a0 s.a1=some k->apM m s.a1 s.a0=some l->Fx F s.a0 s.a1=true\/DH (plV v) (hV v) s.a0 s.a1 k l<0):Nv v F q m:=by
 have hq:=(h.qn s s_).2.2;refine⟨h.map,h.tri,fun x hx=>h.qn x (mem_append_left _ hx),fun i j k l hk hl=>?_⟩;rcases h.pend i j k l hk hl with g | g
 ·rcases mem_append.1 g with g | g
  ·exact .inl g
  ·rw[mem_singleton] at g;right;have e:pr2 s.a0 s.a1=s:=by
    obtain⟨x,y⟩:=s;unfold pr2;rw[Iz];simp only at hq ⊢;omega
   rw[<- e] at g;rcases Ahn g with⟨e1,e2⟩|⟨e1,e2⟩
   ·subst e1;subst e2;exact hs k l hk hl
   ·subst e1;subst e2;rcases hs l k hl hk with t | t
    ·left;unfold Fx at *;rw[Int.min_comm,Int.max_comm];exact t
    ·right;rw[<- Quad.swapQ];exact t
 ·exact .inr g
theorem Ak1{v:List Ac}{m:Mp}(hv:Cc v)(ht:Tri (plV v) (inN v.length) (apM m)){i j k l:Int}(hk:apM m i j=some k)(hl:apM m j i=some l)(hD:¬ DH (plV v) (hV v) i j k l<0):Quad (plV v) (inN v.length) (apM m) i j k l:=by
 obtain⟨vi,vj,vk,ck⟩:=ht.ccw _ _ _ hk;obtain⟨_,_,vl,cl⟩:=ht.ccw _ _ _ hl;have c0:crs (plV v i) (plV v j) (plV v l)<0:=by rw[Bb];omega
 refine⟨ht,hk,hl,?_,?_⟩
 ·rw[Ar];rcases Int.lt_or_le 0 (crs (plV v k) (plV v i) (plV v l)) with g | g
  ·exact g
  ·exact absurd (Tu hv i j k l vi vj vk vl ck c0 (.inr g)) hD
 ·rcases Int.lt_or_le 0 (crs (plV v j) (plV v k) (plV v l)) with g | g
  ·exact g
  ·exact absurd (Tu hv i j k l vi vj vk vl ck c0 (.inl g)) hD
theorem Nv.flip{v F q s m}(hv:Cc v)(h:Nv v F (q++[s]) m){k l:Int}(hk:apM m s.a0 s.a1=some k)(hl:apM m s.a1 s.a0=some l)(hD:¬ DH (plV v) (hV v) s.a0 s.a1 k l<0):
  Nv v F (q++[pr2 s.a0 k,pr2 k s.a1,pr2 s.a1 l,pr2 l s.a0]) (flipM m s.a0 s.a1 k l):=by
 have Q:=Ak1 hv h.tri hk hl hD;obtain⟨n1,n2,n3,n4,n5,n6⟩:=Q.ne;obtain⟨vi,vj,vk,ck⟩:=h.tri.ccw _ _ _ hk;obtain⟨_,_,vl,cl⟩:=h.tri.ccw _ _ _ hl;have hf:=Xu h.map.ok n1 n2 n3 n4 n5 n6;have hq:=(h.qn s s_).2.2;have es:pr2 s.a0 s.a1=s:=by
  obtain⟨x,y⟩:=s;unfold pr2;rw[Iz];simp only at hq ⊢;omega
 have hD2:0<DH (plV v) (hV v) s.a0 s.a1 k l:=by
  have:=(Aeq hv vi vj vk vl ck (by rw[Bb];omega)).2;omega
 refine⟨?_,by rw[hf];exact Q.flip,fun x hx=>?_,fun a b c d hc hd=>?_⟩
 ·have m1:=h.map.cutM s.a0 s.a1 k;have m2:=m1.cutM s.a1 s.a0 l;exact (m2.putM vi vl vk).putM vj vk vl
 ·rcases mem_append.1 hx with hx | hx
  ·exact h.qn x (mem_append_left _ hx)
  ·have key:∀ i j,inN v.length i->inN v.length j->inN v.length (pr2 i j).a0/\inN v.length (pr2 i j).a1/\(pr2 i j).a0<=(pr2 i j).a1:=fun i j h1 h2=>by
    unfold pr2 inN at *;simp only;omega
   simp only[mem_cons,not_mem_nil,or_false] at hx;rcases hx with rfl | rfl | rfl | rfl
   ·exact key _ _ vi vk
   ·exact key _ _ vk vj
   ·exact key _ _ vj vl
   ·exact key _ _ vl vi
 ·rw[hf] at hc hd;have mem:∀ x,x∈[pr2 s.a0 k,pr2 k s.a1,pr2 s.a1 l,pr2 l s.a0]->x∈q++[pr2 s.a0 k,pr2 k s.a1,pr2 s.a1 l,pr2 l s.a0]:=fun x hx=>mem_append_right _ hx
  have dg:DH (plV v) (hV v) k l s.a1 s.a0<0:=by
   unfold DH at hD2 ⊢;rw[Ay3];omega
  have outer:∀ a b c,Dz (apM m) s.a0 s.a1 k l a b=some c->(pr2 a b∈[pr2 s.a0 k,pr2 k s.a1,pr2 s.a1 l,pr2 l s.a0])\/(a=l/\b=k/\c=s.a0)\/(a=k/\b=l/\c=s.a1) \/
    (apM m a b=some c/\¬ (a=s.a0/\b=l)/\¬ (a=l/\b=k)/\¬ (a=k/\b=s.a0)/\¬ (a=s.a1/\b=k)/\¬ (a=k/\b=l)/\¬ (a=l/\b=s.a1)/\¬ (a=s.a0/\b=s.a1)/\¬ (a=s.a1/\b=s.a0)):=by
   intro a b c hc;rcases Qo hc with⟨e1,e2,_⟩ | g | ⟨e1,e2,_⟩|⟨e1,e2,_⟩ | g | ⟨e1,e2,_⟩ | g
   ·left;rw[Nu a b,e1,e2];simp
   ·exact .inr (.inl g)
   ·left;rw[Nu a b,e1,e2];simp
   ·left;rw[Nu a b,e1,e2];simp
   ·exact .inr (.inr (.inl g))
   ·left;rw[Nu a b,e1,e2];simp
   ·exact .inr (.inr (.inr g))
  rcases outer a b c hc with g | ⟨rfl,rfl,rfl⟩|⟨rfl,rfl,rfl⟩|⟨g0,g⟩
  ·exact .inl (mem _ g)
  ·rw[Ara n3 n2 n4 n5] at hd;obtain rfl:=Option.some.inj hd;right;right;rw[Quad.swapQ (P:=plV v) (H:=hV v)];exact dg
  ·rw[Aq9 n5] at hd;obtain rfl:=Option.some.inj hd;exact .inr (.inr dg)
  ·rcases outer b a d hd with g' | ⟨e1,e2,_⟩|⟨e1,e2,_⟩|⟨g0',g'⟩
   ·left;rw[Nu a b];exact mem _ g'
   ·omega
   ·omega
   ·rcases h.pend a b c d g0 g0' with t | t
    ·rcases mem_append.1 t with t | t
     ·exact .inl (mem_append_left _ t)
     ·rw[mem_singleton,<- es] at t;rcases Ahn t with⟨e1,e2⟩|⟨e1,e2⟩ <;> omega
    ·exact .inr t
structure Su(v:List Ac)(F:List (Ab × Bool))(m m':Mp):Prop where
 cov:∀ S:Int->Prop,Cov (plV v) S (apM m)->Cov (plV v) S (apM m')
 fix:∀ i j,Fx F i j=true->(apM m i j≠none\/apM m j i≠none)->(apM m' i j≠none\/apM m' j i≠none)
 ne:m≠[]->m'≠[]
theorem Su.refl{v F m}:Su v F m m:=⟨fun _ h=>h,fun _ _ _ h=>h,fun h=>h⟩
theorem Su.trans{v F m m' m''}(h:Su v F m m')(k:Su v F m' m''):Su v F m m'':=⟨fun S h1=>k.cov S (h.cov S h1),fun i j h1 h2=>k.fix i j h1 (h.fix i j h1 h2),fun h1=>k.ne (h.ne h1)⟩
theorem Aqv{F:List (Ab × Bool)}{i j:Int}:Fx F j i=Fx F i j:=by unfold Fx;rw[Int.min_comm,Int.max_comm]
theorem Am0{v F q s m}(hv:Cc v)(hn:v.length<=1024)(h:Nv v F (q++[s]) m)(hq:q.length<=5000000000):
  ∃ q' m',Dk (v,m,F,q++[s])=some (.inl (v,m',F,q'))/\Nv v F q' m'/\Su v F m m'/\((m'=m/\q'=q)\/(phi (plV v) (hV v) v.length m'<phi (plV v) (hV v) v.length m/\q'.length=q.length+4)):=by
 obtain⟨k1,k2,k3⟩:=h.qn s s_;have es:pr2 s.a0 s.a1=s:=by
  obtain⟨x,y⟩:=s;unfold pr2;rw[Iz];simp only at k3 ⊢;omega
 have hw:w64 ((((q++[s]).length:Nat):Int)-1)=(q.length:Int):=by rw[length_append,length_singleton,As oo oo];omega
 have hi:idx (q++[s]) (q.length:Int)=some s:=(At s_).trans s_;have ht:List.take (Int.toNat (q.length:Int)) (q++[s])=q:=s_;have e0:Dk (v,m,F,q++[s]) =
   (fun j18:List Ab × Bool->Option (Sum (List Ac × Mp × List (Ab × Bool) × List Ab) Aj)=>if ((mget m s).isSome)=true then (if ((mget m ((⟨s.a1,s.a0⟩:Ab))).isSome)=true then (
    if (mget F s).getD false=true then (j18 (q,true))
    else (bnd (To (plV v s.a0) (plV v s.a1) (plV v ((mget m s).getD 0)) (plV v ((mget m ((⟨s.a1,s.a0⟩:Ab))).getD 0))) fun r169=>j18 (q,r169)))
   else (j18 (q,true))) else (j18 (q,true)))
   (fun s18=>if s18.2=true then (some (.inl (v,m,F,s18.1)))
    else (bnd (Cx (⟨v,m,F⟩:Aj) s.a0 s.a1) fun r185=>
    if r185.2=true then (gd ((s18.1.length+4)*16<=140737488355328)<|
     some (.inl (r185.1.v,r185.1.apex,r185.1.fixed,s18.1++[pr2 s.a0 ((mget m s).getD 0),pr2 ((mget m s).getD 0) s.a1,pr2 s.a1 ((mget m ((⟨s.a1,s.a0⟩:Ab))).getD 0),pr2 ((mget m ((⟨s.a1,s.a0⟩:Ab))).getD 0) s.a0])))
    else (some (.inl (r185.1.v,r185.1.apex,r185.1.fixed,s18.1))))):=by
  unfold Dk;simp only[hw];rw[if_pos s_,hi,Ad,gd_t (by simp;omega),gd_t (Oq hn k1 k2),Ad,gd_t (Oq hn k2 k1),Ad,jn_d,ht]
  by_cases c1:(mget m s).isSome=true
  ·rw[if_pos c1,if_pos c1]
   by_cases c2:(mget m (⟨s.a1,s.a0⟩:Ab)).isSome=true
   ·rw[if_pos c2,if_pos c2,gd_t (Oq hn k1 k2),Ad];obtain⟨k,hk⟩:=Option.isSome_iff_exists.1 c1;obtain⟨l,hl⟩:=Option.isSome_iff_exists.1 c2;have hk':apM m s.a0 s.a1=some k:=hk;have vk:=(h.map.val hk').2.2;have vl:=(h.map.val (show apM m s.a1 s.a0=some l from hl)).2.2;rw[p_eq (b:=⟨v,m,F⟩) k1,Ad,p_eq (b:=⟨v,m,F⟩) k2,Ad,hk,hl];simp only[Option.getD_some];rw[p_eq (b:=⟨v,m,F⟩) vk,Ad,p_eq (b:=⟨v,m,F⟩) vl,Ad];rfl
   ·rw[if_neg c2,if_neg c2];rfl
  ·rw[if_neg c1,if_neg c1];rfl
 rw[e0];dsimp only;have pop:(∀ k l,apM m s.a0 s.a1=some k->apM m s.a1 s.a0=some l->Fx F s.a0 s.a1=true\/DH (plV v) (hV v) s.a0 s.a1 k l<0) ->
   ∃ q' m',some (Sum.inl (v,m,F,q))=some (Sum.inl (β:=Aj) (v,m',F,q'))/\Nv v F q' m'/\Su v F m m'/\((m'=m/\q'=q)\/(phi (plV v) (hV v) v.length m'<phi (plV v) (hV v) v.length m/\q'.length=q.length+4)):=
  fun hs=>⟨q,m,rfl,h.pop hs,.refl,.inl ⟨rfl,rfl⟩⟩
 by_cases c1:(mget m s).isSome=true
 ·obtain⟨k,hk⟩:=Option.isSome_iff_exists.1 c1;have hk':apM m s.a0 s.a1=some k:=hk;rw[if_pos c1]
  by_cases c2:(mget m (⟨s.a1,s.a0⟩:Ab)).isSome=true
  ·obtain⟨l,hl⟩:=Option.isSome_iff_exists.1 c2;have hl':apM m s.a1 s.a0=some l:=hl;rw[if_pos c2];have hF:Fx F s.a0 s.a1=(mget F s).getD false:=by
    show (mget F (pr2 s.a0 s.a1)).getD false=_;rw[es]
   by_cases c3:(mget F s).getD false=true
   ·rw[if_pos c3];exact pop fun _ _ _ _=>.inl (by rw[hF];exact c3)
   ·rw[if_neg c3,hk,hl];simp only[Option.getD_some];obtain⟨vi,vj,vk,ck⟩:=h.tri.ccw _ _ _ hk';obtain⟨_,_,vl,cl⟩:=h.tri.ccw _ _ _ hl';have c0:crs (plV v s.a0) (plV v s.a1) (plV v l)<0:=by rw[Bb];omega
    obtain⟨hleg,hne⟩:=Aeq hv vi vj vk vl ck c0;have hsd:Int.sign (crs (plV v s.a0) (plV v s.a1) (plV v k))*Int.sign (crs (plV v s.a0) (plV v s.a1) (plV v l)) = -1:=by rw[Aex];exact .inr ⟨ck,c0⟩
    obtain⟨d1,d2,d3,d4⟩:=Als hsd;rw[Ax9 (hv.ok _ vi) (hv.ok _ vj) (hv.ok _ vk) (hv.ok _ vl) d1 d2 d3 d4,Ad]
    by_cases c4:legP (plV v s.a0) (plV v s.a1) (plV v k) (plV v l)
    ·rw[decide_eq_true c4,if_pos rfl];refine pop fun k' l' hk2 hl2=>.inr ?_
     rw[hk'] at hk2;rw[hl'] at hl2;cases hk2;cases hl2
     exact hleg.1 c4
    ·rw[decide_eq_false c4,if_neg s_];have hD:¬ DH (plV v) (hV v) s.a0 s.a1 k l<0:=fun g=>c4 (hleg.2 g)
     have Q:=Ak1 hv h.tri hk' hl' hD;have hs:Int.sign (crs (plV v k) (plV v l) (plV v s.a0))*Int.sign (crs (plV v k) (plV v l) (plV v s.a1)) = -1:=by
      rw[Aex];left;refine⟨?_,by rw[Ar];exact Q.c2⟩;have e:crs (plV v k) (plV v l) (plV v s.a0) = -crs (plV v s.a0) (plV v l) (plV v k):=by unfold crs;grind
      have:=Q.c1;omega
     rw[Aky (b:=⟨v,m,F⟩) hv hn h.map hk' hl',if_pos hs,Ad];simp only[if_true];rw[gd_t oo];obtain⟨n1,n2,n3,n4,n5,n6⟩:=Q.ne;refine⟨_,_,rfl,h.flip hv hk' hl' hD,⟨fun S hc=>?_,fun a b hF2 hab=>?_,fun _=>by simp[flipM,putM,mput]⟩,.inr ⟨Amz h.map.ok (Tu hv) Q oo,s_⟩⟩
     ·rw[Xu h.map.ok n1 n2 n3 n4 n5 n6];exact Q.cov hc
     ·rw[Xu h.map.ok n1 n2 n3 n4 n5 n6];have nf:∀ a b,Fx F a b=true->¬ ((a=s.a0/\b=s.a1)\/(a=s.a1/\b=s.a0)):=fun a b hab e=>by
       rcases e with⟨e1,e2⟩|⟨e1,e2⟩
       ·rw[e1,e2,hF] at hab;exact c3 hab
       ·rw[e1,e2,Aqv,hF] at hab;exact c3 hab
      rcases hab with g | g
      ·left;intro e;rcases Yc e with t | t
       ·exact g t
       ·exact nf a b hF2 t
      ·right;intro e;rcases Yc e with t | t
       ·exact g t
       ·exact nf b a (by rw[Aqv];exact hF2) t
  ·rw[if_neg c2];refine pop fun k' l' _ hl2=>?_
   exact absurd (by rw[show mget m (⟨s.a1,s.a0⟩:Ab)=some l' from hl2];rfl) c2
 ·rw[if_neg c1];refine pop fun k' l' hk2 _=>?_
  exact absurd (by rw[show mget m s=some k' from hk2];rfl) c1
theorem Asx{b:Aj}(hv:Cc b.v)(hn:b.v.length<=1024)(hm:MapN b.v.length b.apex)(ht:Tri (plV b.v) (inN b.v.length) (apM b.apex)):
  ∃ m',Jo b=some ⟨b.v,m',b.fixed⟩/\Nv b.v b.fixed [] m'/\Su b.v b.fixed b.apex m':=by
 have hsq:=Ace hn;have hl:=hm.len;have hf:∀ q,(Il b.apex q).length<=1:=fun q=>by unfold Il;split <;> simp
 have h0:Nv b.v b.fixed (Az cmp2 (b.apex.flatMap (Il b.apex))) b.apex:=by
  refine⟨hm,ht,fun s hs=>?_,fun i j k l hk hl=>.inl ?_⟩
  ·rw[Ia] at hs;obtain⟨q,hq,hs⟩:=mem_flatMap.1 hs;obtain⟨k1,k2,k3⟩:=hm.key q hq;unfold Il at hs;split at hs
   ·rw[mem_singleton] at hs;subst hs;unfold inN at *;simp only;omega
   ·cases hs
  ·rw[Ia,mem_flatMap];have n1:=(ht.ne hk).1;rcases Int.lt_or_gt_of_ne n1 with c | c
   ·refine⟨(⟨i,j⟩,k),Fw hk,?_⟩;unfold Il pr2;rw[if_pos (.inl c)];exact mem_singleton.2 rfl
   ·refine⟨(⟨j,i⟩,l),Fw hl,?_⟩;unfold Il;rw[if_pos (.inl c),Nu];exact mem_singleton.2 rfl
 unfold Jo;rw[Anm hn hm,Ad];have hlen:(Az cmp2 (b.apex.flatMap (Il b.apex))).length<=1048576:=by
  rw[Dh];have:=Iu hf b.apex;omega
 have hphi:phi (plV b.v) (hV b.v) b.v.length b.apex<=1073741824:=by
  have h1:=Avr (P:=plV b.v) (H:=hV b.v) (n:=b.v.length) b.apex;have h2:=Nat.mul_le_mul (show b.apex.length<=1048576 by omega) hn;omega
 have:=Bn (B:=Dk) (fun s=>4*phi (plV b.v) (hV b.v) b.v.length s.2.1+s.2.2.2.length)
  (fun s=>s.1=b.v/\s.2.2.1=b.fixed/\Nv b.v b.fixed s.2.2.2 s.2.1/\Su b.v b.fixed b.apex s.2.1/\4*phi (plV b.v) (hV b.v) b.v.length s.2.1+s.2.2.2.length<=5000000000)
  (fun t=>∃ m',t=⟨b.v,m',b.fixed⟩/\Nv b.v b.fixed [] m'/\Su b.v b.fixed b.apex m') (fun s hs=>by
   obtain⟨v,m,F,q⟩:=s;obtain⟨e1,e2,h1,h2,h3⟩:=hs;simp only at e1 e2 h1 h2 h3;subst e1;subst e2
   by_cases hq:q=[]
   ·subst hq;right;refine⟨⟨b.v,m,b.fixed⟩,?_,m,rfl,h1,h2⟩;unfold Dk;rw[if_neg s_]
   ·left;obtain⟨q0,s,rfl⟩:∃ q0 s,q=q0++[s]:=⟨q.dropLast,q.getLast hq,(dropLast_concat_getLast hq).symm⟩;rw[length_append,length_singleton] at h3;obtain⟨q',m',h4,h5,h6,h7⟩:=Am0 hv hn h1 oo;refine⟨_,h4,⟨rfl,rfl,h5,h2.trans h6,?_⟩,?_⟩
    ·dsimp only;rcases h7 with⟨rfl,rfl⟩|⟨g1,g2⟩ <;> omega
    ·dsimp only;rw[length_append,length_singleton];rcases h7 with⟨rfl,rfl⟩|⟨g1,g2⟩ <;> omega)
  (b.v,b.apex,b.fixed,Az cmp2 (b.apex.flatMap (Il b.apex))) ⟨rfl,rfl,h0,.refl,by dsimp only;omega⟩
 obtain⟨t,h1,m',rfl,h2,h3⟩:=this;rw[h1,Ad];exact⟨m',rfl,h2,h3⟩
theorem Acy{σ τ:Type}{B:σ->Option (Sum σ τ)}(st:Nat->σ)(t:τ):∀ (N:Nat),(∀ k,k<N->B (st k)=some (.inl (st (k+1))))->B (st N)=some (.inr t)->lfix B (st 0)=some t:=by
 intro N h he;have key:∀ j k,j+k=N->lfix B (st k)=some t:=by
  intro j
  induction j with
  | zero=>
   intro k hk;rw[Bg,show k=N by omega,he]
  | succ j ih=>
   intro k hk;rw[Bg,h k oo];exact ih (k+1) oo
 exact key N 0 oo
theorem Ay4{v:List Ac}{i j:Nat}(hi:i<v.length)(hj:j<v.length):befV v[i] v[j]↔befP (plV v (i:Int)) (plV v (j:Int)):=by
 unfold plV;rw[At hi,At hj];rfl
theorem Aix{v:List Ac}(hv:Cc v):Gy v:=by
 unfold Gy;rw[pairwise_iff_getElem];intro i j hi hj hij hs;have:=hv.dist (i:Int) (j:Int) ⟨oo,oo⟩ ⟨oo,oo⟩ (by
  unfold plV Bx;rw[At hi,At hj];exact hs)
 omega
structure Px(v:List Ac)(l:List Int):Prop where
 perm:l.Perm (inds v.length)
 ord:l.Pairwise fun i j=>befP (plV v i) (plV v j)
theorem Am1{v:List Ac}(hv:Cc v)(hn:v.length<=1024):∃ l,Tw v=some l/\Px v l:=by
 have hd:=Aix hv;have h0:lfix (Rv v) (([]:List Int),0)=some (inds v.length):=by
  refine Acy (fun k=>(inds k,(k:Int))) _ v.length (fun k hk=>?_) ?_
  ·unfold Rv;rw[if_pos (by simp only;omega),gd_t (by simp only[Yd];omega),Bd oo];unfold inds;rw[range_succ,map_append];rfl
  ·unfold Rv;rw[if_neg (by simp only;omega)]
 have hok:∀ x∈inds v.length,okIx v x:=fun x hx=>Sz.1 hx
 refine⟨Az (cmpR v) (inds v.length),?_,Du _ _,?_⟩
 ·unfold Tw;rw[jn_d,h0,Ad];exact gd_t ⟨by rw[Yd];omega,hok,hd⟩
 ·have hs:=Na (totR hd) hok;have hp:=Du (cmpR v) (inds v.length);have hnd:(Az (cmpR v) (inds v.length)).Nodup:=hp.nodup_iff.2 Wd;unfold List.Nodup at hnd;have:=hs.and hnd;refine List.Pairwise.imp_of_mem ?_ this;rintro i j hi hj ⟨h1,h2⟩;obtain⟨a,ha,rfl,_⟩:=Jn (hok i (hp.mem_iff.1 hi));obtain⟨b,hb,rfl,_⟩:=Jn (hok j (hp.mem_iff.1 hj));rw[<- Ay4 ha hb]
  by_cases c:befV v[a] v[b]
  ·exact c
  ·rw[Uw hb ha] at h1;exfalso;apply h2;have:=(totR hd).tot (a:Int) (b:Int) ⟨oo,oo⟩ ⟨oo,oo⟩ (by rw[Uw ha hb];exact c) (by rw[Uw hb ha];exact h1);exact this
noncomputable def putAll(m:Mp)(p:Int)(l:List Ab):Mp:=l.foldl (fun m s=>putM m s.a0 s.a1 p) m
theorem MapN.putAll{n:Nat}{p:Int}(hp:inN n p):∀ {l:List Ab} {m:Mp},MapN n m->(∀ s∈l,inN n s.a0/\inN n s.a1)->MapN n (putAll m p l)
 | [],_,h,_=>h
 | s::r,m,h,hs=>MapN.putAll hp (l:=r) (h.putM (hs s mem_cons_self).1 (hs s mem_cons_self).2 hp) fun x hx=>hs x (mem_cons_of_mem _ hx)
variable {P:Int->Aa} {V S:Int->Prop} {R:Int->Int->Prop} {p:Int}
theorem Ajn{m:Mp}(hm:Ek m)(h:Adds P V S (apM m) R p):∀ (l:List Ab),(∀ s∈l,Vis P R p s.a0 s.a1)->Ek (putAll m p l) /\
  ∀ i j k,apM (putAll m p l) i j=some k↔apM m i j=some k\/((⟨i,j⟩∈l/\k=p)\/(⟨k,i⟩∈l/\j=p)\/(⟨j,k⟩∈l/\i=p)):=by
 intro l;generalize hr:l.reverse=r;have hl:l=r.reverse:=by rw[<- hr,reverse_reverse]
 clear hr;subst hl
 induction r with
 | nil=>intro _;exact⟨hm,fun i j k=>by simp[putAll]⟩
 | cons s r ih=>
  intro hs;have hs':∀ x∈r.reverse,Vis P R p x.a0 x.a1:=fun x hx=>hs x (by simp at hx ⊢;exact .inl hx)
  have hv:=hs s s_;obtain⟨i1,i2⟩:=ih hs';obtain⟨sx,sy,nxy,_⟩:=h.r1 _ _ hv.1;have np:=h.np;have e:putAll m p (s::r).reverse=putM (putAll m p r.reverse) s.a0 s.a1 p:=by
   unfold putAll;rw[reverse_cons,foldl_append];rfl
  rw[e];refine⟨((i1.put _ _).put _ _).put _ _,fun i j k=>?_⟩;rw[Abg i1];have visS:∀ {x y:Int},(⟨x,y⟩:Ab)∈r.reverse->Vis P R p x y:=fun hx=>hs' _ hx
  have k1:∀ c,apM (putAll m p r.reverse) p s.a0=some c->c=s.a1:=fun c hc=>by
   rcases (i2 _ _ _).1 hc with g | ⟨g,_⟩|⟨g,_⟩|⟨g,_⟩
   ·exact absurd (h.used _ _ _ g) np
   ·exact absurd (h.r1 _ _ (visS g).1).1 np
   ·exact absurd (h.r1 _ _ (visS g).1).2.1 np
   ·exact h.uniq2 (visS g) hv
  have k2:∀ c,apM (putAll m p r.reverse) s.a1 p=some c->c=s.a0:=fun c hc=>by
   rcases (i2 _ _ _).1 hc with g | ⟨g,_⟩|⟨g,_⟩|⟨g,e⟩
   ·exact absurd (h.used _ _ _ (h.tri.rot _ _ _ g)) np
   ·exact absurd (h.r1 _ _ (visS g).1).2.1 np
   ·exact h.uniq (visS g) hv
   ·exact absurd (e ▸ sy) np
  have k3:∀ c,apM (putAll m p r.reverse) s.a0 s.a1=some c->c=p:=fun c hc=>by
   rcases (i2 _ _ _).1 hc with g | ⟨_,g⟩|⟨_,e⟩|⟨_,e⟩
   ·rw[h.r4 _ _ hv.1] at g;cases g
   ·exact g
   ·exact absurd (e ▸ sy) np
   ·exact absurd (e ▸ sx) np
  have mem:∀ x y:Int,(⟨x,y⟩:Ab)∈(s::r).reverse↔(x=s.a0/\y=s.a1)\/(⟨x,y⟩:Ab)∈r.reverse:=fun x y=>by
   obtain⟨s0,s1⟩:=s;rw[reverse_cons,mem_append,mem_singleton,Iz];exact Or.comm
  rw[mem,mem,mem];have i2':=i2 i j k
  by_cases c1:i=p/\j=s.a0
  ·rw[if_pos c1];obtain⟨rfl,rfl⟩:=c1;constructor
   ·intro hk;cases hk
    exact .inr (.inr (.inr ⟨.inl ⟨rfl,rfl⟩,rfl⟩))
   ·rintro (g | ⟨⟨e1,_⟩ | g,e⟩|⟨⟨_,e2⟩ | g,e⟩|⟨⟨_,e2⟩ | g,_⟩)
    ·exact absurd (h.used _ _ _ g) np
    ·exact absurd (e1 ▸ sx) np
    ·exact absurd (h.r1 _ _ (visS g).1).1 np
    ·exact absurd (e2 ▸ sy) np
    ·exact absurd (h.r1 _ _ (visS g).1).2.1 np
    ·rw[e2]
    ·rw[h.uniq2 hv (visS g)]
  rw[if_neg c1]
  by_cases c2:i=s.a1/\j=p
  ·rw[if_pos c2];obtain⟨rfl,rfl⟩:=c2;constructor
   ·intro hk;cases hk
    exact .inr (.inr (.inl ⟨.inl ⟨rfl,rfl⟩,rfl⟩))
   ·rintro (g | ⟨⟨_,e1⟩ | g,e⟩|⟨⟨e1,_⟩ | g,e⟩|⟨⟨e1,_⟩ | g,e⟩)
    ·exact absurd (h.used _ _ _ (h.tri.rot _ _ _ g)) np
    ·exact absurd (e1 ▸ sy) np
    ·exact absurd (h.r1 _ _ (visS g).1).2.1 np
    ·rw[e1]
    ·rw[h.uniq hv (visS g)]
    ·exact absurd (e ▸ sy) np
    ·exact absurd (e ▸ sy) np
  rw[if_neg c2]
  by_cases c3:i=s.a0/\j=s.a1
  ·rw[if_pos c3];obtain⟨rfl,rfl⟩:=c3;constructor
   ·intro hk;cases hk
    exact .inr (.inl ⟨.inl ⟨rfl,rfl⟩,rfl⟩)
   ·rintro (g | ⟨_,e⟩|⟨_,e⟩|⟨_,e⟩)
    ·rw[h.r4 _ _ hv.1] at g;cases g
    ·rw[e]
    ·exact absurd (e ▸ sy) np
    ·exact absurd (e ▸ sx) np
  rw[if_neg c3,i2'];constructor
  ·rintro (g | ⟨g,e⟩|⟨g,e⟩|⟨g,e⟩)
   ·exact .inl g
   ·exact .inr (.inl ⟨.inr g,e⟩)
   ·exact .inr (.inr (.inl ⟨.inr g,e⟩))
   ·exact .inr (.inr (.inr ⟨.inr g,e⟩))
  ·rintro (g | ⟨g | g,e⟩|⟨g | g,e⟩|⟨g | g,e⟩)
   ·exact .inl g
   ·exact absurd g c3
   ·exact .inr (.inl ⟨g,e⟩)
   ·exact absurd ⟨g.2,e⟩ c2
   ·exact .inr (.inr (.inl ⟨g,e⟩))
   ·exact absurd ⟨e,g.1⟩ c1
   ·exact .inr (.inr (.inr ⟨g,e⟩))
end Go.Proofs.YthlkpgdfifnagaaGreat
namespace Go.Proofs.YthlkpgdfifnagaaGreat
open Go Go.RowKit List
theorem Aiy{a b c q:Aa}(h1:befP a b)(h2:befP b c)(h0:crs a b c=0)(hq:crs a b q<0):crs b c q<0:=by
 have m:∀ x y z:Aa,crs ⟨x.X,-x.Y⟩ ⟨y.X,-y.Y⟩ ⟨z.X,-z.Y⟩ = -crs x y z:=fun x y z=>by unfold crs;grind
 have e1:crs b c q*(b.X-a.X)=crs a b q*(c.X-b.X)-(q.X-b.X)*crs a b c:=by unfold crs;grind
 have e2:crs b c q*(b.Y-a.Y)=crs a b q*(c.Y-b.Y)-(q.Y-b.Y)*crs a b c:=by unfold crs;grind
 have e3:(b.X-a.X)*(c.Y-b.Y)-(b.Y-a.Y)*(c.X-b.X)=crs a b c:=by unfold crs;grind
 rw[h0,Int.mul_zero,Int.sub_zero] at e1 e2;rw[h0] at e3;have fin:∀ x w z:Int,x*w=crs a b q*z->0<w->0<z->x<0:=fun x w z e hw hz=>by
  have:=Int.mul_neg_of_neg_of_pos hq hz;rcases Int.lt_or_le x 0 with k | k
  ·exact k
  ·have:=Int.mul_nonneg k (Int.le_of_lt hw);omega
 by_cases g:a.X<b.X
 ·have hc:b.X<c.X:=by
   rcases Int.lt_or_le b.X c.X with k | k
   ·exact k
   ·have hx:c.X=b.X:=by unfold befP at h2;omega
    have hy:b.Y<c.Y:=by unfold befP at h2;omega
    have z:c.X-b.X=0:=oo;rw[z,Int.mul_zero] at e3;have:=Int.mul_pos (show 0<b.X-a.X by omega) (show 0<c.Y-b.Y by omega);omega
  exact fin _ _ _ e1 oo oo
 ·have hx:a.X=b.X:=by unfold befP at h1;omega
  have hy:a.Y<b.Y:=by unfold befP at h1;omega
  have hc:b.X=c.X:=by
   have z:b.X-a.X=0:=oo;rw[z,Int.zero_mul] at e3;have:(b.Y-a.Y)*(c.X-b.X)=0:=oo;rcases Int.mul_eq_zero.1 this with k | k <;> omega
  have hy2:b.Y<c.Y:=by unfold befP at h2;omega
  exact fin _ _ _ e2 oo oo
section
variable {v:List Ac} {l:List Int}
theorem Px.len(hr:Px v l):l.length=v.length:=by rw[hr.perm.length_eq,Yd]
theorem Px.val(hr:Px v l){i:Int}:i∈l↔inN v.length i:=by rw[hr.perm.mem_iff,Sz]
theorem Px.lt(hr:Px v l){a b:Nat}(ha:a<l.length)(hb:b<l.length)(h:a<b):befP (plV v l[a]) (plV v l[b]):=(pairwise_iff_getElem.1 hr.ord) a b ha hb h
theorem Px.inj(hr:Px v l){a b:Nat}(ha:a<l.length)(hb:b<l.length)(h:l[a]=l[b]):a=b:=by
 rcases Nat.lt_trichotomy a b with c | c | c
 ·have:=hr.lt ha hb c;rw[h] at this;exact (Tv this this).elim
 ·exact c
 ·have:=hr.lt hb ha c;rw[h] at this;exact (Tv this this).elim
def Nw(l:List Int)(k:Nat)(i:Int):Prop:=∃ (j:Nat) (hj:j<l.length),j<k/\i=l[j]
structure Ajo(v:List Ac)(l:List Int)(k:Nat)(m:Mp):Prop where
 map:MapN v.length m
 tri:Tri (plV v) (inN v.length) (apM m)
 cov:Cov (plV v) (Nw l k) (apM m)
 used:∀ i j c,apM m i j=some c->Nw l k i
theorem Nw.succ{k:Nat}(hk:k<l.length){i:Int}:Nw l (k+1) i↔Nw l k i\/i=l[k]:=by
 constructor
 ·rintro⟨j,hj,h1,rfl⟩
  by_cases e:j=k
  ·subst e;exact .inr rfl
  ·exact .inl ⟨j,hj,oo,rfl⟩
 ·rintro (⟨j,hj,h1,rfl⟩ | rfl)
  ·exact⟨j,hj,oo,rfl⟩
  ·exact⟨k,hk,oo,rfl⟩
theorem Px.place(hr:Px v l){k:Nat}(hk:k<l.length):(∀ i,Nw l k i->inN v.length i)/\inN v.length l[k]/\¬ Nw l k l[k]/\(∀ i,Nw l k i->befP (plV v i) (plV v l[k]))/\(∀ i,inN v.length i->¬ Nw l k i->i≠l[k]->befP (plV v l[k]) (plV v i)):=by
 refine⟨fun i hi=>?_,hr.val.1 (getElem_mem hk),fun hp=>?_,fun i hi=>?_,fun i hi h1 h2=>?_⟩
 ·obtain⟨j,hj,_,rfl⟩:=hi;exact hr.val.1 (getElem_mem hj)
 ·obtain⟨j,hj,h1,e⟩:=hp;have:=hr.inj hk hj e;omega
 ·obtain⟨j,hj,h1,rfl⟩:=hi;exact hr.lt hj hk h1
 ·obtain⟨j,hj,rfl⟩:=getElem_of_mem (hr.val.2 hi);refine hr.lt hk hj ?_;rcases Nat.lt_trichotomy j k with c | c | c
  ·exact absurd ⟨j,hj,c,rfl⟩ h1
  ·subst c;exact absurd rfl h2
  ·exact c
def visB(v:List Ac)(p:Int)(s:Ab):Bool:=decide (0<crs (plV v s.a0) (plV v s.a1) (plV v p))
theorem Bcb(hv:Cc v)(hn:v.length<=1024){F:List (Ab × Bool)}{b:Aj}{rl:List Ab}{m:Mp}(hm:MapN v.length m){p:Int}(hp:inN v.length p)(hrl:∀ s∈rl,inN v.length s.a0/\inN v.length s.a1)(hlen:rl.length<=2000000):
  lfix (Dj (b,rl) p) (v,m,F,0)=some (v,putAll m p (rl.filter (visB v p)),F):=by
 have hM:∀ k,MapN v.length (putAll m p ((rl.take k).filter (visB v p))):=fun k=>hm.putAll hp fun s hs=>hrl s (mem_of_mem_take (mem_filter.1 hs).1)
 have:=Acy (B:=Dj (b,rl) p) (fun k=>(v,putAll m p ((rl.take k).filter (visB v p)),F,(k:Int))) (v,putAll m p (rl.filter (visB v p)),F) rl.length (fun k hk=>?_) ?_
 ·simpa[putAll] using this
 ·unfold Dj;have hs:=hrl rl[k] (getElem_mem hk);have e:(rl.take (k+1)).filter (visB v p)=(rl.take k).filter (visB v p)++if visB v p rl[k] then [rl[k]] else []:=by
   rw[take_succ_eq_append_getElem hk,filter_append,filter_cons,filter_nil]
  simp only;rw[if_pos oo,jn_d,At hk,Ad,p_eq (b:=⟨v,_,F⟩) hs.1,Ad,p_eq (b:=⟨v,_,F⟩) hs.2,Ad,p_eq (b:=⟨v,_,F⟩) hp,Ad,turn_eq (hv.ok _ hs.1) (hv.ok _ hs.2) (hv.ok _ hp),Ad,Bd oo,e]
  by_cases c:0<crs (plV v rl[k].a0) (plV v rl[k].a1) (plV v p)
  ·rw[Int.sign_eq_one_of_pos c,if_pos oo,Ahm (b:=⟨v,putAll m p ((rl.take k).filter (visB v p)),F⟩) hn (hM k) hs.1 hs.2 hp,Ad,if_pos (by unfold visB;simpa using c)];dsimp only;unfold putAll;rw[foldl_append];rfl
  ·rw[if_neg (fun g=>c (by
    rcases Int.lt_trichotomy (crs (plV v rl[k].a0) (plV v rl[k].a1) (plV v p)) 0 with t | t | t
    ·rw[Int.sign_eq_neg_one_of_neg t] at g;omega
    ·rw[t] at g;simp at g
    ·exact t)),if_neg (by unfold visB;simpa using c),append_nil]
 ·unfold Dj;simp only;rw[if_neg oo,take_length]
theorem Ajo.step(hv:Cc v)(hn:v.length<=1024)(hr:Px v l){F:List (Ab × Bool)}{k:Nat}(hk:k<l.length){m:Mp}(h:Ajo v l k m):
  ∃ m',(bnd (Km ⟨v,m,F⟩) fun r498=>bnd (lfix (Dj r498 l[k]) (r498.1.v,r498.1.apex,r498.1.fixed,0)) fun t=>some t)=some (v,m',F)/\Ajo v l (k+1) m'/\(m≠[]->m'≠[]):=by
 obtain⟨q1,q2,q3,q4,q5⟩:=hr.place hk;have hA:=Aw1 h.tri h.cov h.used q1 q2 q3 q4 q5;have hsq:=Ace hn;have hl:=h.map.len;have hf:∀ q,(rimF m q).length<=1:=fun q=>by unfold rimF;split <;> simp
 have hmem:∀ x y:Int,(⟨x,y⟩:Ab)∈m.flatMap (rimF m)↔Rim (apM m) x y:=fun x y=>by
  rw[mem_flatMap];constructor
  ·rintro⟨q,hq,hx⟩;unfold rimF at hx;split at hx
   ·cases hx
   ·rename_i hn;rw[mem_singleton] at hx;obtain⟨⟨a,b⟩,c⟩:=q;unfold rev2 at hx hn;rw[Iz] at hx;simp only at hx hn;obtain⟨rfl,rfl⟩:=hx;refine⟨⟨c,Qg h.map.ok hq⟩,?_⟩;simpa[apM] using hn
  ·rintro⟨⟨c,hc⟩,hn⟩;refine⟨(⟨y,x⟩,c),Fw hc,?_⟩;unfold rimF rev2;rw[if_neg (by rw[show mget m (⟨x,y⟩:Ab)=none from hn];simp)];exact mem_singleton.2 rfl
 have hrl:∀ s∈Az cmp2 (m.flatMap (rimF m)),inN v.length s.a0/\inN v.length s.a1:=fun s hs=>by
  rw[Ia] at hs;obtain⟨x,y⟩:=s;obtain⟨⟨c,hc⟩,_⟩:=(hmem x y).1 hs;have:=h.map.val hc;exact⟨this.2.1,this.1⟩
 have hlen:(Az cmp2 (m.flatMap (rimF m))).length<=2000000:=by
  rw[Dh];have:=Iu hf m;omega
 rw[Bcv (b:=⟨v,m,F⟩) hn h.map,Ad];dsimp only;rw[Bcb hv hn h.map q2 hrl hlen,Ad];have hvis:∀ s∈(Az cmp2 (m.flatMap (rimF m))).filter (visB v l[k]),Vis (plV v) (Rim (apM m)) l[k] s.a0 s.a1:=fun s hs=>by
  obtain⟨h1,h2⟩:=mem_filter.1 hs;rw[Ia] at h1;exact⟨(hmem s.a0 s.a1).1 h1,by unfold visB at h2;simpa using h2⟩
 have hmv:∀ x y:Int,(⟨x,y⟩:Ab)∈(Az cmp2 (m.flatMap (rimF m))).filter (visB v l[k])↔Vis (plV v) (Rim (apM m)) l[k] x y:=fun x y=>by
  constructor
  ·exact fun hs=>hvis _ hs
  ·rintro⟨h1,h2⟩;exact mem_filter.2 ⟨Ia.2 ((hmem x y).2 h1),by unfold visB;simpa using h2⟩
 obtain⟨o1,o2⟩:=Ajn h.map.ok hA _ hvis;have hN:∀ i j c,apM (putAll m l[k] ((Az cmp2 (m.flatMap (rimF m))).filter (visB v l[k]))) i j=some c↔apM m i j=some c\/New (plV v) (Rim (apM m)) l[k] i j c:=fun i j c=>by
  rw[o2,hmv,hmv,hmv];rfl
 refine⟨_,rfl,⟨?_,hA.tri' hN,?_,?_⟩,fun hne=>?_⟩
 ·exact h.map.putAll q2 fun s hs=>hrl s (mem_filter.1 hs).1
 ·have:=hA.cov' hN h.cov;intro i j c hc hn d hd;exact this i j c hc hn d ((Nw.succ hk).1 hd)
 ·intro i j c hc;exact (Nw.succ hk).2 (hA.used' hN i j c hc)
 ·obtain⟨q,hq⟩:=exists_mem_of_ne_nil m hne;intro e;obtain⟨⟨a,b⟩,c⟩:=q;have hc:apM m a b=some c:=Qg h.map.ok hq;have:=(hN a b c).2 (.inl hc);rw[e] at this;cases this
end
def Aao(v:List Ac):Prop:=∀ i j k,inN v.length i->inN v.length j->inN v.length k->crs (plV v i) (plV v j) (plV v k)=0
section
variable {v:List Ac} {l:List Int}
theorem Bd5(hv:Cc v)(hn:v.length<=1024)(hr:Px v l)(b:Aj)(hb:b.v=v):∃ n0:Nat,lfix (Hm l b) 2=some (n0:Int)/\2<=n0/\(∀ k,2<=k->k<n0->∃ (h0:0<l.length) (h1:1<l.length) (hk:k<l.length),crs (plV v l[0]) (plV v l[1]) (plV v l[k])=0) /\
  (∀ (h0:0<l.length) (h1:1<l.length) (hk:n0<l.length),crs (plV v l[0]) (plV v l[1]) (plV v l[n0])≠0)/\(n0<=l.length\/n0=2):=by
 have hlen:=hr.len;have:=Bn (B:=Hm l b) (fun s=>l.length-s.toNat) (fun s=>∃ k:Nat,s=(k:Int)/\2<=k/\(k<=l.length\/k=2)/\∀ j,2<=j->j<k->∃ (h0:0<l.length) (h1:1<l.length) (hk:j<l.length),crs (plV v l[0]) (plV v l[1]) (plV v l[j])=0)
  (fun t=>∃ n0:Nat,t=(n0:Int)/\2<=n0/\(∀ k,2<=k->k<n0->∃ (h0:0<l.length) (h1:1<l.length) (hk:k<l.length),crs (plV v l[0]) (plV v l[1]) (plV v l[k])=0) /\
   (∀ (h0:0<l.length) (h1:1<l.length) (hk:n0<l.length),crs (plV v l[0]) (plV v l[1]) (plV v l[n0])≠0)/\(n0<=l.length\/n0=2)) (fun s hs=>by
   obtain⟨k,rfl,h2,h3,h4⟩:=hs;unfold Hm;rw[jn_d]
   by_cases c:k<l.length
   ·have h0:0<l.length:=oo;have h1:1<l.length:=oo;have i0:idx l 0=some l[0]:=At (j:=0) h0;have i1:idx l 1=some l[1]:=At (j:=1) h1;have v0:=hr.val.1 (getElem_mem h0);have v1:=hr.val.1 (getElem_mem h1);have vk:=hr.val.1 (getElem_mem c);rw[<- hb] at v0 v1 vk;rw[if_pos oo,i0,Ad,i1,Ad,At c,Ad,p_eq v0,Ad,p_eq v1,Ad,p_eq vk,Ad,hb];rw[hb] at v0 v1 vk;rw[turn_eq (hv.ok _ v0) (hv.ok _ v1) (hv.ok _ vk),Ad]
    by_cases z:crs (plV v l[0]) (plV v l[1]) (plV v l[k])=0
    ·left;rw[decide_eq_true (by rw[z];rfl)];refine⟨((k+1:Nat):Int),?_,⟨k+1,rfl,oo,.inl oo,fun j hj hjk=>?_⟩,oo⟩
     ·dsimp only;rw[if_pos rfl,Bd oo]
     ·by_cases e:j=k
      ·subst e;exact⟨h0,h1,c,z⟩
      ·exact h4 j hj oo
    ·right;rw[decide_eq_false (by rwa [Int.sign_eq_zero_iff_zero])];exact⟨(k:Int),rfl,k,rfl,h2,h4,fun _ _ _=>z,h3⟩
   ·right;rw[if_neg oo];exact⟨(k:Int),rfl,k,rfl,h2,h4,fun _ _ hk=>absurd hk c,h3⟩) 2 ⟨2,rfl,oo,.inr rfl,fun j h1 h2=>oo⟩
 obtain⟨t,h1,n0,rfl,h2⟩:=this;exact⟨n0,h1,h2⟩
structure Fan(v:List Ac)(l:List Int)(n0:Nat):Prop where
 two:2<=n0
 lt:n0<l.length
 col:∀ i j k,Nw l n0 i->Nw l n0 j->Nw l n0 k->crs (plV v i) (plV v j) (plV v k)=0
 off:crs (plV v l[0]) (plV v l[1]) (plV v l[n0])≠0
def fanS(v:List Ac)(l:List Int)(n0 i:Nat):Ab:=if 0<crs (plV v (l.getD i 0)) (plV v (l.getD (i+1) 0)) (plV v (l.getD n0 0)) then ⟨l.getD i 0,l.getD (i+1) 0⟩ else ⟨l.getD (i+1) 0,l.getD i 0⟩
def fanL(v:List Ac)(l:List Int)(n0 k:Nat):List Ab:=(List.range k).map (fanS v l n0)
theorem Ol{l:List Int}{i:Nat}(h:i<l.length):l.getD i 0=l[i]:=by simp[h]
theorem Fan.place(hr:Px v l){n0:Nat}(hf:Fan v l n0){i:Nat}(h:i<n0):Nw l n0 (l.getD i 0):=by
 have:=hf.lt;exact⟨i,oo,h,Ol oo⟩
theorem Fan.bef(hr:Px v l){n0:Nat}(hf:Fan v l n0){i j:Nat}(h:i<j)(hj:j<n0):befP (plV v (l.getD i 0)) (plV v (l.getD j 0)):=by
 have:=hf.lt;rw[Ol (show i<l.length by omega),Ol (show j<l.length by omega)];exact hr.lt oo oo h
theorem Bd6(hv:Cc v)(hn:v.length<=1024)(hr:Px v l){n0:Nat}(hf:Fan v l n0){F:List (Ab × Bool)}:
  lfix (Fh (n0:Int) l) (v,[],F,0)=some (v,putAll [] (l.getD n0 0) (fanL v l n0 (n0-1)),F):=by
 have h2:=hf.two;have hlt:=hf.lt;have hlen:=hr.len;have val:∀ i,i<l.length->inN v.length (l.getD i 0):=fun i hi=>by rw[Ol hi];exact hr.val.1 (getElem_mem hi)
 have hM:∀ k,k<=n0-1->MapN v.length (putAll [] (l.getD n0 0) (fanL v l n0 k)):=fun k hk=>by
  refine MapN.putAll (val n0 hlt) ⟨List.Pairwise.nil,fun q hq=>by cases hq⟩ fun s hs=>?_
  obtain⟨i,hi,rfl⟩:=mem_map.1 hs;rw[mem_range] at hi;unfold fanS;split
  ·exact⟨val _ oo,val _ oo⟩
  ·exact⟨val _ oo,val _ oo⟩
 refine Acy (B:=Fh (n0:Int) l) (fun k=>(v,putAll [] (l.getD n0 0) (fanL v l n0 k),F,(k:Int))) (v,putAll [] (l.getD n0 0) (fanL v l n0 (n0-1)),F) (n0-1) (fun k hk=>?_) ?_
 ·unfold Fh;simp only;rw[Bd oo,if_pos oo,jn_d,At (show k<l.length by omega),Ad,At (show k+1<l.length by omega),Ad,At hlt,Ad];have v0:=val k oo;have v1:=val (k+1) oo;have vp:=val n0 hlt;have e:putAll [] (l.getD n0 0) (fanL v l n0 (k+1))=putM (putAll [] (l.getD n0 0) (fanL v l n0 k)) (fanS v l n0 k).a0 (fanS v l n0 k).a1 (l.getD n0 0):=by
   unfold putAll fanL;rw[range_succ,map_append,foldl_append];rfl
  rw[e];unfold fanS;rw[Ol (show k<l.length by omega)] at v0 ⊢;rw[Ol (show k+1<l.length by omega)] at v1 ⊢;rw[Ol hlt] at vp ⊢;have hM':=hM k oo;rw[Ol hlt] at hM';rw[p_eq (b:=⟨v,_,F⟩) v0,Ad,p_eq (b:=⟨v,_,F⟩) v1,Ad,p_eq (b:=⟨v,_,F⟩) vp,Ad,turn_eq (hv.ok _ v0) (hv.ok _ v1) (hv.ok _ vp),Ad]
  by_cases c:0<crs (plV v l[k]) (plV v l[k+1]) (plV v l[n0])
  ·rw[Int.sign_eq_one_of_pos c,if_pos oo,if_pos c,Ad,Ad,Ad,Ahm (b:=⟨v,putAll [] l[n0] (fanL v l n0 k),F⟩) hn hM' v0 v1 vp,Ad]
  ·rw[if_neg (fun g=>c (by
    rcases Int.lt_trichotomy (crs (plV v l[k]) (plV v l[k+1]) (plV v l[n0])) 0 with t | t | t
    ·rw[Int.sign_eq_neg_one_of_neg t] at g;omega
    ·rw[t] at g;simp at g
    ·exact t)),if_neg c,Ad,Ad,Ad,Ahm (b:=⟨v,putAll [] l[n0] (fanL v l n0 k),F⟩) hn hM' v1 v0 vp,Ad]
 ·unfold Fh;simp only;rw[Bd oo,if_neg oo]
theorem Fan.swept(hv:Cc v)(hn:v.length<=1024)(hr:Px v l){n0:Nat}(hf:Fan v l n0):Ajo v l (n0+1) (putAll [] (l.getD n0 0) (fanL v l n0 (n0-1)))/\putAll [] (l.getD n0 0) (fanL v l n0 (n0-1))≠[]:=by
 have h2:=hf.two;have hlt:=hf.lt;have hlen:=hr.len;have val:∀ i,i<l.length->inN v.length (l.getD i 0):=fun i hi=>by rw[Ol hi];exact hr.val.1 (getElem_mem hi)
 obtain⟨q1,q2,q3,q4,q5⟩:=hr.place hlt;rw[<- Ol hlt] at q2 q3 q4 q5;have hoff:=hf.off;rw[<- Ol (show 0<l.length by omega),<- Ol (show 1<l.length by omega),<- Ol hlt] at hoff;generalize hp:l.getD n0 0=p at *;have he:∀ i j,apM [] i j=none:=fun i j=>rfl
 have hS:∀ i,Nw l n0 i↔∃ k,k<n0/\i=l.getD k 0:=fun i=>by
  constructor
  ·rintro⟨j,hj,h1,rfl⟩;exact⟨j,h1,(Ol hj).symm⟩
  ·rintro⟨k,hk,rfl⟩;exact hf.place hr hk
 have same:∀ i,i+1<n0->(0<crs (plV v (l.getD 0 0)) (plV v (l.getD 1 0)) (plV v p)->0<crs (plV v (l.getD i 0)) (plV v (l.getD (i+1) 0)) (plV v p)) /\
   (crs (plV v (l.getD 0 0)) (plV v (l.getD 1 0)) (plV v p)<0->crs (plV v (l.getD i 0)) (plV v (l.getD (i+1) 0)) (plV v p)<0):=by
  intro i
  induction i with
  | zero=>exact fun _=>⟨fun h=>h,fun h=>h⟩
  | succ i ih=>
   intro hi;obtain⟨i1,i2⟩:=ih oo;have b1:=hf.bef hr (show i<i+1 by omega) oo;have b2:=hf.bef hr (show i+1<i+2 by omega) hi;have c0:=hf.col _ _ _ (hf.place hr (show i<n0 by omega)) (hf.place hr (show i+1<n0 by omega)) (hf.place hr hi);exact⟨fun h=>Atj b1 b2 c0 (i1 h),fun h=>Aiy b1 b2 c0 (i2 h)⟩
 have key:∃ R,Adds (plV v) (inN v.length) (Nw l n0) (apM []) R p/\∀ x y:Int,(⟨x,y⟩:Ab)∈fanL v l n0 (n0-1)↔Vis (plV v) R p x y:=by
  rcases Int.lt_or_gt_of_ne hoff with c | c
  ·refine⟨Anl (fun j=>l.getD (n0-1-j) 0) n0,Ah3 he (fun i=>?_) (fun a b c h1 h2 h3=>hf.col a b c h1 h2 h3) (fun i hi=>?_) q1 q2 q3 q4 q5,fun x y=>?_⟩
   ·rw[hS];constructor
    ·rintro⟨k,hk,rfl⟩;exact⟨n0-1-k,oo,by (try dsimp only);rw[show n0-1-(n0-1-k)=k by omega]⟩
    ·rintro⟨k,hk,rfl⟩;exact⟨n0-1-k,oo,rfl⟩
   ·have:=(same (n0-2-i) oo).2 c;rw[show n0-2-i+1=n0-1-i by omega] at this;try dsimp only
    rw[show n0-1-(i+1)=n0-2-i by omega,Bb];omega
   ·unfold fanL Vis Anl;rw[mem_map];constructor
    ·rintro⟨i,hi,e⟩;rw[mem_range] at hi;have hneg:=(same i oo).2 c;unfold fanS at e;rw[hp,if_neg oo,Iz] at e;obtain⟨rfl,rfl⟩:=e;refine⟨⟨n0-2-i,oo,by (try dsimp only);rw[show n0-1-(n0-2-i)=i+1 by omega],by (try dsimp only);rw[show n0-1-(n0-2-i+1)=i by omega]⟩,?_⟩;rw[Bb];omega
    ·rintro⟨⟨i,hi,rfl,rfl⟩,_⟩;refine⟨n0-2-i,by rw[mem_range];omega,?_⟩;have hneg:=(same (n0-2-i) oo).2 c;unfold fanS;rw[hp,if_neg oo,Iz];exact⟨by (try dsimp only);rw[show n0-2-i+1=n0-1-i by omega],by (try dsimp only);rw[show n0-1-(i+1)=n0-2-i by omega]⟩
  ·refine⟨Anl (fun j=>l.getD j 0) n0,Ah3 he hS (fun a b c h1 h2 h3=>hf.col a b c h1 h2 h3) (fun i hi=>(same i hi).1 c) q1 q2 q3 q4 q5,fun x y=>?_⟩;unfold fanL Vis Anl;rw[mem_map];constructor
   ·rintro⟨i,hi,e⟩;rw[mem_range] at hi;have hpos:=(same i oo).1 c;unfold fanS at e;rw[hp,if_pos hpos,Iz] at e;obtain⟨rfl,rfl⟩:=e;exact⟨⟨i,oo,rfl,rfl⟩,hpos⟩
   ·rintro⟨⟨i,hi,rfl,rfl⟩,hpos⟩;refine⟨i,by rw[mem_range];omega,?_⟩;unfold fanS;rw[hp,if_pos hpos]
 obtain⟨R,hA,hmv⟩:=key;obtain⟨o1,o2⟩:=Ajn (m:=[]) List.Pairwise.nil hA (fanL v l n0 (n0-1)) fun s hs=>(hmv s.a0 s.a1).1 hs
 have hN:∀ i j c,apM (putAll [] p (fanL v l n0 (n0-1))) i j=some c↔apM [] i j=some c\/New (plV v) R p i j c:=fun i j c=>by
  rw[o2,hmv,hmv,hmv];rfl
 have hpl:p=l[n0]:=by rw[<- hp,Ol hlt]
 refine⟨⟨?_,hA.tri' hN,?_,?_⟩,fun e=>?_⟩
 ·refine MapN.putAll q2 ⟨List.Pairwise.nil,fun q hq=>by cases hq⟩ fun s hs=>?_
  have:=(hA.r1 _ _ ((hmv s.a0 s.a1).1 hs).1);exact⟨q1 _ this.1,q1 _ this.2.1⟩
 ·have:=hA.cov' hN (fun i j k hk=>by cases hk);intro i j c hc hn d hd;refine this i j c hc hn d ?_;rw[hpl];exact (Nw.succ hlt).1 hd
 ·intro i j c hc;refine (Nw.succ hlt).2 ?_;rw[<- hpl];exact hA.used' hN i j c hc
 ·have h0:fanS v l n0 0∈fanL v l n0 (n0-1):=mem_map.2 ⟨0,by rw[mem_range];omega,rfl⟩;have:=(o2 (fanS v l n0 0).a0 (fanS v l n0 0).a1 p).2 (.inr (.inl ⟨h0,rfl⟩));rw[e] at this;cases this
end
variable {v:List Ac} {l:List Int}
theorem Avs(hv:Cc v)(hn:v.length<=1024)(hr:Px v l)(F:List (Ab × Bool)):
  ∃ m,Ld ⟨v,[],F⟩ l=some ⟨v,m,F⟩/\((Aao v/\m=[])\/(¬ Aao v/\MapN v.length m/\Tri (plV v) (inN v.length) (apM m)/\Cov (plV v) (inN v.length) (apM m)/\m≠[])):=by
 have hlen:=hr.len;obtain⟨n0,h1,h2,h3,h4,h5⟩:=Bd5 hv hn hr ⟨v,[],F⟩ rfl;unfold Ld;rw[jn_d,h1,Ad];dsimp only
 by_cases c:l.length<=n0
 ·rw[if_pos oo];refine⟨[],rfl,.inl ⟨?_,rfl⟩⟩
  by_cases c2:2<=l.length
  ·-- all on the line of the first two
   have g0:0<l.length:=oo;have g1:1<l.length:=oo;have on:∀ i,inN v.length i->crs (plV v l[0]) (plV v l[1]) (plV v i)=0:=fun i hi=>by
    obtain⟨k,hk,rfl⟩:=getElem_of_mem (hr.val.2 hi)
    by_cases e0:k=0
    ·subst e0;exact Bv _ _
    ·by_cases e1:k=1
     ·subst e1;exact Bo _ _
     ·obtain⟨_,_,_,g⟩:=h3 k oo oo;exact g
   have hne:¬ Bx (plV v l[0]) (plV v l[1]):=fun e=>by
    have:=hr.lt g0 g1 oo;unfold befP Bx at *;omega
   exact fun i j k hi hj hk=>Ah4 hne (on i hi) (on j hj) (on k hk)
  ·intro i j k hi hj hk;unfold inN at hi hj hk;have:i=j:=oo;subst this;exact Yh _ _
 ·rw[if_neg oo,jn_d];have g0:0<l.length:=oo;have g1:1<l.length:=oo;have gn:n0<l.length:=oo;have off:=h4 g0 g1 gn;have hne:¬ Bx (plV v l[0]) (plV v l[1]):=fun e=>by
   have:=hr.lt g0 g1 oo;unfold befP Bx at *;omega
  have hf:Fan v l n0:=by
   refine⟨h2,gn,fun i j k hi hj hk=>?_,off⟩;have on:∀ i,Nw l n0 i->crs (plV v l[0]) (plV v l[1]) (plV v i)=0:=fun i hi=>by
    obtain⟨k,hk,hk2,rfl⟩:=hi
    by_cases e0:k=0
    ·subst e0;exact Bv _ _
    ·by_cases e1:k=1
     ·subst e1;exact Bo _ _
     ·obtain⟨_,_,_,g⟩:=h3 k oo hk2;exact g
   exact Ah4 hne (on i hi) (on j hj) (on k hk)
  obtain⟨s1,s2⟩:=hf.swept hv hn hr;rw[Bd6 hv hn hr hf,Ad];dsimp only;rw[Bd oo,gd_t ⟨oo,oo⟩];have ht:subl l (((n0+1:Nat):Int)) (l.length:Int)=l.drop (n0+1):=by unfold subl;simp
  rw[ht];have:=Bn (B:=Jv l (n0:Int)) (fun s=>l.length-s.2.2.2.2.toNat) (fun s=>∃ (k:Nat) (m:Mp),n0+1<=k/\k<=l.length/\s=(v,m,F,l.drop (n0+1),((k-(n0+1):Nat):Int))/\Ajo v l k m/\m≠[])
   (fun t=>∃ m:Mp,t=⟨v,m,F⟩/\Ajo v l l.length m/\m≠[]) (fun s hs=>by
    obtain⟨k,m,k1,k2,rfl,k3,k4⟩:=hs;unfold Jv;dsimp only;rw[Bd oo]
    by_cases c2:k<l.length
    ·left;obtain⟨m',e1,e2,e3⟩:=k3.step hv hn hr (F:=F) c2;have hi:idx (l.drop (n0+1)) (((k-(n0+1):Nat):Int))=some l[k]:=by
      rw[At (by rw[length_drop];omega),getElem_drop];congr 2;omega
     rw[if_pos (by simp;omega),jn_d,hi,Ad];refine⟨(v,m',F,l.drop (n0+1),((k+1-(n0+1):Nat):Int)),?_,⟨k+1,m',oo,oo,rfl,e2,e3 k4⟩,by dsimp only;omega⟩;obtain⟨r,hr1,hr2⟩:=Au e1;obtain⟨t,ht1,ht2⟩:=Au hr2;cases ht2
     rw[hr1,Ad,ht1,Ad,Bd oo,show k-(n0+1)+1=k+1-(n0+1) by omega]
    ·right;rw[if_neg (by simp;omega)];have:k=l.length:=oo;subst this;exact⟨_,rfl,m,rfl,k3,k4⟩) (v,putAll [] (l.getD n0 0) (fanL v l n0 (n0-1)),F,l.drop (n0+1),0) ⟨n0+1,_,oo,oo,s_,s1,s2⟩
  obtain⟨t,e1,m,rfl,e2,e3⟩:=this;rw[e1,Ad];refine⟨m,rfl,.inr ⟨fun hfl=>?_,e2.map,e2.tri,fun i j k hk hnn d hd=>?_,e3⟩⟩
  ·exact off (hfl _ _ _ (hr.val.1 (getElem_mem g0)) (hr.val.1 (getElem_mem g1)) (hr.val.1 (getElem_mem gn)))
  ·obtain⟨j',hj',rfl⟩:=getElem_of_mem (hr.val.2 hd);exact e2.cov _ _ _ hk hnn _ ⟨j',hj',hj',rfl⟩
def Del(v:List Ac)(a b c:Int):Prop:=inN v.length a/\inN v.length b/\inN v.length c/\0<crs (plV v a) (plV v b) (plV v c)/\∀ d,inN v.length d->d≠a->d≠b->d≠c->DH (plV v) (hV v) a b c d<0
structure MeshT(v:List Ac)(T:List Ag):Prop where
 ord:T.Pairwise fun x y=>¬ cmp3 y x<0
 nd:T.Nodup
 mem:∀ t,t∈T↔t.a0<t.a1/\t.a0<t.a2/\Del v t.a0 t.a1 t.a2
end Go.Proofs.YthlkpgdfifnagaaGreat
namespace Go.Proofs.YthlkpgdfifnagaaGreat
open Go Go.RowKit List
theorem Sv{β γ:Type}(N:Nat)(hN:N<=1000000000)(p:Nat->Bool)(B:Int->Option (Sum Int (Sum β γ)))(u:β)(w:γ)(h1:∀ k:Nat,k<N->B (k:Int)=if p k=true then some (.inr (.inr w)) else some (.inl ((k+1:Nat):Int)))(h2:B (N:Int)=some (.inr (.inl u))):lfix B 0=some (if (List.range N).any p then .inr w else .inl u):=by
 have key:∀ j k,j+k=N->lfix B (k:Int)=some (if ((List.range N).drop k).any p then .inr w else .inl u):=by
  intro j
  induction j with
  | zero=>
   intro k hk;rw[Bg,show k=N by omega,h2,drop_eq_nil_of_le s_];rfl
  | succ j ih=>
   intro k hk;rw[Bg,h1 k oo,drop_eq_getElem_cons (by simp;omega),any_cons,getElem_range]
   by_cases c:p k=true
   ·rw[if_pos c,c];rfl
   ·rw[if_neg c];rw[Bool.not_eq_true] at c;rw[c,Bool.false_or];exact ih (k+1) oo
 have:=key N 0 oo
 rwa [drop_zero] at this
def pP(x:Ac):Aa:=⟨x.X,x.Y⟩
def Nx(x:Ac):Prop:=okP (pP x)/\-268435456<=x.Z.Lo/\x.Z.Lo<=x.Z.Hi/\x.Z.Hi<=268435456
instance(x:Ac):Decidable (Nx x):=by unfold Nx;infer_instance
theorem Tt{v:List Ac}{k:Nat}(hk:k<v.length):plV v (k:Int)=pP v[k]:=by unfold plV;rw[At hk];rfl
theorem Ak2(x:Ac):Xm x=some (decide (Nx x)):=by
 unfold Xm Fs;rw[Ad,Ad,Ad,Aq1,Ad,jn_d];unfold Wl
 by_cases h:okP (⟨x.X,x.Y⟩:Aa)
 ·simp only[h,and_self,if_true];rw[jn_d]
  by_cases h1:-1152921504606846976<=x.Z.Lo
  ·rw[if_pos h1]
   by_cases h2:x.Z.Lo<=x.Z.Hi
   ·rw[if_pos h2]
    by_cases h3:x.Z.Hi<=1152921504606846976
    ·rw[decide_eq_true h3,Ad,if_pos rfl]
     by_cases h4:-268435456<=x.Z.Lo
     ·rw[if_pos h4];congr 1;rw[Bool.eq_iff_iff,decide_eq_true_eq,decide_eq_true_eq];unfold Nx pP;exact⟨fun g=>⟨h,h4,h2,g⟩,fun g=>g.2.2.2⟩
     ·rw[if_neg h4,decide_eq_false (fun g:Nx x=>h4 g.2.1)]
    ·rw[decide_eq_false h3,Ad,if_neg s_,decide_eq_false (fun g:Nx x=>h3 (by have:=g.2.2.2;omega))]
   ·rw[if_neg h2,Ad,if_neg s_,decide_eq_false (fun g:Nx x=>h2 g.2.2.1)]
  ·rw[if_neg h1,Ad,if_neg s_,decide_eq_false (fun g:Nx x=>h1 (by have:=g.2.1;omega))]
 ·simp only[h,false_and,if_false];rw[if_neg dD,decide_eq_false (fun g:Nx x=>h g.1)]
def Ny(v:List Ac):Int:=if 1024<v.length then 2 else if ¬ (∀ x∈v,Nx x) then 60 else if ¬ Gy v then 61 else 0
theorem Sg{v:List Ac}(h:Ny v=0):v.length<=1024/\(∀ x∈v,Nx x)/\Cc v:=by
 unfold Ny at h;split at h
 ·omega
 ·split at h
  ·omega
  ·split at h
   ·omega
   ·rename_i h1 h2 h3;have h2:=Classical.not_not.1 h2;have h3:=Classical.not_not.1 h3;refine⟨oo,h2,fun i hi=>?_,fun i j hi hj hs=>?_⟩
    ·obtain⟨k,hk,rfl,_⟩:=Jn (v:=v) (i:=i) hi;rw[Tt hk];exact (h2 _ (getElem_mem hk)).1
    ·obtain⟨a,ha,rfl,_⟩:=Jn (v:=v) (i:=i) hi;obtain⟨b,hb,rfl,_⟩:=Jn (v:=v) (i:=j) hj;rw[Tt ha,Tt hb] at hs;unfold Gy at h3;rw[pairwise_iff_getElem] at h3;rcases Nat.lt_trichotomy a b with c | c | c
     ·exact absurd hs (h3 a b ha hb c)
     ·rw[c]
     ·exact absurd ⟨hs.1.symm,hs.2.symm⟩ (h3 b a hb ha c)
theorem Agb{v:List Ac}:((List.range v.length).any fun k=>!decide (Nx (v.getD k ⟨0,0,⟨0,0⟩⟩)))=true↔¬ ∀ x∈v,Nx x:=by
 rw[any_eq_true];constructor
 ·rintro⟨k,hk,h⟩ hall;rw[mem_range] at hk;simp[hk] at h;exact h (hall _ (getElem_mem hk))
 ·intro h;apply Classical.byContradiction;intro hno;apply h;intro x hx;obtain⟨k,hk,rfl⟩:=getElem_of_mem hx;apply Classical.byContradiction;intro hb;exact hno ⟨k,mem_range.2 hk,by simp[hk,hb]⟩
theorem Ak3{v:List Ac}:(∃ i j,∃ (hi:i<v.length) (hj:j<v.length),j<i/\Ye v[i] v[j])↔¬ Gy v:=by
 unfold Gy;rw[pairwise_iff_getElem];constructor
 ·rintro⟨i,j,hi,hj,hji,hs⟩ h;exact h j i hj hi hji ⟨hs.1.symm,hs.2.symm⟩
 ·intro h;apply Classical.byContradiction;intro hno;apply h;intro i j hi hj hij hs;exact hno ⟨j,i,hj,hi,hij,hs.1.symm,hs.2.symm⟩
theorem Bcc{v:List Ac}(c:v.length<=1024):lfix (Kh v) 0=some (if ((List.range v.length).any fun k=>!decide (Nx (v.getD k ⟨0,0,⟨0,0⟩⟩)))=true then .inr 60 else .inl ()):=by
 refine Sv v.length oo (fun k=>!decide (Nx (v.getD k ⟨0,0,⟨0,0⟩⟩))) (Kh v) () 60 (fun k hk=>?_) ?_
 ·unfold Kh;rw[if_pos oo,At hk,Ad,Ak2,Ad,Bd oo];have e:v.getD k ⟨0,0,⟨0,0⟩⟩=v[k]:=by simp[hk]
  rw[e]
  by_cases g:Nx v[k]
  ·simp[g]
  ·simp[g]
 ·unfold Kh;rw[if_neg oo]
theorem Aap(v:List Ac):Rs v=some (Ny v):=by
 unfold Rs Ny
 by_cases c:1024<v.length
 ·rw[if_pos oo,if_pos c]
 ·rw[if_neg oo,if_neg c,jn_d];rw[Bcc oo,Ad]
  ·by_cases h:∀ x∈v,Nx x
   ·rw[if_neg (fun g=>Agb.1 g h),if_neg (not_not_intro h)];dsimp only;rw[jn_d];have hL:=Bn (B:=Qc v) (fun s=>v.length-s.2.toNat) (fun s=>∃ k:Nat,k<=v.length/\s.2=(k:Int)/\Ek s.1/\s.1.length<=k/\(∀ x,(mget s.1 x).getD false=true↔∃ (j:Nat) (hj:j<v.length),j<k/\pP v[j]=x)/\∀ i j (hi:i<v.length) (hj:j<v.length),i<k->j<i->¬ Ye v[i] v[j])
     (fun t=>t=if ¬ Gy v then .inr 61 else .inl ()) (fun s hs=>by
      obtain⟨m,k⟩:=s;obtain⟨k,h1,rfl,h2,h3,h4,h5⟩:=hs;simp only at h1 h2 h3 h4;unfold Qc;dsimp only
      by_cases hk:k<v.length
      ·have hg:=(h _ (getElem_mem hk)).1;have hr:(-9223372036854775808<=v[k].X/\v[k].X<=9223372036854775807)/\-9223372036854775808<=v[k].Y/\v[k].Y<=9223372036854775807:=by
        unfold okP pP at hg;simp only at hg;omega
       unfold Fs;rw[if_pos oo,At hk,Ad,Ad,gd_t hr,Ad];have e4:=h4 (⟨v[k].X,v[k].Y⟩:Aa)
       by_cases hd:(mget m (⟨v[k].X,v[k].Y⟩:Aa)).getD false=true
       ·right;rw[if_pos hd];obtain⟨j,hj,hjk,he⟩:=e4.1 hd;refine⟨_,rfl,?_⟩;rw[if_pos];refine Ak3.1 ⟨k,j,hk,hj,hjk,?_⟩;unfold pP at he;simp at he;exact⟨he.1.symm,he.2.symm⟩
       ·left;rw[if_neg hd,Ad,gd_t hr,gd_t oo,Bd oo];refine⟨_,rfl,⟨k+1,hk,rfl,h2.put _ _,?_,fun x=>?_,fun i j hi hj hik hji=>?_⟩,by dsimp only;omega⟩
        ·dsimp only;unfold mput mdel;rw[length_cons];refine Nat.succ_le_succ (Nat.le_trans (length_filter_le _ m) h3)
        ·dsimp only;rw[Pd h2]
         by_cases hx:x=⟨v[k].X,v[k].Y⟩
         ·rw[if_pos hx];simp only[Option.getD_some,true_iff];exact⟨k,hk,oo,hx.symm⟩
         ·rw[if_neg hx,h4];constructor
          ·rintro⟨j,hj,h6,h7⟩;exact⟨j,hj,oo,h7⟩
          ·rintro⟨j,hj,h6,h7⟩;refine⟨j,hj,?_,h7⟩
           by_cases e:j=k
           ·subst e;exact absurd h7.symm hx
           ·omega
        ·by_cases e:i=k
         ·subst e;intro hs;exact hd (e4.2 ⟨j,hj,hji,by unfold pP;rw[hs.1,hs.2]⟩)
         ·exact h5 i j hi hj oo hji
      ·right;rw[if_neg oo];refine⟨_,rfl,?_⟩;rw[if_neg];intro hno;obtain⟨i,j,hi,hj,hji,hs⟩:=Ak3.2 hno;exact h5 i j hi hj oo hji hs) ([],0) ⟨0,oo,rfl,List.Pairwise.nil,s_,fun x=>by simp[mget],fun i j hi hj h1=>oo⟩
    obtain⟨t,h1,rfl⟩:=hL;rw[h1,Ad]
    by_cases hd:Gy v
    ·rw[if_neg (not_not_intro hd),if_neg (not_not_intro hd)]
    ·rw[if_pos hd,if_pos hd]
   ·rw[if_pos (Agb.2 h),if_pos h]
end Go.Proofs.YthlkpgdfifnagaaGreat
