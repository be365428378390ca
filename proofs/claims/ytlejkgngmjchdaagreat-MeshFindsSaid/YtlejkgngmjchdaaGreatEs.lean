import Derived.Test.YtlejkgngmjchdaaGreatL1
set_option maxRecDepth 100000
set_option maxHeartbeats 1000000
namespace Go.Proofs.YtlejkgngmjchdaaGreat
open Go Go.RowKit Tryz
noncomputable section
section
def apM(m:Mp):Ap:=fun i j=>mget m ⟨i,j⟩
def putM(m:Mp)(i j k:Int):Mp:=mput (mput (mput m ⟨i,j⟩ k) ⟨j,k⟩ i) ⟨k,i⟩ j
def cutM(m:Mp)(i j k:Int):Mp:=mdel (mdel (mdel m ⟨i,j⟩) ⟨j,k⟩) ⟨k,i⟩
def flipM(m:Mp)(i j k l:Int):Mp:=putM (putM (cutM (cutM m i j k) j i l) i l k) j k l
theorem Jn{i j a b:Int}:(⟨a,b⟩:Ab)=⟨i,j⟩↔a=i/\b=j:=s_
theorem MapN.put{n:Nat}{m:Mp}(h:MapN n m){i j k:Int}(hi:inN n i)(hj:inN n j)(hk:inN n k):MapN n (mput m ⟨i,j⟩ k):=by
 refine⟨h.ok.put _ _,fun q hq=>?_⟩;unfold mput at hq;rcases List.mem_cons.1 hq with rfl|hq
 .exact⟨hi,hj,hk⟩
 .exact h.key q (Ql.1 hq).1
theorem MapN.del{n:Nat}{m:Mp}(h:MapN n m)(x:Ab):MapN n (mdel m x):=⟨h.ok.del _,fun q hq=>h.key q (Ql.1 hq).1⟩
theorem MapN.putM{n:Nat}{m:Mp}(h:MapN n m){i j k:Int}(hi:inN n i)(hj:inN n j)(hk:inN n k):MapN n (putM m i j k):=((h.put hi hj hk).put hj hk hi).put hk hi hj
theorem MapN.cutM{n:Nat}{m:Mp}(h:MapN n m)(i j k:Int):MapN n (cutM m i j k):=((h.del _).del _).del _
theorem Aa4{m:Mp}(h:Ep m)(i j k a b:Int):apM (putM m i j k) a b=if a=k/\b=i then some j else if a=j/\b=k then some i else if a=i/\b=j then some k else apM m a b:=by
 unfold apM putM;rw[Rl ((h.put _ _).put _ _),Rl (h.put _ _),Rl h];simp only[Jn]
theorem Ov{m:Mp}(h:Ep m)(i j k a b:Int):apM (cutM m i j k) a b=if (a=k/\b=i)\/(a=j/\b=k)\/(a=i/\b=j) then none else apM m a b:=by
 unfold apM cutM;rw[Vp ((h.del _).del _),Vp (h.del _),Vp h];simp only[Jn]
 by_cases c1:a=k/\b=i
 .simp[c1]
 .by_cases c2:a=j/\b=k
  .simp[c2]
  .by_cases c3:a=i/\b=j
   .simp[c3]
   .simp[c1,c2,c3]
theorem Xr{m:Mp}(h:Ep m){i j k l:Int}(n1:i≠j)(n2:k≠l)(n3:k≠i)(n4:k≠j)(n5:l≠i)(n6:l≠j):apM (flipM m i j k l)=Ef (apM m) i j k l:=by
 have h1:Ep (cutM m i j k):=((h.del _).del _).del _;have h2:Ep (cutM (cutM m i j k) j i l):=((h1.del _).del _).del _;have h3:Ep (putM (cutM (cutM m i j k) j i l) i l k):=((h2.put _ _).put _ _).put _ _;funext a b;unfold flipM;rw[Aa4 h3,Aa4 h2,Ov h1,Ov h];unfold Ef
 by_cases c1:a=i/\b=l
 .repeat first|rw[iP oo]|rw[iN oo]
 by_cases c2:a=l/\b=k
 .repeat first|rw[iP oo]|rw[iN oo]
 by_cases c3:a=k/\b=i
 .repeat first|rw[iP oo]|rw[iN oo]
 by_cases c4:a=j/\b=k
 .repeat first|rw[iP oo]|rw[iN oo]
 by_cases c5:a=k/\b=l
 .repeat first|rw[iP oo]|rw[iN oo]
 by_cases c6:a=l/\b=j
 .repeat first|rw[iP oo]|rw[iN oo]
 by_cases c7:a=i/\b=j
 .repeat first|rw[iP oo]|rw[iN oo]
 by_cases c8:a=j/\b=i
 .repeat first|rw[iP oo]|rw[iN oo]
 repeat first|rw[iP oo]|rw[iN oo]
theorem p_eq{b:Ag}{i:Int}(h:inN b.v.length i):Bn b i=some (plV b.v i):=by
 unfold Bn plV;obtain⟨k,hk,rfl,e⟩:=Kb (v:=b.v) (i:=i) h;rw[e];rfl
theorem Aha{n:Nat}(hn:n<=1024){b:Ag}(hm:MapN n b.apex){i j k:Int}(hi:inN n i)(hj:inN n j)(hk:inN n k):Ex b i j k=some ⟨b.v,putM b.apex i j k,b.fixed⟩:=by
 have hsq:=Abg hn;have l0:=hm.len;have l1:=(hm.put hi hj hk).len;have l2:=((hm.put hi hj hk).put hj hk hi).len;unfold Ex;rw[gd_t (Ok hn hi hj),gd_t oo,gd_t (Ok hn hj hk),gd_t oo,gd_t (Ok hn hk hi),gd_t oo];rfl
theorem Axh{n:Nat}(hn:n<=1024){b:Ag}{i j k:Int}(hi:inN n i)(hj:inN n j)(hk:inN n k):Lh b i j k=some ⟨b.v,cutM b.apex i j k,b.fixed⟩:=by
 unfold Lh;rw[gd_t (Ok hn hi hj),gd_t (Ok hn hj hk),gd_t (Ok hn hk hi)];rfl
theorem MapN.val{n:Nat}{m:Mp}(h:MapN n m){i j k:Int}(hk:apM m i j=some k):inN n i/\inN n j/\inN n k:=h.key _ (Er hk)
theorem Akl{b:Ag}(hv:Ci b.v)(hn:b.v.length<=1024)(hm:MapN b.v.length b.apex){i j k l:Int}(hk:apM b.apex i j=some k)(hl:apM b.apex j i=some l):
  Cz b i j=some (if Int.sign (crs (plV b.v k) (plV b.v l) (plV b.v i))*Int.sign (crs (plV b.v k) (plV b.v l) (plV b.v j)) = -1 then (⟨b.v,flipM b.apex i j k l,b.fixed⟩,true) else (b,false)):=by
 obtain⟨vi,vj,vk⟩:=hm.val hk;obtain⟨_,_,vl⟩:=hm.val hl;have hk':mget b.apex (⟨i,j⟩:Ab)=some k:=hk;have hl':mget b.apex (⟨j,i⟩:Ab)=some l:=hl;unfold Cz;rw[gd_t (Ok hn vi vj),hk',Ac,gd_t (Ok hn vj vi),hl',Ac,jn_d];simp only[Option.getD_some,Option.isSome_some,if_true];rw[p_eq vk,Ac,p_eq vl,Ac,p_eq vi,Ac,Qt (hv.ok _ vk) (hv.ok _ vl) (hv.ok _ vi),Ac,Ac,Ac,p_eq vj,Ac,Qt (hv.ok _ vk) (hv.ok _ vl) (hv.ok _ vj),Ac,Wb]
 by_cases c:Int.sign (crs (plV b.v k) (plV b.v l) (plV b.v i))*Int.sign (crs (plV b.v k) (plV b.v l) (plV b.v j)) = -1
 .rw[iP c,iN (by simp;omega)];have m1:=hm.cutM i j k;have m2:=m1.cutM j i l;have m3:=m2.putM vi vl vk;rw[Axh hn vi vj vk,Ac,Axh hn vj vi vl,Ac,Aha hn m2 vi vl vk,Ac,Aha hn m3 vj vk vl,Ac];rfl
 .rw[iN c,iP (by simpa using Ai9.2 c)]
theorem As2{m:Mp}{x:Ab}(h:mget m x=none)(hm:Ep m):mdel m x=m:=by
 unfold mdel;rw[List.filter_eq_self];intro p hp;simp only[dQ];intro e;have:=Nv hm hp;rw[e,h] at this;cases this
section
variable {P:Int->Ad}{H:Int->Int}{n:Nat}
def phi(P:Int->Ad)(H:Int->Int)(n:Nat)(m:Mp):Nat:=(m.map fun q=>cnf P H n q.1.a0 q.1.a1 q.2).sum
theorem Akm{m:Mp}(hm:Ep m){i j k:Int}(h:mget m ⟨i,j⟩=some k):phi P H n m=cnf P H n i j k+phi P H n (mdel m ⟨i,j⟩):=by
 have hp:=Ah7 hm (Er h);unfold phi;rw[(hp.map _).sum_nat,List.map_cons,List.sum_cons]
theorem Akn{m:Mp}(hm:Ep m){i j k:Int}(h:mget m ⟨i,j⟩=none):phi P H n (mput m ⟨i,j⟩ k)=cnf P H n i j k+phi P H n m:=by
 unfold mput;rw[As2 h hm];unfold phi;rw[List.map_cons,List.sum_cons]
theorem Axi:∀m:Mp,phi P H n m<=m.length*n
 |[]=>by simp[phi]
 |q::r=>by
  have h1:=Axi r;have h2:=Bbf (P:=P) (H:=H) (n:=n) q.1.a0 q.1.a1 q.2;unfold phi at *;rw[List.map_cons,List.sum_cons,List.length_cons,Nat.add_mul];omega
theorem Aq4{m:Mp}(hm:Ep m){i j k:Int}(n1:i≠j)(n2:j≠k)(n3:k≠i)(h1:apM m i j=some k)(h2:apM m j k=some i)(h3:apM m k i=some j):phi P H n m=3*cnf P H n i j k+phi P H n (cutM m i j k):=by
 have g1:mget (mdel m ⟨i,j⟩) ⟨j,k⟩=some i:=by rw[Vp hm,Jn,iN oo];exact h2
 have g2:mget (mdel (mdel m ⟨i,j⟩) ⟨j,k⟩) ⟨k,i⟩=some j:=by rw[Vp (hm.del _),Vp hm,Jn,Jn,iN oo,iN oo];exact h3
 rw[Akm hm h1,Akm (hm.del _) g1,Akm ((hm.del _).del _) g2,Yc,Yc (P:=P) (H:=H) (n:=n) j k i,Yc];unfold cutM;omega
theorem Amn{m:Mp}(hm:Ep m){i j k:Int}(n1:i≠j)(n2:j≠k)(n3:k≠i)(h1:apM m i j=none)(h2:apM m j k=none)(h3:apM m k i=none):phi P H n (putM m i j k)=3*cnf P H n i j k+phi P H n m:=by
 have g1:mget (mput m ⟨i,j⟩ k) ⟨j,k⟩=none:=by rw[Rl hm,Jn,iN oo];exact h2
 have g2:mget (mput (mput m ⟨i,j⟩ k) ⟨j,k⟩ i) ⟨k,i⟩=none:=by rw[Rl (hm.put _ _),Rl hm,Jn,Jn,iN oo,iN oo];exact h3
 unfold putM;rw[Akn ((hm.put _ _).put _ _) g2,Akn (hm.put _ _) g1,Akn hm h1,Yc (P:=P) (H:=H) (n:=n) i j k,Yc (P:=P) (H:=H) (n:=n) k i j,<-Yc (P:=P) (H:=H) (n:=n) k i j];have e:=Yc (P:=P) (H:=H) (n:=n) k i j;omega
theorem Amo{m:Mp}(hm:Ep m){i j k l:Int}(hcv:Af3 P H (inN n))(q:Quad P (inN n) (apM m) i j k l)(hQ:0<DH P H i j k l):phi P H n (flipM m i j k l)<phi P H n m:=by
 obtain⟨n1,n2,n3,n4,n5,n6⟩:=q.ne;obtain⟨f1,f2⟩:=q.fresh;have h1:Ep (cutM m i j k):=((hm.del _).del _).del _;have h2:Ep (cutM (cutM m i j k) j i l):=((h1.del _).del _).del _;have h3:Ep (putM (cutM (cutM m i j k) j i l) i l k):=((h2.put _ _).put _ _).put _ _;have a1:=q.tri.rot _ _ _ q.hk;have a2:=q.tri.rot2 q.hk;have a3:=q.tri.rot _ _ _ q.hl;have a4:=q.tri.rot2 q.hl;have e1:=Aq4 (P:=P) (H:=H) (n:=n) hm n1 (fun e=>n4 e.symm) n3 q.hk a1 a2;have e2:=Aq4 (P:=P) (H:=H) (n:=n) h1 (i:=j) (j:=i) (k:=l) n1.symm (fun e=>n5 e.symm) n6 (by rw[Ov hm,iN oo];exact q.hl) (by rw[Ov hm,iN oo];exact a3) (by rw[Ov hm,iN oo];exact a4);have e3:=Amn (P:=P) (H:=H) (n:=n) h2 (i:=i) (j:=l) (k:=k) (fun e=>n5 e.symm) n2.symm n3
  (by rw[Ov h1,iP oo]) (by rw[Ov h1,iN oo,Ov hm,iN oo];exact f2) (by rw[Ov h1,iN oo,Ov hm,iP oo])
 have e4:=Amn (P:=P) (H:=H) (n:=n) h3 (i:=j) (j:=k) (k:=l) (fun e=>n4 e.symm) n2 n6
  (by rw[Aa4 h2,iN oo,iN oo,iN oo,Ov h1,iN oo,Ov hm,iP oo])
  (by rw[Aa4 h2,iN oo,iN oo,iN oo,Ov h1,iN oo,Ov hm,iN oo];exact f1)
  (by rw[Aa4 h2,iN oo,iN oo,iN oo,Ov h1,iP oo])
 have:=q.cnf_lt hcv hQ;unfold flipM;omega
end
theorem Azm(hi hj hk hl:Int)(i j k l:Ad):Dt hk hl hj hi k l j i = -Dt hi hj hk hl i j k l:=by unfold Dt crs;grind
def Fx(F:List (Ab×Bool))(i j:Int):Bool:=(mget F ⟨min i j,max i j⟩).getD false
def pr2(i j:Int):Ab:=⟨min i j,max i j⟩
theorem Oa(i j:Int):pr2 i j=pr2 j i:=by unfold pr2;rw[Int.min_comm,Int.max_comm]
theorem Ahb{i j a b:Int}(h:pr2 i j=pr2 a b):(i=a/\j=b)\/(i=b/\j=a):=by
 unfold pr2 at h;rw[Jn] at h;omega
structure Ob(v:List Aa)(F:List (Ab×Bool))(q:List Ab)(m:Mp):Prop where
 map:MapN v.length m
 tri:Tri (plV v) (inN v.length) (apM m)
 qn:∀s∈q,inN v.length s.a0/\inN v.length s.a1/\s.a0<=s.a1
 pend:∀i j k l,apM m i j=some k->apM m j i=some l->pr2 i j∈q\/Fx F i j=true\/DH (plV v) (hV v) i j k l<0
theorem Ob.pop{v F q s m}(h:Ob v F (q++[s]) m)(hs:∀k l,apM m s.a0 s.a1=some k->apM m s.a1 s.a0=some l->Fx F s.a0 s.a1=true\/DH (plV v) (hV v) s.a0 s.a1 k l<0):Ob v F q m:=by
 have hq:=(h.qn s s_).2.2;refine⟨h.map,h.tri,fun x hx=>h.qn x (List.mem_append_left _ hx),fun i j k l hk hl=>?_⟩;rcases h.pend i j k l hk hl with g|g
 .rcases List.mem_append.1 g with g|g
  .exact .inl g
  ·rw[List.mem_singleton] at g;right;have e:pr2 s.a0 s.a1=s:=by
    obtain⟨x,y⟩:=s;unfold pr2;rw[Jn];simp only at hq⊢;omega
   rw[<-e] at g;rcases Ahb g with⟨e1,e2⟩|⟨e1,e2⟩
   .subst e1;subst e2;exact hs k l hk hl
   .subst e1;subst e2;rcases hs l k hl hk with t|t
    .left;unfold Fx at *;rw[Int.min_comm,Int.max_comm];exact t
    .right;rw[<-Quad.swapQ];exact t
 .exact .inr g
theorem Ako{v:List Aa}{m:Mp}(hv:Ci v)(ht:Tri (plV v) (inN v.length) (apM m)){i j k l:Int}(hk:apM m i j=some k)(hl:apM m j i=some l)(hD:¬DH (plV v) (hV v) i j k l<0):Quad (plV v) (inN v.length) (apM m) i j k l:=by
 obtain⟨vi,vj,vk,ck⟩:=ht.ccw _ _ _ hk;obtain⟨_,_,vl,cl⟩:=ht.ccw _ _ _ hl;have c0:crs (plV v i) (plV v j) (plV v l)<0:=by rw[Bb];omega
 refine⟨ht,hk,hl,?_,?_⟩
 .rw[Au];rcases Int.lt_or_le 0 (crs (plV v k) (plV v i) (plV v l)) with g|g
  .exact g
  .exact absurd (To hv i j k l vi vj vk vl ck c0 (.inr g)) hD
 .rcases Int.lt_or_le 0 (crs (plV v j) (plV v k) (plV v l)) with g|g
  .exact g
  .exact absurd (To hv i j k l vi vj vk vl ck c0 (.inl g)) hD
theorem Ob.flip{v F q s m}(hv:Ci v)(h:Ob v F (q++[s]) m){k l:Int}(hk:apM m s.a0 s.a1=some k)(hl:apM m s.a1 s.a0=some l)(hD:¬ DH (plV v) (hV v) s.a0 s.a1 k l<0):
  Ob v F (q++[pr2 s.a0 k,pr2 k s.a1,pr2 s.a1 l,pr2 l s.a0]) (flipM m s.a0 s.a1 k l):=by
 have Q:=Ako hv h.tri hk hl hD;obtain⟨n1,n2,n3,n4,n5,n6⟩:=Q.ne;obtain⟨vi,vj,vk,ck⟩:=h.tri.ccw _ _ _ hk;obtain⟨_,_,vl,cl⟩:=h.tri.ccw _ _ _ hl;have hf:=Xr h.map.ok n1 n2 n3 n4 n5 n6;have hq:=(h.qn s s_).2.2;have es:pr2 s.a0 s.a1=s:=by
  obtain⟨x,y⟩:=s;unfold pr2;rw[Jn];simp only at hq⊢;omega
 have hD2:0<DH (plV v) (hV v) s.a0 s.a1 k l:=by
  have:=(Adr hv vi vj vk vl ck (by rw[Bb];omega)).2;omega
 refine⟨?_,by rw[hf];exact Q.flip,fun x hx=>?_,fun a b c d hc hd=>?_⟩
 .have m1:=h.map.cutM s.a0 s.a1 k;have m2:=m1.cutM s.a1 s.a0 l;exact (m2.putM vi vl vk).putM vj vk vl
 .rcases List.mem_append.1 hx with hx|hx
  .exact h.qn x (List.mem_append_left _ hx)
  ·have key:∀ i j,inN v.length i->inN v.length j->inN v.length (pr2 i j).a0/\inN v.length (pr2 i j).a1/\(pr2 i j).a0<=(pr2 i j).a1:=fun i j h1 h2=>by
    unfold pr2 inN at *;simp only;omega
   simp only[List.mem_cons,List.not_mem_nil,or_false] at hx;rcases hx with rfl|rfl|rfl|rfl
   .exact key _ _ vi vk
   .exact key _ _ vk vj
   .exact key _ _ vj vl
   .exact key _ _ vl vi
 .rw[hf] at hc hd;have mem:∀x,x∈[pr2 s.a0 k,pr2 k s.a1,pr2 s.a1 l,pr2 l s.a0]->x∈q++[pr2 s.a0 k,pr2 k s.a1,pr2 s.a1 l,pr2 l s.a0]:=fun x hx=>List.mem_append_right _ hx
  have dg:DH (plV v) (hV v) k l s.a1 s.a0<0:=by
   unfold DH at hD2⊢;rw[Azm];omega
  have outer:∀ a b c,Ef (apM m) s.a0 s.a1 k l a b=some c->(pr2 a b∈[pr2 s.a0 k,pr2 k s.a1,pr2 s.a1 l,pr2 l s.a0])\/(a=l/\b=k/\c=s.a0)\/(a=k/\b=l/\c=s.a1) \/
    (apM m a b=some c/\¬(a=s.a0/\b=l)/\¬(a=l/\b=k)/\¬(a=k/\b=s.a0)/\¬(a=s.a1/\b=k)/\¬(a=k/\b=l)/\¬(a=l/\b=s.a1)/\¬(a=s.a0/\b=s.a1)/\¬(a=s.a1/\b=s.a0)):=by
   intro a b c hc;rcases Qf hc with⟨e1,e2,_⟩|g|⟨e1,e2,_⟩|⟨e1,e2,_⟩|g|⟨e1,e2,_⟩|g
   .left;rw[Oa a b,e1,e2];simp
   .exact .inr (.inl g)
   .left;rw[Oa a b,e1,e2];simp
   .left;rw[Oa a b,e1,e2];simp
   .exact .inr (.inr (.inl g))
   .left;rw[Oa a b,e1,e2];simp
   .exact .inr (.inr (.inr g))
  rcases outer a b c hc with g|⟨rfl,rfl,rfl⟩|⟨rfl,rfl,rfl⟩|⟨g0,g⟩
  .exact .inl (mem _ g)
  .rw[Apl n3 n2 n4 n5] at hd;obtain rfl:=oI hd;right;right;rw[Quad.swapQ (P:=plV v) (H:=hV v)];exact dg
  .rw[Apk n5] at hd;obtain rfl:=oI hd;exact .inr (.inr dg)
  .rcases outer b a d hd with g'|⟨e1,e2,_⟩|⟨e1,e2,_⟩|⟨g0',g'⟩
   .left;rw[Oa a b];exact mem _ g'
   .omega
   .omega
   .rcases h.pend a b c d g0 g0' with t|t
    .rcases List.mem_append.1 t with t|t
     .exact .inl (List.mem_append_left _ t)
     .rw[List.mem_singleton,<-es] at t;rcases Ahb t with⟨e1,e2⟩|⟨e1,e2⟩ <;> omega
    .exact .inr t
structure Tf(v:List Aa)(F:List (Ab×Bool))(m m':Mp):Prop where
 cov:∀S:Int->Prop,Cov (plV v) S (apM m)->Cov (plV v) S (apM m')
 fix:∀i j,Fx F i j=true->(apM m i j≠none\/apM m j i≠none)->(apM m' i j≠none\/apM m' j i≠none)
 ne:m≠[]->m'≠[]
theorem Tf.refl{v F m}:Tf v F m m:=⟨fun _ h=>h,fun _ _ _ h=>h,fun h=>h⟩
theorem Tf.trans{v F m m' m''}(h:Tf v F m m')(k:Tf v F m' m''):Tf v F m m'':=⟨fun S h1=>k.cov S (h.cov S h1),fun i j h1 h2=>k.fix i j h1 (h.fix i j h1 h2),fun h1=>k.ne (h.ne h1)⟩
theorem Aq5{F:List (Ab×Bool)}{i j:Int}:Fx F j i=Fx F i j:=by unfold Fx;rw[Int.min_comm,Int.max_comm]
theorem Amp{v F q s m}(hv:Ci v)(hn:v.length<=1024)(h:Ob v F (q++[s]) m)(hq:q.length<=5000000000):
  ∃q' m',Ds (v,m,F,q++[s])=some (.inl (v,m',F,q'))/\Ob v F q' m'/\Tf v F m m'/\((m'=m/\q'=q)\/(phi (plV v) (hV v) v.length m'<phi (plV v) (hV v) v.length m/\q'.length=q.length+4)):=by
 obtain⟨k1,k2,k3⟩:=h.qn s s_;have es:pr2 s.a0 s.a1=s:=by
  obtain⟨x,y⟩:=s;unfold pr2;rw[Jn];simp only at k3⊢;omega
 have hw:w64 ((((q++[s]).length:Nat):Int)-1)=(q.length:Int):=by rw[List.length_append,List.length_singleton,Av oo oo];omega
 have hi:idx (q++[s]) (q.length:Int)=some s:=(Az s_).trans s_;have ht:List.take (Int.toNat (q.length:Int)) (q++[s])=q:=s_;have e0:Ds (v,m,F,q++[s]) =
   (fun j18:List Ab×Bool->Option (Sum (List Aa×Mp×List (Ab×Bool)×List Ab) Ag)=>if ((mget m s).isSome)=true then (if ((mget m ((⟨s.a1,s.a0⟩:Ab))).isSome)=true then (
    if (mget F s).getD false=true then (j18 (q,true))
    else (bnd (Tq (plV v s.a0) (plV v s.a1) (plV v ((mget m s).getD 0)) (plV v ((mget m ((⟨s.a1,s.a0⟩:Ab))).getD 0))) fun r169=>j18 (q,r169)))
   else (j18 (q,true))) else (j18 (q,true)))
   (fun s18=>if s18.2=true then (some (.inl (v,m,F,s18.1)))
    else (bnd (Cz (⟨v,m,F⟩:Ag) s.a0 s.a1) fun r185=>
    if r185.2=true then (gd ((s18.1.length+4)*16<=140737488355328)<|
     some (.inl (r185.1.v,r185.1.apex,r185.1.fixed,s18.1++[pr2 s.a0 ((mget m s).getD 0),pr2 ((mget m s).getD 0) s.a1,pr2 s.a1 ((mget m ((⟨s.a1,s.a0⟩:Ab))).getD 0),pr2 ((mget m ((⟨s.a1,s.a0⟩:Ab))).getD 0) s.a0])))
    else (some (.inl (r185.1.v,r185.1.apex,r185.1.fixed,s18.1))))):=by
  unfold Ds;simp only[hw];rw[iP s_,hi,Ac,gd_t (by simp;omega),gd_t (Ok hn k1 k2),Ac,gd_t (Ok hn k2 k1),Ac,jn_d,ht]
  by_cases c1:(mget m s).isSome=true
  .rw[iP c1,iP c1]
   by_cases c2:(mget m (⟨s.a1,s.a0⟩:Ab)).isSome=true
   .rw[iP c2,iP c2,gd_t (Ok hn k1 k2),Ac];obtain⟨k,hk⟩:=Option.isSome_iff_exists.1 c1;obtain⟨l,hl⟩:=Option.isSome_iff_exists.1 c2;have hk':apM m s.a0 s.a1=some k:=hk;have vk:=(h.map.val hk').2.2;have vl:=(h.map.val (show apM m s.a1 s.a0=some l from hl)).2.2;rw[p_eq (b:=⟨v,m,F⟩) k1,Ac,p_eq (b:=⟨v,m,F⟩) k2,Ac,hk,hl];simp only[Option.getD_some];rw[p_eq (b:=⟨v,m,F⟩) vk,Ac,p_eq (b:=⟨v,m,F⟩) vl,Ac];rfl
   .rw[iN c2,iN c2];rfl
  .rw[iN c1,iN c1];rfl
 rw[e0];dsimp only;have pop:(∀ k l,apM m s.a0 s.a1=some k->apM m s.a1 s.a0=some l->Fx F s.a0 s.a1=true\/DH (plV v) (hV v) s.a0 s.a1 k l<0) ->
   ∃q' m',some (Sum.inl (v,m,F,q))=some (Sum.inl (β:=Ag) (v,m',F,q'))/\Ob v F q' m'/\Tf v F m m'/\((m'=m/\q'=q)\/(phi (plV v) (hV v) v.length m'<phi (plV v) (hV v) v.length m/\q'.length=q.length+4)):=
  fun hs=>⟨q,m,rfl,h.pop hs,.refl,.inl ⟨rfl,rfl⟩⟩
 by_cases c1:(mget m s).isSome=true
 .obtain⟨k,hk⟩:=Option.isSome_iff_exists.1 c1;have hk':apM m s.a0 s.a1=some k:=hk;rw[iP c1]
  by_cases c2:(mget m (⟨s.a1,s.a0⟩:Ab)).isSome=true
  ·obtain⟨l,hl⟩:=Option.isSome_iff_exists.1 c2;have hl':apM m s.a1 s.a0=some l:=hl;rw[if_pos c2];have hF:Fx F s.a0 s.a1=(mget F s).getD false:=by
    show (mget F (pr2 s.a0 s.a1)).getD false=_;rw[es]
   by_cases c3:(mget F s).getD false=true
   .rw[iP c3];exact pop fun _ _ _ _=>.inl (by rw[hF];exact c3)
   .rw[iN c3,hk,hl];simp only[Option.getD_some];obtain⟨vi,vj,vk,ck⟩:=h.tri.ccw _ _ _ hk';obtain⟨_,_,vl,cl⟩:=h.tri.ccw _ _ _ hl';have c0:crs (plV v s.a0) (plV v s.a1) (plV v l)<0:=by rw[Bb];omega
    obtain⟨hleg,hne⟩:=Adr hv vi vj vk vl ck c0;have hsd:Int.sign (crs (plV v s.a0) (plV v s.a1) (plV v k))*Int.sign (crs (plV v s.a0) (plV v s.a1) (plV v l)) = -1:=by rw[Adl];exact .inr ⟨ck,c0⟩
    obtain⟨d1,d2,d3,d4⟩:=Aja hsd;rw[At0 (hv.ok _ vi) (hv.ok _ vj) (hv.ok _ vk) (hv.ok _ vl) d1 d2 d3 d4,Ac]
    by_cases c4:legP (plV v s.a0) (plV v s.a1) (plV v k) (plV v l)
    .rw[dT c4,iP rfl];refine pop fun k' l' hk2 hl2=>.inr ?_
     rw[hk'] at hk2;rw[hl'] at hl2;cases hk2;cases hl2
     exact hleg.1 c4
    .rw[dF c4,iN s_];have hD:¬DH (plV v) (hV v) s.a0 s.a1 k l<0:=fun g=>c4 (hleg.2 g)
     have Q:=Ako hv h.tri hk' hl' hD;have hs:Int.sign (crs (plV v k) (plV v l) (plV v s.a0))*Int.sign (crs (plV v k) (plV v l) (plV v s.a1)) = -1:=by
      rw[Adl];left;refine⟨?_,by rw[Au];exact Q.c2⟩;have e:crs (plV v k) (plV v l) (plV v s.a0) = -crs (plV v s.a0) (plV v l) (plV v k):=by unfold crs;grind
      have:=Q.c1;omega
     rw[Akl (b:=⟨v,m,F⟩) hv hn h.map hk' hl',iP hs,Ac];simp only[if_true];rw[gd_t oo];obtain⟨n1,n2,n3,n4,n5,n6⟩:=Q.ne;refine⟨_,_,rfl,h.flip hv hk' hl' hD,⟨fun S hc=>?_,fun a b hF2 hab=>?_,fun _=>by simp[flipM,putM,mput]⟩,.inr ⟨Amo h.map.ok (To hv) Q oo,s_⟩⟩
     .rw[Xr h.map.ok n1 n2 n3 n4 n5 n6];exact Q.cov hc
     ·rw[Xr h.map.ok n1 n2 n3 n4 n5 n6];have nf:∀ a b,Fx F a b=true->¬ ((a=s.a0/\b=s.a1)\/(a=s.a1/\b=s.a0)):=fun a b hab e=>by
       rcases e with⟨e1,e2⟩|⟨e1,e2⟩
       .rw[e1,e2,hF] at hab;exact c3 hab
       .rw[e1,e2,Aq5,hF] at hab;exact c3 hab
      rcases hab with g|g
      .left;intro e;rcases Wz e with t|t
       .exact g t
       .exact nf a b hF2 t
      .right;intro e;rcases Wz e with t|t
       .exact g t
       .exact nf b a (by rw[Aq5];exact hF2) t
  .rw[iN c2];refine pop fun k' l' _ hl2=>?_
   exact absurd (by rw[show mget m (⟨s.a1,s.a0⟩:Ab)=some l' from hl2];rfl) c2
 .rw[iN c1];refine pop fun k' l' hk2 _=>?_
  exact absurd (by rw[show mget m s=some k' from hk2];rfl) c1
theorem As3{b:Ag}(hv:Ci b.v)(hn:b.v.length<=1024)(hm:MapN b.v.length b.apex)(ht:Tri (plV b.v) (inN b.v.length) (apM b.apex)):
  ∃m',Kc b=some ⟨b.v,m',b.fixed⟩/\Ob b.v b.fixed [] m'/\Tf b.v b.fixed b.apex m':=by
 have hsq:=Abg hn;have hl:=hm.len;have hf:∀q,(Iy b.apex q).length<=1:=fun q=>by unfold Iy;split <;> simp
 have h0:Ob b.v b.fixed (Ba cmp2 (b.apex.flatMap (Iy b.apex))) b.apex:=by
  refine⟨hm,ht,fun s hs=>?_,fun i j k l hk hl=>.inl ?_⟩
  .rw[Hc] at hs;obtain⟨q,hq,hs⟩:=List.mem_flatMap.1 hs;obtain⟨k1,k2,k3⟩:=hm.key q hq;unfold Iy at hs;split at hs
   .rw[List.mem_singleton] at hs;subst hs;unfold inN at *;simp only;omega
   .cases hs
  .rw[Hc,List.mem_flatMap];have n1:=(ht.ne hk).1;rcases Int.lt_or_gt_of_ne n1 with c|c
   .refine⟨(⟨i,j⟩,k),Er hk,?_⟩;unfold Iy pr2;rw[iP (.inl c)];exact List.mem_singleton.2 rfl
   .refine⟨(⟨j,i⟩,l),Er hl,?_⟩;unfold Iy;rw[iP (.inl c),Oa];exact List.mem_singleton.2 rfl
 unfold Kc;rw[Ald hn hm,Ac];have hlen:(Ba cmp2 (b.apex.flatMap (Iy b.apex))).length<=1048576:=by
  rw[Do];have:=Jh hf b.apex;omega
 have hphi:phi (plV b.v) (hV b.v) b.v.length b.apex<=1073741824:=by
  have h1:=Axi (P:=plV b.v) (H:=hV b.v) (n:=b.v.length) b.apex;have h2:=Nat.mul_le_mul (oo:b.apex.length<=1048576) hn;omega
 have:=Bp (B:=Ds) (fun s=>4*phi (plV b.v) (hV b.v) b.v.length s.2.1+s.2.2.2.length)
  (fun s=>s.1=b.v/\s.2.2.1=b.fixed/\Ob b.v b.fixed s.2.2.2 s.2.1/\Tf b.v b.fixed b.apex s.2.1/\4*phi (plV b.v) (hV b.v) b.v.length s.2.1+s.2.2.2.length<=5000000000)
  (fun t=>∃m',t=⟨b.v,m',b.fixed⟩/\Ob b.v b.fixed [] m'/\Tf b.v b.fixed b.apex m') (fun s hs=>by
   obtain⟨v,m,F,q⟩:=s;obtain⟨e1,e2,h1,h2,h3⟩:=hs;simp only at e1 e2 h1 h2 h3;subst e1;subst e2
   by_cases hq:q=[]
   .subst hq;right;refine⟨⟨b.v,m,b.fixed⟩,?_,m,rfl,h1,h2⟩;unfold Ds;rw[iN s_]
   .left;obtain⟨q0,s,rfl⟩:∃q0 s,q=q0++[s]:=⟨q.dropLast,q.getLast hq,(List.dropLast_concat_getLast hq).symm⟩;rw[List.length_append,List.length_singleton] at h3;obtain⟨q',m',h4,h5,h6,h7⟩:=Amp hv hn h1 oo;refine⟨_,h4,⟨rfl,rfl,h5,h2.trans h6,?_⟩,?_⟩
    .dsimp only;rcases h7 with⟨rfl,rfl⟩|⟨g1,g2⟩ <;> omega
    .dsimp only;rw[List.length_append,List.length_singleton];rcases h7 with⟨rfl,rfl⟩|⟨g1,g2⟩ <;> omega)
  (b.v,b.apex,b.fixed,Ba cmp2 (b.apex.flatMap (Iy b.apex))) ⟨rfl,rfl,h0,.refl,by dsimp only;omega⟩
 obtain⟨t,h1,m',rfl,h2,h3⟩:=this;rw[h1,Ac];exact⟨m',rfl,h2,h3⟩
theorem Aca{σ τ:Type}{B:σ->Option (Sum σ τ)}(st:Nat->σ)(t:τ):∀(N:Nat),(∀k,k<N->B (st k)=some (.inl (st (k+1))))->B (st N)=some (.inr t)->lfix B (st 0)=some t:=by
 intro N h he;have key:∀j k,j+k=N->lfix B (st k)=some t:=by
  intro j
  induction j with
  |zero=>
   intro k hk;rw[Ax,show k=N by omega,he]
  |succ j ih=>
   intro k hk;rw[Ax,h k oo];exact ih (k+1) oo
 exact key N 0 oo
theorem Azn{v:List Aa}{i j:Nat}(hi:i<v.length)(hj:j<v.length):befV v[i] v[j]↔befP (plV v (i:Int)) (plV v (j:Int)):=by
 unfold plV;rw[Az hi,Az hj];rfl
theorem Ahx{v:List Aa}(hv:Ci v):Gr v:=by
 unfold Gr;rw[List.pairwise_iff_getElem];intro i j hi hj hij hs;have:=hv.dist (i:Int) (j:Int) ⟨oo,oo⟩ ⟨oo,oo⟩ (by
  unfold plV Bz;rw[Az hi,Az hj];exact hs)
 omega
structure Px(v:List Aa)(l:LI):Prop where
 perm:l.Perm (inds v.length)
 ord:l.Pairwise fun i j=>befP (plV v i) (plV v j)
theorem Amq{v:List Aa}(hv:Ci v)(hn:v.length<=1024):∃l,Tt v=some l/\Px v l:=by
 have hd:=Ahx hv;have h0:lfix (Rr v) (([]:LI),0)=some (inds v.length):=by
  refine Aca (fun k=>(inds k,(k:Int))) _ v.length (fun k hk=>?_) ?_
  .unfold Rr;rw[iP (by simp only;omega),gd_t (by simp only[Xa];omega),Bd oo];unfold inds;rw[List.range_succ,List.map_append];rfl
  .unfold Rr;rw[iN (by simp only;omega)]
 have hok:∀x∈inds v.length,okIx v x:=fun x hx=>Ss.1 hx
 refine⟨Ba (cmpR v) (inds v.length),?_,Dk _ _,?_⟩
 .unfold Tt;rw[jn_d,h0,Ac];exact gd_t ⟨by rw[Xa];omega,hok,hd⟩
 .have hs:=Kq (totR hd) hok;have hp:=Dk (cmpR v) (inds v.length);have hnd:(Ba (cmpR v) (inds v.length)).Nodup:=hp.nodup_iff.2 Vf;unfold List.Nodup at hnd;have:=hs.and hnd;refine List.Pairwise.imp_of_mem ?_ this;rintro i j hi hj ⟨h1,h2⟩;obtain⟨a,ha,rfl,_⟩:=Kb (hok i (hp.mem_iff.1 hi));obtain⟨b,hb,rfl,_⟩:=Kb (hok j (hp.mem_iff.1 hj));rw[<-Azn ha hb]
  by_cases c:befV v[a] v[b]
  .exact c
  .rw[Ut hb ha] at h1;exfalso;apply h2;have:=(totR hd).tot (a:Int) (b:Int) ⟨oo,oo⟩ ⟨oo,oo⟩ (by rw[Ut ha hb];exact c) (by rw[Ut hb ha];exact h1);exact this
def putAll(m:Mp)(p:Int)(l:List Ab):Mp:=l.foldl (fun m s=>putM m s.a0 s.a1 p) m
theorem MapN.putAll{n:Nat}{p:Int}(hp:inN n p):∀{l:List Ab} {m:Mp},MapN n m->(∀s∈l,inN n s.a0/\inN n s.a1)->MapN n (putAll m p l)
 |[],_,h,_=>h
 |s::r,m,h,hs=>MapN.putAll hp (l:=r) (h.putM (hs s mS).1 (hs s mS).2 hp) fun x hx=>hs x (mO _ hx)
variable {P:Int->Ad}{V S:Int->Prop}{R:Int->Int->Prop}{p:Int}
theorem Aiw{m:Mp}(hm:Ep m)(h:Adds P V S (apM m) R p):∀ (l:List Ab),(∀ s∈l,Vis P R p s.a0 s.a1)->Ep (putAll m p l) /\
  ∀i j k,apM (putAll m p l) i j=some k↔apM m i j=some k\/((⟨i,j⟩∈l/\k=p)\/(⟨k,i⟩∈l/\j=p)\/(⟨j,k⟩∈l/\i=p)):=by
 intro l;generalize hr:l.reverse=r;have hl:l=r.reverse:=by rw[<-hr,List.reverse_reverse]
 clear hr;subst hl
 induction r with
 |nil=>intro _;exact⟨hm,fun i j k=>by simp[putAll]⟩
 |cons s r ih=>
  intro hs;have hs':∀x∈r.reverse,Vis P R p x.a0 x.a1:=fun x hx=>hs x (by simp at hx⊢;exact .inl hx)
  have hv:=hs s s_;obtain⟨i1,i2⟩:=ih hs';obtain⟨sx,sy,nxy,_⟩:=h.r1 _ _ hv.1;have np:=h.np;have e:putAll m p (s::r).reverse=putM (putAll m p r.reverse) s.a0 s.a1 p:=by
   unfold putAll;rw[List.reverse_cons,List.foldl_append];rfl
  rw[e];refine⟨((i1.put _ _).put _ _).put _ _,fun i j k=>?_⟩;rw[Aa4 i1];have visS:∀{x y:Int},(⟨x,y⟩:Ab)∈r.reverse->Vis P R p x y:=fun hx=>hs' _ hx
  have k1:∀c,apM (putAll m p r.reverse) p s.a0=some c->c=s.a1:=fun c hc=>by
   rcases (i2 _ _ _).1 hc with g|⟨g,_⟩|⟨g,_⟩|⟨g,_⟩
   .exact absurd (h.used _ _ _ g) np
   .exact absurd (h.r1 _ _ (visS g).1).1 np
   .exact absurd (h.r1 _ _ (visS g).1).2.1 np
   .exact h.uniq2 (visS g) hv
  have k2:∀c,apM (putAll m p r.reverse) s.a1 p=some c->c=s.a0:=fun c hc=>by
   rcases (i2 _ _ _).1 hc with g|⟨g,_⟩|⟨g,_⟩|⟨g,e⟩
   .exact absurd (h.used _ _ _ (h.tri.rot _ _ _ g)) np
   .exact absurd (h.r1 _ _ (visS g).1).2.1 np
   .exact h.uniq (visS g) hv
   .exact absurd (e▸sy) np
  have k3:∀c,apM (putAll m p r.reverse) s.a0 s.a1=some c->c=p:=fun c hc=>by
   rcases (i2 _ _ _).1 hc with g|⟨_,g⟩|⟨_,e⟩|⟨_,e⟩
   .rw[h.r4 _ _ hv.1] at g;cases g
   .exact g
   .exact absurd (e▸sy) np
   .exact absurd (e▸sx) np
  have mem:∀x y:Int,(⟨x,y⟩:Ab)∈(s::r).reverse↔(x=s.a0/\y=s.a1)\/(⟨x,y⟩:Ab)∈r.reverse:=fun x y=>by
   obtain⟨s0,s1⟩:=s;rw[List.reverse_cons,List.mem_append,List.mem_singleton,Jn];exact Or.comm
  rw[mem,mem,mem];have i2':=i2 i j k
  by_cases c1:i=p/\j=s.a0
  .rw[iP c1];obtain⟨rfl,rfl⟩:=c1;constructor
   .intro hk;cases hk
    exact .inr (.inr (.inr ⟨.inl ⟨rfl,rfl⟩,rfl⟩))
   .rintro (g|⟨⟨e1,_⟩|g,e⟩|⟨⟨_,e2⟩|g,e⟩|⟨⟨_,e2⟩|g,_⟩)
    .exact absurd (h.used _ _ _ g) np
    .exact absurd (e1▸sx) np
    .exact absurd (h.r1 _ _ (visS g).1).1 np
    .exact absurd (e2▸sy) np
    .exact absurd (h.r1 _ _ (visS g).1).2.1 np
    .rw[e2]
    .rw[h.uniq2 hv (visS g)]
  rw[iN c1]
  by_cases c2:i=s.a1/\j=p
  .rw[iP c2];obtain⟨rfl,rfl⟩:=c2;constructor
   .intro hk;cases hk
    exact .inr (.inr (.inl ⟨.inl ⟨rfl,rfl⟩,rfl⟩))
   .rintro (g|⟨⟨_,e1⟩|g,e⟩|⟨⟨e1,_⟩|g,e⟩|⟨⟨e1,_⟩|g,e⟩)
    .exact absurd (h.used _ _ _ (h.tri.rot _ _ _ g)) np
    .exact absurd (e1▸sy) np
    .exact absurd (h.r1 _ _ (visS g).1).2.1 np
    .rw[e1]
    .rw[h.uniq hv (visS g)]
    .exact absurd (e▸sy) np
    .exact absurd (e▸sy) np
  rw[iN c2]
  by_cases c3:i=s.a0/\j=s.a1
  .rw[iP c3];obtain⟨rfl,rfl⟩:=c3;constructor
   .intro hk;cases hk
    exact .inr (.inl ⟨.inl ⟨rfl,rfl⟩,rfl⟩)
   .rintro (g|⟨_,e⟩|⟨_,e⟩|⟨_,e⟩)
    .rw[h.r4 _ _ hv.1] at g;cases g
    .rw[e]
    .exact absurd (e▸sy) np
    .exact absurd (e▸sx) np
  rw[iN c3,i2'];constructor
  .rintro (g|⟨g,e⟩|⟨g,e⟩|⟨g,e⟩)
   .exact .inl g
   .exact .inr (.inl ⟨.inr g,e⟩)
   .exact .inr (.inr (.inl ⟨.inr g,e⟩))
   .exact .inr (.inr (.inr ⟨.inr g,e⟩))
  .rintro (g|⟨g|g,e⟩|⟨g|g,e⟩|⟨g|g,e⟩)
   .exact .inl g
   .exact absurd g c3
   .exact .inr (.inl ⟨g,e⟩)
   .exact absurd ⟨g.2,e⟩ c2
   .exact .inr (.inr (.inl ⟨g,e⟩))
   .exact absurd ⟨e,g.1⟩ c1
   .exact .inr (.inr (.inr ⟨g,e⟩))
end
section
theorem Ahy{a b c q:Ad}(h1:befP a b)(h2:befP b c)(h0:crs a b c=0)(hq:crs a b q<0):crs b c q<0:=by
 have m:∀x y z:Ad,crs ⟨x.X,-x.Y⟩ ⟨y.X,-y.Y⟩ ⟨z.X,-z.Y⟩ = -crs x y z:=fun x y z=>by unfold crs;grind
 have e1:crs b c q*(b.X-a.X)=crs a b q*(c.X-b.X)-(q.X-b.X)*crs a b c:=by unfold crs;grind
 have e2:crs b c q*(b.Y-a.Y)=crs a b q*(c.Y-b.Y)-(q.Y-b.Y)*crs a b c:=by unfold crs;grind
 have e3:(b.X-a.X)*(c.Y-b.Y)-(b.Y-a.Y)*(c.X-b.X)=crs a b c:=by unfold crs;grind
 rw[h0,Int.mul_zero,Int.sub_zero] at e1 e2;rw[h0] at e3;have fin:∀x w z:Int,x*w=crs a b q*z->0<w->0<z->x<0:=fun x w z e hw hz=>by
  have:=Int.mul_neg_of_neg_of_pos hq hz;rcases Int.lt_or_le x 0 with k|k
  .exact k
  .have:=Int.mul_nonneg k (Int.le_of_lt hw);omega
 by_cases g:a.X<b.X
 ·have hc:b.X<c.X:=by
   rcases Int.lt_or_le b.X c.X with k|k
   .exact k
   .have hx:c.X=b.X:=by unfold befP at h2;omega
    have hy:b.Y<c.Y:=by unfold befP at h2;omega
    have z:c.X-b.X=0:=oo;rw[z,Int.mul_zero] at e3;have:=Int.mul_pos (oo:0<b.X-a.X) (oo:0<c.Y-b.Y);omega
  exact fin _ _ _ e1 oo oo
 .have hx:a.X=b.X:=by unfold befP at h1;omega
  have hy:a.Y<b.Y:=by unfold befP at h1;omega
  have hc:b.X=c.X:=by
   have z:b.X-a.X=0:=oo;rw[z,Int.zero_mul] at e3;have:(b.Y-a.Y)*(c.X-b.X)=0:=oo;rcases Int.mul_eq_zero.1 this with k|k <;> omega
  have hy2:b.Y<c.Y:=by unfold befP at h2;omega
  exact fin _ _ _ e2 oo oo
section
variable {v:List Aa}{l:LI}
theorem Px.len(hr:Px v l):l.length=v.length:=by rw[hr.perm.length_eq,Xa]
theorem Px.val(hr:Px v l){i:Int}:i∈l↔inN v.length i:=by rw[hr.perm.mem_iff,Ss]
theorem Px.lt(hr:Px v l){a b:Nat}(ha:a<l.length)(hb:b<l.length)(h:a<b):befP (plV v l[a]) (plV v l[b]):=(List.pairwise_iff_getElem.1 hr.ord) a b ha hb h
theorem Px.inj(hr:Px v l){a b:Nat}(ha:a<l.length)(hb:b<l.length)(h:l[a]=l[b]):a=b:=by
 rcases Nat.lt_trichotomy a b with c|c|c
 .have:=hr.lt ha hb c;rw[h] at this;exact (Tp this this).elim
 .exact c
 .have:=hr.lt hb ha c;rw[h] at this;exact (Tp this this).elim
def Oc(l:LI)(k:Nat)(i:Int):Prop:=∃(j:Nat) (hj:j<l.length),j<k/\i=l[j]
structure Aix(v:List Aa)(l:LI)(k:Nat)(m:Mp):Prop where
 map:MapN v.length m
 tri:Tri (plV v) (inN v.length) (apM m)
 cov:Cov (plV v) (Oc l k) (apM m)
 used:∀i j c,apM m i j=some c->Oc l k i
theorem Oc.succ{k:Nat}(hk:k<l.length){i:Int}:Oc l (k+1) i↔Oc l k i\/i=l[k]:=by
 constructor
 .rintro⟨j,hj,h1,rfl⟩
  by_cases e:j=k
  .subst e;exact .inr rfl
  .exact .inl ⟨j,hj,oo,rfl⟩
 .rintro (⟨j,hj,h1,rfl⟩|rfl)
  .exact⟨j,hj,oo,rfl⟩
  .exact⟨k,hk,oo,rfl⟩
theorem Px.place(hr:Px v l){k:Nat}(hk:k<l.length):(∀i,Oc l k i->inN v.length i)/\inN v.length l[k]/\¬Oc l k l[k]/\(∀i,Oc l k i->befP (plV v i) (plV v l[k]))/\(∀i,inN v.length i->¬Oc l k i->i≠l[k]->befP (plV v l[k]) (plV v i)):=by
 refine⟨fun i hi=>?_,hr.val.1 (gM hk),fun hp=>?_,fun i hi=>?_,fun i hi h1 h2=>?_⟩
 .obtain⟨j,hj,_,rfl⟩:=hi;exact hr.val.1 (gM hj)
 .obtain⟨j,hj,h1,e⟩:=hp;have:=hr.inj hk hj e;omega
 .obtain⟨j,hj,h1,rfl⟩:=hi;exact hr.lt hj hk h1
 .obtain⟨j,hj,rfl⟩:=List.getElem_of_mem (hr.val.2 hi);refine hr.lt hk hj ?_;rcases Nat.lt_trichotomy j k with c|c|c
  .exact absurd ⟨j,hj,c,rfl⟩ h1
  .subst c;exact absurd rfl h2
  .exact c
def visB(v:List Aa)(p:Int)(s:Ab):Bool:=decide (0<crs (plV v s.a0) (plV v s.a1) (plV v p))
theorem Bcn(hv:Ci v)(hn:v.length<=1024){F:List (Ab × Bool)}{b:Ag}{rl:List Ab}{m:Mp}(hm:MapN v.length m){p:Int}(hp:inN v.length p)(hrl:∀ s∈rl,inN v.length s.a0/\inN v.length s.a1)(hlen:rl.length<=2000000):
  lfix (Dr (b,rl) p) (v,m,F,0)=some (v,putAll m p (rl.filter (visB v p)),F):=by
 have hM:∀k,MapN v.length (putAll m p ((rl.take k).filter (visB v p))):=fun k=>hm.putAll hp fun s hs=>hrl s (List.mem_of_mem_take (List.mem_filter.1 hs).1)
 have:=Aca (B:=Dr (b,rl) p) (fun k=>(v,putAll m p ((rl.take k).filter (visB v p)),F,(k:Int))) (v,putAll m p (rl.filter (visB v p)),F) rl.length (fun k hk=>?_) ?_
 .simpa[putAll] using this
 ·unfold Dr;have hs:=hrl rl[k] (List.getElem_mem hk);have e:(rl.take (k+1)).filter (visB v p)=(rl.take k).filter (visB v p)++if visB v p rl[k] then [rl[k]] else []:=by
   rw[List.take_succ_eq_append_getElem hk,List.filter_append,List.filter_cons,List.filter_nil]
  simp only;rw[iP oo,jn_d,Az hk,Ac,p_eq (b:=⟨v,_,F⟩) hs.1,Ac,p_eq (b:=⟨v,_,F⟩) hs.2,Ac,p_eq (b:=⟨v,_,F⟩) hp,Ac,Qt (hv.ok _ hs.1) (hv.ok _ hs.2) (hv.ok _ hp),Ac,Bd oo,e]
  by_cases c:0<crs (plV v rl[k].a0) (plV v rl[k].a1) (plV v p)
  .rw[Int.sign_eq_one_of_pos c,iP oo,Aha (b:=⟨v,putAll m p ((rl.take k).filter (visB v p)),F⟩) hn (hM k) hs.1 hs.2 hp,Ac,iP (by unfold visB;simpa using c)];dsimp only;unfold putAll;rw[List.foldl_append];rfl
  ·rw[if_neg (fun g=>c (by
    rcases Int.lt_trichotomy (crs (plV v rl[k].a0) (plV v rl[k].a1) (plV v p)) 0 with t|t|t
    .rw[Int.sign_eq_neg_one_of_neg t] at g;omega
    .rw[t] at g;simp at g
    .exact t)),iN (by unfold visB;simpa using c),List.append_nil]
 .unfold Dr;simp only;rw[iN oo,List.take_length]
theorem Aix.step(hv:Ci v)(hn:v.length<=1024)(hr:Px v l){F:List (Ab × Bool)}{k:Nat}(hk:k<l.length){m:Mp}(h:Aix v l k m):
  ∃m',(bnd (Li ⟨v,m,F⟩) fun r498=>bnd (lfix (Dr r498 l[k]) (r498.1.v,r498.1.apex,r498.1.fixed,0)) fun t=>some t)=some (v,m',F)/\Aix v l (k+1) m'/\(m≠[]->m'≠[]):=by
 obtain⟨q1,q2,q3,q4,q5⟩:=hr.place hk;have hA:=Auu h.tri h.cov h.used q1 q2 q3 q4 q5;have hsq:=Abg hn;have hl:=h.map.len;have hf:∀q,(rimF m q).length<=1:=fun q=>by unfold rimF;split <;> simp
 have hmem:∀x y:Int,(⟨x,y⟩:Ab)∈m.flatMap (rimF m)↔Rim (apM m) x y:=fun x y=>by
  rw[List.mem_flatMap];constructor
  .rintro⟨q,hq,hx⟩;unfold rimF at hx;split at hx
   .cases hx
   .rename_i hn;rw[List.mem_singleton] at hx;obtain⟨⟨a,b⟩,c⟩:=q;unfold rev2 at hx hn;rw[Jn] at hx;simp only at hx hn;obtain⟨rfl,rfl⟩:=hx;refine⟨⟨c,Nv h.map.ok hq⟩,?_⟩;simpa[apM] using hn
  .rintro⟨⟨c,hc⟩,hn⟩;refine⟨(⟨y,x⟩,c),Er hc,?_⟩;unfold rimF rev2;rw[iN (by rw[show mget m (⟨x,y⟩:Ab)=none from hn];simp)];exact List.mem_singleton.2 rfl
 have hrl:∀s∈Ba cmp2 (m.flatMap (rimF m)),inN v.length s.a0/\inN v.length s.a1:=fun s hs=>by
  rw[Hc] at hs;obtain⟨x,y⟩:=s;obtain⟨⟨c,hc⟩,_⟩:=(hmem x y).1 hs;have:=h.map.val hc;exact⟨this.2.1,this.1⟩
 have hlen:(Ba cmp2 (m.flatMap (rimF m))).length<=2000000:=by
  rw[Do];have:=Jh hf m;omega
 rw[Bbi (b:=⟨v,m,F⟩) hn h.map,Ac];dsimp only;rw[Bcn hv hn h.map q2 hrl hlen,Ac];have hvis:∀s∈(Ba cmp2 (m.flatMap (rimF m))).filter (visB v l[k]),Vis (plV v) (Rim (apM m)) l[k] s.a0 s.a1:=fun s hs=>by
  obtain⟨h1,h2⟩:=List.mem_filter.1 hs;rw[Hc] at h1;exact⟨(hmem s.a0 s.a1).1 h1,by unfold visB at h2;simpa using h2⟩
 have hmv:∀x y:Int,(⟨x,y⟩:Ab)∈(Ba cmp2 (m.flatMap (rimF m))).filter (visB v l[k])↔Vis (plV v) (Rim (apM m)) l[k] x y:=fun x y=>by
  constructor
  .exact fun hs=>hvis _ hs
  .rintro⟨h1,h2⟩;exact List.mem_filter.2 ⟨Hc.2 ((hmem x y).2 h1),by unfold visB;simpa using h2⟩
 obtain⟨o1,o2⟩:=Aiw h.map.ok hA _ hvis;have hN:∀i j c,apM (putAll m l[k] ((Ba cmp2 (m.flatMap (rimF m))).filter (visB v l[k]))) i j=some c↔apM m i j=some c\/New (plV v) (Rim (apM m)) l[k] i j c:=fun i j c=>by
  rw[o2,hmv,hmv,hmv];rfl
 refine⟨_,rfl,⟨?_,hA.tri' hN,?_,?_⟩,fun hne=>?_⟩
 .exact h.map.putAll q2 fun s hs=>hrl s (List.mem_filter.1 hs).1
 .have:=hA.cov' hN h.cov;intro i j c hc hn d hd;exact this i j c hc hn d ((Oc.succ hk).1 hd)
 .intro i j c hc;exact (Oc.succ hk).2 (hA.used' hN i j c hc)
 .obtain⟨q,hq⟩:=List.exists_mem_of_ne_nil m hne;intro e;obtain⟨⟨a,b⟩,c⟩:=q;have hc:apM m a b=some c:=Nv h.map.ok hq;have:=(hN a b c).2 (.inl hc);rw[e] at this;cases this
end
def Aah(v:List Aa):Prop:=∀i j k,inN v.length i->inN v.length j->inN v.length k->crs (plV v i) (plV v j) (plV v k)=0
section
variable {v:List Aa}{l:LI}
theorem Beh(hv:Ci v)(hn:v.length<=1024)(hr:Px v l)(b:Ag)(hb:b.v=v):∃ n0:Nat,lfix (Ic l b) 2=some (n0:Int)/\2<=n0/\(∀ k,2<=k->k<n0->∃ (h0:0<l.length) (h1:1<l.length) (hk:k<l.length),crs (plV v l[0]) (plV v l[1]) (plV v l[k])=0) /\
  (∀(h0:0<l.length) (h1:1<l.length) (hk:n0<l.length),crs (plV v l[0]) (plV v l[1]) (plV v l[n0])≠0)/\(n0<=l.length\/n0=2):=by
 have hlen:=hr.len;have:=Bp (B:=Ic l b) (fun s=>l.length-s.toNat) (fun s=>∃k:Nat,s=(k:Int)/\2<=k/\(k<=l.length\/k=2)/\∀j,2<=j->j<k->∃(h0:0<l.length) (h1:1<l.length) (hk:j<l.length),crs (plV v l[0]) (plV v l[1]) (plV v l[j])=0)
  (fun t=>∃n0:Nat,t=(n0:Int)/\2<=n0/\(∀k,2<=k->k<n0->∃(h0:0<l.length) (h1:1<l.length) (hk:k<l.length),crs (plV v l[0]) (plV v l[1]) (plV v l[k])=0) /\
   (∀(h0:0<l.length) (h1:1<l.length) (hk:n0<l.length),crs (plV v l[0]) (plV v l[1]) (plV v l[n0])≠0)/\(n0<=l.length\/n0=2)) (fun s hs=>by
   obtain⟨k,rfl,h2,h3,h4⟩:=hs;unfold Ic;rw[jn_d]
   by_cases c:k<l.length
   .have h0:0<l.length:=oo;have h1:1<l.length:=oo;have i0:idx l 0=some l[0]:=Az (j:=0) h0;have i1:idx l 1=some l[1]:=Az (j:=1) h1;have v0:=hr.val.1 (gM h0);have v1:=hr.val.1 (gM h1);have vk:=hr.val.1 (gM c);rw[<-hb] at v0 v1 vk;rw[iP oo,i0,Ac,i1,Ac,Az c,Ac,p_eq v0,Ac,p_eq v1,Ac,p_eq vk,Ac,hb];rw[hb] at v0 v1 vk;rw[Qt (hv.ok _ v0) (hv.ok _ v1) (hv.ok _ vk),Ac]
    by_cases z:crs (plV v l[0]) (plV v l[1]) (plV v l[k])=0
    .left;rw[dT (by rw[z];rfl)];refine⟨((k+1:Nat):Int),?_,⟨k+1,rfl,oo,.inl oo,fun j hj hjk=>?_⟩,oo⟩
     .dsimp only;rw[iP rfl,Bd oo]
     .by_cases e:j=k
      .subst e;exact⟨h0,h1,c,z⟩
      .exact h4 j hj oo
    .right;rw[dF (by rwa [Int.sign_eq_zero_iff_zero])];exact⟨(k:Int),rfl,k,rfl,h2,h4,fun _ _ _=>z,h3⟩
   .right;rw[iN oo];exact⟨(k:Int),rfl,k,rfl,h2,h4,fun _ _ hk=>absurd hk c,h3⟩) 2 ⟨2,rfl,oo,.inr rfl,fun j h1 h2=>oo⟩
 obtain⟨t,h1,n0,rfl,h2⟩:=this;exact⟨n0,h1,h2⟩
structure Fan(v:List Aa)(l:LI)(n0:Nat):Prop where
 two:2<=n0
 lt:n0<l.length
 col:∀i j k,Oc l n0 i->Oc l n0 j->Oc l n0 k->crs (plV v i) (plV v j) (plV v k)=0
 off:crs (plV v l[0]) (plV v l[1]) (plV v l[n0])≠0
def fanS(v:List Aa)(l:LI)(n0 i:Nat):Ab:=if 0<crs (plV v (l.getD i 0)) (plV v (l.getD (i+1) 0)) (plV v (l.getD n0 0)) then ⟨l.getD i 0,l.getD (i+1) 0⟩ else ⟨l.getD (i+1) 0,l.getD i 0⟩
def fanL(v:List Aa)(l:LI)(n0 k:Nat):List Ab:=(List.range k).map (fanS v l n0)
theorem Ow{l:LI}{i:Nat}(h:i<l.length):l.getD i 0=l[i]:=by simp[h]
theorem Fan.place(hr:Px v l){n0:Nat}(hf:Fan v l n0){i:Nat}(h:i<n0):Oc l n0 (l.getD i 0):=by
 have:=hf.lt;exact⟨i,oo,h,Ow oo⟩
theorem Fan.bef(hr:Px v l){n0:Nat}(hf:Fan v l n0){i j:Nat}(h:i<j)(hj:j<n0):befP (plV v (l.getD i 0)) (plV v (l.getD j 0)):=by
 have:=hf.lt;rw[Ow (oo:i<l.length),Ow (oo:j<l.length)];exact hr.lt oo oo h
theorem Bei(hv:Ci v)(hn:v.length<=1024)(hr:Px v l){n0:Nat}(hf:Fan v l n0){F:List (Ab × Bool)}:
  lfix (Fo (n0:Int) l) (v,[],F,0)=some (v,putAll [] (l.getD n0 0) (fanL v l n0 (n0-1)),F):=by
 have h2:=hf.two;have hlt:=hf.lt;have hlen:=hr.len;have val:∀i,i<l.length->inN v.length (l.getD i 0):=fun i hi=>by rw[Ow hi];exact hr.val.1 (gM hi)
 have hM:∀k,k<=n0-1->MapN v.length (putAll [] (l.getD n0 0) (fanL v l n0 k)):=fun k hk=>by
  refine MapN.putAll (val n0 hlt) ⟨List.Pairwise.nil,fun q hq=>by cases hq⟩ fun s hs=>?_
  obtain⟨i,hi,rfl⟩:=List.mem_map.1 hs;rw[List.mem_range] at hi;unfold fanS;split
  .exact⟨val _ oo,val _ oo⟩
  .exact⟨val _ oo,val _ oo⟩
 refine Aca (B:=Fo (n0:Int) l) (fun k=>(v,putAll [] (l.getD n0 0) (fanL v l n0 k),F,(k:Int))) (v,putAll [] (l.getD n0 0) (fanL v l n0 (n0-1)),F) (n0-1) (fun k hk=>?_) ?_
 ·unfold Fo;simp only;rw[Bd oo,if_pos oo,jn_d,Az (show k<l.length by omega),Ac,Az (show k+1<l.length by omega),Ac,Az hlt,Ac];have v0:=val k oo;have v1:=val (k+1) oo;have vp:=val n0 hlt;have e:putAll [] (l.getD n0 0) (fanL v l n0 (k+1))=putM (putAll [] (l.getD n0 0) (fanL v l n0 k)) (fanS v l n0 k).a0 (fanS v l n0 k).a1 (l.getD n0 0):=by
   unfold putAll fanL;rw[List.range_succ,List.map_append,List.foldl_append];rfl
  rw[e];unfold fanS;rw[Ow (oo:k<l.length)] at v0⊢;rw[Ow (oo:k+1<l.length)] at v1⊢;rw[Ow hlt] at vp⊢;have hM':=hM k oo;rw[Ow hlt] at hM';rw[p_eq (b:=⟨v,_,F⟩) v0,Ac,p_eq (b:=⟨v,_,F⟩) v1,Ac,p_eq (b:=⟨v,_,F⟩) vp,Ac,Qt (hv.ok _ v0) (hv.ok _ v1) (hv.ok _ vp),Ac]
  by_cases c:0<crs (plV v l[k]) (plV v l[k+1]) (plV v l[n0])
  .rw[Int.sign_eq_one_of_pos c,iP oo,iP c,Ac,Ac,Ac,Aha (b:=⟨v,putAll [] l[n0] (fanL v l n0 k),F⟩) hn hM' v0 v1 vp,Ac]
  ·rw[if_neg (fun g=>c (by
    rcases Int.lt_trichotomy (crs (plV v l[k]) (plV v l[k+1]) (plV v l[n0])) 0 with t|t|t
    .rw[Int.sign_eq_neg_one_of_neg t] at g;omega
    .rw[t] at g;simp at g
    .exact t)),iN c,Ac,Ac,Ac,Aha (b:=⟨v,putAll [] l[n0] (fanL v l n0 k),F⟩) hn hM' v1 v0 vp,Ac]
 .unfold Fo;simp only;rw[Bd oo,iN oo]
theorem Fan.swept(hv:Ci v)(hn:v.length<=1024)(hr:Px v l){n0:Nat}(hf:Fan v l n0):Aix v l (n0+1) (putAll [] (l.getD n0 0) (fanL v l n0 (n0-1)))/\putAll [] (l.getD n0 0) (fanL v l n0 (n0-1))≠[]:=by
 have h2:=hf.two;have hlt:=hf.lt;have hlen:=hr.len;have val:∀i,i<l.length->inN v.length (l.getD i 0):=fun i hi=>by rw[Ow hi];exact hr.val.1 (gM hi)
 obtain⟨q1,q2,q3,q4,q5⟩:=hr.place hlt;rw[<-Ow hlt] at q2 q3 q4 q5;have hoff:=hf.off;rw[<-Ow (oo:0<l.length),<-Ow (oo:1<l.length),<-Ow hlt] at hoff;generalize hp:l.getD n0 0=p at *;have he:∀i j,apM [] i j=none:=fun i j=>rfl
 have hS:∀i,Oc l n0 i↔∃k,k<n0/\i=l.getD k 0:=fun i=>by
  constructor
  .rintro⟨j,hj,h1,rfl⟩;exact⟨j,h1,(Ow hj).symm⟩
  .rintro⟨k,hk,rfl⟩;exact hf.place hr hk
 have same:∀ i,i+1<n0->(0<crs (plV v (l.getD 0 0)) (plV v (l.getD 1 0)) (plV v p)->0<crs (plV v (l.getD i 0)) (plV v (l.getD (i+1) 0)) (plV v p)) /\
   (crs (plV v (l.getD 0 0)) (plV v (l.getD 1 0)) (plV v p)<0->crs (plV v (l.getD i 0)) (plV v (l.getD (i+1) 0)) (plV v p)<0):=by
  intro i
  induction i with
  |zero=>exact fun _=>⟨fun h=>h,fun h=>h⟩
  |succ i ih=>
   intro hi;obtain⟨i1,i2⟩:=ih oo;have b1:=hf.bef hr (oo:i<i+1) oo;have b2:=hf.bef hr (oo:i+1<i+2) hi;have c0:=hf.col _ _ _ (hf.place hr (oo:i<n0)) (hf.place hr (oo:i+1<n0)) (hf.place hr hi);exact⟨fun h=>Arv b1 b2 c0 (i1 h),fun h=>Ahy b1 b2 c0 (i2 h)⟩
 have key:∃R,Adds (plV v) (inN v.length) (Oc l n0) (apM []) R p/\∀x y:Int,(⟨x,y⟩:Ab)∈fanL v l n0 (n0-1)↔Vis (plV v) R p x y:=by
  rcases Int.lt_or_gt_of_ne hoff with c|c
  .refine⟨Alc (fun j=>l.getD (n0-1-j) 0) n0,Af5 he (fun i=>?_) (fun a b c h1 h2 h3=>hf.col a b c h1 h2 h3) (fun i hi=>?_) q1 q2 q3 q4 q5,fun x y=>?_⟩
   .rw[hS];constructor
    .rintro⟨k,hk,rfl⟩;exact⟨n0-1-k,oo,by (try dsimp only);rw[show n0-1-(n0-1-k)=k by omega]⟩
    .rintro⟨k,hk,rfl⟩;exact⟨n0-1-k,oo,rfl⟩
   .have:=(same (n0-2-i) oo).2 c;rw[show n0-2-i+1=n0-1-i by omega] at this;try dsimp only
    rw[show n0-1-(i+1)=n0-2-i by omega,Bb];omega
   .unfold fanL Vis Alc;rw[List.mem_map];constructor
    .rintro⟨i,hi,e⟩;rw[List.mem_range] at hi;have hneg:=(same i oo).2 c;unfold fanS at e;rw[hp,iN oo,Jn] at e;obtain⟨rfl,rfl⟩:=e;refine⟨⟨n0-2-i,oo,by (try dsimp only);rw[show n0-1-(n0-2-i)=i+1 by omega],by (try dsimp only);rw[show n0-1-(n0-2-i+1)=i by omega]⟩,?_⟩;rw[Bb];omega
    .rintro⟨⟨i,hi,rfl,rfl⟩,_⟩;refine⟨n0-2-i,by rw[List.mem_range];omega,?_⟩;have hneg:=(same (n0-2-i) oo).2 c;unfold fanS;rw[hp,iN oo,Jn];exact⟨by (try dsimp only);rw[show n0-2-i+1=n0-1-i by omega],by (try dsimp only);rw[show n0-1-(i+1)=n0-2-i by omega]⟩
  .refine⟨Alc (fun j=>l.getD j 0) n0,Af5 he hS (fun a b c h1 h2 h3=>hf.col a b c h1 h2 h3) (fun i hi=>(same i hi).1 c) q1 q2 q3 q4 q5,fun x y=>?_⟩;unfold fanL Vis Alc;rw[List.mem_map];constructor
   .rintro⟨i,hi,e⟩;rw[List.mem_range] at hi;have hpos:=(same i oo).1 c;unfold fanS at e;rw[hp,iP hpos,Jn] at e;obtain⟨rfl,rfl⟩:=e;exact⟨⟨i,oo,rfl,rfl⟩,hpos⟩
   .rintro⟨⟨i,hi,rfl,rfl⟩,hpos⟩;refine⟨i,by rw[List.mem_range];omega,?_⟩;unfold fanS;rw[hp,iP hpos]
 obtain⟨R,hA,hmv⟩:=key;obtain⟨o1,o2⟩:=Aiw (m:=[]) List.Pairwise.nil hA (fanL v l n0 (n0-1)) fun s hs=>(hmv s.a0 s.a1).1 hs
 have hN:∀i j c,apM (putAll [] p (fanL v l n0 (n0-1))) i j=some c↔apM [] i j=some c\/New (plV v) R p i j c:=fun i j c=>by
  rw[o2,hmv,hmv,hmv];rfl
 have hpl:p=l[n0]:=by rw[<-hp,Ow hlt]
 refine⟨⟨?_,hA.tri' hN,?_,?_⟩,fun e=>?_⟩
 .refine MapN.putAll q2 ⟨List.Pairwise.nil,fun q hq=>by cases hq⟩ fun s hs=>?_
  have:=(hA.r1 _ _ ((hmv s.a0 s.a1).1 hs).1);exact⟨q1 _ this.1,q1 _ this.2.1⟩
 .have:=hA.cov' hN (fun i j k hk=>by cases hk);intro i j c hc hn d hd;refine this i j c hc hn d ?_;rw[hpl];exact (Oc.succ hlt).1 hd
 .intro i j c hc;refine (Oc.succ hlt).2 ?_;rw[<-hpl];exact hA.used' hN i j c hc
 .have h0:fanS v l n0 0∈fanL v l n0 (n0-1):=List.mem_map.2 ⟨0,by rw[List.mem_range];omega,rfl⟩;have:=(o2 (fanS v l n0 0).a0 (fanS v l n0 0).a1 p).2 (.inr (.inl ⟨h0,rfl⟩));rw[e] at this;cases this
end
variable {v:List Aa}{l:LI}
theorem Axj(hv:Ci v)(hn:v.length<=1024)(hr:Px v l)(F:List (Ab × Bool)):
  ∃m,Md ⟨v,[],F⟩ l=some ⟨v,m,F⟩/\((Aah v/\m=[])\/(¬Aah v/\MapN v.length m/\Tri (plV v) (inN v.length) (apM m)/\Cov (plV v) (inN v.length) (apM m)/\m≠[])):=by
 have hlen:=hr.len;obtain⟨n0,h1,h2,h3,h4,h5⟩:=Beh hv hn hr ⟨v,[],F⟩ rfl;unfold Md;rw[jn_d,h1,Ac];dsimp only
 by_cases c:l.length<=n0
 .rw[iP oo];refine⟨[],rfl,.inl ⟨?_,rfl⟩⟩
  by_cases c2:2<=l.length
  ·-- all on the line of the first two
   have g0:0<l.length:=oo;have g1:1<l.length:=oo;have on:∀i,inN v.length i->crs (plV v l[0]) (plV v l[1]) (plV v i)=0:=fun i hi=>by
    obtain⟨k,hk,rfl⟩:=List.getElem_of_mem (hr.val.2 hi)
    by_cases e0:k=0
    .subst e0;exact Bx _ _
    .by_cases e1:k=1
     .subst e1;exact Bq _ _
     .obtain⟨_,_,_,g⟩:=h3 k oo oo;exact g
   have hne:¬Bz (plV v l[0]) (plV v l[1]):=fun e=>by
    have:=hr.lt g0 g1 oo;unfold befP Bz at *;omega
   exact fun i j k hi hj hk=>Af6 hne (on i hi) (on j hj) (on k hk)
  .intro i j k hi hj hk;unfold inN at hi hj hk;have:i=j:=oo;subst this;exact Wu _ _
 ·rw[if_neg oo,jn_d];have g0:0<l.length:=oo;have g1:1<l.length:=oo;have gn:n0<l.length:=oo;have off:=h4 g0 g1 gn;have hne:¬ Bz (plV v l[0]) (plV v l[1]):=fun e=>by
   have:=hr.lt g0 g1 oo;unfold befP Bz at *;omega
  have hf:Fan v l n0:=by
   refine⟨h2,gn,fun i j k hi hj hk=>?_,off⟩;have on:∀i,Oc l n0 i->crs (plV v l[0]) (plV v l[1]) (plV v i)=0:=fun i hi=>by
    obtain⟨k,hk,hk2,rfl⟩:=hi
    by_cases e0:k=0
    .subst e0;exact Bx _ _
    .by_cases e1:k=1
     .subst e1;exact Bq _ _
     .obtain⟨_,_,_,g⟩:=h3 k oo hk2;exact g
   exact Af6 hne (on i hi) (on j hj) (on k hk)
  obtain⟨s1,s2⟩:=hf.swept hv hn hr;rw[Bei hv hn hr hf,Ac];dsimp only;rw[Bd oo,gd_t ⟨oo,oo⟩];have ht:subl l (((n0+1:Nat):Int)) (l.length:Int)=l.drop (n0+1):=by unfold subl;simp
  rw[ht];have:=Bp (B:=Kk l (n0:Int)) (fun s=>l.length-s.2.2.2.2.toNat) (fun s=>∃(k:Nat) (m:Mp),n0+1<=k/\k<=l.length/\s=(v,m,F,l.drop (n0+1),((k-(n0+1):Nat):Int))/\Aix v l k m/\m≠[])
   (fun t=>∃m:Mp,t=⟨v,m,F⟩/\Aix v l l.length m/\m≠[]) (fun s hs=>by
    obtain⟨k,m,k1,k2,rfl,k3,k4⟩:=hs;unfold Kk;dsimp only;rw[Bd oo]
    by_cases c2:k<l.length
    ·left;obtain⟨m',e1,e2,e3⟩:=k3.step hv hn hr (F:=F) c2;have hi:idx (l.drop (n0+1)) (((k-(n0+1):Nat):Int))=some l[k]:=by
      rw[Az (by rw[List.length_drop];omega),List.getElem_drop];congr 2;omega
     rw[iP (by simp;omega),jn_d,hi,Ac];refine⟨(v,m',F,l.drop (n0+1),((k+1-(n0+1):Nat):Int)),?_,⟨k+1,m',oo,oo,rfl,e2,e3 k4⟩,by dsimp only;omega⟩;obtain⟨r,hr1,hr2⟩:=Aq e1;obtain⟨t,ht1,ht2⟩:=Aq hr2;cases ht2
     rw[hr1,Ac,ht1,Ac,Bd oo,show k-(n0+1)+1=k+1-(n0+1) by omega]
    .right;rw[iN (by simp;omega)];have:k=l.length:=oo;subst this;exact⟨_,rfl,m,rfl,k3,k4⟩) (v,putAll [] (l.getD n0 0) (fanL v l n0 (n0-1)),F,l.drop (n0+1),0) ⟨n0+1,_,oo,oo,s_,s1,s2⟩
  obtain⟨t,e1,m,rfl,e2,e3⟩:=this;rw[e1,Ac];refine⟨m,rfl,.inr ⟨fun hfl=>?_,e2.map,e2.tri,fun i j k hk hnn d hd=>?_,e3⟩⟩
  .exact off (hfl _ _ _ (hr.val.1 (gM g0)) (hr.val.1 (gM g1)) (hr.val.1 (gM gn)))
  .obtain⟨j',hj',rfl⟩:=List.getElem_of_mem (hr.val.2 hd);exact e2.cov _ _ _ hk hnn _ ⟨j',hj',hj',rfl⟩
def Del(v:List Aa)(a b c:Int):Prop:=inN v.length a/\inN v.length b/\inN v.length c/\0<crs (plV v a) (plV v b) (plV v c)/\∀d,inN v.length d->d≠a->d≠b->d≠c->DH (plV v) (hV v) a b c d<0
structure Amr(v:List Aa)(T:List Ah):Prop where
 ord:T.Pairwise fun x y=>¬cmp3 y x<0
 nd:T.Nodup
 mem:∀t,t∈T↔t.a0<t.a1/\t.a0<t.a2/\Del v t.a0 t.a1 t.a2
theorem Amr.unique{T T':List Ah}(h:Amr v T)(h':Amr v T'):T=T' :=
 Xb tot3 (fun _ _=>trivial) h.ord h'.ord ((List.perm_ext_iff_of_nodup h.nd h'.nd).2 fun t=>(h.mem t).trans (h'.mem t).symm)
theorem Ams(hv:Ci v){m:Mp}(hm:MapN v.length m)(ht:Tri (plV v) (inN v.length) (apM m))(hc:Cov (plV v) (inN v.length) (apM m))(hl:∀ i j k l,apM m i j=some k->apM m j i=some l->DH (plV v) (hV v) i j k l<0)(hne:m≠[])(a b c:Int):
  apM m a b=some c↔Del v a b c:=by
 have mem:∀a b c:Int,(a,b,c)∈(m.map fun q=>(q.1.a0,q.1.a1,q.2))↔apM m a b=some c:=fun a b c=>by
  rw[List.mem_map];constructor
  .rintro⟨⟨⟨x,y⟩,z⟩,hq,e⟩;cases e
   exact Nv hm.ok hq
  .intro h;exact⟨(⟨a,b⟩,c),Er h,rfl⟩
 have hX:Adm (plV v) (m.map fun q=>(q.1.a0,q.1.a1,q.2)):=⟨fun a b c h=>(mem _ _ _).2 (ht.rot _ _ _ ((mem _ _ _).1 h)),fun a b c h=>(ht.ccw _ _ _ ((mem _ _ _).1 h)).2.2.2⟩;have twin:∀a b c,apM m a b=some c->∀d,inN v.length d->crs (plV v a) (plV v b) (plV v d)<0->∃e,apM m b a=some e:=fun a b c h d hd hlt=>by
  rcases e:apM m b a with _|x
  .have:=hc a b c h e d hd;omega
  .exact⟨x,rfl⟩
 have G:=global (H:=hV v) (V:=inN v.length) hX (fun a b c h d hd n1 n2 n3=>ht.emp _ _ _ ((mem _ _ _).1 h) d hd n1 n2 n3) (fun a b c h d hd hlt=>by
  obtain⟨e,he⟩:=twin a b c ((mem _ _ _).1 h) d hd hlt;exact⟨e,(mem _ _ _).2 he,hl _ _ _ _ ((mem _ _ _).1 h) he⟩)
 constructor
 .intro h;obtain⟨k1,k2,k3,k4⟩:=ht.ccw _ _ _ h;exact⟨k1,k2,k3,k4,G a b c ((mem _ _ _).2 h)⟩
 .rintro⟨k1,k2,k3,k4,k5⟩;refine (mem _ _ _).1 (Anf (H:=hV v) (V:=inN v.length) hX (fun a b c h=>?_) G (fun a b c h d hd hlt=>?_) ?_ k1 k2 k3 k4 k5)
  .obtain⟨q1,q2,q3,_⟩:=ht.ccw _ _ _ ((mem _ _ _).1 h);exact⟨q1,q2,q3⟩
  .obtain⟨e,he⟩:=twin a b c ((mem _ _ _).1 h) d hd hlt;exact⟨e,(mem _ _ _).2 he⟩
  .intro e;rw[List.map_eq_nil_iff] at e;exact hne e
theorem Azo{m:Mp}(hm:MapN v.length m)(h:∀a b c,apM m a b=some c↔Del v a b c):Amr v (Ba cmp3 (m.flatMap triF)):=by
 have memt:∀t:Ah,t∈m.flatMap triF↔t.a0<t.a1/\t.a0<t.a2/\Del v t.a0 t.a1 t.a2:=fun t=>by
  rw[List.mem_flatMap];constructor
  .rintro⟨⟨⟨a,b⟩,c⟩,hq,ht⟩;unfold triF at ht;split at ht
   .rename_i hlt;rw[List.mem_singleton] at ht;subst ht;exact⟨hlt.1,hlt.2,(h _ _ _).1 (Nv hm.ok hq)⟩
   .cases ht
  .rintro⟨h1,h2,h3⟩;refine⟨(⟨t.a0,t.a1⟩,t.a2),Er ((h _ _ _).2 h3),?_⟩;unfold triF;rw[iP ⟨h1,h2⟩];exact List.mem_singleton.2 rfl
 refine⟨Kq tot3 (fun _ _=>trivial),(Dk _ _).nodup_iff.2 ?_,fun t=>by rw[Hc,memt]⟩;have:∀l:Mp,Ep l->(l.flatMap triF).Nodup:=by
  intro l
  induction l with
  |nil=>intro _;exact List.Pairwise.nil
  |cons q r ih=>
   intro hl;obtain⟨h1,h2⟩:=List.pairwise_cons.1 hl;rw[List.flatMap_cons,List.nodup_append];refine⟨?_,ih h2,fun x hx y hy e=>?_⟩
   .unfold triF;split
    .simp
    .exact List.Pairwise.nil
   ·subst e;obtain⟨q',hq',hy⟩:=List.mem_flatMap.1 hy;have key:∀ q:Ab × Int,x∈triF q->q.1=⟨x.a0,x.a1⟩:=fun q hq=>by
     unfold triF at hq;split at hq
     .rw[List.mem_singleton] at hq;subst hq;rfl
     .cases hq
    exact h1 q' hq' (by rw[key _ hx,key _ hy])
 exact this m hm.ok
end
section
theorem Tg{β γ:Type}(N:Nat)(hN:N<=1000000000)(p:Nat->Bool)(B:Int->Option (Sum Int (Sum β γ)))(u:β)(w:γ)(h1:∀k:Nat,k<N->B (k:Int)=if p k=true then some (.inr (.inr w)) else some (.inl ((k+1:Nat):Int)))(h2:B (N:Int)=some (.inr (.inl u))):lfix B 0=some (if (List.range N).any p then .inr w else .inl u):=by
 have key:∀j k,j+k=N->lfix B (k:Int)=some (if ((List.range N).drop k).any p then .inr w else .inl u):=by
  intro j
  induction j with
  |zero=>
   intro k hk;rw[Ax,show k=N by omega,h2,List.drop_eq_nil_of_le s_];rfl
  |succ j ih=>
   intro k hk;rw[Ax,h1 k oo,List.drop_eq_getElem_cons (by simp;omega),List.any_cons,List.getElem_range]
   by_cases c:p k=true
   .rw[iP c,c];rfl
   .rw[iN c];rw[Bool.not_eq_true] at c;rw[c,Bool.false_or];exact ih (k+1) oo
 have:=key N 0 oo
 rwa [List.drop_zero] at this
def pP(x:Aa):Ad:=⟨x.X,x.Y⟩
def Nl(x:Aa):Prop:=okP (pP x)/\-268435456<=x.Z.Lo/\x.Z.Lo<=x.Z.Hi/\x.Z.Hi<=268435456
instance(x:Aa):Decidable (Nl x):=by unfold Nl;infer_instance
theorem Vw{v:List Aa}{k:Nat}(hk:k<v.length):plV v (k:Int)=pP v[k]:=by unfold plV;rw[Az hk];rfl
theorem Akp(x:Aa):Xp x=some (decide (Nl x)):=by
 unfold Xp Df;rw[Ac,Ac,Ac,Afd,Ac,jn_d];unfold Wj
 by_cases h:okP (⟨x.X,x.Y⟩:Ad)
 .simp only[h,and_self,if_true];rw[jn_d]
  by_cases h1:-1152921504606846976<=x.Z.Lo
  .rw[iP h1]
   by_cases h2:x.Z.Lo<=x.Z.Hi
   .rw[iP h2]
    by_cases h3:x.Z.Hi<=1152921504606846976
    .rw[dT h3,Ac,iP rfl]
     by_cases h4:-268435456<=x.Z.Lo
     .rw[iP h4];congr 1;rw[Bool.eq_iff_iff,dQ,dQ];unfold Nl pP;exact⟨fun g=>⟨h,h4,h2,g⟩,fun g=>g.2.2.2⟩
     .rw[iN h4,dF (fun g:Nl x=>h4 g.2.1)]
    .rw[dF h3,Ac,iN s_,dF (fun g:Nl x=>h3 (by have:=g.2.2.2;omega))]
   .rw[iN h2,Ac,iN s_,dF (fun g:Nl x=>h2 g.2.2.1)]
  .rw[iN h1,Ac,iN s_,dF (fun g:Nl x=>h1 (by have:=g.2.1;omega))]
 .simp only[h,false_and,if_false];rw[iN dD,dF (fun g:Nl x=>h g.1)]
def Ox(v:List Aa):Int:=if 1024<v.length then 2 else if ¬(∀x∈v,Nl x) then 60 else if ¬Gr v then 61 else 0
theorem Sn{v:List Aa}(h:Ox v=0):v.length<=1024/\(∀x∈v,Nl x)/\Ci v:=by
 unfold Ox at h;split at h
 .omega
 .split at h
  .omega
  .split at h
   .omega
   .rename_i h1 h2 h3;have h2:=Classical.not_not.1 h2;have h3:=Classical.not_not.1 h3;refine⟨oo,h2,fun i hi=>?_,fun i j hi hj hs=>?_⟩
    .obtain⟨k,hk,rfl,_⟩:=Kb (v:=v) (i:=i) hi;rw[Vw hk];exact (h2 _ (gM hk)).1
    .obtain⟨a,ha,rfl,_⟩:=Kb (v:=v) (i:=i) hi;obtain⟨b,hb,rfl,_⟩:=Kb (v:=v) (i:=j) hj;rw[Vw ha,Vw hb] at hs;unfold Gr at h3;rw[List.pairwise_iff_getElem] at h3;rcases Nat.lt_trichotomy a b with c|c|c
     .exact absurd hs (h3 a b ha hb c)
     .rw[c]
     .exact absurd ⟨hs.1.symm,hs.2.symm⟩ (h3 b a hb ha c)
theorem Afk{v:List Aa}:((List.range v.length).any fun k=>!decide (Nl (v.getD k ⟨0,0,⟨0,0⟩⟩)))=true↔¬ ∀x∈v,Nl x:=by
 rw[List.any_eq_true];constructor
 .rintro⟨k,hk,h⟩ hall;rw[List.mem_range] at hk;simp[hk] at h;exact h (hall _ (gM hk))
 .intro h;apply Classical.byContradiction;intro hno;apply h;intro x hx;obtain⟨k,hk,rfl⟩:=List.getElem_of_mem hx;apply Classical.byContradiction;intro hb;exact hno ⟨k,List.mem_range.2 hk,by simp[hk,hb]⟩
theorem Akq{v:List Aa}:(∃i j,∃(hi:i<v.length) (hj:j<v.length),j<i/\Wk v[i] v[j])↔¬Gr v:=by
 unfold Gr;rw[List.pairwise_iff_getElem];constructor
 .rintro⟨i,j,hi,hj,hji,hs⟩ h;exact h j i hj hi hji ⟨hs.1.symm,hs.2.symm⟩
 .intro h;apply Classical.byContradiction;intro hno;apply h;intro i j hi hj hij hs;exact hno ⟨j,i,hj,hi,hij,hs.1.symm,hs.2.symm⟩
theorem Bco{v:List Aa}(c:v.length<=1024):lfix (Kw v) 0=some (if ((List.range v.length).any fun k=>!decide (Nl (v.getD k ⟨0,0,⟨0,0⟩⟩)))=true then .inr 60 else .inl ()):=by
 refine Tg v.length oo (fun k=>!decide (Nl (v.getD k ⟨0,0,⟨0,0⟩⟩))) (Kw v) () 60 (fun k hk=>?_) ?_
 .unfold Kw;rw[iP oo,Az hk,Ac,Akp,Ac,Bd oo];have e:v.getD k ⟨0,0,⟨0,0⟩⟩=v[k]:=by simp[hk]
  rw[e]
  by_cases g:Nl v[k]
  .simp[g]
  .simp[g]
 .unfold Kw;rw[iN oo]
theorem Amt(v:List Aa):Rh v=some (Ox v):=by
 unfold Rh Ox
 by_cases c:1024<v.length
 .rw[iP oo,iP c]
 .rw[iN oo,iN c,jn_d];rw[Bco oo,Ac]
  .by_cases h:∀x∈v,Nl x
   ·rw[if_neg (fun g=>Afk.1 g h),if_neg (not_not_intro h)];dsimp only;rw[jn_d];have hL:=Bp (B:=Pz v) (fun s=>v.length-s.2.toNat) (fun s=>∃ k:Nat,k<=v.length/\s.2=(k:Int)/\Ep s.1/\s.1.length<=k/\(∀ x,(mget s.1 x).getD false=true↔∃ (j:Nat) (hj:j<v.length),j<k/\pP v[j]=x)/\∀ i j (hi:i<v.length) (hj:j<v.length),i<k->j<i->¬ Wk v[i] v[j])
     (fun t=>t=if ¬Gr v then .inr 61 else .inl ()) (fun s hs=>by
      obtain⟨m,k⟩:=s;obtain⟨k,h1,rfl,h2,h3,h4,h5⟩:=hs;simp only at h1 h2 h3 h4;unfold Pz;dsimp only
      by_cases hk:k<v.length
      ·have hg:=(h _ (List.getElem_mem hk)).1;have hr:(-9223372036854775808<=v[k].X/\v[k].X<=9223372036854775807)/\-9223372036854775808<=v[k].Y/\v[k].Y<=9223372036854775807:=by
        unfold okP pP at hg;simp only at hg;omega
       unfold Df;rw[iP oo,Az hk,Ac,Ac,gd_t hr,Ac];have e4:=h4 (⟨v[k].X,v[k].Y⟩:Ad)
       by_cases hd:(mget m (⟨v[k].X,v[k].Y⟩:Ad)).getD false=true
       .right;rw[iP hd];obtain⟨j,hj,hjk,he⟩:=e4.1 hd;refine⟨_,rfl,?_⟩;rw[iP];refine Akq.1 ⟨k,j,hk,hj,hjk,?_⟩;unfold pP at he;simp at he;exact⟨he.1.symm,he.2.symm⟩
       .left;rw[iN hd,Ac,gd_t hr,gd_t oo,Bd oo];refine⟨_,rfl,⟨k+1,hk,rfl,h2.put _ _,?_,fun x=>?_,fun i j hi hj hik hji=>?_⟩,by dsimp only;omega⟩
        .dsimp only;unfold mput mdel;rw[List.length_cons];refine Nat.succ_le_succ (Nat.le_trans (List.length_filter_le _ m) h3)
        .dsimp only;rw[Rl h2]
         by_cases hx:x=⟨v[k].X,v[k].Y⟩
         .rw[iP hx];simp only[Option.getD_some,true_iff];exact⟨k,hk,oo,hx.symm⟩
         .rw[iN hx,h4];constructor
          .rintro⟨j,hj,h6,h7⟩;exact⟨j,hj,oo,h7⟩
          .rintro⟨j,hj,h6,h7⟩;refine⟨j,hj,?_,h7⟩
           by_cases e:j=k
           .subst e;exact absurd h7.symm hx
           .omega
        .by_cases e:i=k
         .subst e;intro hs;exact hd (e4.2 ⟨j,hj,hji,by unfold pP;rw[hs.1,hs.2]⟩)
         .exact h5 i j hi hj oo hji
      .right;rw[iN oo];refine⟨_,rfl,?_⟩;rw[iN];intro hno;obtain⟨i,j,hi,hj,hji,hs⟩:=Akq.2 hno;exact h5 i j hi hj oo hji hs) ([],0) ⟨0,oo,rfl,List.Pairwise.nil,s_,fun x=>by simp[mget],fun i j hi hj h1=>oo⟩
    obtain⟨t,h1,rfl⟩:=hL;rw[h1,Ac]
    by_cases hd:Gr v
    .rw[iN (not_not_intro hd),iN (not_not_intro hd)]
    .rw[iP hd,iP hd]
   .rw[iP (Afk.2 h),iP h]
def Iu(p0:Ad)(p1:Ad)(p2:Ad):Option Bool :=
 jn (fun (s2:Bool)=>
 some s2)
 (fun j2=>bnd (Cm p0 p1 p2) fun r4=>
 if r4=0 then (if (min p0.X p1.X)<=p2.X then (if p2.X<=(max p0.X p1.X) then (if (min p0.Y p1.Y)<=p2.Y then (j2 (decide (p2.Y<=(max p0.Y p1.Y))))
 else (j2 false))
 else (j2 false))
 else (j2 false))
 else (j2 false))
def Eu(p0:List Aa):Int->Option (Sum Int (Sum Unit Int)):=fun s0=>
 if s0<(p0.length:Int) then (bnd (idx p0 s0) fun x0=>
 bnd (Ha (⟨x0.X,x0.Y,(⟨x0.Z.Lo,x0.Z.Hi⟩:Af)⟩:Aa)) fun r0=>
 if r0=true then (some (.inl (w64 (s0+1))))
 else (some (.inr (.inr 60))))
 else (some (.inr (.inl ())))
def Gq(s0:Int)(p0:List Aa):Int->Option (Sum Int (Sum Unit Int)):=fun s1=>
 if s1<s0 then (jn (fun (s2:Bool)=>
 if s2=true then (some (.inr (.inr 61)))
 else (some (.inl (w64 (s1+1)))))
 (fun j0=>bnd (idx p0 s0) fun x0=>
 bnd (idx p0 s1) fun x1=>
 if x0.X=x1.X then (bnd (idx p0 s0) fun x2=>
 bnd (idx p0 s1) fun x3=>
 j0 (decide (x2.Y=x3.Y)))
 else (j0 false)))
 else (some (.inr (.inl ())))
def Eg(p0:List Aa):Int->Option (Sum Int (Sum Unit Int)):=fun s0=>
 if s0<(p0.length:Int) then (jn (fun (s1:Unit)=>
 some (.inl (w64 (s0+1))))
 (fun j0=>bnd (lfix (Gq s0 p0) 0) fun t0=>
 (match t0 with
 |(.inl z0)=>j0 z0
 |(.inr z0)=>some (.inr (.inr z0))
 )))
 else (some (.inr (.inl ())))
def Jz(p0:List Aa):Option Int :=
 if 1024<(p0.length:Int) then (some 2)
 else (jn (fun (s5:Unit)=>
 jn (fun (s0:Unit)=>
 some 0)
 (fun j0=>bnd (lfix (Eg p0) 0) fun t0=>
 (match t0 with
 |(.inl z0)=>j0 z0
 |(.inr z0)=>some z0
 )))
 (fun j5=>bnd (lfix (Eu p0) 0) fun t1=>
 (match t1 with
 |(.inl z1)=>j5 z1
 |(.inr z1)=>some z1
 )))
def Nq(p0:List Aa):(Int×Int)->Option (Sum (Int×Int) Int):=fun s0=>
 if s0.2<(p0.length:Int) then (jn (fun (s1:Int)=>
 some (.inl (s1,w64 (s0.2+1))))
 (fun j0=>bnd (idx p0 s0.2) fun x0=>
 bnd (idx p0 s0.1) fun x1=>
 bnd (Am (⟨x0.X,x0.Y,(⟨x0.Z.Lo,x0.Z.Hi⟩:Af)⟩:Aa)) fun r0=>
 bnd (Am (⟨x1.X,x1.Y,(⟨x1.Z.Lo,x1.Z.Hi⟩:Af)⟩:Aa)) fun r1=>
 bnd (Jl r0 r1) fun r2=>
 if r2=true then (j0 s0.2)
 else (j0 s0.1)))
 else (some (.inr s0.1))
def Od(p0:List Aa):Option Int :=
 jn (fun (s3:Int)=>
 some s3)
 (fun j3=>bnd (lfix (Nq p0) (0,0)) fun t0=>
 j3 t0)
def Oy(p0:List Aa)(p1:Int)(p2:Bool):(Int×Int)->Option (Sum (Int×Int) Int):=fun s0=>
 if s0.2<(p0.length:Int) then (jn (fun (s1:Int)=>
 some (.inl (s1,w64 (s0.2+1))))
 (fun j0=>if s0.2=p1 then (j0 s0.1)
 else (if s0.1<0 then (j0 s0.2)
 else (bnd (idx p0 p1) fun x0=>
 bnd (idx p0 s0.1) fun x1=>
 bnd (idx p0 s0.2) fun x2=>
 bnd (Am (⟨x0.X,x0.Y,(⟨x0.Z.Lo,x0.Z.Hi⟩:Af)⟩:Aa)) fun r0=>
 bnd (Am (⟨x1.X,x1.Y,(⟨x1.Z.Lo,x1.Z.Hi⟩:Af)⟩:Aa)) fun r1=>
 bnd (Am (⟨x2.X,x2.Y,(⟨x2.Z.Lo,x2.Z.Hi⟩:Af)⟩:Aa)) fun r2=>
 bnd (Cm r0 r1 r2) fun r3=>
 jn (fun (s2:Bool)=>
 if s2=true then (j0 s0.2)
 else (j0 s0.1))
 (fun j1=>if r3<0 then (j1 true)
 else (if r3=0 then (bnd (Iu r0 r1 r2) fun r4=>
 j1 (!(r4==p2)))
 else (j1 false)))))))
 else (some (.inr s0.1))
def Pi(p0:List Aa)(p1:Int)(p2:Bool):Option Int :=
 jn (fun (s3:Int)=>
 some s3)
 (fun j3=>bnd (lfix (Oy p0 p1 p2) (-1,0)) fun t0=>
 j3 t0)
def Oz(p0:List Aa):Int->Option (Sum Int (Sum Unit Bool)):=fun s0=>
 if s0<(p0.length:Int) then (bnd (idx p0 0) fun x0=>
 bnd (idx p0 1) fun x1=>
 bnd (idx p0 s0) fun x2=>
 bnd (Am (⟨x0.X,x0.Y,(⟨x0.Z.Lo,x0.Z.Hi⟩:Af)⟩:Aa)) fun r0=>
 bnd (Am (⟨x1.X,x1.Y,(⟨x1.Z.Lo,x1.Z.Hi⟩:Af)⟩:Aa)) fun r1=>
 bnd (Am (⟨x2.X,x2.Y,(⟨x2.Z.Lo,x2.Z.Hi⟩:Af)⟩:Aa)) fun r2=>
 bnd (Cm r0 r1 r2) fun r3=>
 if r3=0 then (some (.inl (w64 (s0+1))))
 else (some (.inr (.inr false))))
 else (some (.inr (.inl ())))
def Pj(p0:List Aa):Option Bool :=
 jn (fun (s2:Unit)=>
 some true)
 (fun j2=>bnd (lfix (Oz p0) 2) fun t0=>
 (match t0 with
 |(.inl z0)=>j2 z0
 |(.inr z0)=>some z0
 ))
instance(p0:Ad)(p1:Ad)(p2:Ad):Con (Iu p0 p1 p2) prog 81 (fun _ vs=>vs=[.agg #[iq p0.X,iq p0.Y],.agg #[iq p1.X,iq p1.Y],.agg #[iq p2.X,iq p2.Y]]) (fun _ r v Ln=>v=.bool r/\Ln=[]/\True):=⟨by
 rintro _ _ r rfl hx w hK;unfold Iu at hx;refine CtS ntmps81 results81 ?_;refine pq ?_;intros;rename_i hx
 refine pA ?_;intros;rename_i hx
 apply Jr (γ:=Unit) hx [] (fun s2 y2 f=>(6,.bool s2)::f) [999] (fun s2 y2 l=>l);exact kk
 .exact aI
 .refine pI ?_;intros;rename_i hx
  refine Cq1 (s:=12) hx rfl ?_ ?_
  .exact aI
  .exact aI⟩
instance(p0:List Aa):Con (Jz p0) prog 136 (fun K vs=>∃E0 G0,vs=[.slice E0 p0.length G0]/\Has K E0 p0.length G0 4 Ai p0/\True) (fun _ r v Ln=>v=iq r/\Ln=[]/\True):=⟨by
 rintro K _ r ⟨E0,G0,rfl,ha0,-⟩ hx w hK;replace ha0:=ha0.lo hK;unfold Jz at hx;have:=dl 15 [0,0,0,0,1,0,0,0,0,1,0,0,0,0,0,0,1,0,0,0,0,1,0,0] [0,1,2,3,4,5,6,7,8,9,10,11,12,13,14,15,16,17,18,19,20,21,22,23];refine CtS ntmps136 results136 ?_;refine pq ?_;intros;rename_i hx
 refine Cq1 (s:=8) hx rfl ?_ ?_
 .exact aI
 .refine pI ?_;intros;rename_i hx
  apply Jr (γ:=Unit) hx [0] (fun s5 y5 f=>f) [999] (fun s5 y5 l=>l);exact kk
  .intro s5 y5 hx;apply Jr (γ:=Unit) hx [] (fun s19 y19 f=>f) [999] (fun s19 y19 l=>l);exact kk
   .exact aI
   .refine pI ?_;intros;rename_i hx
    apply Lr (γ:=Unit) hx [0,22] (fun s166 y166 f=>(23,iq s166)::f) [999] (fun s166 y166 l=>l) ();exact kk;exact sk;intro s166 y166 x166 hx _;unfold Eg at hx;refine pq ?_;intros;rename_i hx
    refine Cq1 (s:=24) hx rfl ?_ ?_
    .refine pI ?_;intros;rename_i hx
     apply Jr (γ:=Unit) hx [0,22,23] (fun s38 y38 f=>f) [999] (fun s38 y38 l=>l);exact kk
     .exact aI
     .refine pI ?_;intros;rename_i hx
      apply Lr (γ:=Unit) hx [0,4,22,23] (fun s226 y226 f=>(5,iq s226)::f) [999] (fun s226 y226 l=>l) ();exact kk;exact sk;intro s226 y226 x226 hx _;unfold Gq at hx;exact au
    .exact aI
  .refine pI ?_;intros;rename_i hx
   apply Lr (γ:=Unit) hx [0,10] (fun s25 y25 f=>(11,iq s25)::f) [999] (fun s25 y25 l=>l) ();exact kk;exact sk;intro s25 y25 x25 hx _;unfold Eu at hx;exact au⟩
instance(p0:List Aa):Con (Od p0) prog 139 (fun K vs=>∃E0 G0,vs=[.slice E0 p0.length G0]/\Has K E0 p0.length G0 4 Ai p0/\True) (fun _ r v Ln=>v=iq r/\Ln=[]/\True):=⟨by
 rintro K _ r ⟨E0,G0,rfl,ha0,-⟩ hx w hK;replace ha0:=ha0.lo hK;unfold Od at hx;have:=dl 5 [0,0,0,1,2,0,0,0,1,2,2] [0,1,2,3,5,6,7,8,4,9,10];refine CtS ntmps139 results139 ?_;refine pq ?_;intros;rename_i hx
 refine pA ?_;intros;rename_i hx
 refine pA ?_;intros;rename_i hx
 apply Jr (γ:=Unit) hx [] (fun s3 y3 f=>(3,iq s3)::f) [999] (fun s3 y3 l=>l);exact kk
 .exact aI
 .refine pI ?_;intros;rename_i hx
  apply Lr (γ:=Unit) hx [0,6] (fun s0 y0 f=>(3,iq s0.1)::(7,iq s0.2)::f) [999] (fun s0 y0 l=>l) ();exact kk;exact sk;intro s0 y0 x0 hx _;unfold Nq at hx;exact au⟩
instance(p0:List Aa)(p1:Int)(p2:Bool):Con (Pi p0 p1 p2) prog 140 (fun K vs=>∃E0 G0,vs=[.slice E0 p0.length G0,iq p1,.bool p2]/\Has K E0 p0.length G0 4 Ai p0/\True) (fun _ r v Ln=>v=iq r/\Ln=[]/\True):=⟨by
 rintro K _ r ⟨E0,G0,rfl,ha0,-⟩ hx w hK;replace ha0:=ha0.lo hK;unfold Pi at hx;have:=dl 8 [0,0,0,1,2,0,0,0,1,2,0,0,0,1,2,4,4,4,3,3,3] [0,1,2,3,5,6,7,8,10,11,12,13,4,9,14,15,16,17,18,19,20] [15,16,17];refine CtS ntmps140 results140 ?_;refine pq ?_;intros;rename_i hx
 refine pA ?_;intros;rename_i hx
 refine pA ?_;intros;rename_i hx
 apply Jr (γ:=Unit) hx [] (fun s3 y3 f=>(7,iq s3)::f) [999] (fun s3 y3 l=>l);exact kk
 .exact aI
 .refine pI ?_;intros;rename_i hx
  apply Lr (γ:=Unit) hx [0,1,2,14] (fun s0 y0 f=>(7,iq s0.1)::(15,iq s0.2)::f) [999] (fun s0 y0 l=>l) ();exact kk;exact sk;intro s0 y0 x0 hx _;unfold Oy at hx;refine pq ?_;intros;rename_i hx
  refine Cq1 (s:=16) hx rfl ?_ ?_
  .refine pI ?_;intros;rename_i hx
   apply Jr (γ:=Unit) hx [0,1,2,14,15] (fun s1 y1 f=>(7,iq s1)::f) [999] (fun s1 y1 l=>l);exact kk
   .exact aI
   .refine pI ?_;intros;rename_i hx
    refine Cq1 (s:=20) hx rfl ?_ ?_
    .exact aI
    .refine pI ?_;intros;rename_i hx
     refine Cq1 (s:=22) hx rfl ?_ ?_
     .exact aI
     .refine pI ?_;intros;rename_i hx
      apply Jr (γ:=Unit) hx [0,1,2,7,8,14,15] (fun s2 y2 f=>(56,.bool s2)::f) [999] (fun s2 y2 l=>l);exact kk
      .exact aI
      .exact aI
  .exact aI⟩
instance(p0:List Aa):Con (Pj p0) prog 138 (fun K vs=>∃E0 G0,vs=[.slice E0 p0.length G0]/\Has K E0 p0.length G0 4 Ai p0/\True) (fun _ r v Ln=>v=.bool r/\Ln=[]/\True):=⟨by
 rintro K _ r ⟨E0,G0,rfl,ha0,-⟩ hx w hK;replace ha0:=ha0.lo hK;unfold Pj at hx;have:=dl 4 [0,0,1,2,0,0,1,2,0,0,0,1,2,2,0] [0,1,2,4,5,6,8,9,10,11,3,7,12,13,14];refine CtS ntmps138 results138 ?_;refine pq ?_;intros;rename_i hx
 refine pA ?_;intros;rename_i hx
 apply Jr (γ:=Unit) hx [] (fun s2 y2 f=>f) [999] (fun s2 y2 l=>l);exact kk
 .exact aI
 .refine pI ?_;intros;rename_i hx
  apply Lr (γ:=Unit) hx [0] (fun s0 y0 f=>(3,iq s0)::f) [999] (fun s0 y0 l=>l) ();exact kk;exact sk;intro s0 y0 x0 hx _;unfold Oz at hx;exact au⟩
theorem Ae7(x:Aa):Ha x=some (decide (Nl x)):=by
 unfold Ha Am;rw[jn_d,Ac,Ai8,Ac]
 by_cases h:okP (⟨x.X,x.Y⟩:Ad)
 .rw[dT h,iP rfl]
  by_cases h1:-268435456<=x.Z.Lo
  .rw[iP h1]
   by_cases h2:x.Z.Lo<=x.Z.Hi
   .rw[iP h2];congr 1;rw[Bool.eq_iff_iff,dQ,dQ];exact⟨fun g=>⟨h,h1,h2,g⟩,fun g=>g.2.2.2⟩
   .rw[iN h2,dF (fun g:Nl x=>h2 g.2.2.1)]
  .rw[iN h1,dF (fun g:Nl x=>h1 g.2.1)]
 .rw[dF h,iN s_,dF (fun g:Nl x=>h g.1)]
theorem Azp{v:List Aa}(c:v.length<=1024):lfix (Eu v) 0=some (if ((List.range v.length).any fun k=>!decide (Nl (v.getD k ⟨0,0,⟨0,0⟩⟩)))=true then .inr 60 else .inl ()):=by
 refine Tg v.length oo (fun k=>!decide (Nl (v.getD k ⟨0,0,⟨0,0⟩⟩))) (Eu v) () 60 (fun k hk=>?_) ?_
 .unfold Eu;rw[iP oo,Az hk,Ac,Ae7,Ac,Bd oo];have e:v.getD k ⟨0,0,⟨0,0⟩⟩=v[k]:=by simp[hk]
  rw[e]
  by_cases g:Nl v[k]
  .simp[g]
  .simp[g]
 .unfold Eu;rw[iN oo]
theorem Yz(v:List Aa):Jz v=some (Ox v):=by
 unfold Jz Ox
 by_cases c:1024<v.length
 .rw[iP oo,iP c]
 .rw[iN oo,iN c,jn_d];rw[Azp oo,Ac]
  .by_cases h:∀x∈v,Nl x
   ·rw[if_neg (fun g=>Afk.1 g h),if_neg (not_not_intro h)];dsimp only;rw[jn_d];have hin:∀ i (hi:i<v.length),lfix (Gq (i:Int) v) 0=some (if (List.range i).any (fun j=>decide (Wk v[i] (v.getD j ⟨0,0,⟨0,0⟩⟩))) then .inr 61 else .inl ()):=fun i hi=>by
     refine Tg i oo _ _ () 61 (fun k hk=>?_) ?_
     .unfold Gq;have e:v.getD k ⟨0,0,⟨0,0⟩⟩=v[k]'oo:=by simp[show k<v.length by omega]
      rw[iP oo,jn_d,Az hi,Ac,Az (oo:k<v.length),Ac,Bd oo,e];unfold Wk
      by_cases g1:v[i].X=v[k].X
      .rw[iP g1,Ac,Ac]
       by_cases g2:v[i].Y=v[k].Y
       .simp[g1,g2]
       .simp[g2]
      .rw[iN g1];simp[g1]
     .unfold Gq;rw[iN oo]
    have hout:lfix (Eg v) 0=some (if ((List.range v.length).any fun i=>(List.range i).any fun j=>decide (Wk (v.getD i ⟨0,0,⟨0,0⟩⟩) (v.getD j ⟨0,0,⟨0,0⟩⟩)))=true then .inr 61 else .inl ()):=by
     refine Tg v.length oo (fun i=>(List.range i).any fun j=>decide (Wk (v.getD i ⟨0,0,⟨0,0⟩⟩) (v.getD j ⟨0,0,⟨0,0⟩⟩))) (Eg v) () 61 (fun i hi=>?_) ?_
     .unfold Eg;have e:v.getD i ⟨0,0,⟨0,0⟩⟩=v[i]:=by simp[hi]
      rw[iP oo,jn_d,hin i hi,Ac,Bd oo,e]
      by_cases g:((List.range i).any fun j=>decide (Wk v[i] (v.getD j ⟨0,0,⟨0,0⟩⟩)))=true
      .rw[iP g,iP g]
      .rw[iN g,iN g]
     .unfold Eg;rw[iN oo]
    rw[hout,Ac]
    ·have hd:((List.range v.length).any fun i=>(List.range i).any fun j=>decide (Wk (v.getD i ⟨0,0,⟨0,0⟩⟩) (v.getD j ⟨0,0,⟨0,0⟩⟩)))=true↔¬ Gr v:=by
      rw[<-Akq,List.any_eq_true];constructor
      .rintro⟨i,hi,hj⟩;rw[List.any_eq_true] at hj;obtain⟨j,hj,hs⟩:=hj;rw[List.mem_range] at hi hj;rw[dQ] at hs;refine⟨i,j,hi,oo,hj,?_⟩;simpa[hi,show j<v.length by omega] using hs
      .rintro⟨i,j,hi,hj,hji,hs⟩;refine⟨i,List.mem_range.2 hi,?_⟩;rw[List.any_eq_true];exact⟨j,List.mem_range.2 hji,by simpa[hi,hj] using hs⟩
     by_cases g:Gr v
     .rw[iN (fun q=>hd.1 q g),iN (not_not_intro g)]
     .rw[iP (hd.2 g),iP g]
   .rw[iP (Afk.2 h),iP h]
def Box(p q k:Ad):Prop:=min p.X q.X<=k.X/\k.X<=max p.X q.X/\min p.Y q.Y<=k.Y/\k.Y<=max p.Y q.Y
instance(p q k:Ad):Decidable (Box p q k):=by unfold Box;infer_instance
def lexA:Int:=2147483648
theorem Bcp{p q:Ad}(hp:okP p)(hq:okP q):ph lexA 1 p<ph lexA 1 q↔befP p q:=by unfold ph lexA okP befP at *;omega
theorem mid{a b c d:Int}(h0:0<a)(h1:0<=b)(h2:b<=a)(h:a*c=d*b):(0<=d->0<=c/\c<=d)/\(d<=0->d<=c/\c<=0):=by
 constructor
 .intro hd;have e1:=Int.mul_nonneg hd h1;have e2:=Int.mul_nonneg hd (oo:0<=a-b);refine⟨Tv h0 oo,?_⟩;have:0<=d-c:=Tv h0 (by rw[Int.mul_sub] at *;rw[Int.mul_comm a d];omega);omega
 .intro hd;have e1:=Int.mul_nonneg (oo:0<=-d) h1;have e2:=Int.mul_nonneg (oo:0<=-d) (oo:0<=a-b);rw[Int.neg_mul] at e1 e2;rw[Int.mul_sub] at e2;constructor
  .have:0<=c-d:=Tv h0 (by rw[Int.mul_sub,Int.mul_comm a d];omega);omega
  .have:0<=-c:=Tv h0 (by rw[Int.mul_neg];omega);omega
theorem Aq6{p q k:Ad}(h:crs p q k=0)(h1:¬befP k p)(h2:¬befP q k):Box p q k:=by
 unfold befP at h1 h2;unfold crs at h;unfold Box
 by_cases e:p.X=q.X
 .omega
 .have:=mid (a:=q.X-p.X) (b:=k.X-p.X) (c:=k.Y-p.Y) (d:=q.Y-p.Y) oo oo oo oo;rcases Int.le_total 0 (q.Y-p.Y) with g|g
  .have:=this.1 g;omega
  .have:=this.2 g;omega
theorem Box.swap{p q k:Ad}(h:Box p q k):Box q p k:=by unfold Box at *;omega
theorem Bcq{p q k:Ad}(h:crs p q k=0)(h1:¬befP q p)(h2:befP q k)(h3:¬Bz p q):¬Box p q k:=by
 intro hb;unfold befP Bz at *;unfold Box at hb;unfold crs at h
 by_cases e:p.X=q.X
 .omega
 .have hk:k.X=q.X:=oo;rw[hk] at h;have:(q.X-p.X)*(k.Y-q.Y)=0:=by grind
  rcases Int.mul_eq_zero.1 this with g|g <;> omega
variable {v:List Aa}
theorem Qn(hv:Ci v){i j:Int}(hi:inN v.length i)(hj:inN v.length j)(h:i≠j):¬Bz (plV v i) (plV v j):=fun g=>h (hv.dist i j hi hj g)
theorem Ahc(a b c:Ad):crs a c b = -crs a b c:=by unfold crs;grind
theorem Aen{p q r:Ad}(hp:okP p)(hq:okP q)(hr:okP r):Iu p q r=some (decide (crs p q r=0/\Box p q r)):=by
 unfold Iu;rw[jn_d,Rd hp hq hr,Ac];have e:Int.sign (crs p q r)=0↔crs p q r=0:=Int.sign_eq_zero_iff_zero
 by_cases h:crs p q r=0
 .rw[iP (e.2 h)];unfold Box
  by_cases h1:min p.X q.X<=r.X
  .rw[iP h1]
   by_cases h2:r.X<=max p.X q.X
   .rw[iP h2]
    by_cases h3:min p.Y q.Y<=r.Y
    .rw[iP h3];simp[h,h1,h2,h3]
    .rw[iN h3];simp[h3]
   .rw[iN h2];simp[h2]
  .rw[iN h1];simp[h1]
 .rw[iN (fun g=>h (e.1 g))];simp[h]
theorem Ahd(p q:Ad):Jl p q=some (decide (befP p q)):=by
 unfold Jl befP;rw[jn_d]
 by_cases h1:p.X<q.X
 .rw[iP h1];simp[h1]
 .rw[iN h1]
  by_cases h2:p.X=q.X
  .rw[iP h2];simp[h2]
  .rw[iN h2];simp[h1,h2]
theorem Aq7(p:Ad):¬befP p p:=by unfold befP;omega
theorem Xs{p q:Ad}(h:befP p q):¬befP q p:=by unfold befP at *;omega
theorem Jq{i:Int}(hi:inN v.length i):∃x,idx v i=some x/\(⟨x.X,x.Y⟩:Ad)=plV v i:=by
 obtain⟨k,hk,rfl,f⟩:=Kb (v:=v) (i:=i) hi;exact⟨v[k],f,by unfold plV;rw[f]⟩
theorem Axk(hn:v.length<=1024){f:Int}(hf:inN v.length f)(low:∀k,inN v.length k->k=f\/befP (plV v f) (plV v k)):Od v=some f:=by
 unfold inN at hf;unfold Od;rw[jn_d];have:=Bp (B:=Nq v) (fun s=>v.length-s.2.toNat) (fun s=>0<=s.2/\s.2<=(v.length:Int)/\inN v.length s.1/\(f<s.2->s.1=f)) (fun t=>t=f) (fun s hs=>by
  obtain⟨b,k⟩:=s;obtain⟨h1,h2,h3,h4⟩:=hs;simp only at h1 h2 h3 h4;unfold Nq;dsimp only
  by_cases hk:k<(v.length:Int)
  .left;obtain⟨x,hx,px⟩:=Jq (v:=v) (i:=k) ⟨h1,hk⟩;obtain⟨y,hy,py⟩:=Jq (v:=v) (i:=b) h3;rw[iP hk,jn_d,hx,Ac,hy,Ac];unfold Am;rw[Ac,Ac,px,py,Ahd,Ac,Av oo oo]
   by_cases c:befP (plV v k) (plV v b)
   .rw[iP (dT c)];refine⟨_,rfl,⟨by dsimp only;omega,by dsimp only;omega,⟨h1,hk⟩,fun g=>?_⟩,by dsimp only;omega⟩;dsimp only at g⊢
    by_cases e:f<k
    .rw[h4 e] at c;rcases low k ⟨h1,hk⟩ with e2|e2
     .exact e2
     .exact absurd c (Xs e2)
    .omega
   .rw[iN (sV c)];refine⟨_,rfl,⟨by dsimp only;omega,by dsimp only;omega,h3,fun g=>?_⟩,by dsimp only;omega⟩;dsimp only at g⊢
    by_cases e:f<k
    .exact h4 e
    .have:k=f:=oo;rcases low b h3 with e2|e2
     .exact e2
     .rw[this] at c;exact absurd e2 c
  .right;rw[iN hk];exact⟨_,rfl,h4 oo⟩) (0,0) ⟨s_,s_,⟨s_,by simp only;omega⟩,fun g=>by simp only at g;omega⟩
 obtain⟨t,ht,rfl⟩:=this;rw[ht,Ac]
theorem Aq8(hv:Ci v)(hn:v.length<=1024):∃b,Pj v=some b/\(b=true↔∀k,2<=k->inN v.length k->crs (plV v 0) (plV v 1) (plV v k)=0):=by
 unfold Pj;rw[jn_d];have:=Bp (B:=Oz v) (fun s=>v.length-s.toNat) (fun s=>2<=s/\∀k,2<=k->k<s->inN v.length k->crs (plV v 0) (plV v 1) (plV v k)=0)
  (fun t=>(t=.inl ()/\∀k,2<=k->inN v.length k->crs (plV v 0) (plV v 1) (plV v k)=0)\/(t=.inr false/\¬ ∀k,2<=k->inN v.length k->crs (plV v 0) (plV v 1) (plV v k)=0)) (fun s hs=>by
  obtain⟨h1,h2⟩:=hs;unfold Oz
  by_cases hk:s<(v.length:Int)
  .have hs':inN v.length s:=⟨oo,hk⟩;have h0':inN v.length 0:=⟨oo,oo⟩;have h1':inN v.length 1:=⟨oo,oo⟩;obtain⟨x,hx,px⟩:=Jq (v:=v) h0';obtain⟨y,hy,py⟩:=Jq (v:=v) h1';obtain⟨z,hz,pz⟩:=Jq (v:=v) hs';rw[iP hk,hx,Ac,hy,Ac,hz,Ac];unfold Am;rw[Ac,Ac,Ac,px,py,pz,Rd (hv.ok _ h0') (hv.ok _ h1') (hv.ok _ hs'),Ac,Av oo oo];have s0:Int.sign (crs (plV v 0) (plV v 1) (plV v s))=0↔crs (plV v 0) (plV v 1) (plV v s)=0:=Int.sign_eq_zero_iff_zero
   by_cases c:crs (plV v 0) (plV v 1) (plV v s)=0
   .left;rw[iP (s0.2 c)];refine⟨_,rfl,⟨oo,fun k k1 k2 k3=>?_⟩,oo⟩
    by_cases e:k=s
    .rw[e];exact c
    .exact h2 k k1 oo k3
   .right;rw[iN (fun g=>c (s0.1 g))];exact⟨_,rfl,.inr ⟨rfl,fun g=>c (g s h1 hs')⟩⟩
  .right;rw[iN hk];exact⟨_,rfl,.inl ⟨rfl,fun k k1 k2=>h2 k k1 (by have:=k2.2;omega) k2⟩⟩) 2 ⟨oo,fun k k1 k2=>oo⟩
 obtain⟨t,ht,g|g⟩:=this
 .obtain⟨rfl,g⟩:=g;rw[ht,Ac];exact⟨true,rfl,fun _=>g,fun _=>rfl⟩
 .obtain⟨rfl,g⟩:=g;rw[ht,Ac];exact⟨false,rfl,fun h=>(by cases h),fun h=>absurd h g⟩
end
theorem Bcr(a0:Int)(a1:Int)(a2:Int)(a3:Int)(b0:Int)(b1:Int)(b2:Int)(b3:Int):∀w,(Op.equalIn 10000 105 (.agg #[iq a0,iq a1,iq a2,iq a3]) (.agg #[iq b0,iq b1,iq b2,iq b3])).run prog w=.ok (((a0==b0)&&((a1==b1)&&(((a2==b2)&&((a3==b3)&&true))&&true)))) w :=
 EqF.struct underlying105 kr (.cons rfl (fun w=>kr) (fun w=>kr) (fun w=>run_equalIn_int w 9998 3 .i64 .i64 _ _ underlying3) (.cons rfl (fun w=>kr) (fun w=>kr) (fun w=>run_equalIn_int w 9998 3 .i64 .i64 _ _ underlying3) (.cons (a:=.agg #[iq a2,iq a3]) (b:=.agg #[iq b2,iq b3]) rfl (fun w=>kr) (fun w=>kr) (EqF.struct underlying28 kr (.cons rfl (fun w=>kr) (fun w=>kr) (fun w=>run_equalIn_int w 9997 3 .i64 .i64 _ _ underlying3) (.cons rfl (fun w=>kr) (fun w=>kr) (fun w=>run_equalIn_int w 9997 3 .i64 .i64 _ _ underlying3) EqF.nil))) EqF.nil)))
instance(a0:Int)(a1:Int)(a2:Int)(a3:Int)(b0:Int)(b1:Int)(b2:Int)(b3:Int):EqSI prog 105 [iq a0,iq a1,iq a2,iq a3] [iq b0,iq b1,iq b2,iq b3] (((a0==b0)&&((a1==b1)&&(((a2==b2)&&((a3==b3)&&true))&&true)))):=⟨Bcr _ _ _ _ _ _ _ _,kr⟩
def Ew(p0:Aw)(p1:Aw):Int->Option (Sum Int (Sum Unit Bool)):=fun s0=>
 if s0<(p0.V.length:Int) then (bnd (idx p0.V s0) fun x0=>
 bnd (idx p1.V s0) fun x1=>
 if (((x0.X==x1.X)&&((x0.Y==x1.Y)&&(((x0.Z.Lo==x1.Z.Lo)&&((x0.Z.Hi==x1.Z.Hi)&&true))&&true))))=true then (some (.inl (w64 (s0+1))))
 else (some (.inr (.inr false))))
 else (some (.inr (.inl ())))
def Eh(p0:Aw)(p1:Aw):Int->Option (Sum Int (Sum Unit Bool)):=fun s0=>
 if s0<(p0.T.length:Int) then (bnd (idx p0.T s0) fun x0=>
 bnd (idx p1.T s0) fun x1=>
 if (((x0.a0==x1.a0)&&((x0.a1==x1.a1)&&((x0.a2==x1.a2)&&true))))=true then (some (.inl (w64 (s0+1))))
 else (some (.inr (.inr false))))
 else (some (.inr (.inl ())))
def Ei(p0:Aw)(p1:Aw):Int->Option (Sum Int (Sum Unit Bool)):=fun s0=>
 if s0<(p0.Lines.length:Int) then (bnd (idx p0.Lines s0) fun x0=>
 bnd (idx p1.Lines s0) fun x1=>
 if (((x0.a0==x1.a0)&&((x0.a1==x1.a1)&&true)))=true then (some (.inl (w64 (s0+1))))
 else (some (.inr (.inr false))))
 else (some (.inr (.inl ())))
def Ka(p0:Aw)(p1:Aw):Option Bool :=
 jn (fun (s3:Bool)=>
 if s3=true then (some false)
 else (jn (fun (s5:Unit)=>
 jn (fun (s0:Unit)=>
 jn (fun (s1:Unit)=>
 some true)
 (fun j0=>bnd (lfix (Ei p0 p1) 0) fun t0=>
 (match t0 with
 |(.inl z0)=>j0 z0
 |(.inr z0)=>some z0
 )))
 (fun j1=>bnd (lfix (Eh p0 p1) 0) fun t1=>
 (match t1 with
 |(.inl z1)=>j1 z1
 |(.inr z1)=>some z1
 )))
 (fun j5=>bnd (lfix (Ew p0 p1) 0) fun t2=>
 (match t2 with
 |(.inl z2)=>j5 z2
 |(.inr z2)=>some z2
 ))))
 (fun j3=>if (p0.V.length:Int)=(p1.V.length:Int) then (if (p0.T.length:Int)=(p1.T.length:Int) then (j3 (!(decide ((p0.Lines.length:Int)=(p1.Lines.length:Int)))))
 else (j3 true))
 else (j3 true))
instance(p0:Aw)(p1:Aw):Con (Ka p0 p1) prog 123 (fun K vs=>∃E0 G0 E1 G1 E2 G2 E3 G3 E4 G4 E5 G5,vs=[.agg #[.slice E0 p0.V.length G0,.slice E1 p0.T.length G1,.slice E2 p0.Lines.length G2],.agg #[.slice E3 p1.V.length G3,.slice E4 p1.T.length G4,.slice E5 p1.Lines.length G5]]/\Has K E0 p0.V.length G0 4 Ai p0.V/\Has K E1 p0.T.length G1 3 Bg p0.T/\Has K E2 p0.Lines.length G2 2 Ar p0.Lines/\Has K E3 p1.V.length G3 4 Ai p1.V/\Has K E4 p1.T.length G4 3 Bg p1.T/\Has K E5 p1.Lines.length G5 2 Ar p1.Lines/\True) (fun _ r v Ln=>v=.bool r/\Ln=[]/\True):=⟨by
 rintro K _ r ⟨E0,G0,E1,G1,E2,G2,E3,G3,E4,G4,E5,G5,rfl,ha0,ha1,ha2,ha3,ha4,ha5,-⟩ hx w hK;replace ha0:=ha0.lo hK;replace ha1:=ha1.lo hK;replace ha2:=ha2.lo hK;replace ha3:=ha3.lo hK;replace ha4:=ha4.lo hK;replace ha5:=ha5.lo hK;unfold Ka at hx;have:=dl 6 [0,1,0,0,1,0,1,0,0,1,0] [0,1,2,3,4,5,6,7,8,9,10];have:=dl 12 [0,1,0,0,1,0,1,0,0,1,0] [0,1,2,3,4,5,6,7,8,9,10];have:=dl 18 [0,1,0,0,1,0,1,0,0,1,0] [0,1,2,3,4,5,6,7,8,9,10];refine CtS ntmps123 results123 ?_;refine pq ?_;intros;rename_i hx
 refine pA ?_;intros;rename_i hx
 refine pA ?_;intros;rename_i hx
 apply Jr (γ:=Unit) hx [2,3] (fun s3 y3 f=>(32,.bool s3)::f) [0,1,999] (fun s3 y3 l=>l);exact kk
 .intro s3 y3 hx;refine Cq3 (s:=32) hx rfl ?_ ?_
  .exact aI
  .refine pI ?_;intros;rename_i hx
   apply Jr (γ:=Unit) hx [2,3] (fun s5 y5 f=>f) [0,1,999] (fun s5 y5 l=>l);exact kk
   .intro s5 y5 hx;apply Jr (γ:=Unit) hx [2,3] (fun s0 y0 f=>f) [0,1,999] (fun s0 y0 l=>l);exact kk
    .intro s0 y0 hx;apply Jr (γ:=Unit) hx [] (fun s1 y1 f=>f) [999] (fun s1 y1 l=>l);exact kk
     .exact aI
     .refine pI ?_;intros;rename_i hx
      apply Lr (γ:=Unit) hx [2,3,71] (fun s2 y2 f=>(72,iq s2)::f) [0,1,999] (fun s2 y2 l=>l) ();exact kk;exact sk;intro s2 y2 x0 hx _;unfold Ei at hx;exact au
    .refine pI ?_;intros;rename_i hx
     apply Lr (γ:=Unit) hx [2,3,53] (fun s4 y4 f=>(54,iq s4)::f) [0,1,999] (fun s4 y4 l=>l) ();exact kk;exact sk;intro s4 y4 x1 hx _;unfold Eh at hx;exact au
   .refine pI ?_;intros;rename_i hx
    apply Lr (γ:=Unit) hx [2,3,35] (fun s6 y6 f=>(36,iq s6)::f) [0,1,999] (fun s6 y6 l=>l) ();exact kk;exact sk;intro s6 y6 x2 hx _;unfold Ew at hx;exact au
 .exact aI⟩
end
end Go.Proofs.YtlejkgngmjchdaaGreat
