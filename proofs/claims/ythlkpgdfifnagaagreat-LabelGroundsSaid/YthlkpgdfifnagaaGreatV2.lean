import Derived.Test.YthlkpgdfifnagaaGreatL6
namespace Go.Proofs.YthlkpgdfifnagaaGreat
open Go Go.RowKit List
def Akd(v:List Ad):Prop:=∀ i j k,inN v.length i->inN v.length j->inN v.length k->crs (plV v i) (plV v j) (plV v k)=0
section
variable {v:List Ad} {l:List Int}
theorem Bfh(hv:Ij v)(hn:v.length<=1024)(hr:Qu v l)(b:Am)(hb:b.v=v):∃ n0:Nat,lfix (Hl l b) 2=some (n0:Int)/\2<=n0/\(∀ k,2<=k->k<n0->∃ (h0:0<l.length) (h1:1<l.length) (hk:k<l.length),crs (plV v l[0]) (plV v l[1]) (plV v l[k])=0) /\
  (∀ (h0:0<l.length) (h1:1<l.length) (hk:n0<l.length),crs (plV v l[0]) (plV v l[1]) (plV v l[n0])≠0)/\(n0<=l.length\/n0=2):=by
 have hlen:=hr.len;have:=Bk (B:=Hl l b) (fun s=>l.length-s.toNat) (fun s=>∃ k:Nat,s=(k:Int)/\2<=k/\(k<=l.length\/k=2)/\∀ j,2<=j->j<k->∃ (h0:0<l.length) (h1:1<l.length) (hk:j<l.length),crs (plV v l[0]) (plV v l[1]) (plV v l[j])=0)
  (fun t=>∃ n0:Nat,t=(n0:Int)/\2<=n0/\(∀ k,2<=k->k<n0->∃ (h0:0<l.length) (h1:1<l.length) (hk:k<l.length),crs (plV v l[0]) (plV v l[1]) (plV v l[k])=0) /\
   (∀ (h0:0<l.length) (h1:1<l.length) (hk:n0<l.length),crs (plV v l[0]) (plV v l[1]) (plV v l[n0])≠0)/\(n0<=l.length\/n0=2)) (fun s hs=>by
   obtain⟨k,rfl,h2,h3,h4⟩:=hs;unfold Hl;rw[jn_d]
   by_cases c:k<l.length
   ·have h0:0<l.length:=oo;have h1:1<l.length:=oo;have i0:idx l 0=some l[0]:=At (j:=0) h0;have i1:idx l 1=some l[1]:=At (j:=1) h1;have v0:=hr.val.1 (getElem_mem h0);have v1:=hr.val.1 (getElem_mem h1);have vk:=hr.val.1 (getElem_mem c);rw[<- hb] at v0 v1 vk;rw[if_pos oo,i0,Ae,i1,Ae,At c,Ae,p_eq v0,Ae,p_eq v1,Ae,p_eq vk,Ae,hb];rw[hb] at v0 v1 vk;rw[turn_eq (hv.ok _ v0) (hv.ok _ v1) (hv.ok _ vk),Ae]
    by_cases z:crs (plV v l[0]) (plV v l[1]) (plV v l[k])=0
    ·left;rw[decide_eq_true (by rw[z];rfl)];refine⟨((k+1:Nat):Int),?_,⟨k+1,rfl,oo,.inl oo,fun j hj hjk=>?_⟩,oo⟩
     ·dsimp only;rw[if_pos rfl,Bg oo]
     ·by_cases e:j=k
      ·subst e;exact⟨h0,h1,c,z⟩
      ·exact h4 j hj oo
    ·right;rw[decide_eq_false (by rwa [Int.sign_eq_zero_iff_zero])];exact⟨(k:Int),rfl,k,rfl,h2,h4,fun _ _ _=>z,h3⟩
   ·right;rw[if_neg oo];exact⟨(k:Int),rfl,k,rfl,h2,h4,fun _ _ hk=>absurd hk c,h3⟩) 2 ⟨2,rfl,oo,.inr rfl,fun j h1 h2=>oo⟩
 obtain⟨t,h1,n0,rfl,h2⟩:=this;exact⟨n0,h1,h2⟩
structure Fan(v:List Ad)(l:List Int)(n0:Nat):Prop where
 two:2<=n0
 lt:n0<l.length
 col:∀ i j k,Pd l n0 i->Pd l n0 j->Pd l n0 k->crs (plV v i) (plV v j) (plV v k)=0
 off:crs (plV v l[0]) (plV v l[1]) (plV v l[n0])≠0
def fanS(v:List Ad)(l:List Int)(n0 i:Nat):Ac:=if 0<crs (plV v (l.getD i 0)) (plV v (l.getD (i+1) 0)) (plV v (l.getD n0 0)) then ⟨l.getD i 0,l.getD (i+1) 0⟩ else ⟨l.getD (i+1) 0,l.getD i 0⟩
def fanL(v:List Ad)(l:List Int)(n0 k:Nat):List Ac:=(List.range k).map (fanS v l n0)
theorem Pz{l:List Int}{i:Nat}(h:i<l.length):l.getD i 0=l[i]:=by simp[h]
theorem Fan.place(hr:Qu v l){n0:Nat}(hf:Fan v l n0){i:Nat}(h:i<n0):Pd l n0 (l.getD i 0):=by
 have:=hf.lt;exact⟨i,oo,h,Pz oo⟩
theorem Fan.bef(hr:Qu v l){n0:Nat}(hf:Fan v l n0){i j:Nat}(h:i<j)(hj:j<n0):befP (plV v (l.getD i 0)) (plV v (l.getD j 0)):=by
 have:=hf.lt;rw[Pz (show i<l.length by omega),Pz (show j<l.length by omega)];exact hr.lt oo oo h
theorem Bfi(hv:Ij v)(hn:v.length<=1024)(hr:Qu v l){n0:Nat}(hf:Fan v l n0){F:List (Ac × Bool)}:
  lfix (Fm (n0:Int) l) (v,[],F,0)=some (v,putAll [] (l.getD n0 0) (fanL v l n0 (n0-1)),F):=by
 have h2:=hf.two;have hlt:=hf.lt;have hlen:=hr.len;have val:∀ i,i<l.length->inN v.length (l.getD i 0):=fun i hi=>by rw[Pz hi];exact hr.val.1 (getElem_mem hi)
 have hM:∀ k,k<=n0-1->MapN v.length (putAll [] (l.getD n0 0) (fanL v l n0 k)):=fun k hk=>by
  refine MapN.putAll (val n0 hlt) ⟨List.Pairwise.nil,fun q hq=>by cases hq⟩ fun s hs=>?_
  obtain⟨i,hi,rfl⟩:=mem_map.1 hs;rw[mem_range] at hi;unfold fanS;split
  ·exact⟨val _ oo,val _ oo⟩
  ·exact⟨val _ oo,val _ oo⟩
 refine Ae0 (B:=Fm (n0:Int) l) (fun k=>(v,putAll [] (l.getD n0 0) (fanL v l n0 k),F,(k:Int))) (v,putAll [] (l.getD n0 0) (fanL v l n0 (n0-1)),F) (n0-1) (fun k hk=>?_) ?_
 ·unfold Fm;simp only;rw[Bg oo,if_pos oo,jn_d,At (show k<l.length by omega),Ae,At (show k+1<l.length by omega),Ae,At hlt,Ae];have v0:=val k oo;have v1:=val (k+1) oo;have vp:=val n0 hlt;have e:putAll [] (l.getD n0 0) (fanL v l n0 (k+1))=putM (putAll [] (l.getD n0 0) (fanL v l n0 k)) (fanS v l n0 k).a0 (fanS v l n0 k).a1 (l.getD n0 0):=by
   unfold putAll fanL;rw[range_succ,map_append,foldl_append];rfl
  rw[e];unfold fanS;rw[Pz (show k<l.length by omega)] at v0 ⊢;rw[Pz (show k+1<l.length by omega)] at v1 ⊢;rw[Pz hlt] at vp ⊢;have hM':=hM k oo;rw[Pz hlt] at hM';rw[p_eq (b:=⟨v,_,F⟩) v0,Ae,p_eq (b:=⟨v,_,F⟩) v1,Ae,p_eq (b:=⟨v,_,F⟩) vp,Ae,turn_eq (hv.ok _ v0) (hv.ok _ v1) (hv.ok _ vp),Ae]
  by_cases c:0<crs (plV v l[k]) (plV v l[k+1]) (plV v l[n0])
  ·rw[Int.sign_eq_one_of_pos c,if_pos oo,if_pos c,Ae,Ae,Ae,Aka (b:=⟨v,putAll [] l[n0] (fanL v l n0 k),F⟩) hn hM' v0 v1 vp,Ae]
  ·rw[if_neg (fun g=>c (by
    rcases Int.lt_trichotomy (crs (plV v l[k]) (plV v l[k+1]) (plV v l[n0])) 0 with t | t | t
    ·rw[Int.sign_eq_neg_one_of_neg t] at g;omega
    ·rw[t] at g;simp at g
    ·exact t)),if_neg c,Ae,Ae,Ae,Aka (b:=⟨v,putAll [] l[n0] (fanL v l n0 k),F⟩) hn hM' v1 v0 vp,Ae]
 ·unfold Fm;simp only;rw[Bg oo,if_neg oo]
theorem Fan.swept(hv:Ij v)(hn:v.length<=1024)(hr:Qu v l){n0:Nat}(hf:Fan v l n0):Al4 v l (n0+1) (putAll [] (l.getD n0 0) (fanL v l n0 (n0-1)))/\putAll [] (l.getD n0 0) (fanL v l n0 (n0-1))≠[]:=by
 have h2:=hf.two;have hlt:=hf.lt;have hlen:=hr.len;have val:∀ i,i<l.length->inN v.length (l.getD i 0):=fun i hi=>by rw[Pz hi];exact hr.val.1 (getElem_mem hi)
 obtain⟨q1,q2,q3,q4,q5⟩:=hr.place hlt;rw[<- Pz hlt] at q2 q3 q4 q5;have hoff:=hf.off;rw[<- Pz (show 0<l.length by omega),<- Pz (show 1<l.length by omega),<- Pz hlt] at hoff;generalize hp:l.getD n0 0=p at *;have he:∀ i j,apM [] i j=none:=fun i j=>rfl
 have hS:∀ i,Pd l n0 i↔∃ k,k<n0/\i=l.getD k 0:=fun i=>by
  constructor
  ·rintro⟨j,hj,h1,rfl⟩;exact⟨j,h1,(Pz hj).symm⟩
  ·rintro⟨k,hk,rfl⟩;exact hf.place hr hk
 have same:∀ i,i+1<n0->(0<crs (plV v (l.getD 0 0)) (plV v (l.getD 1 0)) (plV v p)->0<crs (plV v (l.getD i 0)) (plV v (l.getD (i+1) 0)) (plV v p)) /\
   (crs (plV v (l.getD 0 0)) (plV v (l.getD 1 0)) (plV v p)<0->crs (plV v (l.getD i 0)) (plV v (l.getD (i+1) 0)) (plV v p)<0):=by
  intro i
  induction i with
  | zero=>exact fun _=>⟨fun h=>h,fun h=>h⟩
  | succ i ih=>
   intro hi;obtain⟨i1,i2⟩:=ih oo;have b1:=hf.bef hr (show i<i+1 by omega) oo;have b2:=hf.bef hr (show i+1<i+2 by omega) hi;have c0:=hf.col _ _ _ (hf.place hr (show i<n0 by omega)) (hf.place hr (show i+1<n0 by omega)) (hf.place hr hi);exact⟨fun h=>Auu b1 b2 c0 (i1 h),fun h=>Akw b1 b2 c0 (i2 h)⟩
 have key:∃ R,Adds (plV v) (inN v.length) (Pd l n0) (apM []) R p/\∀ x y:Int,(⟨x,y⟩:Ac)∈fanL v l n0 (n0-1)↔Vis (plV v) R p x y:=by
  rcases Int.lt_or_gt_of_ne hoff with c | c
  ·refine⟨Ao9 (fun j=>l.getD (n0-1-j) 0) n0,Aj6 he (fun i=>?_) (fun a b c h1 h2 h3=>hf.col a b c h1 h2 h3) (fun i hi=>?_) q1 q2 q3 q4 q5,fun x y=>?_⟩
   ·rw[hS];constructor
    ·rintro⟨k,hk,rfl⟩;exact⟨n0-1-k,oo,by (try dsimp only);rw[show n0-1-(n0-1-k)=k by omega]⟩
    ·rintro⟨k,hk,rfl⟩;exact⟨n0-1-k,oo,rfl⟩
   ·have:=(same (n0-2-i) oo).2 c;rw[show n0-2-i+1=n0-1-i by omega] at this;try dsimp only
    rw[show n0-1-(i+1)=n0-2-i by omega,Cu];omega
   ·unfold fanL Vis Ao9;rw[mem_map];constructor
    ·rintro⟨i,hi,e⟩;rw[mem_range] at hi;have hneg:=(same i oo).2 c;unfold fanS at e;rw[hp,if_neg oo,Nn] at e;obtain⟨rfl,rfl⟩:=e;refine⟨⟨n0-2-i,oo,by (try dsimp only);rw[show n0-1-(n0-2-i)=i+1 by omega],by (try dsimp only);rw[show n0-1-(n0-2-i+1)=i by omega]⟩,?_⟩;rw[Cu];omega
    ·rintro⟨⟨i,hi,rfl,rfl⟩,_⟩;refine⟨n0-2-i,by rw[mem_range];omega,?_⟩;have hneg:=(same (n0-2-i) oo).2 c;unfold fanS;rw[hp,if_neg oo,Nn];exact⟨by (try dsimp only);rw[show n0-2-i+1=n0-1-i by omega],by (try dsimp only);rw[show n0-1-(i+1)=n0-2-i by omega]⟩
  ·refine⟨Ao9 (fun j=>l.getD j 0) n0,Aj6 he hS (fun a b c h1 h2 h3=>hf.col a b c h1 h2 h3) (fun i hi=>(same i hi).1 c) q1 q2 q3 q4 q5,fun x y=>?_⟩;unfold fanL Vis Ao9;rw[mem_map];constructor
   ·rintro⟨i,hi,e⟩;rw[mem_range] at hi;have hpos:=(same i oo).1 c;unfold fanS at e;rw[hp,if_pos hpos,Nn] at e;obtain⟨rfl,rfl⟩:=e;exact⟨⟨i,oo,rfl,rfl⟩,hpos⟩
   ·rintro⟨⟨i,hi,rfl,rfl⟩,hpos⟩;refine⟨i,by rw[mem_range];omega,?_⟩;unfold fanS;rw[hp,if_pos hpos]
 obtain⟨R,hA,hmv⟩:=key;obtain⟨o1,o2⟩:=Al3 (m:=[]) List.Pairwise.nil hA (fanL v l n0 (n0-1)) fun s hs=>(hmv s.a0 s.a1).1 hs
 have hN:∀ i j c,apM (putAll [] p (fanL v l n0 (n0-1))) i j=some c↔apM [] i j=some c\/New (plV v) R p i j c:=fun i j c=>by
  rw[o2,hmv,hmv,hmv];rfl
 have hpl:p=l[n0]:=by rw[<- hp,Pz hlt]
 refine⟨⟨?_,hA.tri' hN,?_,?_⟩,fun e=>?_⟩
 ·refine MapN.putAll q2 ⟨List.Pairwise.nil,fun q hq=>by cases hq⟩ fun s hs=>?_
  have:=(hA.r1 _ _ ((hmv s.a0 s.a1).1 hs).1);exact⟨q1 _ this.1,q1 _ this.2.1⟩
 ·have:=hA.cov' hN (fun i j k hk=>by cases hk);intro i j c hc hn d hd;refine this i j c hc hn d ?_;rw[hpl];exact (Pd.succ hlt).1 hd
 ·intro i j c hc;refine (Pd.succ hlt).2 ?_;rw[<- hpl];exact hA.used' hN i j c hc
 ·have h0:fanS v l n0 0∈fanL v l n0 (n0-1):=mem_map.2 ⟨0,by rw[mem_range];omega,rfl⟩;have:=(o2 (fanS v l n0 0).a0 (fanS v l n0 0).a1 p).2 (.inr (.inl ⟨h0,rfl⟩));rw[e] at this;cases this
end
variable {v:List Ad} {l:List Int}
theorem Ay6(hv:Ij v)(hn:v.length<=1024)(hr:Qu v l)(F:List (Ac × Bool)):
  ∃ m,Lh ⟨v,[],F⟩ l=some ⟨v,m,F⟩/\((Akd v/\m=[])\/(¬ Akd v/\MapN v.length m/\Tri (plV v) (inN v.length) (apM m)/\Cov (plV v) (inN v.length) (apM m)/\m≠[])):=by
 have hlen:=hr.len;obtain⟨n0,h1,h2,h3,h4,h5⟩:=Bfh hv hn hr ⟨v,[],F⟩ rfl;unfold Lh;rw[jn_d,h1,Ae];dsimp only
 by_cases c:l.length<=n0
 ·rw[if_pos oo];refine⟨[],rfl,.inl ⟨?_,rfl⟩⟩
  by_cases c2:2<=l.length
  ·-- all on the line of the first two
   have g0:0<l.length:=oo;have g1:1<l.length:=oo;have on:∀ i,inN v.length i->crs (plV v l[0]) (plV v l[1]) (plV v i)=0:=fun i hi=>by
    obtain⟨k,hk,rfl⟩:=getElem_of_mem (hr.val.2 hi)
    by_cases e0:k=0
    ·subst e0;exact Gy _ _
    ·by_cases e1:k=1
     ·subst e1;exact Cs _ _
     ·obtain⟨_,_,_,g⟩:=h3 k oo oo;exact g
   have hne:¬ De (plV v l[0]) (plV v l[1]):=fun e=>by
    have:=hr.lt g0 g1 oo;unfold befP De at *;omega
   exact fun i j k hi hj hk=>Af4 hne (on i hi) (on j hj) (on k hk)
  ·intro i j k hi hj hk;unfold inN at hi hj hk;have:i=j:=oo;subst this;exact Aag _ _
 ·rw[if_neg oo,jn_d];have g0:0<l.length:=oo;have g1:1<l.length:=oo;have gn:n0<l.length:=oo;have off:=h4 g0 g1 gn;have hne:¬ De (plV v l[0]) (plV v l[1]):=fun e=>by
   have:=hr.lt g0 g1 oo;unfold befP De at *;omega
  have hf:Fan v l n0:=by
   refine⟨h2,gn,fun i j k hi hj hk=>?_,off⟩;have on:∀ i,Pd l n0 i->crs (plV v l[0]) (plV v l[1]) (plV v i)=0:=fun i hi=>by
    obtain⟨k,hk,hk2,rfl⟩:=hi
    by_cases e0:k=0
    ·subst e0;exact Gy _ _
    ·by_cases e1:k=1
     ·subst e1;exact Cs _ _
     ·obtain⟨_,_,_,g⟩:=h3 k oo hk2;exact g
   exact Af4 hne (on i hi) (on j hj) (on k hk)
  obtain⟨s1,s2⟩:=hf.swept hv hn hr;rw[Bfi hv hn hr hf,Ae];dsimp only;rw[Bg oo,gd_t ⟨oo,oo⟩];have ht:subl l (((n0+1:Nat):Int)) (l.length:Int)=l.drop (n0+1):=by unfold subl;simp
  rw[ht];have:=Bk (B:=Kc l (n0:Int)) (fun s=>l.length-s.2.2.2.2.toNat) (fun s=>∃ (k:Nat) (m:Mp),n0+1<=k/\k<=l.length/\s=(v,m,F,l.drop (n0+1),((k-(n0+1):Nat):Int))/\Al4 v l k m/\m≠[])
   (fun t=>∃ m:Mp,t=⟨v,m,F⟩/\Al4 v l l.length m/\m≠[]) (fun s hs=>by
    obtain⟨k,m,k1,k2,rfl,k3,k4⟩:=hs;unfold Kc;dsimp only;rw[Bg oo]
    by_cases c2:k<l.length
    ·left;obtain⟨m',e1,e2,e3⟩:=k3.step hv hn hr (F:=F) c2;have hi:idx (l.drop (n0+1)) (((k-(n0+1):Nat):Int))=some l[k]:=by
      rw[At (by rw[length_drop];omega),getElem_drop];congr 2;omega
     rw[if_pos (by simp;omega),jn_d,hi,Ae];refine⟨(v,m',F,l.drop (n0+1),((k+1-(n0+1):Nat):Int)),?_,⟨k+1,m',oo,oo,rfl,e2,e3 k4⟩,by dsimp only;omega⟩;obtain⟨r,hr1,hr2⟩:=An e1;obtain⟨t,ht1,ht2⟩:=An hr2;cases ht2
     rw[hr1,Ae,ht1,Ae,Bg oo,show k-(n0+1)+1=k+1-(n0+1) by omega]
    ·right;rw[if_neg (by simp;omega)];have:k=l.length:=oo;subst this;exact⟨_,rfl,m,rfl,k3,k4⟩) (v,putAll [] (l.getD n0 0) (fanL v l n0 (n0-1)),F,l.drop (n0+1),0) ⟨n0+1,_,oo,oo,by simp,s1,s2⟩
  obtain⟨t,e1,m,rfl,e2,e3⟩:=this;rw[e1,Ae];refine⟨m,rfl,.inr ⟨fun hfl=>?_,e2.map,e2.tri,fun i j k hk hnn d hd=>?_,e3⟩⟩
  ·exact off (hfl _ _ _ (hr.val.1 (getElem_mem g0)) (hr.val.1 (getElem_mem g1)) (hr.val.1 (getElem_mem gn)))
  ·obtain⟨j',hj',rfl⟩:=getElem_of_mem (hr.val.2 hd);exact e2.cov _ _ _ hk hnn _ ⟨j',hj',hj',rfl⟩
def Del(v:List Ad)(a b c:Int):Prop:=inN v.length a/\inN v.length b/\inN v.length c/\0<crs (plV v a) (plV v b) (plV v c)/\∀ d,inN v.length d->d≠a->d≠b->d≠c->DH (plV v) (hV v) a b c d<0
theorem Del.rot{a b c:Int}(h:Del v a b c):Del v b c a:=by
 obtain⟨h1,h2,h3,h4,h5⟩:=h;exact⟨h2,h3,h1,by rw[Cf];exact h4,fun d hd n1 n2 n3=>by rw[Aev];exact h5 d hd n3 n1 n2⟩
structure Wy(v:List Ad)(T:List Aj):Prop where
 ord:T.Pairwise fun x y=>¬ cmp3 y x<0
 nd:T.Nodup
 mem:∀ t,t∈T↔t.a0<t.a1/\t.a0<t.a2/\Del v t.a0 t.a1 t.a2
theorem Wy.unique{T T':List Aj}(h:Wy v T)(h':Wy v T'):T=T' :=
 Agz tot3 (fun _ _=>trivial) h.ord h'.ord ((perm_ext_iff_of_nodup h.nd h'.nd).2 fun t=>(h.mem t).trans (h'.mem t).symm)
theorem Api(hv:Ij v){m:Mp}(hm:MapN v.length m)(ht:Tri (plV v) (inN v.length) (apM m))(hc:Cov (plV v) (inN v.length) (apM m))(hl:∀ i j k l,apM m i j=some k->apM m j i=some l->DH (plV v) (hV v) i j k l<0)(hne:m≠[])(a b c:Int):
  apM m a b=some c↔Del v a b c:=by
 have mem:∀ a b c:Int,(a,b,c)∈(m.map fun q=>(q.1.a0,q.1.a1,q.2))↔apM m a b=some c:=fun a b c=>by
  rw[mem_map];constructor
  ·rintro⟨⟨⟨x,y⟩,z⟩,hq,e⟩;cases e
   exact St hm.ok hq
  ·intro h;exact⟨(⟨a,b⟩,c),Gu h,rfl⟩
 have hX:Ajm (plV v) (m.map fun q=>(q.1.a0,q.1.a1,q.2)):=⟨fun a b c h=>(mem _ _ _).2 (ht.rot _ _ _ ((mem _ _ _).1 h)),fun a b c h=>(ht.ccw _ _ _ ((mem _ _ _).1 h)).2.2.2⟩;have twin:∀ a b c,apM m a b=some c->∀ d,inN v.length d->crs (plV v a) (plV v b) (plV v d)<0->∃ e,apM m b a=some e:=fun a b c h d hd hlt=>by
  rcases e:apM m b a with _ | x
  ·have:=hc a b c h e d hd;omega
  ·exact⟨x,rfl⟩
 have G:=global (H:=hV v) (V:=inN v.length) hX (fun a b c h d hd n1 n2 n3=>ht.emp _ _ _ ((mem _ _ _).1 h) d hd n1 n2 n3) (fun a b c h d hd hlt=>by
  obtain⟨e,he⟩:=twin a b c ((mem _ _ _).1 h) d hd hlt;exact⟨e,(mem _ _ _).2 he,hl _ _ _ _ ((mem _ _ _).1 h) he⟩)
 constructor
 ·intro h;obtain⟨k1,k2,k3,k4⟩:=ht.ccw _ _ _ h;exact⟨k1,k2,k3,k4,G a b c ((mem _ _ _).2 h)⟩
 ·rintro⟨k1,k2,k3,k4,k5⟩;refine (mem _ _ _).1 (Ajn (H:=hV v) (V:=inN v.length) hX (fun a b c h=>?_) G (fun a b c h d hd hlt=>?_) ?_ k1 k2 k3 k4 k5)
  ·obtain⟨q1,q2,q3,_⟩:=ht.ccw _ _ _ ((mem _ _ _).1 h);exact⟨q1,q2,q3⟩
  ·obtain⟨e,he⟩:=twin a b c ((mem _ _ _).1 h) d hd hlt;exact⟨e,(mem _ _ _).2 he⟩
  ·intro e;rw[map_eq_nil_iff] at e;exact hne e
theorem Bbj{m:Mp}(hm:MapN v.length m)(h:∀ a b c,apM m a b=some c↔Del v a b c):Wy v (Bi cmp3 (m.flatMap triF)):=by
 have memt:∀ t:Aj,t∈m.flatMap triF↔t.a0<t.a1/\t.a0<t.a2/\Del v t.a0 t.a1 t.a2:=fun t=>by
  rw[mem_flatMap];constructor
  ·rintro⟨⟨⟨a,b⟩,c⟩,hq,ht⟩;unfold triF at ht;split at ht
   ·rename_i hlt;rw[mem_singleton] at ht;subst ht;exact⟨hlt.1,hlt.2,(h _ _ _).1 (St hm.ok hq)⟩
   ·cases ht
  ·rintro⟨h1,h2,h3⟩;refine⟨(⟨t.a0,t.a1⟩,t.a2),Gu ((h _ _ _).2 h3),?_⟩;unfold triF;rw[if_pos ⟨h1,h2⟩];exact mem_singleton.2 rfl
 refine⟨Ta tot3 (fun _ _=>trivial),(Kj _ _).nodup_iff.2 ?_,fun t=>by rw[Oa,memt]⟩;have:∀ l:Mp,Do l->(l.flatMap triF).Nodup:=by
  intro l
  induction l with
  | nil=>intro _;exact List.Pairwise.nil
  | cons q r ih=>
   intro hl;obtain⟨h1,h2⟩:=pairwise_cons.1 hl;rw[flatMap_cons,nodup_append];refine⟨?_,ih h2,fun x hx y hy e=>?_⟩
   ·unfold triF;split
    ·simp
    ·exact List.Pairwise.nil
   ·subst e;obtain⟨q',hq',hy⟩:=mem_flatMap.1 hy;have key:∀ q:Ac × Int,x∈triF q->q.1=⟨x.a0,x.a1⟩:=fun q hq=>by
     unfold triF at hq;split at hq
     ·rw[mem_singleton] at hq;subst hq;rfl
     ·cases hq
    exact h1 q' hq' (by rw[key _ hx,key _ hy])
 exact this m hm.ok
end Go.Proofs.YthlkpgdfifnagaaGreat
namespace Go.Proofs.YthlkpgdfifnagaaGreat
open Go Go.RowKit List
theorem Af7{β γ:Type}(N:Nat)(hN:N<=1000000000)(p:Nat->Bool)(B:Int->Option (Sum Int (Sum β γ)))(u:β)(w:γ)(h1:∀ k:Nat,k<N->B (k:Int)=if p k=true then some (.inr (.inr w)) else some (.inl ((k+1:Nat):Int)))(h2:B (N:Int)=some (.inr (.inl u))):lfix B 0=some (if (List.range N).any p then .inr w else .inl u):=by
 have key:∀ j k,j+k=N->lfix B (k:Int)=some (if ((List.range N).drop k).any p then .inr w else .inl u):=by
  intro j
  induction j with
  | zero=>
   intro k hk;rw[Bd,show k=N by omega,h2,drop_eq_nil_of_le (by simp)];rfl
  | succ j ih=>
   intro k hk;rw[Bd,h1 k oo,drop_eq_getElem_cons (by simp;omega),any_cons,getElem_range]
   by_cases c:p k=true
   ·rw[if_pos c,c];rfl
   ·rw[if_neg c];rw[Bool.not_eq_true] at c;rw[c,Bool.false_or];exact ih (k+1) oo
 have:=key N 0 oo
 rwa [drop_zero] at this
def pP(x:Ad):Ab:=⟨x.X,x.Y⟩
def Md(x:Ad):Prop:=okP (pP x)/\-268435456<=x.Z.Lo/\x.Z.Lo<=x.Z.Hi/\x.Z.Hi<=268435456
instance(x:Ad):Decidable (Md x):=by unfold Md;infer_instance
theorem Yq{v:List Ad}{k:Nat}(hk:k<v.length):plV v (k:Int)=pP v[k]:=by unfold plV;rw[At hk];rfl
theorem Anu(x:Ad):Aap x=some (decide (Md x)):=by
 unfold Aap Oj;rw[Ae,Ae,Ae,Asf,Ae,jn_d];unfold Zj
 by_cases h:okP (⟨x.X,x.Y⟩:Ab)
 ·simp only[h,and_self,if_true];rw[jn_d]
  by_cases h1:-1152921504606846976<=x.Z.Lo
  ·rw[if_pos h1]
   by_cases h2:x.Z.Lo<=x.Z.Hi
   ·rw[if_pos h2]
    by_cases h3:x.Z.Hi<=1152921504606846976
    ·rw[decide_eq_true h3,Ae,if_pos rfl]
     by_cases h4:-268435456<=x.Z.Lo
     ·rw[if_pos h4];congr 1;rw[Bool.eq_iff_iff,decide_eq_true_eq,decide_eq_true_eq];unfold Md pP;exact⟨fun g=>⟨h,h4,h2,g⟩,fun g=>g.2.2.2⟩
     ·rw[if_neg h4,decide_eq_false (fun g:Md x=>h4 g.2.1)]
    ·rw[decide_eq_false h3,Ae,if_neg (by simp),decide_eq_false (fun g:Md x=>h3 (by have:=g.2.2.2;omega))]
   ·rw[if_neg h2,Ae,if_neg (by simp),decide_eq_false (fun g:Md x=>h2 g.2.2.1)]
  ·rw[if_neg h1,Ae,if_neg (by simp),decide_eq_false (fun g:Md x=>h1 (by have:=g.2.1;omega))]
 ·simp only[h,false_and,if_false];rw[if_neg dD,decide_eq_false (fun g:Md x=>h g.1)]
def Vp(v:List Ad):Int:=if 1024<v.length then 2 else if ¬ (∀ x∈v,Md x) then 60 else if ¬ Fp v then 61 else 0
theorem Ahq{v:List Ad}(h:Vp v=0):v.length<=1024/\(∀ x∈v,Md x)/\Ij v:=by
 unfold Vp at h;split at h
 ·omega
 ·split at h
  ·omega
  ·split at h
   ·omega
   ·rename_i h1 h2 h3;have h2:=Classical.not_not.1 h2;have h3:=Classical.not_not.1 h3;refine⟨oo,h2,fun i hi=>?_,fun i j hi hj hs=>?_⟩
    ·obtain⟨k,hk,rfl,_⟩:=Mc (v:=v) (i:=i) hi;rw[Yq hk];exact (h2 _ (getElem_mem hk)).1
    ·obtain⟨a,ha,rfl,_⟩:=Mc (v:=v) (i:=i) hi;obtain⟨b,hb,rfl,_⟩:=Mc (v:=v) (i:=j) hj;rw[Yq ha,Yq hb] at hs;unfold Fp at h3;rw[pairwise_iff_getElem] at h3;rcases Nat.lt_trichotomy a b with c | c | c
     ·exact absurd hs (h3 a b ha hb c)
     ·rw[c]
     ·exact absurd ⟨hs.1.symm,hs.2.symm⟩ (h3 b a hb ha c)
theorem Aio{v:List Ad}:((List.range v.length).any fun k=>!decide (Md (v.getD k ⟨0,0,⟨0,0⟩⟩)))=true↔¬ ∀ x∈v,Md x:=by
 rw[any_eq_true];constructor
 ·rintro⟨k,hk,h⟩ hall;rw[mem_range] at hk;simp[hk] at h;exact h (hall _ (getElem_mem hk))
 ·intro h;apply Classical.byContradiction;intro hno;apply h;intro x hx;obtain⟨k,hk,rfl⟩:=getElem_of_mem hx;apply Classical.byContradiction;intro hb;exact hno ⟨k,mem_range.2 hk,by simp[hk,hb]⟩
theorem Anv{v:List Ad}:(∃ i j,∃ (hi:i<v.length) (hj:j<v.length),j<i/\Aar v[i] v[j])↔¬ Fp v:=by
 unfold Fp;rw[pairwise_iff_getElem];constructor
 ·rintro⟨i,j,hi,hj,hji,hs⟩ h;exact h j i hj hi hji ⟨hs.1.symm,hs.2.symm⟩
 ·intro h;apply Classical.byContradiction;intro hno;apply h;intro i j hi hj hij hs;exact hno ⟨j,i,hj,hi,hij,hs.1.symm,hs.2.symm⟩
theorem Bem{v:List Ad}(c:v.length<=1024):lfix (Ky v) 0=some (if ((List.range v.length).any fun k=>!decide (Md (v.getD k ⟨0,0,⟨0,0⟩⟩)))=true then .inr 60 else .inl ()):=by
 refine Af7 v.length oo (fun k=>!decide (Md (v.getD k ⟨0,0,⟨0,0⟩⟩))) (Ky v) () 60 (fun k hk=>?_) ?_
 ·unfold Ky;rw[if_pos oo,At hk,Ae,Anu,Ae,Bg oo];have e:v.getD k ⟨0,0,⟨0,0⟩⟩=v[k]:=by simp[hk]
  rw[e]
  by_cases g:Md v[k]
  ·simp[g]
  ·simp[g]
 ·unfold Ky;rw[if_neg oo]
theorem Ahr(v:List Ad):Tg v=some (Vp v):=by
 unfold Tg Vp
 by_cases c:1024<v.length
 ·rw[if_pos oo,if_pos c]
 ·rw[if_neg oo,if_neg c,jn_d];rw[Bem oo,Ae]
  ·by_cases h:∀ x∈v,Md x
   ·rw[if_neg (fun g=>Aio.1 g h),if_neg (not_not_intro h)];dsimp only;rw[jn_d];have hL:=Bk (B:=Rg v) (fun s=>v.length-s.2.toNat) (fun s=>∃ k:Nat,k<=v.length/\s.2=(k:Int)/\Do s.1/\s.1.length<=k/\(∀ x,(mget s.1 x).getD false=true↔∃ (j:Nat) (hj:j<v.length),j<k/\pP v[j]=x)/\∀ i j (hi:i<v.length) (hj:j<v.length),i<k->j<i->¬ Aar v[i] v[j])
     (fun t=>t=if ¬ Fp v then .inr 61 else .inl ()) (fun s hs=>by
      obtain⟨m,k⟩:=s;obtain⟨k,h1,rfl,h2,h3,h4,h5⟩:=hs;simp only at h1 h2 h3 h4;unfold Rg;dsimp only
      by_cases hk:k<v.length
      ·have hg:=(h _ (getElem_mem hk)).1;have hr:(-9223372036854775808<=v[k].X/\v[k].X<=9223372036854775807)/\-9223372036854775808<=v[k].Y/\v[k].Y<=9223372036854775807:=by
        unfold okP pP at hg;simp only at hg;omega
       unfold Oj;rw[if_pos oo,At hk,Ae,Ae,gd_t hr,Ae];have e4:=h4 (⟨v[k].X,v[k].Y⟩:Ab)
       by_cases hd:(mget m (⟨v[k].X,v[k].Y⟩:Ab)).getD false=true
       ·right;rw[if_pos hd];obtain⟨j,hj,hjk,he⟩:=e4.1 hd;refine⟨_,rfl,?_⟩;rw[if_pos];refine Anv.1 ⟨k,j,hk,hj,hjk,?_⟩;unfold pP at he;simp at he;exact⟨he.1.symm,he.2.symm⟩
       ·left;rw[if_neg hd,Ae,gd_t hr,gd_t oo,Bg oo];refine⟨_,rfl,⟨k+1,hk,rfl,h2.put _ _,?_,fun x=>?_,fun i j hi hj hik hji=>?_⟩,by dsimp only;omega⟩
        ·dsimp only;unfold mput mdel;rw[length_cons];refine Nat.succ_le_succ (Nat.le_trans (length_filter_le _ m) h3)
        ·dsimp only;rw[Nc h2]
         by_cases hx:x=⟨v[k].X,v[k].Y⟩
         ·rw[if_pos hx];simp only[Option.getD_some,true_iff];exact⟨k,hk,oo,hx.symm⟩
         ·rw[if_neg hx,h4];constructor
          ·rintro⟨j,hj,h6,h7⟩;exact⟨j,hj,oo,h7⟩
          ·rintro⟨j,hj,h6,h7⟩;refine⟨j,hj,?_,h7⟩
           by_cases e:j=k
           ·subst e;exact absurd h7.symm hx
           ·omega
        ·by_cases e:i=k
         ·subst e;intro hs;exact hd (e4.2 ⟨j,hj,hji,by unfold pP;rw[hs.1,hs.2]⟩)
         ·exact h5 i j hi hj oo hji
      ·right;rw[if_neg oo];refine⟨_,rfl,?_⟩;rw[if_neg];intro hno;obtain⟨i,j,hi,hj,hji,hs⟩:=Anv.2 hno;exact h5 i j hi hj oo hji hs) ([],0) ⟨0,oo,rfl,List.Pairwise.nil,by simp,fun x=>by simp[mget],fun i j hi hj h1=>oo⟩
    obtain⟨t,h1,rfl⟩:=hL;rw[h1,Ae]
    by_cases hd:Fp v
    ·rw[if_neg (not_not_intro hd),if_neg (not_not_intro hd)]
    ·rw[if_pos hd,if_pos hd]
   ·rw[if_pos (Aio.2 h),if_pos h]
theorem Ah4(x:Ad):Gm x=some (decide (Md x)):=by
 unfold Gm Au;rw[jn_d,Ae,Asg,Ae]
 by_cases h:okP (⟨x.X,x.Y⟩:Ab)
 ·rw[decide_eq_true h,if_pos rfl]
  by_cases h1:-268435456<=x.Z.Lo
  ·rw[if_pos h1]
   by_cases h2:x.Z.Lo<=x.Z.Hi
   ·rw[if_pos h2];congr 1;rw[Bool.eq_iff_iff,decide_eq_true_eq,decide_eq_true_eq];exact⟨fun g=>⟨h,h1,h2,g⟩,fun g=>g.2.2.2⟩
   ·rw[if_neg h2,decide_eq_false (fun g:Md x=>h2 g.2.2.1)]
  ·rw[if_neg h1,decide_eq_false (fun g:Md x=>h1 g.2.1)]
 ·rw[decide_eq_false h,if_neg (by simp),decide_eq_false (fun g:Md x=>h g.1)]
theorem Bbk{v:List Ad}(c:v.length<=1024):lfix (Eq v) 0=some (if ((List.range v.length).any fun k=>!decide (Md (v.getD k ⟨0,0,⟨0,0⟩⟩)))=true then .inr 60 else .inl ()):=by
 refine Af7 v.length oo (fun k=>!decide (Md (v.getD k ⟨0,0,⟨0,0⟩⟩))) (Eq v) () 60 (fun k hk=>?_) ?_
 ·unfold Eq;rw[if_pos oo,At hk,Ae,Ah4,Ae,Bg oo];have e:v.getD k ⟨0,0,⟨0,0⟩⟩=v[k]:=by simp[hk]
  rw[e]
  by_cases g:Md v[k]
  ·simp[g]
  ·simp[g]
 ·unfold Eq;rw[if_neg oo]
theorem Ah5(v:List Ad):Jo v=some (Vp v):=by
 unfold Jo Vp
 by_cases c:1024<v.length
 ·rw[if_pos oo,if_pos c]
 ·rw[if_neg oo,if_neg c,jn_d];rw[Bbk oo,Ae]
  ·by_cases h:∀ x∈v,Md x
   ·rw[if_neg (fun g=>Aio.1 g h),if_neg (not_not_intro h)];dsimp only;rw[jn_d];have hin:∀ i (hi:i<v.length),lfix (Gc (i:Int) v) 0=some (if (List.range i).any (fun j=>decide (Aar v[i] (v.getD j ⟨0,0,⟨0,0⟩⟩))) then .inr 61 else .inl ()):=fun i hi=>by
     refine Af7 i oo _ _ () 61 (fun k hk=>?_) ?_
     ·unfold Gc;have e:v.getD k ⟨0,0,⟨0,0⟩⟩=v[k]'oo:=by simp[show k<v.length by omega]
      rw[if_pos oo,jn_d,At hi,Ae,At (show k<v.length by omega),Ae,Bg oo,e];unfold Aar
      by_cases g1:v[i].X=v[k].X
      ·rw[if_pos g1,Ae,Ae]
       by_cases g2:v[i].Y=v[k].Y
       ·simp[g1,g2]
       ·simp[g2]
      ·rw[if_neg g1];simp[g1]
     ·unfold Gc;rw[if_neg oo]
    have hout:lfix (Dy v) 0=some (if ((List.range v.length).any fun i=>(List.range i).any fun j=>decide (Aar (v.getD i ⟨0,0,⟨0,0⟩⟩) (v.getD j ⟨0,0,⟨0,0⟩⟩)))=true then .inr 61 else .inl ()):=by
     refine Af7 v.length oo (fun i=>(List.range i).any fun j=>decide (Aar (v.getD i ⟨0,0,⟨0,0⟩⟩) (v.getD j ⟨0,0,⟨0,0⟩⟩))) (Dy v) () 61 (fun i hi=>?_) ?_
     ·unfold Dy;have e:v.getD i ⟨0,0,⟨0,0⟩⟩=v[i]:=by simp[hi]
      rw[if_pos oo,jn_d,hin i hi,Ae,Bg oo,e]
      by_cases g:((List.range i).any fun j=>decide (Aar v[i] (v.getD j ⟨0,0,⟨0,0⟩⟩)))=true
      ·rw[if_pos g,if_pos g]
      ·rw[if_neg g,if_neg g]
     ·unfold Dy;rw[if_neg oo]
    rw[hout,Ae]
    ·have hd:((List.range v.length).any fun i=>(List.range i).any fun j=>decide (Aar (v.getD i ⟨0,0,⟨0,0⟩⟩) (v.getD j ⟨0,0,⟨0,0⟩⟩)))=true↔¬ Fp v:=by
      rw[<- Anv,any_eq_true];constructor
      ·rintro⟨i,hi,hj⟩;rw[any_eq_true] at hj;obtain⟨j,hj,hs⟩:=hj;rw[mem_range] at hi hj;rw[decide_eq_true_eq] at hs;refine⟨i,j,hi,oo,hj,?_⟩;simpa[hi,show j<v.length by omega] using hs
      ·rintro⟨i,j,hi,hj,hji,hs⟩;refine⟨i,mem_range.2 hi,?_⟩;rw[any_eq_true];exact⟨j,mem_range.2 hji,by simpa[hi,hj] using hs⟩
     by_cases g:Fp v
     ·rw[if_neg (fun q=>hd.1 q g),if_neg (not_not_intro g)]
     ·rw[if_pos (hd.2 g),if_pos g]
   ·rw[if_pos (Aio.2 h),if_pos h]
def Box(p q k:Ab):Prop:=min p.X q.X<=k.X/\k.X<=max p.X q.X/\min p.Y q.Y<=k.Y/\k.Y<=max p.Y q.Y
instance(p q k:Ab):Decidable (Box p q k):=by unfold Box;infer_instance
def lexA:Int:=2147483648
theorem Aq9{p q:Ab}(hp:okP p)(hq:okP q):ph lexA 1 p<ph lexA 1 q↔befP p q:=by unfold ph lexA okP befP at *;omega
theorem mid{a b c d:Int}(h0:0<a)(h1:0<=b)(h2:b<=a)(h:a*c=d*b):(0<=d->0<=c/\c<=d)/\(d<=0->d<=c/\c<=0):=by
 constructor
 ·intro hd;have e1:=Int.mul_nonneg hd h1;have e2:=Int.mul_nonneg hd (show 0<=a-b by omega);refine⟨Vt h0 oo,?_⟩;have:0<=d-c:=Vt h0 (by rw[Int.mul_sub] at *;rw[Int.mul_comm a d];omega);omega
 ·intro hd;have e1:=Int.mul_nonneg (show 0<=-d by omega) h1;have e2:=Int.mul_nonneg (show 0<=-d by omega) (show 0<=a-b by omega);rw[Int.neg_mul] at e1 e2;rw[Int.mul_sub] at e2;constructor
  ·have:0<=c-d:=Vt h0 (by rw[Int.mul_sub,Int.mul_comm a d];omega);omega
  ·have:0<=-c:=Vt h0 (by rw[Int.mul_neg];omega);omega
theorem Bbl{p q k:Ab}(h:crs p q k=0)(h1:¬ befP k p)(h2:¬ befP q k):Box p q k:=by
 unfold befP at h1 h2;unfold crs at h;unfold Box
 by_cases e:p.X=q.X
 ·omega
 ·have:=mid (a:=q.X-p.X) (b:=k.X-p.X) (c:=k.Y-p.Y) (d:=q.Y-p.Y) oo oo oo oo;rcases Int.le_total 0 (q.Y-p.Y) with g | g
  ·have:=this.1 g;omega
  ·have:=this.2 g;omega
theorem Ben{p q k:Ab}(h:crs p q k=0)(h1:¬ befP q p)(h2:befP q k)(h3:¬ De p q):¬ Box p q k:=by
 intro hb;unfold befP De at *;unfold Box at hb;unfold crs at h
 by_cases e:p.X=q.X
 ·omega
 ·have hk:k.X=q.X:=oo;rw[hk] at h;have:(q.X-p.X)*(k.Y-q.Y)=0:=by grind
  rcases Int.mul_eq_zero.1 this with g | g <;> omega
variable {v:List Ad}
theorem Aas(hv:Ij v){i j:Int}(hi:inN v.length i)(hj:inN v.length j)(h:i≠j):¬ De (plV v i) (plV v j):=fun g=>h (hv.dist i j hi hj g)
theorem Af8(a b c:Ab):crs a c b = -crs a b c:=by unfold crs;grind
theorem Apj{p q r:Ab}(hp:okP p)(hq:okP q)(hr:okP r):Li p q r=some (decide (crs p q r=0/\Box p q r)):=by
 unfold Li;rw[jn_d,Aaf hp hq hr,Ae];have e:Int.sign (crs p q r)=0↔crs p q r=0:=Int.sign_eq_zero_iff_zero
 by_cases h:crs p q r=0
 ·rw[if_pos (e.2 h)];unfold Box
  by_cases h1:min p.X q.X<=r.X
  ·rw[if_pos h1]
   by_cases h2:r.X<=max p.X q.X
   ·rw[if_pos h2]
    by_cases h3:min p.Y q.Y<=r.Y
    ·rw[if_pos h3];simp[h,h1,h2,h3]
    ·rw[if_neg h3];simp[h3]
   ·rw[if_neg h2];simp[h2]
  ·rw[if_neg h1];simp[h1]
 ·rw[if_neg (fun g=>h (e.1 g))];simp[h]
theorem Ake(p q:Ab):Gn p q=some (decide (befP p q)):=by
 unfold Gn befP;rw[jn_d]
 by_cases h1:p.X<q.X
 ·rw[if_pos h1];simp[h1]
 ·rw[if_neg h1]
  by_cases h2:p.X=q.X
  ·rw[if_pos h2];simp[h2]
  ·rw[if_neg h2];simp[h1,h2]
theorem Atf(p:Ab):¬ befP p p:=by unfold befP;omega
theorem Af9{p q:Ab}(h:befP p q):¬ befP q p:=by unfold befP at *;omega
theorem Sb{i:Int}(hi:inN v.length i):∃ x,idx v i=some x/\(⟨x.X,x.Y⟩:Ab)=plV v i:=by
 obtain⟨k,hk,rfl,f⟩:=Mc (v:=v) (i:=i) hi;exact⟨v[k],f,by unfold plV;rw[f]⟩
theorem first_eq(hn:v.length<=1024){f:Int}(hf:inN v.length f)(low:∀ k,inN v.length k->k=f\/befP (plV v f) (plV v k)):Ov v=some f:=by
 unfold inN at hf;unfold Ov;rw[jn_d];have:=Bk (B:=Oi v) (fun s=>v.length-s.2.toNat) (fun s=>0<=s.2/\s.2<=(v.length:Int)/\inN v.length s.1/\(f<s.2->s.1=f)) (fun t=>t=f) (fun s hs=>by
  obtain⟨b,k⟩:=s;obtain⟨h1,h2,h3,h4⟩:=hs;simp only at h1 h2 h3 h4;unfold Oi;dsimp only
  by_cases hk:k<(v.length:Int)
  ·left;obtain⟨x,hx,px⟩:=Sb (v:=v) (i:=k) ⟨h1,hk⟩;obtain⟨y,hy,py⟩:=Sb (v:=v) (i:=b) h3;rw[if_pos hk,jn_d,hx,Ae,hy,Ae];unfold Au;rw[Ae,Ae,px,py,Ake,Ae,Av oo oo]
   by_cases c:befP (plV v k) (plV v b)
   ·rw[if_pos (decide_eq_true c)];refine⟨_,rfl,⟨by dsimp only;omega,by dsimp only;omega,⟨h1,hk⟩,fun g=>?_⟩,by dsimp only;omega⟩;dsimp only at g ⊢
    by_cases e:f<k
    ·rw[h4 e] at c;rcases low k ⟨h1,hk⟩ with e2 | e2
     ·exact e2
     ·exact absurd c (Af9 e2)
    ·omega
   ·rw[if_neg (by simpa using c)];refine⟨_,rfl,⟨by dsimp only;omega,by dsimp only;omega,h3,fun g=>?_⟩,by dsimp only;omega⟩;dsimp only at g ⊢
    by_cases e:f<k
    ·exact h4 e
    ·have:k=f:=oo;rcases low b h3 with e2 | e2
     ·exact e2
     ·rw[this] at c;exact absurd e2 c
  ·right;rw[if_neg hk];exact⟨_,rfl,h4 oo⟩) (0,0) ⟨by simp,by simp,⟨by simp,by simp only;omega⟩,fun g=>by simp only at g;omega⟩
 obtain⟨t,ht,rfl⟩:=this;rw[ht,Ae]
theorem Bbm(hv:Ij v)(hn:v.length<=1024):∃ b,Qc v=some b/\(b=true↔∀ k,2<=k->inN v.length k->crs (plV v 0) (plV v 1) (plV v k)=0):=by
 unfold Qc;rw[jn_d];have:=Bk (B:=Pu v) (fun s=>v.length-s.toNat) (fun s=>2<=s/\∀ k,2<=k->k<s->inN v.length k->crs (plV v 0) (plV v 1) (plV v k)=0)
  (fun t=>(t = .inl ()/\∀ k,2<=k->inN v.length k->crs (plV v 0) (plV v 1) (plV v k)=0)\/(t = .inr false/\¬ ∀ k,2<=k->inN v.length k->crs (plV v 0) (plV v 1) (plV v k)=0)) (fun s hs=>by
  obtain⟨h1,h2⟩:=hs;unfold Pu
  by_cases hk:s<(v.length:Int)
  ·have hs':inN v.length s:=⟨oo,hk⟩;have h0':inN v.length 0:=⟨oo,oo⟩;have h1':inN v.length 1:=⟨oo,oo⟩;obtain⟨x,hx,px⟩:=Sb (v:=v) h0';obtain⟨y,hy,py⟩:=Sb (v:=v) h1';obtain⟨z,hz,pz⟩:=Sb (v:=v) hs';rw[if_pos hk,hx,Ae,hy,Ae,hz,Ae];unfold Au;rw[Ae,Ae,Ae,px,py,pz,Aaf (hv.ok _ h0') (hv.ok _ h1') (hv.ok _ hs'),Ae,Av oo oo];have s0:Int.sign (crs (plV v 0) (plV v 1) (plV v s))=0↔crs (plV v 0) (plV v 1) (plV v s)=0:=Int.sign_eq_zero_iff_zero
   by_cases c:crs (plV v 0) (plV v 1) (plV v s)=0
   ·left;rw[if_pos (s0.2 c)];refine⟨_,rfl,⟨oo,fun k k1 k2 k3=>?_⟩,oo⟩
    by_cases e:k=s
    ·rw[e];exact c
    ·exact h2 k k1 oo k3
   ·right;rw[if_neg (fun g=>c (s0.1 g))];exact⟨_,rfl,.inr ⟨rfl,fun g=>c (g s h1 hs')⟩⟩
  ·right;rw[if_neg hk];exact⟨_,rfl,.inl ⟨rfl,fun k k1 k2=>h2 k k1 (by have:=k2.2;omega) k2⟩⟩) 2 ⟨oo,fun k k1 k2=>oo⟩
 obtain⟨t,ht,g | g⟩:=this
 ·obtain⟨rfl,g⟩:=g;rw[ht,Ae];exact⟨true,rfl,fun _=>g,fun _=>rfl⟩
 ·obtain⟨rfl,g⟩:=g;rw[ht,Ae];exact⟨false,rfl,fun h=>(by cases h),fun h=>absurd h g⟩
end Go.Proofs.YthlkpgdfifnagaaGreat
namespace Go.Proofs.YthlkpgdfifnagaaGreat
open Go Go.RowKit List
variable {v:List Ad}
def Top(v:List Ad)(a b c:Int):Prop:=inN v.length c/\0<crs (plV v a) (plV v b) (plV v c)/\∀ d,inN v.length d->0<crs (plV v a) (plV v b) (plV v d)->d≠c->DH (plV v) (hV v) a b c d<0
theorem Bbn(a b c d:Int):DH (plV v) (hV v) a b d c = -DH (plV v) (hV v) a b c d:=Aos _ _ _ _ _ _ _ _
theorem Top.unique{a b c d:Int}(h:Top v a b c)(k:Top v a b d):c=d:=by
 by_cases e:c=d
 ·exact e
 ·have h1:=h.2.2 d k.1 k.2.1 (fun g=>e g.symm);have h2:=k.2.2 c h.1 h.2.1 e;rw[Bbn] at h2;omega
theorem Del.top{a b c:Int}(h:Del v a b c):Top v a b c:=by
 obtain⟨h1,h2,h3,h4,h5⟩:=h;refine⟨h3,h4,fun d hd hp hne=>h5 d hd (fun e=>?_) (fun e=>?_) hne⟩
 ·subst e;rw[Gy] at hp;omega
 ·subst e;rw[Cs] at hp;omega
theorem Del.unique{a b c d:Int}(h:Del v a b c)(k:Del v a b d):c=d:=h.top.unique k.top
theorem Top.across{a b c e:Int}(h:Del v a b c)(k:Top v b a e):Del v b a e:=by
 obtain⟨h1,h2,h3,h4,h5⟩:=h;obtain⟨k1,k2,k3⟩:=k;refine⟨h2,h1,k1,k2,fun d hd n1 n2 n3=>?_⟩
 by_cases hp:0<crs (plV v b) (plV v a) (plV v d)
 ·exact k3 d hd hp n3
 have hx:0<=crs (plV v a) (plV v b) (plV v d):=by rw[Cu] at hp;omega
 have he:crs (plV v a) (plV v b) (plV v e)<0:=by rw[Cu] at k2;omega
 have hne:e≠c:=fun g=>by rw[g] at he;omega
 have hea:e≠a:=fun g=>by rw[g,Gy] at he;omega
 have heb:e≠b:=fun g=>by rw[g,Cs] at he;omega
 have hD:=h5 e k1 hea heb hne;obtain⟨p1,p2⟩:=Aeo (P:=plV v) (H:=hV v) (a:=a) (b:=b) (c:=c) (d:=d) (h5 d hd);have key:=Aa2 (hV v a) (hV v b) (hV v c) (hV v e) (plV v a) (plV v b) (plV v c) (plV v e) (plV v d);unfold DH at hD ⊢;rw[Aji];generalize plt (hV v b) (hV v a) (hV v e) (plV v b) (plV v a) (plV v e) (plV v d)=L at *;generalize plt (hV v a) (hV v b) (hV v c) (plV v a) (plV v b) (plV v c) (plV v d)=M at *;generalize Dt (hV v a) (hV v b) (hV v c) (hV v e) (plV v a) (plV v b) (plV v c) (plV v e)=D at *;have hlt:M*crs (plV v b) (plV v a) (plV v e)+D*crs (plV v a) (plV v b) (plV v d)<hV v d*crs (plV v a) (plV v b) (plV v c)*crs (plV v b) (plV v a) (plV v e):=by
  by_cases g:d=c
  ·subst g;have e1:=Int.mul_le_mul_of_nonneg_right p1 (Int.le_of_lt k2);have e2:=Int.mul_neg_of_neg_of_pos hD h4;omega
  ·have e1:=Int.mul_lt_mul_of_pos_right (p2 n2 n1 g) k2;have e2:=Int.mul_nonpos_of_nonpos_of_nonneg (Int.le_of_lt hD) hx;omega
 have e3:(L-hV v d*crs (plV v b) (plV v a) (plV v e))*crs (plV v a) (plV v b) (plV v c)<0:=by
  have:(L-hV v d*crs (plV v b) (plV v a) (plV v e))*crs (plV v a) (plV v b) (plV v c)=L*crs (plV v a) (plV v b) (plV v c)-hV v d*crs (plV v a) (plV v b) (plV v c)*crs (plV v b) (plV v a) (plV v e):=by grind
  omega
 rcases Int.lt_or_le (L-hV v d*crs (plV v b) (plV v a) (plV v e)) 0 with g | g
 ·exact g
 ·have:=Int.mul_nonneg g (Int.le_of_lt h4);omega
theorem Top.hull{a b c:Int}(hv:Ij v)(ha:inN v.length a)(hb:inN v.length b)(hl:∀ d,inN v.length d->0<=crs (plV v a) (plV v b) (plV v d))(ho:∀ d,inN v.length d->d≠a->d≠b->crs (plV v a) (plV v b) (plV v d)=0->∀ x,0<crs (plV v a) (plV v b) x->crs (plV v b) x (plV v d)<0)(k:Top v a b c):Del v a b c:=by
 obtain⟨k1,k2,k3⟩:=k;refine⟨ha,hb,k1,k2,fun d hd n1 n2 n3=>?_⟩
 by_cases hp:0<crs (plV v a) (plV v b) (plV v d)
 ·exact k3 d hd hp n3
 have h0:crs (plV v a) (plV v b) (plV v d)=0:=by have:=hl d hd;omega
 rw[<- Aev];exact Adh hv b c a d hb k1 ha hd (by rw[Cf];exact k2) (ho d hd n1 n2 h0 _ k2) (.inr oo)
def dtp(a b x:Ab):Int:=(x.X-a.X)*(x.X-b.X)+(x.Y-a.Y)*(x.Y-b.Y)
theorem Abi(a b c d:Ab):inC a b c d=dtp a b c*crs a b d-dtp a b d*crs a b c:=by unfold inC dtp lft crs;grind
theorem Anw{a b c d e:Ab}(hc:0<crs a b c)(hd:0<crs a b d)(he:0<crs a b e)(h1:0<inC a b c d)(h2:inC a b c e<=0):inC a b d e<0:=by
 rw[Abi] at *;have e1:dtp a b d*crs a b c<dtp a b c*crs a b d:=oo;have e2:dtp a b c*crs a b e<=dtp a b e*crs a b c:=oo;have m1:=Int.mul_lt_mul_of_pos_right e1 he;have m2:=Int.mul_le_mul_of_nonneg_right e2 (Int.le_of_lt hd);have m3:(dtp a b d*crs a b e)*crs a b c<(dtp a b e*crs a b d)*crs a b c:=by
  have r1:(dtp a b d*crs a b e)*crs a b c=dtp a b d*crs a b c*crs a b e:=by grind
  have r2:dtp a b c*crs a b d*crs a b e=dtp a b c*crs a b e*crs a b d:=by grind
  have r3:(dtp a b e*crs a b d)*crs a b c=dtp a b e*crs a b c*crs a b d:=by grind
  omega
 have:=Int.lt_of_mul_lt_mul_right m3 (Int.le_of_lt hc);omega
theorem Apk{a b c d e:Ab}(hc:0<crs a b c)(h1:inC a b c d=0):inC a b c e*crs a b d=inC a b d e*crs a b c:=by
 rw[Abi a b c e,Abi a b d e];rw[Abi] at h1;have e1:dtp a b c*crs a b d=dtp a b d*crs a b c:=oo;have r1:(dtp a b c*crs a b e-dtp a b e*crs a b c)*crs a b d=dtp a b c*crs a b d*crs a b e-dtp a b e*crs a b c*crs a b d:=by grind
 rw[r1,e1];grind
theorem Adm{a b c d e:Ab}(hc:0<crs a b c)(hd:0<crs a b d)(h1:inC a b c d=0):(inC a b c e<0->inC a b d e<0)/\(inC a b c e=0->inC a b d e=0):=by
 have h:=Apk (e:=e) hc h1;constructor
 ·intro g;rcases Int.lt_or_le (inC a b d e) 0 with k | k
  ·exact k
  ·have e1:=Int.mul_nonneg k (Int.le_of_lt hc);have e2:=Int.mul_neg_of_neg_of_pos g hd;omega
 ·intro g;rw[g,Int.zero_mul] at h;rcases Int.mul_eq_zero.1 h.symm with k | k
  ·exact k
  ·omega
theorem Ara{a b c d:Ab}(hc:0<crs a b c)(hd:0<crs a b d)(h0:inC a b c d=0)(h1:crs a c d=0):De c d:=by
 have hca:¬ De c a:=fun e=>by have:=Afx e;subst this;rw[Gy] at hc;omega
 have L1:=Amz hca;have e0:lft c a*crs a b d=lft d a*crs a b c:=by
  have:inC a b c d=lft b a*crs c a d+lft c a*crs a b d-lft d a*crs a b c:=by unfold inC lft crs;grind
  rw[h0,Cu,h1] at this;simp only[Int.neg_zero,Int.mul_zero,Int.zero_add] at this;omega
 have ex:crs a b c*(d.X-a.X)=crs a b d*(c.X-a.X):=by
  have:crs a b c*(d.X-a.X)-crs a b d*(c.X-a.X) = -(b.X-a.X)*crs a c d:=by unfold crs;grind
  rw[h1,Int.mul_zero] at this;omega
 have ey:crs a b c*(d.Y-a.Y)=crs a b d*(c.Y-a.Y):=by
  have:crs a b c*(d.Y-a.Y)-crs a b d*(c.Y-a.Y) = -(b.Y-a.Y)*crs a c d:=by unfold crs;grind
  rw[h1,Int.mul_zero] at this;omega
 generalize hk1:crs a b c=k1 at *;generalize hk2:crs a b d=k2 at *;have e2:k1*(k1*lft d a)=k2*(k2*lft c a):=by
  unfold lft;have x2:(k1*(d.X-a.X))*(k1*(d.X-a.X))=(k2*(c.X-a.X))*(k2*(c.X-a.X)):=by rw[ex]
  have y2:(k1*(d.Y-a.Y))*(k1*(d.Y-a.Y))=(k2*(c.Y-a.Y))*(k2*(c.Y-a.Y)):=by rw[ey]
  grind
 have e3:(lft c a*k2)*(k1-k2)=0:=by
  have:k1*(k1*lft d a)=k1*(lft c a*k2):=by rw[e0,Int.mul_comm k1 (lft d a)]
  grind
 have e4:k1=k2:=by
  rcases Int.mul_eq_zero.1 e3 with g | g
  ·rcases Int.mul_eq_zero.1 g with g | g <;> omega
  ·omega
 subst e4;have gx:=Int.eq_of_mul_eq_mul_left oo ex;have gy:=Int.eq_of_mul_eq_mul_left oo ey;unfold De;omega
theorem Ay7{a b c d:Ab}(hc:0<crs a b c)(h0:inC a b c d=0)(h1:0<crs a c d)(hd:0<crs a b d):0<crs b c d:=by
 rcases Int.lt_or_le 0 (crs b c d) with g | g
 ·exact g
 ·have:=Acb (a:=c) (b:=a) (c:=b) (d:=d) (by rw[<- Cf];exact hc) (by rw[Cu];omega) g;rw[<- Ail,h0] at this;omega
end Go.Proofs.YthlkpgdfifnagaaGreat
namespace Go.Proofs.YthlkpgdfifnagaaGreat
open Go Go.RowKit List
variable {v:List Ad} {a b:Int}
structure Best(v:List Ad)(a b k:Int)(s:List Int):Prop where
 mem:∀ c∈s,inN v.length c/\c<k/\0<crs (plV v a) (plV v b) (plV v c)
 none:s=[]->∀ d,inN v.length d->d<k->crs (plV v a) (plV v b) (plV v d)<=0
 top:∀ c∈s,∀ d,inN v.length d->d<k->0<crs (plV v a) (plV v b) (plV v d)->(inC (plV v a) (plV v b) (plV v c) (plV v d)<0/\d ∉ s)\/(inC (plV v a) (plV v b) (plV v c) (plV v d)=0/\d∈s)
 nd:s.Nodup
theorem Best.nil:Best v a b 0 []:=⟨fun c h=>(by cases h),fun _ d hd h=>by unfold inN at hd;omega,fun c h=>(by cases h),nodup_nil⟩
theorem Best.skip{k:Int}{s:List Int}(h:Best v a b k s)(hk:crs (plV v a) (plV v b) (plV v k)<=0):Best v a b (k+1) s:=by
 refine⟨fun c hc=>?_,fun e d hd hl=>?_,fun c hc d hd hl hp=>?_,h.nd⟩
 ·obtain⟨h1,h2,h3⟩:=h.mem c hc;exact⟨h1,oo,h3⟩
 ·by_cases g:d=k
  ·subst g;exact hk
  ·exact h.none e d hd oo
 ·by_cases g:d=k
  ·subst g;omega
  ·exact h.top c hc d hd oo hp
theorem Apl(a b c:Ab):inC a b c c=0:=by unfold inC lft crs;grind
theorem Best.one{k:Int}(hk:inN v.length k)(hp:0<crs (plV v a) (plV v b) (plV v k))(ho:∀ d,inN v.length d->d<k->0<crs (plV v a) (plV v b) (plV v d)->inC (plV v a) (plV v b) (plV v k) (plV v d)<0):Best v a b (k+1) [k]:=by
 refine⟨fun c hc=>?_,fun e=>(by cases e),fun c hc d hd hl hq=>?_,by simp⟩
 ·rw[mem_singleton] at hc;subst hc;exact⟨hk,oo,hp⟩
 ·rw[mem_singleton] at hc;subst hc
  by_cases g:d=c
  ·subst g;exact .inr ⟨Apl _ _ _,mem_singleton.2 rfl⟩
  ·exact .inl ⟨ho d hd oo hq,by simpa using g⟩
theorem Best.first{k:Int}(h:Best v a b k [])(hk:inN v.length k)(hp:0<crs (plV v a) (plV v b) (plV v k)):Best v a b (k+1) [k] :=
 Best.one hk hp fun d hd hl hq=>by have:=h.none rfl d hd hl;omega
theorem Best.better{k c:Int}{s:List Int}(h:Best v a b k s)(hk:inN v.length k)(hp:0<crs (plV v a) (plV v b) (plV v k))(hc:c∈s)(hi:0<inC (plV v a) (plV v b) (plV v c) (plV v k)):Best v a b (k+1) [k] :=
 Best.one hk hp fun d hd hl hq=>Anw (h.mem c hc).2.2 hp hq hi (by rcases h.top c hc d hd hl hq with g | g <;> omega)
theorem Best.worse{k c:Int}{s:List Int}(h:Best v a b k s)(hc:c∈s)(hi:inC (plV v a) (plV v b) (plV v c) (plV v k)<0):Best v a b (k+1) s:=by
 refine⟨fun x hx=>?_,fun e=>(by rw[e] at hc;cases hc),fun x hx d hd hl hp=>?_,h.nd⟩
 ·obtain⟨h1,h2,h3⟩:=h.mem x hx;exact⟨h1,oo,h3⟩
 ·by_cases g:d=k
  ·subst g;refine .inl ⟨?_,fun e=>?_⟩
   ·obtain⟨h1,h2,h3⟩:=h.mem x hx;obtain⟨q1,q2,q3⟩:=h.mem c hc;have h0:inC (plV v a) (plV v b) (plV v c) (plV v x)=0:=by
     rcases h.top c hc x h1 h2 h3 with g | g
     ·exact absurd hx g.2
     ·exact g.1
    exact (Adm q3 h3 h0).1 hi
   ·have:=(h.mem d e).2.1;omega
  ·exact h.top x hx d hd oo hp
theorem Best.tie{k c:Int}{s:List Int}(h:Best v a b k s)(hk:inN v.length k)(hp:0<crs (plV v a) (plV v b) (plV v k))(hc:c∈s)(hi:inC (plV v a) (plV v b) (plV v c) (plV v k)=0):Best v a b (k+1) (s++[k]):=by
 have same:∀ x∈s,inC (plV v a) (plV v b) (plV v x) (plV v k)=0:=fun x hx=>by
  obtain⟨h1,h2,h3⟩:=h.mem x hx;obtain⟨q1,q2,q3⟩:=h.mem c hc;have h0:inC (plV v a) (plV v b) (plV v c) (plV v x)=0:=by
   rcases h.top c hc x h1 h2 h3 with g | g
   ·exact absurd hx g.2
   ·exact g.1
  exact (Adm q3 h3 h0).2 hi
 refine⟨fun x hx=>?_,fun e=>(by simp at e),fun x hx d hd hl hq=>?_,?_⟩
 ·rcases mem_append.1 hx with hx | hx
  ·obtain⟨h1,h2,h3⟩:=h.mem x hx;exact⟨h1,oo,h3⟩
  ·rw[mem_singleton] at hx;subst hx;exact⟨hk,oo,hp⟩
 ·by_cases g:d=k
  ·subst g;refine .inr ⟨?_,by simp⟩;rcases mem_append.1 hx with hx | hx
   ·exact same x hx
   ·rw[mem_singleton] at hx;subst hx;exact Apl _ _ _
  ·have hnk:d ∉ [k]:=by simpa using g
   rcases mem_append.1 hx with hx | hx
   ·rcases h.top x hx d hd oo hq with⟨g1,g2⟩|⟨g1,g2⟩
    ·exact .inl ⟨g1,fun e=>(mem_append.1 e).elim g2 hnk⟩
    ·exact .inr ⟨g1,mem_append.2 (.inl g2)⟩
   ·rw[mem_singleton] at hx;subst hx;obtain⟨q1,q2,q3⟩:=h.mem c hc;rcases h.top c hc d hd oo hq with⟨g1,g2⟩|⟨g1,g2⟩
    ·exact .inl ⟨(Adm q3 hp hi).1 g1,fun e=>(mem_append.1 e).elim g2 hnk⟩
    ·exact .inr ⟨(Adm q3 hp hi).2 g1,mem_append.2 (.inl g2)⟩
 ·rw[nodup_append];refine⟨h.nd,by simp,fun x hx y hy e=>?_⟩;rw[mem_singleton] at hy;subst hy;subst e;have:=(h.mem x hx).2.1;omega
structure Circ(v:List Ad)(a b:Int)(l:List Int):Prop where
 mem:∀ c∈l,inN v.length c/\0<crs (plV v a) (plV v b) (plV v c)
 on:∀ c∈l,∀ d∈l,inC (plV v a) (plV v b) (plV v c) (plV v d)=0
 nd:l.Nodup
theorem Best.circ{k:Int}{s:List Int}(h:Best v a b k s):Circ v a b s :=
 ⟨fun c hc=>⟨(h.mem c hc).1,(h.mem c hc).2.2⟩,fun c hc d hd=>by
  obtain⟨h1,h2,h3⟩:=h.mem d hd;rcases h.top c hc d h1 h2 h3 with g | g
  ·exact absurd hd g.2
  ·exact g.1,h.nd⟩
theorem Circ.sub{l l':List Int}(h:Circ v a b l)(hs:∀ x∈l',x∈l)(hn:l'.Nodup):Circ v a b l':=⟨fun c hc=>h.mem c (hs c hc),fun c hc d hd=>h.on c (hs c hc) d (hs d hd),hn⟩
theorem Circ.ne0{l:List Int}(hv:Ij v)(h:Circ v a b l){c d:Int}(hc:c∈l)(hd:d∈l)(hne:c≠d):crs (plV v a) (plV v c) (plV v d)≠0:=fun e=>by
 obtain⟨c1,c2⟩:=h.mem c hc;obtain⟨d1,d2⟩:=h.mem d hd;exact hne (hv.dist c d c1 d1 (Ara c2 d2 (h.on c hc d hd) e))
theorem Circ.trans{l:List Int}(h:Circ v a b l){c d e:Int}(hc:c∈l)(hd:d∈l)(he:e∈l)(h1:0<crs (plV v a) (plV v c) (plV v d))(h2:0<crs (plV v a) (plV v d) (plV v e)):0<crs (plV v a) (plV v c) (plV v e):=by
 have p:=Vw (plV v a) (plV v b) (plV v c) (plV v d) (plV v e);have e1:=Int.mul_pos (h.mem c hc).2 h2;have e2:=Int.mul_pos (h.mem e he).2 h1;refine Uc (x:=crs (plV v a) (plV v b) (plV v d)) ?_ (h.mem d hd).2;omega
structure Ring(v:List Ad)(a b:Int)(l:List Int):Prop where
 circ:Circ v a b l
 ord:l.Pairwise fun x y=>0<crs (plV v a) (plV v x) (plV v y)
def Ans(v:List Ad)(a b:Int)(l:List Int)(c:Int):Prop:=c∈l/\∀ d∈l,d≠c->DH (plV v) (hV v) a b c d<0
section
variable (hv:Ij v) (ha:inN v.length a) (hb:inN v.length b) {l:List Int}
include hv ha hb
theorem Ring.ans_a{c:Int}{l:List Int}(h:Ring v a b (l++[c]))(hab:befP (plV v a) (plV v b))(hf:∀ x∈l++[c],befP (plV v a) (plV v x)):Ans v a b (l++[c]) c:=by
 have hc:c∈l++[c]:=by simp
 refine⟨hc,fun d hd hne=>?_⟩;obtain⟨c1,c2⟩:=h.circ.mem c hc;obtain⟨d1,d2⟩:=h.circ.mem d hd;have hdl:d∈l:=by
  rcases mem_append.1 hd with g | g
  ·exact g
  ·exact absurd (mem_singleton.1 g) hne
 have hdc:0<crs (plV v a) (plV v d) (plV v c):=(pairwise_append.1 h.ord).2.2 d hdl c (by simp);have:=Ay7 d2 (h.circ.on d hd c hc) hdc c2;refine (Yi hv ha hb c1 d1 (h.circ.on c hc d hd) hab (hf c hc) (hf d hd)).2 ?_;rw[Af8];omega
theorem Ring.ans_b{c:Int}{l:List Int}(h:Ring v a b (c::l))(hab:befP (plV v b) (plV v a))(hf:∀ x∈c::l,befP (plV v b) (plV v x)):Ans v a b (c::l) c:=by
 have hc:c∈c::l:=by simp
 refine⟨hc,fun d hd hne=>?_⟩;obtain⟨c1,c2⟩:=h.circ.mem c hc;obtain⟨d1,d2⟩:=h.circ.mem d hd;have hdl:d∈l:=by
  rcases mem_cons.1 hd with g | g
  ·exact absurd g hne
  ·exact g
 have hcd:0<crs (plV v a) (plV v c) (plV v d):=(pairwise_cons.1 h.ord).1 d hdl;rw[<- Aev];refine (Yi hv hb c1 ha d1 (by rw[Ail];exact h.circ.on c hc d hd) (hf c hc) hab (hf d hd)).2 ?_;rw[Cu];omega
theorem Ring.ans_cut{x c:Int}(h:Ring v a b l)(hx:x∈l)(hxa:befP (plV v x) (plV v a))(hxb:befP (plV v x) (plV v b))(hf:∀ y∈l,y≠x->befP (plV v x) (plV v y)){l':List Int}(hl:∀ y,y∈l'↔y∈l/\y≠x)(hc:Ans v a b l' c):Ans v a b l c:=by
 obtain⟨h1,h2⟩:=hc;obtain⟨hcl,hcx⟩:=(hl c).1 h1;obtain⟨c1,c2⟩:=h.circ.mem c hcl;obtain⟨x1,x2⟩:=h.circ.mem x hx;refine⟨hcl,fun d hd hne=>?_⟩
 by_cases e:d=x
 ·subst e;exact Aj5 hv ha hb c1 x1 (h.circ.on c hcl d hx) hxa hxb (hf c hcl hcx) c2
 ·exact h2 d ((hl d).2 ⟨hd,e⟩) hne
theorem Best.ans{s l:List Int}{c:Int}(h:Best v a b v.length s)(hp:∀ x,x∈l↔x∈s)(hc:Ans v a b l c):Top v a b c:=by
 obtain⟨h1,h2⟩:=hc;have hcs:=(hp c).1 h1;obtain⟨c1,_,c2⟩:=h.mem c hcs;refine⟨c1,c2,fun d hd hq hne=>?_⟩;rcases h.top c hcs d hd hd.2 hq with g | g
 ·exact Ang hv ha hb c1 hd g.1
 ·exact h2 d ((hp d).2 g.2) hne
end
end Go.Proofs.YthlkpgdfifnagaaGreat
