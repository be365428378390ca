import Derived.Test.YthlkpgdfifnagaaGreatL7
set_option maxRecDepth 100000
set_option maxHeartbeats 1000000
namespace Go.Proofs.YthlkpgdfifnagaaGreat
open Go Go.RowKit Tryz
noncomputable section
section
variable {v:List Ae}{l:LI}
theorem Ay1(hv:Ie v)(hn:v.length<=1024)(hr:Qx v l)(F:List (Ac × Bool)):
  ∃m,Lv ⟨v,[],F⟩ l=some ⟨v,m,F⟩/\((Ahp v/\m=[])\/(¬Ahp v/\MapN v.length m/\Tri (plV v) (inN v.length) (apM m)/\Cov (plV v) (inN v.length) (apM m)/\m≠[])):=by
 have hlen:=hr.len;obtain⟨n0,h1,h2,h3,h4,h5⟩:=Bem hv hn hr ⟨v,[],F⟩ rfl;unfold Lv;rw[jn_d,h1,Ad];dsimp only
 by_cases c:l.length<=n0
 .rw[if_pos oo];refine⟨[],rfl,.inl ⟨?_,rfl⟩⟩
  by_cases c2:2<=l.length
  ·-- all on the line of the first two
   have g0:0<l.length:=oo;have g1:1<l.length:=oo;have on:∀i,inN v.length i->crs (plV v l[0]) (plV v l[1]) (plV v i)=0:=fun i hi=>by
    obtain⟨k,hk,rfl⟩:=List.getElem_of_mem (hr.val.2 hi)
    by_cases e0:k=0
    .subst e0;exact Gt _ _
    .by_cases e1:k=1
     .subst e1;exact Cd _ _
     .obtain⟨_,_,_,g⟩:=h3 k oo oo;exact g
   have hne:¬Cl (plV v l[0]) (plV v l[1]):=fun e=>by
    have:=hr.lt g0 g1 oo;unfold befP Cl at *;omega
   exact fun i j k hi hj hk=>Aea hne (on i hi) (on j hj) (on k hk)
  .intro i j k hi hj hk;unfold inN at hi hj hk;have:i=j:=oo;subst this;exact Aac _ _
 ·rw[if_neg oo,jn_d];have g0:0<l.length:=oo;have g1:1<l.length:=oo;have gn:n0<l.length:=oo;have off:=h4 g0 g1 gn;have hne:¬ Cl (plV v l[0]) (plV v l[1]):=fun e=>by
   have:=hr.lt g0 g1 oo;unfold befP Cl at *;omega
  have hf:Fan v l n0:=by
   refine⟨h2,gn,fun i j k hi hj hk=>?_,off⟩;have on:∀i,Ow l n0 i->crs (plV v l[0]) (plV v l[1]) (plV v i)=0:=fun i hi=>by
    obtain⟨k,hk,hk2,rfl⟩:=hi
    by_cases e0:k=0
    .subst e0;exact Gt _ _
    .by_cases e1:k=1
     .subst e1;exact Cd _ _
     .obtain⟨_,_,_,g⟩:=h3 k oo hk2;exact g
   exact Aea hne (on i hi) (on j hj) (on k hk)
  obtain⟨s1,s2⟩:=hf.swept hv hn hr;rw[Ben hv hn hr hf,Ad];dsimp only;rw[Au oo,gd_t ⟨oo,oo⟩];have ht:subl l (((n0+1:Nat):Int)) (l.length:Int)=l.drop (n0+1):=by unfold subl;simp
  rw[ht];have:=Aw (B:=Kd l (n0:Int)) (fun s=>l.length-s.2.2.2.2.toNat) (fun s=>∃(k:Nat) (m:Mp),n0+1<=k/\k<=l.length/\s=(v,m,F,l.drop (n0+1),((k-(n0+1):Nat):Int))/\Ajx v l k m/\m≠[])
   (fun t=>∃m:Mp,t=⟨v,m,F⟩/\Ajx v l l.length m/\m≠[]) (fun s hs=>by
    obtain⟨k,m,k1,k2,rfl,k3,k4⟩:=hs;unfold Kd;dsimp only;rw[Au oo]
    by_cases c2:k<l.length
    ·left;obtain⟨m',e1,e2,e3⟩:=k3.step hv hn hr (F:=F) c2;have hi:idx (l.drop (n0+1)) (((k-(n0+1):Nat):Int))=some l[k]:=by
      rw[Am (by rw[List.length_drop];omega),List.getElem_drop];congr 2;omega
     rw[if_pos (by simp;omega),jn_d,hi,Ad];refine⟨(v,m',F,l.drop (n0+1),((k+1-(n0+1):Nat):Int)),?_,⟨k+1,m',oo,oo,rfl,e2,e3 k4⟩,by dsimp only;omega⟩;obtain⟨r,hr1,hr2⟩:=Bh e1;obtain⟨t,ht1,ht2⟩:=Bh hr2;cases ht2
     rw[hr1,Ad,ht1,Ad,Au oo,show k-(n0+1)+1=k+1-(n0+1) by omega]
    .right;rw[if_neg (by simp;omega)];have:k=l.length:=oo;subst this;exact⟨_,rfl,m,rfl,k3,k4⟩) (v,putAll [] (l.getD n0 0) (fanL v l n0 (n0-1)),F,l.drop (n0+1),0) ⟨n0+1,_,oo,oo,s_,s1,s2⟩
  obtain⟨t,e1,m,rfl,e2,e3⟩:=this;rw[e1,Ad];refine⟨m,rfl,.inr ⟨fun hfl=>?_,e2.map,e2.tri,fun i j k hk hnn d hd=>?_,e3⟩⟩
  .exact off (hfl _ _ _ (hr.val.1 (List.getElem_mem g0)) (hr.val.1 (List.getElem_mem g1)) (hr.val.1 (List.getElem_mem gn)))
  .obtain⟨j',hj',rfl⟩:=List.getElem_of_mem (hr.val.2 hd);exact e2.cov _ _ _ hk hnn _ ⟨j',hj',hj',rfl⟩
def Del(v:List Ae)(a b c:Int):Prop:=inN v.length a/\inN v.length b/\inN v.length c/\0<crs (plV v a) (plV v b) (plV v c)/\∀d,inN v.length d->d≠a->d≠b->d≠c->DH (plV v) (hV v) a b c d<0
theorem Del.rot{a b c:Int}(h:Del v a b c):Del v b c a:=by
 obtain⟨h1,h2,h3,h4,h5⟩:=h;exact⟨h2,h3,h1,by rw[Bq];exact h4,fun d hd n1 n2 n3=>by rw[Adt];exact h5 d hd n3 n1 n2⟩
structure Vh(v:List Ae)(T:List Ag):Prop where
 ord:T.Pairwise fun x y=>¬cmp3 y x<0
 nd:T.Nodup
 mem:∀t,t∈T↔t.a0<t.a1/\t.a0<t.a2/\Del v t.a0 t.a1 t.a2
theorem Vh.unique{T T':List Ag}(h:Vh v T)(h':Vh v T'):T=T' :=
 Acd tot3 (fun _ _=>trivial) h.ord h'.ord ((List.perm_ext_iff_of_nodup h.nd h'.nd).2 fun t=>(h.mem t).trans (h'.mem t).symm)
theorem Aox(hv:Ie v){m:Mp}(hm:MapN v.length m)(ht:Tri (plV v) (inN v.length) (apM m))(hc:Cov (plV v) (inN v.length) (apM m))(hl:∀ i j k l,apM m i j=some k->apM m j i=some l->DH (plV v) (hV v) i j k l<0)(hne:m≠[])(a b c:Int):
  apM m a b=some c↔Del v a b c:=by
 have mem:∀a b c:Int,(a,b,c)∈(m.map fun q=>(q.1.a0,q.1.a1,q.2))↔apM m a b=some c:=fun a b c=>by
  rw[List.mem_map];constructor
  .rintro⟨⟨⟨x,y⟩,z⟩,hq,e⟩;cases e
   exact Th hm.ok hq
  .intro h;exact⟨(⟨a,b⟩,c),Gu h,rfl⟩
 have hX:Aiq (plV v) (m.map fun q=>(q.1.a0,q.1.a1,q.2)):=⟨fun a b c h=>(mem _ _ _).2 (ht.rot _ _ _ ((mem _ _ _).1 h)),fun a b c h=>(ht.ccw _ _ _ ((mem _ _ _).1 h)).2.2.2⟩;have twin:∀a b c,apM m a b=some c->∀d,inN v.length d->crs (plV v a) (plV v b) (plV v d)<0->∃e,apM m b a=some e:=fun a b c h d hd hlt=>by
  rcases e:apM m b a with _|x
  .have:=hc a b c h e d hd;omega
  .exact⟨x,rfl⟩
 have G:=global (H:=hV v) (V:=inN v.length) hX (fun a b c h d hd n1 n2 n3=>ht.emp _ _ _ ((mem _ _ _).1 h) d hd n1 n2 n3) (fun a b c h d hd hlt=>by
  obtain⟨e,he⟩:=twin a b c ((mem _ _ _).1 h) d hd hlt;exact⟨e,(mem _ _ _).2 he,hl _ _ _ _ ((mem _ _ _).1 h) he⟩)
 constructor
 .intro h;obtain⟨k1,k2,k3,k4⟩:=ht.ccw _ _ _ h;exact⟨k1,k2,k3,k4,G a b c ((mem _ _ _).2 h)⟩
 .rintro⟨k1,k2,k3,k4,k5⟩;refine (mem _ _ _).1 (Air (H:=hV v) (V:=inN v.length) hX (fun a b c h=>?_) G (fun a b c h d hd hlt=>?_) ?_ k1 k2 k3 k4 k5)
  .obtain⟨q1,q2,q3,_⟩:=ht.ccw _ _ _ ((mem _ _ _).1 h);exact⟨q1,q2,q3⟩
  .obtain⟨e,he⟩:=twin a b c ((mem _ _ _).1 h) d hd hlt;exact⟨e,(mem _ _ _).2 he⟩
  .intro e;rw[List.map_eq_nil_iff] at e;exact hne e
theorem Bbn{m:Mp}(hm:MapN v.length m)(h:∀a b c,apM m a b=some c↔Del v a b c):Vh v (Bi cmp3 (m.flatMap triF)):=by
 have memt:∀t:Ag,t∈m.flatMap triF↔t.a0<t.a1/\t.a0<t.a2/\Del v t.a0 t.a1 t.a2:=fun t=>by
  rw[List.mem_flatMap];constructor
  .rintro⟨⟨⟨a,b⟩,c⟩,hq,ht⟩;unfold triF at ht;split at ht
   .rename_i hlt;rw[List.mem_singleton] at ht;subst ht;exact⟨hlt.1,hlt.2,(h _ _ _).1 (Th hm.ok hq)⟩
   .cases ht
  .rintro⟨h1,h2,h3⟩;refine⟨(⟨t.a0,t.a1⟩,t.a2),Gu ((h _ _ _).2 h3),?_⟩;unfold triF;rw[if_pos ⟨h1,h2⟩];exact List.mem_singleton.2 rfl
 refine⟨Nw tot3 (fun _ _=>trivial),(Ej _ _).nodup_iff.2 ?_,fun t=>by rw[Ga,memt]⟩;have:∀l:Mp,Cv l->(l.flatMap triF).Nodup:=by
  intro l
  induction l with
  |nil=>intro _;exact List.Pairwise.nil
  |cons q r ih=>
   intro hl;obtain⟨h1,h2⟩:=List.pairwise_cons.1 hl;rw[List.flatMap_cons,List.nodup_append];refine⟨?_,ih h2,fun x hx y hy e=>?_⟩
   .unfold triF;split
    .simp
    .exact List.Pairwise.nil
   ·subst e;obtain⟨q',hq',hy⟩:=List.mem_flatMap.1 hy;have key:∀ q:Ac × Int,x∈triF q->q.1=⟨x.a0,x.a1⟩:=fun q hq=>by
     unfold triF at hq;split at hq
     .rw[List.mem_singleton] at hq;subst hq;rfl
     .cases hq
    exact h1 q' hq' (by rw[key _ hx,key _ hy])
 exact this m hm.ok
end
section
theorem Ae3{β γ:Type}(N:Nat)(hN:N<=1000000000)(p:Nat->Bool)(B:Int->Option (Sum Int (Sum β γ)))(u:β)(w:γ)(h1:∀k:Nat,k<N->B (k:Int)=if p k=true then some (.inr (.inr w)) else some (.inl ((k+1:Nat):Int)))(h2:B (N:Int)=some (.inr (.inl u))):lfix B 0=some (if (List.range N).any p then .inr w else .inl u):=by
 have key:∀j k,j+k=N->lfix B (k:Int)=some (if ((List.range N).drop k).any p then .inr w else .inl u):=by
  intro j
  induction j with
  |zero=>
   intro k hk;rw[Ay,show k=N by omega,h2,List.drop_eq_nil_of_le s_];rfl
  |succ j ih=>
   intro k hk;rw[Ay,h1 k oo,List.drop_eq_getElem_cons (by simp;omega),List.any_cons,List.getElem_range]
   by_cases c:p k=true
   .rw[if_pos c,c];rfl
   .rw[if_neg c];rw[Bool.not_eq_true] at c;rw[c,Bool.false_or];exact ih (k+1) oo
 have:=key N 0 oo
 rwa [List.drop_zero] at this
def pP(x:Ae):Ab:=⟨x.X,x.Y⟩
def Mc(x:Ae):Prop:=okP (pP x)/\-268435456<=x.Z.Lo/\x.Z.Lo<=x.Z.Hi/\x.Z.Hi<=268435456
instance(x:Ae):Decidable (Mc x):=by unfold Mc;infer_instance
theorem Yh{v:List Ae}{k:Nat}(hk:k<v.length):plV v (k:Int)=pP v[k]:=by unfold plV;rw[Am hk];rfl
theorem Ame(x:Ae):Zo x=some (decide (Mc x)):=by
 unfold Zo Oj;rw[Ad,Ad,Ad,Ar5,Ad,jn_d];unfold Yp
 by_cases h:okP (⟨x.X,x.Y⟩:Ab)
 .simp only[h,and_self,if_true];rw[jn_d]
  by_cases h1:-1152921504606846976<=x.Z.Lo
  .rw[if_pos h1]
   by_cases h2:x.Z.Lo<=x.Z.Hi
   .rw[if_pos h2]
    by_cases h3:x.Z.Hi<=1152921504606846976
    .rw[decide_eq_true h3,Ad,if_pos rfl]
     by_cases h4:-268435456<=x.Z.Lo
     .rw[if_pos h4];congr 1;rw[Bool.eq_iff_iff,decide_eq_true_eq,decide_eq_true_eq];unfold Mc pP;exact⟨fun g=>⟨h,h4,h2,g⟩,fun g=>g.2.2.2⟩
     .rw[if_neg h4,decide_eq_false (fun g:Mc x=>h4 g.2.1)]
    .rw[decide_eq_false h3,Ad,if_neg s_,decide_eq_false (fun g:Mc x=>h3 (by have:=g.2.2.2;omega))]
   .rw[if_neg h2,Ad,if_neg s_,decide_eq_false (fun g:Mc x=>h2 g.2.2.1)]
  .rw[if_neg h1,Ad,if_neg s_,decide_eq_false (fun g:Mc x=>h1 (by have:=g.2.1;omega))]
 .simp only[h,false_and,if_false];rw[if_neg dD,decide_eq_false (fun g:Mc x=>h g.1)]
def Vs(v:List Ae):Int:=if 1024<v.length then 2 else if ¬(∀x∈v,Mc x) then 60 else if ¬Eo v then 61 else 0
theorem Agp{v:List Ae}(h:Vs v=0):v.length<=1024/\(∀x∈v,Mc x)/\Ie v:=by
 unfold Vs at h;split at h
 .omega
 .split at h
  .omega
  .split at h
   .omega
   .rename_i h1 h2 h3;have h2:=Classical.not_not.1 h2;have h3:=Classical.not_not.1 h3;refine⟨oo,h2,fun i hi=>?_,fun i j hi hj hs=>?_⟩
    .obtain⟨k,hk,rfl,_⟩:=Lq (v:=v) (i:=i) hi;rw[Yh hk];exact (h2 _ (List.getElem_mem hk)).1
    .obtain⟨a,ha,rfl,_⟩:=Lq (v:=v) (i:=i) hi;obtain⟨b,hb,rfl,_⟩:=Lq (v:=v) (i:=j) hj;rw[Yh ha,Yh hb] at hs;unfold Eo at h3;rw[List.pairwise_iff_getElem] at h3;rcases Nat.lt_trichotomy a b with c|c|c
     .exact absurd hs (h3 a b ha hb c)
     .rw[c]
     .exact absurd ⟨hs.1.symm,hs.2.symm⟩ (h3 b a hb ha c)
theorem Ahe{v:List Ae}:((List.range v.length).any fun k=>!decide (Mc (v.getD k ⟨0,0,⟨0,0⟩⟩)))=true↔¬ ∀x∈v,Mc x:=by
 rw[List.any_eq_true];constructor
 .rintro⟨k,hk,h⟩ hall;rw[List.mem_range] at hk;simp[hk] at h;exact h (hall _ (List.getElem_mem hk))
 .intro h;apply Classical.byContradiction;intro hno;apply h;intro x hx;obtain⟨k,hk,rfl⟩:=List.getElem_of_mem hx;apply Classical.byContradiction;intro hb;exact hno ⟨k,List.mem_range.2 hk,by simp[hk,hb]⟩
theorem Amf{v:List Ae}:(∃i j,∃(hi:i<v.length) (hj:j<v.length),j<i/\Aaa v[i] v[j])↔¬Eo v:=by
 unfold Eo;rw[List.pairwise_iff_getElem];constructor
 .rintro⟨i,j,hi,hj,hji,hs⟩ h;exact h j i hj hi hji ⟨hs.1.symm,hs.2.symm⟩
 .intro h;apply Classical.byContradiction;intro hno;apply h;intro i j hi hj hij hs;exact hno ⟨j,i,hj,hi,hij,hs.1.symm,hs.2.symm⟩
theorem Bee{v:List Ae}(c:v.length<=1024):lfix (Kv v) 0=some (if ((List.range v.length).any fun k=>!decide (Mc (v.getD k ⟨0,0,⟨0,0⟩⟩)))=true then .inr 60 else .inl ()):=by
 refine Ae3 v.length oo (fun k=>!decide (Mc (v.getD k ⟨0,0,⟨0,0⟩⟩))) (Kv v) () 60 (fun k hk=>?_) ?_
 .unfold Kv;rw[if_pos oo,Am hk,Ad,Ame,Ad,Au oo];have e:v.getD k ⟨0,0,⟨0,0⟩⟩=v[k]:=by simp[hk]
  rw[e]
  by_cases g:Mc v[k]
  .simp[g]
  .simp[g]
 .unfold Kv;rw[if_neg oo]
theorem Agq(v:List Ae):Tb v=some (Vs v):=by
 unfold Tb Vs
 by_cases c:1024<v.length
 .rw[if_pos oo,if_pos c]
 .rw[if_neg oo,if_neg c,jn_d];rw[Bee oo,Ad]
  .by_cases h:∀x∈v,Mc x
   ·rw[if_neg (fun g=>Ahe.1 g h),if_neg (not_not_intro h)];dsimp only;rw[jn_d];have hL:=Aw (B:=Rg v) (fun s=>v.length-s.2.toNat) (fun s=>∃ k:Nat,k<=v.length/\s.2=(k:Int)/\Cv s.1/\s.1.length<=k/\(∀ x,(mget s.1 x).getD false=true↔∃ (j:Nat) (hj:j<v.length),j<k/\pP v[j]=x)/\∀ i j (hi:i<v.length) (hj:j<v.length),i<k->j<i->¬ Aaa v[i] v[j])
     (fun t=>t=if ¬Eo v then .inr 61 else .inl ()) (fun s hs=>by
      obtain⟨m,k⟩:=s;obtain⟨k,h1,rfl,h2,h3,h4,h5⟩:=hs;simp only at h1 h2 h3 h4;unfold Rg;dsimp only
      by_cases hk:k<v.length
      ·have hg:=(h _ (List.getElem_mem hk)).1;have hr:(-9223372036854775808<=v[k].X/\v[k].X<=9223372036854775807)/\-9223372036854775808<=v[k].Y/\v[k].Y<=9223372036854775807:=by
        unfold okP pP at hg;simp only at hg;omega
       unfold Oj;rw[if_pos oo,Am hk,Ad,Ad,gd_t hr,Ad];have e4:=h4 (⟨v[k].X,v[k].Y⟩:Ab)
       by_cases hd:(mget m (⟨v[k].X,v[k].Y⟩:Ab)).getD false=true
       .right;rw[if_pos hd];obtain⟨j,hj,hjk,he⟩:=e4.1 hd;refine⟨_,rfl,?_⟩;rw[if_pos];refine Amf.1 ⟨k,j,hk,hj,hjk,?_⟩;unfold pP at he;simp at he;exact⟨he.1.symm,he.2.symm⟩
       .left;rw[if_neg hd,Ad,gd_t hr,gd_t oo,Au oo];refine⟨_,rfl,⟨k+1,hk,rfl,h2.put _ _,?_,fun x=>?_,fun i j hi hj hik hji=>?_⟩,by dsimp only;omega⟩
        .dsimp only;unfold mput mdel;rw[List.length_cons];refine Nat.succ_le_succ (Nat.le_trans (List.length_filter_le _ m) h3)
        .dsimp only;rw[Lx h2]
         by_cases hx:x=⟨v[k].X,v[k].Y⟩
         .rw[if_pos hx];simp only[Option.getD_some,true_iff];exact⟨k,hk,oo,hx.symm⟩
         .rw[if_neg hx,h4];constructor
          .rintro⟨j,hj,h6,h7⟩;exact⟨j,hj,oo,h7⟩
          .rintro⟨j,hj,h6,h7⟩;refine⟨j,hj,?_,h7⟩
           by_cases e:j=k
           .subst e;exact absurd h7.symm hx
           .omega
        .by_cases e:i=k
         .subst e;intro hs;exact hd (e4.2 ⟨j,hj,hji,by unfold pP;rw[hs.1,hs.2]⟩)
         .exact h5 i j hi hj oo hji
      .right;rw[if_neg oo];refine⟨_,rfl,?_⟩;rw[if_neg];intro hno;obtain⟨i,j,hi,hj,hji,hs⟩:=Amf.2 hno;exact h5 i j hi hj oo hji hs) ([],0) ⟨0,oo,rfl,List.Pairwise.nil,s_,fun x=>by simp[mget],fun i j hi hj h1=>oo⟩
    obtain⟨t,h1,rfl⟩:=hL;rw[h1,Ad]
    by_cases hd:Eo v
    .rw[if_neg (not_not_intro hd),if_neg (not_not_intro hd)]
    .rw[if_pos hd,if_pos hd]
   .rw[if_pos (Ahe.2 h),if_pos h]
def Md(p0:Ab)(p1:Ab)(p2:Ab):Option Bool :=
 jn (fun (s2:Bool)=>
 some s2)
 (fun j2=>bnd (Ds p0 p1 p2) fun r4=>
 if r4=0 then (if (min p0.X p1.X)<=p2.X then (if p2.X<=(max p0.X p1.X) then (if (min p0.Y p1.Y)<=p2.Y then (j2 (decide (p2.Y<=(max p0.Y p1.Y))))
 else (j2 false))
 else (j2 false))
 else (j2 false))
 else (j2 false))
def Dw(p0:List Ae):Int->Option (Sum Int (Sum Unit Int)):=fun s0=>
 if s0<(p0.length:Int) then (bnd (idx p0 s0) fun x0=>
 bnd (Gl x0) fun r0=>
 if r0=true then (some (.inl (w64 (s0+1))))
 else (some (.inr (.inr 60))))
 else (some (.inr (.inl ())))
def Fs(s0:Int)(p0:List Ae):Int->Option (Sum Int (Sum Unit Int)):=fun s1=>
 if s1<s0 then (jn (fun (s2:Bool)=>
 if s2=true then (some (.inr (.inr 61)))
 else (some (.inl (w64 (s1+1)))))
 (fun j0=>bnd (idx p0 s0) fun x0=>
 bnd (idx p0 s1) fun x1=>
 if x0.X=x1.X then (bnd (idx p0 s0) fun x2=>
 bnd (idx p0 s1) fun x3=>
 j0 (decide (x2.Y=x3.Y)))
 else (j0 false)))
 else (some (.inr (.inl ())))
def Dh(p0:List Ae):Int->Option (Sum Int (Sum Unit Int)):=fun s0=>
 if s0<(p0.length:Int) then (jn (fun (s1:Unit)=>
 some (.inl (w64 (s0+1))))
 (fun j0=>bnd (lfix (Fs s0 p0) 0) fun t0=>
 (match t0 with
 |(.inl z0)=>j0 z0
 |(.inr z0)=>some (.inr (.inr z0))
 )))
 else (some (.inr (.inl ())))
def Jz(p0:List Ae):Option Int :=
 if 1024<(p0.length:Int) then (some 2)
 else (jn (fun (s5:Unit)=>
 jn (fun (s0:Unit)=>
 some 0)
 (fun j0=>bnd (lfix (Dh p0) 0) fun t0=>
 (match t0 with
 |(.inl z0)=>j0 z0
 |(.inr z0)=>some z0
 )))
 (fun j5=>bnd (lfix (Dw p0) 0) fun t1=>
 (match t1 with
 |(.inl z1)=>j5 z1
 |(.inr z1)=>some z1
 )))
def Om(p0:List Ae):(Int×Int)->Option (Sum (Int×Int) Int):=fun s0=>
 if s0.2<(p0.length:Int) then (jn (fun (s1:Int)=>
 some (.inl (s1,w64 (s0.2+1))))
 (fun j0=>bnd (idx p0 s0.2) fun x0=>
 bnd (idx p0 s0.1) fun x1=>
 bnd (As x0) fun r0=>
 bnd (As x1) fun r1=>
 bnd (Jd r0 r1) fun r2=>
 if r2=true then (j0 s0.2)
 else (j0 s0.1)))
 else (some (.inr s0.1))
def Po(p0:List Ae):Option Int :=
 jn (fun (s3:Int)=>
 some s3)
 (fun j3=>bnd (lfix (Om p0) (0,0)) fun t0=>
 j3 t0)
def Qa(p0:List Ae)(p1:Int)(p2:Bool):(Int×Int)->Option (Sum (Int×Int) Int):=fun s0=>
 if s0.2<(p0.length:Int) then (jn (fun (s1:Int)=>
 some (.inl (s1,w64 (s0.2+1))))
 (fun j0=>if s0.2=p1 then (j0 s0.1)
 else (if s0.1<0 then (j0 s0.2)
 else (bnd (idx p0 p1) fun x0=>
 bnd (idx p0 s0.1) fun x1=>
 bnd (idx p0 s0.2) fun x2=>
 bnd (As x0) fun r0=>
 bnd (As x1) fun r1=>
 bnd (As x2) fun r2=>
 bnd (Ds r0 r1 r2) fun r3=>
 jn (fun (s2:Bool)=>
 if s2=true then (j0 s0.2)
 else (j0 s0.1))
 (fun j1=>if r3<0 then (j1 true)
 else (if r3=0 then (bnd (Md r0 r1 r2) fun r4=>
 j1 (!(r4==p2)))
 else (j1 false)))))))
 else (some (.inr s0.1))
def Qn(p0:List Ae)(p1:Int)(p2:Bool):Option Int :=
 jn (fun (s3:Int)=>
 some s3)
 (fun j3=>bnd (lfix (Qa p0 p1 p2) (-1,0)) fun t0=>
 j3 t0)
def Qb(p0:List Ae):Int->Option (Sum Int (Sum Unit Bool)):=fun s0=>
 if s0<(p0.length:Int) then (bnd (idx p0 0) fun x0=>
 bnd (idx p0 1) fun x1=>
 bnd (idx p0 s0) fun x2=>
 bnd (As x0) fun r0=>
 bnd (As x1) fun r1=>
 bnd (As x2) fun r2=>
 bnd (Ds r0 r1 r2) fun r3=>
 if r3=0 then (some (.inl (w64 (s0+1))))
 else (some (.inr (.inr false))))
 else (some (.inr (.inl ())))
def Qo(p0:List Ae):Option Bool :=
 jn (fun (s2:Unit)=>
 some true)
 (fun j2=>bnd (lfix (Qb p0) 2) fun t0=>
 (match t0 with
 |(.inl z0)=>j2 z0
 |(.inr z0)=>some z0
 ))
instance(p0:Ab)(p1:Ab)(p2:Ab):Con (Md p0 p1 p2) prog 242 (fun _ vs=>vs=[.agg #[iq p0.X,iq p0.Y],.agg #[iq p1.X,iq p1.Y],.agg #[iq p2.X,iq p2.Y]]) (fun _ r=>fun v Ln=>v=.bool r/\Ln=[]/\True):=⟨by
 rintro _ _ r rfl hx w hK;unfold Md at hx;refine CtS ntmps242 results242 ?_;refine pq ?_;intros;rename_i hx
 refine pA ?_;intros;rename_i hx
 apply Jr (γ:=Unit) hx [] (fun s2 y2 f=>(6,.bool s2)::f) [999] (fun s2 y2 l=>l);exact kk
 .exact aI
 .refine pI ?_;intros;rename_i hx
  refine Cq1 (s:=12) hx rfl ?_ ?_
  .exact aI
  .exact aI⟩
instance(p0:List Ae):Con (Jz p0) prog 193 (fun K vs=>∃U0 E0,vs=[.slice U0 p0.length E0]/\Has K U0 p0.length E0 4 Al p0/\True) (fun _ r=>fun v Ln=>v=iq r/\Ln=[]/\True):=⟨by
 rintro K _ r ⟨U0,E0,rfl,ha0,-⟩ hx w hK;replace ha0:=ha0.lo hK;unfold Jz at hx;have:=dl 15 [0,0,0,0,1,0,0,0,0,1,0,0,0,0,0,0,1,0,0,0,0,1,0,0] [0,1,2,3,4,5,6,7,8,9,10,11,12,13,14,15,16,17,18,19,20,21,22,23];refine CtS ntmps193 results193 ?_;refine pq ?_;intros;rename_i hx
 refine Cq1 (s:=8) hx rfl ?_ ?_
 .exact aI
 .refine pI ?_;intros;rename_i hx
  apply Jr (γ:=Unit) hx [0] (fun s5 y5 f=>f) [999] (fun s5 y5 l=>l);exact kk
  .intro s5 y5 hx;apply Jr (γ:=Unit) hx [] (fun s19 y19 f=>f) [999] (fun s19 y19 l=>l);exact kk
   .exact aI
   .refine pI ?_;intros;rename_i hx
    apply Lr (γ:=Unit) hx [0,22] (fun s166 y166 f=>(23,iq s166)::f) [999] (fun s166 y166 l=>l) ();exact kk;exact sk;intro s166 y166 x166 hx _;unfold Dh at hx;refine pq ?_;intros;rename_i hx
    refine Cq1 (s:=24) hx rfl ?_ ?_
    .refine pI ?_;intros;rename_i hx
     apply Jr (γ:=Unit) hx [0,22,23] (fun s38 y38 f=>f) [999] (fun s38 y38 l=>l);exact kk
     .exact aI
     .refine pI ?_;intros;rename_i hx
      apply Lr (γ:=Unit) hx [0,4,22,23] (fun s226 y226 f=>(5,iq s226)::f) [999] (fun s226 y226 l=>l) ();exact kk;exact sk;intro s226 y226 x226 hx _;unfold Fs at hx;exact au
    .exact aI
  .refine pI ?_;intros;rename_i hx
   apply Lr (γ:=Unit) hx [0,10] (fun s25 y25 f=>(11,iq s25)::f) [999] (fun s25 y25 l=>l) ();exact kk;exact sk;intro s25 y25 x25 hx _;unfold Dw at hx;exact au⟩
instance(p0:List Ae):Con (Po p0) prog 197 (fun K vs=>∃U0 E0,vs=[.slice U0 p0.length E0]/\Has K U0 p0.length E0 4 Al p0/\True) (fun _ r=>fun v Ln=>v=iq r/\Ln=[]/\True):=⟨by
 rintro K _ r ⟨U0,E0,rfl,ha0,-⟩ hx w hK;replace ha0:=ha0.lo hK;unfold Po at hx;have:=dl 5 [0,0,0,1,2,0,0,0,1,2,2] [0,1,2,3,5,6,7,8,4,9,10];refine CtS ntmps197 results197 ?_;refine pq ?_;intros;rename_i hx
 refine pA ?_;intros;rename_i hx
 refine pA ?_;intros;rename_i hx
 apply Jr (γ:=Unit) hx [] (fun s3 y3 f=>(3,iq s3)::f) [999] (fun s3 y3 l=>l);exact kk
 .exact aI
 .refine pI ?_;intros;rename_i hx
  apply Lr (γ:=Unit) hx [0,6] (fun s0 y0 f=>(3,iq s0.1)::(7,iq s0.2)::f) [999] (fun s0 y0 l=>l) ();exact kk;exact sk;intro s0 y0 x0 hx _;unfold Om at hx;exact au⟩
instance(p0:List Ae)(p1:Int)(p2:Bool):Con (Qn p0 p1 p2) prog 198 (fun K vs=>∃U0 E0,vs=[.slice U0 p0.length E0,iq p1,.bool p2]/\Has K U0 p0.length E0 4 Al p0/\True) (fun _ r=>fun v Ln=>v=iq r/\Ln=[]/\True):=⟨by
 rintro K _ r ⟨U0,E0,rfl,ha0,-⟩ hx w hK;replace ha0:=ha0.lo hK;unfold Qn at hx;have:=dl 8 [0,0,0,1,2,0,0,0,1,2,0,0,0,1,2,4,4,4,3,3,3] [0,1,2,3,5,6,7,8,10,11,12,13,4,9,14,15,16,17,18,19,20] [15,16,17];refine CtS ntmps198 results198 ?_;refine pq ?_;intros;rename_i hx
 refine pA ?_;intros;rename_i hx
 refine pA ?_;intros;rename_i hx
 apply Jr (γ:=Unit) hx [] (fun s3 y3 f=>(7,iq s3)::f) [999] (fun s3 y3 l=>l);exact kk
 .exact aI
 .refine pI ?_;intros;rename_i hx
  apply Lr (γ:=Unit) hx [0,1,2,14] (fun s0 y0 f=>(7,iq s0.1)::(15,iq s0.2)::f) [999] (fun s0 y0 l=>l) ();exact kk;exact sk;intro s0 y0 x0 hx _;unfold Qa at hx;refine pq ?_;intros;rename_i hx
  refine Cq1 (s:=16) hx rfl ?_ ?_
  .refine pI ?_;intros;rename_i hx
   apply Jr (γ:=Unit) hx [0,1,2,14,15] (fun s1 y1 f=>(7,iq s1)::f) [999] (fun s1 y1 l=>l);exact kk
   .exact aI
   .refine pI ?_;intros;rename_i hx
    refine Cq1 (s:=20) hx rfl ?_ ?_
    .exact aI
    .refine pI ?_;intros;rename_i hx
     refine Cq1 (s:=22) hx rfl ?_ ?_
     .exact aI
     .refine pI ?_;intros;rename_i hx
      apply Jr (γ:=Unit) hx [0,1,2,7,8,14,15] (fun s2 y2 f=>(56,.bool s2)::f) [999] (fun s2 y2 l=>l);exact kk
      .exact aI
      .exact aI
  .exact aI⟩
instance(p0:List Ae):Con (Qo p0) prog 196 (fun K vs=>∃U0 E0,vs=[.slice U0 p0.length E0]/\Has K U0 p0.length E0 4 Al p0/\True) (fun _ r=>fun v Ln=>v=.bool r/\Ln=[]/\True):=⟨by
 rintro K _ r ⟨U0,E0,rfl,ha0,-⟩ hx w hK;replace ha0:=ha0.lo hK;unfold Qo at hx;have:=dl 4 [0,0,1,2,0,0,1,2,0,0,0,1,2,2,0] [0,1,2,4,5,6,8,9,10,11,3,7,12,13,14];refine CtS ntmps196 results196 ?_;refine pq ?_;intros;rename_i hx
 refine pA ?_;intros;rename_i hx
 apply Jr (γ:=Unit) hx [] (fun s2 y2 f=>f) [999] (fun s2 y2 l=>l);exact kk
 .exact aI
 .refine pI ?_;intros;rename_i hx
  apply Lr (γ:=Unit) hx [0] (fun s0 y0 f=>(3,iq s0)::f) [999] (fun s0 y0 l=>l) ();exact kk;exact sk;intro s0 y0 x0 hx _;unfold Qb at hx;exact au⟩
theorem Agx(x:Ae):Gl x=some (decide (Mc x)):=by
 unfold Gl As;rw[jn_d,Ad,Asc,Ad]
 by_cases h:okP (⟨x.X,x.Y⟩:Ab)
 .rw[decide_eq_true h,if_pos rfl]
  by_cases h1:-268435456<=x.Z.Lo
  .rw[if_pos h1]
   by_cases h2:x.Z.Lo<=x.Z.Hi
   .rw[if_pos h2];congr 1;rw[Bool.eq_iff_iff,decide_eq_true_eq,decide_eq_true_eq];exact⟨fun g=>⟨h,h1,h2,g⟩,fun g=>g.2.2.2⟩
   .rw[if_neg h2,decide_eq_false (fun g:Mc x=>h2 g.2.2.1)]
  .rw[if_neg h1,decide_eq_false (fun g:Mc x=>h1 g.2.1)]
 .rw[decide_eq_false h,if_neg s_,decide_eq_false (fun g:Mc x=>h g.1)]
theorem Bbo{v:List Ae}(c:v.length<=1024):lfix (Dw v) 0=some (if ((List.range v.length).any fun k=>!decide (Mc (v.getD k ⟨0,0,⟨0,0⟩⟩)))=true then .inr 60 else .inl ()):=by
 refine Ae3 v.length oo (fun k=>!decide (Mc (v.getD k ⟨0,0,⟨0,0⟩⟩))) (Dw v) () 60 (fun k hk=>?_) ?_
 .unfold Dw;rw[if_pos oo,Am hk,Ad,Agx,Ad,Au oo];have e:v.getD k ⟨0,0,⟨0,0⟩⟩=v[k]:=by simp[hk]
  rw[e]
  by_cases g:Mc v[k]
  .simp[g]
  .simp[g]
 .unfold Dw;rw[if_neg oo]
theorem Agy(v:List Ae):Jz v=some (Vs v):=by
 unfold Jz Vs
 by_cases c:1024<v.length
 .rw[if_pos oo,if_pos c]
 .rw[if_neg oo,if_neg c,jn_d];rw[Bbo oo,Ad]
  .by_cases h:∀x∈v,Mc x
   ·rw[if_neg (fun g=>Ahe.1 g h),if_neg (not_not_intro h)];dsimp only;rw[jn_d];have hin:∀ i (hi:i<v.length),lfix (Fs (i:Int) v) 0=some (if (List.range i).any (fun j=>decide (Aaa v[i] (v.getD j ⟨0,0,⟨0,0⟩⟩))) then .inr 61 else .inl ()):=fun i hi=>by
     refine Ae3 i oo _ _ () 61 (fun k hk=>?_) ?_
     .unfold Fs;have e:v.getD k ⟨0,0,⟨0,0⟩⟩=v[k]'oo:=by simp[show k<v.length by omega]
      rw[if_pos oo,jn_d,Am hi,Ad,Am (show k<v.length by omega),Ad,Au oo,e];unfold Aaa
      by_cases g1:v[i].X=v[k].X
      .rw[if_pos g1,Ad,Ad]
       by_cases g2:v[i].Y=v[k].Y
       .simp[g1,g2]
       .simp[g2]
      .rw[if_neg g1];simp[g1]
     .unfold Fs;rw[if_neg oo]
    have hout:lfix (Dh v) 0=some (if ((List.range v.length).any fun i=>(List.range i).any fun j=>decide (Aaa (v.getD i ⟨0,0,⟨0,0⟩⟩) (v.getD j ⟨0,0,⟨0,0⟩⟩)))=true then .inr 61 else .inl ()):=by
     refine Ae3 v.length oo (fun i=>(List.range i).any fun j=>decide (Aaa (v.getD i ⟨0,0,⟨0,0⟩⟩) (v.getD j ⟨0,0,⟨0,0⟩⟩))) (Dh v) () 61 (fun i hi=>?_) ?_
     .unfold Dh;have e:v.getD i ⟨0,0,⟨0,0⟩⟩=v[i]:=by simp[hi]
      rw[if_pos oo,jn_d,hin i hi,Ad,Au oo,e]
      by_cases g:((List.range i).any fun j=>decide (Aaa v[i] (v.getD j ⟨0,0,⟨0,0⟩⟩)))=true
      .rw[if_pos g,if_pos g]
      .rw[if_neg g,if_neg g]
     .unfold Dh;rw[if_neg oo]
    rw[hout,Ad]
    ·have hd:((List.range v.length).any fun i=>(List.range i).any fun j=>decide (Aaa (v.getD i ⟨0,0,⟨0,0⟩⟩) (v.getD j ⟨0,0,⟨0,0⟩⟩)))=true↔¬ Eo v:=by
      rw[<-Amf,List.any_eq_true];constructor
      .rintro⟨i,hi,hj⟩;rw[List.any_eq_true] at hj;obtain⟨j,hj,hs⟩:=hj;rw[List.mem_range] at hi hj;rw[decide_eq_true_eq] at hs;refine⟨i,j,hi,oo,hj,?_⟩;simpa[hi,show j<v.length by omega] using hs
      .rintro⟨i,j,hi,hj,hji,hs⟩;refine⟨i,List.mem_range.2 hi,?_⟩;rw[List.any_eq_true];exact⟨j,List.mem_range.2 hji,by simpa[hi,hj] using hs⟩
     by_cases g:Eo v
     .rw[if_neg (fun q=>hd.1 q g),if_neg (not_not_intro g)]
     .rw[if_pos (hd.2 g),if_pos g]
   .rw[if_pos (Ahe.2 h),if_pos h]
def Box(p q k:Ab):Prop:=min p.X q.X<=k.X/\k.X<=max p.X q.X/\min p.Y q.Y<=k.Y/\k.Y<=max p.Y q.Y
instance(p q k:Ab):Decidable (Box p q k):=by unfold Box;infer_instance
def lexA:Int:=2147483648
theorem Aq1{p q:Ab}(hp:okP p)(hq:okP q):ph lexA 1 p<ph lexA 1 q↔befP p q:=by unfold ph lexA okP befP at *;omega
theorem mid{a b c d:Int}(h0:0<a)(h1:0<=b)(h2:b<=a)(h:a*c=d*b):(0<=d->0<=c/\c<=d)/\(d<=0->d<=c/\c<=0):=by
 constructor
 .intro hd;have e1:=Int.mul_nonneg hd h1;have e2:=Int.mul_nonneg hd (show 0<=a-b by omega);refine⟨Vw h0 oo,?_⟩;have:0<=d-c:=Vw h0 (by rw[Int.mul_sub] at *;rw[Int.mul_comm a d];omega);omega
 .intro hd;have e1:=Int.mul_nonneg (show 0<=-d by omega) h1;have e2:=Int.mul_nonneg (show 0<=-d by omega) (show 0<=a-b by omega);rw[Int.neg_mul] at e1 e2;rw[Int.mul_sub] at e2;constructor
  .have:0<=c-d:=Vw h0 (by rw[Int.mul_sub,Int.mul_comm a d];omega);omega
  .have:0<=-c:=Vw h0 (by rw[Int.mul_neg];omega);omega
theorem Bbp{p q k:Ab}(h:crs p q k=0)(h1:¬befP k p)(h2:¬befP q k):Box p q k:=by
 unfold befP at h1 h2;unfold crs at h;unfold Box
 by_cases e:p.X=q.X
 .omega
 .have:=mid (a:=q.X-p.X) (b:=k.X-p.X) (c:=k.Y-p.Y) (d:=q.Y-p.Y) oo oo oo oo;rcases Int.le_total 0 (q.Y-p.Y) with g|g
  .have:=this.1 g;omega
  .have:=this.2 g;omega
theorem Bef{p q k:Ab}(h:crs p q k=0)(h1:¬befP q p)(h2:befP q k)(h3:¬Cl p q):¬Box p q k:=by
 intro hb;unfold befP Cl at *;unfold Box at hb;unfold crs at h
 by_cases e:p.X=q.X
 .omega
 .have hk:k.X=q.X:=oo;rw[hk] at h;have:(q.X-p.X)*(k.Y-q.Y)=0:=by grind
  rcases Int.mul_eq_zero.1 this with g|g <;> omega
variable {v:List Ae}
theorem Aah(hv:Ie v){i j:Int}(hi:inN v.length i)(hj:inN v.length j)(h:i≠j):¬Cl (plV v i) (plV v j):=fun g=>h (hv.dist i j hi hj g)
theorem Ae4(a b c:Ab):crs a c b = -crs a b c:=by unfold crs;grind
theorem Aoy{p q r:Ab}(hp:okP p)(hq:okP q)(hr:okP r):Md p q r=some (decide (crs p q r=0/\Box p q r)):=by
 unfold Md;rw[jn_d,Aab hp hq hr,Ad];have e:Int.sign (crs p q r)=0↔crs p q r=0:=Int.sign_eq_zero_iff_zero
 by_cases h:crs p q r=0
 .rw[if_pos (e.2 h)];unfold Box
  by_cases h1:min p.X q.X<=r.X
  .rw[if_pos h1]
   by_cases h2:r.X<=max p.X q.X
   .rw[if_pos h2]
    by_cases h3:min p.Y q.Y<=r.Y
    .rw[if_pos h3];simp[h,h1,h2,h3]
    .rw[if_neg h3];simp[h3]
   .rw[if_neg h2];simp[h2]
  .rw[if_neg h1];simp[h1]
 .rw[if_neg (fun g=>h (e.1 g))];simp[h]
theorem Ai7(p q:Ab):Jd p q=some (decide (befP p q)):=by
 unfold Jd befP;rw[jn_d]
 by_cases h1:p.X<q.X
 .rw[if_pos h1];simp[h1]
 .rw[if_neg h1]
  by_cases h2:p.X=q.X
  .rw[if_pos h2];simp[h2]
  .rw[if_neg h2];simp[h1,h2]
theorem Asu(p:Ab):¬befP p p:=by unfold befP;omega
theorem Ae5{p q:Ab}(h:befP p q):¬befP q p:=by unfold befP at *;omega
theorem Ry{i:Int}(hi:inN v.length i):∃x,idx v i=some x/\(⟨x.X,x.Y⟩:Ab)=plV v i:=by
 obtain⟨k,hk,rfl,f⟩:=Lq (v:=v) (i:=i) hi;exact⟨v[k],f,by unfold plV;rw[f]⟩
theorem first_eq(hn:v.length<=1024){f:Int}(hf:inN v.length f)(low:∀k,inN v.length k->k=f\/befP (plV v f) (plV v k)):Po v=some f:=by
 unfold inN at hf;unfold Po;rw[jn_d];have:=Aw (B:=Om v) (fun s=>v.length-s.2.toNat) (fun s=>0<=s.2/\s.2<=(v.length:Int)/\inN v.length s.1/\(f<s.2->s.1=f)) (fun t=>t=f) (fun s hs=>by
  obtain⟨b,k⟩:=s;obtain⟨h1,h2,h3,h4⟩:=hs;simp only at h1 h2 h3 h4;unfold Om;dsimp only
  by_cases hk:k<(v.length:Int)
  .left;obtain⟨x,hx,px⟩:=Ry (v:=v) (i:=k) ⟨h1,hk⟩;obtain⟨y,hy,py⟩:=Ry (v:=v) (i:=b) h3;rw[if_pos hk,jn_d,hx,Ad,hy,Ad];unfold As;rw[Ad,Ad,px,py,Ai7,Ad,Aq oo oo]
   by_cases c:befP (plV v k) (plV v b)
   .rw[if_pos (decide_eq_true c)];refine⟨_,rfl,⟨by dsimp only;omega,by dsimp only;omega,⟨h1,hk⟩,fun g=>?_⟩,by dsimp only;omega⟩;dsimp only at g⊢
    by_cases e:f<k
    .rw[h4 e] at c;rcases low k ⟨h1,hk⟩ with e2|e2
     .exact e2
     .exact absurd c (Ae5 e2)
    .omega
   .rw[if_neg (by simpa using c)];refine⟨_,rfl,⟨by dsimp only;omega,by dsimp only;omega,h3,fun g=>?_⟩,by dsimp only;omega⟩;dsimp only at g⊢
    by_cases e:f<k
    .exact h4 e
    .have:k=f:=oo;rcases low b h3 with e2|e2
     .exact e2
     .rw[this] at c;exact absurd e2 c
  .right;rw[if_neg hk];exact⟨_,rfl,h4 oo⟩) (0,0) ⟨s_,s_,⟨s_,by simp only;omega⟩,fun g=>by simp only at g;omega⟩
 obtain⟨t,ht,rfl⟩:=this;rw[ht,Ad]
theorem Bbq(hv:Ie v)(hn:v.length<=1024):∃b,Qo v=some b/\(b=true↔∀k,2<=k->inN v.length k->crs (plV v 0) (plV v 1) (plV v k)=0):=by
 unfold Qo;rw[jn_d];have:=Aw (B:=Qb v) (fun s=>v.length-s.toNat) (fun s=>2<=s/\∀k,2<=k->k<s->inN v.length k->crs (plV v 0) (plV v 1) (plV v k)=0)
  (fun t=>(t=.inl ()/\∀k,2<=k->inN v.length k->crs (plV v 0) (plV v 1) (plV v k)=0)\/(t=.inr false/\¬ ∀k,2<=k->inN v.length k->crs (plV v 0) (plV v 1) (plV v k)=0)) (fun s hs=>by
  obtain⟨h1,h2⟩:=hs;unfold Qb
  by_cases hk:s<(v.length:Int)
  .have hs':inN v.length s:=⟨oo,hk⟩;have h0':inN v.length 0:=⟨oo,oo⟩;have h1':inN v.length 1:=⟨oo,oo⟩;obtain⟨x,hx,px⟩:=Ry (v:=v) h0';obtain⟨y,hy,py⟩:=Ry (v:=v) h1';obtain⟨z,hz,pz⟩:=Ry (v:=v) hs';rw[if_pos hk,hx,Ad,hy,Ad,hz,Ad];unfold As;rw[Ad,Ad,Ad,px,py,pz,Aab (hv.ok _ h0') (hv.ok _ h1') (hv.ok _ hs'),Ad,Aq oo oo];have s0:Int.sign (crs (plV v 0) (plV v 1) (plV v s))=0↔crs (plV v 0) (plV v 1) (plV v s)=0:=Int.sign_eq_zero_iff_zero
   by_cases c:crs (plV v 0) (plV v 1) (plV v s)=0
   .left;rw[if_pos (s0.2 c)];refine⟨_,rfl,⟨oo,fun k k1 k2 k3=>?_⟩,oo⟩
    by_cases e:k=s
    .rw[e];exact c
    .exact h2 k k1 oo k3
   .right;rw[if_neg (fun g=>c (s0.1 g))];exact⟨_,rfl,.inr ⟨rfl,fun g=>c (g s h1 hs')⟩⟩
  .right;rw[if_neg hk];exact⟨_,rfl,.inl ⟨rfl,fun k k1 k2=>h2 k k1 (by have:=k2.2;omega) k2⟩⟩) 2 ⟨oo,fun k k1 k2=>oo⟩
 obtain⟨t,ht,g|g⟩:=this
 .obtain⟨rfl,g⟩:=g;rw[ht,Ad];exact⟨true,rfl,fun _=>g,fun _=>rfl⟩
 .obtain⟨rfl,g⟩:=g;rw[ht,Ad];exact⟨false,rfl,fun h=>(by cases h),fun h=>absurd h g⟩
end
section
variable {v:List Ae}
def Top(v:List Ae)(a b c:Int):Prop:=inN v.length c/\0<crs (plV v a) (plV v b) (plV v c)/\∀d,inN v.length d->0<crs (plV v a) (plV v b) (plV v d)->d≠c->DH (plV v) (hV v) a b c d<0
theorem Bbr(a b c d:Int):DH (plV v) (hV v) a b d c = -DH (plV v) (hV v) a b c d:=Ant _ _ _ _ _ _ _ _
theorem Top.unique{a b c d:Int}(h:Top v a b c)(k:Top v a b d):c=d:=by
 by_cases e:c=d
 .exact e
 .have h1:=h.2.2 d k.1 k.2.1 (fun g=>e g.symm);have h2:=k.2.2 c h.1 h.2.1 e;rw[Bbr] at h2;omega
theorem Del.top{a b c:Int}(h:Del v a b c):Top v a b c:=by
 obtain⟨h1,h2,h3,h4,h5⟩:=h;refine⟨h3,h4,fun d hd hp hne=>h5 d hd (fun e=>?_) (fun e=>?_) hne⟩
 .subst e;rw[Gt] at hp;omega
 .subst e;rw[Cd] at hp;omega
theorem Del.unique{a b c d:Int}(h:Del v a b c)(k:Del v a b d):c=d:=h.top.unique k.top
theorem Top.across{a b c e:Int}(h:Del v a b c)(k:Top v b a e):Del v b a e:=by
 obtain⟨h1,h2,h3,h4,h5⟩:=h;obtain⟨k1,k2,k3⟩:=k;refine⟨h2,h1,k1,k2,fun d hd n1 n2 n3=>?_⟩
 by_cases hp:0<crs (plV v b) (plV v a) (plV v d)
 .exact k3 d hd hp n3
 have hx:0<=crs (plV v a) (plV v b) (plV v d):=by rw[Cf] at hp;omega
 have he:crs (plV v a) (plV v b) (plV v e)<0:=by rw[Cf] at k2;omega
 have hne:e≠c:=fun g=>by rw[g] at he;omega
 have hea:e≠a:=fun g=>by rw[g,Gt] at he;omega
 have heb:e≠b:=fun g=>by rw[g,Cd] at he;omega
 have hD:=h5 e k1 hea heb hne;obtain⟨p1,p2⟩:=Ads (P:=plV v) (H:=hV v) (a:=a) (b:=b) (c:=c) (d:=d) (h5 d hd);have key:=Aar (hV v a) (hV v b) (hV v c) (hV v e) (plV v a) (plV v b) (plV v c) (plV v e) (plV v d);unfold DH at hD⊢;rw[Aim];generalize plt (hV v b) (hV v a) (hV v e) (plV v b) (plV v a) (plV v e) (plV v d)=L at *;generalize plt (hV v a) (hV v b) (hV v c) (plV v a) (plV v b) (plV v c) (plV v d)=M at *;generalize Dt (hV v a) (hV v b) (hV v c) (hV v e) (plV v a) (plV v b) (plV v c) (plV v e)=D at *;have hlt:M*crs (plV v b) (plV v a) (plV v e)+D*crs (plV v a) (plV v b) (plV v d)<hV v d*crs (plV v a) (plV v b) (plV v c)*crs (plV v b) (plV v a) (plV v e):=by
  by_cases g:d=c
  .subst g;have e1:=Int.mul_le_mul_of_nonneg_right p1 (Int.le_of_lt k2);have e2:=Int.mul_neg_of_neg_of_pos hD h4;omega
  .have e1:=Int.mul_lt_mul_of_pos_right (p2 n2 n1 g) k2;have e2:=Int.mul_nonpos_of_nonpos_of_nonneg (Int.le_of_lt hD) hx;omega
 have e3:(L-hV v d*crs (plV v b) (plV v a) (plV v e))*crs (plV v a) (plV v b) (plV v c)<0:=by
  have:(L-hV v d*crs (plV v b) (plV v a) (plV v e))*crs (plV v a) (plV v b) (plV v c)=L*crs (plV v a) (plV v b) (plV v c)-hV v d*crs (plV v a) (plV v b) (plV v c)*crs (plV v b) (plV v a) (plV v e):=by grind
  omega
 rcases Int.lt_or_le (L-hV v d*crs (plV v b) (plV v a) (plV v e)) 0 with g|g
 .exact g
 .have:=Int.mul_nonneg g (Int.le_of_lt h4);omega
theorem Top.hull{a b c:Int}(hv:Ie v)(ha:inN v.length a)(hb:inN v.length b)(hl:∀d,inN v.length d->0<=crs (plV v a) (plV v b) (plV v d))(ho:∀d,inN v.length d->d≠a->d≠b->crs (plV v a) (plV v b) (plV v d)=0->∀x,0<crs (plV v a) (plV v b) x->crs (plV v b) x (plV v d)<0)(k:Top v a b c):Del v a b c:=by
 obtain⟨k1,k2,k3⟩:=k;refine⟨ha,hb,k1,k2,fun d hd n1 n2 n3=>?_⟩
 by_cases hp:0<crs (plV v a) (plV v b) (plV v d)
 .exact k3 d hd hp n3
 have h0:crs (plV v a) (plV v b) (plV v d)=0:=by have:=hl d hd;omega
 rw[<-Adt];exact Ack hv b c a d hb k1 ha hd (by rw[Bq];exact k2) (ho d hd n1 n2 h0 _ k2) (.inr oo)
def dtp(a b x:Ab):Int:=(x.X-a.X)*(x.X-b.X)+(x.Y-a.Y)*(x.Y-b.Y)
theorem Aa2(a b c d:Ab):inC a b c d=dtp a b c*crs a b d-dtp a b d*crs a b c:=by unfold inC dtp lft crs;grind
theorem Amg{a b c d e:Ab}(hc:0<crs a b c)(hd:0<crs a b d)(he:0<crs a b e)(h1:0<inC a b c d)(h2:inC a b c e<=0):inC a b d e<0:=by
 rw[Aa2] at *;have e1:dtp a b d*crs a b c<dtp a b c*crs a b d:=oo;have e2:dtp a b c*crs a b e<=dtp a b e*crs a b c:=oo;have m1:=Int.mul_lt_mul_of_pos_right e1 he;have m2:=Int.mul_le_mul_of_nonneg_right e2 (Int.le_of_lt hd);have m3:(dtp a b d*crs a b e)*crs a b c<(dtp a b e*crs a b d)*crs a b c:=by
  have r1:(dtp a b d*crs a b e)*crs a b c=dtp a b d*crs a b c*crs a b e:=by grind
  have r2:dtp a b c*crs a b d*crs a b e=dtp a b c*crs a b e*crs a b d:=by grind
  have r3:(dtp a b e*crs a b d)*crs a b c=dtp a b e*crs a b c*crs a b d:=by grind
  omega
 have:=Int.lt_of_mul_lt_mul_right m3 (Int.le_of_lt hc);omega
theorem Aoz{a b c d e:Ab}(hc:0<crs a b c)(h1:inC a b c d=0):inC a b c e*crs a b d=inC a b d e*crs a b c:=by
 rw[Aa2 a b c e,Aa2 a b d e];rw[Aa2] at h1;have e1:dtp a b c*crs a b d=dtp a b d*crs a b c:=oo;have r1:(dtp a b c*crs a b e-dtp a b e*crs a b c)*crs a b d=dtp a b c*crs a b d*crs a b e-dtp a b e*crs a b c*crs a b d:=by grind
 rw[r1,e1];grind
theorem Acv{a b c d e:Ab}(hc:0<crs a b c)(hd:0<crs a b d)(h1:inC a b c d=0):(inC a b c e<0->inC a b d e<0)/\(inC a b c e=0->inC a b d e=0):=by
 have h:=Aoz (e:=e) hc h1;constructor
 .intro g;rcases Int.lt_or_le (inC a b d e) 0 with k|k
  .exact k
  .have e1:=Int.mul_nonneg k (Int.le_of_lt hc);have e2:=Int.mul_neg_of_neg_of_pos g hd;omega
 .intro g;rw[g,Int.zero_mul] at h;rcases Int.mul_eq_zero.1 h.symm with k|k
  .exact k
  .omega
theorem Aq2{a b c d:Ab}(hc:0<crs a b c)(hd:0<crs a b d)(h0:inC a b c d=0)(h1:crs a c d=0):Cl c d:=by
 have hca:¬Cl c a:=fun e=>by have:=Aev e;subst this;rw[Gt] at hc;omega
 have L1:=Als hca;have e0:lft c a*crs a b d=lft d a*crs a b c:=by
  have:inC a b c d=lft b a*crs c a d+lft c a*crs a b d-lft d a*crs a b c:=by unfold inC lft crs;grind
  rw[h0,Cf,h1] at this;simp only[Int.neg_zero,Int.mul_zero,Int.zero_add] at this;omega
 have ex:crs a b c*(d.X-a.X)=crs a b d*(c.X-a.X):=by
  have:crs a b c*(d.X-a.X)-crs a b d*(c.X-a.X) = -(b.X-a.X)*crs a c d:=by unfold crs;grind
  rw[h1,Int.mul_zero] at this;omega
 have ey:crs a b c*(d.Y-a.Y)=crs a b d*(c.Y-a.Y):=by
  have:crs a b c*(d.Y-a.Y)-crs a b d*(c.Y-a.Y) = -(b.Y-a.Y)*crs a c d:=by unfold crs;grind
  rw[h1,Int.mul_zero] at this;omega
 generalize hk1:crs a b c=k1 at *;generalize hk2:crs a b d=k2 at *;have e2:k1*(k1*lft d a)=k2*(k2*lft c a):=by
  unfold lft;have x2:(k1*(d.X-a.X))*(k1*(d.X-a.X))=(k2*(c.X-a.X))*(k2*(c.X-a.X)):=by rw[ex]
  have y2:(k1*(d.Y-a.Y))*(k1*(d.Y-a.Y))=(k2*(c.Y-a.Y))*(k2*(c.Y-a.Y)):=by rw[ey]
  grind
 have e3:(lft c a*k2)*(k1-k2)=0:=by
  have:k1*(k1*lft d a)=k1*(lft c a*k2):=by rw[e0,Int.mul_comm k1 (lft d a)]
  grind
 have e4:k1=k2:=by
  rcases Int.mul_eq_zero.1 e3 with g|g
  .rcases Int.mul_eq_zero.1 g with g|g <;> omega
  .omega
 subst e4;have gx:=Int.eq_of_mul_eq_mul_left oo ex;have gy:=Int.eq_of_mul_eq_mul_left oo ey;unfold Cl;omega
theorem Ay2{a b c d:Ab}(hc:0<crs a b c)(h0:inC a b c d=0)(h1:0<crs a c d)(hd:0<crs a b d):0<crs b c d:=by
 rcases Int.lt_or_le 0 (crs b c d) with g|g
 .exact g
 .have:=Abv (a:=c) (b:=a) (c:=b) (d:=d) (by rw[<-Bq];exact hc) (by rw[Cf];omega) g;rw[<-Ahb,h0] at this;omega
end
section
variable {v:List Ae}{a b:Int}
structure Best(v:List Ae)(a b k:Int)(s:LI):Prop where
 mem:∀c∈s,inN v.length c/\c<k/\0<crs (plV v a) (plV v b) (plV v c)
 none:s=[]->∀d,inN v.length d->d<k->crs (plV v a) (plV v b) (plV v d)<=0
 top:∀c∈s,∀d,inN v.length d->d<k->0<crs (plV v a) (plV v b) (plV v d)->(inC (plV v a) (plV v b) (plV v c) (plV v d)<0/\d∉s)\/(inC (plV v a) (plV v b) (plV v c) (plV v d)=0/\d∈s)
 nd:s.Nodup
theorem Best.nil:Best v a b 0 []:=⟨fun c h=>(by cases h),fun _ d hd h=>by unfold inN at hd;omega,fun c h=>(by cases h),List.nodup_nil⟩
theorem Best.skip{k:Int}{s:LI}(h:Best v a b k s)(hk:crs (plV v a) (plV v b) (plV v k)<=0):Best v a b (k+1) s:=by
 refine⟨fun c hc=>?_,fun e d hd hl=>?_,fun c hc d hd hl hp=>?_,h.nd⟩
 .obtain⟨h1,h2,h3⟩:=h.mem c hc;exact⟨h1,oo,h3⟩
 .by_cases g:d=k
  .subst g;exact hk
  .exact h.none e d hd oo
 .by_cases g:d=k
  .subst g;omega
  .exact h.top c hc d hd oo hp
theorem Ao0(a b c:Ab):inC a b c c=0:=by unfold inC lft crs;grind
theorem Best.one{k:Int}(hk:inN v.length k)(hp:0<crs (plV v a) (plV v b) (plV v k))(ho:∀d,inN v.length d->d<k->0<crs (plV v a) (plV v b) (plV v d)->inC (plV v a) (plV v b) (plV v k) (plV v d)<0):Best v a b (k+1) [k]:=by
 refine⟨fun c hc=>?_,fun e=>(by cases e),fun c hc d hd hl hq=>?_,s_⟩
 .rw[List.mem_singleton] at hc;subst hc;exact⟨hk,oo,hp⟩
 .rw[List.mem_singleton] at hc;subst hc
  by_cases g:d=c
  .subst g;exact .inr ⟨Ao0 _ _ _,List.mem_singleton.2 rfl⟩
  .exact .inl ⟨ho d hd oo hq,by simpa using g⟩
theorem Best.first{k:Int}(h:Best v a b k [])(hk:inN v.length k)(hp:0<crs (plV v a) (plV v b) (plV v k)):Best v a b (k+1) [k] :=
 Best.one hk hp fun d hd hl hq=>by have:=h.none rfl d hd hl;omega
theorem Best.better{k c:Int}{s:LI}(h:Best v a b k s)(hk:inN v.length k)(hp:0<crs (plV v a) (plV v b) (plV v k))(hc:c∈s)(hi:0<inC (plV v a) (plV v b) (plV v c) (plV v k)):Best v a b (k+1) [k] :=
 Best.one hk hp fun d hd hl hq=>Amg (h.mem c hc).2.2 hp hq hi (by rcases h.top c hc d hd hl hq with g|g <;> omega)
theorem Best.worse{k c:Int}{s:LI}(h:Best v a b k s)(hc:c∈s)(hi:inC (plV v a) (plV v b) (plV v c) (plV v k)<0):Best v a b (k+1) s:=by
 refine⟨fun x hx=>?_,fun e=>(by rw[e] at hc;cases hc),fun x hx d hd hl hp=>?_,h.nd⟩
 .obtain⟨h1,h2,h3⟩:=h.mem x hx;exact⟨h1,oo,h3⟩
 .by_cases g:d=k
  .subst g;refine .inl ⟨?_,fun e=>?_⟩
   ·obtain⟨h1,h2,h3⟩:=h.mem x hx;obtain⟨q1,q2,q3⟩:=h.mem c hc;have h0:inC (plV v a) (plV v b) (plV v c) (plV v x)=0:=by
     rcases h.top c hc x h1 h2 h3 with g|g
     .exact absurd hx g.2
     .exact g.1
    exact (Acv q3 h3 h0).1 hi
   .have:=(h.mem d e).2.1;omega
  .exact h.top x hx d hd oo hp
theorem Best.tie{k c:Int}{s:LI}(h:Best v a b k s)(hk:inN v.length k)(hp:0<crs (plV v a) (plV v b) (plV v k))(hc:c∈s)(hi:inC (plV v a) (plV v b) (plV v c) (plV v k)=0):Best v a b (k+1) (s++[k]):=by
 have same:∀x∈s,inC (plV v a) (plV v b) (plV v x) (plV v k)=0:=fun x hx=>by
  obtain⟨h1,h2,h3⟩:=h.mem x hx;obtain⟨q1,q2,q3⟩:=h.mem c hc;have h0:inC (plV v a) (plV v b) (plV v c) (plV v x)=0:=by
   rcases h.top c hc x h1 h2 h3 with g|g
   .exact absurd hx g.2
   .exact g.1
  exact (Acv q3 h3 h0).2 hi
 refine⟨fun x hx=>?_,fun e=>(by simp at e),fun x hx d hd hl hq=>?_,?_⟩
 .rcases List.mem_append.1 hx with hx|hx
  .obtain⟨h1,h2,h3⟩:=h.mem x hx;exact⟨h1,oo,h3⟩
  .rw[List.mem_singleton] at hx;subst hx;exact⟨hk,oo,hp⟩
 .by_cases g:d=k
  .subst g;refine .inr ⟨?_,s_⟩;rcases List.mem_append.1 hx with hx|hx
   .exact same x hx
   .rw[List.mem_singleton] at hx;subst hx;exact Ao0 _ _ _
  .have hnk:d ∉ [k]:=by simpa using g
   rcases List.mem_append.1 hx with hx|hx
   .rcases h.top x hx d hd oo hq with⟨g1,g2⟩|⟨g1,g2⟩
    .exact .inl ⟨g1,fun e=>(List.mem_append.1 e).elim g2 hnk⟩
    .exact .inr ⟨g1,List.mem_append.2 (.inl g2)⟩
   .rw[List.mem_singleton] at hx;subst hx;obtain⟨q1,q2,q3⟩:=h.mem c hc;rcases h.top c hc d hd oo hq with⟨g1,g2⟩|⟨g1,g2⟩
    .exact .inl ⟨(Acv q3 hp hi).1 g1,fun e=>(List.mem_append.1 e).elim g2 hnk⟩
    .exact .inr ⟨(Acv q3 hp hi).2 g1,List.mem_append.2 (.inl g2)⟩
 .rw[List.nodup_append];refine⟨h.nd,s_,fun x hx y hy e=>?_⟩;rw[List.mem_singleton] at hy;subst hy;subst e;have:=(h.mem x hx).2.1;omega
structure Circ(v:List Ae)(a b:Int)(l:LI):Prop where
 mem:∀c∈l,inN v.length c/\0<crs (plV v a) (plV v b) (plV v c)
 on:∀c∈l,∀d∈l,inC (plV v a) (plV v b) (plV v c) (plV v d)=0
 nd:l.Nodup
theorem Best.circ{k:Int}{s:LI}(h:Best v a b k s):Circ v a b s :=
 ⟨fun c hc=>⟨(h.mem c hc).1,(h.mem c hc).2.2⟩,fun c hc d hd=>by
  obtain⟨h1,h2,h3⟩:=h.mem d hd;rcases h.top c hc d h1 h2 h3 with g|g
  .exact absurd hd g.2
  .exact g.1,h.nd⟩
theorem Circ.sub{l l':LI}(h:Circ v a b l)(hs:∀x∈l',x∈l)(hn:l'.Nodup):Circ v a b l':=⟨fun c hc=>h.mem c (hs c hc),fun c hc d hd=>h.on c (hs c hc) d (hs d hd),hn⟩
theorem Circ.ne0{l:LI}(hv:Ie v)(h:Circ v a b l){c d:Int}(hc:c∈l)(hd:d∈l)(hne:c≠d):crs (plV v a) (plV v c) (plV v d)≠0:=fun e=>by
 obtain⟨c1,c2⟩:=h.mem c hc;obtain⟨d1,d2⟩:=h.mem d hd;exact hne (hv.dist c d c1 d1 (Aq2 c2 d2 (h.on c hc d hd) e))
theorem Circ.trans{l:LI}(h:Circ v a b l){c d e:Int}(hc:c∈l)(hd:d∈l)(he:e∈l)(h1:0<crs (plV v a) (plV v c) (plV v d))(h2:0<crs (plV v a) (plV v d) (plV v e)):0<crs (plV v a) (plV v c) (plV v e):=by
 have p:=Wb (plV v a) (plV v b) (plV v c) (plV v d) (plV v e);have e1:=Int.mul_pos (h.mem c hc).2 h2;have e2:=Int.mul_pos (h.mem e he).2 h1;refine Uj (x:=crs (plV v a) (plV v b) (plV v d)) ?_ (h.mem d hd).2;omega
structure Ring(v:List Ae)(a b:Int)(l:LI):Prop where
 circ:Circ v a b l
 ord:l.Pairwise fun x y=>0<crs (plV v a) (plV v x) (plV v y)
def Ans(v:List Ae)(a b:Int)(l:LI)(c:Int):Prop:=c∈l/\∀d∈l,d≠c->DH (plV v) (hV v) a b c d<0
section
variable (hv:Ie v)(ha:inN v.length a)(hb:inN v.length b){l:LI}
include hv ha hb
theorem Ring.ans_a{c:Int}{l:LI}(h:Ring v a b (l++[c]))(hab:befP (plV v a) (plV v b))(hf:∀x∈l++[c],befP (plV v a) (plV v x)):Ans v a b (l++[c]) c:=by
 have hc:c∈l++[c]:=s_;refine⟨hc,fun d hd hne=>?_⟩;obtain⟨c1,c2⟩:=h.circ.mem c hc;obtain⟨d1,d2⟩:=h.circ.mem d hd;have hdl:d∈l:=by
  rcases List.mem_append.1 hd with g|g
  .exact g
  .exact absurd (List.mem_singleton.1 g) hne
 have hdc:0<crs (plV v a) (plV v d) (plV v c):=(List.pairwise_append.1 h.ord).2.2 d hdl c s_;have:=Ay2 d2 (h.circ.on d hd c hc) hdc c2;refine (Xy hv ha hb c1 d1 (h.circ.on c hc d hd) hab (hf c hc) (hf d hd)).2 ?_;rw[Ae4];omega
theorem Ring.ans_b{c:Int}{l:LI}(h:Ring v a b (c::l))(hab:befP (plV v b) (plV v a))(hf:∀x∈c::l,befP (plV v b) (plV v x)):Ans v a b (c::l) c:=by
 have hc:c∈c::l:=s_;refine⟨hc,fun d hd hne=>?_⟩;obtain⟨c1,c2⟩:=h.circ.mem c hc;obtain⟨d1,d2⟩:=h.circ.mem d hd;have hdl:d∈l:=by
  rcases List.mem_cons.1 hd with g|g
  .exact absurd g hne
  .exact g
 have hcd:0<crs (plV v a) (plV v c) (plV v d):=(List.pairwise_cons.1 h.ord).1 d hdl;rw[<-Adt];refine (Xy hv hb c1 ha d1 (by rw[Ahb];exact h.circ.on c hc d hd) (hf c hc) hab (hf d hd)).2 ?_;rw[Cf];omega
theorem Ring.ans_cut{x c:Int}(h:Ring v a b l)(hx:x∈l)(hxa:befP (plV v x) (plV v a))(hxb:befP (plV v x) (plV v b))(hf:∀y∈l,y≠x->befP (plV v x) (plV v y)){l':LI}(hl:∀y,y∈l'↔y∈l/\y≠x)(hc:Ans v a b l' c):Ans v a b l c:=by
 obtain⟨h1,h2⟩:=hc;obtain⟨hcl,hcx⟩:=(hl c).1 h1;obtain⟨c1,c2⟩:=h.circ.mem c hcl;obtain⟨x1,x2⟩:=h.circ.mem x hx;refine⟨hcl,fun d hd hne=>?_⟩
 by_cases e:d=x
 .subst e;exact Aiu hv ha hb c1 x1 (h.circ.on c hcl d hx) hxa hxb (hf c hcl hcx) c2
 .exact h2 d ((hl d).2 ⟨hd,e⟩) hne
theorem Best.ans{s l:LI}{c:Int}(h:Best v a b v.length s)(hp:∀x,x∈l↔x∈s)(hc:Ans v a b l c):Top v a b c:=by
 obtain⟨h1,h2⟩:=hc;have hcs:=(hp c).1 h1;obtain⟨c1,_,c2⟩:=h.mem c hcs;refine⟨c1,c2,fun d hd hq hne=>?_⟩;rcases h.top c hcs d hd hd.2 hq with g|g
 .exact Alu hv ha hb c1 hd g.1
 .exact h2 d ((hp d).2 g.2) hne
end
end
section
variable {v:List Ae}{p0 q0:Int}
def Ty(t:Ag)(p q:Int):Prop:=(p=t.a0/\q=t.a1)\/(p=t.a1/\q=t.a2)\/(p=t.a2/\q=t.a0)
def Akv(v:List Ae)(t:Ag):Prop:=t.a0<t.a1/\t.a0<t.a2/\Del v t.a0 t.a1 t.a2
theorem Akv.side{t:Ag}(h:Akv v t){p q:Int}(hs:Ty t p q):∃e,Del v p q e:=by
 obtain⟨_,_,h⟩:=h;rcases hs with⟨rfl,rfl⟩|⟨rfl,rfl⟩|⟨rfl,rfl⟩
 .exact⟨_,h⟩
 .exact⟨_,h.rot⟩
 .exact⟨_,h.rot.rot⟩
def noT(v:List Ae)(p q:Int):Prop:=∀d,inN v.length d->crs (plV v p) (plV v q) (plV v d)<=0
def okS(v:List Ae)(p q:Int):Prop:=inN v.length p/\inN v.length q/\(noT v p q\/∃e,Del v p q e)
structure Tr(v:List Ae)(p0 q0:Int)(op:List Ac)(dn:Int->Int->Prop)(out:List Ag):Prop where
 mem:∀t∈out,Akv v t
 nd:out.Nodup
 opn:∀s∈op,okS v s.a0 s.a1
 don:∀p q,dn p q->(∃t∈out,Ty t p q)\/noT v p q
 all:∀t∈out,∀p q,Ty t p q->dn p q
 rev:∀t∈out,∀p q,Ty t p q->⟨q,p⟩∈op\/dn q p
 sta:⟨p0,q0⟩∈op\/dn p0 q0
 len:op.length<=3*out.length+1
theorem Tr.init{dn:Int->Int->Prop}(h:okS v p0 q0)(hd:∀p q,¬dn p q):Tr v p0 q0 [⟨p0,q0⟩] dn [] :=
 ⟨fun t h=>(by cases h),List.nodup_nil,fun s hs=>by rw[List.mem_singleton] at hs;subst hs;exact h,fun p q g=>absurd g (hd p q),fun t h=>(by cases h),fun t h=>(by cases h),.inl s_,s_⟩
theorem Amh{x s:Ac}{op:List Ac}(h:x∈op++[s]):x∈op\/x=s:=by simpa using h
theorem Tr.skip{op:List Ac}{dn:Int->Int->Prop}{out:List Ag}{s:Ac}(h:Tr v p0 q0 (op++[s]) dn out)(hs:dn s.a0 s.a1):Tr v p0 q0 op dn out :=
 ⟨h.mem,h.nd,fun x hx=>h.opn x (by simp[hx]),h.don,h.all,fun t ht p q hp=>(h.rev t ht p q hp).elim (fun g=>(Amh g).imp id fun e=>by subst e;exact hs) .inr,
  h.sta.elim (fun g=>(Amh g).imp id fun e=>by subst e;exact hs) .inr,by have:=h.len;rw[List.length_append,List.length_singleton] at this;omega⟩
theorem Tr.none{op:List Ac}{dn dn':Int->Int->Prop}{out:List Ag}{s:Ac}(h:Tr v p0 q0 (op++[s]) dn out)(hd:∀p q,dn' p q↔dn p q\/(p=s.a0/\q=s.a1))(hn:noT v s.a0 s.a1):Tr v p0 q0 op dn' out:=by
 have key:Tr v p0 q0 (op++[s]) dn' out:=⟨h.mem,h.nd,h.opn,fun p q g=>by
  rcases (hd p q).1 g with g|⟨rfl,rfl⟩
  .exact h.don p q g
  .exact .inr hn,fun t ht p q hp=>(hd p q).2 (.inl (h.all t ht p q hp)),fun t ht p q hp=>(h.rev t ht p q hp).imp id fun g=>(hd _ _).2 (.inl g),h.sta.imp id fun g=>(hd _ _).2 (.inl g),h.len⟩
 exact key.skip ((hd _ _).2 (.inr ⟨rfl,rfl⟩))
theorem Tr.more{op:List Ac}{dn dn':Int->Int->Prop}{out:List Ag}{s:Ac}{t:Ag}(h:Tr v p0 q0 (op++[s]) dn out)(hs:¬dn s.a0 s.a1)(ht:Akv v t)(hst:Ty t s.a0 s.a1)(hd:∀p q,dn' p q↔dn p q\/Ty t p q)(hx:∀p q,Ty t p q->okS v q p):Tr v p0 q0 (op++[⟨t.a1,t.a0⟩,⟨t.a2,t.a1⟩,⟨t.a0,t.a2⟩]) dn' (out++[t]):=by
 have hin:∀{p q:Int},⟨p,q⟩∈op++[s]->(⟨p,q⟩:Ac)∈op++[⟨t.a1,t.a0⟩,⟨t.a2,t.a1⟩,⟨t.a0,t.a2⟩]\/dn' p q:=fun {p q} g=>by
  rcases Amh g with g|g
  .exact .inl (List.mem_append.2 (.inl g))
  .right;rw[<-g] at hst;exact (hd _ _).2 (.inr hst)
 refine⟨fun x hx=>?_,?_,fun x hx'=>?_,fun p q g=>?_,fun x hx' p q g=>?_,fun x hx' p q g=>?_,?_,?_⟩
 .rcases List.mem_append.1 hx with hx|hx
  .exact h.mem x hx
  .rw[List.mem_singleton] at hx;subst hx;exact ht
 .rw[List.nodup_append];refine⟨h.nd,s_,fun x hm y hy e=>?_⟩;rw[List.mem_singleton] at hy;rw[hy] at e;rw[e] at hm;exact hs (h.all t hm _ _ hst)
 .rcases List.mem_append.1 hx' with hx'|hx'
  .exact h.opn x (by simp[hx'])
  .simp only[List.mem_cons,List.not_mem_nil,or_false] at hx';rcases hx' with rfl|rfl|rfl
   .exact hx t.a0 t.a1 (.inl ⟨rfl,rfl⟩)
   .exact hx t.a1 t.a2 (.inr (.inl ⟨rfl,rfl⟩))
   .exact hx t.a2 t.a0 (.inr (.inr ⟨rfl,rfl⟩))
 .rcases (hd p q).1 g with g|g
  .rcases h.don p q g with⟨x,hx,g⟩|g
   .exact .inl ⟨x,by simp[hx],g⟩
   .exact .inr g
  .exact .inl ⟨t,s_,g⟩
 .rcases List.mem_append.1 hx' with hx'|hx'
  .exact (hd p q).2 (.inl (h.all x hx' p q g))
  .rw[List.mem_singleton] at hx';subst hx';exact (hd p q).2 (.inr g)
 .rcases List.mem_append.1 hx' with hx'|hx'
  .rcases h.rev x hx' p q g with g|g
   .exact hin g
   .exact .inr ((hd _ _).2 (.inl g))
  .rw[List.mem_singleton] at hx';subst hx';left;refine List.mem_append.2 (.inr ?_);rcases g with⟨rfl,rfl⟩|⟨rfl,rfl⟩|⟨rfl,rfl⟩ <;> simp
 .rcases h.sta with g|g
  .exact hin g
  .exact .inr ((hd _ _).2 (.inl g))
 .have:=h.len;simp only[List.length_append,List.length_cons,List.length_nil] at this⊢;omega
theorem Ad5{out:List Ag}(hmem:∀t∈out,Akv v t)(hnd:out.Nodup):out.length<=v.length*v.length:=by
 have h1:(out.map fun t=>(t.a0.toNat*v.length+t.a1.toNat)).Nodup:=by
  unfold List.Nodup;rw[List.pairwise_map];refine List.Pairwise.imp_of_mem ?_ hnd;intro x y hx hy hne e;obtain⟨x1,x2,x3⟩:=hmem x hx;obtain⟨y1,y2,y3⟩:=hmem y hy;have x4:=x3.1;have x5:=x3.2.1;have y4:=y3.1;have y5:=y3.2.1;unfold inN at x4 x5 y4 y5;have e1:x.a1.toNat=y.a1.toNat:=by
   have:=congrArg (· % v.length) e;simp only[Nat.mul_add_mod_self_right] at this
   rwa [Nat.mod_eq_of_lt oo,Nat.mod_eq_of_lt oo] at this
  have e2:x.a0.toNat=y.a0.toNat:=by
   rw[e1] at e;have e':x.a0.toNat*v.length=y.a0.toNat*v.length:=oo;exact Nat.eq_of_mul_eq_mul_right oo e'
  have e3:x.a0=y.a0:=oo;have e4:x.a1=y.a1:=oo;apply hne;obtain⟨xa,xb,xc⟩:=x;obtain⟨ya,yb,yc⟩:=y;simp only at e3 e4 x3 y3;subst e3;subst e4;rw[x3.unique y3]
 have:=Bm (m:=List.range (v.length*v.length)) h1 fun x hx=>by
  obtain⟨t,ht,rfl⟩:=List.mem_map.1 hx;obtain⟨_,_,t3⟩:=hmem t ht;have t4:=t3.1;have t5:=t3.2.1;unfold inN at t4 t5;rw[List.mem_range];have h3:t.a0.toNat+1<=v.length:=oo;have:=Nat.mul_le_mul_right v.length h3;rw[Nat.add_mul] at this;omega
 rwa [List.length_map,List.length_range] at this
theorem Tr.bound{op:List Ac}{dn:Int->Int->Prop}{out:List Ag}(h:Tr v p0 q0 op dn out):out.length<=v.length*v.length:=Ad5 h.mem h.nd
def rots(t:Ag):List T3:=[(t.a0,t.a1,t.a2),(t.a1,t.a2,t.a0),(t.a2,t.a0,t.a1)]
theorem Tr.full{dn:Int->Int->Prop}{out:List Ag}(h:Tr v p0 q0 [] dn out)(hs:∃e,Del v p0 q0 e)(t:Ag):t∈out↔t.a0<t.a1/\t.a0<t.a2/\Del v t.a0 t.a1 t.a2:=by
 refine⟨fun ht=>h.mem t ht,fun ⟨t1,t2,t3⟩=>?_⟩;have memX:∀a b c:Int,(a,b,c)∈out.flatMap rots->∃t∈out,Ty t a b/\Del v a b c:=fun a b c g=>by
  obtain⟨t,ht,g⟩:=List.mem_flatMap.1 g;have:=(h.mem t ht).2.2;unfold rots at g;simp only[List.mem_cons,List.not_mem_nil,or_false] at g;rcases g with g|g|g <;> cases g
  .exact⟨t,ht,.inl ⟨rfl,rfl⟩,this⟩
  .exact⟨t,ht,.inr (.inl ⟨rfl,rfl⟩),this.rot⟩
  .exact⟨t,ht,.inr (.inr ⟨rfl,rfl⟩),this.rot.rot⟩
 have inX:∀t∈out,∀a b c,Ty t a b->Del v a b c->(a,b,c)∈out.flatMap rots:=fun t ht a b c g hd=>by
  have:=(h.mem t ht).2.2;refine List.mem_flatMap.2 ⟨t,ht,?_⟩;unfold rots;rcases g with⟨rfl,rfl⟩|⟨rfl,rfl⟩|⟨rfl,rfl⟩
  .rw[hd.unique this];simp
  .rw[hd.unique this.rot];simp
  .rw[hd.unique this.rot.rot];simp
 have hX:Aiq (plV v) (out.flatMap rots):=⟨fun a b c g=>by
  obtain⟨t,ht,g1,g2⟩:=memX a b c g;refine inX t ht b c a ?_ g2.rot;have:=(h.mem t ht).2.2;rcases g1 with⟨rfl,rfl⟩|⟨rfl,rfl⟩|⟨rfl,rfl⟩
  .rw[g2.unique this];exact .inr (.inl ⟨rfl,rfl⟩)
  .rw[g2.unique this.rot];exact .inr (.inr ⟨rfl,rfl⟩)
  .rw[g2.unique this.rot.rot];exact .inl ⟨rfl,rfl⟩,fun a b c g=>by
  obtain⟨t,ht,g1,g2⟩:=memX a b c g;exact g2.2.2.2.1⟩
 have dnX:∀p q e,dn p q->Del v p q e->(p,q,e)∈out.flatMap rots:=fun p q e g hd=>by
  rcases h.don p q g with⟨t,ht,g⟩|g
  .exact inX t ht p q e g hd
  .have:=g e hd.2.2.1;have:=hd.2.2.2.1;omega
 have:=Air (H:=hV v) (V:=inN v.length) hX (fun a b c g=>by obtain⟨t,ht,g1,g2⟩:=memX a b c g;exact⟨g2.1,g2.2.1,g2.2.2.1⟩) (fun a b c g=>by obtain⟨t,ht,g1,g2⟩:=memX a b c g;exact g2.2.2.2.2)
  (fun a b c g d hd hl=>by
   obtain⟨t,ht,g1,g2⟩:=memX a b c g;rcases h.rev t ht a b g1 with k|k
   .cases k
   .rcases h.don b a k with⟨t',ht',k'⟩|k'
    .obtain⟨e,he⟩:=(h.mem t' ht').side k';exact⟨e,inX t' ht' b a e k' he⟩
    .have:=k' d hd;rw[Cf] at this;omega)
  (fun e=>by
   obtain⟨x,hx⟩:=hs;rcases h.sta with k|k
   .cases k
   .have:=dnX p0 q0 x k hx;rw[e] at this;cases this) t3.1 t3.2.1 t3.2.2.1 t3.2.2.2.1 t3.2.2.2.2
 obtain⟨t',ht',g⟩:=List.mem_flatMap.1 this;obtain⟨s1,s2,s3⟩:=h.mem t' ht';obtain⟨ta,tb,tc⟩:=t;obtain⟨sa,sb,sc⟩:=t';unfold rots at g;simp only[List.mem_cons,List.not_mem_nil,or_false,Prod.mk.injEq] at g t1 t2 s1 s2;rcases g with⟨rfl,rfl,rfl⟩|⟨rfl,rfl,rfl⟩|⟨rfl,rfl,rfl⟩
 .exact ht'
 .omega
 .omega
end
section
variable {v:List Ae}
def behind(v:List Ae)(f b k:Int):Prop:=0<crs (plV v f) (plV v b) (plV v k)\/(crs (plV v f) (plV v b) (plV v k)=0/\¬befP (plV v k) (plV v b))
theorem Aq3{f b d x:Ab}(hf:okP f)(hb:okP b)(hd:okP d)(h1:befP f b)(h2:befP b d)(h0:crs f b d=0)(hx:0<crs f b x):crs b x d<0:=by
 have q1:=(Aq1 hf hb).2 h1;have q2:=(Aq1 hb hd).2 h2;have e:=Bb9 lexA 1 b f d x;have e1:crs b f d=0:=by rw[Cf];omega
 have e2:crs b x f=crs f b x:=Bq f b x;rw[e1,e2,Int.mul_zero] at e;have e3:=Int.mul_pos (show 0<ph lexA 1 d-ph lexA 1 b by omega) hx;have e4:(ph lexA 1 f-ph lexA 1 b)*crs b d x = -((ph lexA 1 b-ph lexA 1 f)*crs b d x):=by grind
 have:=Adr (x:=ph lexA 1 b-ph lexA 1 f) (y:=crs b d x) oo oo;rw[Ae4];omega
theorem Au2(hv:Ie v)(hn:v.length<=1024){f:Int}(hf:inN v.length f)(low:∀ k,inN v.length k->k=f\/befP (plV v f) (plV v k))(h2:2<=v.length):
  ∃b,Qn v f false=some b/\inN v.length b/\b≠f/\∀k,inN v.length k->k≠f->behind v f b k:=by
 unfold Qn;rw[jn_d];have up:∀k,inN v.length k->k≠f->ph lexA 1 (plV v f)<ph lexA 1 (plV v k):=fun k hk hne=>(Aq1 (hv.ok f hf) (hv.ok k hk)).2 ((low k hk).resolve_left hne)
 have:=Aw (B:=Qa v f false) (fun s=>v.length-s.2.toNat)
  (fun s=>0<=s.2/\s.2<=(v.length:Int)/\((s.1 = -1/\∀j,inN v.length j->j<s.2->j=f)\/(inN v.length s.1/\s.1≠f/\∀j,inN v.length j->j<s.2->j≠f->behind v f s.1 j))) (fun t=>inN v.length t/\t≠f/\∀k,inN v.length k->k≠f->behind v f t k) (fun s hs=>by
   obtain⟨out,k⟩:=s;obtain⟨h1,h2',h3⟩:=hs;simp only at h1 h2' h3;unfold Qa;dsimp only
   by_cases hk:k<(v.length:Int)
   .left;have hkn:inN v.length k:=⟨h1,hk⟩;have w1:w64 (k+1)=k+1:=Aq oo oo;rw[if_pos hk,jn_d]
    by_cases e1:k=f
    .rw[if_pos e1,w1];refine⟨_,rfl,⟨by dsimp only;omega,by dsimp only;omega,?_⟩,by dsimp only;omega⟩;dsimp only;rcases h3 with⟨g1,g2⟩|⟨g1,g2,g3⟩
     ·exact .inl ⟨g1,fun j hj hl=>by
       by_cases e:j=k
       .rw[e];exact e1
       .exact g2 j hj oo⟩
     .exact .inr ⟨g1,g2,fun j hj hl hne=>g3 j hj oo hne⟩
    .rw[if_neg e1];have self:behind v f k k:=.inr ⟨Cd _ _,Asu _⟩
     by_cases e2:out<0
     ·rw[if_pos e2,w1];have h4:∀ j,inN v.length j->j<k->j=f:=by
       rcases h3 with⟨_,g⟩|⟨g,_⟩
       .exact g
       .unfold inN at g;omega
      refine⟨_,rfl,⟨by dsimp only;omega,by dsimp only;omega,.inr ⟨hkn,e1,fun j hj hl hne=>?_⟩⟩,by dsimp only;omega⟩;dsimp only at hl⊢
      by_cases e:j=k
      .rw[e];exact self
      .exact absurd (h4 j hj oo) hne
     ·rw[if_neg e2];obtain⟨g1,g2,g3⟩:inN v.length out/\out≠f/\∀ j,inN v.length j->j<k->j≠f->behind v f out j:=by
       rcases h3 with g|g
       .omega
       .exact g
      obtain⟨xa,fa,pa⟩:=Ry (v:=v) hf;obtain⟨xo,fo,po⟩:=Ry (v:=v) g1;obtain⟨xk,fk,pk⟩:=Ry (v:=v) hkn;try rw[jn_d]
      rw[fa,Ad,fo,Ad,fk,Ad];unfold As;rw[Ad,Ad,Ad];dsimp only;rw[pa,po,pk,Aab (hv.ok _ hf) (hv.ok _ g1) (hv.ok _ hkn),Ad,jn_d,Aoy (hv.ok _ hf) (hv.ok _ g1) (hv.ok _ hkn),w1];have sg:Int.sign (crs (plV v f) (plV v out) (plV v k))<0↔crs (plV v f) (plV v out) (plV v k)<0:=Int.sign_neg_iff;have s0:Int.sign (crs (plV v f) (plV v out) (plV v k))=0↔crs (plV v f) (plV v out) (plV v k)=0:=Int.sign_eq_zero_iff_zero;have po':=up out g1 g2;have pk':=up k hkn e1;have take:(∀j,inN v.length j->j<k->j≠f->behind v f k j)->∃s',(some (.inl (k,k+1)):Option (Sum (Int×Int) Int))=some (.inl s')/\(0<=s'.2/\s'.2<=(v.length:Int)/\((s'.1 = -1/\∀j,inN v.length j->j<s'.2->j=f)\/(inN v.length s'.1/\s'.1≠f/\∀j,inN v.length j->j<s'.2->j≠f->behind v f s'.1 j)))/\v.length-s'.2.toNat<v.length-k.toNat:=fun hx=>
       ⟨_,rfl,⟨by dsimp only;omega,by dsimp only;omega,.inr ⟨hkn,e1,fun j hj hl hne=>by
        dsimp only at hl⊢
        by_cases e:j=k
        .rw[e];exact self
        .exact hx j hj oo hne⟩⟩,by dsimp only;omega⟩
      have keep:behind v f out k->∃s',(some (.inl (out,k+1)):Option (Sum (Int×Int) Int))=some (.inl s')/\(0<=s'.2/\s'.2<=(v.length:Int)/\((s'.1 = -1/\∀j,inN v.length j->j<s'.2->j=f)\/(inN v.length s'.1/\s'.1≠f/\∀j,inN v.length j->j<s'.2->j≠f->behind v f s'.1 j)))/\v.length-s'.2.toNat<v.length-k.toNat:=fun hx=>
       ⟨_,rfl,⟨by dsimp only;omega,by dsimp only;omega,.inr ⟨g1,g2,fun j hj hl hne=>by
        dsimp only at hl⊢
        by_cases e:j=k
        .rw[e];exact hx
        .exact g3 j hj oo hne⟩⟩,by dsimp only;omega⟩
      have turn:∀j,(ph lexA 1 (plV v out)-ph lexA 1 (plV v f))*crs (plV v f) (plV v k) (plV v j)=(ph lexA 1 (plV v k)-ph lexA 1 (plV v f))*crs (plV v f) (plV v out) (plV v j)-(ph lexA 1 (plV v j)-ph lexA 1 (plV v f))*crs (plV v f) (plV v out) (plV v k):=fun j=>by
       have:=Bb9 lexA 1 (plV v f) (plV v out) (plV v k) (plV v j);rw[Ae4 (plV v f) (plV v out) (plV v j),Int.mul_neg] at this;omega
      by_cases c1:crs (plV v f) (plV v out) (plV v k)<0
      .rw[if_pos (sg.2 c1)];dsimp only;rw[if_pos rfl];refine take fun j hj hl hne=>.inl ?_
       have t:=turn j;have m2:=Int.mul_pos (show 0<ph lexA 1 (plV v j)-ph lexA 1 (plV v f) by have:=up j hj hne;omega) (show 0 < -crs (plV v f) (plV v out) (plV v k) by omega);rw[Int.mul_neg] at m2;have m1:0<=(ph lexA 1 (plV v k)-ph lexA 1 (plV v f))*crs (plV v f) (plV v out) (plV v j):=Int.mul_nonneg oo (by rcases g3 j hj hl hne with g|g <;> omega);exact Adr (x:=ph lexA 1 (plV v out)-ph lexA 1 (plV v f)) oo oo
      .rw[if_neg (fun g=>c1 (sg.1 g))]
       by_cases c2:crs (plV v f) (plV v out) (plV v k)=0
       .rw[if_pos (s0.2 c2),Ad];have nok:=Aah hv g1 hkn
        by_cases c3:Box (plV v f) (plV v out) (plV v k)
        .rw[decide_eq_true ⟨c2,c3⟩];have hko:¬befP (plV v out) (plV v k):=fun e=>Bef c2 (Ae5 ((low out g1).resolve_left g2)) e (Aah hv hf g1 (fun e=>g2 e.symm)) c3
         dsimp only;rw[if_pos (by rfl)];refine take fun j hj hl hne=>?_
         have t:=turn j;rw[c2,Int.mul_zero,Int.sub_zero] at t;rcases g3 j hj hl hne with g|⟨g,g'⟩
         .left;have m1:=Int.mul_pos (show 0<ph lexA 1 (plV v k)-ph lexA 1 (plV v f) by omega) g;exact Adr (x:=ph lexA 1 (plV v out)-ph lexA 1 (plV v f)) oo oo
         .right;rw[g,Int.mul_zero] at t;refine⟨?_,fun e=>?_⟩
          .rcases Int.mul_eq_zero.1 t with t|t
           .omega
           .exact t
          .unfold befP at *;omega
        .rw[decide_eq_false (fun g=>c3 g.2)];dsimp only;rw[if_neg s_];refine keep (.inr ⟨c2,fun e=>c3 ?_⟩);exact Bbp c2 (Ae5 ((low k hkn).resolve_left e1)) (Ae5 e)
       .rw[if_neg (fun g=>c2 (s0.1 g))];dsimp only;rw[if_neg s_];exact keep (.inl oo)
   .right;rw[if_neg hk];refine⟨_,rfl,?_⟩;rcases h3 with⟨g1,g2⟩|⟨g1,g2,g3⟩
    .have x0:(0:Int)=f:=g2 0 ⟨oo,oo⟩ oo;have x1:(1:Int)=f:=g2 1 ⟨oo,oo⟩ oo;omega
    .exact⟨g1,g2,fun j hj hne=>g3 j hj (by have:=hj.2;omega) hne⟩) (-1,0) ⟨s_,s_,.inl ⟨rfl,fun j hj hl=>by unfold inN at hj;simp only at hl;omega⟩⟩
 obtain⟨t,ht,g⟩:=this;rw[ht,Ad];exact⟨t,rfl,g⟩
end
instance:Br prog 26 0 0:=⟨.mk underlying26 rfl rfl (show prog.info? 22=some Tryz.t22 from by kernel_rfl) (show Tryz.t22.size=1 from by kernel_rfl) rfl⟩
instance:Br prog 26 1 1:=⟨.mk underlying26 rfl rfl (show prog.info? 23=some t23 from by kernel_rfl) (show t23.size=1 from by kernel_rfl) rfl⟩
instance:OneI prog 23:=⟨.mk underlying23 rfl (show prog.info? 23=some t23 from by kernel_rfl) kr⟩
instance:Br prog 26 2 2:=⟨.mk underlying26 rfl rfl (show prog.info? 24=some t24 from by kernel_rfl) (show t24.size=1 from by kernel_rfl) rfl⟩
instance:OneI prog 24:=⟨.mk underlying24 rfl (show prog.info? 24=some t24 from by kernel_rfl) kr⟩
theorem Beg(a0:Int)(a1:Int)(a2:Int)(a3:Int)(b0:Int)(b1:Int)(b2:Int)(b3:Int):∀w,(Op.equalIn 10000 108 (.agg #[iq a0,iq a1,iq a2,iq a3]) (.agg #[iq b0,iq b1,iq b2,iq b3])).run prog w=.ok (((a0==b0)&&((a1==b1)&&(((a2==b2)&&((a3==b3)&&true))&&true)))) w :=
 EqF.struct underlying108 kr (.cons rfl (fun w=>kr) (fun w=>kr) (fun w=>run_equalIn_int w 9998 3 .i64 .i64 _ _ underlying3) (.cons rfl (fun w=>kr) (fun w=>kr) (fun w=>run_equalIn_int w 9998 3 .i64 .i64 _ _ underlying3) (.cons (a:=.agg #[iq a2,iq a3]) (b:=.agg #[iq b2,iq b3]) rfl (fun w=>kr) (fun w=>kr) (EqF.struct underlying28 kr (.cons rfl (fun w=>kr) (fun w=>kr) (fun w=>run_equalIn_int w 9997 3 .i64 .i64 _ _ underlying3) (.cons rfl (fun w=>kr) (fun w=>kr) (fun w=>run_equalIn_int w 9997 3 .i64 .i64 _ _ underlying3) EqF.nil))) EqF.nil)))
instance(a0:Int)(a1:Int)(a2:Int)(a3:Int)(b0:Int)(b1:Int)(b2:Int)(b3:Int):EqSI prog 108 [iq a0,iq a1,iq a2,iq a3] [iq b0,iq b1,iq b2,iq b3] (((a0==b0)&&((a1==b1)&&(((a2==b2)&&((a3==b3)&&true))&&true)))):=⟨Beg _ _ _ _ _ _ _ _,kr⟩
instance:Ke prog 23 101 3:=⟨.mk underlying23 (show prog.info? 101=some t101 from by kernel_rfl) kr⟩
instance:AggI prog 101 3:=⟨.arr underlying101 (show prog.info? 101=some t101 from by kernel_rfl) kr⟩
theorem Beh(a0:Int)(a1:Int)(a2:Int)(b0:Int)(b1:Int)(b2:Int):∀w,(Op.equalIn 10000 101 (.agg #[iq a0,iq a1,iq a2]) (.agg #[iq b0,iq b1,iq b2])).run prog w=.ok (((a0==b0)&&((a1==b1)&&((a2==b2)&&true)))) w :=
 EqI.array (c:=1) underlying101 (show prog.info? 3=some Tryz.t3 from by kernel_rfl) kr (.cons (fun w=>kr) (fun w=>kr) (fun w=>run_equalIn_int w 9998 3 .i64 .i64 _ _ underlying3) (.cons (fun w=>kr) (fun w=>kr) (fun w=>run_equalIn_int w 9998 3 .i64 .i64 _ _ underlying3) (.cons (fun w=>kr) (fun w=>kr) (fun w=>run_equalIn_int w 9998 3 .i64 .i64 _ _ underlying3) EqI.nil)))
instance(a0:Int)(a1:Int)(a2:Int)(b0:Int)(b1:Int)(b2:Int):EqSI prog 101 [iq a0,iq a1,iq a2] [iq b0,iq b1,iq b2] (((a0==b0)&&((a1==b1)&&((a2==b2)&&true)))):=⟨Beh _ _ _ _ _ _,kr⟩
theorem Bei(a0:Int)(a1:Int)(b0:Int)(b1:Int):∀w,(Op.equalIn 10000 103 (.agg #[iq a0,iq a1]) (.agg #[iq b0,iq b1])).run prog w=.ok (((a0==b0)&&((a1==b1)&&true))) w :=
 EqI.array (c:=1) underlying103 (show prog.info? 3=some Tryz.t3 from by kernel_rfl) kr (.cons (fun w=>kr) (fun w=>kr) (fun w=>run_equalIn_int w 9998 3 .i64 .i64 _ _ underlying3) (.cons (fun w=>kr) (fun w=>kr) (fun w=>run_equalIn_int w 9998 3 .i64 .i64 _ _ underlying3) EqI.nil))
instance(a0:Int)(a1:Int)(b0:Int)(b1:Int):EqSI prog 103 [iq a0,iq a1] [iq b0,iq b1] (((a0==b0)&&((a1==b1)&&true))):=⟨Bei _ _ _ _,kr⟩
instance:UndI prog 23 (.slice 101):=⟨underlying23⟩
def Dx(p0:Ak)(p1:Ak):Int->Option (Sum Int (Sum Unit Bool)):=fun s0=>
 if s0<(p0.V.length:Int) then (bnd (idx p0.V s0) fun x0=>
 bnd (idx p1.V s0) fun x1=>
 if (((x0.X==x1.X)&&((x0.Y==x1.Y)&&(((x0.Z.Lo==x1.Z.Lo)&&((x0.Z.Hi==x1.Z.Hi)&&true))&&true))))=true then (some (.inl (w64 (s0+1))))
 else (some (.inr (.inr false))))
 else (some (.inr (.inl ())))
def Di(p0:Ak)(p1:Ak):Int->Option (Sum Int (Sum Unit Bool)):=fun s0=>
 if s0<(p0.T.length:Int) then (bnd (idx p0.T s0) fun x0=>
 bnd (idx p1.T s0) fun x1=>
 if (((x0.a0==x1.a0)&&((x0.a1==x1.a1)&&((x0.a2==x1.a2)&&true))))=true then (some (.inl (w64 (s0+1))))
 else (some (.inr (.inr false))))
 else (some (.inr (.inl ())))
def Jf(p0:Ak):Int->Option (Sum Int Unit):=fun s0=>
 if s0<(p0.Lines.length:Int) then none
 else (some (.inr ()))
def Ka(p0:Ak)(p1:Ak):Option Bool :=
 jn (fun (s3:Bool)=>
 if s3=true then (some false)
 else (jn (fun (s5:Unit)=>
 jn (fun (s0:Unit)=>
 jn (fun (s1:Unit)=>
 some true)
 (fun j0=>bnd (lfix (Jf p0) 0) fun t0=>
 j0 t0))
 (fun j1=>bnd (lfix (Di p0 p1) 0) fun t1=>
 (match t1 with
 |(.inl z0)=>j1 z0
 |(.inr z0)=>some z0
 )))
 (fun j5=>bnd (lfix (Dx p0 p1) 0) fun t2=>
 (match t2 with
 |(.inl z1)=>j5 z1
 |(.inr z1)=>some z1
 ))))
 (fun j3=>if (p0.V.length:Int)=(p1.V.length:Int) then (if (p0.T.length:Int)=(p1.T.length:Int) then (j3 (!(decide ((p0.Lines.length:Int)=(p1.Lines.length:Int)))))
 else (j3 true))
 else (j3 true))
instance(p0:Ak)(p1:Ak):Con (Ka p0 p1) prog 83 (fun K vs=>∃U0 E0 U1 E1 U2 E2 U3 E3 U4 E4 U5 E5,vs=[.agg #[.slice U0 p0.V.length E0,.slice U1 p0.T.length E1,.slice U2 p0.Lines.length E2],.agg #[.slice U3 p1.V.length E3,.slice U4 p1.T.length E4,.slice U5 p1.Lines.length E5]]/\Has K U0 p0.V.length E0 4 Al p0.V/\Has K U1 p0.T.length E1 3 Az p0.T/\Has K U2 p0.Lines.length E2 2 Ar p0.Lines/\Has K U3 p1.V.length E3 4 Al p1.V/\Has K U4 p1.T.length E4 3 Az p1.T/\Has K U5 p1.Lines.length E5 2 Ar p1.Lines/\True) (fun _ r=>fun v Ln=>v=.bool r/\Ln=[]/\True):=⟨by
 rintro K _ r ⟨U0,E0,U1,E1,U2,E2,U3,E3,U4,E4,U5,E5,rfl,ha0,ha1,ha2,ha3,ha4,ha5,-⟩ hx w hK;replace ha0:=ha0.lo hK;replace ha1:=ha1.lo hK;replace ha2:=ha2.lo hK;replace ha3:=ha3.lo hK;replace ha4:=ha4.lo hK;replace ha5:=ha5.lo hK;unfold Ka at hx;have:=dl 6 [0,1,0,0,1,0,1,0,0,1,0] [0,1,2,3,4,5,6,7,8,9,10];have:=dl 12 [0,1,0,0,1,0,1,0,0,1,0] [0,1,2,3,4,5,6,7,8,9,10];refine CtS ntmps83 results83 ?_;refine pq ?_;intros;rename_i hx
 refine pA ?_;intros;rename_i hx
 refine pA ?_;intros;rename_i hx
 apply Jr (γ:=Unit) hx [2,3] (fun s3 y3 f=>(32,.bool s3)::f) [0,1,999] (fun s3 y3 l=>l);exact kk
 .intro s3 y3 hx;refine Cq3 (s:=32) hx rfl ?_ ?_
  .exact aI
  .refine pI ?_;intros;rename_i hx
   apply Jr (γ:=Unit) hx [2,3] (fun s5 y5 f=>f) [0,1,999] (fun s5 y5 l=>l);exact kk
   .intro s5 y5 hx;apply Jr (γ:=Unit) hx [2,3] (fun s0 y0 f=>f) [0,1,999] (fun s0 y0 l=>l);exact kk
    .intro s0 y0 hx;apply Jr (γ:=Unit) hx [] (fun s1 y1 f=>f) [999] (fun s1 y1 l=>l);exact kk
     .exact aI
     .refine pI ?_;intros;rename_i hx
      apply Lr (γ:=Unit) hx [2,3,71] (fun s2 y2 f=>(72,iq s2)::f) [0,1,999] (fun s2 y2 l=>l) ();exact kk;exact sk;intro s2 y2 x0 hx _;unfold Jf at hx;exact au
    .refine pI ?_;intros;rename_i hx
     apply Lr (γ:=Unit) hx [2,3,53] (fun s4 y4 f=>(54,iq s4)::f) [0,1,999] (fun s4 y4 l=>l) ();exact kk;exact sk;intro s4 y4 x1 hx _;unfold Di at hx;exact au
   .refine pI ?_;intros;rename_i hx
    apply Lr (γ:=Unit) hx [2,3,35] (fun s6 y6 f=>(36,iq s6)::f) [0,1,999] (fun s6 y6 l=>l) ();exact kk;exact sk;intro s6 y6 x2 hx _;unfold Dx at hx;exact au
 .exact aI⟩
end
end Go.Proofs.YthlkpgdfifnagaaGreat
