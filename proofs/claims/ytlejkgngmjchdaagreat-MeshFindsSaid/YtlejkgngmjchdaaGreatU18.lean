import Derived.Test.YtlejkgngmjchdaaGreatU12
namespace Go.Proofs.YtlejkgngmjchdaaGreat
open Go Go.RowKit List
noncomputable section
structure Ao0(v:List Aa)(a b:Int)(m0 m:Mp):Prop where
 map:MapN v.length m
 tri:Tri (plV v) (inN v.length) (apM m)
 cov:Cov (plV v) (inN v.length) (apM m)
 ne:m≠[]
 side:Uk (apM m) a b
 keep:∀x y,¬Cr v a b x y->¬Cr v a b y x->Uk (apM m0) x y->Uk (apM m) x y
section
variable {v:List Aa}{a b:Int}{F:List (Ab×Bool)}{m0:Mp}
abbrev FS:=List Aa×Mp×(List (Ab×Bool))×List Ab
abbrev FG:=Nat×(Nat->Int)×(Nat->Int)×LM
theorem Ao1(hv:Ci v)(hn:v.length<=1024)(ha:inN v.length a)(hb:inN v.length b)(hf:Free v a b){m:Mp}{q:List Ab}{M:Nat}{u w:Nat->Int}{π:List Nat}(h:Ur v a b m0 m q M u w π):
  ∃m',lfix (Ce ⟨a,b⟩) (v,m,F,q)=some (v,m',F)/\Ao0 v a b m0 m':=by
 have key:=An8 (B:=Ce ⟨a,b⟩) (γ:=FG)
  (fun (s:FS) g=>s.1=v/\s.2.2.1=F/\Ur v a b m0 s.2.1 s.2.2.2 g.1 g.2.1 g.2.2.1 g.2.2.2)
  (fun s g s' g'=>g'.1<g.1\/(g'.1=g.1/\∃i l,g.2.2.2=i::l/\g'.2.2.2=l++[i]/\((Yj (plV v) (apM s.2.1) g.2.1 g.2.2.1 i/\apM s'.2.1=apM s.2.1/\g'.2.1=g.2.1/\g'.2.2.1=g.2.2.1)\/Acs (plV v) (inN v.length) g.1 (apM s.2.1) g.2.1 g.2.2.1 i (apM s'.2.1) g'.2.1 g'.2.2.1)))
  (fun t=>∃m',t=(v,m',F)/\Ao0 v a b m0 m')
  (by
   rintro⟨v',m,F',q⟩ ⟨M,u,w,π⟩ ⟨e1,e2,h⟩;dsimp only at e1 e2 h;subst e1 e2;cases π with
   |nil=>
    left;have h0:M=0:=by
     rcases Nat.eq_zero_or_pos M with g|g
     .exact g
     .have:=(h.all 0).2 g;cases this
    refine⟨(v',m,F'),?_,m,rfl,⟨h.map,h.tri,h.cov,h.ne,h.fin h0,h.keep⟩⟩;have hq:=h.que;rw[map_nil] at hq;unfold Ce;rw[hq,iN s_]
   |cons i π=>
    right;obtain⟨m',q',M',u',w',π',g1,g2,g3⟩:=h.round hv hn ha hb hf (F:=F');refine⟨(v',m',F',q'),(M',u',w',π'),g1,⟨rfl,rfl,g2⟩,?_⟩;dsimp only;rcases g3 with g3|⟨k1,k2,k3⟩
    .exact .inl g3
    .exact .inr ⟨k1,i,π,rfl,k2,k3⟩)
  (by
   intro f hI hR;obtain⟨T,hT⟩:=Agl (m:=fun n=>(f n).2.1) (fun n=>by
    rcases hR n with g|⟨g,_⟩
    .exact Nat.le_of_lt g
    .exact Nat.le_of_eq g)
   have hM:∀t,(f (T+t)).2.1=(f T).2.1:=fun t=>hT (T+t) oo
   have hst:∀t,∃i l,(f (T+t)).2.2.2.2=i::l/\(f (T+(t+1))).2.2.2.2=l++[i]/\((Yj (plV v) (apM (f (T+t)).1.2.1) (f (T+t)).2.2.1 (f (T+t)).2.2.2.1 i/\apM (f (T+(t+1))).1.2.1=apM (f (T+t)).1.2.1/\(f (T+(t+1))).2.2.1=(f (T+t)).2.2.1/\(f (T+(t+1))).2.2.2.1=(f (T+t)).2.2.2.1)\/Acs (plV v) (inN v.length) (f (T+t)).2.1 (apM (f (T+t)).1.2.1) (f (T+t)).2.2.1 (f (T+t)).2.2.2.1 i (apM (f (T+(t+1))).1.2.1) (f (T+(t+1))).2.2.1 (f (T+(t+1))).2.2.2.1):=fun t=>by
    have h1:=hM t;have h2:=hM (t+1);have:=hR (T+t);rw[show T+t+1=T+(t+1) by omega] at this;rcases this with g|⟨_,g⟩
    .omega
    .exact g
   have hm:∀t i,i∈(f (T+t)).2.2.2.2↔i<(f T).2.1:=fun t i=>by rw[<-hM t];exact (hI (T+t)).2.2.all i
   obtain⟨w1,w2,w3⟩:=Asg (π:=fun t=>(f (T+t)).2.2.2.2) (m:=(f T).2.1) (fun t=>by
    obtain⟨i,l,g1,g2,_⟩:=hst t;exact⟨i,l,g1,g2⟩) (fun t=>(hI (T+t)).2.2.nd) hm
   have h0:0<(f T).2.1:=by
    have:=w3 0;omega
   refine Awb (V:=inN v.length) (P:=plV v) (a:=a) (b:=b) (m:=(f T).2.1) (apt:=fun t=>apM (f (T+t)).1.2.1) (ut:=fun t=>(f (T+t)).2.2.1) (wt:=fun t=>(f (T+t)).2.2.2.1) (s:=fun t=>((f (T+t)).2.2.2.2).headD 0) h0 (hI (T+0)).2.2.tri (hI (T+0)).2.2.strip w1 w2 w3 (fun t=>?_);obtain⟨i,l,g1,g2,g3⟩:=hst t;rw[g1,headD_cons];rw[hM t] at g3;exact g3)
  (v,m,F,q) (M,u,w,π) ⟨rfl,rfl,h⟩
 obtain⟨t,h1,m',rfl,h2⟩:=key;exact⟨m',h1,h2⟩
end
section
variable {v:List Aa}{m:Mp}
theorem Ai1(hm:MapN v.length m)(ht:Tri (plV v) (inN v.length) (apM m)){s:Ab}:s∈m.flatMap (Iy m)↔∃x y,Uk (apM m) x y/\s=pr2 x y:=by
 rw[mem_flatMap];constructor
 .rintro⟨⟨⟨x,y⟩,z⟩,hq,hs⟩;unfold Iy at hs;split at hs
  .rw[mem_singleton] at hs;refine⟨x,y,.inl ?_,hs⟩;have:apM m x y=some z:=Nv hm.ok hq;rw[this];simp
  .cases hs
 ·have one:∀ x y z,apM m x y=some z->∃ a∈m,pr2 x y∈Iy m a:=fun x y z h=>by
   by_cases c:x<y\/(mget m ⟨y,x⟩).isSome=false
   .refine⟨(⟨x,y⟩,z),Er h,?_⟩;unfold Iy rev2;rw[iP c];exact mem_singleton.2 rfl
   ·have c2:(mget m ⟨y,x⟩).isSome=true:=by
     cases e:(mget m ⟨y,x⟩).isSome with
     |true=>rfl
     |false=>exact absurd (.inr e) c
    obtain⟨z',hz'⟩:=Option.isSome_iff_exists.1 c2;refine⟨(⟨y,x⟩,z'),Er hz',?_⟩;unfold Iy rev2;have hne:=(ht.ne h).1;have hxy:¬x<y:=fun g=>c (.inl g)
    rw[iP (.inl (oo:y<x)),Oa];exact mem_singleton.2 rfl
  rintro⟨x,y,h|h,rfl⟩
  .obtain⟨z,hz⟩:=Option.ne_none_iff_exists'.1 h;exact one x y z hz
  .obtain⟨z,hz⟩:=Option.ne_none_iff_exists'.1 h;rw[Oa];exact one y x z hz
theorem Am4(ht:Tri (plV v) (inN v.length) (apM m)):∀l:Mp,Ep l->(∀q∈l,q∈m)->(∀q∈l,apM m q.1.a0 q.1.a1=some q.2)->(l.flatMap (Iy m)).Nodup:=by
 intro l
 induction l with
 |nil=>intro _ _ _;exact List.Pairwise.nil
 |cons q r ih=>
  intro hl hsub hval;obtain⟨h1,h2⟩:=pairwise_cons.1 hl;rw[flatMap_cons,nodup_append];refine⟨?_,ih h2 (fun q hq=>hsub q (mO _ hq)) (fun q hq=>hval q (mO _ hq)),fun x hx y hy e=>?_⟩
  .unfold Iy;split
   .simp
   .exact List.Pairwise.nil
  .subst e;obtain⟨q',hq',hy⟩:=mem_flatMap.1 hy;have n1:=h1 q' hq';have v1:=hval q mS;have v2:=hval q' (mO _ hq');obtain⟨⟨x0,x1⟩,z⟩:=q;obtain⟨⟨y0,y1⟩,z'⟩:=q';have e1:=(ht.ne v1).1;have e2:=(ht.ne v2).1;unfold Iy rev2 at hx hy;dsimp only at *;split at hx
   .rename_i c1;split at hy
    .rename_i c2;rw[mem_singleton] at hx hy;rw[hx] at hy;rcases Ahb (i:=x0) (j:=x1) (a:=y0) (b:=y1) hy with⟨k1,k2⟩|⟨k1,k2⟩
     .subst k1 k2;exact n1 rfl
     .subst k1 k2;rcases c1 with c1|c1
      .rcases c2 with c2|c2
       .omega
       .have:mget m ⟨x0,x1⟩=some z:=v1;rw[this] at c2;cases c2
      .have:mget m ⟨x1,x0⟩=some z':=v2;rw[this] at c1;cases c1
    .cases hy
   .cases hx
end
section
variable {v:List Aa}{a b:Int}{F:List (Ab×Bool)}{m:Mp}
def crB(v:List Aa)(a b:Int)(s:Ab):Bool:=decide (Hu v a b s.a0 s.a1)
theorem Am5(hv:Ci v)(ha:inN v.length a)(hb:inN v.length b)(l:List Ab)(hl:l.length<=1048576)(hin:∀ s∈l,inN v.length s.a0/\inN v.length s.a1):
  lfix (Ie (⟨v,m,F⟩,l) ⟨a,b⟩) ([],0)=some (v,m,F,l.filter (crB v a b)):=by
 obtain⟨t,ht,hR⟩:=Bp (B:=Ie (⟨v,m,F⟩,l) ⟨a,b⟩) (fun s=>l.length-s.2.toNat)
  (fun s=>∃k:Nat,s=((l.take k).filter (crB v a b),(k:Int))/\k<=l.length)
  (fun t=>t=(v,m,F,l.filter (crB v a b))) (by
   rintro s ⟨k,rfl,hk⟩;unfold Ie;dsimp only
   by_cases hlt:k<l.length
   .left;obtain⟨h1,h2⟩:=hin _ (gM hlt);have hle:((l.take k).filter (crB v a b)).length<=1048576:=Nat.le_trans (length_filter_le _ _) (by simp;omega);refine⟨((l.take (k+1)).filter (crB v a b),((k+1:Nat):Int)),?_,⟨k+1,rfl,oo⟩,by simp;omega⟩;rw[iP oo,jn_d,Az hlt,Ac,Zu hv (k:=⟨a,b⟩) (l:=l[k]) ha hb h1 h2,Ac,Bd oo,take_add_one,gE hlt,Option.toList_some,filter_append]
    by_cases c:Hu v a b l[k].a0 l[k].a1
    .rw[iP (dT c),gd_t oo];have:crB v a b l[k]=true:=dT c;rw[filter_cons_of_pos this,filter_nil]
    .rw[iN (by rw[dQ];exact c)];have:¬crB v a b l[k]=true:=by unfold crB;rw[dQ];exact c
     rw[filter_cons_of_neg this,filter_nil,append_nil]
   .right;obtain rfl:k=l.length:=oo;exact⟨_,by rw[iN oo],s_⟩)
  ([],0) ⟨0,s_,oo⟩
 rw[ht,hR]
theorem Am6(hv:Ci v)(hn:v.length<=1024)(hm:MapN v.length m)(ht:Tri (plV v) (inN v.length) (apM m))(hc:Cov (plV v) (inN v.length) (apM m))(hne:m≠[])(ha:inN v.length a)(hb:inN v.length b)(hab:a≠b)(hf:Free v a b):
  ∃M u w π,Ur v a b m m ((Ba cmp2 (m.flatMap (Iy m))).filter (crB v a b)) M u w π:=by
 obtain⟨M,u,w,hs,hfin,hall⟩:=Awf hv ht hc ha hb hab hf (Agi hv hm ht hc hne ha hb);have pm:=Dk cmp2 (m.flatMap (Iy m));have nds:(m.flatMap (Iy m)).Nodup:=Am4 ht m hm.ok (fun q h=>h) (fun q hq=>Nv hm.ok hq);have hf1:∀q,(Iy m q).length<=1:=fun q=>by unfold Iy;split <;> simp
 have hl1:=Jh hf1 m;have hl2:=hm.len;have hl3:=Abg hn;have hq:∀s,s∈(Ba cmp2 (m.flatMap (Iy m))).filter (crB v a b)↔∃i,i<M/\pr2 (u i) (w i)=s:=fun s=>by
  rw[mem_filter,Hc,Ai1 hm ht];constructor
  .rintro⟨⟨x,y,h1,rfl⟩,h2⟩;unfold crB at h2;rw[dQ,Agm ht ha hb hf h1] at h2;rcases h2 with h2|h2
   .obtain⟨i,hi,rfl,rfl⟩:=hall x y h2 h1;exact⟨i,hi,rfl⟩
   .obtain⟨i,hi,rfl,rfl⟩:=hall y x h2 h1.symm;exact⟨i,hi,Oa _ _⟩
  .rintro⟨i,hi,rfl⟩;obtain⟨k,hk⟩:=hs.someR hi;have h1:Uk (apM m) (u i) (w i):=.inl (by rw[hk];simp);refine⟨⟨u i,w i,h1,rfl⟩,?_⟩;unfold crB;rw[dQ,Agm ht ha hb hf h1];exact .inl (hs.cr ht i hi)
 haveI:∀s,Decidable (∃i,i<M/\pr2 (u i) (w i)=s):=fun _=>Classical.propDecidable _
 let ix:Ab->Nat:=fun s=>if h:∃i,i<M/\pr2 (u i) (w i)=s then Classical.choose h else 0
 have hix:∀s∈(Ba cmp2 (m.flatMap (Iy m))).filter (crB v a b),ix s<M/\pr2 (u (ix s)) (w (ix s))=s:=fun s h=>by
  have h':=(hq s).1 h;have e:ix s=Classical.choose h':=dif_pos h';rw[e];exact Classical.choose_spec h'
 have ndq:((Ba cmp2 (m.flatMap (Iy m))).filter (crB v a b)).Nodup:=(pm.nodup_iff.2 nds).filter _;refine⟨M,u,w,((Ba cmp2 (m.flatMap (Iy m))).filter (crB v a b)).map ix,hm,ht,hc,hne,hs,?_,fun i=>?_,?_,hfin,fun _ _ _ _ h=>h,?_⟩
 .exact Un (fun x hx y hy e=>by rw[<-(hix x hx).2,<-(hix y hy).2,e]) ndq
 .rw[mem_map];constructor
  .rintro⟨s,h,rfl⟩;exact (hix s h).1
  .intro hi;have hmem:=(hq _).2 ⟨i,hi,rfl⟩;exact⟨_,hmem,hs.pr_inj (hix _ hmem).1 hi (hix _ hmem).2⟩
 .rw[map_map];have:((Ba cmp2 (m.flatMap (Iy m))).filter (crB v a b)).map ((fun i=>pr2 (u i) (w i)) ∘ ix)=((Ba cmp2 (m.flatMap (Iy m))).filter (crB v a b)).map id:=map_congr_left fun s h=>(hix s h).2
  rw[this,map_id]
 .rw[length_map];refine Nat.le_trans (length_filter_le _ _) ?_;rw[pm.length_eq];omega
theorem Axv(hv:Ci v)(hn:v.length<=1024)(hm:MapN v.length m)(ht:Tri (plV v) (inN v.length) (apM m))(hc:Cov (plV v) (inN v.length) (apM m))(hne:m≠[])(ha:inN v.length a)(hb:inN v.length b)(hab:a≠b)(hf:Free v a b)(hF:F.length<=1000000000):
  ∃m',Iv ⟨v,m,F⟩ ⟨a,b⟩=some ⟨v,m',mput F ⟨a,b⟩ true⟩/\Ao0 v a b m m':=by
 obtain⟨M,u,w,π,h⟩:=Am6 hv hn hm ht hc hne ha hb hab hf;obtain⟨m',h1,h2⟩:=Ao1 (F:=F) hv hn ha hb hf h;have hf1:∀q,(Iy m q).length<=1:=fun q=>by unfold Iy;split <;> simp
 have hl1:=Jh hf1 m;have hl2:=hm.len;have hl3:=Abg hn;refine⟨m',?_,h2⟩;unfold Iv;rw[jn_d,Ald (b:=⟨v,m,F⟩) hn hm,Ac,Am5 hv ha hb _ (by rw[(Dk _ _).length_eq];dsimp only;omega) (fun s hs=>?_),Ac]
 .dsimp only;rw[jn_d,h1,Ac];dsimp only;rw[gd_t (Ok hn ha hb),gd_t oo]
 .rw[Hc,Ai1 hm ht] at hs;obtain⟨x,y,hs,rfl⟩:=hs;rcases hs with hs|hs <;> obtain⟨z,hz⟩:=Option.ne_none_iff_exists'.1 hs <;> obtain⟨p,q,_⟩:=ht.ccw _ _ _ hz
  .exact Yl p q
  .exact Yl q p
end
def prL(s:Ab):Ab:=pr2 s.a0 s.a1
def okL(v:List Aa)(s:Ab):Prop:=inN v.length s.a0/\inN v.length s.a1/\s.a0≠s.a1
def Lin1(v:List Aa)(l:List Ab):Prop:=(∀s∈l,okL v s)/\(l.map prL).Nodup
def Lin2(v:List Aa)(l:List Ab):Prop:=(∀s∈l,∀k,inN v.length k->¬BtwF (plV v s.a0) (plV v s.a1) (plV v k))/\l.Pairwise fun x y=>¬Hu v x.a0 x.a1 y.a0 y.a1
instance(v:List Aa)(l:List Ab):Decidable (Lin1 v l):=Classical.propDecidable _
instance(v:List Aa)(l:List Ab):Decidable (Lin2 v l):=Classical.propDecidable _
def Pe(v:List Aa)(l:List Ab):Int:=if Lin1 v l then if Lin2 v l then 0 else 63 else 62
section
variable {v:List Aa}{l:List Ab}
theorem Cq{α:Type}{l:List α}{k:Nat}(h:k<l.length):l.take (k+1)=l.take k++[l[k]]:=by
 rw[take_add_one,gE h];rfl
theorem Vx{α:Type}{l:List α}{x:α}:(l++[x]).Nodup↔l.Nodup/\x∉l:=by
 rw[nodup_append];constructor
 .rintro⟨h1,_,h3⟩;exact⟨h1,fun h=>h3 x h x s_ rfl⟩
 .rintro⟨h1,h2⟩;exact⟨h1,s_,fun a ha b hb e=>h2 (by rw[mem_singleton] at hb;rw[<-hb,<-e];exact ha)⟩
structure L3(v:List Aa)(l:List Ab)(mp:List (Ab×Bool))(k:Nat):Prop where
 le:k<=l.length
 ok:Ep mp
 len:mp.length<=k
 get:∀p,(mget mp p).getD false=true↔p∈(l.take k).map prL
 lin:Lin1 v (l.take k)
theorem Ate(hn:v.length<=1024)(hl:l.length<=1000000):lfix (Lq l v) ([],0)=some (if Lin1 v l then .inl () else .inr 62):=by
 obtain⟨t,ht,hR⟩:=Bp (B:=Lq l v) (fun s=>l.length-s.2.toNat)
  (fun s=>∃(mp:List (Ab×Bool)) (k:Nat),s=(mp,(k:Int))/\L3 v l mp k)
  (fun t=>t=if Lin1 v l then .inl () else .inr 62) (by
   rintro s ⟨mp,k,rfl,h⟩;unfold Lq;dsimp only;have hle:=h.le
   by_cases hlt:k<l.length
   .have hm:l[k]∈l:=gM hlt;rw[iP oo,Az hlt,Ac,jn_d]
    by_cases ho:okL v l[k]
    .obtain⟨h1,h2,h3⟩:=ho;have hr:=Yl h1 h2;have e:Gp l[k].a0 l[k].a1=some (prL l[k]):=rfl;have hr':inN v.length (prL l[k]).a0/\inN v.length (prL l[k]).a1:=hr;rw[iN (by have:=h1.1;omega),iN (by have:=h2.1;omega),iN (by have:=h1.2;omega),iN (by have:=h2.2;omega),iN h3,e,Ac,gd_t (Ok hn hr'.1 hr'.2),Ac];dsimp only
     by_cases c:prL l[k]∈(l.take k).map prL
     .right;refine⟨.inr 62,by rw[iP ((h.get _).2 c)],?_⟩;rw[iN];rintro⟨_,hnd⟩;have hs:List.Sublist ((l.take (k+1)).map prL) (l.map prL):=(take_sublist _ _).map _;have:=hnd.sublist hs;rw[Cq hlt,map_append,map_singleton,Vx] at this;exact this.2 c
     ·left;have hf:(mget mp (prL l[k])).getD false=false:=by
       cases g:(mget mp (prL l[k])).getD false with
       |false=>rfl
       |true=>exact absurd ((h.get _).1 g) c
      have hlen:=h.len;refine⟨(mput mp (prL l[k]) true,((k+1:Nat):Int)),?_,⟨mput mp (prL l[k]) true,k+1,rfl,⟨oo,h.ok.put _ _,?_,fun p=>?_,?_⟩⟩,by simp;omega⟩
      .rw[hf,iN s_,Ac,gd_t (Ok hn hr'.1 hr'.2),gd_t oo,Bd oo]
      .unfold mput;have:(mdel mp (prL l[k])).length<=mp.length:=length_filter_le _ _;rw[length_cons];omega
      .rw[Rl h.ok,Cq hlt,map_append,map_singleton,mem_append,mem_singleton]
       by_cases e:p=prL l[k]
       .simp[e]
       .rw[iN e,h.get p];simp[e]
      .rw[Cq hlt];refine⟨fun s hs=>?_,?_⟩
       .rcases mem_append.1 hs with hs|hs
        .exact h.lin.1 s hs
        .rw[mem_singleton] at hs;rw[hs];exact⟨h1,h2,h3⟩
       .rw[map_append,map_singleton,Vx];exact⟨h.lin.2,c⟩
    .right;have hno:¬Lin1 v l:=fun g=>ho (g.1 _ hm)
     refine⟨.inr 62,?_,by rw[iN hno]⟩;unfold okL inN at ho
     by_cases c1:l[k].a0<0
     .rw[iP c1];rfl
     .rw[iN c1]
      by_cases c2:l[k].a1<0
      .rw[iP c2];rfl
      .rw[iN c2]
       by_cases c3:(v.length:Int)<=l[k].a0
       .rw[iP c3];rfl
       .rw[iN c3]
        by_cases c4:(v.length:Int)<=l[k].a1
        .rw[iP c4];rfl
        .rw[iN c4,iP oo];rfl
   .right;obtain rfl:k=l.length:=oo;refine⟨.inl (),by rw[iN oo],?_⟩;have:=h.lin;rw[take_length] at this;rw[iP this])
  ([],0) ⟨[],0,rfl,⟨oo,List.Pairwise.nil,s_,fun p=>by simp[mget],⟨fun s hs=>by simp at hs,s_⟩⟩⟩
 rw[ht,hR]
theorem Ao2(hv:Ci v)(hn:v.length<=1024){x:Ab}(h1:inN v.length x.a0)(h2:inN v.length x.a1):
  (lfix (Fd v x) 0=some (.inl ())/\∀k,inN v.length k->¬BtwF (plV v x.a0) (plV v x.a1) (plV v k))\/(lfix (Fd v x) 0=some (.inr 63)/\∃k,inN v.length k/\BtwF (plV v x.a0) (plV v x.a1) (plV v k)):=by
 haveI:∀p q r,Decidable (BtwF p q r):=fun _ _ _=>Classical.propDecidable _
 obtain⟨x0,i0,e0⟩:=Aaw h1;obtain⟨x1,i1,e1⟩:=Aaw h2;have L:=Tg (β:=Unit) (γ:=Int) v.length oo (fun k=>decide (BtwF (plV v x.a0) (plV v x.a1) (plV v (k:Int)))) (Fd v x) () 63 (fun k hk=>by
  unfold Fd Df;have hp:(⟨v[k].X,v[k].Y⟩:Ad)=plV v (k:Int):=(Vw hk).symm;rw[iP oo,Az hk,Ac,i0,Ac,i1,Ac,Ac,Ac,Ac,e0,e1,hp,Vn (hv.ok _ h1) (hv.ok _ h2) (hv.ok _ ⟨oo,oo⟩),Ac,Bd oo]) (by
  unfold Fd;rw[iN oo])
 rw[L]
 by_cases c:∃k,inN v.length k/\BtwF (plV v x.a0) (plV v x.a1) (plV v k)
 .right;refine⟨?_,c⟩;obtain⟨k,⟨k0,k1⟩,hk⟩:=c;rw[iP];rw[any_eq_true];exact⟨k.toNat,mem_range.2 oo,by rw[dQ,Int.toNat_of_nonneg k0];exact hk⟩
 .left;refine⟨?_,fun k hk g=>c ⟨k,hk,g⟩⟩;rw[iN];rw[any_eq_true];rintro⟨k,hk,g⟩;rw[dQ] at g;exact c ⟨(k:Int),⟨oo,by have:=mem_range.1 hk;omega⟩,g⟩
theorem Ao3(hv:Ci v)(hl:l.length<=1000000)(hok:∀ s∈l,okL v s){i:Nat}(hi:i<l.length):
  (lfix (Hm (i:Int) v l[i]) (l.take i,0)=some (.inl ())/\∀x∈l.take i,¬Hu v x.a0 x.a1 l[i].a0 l[i].a1)\/(lfix (Hm (i:Int) v l[i]) (l.take i,0)=some (.inr 63)/\∃x∈l.take i,Hu v x.a0 x.a1 l[i].a0 l[i].a1):=by
 obtain⟨h1,h2,_⟩:=hok _ (gM hi);obtain⟨t,ht,hR⟩:=Bp (B:=Hm (i:Int) v l[i]) (fun s=>i-s.2.toNat)
  (fun s=>∃k:Nat,s=(l.take i,(k:Int))/\k<=i/\∀x∈(l.take i).take k,¬Hu v x.a0 x.a1 l[i].a0 l[i].a1)
  (fun t=>(t=.inl ()/\∀x∈l.take i,¬Hu v x.a0 x.a1 l[i].a0 l[i].a1)\/(t=.inr 63/\∃x∈l.take i,Hu v x.a0 x.a1 l[i].a0 l[i].a1)) (by
   rintro s ⟨k,rfl,hk,hno⟩;unfold Hm;dsimp only;have hlen:(l.take i).length=i:=by simp;omega
   by_cases hlt:k<i
   .have hlt':k<(l.take i).length:=oo;obtain⟨q1,q2,_⟩:=hok _ (mem_of_mem_take (gM hlt'));rw[iP oo,Az hlt',Ac,Zu hv q1 q2 h1 h2,Ac]
    by_cases c:Hu v (l.take i)[k].a0 (l.take i)[k].a1 l[i].a0 l[i].a1
    .right;exact⟨.inr 63,by rw[iP (dT c)],.inr ⟨rfl,_,gM hlt',c⟩⟩
    .left;refine⟨(l.take i,((k+1:Nat):Int)),by rw[iN (by rw[dQ];exact c),Bd oo],⟨k+1,rfl,oo,fun x hx=>?_⟩,by simp;omega⟩;rw[Cq hlt',mem_append,mem_singleton] at hx;rcases hx with hx|rfl
     .exact hno x hx
     .exact c
   .right;obtain rfl:k=i:=oo;refine⟨.inl (),by rw[iN oo],.inl ⟨rfl,fun x hx=>hno x ?_⟩⟩
    rwa [take_of_length_le oo])
  (l.take i,0) ⟨0,rfl,oo,s_⟩
 rcases hR with⟨rfl,h⟩|⟨rfl,h⟩
 .exact .inl ⟨ht,h⟩
 .exact .inr ⟨ht,h⟩
theorem Ao4(hv:Ci v)(hn:v.length<=1024)(hl:l.length<=1000000)(hok:∀s∈l,okL v s):lfix (Ju l v) 0=some (if Lin2 v l then .inl () else .inr 63):=by
 obtain⟨t,ht,hR⟩:=Bp (B:=Ju l v) (fun s=>l.length-s.toNat)
  (fun s=>∃k:Nat,s=(k:Int)/\k<=l.length/\Lin2 v (l.take k))
  (fun t=>t=if Lin2 v l then .inl () else .inr 63) (by
   rintro s ⟨k,rfl,hk,h⟩;unfold Ju
   by_cases hlt:k<l.length
   .obtain⟨h1,h2,_⟩:=hok _ (gM hlt);rw[iP oo,jn_d,Az hlt,Ac,jn_d];rcases Ao2 hv hn h1 h2 with⟨e,g⟩|⟨e,g⟩
    .rw[e,Ac];dsimp only;rw[gd_t ⟨oo,oo⟩,show subl l 0 (k:Int)=l.take k from by rw[Ak5];simp];rcases Ao3 hv hl hok hlt with⟨e2,g2⟩|⟨e2,g2⟩
     .left;rw[e2,Ac];refine⟨((k+1:Nat):Int),by dsimp only;rw[Bd oo],⟨k+1,rfl,oo,?_⟩,by simp;omega⟩;rw[Cq hlt];refine⟨fun s hs=>?_,?_⟩
      .rcases mem_append.1 hs with hs|hs
       .exact h.1 s hs
       .rw[mem_singleton] at hs;rw[hs];exact g
      .rw[pairwise_append];exact⟨h.2,s_,fun x hx y hy=>by rw[mem_singleton] at hy;rw[hy];exact g2 x hx⟩
     .right;rw[e2,Ac];refine⟨.inr 63,rfl,?_⟩;rw[iN];rintro⟨_,hp⟩;obtain⟨x,hx,hc⟩:=g2;have:=hp.sublist (take_sublist (k+1) l);rw[Cq hlt,pairwise_append] at this;exact this.2.2 x hx l[k] s_ hc
    .right;rw[e,Ac];refine⟨.inr 63,rfl,?_⟩;rw[iN];rintro⟨hp,_⟩;obtain⟨z,hz,hb⟩:=g;exact hp _ (gM hlt) z hz hb
   .right;obtain rfl:k=l.length:=oo;refine⟨.inl (),by rw[iN oo],?_⟩;rw[take_length] at h;rw[iP h])
  0 ⟨0,rfl,oo,⟨fun s hs=>by simp at hs,s_⟩⟩
 rw[ht,hR]
theorem Ah0(hv:Ci v)(hn:v.length<=1024)(hl:l.length<=1000000):Pf v l=some (Pe v l):=by
 unfold Pf Pe;rw[jn_d,Ate hn hl,Ac]
 by_cases c1:Lin1 v l
 .rw[iP c1,iP c1];dsimp only;rw[jn_d,Ao4 hv hn hl c1.1,Ac]
  by_cases c2:Lin2 v l
  .rw[iP c2,iP c2]
  .rw[iN c2,iN c2]
 .rw[iN c1,iN c1]
end
section
variable {v:List Aa}{l:List Ab}
theorem Am7(hl:l.length<=1000000)(hs:∀s∈l.map prL,Oe s):Ug l=some (Ba cmp2 (l.map prL)):=by
 obtain⟨t,ht,hR⟩:=Bp (B:=Tk l) (fun s=>l.length-s.2.toNat)
  (fun s=>∃k:Nat,s=((l.take k).map prL,(k:Int))/\k<=l.length)
  (fun t=>t=l.map prL) (by
   rintro s ⟨k,rfl,hk⟩;unfold Tk;dsimp only
   by_cases hlt:k<l.length
   .left;refine⟨((l.take (k+1)).map prL,((k+1:Nat):Int)),?_,⟨k+1,rfl,oo⟩,by simp;omega⟩;rw[iP oo,Az hlt,Ac,show Gp l[k].a0 l[k].a1=some (prL l[k]) from rfl,Ac,gd_t (by simp;omega),Bd oo,Cq hlt,map_append];rfl
   .right;obtain rfl:k=l.length:=oo;exact⟨_,by rw[iN oo],s_⟩)
  ([],0) ⟨0,s_,oo⟩
 unfold Ug;rw[jn_d,ht,Ac,hR];dsimp only;rw[gd_t ⟨by simp;omega,hs⟩]
theorem Hu.symm{a b c d:Int}(h:Hu v a b c d):Hu v c d a b:=by
 obtain⟨⟨n1,n2,n3,n4⟩,h⟩:=h;refine⟨⟨n1.symm,n3.symm,n2.symm,n4.symm⟩,?_⟩;unfold Meet at *;rcases h with (h|h|h|h)|⟨h1,h2⟩
 .exact .inl (.inr (.inr (.inl h)))
 .exact .inl (.inr (.inr (.inr h)))
 .exact .inl (.inl h)
 .exact .inl (.inr (.inl h))
 .exact .inr ⟨h2,h1⟩
theorem Hu.swap{a b c d:Int}(h:Hu v a b c d):Hu v a b d c:=by
 obtain⟨⟨n1,n2,n3,n4⟩,h⟩:=h;refine⟨⟨n2,n1,n4,n3⟩,?_⟩;unfold Meet at *;have bs:∀p q r,BtwF p q r->BtwF q p r:=fun p q r h=>⟨⟨by have:=h.1.1;rw[Bb];omega,fun e=>h.1.2 e.symm⟩,h.2.2,h.2.1⟩
 rcases h with (h|h|h|h)|⟨h1,h2⟩
 .exact .inl (.inr (.inl h))
 .exact .inl (.inl h)
 .exact .inl (.inr (.inr (.inl (bs _ _ _ h))))
 .exact .inl (.inr (.inr (.inr (bs _ _ _ h))))
 .refine .inr ⟨by rw[Int.mul_comm];exact h1,?_⟩;rw[Bb (plV v c) (plV v d) (plV v a),Bb (plV v c) (plV v d) (plV v b)];rw[Int.sign_neg,Int.sign_neg,Int.neg_mul_neg];exact h2
theorem Atf{a b c d:Int}(h:Hu v (pr2 a b).a0 (pr2 a b).a1 (pr2 c d).a0 (pr2 c d).a1):Hu v a b c d:=by
 have one:∀{a b c d:Int},Hu v a b (pr2 c d).a0 (pr2 c d).a1->Hu v a b c d:=fun {a b c d} h=>by
  by_cases e:c<=d
  .have e0:(pr2 c d).a0=c:=by unfold pr2;simp only;omega
   have e1:(pr2 c d).a1=d:=by unfold pr2;simp only;omega
   rwa [e0,e1] at h
  .have e0:(pr2 c d).a0=d:=by unfold pr2;simp only;omega
   have e1:(pr2 c d).a1=c:=by unfold pr2;simp only;omega
   rw[e0,e1] at h;exact h.swap
 exact (one (one h).symm).symm
structure Lines(v:List Aa)(L:List Ab):Prop where
 ok:∀s∈L,okL v s/\s.a0<=s.a1
 nd:L.Nodup
 free:∀s∈L,Free v s.a0 s.a1
 apart:∀s∈L,∀t∈L,s≠t->¬Hu v s.a0 s.a1 t.a0 t.a1
theorem Bcx{s:Ab}(h:okL v s):okL v (prL s)/\(prL s).a0<=(prL s).a1:=by
 obtain⟨h1,h2,h3⟩:=h;have:=Yl h1 h2;refine⟨⟨this.1,this.2,?_⟩,?_⟩
 .unfold prL pr2;simp only;omega
 .unfold prL pr2;simp only;omega
theorem Ahp(hv:Ci v)(h1:Lin1 v l)(h2:Lin2 v l):Lines v (Ba cmp2 (l.map prL)):=by
 have mem:∀s,s∈Ba cmp2 (l.map prL)↔∃t∈l,prL t=s:=fun s=>by rw[Hc,mem_map]
 refine⟨fun s hs=>?_,(Dk _ _).nodup_iff.2 h1.2,fun s hs=>?_,fun s hs t ht hne=>?_⟩
 .obtain⟨x,hx,rfl⟩:=(mem s).1 hs;exact Bcx (h1.1 x hx)
 ·obtain⟨x,hx,rfl⟩:=(mem s).1 hs;have f:=h2.1 x hx;have fr:Free v x.a0 x.a1:=fun z hz n1 n2 g=>by
   obtain⟨k1,k2,_⟩:=h1.1 x hx;exact f z hz ⟨g,fun e=>n1 (hv.dist _ _ hz k1 e),fun e=>n2 (hv.dist _ _ hz k2 e)⟩
  unfold prL
  by_cases c:x.a0<=x.a1
  .have e0:(pr2 x.a0 x.a1).a0=x.a0:=by unfold pr2;simp only;omega
   have e1:(pr2 x.a0 x.a1).a1=x.a1:=by unfold pr2;simp only;omega
   rw[e0,e1];exact fr
  .have e0:(pr2 x.a0 x.a1).a0=x.a1:=by unfold pr2;simp only;omega
   have e1:(pr2 x.a0 x.a1).a1=x.a0:=by unfold pr2;simp only;omega
   rw[e0,e1];exact fun z hz n1 n2 g=>fr z hz n2 n1 ⟨by have:=g.1;rw[Bb];omega,fun e=>g.2 e.symm⟩
 .obtain⟨x,hx,rfl⟩:=(mem s).1 hs;obtain⟨y,hy,rfl⟩:=(mem t).1 ht;intro g;have g':=Atf g;obtain⟨i,hi,rfl⟩:=getElem_of_mem hx;obtain⟨j,hj,rfl⟩:=getElem_of_mem hy;rcases Nat.lt_trichotomy i j with c|c|c
  .exact (pairwise_iff_getElem.1 h2.2) i j hi hj c g'
  .subst c;exact hne rfl
  .exact (pairwise_iff_getElem.1 h2.2) j i hj hi c g'.symm
structure Axw(v:List Aa)(L:List Ab)(k:Nat)(m:Mp)(F:List (Ab×Bool)):Prop where
 le:k<=L.length
 map:MapN v.length m
 tri:Tri (plV v) (inN v.length) (apM m)
 cov:Cov (plV v) (inN v.length) (apM m)
 ne:m≠[]
 side:∀s∈L.take k,Uk (apM m) s.a0 s.a1
 fok:Ep F
 fix:∀p,(mget F p).getD false=true↔p∈L.take k
 flen:F.length<=k
theorem Atg(hv:Ci v)(hn:v.length<=1024){L:List Ab}(hL:Lines v L)(hlen:L.length<=1000000){m:Mp}(hm:MapN v.length m)(ht:Tri (plV v) (inN v.length) (apM m))(hc:Cov (plV v) (inN v.length) (apM m))(hne:m≠[]):
  ∃m' F,lfix (Qq L) (v,m,[],0)=some (v,m',F)/\Axw v L L.length m' F:=by
 obtain⟨t,h1,h2⟩:=Bp (B:=Qq L) (fun s=>L.length-s.2.2.2.toNat)
  (fun s=>∃(m:Mp) (F:List (Ab×Bool)) (k:Nat),s=(v,m,F,(k:Int))/\Axw v L k m F)
  (fun t=>∃m' F,t=(v,m',F)/\Axw v L L.length m' F) (by
   rintro s ⟨m,F,k,rfl,h⟩;unfold Qq;dsimp only;have hle:=h.le
   by_cases hlt:k<L.length
   .left;have hmem:L[k]∈L:=gM hlt;obtain⟨⟨k1,k2,k3⟩,k4⟩:=hL.ok _ hmem;have hfl:=h.flen;obtain⟨m',e,g⟩:=Axv (F:=F) hv hn h.map h.tri h.cov h.ne k1 k2 k3 (hL.free _ hmem) oo;refine⟨(v,m',mput F L[k] true,((k+1:Nat):Int)),?_,⟨m',mput F L[k] true,k+1,rfl,⟨oo,g.map,g.tri,g.cov,g.ne,fun s hs=>?_,h.fok.put _ _,fun p=>?_,?_⟩⟩,by simp;omega⟩
    .rw[iP oo,Az hlt,Ac,show (L[k]:Ab)=⟨L[k].a0,L[k].a1⟩ from rfl,e,Ac,Bd oo]
    .rw[Cq hlt,mem_append,mem_singleton] at hs;rcases hs with hs|rfl
     ·have hsL:=mem_of_mem_take hs;have hne2:L[k]≠s:=fun e=>by
       have:=hL.nd.sublist (take_sublist (k+1) L);rw[Cq hlt,Vx] at this;exact this.2 (e▸hs)
      have hap:=hL.apart _ hmem _ hsL hne2;exact g.keep _ _ (fun c=>hap c.cross.1) (fun c=>hap c.cross.2) (h.side s hs)
     .exact g.side
    .rw[Rl h.fok,Cq hlt,mem_append,mem_singleton]
     by_cases c:p=L[k]
     .simp[c]
     .rw[iN c,h.fix p];simp[c]
    .unfold mput;have:(mdel F L[k]).length<=F.length:=length_filter_le _ _;rw[length_cons];omega
   .right;obtain rfl:k=L.length:=oo;exact⟨_,by rw[iN oo],m,F,rfl,h⟩)
  (v,m,[],0) ⟨m,[],0,rfl,⟨oo,hm,ht,hc,hne,fun s hs=>by simp at hs,List.Pairwise.nil,fun p=>by simp[mget],s_⟩⟩
 obtain⟨m',F,rfl,h3⟩:=h2;exact⟨m',F,h1,h3⟩
structure Mesh(v:List Aa)(L:List Ab)(m:Mp):Prop where
 map:MapN v.length m
 tri:Tri (plV v) (inN v.length) (apM m)
 cov:Cov (plV v) (inN v.length) (apM m)
 ne:m≠[]
 side:∀s∈L,Uk (apM m) s.a0 s.a1
 leg:∀i j k l,apM m i j=some k->apM m j i=some l->pr2 i j∈L\/DH (plV v) (hV v) i j k l<0
theorem Aey(h:Ox v=0)(hl:l.length<=1000000)(h1:Lin1 v l)(h2:Lin2 v l):
  ∃T,Me v l=some (⟨v,T,Ba cmp2 (l.map prL)⟩,0)/\((Aah v/\T=[])\/(¬Aah v/\∃m,Mesh v (Ba cmp2 (l.map prL)) m/\T=Ba cmp3 (m.flatMap triF))):=by
 obtain⟨hn,_,hv⟩:=Sn h;have hL:=Ahp hv h1 h2;have sm:∀s∈l.map prL,Oe s:=fun s hs=>by
  obtain⟨⟨k1,k2,_⟩,_⟩:=hL.ok s (Hc.2 hs);exact Aaq hn k1 k2
 have hlen:(Ba cmp2 (l.map prL)).length<=1000000:=by rw[(Dk _ _).length_eq];simp;omega
 obtain⟨r,hr1,hr⟩:=Amq hv hn;obtain⟨m,s1,s2⟩:=Axj hv hn hr [];have e0:Pe v l=0:=by unfold Pe;rw[iP h1,iP h2]
 unfold Me;rw[Amt,h,Ac,iP rfl,Ah0 hv hn hl,e0,Ac,iP rfl,Am7 hl sm,Ac,hr1,Ac,s1,Ac,jn_d];dsimp only;have hcl:Og v=some v:=by
  unfold Og;rw[gd_t oo]
 rcases s2 with⟨h3,rfl⟩|⟨h3,h4,h5,h6,h7⟩
 .rw[iN s_];have ht:=Aco (n:=v.length) hn (b:=⟨v,[],[]⟩) ⟨List.Pairwise.nil,s_⟩;rw[hcl,Ac,ht,Ac];exact⟨_,rfl,.inl ⟨h3,by simp[Ba]⟩⟩
 ·have hpos:0<m.length:=length_pos_iff.2 h7;rw[if_pos oo,jn_d];obtain⟨m1,F,f1,f2⟩:=Atg hv hn hL hlen h4 h5 h6 h7;rw[f1,Ac];dsimp only;obtain⟨m',g1,g2,g3⟩:=As3 (b:=⟨v,m1,F⟩) hv hn f2.map f2.tri;rw[g1,Ac];dsimp only at g1 g2 g3 ⊢;have ht:=Aco (n:=v.length) hn (b:=⟨v,m',F⟩) g2.map;rw[hcl,Ac,ht,Ac];have fx:∀ p q:Int,Fx F p q=true↔pr2 p q∈Ba cmp2 (l.map prL):=fun p q=>by
   have:=f2.fix (pr2 p q);rw[take_length] at this;exact this
  refine⟨_,rfl,.inr ⟨h3,m',⟨g2.map,g2.tri,g3.cov _ f2.cov,g3.ne f2.ne,fun s hs=>?_,fun i j k l hk hl=>?_⟩,rfl⟩⟩
  ·obtain⟨⟨_,_,k3⟩,k4⟩:=hL.ok s hs;have hp:pr2 s.a0 s.a1=s:=by
    obtain⟨x,y⟩:=s;unfold pr2;rw[Jn];dsimp only at k4⊢;omega
   refine g3.fix _ _ ((fx _ _).2 (by rw[hp];exact hs)) (f2.side s (by rw[take_length];exact hs))
  .rcases g2.pend i j k l hk hl with q|q|q
   .cases q
   .exact .inl ((fx _ _).1 q)
   .exact .inr q
end
theorem Bek{a b p:Ad}(h:crs a b p=0)(e:p.X=a.X):b.X=a.X\/p.Y=a.Y:=by
 unfold crs at h;rw[e,Int.sub_self,Int.mul_zero,Int.sub_zero] at h;rcases Int.mul_eq_zero.1 h with g|g
 .exact .inl oo
 .exact .inr oo
theorem Bel{a b p:Ad}(h:crs a b p=0)(e:p.X=b.X):b.X=a.X\/p.Y=b.Y:=by
 unfold crs at h;rw[e] at h;have:(b.X-a.X)*(p.Y-b.Y)=0:=by grind
 rcases Int.mul_eq_zero.1 this with g|g
 .exact .inl oo
 .exact .inr oo
theorem Arg{a b p:Ad}(h0:crs a b p=0)(hab:¬Bz a b)(hpa:¬Bz p a)(hpb:¬Bz p b):Box a b p↔BtwF a b p:=by
 have key:∀a b p:Ad,crs a b p=0->¬Bz a b->¬Bz p a->¬Bz p b->befP a b->(Box a b p↔BtwF a b p):=by
  intro a b p h0 hab hpa hpb hb;constructor
  .intro hbox;refine⟨⟨h0,fun g=>?_⟩,hpa,hpb⟩;rcases Lm hpa with c|c
   .exfalso;obtain⟨h1,h2,h3,h4⟩:=hbox;unfold befP Bz at *
    by_cases e:p.X=a.X
    .rcases Bek h0 e with q|q <;> omega
    .omega
   .have c2:=g.1 c;exfalso;obtain⟨h1,h2,h3,h4⟩:=hbox;unfold befP Bz at *
    by_cases e:p.X=b.X
    .rcases Bel h0 e with q|q <;> omega
    .omega
  .intro g;refine Aq6 h0 (fun c=>?_) (fun c=>?_)
   .refine g.1.2 ⟨fun c2=>absurd c2 (Xs c),fun c2=>absurd c2 (Xs (Ik c hb))⟩
   .refine g.1.2 ⟨fun _=>c,fun _=>Ik hb c⟩
 rcases Lm hab with c|c
 .exact key a b p h0 hab hpa hpb c
 .have h0':crs b a p=0:=by rw[Bb];omega
  have:=key b a p h0' (fun e=>hab ⟨e.1.symm,e.2.symm⟩) hpb hpa c;constructor
  .intro h;have g:=this.1 h.swap;exact⟨⟨h0,fun e=>g.1.2 e.symm⟩,g.2.2,g.2.1⟩
  .intro g;exact (this.2 ⟨⟨h0',fun e=>g.1.2 e.symm⟩,g.2.2,g.2.1⟩).swap
section
variable {v:List Aa}{l:List Ab}
theorem Afl{x y:Ab}:prL x=prL y↔(x.a0=y.a0/\x.a1=y.a1)\/(x.a0=y.a1/\x.a1=y.a0):=by
 constructor
 .intro h;exact Ahb h
 .rintro (⟨h1,h2⟩|⟨h1,h2⟩)
  .unfold prL;rw[h1,h2]
  .unfold prL;rw[h1,h2,Oa]
theorem Azx(hl:l.length<=1000000){i:Nat}(hi:i<l.length):
  (lfix (Dd (i:Int) l) 0=some (.inl ())/\prL l[i]∉(l.take i).map prL)\/(lfix (Dd (i:Int) l) 0=some (.inr 62)/\prL l[i]∈(l.take i).map prL):=by
 haveI:∀x y:Ab,Decidable (x=y):=fun _ _=>Classical.propDecidable _
 have L:=Tg (β:=Unit) (γ:=Int) i oo (fun k=>decide (prL l[i]=prL (l.getD k ⟨0,0⟩))) (Dd (i:Int) l) () 62 (fun k hk=>by
  have hk':k<l.length:=oo;have e:l.getD k ⟨0,0⟩=l[k]:=by simp[hk']
  unfold Dd;rw[iP oo,jn_d,Az hi,Ac,Az hk',Ac,e,Bd oo]
  by_cases c1:l[i].a0=l[k].a0/\l[i].a1=l[k].a1
  .rw[iP (by simp[c1])];dsimp only;rw[iP rfl,iP (dT (Afl.2 (.inl c1)))]
  .rw[iN (by simp;intro a;exact fun b=>c1 ⟨a,b⟩),Ac,Ac];dsimp only
   by_cases c2:l[i].a0=l[k].a1
   .rw[iP c2,Ac,Ac]
    by_cases c3:l[i].a1=l[k].a0
    .rw[iP (dT c3),iP (dT (Afl.2 (.inr ⟨c2,c3⟩)))]
    .rw[iN (sV c3),iN (by rw[dQ,Afl];exact fun g=>g.elim c1 (fun g=>c3 g.2))]
   .rw[iN c2,iN s_,iN (by rw[dQ,Afl];exact fun g=>g.elim c1 (fun g=>c2 g.1))]) (by
  unfold Dd;rw[iN oo])
 have iff:((List.range i).any fun k=>decide (prL l[i]=prL (l.getD k ⟨0,0⟩)))=true↔prL l[i]∈(l.take i).map prL:=by
  rw[any_eq_true,mem_map];constructor
  .rintro⟨k,hk,h⟩;have hk:=mem_range.1 hk;have hk':k<l.length:=oo;have e:l.getD k ⟨0,0⟩=l[k]:=by simp[hk']
   rw[dQ,e] at h;exact⟨l[k],mem_take_iff_getElem.2 ⟨k,oo,rfl⟩,h.symm⟩
  .rintro⟨x,hx,h⟩;obtain⟨k,hk,rfl⟩:=mem_take_iff_getElem.1 hx;have hk':k<l.length:=oo;have e:l.getD k ⟨0,0⟩=l[k]:=by simp[hk']
   exact⟨k,mem_range.2 oo,by rw[dQ,e];exact h.symm⟩
 rw[L]
 by_cases c:prL l[i]∈(l.take i).map prL
 .right;exact⟨by rw[iP (iff.2 c)],c⟩
 .left;exact⟨by rw[iN (fun g=>c (iff.1 g))],c⟩
theorem Azy(hn:v.length<=1024)(hl:l.length<=1000000):lfix (Fu l v) 0=some (if Lin1 v l then .inl () else .inr 62):=by
 obtain⟨t,ht,hR⟩:=Bp (B:=Fu l v) (fun s=>l.length-s.toNat)
  (fun s=>∃k:Nat,s=(k:Int)/\k<=l.length/\Lin1 v (l.take k))
  (fun t=>t=if Lin1 v l then .inl () else .inr 62) (by
   rintro s ⟨k,rfl,hk,h⟩;unfold Fu
   by_cases hlt:k<l.length
   .have hm:l[k]∈l:=gM hlt;rw[iP oo,jn_d,jn_d,Az hlt,Ac]
    by_cases ho:okL v l[k]
    .obtain⟨h1,h2,h3⟩:=ho;rw[iN (by have:=h1.1;omega),Ac,iN (by have:=h1.2;omega),Ac,iN (by have:=h2.1;omega),Ac,iN (by have:=h2.2;omega),Ac,Ac,dF h3];dsimp only;rw[iN (show ¬(false=true) by simp)];rcases Azx hl hlt with⟨e,c⟩|⟨e,c⟩
     .left;refine⟨((k+1:Nat):Int),by rw[e,Ac];dsimp only;rw[Bd oo],⟨k+1,rfl,oo,?_⟩,by simp;omega⟩;rw[Cq hlt];refine⟨fun s hs=>?_,?_⟩
      .rcases mem_append.1 hs with hs|hs
       .exact h.1 s hs
       .rw[mem_singleton] at hs;rw[hs];exact⟨h1,h2,h3⟩
      .rw[map_append,map_singleton,Vx];exact⟨h.2,c⟩
     ·right;refine⟨.inr 62,by rw[e,Ac],?_⟩;have hnl:¬ Lin1 v l:=by
       rintro⟨_,hnd⟩;have hs:List.Sublist ((l.take (k+1)).map prL) (l.map prL):=(take_sublist _ _).map _;have:=hnd.sublist hs;rw[Cq hlt,map_append,map_singleton,Vx] at this;exact this.2 c
      rw[iN hnl]
    .right;have hno:¬Lin1 v l:=fun g=>ho (g.1 _ hm)
     refine⟨.inr 62,?_,by rw[iN hno]⟩;unfold okL inN at ho
     by_cases c1:l[k].a0<0
     .rw[iP c1];rfl
     .rw[iN c1,Ac]
      by_cases c2:(v.length:Int)<=l[k].a0
      .rw[iP c2];rfl
      .rw[iN c2,Ac]
       by_cases c3:l[k].a1<0
       .rw[iP c3];rfl
       .rw[iN c3,Ac]
        by_cases c4:(v.length:Int)<=l[k].a1
        .rw[iP c4];rfl
        .rw[iN c4,Ac,Ac,dT (oo:l[k].a0=l[k].a1)];rfl
   .right;obtain rfl:k=l.length:=oo;refine⟨.inl (),by rw[iN oo],?_⟩;rw[take_length] at h;rw[iP h])
  0 ⟨0,rfl,oo,⟨fun s hs=>by simp at hs,s_⟩⟩
 rw[ht,hR]
def Hv(v:List Aa)(a b x y:Int):Prop:=Int.sign (crs (plV v a) (plV v b) (plV v x))*Int.sign (crs (plV v a) (plV v b) (plV v y))<0/\Int.sign (crs (plV v x) (plV v y) (plV v a))*Int.sign (crs (plV v x) (plV v y) (plV v b))<0
theorem Hv.symm{a b x y:Int}(h:Hv v a b x y):Hv v x y a b:=⟨h.2,h.1⟩
theorem Ath{a b x y:Int}(hx:inN v.length x)(hy:inN v.length y)(ha:inN v.length a)(hb:inN v.length b)(f1:∀k,inN v.length k->¬BtwF (plV v a) (plV v b) (plV v k))(f2:∀k,inN v.length k->¬BtwF (plV v x) (plV v y) (plV v k)):Hu v a b x y↔Hv v a b x y:=by
 constructor
 .rintro⟨_,(g|g|g|g)|g⟩
  .exact absurd g (f1 x hx)
  .exact absurd g (f1 y hy)
  .exact absurd g (f2 a ha)
  .exact absurd g (f2 b hb)
  .exact g
 .intro g;obtain⟨g1,g2⟩:=g;refine⟨⟨fun e=>?_,fun e=>?_,fun e=>?_,fun e=>?_⟩,.inr ⟨g1,g2⟩⟩
  .rw[e,Bx] at g1;simp at g1
  .rw[e,Bx] at g1;simp at g1
  .rw[e,Bq] at g1;simp at g1
  .rw[e,Bq] at g1;simp at g1
theorem Ai2{a b c d:Ad}(ha:okP a)(hb:okP b)(hc:okP c)(hd:okP d):Ky a b c d=some (decide (Int.sign (crs a b c)*Int.sign (crs a b d)<0/\Int.sign (crs c d a)*Int.sign (crs c d b)<0)):=by
 unfold Ky;rw[jn_d,Rd ha hb hc,Ac,Rd ha hb hd,Ac,Wb]
 by_cases h:Int.sign (crs a b c)*Int.sign (crs a b d)<0
 .rw[iP h,Rd hc hd ha,Ac,Rd hc hd hb,Ac,Wb];simp[h]
 .rw[iN h];simp[h]
theorem Axx(hv:Ci v)(hn:v.length<=1024){i:Nat}(hi:i<l.length)(ho:okL v l[i]):
  (lfix (Cu v l (i:Int) (plV v l[i].a0) (plV v l[i].a1)) 0=some (.inl ())/\∀k,inN v.length k->¬BtwF (plV v l[i].a0) (plV v l[i].a1) (plV v k))\/(lfix (Cu v l (i:Int) (plV v l[i].a0) (plV v l[i].a1)) 0=some (.inr 63)/\∃k,inN v.length k/\BtwF (plV v l[i].a0) (plV v l[i].a1) (plV v k)):=by
 haveI:∀p q r,Decidable (BtwF p q r):=fun _ _ _=>Classical.propDecidable _
 obtain⟨h1,h2,h3⟩:=ho;have L:=Tg (β:=Unit) (γ:=Int) v.length oo (fun k=>decide (BtwF (plV v l[i].a0) (plV v l[i].a1) (plV v (k:Int)))) (Cu v l (i:Int) (plV v l[i].a0) (plV v l[i].a1)) () 63 (fun k hk=>by
  have hkn:inN v.length (k:Int):=⟨oo,oo⟩;unfold Cu;rw[iP oo,jn_d,Az hi,Ac,Bd oo]
  by_cases c1:(k:Int)=l[i].a0
  .have:¬BtwF (plV v l[i].a0) (plV v l[i].a1) (plV v (k:Int)):=fun g=>g.2.1 (by rw[c1];exact⟨rfl,rfl⟩)
   rw[iP c1];dsimp only;rw[iN (show ¬(false=true) by simp),iN (show ¬(decide (BtwF (plV v l[i].a0) (plV v l[i].a1) (plV v (k:Int)))=true) by simpa using this)]
  .rw[iN c1,Ac]
   by_cases c2:(k:Int)=l[i].a1
   .have:¬BtwF (plV v l[i].a0) (plV v l[i].a1) (plV v (k:Int)):=fun g=>g.2.2 (by rw[c2];exact⟨rfl,rfl⟩)
    rw[iP c2];dsimp only;rw[iN (show ¬(false=true) by simp),iN (show ¬(decide (BtwF (plV v l[i].a0) (plV v l[i].a1) (plV v (k:Int)))=true) by simpa using this)]
   .have hp:(⟨v[k].X,v[k].Y⟩:Ad)=plV v (k:Int):=(Vw hk).symm;rw[iN c2,Az hk,Ac];unfold Am;dsimp only;rw[Ac,hp,Aen (hv.ok _ h1) (hv.ok _ h2) (hv.ok _ hkn),Ac]
    by_cases c:BtwF (plV v l[i].a0) (plV v l[i].a1) (plV v (k:Int))
    .have hb:=(Arg c.1.1 (Qn hv h1 h2 h3) (Qn hv hkn h1 c1) (Qn hv hkn h2 c2)).2 c;rw[iP (by rw[dQ];exact⟨c.1.1,hb⟩),iP (dT c)]
    ·rw[if_neg (by
      rw[dQ];rintro⟨g0,g⟩;exact c ((Arg g0 (Qn hv h1 h2 h3) (Qn hv hkn h1 c1) (Qn hv hkn h2 c2)).1 g)),iN (sV c)]) (by
  unfold Cu;rw[iN oo])
 rw[L]
 by_cases c:∃k,inN v.length k/\BtwF (plV v l[i].a0) (plV v l[i].a1) (plV v k)
 .right;refine⟨?_,c⟩;obtain⟨k,⟨k0,k1⟩,hk⟩:=c;rw[iP];rw[any_eq_true];exact⟨k.toNat,mem_range.2 oo,by rw[dQ,Int.toNat_of_nonneg k0];exact hk⟩
 .left;refine⟨?_,fun k hk g=>c ⟨k,hk,g⟩⟩;rw[iN];rw[any_eq_true];rintro⟨k,hk,g⟩;rw[dQ] at g;exact c ⟨(k:Int),⟨oo,by have:=mem_range.1 hk;omega⟩,g⟩
theorem Axy(hv:Ci v)(hl:l.length<=1000000)(hok:∀ s∈l,okL v s){i:Nat}(hi:i<l.length):
  (lfix (Cv (i:Int) l v (plV v l[i].a0) (plV v l[i].a1)) 0=some (.inl ())/\∀x∈l.take i,¬Hv v x.a0 x.a1 l[i].a0 l[i].a1)\/(lfix (Cv (i:Int) l v (plV v l[i].a0) (plV v l[i].a1)) 0=some (.inr 63)/\∃x∈l.take i,Hv v x.a0 x.a1 l[i].a0 l[i].a1):=by
 haveI:∀a b c d,Decidable (Hv v a b c d):=fun _ _ _ _=>Classical.propDecidable _
 obtain⟨h1,h2,_⟩:=hok _ (gM hi);have L:=Tg (β:=Unit) (γ:=Int) i oo (fun k=>decide (Hv v (l.getD k ⟨0,0⟩).a0 (l.getD k ⟨0,0⟩).a1 l[i].a0 l[i].a1)) (Cv (i:Int) l v (plV v l[i].a0) (plV v l[i].a1)) () 63 (fun k hk=>by
  have hk':k<l.length:=oo;have e:l.getD k ⟨0,0⟩=l[k]:=by simp[hk']
  obtain⟨q1,q2,_⟩:=hok _ (gM hk');obtain⟨x0,i0,e0⟩:=Jq q1;obtain⟨x1,i1,e1⟩:=Jq q2;unfold Cv Am;rw[iP oo,Az hk',Ac,i0,Ac,Ac,i1,Ac];try dsimp only
  rw[Ac,Ac,e0,e1,Ai2 (hv.ok _ h1) (hv.ok _ h2) (hv.ok _ q1) (hv.ok _ q2),Ac,e,Bd oo]
  by_cases c:Hv v l[k].a0 l[k].a1 l[i].a0 l[i].a1
  .rw[iP (by rw[dQ];exact c.symm),iP (dT c)]
  .rw[iN (by rw[dQ];exact fun g=>c (Hv.symm (v:=v) g)),iN (sV c)]) (by
  unfold Cv;rw[iN oo])
 have iff:((List.range i).any fun k=>decide (Hv v (l.getD k ⟨0,0⟩).a0 (l.getD k ⟨0,0⟩).a1 l[i].a0 l[i].a1))=true↔∃x∈l.take i,Hv v x.a0 x.a1 l[i].a0 l[i].a1:=by
  rw[any_eq_true];constructor
  .rintro⟨k,hk,h⟩;have hk:=mem_range.1 hk;have hk':k<l.length:=oo;have e:l.getD k ⟨0,0⟩=l[k]:=by simp[hk']
   rw[dQ,e] at h;exact⟨l[k],mem_take_iff_getElem.2 ⟨k,oo,rfl⟩,h⟩
  .rintro⟨x,hx,h⟩;obtain⟨k,hk,rfl⟩:=mem_take_iff_getElem.1 hx;have hk':k<l.length:=oo;have e:l.getD k ⟨0,0⟩=l[k]:=by simp[hk']
   exact⟨k,mem_range.2 oo,by rw[dQ,e];exact h⟩
 rw[L]
 by_cases c:∃x∈l.take i,Hv v x.a0 x.a1 l[i].a0 l[i].a1
 .right;exact⟨by rw[iP (iff.2 c)],c⟩
 .left;exact⟨by rw[iN (fun g=>c (iff.1 g))],fun x hx g=>c ⟨x,hx,g⟩⟩
theorem Axz(hv:Ci v)(hn:v.length<=1024)(hl:l.length<=1000000)(hok:∀s∈l,okL v s):lfix (Ey l v) 0=some (if Lin2 v l then .inl () else .inr 63):=by
 obtain⟨t,ht,hR⟩:=Bp (B:=Ey l v) (fun s=>l.length-s.toNat)
  (fun s=>∃k:Nat,s=(k:Int)/\k<=l.length/\Lin2 v (l.take k))
  (fun t=>t=if Lin2 v l then .inl () else .inr 63) (by
   rintro s ⟨k,rfl,hk,h⟩;unfold Ey Am
   by_cases hlt:k<l.length
   .have ho:=hok _ (gM hlt);obtain⟨h1,h2,_⟩:=hok _ (gM hlt);obtain⟨x0,i0,e0⟩:=Jq h1;obtain⟨x1,i1,e1⟩:=Jq h2;rw[iP oo,jn_d,Az hlt,Ac,i0,Ac,Ac,i1,Ac];dsimp only;rw[Ac,Ac,e0,e1,jn_d];rcases Axx hv hn hlt ho with⟨e,g⟩|⟨e,g⟩
    ·rw[e,Ac];dsimp only;have cr:∀ x∈l.take k,(Hu v x.a0 x.a1 l[k].a0 l[k].a1↔Hv v x.a0 x.a1 l[k].a0 l[k].a1):=fun x hx=>by
      obtain⟨q1,q2,_⟩:=hok _ (mem_of_mem_take hx);exact Ath h1 h2 q1 q2 (h.1 x hx) g
     rcases Axy hv hl hok hlt with⟨e2,g2⟩|⟨e2,g2⟩
     .left;rw[e2,Ac];refine⟨((k+1:Nat):Int),by dsimp only;rw[Bd oo],⟨k+1,rfl,oo,?_⟩,by simp;omega⟩;rw[Cq hlt];refine⟨fun s hs=>?_,?_⟩
      .rcases mem_append.1 hs with hs|hs
       .exact h.1 s hs
       .rw[mem_singleton] at hs;rw[hs];exact g
      .rw[pairwise_append];exact⟨h.2,s_,fun x hx y hy=>by rw[mem_singleton] at hy;rw[hy];exact fun c=>g2 x hx ((cr x hx).1 c)⟩
     .right;rw[e2,Ac];refine⟨.inr 63,rfl,?_⟩;rw[iN];rintro⟨_,hp⟩;obtain⟨x,hx,hc⟩:=g2;have:=hp.sublist (take_sublist (k+1) l);rw[Cq hlt,pairwise_append] at this;exact this.2.2 x hx l[k] s_ ((cr x hx).2 hc)
    .right;rw[e,Ac];refine⟨.inr 63,rfl,?_⟩;rw[iN];rintro⟨hp,_⟩;obtain⟨z,hz,hb⟩:=g;exact hp _ (gM hlt) z hz hb
   .right;obtain rfl:k=l.length:=oo;refine⟨.inl (),by rw[iN oo],?_⟩;rw[take_length] at h;rw[iP h])
  0 ⟨0,rfl,oo,⟨fun s hs=>by simp at hs,s_⟩⟩
 rw[ht,hR]
theorem Adf(hv:Ci v)(hn:v.length<=1024)(hl:l.length<=1000000):Ib v l=some (Pe v l):=by
 unfold Ib Pe;rw[jn_d,Azy hn hl,Ac]
 by_cases c1:Lin1 v l
 .rw[iP c1,iP c1];dsimp only;rw[jn_d,Axz hv hn hl c1.1,Ac]
  by_cases c2:Lin2 v l
  .rw[iP c2,iP c2]
  .rw[iN c2,iN c2]
 .rw[iN c1,iN c1]
theorem Adg(hl:l.length<=1000000):Kz v l=some (if Ox v=0 then Pe v l else Ox v):=by
 unfold Kz;rw[Yz,Ac]
 by_cases h:Ox v=0
 .obtain⟨hn,_,hv⟩:=Sn h;rw[iP h,iP h,Adf hv hn hl,Ac]
 .rw[iN h,iN h]
end
section
variable {v:List Aa}{L:List Ab}{m:Mp}{ap:Ap}
theorem Am8{w u l r c:Int}(t1:0<crs (plV v w) (plV v u) (plV v l))(t2:0<crs (plV v u) (plV v w) (plV v r))(hD:DH (plV v) (hV v) w u l r<0)(hx:crs (plV v w) (plV v u) (plV v c)<0)(hn:DH (plV v) (hV v) u w r c<=0):DH (plV v) (hV v) w u l c<0:=by
 have key:=Tm (hV v w) (hV v u) (hV v l) (hV v r) (plV v w) (plV v u) (plV v l) (plV v r) (plV v c);unfold DH at hD hn ⊢;rw[Afx] at hn⊢;have e1:=Int.mul_pos_of_neg_of_neg hD hx;generalize plt (hV v u) (hV v w) (hV v r) (plV v u) (plV v w) (plV v r) (plV v c)=N at *;generalize plt (hV v w) (hV v u) (hV v l) (plV v w) (plV v u) (plV v l) (plV v c)=M at *;generalize crs (plV v w) (plV v u) (plV v l)=A at *;generalize crs (plV v u) (plV v w) (plV v r)=B at *;have e2:(N-hV v c*B)*A<=0:=Int.mul_nonpos_of_nonpos_of_nonneg hn (Int.le_of_lt t1);have e3:(M-hV v c*A)*B=M*B-N*A+(N-hV v c*B)*A:=by grind
 rcases Int.lt_or_le (M-hV v c*A) 0 with g|g
 .exact g
 .have:=Int.mul_nonneg g (Int.le_of_lt t2);omega
theorem Azz(ht:Tri (plV v) (inN v.length) ap){a b:Int}{M:Nat}{U W:Nat->Int}(hr:Run v ap a b M U W)(hl:∀ i,i<M->∀ k l,ap (W i) (U i)=some k->ap (U i) (W i)=some l->DH (plV v) (hV v) (W i) (U i) k l<0):
  ∀n i,i+n+1=M->∀l,ap (W i) (U i)=some l->DH (plV v) (hV v) (W i) (U i) l b<0:=by
 intro n
 induction n with
 |zero=>
  intro i hi l hk;have hR:=hr.last i oo;have cr:=hr.cr i oo;exact hl i oo l b hk hR
 |succ n ih=>
  intro i hi l hk;have cr:=hr.cr i oo;have hx:crs (plV v (W i)) (plV v (U i)) (plV v b)<0:=by rw[Bb];have:=cr.rb;omega
  have t1:=(ht.ccw _ _ _ hk).2.2.2;rcases hr.next i oo with⟨e1,e2⟩|⟨e1,e2⟩
  .have g:=ih (i+1) oo (W i) (by rw[e1];exact ht.rot2 e2);rw[e1] at g;refine Am8 t1 (ht.ccw _ _ _ e2).2.2.2 (hl i oo _ _ hk e2) hx (Int.le_of_lt ?_);rw[<-Sr,<-Sr];exact g
  .have g:=ih (i+1) oo (U i) (by rw[e1];exact ht.rot _ _ _ e2);rw[e1] at g;refine Am8 t1 (ht.ccw _ _ _ e2).2.2.2 (hl i oo _ _ hk e2) hx (Int.le_of_lt ?_);rw[<-Sr];exact g
def Seen(v:List Aa)(L:List Ab)(i k:Int):Prop:=∀s∈L,¬Hv v i k s.a0 s.a1
theorem Hv.rev{a b x y:Int}(h:Hv v a b x y):Hv v a b y x:=by
 obtain⟨h1,h2⟩:=h;refine⟨by rw[Int.mul_comm];exact h1,?_⟩;rw[Bb (plV v x) (plV v y) (plV v a),Bb (plV v x) (plV v y) (plV v b),Int.sign_neg,Int.sign_neg,Int.neg_mul_neg];exact h2
theorem Cr.crossR{a b x y:Int}(h:Cr v a b x y):Hv v a b x y:=by
 obtain⟨h1,h2,h3,h4⟩:=h;exact⟨Hd.2 oo,Hd.2 oo⟩
theorem Hv.cr{a b x y:Int}(h:Hv v a b x y):Cr v a b x y\/Cr v a b y x:=by
 obtain⟨g1,g2⟩:=h;have e:crs (plV v x) (plV v y) (plV v b)-crs (plV v x) (plV v y) (plV v a)=crs (plV v a) (plV v b) (plV v x)-crs (plV v a) (plV v b) (plV v y):=by unfold crs;grind
 have e1:crs (plV v y) (plV v x) (plV v a) = -crs (plV v x) (plV v y) (plV v a):=Bb _ _ _;have e2:crs (plV v y) (plV v x) (plV v b) = -crs (plV v x) (plV v y) (plV v b):=Bb _ _ _;rw[Hd] at g1 g2;rcases g1 with⟨g1,g1'⟩|⟨g1,g1'⟩
 .exact .inl ⟨g1,g1',oo,oo⟩
 .exact .inr ⟨g1',g1,oo,oo⟩
theorem Seen.pr{a b x y:Int}(h:Seen v L a b)(hc:Cr v a b x y):pr2 x y∉L:=fun hm=>by
 refine h _ hm ?_
 by_cases e:x<=y
 .have e0:(pr2 x y).a0=x:=by unfold pr2;simp only;omega
  have e1:(pr2 x y).a1=y:=by unfold pr2;simp only;omega
  rw[e0,e1];exact hc.crossR
 .have e0:(pr2 x y).a0=y:=by unfold pr2;simp only;omega
  have e1:(pr2 x y).a1=x:=by unfold pr2;simp only;omega
  rw[e0,e1];exact hc.crossR.rev
theorem Mesh.sees(h:Mesh v L m){a b k c:Int}(hk:apM m a b=some k)(hc:inN v.length c)(hf:Free v a c)(hs:Seen v L a c)(h1:0<crs (plV v a) (plV v b) (plV v c))(h2:0<crs (plV v a) (plV v c) (plV v k)):DH (plV v) (hV v) a b k c<0:=by
 obtain⟨va,vb,vk,T⟩:=h.tri.ccw _ _ _ hk;have na:c≠a:=fun e=>by rw[e,Bx] at h1;omega
 have nb:c≠b:=fun e=>by rw[e,Bq] at h1;omega
 have nk:c≠k:=fun e=>by rw[e,Bq] at h2;omega
 have em:=h.tri.emp _ _ _ hk c hc na nb nk;have e1:crs (plV v k) (plV v a) (plV v c)=crs (plV v a) (plV v c) (plV v k):=by unfold crs;grind
 have e2:crs (plV v a) (plV v c) (plV v b) = -crs (plV v a) (plV v b) (plV v c):=by unfold crs;grind
 have e3:crs (plV v k) (plV v b) (plV v a) = -crs (plV v a) (plV v b) (plV v k):=by unfold crs;grind
 have e4:crs (plV v k) (plV v b) (plV v c) = -crs (plV v b) (plV v k) (plV v c):=Bb _ _ _;have cr:Cr v a c k b:=⟨h2,oo,oo,oo⟩;have hbk:=h.tri.rot _ _ _ hk;obtain⟨⟨r,hr⟩,_⟩:=cr.both h.tri h.cov va hc (.inr (by rw[hbk];simp));obtain⟨M,U,W,hM,u0,w0,run⟩:=Ajy h.tri h.cov va hc hf cr hr;have:=Azz h.tri run (fun i hi x y hx hy=>by
  rcases h.leg _ _ _ _ hx hy with g|g
  .exact absurd g (by rw[Oa];exact hs.pr (run.cr i hi))
  .exact g) (M-1) 0 oo a (by rw[u0,w0];exact hbk)
 rw[u0,w0,Sr] at this;exact this
theorem Ati(a b z k c:Int):DH (plV v) (hV v) a b k c*crs (plV v a) (plV v b) (plV v z)=DH (plV v) (hV v) a b z c*crs (plV v a) (plV v b) (plV v k)+DH (plV v) (hV v) a b k z*crs (plV v a) (plV v b) (plV v c):=by unfold DH Dt crs;grind
theorem Mesh.sees2(hv:Ci v)(h:Mesh v L m){a b k:Int}(hk:apM m a b=some k):∀(n:Nat) (c:Int),(crs (plV v a) (plV v b) (plV v c)).toNat=n->inN v.length c->Seen v L a c->0<crs (plV v a) (plV v b) (plV v c)->0<crs (plV v a) (plV v c) (plV v k)->DH (plV v) (hV v) a b k c<0:=by
 intro n
 induction n using Nat.strongRecOn with
 |ind n ih=>
  intro c hn hc hs h1 h2;obtain⟨va,vb,vk,T⟩:=h.tri.ccw _ _ _ hk
  by_cases hf:Free v a c
  .exact h.sees hk hc hf hs h1 h2
  ·unfold Free at hf;have⟨z,hf⟩:=Classical.not_forall.1 hf;have⟨hz,hf⟩:=Classical.not_imp.1 hf;have⟨za,hf⟩:=Classical.not_imp.1 hf;have⟨zc,hf⟩:=Classical.not_imp.1 hf;have hb:=Classical.not_not.1 hf;obtain⟨d,D,d1,d2,hd⟩:=Ap8 ⟨hb,fun e=>za (hv.dist _ _ hz va e),fun e=>zc (hv.dist _ _ hz hc e)⟩;have i1:=hd (plV v a) (plV v b);rw[Bx,Int.mul_zero,Int.zero_add] at i1;have m1:=Int.mul_pos d1 h1;have z1:=Cs (x:=D) (y:=crs (plV v a) (plV v b) (plV v z)) oo oo;have m2:=Int.mul_lt_mul_of_pos_right d2 h1;have z2:crs (plV v a) (plV v b) (plV v z)<crs (plV v a) (plV v b) (plV v c):=by
    refine Classical.byContradiction fun n=>?_
    have:=Int.mul_le_mul_of_nonneg_left (oo:crs (plV v a) (plV v b) (plV v c)<=crs (plV v a) (plV v b) (plV v z)) (oo:0<=D);omega
   have i2:=hd (plV v k) (plV v a);rw[Bq,Int.mul_zero,Int.zero_add] at i2;have r1:crs (plV v k) (plV v a) (plV v c)=crs (plV v a) (plV v c) (plV v k):=by unfold crs;grind
   have r2:crs (plV v k) (plV v a) (plV v z)=crs (plV v a) (plV v z) (plV v k):=by unfold crs;grind
   rw[r1,r2] at i2;have m3:=Int.mul_pos d1 h2;have z3:=Cs (x:=D) (y:=crs (plV v a) (plV v z) (plV v k)) oo oo;have sz:Seen v L a z:=fun s hm g=>by
    refine hs s hm ?_;have j1:=hd (plV v s.a0) (plV v s.a1);have j2:=hd (plV v s.a0) (plV v a);have j3:=hd (plV v s.a1) (plV v a);rw[Bq,Int.mul_zero,Int.zero_add] at j2 j3;have q2:∀x y,crs (plV v x) (plV v a) (plV v y)=crs (plV v a) (plV v y) (plV v x):=fun x y=>by unfold crs;grind
    rw[q2,q2] at j2 j3;obtain⟨g1,g2⟩:=g;have pos:∀x:Int,D*crs (plV v a) (plV v z) (plV v x)=d*crs (plV v a) (plV v c) (plV v x)->(0<crs (plV v a) (plV v z) (plV v x)->0<crs (plV v a) (plV v c) (plV v x))/\(crs (plV v a) (plV v z) (plV v x)<0->crs (plV v a) (plV v c) (plV v x)<0):=fun x e=>by
     have:=Aly (D:=d) (d:=D) (X:=crs (plV v a) (plV v z) (plV v x)) (x:=crs (plV v a) (plV v c) (plV v x)) d1 oo e.symm;exact⟨this.1,this.2.1⟩
    have p0:=pos _ j2;have p1:=pos _ j3;rw[Hd] at g1 g2;refine⟨Hd.2 ?_,Hd.2 ?_⟩
    .rcases g1 with⟨x1,x2⟩|⟨x1,x2⟩
     .exact .inl ⟨p0.1 x1,p1.2 x2⟩
     .exact .inr ⟨p0.2 x1,p1.1 x2⟩
    .rcases g2 with⟨x1,x2⟩|⟨x1,x2⟩
     .refine .inl ⟨x1,?_⟩;refine Classical.byContradiction fun n=>?_
      have w1:=Int.mul_pos (oo:0<D-d) x1;have w2:=Int.mul_nonneg (Int.le_of_lt d1) (oo:0<=crs (plV v s.a0) (plV v s.a1) (plV v c));have w3:=Int.mul_neg_of_pos_of_neg (oo:0<D) x2;omega
     .refine .inr ⟨x1,?_⟩;refine Classical.byContradiction fun n=>?_
      have w1:=Int.mul_neg_of_pos_of_neg (oo:0<D-d) x1;have w2:=Int.mul_nonpos_of_nonneg_of_nonpos (Int.le_of_lt d1) (oo:crs (plV v s.a0) (plV v s.a1) (plV v c)<=0);have w3:=Int.mul_pos (oo:0<D) x2;omega
   have g1:=ih _ oo z rfl hz sz z1 z3;have g2:DH (plV v) (hV v) b z a c<0:=by
    refine To hv b z a c vb hz va hc (by rw[Au];exact z1) ?_ (.inl ?_)
    .have j:=hd (plV v b) (plV v c);rw[Bq,Int.mul_zero,Int.add_zero] at j;have q:crs (plV v b) (plV v c) (plV v a)=crs (plV v a) (plV v b) (plV v c):=by unfold crs;grind
     rw[q] at j;have w:=Int.mul_pos (oo:0<D-d) h1;have:=Cs (x:=D) (y:=crs (plV v b) (plV v c) (plV v z)) oo oo;rw[Bl] at this;omega
    .have j:=hd (plV v c) (plV v a);rw[Bq,Bx,Int.mul_zero,Int.mul_zero] at j;rcases Int.mul_eq_zero.1 (oo:D*crs (plV v c) (plV v a) (plV v z)=0) with e|e
     .omega
     .have:crs (plV v z) (plV v a) (plV v c) = -crs (plV v c) (plV v a) (plV v z):=by unfold crs;grind
      omega
   rw[Sr] at g2;have key:=Ati (v:=v) a b z k c;have w1:=Int.mul_neg_of_neg_of_pos g2 T;have w2:=Int.mul_neg_of_neg_of_pos g1 h1;refine Classical.byContradiction fun n=>?_
   have:=Int.mul_nonneg (oo:0<=DH (plV v) (hV v) a b k c) (Int.le_of_lt z1);omega
theorem Mesh.best(hv:Ci v)(h:Mesh v L m){a b k c:Int}(hk:apM m a b=some k)(hc:inN v.length c)(h1:0<crs (plV v a) (plV v b) (plV v c))(hne:c≠k)(sa:Seen v L a c)(sb:Seen v L b c):DH (plV v) (hV v) a b k c<0:=by
 obtain⟨va,vb,vk,T⟩:=h.tri.ccw _ _ _ hk;have na:c≠a:=fun e=>by rw[e,Bx] at h1;omega
 have nb:c≠b:=fun e=>by rw[e,Bq] at h1;omega
 have e1:crs (plV v k) (plV v a) (plV v c)=crs (plV v a) (plV v c) (plV v k):=by unfold crs;grind
 have e2:crs (plV v b) (plV v c) (plV v a)=crs (plV v a) (plV v b) (plV v c):=by unfold crs;grind
 rcases h.tri.emp _ _ _ hk c hc na nb hne with g|g|g
 .omega
 .by_cases p:0<crs (plV v a) (plV v c) (plV v k)
  .exact h.sees2 hv hk _ c rfl hc sa h1 p
  .rw[<-Sr];exact To hv b k a c vb vk va hc (by rw[Au];exact T) g (.inl oo)
 .by_cases p:0<crs (plV v b) (plV v k) (plV v c)
  .rw[<-Sr];exact h.sees2 hv (h.tri.rot _ _ _ hk) _ c rfl hc sb p oo
  .rw[<-Sr,<-Sr];exact To hv k a b c vk va vb hc (by rw[<-Au];exact T) g (.inr oo)
end
end
end Go.Proofs.YtlejkgngmjchdaaGreat
