import Derived.Test.YthlkpgdfifnagaaGreatL3
namespace Go.Proofs.YthlkpgdfifnagaaGreat
open Go Go.RowKit List
section
structure Vv(v:List Ae)(F:List (Ad×Bool))(m m':Mp):Prop where
 cov:∀S:Int->Prop,Cov (plV v) S (apM m)->Cov (plV v) S (apM m')
 fix:∀i j,Fx F i j=true->(apM m i j≠none\/apM m j i≠none)->(apM m' i j≠none\/apM m' j i≠none)
 ne:m≠[]->m'≠[]
theorem Vv.refl{v F m}:Vv v F m m:=⟨fun _ h=>h,fun _ _ _ h=>h,fun h=>h⟩
theorem Vv.trans{v F m m' m''}(h:Vv v F m m')(k:Vv v F m' m''):Vv v F m m'':=⟨fun S h1=>k.cov S (h.cov S h1),fun i j h1 h2=>k.fix i j h1 (h.fix i j h1 h2),fun h1=>k.ne (h.ne h1)⟩
theorem Ata{F:List (Ad×Bool)}{i j:Int}:Fx F j i=Fx F i j:=by unfold Fx;rw[Int.min_comm,Int.max_comm]
theorem Aox{v F q s m}(hv:Iv v)(hn:v.length<=1024)(h:Om v F (q++[s]) m)(hq:q.length<=5000000000):
  ∃q' m',Cw (v,m,F,q++[s])=some (.inl (v,m',F,q'))/\Om v F q' m'/\Vv v F m m'/\((m'=m/\q'=q)\/(phi (plV v) (hV v) v.length m'<phi (plV v) (hV v) v.length m/\q'.length=q.length+4)):=by
 obtain⟨k1,k2,k3⟩:=h.qn s s_;have es:pr2 s.a0 s.a1=s:=by
  obtain⟨x,y⟩:=s;unfold pr2;rw[Ol];simp only at k3⊢;omega
 have hw:w64 ((((q++[s]).length:Nat):Int)-1)=(q.length:Int):=by rw[length_append,length_singleton,Aq oo oo];omega
 have hi:idx (q++[s]) (q.length:Int)=some s:=(Aj s_).trans s_;have ht:List.take (Int.toNat (q.length:Int)) (q++[s])=q:=s_;have e0:Cw (v,m,F,q++[s]) =
   (fun j18:List Ad×Bool->Option (Sum (List Ae×Mp×List (Ad×Bool)×List Ad) An)=>if ((mget m s).isSome)=true then (if ((mget m ((⟨s.a1,s.a0⟩:Ad))).isSome)=true then (
    if (mget F s).getD false=true then (j18 (q,true))
    else (bnd (Wy (plV v s.a0) (plV v s.a1) (plV v ((mget m s).getD 0)) (plV v ((mget m ((⟨s.a1,s.a0⟩:Ad))).getD 0))) fun r169=>j18 (q,r169)))
   else (j18 (q,true))) else (j18 (q,true)))
   (fun s18=>if s18.2=true then (some (.inl (v,m,F,s18.1)))
    else (bnd (Jp (⟨v,m,F⟩:An) s.a0 s.a1) fun r185=>
    if r185.2=true then (gd ((s18.1.length+4)*16<=140737488355328)<|
     some (.inl (r185.1.v,r185.1.apex,r185.1.fixed,s18.1++[pr2 s.a0 ((mget m s).getD 0),pr2 ((mget m s).getD 0) s.a1,pr2 s.a1 ((mget m ((⟨s.a1,s.a0⟩:Ad))).getD 0),pr2 ((mget m ((⟨s.a1,s.a0⟩:Ad))).getD 0) s.a0])))
    else (some (.inl (r185.1.v,r185.1.apex,r185.1.fixed,s18.1))))):=by
  unfold Cw;simp only[hw];rw[iP s_,hi,Ac,gd_t (by simp;omega),gd_t (Wb hn k1 k2),Ac,gd_t (Wb hn k2 k1),Ac,jn_d,ht]
  by_cases c1:(mget m s).isSome=true
  .rw[iP c1,iP c1]
   by_cases c2:(mget m (⟨s.a1,s.a0⟩:Ad)).isSome=true
   .rw[iP c2,iP c2,gd_t (Wb hn k1 k2),Ac];obtain⟨k,hk⟩:=Option.isSome_iff_exists.1 c1;obtain⟨l,hl⟩:=Option.isSome_iff_exists.1 c2;have hk':apM m s.a0 s.a1=some k:=hk;have vk:=(h.map.val hk').2.2;have vl:=(h.map.val (show apM m s.a1 s.a0=some l from hl)).2.2;rw[p_eq (b:=⟨v,m,F⟩) k1,Ac,p_eq (b:=⟨v,m,F⟩) k2,Ac,hk,hl];simp only[Option.getD_some];rw[p_eq (b:=⟨v,m,F⟩) vk,Ac,p_eq (b:=⟨v,m,F⟩) vl,Ac];rfl
   .rw[iN c2,iN c2];rfl
  .rw[iN c1,iN c1];rfl
 rw[e0];dsimp only;have pop:(∀ k l,apM m s.a0 s.a1=some k->apM m s.a1 s.a0=some l->Fx F s.a0 s.a1=true\/DH (plV v) (hV v) s.a0 s.a1 k l<0) ->
   ∃q' m',some (Sum.inl (v,m,F,q))=some (Sum.inl (β:=An) (v,m',F,q'))/\Om v F q' m'/\Vv v F m m'/\((m'=m/\q'=q)\/(phi (plV v) (hV v) v.length m'<phi (plV v) (hV v) v.length m/\q'.length=q.length+4)):=
  fun hs=>⟨q,m,rfl,h.pop hs,.refl,.inl ⟨rfl,rfl⟩⟩
 by_cases c1:(mget m s).isSome=true
 .obtain⟨k,hk⟩:=Option.isSome_iff_exists.1 c1;have hk':apM m s.a0 s.a1=some k:=hk;rw[iP c1]
  by_cases c2:(mget m (⟨s.a1,s.a0⟩:Ad)).isSome=true
  ·obtain⟨l,hl⟩:=Option.isSome_iff_exists.1 c2;have hl':apM m s.a1 s.a0=some l:=hl;rw[if_pos c2];have hF:Fx F s.a0 s.a1=(mget F s).getD false:=by
    show (mget F (pr2 s.a0 s.a1)).getD false=_;rw[es]
   by_cases c3:(mget F s).getD false=true
   .rw[iP c3];exact pop fun _ _ _ _=>.inl (by rw[hF];exact c3)
   .rw[iN c3,hk,hl];simp only[Option.getD_some];obtain⟨vi,vj,vk,ck⟩:=h.tri.ccw _ _ _ hk';obtain⟨_,_,vl,cl⟩:=h.tri.ccw _ _ _ hl';have c0:crs (plV v s.a0) (plV v s.a1) (plV v l)<0:=by rw[Ch];omega
    obtain⟨hleg,hne⟩:=Alo hv vi vj vk vl ck c0;have hsd:Int.sign (crs (plV v s.a0) (plV v s.a1) (plV v k))*Int.sign (crs (plV v s.a0) (plV v s.a1) (plV v l)) = -1:=by rw[Agj];exact .inr ⟨ck,c0⟩
    obtain⟨d1,d2,d3,d4⟩:=Am3 hsd;rw[Ays (hv.ok _ vi) (hv.ok _ vj) (hv.ok _ vk) (hv.ok _ vl) d1 d2 d3 d4,Ac]
    by_cases c4:legP (plV v s.a0) (plV v s.a1) (plV v k) (plV v l)
    .rw[dT c4,iP rfl];refine pop fun k' l' hk2 hl2=>.inr ?_
     rw[hk'] at hk2;rw[hl'] at hl2;cases hk2;cases hl2
     exact hleg.1 c4
    .rw[dF c4,iN s_];have hD:¬DH (plV v) (hV v) s.a0 s.a1 k l<0:=fun g=>c4 (hleg.2 g)
     have Q:=At1 hv h.tri hk' hl' hD;have hs:Int.sign (crs (plV v k) (plV v l) (plV v s.a0))*Int.sign (crs (plV v k) (plV v l) (plV v s.a1)) = -1:=by
      rw[Agj];left;refine⟨?_,by rw[Bu];exact Q.c2⟩;have e:crs (plV v k) (plV v l) (plV v s.a0) = -crs (plV v s.a0) (plV v l) (plV v k):=by unfold crs;grind
      have:=Q.c1;omega
     rw[Bct (b:=⟨v,m,F⟩) hv hn h.map hk' hl',iP hs,Ac];simp only[if_true];rw[gd_t oo];obtain⟨n1,n2,n3,n4,n5,n6⟩:=Q.ne;refine⟨_,_,rfl,h.flip hv hk' hl' hD,⟨fun S hc=>?_,fun a b hF2 hab=>?_,fun _=>by simp[Aj7,putM,mput]⟩,.inr ⟨Az2 h.map.ok (Adc hv) Q oo,s_⟩⟩
     .rw[Aj8 h.map.ok n1 n2 n3 n4 n5 n6];exact Q.cov hc
     ·rw[Aj8 h.map.ok n1 n2 n3 n4 n5 n6];have nf:∀ a b,Fx F a b=true->¬ ((a=s.a0/\b=s.a1)\/(a=s.a1/\b=s.a0)):=fun a b hab e=>by
       rcases e with⟨e1,e2⟩|⟨e1,e2⟩
       .rw[e1,e2,hF] at hab;exact c3 hab
       .rw[e1,e2,Ata,hF] at hab;exact c3 hab
      rcases hab with g|g
      .left;intro e;rcases Agl e with t|t
       .exact g t
       .exact nf a b hF2 t
      .right;intro e;rcases Agl e with t|t
       .exact g t
       .exact nf b a (by rw[Ata];exact hF2) t
  .rw[iN c2];refine pop fun k' l' _ hl2=>?_
   exact absurd (by rw[show mget m (⟨s.a1,s.a0⟩:Ad)=some l' from hl2];rfl) c2
 .rw[iN c1];refine pop fun k' l' hk2 _=>?_
  exact absurd (by rw[show mget m s=some k' from hk2];rfl) c1
theorem Avg{b:An}(hv:Iv b.v)(hn:b.v.length<=1024)(hm:MapN b.v.length b.apex)(ht:Tri (plV b.v) (inN b.v.length) (apM b.apex)):
  ∃m',Kn b=some ⟨b.v,m',b.fixed⟩/\Om b.v b.fixed [] m'/\Vv b.v b.fixed b.apex m':=by
 have hsq:=Ahr hn;have hl:=hm.len;have hf:∀q,(Zl b.apex q).length<=1:=fun q=>by unfold Zl;split <;> simp
 have h0:Om b.v b.fixed (Bf cmp2 (b.apex.flatMap (Zl b.apex))) b.apex:=by
  refine⟨hm,ht,fun s hs=>?_,fun i j k l hk hl=>.inl ?_⟩
  .rw[Gs] at hs;obtain⟨q,hq,hs⟩:=mem_flatMap.1 hs;obtain⟨k1,k2,k3⟩:=hm.key q hq;unfold Zl at hs;split at hs
   .rw[mem_singleton] at hs;subst hs;unfold inN at *;simp only;omega
   .cases hs
  .rw[Gs,mem_flatMap];have n1:=(ht.ne hk).1;rcases Int.lt_or_gt_of_ne n1 with c|c
   .refine⟨(⟨i,j⟩,k),He hk,?_⟩;unfold Zl pr2;rw[iP (.inl c)];exact mem_singleton.2 rfl
   .refine⟨(⟨j,i⟩,l),He hl,?_⟩;unfold Zl;rw[iP (.inl c),Abc];exact mem_singleton.2 rfl
 unfold Kn;rw[Azx hn hm,Ac];have hlen:(Bf cmp2 (b.apex.flatMap (Zl b.apex))).length<=1048576:=by
  rw[Ct];have:=Qg hf b.apex;omega
 have hphi:phi (plV b.v) (hV b.v) b.v.length b.apex<=1073741824:=by
  have h1:=Az1 (P:=plV b.v) (H:=hV b.v) (n:=b.v.length) b.apex;have h2:=Nat.mul_le_mul (oo:b.apex.length<=1048576) hn;omega
 have:=Ax (B:=Cw) (fun s=>4*phi (plV b.v) (hV b.v) b.v.length s.2.1+s.2.2.2.length)
  (fun s=>s.1=b.v/\s.2.2.1=b.fixed/\Om b.v b.fixed s.2.2.2 s.2.1/\Vv b.v b.fixed b.apex s.2.1/\4*phi (plV b.v) (hV b.v) b.v.length s.2.1+s.2.2.2.length<=5000000000)
  (fun t=>∃m',t=⟨b.v,m',b.fixed⟩/\Om b.v b.fixed [] m'/\Vv b.v b.fixed b.apex m') (fun s hs=>by
   obtain⟨v,m,F,q⟩:=s;obtain⟨e1,e2,h1,h2,h3⟩:=hs;simp only at e1 e2 h1 h2 h3;subst e1;subst e2
   by_cases hq:q=[]
   .subst hq;right;refine⟨⟨b.v,m,b.fixed⟩,?_,m,rfl,h1,h2⟩;unfold Cw;rw[iN s_]
   .left;obtain⟨q0,s,rfl⟩:∃q0 s,q=q0++[s]:=⟨q.dropLast,q.getLast hq,(dropLast_concat_getLast hq).symm⟩;rw[length_append,length_singleton] at h3;obtain⟨q',m',h4,h5,h6,h7⟩:=Aox hv hn h1 oo;refine⟨_,h4,⟨rfl,rfl,h5,h2.trans h6,?_⟩,?_⟩
    .dsimp only;rcases h7 with⟨rfl,rfl⟩|⟨g1,g2⟩ <;> omega
    .dsimp only;rw[length_append,length_singleton];rcases h7 with⟨rfl,rfl⟩|⟨g1,g2⟩ <;> omega)
  (b.v,b.apex,b.fixed,Bf cmp2 (b.apex.flatMap (Zl b.apex))) ⟨rfl,rfl,h0,.refl,by dsimp only;omega⟩
 obtain⟨t,h1,m',rfl,h2,h3⟩:=this;rw[h1,Ac];exact⟨m',rfl,h2,h3⟩
theorem Ael{σ τ:Type}{B:σ->Option (Sum σ τ)}(st:Nat->σ)(t:τ):∀(N:Nat),(∀k,k<N->B (st k)=some (.inl (st (k+1))))->B (st N)=some (.inr t)->lfix B (st 0)=some t:=by
 intro N h he;have key:∀j k,j+k=N->lfix B (st k)=some t:=by
  intro j
  induction j with
  |zero=>
   intro k hk;rw[Ay,show k=N by omega,he]
  |succ j ih=>
   intro k hk;rw[Ay,h k oo];exact ih (k+1) oo
 exact key N 0 oo
theorem Bb1{v:List Ae}{i j:Nat}(hi:i<v.length)(hj:j<v.length):befV v[i] v[j]↔befP (plV v (i:Int)) (plV v (j:Int)):=by
 unfold plV;rw[Aj hi,Aj hj];rfl
theorem Aks{v:List Ae}(hv:Iv v):Eu v:=by
 unfold Eu;rw[pairwise_iff_getElem];intro i j hi hj hij hs;have:=hv.dist (i:Int) (j:Int) ⟨oo,oo⟩ ⟨oo,oo⟩ (by
  unfold plV Co;rw[Aj hi,Aj hj];exact hs)
 omega
structure Se(v:List Ae)(l:LI):Prop where
 perm:l.Perm (inds v.length)
 ord:l.Pairwise fun i j=>befP (plV v i) (plV v j)
theorem Aoy{v:List Ae}(hv:Iv v)(hn:v.length<=1024):∃l,Wz v=some l/\Se v l:=by
 have hd:=Aks hv;have h0:lfix (Us v) (([]:LI),0)=some (inds v.length):=by
  refine Ael (fun k=>(inds k,(k:Int))) _ v.length (fun k hk=>?_) ?_
  .unfold Us;rw[iP (by simp only;omega),gd_t (by simp only[Aa5];omega),As oo];unfold inds;rw[range_succ,map_append];rfl
  .unfold Us;rw[iN (by simp only;omega)]
 have hok:∀x∈inds v.length,okIx v x:=fun x hx=>Xl.1 hx
 refine⟨Bf (cmpR v) (inds v.length),?_,Db _ _,?_⟩
 .unfold Wz;rw[jn_d,h0,Ac];exact gd_t ⟨by rw[Aa5];omega,hok,hd⟩
 .have hs:=Pf (totR hd) hok;have hp:=Db (cmpR v) (inds v.length);have hnd:(Bf (cmpR v) (inds v.length)).Nodup:=hp.nodup_iff.2 Zj;unfold List.Nodup at hnd;have:=hs.and hnd;refine List.Pairwise.imp_of_mem ?_ this;rintro i j hi hj ⟨h1,h2⟩;obtain⟨a,ha,rfl,_⟩:=Mn (hok i (hp.mem_iff.1 hi));obtain⟨b,hb,rfl,_⟩:=Mn (hok j (hp.mem_iff.1 hj));rw[<-Bb1 ha hb]
  by_cases c:befV v[a] v[b]
  .exact c
  .rw[Yk hb ha] at h1;exfalso;apply h2;have:=(totR hd).tot (a:Int) (b:Int) ⟨oo,oo⟩ ⟨oo,oo⟩ (by rw[Yk ha hb];exact c) (by rw[Yk hb ha];exact h1);exact this
noncomputable def putAll(m:Mp)(p:Int)(l:List Ad):Mp:=l.foldl (fun m s=>putM m s.a0 s.a1 p) m
theorem MapN.putAll{n:Nat}{p:Int}(hp:inN n p):∀{l:List Ad} {m:Mp},MapN n m->(∀s∈l,inN n s.a0/\inN n s.a1)->MapN n (putAll m p l)
 |[],_,h,_=>h
 |s::r,m,h,hs=>MapN.putAll hp (l:=r) (h.putM (hs s mS).1 (hs s mS).2 hp) fun x hx=>hs x (mO _ hx)
variable {P:Int->Ab}{V S:Int->Prop}{R:Int->Int->Prop}{p:Int}
theorem All{m:Mp}(hm:Cx m)(h:Adds P V S (apM m) R p):∀ (l:List Ad),(∀ s∈l,Vis P R p s.a0 s.a1)->Cx (putAll m p l) /\
  ∀i j k,apM (putAll m p l) i j=some k↔apM m i j=some k\/((⟨i,j⟩∈l/\k=p)\/(⟨k,i⟩∈l/\j=p)\/(⟨j,k⟩∈l/\i=p)):=by
 intro l;generalize hr:l.reverse=r;have hl:l=r.reverse:=by rw[<-hr,reverse_reverse]
 clear hr;subst hl
 induction r with
 |nil=>intro _;exact⟨hm,fun i j k=>by simp[putAll]⟩
 |cons s r ih=>
  intro hs;have hs':∀x∈r.reverse,Vis P R p x.a0 x.a1:=fun x hx=>hs x (by simp at hx⊢;exact .inl hx)
  have hv:=hs s s_;obtain⟨i1,i2⟩:=ih hs';obtain⟨sx,sy,nxy,_⟩:=h.r1 _ _ hv.1;have np:=h.np;have e:putAll m p (s::r).reverse=putM (putAll m p r.reverse) s.a0 s.a1 p:=by
   unfold putAll;rw[reverse_cons,foldl_append];rfl
  rw[e];refine⟨((i1.put _ _).put _ _).put _ _,fun i j k=>?_⟩;rw[Adp i1];have visS:∀{x y:Int},(⟨x,y⟩:Ad)∈r.reverse->Vis P R p x y:=fun hx=>hs' _ hx
  have k1:∀c,apM (putAll m p r.reverse) p s.a0=some c->c=s.a1:=fun c hc=>by
   rcases (i2 _ _ _).1 hc with g|⟨g,_⟩|⟨g,_⟩|⟨g,_⟩
   .exact absurd (h.used _ _ _ g) np
   .exact absurd (h.r1 _ _ (visS g).1).1 np
   .exact absurd (h.r1 _ _ (visS g).1).2.1 np
   .exact h.uniq2 (visS g) hv
  have k2:∀c,apM (putAll m p r.reverse) s.a1 p=some c->c=s.a0:=fun c hc=>by
   rcases (i2 _ _ _).1 hc with g|⟨g,_⟩|⟨g,_⟩|⟨g,e⟩
   .exact absurd (h.used _ _ _ (h.tri.rot _ _ _ g)) np
   .exact absurd (h.r1 _ _ (visS g).1).2.1 np
   .exact h.uniq (visS g) hv
   .exact absurd (e▸sy) np
  have k3:∀c,apM (putAll m p r.reverse) s.a0 s.a1=some c->c=p:=fun c hc=>by
   rcases (i2 _ _ _).1 hc with g|⟨_,g⟩|⟨_,e⟩|⟨_,e⟩
   .rw[h.r4 _ _ hv.1] at g;cases g
   .exact g
   .exact absurd (e▸sy) np
   .exact absurd (e▸sx) np
  have mem:∀x y:Int,(⟨x,y⟩:Ad)∈(s::r).reverse↔(x=s.a0/\y=s.a1)\/(⟨x,y⟩:Ad)∈r.reverse:=fun x y=>by
   obtain⟨s0,s1⟩:=s;rw[reverse_cons,mem_append,mem_singleton,Ol];exact Or.comm
  rw[mem,mem,mem];have i2':=i2 i j k
  by_cases c1:i=p/\j=s.a0
  .rw[iP c1];obtain⟨rfl,rfl⟩:=c1;constructor
   .intro hk;cases hk
    exact .inr (.inr (.inr ⟨.inl ⟨rfl,rfl⟩,rfl⟩))
   .rintro (g|⟨⟨e1,_⟩|g,e⟩|⟨⟨_,e2⟩|g,e⟩|⟨⟨_,e2⟩|g,_⟩)
    .exact absurd (h.used _ _ _ g) np
    .exact absurd (e1▸sx) np
    .exact absurd (h.r1 _ _ (visS g).1).1 np
    .exact absurd (e2▸sy) np
    .exact absurd (h.r1 _ _ (visS g).1).2.1 np
    .rw[e2]
    .rw[h.uniq2 hv (visS g)]
  rw[iN c1]
  by_cases c2:i=s.a1/\j=p
  .rw[iP c2];obtain⟨rfl,rfl⟩:=c2;constructor
   .intro hk;cases hk
    exact .inr (.inr (.inl ⟨.inl ⟨rfl,rfl⟩,rfl⟩))
   .rintro (g|⟨⟨_,e1⟩|g,e⟩|⟨⟨e1,_⟩|g,e⟩|⟨⟨e1,_⟩|g,e⟩)
    .exact absurd (h.used _ _ _ (h.tri.rot _ _ _ g)) np
    .exact absurd (e1▸sy) np
    .exact absurd (h.r1 _ _ (visS g).1).2.1 np
    .rw[e1]
    .rw[h.uniq hv (visS g)]
    .exact absurd (e▸sy) np
    .exact absurd (e▸sy) np
  rw[iN c2]
  by_cases c3:i=s.a0/\j=s.a1
  .rw[iP c3];obtain⟨rfl,rfl⟩:=c3;constructor
   .intro hk;cases hk
    exact .inr (.inl ⟨.inl ⟨rfl,rfl⟩,rfl⟩)
   .rintro (g|⟨_,e⟩|⟨_,e⟩|⟨_,e⟩)
    .rw[h.r4 _ _ hv.1] at g;cases g
    .rw[e]
    .exact absurd (e▸sy) np
    .exact absurd (e▸sx) np
  rw[iN c3,i2'];constructor
  .rintro (g|⟨g,e⟩|⟨g,e⟩|⟨g,e⟩)
   .exact .inl g
   .exact .inr (.inl ⟨.inr g,e⟩)
   .exact .inr (.inr (.inl ⟨.inr g,e⟩))
   .exact .inr (.inr (.inr ⟨.inr g,e⟩))
  .rintro (g|⟨g|g,e⟩|⟨g|g,e⟩|⟨g|g,e⟩)
   .exact .inl g
   .exact absurd g c3
   .exact .inr (.inl ⟨g,e⟩)
   .exact absurd ⟨g.2,e⟩ c2
   .exact .inr (.inr (.inl ⟨g,e⟩))
   .exact absurd ⟨e,g.1⟩ c1
   .exact .inr (.inr (.inr ⟨g,e⟩))
end
section
theorem Akt{a b c q:Ab}(h1:befP a b)(h2:befP b c)(h0:crs a b c=0)(hq:crs a b q<0):crs b c q<0:=by
 have m:∀x y z:Ab,crs ⟨x.X,-x.Y⟩ ⟨y.X,-y.Y⟩ ⟨z.X,-z.Y⟩ = -crs x y z:=fun x y z=>by unfold crs;grind
 have e1:crs b c q*(b.X-a.X)=crs a b q*(c.X-b.X)-(q.X-b.X)*crs a b c:=by unfold crs;grind
 have e2:crs b c q*(b.Y-a.Y)=crs a b q*(c.Y-b.Y)-(q.Y-b.Y)*crs a b c:=by unfold crs;grind
 have e3:(b.X-a.X)*(c.Y-b.Y)-(b.Y-a.Y)*(c.X-b.X)=crs a b c:=by unfold crs;grind
 rw[h0,Int.mul_zero,Int.sub_zero] at e1 e2;rw[h0] at e3;have fin:∀x w z:Int,x*w=crs a b q*z->0<w->0<z->x<0:=fun x w z e hw hz=>by
  have:=Int.mul_neg_of_neg_of_pos hq hz;rcases Int.lt_or_le x 0 with k|k
  .exact k
  .have:=Int.mul_nonneg k (Int.le_of_lt hw);omega
 by_cases g:a.X<b.X
 ·have hc:b.X<c.X:=by
   rcases Int.lt_or_le b.X c.X with k|k
   .exact k
   .have hx:c.X=b.X:=by unfold befP at h2;omega
    have hy:b.Y<c.Y:=by unfold befP at h2;omega
    have z:c.X-b.X=0:=oo;rw[z,Int.mul_zero] at e3;have:=Int.mul_pos (oo:0<b.X-a.X) (oo:0<c.Y-b.Y);omega
  exact fin _ _ _ e1 oo oo
 .have hx:a.X=b.X:=by unfold befP at h1;omega
  have hy:a.Y<b.Y:=by unfold befP at h1;omega
  have hc:b.X=c.X:=by
   have z:b.X-a.X=0:=oo;rw[z,Int.zero_mul] at e3;have:(b.Y-a.Y)*(c.X-b.X)=0:=oo;rcases Int.mul_eq_zero.1 this with k|k <;> omega
  have hy2:b.Y<c.Y:=by unfold befP at h2;omega
  exact fin _ _ _ e2 oo oo
section
variable {v:List Ae}{l:LI}
theorem Se.len(hr:Se v l):l.length=v.length:=by rw[hr.perm.length_eq,Aa5]
theorem Se.val(hr:Se v l){i:Int}:i∈l↔inN v.length i:=by rw[hr.perm.mem_iff,Xl]
theorem Se.lt(hr:Se v l){a b:Nat}(ha:a<l.length)(hb:b<l.length)(h:a<b):befP (plV v l[a]) (plV v l[b]):=(pairwise_iff_getElem.1 hr.ord) a b ha hb h
theorem Se.inj(hr:Se v l){a b:Nat}(ha:a<l.length)(hb:b<l.length)(h:l[a]=l[b]):a=b:=by
 rcases Nat.lt_trichotomy a b with c|c|c
 .have:=hr.lt ha hb c;rw[h] at this;exact (Wv this this).elim
 .exact c
 .have:=hr.lt hb ha c;rw[h] at this;exact (Wv this this).elim
def Px(l:LI)(k:Nat)(i:Int):Prop:=∃(j:Nat) (hj:j<l.length),j<k/\i=l[j]
structure Alm(v:List Ae)(l:LI)(k:Nat)(m:Mp):Prop where
 map:MapN v.length m
 tri:Tri (plV v) (inN v.length) (apM m)
 cov:Cov (plV v) (Px l k) (apM m)
 used:∀i j c,apM m i j=some c->Px l k i
theorem Px.succ{k:Nat}(hk:k<l.length){i:Int}:Px l (k+1) i↔Px l k i\/i=l[k]:=by
 constructor
 .rintro⟨j,hj,h1,rfl⟩
  by_cases e:j=k
  .subst e;exact .inr rfl
  .exact .inl ⟨j,hj,oo,rfl⟩
 .rintro (⟨j,hj,h1,rfl⟩|rfl)
  .exact⟨j,hj,oo,rfl⟩
  .exact⟨k,hk,oo,rfl⟩
theorem Se.place(hr:Se v l){k:Nat}(hk:k<l.length):(∀i,Px l k i->inN v.length i)/\inN v.length l[k]/\¬Px l k l[k]/\(∀i,Px l k i->befP (plV v i) (plV v l[k]))/\(∀i,inN v.length i->¬Px l k i->i≠l[k]->befP (plV v l[k]) (plV v i)):=by
 refine⟨fun i hi=>?_,hr.val.1 (gM hk),fun hp=>?_,fun i hi=>?_,fun i hi h1 h2=>?_⟩
 .obtain⟨j,hj,_,rfl⟩:=hi;exact hr.val.1 (gM hj)
 .obtain⟨j,hj,h1,e⟩:=hp;have:=hr.inj hk hj e;omega
 .obtain⟨j,hj,h1,rfl⟩:=hi;exact hr.lt hj hk h1
 .obtain⟨j,hj,rfl⟩:=getElem_of_mem (hr.val.2 hi);refine hr.lt hk hj ?_;rcases Nat.lt_trichotomy j k with c|c|c
  .exact absurd ⟨j,hj,c,rfl⟩ h1
  .subst c;exact absurd rfl h2
  .exact c
def visB(v:List Ae)(p:Int)(s:Ad):Bool:=decide (0<crs (plV v s.a0) (plV v s.a1) (plV v p))
theorem Be8(hv:Iv v)(hn:v.length<=1024){F:List (Ad × Bool)}{b:An}{rl:List Ad}{m:Mp}(hm:MapN v.length m){p:Int}(hp:inN v.length p)(hrl:∀ s∈rl,inN v.length s.a0/\inN v.length s.a1)(hlen:rl.length<=2000000):
  lfix (Cv (b,rl) p) (v,m,F,0)=some (v,putAll m p (rl.filter (visB v p)),F):=by
 have hM:∀k,MapN v.length (putAll m p ((rl.take k).filter (visB v p))):=fun k=>hm.putAll hp fun s hs=>hrl s (mem_of_mem_take (mem_filter.1 hs).1)
 have:=Ael (B:=Cv (b,rl) p) (fun k=>(v,putAll m p ((rl.take k).filter (visB v p)),F,(k:Int))) (v,putAll m p (rl.filter (visB v p)),F) rl.length (fun k hk=>?_) ?_
 .simpa[putAll] using this
 ·unfold Cv;have hs:=hrl rl[k] (getElem_mem hk);have e:(rl.take (k+1)).filter (visB v p)=(rl.take k).filter (visB v p)++if visB v p rl[k] then [rl[k]] else []:=by
   rw[take_succ_eq_append_getElem hk,filter_append,filter_cons,filter_nil]
  simp only;rw[iP oo,jn_d,Aj hk,Ac,p_eq (b:=⟨v,_,F⟩) hs.1,Ac,p_eq (b:=⟨v,_,F⟩) hs.2,Ac,p_eq (b:=⟨v,_,F⟩) hp,Ac,turn_eq (hv.ok _ hs.1) (hv.ok _ hs.2) (hv.ok _ hp),Ac,As oo,e]
  by_cases c:0<crs (plV v rl[k].a0) (plV v rl[k].a1) (plV v p)
  .rw[Int.sign_eq_one_of_pos c,iP oo,Aj9 (b:=⟨v,putAll m p ((rl.take k).filter (visB v p)),F⟩) hn (hM k) hs.1 hs.2 hp,Ac,iP (by unfold visB;simpa using c)];dsimp only;unfold putAll;rw[foldl_append];rfl
  ·rw[if_neg (fun g=>c (by
    rcases Int.lt_trichotomy (crs (plV v rl[k].a0) (plV v rl[k].a1) (plV v p)) 0 with t|t|t
    .rw[Int.sign_eq_neg_one_of_neg t] at g;omega
    .rw[t] at g;simp at g
    .exact t)),iN (by unfold visB;simpa using c),append_nil]
 .unfold Cv;simp only;rw[iN oo,take_length]
theorem Alm.step(hv:Iv v)(hn:v.length<=1024)(hr:Se v l){F:List (Ad × Bool)}{k:Nat}(hk:k<l.length){m:Mp}(h:Alm v l k m):
  ∃m',(bnd (Lu ⟨v,m,F⟩) fun r498=>bnd (lfix (Cv r498 l[k]) (r498.1.v,r498.1.apex,r498.1.fixed,0)) fun t=>some t)=some (v,m',F)/\Alm v l (k+1) m'/\(m≠[]->m'≠[]):=by
 obtain⟨q1,q2,q3,q4,q5⟩:=hr.place hk;have hA:=Azw h.tri h.cov h.used q1 q2 q3 q4 q5;have hsq:=Ahr hn;have hl:=h.map.len;have hf:∀q,(rimF m q).length<=1:=fun q=>by unfold rimF;split <;> simp
 have hmem:∀x y:Int,(⟨x,y⟩:Ad)∈m.flatMap (rimF m)↔Rim (apM m) x y:=fun x y=>by
  rw[mem_flatMap];constructor
  .rintro⟨q,hq,hx⟩;unfold rimF at hx;split at hx
   .cases hx
   .rename_i hn;rw[mem_singleton] at hx;obtain⟨⟨a,b⟩,c⟩:=q;unfold rev2 at hx hn;rw[Ol] at hx;simp only at hx hn;obtain⟨rfl,rfl⟩:=hx;refine⟨⟨c,Up h.map.ok hq⟩,?_⟩;simpa[apM] using hn
  .rintro⟨⟨c,hc⟩,hn⟩;refine⟨(⟨y,x⟩,c),He hc,?_⟩;unfold rimF rev2;rw[iN (by rw[show mget m (⟨x,y⟩:Ad)=none from hn];simp)];exact mem_singleton.2 rfl
 have hrl:∀s∈Bf cmp2 (m.flatMap (rimF m)),inN v.length s.a0/\inN v.length s.a1:=fun s hs=>by
  rw[Gs] at hs;obtain⟨x,y⟩:=s;obtain⟨⟨c,hc⟩,_⟩:=(hmem x y).1 hs;have:=h.map.val hc;exact⟨this.2.1,this.1⟩
 have hlen:(Bf cmp2 (m.flatMap (rimF m))).length<=2000000:=by
  rw[Ct];have:=Qg hf m;omega
 rw[Bfp (b:=⟨v,m,F⟩) hn h.map,Ac];dsimp only;rw[Be8 hv hn h.map q2 hrl hlen,Ac];have hvis:∀s∈(Bf cmp2 (m.flatMap (rimF m))).filter (visB v l[k]),Vis (plV v) (Rim (apM m)) l[k] s.a0 s.a1:=fun s hs=>by
  obtain⟨h1,h2⟩:=mem_filter.1 hs;rw[Gs] at h1;exact⟨(hmem s.a0 s.a1).1 h1,by unfold visB at h2;simpa using h2⟩
 have hmv:∀x y:Int,(⟨x,y⟩:Ad)∈(Bf cmp2 (m.flatMap (rimF m))).filter (visB v l[k])↔Vis (plV v) (Rim (apM m)) l[k] x y:=fun x y=>by
  constructor
  .exact fun hs=>hvis _ hs
  .rintro⟨h1,h2⟩;exact mem_filter.2 ⟨Gs.2 ((hmem x y).2 h1),by unfold visB;simpa using h2⟩
 obtain⟨o1,o2⟩:=All h.map.ok hA _ hvis;have hN:∀i j c,apM (putAll m l[k] ((Bf cmp2 (m.flatMap (rimF m))).filter (visB v l[k]))) i j=some c↔apM m i j=some c\/New (plV v) (Rim (apM m)) l[k] i j c:=fun i j c=>by
  rw[o2,hmv,hmv,hmv];rfl
 refine⟨_,rfl,⟨?_,hA.tri' hN,?_,?_⟩,fun hne=>?_⟩
 .exact h.map.putAll q2 fun s hs=>hrl s (mem_filter.1 hs).1
 .have:=hA.cov' hN h.cov;intro i j c hc hn d hd;exact this i j c hc hn d ((Px.succ hk).1 hd)
 .intro i j c hc;exact (Px.succ hk).2 (hA.used' hN i j c hc)
 .obtain⟨q,hq⟩:=exists_mem_of_ne_nil m hne;intro e;obtain⟨⟨a,b⟩,c⟩:=q;have hc:apM m a b=some c:=Up h.map.ok hq;have:=(hN a b c).2 (.inl hc);rw[e] at this;cases this
end
def Ajh(v:List Ae):Prop:=∀i j k,inN v.length i->inN v.length j->inN v.length k->crs (plV v i) (plV v j) (plV v k)=0
section
variable {v:List Ae}{l:LI}
theorem Bgv(hv:Iv v)(hn:v.length<=1024)(hr:Se v l)(b:An)(hb:b.v=v):∃ n0:Nat,lfix (Hy l b) 2=some (n0:Int)/\2<=n0/\(∀ k,2<=k->k<n0->∃ (h0:0<l.length) (h1:1<l.length) (hk:k<l.length),crs (plV v l[0]) (plV v l[1]) (plV v l[k])=0) /\
  (∀(h0:0<l.length) (h1:1<l.length) (hk:n0<l.length),crs (plV v l[0]) (plV v l[1]) (plV v l[n0])≠0)/\(n0<=l.length\/n0=2):=by
 have hlen:=hr.len;have:=Ax (B:=Hy l b) (fun s=>l.length-s.toNat) (fun s=>∃k:Nat,s=(k:Int)/\2<=k/\(k<=l.length\/k=2)/\∀j,2<=j->j<k->∃(h0:0<l.length) (h1:1<l.length) (hk:j<l.length),crs (plV v l[0]) (plV v l[1]) (plV v l[j])=0)
  (fun t=>∃n0:Nat,t=(n0:Int)/\2<=n0/\(∀k,2<=k->k<n0->∃(h0:0<l.length) (h1:1<l.length) (hk:k<l.length),crs (plV v l[0]) (plV v l[1]) (plV v l[k])=0) /\
   (∀(h0:0<l.length) (h1:1<l.length) (hk:n0<l.length),crs (plV v l[0]) (plV v l[1]) (plV v l[n0])≠0)/\(n0<=l.length\/n0=2)) (fun s hs=>by
   obtain⟨k,rfl,h2,h3,h4⟩:=hs;unfold Hy;rw[jn_d]
   by_cases c:k<l.length
   .have h0:0<l.length:=oo;have h1:1<l.length:=oo;have i0:idx l 0=some l[0]:=Aj (j:=0) h0;have i1:idx l 1=some l[1]:=Aj (j:=1) h1;have v0:=hr.val.1 (gM h0);have v1:=hr.val.1 (gM h1);have vk:=hr.val.1 (gM c);rw[<-hb] at v0 v1 vk;rw[iP oo,i0,Ac,i1,Ac,Aj c,Ac,p_eq v0,Ac,p_eq v1,Ac,p_eq vk,Ac,hb];rw[hb] at v0 v1 vk;rw[turn_eq (hv.ok _ v0) (hv.ok _ v1) (hv.ok _ vk),Ac]
    by_cases z:crs (plV v l[0]) (plV v l[1]) (plV v l[k])=0
    .left;rw[dT (by rw[z];rfl)];refine⟨((k+1:Nat):Int),?_,⟨k+1,rfl,oo,.inl oo,fun j hj hjk=>?_⟩,oo⟩
     .dsimp only;rw[iP rfl,As oo]
     .by_cases e:j=k
      .subst e;exact⟨h0,h1,c,z⟩
      .exact h4 j hj oo
    .right;rw[dF (by rwa [Int.sign_eq_zero_iff_zero])];exact⟨(k:Int),rfl,k,rfl,h2,h4,fun _ _ _=>z,h3⟩
   .right;rw[iN oo];exact⟨(k:Int),rfl,k,rfl,h2,h4,fun _ _ hk=>absurd hk c,h3⟩) 2 ⟨2,rfl,oo,.inr rfl,fun j h1 h2=>oo⟩
 obtain⟨t,h1,n0,rfl,h2⟩:=this;exact⟨n0,h1,h2⟩
structure Fan(v:List Ae)(l:LI)(n0:Nat):Prop where
 two:2<=n0
 lt:n0<l.length
 col:∀i j k,Px l n0 i->Px l n0 j->Px l n0 k->crs (plV v i) (plV v j) (plV v k)=0
 off:crs (plV v l[0]) (plV v l[1]) (plV v l[n0])≠0
def fanS(v:List Ae)(l:LI)(n0 i:Nat):Ad:=if 0<crs (plV v (l.getD i 0)) (plV v (l.getD (i+1) 0)) (plV v (l.getD n0 0)) then ⟨l.getD i 0,l.getD (i+1) 0⟩ else ⟨l.getD (i+1) 0,l.getD i 0⟩
def fanL(v:List Ae)(l:LI)(n0 k:Nat):List Ad:=(List.range k).map (fanS v l n0)
theorem Qr{l:LI}{i:Nat}(h:i<l.length):l.getD i 0=l[i]:=by simp[h]
theorem Fan.place(hr:Se v l){n0:Nat}(hf:Fan v l n0){i:Nat}(h:i<n0):Px l n0 (l.getD i 0):=by
 have:=hf.lt;exact⟨i,oo,h,Qr oo⟩
theorem Fan.bef(hr:Se v l){n0:Nat}(hf:Fan v l n0){i j:Nat}(h:i<j)(hj:j<n0):befP (plV v (l.getD i 0)) (plV v (l.getD j 0)):=by
 have:=hf.lt;rw[Qr (oo:i<l.length),Qr (oo:j<l.length)];exact hr.lt oo oo h
theorem Bgw(hv:Iv v)(hn:v.length<=1024)(hr:Se v l){n0:Nat}(hf:Fan v l n0){F:List (Ad × Bool)}:
  lfix (Ew (n0:Int) l) (v,[],F,0)=some (v,putAll [] (l.getD n0 0) (fanL v l n0 (n0-1)),F):=by
 have h2:=hf.two;have hlt:=hf.lt;have hlen:=hr.len;have val:∀i,i<l.length->inN v.length (l.getD i 0):=fun i hi=>by rw[Qr hi];exact hr.val.1 (gM hi)
 have hM:∀k,k<=n0-1->MapN v.length (putAll [] (l.getD n0 0) (fanL v l n0 k)):=fun k hk=>by
  refine MapN.putAll (val n0 hlt) ⟨List.Pairwise.nil,fun q hq=>by cases hq⟩ fun s hs=>?_
  obtain⟨i,hi,rfl⟩:=mem_map.1 hs;rw[mem_range] at hi;unfold fanS;split
  .exact⟨val _ oo,val _ oo⟩
  .exact⟨val _ oo,val _ oo⟩
 refine Ael (B:=Ew (n0:Int) l) (fun k=>(v,putAll [] (l.getD n0 0) (fanL v l n0 k),F,(k:Int))) (v,putAll [] (l.getD n0 0) (fanL v l n0 (n0-1)),F) (n0-1) (fun k hk=>?_) ?_
 ·unfold Ew;simp only;rw[As oo,if_pos oo,jn_d,Aj (show k<l.length by omega),Ac,Aj (show k+1<l.length by omega),Ac,Aj hlt,Ac];have v0:=val k oo;have v1:=val (k+1) oo;have vp:=val n0 hlt;have e:putAll [] (l.getD n0 0) (fanL v l n0 (k+1))=putM (putAll [] (l.getD n0 0) (fanL v l n0 k)) (fanS v l n0 k).a0 (fanS v l n0 k).a1 (l.getD n0 0):=by
   unfold putAll fanL;rw[range_succ,map_append,foldl_append];rfl
  rw[e];unfold fanS;rw[Qr (oo:k<l.length)] at v0⊢;rw[Qr (oo:k+1<l.length)] at v1⊢;rw[Qr hlt] at vp⊢;have hM':=hM k oo;rw[Qr hlt] at hM';rw[p_eq (b:=⟨v,_,F⟩) v0,Ac,p_eq (b:=⟨v,_,F⟩) v1,Ac,p_eq (b:=⟨v,_,F⟩) vp,Ac,turn_eq (hv.ok _ v0) (hv.ok _ v1) (hv.ok _ vp),Ac]
  by_cases c:0<crs (plV v l[k]) (plV v l[k+1]) (plV v l[n0])
  .rw[Int.sign_eq_one_of_pos c,iP oo,iP c,Ac,Ac,Ac,Aj9 (b:=⟨v,putAll [] l[n0] (fanL v l n0 k),F⟩) hn hM' v0 v1 vp,Ac]
  ·rw[if_neg (fun g=>c (by
    rcases Int.lt_trichotomy (crs (plV v l[k]) (plV v l[k+1]) (plV v l[n0])) 0 with t|t|t
    .rw[Int.sign_eq_neg_one_of_neg t] at g;omega
    .rw[t] at g;simp at g
    .exact t)),iN c,Ac,Ac,Ac,Aj9 (b:=⟨v,putAll [] l[n0] (fanL v l n0 k),F⟩) hn hM' v1 v0 vp,Ac]
 .unfold Ew;simp only;rw[As oo,iN oo]
theorem Fan.swept(hv:Iv v)(hn:v.length<=1024)(hr:Se v l){n0:Nat}(hf:Fan v l n0):Alm v l (n0+1) (putAll [] (l.getD n0 0) (fanL v l n0 (n0-1)))/\putAll [] (l.getD n0 0) (fanL v l n0 (n0-1))≠[]:=by
 have h2:=hf.two;have hlt:=hf.lt;have hlen:=hr.len;have val:∀i,i<l.length->inN v.length (l.getD i 0):=fun i hi=>by rw[Qr hi];exact hr.val.1 (gM hi)
 obtain⟨q1,q2,q3,q4,q5⟩:=hr.place hlt;rw[<-Qr hlt] at q2 q3 q4 q5;have hoff:=hf.off;rw[<-Qr (oo:0<l.length),<-Qr (oo:1<l.length),<-Qr hlt] at hoff;generalize hp:l.getD n0 0=p at *;have he:∀i j,apM [] i j=none:=fun i j=>rfl
 have hS:∀i,Px l n0 i↔∃k,k<n0/\i=l.getD k 0:=fun i=>by
  constructor
  .rintro⟨j,hj,h1,rfl⟩;exact⟨j,h1,(Qr hj).symm⟩
  .rintro⟨k,hk,rfl⟩;exact hf.place hr hk
 have same:∀ i,i+1<n0->(0<crs (plV v (l.getD 0 0)) (plV v (l.getD 1 0)) (plV v p)->0<crs (plV v (l.getD i 0)) (plV v (l.getD (i+1) 0)) (plV v p)) /\
   (crs (plV v (l.getD 0 0)) (plV v (l.getD 1 0)) (plV v p)<0->crs (plV v (l.getD i 0)) (plV v (l.getD (i+1) 0)) (plV v p)<0):=by
  intro i
  induction i with
  |zero=>exact fun _=>⟨fun h=>h,fun h=>h⟩
  |succ i ih=>
   intro hi;obtain⟨i1,i2⟩:=ih oo;have b1:=hf.bef hr (oo:i<i+1) oo;have b2:=hf.bef hr (oo:i+1<i+2) hi;have c0:=hf.col _ _ _ (hf.place hr (oo:i<n0)) (hf.place hr (oo:i+1<n0)) (hf.place hr hi);exact⟨fun h=>Av5 b1 b2 c0 (i1 h),fun h=>Akt b1 b2 c0 (i2 h)⟩
 have key:∃R,Adds (plV v) (inN v.length) (Px l n0) (apM []) R p/\∀x y:Int,(⟨x,y⟩:Ad)∈fanL v l n0 (n0-1)↔Vis (plV v) R p x y:=by
  rcases Int.lt_or_gt_of_ne hoff with c|c
  .refine⟨Apn (fun j=>l.getD (n0-1-j) 0) n0,Aj5 he (fun i=>?_) (fun a b c h1 h2 h3=>hf.col a b c h1 h2 h3) (fun i hi=>?_) q1 q2 q3 q4 q5,fun x y=>?_⟩
   .rw[hS];constructor
    .rintro⟨k,hk,rfl⟩;exact⟨n0-1-k,oo,by (try dsimp only);rw[show n0-1-(n0-1-k)=k by omega]⟩
    .rintro⟨k,hk,rfl⟩;exact⟨n0-1-k,oo,rfl⟩
   .have:=(same (n0-2-i) oo).2 c;rw[show n0-2-i+1=n0-1-i by omega] at this;try dsimp only
    rw[show n0-1-(i+1)=n0-2-i by omega,Ch];omega
   .unfold fanL Vis Apn;rw[mem_map];constructor
    .rintro⟨i,hi,e⟩;rw[mem_range] at hi;have hneg:=(same i oo).2 c;unfold fanS at e;rw[hp,iN oo,Ol] at e;obtain⟨rfl,rfl⟩:=e;refine⟨⟨n0-2-i,oo,by (try dsimp only);rw[show n0-1-(n0-2-i)=i+1 by omega],by (try dsimp only);rw[show n0-1-(n0-2-i+1)=i by omega]⟩,?_⟩;rw[Ch];omega
    .rintro⟨⟨i,hi,rfl,rfl⟩,_⟩;refine⟨n0-2-i,by rw[mem_range];omega,?_⟩;have hneg:=(same (n0-2-i) oo).2 c;unfold fanS;rw[hp,iN oo,Ol];exact⟨by (try dsimp only);rw[show n0-2-i+1=n0-1-i by omega],by (try dsimp only);rw[show n0-1-(i+1)=n0-2-i by omega]⟩
  .refine⟨Apn (fun j=>l.getD j 0) n0,Aj5 he hS (fun a b c h1 h2 h3=>hf.col a b c h1 h2 h3) (fun i hi=>(same i hi).1 c) q1 q2 q3 q4 q5,fun x y=>?_⟩;unfold fanL Vis Apn;rw[mem_map];constructor
   .rintro⟨i,hi,e⟩;rw[mem_range] at hi;have hpos:=(same i oo).1 c;unfold fanS at e;rw[hp,iP hpos,Ol] at e;obtain⟨rfl,rfl⟩:=e;exact⟨⟨i,oo,rfl,rfl⟩,hpos⟩
   .rintro⟨⟨i,hi,rfl,rfl⟩,hpos⟩;refine⟨i,by rw[mem_range];omega,?_⟩;unfold fanS;rw[hp,iP hpos]
 obtain⟨R,hA,hmv⟩:=key;obtain⟨o1,o2⟩:=All (m:=[]) List.Pairwise.nil hA (fanL v l n0 (n0-1)) fun s hs=>(hmv s.a0 s.a1).1 hs
 have hN:∀i j c,apM (putAll [] p (fanL v l n0 (n0-1))) i j=some c↔apM [] i j=some c\/New (plV v) R p i j c:=fun i j c=>by
  rw[o2,hmv,hmv,hmv];rfl
 have hpl:p=l[n0]:=by rw[<-hp,Qr hlt]
 refine⟨⟨?_,hA.tri' hN,?_,?_⟩,fun e=>?_⟩
 .refine MapN.putAll q2 ⟨List.Pairwise.nil,fun q hq=>by cases hq⟩ fun s hs=>?_
  have:=(hA.r1 _ _ ((hmv s.a0 s.a1).1 hs).1);exact⟨q1 _ this.1,q1 _ this.2.1⟩
 .have:=hA.cov' hN (fun i j k hk=>by cases hk);intro i j c hc hn d hd;refine this i j c hc hn d ?_;rw[hpl];exact (Px.succ hlt).1 hd
 .intro i j c hc;refine (Px.succ hlt).2 ?_;rw[<-hpl];exact hA.used' hN i j c hc
 .have h0:fanS v l n0 0∈fanL v l n0 (n0-1):=mem_map.2 ⟨0,by rw[mem_range];omega,rfl⟩;have:=(o2 (fanS v l n0 0).a0 (fanS v l n0 0).a1 p).2 (.inr (.inl ⟨h0,rfl⟩));rw[e] at this;cases this
end
variable {v:List Ae}{l:LI}
theorem Ayn(hv:Iv v)(hn:v.length<=1024)(hr:Se v l)(F:List (Ad × Bool)):
  ∃m,Mv ⟨v,[],F⟩ l=some ⟨v,m,F⟩/\((Ajh v/\m=[])\/(¬Ajh v/\MapN v.length m/\Tri (plV v) (inN v.length) (apM m)/\Cov (plV v) (inN v.length) (apM m)/\m≠[])):=by
 have hlen:=hr.len;obtain⟨n0,h1,h2,h3,h4,h5⟩:=Bgv hv hn hr ⟨v,[],F⟩ rfl;unfold Mv;rw[jn_d,h1,Ac];dsimp only
 by_cases c:l.length<=n0
 .rw[iP oo];refine⟨[],rfl,.inl ⟨?_,rfl⟩⟩
  by_cases c2:2<=l.length
  ·-- all on the line of the first two
   have g0:0<l.length:=oo;have g1:1<l.length:=oo;have on:∀i,inN v.length i->crs (plV v l[0]) (plV v l[1]) (plV v i)=0:=fun i hi=>by
    obtain⟨k,hk,rfl⟩:=getElem_of_mem (hr.val.2 hi)
    by_cases e0:k=0
    .subst e0;exact Hd _ _
    .by_cases e1:k=1
     .subst e1;exact Ce _ _
     .obtain⟨_,_,_,g⟩:=h3 k oo oo;exact g
   have hne:¬Co (plV v l[0]) (plV v l[1]):=fun e=>by
    have:=hr.lt g0 g1 oo;unfold befP Co at *;omega
   exact fun i j k hi hj hk=>Afw hne (on i hi) (on j hj) (on k hk)
  .intro i j k hi hj hk;unfold inN at hi hj hk;have:i=j:=oo;subst this;exact Aa3 _ _
 ·rw[if_neg oo,jn_d];have g0:0<l.length:=oo;have g1:1<l.length:=oo;have gn:n0<l.length:=oo;have off:=h4 g0 g1 gn;have hne:¬ Co (plV v l[0]) (plV v l[1]):=fun e=>by
   have:=hr.lt g0 g1 oo;unfold befP Co at *;omega
  have hf:Fan v l n0:=by
   refine⟨h2,gn,fun i j k hi hj hk=>?_,off⟩;have on:∀i,Px l n0 i->crs (plV v l[0]) (plV v l[1]) (plV v i)=0:=fun i hi=>by
    obtain⟨k,hk,hk2,rfl⟩:=hi
    by_cases e0:k=0
    .subst e0;exact Hd _ _
    .by_cases e1:k=1
     .subst e1;exact Ce _ _
     .obtain⟨_,_,_,g⟩:=h3 k oo hk2;exact g
   exact Afw hne (on i hi) (on j hj) (on k hk)
  obtain⟨s1,s2⟩:=hf.swept hv hn hr;rw[Bgw hv hn hr hf,Ac];dsimp only;rw[As oo,gd_t ⟨oo,oo⟩];have ht:subl l (((n0+1:Nat):Int)) (l.length:Int)=l.drop (n0+1):=by unfold subl;simp
  rw[ht];have:=Ax (B:=Ku l (n0:Int)) (fun s=>l.length-s.2.2.2.2.toNat) (fun s=>∃(k:Nat) (m:Mp),n0+1<=k/\k<=l.length/\s=(v,m,F,l.drop (n0+1),((k-(n0+1):Nat):Int))/\Alm v l k m/\m≠[])
   (fun t=>∃m:Mp,t=⟨v,m,F⟩/\Alm v l l.length m/\m≠[]) (fun s hs=>by
    obtain⟨k,m,k1,k2,rfl,k3,k4⟩:=hs;unfold Ku;dsimp only;rw[As oo]
    by_cases c2:k<l.length
    ·left;obtain⟨m',e1,e2,e3⟩:=k3.step hv hn hr (F:=F) c2;have hi:idx (l.drop (n0+1)) (((k-(n0+1):Nat):Int))=some l[k]:=by
      rw[Aj (by rw[length_drop];omega),getElem_drop];congr 2;omega
     rw[iP (by simp;omega),jn_d,hi,Ac];refine⟨(v,m',F,l.drop (n0+1),((k+1-(n0+1):Nat):Int)),?_,⟨k+1,m',oo,oo,rfl,e2,e3 k4⟩,by dsimp only;omega⟩;obtain⟨r,hr1,hr2⟩:=Bk e1;obtain⟨t,ht1,ht2⟩:=Bk hr2;cases ht2
     rw[hr1,Ac,ht1,Ac,As oo,show k-(n0+1)+1=k+1-(n0+1) by omega]
    .right;rw[iN (by simp;omega)];have:k=l.length:=oo;subst this;exact⟨_,rfl,m,rfl,k3,k4⟩) (v,putAll [] (l.getD n0 0) (fanL v l n0 (n0-1)),F,l.drop (n0+1),0) ⟨n0+1,_,oo,oo,s_,s1,s2⟩
  obtain⟨t,e1,m,rfl,e2,e3⟩:=this;rw[e1,Ac];refine⟨m,rfl,.inr ⟨fun hfl=>?_,e2.map,e2.tri,fun i j k hk hnn d hd=>?_,e3⟩⟩
  .exact off (hfl _ _ _ (hr.val.1 (gM g0)) (hr.val.1 (gM g1)) (hr.val.1 (gM gn)))
  .obtain⟨j',hj',rfl⟩:=getElem_of_mem (hr.val.2 hd);exact e2.cov _ _ _ hk hnn _ ⟨j',hj',hj',rfl⟩
def Del(v:List Ae)(a b c:Int):Prop:=inN v.length a/\inN v.length b/\inN v.length c/\0<crs (plV v a) (plV v b) (plV v c)/\∀d,inN v.length d->d≠a->d≠b->d≠c->DH (plV v) (hV v) a b c d<0
theorem Del.rot{a b c:Int}(h:Del v a b c):Del v b c a:=by
 obtain⟨h1,h2,h3,h4,h5⟩:=h;exact⟨h2,h3,h1,by rw[Bu];exact h4,fun d hd n1 n2 n3=>by rw[Aeo];exact h5 d hd n3 n1 n2⟩
structure Wl(v:List Ae)(T:List Ah):Prop where
 ord:T.Pairwise fun x y=>¬cmp3 y x<0
 nd:T.Nodup
 mem:∀t,t∈T↔t.a0<t.a1/\t.a0<t.a2/\Del v t.a0 t.a1 t.a2
theorem Wl.unique{T T':List Ah}(h:Wl v T)(h':Wl v T'):T=T' :=
 Adl tot3 (fun _ _=>trivial) h.ord h'.ord ((perm_ext_iff_of_nodup h.nd h'.nd).2 fun t=>(h.mem t).trans (h'.mem t).symm)
theorem Aoz(hv:Iv v){m:Mp}(hm:MapN v.length m)(ht:Tri (plV v) (inN v.length) (apM m))(hc:Cov (plV v) (inN v.length) (apM m))(hl:∀ i j k l,apM m i j=some k->apM m j i=some l->DH (plV v) (hV v) i j k l<0)(hne:m≠[])(a b c:Int):
  apM m a b=some c↔Del v a b c:=by
 have mem:∀a b c:Int,(a,b,c)∈(m.map fun q=>(q.1.a0,q.1.a1,q.2))↔apM m a b=some c:=fun a b c=>by
  rw[mem_map];constructor
  .rintro⟨⟨⟨x,y⟩,z⟩,hq,e⟩;cases e
   exact Up hm.ok hq
  .intro h;exact⟨(⟨a,b⟩,c),He h,rfl⟩
 have hX:Ajp (plV v) (m.map fun q=>(q.1.a0,q.1.a1,q.2)):=⟨fun a b c h=>(mem _ _ _).2 (ht.rot _ _ _ ((mem _ _ _).1 h)),fun a b c h=>(ht.ccw _ _ _ ((mem _ _ _).1 h)).2.2.2⟩;have twin:∀a b c,apM m a b=some c->∀d,inN v.length d->crs (plV v a) (plV v b) (plV v d)<0->∃e,apM m b a=some e:=fun a b c h d hd hlt=>by
  rcases e:apM m b a with _|x
  .have:=hc a b c h e d hd;omega
  .exact⟨x,rfl⟩
 have G:=global (H:=hV v) (V:=inN v.length) hX (fun a b c h d hd n1 n2 n3=>ht.emp _ _ _ ((mem _ _ _).1 h) d hd n1 n2 n3) (fun a b c h d hd hlt=>by
  obtain⟨e,he⟩:=twin a b c ((mem _ _ _).1 h) d hd hlt;exact⟨e,(mem _ _ _).2 he,hl _ _ _ _ ((mem _ _ _).1 h) he⟩)
 constructor
 .intro h;obtain⟨k1,k2,k3,k4⟩:=ht.ccw _ _ _ h;exact⟨k1,k2,k3,k4,G a b c ((mem _ _ _).2 h)⟩
 .rintro⟨k1,k2,k3,k4,k5⟩;refine (mem _ _ _).1 (Ajq (H:=hV v) (V:=inN v.length) hX (fun a b c h=>?_) G (fun a b c h d hd hlt=>?_) ?_ k1 k2 k3 k4 k5)
  .obtain⟨q1,q2,q3,_⟩:=ht.ccw _ _ _ ((mem _ _ _).1 h);exact⟨q1,q2,q3⟩
  .obtain⟨e,he⟩:=twin a b c ((mem _ _ _).1 h) d hd hlt;exact⟨e,(mem _ _ _).2 he⟩
  .intro e;rw[map_eq_nil_iff] at e;exact hne e
theorem Bb2{m:Mp}(hm:MapN v.length m)(h:∀a b c,apM m a b=some c↔Del v a b c):Wl v (Bf cmp3 (m.flatMap triF)):=by
 have memt:∀t:Ah,t∈m.flatMap triF↔t.a0<t.a1/\t.a0<t.a2/\Del v t.a0 t.a1 t.a2:=fun t=>by
  rw[mem_flatMap];constructor
  .rintro⟨⟨⟨a,b⟩,c⟩,hq,ht⟩;unfold triF at ht;split at ht
   .rename_i hlt;rw[mem_singleton] at ht;subst ht;exact⟨hlt.1,hlt.2,(h _ _ _).1 (Up hm.ok hq)⟩
   .cases ht
  .rintro⟨h1,h2,h3⟩;refine⟨(⟨t.a0,t.a1⟩,t.a2),He ((h _ _ _).2 h3),?_⟩;unfold triF;rw[iP ⟨h1,h2⟩];exact mem_singleton.2 rfl
 refine⟨Pf tot3 (fun _ _=>trivial),(Db _ _).nodup_iff.2 ?_,fun t=>by rw[Gs,memt]⟩;have:∀l:Mp,Cx l->(l.flatMap triF).Nodup:=by
  intro l
  induction l with
  |nil=>intro _;exact List.Pairwise.nil
  |cons q r ih=>
   intro hl;obtain⟨h1,h2⟩:=pairwise_cons.1 hl;rw[flatMap_cons,nodup_append];refine⟨?_,ih h2,fun x hx y hy e=>?_⟩
   .unfold triF;split
    .simp
    .exact List.Pairwise.nil
   ·subst e;obtain⟨q',hq',hy⟩:=mem_flatMap.1 hy;have key:∀ q:Ad × Int,x∈triF q->q.1=⟨x.a0,x.a1⟩:=fun q hq=>by
     unfold triF at hq;split at hq
     .rw[mem_singleton] at hq;subst hq;rfl
     .cases hq
    exact h1 q' hq' (by rw[key _ hx,key _ hy])
 exact this m hm.ok
end
theorem Afj{β γ:Type}(N:Nat)(hN:N<=1000000000)(p:Nat->Bool)(B:Int->Option (Sum Int (Sum β γ)))(u:β)(w:γ)(h1:∀k:Nat,k<N->B (k:Int)=if p k=true then some (.inr (.inr w)) else some (.inl ((k+1:Nat):Int)))(h2:B (N:Int)=some (.inr (.inl u))):lfix B 0=some (if (List.range N).any p then .inr w else .inl u):=by
 have key:∀j k,j+k=N->lfix B (k:Int)=some (if ((List.range N).drop k).any p then .inr w else .inl u):=by
  intro j
  induction j with
  |zero=>
   intro k hk;rw[Ay,show k=N by omega,h2,drop_eq_nil_of_le s_];rfl
  |succ j ih=>
   intro k hk;rw[Ay,h1 k oo,drop_eq_getElem_cons (by simp;omega),any_cons,getElem_range]
   by_cases c:p k=true
   .rw[iP c,c];rfl
   .rw[iN c];rw[Bool.not_eq_true] at c;rw[c,Bool.false_or];exact ih (k+1) oo
 have:=key N 0 oo
 rwa [drop_zero] at this
def pP(x:Ae):Ab:=⟨x.X,x.Y⟩
def Mb(x:Ae):Prop:=okP (pP x)/\-268435456<=x.Z.Lo/\x.Z.Lo<=x.Z.Hi/\x.Z.Hi<=268435456
instance(x:Ae):Decidable (Mb x):=by unfold Mb;infer_instance
theorem Zb{v:List Ae}{k:Nat}(hk:k<v.length):plV v (k:Int)=pP v[k]:=by unfold plV;rw[Aj hk];rfl
theorem Amz(x:Ae):Aa6 x=some (decide (Mb x)):=by
 unfold Aa6 Pm;rw[Ac,Ac,Ac,Aup,Ac,jn_d];unfold Aaa
 by_cases h:okP (⟨x.X,x.Y⟩:Ab)
 .simp only[h,and_self,if_true];rw[jn_d]
  by_cases h1:-1152921504606846976<=x.Z.Lo
  .rw[iP h1]
   by_cases h2:x.Z.Lo<=x.Z.Hi
   .rw[iP h2]
    by_cases h3:x.Z.Hi<=1152921504606846976
    .rw[dT h3,Ac,iP rfl]
     by_cases h4:-268435456<=x.Z.Lo
     .rw[iP h4];congr 1;rw[Bool.eq_iff_iff,dQ,dQ];unfold Mb pP;exact⟨fun g=>⟨h,h4,h2,g⟩,fun g=>g.2.2.2⟩
     .rw[iN h4,dF (fun g:Mb x=>h4 g.2.1)]
    .rw[dF h3,Ac,iN s_,dF (fun g:Mb x=>h3 (by have:=g.2.2.2;omega))]
   .rw[iN h2,Ac,iN s_,dF (fun g:Mb x=>h2 g.2.2.1)]
  .rw[iN h1,Ac,iN s_,dF (fun g:Mb x=>h1 (by have:=g.2.1;omega))]
 .simp only[h,false_and,if_false];rw[iN dD,dF (fun g:Mb x=>h g.1)]
def Wu(v:List Ae):Int:=if 1024<v.length then 2 else if ¬(∀x∈v,Mb x) then 60 else if ¬Eu v then 61 else 0
theorem Ahm{v:List Ae}(h:Wu v=0):v.length<=1024/\(∀x∈v,Mb x)/\Iv v:=by
 unfold Wu at h;split at h
 .omega
 .split at h
  .omega
  .split at h
   .omega
   .rename_i h1 h2 h3;have h2:=Classical.not_not.1 h2;have h3:=Classical.not_not.1 h3;refine⟨oo,h2,fun i hi=>?_,fun i j hi hj hs=>?_⟩
    .obtain⟨k,hk,rfl,_⟩:=Mn (v:=v) (i:=i) hi;rw[Zb hk];exact (h2 _ (gM hk)).1
    .obtain⟨a,ha,rfl,_⟩:=Mn (v:=v) (i:=i) hi;obtain⟨b,hb,rfl,_⟩:=Mn (v:=v) (i:=j) hj;rw[Zb ha,Zb hb] at hs;unfold Eu at h3;rw[pairwise_iff_getElem] at h3;rcases Nat.lt_trichotomy a b with c|c|c
     .exact absurd hs (h3 a b ha hb c)
     .rw[c]
     .exact absurd ⟨hs.1.symm,hs.2.symm⟩ (h3 b a hb ha c)
theorem Aie{v:List Ae}:((List.range v.length).any fun k=>!decide (Mb (v.getD k ⟨0,0,⟨0,0⟩⟩)))=true↔¬ ∀x∈v,Mb x:=by
 rw[any_eq_true];constructor
 .rintro⟨k,hk,h⟩ hall;rw[mem_range] at hk;simp[hk] at h;exact h (hall _ (gM hk))
 .intro h;apply Classical.byContradiction;intro hno;apply h;intro x hx;obtain⟨k,hk,rfl⟩:=getElem_of_mem hx;apply Classical.byContradiction;intro hb;exact hno ⟨k,mem_range.2 hk,by simp[hk,hb]⟩
theorem Am0{v:List Ae}:(∃i j,∃(hi:i<v.length) (hj:j<v.length),j<i/\Aa7 v[i] v[j])↔¬Eu v:=by
 unfold Eu;rw[pairwise_iff_getElem];constructor
 .rintro⟨i,j,hi,hj,hji,hs⟩ h;exact h j i hj hi hji ⟨hs.1.symm,hs.2.symm⟩
 .intro h;apply Classical.byContradiction;intro hno;apply h;intro i j hi hj hij hs;exact hno ⟨j,i,hj,hi,hij,hs.1.symm,hs.2.symm⟩
theorem Be9{v:List Ae}(c:v.length<=1024):lfix (Lm v) 0=some (if ((List.range v.length).any fun k=>!decide (Mb (v.getD k ⟨0,0,⟨0,0⟩⟩)))=true then .inr 60 else .inl ()):=by
 refine Afj v.length oo (fun k=>!decide (Mb (v.getD k ⟨0,0,⟨0,0⟩⟩))) (Lm v) () 60 (fun k hk=>?_) ?_
 .unfold Lm;rw[iP oo,Aj hk,Ac,Amz,Ac,As oo];have e:v.getD k ⟨0,0,⟨0,0⟩⟩=v[k]:=by simp[hk]
  rw[e]
  by_cases g:Mb v[k]
  .simp[g]
  .simp[g]
 .unfold Lm;rw[iN oo]
theorem Ahn(v:List Ae):Uo v=some (Wu v):=by
 unfold Uo Wu
 by_cases c:1024<v.length
 .rw[iP oo,iP c]
 .rw[iN oo,iN c,jn_d];rw[Be9 oo,Ac]
  .by_cases h:∀x∈v,Mb x
   ·rw[if_neg (fun g=>Aie.1 g h),if_neg (not_not_intro h)];dsimp only;rw[jn_d];have hL:=Ax (B:=So v) (fun s=>v.length-s.2.toNat) (fun s=>∃ k:Nat,k<=v.length/\s.2=(k:Int)/\Cx s.1/\s.1.length<=k/\(∀ x,(mget s.1 x).getD false=true↔∃ (j:Nat) (hj:j<v.length),j<k/\pP v[j]=x)/\∀ i j (hi:i<v.length) (hj:j<v.length),i<k->j<i->¬ Aa7 v[i] v[j])
     (fun t=>t=if ¬Eu v then .inr 61 else .inl ()) (fun s hs=>by
      obtain⟨m,k⟩:=s;obtain⟨k,h1,rfl,h2,h3,h4,h5⟩:=hs;simp only at h1 h2 h3 h4;unfold So;dsimp only
      by_cases hk:k<v.length
      ·have hg:=(h _ (getElem_mem hk)).1;have hr:(-9223372036854775808<=v[k].X/\v[k].X<=9223372036854775807)/\-9223372036854775808<=v[k].Y/\v[k].Y<=9223372036854775807:=by
        unfold okP pP at hg;simp only at hg;omega
       unfold Pm;rw[iP oo,Aj hk,Ac,Ac,gd_t hr,Ac];have e4:=h4 (⟨v[k].X,v[k].Y⟩:Ab)
       by_cases hd:(mget m (⟨v[k].X,v[k].Y⟩:Ab)).getD false=true
       .right;rw[iP hd];obtain⟨j,hj,hjk,he⟩:=e4.1 hd;refine⟨_,rfl,?_⟩;rw[iP];refine Am0.1 ⟨k,j,hk,hj,hjk,?_⟩;unfold pP at he;simp at he;exact⟨he.1.symm,he.2.symm⟩
       .left;rw[iN hd,Ac,gd_t hr,gd_t oo,As oo];refine⟨_,rfl,⟨k+1,hk,rfl,h2.put _ _,?_,fun x=>?_,fun i j hi hj hik hji=>?_⟩,by dsimp only;omega⟩
        .dsimp only;unfold mput mdel;rw[length_cons];refine Nat.succ_le_succ (Nat.le_trans (length_filter_le _ m) h3)
        .dsimp only;rw[Mq h2]
         by_cases hx:x=⟨v[k].X,v[k].Y⟩
         .rw[iP hx];simp only[Option.getD_some,true_iff];exact⟨k,hk,oo,hx.symm⟩
         .rw[iN hx,h4];constructor
          .rintro⟨j,hj,h6,h7⟩;exact⟨j,hj,oo,h7⟩
          .rintro⟨j,hj,h6,h7⟩;refine⟨j,hj,?_,h7⟩
           by_cases e:j=k
           .subst e;exact absurd h7.symm hx
           .omega
        .by_cases e:i=k
         .subst e;intro hs;exact hd (e4.2 ⟨j,hj,hji,by unfold pP;rw[hs.1,hs.2]⟩)
         .exact h5 i j hi hj oo hji
      .right;rw[iN oo];refine⟨_,rfl,?_⟩;rw[iN];intro hno;obtain⟨i,j,hi,hj,hji,hs⟩:=Am0.2 hno;exact h5 i j hi hj oo hji hs) ([],0) ⟨0,oo,rfl,List.Pairwise.nil,s_,fun x=>by simp[mget],fun i j hi hj h1=>oo⟩
    obtain⟨t,h1,rfl⟩:=hL;rw[h1,Ac]
    by_cases hd:Eu v
    .rw[iN (not_not_intro hd),iN (not_not_intro hd)]
    .rw[iP hd,iP hd]
   .rw[iP (Aie.2 h),iP h]
end Go.Proofs.YthlkpgdfifnagaaGreat
