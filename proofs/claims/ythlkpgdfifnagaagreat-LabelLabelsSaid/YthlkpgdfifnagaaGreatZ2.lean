import Derived.Test.YthlkpgdfifnagaaGreatX2
namespace Go.Proofs.YthlkpgdfifnagaaGreat
open Go Go.RowKit List
namespace X
def lowB(p q:Aa):Bool:=decide (p.Z.Hi<q.Z.Hi\/p.Z.Hi=q.Z.Hi/\p.Id<q.Id)
theorem lower_eq(p q:Aa):Th p q=some (lowB p q):=by
 simp only[Th,jn_d,lowB];grind
theorem rlower_eq(p q:Aa):Ik p q=some (lowB p q):=by
 simp only[Ik,jn_d,lowB];grind
theorem lowB_trans{p q r:Aa}(h:lowB p q=true)(h':lowB q r=true):lowB p r=true:=by
 simp only[lowB,dQ] at *;omega
theorem lowB_total{p q:Aa}(h:lowB p q=false)(h':lowB q p=false):p.Id=q.Id:=by
 simp only[lowB,decide_eq_false_iff_not] at *;omega
theorem lowB_irrefl(p:Aa):lowB p p=false:=by simp[lowB]
instance:DecidableEq Ab:=fun a b=>by
 rcases a with⟨x,y⟩;rcases b with⟨u,v⟩
 exact decidable_of_iff (x=u/\y=v) s_
def bot(kf:Aa->Ab)(l:List Aa):List Aa:=l.filter fun p=>l.all fun q=>decide (kf q≠kf p) || !lowB q p
theorem mem_bot{kf:Aa->Ab}{l:List Aa}{p:Aa}:p∈bot kf l↔p∈l/\∀q∈l,kf q=kf p->lowB q p=false:=by
 unfold bot;rw[mem_filter,all_eq_true];refine and_congr_right fun _=>⟨fun h q hq hk=>?_,fun h q hq=>?_⟩
 .have:=h q hq;simpa[hk] using this
 .by_cases hk:kf q=kf p
  .simp[hk,h q hq hk]
  .simp[hk]
theorem nodup_of_ids{l:List Aa}(h:(l.map (·.Id)).Nodup):l.Nodup:=(pairwise_map.1 h).imp fun hne he=>hne (by rw[he])
theorem id_inj{l:List Aa}(h:(l.map (·.Id)).Nodup){p q:Aa}(hp:p∈l)(hq:q∈l)(he:p.Id=q.Id):p=q:=by
 obtain⟨i,hi,rfl⟩:=getElem_of_mem hp;obtain⟨j,hj,rfl⟩:=getElem_of_mem hq;have:=(getElem_inj (xs:=l.map (·.Id)) (i:=i) (j:=j) (h₀:=by simpa using hi) (h₁:=by simpa using hj) h).1 (sV he);subst this;rfl
theorem perm_of_mem{α:Type}{l m:List α}(hl:l.Nodup)(hm:m.Nodup)(h:∀x,x∈l↔x∈m):l.Perm m:=(perm_ext_iff_of_nodup hl hm).2 h
theorem Lb{α:Type}{l:List α}{j:Nat}(hj:j<l.length){x:α}:x∈l.take (j+1)↔x∈l.take j\/x=l[j]:=by
 rw[take_add_one,gE hj];show x∈l.take j++[l[j]]↔_;rw[mem_append,mem_singleton]
theorem Asn{α σ:Type}(l:List α)(st:σ->α->Option σ)(B:σ × Int->Option (Sum (σ × Int) σ))(h1:∀ (j:Nat) (h:j<l.length) s,B (s,j)=bnd (st s l[j]) fun s'=>some (.inl (s',((j+1:Nat):Int))))(h2:∀ s,B (s,l.length)=some (.inr s))(s0:σ):
  lfix B (s0,0)=l.foldlM st s0:=by
 have key:∀(m k:Nat) (s:σ),k<=l.length->l.length-k=m->lfix B (s,(k:Int))=(l.drop k).foldlM st s:=by
  intro m
  induction m with
  |zero=>
   intro k s hk hm;obtain rfl:k=l.length:=oo;rw[Ay,h2 s];simp
  |succ m ih=>
   intro k s hk hm;have hlt:k<l.length:=oo;rw[Ay,drop_eq_getElem_cons hlt,h1 k hlt,foldlM_cons];cases hs:st s l[k] with
   |none=>rfl
   |some s'=>rw[Ac];exact ih (k+1) s' oo oo
 exact key l.length 0 s0 (Nat.zero_le _) rfl
theorem lowest_eq{σ:Type}(kf:Aa->Ab)(ky:Aa->Option Ab)(st:σ->Aa->Option σ)(l:List Aa)(ys:σ)(hn:l.length<=1024)(hid:(l.map (·.Id)).Nodup)(hk:∀ p∈l,ky p=some (kf p)/\-268435456<=(kf p).X/\(kf p).X<=268435456/\-268435456<=(kf p).Y/\(kf p).Y<=268435456):
  ∃L:List Aa,L.Perm (bot kf l)/\Lv ky st l ys=L.foldlM st ys:=by
 let Good (j:Nat) (m:List (Ab×Aa)) (ks:List Ab):Prop:=Cx m/\ks.Nodup/\ks.length<=j/\m.length<=j/\∀k,match mget m k with
  |none=>k∉ks/\∀q∈l.take j,kf q≠k
  |some p=>k∈ks/\p∈l.take j/\kf p=k/\∀q∈l.take j,kf q=k->lowB q p=false
 refine Exists.elim (Ax (B:=Ks l ky) (fun z=>l.length-z.2.2.toNat) (fun z=>∃j:Nat,z.2.2=(j:Int)/\j<=l.length/\Good j z.1 z.2.1)
  (fun t=>Good l.length t.1 t.2) ?_ ([],[],0) ⟨0,rfl,Nat.zero_le _,List.Pairwise.nil,s_,nL _,nL _,fun k=>by simp[mget]⟩) (fun t ht=>?_)
 .rintro⟨m,ks,z⟩ ⟨j,rfl,hj,hok,hnd,hkl,hml,hG⟩;dsimp only at hok hnd hkl hml hG;rcases Nat.lt_or_ge j l.length with hlt|hge
  ·left;have hx:=hk _ (getElem_mem hlt);have hr:(-9223372036854775808<=(kf l[j]).X/\(kf l[j]).X<=9223372036854775807)/\(-9223372036854775808<=(kf l[j]).Y/\(kf l[j]).Y<=9223372036854775807):=oo;have hw:w64 ((j:Int)+1)=((j+1:Nat):Int):=As oo;have hGj:=hG (kf l[j]);have put:∀ ks',ks'.Nodup->ks'.length<=j+1->(∀ k,k∈ks'↔k∈ks\/k=kf l[j])->(∀ q∈l.take j,kf q=kf l[j]->lowB q l[j]=false)->Good (j+1) (mput m (kf l[j]) l[j]) ks':=by
    intro ks' h1 h2 h3 h4;refine⟨hok.put _ _,h1,h2,?_,fun k=>?_⟩
    .unfold mput;have:(mdel m (kf l[j])).length<=m.length:=length_filter_le _ _;rw[length_cons];omega
    by_cases he:kf l[j]=k
    .rw[Mq hok,iP he.symm];refine⟨(h3 k).2 (.inr he.symm),(Lb hlt).2 (.inr rfl),he,fun q hq hqk=>?_⟩;rcases (Lb hlt).1 hq with hq|rfl
     .exact h4 q hq (by rw[hqk,he])
     .exact lowB_irrefl _
    .rw[Mq hok,iN (fun e=>he e.symm)];have hGk:=hG k;cases hm:mget m k with
     |none=>
      rw[hm] at hGk;refine⟨fun h=>?_,fun q hq=>?_⟩
      .rcases (h3 k).1 h with h|h
       .exact hGk.1 h
       .exact he h.symm
      .rcases (Lb hlt).1 hq with hq|rfl
       .exact hGk.2 q hq
       .exact he
     |some p=>
      rw[hm] at hGk;refine⟨(h3 k).2 (.inl hGk.1),(Lb hlt).2 (.inl hGk.2.1),hGk.2.2.1,fun q hq hqk=>?_⟩;rcases (Lb hlt).1 hq with hq|rfl
      .exact hGk.2.2.2 q hq hqk
      .exact absurd hqk he
   simp only[Ks,iP (oo:(j:Int)<(l.length:Int)),jn_d,Aj hlt,Ac,hx.1,gd_t hr,gd_t (oo:m.length<9223372036854775807),hw];cases hm:mget m (kf l[j]) with
   |none=>
    rw[hm] at hGj;refine⟨(mput m (kf l[j]) l[j],ks++[kf l[j]],((j+1:Nat):Int)),by simp[gd_t (oo:(ks.length+1)*16<=140737488355328)],⟨j+1,rfl,hlt,put _ ?_ (by simp;omega) s_ (fun q hq hqk=>absurd hqk (hGj.2 q hq))⟩,by simp;omega⟩;rw[nodup_append];exact⟨hnd,s_,fun a ha b hb=>by simp at hb;subst hb;intro e;subst e;exact hGj.1 ha⟩
   |some p=>
    rw[hm] at hGj;obtain⟨g1,g2,g3,g4⟩:=hGj;simp only[Option.getD_some,Option.isSome_some,if_true,lower_eq,Ac]
    by_cases hl:lowB l[j] p=true
    .refine⟨(mput m (kf l[j]) l[j],ks,((j+1:Nat):Int)),by simp[hl],⟨j+1,rfl,hlt,put _ hnd (Nat.le_succ_of_le hkl) (fun k=>⟨.inl,fun h=>h.elim id fun h=>by rw[h];exact g1⟩) (fun q hq hqk=>?_)⟩,by simp;omega⟩;cases hq2:lowB q l[j] with
     |false=>rfl
     |true=>have:=lowB_trans hq2 hl;rw[g4 q hq hqk] at this;cases this
    .refine⟨(m,ks,((j+1:Nat):Int)),by simp[hl],⟨j+1,rfl,hlt,hok,hnd,Nat.le_succ_of_le hkl,Nat.le_succ_of_le hml,fun k=>?_⟩,by simp;omega⟩;have hGk:=hG k;cases hmk:mget m k with
     |none=>
      rw[hmk] at hGk;refine⟨hGk.1,fun q hq=>?_⟩;rcases (Lb hlt).1 hq with hq|rfl
      .exact hGk.2 q hq
      .intro e;rw[e] at hm;rw[hm] at hmk;cases hmk
     |some p'=>
      rw[hmk] at hGk;refine⟨hGk.1,(Lb hlt).2 (.inl hGk.2.1),hGk.2.2.1,fun q hq hqk=>?_⟩;rcases (Lb hlt).1 hq with hq|rfl
      .exact hGk.2.2.2 q hq hqk
      .rw[hqk] at hm;rw[hm] at hmk;obtain rfl:=oI hmk;simpa using hl
  .right;obtain rfl:j=l.length:=oo;exact⟨(m,ks),by simp only[Ks,Int.lt_irrefl,if_false],hok,hnd,hkl,hml,hG⟩
 ·obtain⟨h1,hok,hnd,hkl,hml,hG⟩:=ht;obtain⟨m,ks⟩:=t;dsimp only at hnd hkl hml hG;rw[take_length] at hG;have some_of:∀ k∈ks,∃ p,mget m k=some p/\p∈l/\kf p=k/\∀ q∈l,kf q=k->lowB q p=false:=by
   intro k hk';have:=hG k;cases hm:mget m k with
   |none=>rw[hm] at this;exact absurd hk' this.1
   |some p=>rw[hm] at this;exact⟨p,rfl,this.2⟩
  refine⟨ks.map fun k=>(mget m k).getD ⟨0,0,0,⟨0,0⟩,0,0,0,0⟩,perm_of_mem ?_ ((nodup_of_ids hid).filter _) fun p=>?_,?_⟩
  .refine pairwise_map.2 (hnd.imp_of_mem fun {a b} ha hb hne he=>hne ?_);obtain⟨p,e1,_,e2,_⟩:=some_of a ha;obtain⟨q,f1,_,f2,_⟩:=some_of b hb;rw[e1,f1] at he;simp only[Option.getD_some] at he;rw[<-e2,<-f2,he]
  .show _↔p∈bot kf l;rw[mem_bot,mem_map];constructor
   .rintro⟨k,hk',rfl⟩;obtain⟨p,e1,e2,e3,e4⟩:=some_of k hk';rw[e1,Option.getD_some];exact⟨e2,fun q hq hqk=>e4 q hq (by rw[hqk,e3])⟩
   .rintro⟨hp,hlow⟩;have:=hG (kf p);cases hm:mget m (kf p) with
    |none=>rw[hm] at this;exact absurd rfl (this.2 p hp)
    |some p'=>
     rw[hm] at this;obtain⟨g1,g2,g3,g4⟩:=this;refine⟨kf p,g1,?_⟩;rw[hm,Option.getD_some];exact id_inj hid g2 hp (lowB_total (hlow p' g2 g3) (g4 p hp rfl))
  .unfold Lv;rw[jn_d,h1,Ac];dsimp only;have h2:=Asn (ks.map fun k=>(mget m k).getD ⟨0,0,0,⟨0,0⟩,0,0,0,0⟩) st (Jm (m,ks) st) ?_ ?_ ys
   .rw[h2];cases List.foldlM st ys (ks.map fun k=>(mget m k).getD ⟨0,0,0,⟨0,0⟩,0,0,0,0⟩) <;> rfl
   .intro j hj s;have hj':j<ks.length:=by simpa using hj
    obtain⟨p,e1,e2,e3,e4⟩:=some_of _ (gM hj');have hx:=hk p e2;rw[e3] at hx;simp only[Jm,iP (oo:(j:Int)<(ks.length:Int)),Aj hj',Ac,gd_t (oo:(-9223372036854775808<=(ks[j]).X/\(ks[j]).X<=9223372036854775807)/\(-9223372036854775808<=(ks[j]).Y/\(ks[j]).Y<=9223372036854775807)),getElem_map,As (oo:j<9223372036854775807)]
   .intro s;simp only[Jm,length_map,Int.lt_irrefl,if_false]
theorem foldlM_stepC:∀(l acc:List Aa),acc.length+l.length<=1024->l.foldlM Ajy acc=some (acc++l)
 |[],acc,_=>s_
 |x::r,acc,h=>by
  simp only[length_cons] at h;rw[foldlM_cons,Ajy,gd_t oo];show List.foldlM Ajy (acc++[x]) r=_;rw[foldlM_stepC r _ (by simp;omega)];simp
theorem Af6:∀(l:List Aa) (acc:LI),acc.length+l.length<=1024->l.foldlM Alv acc=some (acc++l.map (·.Id))
 |[],acc,_=>s_
 |x::r,acc,h=>by
  simp only[length_cons] at h;rw[foldlM_cons,Alv,gd_t oo];show List.foldlM Alv (acc++[x.Id]) r=_;rw[Af6 r _ (by simp;omega)];simp
def plF(p:Aa):Ab:=⟨p.X,p.Y⟩
def lastL(l:List Aa):List Aa:=l.filter fun p=>decide (p.Num=p.Of)
structure Fit(l:List Aa):Prop where
 n:l.length<=1024
 ok:∀p∈l,okPt p=true
 id:(l.map (·.Id)).Nodup
theorem Fit.of{l:List Aa}(h:validL l=true):Fit l:=by obtain⟨h1,h2,h3⟩:=Zz h;exact⟨h1,h2,h3⟩
theorem Fit.filter{l:List Aa}(h:Fit l)(p:Aa->Bool):Fit (l.filter p):=
 ⟨Nat.le_trans (length_filter_le _ _) h.n,fun q hq=>h.ok q (mem_filter.1 hq).1,h.id.sublist (List.Sublist.map _ filter_sublist)⟩
theorem Fit.perm{l m:List Aa}(h:Fit l)(hp:l.Perm m):Fit m:=⟨hp.length_eq▸h.n,fun q hq=>h.ok q (hp.mem_iff.2 hq),(hp.map _).nodup_iff.1 h.id⟩
theorem bot_perm{kf:Aa->Ab}{l m:List Aa}(hl:l.Nodup)(h:l.Perm m):(bot kf l).Perm (bot kf m):=
 perm_of_mem (hl.filter _) ((h.nodup_iff.1 hl).filter _) fun p=>by rw[mem_bot,mem_bot];simp only[h.mem_iff]
theorem Bba{l:List Aa}(h:Fit l):∃L,L.Perm (bot plF (lastL l))/\Xm l=some L:=by
 have hf:Fit (lastL l):=h.filter _;obtain⟨L,h1,h2⟩:=lowest_eq plF Bp Ajy (lastL l) [] hf.n hf.id (fun p hp=>⟨rfl,by have:=okPt_rng (hf.ok p hp);simp only[plF];omega⟩);refine⟨L,h1,?_⟩;unfold Xm;rw[jn_d,lfix_filter l (fun p=>decide (p.Num=p.Of)) (Sv l) ?_ ?_,Ac]
 .show bnd (Um Bp (lastL l)) _=_;have hlen:L.length<=1024:=by rw[h1.length_eq];exact Nat.le_trans (length_filter_le _ _) hf.n
  unfold Um;rw[h2,foldlM_stepC L [] (sV hlen),Ac];rfl
 .intro j hj s hs;have:=h.n;simp only[Sv,iP (oo:(j:Int)<(l.length:Int)),jn_d,Aj hj,Ac,As (oo:j<9223372036854775807),gd_t (oo:(s.length+1)*72<=140737488355328),dQ];split <;> rfl
 .intro s;simp only[Sv,Int.lt_irrefl,if_false]
theorem Awu{l:List Aa}(h:l.length<=1024):Le l=some (lastL l):=by
 unfold Le;rw[jn_d,lfix_filter l (fun p=>decide (p.Num=p.Of)) (Ke l) ?_ ?_,Ac]
 .rfl
 .intro j hj s hs;simp only[Ke,iP (oo:(j:Int)<(l.length:Int)),jn_d,Aj hj,Ac,As (oo:j<9223372036854775807),gd_t (oo:(s.length+1)*72<=140737488355328),dQ];split <;> rfl
 .intro s;simp only[Ke,Int.lt_irrefl,if_false]
theorem Agz{α:Type}(p:α->Bool):∀(l:List α) (s:Bool),l.foldl (fun s x=>if s=true then p x else false) s=(s&&l.all p)
 |[],s=>s_
 |x::r,s=>by rw[foldl_cons,Agz p r];cases s <;> simp
theorem bottoms_eq{l:List Aa}(h:Fit l):Il l=some (bot plF l):=by
 have hn:=h.n;unfold Il;rw[jn_d,lfix_filter l (fun p=>l.all fun q=>decide (plF q≠plF p) || !lowB q p) (Hx l) ?_ ?_,Ac]
 .rfl
 .intro j hj s hs;have hp:=h.ok _ (gM hj);have key:=Im l (fun (s:Bool) (k:Int)=>(s,k)) (fun s q=>.inl (if s=true then (decide (plF q≠plF l[j]) || !lowB q l[j]) else false)) (id:Bool->Bool) (Hw l (s,(j:Int))) (fun _ _=>True) ?_ ?_ true trivial
  .rw[Qn,Agz] at key;simp only[Bool.true_and,id] at key;simp only[Hx,iP (oo:(j:Int)<(l.length:Int)),jn_d,key,Ac,Aj hj,As (oo:j<9223372036854775807),gd_t (oo:(s.length+1)*72<=140737488355328)];split <;> rfl
  ·intro k hk b _;left;refine⟨_,rfl,?_,trivial⟩;have hq:=h.ok _ (getElem_mem hk);have hz:0<sq l[k] l[j]↔plF l[k]≠plF l[j]:=by
    have:=sq_zero (p:=l[k]) (q:=l[j]);simp only[plF,ne_eq,Ab.mk.injEq];rw[<-this];omega
   simp only[Hw,iP (oo:(k:Int)<(l.length:Int)),jn_d,Aj hk,Aj hj,Ac,apart_eq hq hp,hz,rlower_eq,As (oo:k<9223372036854775807)];cases b with
   |false=>simp
   |true=>by_cases hc:plF l[k]=plF l[j] <;> simp[hc]
  .intro b _;simp only[Hw,Int.lt_irrefl,if_false,id]
 .intro s;simp only[Hx,Int.lt_irrefl,if_false]
def candL(l:List Aa)(r:Af):List Aa:=bot plF (lastL (dryL l r))
theorem cand_eq{l:List Aa}(hl:validL l=true){r:Af}(hr:okRules r=true):∃L,L.Perm (candL l r)/\Bx l r=some L:=by
 have hf:Fit (dryL l r):=(Fit.of hl).filter _;obtain⟨L,h1,h2⟩:=Bba hf;exact⟨L,h1,by simp only[Bx,parted_eq hl hr,Ac,h2]⟩
theorem rcand_eq{l:List Aa}(hl:validL l=true){r:Af}(hr:okRules r=true):Es l r=some (candL l r):=by
 have hF:=Fit.of hl;have hf:Fit (dryL l r):=hF.filter _;have hn:=hF.n;unfold Es;rw[jn_d,lfix_filter l (fun p=>!sunkB l r p) (Fe l r) ?_ ?_,Ac]
 .show bnd (Le (dryL l r)) _=_;rw[Awu hf.n,Ac,bottoms_eq (l:=lastL (dryL l r)) (hf.filter _),Ac];rfl
 .intro j hj s hs;simp only[Fe,iP (oo:(j:Int)<(l.length:Int)),jn_d,Aj hj,Ac,rsunk_eq hl hr (hF.ok _ (gM hj)),As (oo:j<9223372036854775807),gd_t (oo:(s.length+1)*72<=140737488355328)]
  by_cases hc:sunkB l r l[j]=true <;> simp[hc]
 .intro s;simp only[Fe,Int.lt_irrefl,if_false]
theorem ediv_of{n c k r:Int}(hc:0<c)(h:n=c*k+r)(h0:0<=r)(h1:r<c):n/c=k:=by
 rw[h,Int.add_comm,Int.add_mul_ediv_left r k oo,Int.ediv_eq_zero_of_lt h0 h1,Int.zero_add]
theorem Ac6{n c:Int}(hc:0<c)(h:-268435456<=n/\n<=268435456):-268435456<=n/c/\n/c<=268435456:=by
 refine⟨?_,?_⟩
 .rw[Int.le_ediv_iff_mul_le hc];have:-268435456*c<=-268435456*1:=Int.mul_le_mul_of_nonpos_left oo oo;omega
 .rcases Int.le_total 0 n with h0|h0
  .have:=Int.ediv_le_self c h0;omega
  .have:n/c<=0:=Int.ediv_nonpos_of_nonpos_of_neg h0 oo;omega
theorem Awv{n c:Int}(hn:n<0)(hc:0<c):Int.tdiv n c = -((-n)/c)/\Int.tmod n c = -((-n)%c):=by
 have h1:Int.tdiv (-n) c=(-n)/c:=Int.tdiv_eq_ediv_of_nonneg oo;have h2:Int.tmod (-n) c=(-n)%c:=Int.tmod_eq_emod_of_nonneg oo;rw[Int.neg_tdiv] at h1;rw[Int.neg_tmod] at h2;exact⟨oo,oo⟩
theorem Aqf{n c:Int}(h:-268435456<=n/\n<=268435456)(hc:1<=c/\c<=10000000):Tk n c=some (n/c):=by
 have hr:=Ac6 (c:=c) oo h;simp only[Tk,gd_t (oo:c≠0),jn_d];rcases Int.lt_or_le n 0 with h0|h0
 .obtain⟨e1,e2⟩:=Awv h0 (oo:0<c);have e3:=Int.mul_ediv_add_emod (-n) c;have e4:=Int.emod_nonneg (-n) (oo:c≠0);have e5:=Int.emod_lt_of_pos (-n) (oo:0<c);have hq:=Ac6 (c:=c) oo (oo:-268435456<=-n/\-n<=268435456);rw[e1,e2,Aq (x:=-((-n)/c)) oo oo]
  by_cases hz:(-n)%c=0
  .rw[iN oo];rw[ediv_of (n:=n) (c:=c) (k:=-((-n)/c)) (r:=0) oo (by rw[Int.mul_neg];omega) oo oo]
  .rw[iP oo,Aq oo oo];rw[ediv_of (n:=n) (c:=c) (k:=-((-n)/c)-1) (r:=c-(-n)%c) oo (by rw[Int.mul_sub,Int.mul_neg,Int.mul_one];omega) oo oo]
 .rw[Int.tdiv_eq_ediv_of_nonneg h0,Int.tmod_eq_emod_of_nonneg h0,iN (by have:=Int.emod_nonneg n (oo:c≠0);omega),Aq oo oo]
theorem Ain{n c:Int}(h:-268435456<=n/\n<=268435456)(hc:1<=c/\c<=10000000):Hm n c=some (n/c):=by
 have hr:=Ac6 (c:=c) oo h;simp only[Hm,gd_t (oo:c≠0)];rcases Int.lt_or_le n 0 with h0|h0
 .rw[iP h0,Aq (x:=c-1) oo oo,Aq (x:=c-1-n) oo oo,Int.tdiv_eq_ediv_of_nonneg oo];have e3:=Int.mul_ediv_add_emod (c-1-n) c;have e4:=Int.emod_nonneg (c-1-n) (oo:c≠0);have e5:=Int.emod_lt_of_pos (c-1-n) (oo:0<c);have e6:n/c = -((c-1-n)/c):=ediv_of (r:=c-1-(c-1-n)%c) oo (by rw[Int.mul_neg];omega) oo oo;rw[Aq (x:=(c-1-n)/c) oo oo,e6,Aq oo oo]
 .rw[iN oo,Int.tdiv_eq_ediv_of_nonneg h0,Aq oo oo]
def ceF(c:Int)(p:Aa):Ab:=⟨p.X/c,p.Y/c⟩
def seedL(l:List Aa)(r:Af):LI:=Cq ((bot (ceF r.Cell) (candL l r)).map (·.Id))
theorem Fit.cand{l:List Aa}(hl:validL l=true){r:Af}:Fit (candL l r):=(((Fit.of hl).filter _).filter _).filter _
theorem seeds_eq{m:List Aa}(hm:Fit m){r:Af}(hr:okRules r=true):Su m r=some (Cq ((bot (ceF r.Cell) m).map (·.Id))):=by
 have hR:=okRules_rng hr;obtain⟨L,h1,h2⟩:=lowest_eq (ceF r.Cell) (fun p=>Pg p r) Alv m [] hm.n hm.id (fun p hp=>by
  have:=okPt_rng (hm.ok p hp);refine⟨by simp only[Pg,Aqf (oo:-268435456<=p.X/\p.X<=268435456) (oo:1<=r.Cell/\r.Cell<=10000000),Aqf (oo:-268435456<=p.Y/\p.Y<=268435456) (oo:1<=r.Cell/\r.Cell<=10000000),Ac,ceF],?_⟩;have e1:=Ac6 (c:=r.Cell) oo (oo:-268435456<=p.X/\p.X<=268435456);have e2:=Ac6 (c:=r.Cell) oo (oo:-268435456<=p.Y/\p.Y<=268435456);simp only[ceF];omega)
 have hlen:L.length<=1024:=by rw[h1.length_eq];exact Nat.le_trans (length_filter_le _ _) hm.n
 unfold Su;rw[h2,Af6 L [] (sV hlen),Ac,gd_t (by simp;omega)];simp only[nil_append];rw[sortI_perm (h1.map _)]
theorem Bbb(l:List Aa)(r:Af):Sw l r=some (if okRules r=true then (if validL l=true then (seedL l r,0) else ([],70)) else ([],71)):=by
 simp only[Sw,checked_eq,Ac]
 by_cases hr:okRules r=true
 .by_cases hl:validL l=true
  .obtain⟨L,h1,h2⟩:=cand_eq hl hr;have hc:=Fit.cand hl (r:=r);simp only[hr,hl,if_true,h2,Ac,seeds_eq (hc.perm h1.symm) hr,seedL];rw[sortI_perm ((bot_perm (nodup_of_ids (hc.perm h1.symm).id) h1).map _)]
  .simp[hr,hl]
 .simp[hr]
theorem rSeeds_eq(l:List Aa)(r:Af):Pz l r=some (if okRules r=true then (if validL l=true then (seedL l r,0) else ([],70)) else ([],71)):=by
 simp only[Pz,Ao6,Ac]
 by_cases hr:okRules r=true
 .by_cases hl:validL l=true
  .have hc:=Fit.cand hl (r:=r);have hR:=okRules_rng hr;have hcn:=hc.n;simp only[hr,hl,if_true,rcand_eq hl hr,Ac,jn_d];rw[lfix_filter (candL l r) (fun p=>(candL l r).all fun q=>decide (ceF r.Cell q≠ceF r.Cell p) || !lowB q p) (Kf (candL l r) r) ?_ ?_,Ac]
   .show bnd (Dn (bot (ceF r.Cell) (candL l r))) _=_;rw[rids_eq (l:=bot (ceF r.Cell) (candL l r)) (Nat.le_trans (length_filter_le _ _) hc.n),Ac];rfl
   .generalize candL l r=m at hc hcn ⊢;intro j hj s hs;have hp:=okPt_rng (hc.ok _ (gM hj));have key:=Im m (fun (s:Bool) (k:Int)=>(s,k)) (fun s q=>.inl (if s=true then (decide (ceF r.Cell q≠ceF r.Cell m[j]) || !lowB q m[j]) else false)) (id:Bool->Bool) (Jf m (s,(j:Int)) r) (fun _ _=>True) ?_ ?_ true trivial
    .rw[Qn,Agz] at key;simp only[Bool.true_and,id] at key;simp only[Kf,iP (oo:(j:Int)<(m.length:Int)),jn_d,key,Ac,Aj hj,As (oo:j<9223372036854775807),gd_t (oo:(s.length+1)*72<=140737488355328)];split <;> rfl
    ·intro k hk b _;left;refine⟨_,rfl,?_,trivial⟩;have hq:=okPt_rng (hc.ok _ (getElem_mem hk));have hC:1<=r.Cell/\r.Cell<=10000000:=oo;simp only[Jf,if_pos (show (k:Int)<(m.length:Int) by omega),jn_d,Aj hk,Aj hj,Ac,rlower_eq,As (show k<9223372036854775807 by omega),
      Ain (oo:-268435456<=m[k].X/\m[k].X<=268435456) hC,Ain (oo:-268435456<=m[k].Y/\m[k].Y<=268435456) hC,Ain (oo:-268435456<=m[j].X/\m[j].X<=268435456) hC,Ain (oo:-268435456<=m[j].Y/\m[j].Y<=268435456) hC,ceF,ne_eq,Ab.mk.injEq]
     cases b <;> by_cases c1:m[k].X/r.Cell=m[j].X/r.Cell <;> by_cases c2:m[k].Y/r.Cell=m[j].Y/r.Cell <;> simp[c1,c2]
    .intro b _;simp only[Jf,Int.lt_irrefl,if_false,id]
   .intro s;simp only[Kf,Int.lt_irrefl,if_false]
  .simp[hr,hl]
 .simp[hr]
end X
structure Ac7(n:Br)(z:Int):Prop where
 num:n.n=L32 z.natAbs
 den:n.d=[1]
 neg:z≠0->n.neg=decide (z<0)
theorem Ac7.eq{n:Br}{z:Int}(h:Ac7 n z):n=⟨n.neg,L32 z.natAbs,[1]⟩:=by
 obtain⟨s,a,d⟩:=n;obtain⟨h1,h2,h3⟩:=h;simp only at h1 h2;subst h1;subst h2;rfl
theorem Aso(x:Int):wu64 x=x%18446744073709551616:=by
 unfold wu64;rw[IntKind.wrap_u64]
theorem Bbc{z:Int}(h1:-9223372036854775808<=z)(h2:z<=9223372036854775807):∃n,Nn z=some n/\Ac7 n z:=by
 unfold Nn
 by_cases h:z<0
 ·rw[if_pos h];have e:wu64 ((wu64 (w64 (-(w64 (z+1)))))+1)=((z.natAbs:Nat):Int):=by
   rw[Aq (x:=z+1) oo oo,Aq oo oo,Aso,Aso];omega
  rw[e,Asq oo];exact⟨_,rfl,rfl,rfl,fun _=>by simp[h]⟩
 .rw[iN h];have e:wu64 z=((z.natAbs:Nat):Int):=by rw[Aso];omega
  rw[e,Asq oo];exact⟨_,rfl,rfl,rfl,fun _=>by simp[h]⟩
theorem Bgj{a b:Br}{x y:Int}(ha:Ac7 a x)(hb:Ac7 b y)(h:(dig 4294967296 x.natAbs).length+(dig 4294967296 y.natAbs).length<=1000000):∃n,Kz a b=some n/\Ac7 n (x*y):=by
 unfold Kz;rw[ha.num,hb.num,ha.den,hb.den,Beq h,Ac,Asp,Ac];refine⟨_,rfl,by simp[Int.natAbs_mul],rfl,fun h0=>?_⟩;have hx:x≠0:=fun e=>h0 (by rw[e,Int.zero_mul])
 have hy:y≠0:=fun e=>h0 (by rw[e,Int.mul_zero])
 simp only;rw[ha.neg hx,hb.neg hy];rcases Int.lt_or_gt_of_ne hx with h1|h1 <;> rcases Int.lt_or_gt_of_ne hy with h2|h2
 .have:=Int.mul_pos_of_neg_of_neg h1 h2;simp[h1,h2];omega
 .have:=Int.mul_neg_of_neg_of_pos h1 h2;rw[dT h1,dF oo,dT this];rfl
 .have:=Int.mul_neg_of_pos_of_neg h1 h2;rw[dF oo,dT h2,dT this];rfl
 .have:=Int.mul_pos h1 h2;rw[dF oo,dF oo,dF oo];rfl
theorem Bbd{a b:Br}{x y:Int}(ha:Ac7 a x)(hb:Ac7 b y)(hx:(dig 4294967296 x.natAbs).length<=1000)(hy:(dig 4294967296 y.natAbs).length<=1000):∃n,Sb a b=some n/\Ac7 n (x+y):=by
 have e1:=ha.neg;have e2:=hb.neg;unfold Sb;rw[ha.num,hb.num,ha.den,hb.den,Aqh _ hx,Ac,Aqh _ hy,Ac,Asp,Ac];generalize a.neg=s at *;generalize b.neg=t at *;have f1:x≠0->(s=true↔x<0):=fun h=>by rw[e1 h];simp
 have f2:y≠0->(t=true↔y<0):=fun h=>by rw[e2 h];simp
 clear e1 e2
 by_cases hs:s=t
 ·subst hs;rw[if_pos s_,Bep oo oo,Ac];have:x.natAbs+y.natAbs=(x+y).natAbs:=by
   cases s <;> simp at f1 f2 <;> omega
  rw[this];refine⟨_,rfl,rfl,rfl,fun h0=>?_⟩;simp only;cases s <;> simp at f1 f2 ⊢ <;> omega
 .rw[iN (sV hs),Bel _ _ oo,Ac]
  by_cases hc:y.natAbs<=x.natAbs
  ·rw[if_pos (by unfold cmpN;split <;> (try split) <;> omega),Aw5 oo hc,Ac];have:x.natAbs-y.natAbs=(x+y).natAbs:=by
    cases s <;> cases t <;> simp at f1 f2 hs <;> omega
   rw[this];refine⟨_,rfl,rfl,rfl,fun h0=>?_⟩;simp only;cases s <;> cases t <;> simp at f1 f2 hs ⊢ <;> omega
  ·rw[if_neg (by unfold cmpN;split <;> (try split) <;> omega),Aw5 oo oo,Ac];have:y.natAbs-x.natAbs=(x+y).natAbs:=by
    cases s <;> cases t <;> simp at f1 f2 hs <;> omega
   rw[this];refine⟨_,rfl,rfl,rfl,fun h0=>?_⟩;simp only;cases s <;> cases t <;> simp at f1 f2 hs ⊢ <;> omega
theorem Bdu{n:Br}{z:Int}(h:Ac7 n z):Qe n=some (Int.sign z):=by
 rw[h.eq];exact Ber h.neg
theorem mulB{x y M N:Int}(hM:0<=M)(hx1:-M<=x)(hx2:x<=M)(hy1:-N<=y)(hy2:y<=N):-(M*N)<=x*y/\x*y<=M*N:=by
 have h:(x*y).natAbs<=M.natAbs*N.natAbs:=by
  rw[Int.natAbs_mul];exact Nat.mul_le_mul oo oo
 rw[<-Int.natAbs_mul] at h;have:0<=M*N:=Int.mul_nonneg hM oo;omega
def okP(p:Ab):Prop:=-268435456<=p.X/\p.X<=268435456/\-268435456<=p.Y/\p.Y<=268435456
instance(p:Ab):Decidable (okP p):=by unfold okP;infer_instance
def crs(a b c:Ab):Int:=(b.X-a.X)*(c.Y-a.Y)-(b.Y-a.Y)*(c.X-a.X)
def lft(p d:Ab):Int:=(p.X-d.X)*(p.X-d.X)+(p.Y-d.Y)*(p.Y-d.Y)
def inC(a b c d:Ab):Int:=lft a d*crs d b c+lft b d*crs d c a+lft c d*crs d a b
theorem Amd(l:List Ab)(hl:l.length<=1000000):Tq l=some (l.all fun p=>decide (okP p)):=by
 unfold Tq;rw[jn_d];have step:∀i (hi:i<l.length),Np l (i:Int)=if okP l[i] then some (.inl (((i+1:Nat):Int))) else some (.inr (.inr false)):=by
  intro i hi;unfold Np;rw[iP oo,Aj hi,Ac,jn_d,As oo]
  by_cases h1:l[i].X < -268435456
  .rw[iP h1,iN (show ¬okP l[i] by unfold okP;omega)];rfl
  .rw[iN h1]
   by_cases h2:268435456<l[i].X
   .rw[iP h2,iN (show ¬okP l[i] by unfold okP;omega)];rfl
   .rw[iN h2]
    by_cases h3:l[i].Y < -268435456
    .rw[iP h3,iN (show ¬okP l[i] by unfold okP;omega)];rfl
    .rw[iN h3]
     by_cases h4:268435456<l[i].Y
     .rw[dT h4,iN (show ¬okP l[i] by unfold okP;omega)];rfl
     .rw[dF h4,iP (show okP l[i] by unfold okP;omega)];rfl
 have key:∀k i,k+i=l.length->lfix (Np l) (i:Int)=some (if (l.drop i).all (fun p=>decide (okP p)) then .inl () else .inr false):=by
  intro k
  induction k with
  |zero=>
   intro i hi;rw[Ay];unfold Np;rw[iN oo,drop_eq_nil_of_le oo];rfl
  |succ k ih=>
   intro i hi;have hlt:i<l.length:=oo;rw[Ay,step i hlt,drop_eq_getElem_cons hlt,all_cons]
   by_cases h:okP l[i]
   .rw[iP h];simp only[h,decide_true,Bool.true_and];exact ih (i+1) oo
   .rw[iN h];simp[h]
 have:=key l.length 0 oo;rw[show ((0:Nat):Int)=0 from rfl] at this;rw[this,drop_zero]
 by_cases h:l.all (fun p=>decide (okP p))=true
 .rw[h];rfl
 .rw[Bool.not_eq_true] at h;rw[h];rfl
theorem Hp{a b c:Ab}(ha:okP a)(hb:okP b)(hc:okP c):-576460752303423488<=crs a b c/\crs a b c<=576460752303423488:=by
 unfold okP at ha hb hc;have h1:=mulB (x:=b.X-a.X) (y:=c.Y-a.Y) (M:=536870912) (N:=536870912) oo oo oo oo oo;have h2:=mulB (x:=b.Y-a.Y) (y:=c.X-a.X) (M:=536870912) (N:=536870912) oo oo oo oo oo;unfold crs;omega
theorem Wi{a b c:Ab}(ha:okP a)(hb:okP b)(hc:okP c):Ok a b c=some (crs a b c):=by
 have h0:=Hp ha hb hc;unfold okP at ha hb hc;have h1:=mulB (x:=b.X-a.X) (y:=c.Y-a.Y) (M:=536870912) (N:=536870912) oo oo oo oo oo;have h2:=mulB (x:=b.Y-a.Y) (y:=c.X-a.X) (M:=536870912) (N:=536870912) oo oo oo oo oo;unfold Ok;unfold crs at h0⊢;rw[Aq (x:=b.X-a.X) oo oo,Aq (x:=c.Y-a.Y) oo oo,Aq (x:=b.Y-a.Y) oo oo,Aq (x:=c.X-a.X) oo oo,
  Aq (x:=(b.X-a.X)*(c.Y-a.Y)) oo oo,Aq (x:=(b.Y-a.Y)*(c.X-a.X)) oo oo,Aq oo oo]
theorem Ae7{p d:Ab}(hp:okP p)(hd:okP d):0<=lft p d/\lft p d<=576460752303423488:=by
 unfold okP at hp hd;have h1:=mulB (x:=p.X-d.X) (y:=p.X-d.X) (M:=536870912) (N:=536870912) oo oo oo oo oo;have h2:=mulB (x:=p.Y-d.Y) (y:=p.Y-d.Y) (M:=536870912) (N:=536870912) oo oo oo oo oo;have h3:0<=(p.X-d.X)*(p.X-d.X):=by rw[<-Int.natAbs_mul_self];omega
 have h4:0<=(p.Y-d.Y)*(p.Y-d.Y):=by rw[<-Int.natAbs_mul_self];omega
 unfold lft;omega
theorem Adt{p d:Ab}(hp:okP p)(hd:okP d):Ve p d=some (lft p d):=by
 have h0:=Ae7 hp hd;unfold okP at hp hd;have h1:=mulB (x:=p.X-d.X) (y:=p.X-d.X) (M:=536870912) (N:=536870912) oo oo oo oo oo;have h2:=mulB (x:=p.Y-d.Y) (y:=p.Y-d.Y) (M:=536870912) (N:=536870912) oo oo oo oo oo;unfold Ve;unfold lft at h0⊢;rw[Aq (x:=p.X-d.X) oo oo,Aq (x:=p.Y-d.Y) oo oo,
  Aq (x:=(p.X-d.X)*(p.X-d.X)) oo oo,Aq (x:=(p.Y-d.Y)*(p.Y-d.Y)) oo oo,Aq oo oo]
theorem Aqg(z:Int):Nq z=some (Int.sign z):=by
 unfold Nq
 by_cases h:z<0
 .rw[iP h,Int.sign_eq_neg_one_of_neg h]
 .rw[iN h]
  by_cases h2:0<z
  .rw[iP h2,Int.sign_eq_one_of_pos h2]
  .rw[iN h2,show z=0 by omega];rfl
theorem Aup(a b c:Ab):Ww a b c=some (if okP a/\okP b/\okP c then (Int.sign (crs a b c),0) else (0,11)):=by
 unfold Ww;rw[Amd _ s_,Ac]
 by_cases h:okP a/\okP b/\okP c
 .rw[iP (by simp[h]),Wi h.1 h.2.1 h.2.2,Ac,Aqg,Ac,iP h]
 .rw[iN (by simpa[and_assoc] using h),iN h]
theorem turn_eq{a b c:Ab}(ha:okP a)(hb:okP b)(hc:okP c):Ts a b c=some (Int.sign (crs a b c)):=by
 unfold Ts;rw[Aup,iP ⟨ha,hb,hc⟩];rfl
theorem dig3{z:Int}(h1:-9223372036854775808<=z)(h2:z<=9223372036854775807):(dig 4294967296 z.natAbs).length<=2:=Asu oo 2 _ (by
 have:(4294967296:Nat)^2=18446744073709551616:=dD;omega)
theorem dig5{z:Int}(h1:-10000000000000000000000000000000000000<=z)(h2:z<=10000000000000000000000000000000000000):(dig 4294967296 z.natAbs).length<=4:=Asu oo 4 _ (by
 have:(4294967296:Nat)^4=340282366920938463463374607431768211456:=dD;omega)
theorem An2{u v:Int}(hu1:-576460752303423488<=u)(hu2:u<=576460752303423488)(hv1:-576460752303423488<=v)(hv2:v<=576460752303423488):
  ∃n m k,Nn u=some n/\Nn v=some m/\Kz n m=some k/\Ac7 k (u*v)/\-332306998946228968225951765070086144<=u*v/\u*v<=332306998946228968225951765070086144:=by
 obtain⟨n,h1,h2⟩:=Bbc (z:=u) oo oo;obtain⟨m,h3,h4⟩:=Bbc (z:=v) oo oo;have d1:=dig3 (z:=u) oo oo;have d2:=dig3 (z:=v) oo oo;obtain⟨k,h5,h6⟩:=Bgj h2 h4 oo;have:=mulB (x:=u) (y:=v) (M:=576460752303423488) (N:=576460752303423488) oo oo oo oo oo;exact⟨n,m,k,h1,h3,h5,h6,oo,oo⟩
theorem Aww(a b c d:Ab):Wa a b c d=some (if okP a/\okP b/\okP c/\okP d then if crs a b c=0 then (0,12) else (Int.sign (crs a b c)*Int.sign (inC a b c d),0) else (0,11)):=by
 unfold Wa;rw[Amd _ s_,Ac]
 by_cases h:okP a/\okP b/\okP c/\okP d
 .obtain⟨ha,hb,hc,hd⟩:=h;rw[iP (by simp[ha,hb,hc,hd]),iP ⟨ha,hb,hc,hd⟩,Wi ha hb hc,Ac,Aqg,Ac]
  by_cases h0:crs a b c=0
  .rw[iP (by rw[h0];rfl),iP h0]
  .rw[iN (by rwa [Int.sign_eq_zero_iff_zero]),iN h0];try rw[jn_d]
   have l1:=Ae7 ha hd;have l2:=Ae7 hb hd;have l3:=Ae7 hc hd;have c1:=Hp hd hb hc;have c2:=Hp hd hc ha;have c3:=Hp hd ha hb;obtain⟨n1,m1,k1,e1,e2,e3,i1,b1,b2⟩:=An2 (u:=lft a d) (v:=crs d b c) oo oo oo oo;obtain⟨n2,m2,k2,e4,e5,e6,i2,b3,b4⟩:=An2 (u:=lft b d) (v:=crs d c a) oo oo oo oo;obtain⟨n3,m3,k3,e7,e8,e9,i3,b5,b6⟩:=An2 (u:=lft c d) (v:=crs d a b) oo oo oo oo;have q1:=dig5 (z:=lft a d*crs d b c) oo oo;have q2:=dig5 (z:=lft b d*crs d c a) oo oo;have q3:=dig5 (z:=lft c d*crs d a b) oo oo;have q4:=dig5 (z:=lft a d*crs d b c+lft b d*crs d c a) oo oo;obtain⟨s1,f1,g1⟩:=Bbd i1 i2 oo oo;obtain⟨s2,f2,g2⟩:=Bbd g1 i3 oo oo;simp only[Adt ha hd,Adt hb hd,Adt hc hd,Wi hd hb hc,Wi hd hc ha,Wi hd ha hb,Ac,e1,e2,e3,e4,e5,e6,e7,e8,e9];try rw[show (⟨k1.neg,k1.n,k1.d⟩:Br)=k1 from rfl]
   rw[f1,Ac,f2,Ac,Bdu g2,Ac,Aq]
   .rfl
   .rcases Int.sign_trichotomy (crs a b c) with h|h|h <;> rcases Int.sign_trichotomy (lft a d*crs d b c+lft b d*crs d c a+lft c d*crs d a b) with h'|h'|h' <;> simp[h,h']
   .rcases Int.sign_trichotomy (crs a b c) with h|h|h <;> rcases Int.sign_trichotomy (lft a d*crs d b c+lft b d*crs d c a+lft c d*crs d a b) with h'|h'|h' <;> simp[h,h']
 .rw[iN (by simpa[and_assoc] using h),iN h]
end Go.Proofs.YthlkpgdfifnagaaGreat
