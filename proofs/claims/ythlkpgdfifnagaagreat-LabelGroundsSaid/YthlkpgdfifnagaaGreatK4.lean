import Derived.Test.YthlkpgdfifnagaaGreatX2
namespace Go.Proofs.YthlkpgdfifnagaaGreat.X
open Go Go.RowKit List
def lowB(p q:Aa):Bool:=decide (p.Z.Hi<q.Z.Hi\/p.Z.Hi=q.Z.Hi/\p.Id<q.Id)
theorem lower_eq(p q:Aa):Rv p q=some (lowB p q):=by
 simp only[Rv,jn_d,lowB];grind
theorem rlower_eq(p q:Aa):Ie p q=some (lowB p q):=by
 simp only[Ie,jn_d,lowB];grind
theorem lowB_trans{p q r:Aa}(h:lowB p q=true)(h':lowB q r=true):lowB p r=true:=by
 simp only[lowB,decide_eq_true_eq] at *;omega
theorem lowB_total{p q:Aa}(h:lowB p q=false)(h':lowB q p=false):p.Id=q.Id:=by
 simp only[lowB,decide_eq_false_iff_not] at *;omega
theorem lowB_irrefl(p:Aa):lowB p p=false:=by simp[lowB]
instance:DecidableEq Ab:=fun a b=>by
 rcases a with⟨x,y⟩;rcases b with⟨u,v⟩
 exact decidable_of_iff (x=u/\y=v) (by simp)
def bot(kf:Aa->Ab)(l:List Aa):List Aa:=l.filter fun p=>l.all fun q=>decide (kf q≠kf p) || !lowB q p
theorem mem_bot{kf:Aa->Ab}{l:List Aa}{p:Aa}:p∈bot kf l↔p∈l/\∀ q∈l,kf q=kf p->lowB q p=false:=by
 unfold bot;rw[mem_filter,all_eq_true];refine and_congr_right fun _=>⟨fun h q hq hk=>?_,fun h q hq=>?_⟩
 ·have:=h q hq;simpa[hk] using this
 ·by_cases hk:kf q=kf p
  ·simp[hk,h q hq hk]
  ·simp[hk]
theorem nodup_of_ids{l:List Aa}(h:(l.map (·.Id)).Nodup):l.Nodup:=(pairwise_map.1 h).imp fun hne he=>hne (by rw[he])
theorem id_inj{l:List Aa}(h:(l.map (·.Id)).Nodup){p q:Aa}(hp:p∈l)(hq:q∈l)(he:p.Id=q.Id):p=q:=by
 obtain⟨i,hi,rfl⟩:=getElem_of_mem hp;obtain⟨j,hj,rfl⟩:=getElem_of_mem hq;have:=(getElem_inj (xs:=l.map (·.Id)) (i:=i) (j:=j) (h₀:=by simpa using hi) (h₁:=by simpa using hj) h).1 (by simpa using he);subst this;rfl
theorem perm_of_mem{α:Type}{l m:List α}(hl:l.Nodup)(hm:m.Nodup)(h:∀ x,x∈l↔x∈m):l.Perm m:=(perm_ext_iff_of_nodup hl hm).2 h
theorem Ki{α:Type}{l:List α}{j:Nat}(hj:j<l.length){x:α}:x∈l.take (j+1)↔x∈l.take j\/x=l[j]:=by
 rw[take_add_one,List.getElem?_eq_getElem hj];show x∈l.take j++[l[j]]↔_;rw[mem_append,mem_singleton]
theorem Aqm{α σ:Type}(l:List α)(st:σ->α->Option σ)(B:σ × Int->Option (Sum (σ × Int) σ))(h1:∀ (j:Nat) (h:j<l.length) s,B (s,j)=bnd (st s l[j]) fun s'=>some (.inl (s',((j+1:Nat):Int))))(h2:∀ s,B (s,l.length)=some (.inr s))(s0:σ):
  lfix B (s0,0)=l.foldlM st s0:=by
 have key:∀ (m k:Nat) (s:σ),k<=l.length->l.length-k=m->lfix B (s,(k:Int))=(l.drop k).foldlM st s:=by
  intro m
  induction m with
  | zero=>
   intro k s hk hm;obtain rfl:k=l.length:=oo;rw[Bd,h2 s];simp
  | succ m ih=>
   intro k s hk hm;have hlt:k<l.length:=oo;rw[Bd,drop_eq_getElem_cons hlt,h1 k hlt,foldlM_cons];cases hs:st s l[k] with
   | none=>rfl
   | some s'=>rw[Ae];exact ih (k+1) s' oo oo
 exact key l.length 0 s0 (Nat.zero_le _) rfl
theorem All{σ:Type}(kf:Aa->Ab)(ky:Aa->Option Ab)(st:σ->Aa->Option σ)(l:List Aa)(ys:σ)(hn:l.length<=1024)(hid:(l.map (·.Id)).Nodup)(hk:∀ p∈l,ky p=some (kf p)/\-268435456<=(kf p).X/\(kf p).X<=268435456/\-268435456<=(kf p).Y/\(kf p).Y<=268435456):
  ∃ L:List Aa,L.Perm (bot kf l)/\Kn ky st l ys=L.foldlM st ys:=by
 let Good (j:Nat) (m:List (Ab × Aa)) (ks:List Ab):Prop:=Do m/\ks.Nodup/\ks.length<=j/\m.length<=j/\∀ k,match mget m k with
  | none=>k ∉ ks/\∀ q∈l.take j,kf q≠k
  | some p=>k∈ks/\p∈l.take j/\kf p=k/\∀ q∈l.take j,kf q=k->lowB q p=false
 refine Exists.elim (Bk (B:=Jm l ky) (fun z=>l.length-z.2.2.toNat) (fun z=>∃ j:Nat,z.2.2=(j:Int)/\j<=l.length/\Good j z.1 z.2.1)
  (fun t=>Good l.length t.1 t.2) ?_ ([],[],0) ⟨0,rfl,Nat.zero_le _,List.Pairwise.nil,by simp,Nat.le_refl _,Nat.le_refl _,fun k=>by simp[mget]⟩) (fun t ht=>?_)
 ·rintro⟨m,ks,z⟩ ⟨j,rfl,hj,hok,hnd,hkl,hml,hG⟩;dsimp only at hok hnd hkl hml hG;rcases Nat.lt_or_ge j l.length with hlt | hge
  ·left;have hx:=hk _ (getElem_mem hlt);have hr:(-9223372036854775808<=(kf l[j]).X/\(kf l[j]).X<=9223372036854775807)/\(-9223372036854775808<=(kf l[j]).Y/\(kf l[j]).Y<=9223372036854775807):=oo;have hw:w64 ((j:Int)+1)=((j+1:Nat):Int):=Bg oo;have hGj:=hG (kf l[j]);have put:∀ ks',ks'.Nodup->ks'.length<=j+1->(∀ k,k∈ks'↔k∈ks\/k=kf l[j])->(∀ q∈l.take j,kf q=kf l[j]->lowB q l[j]=false)->Good (j+1) (mput m (kf l[j]) l[j]) ks':=by
    intro ks' h1 h2 h3 h4;refine⟨hok.put _ _,h1,h2,?_,fun k=>?_⟩
    ·unfold mput;have:(mdel m (kf l[j])).length<=m.length:=length_filter_le _ _;rw[length_cons];omega
    by_cases he:kf l[j]=k
    ·rw[Nc hok,if_pos he.symm];refine⟨(h3 k).2 (.inr he.symm),(Ki hlt).2 (.inr rfl),he,fun q hq hqk=>?_⟩;rcases (Ki hlt).1 hq with hq | rfl
     ·exact h4 q hq (by rw[hqk,he])
     ·exact lowB_irrefl _
    ·rw[Nc hok,if_neg (fun e=>he e.symm)];have hGk:=hG k;cases hm:mget m k with
     | none=>
      rw[hm] at hGk;refine⟨fun h=>?_,fun q hq=>?_⟩
      ·rcases (h3 k).1 h with h | h
       ·exact hGk.1 h
       ·exact he h.symm
      ·rcases (Ki hlt).1 hq with hq | rfl
       ·exact hGk.2 q hq
       ·exact he
     | some p=>
      rw[hm] at hGk;refine⟨(h3 k).2 (.inl hGk.1),(Ki hlt).2 (.inl hGk.2.1),hGk.2.2.1,fun q hq hqk=>?_⟩;rcases (Ki hlt).1 hq with hq | rfl
      ·exact hGk.2.2.2 q hq hqk
      ·exact absurd hqk he
   simp only[Jm,if_pos (show (j:Int)<(l.length:Int) by omega),jn_d,At hlt,Ae,hx.1,gd_t hr,gd_t (show m.length<9223372036854775807 by omega),hw];cases hm:mget m (kf l[j]) with
   | none=>
    rw[hm] at hGj;refine⟨(mput m (kf l[j]) l[j],ks++[kf l[j]],((j+1:Nat):Int)),by simp[gd_t (show (ks.length+1)*16<=140737488355328 by omega)],⟨j+1,rfl,hlt,put _ ?_ (by simp;omega) (by simp) (fun q hq hqk=>absurd hqk (hGj.2 q hq))⟩,by simp;omega⟩;rw[nodup_append];exact⟨hnd,by simp,fun a ha b hb=>by simp at hb;subst hb;intro e;subst e;exact hGj.1 ha⟩
   | some p=>
    rw[hm] at hGj;obtain⟨g1,g2,g3,g4⟩:=hGj;simp only[Option.getD_some,Option.isSome_some,if_true,lower_eq,Ae]
    by_cases hl:lowB l[j] p=true
    ·refine⟨(mput m (kf l[j]) l[j],ks,((j+1:Nat):Int)),by simp[hl],⟨j+1,rfl,hlt,put _ hnd (Nat.le_succ_of_le hkl) (fun k=>⟨.inl,fun h=>h.elim id fun h=>by rw[h];exact g1⟩) (fun q hq hqk=>?_)⟩,by simp;omega⟩;cases hq2:lowB q l[j] with
     | false=>rfl
     | true=>have:=lowB_trans hq2 hl;rw[g4 q hq hqk] at this;cases this
    ·refine⟨(m,ks,((j+1:Nat):Int)),by simp[hl],⟨j+1,rfl,hlt,hok,hnd,Nat.le_succ_of_le hkl,Nat.le_succ_of_le hml,fun k=>?_⟩,by simp;omega⟩;have hGk:=hG k;cases hmk:mget m k with
     | none=>
      rw[hmk] at hGk;refine⟨hGk.1,fun q hq=>?_⟩;rcases (Ki hlt).1 hq with hq | rfl
      ·exact hGk.2 q hq
      ·intro e;rw[e] at hm;rw[hm] at hmk;cases hmk
     | some p'=>
      rw[hmk] at hGk;refine⟨hGk.1,(Ki hlt).2 (.inl hGk.2.1),hGk.2.2.1,fun q hq hqk=>?_⟩;rcases (Ki hlt).1 hq with hq | rfl
      ·exact hGk.2.2.2 q hq hqk
      ·rw[hqk] at hm;rw[hm] at hmk;obtain rfl:=Option.some.inj hmk;simpa using hl
  ·right;obtain rfl:j=l.length:=oo;exact⟨(m,ks),by simp only[Jm,Int.lt_irrefl,if_false],hok,hnd,hkl,hml,hG⟩
 ·obtain⟨h1,hok,hnd,hkl,hml,hG⟩:=ht;obtain⟨m,ks⟩:=t;dsimp only at hnd hkl hml hG;rw[take_length] at hG;have some_of:∀ k∈ks,∃ p,mget m k=some p/\p∈l/\kf p=k/\∀ q∈l,kf q=k->lowB q p=false:=by
   intro k hk';have:=hG k;cases hm:mget m k with
   | none=>rw[hm] at this;exact absurd hk' this.1
   | some p=>rw[hm] at this;exact⟨p,rfl,this.2⟩
  refine⟨ks.map fun k=>(mget m k).getD ⟨0,0,0,⟨0,0⟩,0,0,0,0⟩,perm_of_mem ?_ ((nodup_of_ids hid).filter _) fun p=>?_,?_⟩
  ·refine pairwise_map.2 (hnd.imp_of_mem fun {a b} ha hb hne he=>hne ?_);obtain⟨p,e1,_,e2,_⟩:=some_of a ha;obtain⟨q,f1,_,f2,_⟩:=some_of b hb;rw[e1,f1] at he;simp only[Option.getD_some] at he;rw[<- e2,<- f2,he]
  ·show _↔p∈bot kf l;rw[mem_bot,mem_map];constructor
   ·rintro⟨k,hk',rfl⟩;obtain⟨p,e1,e2,e3,e4⟩:=some_of k hk';rw[e1,Option.getD_some];exact⟨e2,fun q hq hqk=>e4 q hq (by rw[hqk,e3])⟩
   ·rintro⟨hp,hlow⟩;have:=hG (kf p);cases hm:mget m (kf p) with
    | none=>rw[hm] at this;exact absurd rfl (this.2 p hp)
    | some p'=>
     rw[hm] at this;obtain⟨g1,g2,g3,g4⟩:=this;refine⟨kf p,g1,?_⟩;rw[hm,Option.getD_some];exact id_inj hid g2 hp (lowB_total (hlow p' g2 g3) (g4 p hp rfl))
  ·unfold Kn;rw[jn_d,h1,Ae];dsimp only;have h2:=Aqm (ks.map fun k=>(mget m k).getD ⟨0,0,0,⟨0,0⟩,0,0,0,0⟩) st (Ir (m,ks) st) ?_ ?_ ys
   ·rw[h2];cases List.foldlM st ys (ks.map fun k=>(mget m k).getD ⟨0,0,0,⟨0,0⟩,0,0,0,0⟩) <;> rfl
   ·intro j hj s;have hj':j<ks.length:=by simpa using hj
    obtain⟨p,e1,e2,e3,e4⟩:=some_of _ (getElem_mem hj');have hx:=hk p e2;rw[e3] at hx;simp only[Ir,if_pos (show (j:Int)<(ks.length:Int) by omega),At hj',Ae,gd_t (show (-9223372036854775808<=(ks[j]).X/\(ks[j]).X<=9223372036854775807)/\(-9223372036854775808<=(ks[j]).Y/\(ks[j]).Y<=9223372036854775807) by omega),getElem_map,Bg (show j<9223372036854775807 by omega)]
   ·intro s;simp only[Ir,length_map,Int.lt_irrefl,if_false]
theorem Afv:∀ (l acc:List Aa),acc.length+l.length<=1024->l.foldlM Aln acc=some (acc++l)
 | [],acc,_=>by simp
 | x::r,acc,h=>by
  simp only[length_cons] at h;rw[foldlM_cons,Aln,gd_t oo];show List.foldlM Aln (acc++[x]) r=_;rw[Afv r _ (by simp;omega)];simp
theorem Afw:∀ (l:List Aa) (acc:List Int),acc.length+l.length<=1024->l.foldlM Alo acc=some (acc++l.map (·.Id))
 | [],acc,_=>by simp
 | x::r,acc,h=>by
  simp only[length_cons] at h;rw[foldlM_cons,Alo,gd_t oo];show List.foldlM Alo (acc++[x.Id]) r=_;rw[Afw r _ (by simp;omega)];simp
def plF(p:Aa):Ab:=⟨p.X,p.Y⟩
def lastL(l:List Aa):List Aa:=l.filter fun p=>decide (p.Num=p.Of)
structure Fit(l:List Aa):Prop where
 n:l.length<=1024
 ok:∀ p∈l,okPt p=true
 id:(l.map (·.Id)).Nodup
theorem Fit.of{l:List Aa}(h:validL l=true):Fit l:=by obtain⟨h1,h2,h3⟩:=Za h;exact⟨h1,h2,h3⟩
theorem Fit.filter{l:List Aa}(h:Fit l)(p:Aa->Bool):Fit (l.filter p):=
 ⟨Nat.le_trans (length_filter_le _ _) h.n,fun q hq=>h.ok q (mem_filter.1 hq).1,h.id.sublist (List.Sublist.map _ filter_sublist)⟩
theorem Fit.perm{l m:List Aa}(h:Fit l)(hp:l.Perm m):Fit m:=⟨hp.length_eq ▸ h.n,fun q hq=>h.ok q (hp.mem_iff.2 hq),(hp.map _).nodup_iff.1 h.id⟩
theorem bot_perm{kf:Aa->Ab}{l m:List Aa}(hl:l.Nodup)(h:l.Perm m):(bot kf l).Perm (bot kf m):=
 perm_of_mem (hl.filter _) ((h.nodup_iff.1 hl).filter _) fun p=>by rw[mem_bot,mem_bot];simp only[h.mem_iff]
theorem Axu{l:List Aa}(h:Fit l):∃ L,L.Perm (bot plF (lastL l))/\Ue l=some L:=by
 have hf:Fit (lastL l):=h.filter _;obtain⟨L,h1,h2⟩:=All plF Df Aln (lastL l) [] hf.n hf.id (fun p hp=>⟨rfl,by have:=okPt_rng (hf.ok p hp);simp only[plF];omega⟩);refine⟨L,h1,?_⟩;unfold Ue;rw[jn_d,lfix_filter l (fun p=>decide (p.Num=p.Of)) (Rm l) ?_ ?_,Ae]
 ·show bnd (Aaj Df (lastL l)) _=_;have hlen:L.length<=1024:=by rw[h1.length_eq];exact Nat.le_trans (length_filter_le _ _) hf.n
  unfold Aaj;rw[h2,Afv L [] (by simpa using hlen),Ae];rfl
 ·intro j hj s hs;have:=h.n;simp only[Rm,if_pos (show (j:Int)<(l.length:Int) by omega),jn_d,At hj,Ae,Bg (show j<9223372036854775807 by omega),gd_t (show (s.length+1)*72<=140737488355328 by omega),decide_eq_true_eq];split <;> rfl
 ·intro s;simp only[Rm,Int.lt_irrefl,if_false]
theorem At7{l:List Aa}(h:l.length<=1024):Ks l=some (lastL l):=by
 unfold Ks;rw[jn_d,lfix_filter l (fun p=>decide (p.Num=p.Of)) (Js l) ?_ ?_,Ae]
 ·rfl
 ·intro j hj s hs;simp only[Js,if_pos (show (j:Int)<(l.length:Int) by omega),jn_d,At hj,Ae,Bg (show j<9223372036854775807 by omega),gd_t (show (s.length+1)*72<=140737488355328 by omega),decide_eq_true_eq];split <;> rfl
 ·intro s;simp only[Js,Int.lt_irrefl,if_false]
theorem Agq{α:Type}(p:α->Bool):∀ (l:List α) (s:Bool),l.foldl (fun s x=>if s=true then p x else false) s=(s && l.all p)
 | [],s=>by simp
 | x::r,s=>by rw[foldl_cons,Agq p r];cases s <;> simp
theorem Aqn{l:List Aa}(h:Fit l):Lq l=some (bot plF l):=by
 have hn:=h.n;unfold Lq;rw[jn_d,lfix_filter l (fun p=>l.all fun q=>decide (plF q≠plF p) || !lowB q p) (Ho l) ?_ ?_,Ae]
 ·rfl
 ·intro j hj s hs;have hp:=h.ok _ (getElem_mem hj);have key:=Po l (fun (s:Bool) (k:Int)=>(s,k)) (fun s q=>.inl (if s=true then (decide (plF q≠plF l[j]) || !lowB q l[j]) else false)) (id:Bool->Bool) (Hn l (s,(j:Int))) (fun _ _=>True) ?_ ?_ true trivial
  ·rw[Vv,Agq] at key;simp only[Bool.true_and,id] at key;simp only[Ho,if_pos (show (j:Int)<(l.length:Int) by omega),jn_d,key,Ae,At hj,Bg (show j<9223372036854775807 by omega),gd_t (show (s.length+1)*72<=140737488355328 by omega)];split <;> rfl
  ·intro k hk b _;left;refine⟨_,rfl,?_,trivial⟩;have hq:=h.ok _ (getElem_mem hk);have hz:0<sq l[k] l[j]↔plF l[k]≠plF l[j]:=by
    have:=sq_zero (p:=l[k]) (q:=l[j]);simp only[plF,ne_eq,Ab.mk.injEq];rw[<- this];omega
   simp only[Hn,if_pos (show (k:Int)<(l.length:Int) by omega),jn_d,At hk,At hj,Ae,apart_eq hq hp,hz,rlower_eq,Bg (show k<9223372036854775807 by omega)];cases b with
   | false=>simp
   | true=>by_cases hc:plF l[k]=plF l[j] <;> simp[hc]
  ·intro b _;simp only[Hn,Int.lt_irrefl,if_false,id]
 ·intro s;simp only[Ho,Int.lt_irrefl,if_false]
def candL(l:List Aa)(r:Af):List Aa:=bot plF (lastL (dryL l r))
theorem cand_eq{l:List Aa}(hl:validL l=true){r:Af}(hr:okRules r=true):∃ L,L.Perm (candL l r)/\Eo l r=some L:=by
 have hf:Fit (dryL l r):=(Fit.of hl).filter _;obtain⟨L,h1,h2⟩:=Axu hf;exact⟨L,h1,by simp only[Eo,Aty hl hr,Ae,h2]⟩
theorem rcand_eq{l:List Aa}(hl:validL l=true){r:Af}(hr:okRules r=true):Fo l r=some (candL l r):=by
 have hF:=Fit.of hl;have hf:Fit (dryL l r):=hF.filter _;have hn:=hF.n;unfold Fo;rw[jn_d,lfix_filter l (fun p=>!sunkB l r p) (Fu l r) ?_ ?_,Ae]
 ·show bnd (Ks (dryL l r)) _=_;rw[At7 hf.n,Ae,Aqn (l:=lastL (dryL l r)) (hf.filter _),Ae];rfl
 ·intro j hj s hs;simp only[Fu,if_pos (show (j:Int)<(l.length:Int) by omega),jn_d,At hj,Ae,Aws hl hr (hF.ok _ (getElem_mem hj)),Bg (show j<9223372036854775807 by omega),gd_t (show (s.length+1)*72<=140737488355328 by omega)]
  by_cases hc:sunkB l r l[j]=true <;> simp[hc]
 ·intro s;simp only[Fu,Int.lt_irrefl,if_false]
theorem ediv_of{n c k r:Int}(hc:0<c)(h:n=c*k+r)(h0:0<=r)(h1:r<c):n / c=k:=by
 rw[h,Int.add_comm,Int.add_mul_ediv_left r k oo,Int.ediv_eq_zero_of_lt h0 h1,Int.zero_add]
theorem Ab9{n c:Int}(hc:0<c)(h:-268435456<=n/\n<=268435456):-268435456<=n / c/\n / c<=268435456:=by
 refine⟨?_,?_⟩
 ·rw[Int.le_ediv_iff_mul_le hc];have:-268435456*c<=-268435456*1:=Int.mul_le_mul_of_nonpos_left oo oo;omega
 ·rcases Int.le_total 0 n with h0 | h0
  ·have:=Int.ediv_le_self c h0;omega
  ·have:n / c<=0:=Int.ediv_nonpos_of_nonpos_of_neg h0 oo;omega
theorem At8{n c:Int}(hn:n<0)(hc:0<c):Int.tdiv n c = -((-n) / c)/\Int.tmod n c = -((-n) % c):=by
 have h1:Int.tdiv (-n) c=(-n) / c:=Int.tdiv_eq_ediv_of_nonneg oo;have h2:Int.tmod (-n) c=(-n) % c:=Int.tmod_eq_emod_of_nonneg oo;rw[Int.neg_tdiv] at h1;rw[Int.neg_tmod] at h2;exact⟨oo,oo⟩
theorem Aop{n c:Int}(h:-268435456<=n/\n<=268435456)(hc:1<=c/\c<=10000000):Rw n c=some (n / c):=by
 have hr:=Ab9 (c:=c) oo h;simp only[Rw,gd_t (show c≠0 by omega),jn_d];rcases Int.lt_or_le n 0 with h0 | h0
 ·obtain⟨e1,e2⟩:=At8 h0 (show 0<c by omega);have e3:=Int.mul_ediv_add_emod (-n) c;have e4:=Int.emod_nonneg (-n) (show c≠0 by omega);have e5:=Int.emod_lt_of_pos (-n) (show 0<c by omega);have hq:=Ab9 (c:=c) oo (show -268435456<=-n/\-n<=268435456 by omega);rw[e1,e2,Av (x:=-((-n) / c)) oo oo]
  by_cases hz:(-n) % c=0
  ·rw[if_neg oo];rw[ediv_of (n:=n) (c:=c) (k:=-((-n) / c)) (r:=0) oo (by rw[Int.mul_neg];omega) oo oo]
  ·rw[if_pos oo,Av oo oo];rw[ediv_of (n:=n) (c:=c) (k:=-((-n) / c)-1) (r:=c-(-n) % c) oo (by rw[Int.mul_sub,Int.mul_neg,Int.mul_one];omega) oo oo]
 ·rw[Int.tdiv_eq_ediv_of_nonneg h0,Int.tmod_eq_emod_of_nonneg h0,if_neg (by have:=Int.emod_nonneg n (show c≠0 by omega);omega),Av oo oo]
theorem Aif{n c:Int}(h:-268435456<=n/\n<=268435456)(hc:1<=c/\c<=10000000):Hf n c=some (n / c):=by
 have hr:=Ab9 (c:=c) oo h;simp only[Hf,gd_t (show c≠0 by omega)];rcases Int.lt_or_le n 0 with h0 | h0
 ·rw[if_pos h0,Av (x:=c-1) oo oo,Av (x:=c-1-n) oo oo,Int.tdiv_eq_ediv_of_nonneg oo];have e3:=Int.mul_ediv_add_emod (c-1-n) c;have e4:=Int.emod_nonneg (c-1-n) (show c≠0 by omega);have e5:=Int.emod_lt_of_pos (c-1-n) (show 0<c by omega);have e6:n / c = -((c-1-n) / c):=ediv_of (r:=c-1-(c-1-n) % c) oo (by rw[Int.mul_neg];omega) oo oo;rw[Av (x:=(c-1-n) / c) oo oo,e6,Av oo oo]
 ·rw[if_neg oo,Int.tdiv_eq_ediv_of_nonneg h0,Av oo oo]
def ceF(c:Int)(p:Aa):Ab:=⟨p.X / c,p.Y / c⟩
def seedL(l:List Aa)(r:Af):List Int:=Ej ((bot (ceF r.Cell) (candL l r)).map (·.Id))
theorem Fit.cand{l:List Aa}(hl:validL l=true){r:Af}:Fit (candL l r):=(((Fit.of hl).filter _).filter _).filter _
theorem seeds_eq{m:List Aa}(hm:Fit m){r:Af}(hr:okRules r=true):Ud m r=some (Ej ((bot (ceF r.Cell) m).map (·.Id))):=by
 have hR:=okRules_rng hr;obtain⟨L,h1,h2⟩:=All (ceF r.Cell) (fun p=>Nz p r) Alo m [] hm.n hm.id (fun p hp=>by
  have:=okPt_rng (hm.ok p hp);refine⟨by simp only[Nz,Aop (show -268435456<=p.X/\p.X<=268435456 by omega) (show 1<=r.Cell/\r.Cell<=10000000 by omega),Aop (show -268435456<=p.Y/\p.Y<=268435456 by omega) (show 1<=r.Cell/\r.Cell<=10000000 by omega),Ae,ceF],?_⟩;have e1:=Ab9 (c:=r.Cell) oo (show -268435456<=p.X/\p.X<=268435456 by omega);have e2:=Ab9 (c:=r.Cell) oo (show -268435456<=p.Y/\p.Y<=268435456 by omega);simp only[ceF];omega)
 have hlen:L.length<=1024:=by rw[h1.length_eq];exact Nat.le_trans (length_filter_le _ _) hm.n
 unfold Ud;rw[h2,Afw L [] (by simpa using hlen),Ae,gd_t (by simp;omega)];simp only[nil_append];rw[sortI_perm (h1.map _)]
theorem Axv(l:List Aa)(r:Af):Pj l r=some (if okRules r=true then (if validL l=true then (seedL l r,0) else ([],70)) else ([],71)):=by
 simp only[Pj,checked_eq,Ae]
 by_cases hr:okRules r=true
 ·by_cases hl:validL l=true
  ·obtain⟨L,h1,h2⟩:=cand_eq hl hr;have hc:=Fit.cand hl (r:=r);simp only[hr,hl,if_true,h2,Ae,seeds_eq (hc.perm h1.symm) hr,seedL];rw[sortI_perm ((bot_perm (nodup_of_ids (hc.perm h1.symm).id) h1).map _)]
  ·simp[hr,hl]
 ·simp[hr]
theorem rSeeds_eq(l:List Aa)(r:Af):Ox l r=some (if okRules r=true then (if validL l=true then (seedL l r,0) else ([],70)) else ([],71)):=by
 simp only[Ox,Aoe,Ae]
 by_cases hr:okRules r=true
 ·by_cases hl:validL l=true
  ·have hc:=Fit.cand hl (r:=r);have hR:=okRules_rng hr;have hcn:=hc.n;simp only[hr,hl,if_true,rcand_eq hl hr,Ae,jn_d];rw[lfix_filter (candL l r) (fun p=>(candL l r).all fun q=>decide (ceF r.Cell q≠ceF r.Cell p) || !lowB q p) (Jt (candL l r) r) ?_ ?_,Ae]
   ·show bnd (Ft (bot (ceF r.Cell) (candL l r))) _=_;rw[rids_eq (l:=bot (ceF r.Cell) (candL l r)) (Nat.le_trans (length_filter_le _ _) hc.n),Ae];rfl
   ·generalize candL l r=m at hc hcn ⊢;intro j hj s hs;have hp:=okPt_rng (hc.ok _ (getElem_mem hj));have key:=Po m (fun (s:Bool) (k:Int)=>(s,k)) (fun s q=>.inl (if s=true then (decide (ceF r.Cell q≠ceF r.Cell m[j]) || !lowB q m[j]) else false)) (id:Bool->Bool) (Iu m (s,(j:Int)) r) (fun _ _=>True) ?_ ?_ true trivial
    ·rw[Vv,Agq] at key;simp only[Bool.true_and,id] at key;simp only[Jt,if_pos (show (j:Int)<(m.length:Int) by omega),jn_d,key,Ae,At hj,Bg (show j<9223372036854775807 by omega),gd_t (show (s.length+1)*72<=140737488355328 by omega)];split <;> rfl
    ·intro k hk b _;left;refine⟨_,rfl,?_,trivial⟩;have hq:=okPt_rng (hc.ok _ (getElem_mem hk));have hC:1<=r.Cell/\r.Cell<=10000000:=oo;simp only[Iu,if_pos (show (k:Int)<(m.length:Int) by omega),jn_d,At hk,At hj,Ae,rlower_eq,Bg (show k<9223372036854775807 by omega),
      Aif (show -268435456<=m[k].X/\m[k].X<=268435456 by omega) hC,Aif (show -268435456<=m[k].Y/\m[k].Y<=268435456 by omega) hC,Aif (show -268435456<=m[j].X/\m[j].X<=268435456 by omega) hC,Aif (show -268435456<=m[j].Y/\m[j].Y<=268435456 by omega) hC,ceF,ne_eq,Ab.mk.injEq]
     cases b <;> by_cases c1:m[k].X / r.Cell=m[j].X / r.Cell <;> by_cases c2:m[k].Y / r.Cell=m[j].Y / r.Cell <;> simp[c1,c2]
    ·intro b _;simp only[Iu,Int.lt_irrefl,if_false,id]
   ·intro s;simp only[Jt,Int.lt_irrefl,if_false]
  ·simp[hr,hl]
 ·simp[hr]
end Go.Proofs.YthlkpgdfifnagaaGreat.X
namespace Go.Proofs.YthlkpgdfifnagaaGreat
open Go Go.RowKit List
structure Aca(n:Cb)(z:Int):Prop where
 num:n.n=L32 z.natAbs
 den:n.d=[1]
 neg:z≠0->n.neg=decide (z<0)
theorem Aca.eq{n:Cb}{z:Int}(h:Aca n z):n=⟨n.neg,L32 z.natAbs,[1]⟩:=by
 obtain⟨s,a,d⟩:=n;obtain⟨h1,h2,h3⟩:=h;simp only at h1 h2;subst h1;subst h2;rfl
theorem Aqo(x:Int):wu64 x=x % 18446744073709551616:=by
 unfold wu64;rw[IntKind.wrap_u64]
theorem Axw{z:Int}(h1:-9223372036854775808<=z)(h2:z<=9223372036854775807):∃ n,Mv z=some n/\Aca n z:=by
 unfold Mv
 by_cases h:z<0
 ·rw[if_pos h];have e:wu64 ((wu64 (w64 (-(w64 (z+1)))))+1)=((z.natAbs:Nat):Int):=by
   rw[Av (x:=z+1) oo oo,Av oo oo,Aqo,Aqo];omega
  rw[e,Ar3 oo];exact⟨_,rfl,rfl,rfl,fun _=>by simp[h]⟩
 ·rw[if_neg h];have e:wu64 z=((z.natAbs:Nat):Int):=by rw[Aqo];omega
  rw[e,Ar3 oo];exact⟨_,rfl,rfl,rfl,fun _=>by simp[h]⟩
theorem Bd2{a b:Cb}{x y:Int}(ha:Aca a x)(hb:Aca b y)(h:(dig 4294967296 x.natAbs).length+(dig 4294967296 y.natAbs).length<=1000000):∃ n,Kk a b=some n/\Aca n (x*y):=by
 unfold Kk;rw[ha.num,hb.num,ha.den,hb.den,Bc0 h,Ae,Ar2,Ae];refine⟨_,rfl,by simp[Int.natAbs_mul],rfl,fun h0=>?_⟩;have hx:x≠0:=fun e=>h0 (by rw[e,Int.zero_mul])
 have hy:y≠0:=fun e=>h0 (by rw[e,Int.mul_zero])
 simp only;rw[ha.neg hx,hb.neg hy];rcases Int.lt_or_gt_of_ne hx with h1 | h1 <;> rcases Int.lt_or_gt_of_ne hy with h2 | h2
 ·have:=Int.mul_pos_of_neg_of_neg h1 h2;simp[h1,h2];omega
 ·have:=Int.mul_neg_of_neg_of_pos h1 h2;rw[decide_eq_true h1,decide_eq_false oo,decide_eq_true this];rfl
 ·have:=Int.mul_neg_of_pos_of_neg h1 h2;rw[decide_eq_false oo,decide_eq_true h2,decide_eq_true this];rfl
 ·have:=Int.mul_pos h1 h2;rw[decide_eq_false oo,decide_eq_false oo,decide_eq_false oo];rfl
theorem Axx{a b:Cb}{x y:Int}(ha:Aca a x)(hb:Aca b y)(hx:(dig 4294967296 x.natAbs).length<=1000)(hy:(dig 4294967296 y.natAbs).length<=1000):∃ n,Qr a b=some n/\Aca n (x+y):=by
 have e1:=ha.neg;have e2:=hb.neg;unfold Qr;rw[ha.num,hb.num,ha.den,hb.den,Ap6 _ hx,Ae,Ap6 _ hy,Ae,Ar2,Ae];generalize a.neg=s at *;generalize b.neg=t at *;have f1:x≠0->(s=true↔x<0):=fun h=>by rw[e1 h];simp
 have f2:y≠0->(t=true↔y<0):=fun h=>by rw[e2 h];simp
 clear e1 e2
 by_cases hs:s=t
 ·subst hs;rw[if_pos (by simp),Bcz oo oo,Ae];have:x.natAbs+y.natAbs=(x+y).natAbs:=by
   cases s <;> simp at f1 f2 <;> omega
  rw[this];refine⟨_,rfl,rfl,rfl,fun h0=>?_⟩;simp only;cases s <;> simp at f1 f2 ⊢ <;> omega
 ·rw[if_neg (by simpa using hs),Bcv _ _ oo,Ae]
  by_cases hc:y.natAbs<=x.natAbs
  ·rw[if_pos (by unfold cmpN;split <;> (try split) <;> omega),Awa oo hc,Ae];have:x.natAbs-y.natAbs=(x+y).natAbs:=by
    cases s <;> cases t <;> simp at f1 f2 hs <;> omega
   rw[this];refine⟨_,rfl,rfl,rfl,fun h0=>?_⟩;simp only;cases s <;> cases t <;> simp at f1 f2 hs ⊢ <;> omega
  ·rw[if_neg (by unfold cmpN;split <;> (try split) <;> omega),Awa oo oo,Ae];have:y.natAbs-x.natAbs=(x+y).natAbs:=by
    cases s <;> cases t <;> simp at f1 f2 hs <;> omega
   rw[this];refine⟨_,rfl,rfl,rfl,fun h0=>?_⟩;simp only;cases s <;> cases t <;> simp at f1 f2 hs ⊢ <;> omega
theorem Baw{n:Cb}{z:Int}(h:Aca n z):Ph n=some (Int.sign z):=by
 rw[h.eq];exact Bc1 h.neg
theorem mulB{x y M N:Int}(hM:0<=M)(hx1:-M<=x)(hx2:x<=M)(hy1:-N<=y)(hy2:y<=N):-(M*N)<=x*y/\x*y<=M*N:=by
 have h:(x*y).natAbs<=M.natAbs*N.natAbs:=by
  rw[Int.natAbs_mul];exact Nat.mul_le_mul oo oo
 rw[<- Int.natAbs_mul] at h;have:0<=M*N:=Int.mul_nonneg hM oo;omega
def okP(p:Ab):Prop:=-268435456<=p.X/\p.X<=268435456/\-268435456<=p.Y/\p.Y<=268435456
instance(p:Ab):Decidable (okP p):=by unfold okP;infer_instance
def crs(a b c:Ab):Int:=(b.X-a.X)*(c.Y-a.Y)-(b.Y-a.Y)*(c.X-a.X)
def lft(p d:Ab):Int:=(p.X-d.X)*(p.X-d.X)+(p.Y-d.Y)*(p.Y-d.Y)
def inC(a b c d:Ab):Int:=lft a d*crs d b c+lft b d*crs d c a+lft c d*crs d a b
theorem Alm(l:List Ab)(hl:l.length<=1000000):Sk l=some (l.all fun p=>decide (okP p)):=by
 unfold Sk;rw[jn_d];have step:∀ i (hi:i<l.length),Mw l (i:Int)=if okP l[i] then some (.inl (((i+1:Nat):Int))) else some (.inr (.inr false)):=by
  intro i hi;unfold Mw;rw[if_pos oo,At hi,Ae,jn_d,Bg oo]
  by_cases h1:l[i].X < -268435456
  ·rw[if_pos h1,if_neg (show ¬ okP l[i] by unfold okP;omega)];rfl
  ·rw[if_neg h1]
   by_cases h2:268435456<l[i].X
   ·rw[if_pos h2,if_neg (show ¬ okP l[i] by unfold okP;omega)];rfl
   ·rw[if_neg h2]
    by_cases h3:l[i].Y < -268435456
    ·rw[if_pos h3,if_neg (show ¬ okP l[i] by unfold okP;omega)];rfl
    ·rw[if_neg h3]
     by_cases h4:268435456<l[i].Y
     ·rw[decide_eq_true h4,if_neg (show ¬ okP l[i] by unfold okP;omega)];rfl
     ·rw[decide_eq_false h4,if_pos (show okP l[i] by unfold okP;omega)];rfl
 have key:∀ k i,k+i=l.length->lfix (Mw l) (i:Int)=some (if (l.drop i).all (fun p=>decide (okP p)) then .inl () else .inr false):=by
  intro k
  induction k with
  | zero=>
   intro i hi;rw[Bd];unfold Mw;rw[if_neg oo,drop_eq_nil_of_le oo];rfl
  | succ k ih=>
   intro i hi;have hlt:i<l.length:=oo;rw[Bd,step i hlt,drop_eq_getElem_cons hlt,all_cons]
   by_cases h:okP l[i]
   ·rw[if_pos h];simp only[h,decide_true,Bool.true_and];exact ih (i+1) oo
   ·rw[if_neg h];simp[h]
 have:=key l.length 0 oo;rw[show ((0:Nat):Int)=0 from rfl] at this;rw[this,drop_zero]
 by_cases h:l.all (fun p=>decide (okP p))=true
 ·rw[h];rfl
 ·rw[Bool.not_eq_true] at h;rw[h];rfl
theorem Hh{a b c:Ab}(ha:okP a)(hb:okP b)(hc:okP c):-576460752303423488<=crs a b c/\crs a b c<=576460752303423488:=by
 unfold okP at ha hb hc;have h1:=mulB (x:=b.X-a.X) (y:=c.Y-a.Y) (M:=536870912) (N:=536870912) oo oo oo oo oo;have h2:=mulB (x:=b.Y-a.Y) (y:=c.X-a.X) (M:=536870912) (N:=536870912) oo oo oo oo oo;unfold crs;omega
theorem Uo{a b c:Ab}(ha:okP a)(hb:okP b)(hc:okP c):Ns a b c=some (crs a b c):=by
 have h0:=Hh ha hb hc;unfold okP at ha hb hc;have h1:=mulB (x:=b.X-a.X) (y:=c.Y-a.Y) (M:=536870912) (N:=536870912) oo oo oo oo oo;have h2:=mulB (x:=b.Y-a.Y) (y:=c.X-a.X) (M:=536870912) (N:=536870912) oo oo oo oo oo;unfold Ns;unfold crs at h0 ⊢;rw[Av (x:=b.X-a.X) oo oo,Av (x:=c.Y-a.Y) oo oo,Av (x:=b.Y-a.Y) oo oo,Av (x:=c.X-a.X) oo oo,
  Av (x:=(b.X-a.X)*(c.Y-a.Y)) oo oo,Av (x:=(b.Y-a.Y)*(c.X-a.X)) oo oo,Av oo oo]
theorem Aem{p d:Ab}(hp:okP p)(hd:okP d):0<=lft p d/\lft p d<=576460752303423488:=by
 unfold okP at hp hd;have h1:=mulB (x:=p.X-d.X) (y:=p.X-d.X) (M:=536870912) (N:=536870912) oo oo oo oo oo;have h2:=mulB (x:=p.Y-d.Y) (y:=p.Y-d.Y) (M:=536870912) (N:=536870912) oo oo oo oo oo;have h3:0<=(p.X-d.X)*(p.X-d.X):=by rw[<- Int.natAbs_mul_self];omega
 have h4:0<=(p.Y-d.Y)*(p.Y-d.Y):=by rw[<- Int.natAbs_mul_self];omega
 unfold lft;omega
theorem Ada{p d:Ab}(hp:okP p)(hd:okP d):Tv p d=some (lft p d):=by
 have h0:=Aem hp hd;unfold okP at hp hd;have h1:=mulB (x:=p.X-d.X) (y:=p.X-d.X) (M:=536870912) (N:=536870912) oo oo oo oo oo;have h2:=mulB (x:=p.Y-d.Y) (y:=p.Y-d.Y) (M:=536870912) (N:=536870912) oo oo oo oo oo;unfold Tv;unfold lft at h0 ⊢;rw[Av (x:=p.X-d.X) oo oo,Av (x:=p.Y-d.Y) oo oo,
  Av (x:=(p.X-d.X)*(p.X-d.X)) oo oo,Av (x:=(p.Y-d.Y)*(p.Y-d.Y)) oo oo,Av oo oo]
theorem Aoq(z:Int):Mx z=some (Int.sign z):=by
 unfold Mx
 by_cases h:z<0
 ·rw[if_pos h,Int.sign_eq_neg_one_of_neg h]
 ·rw[if_neg h]
  by_cases h2:0<z
  ·rw[if_pos h2,Int.sign_eq_one_of_pos h2]
  ·rw[if_neg h2,show z=0 by omega];rfl
theorem Asf(a b c:Ab):Vm a b c=some (if okP a/\okP b/\okP c then (Int.sign (crs a b c),0) else (0,11)):=by
 unfold Vm;rw[Alm _ (by simp),Ae]
 by_cases h:okP a/\okP b/\okP c
 ·rw[if_pos (by simp[h]),Uo h.1 h.2.1 h.2.2,Ae,Aoq,Ae,if_pos h]
 ·rw[if_neg (by simpa[and_assoc] using h),if_neg h]
theorem turn_eq{a b c:Ab}(ha:okP a)(hb:okP b)(hc:okP c):Sm a b c=some (Int.sign (crs a b c)):=by
 unfold Sm;rw[Asf,if_pos ⟨ha,hb,hc⟩];rfl
theorem dig3{z:Int}(h1:-9223372036854775808<=z)(h2:z<=9223372036854775807):(dig 4294967296 z.natAbs).length<=2:=Asp oo 2 _ (by
 have:(4294967296:Nat) ^ 2=18446744073709551616:=dD;omega)
theorem dig5{z:Int}(h1:-10000000000000000000000000000000000000<=z)(h2:z<=10000000000000000000000000000000000000):(dig 4294967296 z.natAbs).length<=4:=Asp oo 4 _ (by
 have:(4294967296:Nat) ^ 4=340282366920938463463374607431768211456:=dD;omega)
theorem Amu{u v:Int}(hu1:-576460752303423488<=u)(hu2:u<=576460752303423488)(hv1:-576460752303423488<=v)(hv2:v<=576460752303423488):
  ∃ n m k,Mv u=some n/\Mv v=some m/\Kk n m=some k/\Aca k (u*v)/\-332306998946228968225951765070086144<=u*v/\u*v<=332306998946228968225951765070086144:=by
 obtain⟨n,h1,h2⟩:=Axw (z:=u) oo oo;obtain⟨m,h3,h4⟩:=Axw (z:=v) oo oo;have d1:=dig3 (z:=u) oo oo;have d2:=dig3 (z:=v) oo oo;obtain⟨k,h5,h6⟩:=Bd2 h2 h4 oo;have:=mulB (x:=u) (y:=v) (M:=576460752303423488) (N:=576460752303423488) oo oo oo oo oo;exact⟨n,m,k,h1,h3,h5,h6,oo,oo⟩
theorem At9(a b c d:Ab):Va a b c d=some (if okP a/\okP b/\okP c/\okP d then if crs a b c=0 then (0,12) else (Int.sign (crs a b c)*Int.sign (inC a b c d),0) else (0,11)):=by
 unfold Va;rw[Alm _ (by simp),Ae]
 by_cases h:okP a/\okP b/\okP c/\okP d
 ·obtain⟨ha,hb,hc,hd⟩:=h;rw[if_pos (by simp[ha,hb,hc,hd]),if_pos ⟨ha,hb,hc,hd⟩,Uo ha hb hc,Ae,Aoq,Ae]
  by_cases h0:crs a b c=0
  ·rw[if_pos (by rw[h0];rfl),if_pos h0]
  ·rw[if_neg (by rwa [Int.sign_eq_zero_iff_zero]),if_neg h0];try rw[jn_d]
   have l1:=Aem ha hd;have l2:=Aem hb hd;have l3:=Aem hc hd;have c1:=Hh hd hb hc;have c2:=Hh hd hc ha;have c3:=Hh hd ha hb;obtain⟨n1,m1,k1,e1,e2,e3,i1,b1,b2⟩:=Amu (u:=lft a d) (v:=crs d b c) oo oo oo oo;obtain⟨n2,m2,k2,e4,e5,e6,i2,b3,b4⟩:=Amu (u:=lft b d) (v:=crs d c a) oo oo oo oo;obtain⟨n3,m3,k3,e7,e8,e9,i3,b5,b6⟩:=Amu (u:=lft c d) (v:=crs d a b) oo oo oo oo;have q1:=dig5 (z:=lft a d*crs d b c) oo oo;have q2:=dig5 (z:=lft b d*crs d c a) oo oo;have q3:=dig5 (z:=lft c d*crs d a b) oo oo;have q4:=dig5 (z:=lft a d*crs d b c+lft b d*crs d c a) oo oo;obtain⟨s1,f1,g1⟩:=Axx i1 i2 oo oo;obtain⟨s2,f2,g2⟩:=Axx g1 i3 oo oo;simp only[Ada ha hd,Ada hb hd,Ada hc hd,Uo hd hb hc,Uo hd hc ha,Uo hd ha hb,Ae,e1,e2,e3,e4,e5,e6,e7,e8,e9];try rw[show (⟨k1.neg,k1.n,k1.d⟩:Cb)=k1 from rfl]
   rw[f1,Ae,f2,Ae,Baw g2,Ae,Av]
   ·rfl
   ·rcases Int.sign_trichotomy (crs a b c) with h | h | h <;> rcases Int.sign_trichotomy (lft a d*crs d b c+lft b d*crs d c a+lft c d*crs d a b) with h' | h' | h' <;> simp[h,h']
   ·rcases Int.sign_trichotomy (crs a b c) with h | h | h <;> rcases Int.sign_trichotomy (lft a d*crs d b c+lft b d*crs d c a+lft c d*crs d a b) with h' | h' | h' <;> simp[h,h']
 ·rw[if_neg (by simpa[and_assoc] using h),if_neg h]
theorem Axy(a:Int):shr_ .i64 a 30=a / 1073741824:=by
 unfold shr_;rw[show (2:Int) ^ (min (30:Int).toNat IntKind.i64.bits)=1073741824 from by decide,Int.fdiv_eq_ediv_of_nonneg _ oo]
theorem Axz(a:Int):Ch .i64 a 1073741823=a % 1073741824:=by
 unfold Ch;have h1:(BitVec.ofInt 64 1073741823).toNat=2 ^ 30-1:=dD;have h2:(BitVec.ofInt 64 a).toNat=(a % 18446744073709551616).toNat:=by simp[BitVec.toNat_ofInt]
 have h3:(BitVec.ofInt IntKind.i64.bits a &&& BitVec.ofInt IntKind.i64.bits 1073741823).toNat=(a % 1073741824).toNat:=by
  show (BitVec.ofInt 64 a &&& BitVec.ofInt 64 1073741823).toNat=_;rw[BitVec.toNat_and,h1,Nat.and_two_pow_sub_one_eq_mod,h2];omega
 rw[h3];show IntKind.wrap .i64 _=_;rw[IntKind.wrap_i64];omega
def wval(w:Cv):Int:=w.high*1152921504606846976+w.middle*1073741824+w.low
structure Aqp(w:Cv)(n z:Int):Prop where
 val:wval w=z
 high:-(n*288230376151711744)<=w.high/\w.high<=n*288230376151711744
 middle:-(n*1152921504606846976)<=w.middle/\w.middle<=n*1152921504606846976
 low:0<=w.low/\w.low<=n*1152921504606846976
theorem Ajg{w:Cv}{n z a b:Int}(h:Aqp w n z)(hn0:0<=n)(hn:n<=2)(ha1:-576460752303423488<=a)(ha2:a<=576460752303423488)(hb1:-576460752303423488<=b)(hb2:b<=576460752303423488):
  ∃ w',Ff w a b=some w'/\Aqp w' (n+1) (z+a*b):=by
 obtain⟨h0,h1,h2,h3⟩:=h;unfold Ff;rw[Axy,Axy,Axz,Axz];have ea:a=a / 1073741824*1073741824+a % 1073741824:=oo;have eb:b=b / 1073741824*1073741824+b % 1073741824:=oo;have A1:-536870912<=a / 1073741824/\a / 1073741824<=536870912:=oo;have B1:-536870912<=b / 1073741824/\b / 1073741824<=536870912:=oo;have A0:0<=a % 1073741824/\a % 1073741824<=1073741824:=oo;have B0:0<=b % 1073741824/\b % 1073741824<=1073741824:=oo;generalize a / 1073741824=a1 at *;generalize b / 1073741824=b1 at *;generalize a % 1073741824=a0 at *;generalize b % 1073741824=b0 at *;have p1:=mulB (x:=a1) (y:=b1) (M:=536870912) (N:=536870912) oo oo oo oo oo;have p2:=mulB (x:=a1) (y:=b0) (M:=536870912) (N:=1073741824) oo oo oo oo oo;have p3:=mulB (x:=a0) (y:=b1) (M:=1073741824) (N:=536870912) oo oo oo oo oo;have p4:=mulB (x:=a0) (y:=b0) (M:=1073741824) (N:=1073741824) oo oo oo oo oo;have p5:0<=a0*b0:=Int.mul_nonneg A0.1 B0.1;have e:a*b=a1*b1*1152921504606846976+(a1*b0+a0*b1)*1073741824+a0*b0:=by
  rw[ea,eb];grind
 rw[Av (x:=a1*b1) oo oo,Av (x:=a1*b0) oo oo,Av (x:=a0*b1) oo oo,Av (x:=a0*b0) oo oo,
  Av (x:=w.high+a1*b1) oo oo,Av (x:=w.middle+a1*b0) oo oo,Av oo oo,Av oo oo]
 refine⟨_,rfl,?_,?_,?_,?_⟩
 ·unfold wval at h0 ⊢;simp only;omega
 ·simp only;omega
 ·simp only;omega
 ·simp only;omega
theorem Ajh(z:Int):Ji z=some (Int.sign z):=by
 unfold Ji
 by_cases h:z<0
 ·rw[if_pos h,Int.sign_eq_neg_one_of_neg h]
 ·rw[if_neg h]
  by_cases h2:0<z
  ·rw[if_pos h2,Int.sign_eq_one_of_pos h2]
  ·rw[if_neg h2,show z=0 by omega];rfl
theorem Aua{w:Cv}{z:Int}(h:Aqp w 3 z):Is w=some (Int.sign z):=by
 obtain⟨h0,h1,h2,h3⟩:=h;unfold Is;simp only[Axy,Axz];have e1:w.low=w.low / 1073741824*1073741824+w.low % 1073741824:=oo;rw[Av (x:=w.middle+w.low / 1073741824) oo oo];have e2:w.middle+w.low / 1073741824=(w.middle+w.low / 1073741824) / 1073741824*1073741824+(w.middle+w.low / 1073741824) % 1073741824:=oo;unfold wval at h0;have l0:0<=w.low % 1073741824/\w.low % 1073741824<1073741824:=oo;have m0:0<=(w.middle+w.low / 1073741824) % 1073741824/\(w.middle+w.low / 1073741824) % 1073741824<1073741824:=oo;have hb:-4611686018427387904<=w.high+(w.middle+w.low / 1073741824) / 1073741824/\w.high+(w.middle+w.low / 1073741824) / 1073741824<=4611686018427387904:=oo;have hz:z=(w.high+(w.middle+w.low / 1073741824) / 1073741824)*1152921504606846976+(w.middle+w.low / 1073741824) % 1073741824*1073741824+w.low % 1073741824:=oo;clear e1 e2 h0 h1 h2 h3;rw[Av (x:=w.high+(w.middle+w.low / 1073741824) / 1073741824) oo oo];generalize w.high+(w.middle+w.low / 1073741824) / 1073741824=H at *;generalize (w.middle+w.low / 1073741824) % 1073741824=M at *;generalize w.low % 1073741824=L at *
 by_cases c:H=0
 ·rw[if_pos c,Av oo oo,Ajh,Ae];congr 1
  by_cases c2:M+L=0
  ·rw[c2,show z=0 by omega]
  ·rw[Int.sign_eq_one_of_pos oo,Int.sign_eq_one_of_pos oo]
 ·rw[if_neg c,Ajh,Ae];congr 1
  by_cases c2:H<0
  ·rw[Int.sign_eq_neg_one_of_neg c2,Int.sign_eq_neg_one_of_neg oo]
  ·rw[Int.sign_eq_one_of_pos oo,Int.sign_eq_one_of_pos oo]
theorem Aub{a b c:Ab}(ha:okP a)(hb:okP b)(hc:okP c):Se a b c=some (crs a b c):=Uo ha hb hc
theorem Aaf{a b c:Ab}(ha:okP a)(hb:okP b)(hc:okP c):Ef a b c=some (Int.sign (crs a b c)):=by
 unfold Ef;rw[Aub ha hb hc,Ae,Ajh,Ae]
theorem Aqq{a b c d:Ab}(ha:okP a)(hb:okP b)(hc:okP c)(hd:okP d):Ng a b c d=some (Int.sign (inC a b c d)):=by
 have l1:=Aem ha hd;have l2:=Aem hb hd;have l3:=Aem hc hd;have c1:=Hh hd hb hc;have c2:=Hh hd hc ha;have c3:=Hh hd ha hb;obtain⟨w1,e1,i1⟩:=Ajg (w:=⟨0,0,0⟩) (n:=0) (z:=0) (a:=lft a d) (b:=crs d b c) ⟨rfl,by simp,by simp,by simp⟩ oo oo oo oo oo oo;obtain⟨w2,e2,i2⟩:=Ajg (a:=lft b d) (b:=crs d c a) i1 oo oo oo oo oo oo;obtain⟨w3,e3,i3⟩:=Ajg (a:=lft c d) (b:=crs d a b) i2 oo oo oo oo oo oo;have x1:w64 (w64 (w64 (a.X-d.X)*w64 (a.X-d.X))+w64 (w64 (a.Y-d.Y)*w64 (a.Y-d.Y)))=lft a d:=Option.some.inj (Ada ha hd);have x2:w64 (w64 (w64 (b.X-d.X)*w64 (b.X-d.X))+w64 (w64 (b.Y-d.Y)*w64 (b.Y-d.Y)))=lft b d:=Option.some.inj (Ada hb hd);have x3:w64 (w64 (w64 (c.X-d.X)*w64 (c.X-d.X))+w64 (w64 (c.Y-d.Y)*w64 (c.Y-d.Y)))=lft c d:=Option.some.inj (Ada hc hd);have y1:w64 (w64 (w64 (b.X-d.X)*w64 (c.Y-d.Y))-w64 (w64 (b.Y-d.Y)*w64 (c.X-d.X)))=crs d b c:=Option.some.inj (Uo hd hb hc);have y2:w64 (w64 (w64 (c.X-d.X)*w64 (a.Y-d.Y))-w64 (w64 (c.Y-d.Y)*w64 (a.X-d.X)))=crs d c a:=Option.some.inj (Uo hd hc ha);have y3:w64 (w64 (w64 (a.X-d.X)*w64 (b.Y-d.Y))-w64 (w64 (a.Y-d.Y)*w64 (b.X-d.X)))=crs d a b:=Option.some.inj (Uo hd ha hb);unfold Ng;simp only[x1,x2,x3,y1,y2,y3,e1,Ae,e2,e3];rw[Aua (by simpa using i3),Ae];simp[inC]
def befP(p q:Ab):Prop:=p.X<q.X\/p.X=q.X/\p.Y<q.Y
instance(p q:Ab):Decidable (befP p q):=by unfold befP;infer_instance
def De(p q:Ab):Prop:=p.X=q.X/\p.Y=q.Y
instance(p q:Ab):Decidable (De p q):=by unfold De;infer_instance
theorem Afx{p q:Ab}(h:De p q):p=q:=by
 obtain⟨x,y⟩:=p;obtain⟨x',y'⟩:=q;obtain⟨h1,h2⟩:=h;simp only at h1 h2;rw[h1,h2]
def Ny(a b:Ab):Ab:=if befP b a then b else a
theorem Ax0(a b:Ab):Km a b=some (decide (befP a b)):=by
 unfold Km jn befP;simp only
 by_cases h1:a.X<b.X
 ·simp[h1]
 ·by_cases h2:a.X=b.X
  ·simp[h2]
  ·simp[h1,h2]
theorem Asg(a:Ab):Fn a=some (decide (okP a)):=by
 unfold Fn;rw[jn_d]
 by_cases h1:-268435456<=a.X
 ·rw[if_pos h1]
  by_cases h2:a.X<=268435456
  ·rw[if_pos h2]
   by_cases h3:-268435456<=a.Y
   ·rw[if_pos h3]
    by_cases h4:a.Y<=268435456
    ·rw[decide_eq_true h4,decide_eq_true (show okP a by unfold okP;omega)]
    ·rw[decide_eq_false h4,decide_eq_false (show ¬ okP a by unfold okP;omega)]
   ·rw[if_neg h3,decide_eq_false (show ¬ okP a by unfold okP;omega)]
  ·rw[if_neg h2,decide_eq_false (show ¬ okP a by unfold okP;omega)]
 ·rw[if_neg h1,decide_eq_false (show ¬ okP a by unfold okP;omega)]
theorem Aqr(B:(Int × Int × Int)->Option (Sum (Int × Int × Int) (Int × Int)))(p q r:Ab)(hB:∀ x y i,B (x,y,i)=if i<3 then bnd (idx [p,q,r] i) fun z=>some (.inl ((Ny ⟨x,y⟩ z).X,(Ny ⟨x,y⟩ z).Y,w64 (i+1))) else some (.inr (x,y)))(x y:Int):
  lfix B (x,y,0)=some ((Ny (Ny (Ny ⟨x,y⟩ p) q) r).X,(Ny (Ny (Ny ⟨x,y⟩ p) q) r).Y):=by
 have w1:w64 (0+1)=1:=Av oo oo;have w2:w64 (1+1)=2:=Av oo oo;have w3:w64 (2+1)=3:=Av oo oo;have i0:idx [p,q,r] 0=some p:=rfl;have i1:idx [p,q,r] 1=some q:=rfl;have i2:idx [p,q,r] 2=some r:=rfl;rw[Bd,hB,if_pos oo,i0,Ae,w1];simp only;rw[Bd,hB,if_pos oo,i1,Ae,w2];simp only;rw[Bd,hB,if_pos oo,i2,Ae,w3];simp only;rw[Bd,hB,if_neg oo]
theorem Auc{a b c d:Ab}(h1:¬ De a c)(h2:¬ De a d)(h3:¬ De b c)(h4:¬ De b d):
  (De (Ny (Ny (Ny a b) c) d) c\/De (Ny (Ny (Ny a b) c) d) d)↔((befP c a/\befP c b)\/(befP d a/\befP d b)):=by
 have key:∀ p q:Ab,(befP q p/\Ny p q=q)\/(¬ befP q p/\Ny p q=p):=fun p q=>by
  unfold Ny
  by_cases h:befP q p
  ·exact .inl ⟨h,if_pos h⟩
  ·exact .inr ⟨h,if_neg h⟩
 rcases key a b with⟨k1,e1⟩|⟨k1,e1⟩ <;> rw[e1]
 ·rcases key b c with⟨k2,e2⟩|⟨k2,e2⟩ <;> rw[e2]
  ·rcases key c d with⟨k3,e3⟩|⟨k3,e3⟩ <;> rw[e3] <;> unfold De befP at * <;> omega
  ·rcases key b d with⟨k3,e3⟩|⟨k3,e3⟩ <;> rw[e3] <;> unfold De befP at * <;> omega
 ·rcases key a c with⟨k2,e2⟩|⟨k2,e2⟩ <;> rw[e2]
  ·rcases key c d with⟨k3,e3⟩|⟨k3,e3⟩ <;> rw[e3] <;> unfold De befP at * <;> omega
  ·rcases key a d with⟨k3,e3⟩|⟨k3,e3⟩ <;> rw[e3] <;> unfold De befP at * <;> omega
def legP(a b c d:Ab):Prop:=Int.sign (crs a b c)*Int.sign (inC a b c d)<0\/Int.sign (crs a b c)*Int.sign (inC a b c d)=0/\((befP c a/\befP c b)\/(befP d a/\befP d b))
instance(a b c d:Ab):Decidable (legP a b c d):=by unfold legP;infer_instance
theorem Aud(a c:Ab):crs a c c=0:=by unfold crs;grind
theorem Gy(a b:Ab):crs a b a=0:=by unfold crs;grind
theorem Cs(a b:Ab):crs a b b=0:=by unfold crs;grind
theorem Aag(a b:Ab):crs a a b=0:=by unfold crs;grind
theorem Cu(a b c:Ab):crs b a c = -crs a b c:=by unfold crs;grind
theorem Cf(a b c:Ab):crs b c a=crs a b c:=by unfold crs;grind
theorem Ax1{a b c d:Ab}(ha:okP a)(hb:okP b)(hc:okP c)(hd:okP d)(h1:¬ De a c)(h2:¬ De a d)(h3:¬ De b c)(h4:¬ De b d):Vn a b c d=some (decide (legP a b c d)):=by
 unfold Vn;rw[At9,if_pos ⟨ha,hb,hc,hd⟩,Ae];have e:(if crs a b c=0 then ((0:Int),(12:Int)) else (Int.sign (crs a b c)*Int.sign (inC a b c d),0)).1=Int.sign (crs a b c)*Int.sign (inC a b c d):=by
  split
  ·rename_i h;rw[h];simp
  ·rfl
 rw[e]
 by_cases h0:Int.sign (crs a b c)*Int.sign (inC a b c d)=0
 ·rw[if_pos h0,jn_d,Aqr _ b c d (fun x y i=>?_),Ae]
  ·dsimp only;rw[jn_d];have hl:=Auc h1 h2 h3 h4
   by_cases hcc:De (Ny (Ny (Ny a b) c) d) c
   ·have:legP a b c d:=.inr ⟨h0,hl.1 (.inl hcc)⟩;rw[if_pos (by simpa[De] using hcc),decide_eq_true this]
   ·rw[if_neg (by simpa[De] using hcc)];congr 1;rw[Bool.eq_iff_iff];simp only[Bool.and_true,Bool.and_eq_true,beq_iff_eq,decide_eq_true_eq];unfold legP;constructor
    ·intro h;exact .inr ⟨h0,hl.1 (.inr h)⟩
    ·rintro (h | ⟨_,h⟩)
     ·omega
     ·exact (hl.2 h).resolve_left hcc
  ·unfold Zu;simp only;split
   ·refine congrArg (bnd _) (funext fun z=>?_);rw[Ax0,Ae];unfold Ny
    by_cases hb:befP z ⟨x,y⟩
    ·rw[if_pos (by simpa using hb),if_pos hb]
    ·rw[if_neg (by simpa using hb),if_neg hb]
   ·rfl
 ·rw[if_neg h0];congr 1;rw[Bool.eq_iff_iff];simp only[decide_eq_true_eq];unfold legP;constructor
  ·intro h;exact .inl h
  ·rintro (h | ⟨h,_⟩)
   ·exact h
   ·exact absurd h h0
theorem Agr{x y:Int}:Int.sign x*Int.sign y = -1↔(x<0/\0<y)\/(0<x/\y<0):=by
 rcases Int.lt_trichotomy x 0 with h | h | h <;> rcases Int.lt_trichotomy y 0 with h' | h' | h'
 all_goals first
  | (rw[Int.sign_eq_neg_one_of_neg h];try rw[Int.sign_eq_neg_one_of_neg h'])
  | (rw[Int.sign_eq_one_of_pos h];try rw[Int.sign_eq_neg_one_of_neg h'])
  | (rw[h])
 all_goals try rw[Int.sign_eq_one_of_pos h']
 all_goals try rw[h']
 all_goals simp
 all_goals omega
theorem Aor{x y:Int}:w64 (Int.sign x*Int.sign y)=Int.sign x*Int.sign y:=by
 apply Av
 ·rcases Int.sign_trichotomy x with h | h | h <;> rcases Int.sign_trichotomy y with h' | h' | h' <;> simp[h,h']
 ·rcases Int.sign_trichotomy x with h | h | h <;> rcases Int.sign_trichotomy y with h' | h' | h' <;> simp[h,h']
theorem Amv{x y:Int}:0<=Int.sign x*Int.sign y↔¬ Int.sign x*Int.sign y = -1:=by
 rcases Int.sign_trichotomy x with h | h | h <;> rcases Int.sign_trichotomy y with h' | h' | h' <;> simp[h,h']
theorem Amw{a b c d:Ab}(h:Int.sign (crs a b c)*Int.sign (crs a b d) = -1):¬ De a c/\¬ De a d/\¬ De b c/\¬ De b d:=by
 rw[Agr] at h;refine⟨fun e=>?_,fun e=>?_,fun e=>?_,fun e=>?_⟩ <;> (have:=Afx e;subst this;simp only[Aud,Gy,Cs] at h;omega)
def Dt(ha hb hc hd:Int)(a b c d:Ab):Int:=ha*crs b c d+hb*crs c a d+hc*crs a b d-hd*crs a b c
def plt(ha hb hc:Int)(a b c x:Ab):Int:=ha*crs b c x+hb*crs c a x+hc*crs a b x
def sq(p:Ab):Int:=p.X*p.X+p.Y*p.Y
theorem Bd3(a b c d:Ab):inC a b c d=Dt (sq a) (sq b) (sq c) (sq d) a b c d:=by unfold inC Dt lft sq crs;grind
theorem Aji(ha hb hc hd:Int)(a b c d:Ab):Dt ha hb hc hd a b c d=plt ha hb hc a b c d-hd*crs a b c:=rfl
theorem Aah(a b c d:Ab):crs a b c=crs b c d+crs c a d+crs a b d:=by unfold crs;grind
theorem Amx(a b c q r u:Ab):crs b c u*crs q r a+crs c a u*crs q r b+crs a b u*crs q r c=crs a b c*crs q r u:=by unfold crs;grind
theorem Aen(hp hq hr:Int)(a b c p q r u:Ab):crs b c u*plt hp hq hr p q r a+crs c a u*plt hp hq hr p q r b+crs a b u*plt hp hq hr p q r c=crs a b c*plt hp hq hr p q r u:=by
 have h1:=Amx a b c q r u;have h2:=Amx a b c r p u;have h3:=Amx a b c p q u;unfold plt;grind
theorem Aa2(ha hb hc hd:Int)(a b c d x:Ab):plt hb ha hd b a d x*crs a b c-plt ha hb hc a b c x*crs b a d=Dt ha hb hc hd a b c d*crs a b x:=by
 unfold plt Dt crs;grind
theorem Bax(ha hb hc hd:Int)(a b c d:Ab):Dt hb ha hc hd b a c d = -Dt ha hb hc hd a b c d:=by unfold Dt crs;grind
theorem Bd4(ha hb hc hd:Int)(a b c d:Ab):Dt hb hc ha hd b c a d=Dt ha hb hc hd a b c d:=by unfold Dt crs;grind
theorem Aos(ha hb hc hd:Int)(a b c d:Ab):Dt ha hb hd hc a b d c = -Dt ha hb hc hd a b c d:=by unfold Dt crs;grind
theorem Amy(ha hb hc:Int)(a b c x:Ab):plt hb hc ha b c a x=plt ha hb hc a b c x:=by unfold plt;grind
theorem Ax2(ha hb hc:Int)(a b c:Ab):plt ha hb hc a b c a=ha*crs a b c:=by unfold plt crs;grind
theorem Ash(ha hb hc:Int)(a b c:Ab):plt ha hb hc a b c b=hb*crs a b c:=by unfold plt crs;grind
theorem Asi(ha hb hc:Int)(a b c:Ab):plt ha hb hc a b c c=hc*crs a b c:=by unfold plt crs;grind
theorem Bd5(a b c d:Ab):inC a b c d=lft a b*crs b c d+lft c b*crs a b d-lft d b*crs a b c:=by unfold inC lft crs;grind
theorem Amz{p q:Ab}(h:¬ De p q):0<lft p q:=by
 unfold lft;have h1:0<=(p.X-q.X)*(p.X-q.X):=by rw[<- Int.natAbs_mul_self];omega
 have h2:0<=(p.Y-q.Y)*(p.Y-q.Y):=by rw[<- Int.natAbs_mul_self];omega
 by_cases hx:p.X=q.X
 ·have hy:p.Y-q.Y≠0:=fun e=>h ⟨hx,oo⟩
  have:0<(p.Y-q.Y)*(p.Y-q.Y):=by
   rcases Int.lt_or_gt_of_ne hy with g | g
   ·exact Int.mul_pos_of_neg_of_neg g g
   ·exact Int.mul_pos g g
  omega
 ·have hx':p.X-q.X≠0:=oo;have:0<(p.X-q.X)*(p.X-q.X):=by
   rcases Int.lt_or_gt_of_ne hx' with g | g
   ·exact Int.mul_pos_of_neg_of_neg g g
   ·exact Int.mul_pos g g
  omega
theorem Aa3(p q:Ab):0<=lft p q:=by
 unfold lft;have h1:0<=(p.X-q.X)*(p.X-q.X):=by rw[<- Int.natAbs_mul_self];omega
 have h2:0<=(p.Y-q.Y)*(p.Y-q.Y):=by rw[<- Int.natAbs_mul_self];omega
 omega
theorem Ajj{a b c d:Ab}(h1:0<crs a b c)(h2:crs a b d<0)(h3:crs b c d<=0):inC a b c d<0:=by
 have hd:¬ De d b:=fun e=>by
  have:=Afx e;subst this;simp only[Cs] at h2;omega
 rw[Bd5];have e1:lft a b*crs b c d<=0:=Int.mul_nonpos_of_nonneg_of_nonpos (Aa3 a b) h3;have e2:lft c b*crs a b d<=0:=Int.mul_nonpos_of_nonneg_of_nonpos (Aa3 c b) oo;have e3:0<lft d b*crs a b c:=Int.mul_pos (Amz hd) h1;omega
theorem Acb{a b c d:Ab}(h1:0<crs a b c)(h2:crs a b d<0)(h3:crs c a d<=0):inC a b c d<0:=by
 have e:inC a b c d=lft b a*crs c a d+lft c a*crs a b d-lft d a*crs a b c:=by unfold inC lft crs;grind
 have hd:¬ De d a:=fun e=>by
  have:=Afx e;subst this;simp only[Gy] at h2;omega
 rw[e];have e1:lft b a*crs c a d<=0:=Int.mul_nonpos_of_nonneg_of_nonpos (Aa3 b a) h3;have e2:lft c a*crs a b d<=0:=Int.mul_nonpos_of_nonneg_of_nonpos (Aa3 c a) oo;have e3:0<lft d a*crs a b c:=Int.mul_pos (Amz hd) h1;omega
theorem Ajk{a b c x y z:Int}(hx:0<x)(hy:0<y)(hz:0<z)(h1:a*y<b*x)(h2:b*z<c*y):a*z<c*x:=by
 have h3:=Int.mul_lt_mul_of_pos_right h1 hz;have h4:=Int.mul_lt_mul_of_pos_right h2 hx;have h5:y*(a*z)<y*(c*x):=by
  have e1:y*(a*z)=a*y*z:=by grind
  have e2:b*x*z=b*z*x:=by grind
  have e3:y*(c*x)=c*y*x:=by grind
  rw[e1,e3];rw[e2] at h3;exact Int.lt_trans h3 h4
 exact Int.lt_of_mul_lt_mul_left h5 (Int.le_of_lt hy)
theorem Ags{α:Type}{p q:α->Bool}{x:α}:∀ {l:List α},(∀ y∈l,p y=true->q y=true)->x∈l->q x=true->p x=false->l.countP p<l.countP q
 | [],_,hx,_,_=>by cases hx
 | y::r,h',hx,hq,hp=>by
  have h:=h' y mem_cons_self;have h2:∀ z∈r,p z=true->q z=true:=fun z hz=>h' z (mem_cons_of_mem _ hz)
  have hle:r.countP p<=r.countP q:=countP_mono_left h2;rw[countP_cons,countP_cons];rcases mem_cons.1 hx with rfl | hx
  ·rw[hq,hp];simp;omega
  ·have:=Ags h2 hx hq hp
   by_cases c:p y=true
   ·rw[if_pos c,if_pos (h c)];omega
   ·rw[if_neg c];split <;> omega
def c3(a b p q r:Ab):Int:=crs a b p+crs a b q+crs a b r
def p3(ha hb hc:Int)(a b c p q r:Ab):Int:=plt ha hb hc a b c p+plt ha hb hc a b c q+plt ha hb hc a b c r
theorem Aue(ha hb hc hd:Int)(a b c d p q r:Ab):p3 hb ha hd b a d p q r*crs a b c-p3 ha hb hc a b c p q r*crs b a d=Dt ha hb hc hd a b c d*c3 a b p q r:=by
 have h1:=Aa2 ha hb hc hd a b c d p;have h2:=Aa2 ha hb hc hd a b c d q;have h3:=Aa2 ha hb hc hd a b c d r;unfold p3 c3;grind
theorem Ax3(ha hb hc:Int)(a b c p q r:Ab):p3 hb hc ha b c a p q r=p3 ha hb hc a b c p q r:=by unfold p3;rw[Amy ha hb hc a b c p,Amy ha hb hc a b c q,Amy ha hb hc a b c r]
abbrev T3:=Int × Int × Int
variable {P:Int->Ab} {H:Int->Int}
def Ajl(P:Int->Ab)(t:T3):Int:=crs (P t.1) (P t.2.1) (P t.2.2)
def hgt3(P:Int->Ab)(H:Int->Int)(t:T3)(p q r:Ab):Int:=p3 (H t.1) (H t.2.1) (H t.2.2) (P t.1) (P t.2.1) (P t.2.2) p q r
def Acc(P:Int->Ab)(H:Int->Int)(p q r:Ab)(t s:T3):Prop:=hgt3 P H t p q r*Ajl P s<hgt3 P H s p q r*Ajl P t
instance(p q r:Ab)(t s:T3):Decidable (Acc P H p q r t s):=by unfold Acc;infer_instance
def DH(P:Int->Ab)(H:Int->Int)(a b c d:Int):Int:=Dt (H a) (H b) (H c) (H d) (P a) (P b) (P c) (P d)
structure Ajm(P:Int->Ab)(X:List T3):Prop where
 rot:∀ a b c,(a,b,c)∈X->(b,c,a)∈X
 ccw:∀ a b c,(a,b,c)∈X->0<crs (P a) (P b) (P c)
theorem walk{X:List T3}(hX:Ajm P X)(p q r:Ab)(step:∀ a b c,(a,b,c)∈X->c3 (P a) (P b) p q r<0->∃ d,(b,a,d)∈X/\DH P H a b c d<0):
  ∀ t∈X,∃ s∈X,0<=c3 (P s.1) (P s.2.1) p q r/\0<=c3 (P s.2.1) (P s.2.2) p q r/\0<=c3 (P s.2.2) (P s.1) p q r/\(s=t\/Acc P H p q r t s):=by
 have key:∀ (n:Nat) (t:T3),t∈X->X.countP (fun s=>decide (Acc P H p q r t s))=n->∃ s∈X,0<=c3 (P s.1) (P s.2.1) p q r/\0<=c3 (P s.2.1) (P s.2.2) p q r/\0<=c3 (P s.2.2) (P s.1) p q r/\(s=t\/Acc P H p q r t s):=by
  intro n
  induction n using Nat.strongRecOn with
  | ind n ih=>
   intro t ht hn;have go:∀ t':T3,t'∈X->hgt3 P H t' p q r=hgt3 P H t p q r->Ajl P t'=Ajl P t->c3 (P t'.1) (P t'.2.1) p q r<0 ->
     ∃ s∈X,0<=c3 (P s.1) (P s.2.1) p q r/\0<=c3 (P s.2.1) (P s.2.2) p q r/\0<=c3 (P s.2.2) (P s.1) p q r/\(s=t\/Acc P H p q r t s):=by
    rintro⟨a,b,c⟩ h1 h2 h3 h4;obtain⟨d,h5,h6⟩:=step a b c h1 h4;have hb:Acc P H p q r t (b,a,d):=by
     unfold Acc;rw[<- h2,<- h3];have e:=Aue (H a) (H b) (H c) (H d) (P a) (P b) (P c) (P d) p q r;have:0<Dt (H a) (H b) (H c) (H d) (P a) (P b) (P c) (P d)*c3 (P a) (P b) p q r:=Int.mul_pos_of_neg_of_neg h6 h4;show p3 _ _ _ _ _ _ p q r*crs _ _ _<p3 _ _ _ _ _ _ p q r*crs _ _ _;simp only;omega
    have hpos:∀ u∈X,0<Ajl P u:=fun u hu=>hX.ccw u.1 u.2.1 u.2.2 hu
    have hlt:X.countP (fun s=>decide (Acc P H p q r (b,a,d) s))<n:=by
     rw[<- hn];refine Ags (x:=(b,a,d)) (fun y hy hb2=>?_) h5 (by simpa using hb) (by simp[Acc]);rw[decide_eq_true_eq] at hb2 ⊢;exact Ajk (hpos t ht) (hpos _ h5) (hpos y hy) hb hb2
    obtain⟨s,k1,k2,k3,k4,k5⟩:=ih _ hlt (b,a,d) h5 rfl;refine⟨s,k1,k2,k3,k4,.inr ?_⟩;rcases k5 with rfl | k5
    ·exact hb
    ·exact Ajk (hpos t ht) (hpos _ h5) (hpos s k1) hb k5
   obtain⟨a,b,c⟩:=t
   by_cases g1:c3 (P a) (P b) p q r<0
   ·exact go (a,b,c) ht rfl rfl g1
   ·by_cases g2:c3 (P b) (P c) p q r<0
    ·exact go (b,c,a) (hX.rot _ _ _ ht) (Ax3 _ _ _ _ _ _ _ _ _) (Cf _ _ _) g2
    ·by_cases g3:c3 (P c) (P a) p q r<0
     ·exact go (c,a,b) (hX.rot _ _ _ (hX.rot _ _ _ ht)) (by unfold hgt3;rw[<- Ax3]) (by unfold Ajl;rw[<- Cf]) g3
     ·exact⟨(a,b,c),ht,by simp only;omega,by simp only;omega,by simp only;omega,.inl rfl⟩
 exact fun t ht=>key _ t ht rfl
end Go.Proofs.YthlkpgdfifnagaaGreat
namespace Go.Proofs.YthlkpgdfifnagaaGreat
open Go Go.RowKit List
variable {P:Int->Ab} {H:Int->Int} {V:Int->Prop}
theorem Aeo{a b c d:Int}(hd:d≠a->d≠b->d≠c->DH P H a b c d<0):plt (H a) (H b) (H c) (P a) (P b) (P c) (P d)<=H d*crs (P a) (P b) (P c)/\(d≠a->d≠b->d≠c->plt (H a) (H b) (H c) (P a) (P b) (P c) (P d)<H d*crs (P a) (P b) (P c)):=by
 have key:d≠a->d≠b->d≠c->plt (H a) (H b) (H c) (P a) (P b) (P c) (P d)<H d*crs (P a) (P b) (P c):=fun h1 h2 h3=>by
  have:=hd h1 h2 h3;unfold DH at this;rw[Aji] at this;omega
 refine⟨?_,key⟩
 by_cases h1:d=a
 ·subst h1;rw[Ax2];exact Int.le_refl _
 ·by_cases h2:d=b
  ·subst h2;rw[Ash];exact Int.le_refl _
  ·by_cases h3:d=c
   ·subst h3;rw[Asi];exact Int.le_refl _
   ·exact Int.le_of_lt (key h1 h2 h3)
theorem global{X:List T3}(hX:Ajm P X)(emp:∀ a b c,(a,b,c)∈X->∀ d,V d->d≠a->d≠b->d≠c->crs (P a) (P b) (P d)<0\/crs (P b) (P c) (P d)<0\/crs (P c) (P a) (P d)<0)(leg:∀ a b c,(a,b,c)∈X->∀ d,V d->crs (P a) (P b) (P d)<0->∃ e,(b,a,e)∈X/\DH P H a b c e<0):
  ∀ a b c,(a,b,c)∈X->∀ d,V d->d≠a->d≠b->d≠c->DH P H a b c d<0:=by
 intro a b c ht d hd h1 h2 h3;have c3d:∀ x y,c3 x y (P d) (P d) (P d)=3*crs x y (P d):=fun x y=>by unfold c3;omega
 obtain⟨⟨x,y,z⟩,hs,g1,g2,g3,g4⟩:=walk (H:=H) hX (P d) (P d) (P d) (fun a b c h hc=>leg a b c h d hd (by rw[c3d] at hc;omega)) (a,b,c) ht;simp only[c3d] at g1 g2 g3;rcases g4 with e | hb
 ·cases e
  rcases emp a b c ht d hd h1 h2 h3 with h | h | h <;> omega
 ·have hτ:=hX.ccw _ _ _ ht;have hσ:=hX.ccw _ _ _ hs;have hp:plt (H x) (H y) (H z) (P x) (P y) (P z) (P d)=H d*crs (P x) (P y) (P z):=by
   by_cases k1:d=x
   ·subst k1;rw[Ax2]
   ·by_cases k2:d=y
    ·subst k2;rw[Ash]
    ·by_cases k3:d=z
     ·subst k3;rw[Asi]
     ·rcases emp x y z hs d hd k1 k2 k3 with h | h | h <;> omega
  unfold Acc hgt3 Ajl p3 at hb;simp only[hp] at hb;have h4:(plt (H a) (H b) (H c) (P a) (P b) (P c) (P d)*3)*crs (P x) (P y) (P z)<(H d*crs (P a) (P b) (P c)*3)*crs (P x) (P y) (P z):=by
   have e1:(plt (H a) (H b) (H c) (P a) (P b) (P c) (P d)*3)*crs (P x) (P y) (P z)=(plt (H a) (H b) (H c) (P a) (P b) (P c) (P d)+plt (H a) (H b) (H c) (P a) (P b) (P c) (P d)+plt (H a) (H b) (H c) (P a) (P b) (P c) (P d))*crs (P x) (P y) (P z):=by grind
   have e2:(H d*crs (P a) (P b) (P c)*3)*crs (P x) (P y) (P z)=(H d*crs (P x) (P y) (P z)+H d*crs (P x) (P y) (P z)+H d*crs (P x) (P y) (P z))*crs (P a) (P b) (P c):=by grind
   rw[e1,e2];exact hb
  have h5:=Int.lt_of_mul_lt_mul_right h4 (Int.le_of_lt hσ);unfold DH;rw[Aji];omega
theorem Aa4{a b c:Int}(h:crs (P a) (P b) (P c)≠0):a≠b/\b≠c/\c≠a:=by
 refine⟨fun e=>?_,fun e=>?_,fun e=>?_⟩
 ·subst e;exact h (Aag _ _)
 ·subst e;exact h (Cs _ _)
 ·subst e;exact h (Gy _ _)
theorem Ajn{X:List T3}(hX:Ajm P X)(hV:∀ a b c,(a,b,c)∈X->V a/\V b/\V c)(empX:∀ a b c,(a,b,c)∈X->∀ d,V d->d≠a->d≠b->d≠c->DH P H a b c d<0)(step:∀ a b c,(a,b,c)∈X->∀ d,V d->crs (P a) (P b) (P d)<0->∃ e,(b,a,e)∈X)(hne:X≠[]){p q r:Int}(hp:V p)(hq:V q)(hr:V r)(hs:0<crs (P p) (P q) (P r))(hemp:∀ d,V d->d≠p->d≠q->d≠r->DH P H p q r d<0):(p,q,r)∈X:=by
 obtain⟨t0,ht0⟩:=exists_mem_of_ne_nil X hne;obtain⟨⟨a,b,c⟩,ht,g1,g2,g3,_⟩:=walk (H:=H) hX (P p) (P q) (P r) (fun a b c h hc=>by
  have hτ:=hX.ccw _ _ _ h;obtain⟨e,he⟩:∃ e,(b,a,e)∈X:=by
   unfold c3 at hc
   by_cases k1:crs (P a) (P b) (P p)<0
   ·exact step a b c h p hp k1
   ·by_cases k2:crs (P a) (P b) (P q)<0
    ·exact step a b c h q hq k2
    ·exact step a b c h r hr oo
  refine⟨e,he,empX a b c h e (hV _ _ _ he).2.2 ?_ ?_ ?_⟩
  ·exact (Aa4 (P:=P) (a:=b) (b:=a) (c:=e) (by have:=hX.ccw _ _ _ he;omega)).2.1.symm
  ·exact (Aa4 (P:=P) (a:=b) (b:=a) (c:=e) (by have:=hX.ccw _ _ _ he;omega)).2.2
  ·intro k;subst k;have h1:=hX.ccw _ _ _ he;rw[Cu] at h1;omega) t0 ht0
 simp only at g1 g2 g3;have hτ:=hX.ccw _ _ _ ht;obtain⟨va,vb,vc⟩:=hV _ _ _ ht;have P1:=Aeo (P:=P) (H:=H) (empX a b c ht p hp);have P2:=Aeo (P:=P) (H:=H) (empX a b c ht q hq);have P3:=Aeo (P:=P) (H:=H) (empX a b c ht r hr);have Q1:=(Aeo (P:=P) (H:=H) (hemp a va)).1;have Q2:=(Aeo (P:=P) (H:=H) (hemp b vb)).1;have Q3:=(Aeo (P:=P) (H:=H) (hemp c vc)).1;have e1:c3 (P b) (P c) (P p) (P q) (P r)*plt (H p) (H q) (H r) (P p) (P q) (P r) (P a)+c3 (P c) (P a) (P p) (P q) (P r)*plt (H p) (H q) (H r) (P p) (P q) (P r) (P b)+c3 (P a) (P b) (P p) (P q) (P r)*plt (H p) (H q) (H r) (P p) (P q) (P r) (P c)
   = crs (P a) (P b) (P c)*((H p+H q+H r)*crs (P p) (P q) (P r)):=by
  have i1:=Aen (H p) (H q) (H r) (P a) (P b) (P c) (P p) (P q) (P r) (P p);have i2:=Aen (H p) (H q) (H r) (P a) (P b) (P c) (P p) (P q) (P r) (P q);have i3:=Aen (H p) (H q) (H r) (P a) (P b) (P c) (P p) (P q) (P r) (P r);rw[Ax2] at i1;rw[Ash] at i2;rw[Asi] at i3;unfold c3;grind
 have e2:plt (H a) (H b) (H c) (P a) (P b) (P c) (P p)+plt (H a) (H b) (H c) (P a) (P b) (P c) (P q)+plt (H a) (H b) (H c) (P a) (P b) (P c) (P r)=H a*c3 (P b) (P c) (P p) (P q) (P r)+H b*c3 (P c) (P a) (P p) (P q) (P r)+H c*c3 (P a) (P b) (P p) (P q) (P r):=by unfold plt c3;grind
 have m1:=Int.mul_le_mul_of_nonneg_left Q1 g2;have m2:=Int.mul_le_mul_of_nonneg_left Q2 g3;have m3:=Int.mul_le_mul_of_nonneg_left Q3 g1;generalize hF:plt (H a) (H b) (H c) (P a) (P b) (P c) (P p)+plt (H a) (H b) (H c) (P a) (P b) (P c) (P q)+plt (H a) (H b) (H c) (P a) (P b) (P c) (P r)=F at *;have hge:(H p+H q+H r)*crs (P a) (P b) (P c)<=F:=by
  have:crs (P p) (P q) (P r)*((H p+H q+H r)*crs (P a) (P b) (P c))<=crs (P p) (P q) (P r)*F:=by
   have e3:crs (P p) (P q) (P r)*F=c3 (P b) (P c) (P p) (P q) (P r)*(H a*crs (P p) (P q) (P r))+c3 (P c) (P a) (P p) (P q) (P r)*(H b*crs (P p) (P q) (P r))+c3 (P a) (P b) (P p) (P q) (P r)*(H c*crs (P p) (P q) (P r)):=by rw[e2];grind
   have e4:crs (P p) (P q) (P r)*((H p+H q+H r)*crs (P a) (P b) (P c))=crs (P a) (P b) (P c)*((H p+H q+H r)*crs (P p) (P q) (P r)):=by grind
   rw[e3,e4];omega
  exact Int.le_of_mul_le_mul_left this hs
 have hsum:(H p+H q+H r)*crs (P a) (P b) (P c)=H p*crs (P a) (P b) (P c)+H q*crs (P a) (P b) (P c)+H r*crs (P a) (P b) (P c):=by grind
 have in1:p=a\/p=b\/p=c:=by
  by_cases k1:p=a
  ·exact .inl k1
  ·by_cases k2:p=b
   ·exact .inr (.inl k2)
   ·by_cases k3:p=c
    ·exact .inr (.inr k3)
    ·have:=P1.2 k1 k2 k3;omega
 have in2:q=a\/q=b\/q=c:=by
  by_cases k1:q=a
  ·exact .inl k1
  ·by_cases k2:q=b
   ·exact .inr (.inl k2)
   ·by_cases k3:q=c
    ·exact .inr (.inr k3)
    ·have:=P2.2 k1 k2 k3;omega
 have in3:r=a\/r=b\/r=c:=by
  by_cases k1:r=a
  ·exact .inl k1
  ·by_cases k2:r=b
   ·exact .inr (.inl k2)
   ·by_cases k3:r=c
    ·exact .inr (.inr k3)
    ·have:=P3.2 k1 k2 k3;omega
 obtain⟨d1,d2,d3⟩:=Aa4 (P:=P) (a:=p) (b:=q) (c:=r) oo;have o1:crs (P b) (P a) (P c) = -crs (P a) (P b) (P c):=Cu _ _ _;have o2:crs (P a) (P c) (P b) = -crs (P a) (P b) (P c):=by unfold crs;grind
 have o3:crs (P c) (P b) (P a) = -crs (P a) (P b) (P c):=by rw[Cu,Cf]
 rcases in1 with rfl | rfl | rfl <;> rcases in2 with rfl | rfl | rfl <;> rcases in3 with rfl | rfl | rfl
 all_goals first
  | exact absurd rfl d1
  | exact absurd rfl d2
  | exact absurd rfl d3
  | exact ht
  | exact hX.rot _ _ _ ht
  | exact hX.rot _ _ _ (hX.rot _ _ _ ht)
  | omega
end Go.Proofs.YthlkpgdfifnagaaGreat
namespace Go.Proofs.YthlkpgdfifnagaaGreat
open Go Go.RowKit List
theorem Vw(s a b c d:Ab):crs s a b*crs s c d-crs s a c*crs s b d+crs s a d*crs s b c=0:=by unfold crs;grind
theorem Uc{x y:Int}(h:0<x*y)(hx:0<x):0<y:=by
 rcases Int.lt_or_le 0 y with g | g
 ·exact g
 ·have:=Int.mul_nonpos_of_nonneg_of_nonpos (Int.le_of_lt hx) g;omega
theorem Xd{x y:Int}(h:0<=x*y)(hx:0<x):0<=y:=by
 rcases Int.lt_or_le y 0 with g | g
 ·have:=Int.mul_neg_of_pos_of_neg hx g;omega
 ·exact g
theorem Cg(s a b:Ab):crs s b a = -crs s a b:=by unfold crs;grind
theorem Acd{s a b l i:Ab}(h1:0<crs s a l)(h2:0<crs s l b)(h3:0<crs s a b)(h4:0<crs s a i)(h5:0<crs s i l):0<crs s i b:=by
 have h:=Vw s a l i b;rw[Cg s i l] at h;have e1:0<crs s a i*crs s l b:=Int.mul_pos h4 h2;have e2:0<crs s a b*crs s i l:=Int.mul_pos h3 h5;have e3:crs s a b * -crs s i l = -(crs s a b*crs s i l):=Int.mul_neg _ _;exact Uc (x:=crs s a l) oo h1
theorem Am0{s a b l j:Ab}(h1:0<crs s a l)(h2:0<crs s l b)(h3:0<crs s a b)(h4:0<crs s j b)(h5:0<crs s l j):0<crs s a j:=by
 have h:=Vw s a j l b;have e1:0<crs s a l*crs s j b:=Int.mul_pos h1 h4;have e2:0<crs s a b*crs s l j:=Int.mul_pos h3 h5;have e3:crs s a b*crs s j l = -(crs s a b*crs s l j):=by rw[Cg s l j,Int.mul_neg]
 exact Uc (x:=crs s l b) (by rw[Int.mul_comm];omega) h2
theorem Ajo{s j m l w:Ab}(h0:crs s j m=0)(h1:0<crs s j l)(h2:0<crs s m l)(h3:0<crs s m w):0<crs s j w:=by
 have h:=Vw s j l m w;rw[h0,Cg s m l] at h;have e1:0<crs s j l*crs s m w:=Int.mul_pos h1 h3;have e2:crs s j w * -crs s m l = -(crs s m l*crs s j w):=by rw[Int.mul_neg,Int.mul_comm]
 exact Uc (x:=crs s m l) oo h2
theorem Auf{s j m l w:Ab}(h0:crs s j m=0)(h1:0<crs s l j)(h2:0<crs s l m)(h3:0<crs s w m):0<crs s w j:=by
 have h:=Vw s l j w m;have e0:crs s j m=0:=h0;have e1:0<crs s l j*crs s w m:=Int.mul_pos h1 h3;have e2:crs s l m*crs s j w = -(crs s l m*crs s w j):=by rw[Cg s w j,Int.mul_neg]
 rw[e0,Int.mul_zero] at h;exact Uc (x:=crs s l m) oo h2
theorem Ax4{s a i b j:Ab}(h0:crs s a i=0)(h1:0<crs s a b)(h2:0<crs s i b)(h3:0<crs s i j)(h4:0<crs s a j):
  (0<=crs a b i/\0<=crs b s i)\/(0<=crs i j a/\0<=crs j s a):=by
 have hp:=Vw s a b i j;rw[h0,Cg s i b] at hp;have s1:=Aah s a b i;have s2:=Aah s i j a;have r1:crs b s i=crs s i b:=by unfold crs;grind
 have r2:crs j s a=crs s a j:=by unfold crs;grind
 have r3:crs s i a=0:=by rw[Cg,h0];rfl
 by_cases c:crs s i b<=crs s a b
 ·left;omega
 ·right;have:crs s a j<=crs s i j:=by
   rcases Int.lt_or_le (crs s i j) (crs s a j) with g | g
   ·have e1:=Int.mul_lt_mul_of_pos_left g h1;have e2:=Int.mul_lt_mul_of_pos_right (show crs s a b<crs s i b by omega) h4;have e3:crs s a j * -crs s i b = -(crs s i b*crs s a j):=by rw[Int.mul_neg,Int.mul_comm]
    have e4:crs s a b*crs s a j=crs s a b*crs s a j:=rfl;omega
   ·exact g
  omega
theorem Bay{s a i b j:Ab}(h0:crs s a i=0)(h1:0<crs s b a)(h2:0<crs s b i)(h3:0<crs s j i)(h4:0<crs s j a):
  (0<=crs b a i/\0<=crs s b i)\/(0<=crs j i a/\0<=crs s j a):=by
 have hp:=Vw s b a j i;rw[h0,Cg s j a,Int.mul_zero] at hp;have s1:=Aah s b a i;have s2:=Aah s j i a;have r1:crs a s i=0:=by rw[Cu,h0];rfl
 have r2:crs i s a=0:=by rw[Cu,Cg,h0];rfl
 by_cases c:crs s b i<=crs s b a
 ·left;omega
 ·right;have:crs s j a<=crs s j i:=by
   rcases Int.lt_or_le (crs s j i) (crs s j a) with g | g
   ·have e1:=Int.mul_lt_mul_of_pos_left g h1;have e2:=Int.mul_lt_mul_of_pos_right (show crs s b a<crs s b i by omega) h4;have e3:crs s b i * -crs s j a = -(crs s b i*crs s j a):=Int.mul_neg _ _;omega
   ·exact g
  omega
abbrev Ap:=Int->Int->Option Int
structure Tri(P:Int->Ab)(V:Int->Prop)(ap:Ap):Prop where
 rot:∀ i j k,ap i j=some k->ap j k=some i
 ccw:∀ i j k,ap i j=some k->V i/\V j/\V k/\0<crs (P i) (P j) (P k)
 emp:∀ i j k,ap i j=some k->∀ d,V d->d≠i->d≠j->d≠k->crs (P i) (P j) (P d)<0\/crs (P j) (P k) (P d)<0\/crs (P k) (P i) (P d)<0
 cone:∀ s a b m,ap s a=some b->(ap s m≠none\/ap m s≠none)->¬ (0<crs (P s) (P a) (P m)/\0<crs (P s) (P m) (P b))
variable {P:Int->Ab} {H:Int->Int} {V:Int->Prop} {ap:Ap}
theorem Tri.rot2(h:Tri P V ap){i j k}(hk:ap i j=some k):ap k i=some j:=h.rot _ _ _ (h.rot _ _ _ hk)
theorem Tri.ne(h:Tri P V ap){i j k}(hk:ap i j=some k):i≠j/\j≠k/\k≠i:=Aa4 (P:=P) (by have:=(h.ccw _ _ _ hk).2.2.2;omega)
theorem Tri.nbr(h:Tri P V ap){s m}(hm:ap s m≠none\/ap m s≠none):(∃ w,ap s m=some w)\/∃ w,ap s w=some m:=by
 rcases hm with hm | hm
 ·obtain⟨w,hw⟩:=Option.ne_none_iff_exists'.1 hm;exact .inl ⟨w,hw⟩
 ·obtain⟨w,hw⟩:=Option.ne_none_iff_exists'.1 hm;exact .inr ⟨w,h.rot _ _ _ hw⟩
theorem Tri.cones(h:Tri P V ap){s a b i j:Int}{l:Ab}(h1:ap s a=some b)(h2:ap s i=some j)(g1:0<crs (P s) (P a) l)(g2:0<crs (P s) l (P b))(g3:0<crs (P s) (P i) l)(g4:0<crs (P s) l (P j)):a=i:=by
 obtain⟨vs,va,vb,cab⟩:=h.ccw _ _ _ h1;obtain⟨_,vi,vj,cij⟩:=h.ccw _ _ _ h2;rcases Int.lt_trichotomy (crs (P s) (P a) (P i)) 0 with c | c | c
 ·have c':0<crs (P s) (P i) (P a):=by rw[Cg];omega
  exact absurd ⟨c',Acd g3 g4 cij c' g1⟩ (h.cone s i j a h2 (.inl (by rw[h1];simp)))
 ·by_cases e:a=i
  ·exact e
  ·exfalso;have n1:=h.ne h1;have n2:=h.ne h2;have k1:0<crs (P s) (P i) (P b):=Ajo (l:=l) (by rw[Cg,c];rfl) g3 g1 cab;have k2:0<crs (P s) (P a) (P j):=Ajo (l:=l) c g1 g3 cij;rcases Ax4 c cab k1 cij k2 with⟨q1,q2⟩|⟨q1,q2⟩
   ·by_cases e2:i=b
    ·subst e2;omega
    ·rcases h.emp s a b h1 i vi oo oo e2 with g | g | g <;> omega
   ·by_cases e2:a=j
    ·subst e2;rw[Cg] at cij;omega
    ·have:crs (P s) (P i) (P a)=0:=by rw[Cg,c];rfl
     rcases h.emp s i j h2 a va oo oo e2 with g | g | g <;> omega
 ·exact absurd ⟨c,Acd g1 g2 cab c g3⟩ (h.cone s a b i h1 (.inl (by rw[h2];simp)))
end Go.Proofs.YthlkpgdfifnagaaGreat
