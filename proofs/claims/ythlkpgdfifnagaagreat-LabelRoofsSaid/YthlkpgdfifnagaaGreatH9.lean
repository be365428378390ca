import Derived.Test.YthlkpgdfifnagaaGreatX5
namespace Go.Proofs.YthlkpgdfifnagaaGreat
open Go Go.RowKit Go.Sort List
theorem w1{k n:Nat}(h:k<n)(hn:n<=1000000000):w64 ((k:Int)+1)=((k+1:Nat):Int):=by rw[Av oo oo];omega
theorem has_eq{l:List Int}(hl:l.length<=1000000)(n:Int):La l n=some (decide (n∈l)):=by
 unfold La;rw[jn_d];have:=Be (B:=Rd l n) (fun s=>l.length-s.toNat) (fun s=>∃ k:Nat,k<=l.length/\s=(k:Int)/\n ∉ l.take k) (fun t=>(t = .inl ()/\n ∉ l)\/(t = .inr true/\n∈l)) (fun s hs=>by
  obtain⟨k,hk,rfl,h⟩:=hs;unfold Rd
  by_cases hk2:k<l.length
  ·rw[if_pos oo,As hk2,Ae]
   by_cases c:l[k]=n
   ·right;rw[if_pos c];exact⟨_,rfl,.inr ⟨rfl,c ▸ getElem_mem hk2⟩⟩
   ·left;rw[if_neg c,w1 hk2 oo];refine⟨_,rfl,⟨k+1,hk2,rfl,fun g=>?_⟩,oo⟩;rw[take_succ_eq_append_getElem hk2,mem_append,mem_singleton] at g;rcases g with g | g
    ·exact h g
    ·exact c g.symm
  ·right;rw[if_neg oo];have:k=l.length:=oo;subst this;rw[take_length] at h;exact⟨_,rfl,.inl ⟨rfl,h⟩⟩) 0 ⟨0,oo,rfl,s_⟩
 obtain⟨t,ht,g | g⟩:=this
 ·obtain⟨rfl,g⟩:=g;rw[ht,Ae];simp[g]
 ·obtain⟨rfl,g⟩:=g;rw[ht,Ae];simp[g]
def Acj(l:List Aa)(ids:List Int):Prop:=ids.Nodup/\∀ i∈ids,∃ p∈l,p.Id=i
noncomputable instance(l:List Aa)(ids:List Int):Decidable (Acj l ids):=Classical.propDecidable _
noncomputable def selL(l:List Aa)(ids:List Int):List Aa:=l.filter fun p=>decide (p.Id∈ids)
noncomputable def Al0(l:List Aa)(ids:List Int):List Aa:=Bc Pe (selL l ids)
variable {l:List Aa} {ids:List Int}
theorem Afq(hl:X.Fit l):Al6 l:=⟨hl.id,fun x hx=>by have:=X.okPt_rng (hl.ok x hx);omega⟩
theorem Aup{m:List Aa}(h:Al6 l)(hm:∀ x∈m,x∈l)(hn:(m.map (·.Id)).Nodup):Al6 m:=⟨hn,fun x hx=>h.2 x (hm x hx)⟩
theorem Bd4{out:List Aa}(hl:X.Fit l)(h1:out.map (·.Id)=ids)(h2:∀ p∈out,p∈l)(hn:ids.Nodup):out.Perm (selL l ids):=by
 have hon:out.Nodup:=X.nodup_of_ids (by rw[h1];exact hn);refine (perm_ext_iff_of_nodup hon ((X.nodup_of_ids hl.id).filter _)).2 fun p=>?_
 rw[mem_filter,decide_eq_true_eq];constructor
 ·intro hp;exact⟨h2 p hp,by rw[<- h1];exact mem_map_of_mem hp⟩
 ·rintro⟨hp,hi⟩;rw[<- h1,mem_map] at hi;obtain⟨q,hq,e⟩:=hi;rw[<- Arf hl.id (h2 q hq) hp e];exact hq
theorem Ax9{out:List Aa}(h:Al6 out)(hp:out.Perm (selL l ids)):Bc Pe out=Al0 l ids :=
 Un (totP out) (fun x hx=>⟨hx,h⟩) hp
theorem Aya(hl:X.Fit l):∃ m,lfix (Qn l) (([]:List (Int × Aa)),0)=some m/\Dq m/\∀ x p,mget m x=some p↔p∈l/\p.Id=x:=by
 have hn:=hl.n;refine Be (B:=Qn l) (fun s=>l.length-s.2.toNat) (fun s=>∃ k:Nat,k<=l.length/\s.2=(k:Int)/\Dq s.1/\s.1.length<=k/\∀ x p,mget s.1 x=some p↔p∈l.take k/\p.Id=x) _ (fun s hs=>?_) _ ⟨0,oo,rfl,List.Pairwise.nil,s_,fun x p=>by simp[Aow]⟩;obtain⟨m,j⟩:=s;obtain⟨k,hk,rfl,h1,h2,h3⟩:=hs;dsimp only at h1 h2 h3;unfold Qn;dsimp only
 by_cases hk2:k<l.length
 ·left;have hr:=X.okPt_rng (hl.ok _ (getElem_mem hk2));rw[if_pos oo,As hk2,Ae,gd_t oo,gd_t oo,w1 hk2 oo];refine⟨_,rfl,⟨k+1,hk2,rfl,h1.put _ _,?_,fun x p=>?_⟩,by dsimp only;omega⟩
  ·dsimp only;unfold mput;have:(mdel m l[k].Id).length<=m.length:=length_filter_le _ _;rw[length_cons];omega
  ·dsimp only;rw[Pu h1,take_succ_eq_append_getElem hk2,mem_append,mem_singleton]
   by_cases e:x=l[k].Id
   ·rw[if_pos e];constructor
    ·intro g;cases g
     exact⟨.inr rfl,e.symm⟩
    ·rintro⟨g | g,g2⟩
     ·rw[Arf hl.id (mem_of_mem_take g) (getElem_mem hk2) oo]
     ·rw[g]
   ·rw[if_neg e,h3];constructor
    ·rintro⟨g,g2⟩;exact⟨.inl g,g2⟩
    ·rintro⟨g | g,g2⟩
     ·exact⟨g,g2⟩
     ·rw[g] at g2;exact absurd g2.symm e
 ·right;rw[if_neg oo];have:k=l.length:=oo;subst this;rw[take_length] at h3;exact⟨_,rfl,h1,h3⟩
theorem Ayb(hl:X.Fit l)(hi:ids.length<=300){m:List (Int × Aa)}(hm:Dq m)(hg:∀ x p,mget m x=some p↔p∈l/\p.Id=x)(hr:∀ i∈ids,-9223372036854775808<=i/\i<=9223372036854775807):
  (∃ out:List Aa,lfix (Mj ids) (m,([]:List Aa),0)=some (.inl out)/\out.map (·.Id)=ids/\(∀ p∈out,p∈l)/\Acj l ids)\/(lfix (Mj ids) (m,([]:List Aa),0)=some (.inr ([],false))/\¬ Acj l ids):=by
 have:=Be (B:=Mj ids) (fun s=>ids.length-s.2.2.toNat)
  (fun s=>∃ k:Nat,k<=ids.length/\s.2.2=(k:Int)/\Dq s.1/\s.2.1.map (·.Id)=ids.take k/\(∀ p∈s.2.1,p∈l)/\(ids.take k).Nodup/\∀ x p,mget s.1 x=some p↔p∈l/\p.Id=x/\x ∉ ids.take k)
  (fun t=>(∃ out:List Aa,t = .inl out/\out.map (·.Id)=ids/\(∀ p∈out,p∈l)/\Acj l ids)\/(t = .inr ([],false)/\¬ Acj l ids)) (fun s hs=>by
  obtain⟨m,out,j⟩:=s;obtain⟨k,hk,rfl,h1,h2,h3,h4,h5⟩:=hs;dsimp only at h1 h2 h3 h5;unfold Mj;dsimp only
  by_cases hk2:k<ids.length
  ·have ts:ids.take (k+1)=ids.take k++[ids[k]]:=take_succ_eq_append_getElem hk2;have hl2:out.length=k:=by have:=congrArg List.length h2;rw[length_map,length_take] at this;omega
   have hrk:=hr _ (getElem_mem hk2);rw[if_pos oo,As hk2,Ae,gd_t hrk,Ae];rcases e:mget m ids[k] with _ | p
   ·right;rw[if_neg s_];refine⟨_,rfl,.inr ⟨rfl,fun g=>?_⟩⟩;obtain⟨q,q1,q2⟩:=g.2 _ (getElem_mem hk2);have hno:ids[k] ∉ ids.take k:=fun hin=>by
     obtain⟨i,hi',e'⟩:=getElem_of_mem hin;rw[length_take] at hi';rw[getElem_take] at e';have:=pairwise_iff_getElem.1 g.1 i k oo hk2 oo;exact this e'
    have:=(h5 ids[k] q).2 ⟨q1,q2,hno⟩;rw[e] at this;cases this
   ·left;obtain⟨p1,p2,p3⟩:=(h5 _ _).1 e;rw[if_pos s_,gd_t hrk,gd_t oo,w1 hk2 oo];refine⟨_,rfl,⟨k+1,hk2,rfl,h1.del _,?_,fun q hq=>?_,?_,fun x q=>?_⟩,by dsimp only;omega⟩
    ·dsimp only;rw[map_append,h2,ts];simp[p2]
    ·dsimp only at hq;rcases mem_append.1 hq with hq | hq
     ·exact h3 q hq
     ·rw[mem_singleton] at hq;subst hq;exact p1
    ·rw[ts,nodup_append];refine⟨h4,s_,fun a ha b hb e=>?_⟩;rw[mem_singleton] at hb;subst hb;subst e;exact p3 ha
    ·dsimp only;rw[Vz h1,ts,mem_append,mem_singleton]
     by_cases c:x=ids[k]
     ·rw[if_pos c];exact⟨fun g=>(by cases g),fun g=>absurd (.inr c) g.2.2⟩
     ·rw[if_neg c,h5];exact⟨fun g=>⟨g.1,g.2.1,fun h=>h.elim g.2.2 c⟩,fun g=>⟨g.1,g.2.1,fun h=>g.2.2 (.inl h)⟩⟩
  ·right;rw[if_neg oo];have:k=ids.length:=oo;subst this;rw[take_length] at h2 h4;refine⟨_,rfl,.inl ⟨out,rfl,h2,h3,h4,fun i hi=>?_⟩⟩;rw[<- h2,mem_map] at hi;obtain⟨p,hp,e⟩:=hi;exact⟨p,h3 p hp,e⟩) (m,[],0) ⟨0,oo,rfl,hm,s_,fun p hp=>(by cases hp),s_,fun x p=>by rw[hg];simp⟩
 obtain⟨t,ht,⟨out,rfl,g⟩|⟨rfl,g⟩⟩:=this
 ·exact .inl ⟨out,ht,g⟩
 ·exact .inr ⟨ht,g⟩
theorem Auq(hl:X.Fit l)(hi:ids.length<=300)(hr:∀ i∈ids,-9223372036854775808<=i/\i<=9223372036854775807):Va l ids=some (if Acj l ids then (Al0 l ids,true) else ([],false)):=by
 obtain⟨m,h1,h2,h3⟩:=Aya hl;unfold Va;rw[jn_d,h1,Ae];dsimp only;rw[gd_t oo,jn_d];rcases Ayb hl hi h2 h3 hr with⟨out,g1,g2,g3,g4⟩|⟨g1,g2⟩
 ·rw[g1,Ae];dsimp only;have ho:Al6 out:=Aup (Afq hl) g3 (by rw[g2];exact g4.1);have hlen:out.length=ids.length:=by rw[<- g2,length_map]
  rw[gd_t ⟨oo,fun x hx=>⟨hx,ho⟩⟩,Ax9 ho (Bd4 hl g2 g3 g4.1),if_pos g4]
 ·rw[g1,Ae];dsimp only;rw[if_neg g2]
theorem Ayc(hi:ids.length<=300):(lfix (Hq ids) 0=some (.inl ())/\ids.Nodup)\/(lfix (Hq ids) 0=some (.inr ([],false))/\¬ ids.Nodup):=by
 have:=Be (B:=Hq ids) (fun s=>ids.length-s.toNat) (fun s=>∃ k:Nat,k<=ids.length/\s=(k:Int)/\(ids.take k).Nodup) (fun t=>(t = .inl ()/\ids.Nodup)\/(t = .inr ([],false)/\¬ ids.Nodup)) (fun s hs=>by
  obtain⟨k,hk,rfl,h⟩:=hs;unfold Hq
  by_cases hk2:k<ids.length
  ·have ts:ids.take (k+1)=ids.take k++[ids[k]]:=take_succ_eq_append_getElem hk2;have hsub:subl ids 0 (k:Int)=ids.take k:=by unfold subl;simp
   rw[if_pos oo,gd_t ⟨oo,oo⟩,As hk2,Ae,hsub,has_eq (by rw[length_take];omega),Ae]
   by_cases c:ids[k]∈ids.take k
   ·right;rw[if_pos (by simpa using c)];refine⟨_,rfl,.inr ⟨rfl,fun g=>?_⟩⟩;have h2:(ids.take (k+1)).Nodup:=g.sublist (take_sublist _ _);rw[ts,nodup_append] at h2;exact h2.2.2 _ c _ (mem_singleton.2 rfl) rfl
   ·left;rw[if_neg (by simpa using c),w1 hk2 oo];refine⟨_,rfl,⟨k+1,hk2,rfl,?_⟩,oo⟩;rw[ts,nodup_append];refine⟨h,s_,fun a ha b hb e=>?_⟩;rw[mem_singleton] at hb;subst hb;subst e;exact c ha
  ·right;rw[if_neg oo];have:k=ids.length:=oo;subst this;rw[take_length] at h;exact⟨_,rfl,.inl ⟨rfl,h⟩⟩) 0 ⟨0,oo,rfl,s_⟩
 obtain⟨t,ht,⟨rfl,g⟩|⟨rfl,g⟩⟩:=this
 ·exact .inl ⟨ht,g⟩
 ·exact .inr ⟨ht,g⟩
theorem Ayd(hl:X.Fit l)(hi:ids.length<=300):lfix (Lb l ids) (([]:List Aa),0)=some (selL l ids):=by
 have hn:=hl.n;refine X.lfix_filter l (fun p=>decide (p.Id∈ids)) _ (fun j hj s hs=>?_) (fun s=>?_)
 ·unfold Lb;dsimp only;rw[if_pos oo,jn_d,As hj,Ae,has_eq oo,Ae,Ae,w1 hj oo]
  by_cases c:l[j].Id∈ids
  ·rw[if_pos (by simpa using c),if_pos (by simpa using c),gd_t oo]
  ·rw[if_neg (by simpa using c),if_neg (by simpa using c)]
 ·unfold Lb;dsimp only;rw[if_neg oo]
theorem Ajv{L:List Aa}(hL:X.Fit L):Iy L=some (Bc Pe L):=by
 have hn:=hL.n;have ho:=Afq hL;unfold Iy;rw[X.rids_eq hn,Ae,jn_d];generalize hr:Gf (L.map (·.Id))=r;have hrp:r.Perm (L.map (·.Id)):=by rw[<- hr];exact X.perm_sortI _
 have hrl:r.length=L.length:=by rw[hrp.length_eq,length_map]
 have hrn:r.Nodup:=hrp.nodup_iff.2 hL.id;have hrs:r.Pairwise (· < ·):=by
  have h1:r.Pairwise (·<=·):=by rw[<- hr];exact X.sorted_sortI _
  exact (pairwise_and_iff.2 ⟨h1,hrn⟩).imp fun h=>oo
 have inner:∀ (i:Nat) (hi:i<r.length) (acc:List Aa),acc.length<=1024*i->lfix (Ir L r (acc,(i:Int))) (acc,0)=some (acc++L.filter fun p=>decide (p.Id=r[i])):=fun i hi acc ha=>by
  have:=Be (B:=Ir L r (acc,(i:Int))) (fun s=>L.length-s.2.toNat) (fun s=>∃ k:Nat,k<=L.length/\s=(acc++(L.take k).filter (fun p=>decide (p.Id=r[i])),(k:Int))) (fun t=>t=acc++L.filter fun p=>decide (p.Id=r[i])) (fun s hs=>by
   obtain⟨k,hk,rfl⟩:=hs;unfold Ir;dsimp only
   by_cases hk2:k<L.length
   ·left;have ts:L.take (k+1)=L.take k++[L[k]]:=take_succ_eq_append_getElem hk2;have hf:=length_filter_le (fun p:Aa=>decide (p.Id=r[i])) (L.take k);rw[length_take] at hf;have hi4:i<1024:=oo;rw[if_pos oo,jn_d,As hk2,Ae,As hi,Ae,Ae,w1 hk2 oo]
    by_cases c:L[k].Id=r[i]
    ·rw[if_pos c,gd_t (by rw[length_append];omega)];exact⟨_,rfl,⟨k+1,hk2,by rw[ts,filter_append];simp[c]⟩,by dsimp only;omega⟩
    ·rw[if_neg c];exact⟨_,rfl,⟨k+1,hk2,by rw[ts,filter_append];simp[c]⟩,by dsimp only;omega⟩
   ·right;rw[if_neg oo];have:k=L.length:=oo;subst this;exact⟨_,rfl,by rw[take_length]⟩) (acc,0) ⟨0,oo,s_⟩
  obtain⟨t,ht,rfl⟩:=this;exact ht
 have outer:=Be (B:=Mz r L) (fun s=>r.length-s.2.toNat) (fun s=>∃ k:Nat,k<=r.length/\s=((r.take k).flatMap (fun i=>L.filter fun p=>decide (p.Id=i)),(k:Int))/\s.1.length<=1024*k) (fun t=>t=r.flatMap fun i=>L.filter fun p=>decide (p.Id=i)) (fun s hs=>by
  obtain⟨k,hk,rfl,hb⟩:=hs;dsimp only at hb;unfold Mz;dsimp only
  by_cases hk2:k<r.length
  ·left;have ts:r.take (k+1)=r.take k++[r[k]]:=take_succ_eq_append_getElem hk2;rw[if_pos oo,jn_d,inner k hk2 _ hb,Ae,w1 hk2 oo];refine⟨_,rfl,⟨k+1,hk2,by rw[ts,flatMap_append];simp,?_⟩,by dsimp only;omega⟩;dsimp only;have hf:=length_filter_le (fun p:Aa=>decide (p.Id=r[k])) L;rw[length_append];omega
  ·right;rw[if_neg oo];have:k=r.length:=oo;subst this;exact⟨_,rfl,by rw[take_length]⟩) (([]:List Aa),0) ⟨0,oo,s_,s_⟩
 obtain⟨t,ht,rfl⟩:=outer;rw[ht,Ae];congr 1;have hpw:(r.flatMap fun i=>L.filter fun p=>decide (p.Id=i)).Pairwise fun x y=>x.Id<y.Id:=by
  rw[pairwise_flatMap];refine⟨fun i _=>?_,hrs.imp fun {a b} hab x hx y hy=>?_⟩
  ·refine List.Pairwise.imp_of_mem ?_ ((pairwise_map.1 hL.id).filter _);intro a b ha hb hne;rw[mem_filter,decide_eq_true_eq] at ha hb;exact absurd (ha.2.trans hb.2.symm) hne
  ·rw[mem_filter,decide_eq_true_eq] at hx hy;omega
 have hmem:∀ p,p∈(r.flatMap fun i=>L.filter fun p=>decide (p.Id=i))↔p∈L:=fun p=>by
  rw[mem_flatMap];constructor
  ·rintro⟨i,_,hp⟩;exact (mem_filter.1 hp).1
  ·intro hp;exact⟨p.Id,hrp.mem_iff.2 (mem_map_of_mem hp),mem_filter.2 ⟨hp,s_⟩⟩
 have hnd:(r.flatMap fun i=>L.filter fun p=>decide (p.Id=i)).Nodup:=hpw.imp fun h e=>by rw[e] at h;omega
 refine Acy (totP L) (fun x hx=>⟨(hmem x).1 hx,ho⟩) (hpw.imp fun h=>by unfold Pe;omega) (Nj (totP L) fun x hx=>⟨hx,ho⟩) ?_;exact ((perm_ext_iff_of_nodup hnd (X.nodup_of_ids hL.id)).2 hmem).trans (Ex _ _).symm
theorem Fit.sel(hl:X.Fit l):X.Fit (selL l ids):=hl.filter _
theorem Ba0(hl:X.Fit l)(hi:ids.length<=300):Px l ids=some (if Acj l ids then (Al0 l ids,true) else ([],false)):=by
 unfold Px;rw[jn_d];have hsn:=(Fit.sel (ids:=ids) hl).id;have hsub:∀ i∈(selL l ids).map (·.Id),i∈ids:=fun i hi=>by
  obtain⟨p,hp,rfl⟩:=mem_map.1 hi;exact of_decide_eq_true (mem_filter.1 hp).2
 rcases Ayc hi with⟨g1,g2⟩|⟨g1,g2⟩
 ·rw[g1,Ae];dsimp only;rw[jn_d,Ayd hl hi,Ae];dsimp only;have key:((((selL l ids).length:Nat):Int))=(ids.length:Int)↔Acj l ids:=by
   have h1:=Cf hsn hsub;rw[length_map] at h1;constructor
   ·intro e;refine⟨g2,fun i hi'=>?_⟩;refine Classical.byContradiction fun hno=>?_
    have hni:i ∉ (selL l ids).map (·.Id):=fun h=>by
     obtain⟨p,hp,e2⟩:=mem_map.1 h;exact hno ⟨p,(mem_filter.1 hp).1,e2⟩
    have:=Cf (l:=i::(selL l ids).map (·.Id)) (m:=ids) (nodup_cons.2 ⟨hni,hsn⟩) (fun x hx=>by rcases mem_cons.1 hx with rfl | hx;exact hi';exact hsub x hx);rw[length_cons,length_map] at this;omega
   ·intro ho;have:=Cf (l:=ids) (m:=(selL l ids).map (·.Id)) g2 (fun i hi'=>by
     obtain⟨p,hp,rfl⟩:=ho.2 i hi';exact mem_map_of_mem (mem_filter.2 ⟨hp,by simpa using hi'⟩))
    rw[length_map] at this;omega
  by_cases c:Acj l ids
  ·rw[if_pos (key.2 c),Ajv (Fit.sel hl),Ae,if_pos c];rfl
  ·rw[if_neg (fun h=>c (key.1 h)),if_neg c]
 ·rw[g1,Ae];dsimp only;rw[if_neg (fun h=>g2 h.1)]
def vxL(L:List Aa):List Ad:=L.map fun p=>⟨p.X,p.Y,p.Z⟩
theorem Aq4{L:List Aa}(hn:L.length<=1024):lfix (Ry L) (([]:List Ad),0)=some (vxL L):=by
 have:=Be (B:=Ry L) (fun s=>L.length-s.2.toNat) (fun s=>∃ k:Nat,k<=L.length/\s=(vxL (L.take k),(k:Int))) (fun t=>t=vxL L) (fun s hs=>by
  obtain⟨k,hk,rfl⟩:=hs;unfold Ry;dsimp only
  by_cases hk2:k<L.length
  ·left;rw[if_pos oo,As hk2,Ae,gd_t (by unfold vxL;rw[length_map,length_take];omega),w1 hk2 oo];exact⟨_,rfl,⟨k+1,hk2,by unfold vxL;rw[take_succ_eq_append_getElem hk2,map_append];rfl⟩,by dsimp only;omega⟩
  ·right;rw[if_neg oo];have:k=L.length:=oo;subst this;exact⟨_,rfl,by rw[take_length]⟩) (([]:List Ad),0) ⟨0,oo,rfl⟩
 obtain⟨t,ht,rfl⟩:=this;exact ht
def Mc(L:List Aa):Prop:=L.Pairwise fun p q=>¬ (p.X=q.X/\p.Y=q.Y)
theorem Al1{L:List Aa}(hL:X.Fit L):Vq (vxL L)=0/\Mc L\/Vq (vxL L)=61/\¬ Mc L:=by
 have hn:=hL.n;have h1:¬ 1024<(vxL L).length:=by unfold vxL;rw[length_map];omega
 have h2:∀ x∈vxL L,Lm x:=fun x hx=>by
  unfold vxL at hx;obtain⟨p,hp,rfl⟩:=mem_map.1 hx;have:=X.okPt_rng (hL.ok p hp);unfold Lm okP pP;dsimp only;omega
 have h3:Fe (vxL L)↔Mc L:=by
  unfold Fe Mc vxL;rw[pairwise_map];exact Iff.rfl
 unfold Vq;rw[if_neg h1,if_neg (fun h=>h h2)]
 by_cases c:Mc L
 ·rw[if_neg (fun h=>h (h3.2 c))];exact .inl ⟨rfl,c⟩
 ·rw[if_pos (fun h=>c (h3.1 h))];exact .inr ⟨rfl,c⟩
theorem Ajw{L:List Aa}(hL:X.Fit L):(lfix (Ht L) (([]:List Ad),0)=some (.inl (vxL L))/\Mc L)\/(lfix (Ht L) (([]:List Ad),0)=some (.inr (⟨[],[],[]⟩,11))/\¬ Mc L):=by
 have hn:=hL.n;have inner:∀ (i:Nat) (hi:i<L.length) (acc:List Ad),(lfix (Hr (acc,(i:Int)) L L[i] L[i] L[i]) 0=some (.inl (acc++[(⟨L[i].X,L[i].Y,L[i].Z⟩:Ad)]))/\∀ q∈L.take i,¬ (q.X=L[i].X/\q.Y=L[i].Y)) \/
   (lfix (Hr (acc,(i:Int)) L L[i] L[i] L[i]) 0=some (.inr (⟨[],[],[]⟩,11))/\∃ q∈L.take i,q.X=L[i].X/\q.Y=L[i].Y):=fun i hi acc=>by
  have:=Be (B:=Hr (acc,(i:Int)) L L[i] L[i] L[i]) (fun s=>i-s.toNat) (fun s=>∃ k:Nat,k<=i/\s=(k:Int)/\∀ q∈L.take k,¬ (q.X=L[i].X/\q.Y=L[i].Y))
   (fun t=>(t = .inl (acc++[(⟨L[i].X,L[i].Y,L[i].Z⟩:Ad)])/\∀ q∈L.take i,¬ (q.X=L[i].X/\q.Y=L[i].Y))\/(t = .inr (⟨[],[],[]⟩,11)/\∃ q∈L.take i,q.X=L[i].X/\q.Y=L[i].Y)) (fun s hs=>by
   obtain⟨k,hk,rfl,h⟩:=hs;unfold Hr;dsimp only
   by_cases hk2:k<i
   ·have hkl:k<L.length:=oo;rw[if_pos oo,As hkl,Ae,As hi,Ae,X.apart_eq (hL.ok _ (getElem_mem hkl)) (hL.ok _ (getElem_mem hi)),Ae];have hz:=@X.sq_zero L[k] L[i];have hmem:L[k]∈L.take i:=by
     rw[mem_take_iff_getElem];exact⟨k,oo,rfl⟩
    by_cases c:X.sq L[k] L[i]=0
    ·right;rw[if_pos c];exact⟨_,rfl,.inr ⟨rfl,L[k],hmem,hz.1 oo⟩⟩
    ·left;rw[if_neg c,w1 hk2 oo];refine⟨_,rfl,⟨k+1,hk2,rfl,fun q hq=>?_⟩,oo⟩;rw[take_succ_eq_append_getElem hkl,mem_append,mem_singleton] at hq;rcases hq with hq | rfl
     ·exact h q hq
     ·intro g;have h0:0<=X.sq L[k] L[i]:=by unfold X.sq;rw[<- Int.natAbs_mul_self,<- Int.natAbs_mul_self (a:=L[k].Y-L[i].Y)];omega
      have:=hz.2 g;omega
   ·right;rw[if_neg oo];have:k=i:=oo;subst this;exact⟨.inl (acc++[⟨L[k].X,L[k].Y,L[k].Z⟩]),rfl,.inl ⟨rfl,h⟩⟩) 0 ⟨0,oo,rfl,s_⟩
  obtain⟨t,ht,⟨rfl,g⟩|⟨rfl,g⟩⟩:=this
  ·exact .inl ⟨ht,g⟩
  ·exact .inr ⟨ht,g⟩
 have:=Be (B:=Ht L) (fun s=>L.length-s.2.toNat) (fun s=>∃ k:Nat,k<=L.length/\s=(vxL (L.take k),(k:Int))/\Mc (L.take k))
  (fun t=>(t = .inl (vxL L)/\Mc L)\/(t = .inr (⟨[],[],[]⟩,11)/\¬ Mc L)) (fun s hs=>by
  obtain⟨k,hk,rfl,h⟩:=hs;unfold Ht;dsimp only
  by_cases hk2:k<L.length
  ·have ts:L.take (k+1)=L.take k++[L[k]]:=take_succ_eq_append_getElem hk2;rw[if_pos oo,jn_d,As hk2,Ae,Ae,Ae,gd_t (by unfold vxL;rw[length_map,length_take];omega)];rcases inner k hk2 (vxL (L.take k)) with⟨g1,g2⟩|⟨g1,q,q1,q2⟩
   ·left;rw[g1,Ae];dsimp only;rw[w1 hk2 oo];refine⟨_,rfl,⟨k+1,hk2,by unfold vxL;rw[ts,map_append];rfl,?_⟩,by dsimp only;omega⟩;unfold Mc at h ⊢;rw[ts,pairwise_append];refine⟨h,s_,fun x hx y hy=>?_⟩;rw[mem_singleton] at hy;subst hy;exact g2 x hx
   ·right;rw[g1,Ae];refine⟨_,rfl,.inr ⟨rfl,fun g=>?_⟩⟩;have g':Mc (L.take (k+1)):=List.Pairwise.sublist (take_sublist _ _) g;unfold Mc at g';rw[ts,pairwise_append] at g';exact g'.2.2 q q1 _ (mem_singleton.2 rfl) q2
  ·right;rw[if_neg oo];have:k=L.length:=oo;subst this;rw[take_length] at h;exact⟨_,rfl,.inl ⟨by rw[take_length],h⟩⟩) (([]:List Ad),0) ⟨0,oo,rfl,by simp[Mc]⟩
 obtain⟨t,ht,⟨rfl,g⟩|⟨rfl,g⟩⟩:=this
 ·exact .inl ⟨ht,g⟩
 ·exact .inr ⟨ht,g⟩
theorem Apa{L:List Aa}(hL:X.Fit L):∃ r:Aq × Int,Rz L=some r/\Jf L=some r/\((r.2=0/\Mc L/\r.1.V=vxL L/\r.1.Lines=[]/\Yx (vxL L) r.1.T)\/(r=(⟨[],[],[]⟩,11)/\¬ Mc L)):=by
 have hn:=hL.n;unfold Rz Jf;rw[gd_t oo,jn_d,jn_d,Aq4 hn,Ae];dsimp only;rcases Al1 hL with⟨e,ha⟩|⟨e,ha⟩
 ·obtain⟨T,t1,t2,t3⟩:=Afz e;rcases Ajw hL with⟨g1,_⟩|⟨_,g2⟩
  ·rw[g1,t2,Ae,Ae];dsimp only;rw[if_pos rfl,t1,Ae];exact⟨_,rfl,rfl,.inl ⟨rfl,ha,rfl,rfl,t3⟩⟩
  ·exact absurd ha g2
 ·rcases Ajw hL with⟨_,g2⟩|⟨g1,_⟩
  ·exact absurd g2 ha
  ·rw[g1,Au3 [] oo,Ae,Ae];dsimp only;rw[if_neg oo];exact⟨_,rfl,rfl,.inr ⟨rfl,ha⟩⟩
end Go.Proofs.YthlkpgdfifnagaaGreat
namespace Go.Proofs.YthlkpgdfifnagaaGreat
open Go Go.RowKit List
theorem Anb(a b c p:Ac):crs b c p+crs c a p+crs a b p=crs a b c:=by unfold crs;grind
theorem As7{w0 w1 w2:Int}(n0:0<=w0)(n1:0<=w1)(n2:0<=w2)(hA:w0+w1+w2<=2305843009213693952)(h0:0<w0+w1+w2){p:Ah}(k0:-1099511627776<=p.a0/\p.a0<=1099511627776)(k1:-1099511627776<=p.a1/\p.a1<=1099511627776)(k2:-1099511627776<=p.a2/\p.a2<=1099511627776):
  Kb ⟨w0,w1,w2⟩ p=some ((w0*p.a0+w1*p.a1+w2*p.a2) / (w0+w1+w2),-((-(w0*p.a0+w1*p.a1+w2*p.a2)) / (w0+w1+w2))):=by
 obtain⟨m0,rfl⟩:=Int.eq_ofNat_of_zero_le n0;obtain⟨m1,rfl⟩:=Int.eq_ofNat_of_zero_le n1;obtain⟨m2,rfl⟩:=Int.eq_ofNat_of_zero_le n2;obtain⟨b,hb⟩:∃ b,min (min p.a0 p.a1) p.a2=b:=⟨_,rfl⟩;obtain⟨d0,e0⟩:∃ d:Nat,p.a0=b+d:=⟨(p.a0-b).toNat,oo⟩;obtain⟨d1,e1⟩:∃ d:Nat,p.a1=b+d:=⟨(p.a1-b).toNat,oo⟩;obtain⟨d2,e2⟩:∃ d:Nat,p.a2=b+d:=⟨(p.a2-b).toNat,oo⟩;have h:=Bax (m0:=m0) (m1:=m1) (m2:=m2) (d0:=d0) (d1:=d1) (d2:=d2) (b:=b) (p:=p) oo oo oo oo oo oo oo hb e0 e1 e2;rw[h];have hS:(m0:Int)*p.a0+(m1:Int)*p.a1+(m2:Int)*p.a2=((m0*d0+m1*d1+m2*d2:Nat):Int)+b*((m0+m1+m2:Nat):Int):=by
  rw[e0,e1,e2];push_cast;grind
 have hA2:(m0:Int)+(m1:Int)+(m2:Int)=((m0+m1+m2:Nat):Int):=by push_cast;rfl
 rw[hS,hA2];have hpos:0<m0+m1+m2:=oo;clear hS hA2 h e0 e1 e2 hb n0 n1 n2 hA h0 k0 k1 k2;generalize m0*d0+m1*d1+m2*d2=N at *;generalize m0+m1+m2=A at *;have q1:=Nat.div_add_mod N A;have q2:=Nat.mod_lt N hpos;generalize N / A=q at *;generalize N % A=r at *;have q3:(N:Int)=(A:Int)*(q:Int)+(r:Int):=by rw[<- q1];push_cast;rfl
 have l1:((N:Int)+b*(A:Int)) / (A:Int)=b+(q:Int):=X.ediv_of (r:=(r:Int)) oo (by rw[q3];grind) oo oo
 by_cases hr:0<r
 ·have l2:(-((N:Int)+b*(A:Int))) / (A:Int) = -(b+(q:Int)+1):=X.ediv_of (r:=(A:Int)-(r:Int)) oo (by rw[q3];grind) oo oo;rw[l1,l2,if_pos hr,Int.neg_neg]
 ·have l2:(-((N:Int)+b*(A:Int))) / (A:Int) = -(b+(q:Int)):=X.ediv_of (r:=0) oo (by rw[q3,show r=0 by omega];grind) oo oo;rw[l1,l2,if_neg hr,Int.neg_neg,Int.add_zero]
def zV(v:List Ad)(i:Int):Aw:=match idx v i with
 | some x=>x.Z
 | none=>⟨0,0⟩
def covT(v:List Ad)(at_:Ac)(t:Ah):Bool:=decide (0<=crs (plV v t.a0) (plV v t.a1) at_/\0<=crs (plV v t.a1) (plV v t.a2) at_/\0<=crs (plV v t.a2) (plV v t.a0) at_)
def Oo(v:List Ad)(t:Ah):Int:=crs (plV v t.a0) (plV v t.a1) (plV v t.a2)
def wsum(v:List Ad)(at_:Ac)(t:Ah)(f:Aw->Int):Int :=
 crs (plV v t.a1) (plV v t.a2) at_*f (zV v t.a0)+crs (plV v t.a2) (plV v t.a0) at_*f (zV v t.a1)+crs (plV v t.a0) (plV v t.a1) at_*f (zV v t.a2)
def bndT(v:List Ad)(at_:Ac)(t:Ah):Aw:=⟨wsum v at_ t (·.Lo) / Oo v t,-((-(wsum v at_ t (·.Hi))) / Oo v t)⟩
def locT(v:List Ad)(T:List Ah)(at_:Ac):Option Nat:=T.findIdx? (covT v at_)
def gapI(a b:Aw):Int:=max (max 0 (a.Lo-b.Hi)) (b.Lo-a.Hi)
def Anc(v:List Ad)(r:Ag)(p:Aa)(k:Int):Bool :=
 decide (gapI p.Z (zV v k)*gapI p.Z (zV v k)*1000000<=r.Slope*r.Slope*((p.X-(plV v k).X)*(p.X-(plV v k).X)+(p.Y-(plV v k).Y)*(p.Y-(plV v k).Y)))
def fitV(v:List Ad)(T:List Ah)(r:Ag)(p:Aa):Int × Bool × Int:=match locT v T (X.plF p) with
 | none=>(-1,false,0)
 | some i=>match idx T (i:Int) with
  | none=>(-1,false,0)
  | some t=>
   if r.Reach<gapI p.Z (bndT v (X.plF p) t) then ((i:Int),false,0) else
   if Anc v r p t.a0=true/\Anc v r p t.a1=true/\Anc v r p t.a2=true then ((i:Int),true,gapI p.Z (bndT v (X.plF p) t)) else ((i:Int),false,0)
theorem Al2{α:Type}(l:List α)(p:α->Bool)(B:Int->Option (Sum Int (Sum Unit Int)))(h1:∀ (j:Nat) (h:j<l.length),B j=if p l[j]=true then some (.inr (.inr (j:Int))) else some (.inl ((j+1:Nat):Int)))(h2:B l.length=some (.inr (.inl ()))):
  lfix B 0=some (match l.findIdx? p with | some i=>.inr (i:Int) | none=>.inl ()):=by
 have key:∀ (m k:Nat),k<=l.length->l.length-k=m->(∀ j (hj:j<l.length),j<k->p l[j]=false)->lfix B k=some (match l.findIdx? p with | some i=>.inr (i:Int) | none=>.inl ()):=by
  intro m
  induction m with
  | zero=>
   intro k hk hm hf;obtain rfl:k=l.length:=oo;rw[Ba,h2];have:l.findIdx? p=none:=by
    rw[List.findIdx?_eq_none_iff];intro x hx;obtain⟨j,hj,rfl⟩:=getElem_of_mem hx;exact hf j hj hj
   rw[this]
  | succ m ih=>
   intro k hk hm hf;have hlt:k<l.length:=oo;rw[Ba,h1 k hlt]
   by_cases hp:p l[k]=true
   ·rw[if_pos hp];have:l.findIdx? p=some k:=by
     rw[List.findIdx?_eq_some_iff_getElem];exact⟨hlt,hp,fun j hj=>by rw[hf j oo hj];simp⟩
    rw[this]
   ·rw[if_neg hp];refine ih (k+1) oo oo fun j hj hjk=>?_
    by_cases e:j=k
    ·subst e;exact Bool.eq_false_iff.2 hp
    ·exact hf j hj oo
 exact key l.length 0 (Nat.zero_le _) rfl (fun j _ h=>absurd h oo)
theorem Apb{l:List Int}(hl:l.length<=1000000)(n:Int):Cx l n=some (decide (n∈l)):=by
 unfold Cx Iz;rw[jn_d,Al2 l (fun x=>decide (n=x)) (Dy l n) (fun j hj=>?_) ?_,Ae]
 ·cases e:l.findIdx? (fun x=>decide (n=x)) with
  | none=>
   dsimp only;rw[List.findIdx?_eq_none_iff] at e;rw[Ae];have:n ∉ l:=fun h=>by simpa using e n h
   simp[this]
  | some i=>
   dsimp only;rw[List.findIdx?_eq_some_iff_getElem] at e;obtain⟨hi,h,_⟩:=e;rw[Ae];have:n∈l:=by
    rw[decide_eq_true_eq] at h;rw[h];exact getElem_mem hi
   simp[this]
 ·unfold Dy;rw[if_neg oo]
 ·unfold Dy;rw[if_pos oo,As hj,Ae,w1 hj oo];simp only[decide_eq_true_eq]
structure Msh(m:Aq):Prop where
 n:m.V.length<=1024
 ok:∀ x∈m.V,Lm x
 len:m.T.length<=1152921504606846976
 t:∀ t∈m.T,inN m.V.length t.a0/\inN m.V.length t.a1/\inN m.V.length t.a2/\0<Oo m.V t
theorem Jw{n:Nat}{i:Int}(h:inN n i):∃ k:Nat,i=(k:Int)/\k<n:=⟨i.toNat,by unfold inN at h;omega,by unfold inN at h;omega⟩
theorem Apc{v:List Ad}{k:Nat}(hk:k<v.length):zV v (k:Int)=v[k].Z:=by unfold zV;rw[As hk]
theorem Hx{v:List Ad}(h:∀ x∈v,Lm x){i:Int}(hi:inN v.length i):okP (plV v i)/\-268435456<=(zV v i).Lo/\(zV v i).Lo<=(zV v i).Hi/\(zV v i).Hi<=268435456:=by
 obtain⟨k,rfl,hk⟩:=Jw hi;rw[Abb hk,Apc hk];exact h _ (getElem_mem hk)
theorem Xj{a b c:Ac}(ha:okP a)(hb:okP b)(hc:okP c):Fg a b c=some (crs a b c):=by
 have h0:=Ha ha hb hc;unfold okP at ha hb hc;have h1:=mulB (x:=b.X-a.X) (y:=c.Y-a.Y) (M:=536870912) (N:=536870912) oo oo oo oo oo;have h2:=mulB (x:=b.Y-a.Y) (y:=c.X-a.X) (M:=536870912) (N:=536870912) oo oo oo oo oo;unfold Fg;unfold crs at h0 ⊢;rw[Av (x:=b.X-a.X) oo oo,Av (x:=c.Y-a.Y) oo oo,Av (x:=b.Y-a.Y) oo oo,Av (x:=c.X-a.X) oo oo,
  Av (x:=(b.X-a.X)*(c.Y-a.Y)) oo oo,Av (x:=(b.Y-a.Y)*(c.X-a.X)) oo oo,Av oo oo]
section
variable {m:Aq} (h:Msh m)
include h
theorem Ajx{i:Nat}(hi:i<m.T.length):Jg m (i:Int)=some ⟨plV m.V m.T[i].a0,plV m.V m.T[i].a1,plV m.V m.T[i].a2⟩:=by
 obtain⟨h0,h1,h2,_⟩:=h.t _ (getElem_mem hi);obtain⟨a,ea,ha⟩:=Jw h0;obtain⟨b,eb,hb⟩:=Jw h1;obtain⟨c,ec,hc⟩:=Jw h2;unfold Jg Qq;rw[As hi,Ae,ea,eb,ec,As ha,Ae,Ae,As hb,Ae,Ae,As hc,Ae,Ae,Abb ha,Abb hb,Abb hc];rfl
theorem Aur{p:Ac}(hp:okP p):Rs m p=some (match locT m.V m.T p with | some i=>(i:Int) | none=>-1):=by
 unfold Rs;have hl:=h.len;rw[jn_d,Al2 m.T (covT m.V p) (Na m p) (fun j hj=>?_) ?_,Ae]
 ·unfold locT;cases m.T.findIdx? (covT m.V p) <;> rfl
 ·unfold Na;rw[if_neg oo]
 ·obtain⟨h0,h1,h2,_⟩:=h.t _ (getElem_mem hj);have q0:=(Hx h.ok h0).1;have q1:=(Hx h.ok h1).1;have q2:=(Hx h.ok h2).1;unfold Na;rw[if_pos oo,Ajx h hj,Ae,jn_d,Az oo];dsimp only;rw[Xj q0 q1 hp,Ae];unfold covT
  by_cases c1:0<=crs (plV m.V m.T[j].a0) (plV m.V m.T[j].a1) p
  ·rw[if_pos c1,Xj q1 q2 hp,Ae]
   by_cases c2:0<=crs (plV m.V m.T[j].a1) (plV m.V m.T[j].a2) p
   ·rw[if_pos c2,Xj q2 q0 hp,Ae]
    by_cases c3:0<=crs (plV m.V m.T[j].a2) (plV m.V m.T[j].a0) p
    ·simp[c1,c2,c3]
    ·simp[c1,c2,c3]
   ·rw[if_neg c2,if_neg s_,if_neg (by simp[c2])]
  ·rw[if_neg c1,if_neg s_,if_neg (by simp[c1])]
theorem Aus{p:Ac}(hp:okP p){i:Nat}(hi:i<m.T.length)(hc:covT m.V p m.T[i]=true):Oi m (i:Int) p=some (bndT m.V p m.T[i]):=by
 obtain⟨h0,h1,h2,hpos⟩:=h.t _ (getElem_mem hi);obtain⟨q0,z0⟩:=Hx h.ok h0;obtain⟨q1,z1⟩:=Hx h.ok h1;obtain⟨q2,z2⟩:=Hx h.ok h2;have hs:=Anb (plV m.V m.T[i].a0) (plV m.V m.T[i].a1) (plV m.V m.T[i].a2) p;have hb:=Ha q0 q1 q2;unfold Oo at hpos;unfold covT at hc;rw[decide_eq_true_eq] at hc;obtain⟨a,ea,ha⟩:=Jw h0;obtain⟨b,eb,hb'⟩:=Jw h1;obtain⟨c,ec,hc'⟩:=Jw h2;unfold Oi;rw[Ajx h hi,Ae,jn_d];dsimp only;rw[Xj q1 q2 hp,Ae,Xj q2 q0 hp,Ae,Xj q0 q1 hp,Ae,As hi,Ae,jn_d,ea,As ha,Ae,Ae];dsimp only;rw[jn_d,eb,As hb',Ae,Ae];dsimp only;rw[jn_d,ec,As hc',Ae,Ae];dsimp only;rw[<- ea,<- eb,<- ec];have ga:zV m.V m.T[i].a0=m.V[a].Z:=by rw[ea,Apc ha]
 have gb:zV m.V m.T[i].a1=m.V[b].Z:=by rw[eb,Apc hb']
 have gc:zV m.V m.T[i].a2=m.V[c].Z:=by rw[ec,Apc hc']
 rw[ga] at z0;rw[gb] at z1;rw[gc] at z2;rw[As7 oo oo oo oo oo (by dsimp only;omega) (by dsimp only;omega) (by dsimp only;omega),Ae,
  As7 oo oo oo oo oo (by dsimp only;omega) (by dsimp only;omega) (by dsimp only;omega),Ae]
 unfold bndT wsum Oo;rw[ga,gb,gc,hs]
theorem Ajy{p:Ac}{t:Ah}(ht:t∈m.T)(hc:covT m.V p t=true):-268435456<=(bndT m.V p t).Lo/\(bndT m.V p t).Lo<=(bndT m.V p t).Hi/\(bndT m.V p t).Hi<=268435456:=by
 obtain⟨h0,h1,h2,hpos⟩:=h.t _ ht;obtain⟨q0,z0⟩:=Hx h.ok h0;obtain⟨q1,z1⟩:=Hx h.ok h1;obtain⟨q2,z2⟩:=Hx h.ok h2;have hs:=Anb (plV m.V t.a0) (plV m.V t.a1) (plV m.V t.a2) p;unfold Oo at hpos;unfold covT at hc;rw[decide_eq_true_eq] at hc;unfold bndT wsum Oo;dsimp only;rw[<- hs];rw[<- hs] at hpos;obtain⟨n0,n1,n2⟩:=hc;generalize crs (plV m.V t.a1) (plV m.V t.a2) p=w0 at *;generalize crs (plV m.V t.a2) (plV m.V t.a0) p=w1 at *;generalize crs (plV m.V t.a0) (plV m.V t.a1) p=w2 at *;generalize zV m.V t.a0=s0 at *;generalize zV m.V t.a1=s1 at *;generalize zV m.V t.a2=s2 at *;have a0:=Int.mul_le_mul_of_nonneg_left (show -268435456<=s0.Lo by omega) n1;have a1:=Int.mul_le_mul_of_nonneg_left (show -268435456<=s1.Lo by omega) n2;have a2:=Int.mul_le_mul_of_nonneg_left (show -268435456<=s2.Lo by omega) n0;have b0:=Int.mul_le_mul_of_nonneg_left (show s0.Hi<=268435456 by omega) n1;have b1:=Int.mul_le_mul_of_nonneg_left (show s1.Hi<=268435456 by omega) n2;have b2:=Int.mul_le_mul_of_nonneg_left (show s2.Hi<=268435456 by omega) n0;have c0:=Int.mul_le_mul_of_nonneg_left (show s0.Lo<=s0.Hi by omega) n1;have c1:=Int.mul_le_mul_of_nonneg_left (show s1.Lo<=s1.Hi by omega) n2;have c2:=Int.mul_le_mul_of_nonneg_left (show s2.Lo<=s2.Hi by omega) n0;generalize w0*s0.Lo=x0 at *;generalize w1*s1.Lo=x1 at *;generalize w2*s2.Lo=x2 at *;generalize w0*s0.Hi=y0 at *;generalize w1*s1.Hi=y1 at *;generalize w2*s2.Hi=y2 at *;generalize hA:w0+w1+w2=A at *;have e1:-268435456<=(x0+x1+x2) / A:=Int.le_ediv_of_mul_le hpos oo;have e2:-268435456<=(-(y0+y1+y2)) / A:=Int.le_ediv_of_mul_le hpos oo;have g1:=Int.mul_ediv_self_le (x:=x0+x1+x2) (k:=A) oo;have g2:=Int.mul_ediv_self_le (x:=-(y0+y1+y2)) (k:=A) oo;refine⟨e1,?_,oo⟩;refine Int.not_lt.1 fun hlt=>?_
 have g3:=Int.mul_le_mul_of_nonneg_left (show -((-(y0+y1+y2)) / A)+1<=(x0+x1+x2) / A by omega) (show 0<=A by omega);rw[Int.mul_add,Int.mul_neg,Int.mul_one] at g3;omega
end
theorem Aut(p:Aa):Ci p=some (X.plF p):=rfl
theorem Ajz{p:Aa}(hp:X.okPt p=true):okP (X.plF p):=by
 have:=X.okPt_rng hp;unfold okP X.plF;dsimp only;omega
theorem Bd5{a b:Aw}(ha:-268435456<=a.Lo/\a.Lo<=a.Hi/\a.Hi<=268435456)(hb:-268435456<=b.Lo/\b.Lo<=b.Hi/\b.Hi<=268435456):Zx a b=some (gapI a b)/\0<=gapI a b/\gapI a b<=536870912:=by
 unfold Zx gapI;rw[Av (x:=a.Lo-b.Hi) oo oo,Av (x:=b.Lo-a.Hi) oo oo];exact⟨rfl,oo,oo⟩
section
variable {m:Aq} (h:Msh m) {p:Aa} (hp:X.okPt p=true) {r:Ag} (hr:X.okRules r=true)
include h hp hr
end
theorem Auu{n:Nat}{T:List Ah}(hnd:T.Nodup)(h:∀ t∈T,inN n t.a0/\inN n t.a1/\inN n t.a2):T.length<=n*n*n:=by
 have h1:(T.map fun t=>((t.a0.toNat*n+t.a1.toNat)*n+t.a2.toNat)).Nodup:=by
  unfold List.Nodup;rw[pairwise_map];refine List.Pairwise.imp_of_mem ?_ hnd;intro x y hx hy hne e;obtain⟨x0,x1,x2⟩:=h x hx;obtain⟨y0,y1,y2⟩:=h y hy;unfold inN at x0 x1 x2 y0 y1 y2;have e2:x.a2.toNat=y.a2.toNat:=by
   have:=congrArg (· % n) e;simp only[Nat.mul_add_mod_self_right] at this
   rwa [Nat.mod_eq_of_lt oo,Nat.mod_eq_of_lt oo] at this
  have e':x.a0.toNat*n+x.a1.toNat=y.a0.toNat*n+y.a1.toNat:=by
   rw[e2] at e;exact Nat.eq_of_mul_eq_mul_right (show 0<n by omega) oo
  have e1:x.a1.toNat=y.a1.toNat:=by
   have:=congrArg (· % n) e';simp only[Nat.mul_add_mod_self_right] at this
   rwa [Nat.mod_eq_of_lt oo,Nat.mod_eq_of_lt oo] at this
  have e0:x.a0.toNat=y.a0.toNat:=by
   rw[e1] at e';exact Nat.eq_of_mul_eq_mul_right (show 0<n by omega) oo
  apply hne;obtain⟨xa,xb,xc⟩:=x;obtain⟨ya,yb,yc⟩:=y;simp only at *;rw[show xa=ya by omega,show xb=yb by omega,show xc=yc by omega]
 have:=Cf (m:=List.range (n*n*n)) h1 fun x hx=>by
  obtain⟨t,ht,rfl⟩:=mem_map.1 hx;obtain⟨t0,t1,t2⟩:=h t ht;unfold inN at t0 t1 t2;rw[mem_range];have a1:=Nat.mul_le_mul_right n (show t.a0.toNat+1<=n by omega);have a2:=Nat.mul_le_mul_right n (show t.a0.toNat*n+t.a1.toNat+1<=n*n by rw[Nat.add_mul] at a1;omega);rw[Nat.add_mul,Nat.one_mul] at a2;omega
 rwa [length_map,length_range] at this
theorem Aye{L:List Aa}(hL:X.Fit L):∀ x∈vxL L,Lm x:=fun x hx=>by
 unfold vxL at hx;obtain⟨p,hp,rfl⟩:=mem_map.1 hx;have:=X.okPt_rng (hL.ok p hp);unfold Lm okP pP;dsimp only;omega
theorem Aq5{L:List Aa}(hL:X.Fit L){m:Aq}(hv:m.V=vxL L)(ht:Yx (vxL L) m.T):Msh m:=by
 have hn:=hL.n;have hlen:m.V.length<=1024:=by rw[hv];unfold vxL;rw[length_map];exact hn
 have hin:∀ t∈m.T,inN m.V.length t.a0/\inN m.V.length t.a1/\inN m.V.length t.a2/\0<Oo m.V t:=fun t h=>by
  rw[hv];obtain⟨_,_,d0,d1,d2,d3,_⟩:=(ht.mem t).1 h;exact⟨d0,d1,d2,d3⟩
 refine⟨hlen,by rw[hv];exact Aye hL,?_,hin⟩;have:=Auu ht.nd (fun t h=>⟨(hin t h).1,(hin t h).2.1,(hin t h).2.2.1⟩);have h1:=Nat.mul_le_mul hlen hlen;have h2:=Nat.mul_le_mul h1 hlen;omega
end Go.Proofs.YthlkpgdfifnagaaGreat
namespace Go.Proofs.YthlkpgdfifnagaaGreat
open Go Go.RowKit Go.Sort List
structure Ctx(l:List Aa)(r:Ag)(C:List Aa):Prop where
 val:X.validL l=true
 rul:X.okRules r=true
 few:l.length<=300
 perm:C.Perm (X.candL l r)
structure GOk(C:List Aa)(g:List Int):Prop where
 nd:g.Nodup
 src:∀ i∈g,∃ p∈C,p.Id=i
theorem Fit.pick{l:List Aa}{ids:List Int}(hl:X.Fit l):X.Fit (Al0 l ids):=(Fit.sel hl).perm (Ex _ _).symm
section
variable {l:List Aa} {r:Ag} {C:List Aa} (hc:Ctx l r C)
include hc
variable {g:List Int} (hg:GOk C g)
include hg
end
structure GSel(l:List Aa)(g:List Int):Prop where
 sel:Acj l g
 apart:Mc (Al0 l g)
section
variable {l:List Aa} {r:Ag} {C:List Aa} (hc:Ctx l r C) {g:List Int} (hg:GSel l g)
include hg
include hc
end
noncomputable def Bcf(l:List Aa)(g:List Int):Aq:=match Mk l g with
 | some r=>r.1
 | none=>⟨[],[],[]⟩
noncomputable def gFit(l:List Aa)(r:Ag)(g:List Int):FitF:=fitV (Bcf l g).V (Bcf l g).T r
section
variable {l:List Aa} {r:Ag} {C:List Aa} (hc:Ctx l r C) {g:List Int} (hg:GSel l g)
include hc hg
end
section
variable {l:List Aa} {r:Ag} {C:List Aa} (hc:Ctx l r C) {g:List Int} (hg:GOk C g)
include hc hg
end
structure Grnd(l:List Aa)(r:Ag)(C:List Aa)(g:List Int):Prop where
 ok:GOk C g
 srt:g.Pairwise (·<=·)
 seed:∀ i∈X.seedL l r,i∈g
 again:Be9 g (gFit l r g) C=g
 stop:Bcb g (gFit l r g) C=[]
section
variable {l:List Aa} {r:Ag} {C:List Aa} (hc:Ctx l r C)
include hc
end
end Go.Proofs.YthlkpgdfifnagaaGreat
namespace Go.Proofs.YthlkpgdfifnagaaGreat.X
open Go Go.RowKit List
end Go.Proofs.YthlkpgdfifnagaaGreat.X
namespace Go.Proofs.YthlkpgdfifnagaaGreat
open Go Go.RowKit Go.Sort List
def Ayf(l:List Aa)(r:Ag)(n:Nat):Prop:=l.length<=n/\X.validL l=true/\X.okRules r=true
instance(l:List Aa)(r:Ag)(n:Nat):Decidable (Ayf l r n):=by unfold Ayf;infer_instance
section
variable {l:List Aa} {r:Ag} {C:List Aa} (hc:Ctx l r C) {g:List Int} (hg:Grnd l r C g)
include hc
include hg
end
section
variable {l:List Aa} {r:Ag} {C:List Aa} (hc:Ctx l r C)
include hc
end
def Afr(v:List Ad)(T:List Ah)(p:Aa):Option Aw:=match locT v T (X.plF p) with
 | none=>none
 | some i=>match idx T (i:Int) with
  | none=>none
  | some t=>some ⟨p.Z.Lo-(bndT v (X.plF p) t).Hi,p.Z.Hi-(bndT v (X.plF p) t).Lo⟩
section
variable {m:Aq} (h:Msh m) {p:Aa} (hp:X.okPt p=true)
include h hp
theorem Ba1:Vo m p=some (match Afr m.V m.T p with | some s=>(s,true) | none=>(⟨0,0⟩,false)):=by
 have hpp:=X.okPt_rng hp;have hq:=Ajz hp;unfold Vo;rw[Aut,Ae,Aur h hq,Ae];unfold Afr;cases e:locT m.V m.T (X.plF p) with
 | none=>rfl
 | some i=>
  dsimp only;have e':=e;unfold locT at e';rw[List.findIdx?_eq_some_iff_getElem] at e';obtain⟨hi,hc,_⟩:=e';have hb:=Ajy h (getElem_mem hi) hc;rw[if_neg oo,Ae,Aus h hq hi hc,Ae,As hi,Av oo oo,Av oo oo]
end
def Wi(m:Aq)(g:List Int)(r:Ag)(p:Aa):Bool:=decide (p.Of=1/\p.Id ∉ g) && match Afr m.V m.T p with
 | some s=>decide (r.Tall<=s.Lo/\s.Lo<=r.High)
 | none=>false
noncomputable def Fm(l:List Aa)(m:Aq)(g:List Int)(r:Ag):List Aa:=Bc Pe (X.bot X.plF ((X.dryL l r).filter (Wi m g r)))
theorem Aq6{l:List Aa}(hf:X.Fit l):∃ L,L.Perm (X.bot X.plF l)/\Us Ci l=some L:=by
 obtain⟨L,h1,h2⟩:=X.lowest_eq X.plF Ci Ajb l [] hf.n hf.id (fun p hp=>⟨rfl,by have:=X.okPt_rng (hf.ok p hp);simp only[X.plF];omega⟩);refine⟨L,h1,?_⟩;have hlen:L.length<=1024:=by rw[h1.length_eq];exact Nat.le_trans (length_filter_le _ _) hf.n
 unfold Us;rw[h2,X.foldlM_stepC L [] (by simpa using hlen)];rfl
theorem Fit.bot{l:List Aa}(h:X.Fit l):X.Fit (X.bot X.plF l):=h.filter _
section
variable {l:List Aa} {r:Ag} (hl:X.validL l=true) (hr:X.okRules r=true) {m:Aq} (h:Msh m) {g:List Int} (hg:g.length<=1000000)
theorem Agq(hl:X.validL l=true):X.Fit (Fm l m g r):=(Fit.bot (((X.Fit.of hl).filter _).filter _)).perm (Ex _ _).symm
theorem Auv{p:Aa}(hp:p∈Fm l m g r):p∈l/\X.sunkB l r p=false/\p.Of=1/\p.Id ∉ g/\∃ s,Afr m.V m.T p=some s/\r.Tall<=s.Lo/\s.Lo<=r.High:=by
 have h1:=(X.mem_bot.1 (Nk.1 hp)).1;rw[mem_filter] at h1;obtain⟨h2,h3⟩:=h1;unfold X.dryL at h2;rw[mem_filter] at h2;unfold Wi at h3;rw[Bool.and_eq_true,decide_eq_true_eq] at h3;refine⟨h2.1,by simpa using h2.2,h3.1.1,h3.1.2,?_⟩;cases e:Afr m.V m.T p with
 | none=>rw[e] at h3;cases h3.2
 | some s=>rw[e] at h3;exact⟨s,rfl,by simpa using h3.2⟩
theorem Apd(hl:X.validL l=true):Mc (Fm l m g r):=by
 have hf:=(Agq (m:=m) (g:=g) (r:=r) hl).id;rw[List.Nodup,pairwise_map] at hf;unfold Mc;refine List.Pairwise.imp_of_mem ?_ hf;intro a b ha hb hne e;obtain⟨a1,a2⟩:=X.mem_bot.1 (Nk.1 ha);obtain⟨b1,b2⟩:=X.mem_bot.1 (Nk.1 hb);have e':X.plF a=X.plF b:=by unfold X.plF;rw[e.1,e.2]
 exact hne (X.lowB_total (b2 a a1 e') (a2 b b1 e'.symm))
include hl hr h hg
theorem Ba2:Vp l m g r=some (Fm l m g r):=by
 have hF:=X.Fit.of hl;have hn:=hF.n;have hd:X.Fit (X.dryL l r):=hF.filter _;have hdn:=hd.n;obtain⟨L,h1,h2⟩:=Aq6 (hd.filter (Wi m g r));have hL:X.Fit L:=(Fit.bot (hd.filter _)).perm h1.symm;have hLn:=hL.n;unfold Vp;rw[X.parted_eq hl hr,Ae,jn_d,X.lfix_filter (X.dryL l r) (Wi m g r) (Tb (X.dryL l r,X.sunkL l r) m r g) (fun j hj s hs=>?_) (fun s=>?_),Ae]
 ·dsimp only;rw[h2,Ae,gd_t ⟨oo,fun x hx=>⟨hx,Afq hL⟩⟩];unfold Fm;rw[Un (totP L) (fun x hx=>⟨hx,Afq hL⟩) h1]
 ·unfold Tb;dsimp only;rw[if_pos oo,jn_d,As hj,Ae,jn_d,Az oo];have hp:=hd.ok _ (getElem_mem hj);have hrr:=X.okRules_rng hr;generalize (X.dryL l r)[j]=p at *
  by_cases c:p.Of=1
  ·rw[if_pos c,Apb hg,Ae];dsimp only
   by_cases c2:p.Id∈g
   ·have hv:Wi m g r p=false:=by unfold Wi;rw[decide_eq_false (fun h:p.Of=1/\p.Id ∉ g=>h.2 c2)];rfl
    rw[if_pos (decide_eq_true c2),hv];rfl
   ·rw[if_neg (by simpa using c2),Ba1 h hp,Ae,jn_d];cases e:Afr m.V m.T p with
    | none=>
     have hv:Wi m g r p=false:=by unfold Wi;rw[e,Bool.and_false]
     rw[hv];rfl
    | some z=>
     have hv:Wi m g r p=decide (r.Tall<=z.Lo/\z.Lo<=r.High):=by unfold Wi;rw[decide_eq_true (⟨c,c2⟩:p.Of=1/\p.Id ∉ g),Bool.true_and,e]
     dsimp only;rw[if_pos rfl,X.within_eq,Ae,gd_t oo,hv]
     by_cases c3:r.Tall<=z.Lo/\z.Lo<=r.High
     ·rw[decide_eq_true c3];rfl
     ·rw[decide_eq_false c3];rfl
  ·have hv:Wi m g r p=false:=by unfold Wi;rw[decide_eq_false (fun h:p.Of=1/\p.Id ∉ g=>c h.1)];rfl
   rw[if_neg c,hv];rfl
 ·unfold Tb;dsimp only;rw[if_neg oo]
end
def UF(s:List Int):Prop:=∀ k (hk:k<s.length),0<=s[k]/\s[k]<=(k:Int)
theorem UF.set{s:List Int}(hu:UF s){a b:Nat}(h:b<=a):UF (setI s (a:Int) (b:Int)):=by
 rw[Mv];intro k hk;rw[length_set] at hk;rw[getElem_set]
 by_cases c:a=k
 ·rw[if_pos c];omega
 ·rw[if_neg c];exact hu k hk
section
variable {L:List Aa} {r:Ag} (hL:X.Fit L) (hr:X.okRules r=true)
include hL hr
end
def Jx{α:Type}(p:Nat->Bool)(l:List α):List α:=(l.zipIdx.filter fun x=>p x.2).map (·.1)
theorem Aba{α:Type}{p:Nat->Bool}{l:List α}{k:Nat}(hk:k<l.length):Jx p (l.take (k+1))=if p k=true then Jx p (l.take k)++[l[k]] else Jx p (l.take k):=by
 unfold Jx;rw[take_succ_eq_append_getElem hk,zipIdx_append,filter_append,map_append,length_take,Nat.min_eq_left oo];simp only[zipIdx_cons,zipIdx_nil,Nat.zero_add]
 by_cases c:p k=true
 ·rw[if_pos c,filter_cons_of_pos (by simpa using c)];rfl
 ·rw[if_neg c,filter_cons_of_neg (by simpa using c)];simp
theorem Ape{α:Type}{p:Nat->Bool}{l:List α}{x:α}(h:x∈Jx p l):x∈l:=by
 unfold Jx at h;obtain⟨y,hy,rfl⟩:=mem_map.1 h;exact fst_mem_of_mem_zipIdx (mem_filter.1 hy).1
theorem Ack{α:Type}(p:Nat->Bool)(l:List α):(Jx p l).length<=l.length:=by
 unfold Jx;rw[length_map];have:=length_filter_le (fun x:α × Nat=>p x.2) l.zipIdx;rw[length_zipIdx] at this;exact this
theorem Afs{α:Type}(l:List α)(p:Nat->Bool)(B:List α × Int->Option (Sum (List α × Int) (List α)))(h1:∀ (j:Nat) (hj:j<l.length) (s:List α),s.length<=j->B (s,(j:Int))=some (.inl (if p j=true then s++[l[j]] else s,((j+1:Nat):Int))))(h2:∀ s,B (s,(l.length:Int))=some (.inr s)):lfix B ([],0)=some (Jx p l):=by
 have key:∀ (m k:Nat),k<=l.length->l.length-k=m->lfix B (Jx p (l.take k),(k:Int))=some (Jx p l):=by
  intro m
  induction m with
  | zero=>
   intro k hk hm;obtain rfl:k=l.length:=oo;rw[Ba,h2,take_length]
  | succ m ih=>
   intro k hk hm;have hlt:k<l.length:=oo;have:=Ack p (l.take k);rw[length_take] at this;rw[Ba,h1 k hlt _ oo];dsimp only;rw[<- Aba hlt];exact ih (k+1) oo oo
 exact key l.length 0 (Nat.zero_le _) rfl
def Ahi(G S:List Int)(r:Ag)(j:Nat):Bool:=match idx G (j:Int) with
 | some x=>(match idx S x with
  | some z=>decide (r.Few<=z)
  | none=>false)
 | none=>false
end Go.Proofs.YthlkpgdfifnagaaGreat
