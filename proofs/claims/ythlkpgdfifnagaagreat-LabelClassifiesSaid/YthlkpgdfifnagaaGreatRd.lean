import Derived.Test.YthlkpgdfifnagaaGreatI17
import Derived.Test.YthlkpgdfifnagaaGreatRows
import Derived.ProofKit
import Derived.OpenShut
import Derived.ShutString
import Derived.ChangeOld
import Derived.Below
import Derived.Carry
import Derived.ChangeArms
import Derived.Deep.Slices
set_option maxRecDepth 100000
set_option maxHeartbeats 1000000
namespace Go.Proofs.YthlkpgdfifnagaaGreat
open Go.RowKit Go.Proofs.Tryz
noncomputable section
section
open Go Go.Sort
structure PSel(l P:List Aa):Prop where
 nd:(P.map (·.Id)).Nodup
 src:∀p∈P,p∈l
 ap:Hc P
section
variable {l P:List Aa}(hl:X.Fit l)(hP:PSel l P)
include hl hP
theorem PSel.fit:X.Fit P:=by
 have:=Bm (l:=P.map (·.Id)) (m:=l.map (·.Id)) hP.nd (fun i hi=>by
  obtain⟨p,hp,rfl⟩:=List.mem_map.1 hi;exact List.mem_map_of_mem (hP.src p hp))
 rw[List.length_map,List.length_map] at this;exact⟨by have:=hl.n;omega,fun p hp=>hl.ok p (hP.src p hp),hP.nd⟩
theorem PSel.pick:Su l (P.map (·.Id))=Bi So P:=by
 refine (Amx (Abi (PSel.fit hl hP)) (X.perm_of_mem (X.nodup_of_ids hP.nd) ((X.nodup_of_ids hl.id).filter _) fun p=>?_)).symm;unfold selL;rw[List.mem_filter,decide_eq_true_eq];constructor
 .intro hp;exact⟨hP.src p hp,List.mem_map_of_mem hp⟩
 .rintro⟨h1,h2⟩;obtain⟨q,hq,e⟩:=List.mem_map.1 h2;rw[<-X.id_inj hl.id (hP.src q hq) h1 e];exact hq
theorem PSel.gsel:GSel l (P.map (·.Id)):=by
 refine⟨⟨hP.nd,fun i hi=>?_⟩,?_⟩
 .obtain⟨p,hp,e⟩:=List.mem_map.1 hi;exact⟨p,hP.src p hp,e⟩
 .rw[PSel.pick hl hP];have sym:∀{x y:Aa},¬(x.X=y.X/\x.Y=y.Y)->¬(y.X=x.X/\y.Y=x.Y):=fun h e=>h ⟨e.1.symm,e.2.symm⟩
  exact (List.Perm.pairwise_iff sym (Ej So P)).2 hP.ap
end
theorem Ass{m:Ak}{p:Aa}{r:Af}(h:(fitV m.V m.T r p).2.1=true):∃t:Nat,t<m.T.length/\(fitV m.V m.T r p).1=(t:Int):=by
 unfold fitV at h⊢;cases e:locT m.V m.T (X.plF p) with
 |none=>rw[e] at h;cases h
 |some i=>
  have e':=e;unfold locT at e';rw[List.findIdx?_eq_some_iff_getElem] at e';obtain⟨hi,_,_⟩:=e';refine⟨i,hi,?_⟩;dsimp only;rw[Am hi];dsimp only;split
  .rfl
  .split <;> rfl
structure Abe(A:List Aa)(n k:Nat)(b:List (Int×Ba))(best least:LI):Prop where
 l1:best.length=n
 l2:least.length=n
 non:∀t (h:t<best.length),mget b (t:Int)=none->best[t] = -1
 som:∀t (h:t<best.length) (h':t<least.length) o,mget b (t:Int)=some o->∃(j:Nat) (hj:j<A.length),j<k/\best[t]=(j:Int)/\A[j]=o.p/\least[t]=o.far
theorem Abe.mono{A:List Aa}{n k:Nat}{b:List (Int×Ba)}{best least:LI}(h:Abe A n k b best least):Abe A n (k+1) b best least :=
 ⟨h.l1,h.l2,h.non,fun t a c o e=>by obtain⟨j,hj,h1,h2⟩:=h.som t a c o e;exact⟨j,hj,oo,h2⟩⟩
theorem Abe.put{A:List Aa}{n k:Nat}{b:List (Int × Ba)}{best least:List Int}(h:Abe A n k b best least)(hb:Cv b)(hk:k<A.length)(t:Nat)(far:Int):
  Abe A n (k+1) (mput b (t:Int) ⟨A[k],far⟩) (best.set t (k:Int)) (least.set t far):=by
 refine⟨by rw[List.length_set];exact h.l1,by rw[List.length_set];exact h.l2,fun u hu e=>?_,fun u hu hu' o e=>?_⟩
 .rw[Lx hb] at e;rw[List.length_set] at hu
  by_cases c:(u:Int)=(t:Int)
  .rw[if_pos c] at e;cases e
  .rw[if_neg c] at e;rw[List.getElem_set,if_neg oo];exact h.non u hu e
 .rw[Lx hb] at e;rw[List.length_set] at hu hu';rw[List.getElem_set,List.getElem_set]
  by_cases c:(u:Int)=(t:Int)
  .rw[if_pos c] at e;cases e
   exact⟨k,hk,oo,by rw[if_pos oo],rfl,by rw[if_pos oo]⟩
  .rw[if_neg c] at e;obtain⟨j,hj,h1,h2,h3,h4⟩:=h.som u hu hu' o e;exact⟨j,hj,oo,by rw[if_neg oo];exact h2,h3,by rw[if_neg oo];exact h4⟩
section
variable {l:List Aa}{r:Af}{C:List Aa}(hc:Ctx l r C){P:List Aa}(hP:PSel l P)
include hc hP
theorem Ayv:Ac2 (Fc l (P.map (·.Id)))/\Fb (Bi So P)=some (Fc l (P.map (·.Id)),0):=by
 have hl:=X.Fit.of hc.val;have hg:=PSel.gsel hl hP;obtain⟨e,h1,h2,h3,_⟩:=Zx hc hg;have hf:=Fit.pick (ids:=P.map (·.Id)) hl;refine⟨Ah8 hf hg.apart h1 h2 h3,?_⟩;obtain⟨x,e1,e2,_⟩:=Aht hf;rw[PSel.pick hl hP] at e2;rw[e2];unfold Bv at e;have:=GSel.len hg;have:=hc.few;rw[Zl hl oo (fun i hi=>GSel.rng hc hg hi),Ad,if_pos hg.sel] at e;dsimp only at e;rw[if_pos rfl,e1,Ad] at e;exact e
theorem Aqt:∃ best least,lfix (Js (X.candL l r) P (Fc l (P.map (·.Id)),0) r) (List.replicate (Fc l (P.map (·.Id))).T.length (-1:Int),List.replicate (Fc l (P.map (·.Id))).T.length (0:Int),0)=some best /\
  Abe (X.candL l r) (Fc l (P.map (·.Id))).T.length (X.candL l r).length (Ww (P.map (·.Id)) (gFit l r (P.map (·.Id))) (X.candL l r)) best least:=by
 have hl:=X.Fit.of hc.val;have hF:=PSel.fit hl hP;obtain⟨hcan,_⟩:=Ayv hc hP;have hA:X.Fit (X.candL l r):=X.Fit.cand hc.val;have hAn:=hA.n;generalize hM:Fc l (P.map (·.Id))=M at *;have hmem:∀i:Int,i∈Co (P.map (·.Id))↔i∈P.map (·.Id):=fun i=>(X.perm_sortI _).mem_iff
 have hsl:(Co (P.map (·.Id))).length<=1000000:=by
  have:=hF.n;rw[(X.perm_sortI _).length_eq,List.length_map];omega
 have:=Aw (B:=Js (X.candL l r) P (M,0) r) (fun s=>(X.candL l r).length-s.2.2.toNat)
  (fun s=>∃k:Nat,k<=(X.candL l r).length/\s.2.2=(k:Int)/\Abe (X.candL l r) M.T.length k (((X.candL l r).take k).foldl (Tf (P.map (·.Id)) (gFit l r (P.map (·.Id)))) []) s.1 s.2.1)
  (fun t=>∃least,Abe (X.candL l r) M.T.length (X.candL l r).length (Ww (P.map (·.Id)) (gFit l r (P.map (·.Id))) (X.candL l r)) t least) (fun s hs=>by
  obtain⟨best,least,i⟩:=s;obtain⟨k,hk,hi,ha⟩:=hs;dsimp only at hi ha;subst hi;have hb:=(Ady (g:=P.map (·.Id)) (F:=gFit l r (P.map (·.Id))) (C:=X.candL l r) k).map;unfold Js;dsimp only
  by_cases hk2:k<(X.candL l r).length
  .left;have hx:=hA.ok _ (List.getElem_mem hk2);have hfits:=Awm hcan hx hc.rul;have hgf:gFit l r (P.map (·.Id)) (X.candL l r)[k]=fitV M.V M.T r (X.candL l r)[k]:=by unfold gFit;rw[hM]
   have step:((X.candL l r).take (k+1)).foldl (Tf (P.map (·.Id)) (gFit l r (P.map (·.Id)))) []=Tf (P.map (·.Id)) (gFit l r (P.map (·.Id))) (((X.candL l r).take k).foldl (Tf (P.map (·.Id)) (gFit l r (P.map (·.Id)))) []) (X.candL l r)[k]:=by
    rw[List.take_succ_eq_append_getElem hk2,List.foldl_append];rfl
   have goal:∀ s':List Int × List Int × Int,s'.2.2=((k+1:Nat):Int)->Abe (X.candL l r) M.T.length (k+1) (Tf (P.map (·.Id)) (gFit l r (P.map (·.Id))) (((X.candL l r).take k).foldl (Tf (P.map (·.Id)) (gFit l r (P.map (·.Id)))) []) (X.candL l r)[k]) s'.1 s'.2.1 ->
     (∃k:Nat,k<=(X.candL l r).length/\s'.2.2=(k:Int)/\Abe (X.candL l r) M.T.length k (((X.candL l r).take k).foldl (Tf (P.map (·.Id)) (gFit l r (P.map (·.Id)))) []) s'.1 s'.2.1)/\(X.candL l r).length-s'.2.2.toNat<(X.candL l r).length-((k:Int)).toNat:=fun s' e h=>⟨⟨k+1,hk2,e,by rw[step];exact h⟩,oo⟩
   rw[if_pos oo,jn_d,Am hk2,Ad,X.rids_eq hF.n,Ad,has_eq hsl,Ad,Au oo];generalize ((X.candL l r).take k).foldl (Tf (P.map (·.Id)) (gFit l r (P.map (·.Id)))) []=b at *
   by_cases c1:(X.candL l r)[k].Id∈P.map (·.Id)
   .rw[if_pos (decide_eq_true ((hmem _).2 c1))];refine⟨_,rfl,goal _ rfl ?_⟩;unfold Tf;rw[if_pos (.inl c1)];exact ha.mono
   .rw[if_neg (by rw[decide_eq_true_eq,hmem];exact c1),Ad,hfits,Ad]
    by_cases c2:(fitV M.V M.T r (X.candL l r)[k]).2.1=true
    .obtain⟨t,ht,et⟩:=Ass c2;have t1:t<best.length:=by rw[ha.l1];exact ht
     have t2:t<least.length:=by rw[ha.l2];exact ht
     rw[if_pos c2,et];dsimp only;rw[if_pos rfl,jn_d,Am t1,Ad,Am t2,Io,Io];have nc:¬((X.candL l r)[k].Id∈P.map (·.Id)\/(fitV M.V M.T r (X.candL l r)[k]).2.1=false):=by rw[c2];simpa using c1
     have hst:Tf (P.map (·.Id)) (gFit l r (P.map (·.Id))) b (X.candL l r)[k]=match mget b (t:Int) with
       |none=>mput b (t:Int) ⟨(X.candL l r)[k],(fitV M.V M.T r (X.candL l r)[k]).2.2⟩
       |some o=>if (fitV M.V M.T r (X.candL l r)[k]).2.2<o.far\/(fitV M.V M.T r (X.candL l r)[k]).2.2=o.far/\X.lowB (X.candL l r)[k] o.p=true then mput b (t:Int) ⟨(X.candL l r)[k],(fitV M.V M.T r (X.candL l r)[k]).2.2⟩ else b:=by
      unfold Tf;rw[hgf,if_neg nc,et];cases mget b (t:Int) <;> rfl
     have hput:=ha.put hb hk2 t (fitV M.V M.T r (X.candL l r)[k]).2.2;cases e:mget b (t:Int) with
     |none=>
      rw[e] at hst;dsimp only at hst;have:=ha.non t t1 e;rw[if_pos oo];dsimp only;rw[if_pos rfl,Ad,Ad];refine⟨_,rfl,goal _ rfl ?_⟩;rw[hst];exact hput
     |some o=>
      rw[e] at hst;dsimp only at hst;obtain⟨j,hj,j1,j2,j3,j4⟩:=ha.som t t1 t2 o e;rw[if_neg oo,Ad,j4]
      by_cases d1:(fitV M.V M.T r (X.candL l r)[k]).2.2<o.far
      .rw[if_pos d1];dsimp only;rw[if_pos rfl,Ad,Ad];refine⟨_,rfl,goal _ rfl ?_⟩;rw[hst,if_pos (.inl d1)];exact hput
      .rw[if_neg d1,Ad]
       by_cases d2:(fitV M.V M.T r (X.candL l r)[k]).2.2=o.far
       .rw[if_pos d2,Ad,Ad,j2,Am hj,Ad,X.rlower_eq,Ad,j3];dsimp only
        by_cases d3:X.lowB (X.candL l r)[k] o.p=true
        .rw[if_pos d3,Ad,Ad];refine⟨_,rfl,goal _ rfl ?_⟩;rw[hst,if_pos (.inr ⟨d2,d3⟩)];exact hput
        .rw[if_neg d3];refine⟨_,rfl,goal _ rfl ?_⟩;rw[hst,if_neg (fun h=>h.elim d1 (fun h=>d3 h.2))];exact ha.mono
       .rw[if_neg d2];dsimp only;rw[if_neg s_];refine⟨_,rfl,goal _ rfl ?_⟩;rw[hst,if_neg (fun h=>h.elim d1 (fun h=>d2 h.1))];exact ha.mono
    .rw[if_neg c2];dsimp only;rw[if_neg s_];refine⟨_,rfl,goal _ rfl ?_⟩;unfold Tf;rw[hgf,if_pos (.inr (by simpa using c2))];exact ha.mono
  .right;rw[if_neg oo];have:k=(X.candL l r).length:=oo;subst this;rw[List.take_length] at ha;exact⟨_,rfl,least,ha⟩) (List.replicate M.T.length (-1:Int),List.replicate M.T.length (0:Int),0) ⟨0,oo,rfl,⟨List.length_replicate,List.length_replicate,fun t h _=>by dsimp only;rw[List.getElem_replicate],fun t h h' o e=>by cases e⟩⟩
 obtain⟨best,e,least,h⟩:=this;exact⟨best,least,e,h⟩
end
theorem Aqu(n:Nat)(hn:n<=1000000000){M:Ak}(hM:M.T.length=n)(e:Int):lfix (Lk (M,e)) (List.replicate n (0:Int),0)=some (List.replicate n (-1:Int)):=by
 have:=Aw (B:=Lk (M,e)) (fun s=>n-s.2.toNat) (fun s=>∃k:Nat,k<=n/\s.2=(k:Int)/\s.1.length=n/\∀j (h:j<s.1.length),j<k->s.1[j] = -1) (fun t=>t=List.replicate n (-1:Int)) (fun s hs=>by
  obtain⟨s,i⟩:=s;obtain⟨k,hk,hi,hl,ha⟩:=hs;dsimp only at hi hl ha;subst hi;unfold Lk;dsimp only;rw[hM]
  by_cases hk2:k<n
  .left;have hk3:k<s.length:=oo;rw[if_pos oo,Am hk3,Ad,Au oo,Io];refine⟨_,rfl,⟨k+1,hk2,rfl,by dsimp only;rw[List.length_set];exact hl,fun j h hj=>?_⟩,by dsimp only;omega⟩;dsimp only at h⊢;rw[List.length_set] at h;rw[List.getElem_set]
   by_cases c:k=j
   .rw[if_pos c]
   .rw[if_neg c];exact ha j h oo
  .right;rw[if_neg oo];exact⟨_,rfl,List.ext_getElem (by rw[List.length_replicate];exact hl) fun j h _=>by rw[ha j h oo,List.getElem_replicate]⟩) (List.replicate n (0:Int),0) ⟨0,oo,rfl,List.length_replicate,fun j h hj=>absurd hj oo⟩
 obtain⟨t,h,rfl⟩:=this;exact h
def Vc(b:List (Int×Ba))(n:Nat):List Aa:=(List.range n).filterMap fun (t:Nat)=>(mget b (t:Int)).map fun (o:Ba)=>o.p
theorem Aux(b:List (Int×Ba))(n:Nat):(Vc b n).length<=n:=by
 unfold Vc;have:=List.length_filterMap_le (fun (t:Nat)=>(mget b (t:Int)).map fun (o:Ba)=>o.p) (List.range n);rw[List.length_range] at this;exact this
theorem Aqv{P A:List Aa}{M:Ak}(e:Int){b:List (Int × Ba)}{best least:List Int}(h:Abe A M.T.length A.length b best least)(hn:M.T.length<=1000000000)(hP:P.length<=1000000):
  lfix (Jt (M,e) best A) (([]:List Aa)++P,0)=some (P++Vc b M.T.length):=by
 have:=Aw (B:=Jt (M,e) best A) (fun s=>M.T.length-s.2.toNat) (fun s=>∃k:Nat,k<=M.T.length/\s=(P++Vc b k,(k:Int))) (fun t=>t=P++Vc b M.T.length) (fun s hs=>by
  obtain⟨k,hk,rfl⟩:=hs;have hl:=Aux b k;unfold Jt;dsimp only
  by_cases hk2:k<M.T.length
  .left;have t1:k<best.length:=by rw[h.l1];exact hk2
   have t2:k<least.length:=by rw[h.l2];exact hk2
   have ts:Vc b (k+1)=Vc b k++((mget b (k:Int)).map fun (o:Ba)=>o.p).toList:=by
    unfold Vc;rw[List.range_succ,List.filterMap_append];cases e0:mget b (k:Int) <;> simp[List.filterMap_cons,e0]
   rw[if_pos oo,jn_d,Am t1,Ad,Au oo];cases e:mget b (k:Int) with
   |none=>
    have:=h.non k t1 e;rw[if_neg oo];refine⟨_,rfl,⟨k+1,hk2,?_⟩,by dsimp only;omega⟩;rw[ts,e];simp
   |some o=>
    obtain⟨j,hj,j1,j2,j3,j4⟩:=h.som k t1 t2 o e;rw[j2,if_pos oo,Ad,Am hj,Ad,gd_t (by rw[List.length_append];omega),j3];refine⟨_,rfl,⟨k+1,hk2,?_⟩,by dsimp only;omega⟩;rw[ts,e,List.append_assoc];rfl
  .right;rw[if_neg oo];have:k=M.T.length:=oo;subst this;exact⟨_,rfl,rfl⟩) (([]:List Aa)++P,0) ⟨0,oo,by simp[Vc]⟩
 obtain⟨t,e',rfl⟩:=this;exact e'
section
variable {l:List Aa}{r:Af}{C:List Aa}(hc:Ctx l r C){P:List Aa}(hP:PSel l P)
include hc hP
theorem Ayw:∃D,Mv l P r=some (P++D,0)/\(D.map (·.Id)).Perm (adds (P.map (·.Id)) (gFit l r (P.map (·.Id))) (X.candL l r))/\∀p∈D,p∈X.candL l r:=by
 have hl:=X.Fit.of hc.val;have hF:=PSel.fit hl hP;have hFn:=hF.n;obtain⟨hcan,hmesh⟩:=Ayv hc hP;obtain⟨best,least,e1,e2⟩:=Aqt hc hP;have hA:X.Fit (X.candL l r):=X.Fit.cand hc.val;have hb:=Zz (P.map (·.Id)) (gFit l r (P.map (·.Id))) (X.candL l r);obtain⟨_,_,_,hT,_⟩:=Zx hc (PSel.gsel hl hP);have hvl:(vxL (Su l (P.map (·.Id)))).length<=1024:=by unfold vxL;rw[List.length_map];exact (Fit.pick hl).n
 have hTl:=Aj6 hvl hT;have hkey:∀q∈Ww (P.map (·.Id)) (gFit l r (P.map (·.Id))) (X.candL l r),∃t:Nat,t<(Fc l (P.map (·.Id))).T.length/\q.1=(t:Int):=fun q hq=>by
  obtain⟨_,_,h3⟩:=hb.src q hq;have:(fitV (Fc l (P.map (·.Id))).V (Fc l (P.map (·.Id))).T r q.2.p).2.1=true:=by
   show (gFit l r (P.map (·.Id)) q.2.p).2.1=true;rw[h3]
  obtain⟨t,ht,et⟩:=Ass this;refine⟨t,ht,?_⟩;rw[<-et];show q.1=(gFit l r (P.map (·.Id)) q.2.p).1;rw[h3]
 generalize hn:(Fc l (P.map (·.Id))).T.length=n at *;have hmemD:∀p,p∈Vc (Ww (P.map (·.Id)) (gFit l r (P.map (·.Id))) (X.candL l r)) n↔p∈(Ww (P.map (·.Id)) (gFit l r (P.map (·.Id))) (X.candL l r)).map (·.2.p):=fun p=>by
  unfold Vc;rw[List.mem_filterMap,List.mem_map];constructor
  .rintro⟨t,ht,e⟩;obtain⟨o,ho,rfl⟩:=Option.map_eq_some_iff.1 e;exact⟨_,Gu ho,rfl⟩
  .rintro⟨q,hq,rfl⟩;obtain⟨t,ht,et⟩:=hkey q hq;refine⟨t,List.mem_range.2 ht,?_⟩;rw[<-et,Th hb.map hq];rfl
 have nd1:((Ww (P.map (·.Id)) (gFit l r (P.map (·.Id))) (X.candL l r)).map (·.2.p)).Nodup:=by
  unfold List.Nodup;rw[List.pairwise_map];refine List.Pairwise.imp_of_mem ?_ hb.map;intro q q' hq hq' hne e;have a1:=(hb.src q hq).2.2;have a2:=(hb.src q' hq').2.2;rw[e,a2] at a1;exact hne (Prod.mk.inj a1).1.symm
 have nd2:(Vc (Ww (P.map (·.Id)) (gFit l r (P.map (·.Id))) (X.candL l r)) n).Nodup:=by
  unfold Vc List.Nodup;rw[List.pairwise_filterMap];refine List.Pairwise.imp ?_ (List.nodup_range (n:=n));intro t t' hne p hp p' hp' e;obtain⟨o,ho,rfl⟩:=Option.map_eq_some_iff.1 hp;obtain⟨o',ho',rfl⟩:=Option.map_eq_some_iff.1 hp';have a1:=(hb.src _ (Gu ho)).2.2;have a2:=(hb.src _ (Gu ho')).2.2;dsimp only at a1 a2;rw[e,a2] at a1;have:=(Prod.mk.inj a1).1;omega
 refine⟨Vc (Ww (P.map (·.Id)) (gFit l r (P.map (·.Id))) (X.candL l r)) n,?_,?_,fun p hp=>?_⟩
 .unfold Mv;rw[Adf hF,Ad,hmesh,Ad];dsimp only;rw[if_pos rfl,X.rcand_eq hc.val hc.rul,Ad,hn,gd_t oo,gd_t oo,jn_d,show Int.toNat ((n:Nat):Int)=n from rfl,Aqu n oo hn,Ad];dsimp only;rw[jn_d,e1,Ad];dsimp only;rw[gd_t (by simp only[List.length_nil];omega),jn_d];have:=Aqv (P:=P) (e:=0) (M:=Fc l (P.map (·.Id))) (by rw[hn];exact e2) oo oo;rw[hn] at this;rw[this,Ad]
 .unfold adds;have:=(X.perm_of_mem nd2 nd1 hmemD).map (·.Id);rw[List.map_map] at this;exact this
 .obtain⟨q,hq,rfl⟩:=List.mem_map.1 ((hmemD p).1 hp);exact (hb.src q hq).1
end
theorem Aok{α β:Type}(l:List α)(f:α->β)(B:List β×Int->Option (Sum (List β×Int) (List β)))(h1:∀(j:Nat) (hj:j<l.length) (s:List β),s.length=j->B (s,(j:Int))=some (.inl (s++[f l[j]],((j+1:Nat):Int))))(h2:∀s,B (s,(l.length:Int))=some (.inr s)):lfix B ([],0)=some (l.map f):=by
 have key:∀(m k:Nat),k<=l.length->l.length-k=m->lfix B ((l.take k).map f,(k:Int))=some (l.map f):=by
  intro m
  induction m with
  |zero=>
   intro k hk hm;obtain rfl:k=l.length:=oo;rw[Ay,h2,List.take_length]
  |succ m ih=>
   intro k hk hm;have hlt:k<l.length:=oo;rw[Ay,h1 k hlt _ (by rw[List.length_map,List.length_take];omega)];dsimp only;have:(l.take k).map f++[f l[k]]=(l.take (k+1)).map f:=by rw[List.take_succ_eq_append_getElem hlt,List.map_append];rfl
   rw[this];exact ih (k+1) oo oo
 exact key l.length 0 (Nat.zero_le _) rfl
def Ad3(m:Ak)(r:Af)(S G R:LI)(p:Aa):Int :=
 if p.Id∈S then 7 else if p.Id∈G then 2 else match Abb m.V m.T p with
 |none=>1
 |some s=>if r.High<s.Lo\/s.Hi < -r.Low then 7 else if p.Id∈R then 6 else if r.Brush<=s.Lo then 5 else 1
theorem Ayx{m:Ak}(h:Msh m){r:Af}(hr:X.okRules r=true){S G R:LI}{ms mg mr:List (Int×Bool)}(hs:∀x,(mget ms x).getD false=decide (x∈S))(hg:∀x,(mget mg x).getD false=decide (x∈G))(hR:∀x,(mget mr x).getD false=decide (x∈R)){p:Aa}(hp:X.okPt p=true):Gb ⟨r,m,ms,mg,mr⟩ p=some (Ad3 m r S G R p):=by
 have hpp:=X.okPt_rng hp;have hrr:=X.okRules_rng hr;unfold Gb Ad3;dsimp only;rw[gd_t oo,Ad,hs]
 by_cases c1:p.Id∈S
 .rw[if_pos (decide_eq_true c1),if_pos c1]
 .rw[if_neg (by simpa using c1),if_neg c1,gd_t oo,Ad,hg]
  by_cases c2:p.Id∈G
  .rw[if_pos (decide_eq_true c2),if_pos c2]
  .rw[if_neg (by simpa using c2),if_neg c2,Ar9 h hp,jn_d,Ad];cases e:Abb m.V m.T p with
   |none=>rfl
   |some s=>
    dsimp only;rw[if_pos rfl,jn_d,gd_t oo,Ad,hR,Aq (x:=-r.Low) oo oo]
    by_cases c3:r.High<s.Lo
    .simp[c3]
    .by_cases c4:s.Hi < -r.Low
     .simp[c3,c4]
     .by_cases c5:p.Id∈R
      .simp[c3,c4,c5]
      .by_cases c6:r.Brush<=s.Lo
       .simp[c3,c4,c5,c6]
       .simp[c3,c4,c5,c6]
def Ago(l:List Aa)(r:Af):LI:=Co ((X.sunkL l r).map (·.Id))
section
variable {l:List Aa}{r:Af}{C:List Aa}(hc:Ctx l r C){g:LI}(hg:GOk C g)
include hc
omit hc in
theorem Ast{L:List Aa}(hL:∀p∈L,X.okPt p=true){i:Int}(h:i∈Co (L.map (·.Id))):-9223372036854775808<=i/\i<=9223372036854775807:=by
 obtain⟨p,hp,rfl⟩:=List.mem_map.1 ((X.perm_sortI _).mem_iff.1 h);have:=X.okPt_rng (hL p hp);omega
include hg
theorem Aol(e:Iv l r=some g):∃ G S,If (Cg l (Fc l g) g r) r=some G/\lfix (Dj G) (List.replicate (Cg l (Fc l g) g r).length (0:Int),0)=some S /\
  Nc l (Fc l g) g r=some (Co ((Fv (Vg G S r) (Cg l (Fc l g) g r)).map (·.Id))) /\
  Lc l r=some (l.map (Ad3 (Fc l g) r (Ago l r) g (Co ((Fv (Vg G S r) (Cg l (Fc l g) g r)).map (·.Id))))):=by
 obtain⟨hs,_,_,_,hm⟩:=Anx hc hg;have hF:=X.Fit.of hc.val;have hn:=hc.few;have hgl:=GOk.len hg;have hcl:=hc.len;have hsl:(X.sunkL l r).length<=l.length:=List.length_filter_le _ _;obtain⟨G,S,e1,e2,e3⟩:=Axv hc.val hc.rul hm (g:=g) oo;refine⟨G,S,e1,e2,e3,?_⟩;have hfl:=Wf (Vg G S r) (Cg l (Fc l g) g r);have hhn:=(Zy (m:=Fc l g) (g:=g) (r:=r) hc.val).n;generalize hR:Co ((Fv (Vg G S r) (Cg l (Fc l g) g r)).map (·.Id))=R at *;have hRl:R.length<=1000000:=by
  rw[<-hR,(X.perm_sortI _).length_eq,List.length_map];omega
 obtain⟨ms,a1,a2⟩:=Ap6 (ids:=Ago l r) (by unfold Ago;rw[(X.perm_sortI _).length_eq,List.length_map];omega) (fun i hi=>Ast (L:=X.sunkL l r) (fun p hp=>hF.ok p (List.mem_filter.1 hp).1) hi);obtain⟨mg,b1,b2⟩:=Ap6 (ids:=g) oo (fun i hi=>GOk.rng hc hg hi);obtain⟨mr,c1,c2⟩:=Ap6 (ids:=R) hRl (fun i hi=>Ast (L:=Fv (Vg G S r) (Cg l (Fc l g) g r)) (fun p hp=>hF.ok p (Akp (Agl hp)).1) (by rw[hR];exact hi));unfold Lc;rw[X.parted_eq hc.val hc.rul,Ad,e,Ad,hs,Ad,jn_d];dsimp only;rw[if_pos rfl,X.ids_eq oo,Ad,show Co ((X.sunkL l r).map (·.Id))=Ago l r from rfl,a1,Ad,b1,Ad,e3,Ad,c1,Ad,gd_t oo,jn_d];refine (congrArg (fun o=>bnd o _) (Aok l (Ad3 (Fc l g) r (Ago l r) g R) _ (fun j hj s hs=>?_) (fun s=>?_))).trans rfl
 .unfold Qy;dsimp only;rw[if_pos oo,Am hj,Ad,Ayx hm hc.rul a2 b2 c2 (hF.ok _ (List.getElem_mem hj)),Ad,gd_t oo,Au oo]
 .unfold Qy;dsimp only;rw[if_neg oo]
end
theorem Aom{l:List Aa}{r:Af}(hl:X.validL l=true)(hr:X.okRules r=true){c:LI}(h:Lc l r=some c):Im l r=some (c,0):=by
 unfold Im;rw[X.checked_eq,if_pos hr,if_pos hl,Ad,if_pos rfl,h,Ad]
section
variable {l:List Aa}{r:Af}{C:List Aa}(hc:Ctx l r C){g:LI}(hg:Grnd l r C g){R:LI}
include hc hg
end
theorem Aon{g:LI}{F:FitF}{C:List Aa}(hC:(C.map (·.Id)).Nodup)(i:Int):i∈adds g F C↔∃p∈C,p.Id=i/\p.Id∉g/\(F p).2.1=true/\∀q∈C,q.Id∉g->(F q).2.1=true->(F q).1=(F p).1->¬btr (F q).2.2 q ⟨p,(F p).2.2⟩:=by
 have hb:=Zz g F C;constructor
 .intro h;obtain⟨o,ho,rfl⟩:=List.mem_map.1 h;obtain⟨h1,h2,h3⟩:=hb.src o ho;refine⟨o.2.p,h1,rfl,h2,by rw[h3],fun q hq hqg hqf he=>?_⟩;obtain⟨o',ho',hn⟩:=hb.all q hq hqg hqf;rw[he,h3] at ho';have:=Th hb.map ho;dsimp only at ho';rw[this] at ho';cases ho'
  rw[h3];exact hn
 ·rintro⟨p,hp,rfl,hpg,hpf,hmin⟩;obtain⟨o,ho,hn⟩:=hb.all p hp hpg hpf;have hom:=Gu ho;obtain⟨h1,h2,h3⟩:=hb.src _ hom;dsimp only at h1 h2 h3;have h4:=hmin o.p h1 h2 (by rw[h3]) (by rw[h3]);rw[h3] at h4;dsimp only at h4;have e:o.p.Id=p.Id:=by
   unfold btr at h4 hn;dsimp only at h4;have e1:o.far=(F p).2.2:=by
    by_cases c:o.far<(F p).2.2
    .exact absurd (.inl c) h4
    .by_cases c2:(F p).2.2<o.far
     .exact absurd (.inl c2) hn
     .omega
   refine X.lowB_total (Bool.eq_false_iff.2 fun c=>h4 (.inr ⟨e1,c⟩)) (Bool.eq_false_iff.2 fun c=>hn (.inr ⟨e1.symm,c⟩))
  rw[<-e];exact List.mem_map.2 ⟨_,hom,rfl⟩
def Aag(gr:LI->LI):Nat->LI->LI
 |0,g=>g
 |n+1,g=>if (gr g).length=g.length then g else Aag gr n (gr g)
theorem Ajn{l:List Aa}{r:Af}{C:List Aa}(hc:Ctx l r C)(hC:Cx l r=some C):Iv l r=some (Aag (fun g=>Jw g (gFit l r g) C) C.length (X.seedL l r)):=by
 have:=Aw (B:=Jb l C r) (fun g=>C.length-g.length) (fun g=>GOk C g/\∃k,C.length<=k+g.length/\Aag (fun g=>Jw g (gFit l r g) C) k g=Aag (fun g=>Jw g (gFit l r g) C) C.length (X.seedL l r)) (fun g=>g=Aag (fun g=>Jw g (gFit l r g) C) C.length (X.seedL l r)) (fun g hs=>by
  obtain⟨h1,k,h2,h3⟩:=hs;have h4:=Alz hc h1;have l1:=GOk.len h4;have l2:=Acn (g:=g) (F:=gFit l r g) (C:=C);unfold Jb;rw[Ar7 hc h1,Ad,jn_d];dsimp only;rw[if_pos rfl]
  by_cases e:(Jw g (gFit l r g) C).length=g.length
  .right;rw[if_pos (decide_eq_true oo)];refine⟨g,rfl,?_⟩;rw[<-h3];cases k with
   |zero=>rfl
   |succ k=>unfold Aag;rw[if_pos e]
  .left;rw[if_neg (by rw[decide_eq_true_eq];omega)];cases k with
   |zero=>omega
   |succ k=>
    refine⟨_,rfl,⟨h4,k,oo,?_⟩,oo⟩;rw[<-h3]
    conv=>rhs;unfold Aag
    rw[if_neg e]) (X.seedL l r) ⟨Al0 hc,C.length,oo,rfl⟩
 obtain⟨g,e,rfl⟩:=this;unfold Iv;rw[hC,Ad,Ar8 hc,Ad,e,Ad]
section
variable (n:Int){L:List Aa}{T:List Ag}(hT:∀t∈T,inN (vxL L).length t.a0/\inN (vxL L).length t.a1/\inN (vxL L).length t.a2/\0 < Pg (vxL L) t)
include hT
end
instance apDec(L:List Aa):Decidable (Hc L):=Classical.propDecidable _
theorem Aoo{g g':LI}{F:FitF}{C C':List Aa}(hC:(C.map (·.Id)).Nodup)(hg:g'.Perm g)(hp:C'.Perm C):Jw g' F C'=Jw g F C:=by
 have hC':(C'.map (·.Id)).Nodup:=(hp.map _).nodup_iff.2 hC;unfold Jw;refine X.sortI_perm (List.Perm.append hg ((List.perm_ext_iff_of_nodup (Adz hC') (Adz hC)).2 fun i=>?_));rw[Aon hC',Aon hC];simp only[hg.mem_iff,hp.mem_iff]
theorem Ayy{l:List Aa}{g:LI}(hl:X.Fit l)(h:Zk l g):((Su l g).map (·.Id)).Perm g:=by
 refine (List.perm_ext_iff_of_nodup (Fit.pick hl).id h.1).2 fun i=>?_
 constructor
 .intro hi;obtain⟨p,hp,rfl⟩:=List.mem_map.1 hi;have h1:p∈selL l g:=Ga.1 hp;unfold selL at h1;rw[List.mem_filter,decide_eq_true_eq] at h1;exact h1.2
 .intro hi;obtain⟨p,hp,rfl⟩:=h.2 i hi;refine List.mem_map_of_mem (Ga.2 ?_);unfold selL;rw[List.mem_filter,decide_eq_true_eq];exact⟨hp,hi⟩
theorem Auy{l:List Aa}{g:LI}(hl:X.Fit l)(h:GSel l g):PSel l (Su l g):=⟨(Fit.pick hl).id,fun p hp=>by
 have h1:p∈selL l g:=Ga.1 hp;unfold selL at h1;exact (List.mem_filter.1 h1).1,h.apart⟩
theorem Auz{l:List Aa}{g g':LI}(h:g'.Perm g):Su l g'=Su l g:=by
 unfold Su selL;simp only[h.mem_iff]
section
variable {l:List Aa}{r:Af}{C:List Aa}(hc:Ctx l r C){g:LI}
include hc
theorem Ayz{g':LI}(hg:GSel l g)(hg':GSel l g')(h:g'.Perm g):gFit l r g'=gFit l r g:=by
 have hl:=X.Fit.of hc.val;have h1:=GSel.len hg;have h2:=GSel.len hg';have:=hc.few;have:Bv l g'=Bv l g:=by
  unfold Bv;rw[Zl hl oo (fun i hi=>GSel.rng hc hg hi),Zl hl oo (fun i hi=>GSel.rng hc hg' hi),if_pos hg.sel,if_pos hg'.sel,Auz h]
 unfold gFit Fc;rw[this]
theorem Bbl{P:List Aa}(hP:PSel l P)(hg:GSel l g)(h:(P.map (·.Id)).Perm g):∃D,Mv l P r=some (P++D,0)/\Co ((P++D).map (·.Id))=Jw g (gFit l r g) C/\(P++D).length=(Jw g (gFit l r g) C).length/\∀p∈D,p∈X.candL l r:=by
 obtain⟨D,h1,h2,h3⟩:=Ayw hc hP;have hA:X.Fit (X.candL l r):=X.Fit.cand hc.val;have e:Co ((P++D).map (·.Id))=Jw g (gFit l r g) C:=by
  rw[<-Ayz hc hg (PSel.gsel (X.Fit.of hc.val) hP) h,<-Aoo hc.fit.id h hc.perm.symm];unfold Jw;rw[List.map_append];exact X.sortI_perm (h2.append_left _)
 refine⟨D,h1,e,?_,h3⟩;rw[<-e,(X.perm_sortI _).length_eq,List.length_map]
end
section
variable {l:List Aa}{r:Af}{C:List Aa}(hc:Ctx l r C)
include hc
theorem Bbm{P:List Aa}{g:LI}(hs:∀p∈P,p∈l)(hp:(P.map (·.Id)).Perm g)(hg:GOk C g):PSel l P:=by
 have nd:(P.map (·.Id)).Nodup:=hp.nodup_iff.2 hg.nd;have hC:∀p∈P,p∈C:=fun p h=>by
  obtain⟨c,h1,h2⟩:=hg.src p.Id (hp.mem_iff.1 (List.mem_map_of_mem h));rw[X.id_inj (X.Fit.of hc.val).id (hs p h) (hc.dry h1).1 h2.symm];exact h1
 refine⟨nd,hs,?_⟩;have hf:=nd;rw[List.Nodup,List.pairwise_map] at hf;unfold Hc;refine List.Pairwise.imp_of_mem ?_ hf;intro a b ha hb hne e;exact hne (congrArg (·.Id) (hc.apart (hC a ha) (hC b hb) e.1 e.2))
theorem Aqw:Gh l r=some (Aag (fun g=>Jw g (gFit l r g) C) C.length (X.seedL l r),0):=by
 have hl:=X.Fit.of hc.val;have hs:=Al0 hc;have hn:=hc.len;have hsl:=GOk.len hs;unfold Gh;rw[X.rSeeds_eq,if_pos hc.rul,if_pos hc.val,Ad];dsimp only;rw[if_pos rfl,Are hl oo,if_pos (GOk.sel hc hs),Ad];dsimp only;have:=Aw (B:=Nm l r) (fun P=>C.length-P.length) (fun P=>(∀p∈P,p∈l)/\∃g,(P.map (·.Id)).Perm g/\GOk C g/\g.Pairwise (·<=·)/\∃k,C.length<=k+g.length/\Aag (fun g=>Jw g (gFit l r g) C) k g=Aag (fun g=>Jw g (gFit l r g) C) C.length (X.seedL l r)) (fun t=>t=(Aag (fun g=>Jw g (gFit l r g) C) C.length (X.seedL l r),0)) (fun P hP=>by
  obtain⟨h1,g,h2,h3,h4,k,h5,h6⟩:=hP;have hgs:=GOk.gsel hc h3;have h7:=Bbm hc h1 h2 h3;obtain⟨D,e1,e2,e3,e4⟩:=Bbl hc h7 hgs h2;have l0:=h2.length_eq;rw[List.length_map] at l0;have h8:=Alz hc h3;have l1:=GOk.len h8;have l2:=Acn (g:=g) (F:=gFit l r g) (C:=C);have l3:=GOk.len h3;unfold Nm;rw[e1,Ad];dsimp only
  by_cases e:(Jw g (gFit l r g) C).length=g.length
  .right;rw[if_pos oo,X.rids_eq oo,Ad];refine⟨_,rfl,?_⟩;rw[<-h6,<-X.sort_unique h4 h2.symm];cases k with
   |zero=>rfl
   |succ k=>unfold Aag;rw[if_pos e]
  .left;rw[if_neg oo];cases k with
   |zero=>omega
   |succ k=>
    refine⟨_,rfl,⟨fun p hp=>?_,Jw g (gFit l r g) C,?_,h8,Aeu,k,oo,?_⟩,oo⟩
    .rcases List.mem_append.1 hp with hp|hp
     .exact h1 p hp
     .exact (hc.dry (hc.perm.mem_iff.2 (e4 p hp))).1
    .rw[<-e2];exact (X.perm_sortI _).symm
    .rw[<-h6]
     conv=>rhs;unfold Aag
     rw[if_neg e]) (Su l (X.seedL l r)) ⟨fun p hp=>(Auy hl (GOk.gsel hc hs)).src p hp,X.seedL l r,Ayy hl (GOk.sel hc hs),hs,X.sorted_sortI _,C.length,oo,rfl⟩
 obtain⟨t,e,rfl⟩:=this;rw[e,Ad]
end
theorem Aop{m:Ak}(h:Ac2 m){p:Aa}(hp:X.okPt p=true):Mj m p=some (match Abb m.V m.T p with|some s=>(s,true)|none=>(⟨0,0⟩,false)):=by
 have hpp:=X.okPt_rng hp;have hq:=Yb hp;have hb0:=Ah9 h hq;unfold Mj Abb;rw[show (⟨p.X,p.Y⟩:Ab)=X.plF p from rfl];cases e:locT m.V m.T (X.plF p) with
 |none=>
  rw[e] at hb0;rw[hb0];rfl
 |some i=>
  have e':=e;unfold locT at e';rw[List.findIdx?_eq_some_iff_getElem] at e';obtain⟨hi,hc,_⟩:=e';have hb:=Abz h.msh (List.getElem_mem hi) hc;rw[e] at hb0;dsimp only at hb0⊢;rw[Am hi] at hb0⊢;rw[hb0,Ad];dsimp only;rw[if_pos rfl,Aq oo oo,Aq oo oo]
theorem Aqx{l:List Aa}(hl:X.validL l=true){r:Af}(hr:X.okRules r=true){m:Ak}(h:Ac2 m){g:List Int}(hg:g.length<=1000000):
  lfix (Gn l m r g) (([]:List Aa),0)=some ((X.dryL l r).filter (We m g r)):=by
 have hF:=X.Fit.of hl;have hn:=hF.n;have e:(X.dryL l r).filter (We m g r)=l.filter (fun p=>We m g r p && !X.sunkB l r p):=by
  unfold X.dryL;rw[List.filter_filter]
 rw[e];refine X.lfix_filter l (fun p=>We m g r p && !X.sunkB l r p) (Gn l m r g) (fun j hj s hs=>?_) (fun s=>?_)
 .have hp:=hF.ok _ (List.getElem_mem hj);unfold Gn;dsimp only;rw[if_pos oo,jn_d,Am hj,Ad,Aop h hp,Ad,jn_d,Au oo];simp only[Ad,has_eq hg,X.rsunk_eq hl hr hp,gd_t (show (s.length+1)*72<=140737488355328 by omega)];generalize l[j]=p;unfold We;cases Abb m.V m.T p with
  |none=>simp
  |some z=>
   dsimp only;rw[if_pos rfl]
   by_cases c1:p.Of=1
   .rw[if_pos c1]
    by_cases c2:r.Tall<=z.Lo
    .rw[if_pos c2]
     by_cases c3:z.Lo<=r.High
     .rw[if_pos c3]
      by_cases c4:p.Id∈g
      .simp[c4]
      .cases c5:X.sunkB l r p <;> simp[c1,c2,c3,c4]
     .rw[if_neg c3];simp[c3]
    .rw[if_neg c2];simp[c2]
   .rw[if_neg c1];simp[c1]
 .unfold Gn;dsimp only;rw[if_neg oo]
structure Nmr(s:LI)(n:Nat)(E:Nat->Nat->Prop):Prop where
 len:s.length=n
 nm:∀i j (hi:i<s.length) (hj:j<s.length),s[i]=s[j]↔Cnx E i j
theorem Aoq{L:List Aa}(hn:L.length<=1024):∃s,lfix (Ff L) (List.replicate (Int.toNat (L.length:Int)) (0:Int),0)=some s/\Nmr s L.length (fun _ _=>False):=by
 have:=Aw (B:=Ff L) (fun s=>L.length-s.2.toNat) (fun s=>∃k:Nat,k<=L.length/\s.2=(k:Int)/\s.1.length=L.length/\∀i,i<k->s.1[i]? = some (i:Int)) (fun s=>s.length=L.length/\∀i,i<L.length->s[i]? = some (i:Int)) (fun s hs=>by
  obtain⟨s,i⟩:=s;obtain⟨k,hk,hi,hs,hu⟩:=hs;dsimp only at hi hu hs;subst hi;unfold Ff;dsimp only
  by_cases hk2:k<L.length
  .left;rw[if_pos oo,Am (show k<s.length by omega),Ad,Au oo];refine⟨_,rfl,⟨k+1,hk2,rfl,by rw[Fn];exact hs,fun i hi=>?_⟩,by dsimp only;omega⟩;dsimp only;rw[Io]
   by_cases c:k=i
   .subst c;exact List.getElem?_set_self oo
   .rw[List.getElem?_set_ne c];exact hu i oo
  .right;obtain rfl:k=L.length:=oo;rw[if_neg oo];exact⟨_,rfl,hs,hu⟩) (List.replicate (Int.toNat (L.length:Int)) (0:Int),0) ⟨0,oo,rfl,by dsimp only;rw[List.length_replicate];omega,fun i hi=>absurd hi oo⟩
 obtain⟨s,e,h1,h2⟩:=this;have at_:∀i (hi:i<s.length),s[i]=(i:Int):=fun i hi=>by
  have:=h2 i oo;rw[List.getElem?_eq_getElem hi] at this;exact Option.some.inj this
 refine⟨s,e,h1,fun i j hi hj=>?_⟩;rw[at_ i hi,at_ j hj];constructor
 .intro h;obtain rfl:i=j:=oo;exact .refl _
 .intro h;clear hi hj
  induction h with
  |refl i=>rfl
  |base h=>exact h.elim
  |symm _ ih=>exact ih.symm
  |trans _ _ h g=>exact h.trans g
theorem Aor{u w:Int}{s:LI}(hn:s.length<=1000000):∃s',lfix (Ik u w) (s,0)=some s'/\s'.length=s.length/\∀i (hi:i<s.length) (hi':i<s'.length),s'[i]=if s[i]=u then w else s[i]:=by
 have:=Aw (B:=Ik u w) (fun x=>s.length-x.2.toNat) (fun x=>∃k:Nat,k<=s.length/\x.2=(k:Int)/\x.1.length=s.length/\∀i (hi:i<s.length) (hi':i<x.1.length),x.1[i]=if i<k then (if s[i]=u then w else s[i]) else s[i])
  (fun s'=>s'.length=s.length/\∀i (hi:i<s.length) (hi':i<s'.length),s'[i]=if s[i]=u then w else s[i]) (fun x hx=>by
  obtain⟨t,i⟩:=x;obtain⟨k,hk,hi,ht,hu⟩:=hx;dsimp only at hi ht hu;subst hi;unfold Ik;dsimp only
  by_cases hk2:k<s.length
  .left;have hk3:k<t.length:=oo;have hk4:=hu k hk2 hk3;rw[if_neg oo] at hk4;rw[if_pos oo,jn_d,Am hk3,Ad,Au oo,Ad,hk4]
   by_cases c:s[k]=u
   .rw[if_pos c];refine⟨_,rfl,⟨k+1,hk2,rfl,by rw[Fn];exact ht,fun i hi hi'=>?_⟩,by dsimp only;omega⟩;dsimp only at hi' ⊢;simp only[Io] at hi' ⊢;rw[List.length_set] at hi';rw[List.getElem_set]
    by_cases c2:k=i
    .subst c2;rw[if_pos rfl,if_pos oo,if_pos c]
    .rw[if_neg c2,hu i hi hi']
     by_cases c3:i<k
     .rw[if_pos c3,if_pos (show i<k+1 by omega)]
     .rw[if_neg c3,if_neg (show ¬i<k+1 by omega)]
   .rw[if_neg c];refine⟨_,rfl,⟨k+1,hk2,rfl,ht,fun i hi hi'=>?_⟩,by dsimp only;omega⟩;dsimp only at hi' ⊢;rw[hu i hi hi']
    by_cases c2:k=i
    .subst c2;rw[if_neg oo,if_pos oo,if_neg c]
    .by_cases c3:i<k
     .rw[if_pos c3,if_pos (show i<k+1 by omega)]
     .rw[if_neg c3,if_neg (show ¬i<k+1 by omega)]
  .right;obtain rfl:k=s.length:=oo;rw[if_neg oo];exact⟨_,rfl,ht,fun i hi hi'=>by rw[hu i hi hi',if_pos hi]⟩) (s,0) ⟨0,oo,rfl,rfl,fun i hi hi'=>by rw[if_neg oo]⟩
 exact this
theorem Au0(a b:Av):gapI a b=gapI b a:=by unfold gapI;omega
theorem Aos{L:List Aa}{r:Af}{x y:Nat}(h:okE L r x y):okE L r y x:=by
 obtain⟨p,q,e1,e2,h1,h2⟩:=h;exact⟨q,p,e2,e1,by rw[X.sq_comm];exact h1,by rw[Au0];exact h2⟩
section
variable {L:List Aa}{r:Af}(hL:X.Fit L)(hr:X.okRules r=true)
include hL hr
theorem Amb{S:List Ac}(e:Int)(hS:S.length<=1000000)(hin:∀ s∈S,∃ a b:Nat,s=⟨(a:Int),(b:Int)⟩/\a<L.length/\b<L.length){s0:List Int}(h0:Nmr s0 L.length (fun _ _=>False)):
  ∃s,lfix (Fg (S,e) L r) (s0,0)=some s/\Nmr s L.length (fun x y=>(⟨(x:Int),(y:Int)⟩:Ac)∈S/\okE L r x y):=by
 have hn:=hL.n;have hrr:=X.okRules_rng hr;have:=Aw (B:=Fg (S,e) L r) (fun s=>S.length-s.2.toNat) (fun s=>∃k:Nat,k<=S.length/\s.2=(k:Int)/\Nmr s.1 L.length (fun x y=>(⟨(x:Int),(y:Int)⟩:Ac)∈S.take k/\okE L r x y)) (fun s=>Nmr s L.length (fun x y=>(⟨(x:Int),(y:Int)⟩:Ac)∈S/\okE L r x y)) (fun s hs=>by
  obtain⟨s,i⟩:=s;obtain⟨k,hk,hi,hs⟩:=hs;dsimp only at hi hs;subst hi;unfold Fg;dsimp only
  by_cases hk2:k<S.length
  ·left;obtain⟨a,b,eab,ha,hb⟩:=hin _ (List.getElem_mem hk2);have pa:=hL.ok _ (List.getElem_mem ha);have pb:=hL.ok _ (List.getElem_mem hb);have ra:=X.okPt_rng pa;have rb:=X.okPt_rng pb;have hl:=hs.len;have ha':a<s.length:=oo;have hb':b<s.length:=oo;have oe:okE L r a b↔X.sq L[a] L[b]<=r.Link*r.Link/\¬ r.Flat<gapI L[a].Z L[b].Z:=by
    unfold okE;rw[List.getElem?_eq_getElem ha,List.getElem?_eq_getElem hb];exact⟨fun ⟨p,q,e1,e2,h⟩=>by cases e1;cases e2;exact h,fun h=>⟨_,_,rfl,rfl,h⟩⟩
   have nx:∀x y:Nat,(⟨(x:Int),(y:Int)⟩:Ac)∈S.take (k+1)↔(⟨(x:Int),(y:Int)⟩:Ac)∈S.take k\/(x=a/\y=b):=fun x y=>by
    rw[List.take_succ_eq_append_getElem hk2,List.mem_append,List.mem_singleton,eab,Ac.mk.injEq];exact or_congr Iff.rfl (by constructor <;> intro h <;> omega)
   have hw:w64 (r.Link*r.Link)=r.Link*r.Link:=by
    have h1:0<=r.Link*r.Link:=Int.mul_nonneg oo oo;have h2:r.Link*r.Link<=1000000*1000000:=Int.mul_le_mul oo oo oo oo;exact Aq oo oo
   have no:¬okE L r a b->Nmr s L.length (fun x y=>(⟨(x:Int),(y:Int)⟩:Ac)∈S.take (k+1)/\okE L r x y):=fun h=>by
    have:(fun x y:Nat=>(⟨(x:Int),(y:Int)⟩:Ac)∈S.take (k+1)/\okE L r x y)=fun x y:Nat=>(⟨(x:Int),(y:Int)⟩:Ac)∈S.take k/\okE L r x y:=by
     funext x y;rw[nx];refine propext ⟨?_,fun g=>⟨.inl g.1,g.2⟩⟩;rintro⟨g|⟨rfl,rfl⟩,o⟩
     .exact⟨g,o⟩
     .exact absurd o h
    rw[this];exact hs
   rw[if_pos oo,jn_d,Am hk2,Ad,Ad,jn_d,eab];dsimp only;rw[Am ha,Ad,Am hb,Ad,X.apart_eq pa pb,Ad,hw,Au oo]
   by_cases c:r.Link*r.Link<X.sq L[a] L[b]
   .rw[if_pos c,if_pos rfl];exact⟨_,rfl,⟨k+1,hk2,rfl,no (by rw[oe];exact fun h=>oo)⟩,by dsimp only;omega⟩
   .rw[if_neg c,Ad,Ad,Alk (a:=L[a].Z) (b:=L[b].Z) oo oo,Ad]
    by_cases c2:r.Flat<gapI L[a].Z L[b].Z
    .rw[if_pos (decide_eq_true c2)];exact⟨_,rfl,⟨k+1,hk2,rfl,no (by rw[oe];exact fun h=>h.2 c2)⟩,by dsimp only;omega⟩
    .obtain⟨s',r1,r2,r3⟩:=Aor (u:=s[b]) (w:=s[a]) (s:=s) oo;rw[if_neg (by simpa using c2),Am hb',Ad,Am ha',Ad,r1,Ad];refine⟨_,rfl,⟨k+1,hk2,rfl,r2.trans hl,fun i j hi hj=>?_⟩,by dsimp only;omega⟩;dsimp only at hi hj ⊢;have gd':∀i (hi:i<s.length),(s[i]?).getD 0=s[i]:=fun i hi=>by rw[List.getElem?_eq_getElem hi];rfl
     have gd2:∀i (hi:i<s'.length),(s'[i]?).getD 0=s'[i]:=fun i hi=>by rw[List.getElem?_eq_getElem hi];rfl
     have key:=Akq (n:=s.length) (G:=fun i=>(s[i]?).getD 0) (G':=fun i=>(s'[i]?).getD 0) (E:=fun x y=>(⟨(x:Int),(y:Int)⟩:Ac)∈S.take k/\okE L r x y) (a:=a) (b:=b) ha' hb'
      (fun i j hi hj=>by rw[gd' i hi,gd' j hj];exact hs.nm i j hi hj) (u:=s[b]) (w:=s[a]) (.inr ⟨(gd' b hb').symm,(gd' a ha').symm⟩)
      (fun i hi=>by rw[gd' i hi,gd2 i oo];exact r3 i hi oo) (i:=i) (j:=j) oo oo
     rw[gd2 i hi,gd2 j hj] at key;rw[key];have:(fun x y:Nat=>((⟨(x:Int),(y:Int)⟩:Ac)∈S.take k/\okE L r x y)\/(x=a/\y=b))=fun x y:Nat=>(⟨(x:Int),(y:Int)⟩:Ac)∈S.take (k+1)/\okE L r x y:=by
      funext x y;rw[nx];refine propext ⟨?_,?_⟩
      .rintro (⟨g,o⟩|⟨rfl,rfl⟩)
       .exact⟨.inl g,o⟩
       .exact⟨.inr ⟨rfl,rfl⟩,oe.2 ⟨oo,c2⟩⟩
      .rintro⟨g|g,o⟩
       .exact .inl ⟨g,o⟩
       .exact .inr g
     rw[this]
  .right;obtain rfl:k=S.length:=oo;rw[List.take_length] at hs;rw[if_neg oo];exact⟨_,rfl,hs⟩) (s0,0) ⟨0,oo,rfl,by simpa using h0⟩
 exact this
end
theorem Aot{L:List Aa}{G:LI}(hn:G.length=L.length)(hb:L.length<=1024){x:List Aa×Int}{i:Nat}(hx:x.2=(i:Int))(hi:i<G.length):lfix (Il L G x) (0,0)=some ((G.count G[i]:Nat):Int):=by
 have:=Aw (B:=Il L G x) (fun s=>L.length-s.2.toNat) (fun s=>∃k:Nat,k<=L.length/\s=((((G.take k).count G[i]:Nat):Int),(k:Int))) (fun t=>t=((G.count G[i]:Nat):Int)) (fun s hs=>by
  obtain⟨k,hk,rfl⟩:=hs;unfold Il;dsimp only
  by_cases hk2:k<L.length
  ·left;have hk3:k<G.length:=oo;have hc:(G.take k).count G[i]<=k:=Nat.le_trans List.count_le_length (by rw[List.length_take];omega);rw[if_pos oo,jn_d,Am hk3,Ad,hx,Am hi,Ad,Au oo,Au oo];have e:(G.take (k+1)).count G[i]=(G.take k).count G[i] + if G[k]=G[i] then 1 else 0:=by
    rw[List.take_succ_eq_append_getElem hk3,List.count_append,List.count_singleton]
    by_cases c:G[k]=G[i]
    .rw[if_pos (by simpa using c),if_pos c]
    .rw[if_neg (by simpa using c),if_neg c]
   by_cases c:G[k]=G[i]
   .rw[if_pos c] at e⊢;exact⟨_,rfl,⟨k+1,hk2,by rw[e]⟩,by dsimp only;omega⟩
   .rw[if_neg c] at e⊢;exact⟨_,rfl,⟨k+1,hk2,by rw[e];rfl⟩,by dsimp only;omega⟩
  .right;obtain rfl:k=L.length:=oo;rw[if_neg oo];exact⟨_,rfl,by rw[<-hn,List.take_length]⟩) (0,0) ⟨0,oo,rfl⟩
 obtain⟨t,e,rfl⟩:=this;exact e
theorem Amc{α:Type}{p q:Nat->Bool}{l:List α}(h:∀j,j<l.length->p j=q j):Fv p l=Fv q l:=by
 have key:∀k,k<=l.length->Fv p (l.take k)=Fv q (l.take k):=by
  intro k
  induction k with
  |zero=>intro _;rfl
  |succ k ih=>
   intro hk;rw[Aaw hk,Aaw hk,ih oo,h k hk]
 have:=key l.length (Nat.le_refl _)
 rwa [List.take_length] at this
theorem Aqy{l:List Aa}{r:Af}(hl:X.validL l=true)(hr:X.okRules r=true){m:Ak}(h:Msh m){g:LI}(hg:g.length<=1000000){G S:LI}(e1:If (Cg l m g r) r=some G)(e2:G.length=(Cg l m g r).length)(e3:∀x∈G,∃k:Nat,x=(k:Int)/\k<(Cg l m g r).length)(e4:lfix (Dj G) (List.replicate (Cg l m g r).length (0:Int),0)=some S)(e5:S.length=(Cg l m g r).length):Nc l m g r=some (Co ((Fv (Vg G S r) (Cg l m g r)).map (·.Id))):=by
 have hF:=Zy (m:=m) (g:=g) (r:=r) hl;have hn:=hF.n;unfold Nc;rw[Asa hl hr h hg,Ad,e1,Ad,gd_t oo,jn_d,show Int.toNat ((((Cg l m g r).length:Nat):Int))=(Cg l m g r).length from rfl,e4,Ad];dsimp only;rw[jn_d,Aax (Cg l m g r) (Vg G S r) (Gy (Cg l m g r) G S r) (fun j hj s hs=>?_) (fun s=>?_),Ad]
 .dsimp only;have hl2:=Wf (Vg G S r) (Cg l m g r);rw[X.ids_eq oo,Ad]
 ·unfold Gy;dsimp only;have hj2:j<G.length:=oo;obtain⟨x,hx,hx2⟩:=e3 _ (List.getElem_mem hj2);have hx3:x<S.length:=oo;rw[if_pos oo,jn_d,Am hj,Ad,Am hj2,Ad,hx,Am hx3,Ad,Au oo];have hv:Vg G S r j=decide (r.Few<=S[x]):=by
   unfold Vg;rw[Am hj2];dsimp only;rw[hx,Am hx3]
  rw[hv]
  by_cases c:r.Few<=S[x]
  .rw[if_pos c,gd_t oo,if_pos (decide_eq_true c)]
  .rw[if_neg c,if_neg (by simpa using c)]
 .unfold Gy;dsimp only;rw[if_neg oo]
theorem Aqz{l:List Aa}{r:Af}(hl:X.validL l=true)(hr:X.okRules r=true)(hn:l.length<=300){m:Ak}(h:Ac2 m){g:List Int}(hg:g.length<=1000000):
  ∃R:List Aa,Nc l m g r=some (Co (R.map (·.Id)))/\Ot l g m r=some R/\R.length<=300/\∀p∈R,p∈Cg l m g r:=by
 have hF:=Zy (m:=m) (g:=g) (r:=r) hl;have ha:=Agk (m:=m) (g:=g) (r:=r) hl;have hn0:=hF.n;have hlen:(Cg l m g r).length<=300:=by
  classical
  have h1:(Cg l m g r).length<=l.length:=Bm (X.nodup_of_ids hF.id) (fun x hx=>(Akp hx).1);omega
 obtain⟨x,b1,b2,b3⟩:=Aht hF;rcases b3 with⟨x0,_,x1,x2,x3⟩|⟨_,g0⟩
 .obtain⟨G,e1,f2,f3,f4⟩:=An1 hF hr b1 x0 x1 x3;obtain⟨S,e2,s2,s3⟩:=Ap8 (n:=(Cg l m g r).length) oo f3;have e3:=Aqy hl hr h.msh hg e1 f2 f3 e2 s2;have hm:=Aiz hF x1 x3;have hcan:=Ah8 hF ha x1 x2 x3;have hvl:x.1.V.length=(Cg l m g r).length:=by rw[x1];unfold vxL;rw[List.length_map]
  have hTl:x.1.T.length<=90000:=by
   have:=Ad5 (fun t ht=>(x3.mem t).1 ht) x3.nd;have h2:(vxL (Cg l m g r)).length=(Cg l m g r).length:=by unfold vxL;rw[List.length_map]
   rw[h2] at this;have h3:(Cg l m g r).length*(Cg l m g r).length<=300*300:=Nat.mul_le_mul hlen hlen;omega
  have hmod:∀t∈x.1.T,mod3 t:=fun t ht=>by
   obtain⟨t0,t1,t2,_⟩:=hm.t _ ht;unfold inN at t0 t1 t2;unfold mod3;omega
  obtain⟨S2,r1,r2,r3,r4,r5⟩:=Ata (T:=x.1.T) oo hmod;have hin:∀s∈S2,∃a b:Nat,s=⟨(a:Int),(b:Int)⟩/\a<(Cg l m g r).length/\b<(Cg l m g r).length:=fun s hs=>by
   obtain⟨t,ht,k,hk,rfl⟩:=(r3 s).1 hs;obtain⟨t0,t1,t2,_⟩:=hm.t _ ht;rw[hvl] at t0 t1 t2;unfold inN at t0 t1 t2;unfold cn3 pr2;split
   .exact⟨(min t.a0 t.a1).toNat,(max t.a0 t.a1).toNat,by rw[Int.toNat_of_nonneg oo,Int.toNat_of_nonneg oo],oo,oo⟩
   .split
    .exact⟨(min t.a1 t.a2).toNat,(max t.a1 t.a2).toNat,by rw[Int.toNat_of_nonneg oo,Int.toNat_of_nonneg oo],oo,oo⟩
    .exact⟨(min t.a2 t.a0).toNat,(max t.a2 t.a0).toNat,by rw[Int.toNat_of_nonneg oo,Int.toNat_of_nonneg oo],oo,oo⟩
  obtain⟨q0,q1,q2⟩:=Aoq (L:=Cg l m g r) hn0;obtain⟨q3,q4,q5⟩:=Amb hF hr (S:=S2) 0 oo hin q2;have n3:=q5.len;have ec:∀i j,Cnx (EdP (Cg l m g r) r x.1.T) i j↔Cnx (fun x y=>(⟨(x:Int),(y:Int)⟩:Ac)∈S2/\okE (Cg l m g r) r x y) i j:=fun i j=>by
   have ce:∀(t:Ag) (k:Nat),cn3 t k=pr2 (edT t k).1 (edT t k).2:=fun t k=>by
    unfold cn3 edT;split
    .rfl
    .split <;> rfl
   constructor
   .refine Cnx.mono fun x y=>?_
    rintro⟨⟨t,ht,k,hk,e⟩,o⟩;have hs:=(r3 _).2 ⟨t,ht,k,hk,rfl⟩;rw[ce,e] at hs;dsimp only at hs;unfold pr2 at hs
    by_cases c:x<=y
    .rw[Int.min_eq_left oo,Int.max_eq_right oo] at hs;exact .inl ⟨hs,o⟩
    .rw[Int.min_eq_right oo,Int.max_eq_left oo] at hs;exact .inr ⟨hs,Aos o⟩
   .refine Cnx.mono fun x y=>?_
    rintro⟨hs,o⟩;obtain⟨t,ht,k,hk,e⟩:=(r3 _).1 hs;rw[ce] at e;unfold pr2 at e;rw[Ac.mk.injEq] at e;have hd:edT t k=((x:Int),(y:Int))\/edT t k=((y:Int),(x:Int)):=by
     rcases he:edT t k with⟨u,w⟩
     rw[he] at e;dsimp only at e;rcases Int.le_total u w with c|c
     .rw[Int.min_eq_left c,Int.max_eq_right c] at e;exact .inl (by rw[e.1,e.2])
     .rw[Int.min_eq_right c,Int.max_eq_left c] at e;exact .inr (by rw[e.1,e.2])
    rcases hd with hd|hd
    .exact .inl ⟨⟨t,ht,k,hk,hd⟩,o⟩
    .exact .inr ⟨⟨t,ht,k,hk,hd⟩,Aos o⟩
  have hsame:∀i j (hi:i<q3.length) (hj:j<q3.length),q3[i]=q3[j]↔G[i]=G[j]:=fun i j hi hj=>by
   rw[q5.nm i j hi hj,f4 i j oo oo,ec]
  have hfilt:Fv (fun j=>decide (r.Few<=((q3.count ((q3[j]?).getD 0):Nat):Int))) (Cg l m g r)=Fv (Vg G S r) (Cg l m g r):=Amc fun j hj=>by
   have hj2:j<q3.length:=oo;have hj3:j<G.length:=oo;obtain⟨k,hk,hk2⟩:=f3 _ (List.getElem_mem hj3);have hk3:k<S.length:=oo;unfold Vg;rw[Am hj3];dsimp only;rw[hk,Am hk3];dsimp only;rw[s3 k hk3,List.getElem?_eq_getElem hj2,Option.getD_some,Ap9 (G:=q3) (G':=G) oo hsame hj2,hk]
  refine⟨Fv (Vg G S r) (Cg l m g r),e3,?_,Nat.le_trans (Wf _ _) hlen,fun p hp=>Agl hp⟩;have hd:X.Fit (X.dryL l r):=(X.Fit.of hl).filter _;unfold Ot;rw[jn_d,Aqx hl hr h hg,Ad];dsimp only;rw[X.bottoms_eq (hd.filter _),Ad,Adf (Fit.bot (hd.filter _)),Ad];change bnd (Fb (Cg l m g r)) _=_;rw[b2,Ad];unfold Sc;rw[hcan.chk,Ad,if_pos rfl,r1,Ad,Ad];change gd ((0:Int)<=(((Cg l m g r).length:Nat):Int)/\8*Int.toNat (((Cg l m g r).length:Nat):Int)<=140737488355328) _=_;rw[gd_t oo,jn_d];change bnd (lfix (Ff (Cg l m g r)) (List.replicate (Int.toNat (((Cg l m g r).length:Nat):Int)) (0:Int),0)) _=_;rw[q1,Ad];dsimp only;rw[jn_d];change bnd (lfix (Fg (S2,0) (Cg l m g r) r) (q0,0)) _=_;rw[q4,Ad];dsimp only;rw[jn_d];change bnd (lfix (Fh (Cg l m g r) r q3) (([]:List Aa),0)) _=_;rw[Aax (Cg l m g r) (fun j=>decide (r.Few<=((q3.count ((q3[j]?).getD 0):Nat):Int))) (Fh (Cg l m g r) r q3) (fun j hj s hs=>?_) (fun s=>?_),Ad,hfilt]
  .have hj2:j<q3.length:=oo;unfold Fh;dsimp only;rw[if_pos oo,jn_d,jn_d,Aot n3 hn0 (x:=(s,(j:Int))) rfl hj2,Ad,Au oo,List.getElem?_eq_getElem hj2,Option.getD_some];dsimp only
   by_cases c:r.Few<=((q3.count q3[j]:Nat):Int)
   .rw[if_pos c,if_pos (decide_eq_true c),Am hj,Ad,gd_t oo]
   .rw[if_neg c,if_neg (by simpa using c)]
  .unfold Fh;dsimp only;rw[if_neg oo]
 .exact absurd ha g0
theorem Au1{l:List Aa}{g:LI}(hl:X.validL l=true)(hi:g.length<=300)(hr:∀i∈g,-9223372036854775808<=i/\i<=9223372036854775807):∃x:Ak×Int,Bv l g=some x/\Lg l g=some x/\(x.2=0->Ac2 x.1):=by
 have hF:=X.Fit.of hl;unfold Bv Lg;rw[Zl hF hi hr,Ad,X.rvalid_eq,Ad,if_pos hl,Are hF hi,Ad]
 by_cases c2:Zk l g
 .rw[if_pos c2];dsimp only;obtain⟨x,r1,r2,r3⟩:=Aht (Fit.pick (ids:=g) hF);rw[if_pos rfl,if_pos rfl,r1,Ad,r2,Ad];refine⟨_,rfl,rfl,fun h0=>?_⟩;rcases r3 with⟨_,v0,v1,v2,v3⟩|⟨rfl,_⟩
  .exact Ah8 (Fit.pick hF) v0 v1 v2 v3
  .cases h0
 .rw[if_neg c2];dsimp only;rw[if_neg s_,if_neg s_];exact⟨_,rfl,rfl,fun h0=>by cases h0⟩
end
section
open Go
def Gm(p0:List Aa)(r0:Ak×Int)(p1:Af)(r2:LI×Int)(r1:LI):(LI×Int)->Option (Sum (LI×Int) LI):=fun s0=>
 if s0.2<(p0.length:Int) then (bnd (idx p0 s0.2) fun x0=>
 bnd (Mj r0.1 x0) fun r3=>
 jn (fun (s1:Int)=>
 gd ((s0.1.length+1)*8<=140737488355328)<|
 some (.inl (s0.1++[s1],w64 (s0.2+1))))
 (fun j0=>bnd (idx p0 s0.2) fun x1=>
 bnd (Ji p0 x1 p1) fun r4=>
 if r4=true then (j0 7)
 else (bnd (idx p0 s0.2) fun x2=>
 bnd (Es r2.1 x2.Id) fun r5=>
 if r5=true then (j0 2)
 else (if r3.2=true then (jn (fun (s2:Bool)=>
 if s2=true then (j0 7)
 else (bnd (idx p0 s0.2) fun x3=>
 bnd (Es r1 x3.Id) fun r6=>
 if r6=true then (j0 6)
 else (if p1.Brush<=r3.1.Lo then (j0 5)
 else (j0 1))))
 (fun j1=>if p1.High<r3.1.Lo then (j1 true)
 else (j1 (decide (r3.1.Hi<(w64 (-p1.Low)))))))
 else (j0 1)))))
 else (some (.inr s0.1))
def Da(p0:List Aa)(p1:Af):Option (LI×Int):=
 bnd (Gh p0 p1) fun r2=>
 if r2.2=0 then (bnd (Lg p0 r2.1) fun r0=>
 bnd (Ot p0 r2.1 r0.1 p1) fun r1=>
 bnd (Dl r1) fun r3=>
 jn (fun (s9:LI)=>
 some (s9,0))
 (fun j9=>bnd (lfix (Gm p0 r0 p1 r2 r3) (([]:LI),0)) fun t0=>
 j9 t0))
 else (some (([]:LI),r2.2))
def Do(p0:List Aa)(p1:Af):Option Bool :=
 bnd (Qg p0 16) fun r2=>
 if r2=true then (bnd Kt fun r7=>
 some r7)
 else (bnd (Im p0 p1) fun r0=>
 bnd (Da p0 p1) fun r1=>
 jn (fun (s7:Bool)=>
 some s7)
 (fun j7=>bnd (Jq r0.1 r1.1) fun r3=>
 if r3=true then (if r0.2=r1.2 then (bnd Kt fun r4=>
 j7 r4)
 else (j7 false))
 else (j7 false)))
instance(p0:List Aa)(p1:Af):Con (Da p0 p1) prog 24 (fun K vs=>∃U0 E0,vs=[.slice U0 p0.length E0,.agg #[.int .i64 p1.Cell,.int .i64 p1.Reach,.int .i64 p1.Slope,.int .i64 p1.Link,.int .i64 p1.Flat,.int .i64 p1.Tall,.int .i64 p1.High,.int .i64 p1.Low,.int .i64 p1.Brush,.int .i64 p1.Few]]/\Has K U0 p0.length E0 9 Ah p0/\True) (fun _ r=>fun v Ln=>∃A0 c0,v=.tuple #[.slice A0 r.1.length c0,.int .i64 r.2]/\Ln=[.r A0 r.1.length c0 3 1 (r.1.flatMap Aj)]/\True):=⟨by
 rintro K _ r ⟨U0,E0,rfl,ha0,-⟩ hx w hK;replace ha0:=ha0.lo hK;unfold Da at hx;have:=dl 10 [1,0,0,0,1,2,0,0,0,4,3,2] [0,1,2,3,4,5,6,7,8,9,10,11] [9];have:=dl 12 [0,0,0,0,1,1,2,2] [0,1,2,3,4,5,6,7];refine CtS ntmps24 results24 ?_;refine pq ?_;intros;rename_i hx
 refine Cq2 (s:=23) hx rfl ?_ ?_
 .exact aI
 .refine pI ?_;intros;rename_i hx
  refine pA ?_;intros;rename_i hx
  apply Jr (γ:=OA×Nat) hx [] (fun s9 y9 f=>(11,.slice y9.1 s9.length y9.2)::f) [999] (fun s9 y9 l=>.r y9.1 s9.length y9.2 3 1 (s9.flatMap Aj)::l);exact kk
  .exact aI
  .refine pI ?_;intros;rename_i hx
   refine Bb 3 1 ?_;apply Lr (γ:=OA×Nat) hx [0,3,6,8,10] (fun s0 y0 f=>(11,.slice y0.1 s0.1.length y0.2)::(12,.int .i64 s0.2)::f) [1,3,4,5,6,7,8,999] (fun s0 y0 l=>.r y0.1 s0.1.length y0.2 3 1 (s0.1.flatMap Aj)::l) (_,_);exact kk;exact sk;intro s0 y0 x0 hx _;unfold Gm at hx;refine pq ?_;intros;rename_i hx
   refine Cq1 (s:=40) hx rfl ?_ ?_
   .refine pI ?_;intros;rename_i hx
    refine pA ?_;intros;rename_i hx
    apply Jr (γ:=Unit) hx [0,3,6,8,10,11,12] (fun s1 y1 f=>(15,.int .i64 s1)::f) [1,2,3,4,5,6,7,8,999] (fun s1 y1 l=>l);exact kk
    .exact aI
    .refine pI ?_;intros;rename_i hx
     refine Cq3 (s:=52) hx rfl ?_ ?_
     .exact aI
     .refine pI ?_;intros;rename_i hx
      refine Cq3 (s:=60) hx rfl ?_ ?_
      .exact aI
      .refine pI ?_;intros;rename_i hx
       refine Cq4 (s:=68) hx rfl ?_ ?_
       .exact aI
       .refine pI ?_;intros;rename_i hx
        apply Jr (γ:=Unit) hx [0,3,6,8,10,11,12,13,15] (fun s2 y2 f=>(71,.bool s2)::f) [0,1,2,3,4,5,6,7,8,999] (fun s2 y2 l=>l);exact kk
        .exact aI
        .exact aI
   .exact aI⟩
instance Ws(p0:List Aa)(p1:Af):Con (Do p0 p1) prog 7 (fun K vs=>∃U0 E0,vs=[.slice U0 p0.length E0,.agg #[.int .i64 p1.Cell,.int .i64 p1.Reach,.int .i64 p1.Slope,.int .i64 p1.Link,.int .i64 p1.Flat,.int .i64 p1.Tall,.int .i64 p1.High,.int .i64 p1.Low,.int .i64 p1.Brush,.int .i64 p1.Few]]/\Has K U0 p0.length E0 9 Ah p0/\True) (fun _ r=>fun v Ln=>v=.bool r/\Ln=[]/\True):=⟨by
 rintro K _ r ⟨U0,E0,rfl,ha0,-⟩ hx w hK;replace ha0:=ha0.lo hK;unfold Do at hx;refine CtS ntmps7 results7 ?_;exact au⟩
theorem Wk(p0:List Aa)(p1:Af){K:LE}{U0:OA}{E0:Nat}(ha0:Has K U0 p0.length E0 9 Ah p0){r:Bool}(hx:Do p0 p1=some r)(w:World)(hK:∀e∈K,Ent.ok w e):CtL prog 7 [.slice U0 p0.length E0,.agg #[.int .i64 p1.Cell,.int .i64 p1.Reach,.int .i64 p1.Slope,.int .i64 p1.Link,.int .i64 p1.Flat,.int .i64 p1.Tall,.int .i64 p1.High,.int .i64 p1.Low,.int .i64 p1.Brush,.int .i64 p1.Few]] w fun v Ln=>v=.bool r/\Ln=[]/\True:=(Ws p0 p1).h K _ _ ⟨_,_,rfl,ha0,trivial⟩ hx w hK
end
section
open Go Go.Sort
section
variable {l:List Aa}{r:Af}{C:List Aa}(hc:Ctx l r C)
include hc
theorem Aou{m:Ak}(h:Ac2 m){g T:LI}(hg:g.length<=1000000)(hT:T.length<=1000000)(e e':Int):lfix (Gm l (m,e) r (g,e') T) (([]:LI),0)=some (l.map (Ad3 m r (Ago l r) g T)):=by
 have hF:=X.Fit.of hc.val;have hn:=hF.n;have hrr:=X.okRules_rng hc.rul;refine Aok l (Ad3 m r (Ago l r) g T) _ (fun j hj s hs=>?_) (fun s=>?_)
 .have hp:=hF.ok _ (List.getElem_mem hj);have hk:=Axs hc (List.getElem_mem hj);unfold Gm;dsimp only;rw[if_pos oo,Am hj,Ad,Aop h hp,Ad,jn_d,Au oo,Aq (x:=-r.Low) oo oo];simp only[Ad,has_eq hg,has_eq hT,X.rsunk_eq hc.val hc.rul hp,gd_t (show (s.length+1)*8<=140737488355328 by omega)];unfold Ad3;rw[show Ago l r=Co ((X.sunkL l r).map (·.Id)) from rfl]
  by_cases c1:X.sunkB l r l[j]=true
  .rw[if_pos c1,if_pos (hk.2 c1)]
  .rw[if_neg c1,if_neg (fun h=>c1 (hk.1 h))]
   by_cases c2:l[j].Id∈g
   .rw[if_pos (decide_eq_true c2),if_pos c2]
   .rw[if_neg (by simpa using c2),if_neg c2];cases Abb m.V m.T l[j] with
    |none=>rfl
    |some z=>
     dsimp only;rw[if_pos rfl,jn_d]
     by_cases c3:r.High<z.Lo
     .rw[if_pos c3];dsimp only;rw[if_pos rfl,if_pos (.inl c3)]
     .rw[if_neg c3];dsimp only
      by_cases c4:z.Hi < -r.Low
      .simp[c3,c4]
      .by_cases c5:l[j].Id∈T
       .simp[c3,c4,c5]
       .by_cases c6:r.Brush<=z.Lo
        .simp[c3,c4,c5,c6]
        .simp[c3,c4,c5,c6]
 .unfold Gm;dsimp only;rw[if_neg oo]
theorem Amd(hC:Cx l r=some C):∃cl,Lc l r=some cl/\Da l r=some (cl,0)/\cl.length=l.length:=by
 obtain⟨g,e,hG⟩:=Anz hc hC;have hg:=hG.ok;have e':=Ajn hc hC;rw[e] at e';have e0:=Option.some.inj e';have hgl:=GOk.len hg;have hcl:=hc.len;obtain⟨G,S,a1,a2,a3,a4⟩:=Aol hc hg e;obtain⟨hs,_,_,_,_⟩:=Anx hc hg;obtain⟨x,b1,b2,b3⟩:=Au1 hc.val (g:=g) oo (fun i hi=>GOk.rng hc hg hi);rw[hs] at b1;obtain rfl:=Option.some.inj b1;obtain⟨R,f1,f2,f3,f4⟩:=Aqz hc.val hc.rul hc.few (b3 rfl) (g:=g) oo;rw[a3] at f1;have f5:=Option.some.inj f1;refine⟨_,a4,?_,List.length_map _⟩;unfold Da;rw[Aqw hc,<-e0,Ad];dsimp only;rw[if_pos rfl,b2,Ad];dsimp only;rw[f2,Ad,X.rids_eq oo,Ad,jn_d,<-f5,Aou hc (b3 rfl) oo (by rw[(X.perm_sortI _).length_eq,List.length_map];have:=congrArg List.length f5;rw[(X.perm_sortI _).length_eq,(X.perm_sortI _).length_eq,List.length_map,List.length_map] at this;omega),Ad]
end
theorem Aov{l:List Aa}{r:Af}(hl:l.length<=300):∃x:LI×Int,Im l r=some x/\Da l r=some x/\x.1.length<=300:=by
 by_cases c1:X.okRules r=true
 .by_cases c2:X.validL l=true
  .obtain⟨C,hC,hc⟩:=Bdr c2 c1 hl;obtain⟨cl,e1,e2,e3⟩:=Amd hc hC;exact⟨_,Aom c2 c1 e1,e2,by dsimp only;omega⟩
  .refine⟨([],70),?_,?_,s_⟩
   .unfold Im;rw[X.checked_eq,if_pos c1,if_neg c2];rfl
   .unfold Da Gh;rw[X.rSeeds_eq,if_pos c1,if_neg c2];rfl
 .refine⟨([],71),?_,?_,s_⟩
  .unfold Im;rw[X.checked_eq,if_neg c1];rfl
  .unfold Da Gh;rw[X.rSeeds_eq,if_neg c1];rfl
theorem Ad4(l:List Aa)(r:Af):Do l r=some true:=by
 unfold Do;rw[X.many_eq,Ad]
 by_cases c:(300<l.length\/(16:Int)<(l.length:Int)/\X.validL l=true)
 .rw[if_pos (by simpa using c),X.first_eq,Ad]
 .rw[if_neg (by simpa using c)];obtain⟨x,e1,e2,h1⟩:=Aov (l:=l) (r:=r) oo;rw[e1,Ad,e2,Ad,jn_d,X.sameInts_self oo,Ad,if_pos rfl,if_pos rfl,X.first_eq,Ad]
end
section
open Go.ChangeShapes Go.WideShapes Go.ChangeAt
theorem own2:ownKnob prog.godebug=none:=kr
theorem Aow:laidOutB prog=true:=kr
def rI64(z:Int):Prop:=-9223372036854775808<=z/\z<=9223372036854775807
theorem Aq0{cs:LV}{o:Nat}(h:cs.length=o):cs.drop o=[]:=by rw[<-h,List.drop_length]
theorem Je{cs X R:LV}{o k o':Nat}(h1:(cs.drop o).take k=X)(h2:cs.drop o'=R)(ho:o'=o+k):cs.drop o=X++R:=by
 subst ho;rw[<-h1,<-h2,<-List.drop_drop,List.take_append_drop]
section
variable {H:Type}{enc:TypeId×Value->H}{w:World}{base:Nat}{spare:Nat->Bool}{held:Bool}{P:Program}
theorem Bed{t:TypeId}(ht:P.underlying t=some (.int .i64)){fuel:Nat}{cs:LV}{x:DataW H×List MemPlace}(h:DataW.trod enc P w base spare held fuel t cs=some x):∃z:Int,cs=[.int .i64 z]/\rI64 z:=by
 obtain⟨n,hc,_,hw⟩:=DataW.trod_int ht h;refine⟨n,hc,?_⟩;have h1:IntKind.i64.min = -9223372036854775808:=rfl;have h2:IntKind.i64.max=9223372036854775807:=rfl;simp only[Lit.wf,Bool.and_eq_true,decide_eq_true_eq] at hw;unfold rI64;omega
theorem Ay0{α:Type}{en:α->List Value}{okα:α->Prop}{t e:TypeId}{sz:Nat}(ht:P.underlying t=some (.slice e))(hsz:P.cellsOf e=sz)(hp:0<sz)(hel:∀ {fuel:Nat} {cs:List Value} {x:DataW H × List MemPlace},DataW.trod enc P w base spare held fuel e cs=some x->∃ v,cs=en v/\okα v){fuel:Nat}{cs:List Value}{x:DataW H × List MemPlace}(h:DataW.trod enc P w base spare held fuel t cs=some x):
  ∃(v:List α) (A:OA) (c:Nat),cs=[.slice A v.length c]/\Has [.old w] A v.length c sz en v/\∀z∈v,okα z:=by
 rcases Go.Deep.open_slice ht h with⟨rfl,_⟩|⟨a,len,cap,m,n,D,Pl,rfl,hb,hl,hm,hmm,_,hx⟩
 .exact⟨[],none,0,rfl,Has.nil,fun z hz=>by simp at hz⟩
 .have hle:len<=m:=by rw[hmm];split <;> omega
  have key:∀k,k<=len->∃v:List α,v.length=k/\(∀z∈v,okα z)/\∀i (hi:i<v.length),w.cells? base (a.add (i*sz)) sz=some (en v[i]):=by
   intro k
   induction k with
   |zero=>intro _;exact⟨[],rfl,fun z hz=>by simp at hz,fun i hi=>by simp at hi⟩
   |succ k ih=>
    intro hk;obtain⟨v,h1,h2,h3⟩:=ih oo;obtain⟨cs',h4,h5⟩:=hx k oo;obtain⟨z,rfl,hz⟩:=hel h5;rw[hsz] at h4;refine⟨v++[z],by simp[h1],fun y hy=>?_,fun i hi=>?_⟩
    .rcases List.mem_append.1 hy with hy|hy
     .exact h2 y hy
     .simp at hy;subst hy;exact hz
    .simp at hi;rcases Nat.lt_or_ge i v.length with hlt|hge
     .rw[List.getElem_append_left hlt];exact h3 i hlt
     .have:i=k:=oo;subst this;rw[List.getElem_append_right hge];simp[h1];exact h4
  obtain⟨v,h1,h2,h3⟩:=key len (Nat.le_refl _);subst h1;have hesz:∀z∈v,(en z).length=sz:=by
   intro z hz;obtain⟨i,hi,rfl⟩:=List.getElem_of_mem hz;exact (World.cells?_some (h3 i hi)).2.1
  have hsl:Sl w (some a) v.length cap sz en v:=by
   refine⟨rfl,hl,hm,hesz,fun hn=>?_⟩;have hsp:a.spot=none:=by
    have h4:=(World.cells?_some (h3 0 hn)).2.2 0 hp;have h5:(en v[0])[0]? = some ((en v[0])[0]'(by rw[hesz _ (List.getElem_mem hn)];exact hp)):=List.getElem?_eq_getElem _;rw[h5] at h4;simp only[Nat.zero_mul,Addr.add,if_true] at h4;unfold World.cell? at h4;split at h4
    .split at h4
     .cases h4
     .rename_i hs;simpa using hs
    .cases h4
   obtain⟨b,o,sp⟩:=a;have hsp:sp=none:=hsp;subst hsp;refine⟨b,o,rfl,fun i hi j u hu=>?_⟩;have hj:j<sz:=by rw[<-hesz _ (List.getElem_mem hi)];exact (List.getElem?_eq_some_iff.1 hu).1
   have h4:=(World.cells?_some (h3 i hi)).2.2 j hj;rw[hu,Addr.add_lit,Addr.add_lit] at h4;exact h4
  exact⟨v,some a,cap,rfl,hsl.has,h2⟩
end
theorem Bfo(w:World):∀e∈[Ent.old w],Ent.ok w e:=fun e he=>by simp at he;subst he;exact⟨Below.refl _ _,Nat.le_refl _⟩
end
end
end Go.Proofs.YthlkpgdfifnagaaGreat
