import Derived.Test.YthlkpgdfifnagaaGreatI19
namespace Go.Proofs.YthlkpgdfifnagaaGreat
open Go Go.RowKit List
namespace X
def isCl(n:Int):Bool:=decide (n=0\/n=1\/n=2\/n=5\/n=6\/n=7)
theorem Arh(n:Int):Ky n=some (isCl n):=by
 simp only[Ky,jn_d,isCl];grind
theorem Avs(n:Int):Lg n=some (isCl n):=by
 simp only[Lg,jn_d,isCl];grind
def okEdit(e:Bc):Bool:=isCl e.To&&(decide (e.Ring.length=0) || Wc e.Ring&&(decide (e.From = -1) || isCl e.From))
theorem validEdits_eq(l:List Bc):Py l=some (if 64<l.length then 2 else if l.all okEdit=true then 0 else 73):=by
 unfold Py
 by_cases h:64<l.length
 .rw[iP oo,iP h]
 .rw[iN oo,iN h,jn_d];rw[Uf (β:=Unit) (γ:=Int) l okEdit (Kd l) () 73 ?_ ?_,Ac]
  .by_cases hk:l.all okEdit=true <;> simp[hk]
  .intro j hj;simp only[Kd,iP (oo:(j:Int)<(l.length:Int)),Aj hj,Ac,jn_d,Afz,Arh,As (oo:j<9223372036854775807)];generalize l[j]=e;unfold okEdit
   by_cases h0:e.Ring.length=0
   .rw[iN oo];cases isCl e.To <;> simp[h0]
   .rw[iP oo];have hp:(0:Int)<(e.Ring.length:Int):=oo
    by_cases h1:e.From = -1 <;> cases Wc e.Ring <;> cases isCl e.To <;> cases isCl e.From <;> simp[h0,h1,hp]
    all_goals (try omega)
  .simp only[Kd,Int.lt_irrefl,if_false]
theorem Ajv{l:List Bc}(hl:l.length<=100)(hr:∀e∈l,e.Ring.length<=200):lfix (Et l) 0=some (if l.all okEdit=true then .inl () else .inr ([],73)):=by
 refine Uf l okEdit (Et l) () ([],73) ?_ ?_
 .intro j hj;have hre:=hr _ (gM hj);simp only[Et,iP (oo:(j:Int)<(l.length:Int)),Aj hj,Ac,jn_d,ring_eq (oo:l[j].Ring.length<=1000),Avs,As (oo:j<9223372036854775807)];generalize l[j]=e;unfold okEdit
  by_cases h0:e.Ring.length=0
  .rw[iN (oo:¬(0:Int)<(e.Ring.length:Int))];cases isCl e.To <;> simp[h0]
  .rw[iP (oo:(0:Int)<(e.Ring.length:Int))]
   by_cases h1:e.From = -1 <;> cases Wc e.Ring <;> cases isCl e.To <;> cases isCl e.From <;> simp[h0,h1]
 .simp only[Et,Int.lt_irrefl,if_false]
def appB(p:Aa)(c:Int)(e:Bc):Bool:=if e.Ring.length=0 then decide (e.Id=p.Id) else decide (e.From = -1\/e.From=c)&&insB ⟨p.X,p.Y⟩ (Abb e.Ring)
def editF(p:Aa)(c:Int)(e:Bc):Int:=if appB p c e=true then e.To else c
def outC(l:List Aa)(cl:LI)(es:List Bc):LI:=(l.zip cl).map fun x=>es.foldl (editF x.1) x.2
theorem Atp{p:Aa}(h:okPt p=true):okXY ⟨p.X,p.Y⟩=true:=by
 have:=okPt_rng h;simp only[okXY,dQ];omega
theorem Ari{e:Bc}(he:okEdit e=true){p:Aa}(hp:okPt p=true)(c:Int):Ui e p c=some (appB p c e):=by
 simp only[Ui,jn_d,Bp,Ac,appB]
 by_cases h0:e.Ring.length=0
 .rw[iP oo,iP h0]
 ·rw[if_neg oo,if_neg h0];have hr:Wc e.Ring=true:=by
   simp only[okEdit,h0,decide_false,Bool.false_or,Bool.and_eq_true] at he;exact he.2.1
  obtain⟨h1,h2,h3⟩:=Acx hr;rw[Al1 h3 oo oo (Atp hp),Ac]
  by_cases c1:e.From = -1 <;> by_cases c2:e.From=c <;> simp[c1,c2]
  all_goals (try (intro h;omega))
  all_goals (try omega)
theorem Agp(p:Aa)(i:Nat):∀ (es:List Bc) (out:List Int) (hi:i<out.length),
  es.foldl (fun o e=>if appB p (o.getD i 0) e=true then o.set i e.To else o) out=out.set i (es.foldl (editF p) (out[i]))
 |[],out,hi=>s_
 |e::r,out,hi=>by
  rw[foldl_cons,foldl_cons];have hg:out.getD i 0=out[i]:=by rw[List.getD_eq_getElem?_getD,gE hi];rfl
  rw[hg];unfold editF
  by_cases h:appB p out[i] e=true
  .rw[iP h,iP h];have:=Agp p i r (out.set i e.To) (sV hi);rw[this];simp[editF];rfl
  .rw[iN h,iN h];exact Agp p i r out hi
theorem corrected_eq{l:List Aa}(hf:Fit l){cl:LI}(hc:cl.length=l.length){es:List Bc}(hes:es.length<=100)(hok:∀e∈es,okEdit e=true):Rn l cl es=some (outC l cl es):=by
 have hn:=hf.n;unfold Rn Yp;rw[gd_t oo,Ac,jn_d];have inner:∀(i:Nat) (hi:i<l.length) (out:LI) (ho:out.length=l.length),lfix (Ij es (out,(i:Int)) l[i]) (out,0)=some (out.set i (es.foldl (editF l[i]) (out[i]'oo))):=by
  intro i hi out ho;have hp:=hf.ok _ (gM hi);have key:=Im es (fun (s:LI) (j:Int)=>(s,j)) (fun o e=>.inl (if appB l[i] (o.getD i 0) e=true then o.set i e.To else o)) (id:LI->LI) (Ij es (out,(i:Int)) l[i]) (fun _ o=>o.length=l.length) ?_ ?_ out ho
  .rw[key,Qn,Agp l[i] i es out oo];rfl
  .intro j hj o hC;left;have hio:i<o.length:=oo;have hg:o.getD i 0=o[i]:=by rw[List.getD_eq_getElem?_getD,gE hio];rfl
   refine⟨_,rfl,?_,by split <;> simp[hC]⟩;simp only[Ij,iP (oo:(j:Int)<(es.length:Int)),jn_d,Aj hj,Aj hio,Ac,Ari (hok _ (gM hj)) hp,Fo,hg,As (oo:j<9223372036854775807)];split <;> rfl
  .intro o _;simp only[Ij,Int.lt_irrefl,if_false,id]
 refine Exists.elim (Ax (B:=Me l es) (fun z=>l.length-z.2.toNat) (fun z=>∃j:Nat,z.2=(j:Int)/\j<=l.length/\z.1=(outC l cl es).take j++cl.drop j) (fun t=>t=outC l cl es) ?_ (cl,0) ⟨0,rfl,Nat.zero_le _,s_⟩) (fun t ht=>?_)
 .rintro⟨o,z⟩ ⟨j,rfl,hj,ho⟩;dsimp only at ho;have hol:(outC l cl es).length=l.length:=by simp[outC,hc]
  rcases Nat.lt_or_ge j l.length with hlt|hge
  .left;have hlen:o.length=l.length:=by rw[ho];simp[hol,hc];omega
   have hcl:j<cl.length:=oo;have hget:o[j]'oo=cl[j]:=by
    subst ho;rw[getElem_append_right (by simp[hol];omega)];simp[hol,Nat.min_eq_left (Nat.le_of_lt hlt)]
   refine⟨(o.set j (es.foldl (editF l[j]) cl[j]),((j+1:Nat):Int)),?_,⟨j+1,rfl,hlt,?_⟩,by simp;omega⟩
   .have:=inner j hlt o hlen;rw[hget] at this;simp only[Me,iP (oo:(j:Int)<(l.length:Int)),jn_d,Aj hlt,Ac,this,As (oo:j<9223372036854775807)]
   .dsimp only;have h1:((outC l cl es).take j).length=j:=by simp[hol];omega
    rw[ho,set_append_right _ _ oo,h1,Nat.sub_self,drop_eq_getElem_cons hcl,set_cons_zero];have h2:(outC l cl es).take (j+1)=(outC l cl es).take j++[es.foldl (editF l[j]) cl[j]]:=by
     rw[take_add_one,gE oo];simp[outC]
    rw[h2,append_assoc];rfl
  .right;obtain rfl:j=l.length:=oo;refine⟨o,by simp only[Me,Int.lt_irrefl,if_false],?_⟩;rw[ho,<-hol,take_length,hol,<-hc,drop_length,append_nil]
 .rw[ht.1,Ac,ht.2]
def corrS(l:List Aa)(cl:LI)(es:List Bc):LI×Int :=
 if validL l=true then (if cl.length=l.length/\es.length<=64 then (if es.all okEdit=true then (outC l cl es,0) else ([],73)) else ([],2)) else ([],70)
theorem Ao7{l:List Aa}(hf:Fit l){es:List Bc}(hes:es.length<=100)(hok:∀ e∈es,okEdit e=true)(hr:∀ e∈es,e.Ring.length<=200)(acc:List Int){i:Nat}(hi:i<l.length)(c:Int):
  lfix (Dw es l (acc,(i:Int))) (c,0)=some (es.foldl (editF l[i]) c):=by
 have hp:=hf.ok _ (gM hi);have key:=Im es (fun (s:Int) (j:Int)=>(s,j)) (fun c e=>.inl (editF l[i] c e)) (id:Int->Int) (Dw es l (acc,(i:Int))) (fun _ _=>True) ?_ ?_ c trivial
 .rw[key,Qn];rfl
 .intro j hj c _;left;refine⟨_,rfl,?_,trivial⟩;have hre:=hr _ (gM hj);have hoe:=hok _ (gM hj);have hxy:(⟨l[i].X,l[i].Y⟩:Ab)=⟨l[i].X,l[i].Y⟩:=rfl;simp only[Dw,iP (oo:(j:Int)<(es.length:Int)),jn_d,Aj hj,Aj hi,Ac,Ar0 (oo:es[j].Ring.length<=1000),As (oo:j<9223372036854775807)];unfold editF appB;generalize es[j]=e at hre hoe ⊢
  by_cases h0:e.Ring.length=0
  .rw[iP (oo:(e.Ring.length:Int)=0),iP h0]
   by_cases h1:e.Id=l[i].Id <;> simp[h1]
  ·rw[if_neg (show ¬ (e.Ring.length:Int)=0 by omega),if_neg h0];have hrg:Wc e.Ring=true:=by
    simp only[okEdit,h0,decide_false,Bool.false_or,Bool.and_eq_true] at hoe;exact hoe.2.1
   have hw:Aab e.Ring ⟨l[i].X,l[i].Y⟩=(insB ⟨l[i].X,l[i].Y⟩ (Abb e.Ring),0):=by unfold Aab;rw[iP hrg,iP (Atp hp)]
   rw[hw];cases insB ⟨l[i].X,l[i].Y⟩ (Abb e.Ring) <;> by_cases h1:e.From = -1 <;> by_cases h2:e.From=c <;> simp[h1,h2]
   all_goals (try omega)
 .intro s _;simp only[Dw,Int.lt_irrefl,if_false,id]
theorem rCorrect_eq(l:List Aa)(cl:LI){es:List Bc}(hes:es.length<=100)(hr:∀e∈es,e.Ring.length<=200):Mi l cl es=some (corrS l cl es):=by
 simp only[Mi,rvalid_eq,Ac,jn_d,Ajv hes hr,corrS]
 by_cases hl:validL l=true
 .have hf:=Fit.of hl;have hn:=hf.n
  by_cases hc:cl.length=l.length
  .by_cases he:es.length<=64
   .have h64:¬(64:Int)<(es.length:Int):=oo
    by_cases hk:es.all okEdit=true
    .have hok:∀e∈es,okEdit e=true:=fun e hm=>all_eq_true.1 hk e hm
     have hol:(outC l cl es).length=l.length:=by simp[outC,hc]
     simp only[hl,if_true,hc,h64,decide_false,Bool.false_eq_true,if_false,hk,he,and_self];refine Exists.elim (Ax (B:=Gq l cl es) (fun z=>l.length-z.2.toNat) (fun z=>∃j:Nat,z.2=(j:Int)/\j<=l.length/\z.1=(outC l cl es).take j) (fun t=>t=outC l cl es) ?_ ([],0) ⟨0,rfl,Nat.zero_le _,s_⟩) (fun t ht=>?_)
     .rintro⟨o,z⟩ ⟨j,rfl,hj,ho⟩;dsimp only at ho;rcases Nat.lt_or_ge j l.length with hlt|hge
      .left;have hcl:j<cl.length:=oo;have hlen:o.length=j:=by rw[ho];simp[hol];omega
       refine⟨(o++[es.foldl (editF l[j]) cl[j]],((j+1:Nat):Int)),?_,⟨j+1,rfl,hlt,?_⟩,by simp;omega⟩
       .simp only[Gq,iP (oo:(j:Int)<(l.length:Int)),jn_d,Aj hcl,Ac,Ao7 hf hes hok hr o hlt,gd_t (oo:(o.length+1)*8<=140737488355328),As (oo:j<9223372036854775807)]
       .dsimp only;have hj2:j<(outC l cl es).length:=by rw[hol];exact hlt
        have e:(outC l cl es).take (j+1)=(outC l cl es).take j++[(outC l cl es)[j]]:=by rw[take_add_one,gE hj2];rfl
        rw[e,<-ho];congr 2;simp[outC]
      .right;obtain rfl:j=l.length:=oo;refine⟨o,by simp only[Gq,Int.lt_irrefl,if_false],?_⟩;rw[ho,<-hol,take_length]
     .rw[ht.1,Ac,ht.2]
    .simp[hl,hc,h64,hk,he]
   .have h64:(64:Int)<(es.length:Int):=oo;simp[hl,hc,h64,he]
  .have:¬(cl.length:Int)=(l.length:Int):=oo;simp only[hl,if_true,iN this,hc,false_and,if_false]
 .simp[hl]
theorem large_eq(l:List Bc):Qa l=some (!decide (l.length<=100/\∀e∈l,e.Ring.length<=200)):=by
 unfold Qa
 by_cases h:100<l.length
 .have h':¬l.length<=100:=oo;rw[iP oo];simp[h']
 .have h':l.length<=100:=oo;rw[iN oo,jn_d];rw[Uf (β:=Unit) (γ:=Bool) l (fun e=>decide (e.Ring.length<=200)) (Kg l) () true ?_ ?_,Ac]
  .by_cases hk:∀e∈l,e.Ring.length<=200
   .rw[iP (all_eq_true.2 fun e he=>dT (hk e he)),dT ⟨h',hk⟩];rfl
   .rw[iN (fun h'=>hk fun e he=>of_decide_eq_true (all_eq_true.1 h' e he)),dF (fun h'=>hk h'.2)];rfl
  .intro j hj;simp only[Kg,iP (oo:(j:Int)<(l.length:Int)),Aj hj,Ac,As (oo:j<9223372036854775807)]
   by_cases h2:l[j].Ring.length<=200
   .rw[iN oo];simp[h2]
   .rw[iP oo];simp[h2]
  .simp only[Kg,Int.lt_irrefl,if_false]
end X
section
open Go.Sort
def setC(p:Aa)(c:Int):Aa:=⟨p.Id,p.X,p.Y,p.Z,p.Wide,p.Num,p.Of,c⟩
def lblL(s:List Aa)(cl:LI):List Aa:=(s.zip cl).map fun x=>setC x.1 x.2
theorem Bb8{s:List Aa}{cl:LI}(h:cl.length=s.length):(lblL s cl).length=s.length:=by
 unfold lblL;rw[length_map,length_zip];omega
theorem Bb9{s:List Aa}{cl:LI}{j:Nat}(hj:j<(lblL s cl).length)(h1:j<s.length)(h2:j<cl.length):(lblL s cl)[j]=setC s[j] cl[j]:=by
 simp only[lblL,getElem_map,getElem_zip]
theorem Aze{s:List Aa}{cl:LI}(h:cl.length=s.length)(hn:s.length<=1000000):lfix (Rd cl) (s,0)=some (lblL s cl):=by
 have:=Ax (B:=Rd cl) (fun x=>cl.length-x.2.toNat) (fun x=>∃k:Nat,k<=cl.length/\x.2=(k:Int)/\x.1.length=s.length/\∀(j:Nat) (h1:j<x.1.length) (h2:j<s.length) (h3:j<cl.length),x.1[j]=if j<k then setC s[j] cl[j] else s[j])
  (fun t=>t=lblL s cl) (fun x hx=>by
  obtain⟨t,i⟩:=x;obtain⟨k,hk,hi,hl,hg⟩:=hx;dsimp only at hi hl hg;subst hi;unfold Rd;dsimp only
  by_cases hk2:k<cl.length
  .left;have hk3:k<t.length:=oo;have hk4:k<s.length:=oo;rw[iP oo,Aj hk2,Ac,Aj hk3,Ac,As oo,Fo];refine⟨_,rfl,⟨k+1,hk2,rfl,by rw[length_set];exact hl,fun j h1 h2 h3=>?_⟩,by dsimp only;omega⟩;dsimp only at h1⊢;rw[length_set] at h1;rw[getElem_set]
   by_cases e:k=j
   .subst e;have:=hg k hk3 hk4 hk2;rw[iN oo] at this;rw[iP rfl,iP oo,this];rfl
   .rw[iN e,hg j h1 h2 h3]
    by_cases c:j<k
    .rw[iP c,iP oo]
    .rw[iN c,iN oo]
  .right;rw[iN oo];refine⟨_,rfl,?_⟩;have hke:k=cl.length:=oo;refine ext_getElem (by rw[Bb8 h];exact hl) fun j h1 h2=>?_
   have h3:j<s.length:=oo;rw[hg j h1 h3 oo,iP oo,Bb9 h2 h3 oo]) (s,0) ⟨0,oo,rfl,rfl,fun j h1 h2 h3=>by rw[iN oo]⟩
 obtain⟨t,e,rfl⟩:=this;exact e
theorem Azf{l:List Aa}(h:X.Fit l):X.validL l=true:=by
 unfold X.validL;rw[Bool.and_eq_true,Bool.and_eq_true,dQ,dQ,all_eq_true];exact⟨⟨h.n,h.ok⟩,h.id⟩
theorem Azg{l:List Aa}{r:Af}(hl:X.validL l=true)(hr:X.okRules r=true){cl:List Int}(e:Gl (Bf Hn l) r=some cl)(hcl:cl.length=l.length){es:List Bc}(hes:es.length<=64):
  Nv l r es=some (if es.all X.okEdit=true then (lblL (Bf Hn l) (X.outC (Bf Hn l) cl es),0) else ([],73)):=by
 have hF:=X.Fit.of hl;have hn:=hF.n;have hp:=Db Hn l;have hf:X.Fit (Bf Hn l):=hF.perm hp.symm;unfold Nv;rw[X.checked_eq,iP hr,iP hl,Ac,iP rfl,X.validEdits_eq,iN oo,Ac]
 by_cases c:es.all X.okEdit=true
 .rw[iP c,iP c,iP rfl];unfold Uz;rw[gd_t oo,Ac,gd_t ⟨oo,fun x hx=>⟨hx,Xi hF⟩⟩,jn_d,e,Ac,X.corrected_eq hf (by rw[hp.length_eq];exact hcl) oo (all_eq_true.1 c),Ac,Aze ?_ (by rw[hp.length_eq];omega),Ac];unfold X.outC;rw[length_map,length_zip,hp.length_eq];omega
 .rw[iN c,iN c,iN oo]
theorem Adf(r:Af)(p:Aa):∀ (l:List Aa) (s:Bool),((match X.foldE (X.sunkF p r) (.inl (β:=Bool)) l s with | .inl b=>b | .inr b=>b)=true) ↔
  (s=true\/∃q∈l,¬(q.Id=p.Id\/r.Link*r.Link<X.sq q p))/\∀q∈l,¬(q.Id=p.Id\/r.Link*r.Link<X.sq q p)->¬q.Z.Lo-p.Z.Hi<=r.Low
 |[],s=>by
  unfold X.foldE;simp
 |q::l,s=>by
  unfold X.foldE
  by_cases c:q.Id=p.Id\/r.Link*r.Link<X.sq q p
  .have e:X.sunkF p r s q=.inl s:=by unfold X.sunkF;rw[iP c]
   rw[e];dsimp only;rw[Adf r p l s];simp only[mem_cons,exists_eq_or_imp,forall_eq_or_imp];simp[c]
  .by_cases c2:q.Z.Lo-p.Z.Hi<=r.Low
   .have e:X.sunkF p r s q=.inr (.inr false):=by unfold X.sunkF;rw[iN c,iP c2]
    rw[e];dsimp only;constructor
    .intro h;cases h
    .rintro⟨_,h⟩;exact absurd c2 (h q (.head _) c)
   .have e:X.sunkF p r s q=.inl true:=by unfold X.sunkF;rw[iN c,iN c2]
    rw[e];dsimp only;rw[Adf r p l true];simp only[mem_cons,exists_eq_or_imp,forall_eq_or_imp];simp only[c,c2,not_false_eq_true,true_or,or_true,true_and,true_implies]
theorem Alr{l l':List Aa}(h:l'.Perm l)(r:Af)(p:Aa):X.sunkB l' r p=X.sunkB l r p:=by
 unfold X.sunkB;rw[Bool.eq_iff_iff];refine (Adf r p l' false).trans (Iff.trans ?_ (Adf r p l false).symm);simp only[h.mem_iff]
section
variable {l l':List Aa}{r:Af}(hl:X.Fit l)(hp:l'.Perm l)
include hp
theorem Ao8:(X.dryL l' r).Perm (X.dryL l r):=by
 unfold X.dryL;have:(fun p=>!X.sunkB l' r p)=fun p=>!X.sunkB l r p:=funext fun p=>by rw[Alr hp]
 rw[this];exact hp.filter _
theorem Arj:Acj l' r=Acj l r:=by
 unfold Acj X.sunkL;have:X.sunkB l' r=X.sunkB l r:=funext fun p=>Alr hp r p
 rw[this];exact X.sortI_perm ((hp.filter _).map _)
include hl
theorem Ajw:(X.candL l' r).Perm (X.candL l r):=by
 unfold X.candL X.lastL;exact X.bot_perm (X.nodup_of_ids ((((hl.perm hp.symm).filter _).filter _).id)) ((Ao8 hp).filter _)
theorem Avt:X.seedL l' r=X.seedL l r:=by
 unfold X.seedL;refine X.sortI_perm ((X.bot_perm ?_ (Ajw hl hp)).map _);exact X.nodup_of_ids ((((((hl.perm hp.symm).filter _).filter _).filter _)).id)
theorem Ark(g:LI):Sj l' g=Sj l g:=by
 have hf:=Fit.sel (ids:=g) (hl.perm hp.symm);unfold Sj;exact Qt (totP _) (fun x hx=>⟨hx,Xi hf⟩) (hp.filter _)
theorem Azh(g:LI):Xz l' g↔Xz l g:=by
 have:=hl;unfold Xz;simp only[hp.mem_iff]
theorem Avu(m:Al)(g:LI):Cc l' m g r=Cc l m g r:=by
 have hf:=((hl.perm hp.symm).filter (fun p=>!X.sunkB l' r p)).filter (Wj m g r);unfold Cc;exact Qt (totP _) (fun x hx=>⟨hx,Xi (Fit.bot hf)⟩) (X.bot_perm (X.nodup_of_ids hf.id) ((Ao8 hp).filter _))
end
section
variable {l l':List Aa}{r:Af}{C C':List Aa}(hc:Ctx l r C)(hc':Ctx l' r C')(hp:l'.Perm l)
include hc hc' hp
theorem Avv{g:LI}(hg:GSel l g):Bo l' g=Bo l g:=by
 have hl:=X.Fit.of hc.val;have hl':=X.Fit.of hc'.val;have h1:=GSel.len hg;have:=hc.few;unfold Bo;rw[Wp hl oo (fun i hi=>GSel.rng hc hg hi),Wp hl' oo (fun i hi=>GSel.rng hc hg hi),iP hg.sel,iP ((Azh hl hp g).2 hg.sel),Ark hl hp]
theorem Ajx{g:LI}(hg:GSel l g):Dv l' g=Dv l g:=by
 unfold Dv;rw[Avv hc hc' hp hg]
theorem Ao9:C'.Perm C:=(hc'.perm.trans (Ajw (X.Fit.of hc.val) hp)).trans hc.perm.symm
theorem Azi{g:LI}(h:GOk C g):GOk C' g:=⟨h.nd,fun i hi=>by
 obtain⟨p,hq,e⟩:=h.src i hi;exact⟨p,(Ao9 hc hc' hp).mem_iff.2 hq,e⟩⟩
theorem Apa(hC:Bx l r=some C)(hC':Bx l' r=some C'):Fc l' r=Fc l r:=by
 have hq:=Ao9 hc hc' hp;rw[Aaj hc' hC',Aaj hc hC,Avt (X.Fit.of hc.val) hp,hq.length_eq];refine congrArg some (Ahf (P:=GOk C) (fun g hg=>⟨?_,Aib hc hg⟩) C.length _ (Aic hc));have:gFit l' r g=gFit l r g:=by
  unfold gFit;rw[Ajx hc hc' hp (GOk.gsel hc hg)]
 rw[this];exact Ahg hc.fit.id (List.Perm.refl _) hq
theorem Akv(hC:Bx l r=some C)(hC':Bx l' r=some C'):∃f:Aa->Int,Gl l r=some (l.map f)/\Gl l' r=some (l'.map f):=by
 obtain⟨g,e,hG⟩:=Ahi hc hC;have hg:=hG.ok;have hg':=Azi hc hc' hp hg;obtain⟨G,S,a1,a2,a3,a4⟩:=Ack hc hg e;obtain⟨G',S',b1,b2,b3,b4⟩:=Ack hc' hg' ((Apa hc hc' hp hC hC').trans e);have hm:=Ajx hc hc' hp (GOk.gsel hc hg);have hh:=Avu (r:=r) (X.Fit.of hc.val) hp (Dv l g) g;rw[hm,hh] at b1 b2 b4;rw[a1] at b1;obtain rfl:=oI b1;rw[a2] at b2;obtain rfl:=oI b2;rw[Arj hp] at b4;exact⟨_,a4,b4⟩
end
inductive Cnx(E:Nat->Nat->Prop):Nat->Nat->Prop
 |refl (i:Nat):Cnx E i i
 |base {i j:Nat}:E i j->Cnx E i j
 |symm {i j:Nat}:Cnx E i j->Cnx E j i
 |trans {i j k:Nat}:Cnx E i j->Cnx E j k->Cnx E i k
theorem Cnx.mono{E E':Nat->Nat->Prop}(h:∀x y,E x y->E' x y\/E' y x){i j:Nat}(c:Cnx E i j):Cnx E' i j:=by
 induction c with
 |refl i=>exact .refl i
 |base e=>exact (h _ _ e).elim .base fun g=>.symm (.base g)
 |symm _ ih=>exact .symm ih
 |trans _ _ h g=>exact .trans h g
theorem Cnx.add{E:Nat->Nat->Prop}{a b i j:Nat}:Cnx (fun x y=>E x y\/(x=a/\y=b)) i j↔Cnx E i j\/(Cnx E i a/\Cnx E b j)\/(Cnx E i b/\Cnx E a j):=by
 constructor
 .intro h
  induction h with
  |refl i=>exact .inl (.refl i)
  |base h=>
   rcases h with h|⟨rfl,rfl⟩
   .exact .inl (.base h)
   .exact .inr (.inl ⟨.refl _,.refl _⟩)
  |symm _ ih=>
   rcases ih with h|⟨h,g⟩|⟨h,g⟩
   .exact .inl h.symm
   .exact .inr (.inr ⟨g.symm,h.symm⟩)
   .exact .inr (.inl ⟨g.symm,h.symm⟩)
  |trans _ _ h g=>
   rcases h with h|⟨h,h'⟩|⟨h,h'⟩
   .rcases g with g|⟨g,g'⟩|⟨g,g'⟩
    .exact .inl (h.trans g)
    .exact .inr (.inl ⟨h.trans g,g'⟩)
    .exact .inr (.inr ⟨h.trans g,g'⟩)
   .rcases g with g|⟨_,g'⟩|⟨_,g'⟩
    .exact .inr (.inl ⟨h,h'.trans g⟩)
    .exact .inr (.inl ⟨h,g'⟩)
    .exact .inl (h.trans g')
   .rcases g with g|⟨_,g'⟩|⟨_,g'⟩
    .exact .inr (.inr ⟨h,h'.trans g⟩)
    .exact .inl (h.trans g')
    .exact .inr (.inr ⟨h,g'⟩)
 .have m:∀{x y:Nat},Cnx E x y->Cnx (fun x y=>E x y\/(x=a/\y=b)) x y:=fun c=>c.mono fun x y e=>.inl (.inl e)
  have ab:Cnx (fun x y=>E x y\/(x=a/\y=b)) a b:=.base (.inr ⟨rfl,rfl⟩);rintro (h|⟨h,g⟩|⟨h,g⟩)
  .exact m h
  .exact ((m h).trans ab).trans (m g)
  .exact ((m h).trans ab.symm).trans (m g)
theorem Als{n:Nat}{G G':Nat->Int}{E:Nat->Nat->Prop}{a b:Nat}(ha:a<n)(hb:b<n)(h:∀ i j,i<n->j<n->(G i=G j↔Cnx E i j)){u w:Int}(hm:(u=G a/\w=G b)\/(u=G b/\w=G a))(hG:∀ i,i<n->G' i=if G i=u then w else G i){i j:Nat}(hi:i<n)(hj:j<n):
  G' i=G' j↔Cnx (fun x y=>E x y\/(x=a/\y=b)) i j:=by
 rw[Cnx.add,<-h i j hi hj,<-h i a hi ha,<-h b j hb hj,<-h i b hi hb,<-h a j ha hj,hG i hi,hG j hj];grind
inductive Rt(s:LI):Nat->Nat->Prop
 |root {i:Nat}:s[i]? = some (i:Int)->Rt s i i
 |step {i k j:Nat}:s[i]? = some (k:Int)->k<i->Rt s k j->Rt s i j
theorem Rt.le{s:LI}{i j:Nat}(h:Rt s i j):j<=i:=by
 induction h with
 |root _=>exact nL _
 |step _ h _ ih=>omega
theorem Rt.top{s:LI}{i j:Nat}(h:Rt s i j):s[j]? = some (j:Int):=by
 induction h with
 |root h=>exact h
 |step _ _ _ ih=>exact ih
theorem Rt.uniq{s:LI}{i j:Nat}(h:Rt s i j):∀{k:Nat},Rt s i k->j=k:=by
 induction h with
 |root h=>
  intro k g;cases g with
  |root _=>rfl
  |step e l _=>rw[h] at e;have:=oI e;omega
 |step e l _ ih=>
  intro k g;cases g with
  |root h=>rw[h] at e;have:=oI e;omega
  |step e' l' g=>rw[e] at e';have:=oI e';have:=Int.ofNat.inj this;subst this;exact ih g
theorem Rt.ex{s:LI}(hu:UF s):∀(i:Nat),i<s.length->∃j,Rt s i j:=by
 intro i
 induction i using Nat.strongRecOn with
 |ind i ih=>
  intro hi;have h1:=hu i hi;obtain⟨k,hk⟩:∃k:Nat,s[i]=(k:Int):=⟨s[i].toNat,oo⟩;have e:s[i]? = some (k:Int):=by rw[gE hi,hk]
  by_cases c:k=i
  .subst c;exact⟨_,.root e⟩
  .obtain⟨j,hj⟩:=ih k oo oo;exact⟨j,.step e oo hj⟩
theorem Rt.run{s:LI}{i j:Nat}(h:Rt s i j):Qp s (i:Int)=some (j:Int):=by
 unfold Qp;rw[jn_d];have:lfix (Oz s) (i:Int)=some (j:Int):=by
  induction h with
  |@root i h=>
   obtain⟨hi,e⟩:=List.getElem?_eq_some_iff.1 h;rw[Ay];unfold Oz;rw[Aj hi,Ac,Ac,iP e]
  |@step i k j h l _ ih=>
   obtain⟨hi,e⟩:=List.getElem?_eq_some_iff.1 h;rw[Ay];unfold Oz;rw[Aj hi,Ac,Ac,iN oo,e];exact ih
 rw[this,Ac]
theorem Rt.put{s:LI}{m c i j:Nat}(hm:s[m]? = some (m:Int))(hc:s[c]? = some (c:Int))(hle:c<=m)(h:Rt s i j):Rt (setI s (m:Int) (c:Int)) i (if j=m then c else j):=by
 have hl:m<s.length:=(List.getElem?_eq_some_iff.1 hm).1;rw[Fo]
 induction h with
 |@root i h=>
  by_cases e:i=m
  .subst e;rw[iP rfl]
   by_cases e2:c=i
   .subst e2;exact .root (List.getElem?_set_self hl)
   .exact .step (List.getElem?_set_self hl) oo (.root (by rw[List.getElem?_set_ne oo];exact hc))
  .rw[iN e];exact .root (by rw[List.getElem?_set_ne oo];exact h)
 |@step i k j h l _ ih=>
  have:i≠m:=fun e=>by subst e;rw[hm] at h;have:=oI h;omega
  exact .step (by rw[List.getElem?_set_ne oo];exact h) l ih
theorem Rt.flat{s:LI}{i0 r0 i j:Nat}(h0:Rt s i0 r0)(h:Rt s i j):Rt (setI s (i0:Int) (r0:Int)) i j:=by
 have hl:i0<s.length:=by
  cases h0 with
  |root h=>exact (List.getElem?_eq_some_iff.1 h).1
  |step h _ _=>exact (List.getElem?_eq_some_iff.1 h).1
 rw[Fo]
 induction h with
 |@root i h=>
  by_cases e:i=i0
  .subst e;obtain rfl:=h0.uniq (.root h);exact .root (List.getElem?_set_self hl)
  .exact .root (by rw[List.getElem?_set_ne oo];exact h)
 |@step i k j h l g ih=>
  by_cases e:i=i0
  .subst e;obtain rfl:=h0.uniq (.step h l g);have:=g.le;exact .step (List.getElem?_set_self hl) oo (.root (by rw[List.getElem?_set_ne oo];exact g.top))
  .exact .step (by rw[List.getElem?_set_ne oo];exact h) l ih
structure Nms(s:LI)(n:Nat)(E:Nat->Nat->Prop):Prop where
 uf:UF s
 len:s.length=n
 ex:∃G:Nat->Nat,(∀i,i<n->Rt s i (G i))/\∀i j,i<n->j<n->((G i:Int)=(G j:Int)↔Cnx E i j)
theorem Nms.congr{s:LI}{n:Nat}{E E':Nat->Nat->Prop}(h:Nms s n E)(e:∀x y,E x y↔E' x y):Nms s n E':=by
 obtain rfl:E=E':=funext fun x=>funext fun y=>propext (e x y)
 exact h
theorem Nms.add{s:LI}{n:Nat}{E:Nat->Nat->Prop}(h:Nms s n E){a b x y:Nat}(ha:a<n)(hb:b<n)(hx:Rt s a x)(hy:Rt s b y):Nms (setI s ((max x y:Nat):Int) ((min x y:Nat):Int)) n (fun i j=>E i j\/(i=a/\j=b)):=by
 obtain⟨G,g1,g2⟩:=h.ex;obtain rfl:=(g1 a ha).uniq hx;obtain rfl:=(g1 b hb).uniq hy;have tx:=hx.top;have ty:=hy.top;have hm:s[max (G a) (G b)]? = some ((max (G a) (G b):Nat):Int):=by
  rcases Nat.le_total (G a) (G b) with c|c
  .rw[Nat.max_eq_right c];exact ty
  .rw[Nat.max_eq_left c];exact tx
 have hc:s[min (G a) (G b)]? = some ((min (G a) (G b):Nat):Int):=by
  rcases Nat.le_total (G a) (G b) with c|c
  .rw[Nat.min_eq_left c];exact tx
  .rw[Nat.min_eq_right c];exact ty
 refine⟨h.uf.set oo,by rw[Fn];exact h.len,fun i=>if G i=max (G a) (G b) then min (G a) (G b) else G i,fun i hi=>(g1 i hi).put hm hc oo,fun i j hi hj=>?_⟩;refine Als (G:=fun i=>(G i:Int)) (u:=((max (G a) (G b):Nat):Int)) (w:=((min (G a) (G b):Nat):Int)) (G':=fun i=>(((if G i=max (G a) (G b) then min (G a) (G b) else G i:Nat)):Int)) ha hb g2 ?_ (fun i _=>?_) hi hj
 .rcases Nat.le_total (G a) (G b) with c|c
  .rw[Nat.max_eq_right c,Nat.min_eq_left c];exact .inr ⟨rfl,rfl⟩
  .rw[Nat.max_eq_left c,Nat.min_eq_right c];exact .inl ⟨rfl,rfl⟩
 .by_cases c:G i=max (G a) (G b)
  .rw[iP c,iP oo]
  .rw[iN c,iN oo]
def edT(t:Ah)(k:Nat):Int×Int:=if k=0 then (t.a0,t.a1) else if k=1 then (t.a1,t.a2) else (t.a2,t.a0)
def okE(L:List Aa)(r:Af)(x y:Nat):Prop:=∃p q,L[x]? = some p/\L[y]? = some q/\X.sq p q<=r.Link*r.Link/\¬r.Flat<gapI p.Z q.Z
def EdP(L:List Aa)(r:Af)(T:List Ah)(x y:Nat):Prop:=(∃t∈T,∃k,k<3/\edT t k=((x:Int),(y:Int)))/\okE L r x y
theorem Azj{n:Nat}{t:Ah}(h0:inN n t.a0)(h1:inN n t.a1)(h2:inN n t.a2){k:Nat}(hk:k<3):
  ∃a b:Nat,idx [t.a0,t.a1,t.a2] (k:Int)=some (a:Int)/\idx [t.a0,t.a1,t.a2] (Int.tmod (w64 ((k:Int)+1)) 3)=some (b:Int)/\a<n/\b<n/\edT t k=((a:Int),(b:Int)):=by
 obtain⟨a,ea,ha⟩:=Gf h0;obtain⟨b,eb,hb⟩:=Gf h1;obtain⟨c,ec,hc⟩:=Gf h2;unfold edT;rw[ea,eb,ec,As oo];rcases (by omega:k=0\/k=1\/k=2) with rfl|rfl|rfl
 .exact⟨a,b,rfl,rfl,ha,hb,rfl⟩
 .exact⟨b,c,rfl,rfl,hb,hc,rfl⟩
 .exact⟨c,a,rfl,rfl,hc,ha,rfl⟩
section
variable {L:List Aa}{r:Af}(hL:X.Fit L)(hr:X.okRules r=true)
include hL hr
theorem Apb{t:Ah}(h0:inN L.length t.a0)(h1:inN L.length t.a1)(h2:inN L.length t.a2){s:List Int}{E:Nat->Nat->Prop}(hs:Nms s L.length E):
  ∃s',lfix (Fq t L r) (s,0)=some s'/\Nms s' L.length (fun x y=>E x y\/(∃k,k<3/\edT t k=((x:Int),(y:Int)))/\okE L r x y):=by
 have hrr:=X.okRules_rng hr;have:=Ax (B:=Fq t L r) (fun x=>3-x.2.toNat) (fun x=>∃k:Nat,k<=3/\x.2=(k:Int)/\Nms x.1 L.length (fun x y=>E x y\/(∃k',k'<k/\edT t k'=((x:Int),(y:Int)))/\okE L r x y)) (fun s'=>Nms s' L.length (fun x y=>E x y\/(∃k,k<3/\edT t k=((x:Int),(y:Int)))/\okE L r x y)) (fun x hx=>by
  obtain⟨s,i⟩:=x;obtain⟨k,hk,hi,hs⟩:=hx;dsimp only at hi hs;subst hi;unfold Fq;dsimp only
  by_cases hk2:k<3
  ·left;obtain⟨a,b,ea,eb,ha,hb,ed⟩:=Azj h0 h1 h2 hk2;have pa:=hL.ok _ (getElem_mem ha);have pb:=hL.ok _ (getElem_mem hb);have ra:=X.okPt_rng pa;have rb:=X.okPt_rng pb;have oe:okE L r a b↔X.sq L[a] L[b]<=r.Link*r.Link/\¬ r.Flat<gapI L[a].Z L[b].Z:=by
    unfold okE;rw[gE ha,gE hb];exact⟨fun ⟨p,q,e1,e2,h⟩=>by cases e1;cases e2;exact h,fun h=>⟨_,_,rfl,rfl,h⟩⟩
   have nx:∀x y:Nat,(∃k',k'<k+1/\edT t k'=((x:Int),(y:Int)))↔(∃k',k'<k/\edT t k'=((x:Int),(y:Int)))\/(x=a/\y=b):=fun x y=>by
    constructor
    .rintro⟨k',h1,h2⟩
     by_cases e:k'=k
     .subst e;rw[ed] at h2;have e1:=congrArg Prod.fst h2;have e2:=congrArg Prod.snd h2;dsimp only at e1 e2;exact .inr oo
     .exact .inl ⟨k',oo,h2⟩
    .rintro (⟨k',h1,h2⟩|⟨rfl,rfl⟩)
     .exact⟨k',oo,h2⟩
     .exact⟨k,oo,ed⟩
   have no:¬okE L r a b->Nms s L.length (fun x y=>E x y\/(∃k',k'<k+1/\edT t k'=((x:Int),(y:Int)))/\okE L r x y):=fun h=>hs.congr fun x y=>by
    rw[nx];constructor
    .rintro (g|⟨g,g'⟩)
     .exact .inl g
     .exact .inr ⟨.inl g,g'⟩
    .rintro (g|⟨g|⟨rfl,rfl⟩,g'⟩)
     .exact .inl g
     .exact .inr ⟨g,g'⟩
     .exact absurd g' h
   rw[iP oo,jn_d,ea,Ac,eb,Ac,jn_d,Aj ha,Ac,Aj hb,Ac,X.near_eq pa pb oo oo,Ac,As oo]
   by_cases c:X.sq L[a] L[b]<=r.Link*r.Link
   .rw[iP (dT c),Ac,Ac,(Aja (a:=L[a].Z) (b:=L[b].Z) oo oo).1,Ac];dsimp only
    by_cases c2:r.Flat<gapI L[a].Z L[b].Z
    .rw[iP (dT c2)];exact⟨_,rfl,⟨k+1,hk2,rfl,no (by rw[oe];exact fun h=>h.2 c2)⟩,by dsimp only;omega⟩
    .have hl:=hs.len;obtain⟨x,ex⟩:=Rt.ex hs.uf a oo;obtain⟨y,ey⟩:=Rt.ex hs.uf b oo;have hx:=ex.le;have hy:=ey.le;have em:max (x:Int) (y:Int)=((max x y:Nat):Int):=oo;have en:min (x:Int) (y:Int)=((min x y:Nat):Int):=oo;have hm:max x y<s.length:=oo;rw[iN (sV c2),ex.run,Ac,ey.run,Ac,em,en,Aj hm,Ac];refine⟨_,rfl,⟨k+1,hk2,rfl,(hs.add ha hb ex ey).congr fun x y=>?_⟩,by dsimp only;omega⟩;rw[nx];constructor
     .rintro ((g|⟨g,g'⟩)|⟨rfl,rfl⟩)
      .exact .inl g
      .exact .inr ⟨.inl g,g'⟩
      .exact .inr ⟨.inr ⟨rfl,rfl⟩,oe.2 ⟨c,c2⟩⟩
     .rintro (g|⟨g|⟨rfl,rfl⟩,g'⟩)
      .exact .inl (.inl g)
      .exact .inl (.inr ⟨g,g'⟩)
      .exact .inr ⟨rfl,rfl⟩
   .rw[iN (sV c)];dsimp only;rw[iP rfl];exact⟨_,rfl,⟨k+1,hk2,rfl,no (by rw[oe];exact fun h=>c h.1)⟩,by dsimp only;omega⟩
  .right;obtain rfl:k=3:=oo;rw[iN oo];exact⟨_,rfl,hs⟩) (s,0) ⟨0,oo,rfl,hs.congr fun x y=>s_⟩
 exact this
theorem Apc{x:Al × Int}(e:Oc L=some x)(e0:x.2=0)(e1:x.1.V=vxL L)(e3:Wl (vxL L) x.1.T):
  ∃G,Iw L r=some G/\G.length=L.length/\(∀x∈G,∃k:Nat,x=(k:Int)/\k<L.length)/\∀i j (hi:i<G.length) (hj:j<G.length),G[i]=G[j]↔Cnx (EdP L r x.1.T) i j:=by
 have hn:=hL.n;have hm:=Ajb hL e1 e3;have hvl:x.1.V.length=L.length:=by rw[e1];unfold vxL;rw[length_map]
 have i1:∃s,lfix (Hk L) (List.replicate (Int.toNat (L.length:Int)) (0:Int),0)=some s/\s.length=L.length/\∀i,i<L.length->s[i]? = some (i:Int):=by
  have:=Ax (B:=Hk L) (fun s=>L.length-s.2.toNat) (fun s=>∃k:Nat,k<=L.length/\s.2=(k:Int)/\s.1.length=L.length/\∀i,i<k->s.1[i]? = some (i:Int)) (fun s=>s.length=L.length/\∀i,i<L.length->s[i]? = some (i:Int)) (fun s hs=>by
   obtain⟨s,i⟩:=s;obtain⟨k,hk,hi,hs,hu⟩:=hs;dsimp only at hi hu hs;subst hi;unfold Hk;dsimp only;rw[length_replicate]
   by_cases hk2:k<L.length
   .left;rw[iP oo,Aj (oo:k<s.length),Ac,As oo];refine⟨_,rfl,⟨k+1,hk2,rfl,by rw[Fn];exact hs,fun i hi=>?_⟩,by dsimp only;omega⟩;dsimp only;rw[Fo]
    by_cases c:k=i
    .subst c;exact List.getElem?_set_self oo
    .rw[List.getElem?_set_ne c];exact hu i oo
   .right;obtain rfl:k=L.length:=oo;rw[iN oo];exact⟨_,rfl,hs,hu⟩) (List.replicate (Int.toNat (L.length:Int)) (0:Int),0) ⟨0,oo,rfl,by dsimp only;rw[length_replicate];omega,fun i hi=>absurd hi oo⟩
  exact this
 obtain⟨s1,l1,n1,u1⟩:=i1;have g1:Nms s1 L.length (EdP L r []):=by
  refine⟨fun k hk=>?_,n1,id,fun i hi=>.root (u1 i hi),fun i j hi hj=>?_⟩
  .have:=u1 k oo;rw[gE hk] at this;have:=oI this;omega
  .constructor
   .intro h;dsimp only[id] at h;obtain rfl:i=j:=oo;exact .refl _
   .intro h;dsimp only[id];clear hi hj
    induction h with
    |refl i=>rfl
    |base h=>obtain⟨⟨t,ht,_⟩,_⟩:=h;cases ht
    |symm _ ih=>exact ih.symm
    |trans _ _ h g=>exact h.trans g
 have i2:∃s,lfix (Fs x L r) (s1,0)=some s/\Nms s L.length (EdP L r x.1.T):=by
  have hTl:=hm.len;have:=Ax (B:=Fs x L r) (fun s=>x.1.T.length-s.2.toNat) (fun s=>∃k:Nat,k<=x.1.T.length/\s.2=(k:Int)/\Nms s.1 L.length (EdP L r (x.1.T.take k))) (fun s=>Nms s L.length (EdP L r x.1.T)) (fun s hs=>by
   obtain⟨s,i⟩:=s;obtain⟨k,hk,hi,hs⟩:=hs;dsimp only at hi hs;subst hi;unfold Fs;dsimp only
   by_cases hk2:k<x.1.T.length
   .left;obtain⟨t0,t1,t2,_⟩:=hm.t _ (gM hk2);rw[hvl] at t0 t1 t2;obtain⟨s',g1,g2⟩:=Apb hL hr t0 t1 t2 hs;rw[iP oo,jn_d,Aj hk2,Ac,g1,Ac,As oo];refine⟨_,rfl,⟨k+1,hk2,rfl,g2.congr fun a b=>?_⟩,by dsimp only;omega⟩;unfold EdP;rw[take_succ_eq_append_getElem hk2];constructor
    .rintro (⟨⟨t,ht,h⟩,o⟩|⟨h,o⟩)
     .exact⟨⟨t,mem_append_left _ ht,h⟩,o⟩
     .exact⟨⟨_,mem_append_right _ (mem_singleton.2 rfl),h⟩,o⟩
    .rintro⟨⟨t,ht,h⟩,o⟩;rcases mem_append.1 ht with ht|ht
     .exact .inl ⟨⟨t,ht,h⟩,o⟩
     .obtain rfl:=mem_singleton.1 ht;exact .inr ⟨h,o⟩
   .right;obtain rfl:k=x.1.T.length:=oo;rw[take_length] at hs;rw[iN oo];exact⟨_,rfl,hs⟩) (s1,0) ⟨0,oo,rfl,g1⟩
  exact this
 obtain⟨s2,l2,hs2⟩:=i2;obtain⟨G,hG,hE⟩:=hs2.ex;have n2:=hs2.len;have i3:∃s,lfix (Ft s2) (s2,0)=some s/\s.length=L.length/\∀i,i<L.length->s[i]? = some (G i:Int):=by
  have:=Ax (B:=Ft s2) (fun s=>s2.length-s.2.toNat) (fun s=>∃k:Nat,k<=s2.length/\s.2=(k:Int)/\s.1.length=L.length/\(∀i,i<L.length->Rt s.1 i (G i))/\∀i,i<k->s.1[i]? = some (G i:Int)) (fun s=>s.length=L.length/\∀i,i<L.length->s[i]? = some (G i:Int)) (fun s hs=>by
   obtain⟨s,i⟩:=s;obtain⟨k,hk,hi,hs,ho,hu⟩:=hs;dsimp only at hi hu ho hs;subst hi;unfold Ft;dsimp only
   by_cases hk2:k<s2.length
   .left;have hk3:k<s.length:=oo;have ho':=ho k oo;rw[iP oo,ho'.run,Ac,Aj hk3,Ac,As oo];refine⟨_,rfl,⟨k+1,hk2,rfl,by rw[Fn];exact hs,fun i hi=>ho'.flat (ho i hi),fun i hi=>?_⟩,by dsimp only;omega⟩;dsimp only;rw[Fo]
    by_cases c:k=i
    .subst c;exact List.getElem?_set_self oo
    .rw[List.getElem?_set_ne c];exact hu i oo
   .right;obtain rfl:k=s2.length:=oo;rw[iN oo];exact⟨_,rfl,hs,fun i hi=>hu i oo⟩) (s2,0) ⟨0,oo,rfl,n2,hG,fun i hi=>absurd hi oo⟩
  exact this
 obtain⟨s3,l3,n3,u3⟩:=i3;have at3:∀i (hi:i<s3.length),s3[i]=(G i:Int):=fun i hi=>by
  have:=u3 i oo;rw[gE hi] at this;exact oI this
 refine⟨s3,?_,n3,fun z hz=>?_,fun i j hi hj=>?_⟩
 .unfold Iw;rw[gd_t oo,jn_d,l1,Ac];dsimp only;rw[e,Ac,iP e0,jn_d,l2,Ac];dsimp only;rw[jn_d,l3,Ac]
 .obtain⟨k,hk,rfl⟩:=getElem_of_mem hz;have h:=(hG k oo).le;exact⟨G k,at3 k hk,oo⟩
 .rw[at3 i hi,at3 j hj];exact hE i j oo oo
end
theorem Arl{G:LI}{n:Nat}(hn:G.length<=1000000)(hg:∀x∈G,∃k:Nat,x=(k:Int)/\k<n):∃S,lfix (Dl G) (List.replicate n (0:Int),0)=some S/\S.length=n/\∀i (hi:i<S.length),S[i]=((G.count (i:Int):Nat):Int):=by
 have:=Ax (B:=Dl G) (fun s=>G.length-s.2.toNat) (fun s=>∃k:Nat,k<=G.length/\s.2=(k:Int)/\s.1.length=n/\∀i (hi:i<s.1.length),s.1[i]=(((G.take k).count (i:Int):Nat):Int)) (fun s=>s.length=n/\∀i (hi:i<s.length),s[i]=((G.count (i:Int):Nat):Int)) (fun s hs=>by
  obtain⟨s,i⟩:=s;obtain⟨k,hk,hi,hs,hc⟩:=hs;dsimp only at hi hs hc;subst hi;unfold Dl;dsimp only
  by_cases hk2:k<G.length
  .left;obtain⟨x,hx,hx2⟩:=hg _ (gM hk2);have hx3:x<s.length:=oo;have hb:(G.take k).count (x:Int)<=k:=Nat.le_trans count_le_length (by rw[length_take];omega);rw[iP oo,Aj hk2,Ac,hx,Aj hx3,Ac,Ac,As oo,hc x hx3,As oo];refine⟨_,rfl,⟨k+1,hk2,rfl,by rw[Fn];exact hs,fun i hi=>?_⟩,by dsimp only;omega⟩;dsimp only at hi⊢;simp only[Fo] at hi⊢;rw[length_set] at hi;rw[getElem_set,take_succ_eq_append_getElem hk2,count_append,hx,count_singleton]
   by_cases c:x=i
   .subst c;rw[iP rfl,iP s_]
   .rw[iN c,iN (by simp;omega),hc i hi];simp
  .right;obtain rfl:k=G.length:=oo;rw[take_length] at hc;rw[iN oo];exact⟨_,rfl,hs,hc⟩) (List.replicate n (0:Int),0) ⟨0,oo,rfl,length_replicate,fun i hi=>s_⟩
 exact this
theorem Arm{G G':LI}(hn:G.length=G'.length)(h:∀i j (hi:i<G.length) (hj:j<G.length),G[i]=G[j]↔G'[i]=G'[j]){i:Nat}(hi:i<G.length):G.count G[i]=G'.count G'[i]:=by
 have key:∀k,k<=G.length->(G.take k).count G[i]=(G'.take k).count G'[i]:=by
  intro k
  induction k with
  |zero=>intro _;simp
  |succ k ih=>
   intro hk;rw[take_succ_eq_append_getElem (oo:k<G.length),take_succ_eq_append_getElem (oo:k<G'.length),count_append,count_append,ih oo,count_singleton,count_singleton];have:=h k i oo hi
   by_cases c:G[k]=G[i]
   .rw[iP (sV c),iP (by simpa using this.1 c)]
   .rw[iN (sV c),iN (by simpa using fun g=>c (this.2 g))]
 have:=key G.length (nL _);rw[take_length,hn,take_length] at this;exact this
end
end Go.Proofs.YthlkpgdfifnagaaGreat
