import Derived.Test.YtjfndjmabhbicabGreatR6
import Derived.Test.YtjfndjmabhbicabGreatRows
import Derived.ProofKit
import Derived.OpenShut
import Derived.ShutString
import Derived.ChangeOld
import Derived.Below
import Derived.Carry
import Derived.ChangeArms
import Derived.Deep.Slices
namespace Go.Proofs.YtjfndjmabhbicabGreat
open Go Go.RowKit
theorem As2{a b:Ax}(ha:-268435456<=a.Lo/\a.Lo<=a.Hi/\a.Hi<=268435456)(hb:-268435456<=b.Lo/\b.Lo<=b.Hi/\b.Hi<=268435456):Gi a b=some (gapI a b):=by
 have hv:∀ {c:Ax},-268435456<=c.Lo/\c.Lo<=c.Hi/\c.Hi<=268435456->Kw c=some true:=fun hc=>by
  unfold Kw;rw[jn_d,if_pos oo,if_pos oo,decide_eq_true oo]
 unfold Gi Ut;rw[jn_d,hv ha,Ae,if_pos rfl,hv hb,Ae];dsimp only;rw[if_neg (by simp),Ae,Av oo oo];unfold gapI;dsimp only;congr 1;omega
theorem dig8{z:Int}(h:z.natAbs<65536 ^ 8):(dig 65536 z.natAbs).length<=8:=Fc h
theorem Ayx{a b:Int}(ha:a.natAbs<65536 ^ 8)(hb:b.natAbs<65536 ^ 8):Bc (Z16 a) (Z16 b)=some (Z16 (a*b)):=Akz (by have:=dig8 ha;have:=dig8 hb;omega)
theorem Be4{a b:Int}(ha:a.natAbs<65536 ^ 8)(hb:b.natAbs<65536 ^ 8):Dj (Z16 a) (Z16 b)=some (Int.sign (a-b)):=by
 unfold Dj;rw[Amg,Ae,Bbl (by have:=dig8 ha;omega) (by have:=dig8 (z:=-b) (by rw[Int.natAbs_neg];exact hb);omega),Ae,Av4,Ae,Int.sub_eq_add_neg]
section
variable {m:Aq} (h:Msh m) {p:Aa} (hp:X.okPt p=true) {r:Ah} (hr:X.okRules r=true)
include h hp hr
theorem Acq{k:Int}(hk:inN m.V.length k)(R:Option (Bool × Int × Int)):
  (bnd (idx m.V k) fun x32=>
   bnd (Cj (⟨0,x32.X,x32.Y,(⟨0,0⟩:Ax),0,0,0,0⟩:Aa) p) fun r45=>
   bnd (Gi p.Z x32.Z) fun r48=>
   bnd (Bh r48) fun r51=>
   jn (fun (s21:Bool × List Int)=>
   bnd (Bh (w64 (r.Slope*r.Slope))) fun r136=>
   bnd (Bh r45) fun r141=>
   bnd (Bc r136 r141) fun r150=>
   bnd (Dj (⟨s21.1,s21.2⟩:Ag) r150) fun r159=>
   if 0<r159 then (some (false,0,0))
   else R)
   (fun j21=>bnd (Bh 1000000) fun r57=>
   bnd (Bc r57 r51) fun r66=>
   bnd (Bc r66 r51) fun r75=>
   j21 (r75.Neg,r75.L)))=if Nc m.V r p k=true then R else some (false,0,0):=by
 have hrr:=X.okRules_rng hr;have hpp:=X.okPt_rng hp;unfold Nc;have hz:=Gh h.ok hk;obtain⟨n,rfl,hn⟩:=Mc hk;rw[Ai2 hn,Yh hn] at hz ⊢;obtain⟨z1,z2⟩:=hz;obtain⟨_,g2,g3⟩:=Ap7 (a:=p.Z) (b:=m.V[n].Z) oo z2;have ap:Cj (⟨0,m.V[n].X,m.V[n].Y,(⟨0,0⟩:Ax),0,0,0,0⟩:Aa) p=some ((p.X-(pP m.V[n]).X)*(p.X-(pP m.V[n]).X)+(p.Y-(pP m.V[n]).Y)*(p.Y-(pP m.V[n]).Y)) /\
   0<=(p.X-(pP m.V[n]).X)*(p.X-(pP m.V[n]).X)+(p.Y-(pP m.V[n]).Y)*(p.Y-(pP m.V[n]).Y)/\(p.X-(pP m.V[n]).X)*(p.X-(pP m.V[n]).X)+(p.Y-(pP m.V[n]).Y)*(p.Y-(pP m.V[n]).Y)<=576460752303423488:=by
  unfold okP pP at z1;dsimp only at z1;obtain⟨a1,a2,a3,a4⟩:=X.sq_w (a:=m.V[n].X) (b:=p.X) oo oo;obtain⟨b1,b2,b3,b4⟩:=X.sq_w (a:=m.V[n].Y) (b:=p.Y) oo oo;have s1:(p.X-(pP m.V[n]).X)*(p.X-(pP m.V[n]).X)=(m.V[n].X-p.X)*(m.V[n].X-p.X):=by unfold pP;dsimp only;grind
  have s2:(p.Y-(pP m.V[n]).Y)*(p.Y-(pP m.V[n]).Y)=(m.V[n].Y-p.Y)*(m.V[n].Y-p.Y):=by unfold pP;dsimp only;grind
  rw[s1,s2];refine⟨?_,oo,oo⟩;unfold Cj;dsimp only;rw[a1,b1,a2,b2,Av oo oo]
 obtain⟨ap1,ap2,ap3⟩:=ap;rw[At hn,Ae,ap1,Ae,As2 (a:=p.Z) oo z2,Ae];generalize (p.X-(pP m.V[n]).X)*(p.X-(pP m.V[n]).X)+(p.Y-(pP m.V[n]).Y)*(p.Y-(pP m.V[n]).Y)=e at *;generalize gapI p.Z m.V[n].Z=g at *;have ss:=mulB (x:=r.Slope) (y:=r.Slope) (M:=100000) (N:=100000) oo oo oo oo oo;have se:=mulB (x:=r.Slope*r.Slope) (y:=e) (M:=10000000000) (N:=576460752303423488) oo oo oo oo oo;have gg:=mulB (x:=1000000*g) (y:=g) (M:=1000000*536870912) (N:=536870912) oo oo oo oo oo;rw[Zu oo oo,Ae,jn_d,Zu oo oo,Ae,Ayx (by rw[pow8];omega) (by rw[pow8];omega),Ae,Ayx (by rw[pow8];omega) (by rw[pow8];omega),Ae];dsimp only;rw[Av oo oo,Zu oo oo,Ae,Zu oo oo,Ae,Ayx (by rw[pow8];omega) (by rw[pow8];omega),Ae];show bnd (Dj (Z16 (1000000*g*g)) (Z16 (r.Slope*r.Slope*e))) _=_;rw[Be4 (by rw[pow8];omega) (by rw[pow8];omega),Ae];have e1:1000000*g*g=g*g*1000000:=by grind
 rw[e1];have sp:0<Int.sign (g*g*1000000-r.Slope*r.Slope*e)↔0<g*g*1000000-r.Slope*r.Slope*e:=X.sign_pos
 by_cases c:g*g*1000000<=r.Slope*r.Slope*e
 ·rw[if_neg (by rw[sp];omega),if_pos (decide_eq_true c)]
 ·rw[if_pos (by rw[sp];omega),if_neg (by simpa using c)]
end
theorem Ayy{m:Aq}(h:Aoc m){p:Aa}(hp:X.okPt p=true){r:Ah}(hr:X.okRules r=true):
  Mi m p r=some (if (fitV m.V m.T r p).2.1=true then (true,(fitV m.V m.T r p).2.2,(fitV m.V m.T r p).1) else (false,0,0)):=by
 have hpp:=X.okPt_rng hp;have hq:=Aee hp;cases e:locT m.V m.T (X.plF p) with
 | none=>
  unfold Mi fitV;rw[show (⟨p.X,p.Y⟩:Ab)=X.plF p from rfl,Amn h hq,e,Ae];rfl
 | some i=>
  have e':=e;unfold locT at e';rw[List.findIdx?_eq_some_iff_getElem] at e';obtain⟨hi,hc,_⟩:=e';have ht:=List.getElem_mem hi;obtain⟨h0,h1,h2,_⟩:=h.msh.t _ ht;have hb:=Ai4 h.msh ht hc;have hB:Ge m (X.plF p)=some (bndT m.V (X.plF p) m.T[i],0):=by
   rw[Ap9 h hq,e];dsimp only;rw[At hi]
  have hF:Jg m (X.plF p)=some ((i:Int),0):=by rw[Amn h hq,e]
  have hV:fitV m.V m.T r p=if r.Reach<gapI p.Z (bndT m.V (X.plF p) m.T[i]) then ((i:Int),false,0) else
    if Nc m.V r p m.T[i].a0=true/\Nc m.V r p m.T[i].a1=true/\Nc m.V r p m.T[i].a2=true then ((i:Int),true,gapI p.Z (bndT m.V (X.plF p) m.T[i])) else ((i:Int),false,0):=by
   unfold fitV;rw[e];dsimp only;rw[At hi]
  rw[hV];unfold Mi;rw[show (⟨p.X,p.Y⟩:Ab)=X.plF p from rfl,hF,Ae];dsimp only;rw[if_pos rfl,hB,Ae,At hi];dsimp only;rw[As2 (a:=p.Z) oo hb,Ae]
  by_cases c:r.Reach<gapI p.Z (bndT m.V (X.plF p) m.T[i])
  ·rw[if_pos c,if_pos c];rfl
  ·rw[if_neg c,if_neg c,Ae];refine (Acq h.msh hp hr h0 _).trans ?_
   by_cases g0:Nc m.V r p m.T[i].a0=true
   ·rw[if_pos g0,Ae];refine (Acq h.msh hp hr h1 _).trans ?_
    by_cases g1:Nc m.V r p m.T[i].a1=true
    ·rw[if_pos g1,Ae];refine (Acq h.msh hp hr h2 _).trans ?_
     by_cases g2:Nc m.V r p m.T[i].a2=true
     ·rw[if_pos g2];simp[g0,g1,g2]
     ·rw[if_neg g2];simp[g2]
    ·rw[if_neg g1];simp[g1]
   ·rw[if_neg g0];simp[g0]
end Go.Proofs.YtjfndjmabhbicabGreat
namespace Go.Proofs.YtjfndjmabhbicabGreat
open Go Go.RowKit Go.Sort
structure PSel(l P:List Aa):Prop where
 nd:(P.map (·.Id)).Nodup
 src:∀ p∈P,p∈l
 ap:Ip P
section
variable {l P:List Aa} (hl:X.Fit l) (hP:PSel l P)
include hl hP
theorem PSel.fit:X.Fit P:=by
 have:=Ce (l:=P.map (·.Id)) (m:=l.map (·.Id)) hP.nd (fun i hi=>by
  obtain⟨p,hp,rfl⟩:=List.mem_map.1 hi;exact List.mem_map_of_mem (hP.src p hp))
 rw[List.length_map,List.length_map] at this;exact⟨by have:=hl.n;omega,fun p hp=>hl.ok p (hP.src p hp),hP.nd⟩
theorem PSel.pick:Qz l (P.map (·.Id))=Bg Uw P:=by
 refine (Aiz (Afl (PSel.fit hl hP)) (X.perm_of_mem (X.nodup_of_ids hP.nd) ((X.nodup_of_ids hl.id).filter _) fun p=>?_)).symm;unfold selL;rw[List.mem_filter,decide_eq_true_eq];constructor
 ·intro hp;exact⟨hP.src p hp,List.mem_map_of_mem hp⟩
 ·rintro⟨h1,h2⟩;obtain⟨q,hq,e⟩:=List.mem_map.1 h2;rw[<- X.id_inj hl.id (hP.src q hq) h1 e];exact hq
theorem PSel.gsel:GSel l (P.map (·.Id)):=by
 refine⟨⟨hP.nd,fun i hi=>?_⟩,?_⟩
 ·obtain⟨p,hp,e⟩:=List.mem_map.1 hi;exact⟨p,hP.src p hp,e⟩
 ·rw[PSel.pick hl hP];have sym:∀ {x y:Aa},¬ (x.X=y.X/\x.Y=y.Y)->¬ (y.X=x.X/\y.Y=x.Y):=fun h e=>h ⟨e.1.symm,e.2.symm⟩
  exact (List.Perm.pairwise_iff sym (Iu Uw P)).2 hP.ap
end
theorem As3{m:Aq}{p:Aa}{r:Ah}(h:(fitV m.V m.T r p).2.1=true):∃ t:Nat,t<m.T.length/\(fitV m.V m.T r p).1=(t:Int):=by
 unfold fitV at h ⊢;cases e:locT m.V m.T (X.plF p) with
 | none=>rw[e] at h;cases h
 | some i=>
  have e':=e;unfold locT at e';rw[List.findIdx?_eq_some_iff_getElem] at e';obtain⟨hi,_,_⟩:=e';refine⟨i,hi,?_⟩;dsimp only;rw[At hi];dsimp only;split
  ·rfl
  ·split <;> rfl
structure Abj(A:List Aa)(n k:Nat)(b:List (Int × Ay))(best least:List Int):Prop where
 l1:best.length=n
 l2:least.length=n
 non:∀ t (h:t<best.length),mget b (t:Int)=none->best[t] = -1
 som:∀ t (h:t<best.length) (h':t<least.length) o,mget b (t:Int)=some o->∃ (j:Nat) (hj:j<A.length),j<k/\best[t]=(j:Int)/\A[j]=o.p/\least[t]=o.far
theorem Abj.mono{A:List Aa}{n k:Nat}{b:List (Int × Ay)}{best least:List Int}(h:Abj A n k b best least):Abj A n (k+1) b best least :=
 ⟨h.l1,h.l2,h.non,fun t a c o e=>by obtain⟨j,hj,h1,h2⟩:=h.som t a c o e;exact⟨j,hj,oo,h2⟩⟩
theorem Abj.put{A:List Aa}{n k:Nat}{b:List (Int × Ay)}{best least:List Int}(h:Abj A n k b best least)(hb:Dn b)(hk:k<A.length)(t:Nat)(far:Int):
  Abj A n (k+1) (mput b (t:Int) ⟨A[k],far⟩) (best.set t (k:Int)) (least.set t far):=by
 refine⟨by rw[List.length_set];exact h.l1,by rw[List.length_set];exact h.l2,fun u hu e=>?_,fun u hu hu' o e=>?_⟩
 ·rw[My hb] at e;rw[List.length_set] at hu
  by_cases c:(u:Int)=(t:Int)
  ·rw[if_pos c] at e;cases e
  ·rw[if_neg c] at e;rw[List.getElem_set,if_neg oo];exact h.non u hu e
 ·rw[My hb] at e;rw[List.length_set] at hu hu';rw[List.getElem_set,List.getElem_set]
  by_cases c:(u:Int)=(t:Int)
  ·rw[if_pos c] at e;cases e
   exact⟨k,hk,oo,by rw[if_pos oo],rfl,by rw[if_pos oo]⟩
  ·rw[if_neg c] at e;obtain⟨j,hj,h1,h2,h3,h4⟩:=h.som u hu hu' o e;exact⟨j,hj,oo,by rw[if_neg oo];exact h2,h3,by rw[if_neg oo];exact h4⟩
section
variable {l:List Aa} {r:Ah} {C:List Aa} (hc:Ctx l r C) {P:List Aa} (hP:PSel l P)
include hc hP
theorem Ayz:Aoc (Oy l (P.map (·.Id)))/\Mk (Bg Uw P)=some (Oy l (P.map (·.Id)),0):=by
 have hl:=X.Fit.of hc.val;have hg:=PSel.gsel hl hP;obtain⟨e,h1,h2,h3,_⟩:=Ac0 hc hg;have hf:=Fit.pick (ids:=P.map (·.Id)) hl;refine⟨Axh hf hg.apart h1 h2 h3,?_⟩;obtain⟨x,e1,e2,_⟩:=Aoa hf;rw[PSel.pick hl hP] at e2;rw[e2];unfold Cm at e;have:=GSel.len hg;have:=hc.few;rw[Xb hl oo (fun i hi=>GSel.rng hc hg hi),Ae,if_pos hg.sel] at e;dsimp only at e;rw[if_pos rfl,e1,Ae] at e;exact e
theorem Aq2:∃ best least,lfix (Jl (X.candL l r) P (Oy l (P.map (·.Id)),0) r) (List.replicate (Oy l (P.map (·.Id))).T.length (-1:Int),List.replicate (Oy l (P.map (·.Id))).T.length (0:Int),0)=some best /\
  Abj (X.candL l r) (Oy l (P.map (·.Id))).T.length (X.candL l r).length (Yz (P.map (·.Id)) (gFit l r (P.map (·.Id))) (X.candL l r)) best least:=by
 have hl:=X.Fit.of hc.val;have hF:=PSel.fit hl hP;obtain⟨hcan,_⟩:=Ayz hc hP;have hA:X.Fit (X.candL l r):=X.Fit.cand hc.val;have hAn:=hA.n;generalize hM:Oy l (P.map (·.Id))=M at *;have hmem:∀ i:Int,i∈Ed (P.map (·.Id))↔i∈P.map (·.Id):=fun i=>(X.perm_sortI _).mem_iff
 have hsl:(Ed (P.map (·.Id))).length<=1000000:=by
  have:=hF.n;rw[(X.perm_sortI _).length_eq,List.length_map];omega
 have:=Bk (B:=Jl (X.candL l r) P (M,0) r) (fun s=>(X.candL l r).length-s.2.2.toNat)
  (fun s=>∃ k:Nat,k<=(X.candL l r).length/\s.2.2=(k:Int)/\Abj (X.candL l r) M.T.length k (((X.candL l r).take k).foldl (Sv (P.map (·.Id)) (gFit l r (P.map (·.Id)))) []) s.1 s.2.1)
  (fun t=>∃ least,Abj (X.candL l r) M.T.length (X.candL l r).length (Yz (P.map (·.Id)) (gFit l r (P.map (·.Id))) (X.candL l r)) t least) (fun s hs=>by
  obtain⟨best,least,i⟩:=s;obtain⟨k,hk,hi,ha⟩:=hs;dsimp only at hi ha;subst hi;have hb:=(Aeo (g:=P.map (·.Id)) (F:=gFit l r (P.map (·.Id))) (C:=X.candL l r) k).map;unfold Jl;dsimp only
  by_cases hk2:k<(X.candL l r).length
  ·left;have hx:=hA.ok _ (List.getElem_mem hk2);have hfits:=Ayy hcan hx hc.rul;have hgf:gFit l r (P.map (·.Id)) (X.candL l r)[k]=fitV M.V M.T r (X.candL l r)[k]:=by unfold gFit;rw[hM]
   have step:((X.candL l r).take (k+1)).foldl (Sv (P.map (·.Id)) (gFit l r (P.map (·.Id)))) []=Sv (P.map (·.Id)) (gFit l r (P.map (·.Id))) (((X.candL l r).take k).foldl (Sv (P.map (·.Id)) (gFit l r (P.map (·.Id)))) []) (X.candL l r)[k]:=by
    rw[List.take_succ_eq_append_getElem hk2,List.foldl_append];rfl
   have goal:∀ s':List Int × List Int × Int,s'.2.2=((k+1:Nat):Int)->Abj (X.candL l r) M.T.length (k+1) (Sv (P.map (·.Id)) (gFit l r (P.map (·.Id))) (((X.candL l r).take k).foldl (Sv (P.map (·.Id)) (gFit l r (P.map (·.Id)))) []) (X.candL l r)[k]) s'.1 s'.2.1 ->
     (∃ k:Nat,k<=(X.candL l r).length/\s'.2.2=(k:Int)/\Abj (X.candL l r) M.T.length k (((X.candL l r).take k).foldl (Sv (P.map (·.Id)) (gFit l r (P.map (·.Id)))) []) s'.1 s'.2.1)/\(X.candL l r).length-s'.2.2.toNat<(X.candL l r).length-((k:Int)).toNat:=fun s' e h=>⟨⟨k+1,hk2,e,by rw[step];exact h⟩,oo⟩
   rw[if_pos oo,jn_d,At hk2,Ae,X.rids_eq hF.n,Ae,has_eq hsl,Ae,Bj oo];generalize ((X.candL l r).take k).foldl (Sv (P.map (·.Id)) (gFit l r (P.map (·.Id)))) []=b at *
   by_cases c1:(X.candL l r)[k].Id∈P.map (·.Id)
   ·rw[if_pos (decide_eq_true ((hmem _).2 c1))];refine⟨_,rfl,goal _ rfl ?_⟩;unfold Sv;rw[if_pos (.inl c1)];exact ha.mono
   ·rw[if_neg (by rw[decide_eq_true_eq,hmem];exact c1),Ae,hfits,Ae]
    by_cases c2:(fitV M.V M.T r (X.candL l r)[k]).2.1=true
    ·obtain⟨t,ht,et⟩:=As3 c2;have t1:t<best.length:=by rw[ha.l1];exact ht
     have t2:t<least.length:=by rw[ha.l2];exact ht
     rw[if_pos c2,et];dsimp only;rw[if_pos rfl,jn_d,At t1,Ae,At t2,Xv,Xv];have nc:¬ ((X.candL l r)[k].Id∈P.map (·.Id)\/(fitV M.V M.T r (X.candL l r)[k]).2.1=false):=by rw[c2];simpa using c1
     have hst:Sv (P.map (·.Id)) (gFit l r (P.map (·.Id))) b (X.candL l r)[k]=match mget b (t:Int) with
       | none=>mput b (t:Int) ⟨(X.candL l r)[k],(fitV M.V M.T r (X.candL l r)[k]).2.2⟩
       | some o=>if (fitV M.V M.T r (X.candL l r)[k]).2.2<o.far\/(fitV M.V M.T r (X.candL l r)[k]).2.2=o.far/\X.lowB (X.candL l r)[k] o.p=true then mput b (t:Int) ⟨(X.candL l r)[k],(fitV M.V M.T r (X.candL l r)[k]).2.2⟩ else b:=by
      unfold Sv;rw[hgf,if_neg nc,et];cases mget b (t:Int) <;> rfl
     have hput:=ha.put hb hk2 t (fitV M.V M.T r (X.candL l r)[k]).2.2;cases e:mget b (t:Int) with
     | none=>
      rw[e] at hst;dsimp only at hst;have:=ha.non t t1 e;rw[if_pos oo];dsimp only;rw[if_pos rfl,Ae,Ae];refine⟨_,rfl,goal _ rfl ?_⟩;rw[hst];exact hput
     | some o=>
      rw[e] at hst;dsimp only at hst;obtain⟨j,hj,j1,j2,j3,j4⟩:=ha.som t t1 t2 o e;rw[if_neg oo,Ae,j4]
      by_cases d1:(fitV M.V M.T r (X.candL l r)[k]).2.2<o.far
      ·rw[if_pos d1];dsimp only;rw[if_pos rfl,Ae,Ae];refine⟨_,rfl,goal _ rfl ?_⟩;rw[hst,if_pos (.inl d1)];exact hput
      ·rw[if_neg d1,Ae]
       by_cases d2:(fitV M.V M.T r (X.candL l r)[k]).2.2=o.far
       ·rw[if_pos d2,Ae,Ae,j2,At hj,Ae,X.rlower_eq,Ae,j3];dsimp only
        by_cases d3:X.lowB (X.candL l r)[k] o.p=true
        ·rw[if_pos d3,Ae,Ae];refine⟨_,rfl,goal _ rfl ?_⟩;rw[hst,if_pos (.inr ⟨d2,d3⟩)];exact hput
        ·rw[if_neg d3];refine⟨_,rfl,goal _ rfl ?_⟩;rw[hst,if_neg (fun h=>h.elim d1 (fun h=>d3 h.2))];exact ha.mono
       ·rw[if_neg d2];dsimp only;rw[if_neg (by simp)];refine⟨_,rfl,goal _ rfl ?_⟩;rw[hst,if_neg (fun h=>h.elim d1 (fun h=>d2 h.1))];exact ha.mono
    ·rw[if_neg c2];dsimp only;rw[if_neg (by simp)];refine⟨_,rfl,goal _ rfl ?_⟩;unfold Sv;rw[hgf,if_pos (.inr (by simpa using c2))];exact ha.mono
  ·right;rw[if_neg oo];have:k=(X.candL l r).length:=oo;subst this;rw[List.take_length] at ha;exact⟨_,rfl,least,ha⟩) (List.replicate M.T.length (-1:Int),List.replicate M.T.length (0:Int),0) ⟨0,oo,rfl,⟨List.length_replicate,List.length_replicate,fun t h _=>by dsimp only;rw[List.getElem_replicate],fun t h h' o e=>by cases e⟩⟩
 obtain⟨best,e,least,h⟩:=this;exact⟨best,least,e,h⟩
end
theorem Aq3(n:Nat)(hn:n<=1000000000){M:Aq}(hM:M.T.length=n)(e:Int):lfix (Lb (M,e)) (List.replicate n (0:Int),0)=some (List.replicate n (-1:Int)):=by
 have:=Bk (B:=Lb (M,e)) (fun s=>n-s.2.toNat) (fun s=>∃ k:Nat,k<=n/\s.2=(k:Int)/\s.1.length=n/\∀ j (h:j<s.1.length),j<k->s.1[j] = -1) (fun t=>t=List.replicate n (-1:Int)) (fun s hs=>by
  obtain⟨s,i⟩:=s;obtain⟨k,hk,hi,hl,ha⟩:=hs;dsimp only at hi hl ha;subst hi;unfold Lb;dsimp only;rw[hM]
  by_cases hk2:k<n
  ·left;have hk3:k<s.length:=oo;rw[if_pos oo,At hk3,Ae,Bj oo,Xv];refine⟨_,rfl,⟨k+1,hk2,rfl,by dsimp only;rw[List.length_set];exact hl,fun j h hj=>?_⟩,by dsimp only;omega⟩;dsimp only at h ⊢;rw[List.length_set] at h;rw[List.getElem_set]
   by_cases c:k=j
   ·rw[if_pos c]
   ·rw[if_neg c];exact ha j h oo
  ·right;rw[if_neg oo];exact⟨_,rfl,List.ext_getElem (by rw[List.length_replicate];exact hl) fun j h _=>by rw[ha j h oo,List.getElem_replicate]⟩) (List.replicate n (0:Int),0) ⟨0,oo,rfl,List.length_replicate,fun j h hj=>absurd hj oo⟩
 obtain⟨t,h,rfl⟩:=this;exact h
noncomputable def Uu(b:List (Int × Ay))(n:Nat):List Aa:=(List.range n).filterMap fun (t:Nat)=>(mget b (t:Int)).map fun (o:Ay)=>o.p
theorem Auu(b:List (Int × Ay))(n:Nat):(Uu b n).length<=n:=by
 unfold Uu;have:=List.length_filterMap_le (fun (t:Nat)=>(mget b (t:Int)).map fun (o:Ay)=>o.p) (List.range n);rw[List.length_range] at this;exact this
theorem Aq4{P A:List Aa}{M:Aq}(e:Int){b:List (Int × Ay)}{best least:List Int}(h:Abj A M.T.length A.length b best least)(hn:M.T.length<=1000000000)(hP:P.length<=1000000):
  lfix (Jm (M,e) best A) (([]:List Aa)++P,0)=some (P++Uu b M.T.length):=by
 have:=Bk (B:=Jm (M,e) best A) (fun s=>M.T.length-s.2.toNat) (fun s=>∃ k:Nat,k<=M.T.length/\s=(P++Uu b k,(k:Int))) (fun t=>t=P++Uu b M.T.length) (fun s hs=>by
  obtain⟨k,hk,rfl⟩:=hs;have hl:=Auu b k;unfold Jm;dsimp only
  by_cases hk2:k<M.T.length
  ·left;have t1:k<best.length:=by rw[h.l1];exact hk2
   have t2:k<least.length:=by rw[h.l2];exact hk2
   have ts:Uu b (k+1)=Uu b k++((mget b (k:Int)).map fun (o:Ay)=>o.p).toList:=by
    unfold Uu;rw[List.range_succ,List.filterMap_append];cases e0:mget b (k:Int) <;> simp[List.filterMap_cons,e0]
   rw[if_pos oo,jn_d,At t1,Ae,Bj oo];cases e:mget b (k:Int) with
   | none=>
    have:=h.non k t1 e;rw[if_neg oo];refine⟨_,rfl,⟨k+1,hk2,?_⟩,by dsimp only;omega⟩;rw[ts,e];simp
   | some o=>
    obtain⟨j,hj,j1,j2,j3,j4⟩:=h.som k t1 t2 o e;rw[j2,if_pos oo,Ae,At hj,Ae,gd_t (by rw[List.length_append];omega),j3];refine⟨_,rfl,⟨k+1,hk2,?_⟩,by dsimp only;omega⟩;rw[ts,e,List.append_assoc];rfl
  ·right;rw[if_neg oo];have:k=M.T.length:=oo;subst this;exact⟨_,rfl,rfl⟩) (([]:List Aa)++P,0) ⟨0,oo,by simp[Uu]⟩
 obtain⟨t,e',rfl⟩:=this;exact e'
section
variable {l:List Aa} {r:Ah} {C:List Aa} (hc:Ctx l r C) {P:List Aa} (hP:PSel l P)
include hc hP
theorem Ay0:∃ D,Gz l P r=some (P++D,0)/\(D.map (·.Id)).Perm (adds (P.map (·.Id)) (gFit l r (P.map (·.Id))) (X.candL l r))/\∀ p∈D,p∈X.candL l r:=by
 have hl:=X.Fit.of hc.val;have hF:=PSel.fit hl hP;have hFn:=hF.n;obtain⟨hcan,hmesh⟩:=Ayz hc hP;obtain⟨best,least,e1,e2⟩:=Aq2 hc hP;have hA:X.Fit (X.candL l r):=X.Fit.cand hc.val;have hb:=Aag (P.map (·.Id)) (gFit l r (P.map (·.Id))) (X.candL l r);obtain⟨_,_,_,hT,_⟩:=Ac0 hc (PSel.gsel hl hP);have hvl:(vxL (Qz l (P.map (·.Id)))).length<=1024:=by unfold vxL;rw[List.length_map];exact (Fit.pick hl).n
 have hTl:=Alf hvl hT;have hkey:∀ q∈Yz (P.map (·.Id)) (gFit l r (P.map (·.Id))) (X.candL l r),∃ t:Nat,t<(Oy l (P.map (·.Id))).T.length/\q.1=(t:Int):=fun q hq=>by
  obtain⟨_,_,h3⟩:=hb.src q hq;have:(fitV (Oy l (P.map (·.Id))).V (Oy l (P.map (·.Id))).T r q.2.p).2.1=true:=by
   show (gFit l r (P.map (·.Id)) q.2.p).2.1=true;rw[h3]
  obtain⟨t,ht,et⟩:=As3 this;refine⟨t,ht,?_⟩;rw[<- et];show q.1=(gFit l r (P.map (·.Id)) q.2.p).1;rw[h3]
 generalize hn:(Oy l (P.map (·.Id))).T.length=n at *;have hmemD:∀ p,p∈Uu (Yz (P.map (·.Id)) (gFit l r (P.map (·.Id))) (X.candL l r)) n↔p∈(Yz (P.map (·.Id)) (gFit l r (P.map (·.Id))) (X.candL l r)).map (·.2.p):=fun p=>by
  unfold Uu;rw[List.mem_filterMap,List.mem_map];constructor
  ·rintro⟨t,ht,e⟩;obtain⟨o,ho,rfl⟩:=Option.map_eq_some_iff.1 e;exact⟨_,Gp ho,rfl⟩
  ·rintro⟨q,hq,rfl⟩;obtain⟨t,ht,et⟩:=hkey q hq;refine⟨t,List.mem_range.2 ht,?_⟩;rw[<- et,Sn hb.map hq];rfl
 have nd1:((Yz (P.map (·.Id)) (gFit l r (P.map (·.Id))) (X.candL l r)).map (·.2.p)).Nodup:=by
  unfold List.Nodup;rw[List.pairwise_map];refine List.Pairwise.imp_of_mem ?_ hb.map;intro q q' hq hq' hne e;have a1:=(hb.src q hq).2.2;have a2:=(hb.src q' hq').2.2;rw[e,a2] at a1;exact hne (Prod.mk.inj a1).1.symm
 have nd2:(Uu (Yz (P.map (·.Id)) (gFit l r (P.map (·.Id))) (X.candL l r)) n).Nodup:=by
  unfold Uu List.Nodup;rw[List.pairwise_filterMap];refine List.Pairwise.imp ?_ (List.nodup_range (n:=n));intro t t' hne p hp p' hp' e;obtain⟨o,ho,rfl⟩:=Option.map_eq_some_iff.1 hp;obtain⟨o',ho',rfl⟩:=Option.map_eq_some_iff.1 hp';have a1:=(hb.src _ (Gp ho)).2.2;have a2:=(hb.src _ (Gp ho')).2.2;dsimp only at a1 a2;rw[e,a2] at a1;have:=(Prod.mk.inj a1).1;omega
 refine⟨Uu (Yz (P.map (·.Id)) (gFit l r (P.map (·.Id))) (X.candL l r)) n,?_,?_,fun p hp=>?_⟩
 ·unfold Gz;rw[Aed hF,Ae,hmesh,Ae];dsimp only;rw[if_pos rfl,X.rcand_eq hc.val hc.rul,Ae,hn,gd_t oo,gd_t oo,jn_d,show Int.toNat ((n:Nat):Int)=n from rfl,Aq3 n oo hn,Ae];dsimp only;rw[jn_d,e1,Ae];dsimp only;rw[gd_t (by simp only[List.length_nil];omega),jn_d];have:=Aq4 (P:=P) (e:=0) (M:=Oy l (P.map (·.Id))) (by rw[hn];exact e2) oo oo;rw[hn] at this;rw[this,Ae]
 ·unfold adds;have:=(X.perm_of_mem nd2 nd1 hmemD).map (·.Id);rw[List.map_map] at this;exact this
 ·obtain⟨q,hq,rfl⟩:=List.mem_map.1 ((hmemD p).1 hp);exact (hb.src q hq).1
end
end Go.Proofs.YtjfndjmabhbicabGreat
namespace Go.Proofs.YtjfndjmabhbicabGreat.X
open Go Go.RowKit
end Go.Proofs.YtjfndjmabhbicabGreat.X
namespace Go.Proofs.YtjfndjmabhbicabGreat
open Go Go.RowKit Go.Sort
def Ay1(l:List Aa)(r:Ah)(n:Nat):Prop:=l.length<=n/\X.validL l=true/\X.okRules r=true
instance(l:List Aa)(r:Ah)(n:Nat):Decidable (Ay1 l r n):=by unfold Ay1;infer_instance
section
variable {l:List Aa} {r:Ah} {C:List Aa} (hc:Ctx l r C) {g:List Int} (hg:Grnd l r C g)
include hc
include hg
end
section
variable {l:List Aa} {r:Ah} {C:List Aa} (hc:Ctx l r C)
include hc
end
section
variable {m:Aq} (h:Msh m) {p:Aa} (hp:X.okPt p=true)
include h hp
end
section
variable {l:List Aa} {r:Ah} (hl:X.validL l=true) (hr:X.okRules r=true) {m:Aq} (h:Msh m) {g:List Int} (hg:g.length<=1000000)
include hl hr h hg
end
section
variable {L:List Aa} {r:Ah} (hL:X.Fit L) (hr:X.okRules r=true)
include hL hr
end
section
variable {l:List Aa} {r:Ah} {C:List Aa} (hc:Ctx l r C) {g:List Int} (hg:GOk C g)
include hc
omit hc in
include hg
end
section
variable {l:List Aa} {r:Ah} {C:List Aa} (hc:Ctx l r C) {g:List Int} (hg:Grnd l r C g) {R:List Int}
include hc hg
end
theorem Apb{g:List Int}{F:FitF}{C:List Aa}(hC:(C.map (·.Id)).Nodup)(i:Int):i∈adds g F C↔∃ p∈C,p.Id=i/\p.Id ∉ g/\(F p).2.1=true/\∀ q∈C,q.Id ∉ g->(F q).2.1=true->(F q).1=(F p).1->¬ btr (F q).2.2 q ⟨p,(F p).2.2⟩:=by
 have hb:=Aag g F C;constructor
 ·intro h;obtain⟨o,ho,rfl⟩:=List.mem_map.1 h;obtain⟨h1,h2,h3⟩:=hb.src o ho;refine⟨o.2.p,h1,rfl,h2,by rw[h3],fun q hq hqg hqf he=>?_⟩;obtain⟨o',ho',hn⟩:=hb.all q hq hqg hqf;rw[he,h3] at ho';have:=Sn hb.map ho;dsimp only at ho';rw[this] at ho';cases ho'
  rw[h3];exact hn
 ·rintro⟨p,hp,rfl,hpg,hpf,hmin⟩;obtain⟨o,ho,hn⟩:=hb.all p hp hpg hpf;have hom:=Gp ho;obtain⟨h1,h2,h3⟩:=hb.src _ hom;dsimp only at h1 h2 h3;have h4:=hmin o.p h1 h2 (by rw[h3]) (by rw[h3]);rw[h3] at h4;dsimp only at h4;have e:o.p.Id=p.Id:=by
   unfold btr at h4 hn;dsimp only at h4;have e1:o.far=(F p).2.2:=by
    by_cases c:o.far<(F p).2.2
    ·exact absurd (.inl c) h4
    ·by_cases c2:(F p).2.2<o.far
     ·exact absurd (.inl c2) hn
     ·omega
   refine X.lowB_total (Bool.eq_false_iff.2 fun c=>h4 (.inr ⟨e1,c⟩)) (Bool.eq_false_iff.2 fun c=>hn (.inr ⟨e1.symm,c⟩))
  rw[<- e];exact List.mem_map.2 ⟨_,hom,rfl⟩
section
variable (n:Int)
end
section
variable (n:Int) {L:List Aa} {T:List Ai} (hT:∀ t∈T,inN (vxL L).length t.a0/\inN (vxL L).length t.a1/\inN (vxL L).length t.a2/\0 < Oi (vxL L) t)
include hT
end
noncomputable instance apDec(L:List Aa):Decidable (Ip L):=Classical.propDecidable _
theorem Apc{g g':List Int}{F:FitF}{C C':List Aa}(hC:(C.map (·.Id)).Nodup)(hg:g'.Perm g)(hp:C'.Perm C):Yc g' F C'=Yc g F C:=by
 have hC':(C'.map (·.Id)).Nodup:=(hp.map _).nodup_iff.2 hC;unfold Yc;refine X.sortI_perm (List.Perm.append hg ((List.perm_ext_iff_of_nodup (Ajv hC') (Ajv hC)).2 fun i=>?_));rw[Apb hC',Apb hC];simp only[hg.mem_iff,hp.mem_iff]
theorem Ay2{l:List Aa}{g:List Int}(hl:X.Fit l)(h:Xp l g):((Qz l g).map (·.Id)).Perm g:=by
 refine (List.perm_ext_iff_of_nodup (Fit.pick hl).id h.1).2 fun i=>?_
 constructor
 ·intro hi;obtain⟨p,hp,rfl⟩:=List.mem_map.1 hi;have h1:p∈selL l g:=Pj.1 hp;unfold selL at h1;rw[List.mem_filter,decide_eq_true_eq] at h1;exact h1.2
 ·intro hi;obtain⟨p,hp,rfl⟩:=h.2 i hi;refine List.mem_map_of_mem (Pj.2 ?_);unfold selL;rw[List.mem_filter,decide_eq_true_eq];exact⟨hp,hi⟩
theorem Auv{l:List Aa}{g:List Int}(hl:X.Fit l)(h:GSel l g):PSel l (Qz l g):=⟨(Fit.pick hl).id,fun p hp=>by
 have h1:p∈selL l g:=Pj.1 hp;unfold selL at h1;exact (List.mem_filter.1 h1).1,h.apart⟩
theorem Auw{l:List Aa}{g g':List Int}(h:g'.Perm g):Qz l g'=Qz l g:=by
 unfold Qz selL;simp only[h.mem_iff]
section
variable {l:List Aa} {r:Ah} {C:List Aa} (hc:Ctx l r C) {g:List Int}
include hc
theorem Ay3{g':List Int}(hg:GSel l g)(hg':GSel l g')(h:g'.Perm g):gFit l r g'=gFit l r g:=by
 have hl:=X.Fit.of hc.val;have h1:=GSel.len hg;have h2:=GSel.len hg';have:=hc.few;have:Cm l g'=Cm l g:=by
  unfold Cm;rw[Xb hl oo (fun i hi=>GSel.rng hc hg hi),Xb hl oo (fun i hi=>GSel.rng hc hg' hi),if_pos hg.sel,if_pos hg'.sel,Auw h]
 unfold gFit Oy;rw[this]
theorem Bbd{P:List Aa}(hP:PSel l P)(hg:GSel l g)(h:(P.map (·.Id)).Perm g):∃ D,Gz l P r=some (P++D,0)/\Ed ((P++D).map (·.Id))=Yc g (gFit l r g) C/\(P++D).length=(Yc g (gFit l r g) C).length/\∀ p∈D,p∈X.candL l r:=by
 obtain⟨D,h1,h2,h3⟩:=Ay0 hc hP;have hA:X.Fit (X.candL l r):=X.Fit.cand hc.val;have e:Ed ((P++D).map (·.Id))=Yc g (gFit l r g) C:=by
  rw[<- Ay3 hc hg (PSel.gsel (X.Fit.of hc.val) hP) h,<- Apc hc.fit.id h hc.perm.symm];unfold Yc;rw[List.map_append];exact X.sortI_perm (h2.append_left _)
 refine⟨D,h1,e,?_,h3⟩;rw[<- e,(X.perm_sortI _).length_eq,List.length_map]
theorem Al0(hg:GSel l g):(Yc g (gFit l r g) C).length<=600:=by
 have h1:=GSel.len hg;have h2:=hc.few;have h3:=hc.len;have h4:=Auh (g:=g) (F:=gFit l r g) (C:=C);have h5:=Ai6 (Aag g (gFit l r g) C);omega
theorem Ay4(hi:g.length<=300):Ha l g r=some (if Xp l g then (if Ip (Qz l g) then (Yc g (gFit l r g) C,0) else ([],11)) else ([],2)):=by
 have hl:=X.Fit.of hc.val;unfold Ha;rw[X.rchecked_eq,if_pos hc.rul,if_pos hc.val,Ae,if_pos rfl,Bag hl hi,Ae]
 by_cases c:Xp l g
 ·rw[if_pos c,if_pos c];dsimp only;rw[if_pos rfl]
  by_cases c2:Ip (Qz l g)
  ·have hg:GSel l g:=⟨c,c2⟩;have hf:=Al0 hc hg;obtain⟨D,h1,h2,h3,_⟩:=Bbd hc (Auv hl hg) hg (Ay2 hl c);rw[if_pos c2,h1,Ae];dsimp only;rw[X.rids_eq oo,Ae,h2]
  ·rw[if_neg c2];have hf:=Fit.pick (ids:=g) hl;have:Gz l (Qz l g) r=some ([],11):=by
    unfold Gz;obtain⟨x,_,e2,⟨_,h,_⟩|⟨h,_⟩⟩:=Aoa hf
    ·exact absurd h c2
    ·rw[Aed hf,Ae,show Bg Uw (Qz l g)=Qz l g from ?_,e2,Ae,h]
     ·rfl
     ·exact Aiz (Afl hf) (Iu _ _)
   rw[this,Ae];dsimp only;rw[X.rids_eq (by simp),Ae];simp[Ed]
 ·rw[if_neg c,if_neg c];rfl
theorem Ay5(hC:Eo l r=some C)(hi:g.length<=300)(hr:∀ i∈g,-9223372036854775808<=i/\i<=9223372036854775807):Ru l g r=some (if Xp l g then (if Ip (Qz l g) then (Yc g (gFit l r g) C,0) else ([],11)) else ([],2)):=by
 have hl:=X.Fit.of hc.val;unfold Ru;rw[X.checked_eq,if_pos hc.rul,if_pos hc.val,Ae,if_pos rfl,hC,Ae]
 by_cases c:Xp l g
 ·rw[if_pos c]
  by_cases c2:Ip (Qz l g)
  ·rw[if_pos c2,Axg hc ⟨c,c2⟩,Ae]
  ·rw[if_neg c2];have hf:=Fit.pick (ids:=g) hl;obtain⟨x,e,⟨_,h,_⟩|⟨h,_⟩⟩:=Ale hf
   ·exact absurd h c2
   ·unfold Rt Cm;rw[Xb hl hi hr,Ae,if_pos c];dsimp only;rw[if_pos rfl,e,Ae,Ae,h];rfl
 ·rw[if_neg c];unfold Rt Cm;rw[Xb hl hi hr,Ae,if_neg c];rfl
end
theorem Aq5{l:List Aa}{r:Ah}{g:List Int}(hl:l.length<=300)(hi:g.length<=300)(hr:∀ i∈g,-9223372036854775808<=i/\i<=9223372036854775807):∃ x:List Int × Int,Ru l g r=some x/\Ha l g r=some x/\x.1.length<=600:=by
 by_cases c1:X.okRules r=true
 ·by_cases c2:X.validL l=true
  ·obtain⟨C,hC,hc⟩:=Bdk c2 c1 hl;refine⟨_,Ay5 hc hC hi hr,Ay4 hc hi,?_⟩;split
   ·split
    ·exact Al0 hc ⟨by assumption,by assumption⟩
    ·simp
   ·simp
  ·refine⟨([],70),?_,?_,by simp⟩
   ·unfold Ru;rw[X.checked_eq,if_pos c1,if_neg c2];rfl
   ·unfold Ha;rw[X.rchecked_eq,if_pos c1,if_neg c2];rfl
 ·refine⟨([],71),?_,?_,by simp⟩
  ·unfold Ru;rw[X.checked_eq,if_neg c1];rfl
  ·unfold Ha;rw[X.rchecked_eq,if_neg c1];rfl
theorem Aks(l:List Aa)(g:List Int)(r:Ah)(hr:∀ i∈g,-9223372036854775808<=i/\i<=9223372036854775807):Hg l g r=some true:=by
 have fin:(bnd Ic fun r11=>some r11)=some true:=by rw[X.first_eq,Ae]
 unfold Hg;rw[jn_d,X.many_eq,Ae]
 by_cases c:(300<l.length\/(16:Int)<(l.length:Int)/\X.validL l=true)
 ·rw[if_pos (by simpa using c)];dsimp only;rw[if_pos rfl];exact fin
 ·rw[if_neg (by simpa using c)];dsimp only
  by_cases c2:300<g.length
  ·rw[if_pos (by simp;omega)];exact fin
  ·rw[if_neg (by simp;omega)];obtain⟨x,e1,e2,h1⟩:=Aq5 (l:=l) (r:=r) (g:=g) oo oo hr;rw[e1,Ae,e2,Ae,jn_d,X.sameInts_self oo,Ae,if_pos rfl,if_pos rfl,X.first_eq,Ae]
end Go.Proofs.YtjfndjmabhbicabGreat
namespace Go.Proofs.YtjfndjmabhbicabGreat
open Go Go.RowKit
end Go.Proofs.YtjfndjmabhbicabGreat
namespace Go.Proofs.YtjfndjmabhbicabGreat
open Go Go.RowKit Go.Sort
section
variable {l:List Aa} {r:Ah} {C:List Aa} (hc:Ctx l r C)
include hc
end
end Go.Proofs.YtjfndjmabhbicabGreat
namespace Go.Proofs.YtjfndjmabhbicabGreat
open Go.ChangeShapes Go.WideShapes Go.ChangeAt Go.RowKit
theorem own2:ownKnob Tryz.prog.godebug=none:=kr
theorem Akc:laidOutB Tryz.prog=true:=kr
def rI64(z:Int):Prop:=-9223372036854775808<=z/\z<=9223372036854775807
theorem Aq6{cs:List Value}{o:Nat}(h:cs.length=o):cs.drop o=[]:=by rw[<- h,List.drop_length]
theorem Jf{cs X R:List Value}{o k o':Nat}(h1:(cs.drop o).take k=X)(h2:cs.drop o'=R)(ho:o'=o+k):cs.drop o=X++R:=by
 subst ho;rw[<- h1,<- h2,<- List.drop_drop,List.take_append_drop]
section
variable {H:Type} {enc:TypeId × Value->H} {w:World} {base:Nat} {spare:Nat->Bool} {held:Bool} {P:Program}
theorem Bd8{t:TypeId}(ht:P.underlying t=some (.int .i64)){fuel:Nat}{cs:List Value}{x:DataW H × List MemPlace}(h:DataW.trod enc P w base spare held fuel t cs=some x):∃ z:Int,cs=[.int .i64 z]/\rI64 z:=by
 obtain⟨n,hc,_,hw⟩:=DataW.trod_int ht h;refine⟨n,hc,?_⟩;have h1:IntKind.i64.min = -9223372036854775808:=rfl;have h2:IntKind.i64.max=9223372036854775807:=rfl;simp only[Lit.wf,Bool.and_eq_true,decide_eq_true_eq] at hw;unfold rI64;omega
theorem Apd{α:Type}{en:α->List Value}{okα:α->Prop}{t e:TypeId}{sz:Nat}(ht:P.underlying t=some (.slice e))(hsz:P.cellsOf e=sz)(hp:0<sz)(hel:∀ {fuel:Nat} {cs:List Value} {x:DataW H × List MemPlace},DataW.trod enc P w base spare held fuel e cs=some x->∃ v,cs=en v/\okα v){fuel:Nat}{cs:List Value}{x:DataW H × List MemPlace}(h:DataW.trod enc P w base spare held fuel t cs=some x):
  ∃ (v:List α) (A:Option Addr) (c:Nat),cs=[.slice A v.length c]/\Has [.old w] A v.length c sz en v/\∀ z∈v,okα z:=by
 rcases Go.Deep.open_slice ht h with⟨rfl,_⟩|⟨a,len,cap,m,n,D,Pl,rfl,hb,hl,hm,hmm,_,hx⟩
 ·exact⟨[],none,0,rfl,Has.nil,fun z hz=>by simp at hz⟩
 ·have hle:len<=m:=by rw[hmm];split <;> omega
  have key:∀ k,k<=len->∃ v:List α,v.length=k/\(∀ z∈v,okα z)/\∀ i (hi:i<v.length),w.cells? base (a.add (i*sz)) sz=some (en v[i]):=by
   intro k
   induction k with
   | zero=>intro _;exact⟨[],rfl,fun z hz=>by simp at hz,fun i hi=>by simp at hi⟩
   | succ k ih=>
    intro hk;obtain⟨v,h1,h2,h3⟩:=ih oo;obtain⟨cs',h4,h5⟩:=hx k oo;obtain⟨z,rfl,hz⟩:=hel h5;rw[hsz] at h4;refine⟨v++[z],by simp[h1],fun y hy=>?_,fun i hi=>?_⟩
    ·rcases List.mem_append.1 hy with hy | hy
     ·exact h2 y hy
     ·simp at hy;subst hy;exact hz
    ·simp at hi;rcases Nat.lt_or_ge i v.length with hlt | hge
     ·rw[List.getElem_append_left hlt];exact h3 i hlt
     ·have:i=k:=oo;subst this;rw[List.getElem_append_right hge];simp[h1];exact h4
  obtain⟨v,h1,h2,h3⟩:=key len (Nat.le_refl _);subst h1;have hesz:∀ z∈v,(en z).length=sz:=by
   intro z hz;obtain⟨i,hi,rfl⟩:=List.getElem_of_mem hz;exact (World.cells?_some (h3 i hi)).2.1
  have hsl:Sl w (some a) v.length cap sz en v:=by
   refine⟨rfl,hl,hm,hesz,fun hn=>?_⟩;have hsp:a.spot=none:=by
    have h4:=(World.cells?_some (h3 0 hn)).2.2 0 hp;have h5:(en v[0])[0]? = some ((en v[0])[0]'(by rw[hesz _ (List.getElem_mem hn)];exact hp)):=List.getElem?_eq_getElem _;rw[h5] at h4;simp only[Nat.zero_mul,Addr.add,if_true] at h4;unfold World.cell? at h4;split at h4
    ·split at h4
     ·cases h4
     ·rename_i hs;simpa using hs
    ·cases h4
   obtain⟨b,o,sp⟩:=a;have hsp:sp=none:=hsp;subst hsp;refine⟨b,o,rfl,fun i hi j u hu=>?_⟩;have hj:j<sz:=by rw[<- hesz _ (List.getElem_mem hi)];exact (List.getElem?_eq_some_iff.1 hu).1
   have h4:=(World.cells?_some (h3 i hi)).2.2 j hj;rw[hu,Addr.add_lit,Addr.add_lit] at h4;exact h4
  exact⟨v,some a,cap,rfl,hsl.has,h2⟩
end
theorem Be5(w:World):∀ e∈[Ent.old w],Ent.ok w e:=fun e he=>by simp at he;subst he;exact⟨Below.refl _ _,Nat.le_refl _⟩
end Go.Proofs.YtjfndjmabhbicabGreat
