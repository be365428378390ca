/- The statement MeshPlanes, plainly. -/
import Derived.Test.YtbkobeeileemjaaGreatL12
import Derived.Test.YtbkobeeileemjaaGreatFlow2
import Derived.Test.YtbkobeeileemjaaGreatRows
import Derived.ProofKit
import Derived.OpenShut
import Derived.ShutString
import Derived.ChangeOld
import Derived.Below
import Derived.Carry
import Derived.ChangeArms
import Derived.Deep.Slices
namespace Go.Proofs.YtbkobeeileemjaaGreat
open Go Go.RowKit
def hgtP (q:Aq) (x y:Int):Int:=Int.tmod q.a0 1000*x+Int.tmod q.a1 1000*y+Int.tmod q.a2 1000
def Vi (x:Ab):Int:=Int.tmod (wu64 x.Z.Lo) 40
def Vj (x:Ab):Int:=Int.tmod (wu64 x.Z.Hi) 40
def narP (q:Aq) (x:Ab):Ab:=⟨Int.tmod x.X 1000,Int.tmod x.Y 1000,⟨hgtP q (Int.tmod x.X 1000) (Int.tmod x.Y 1000)-Vi x,hgtP q (Int.tmod x.X 1000) (Int.tmod x.Y 1000)+Vj x⟩⟩
def widP (q:Aq) (x:Ab):Ab:=⟨Int.tmod x.X 1000,Int.tmod x.Y 1000,⟨hgtP q (Int.tmod x.X 1000) (Int.tmod x.Y 1000)-Vi x-Vj x,hgtP q (Int.tmod x.X 1000) (Int.tmod x.Y 1000)+Vj x+Int.tdiv (Vi x) 2⟩⟩
theorem tm (x:Int):-999≤Int.tmod x 1000∧Int.tmod x 1000≤999:=by
 have h1:=Int.tmod_lt_of_pos x (show (0:Int) < 1000 by omega)
 have h2:=Int.tmod_lt_of_pos (-x) (show (0:Int) < 1000 by omega)
 rw [Int.neg_tmod] at h2
 omega
theorem u40 (x:Int):0≤Int.tmod (wu64 x) 40∧Int.tmod (wu64 x) 40 < 40:=by
 rw [Aec]
 exact ⟨Int.tmod_nonneg _ (by omega),Int.tmod_lt_of_pos _ (by omega)⟩
theorem Aav {b:Int} (h0:0≤b) (h1:b < 40):0≤Int.tdiv b 2∧Int.tdiv b 2≤20:=by
 rw [Int.tdiv_eq_ediv_of_nonneg h0];omega
theorem Aks (q:Aq) {x y:Int} (hx:-999≤x∧x≤999) (hy:-999≤y∧y≤999) :
  (-998001≤Int.tmod q.a0 1000*x∧Int.tmod q.a0 1000*x≤998001)∧(-998001≤Int.tmod q.a1 1000*y∧Int.tmod q.a1 1000*y≤998001)∧-999≤Int.tmod q.a2 1000∧Int.tmod q.a2 1000≤999:=by
 have a:=tm q.a0
 have b:=tm q.a1
 have c:=tm q.a2
 have h1:=mulB (x:=Int.tmod q.a0 1000) (y:=x) (M:=999) (N:=999) (by omega) (by omega) (by omega) (by omega) (by omega)
 have h2:=mulB (x:=Int.tmod q.a1 1000) (y:=y) (M:=999) (N:=999) (by omega) (by omega) (by omega) (by omega) (by omega)
 omega
theorem Aou (q:Aq) {x y:Int} (hx:-999≤x∧x≤999) (hy:-999≤y∧y≤999) :
  w64 ((w64 ((w64 ((Int.tmod q.a0 1000)*x))+(w64 ((Int.tmod q.a1 1000)*y))))+(Int.tmod q.a2 1000))=hgtP q x y:=by
 obtain ⟨h1,h2,h3⟩:=Aks q hx hy
 rw [Bu (x:=Int.tmod q.a0 1000*x) (by omega) (by omega),Bu (x:=Int.tmod q.a1 1000*y) (by omega) (by omega),Bu (x:=Int.tmod q.a0 1000*x+Int.tmod q.a1 1000*y) (by omega) (by omega),Bu (by omega) (by omega)]
 rfl
theorem Adk (q:Aq) {x y:Int} (hx:-999≤x∧x≤999) (hy:-999≤y∧y≤999):-2000000≤hgtP q x y∧hgtP q x y≤2000000:=by
 obtain ⟨h1,h2,h3⟩:=Aks q hx hy
 unfold hgtP;omega
theorem Afe (q:Aq) (x:Ab):Oc (narP q x):=by
 have h:=Adk q (tm x.X) (tm x.Y)
 have a:=tm x.X
 have b:=tm x.Y
 have c:=u40 x.Z.Lo
 have d:=u40 x.Z.Hi
 unfold Oc narP Vi Vj
 dsimp only
 omega
theorem Akt (q:Aq) (x:Ab):Oc (widP q x):=by
 have h:=Adk q (tm x.X) (tm x.Y)
 have a:=tm x.X
 have b:=tm x.Y
 have c:=u40 x.Z.Lo
 have d:=u40 x.Z.Hi
 have e:=Aav c.1 c.2
 unfold Oc widP Vi Vj
 dsimp only
 omega
theorem Aku (p0:Cq) (q:Aq) (h:p0.V.length≤16):lfix (Ds p0 q) ([],[],0)=some (p0.V.map (narP q),p0.V.map (widP q)):=by
 obtain ⟨t,ht,hR⟩:=Kc (B:=Ds p0 q) (fun s=>p0.V.length-s.2.2.toNat)
  (fun s=>∃ k:Nat,s=((p0.V.take k).map (narP q),(p0.V.take k).map (widP q),(k:Int))∧k≤p0.V.length)
  (fun t=>t=(p0.V.map (narP q),p0.V.map (widP q))) (by
   rintro s ⟨k,rfl,hk⟩
   unfold Ds
   dsimp only
   by_cases hlt:k < p0.V.length
   ·left
    have c:=u40 p0.V[k].Z.Lo
    have d:=u40 p0.V[k].Z.Hi
    have e:=Aav c.1 c.2
    have hr:=Adk q (tm p0.V[k].X) (tm p0.V[k].Y)
    refine ⟨((p0.V.take (k+1)).map (narP q),(p0.V.take (k+1)).map (widP q),((k+1:Nat):Int)),?_,⟨k+1,rfl,by omega⟩,by simp;omega⟩
    rw [if_pos (by omega),Cm hlt,Ah,gd_t (by simp;omega),gd_t (by simp;omega),Cz (by omega),List.take_add_one,List.getElem?_eq_getElem hlt,Option.toList_some,List.map_append,List.map_append]
    simp only [List.map_cons,List.map_nil]
    rw [Aou q (tm p0.V[k].X) (tm p0.V[k].Y),Bu (x:=Int.tmod (wu64 p0.V[k].Z.Lo) 40) (by omega) (by omega),Bu (x:=Int.tmod (wu64 p0.V[k].Z.Hi) 40) (by omega) (by omega),Bu (x:=Int.tdiv (Int.tmod (wu64 p0.V[k].Z.Lo) 40) 2) (by omega) (by omega)]
    rw [Bu (x:=hgtP q (Int.tmod p0.V[k].X 1000) (Int.tmod p0.V[k].Y 1000)-Int.tmod (wu64 p0.V[k].Z.Lo) 40) (by omega) (by omega),Bu (x:=hgtP q (Int.tmod p0.V[k].X 1000) (Int.tmod p0.V[k].Y 1000)+Int.tmod (wu64 p0.V[k].Z.Hi) 40) (by omega) (by omega),
     Bu (x:=hgtP q (Int.tmod p0.V[k].X 1000) (Int.tmod p0.V[k].Y 1000)-Int.tmod (wu64 p0.V[k].Z.Lo) 40-_) (by omega) (by omega),Bu (x:=hgtP q (Int.tmod p0.V[k].X 1000) (Int.tmod p0.V[k].Y 1000)+Int.tmod (wu64 p0.V[k].Z.Hi) 40+_) (by omega) (by omega)]
    rfl
   ·right
    obtain rfl:k=p0.V.length:=by omega
    exact ⟨_,by rw [if_neg (by omega)],by simp⟩)
  ([],[],0) ⟨0,by simp,by omega⟩
 rw [ht,hR]
theorem Ags {v w:List Ab} (hw:∀ x∈w,Oc x) (hl:w.length=v.length) (hp:w.map pP=v.map pP) (h:Lq v=0):Lq w=0:=by
 obtain ⟨hn,_,hv⟩:=Tz h
 have hd:=Ve hv
 have h1:∀ x∈w,Jd x:=fun x hx=>by
  obtain ⟨a,b⟩:=hw x hx
  unfold Jd okP pP
  dsimp only
  omega
 have h2:Dr w:=by
  have e:∀ u:List Ab,Dr u↔(u.map pP).Pairwise fun a b=>¬ Df a b:=fun u=>by
   rw [List.pairwise_map];rfl
  rw [e,hp,← e]
  exact hd
 unfold Lq
 rw [if_neg (by omega),if_neg (fun g=>g h1),if_neg (fun g=>g h2)]
theorem Anc {v w:List Ab} (hp:w.map pP=v.map pP):plV w=plV v:=by
 have key:∀ u:List Ab,∀ i,plV u i=match idx (u.map pP) i with | some x=>x | none=>⟨0,0⟩:=fun u i=>by
  unfold plV
  by_cases h:0≤i∧i < (u.length:Int)
  ·obtain ⟨k,rfl⟩:=Int.eq_ofNat_of_zero_le h.1
   have hk:k < u.length:=by omega
   rw [Cm hk,Cm (l:=u.map pP) (by simpa using hk)]
   simp [pP]
  ·have n1:idx u i=none:=by
    rcases e:idx u i with _ | x
    ·rfl
    ·obtain ⟨j,hj,e1,_⟩:=Rx e
     omega
   have n2:idx (u.map pP) i=none:=by
    rcases e:idx (u.map pP) i with _ | x
    ·rfl
    ·obtain ⟨j,hj,e1,_⟩:=Rx e
     simp at hj
     omega
   rw [n1,n2]
 funext i
 rw [key w,key v,hp]
section
variable {v:List Ab} {p:Ac} {t:Aq}
theorem Akv (a b c:Int):crs (plV v t.a1) (plV v t.a2) p*(a*(plV v t.a0).X+b*(plV v t.a0).Y+c)+crs (plV v t.a2) (plV v t.a0) p*(a*(plV v t.a1).X+b*(plV v t.a1).Y+c)+crs (plV v t.a0) (plV v t.a1) p*(a*(plV v t.a2).X+b*(plV v t.a2).Y+c)=(a*p.X+b*p.Y+c)*Nl v t:=by unfold Nl crs;grind
/-- The span at a corner is the span of the vertex. -/
theorem Aff (hpos:0 < Nl v t) {k:Int} (hk:k=t.a0∨k=t.a1∨k=t.a2):bndT v (plV v k) t=zV v k:=by
 have key:∀ f:Be→Int,wsum v (plV v k) t f=Nl v t*f (zV v k):=fun f=>by
  unfold wsum Nl
  rcases hk with rfl | rfl | rfl
  ·rw [Dh,Ki,show crs (plV v t.a1) (plV v t.a2) (plV v t.a0)=crs (plV v t.a0) (plV v t.a1) (plV v t.a2) from By _ _ _];omega
  ·rw [Dh,Ki,show crs (plV v t.a2) (plV v t.a0) (plV v t.a1)=crs (plV v t.a0) (plV v t.a1) (plV v t.a2) from by rw [By,By]];omega
  ·rw [Ki,Dh];omega
 unfold bndT
 rw [key,key,Int.mul_ediv_cancel_left _ (by omega),← Int.mul_neg,Int.mul_ediv_cancel_left _ (by omega),Int.neg_neg]
end
/-- Heights within their spans stay within the bounds. -/
theorem Akw {v:List Ab} {p:Ac} {t:Aq} {a b c:Int} (hc:covT v p t=true) (hpos:0 < Nl v t) (h:∀ k,k=t.a0∨k=t.a1∨k=t.a2→(zV v k).Lo≤a*(plV v k).X+b*(plV v k).Y+c∧a*(plV v k).X+b*(plV v k).Y+c≤(zV v k).Hi) :
  (bndT v p t).Lo≤a*p.X+b*p.Y+c∧a*p.X+b*p.Y+c≤(bndT v p t).Hi:=by
 unfold covT at hc
 rw [decide_eq_true_eq] at hc
 obtain ⟨c0,c1,c2⟩:=hc
 have e:=Akv (v:=v) (p:=p) (t:=t) a b c
 obtain ⟨l0,u0⟩:=h t.a0 (.inl rfl)
 obtain ⟨l1,u1⟩:=h t.a1 (.inr (.inl rfl))
 obtain ⟨l2,u2⟩:=h t.a2 (.inr (.inr rfl))
 have k0:=Int.mul_le_mul_of_nonneg_left l0 c1
 have k1:=Int.mul_le_mul_of_nonneg_left l1 c2
 have k2:=Int.mul_le_mul_of_nonneg_left l2 c0
 have j0:=Int.mul_le_mul_of_nonneg_left u0 c1
 have j1:=Int.mul_le_mul_of_nonneg_left u1 c2
 have j2:=Int.mul_le_mul_of_nonneg_left u2 c0
 unfold bndT wsum
 dsimp only
 constructor
 ·exact Int.le_trans (Int.ediv_le_ediv hpos (by omega)) (by rw [Int.mul_ediv_cancel _ (by omega)];exact Int.le_refl _) (b:=(a*p.X+b*p.Y+c)*Nl v t / Nl v t)
 ·have:=Int.ediv_le_ediv hpos (show -(crs (plV v t.a1) (plV v t.a2) p*(zV v t.a0).Hi+crs (plV v t.a2) (plV v t.a0) p*(zV v t.a1).Hi+crs (plV v t.a0) (plV v t.a1) p*(zV v t.a2).Hi)≤-(a*p.X+b*p.Y+c)*Nl v t by rw [Int.neg_mul];omega)
  rw [Int.mul_ediv_cancel _ (by omega)] at this
  omega
/-- Wider spans give wider bounds. -/
theorem Aov {v w:List Ab} {p:Ac} {t:Aq} (hp:plV w=plV v) (hc:covT v p t=true) (hpos:0 < Nl v t) (h:∀ k,k=t.a0∨k=t.a1∨k=t.a2→(zV w k).Lo≤(zV v k).Lo∧(zV v k).Hi≤(zV w k).Hi) :
  (bndT w p t).Lo≤(bndT v p t).Lo∧(bndT v p t).Hi≤(bndT w p t).Hi:=by
 unfold covT at hc
 rw [decide_eq_true_eq] at hc
 obtain ⟨c0,c1,c2⟩:=hc
 obtain ⟨l0,u0⟩:=h t.a0 (.inl rfl)
 obtain ⟨l1,u1⟩:=h t.a1 (.inr (.inl rfl))
 obtain ⟨l2,u2⟩:=h t.a2 (.inr (.inr rfl))
 have k0:=Int.mul_le_mul_of_nonneg_left l0 c1
 have k1:=Int.mul_le_mul_of_nonneg_left l1 c2
 have k2:=Int.mul_le_mul_of_nonneg_left l2 c0
 have j0:=Int.mul_le_mul_of_nonneg_left u0 c1
 have j1:=Int.mul_le_mul_of_nonneg_left u1 c2
 have j2:=Int.mul_le_mul_of_nonneg_left u2 c0
 have ea:Nl w t=Nl v t:=by unfold Nl;rw [hp]
 unfold bndT wsum
 rw [ea,hp]
 dsimp only
 constructor
 ·exact Int.ediv_le_ediv hpos (by omega)
 ·have:=Int.ediv_le_ediv hpos (show -(crs (plV v t.a1) (plV v t.a2) p*(zV w t.a0).Hi+crs (plV v t.a2) (plV v t.a0) p*(zV w t.a1).Hi+crs (plV v t.a0) (plV v t.a1) p*(zV w t.a2).Hi)≤-(crs (plV v t.a1) (plV v t.a2) p*(zV v t.a0).Hi+crs (plV v t.a2) (plV v t.a0) p*(zV v t.a1).Hi+crs (plV v t.a0) (plV v t.a1) p*(zV v t.a2).Hi) by omega)
  omega
theorem Xp {v w:List Ab} (hp:plV w=plV v) (T:List Aq) (p:Ac):locT w T p=locT v T p:=by unfold locT covT;rw [hp]
theorem Acc (p0:Cq) (p1:Aq) (p2:Ac):Fo p0 p1 p2=some true:=by
 have wide:Jz p0 16 0=some (decide (16 < p0.V.length∨0 < p0.Lines.length)):=by
  unfold Jz
  rw [jn_d]
  by_cases c:(16:Int) < ((p0.V.length:Nat):Int)
  ·rw [if_pos c,decide_eq_true (.inl (by omega))]
  ·rw [if_neg c]
   by_cases c2:0 < p0.Lines.length
   ·rw [decide_eq_true (by omega),decide_eq_true (.inr c2)]
   ·rw [decide_eq_false (by omega),decide_eq_false (by omega)]
 unfold Fo
 rw [wide,Ah]
 by_cases hwd:16 < p0.V.length∨0 < p0.Lines.length
 ·rw [if_pos (decide_eq_true hwd),Xi,Ah]
 rw [if_neg (by simpa using hwd),jn_d,Aku p0 p1 (by omega),Ah]
 dsimp only
 have ln:(p0.V.map (narP p1)).length=p0.V.length:=by simp
 have lw:(p0.V.map (widP p1)).length=p0.V.length:=by simp
 have hpP:(p0.V.map (widP p1)).map pP=(p0.V.map (narP p1)).map pP:=by
  rw [List.map_map,List.map_map];rfl
 have nn:∀ x∈p0.V.map (narP p1),Oc x:=fun x hx=>by
  obtain ⟨y,_,rfl⟩:=List.mem_map.1 hx
  exact Afe p1 y
 have nw:∀ x∈p0.V.map (widP p1),Oc x:=fun x hx=>by
  obtain ⟨y,_,rfl⟩:=List.mem_map.1 hx
  exact Akt p1 y
 have zn:∀ k:Nat,(hk:k < p0.V.length)→zV (p0.V.map (narP p1)) (k:Int)=(narP p1 p0.V[k]).Z:=fun k hk=>by
  rw [Acr (by simpa using hk),List.getElem_map]
 have zw:∀ k:Nat,(hk:k < p0.V.length)→zV (p0.V.map (widP p1)) (k:Int)=(widP p1 p0.V[k]).Z:=fun k hk=>by
  rw [Acr (by simpa using hk),List.getElem_map]
 have pn:∀ k:Nat,(hk:k < p0.V.length)→plV (p0.V.map (narP p1)) (k:Int)=pP (narP p1 p0.V[k]):=fun k hk=>by
  rw [Ty (by simpa using hk),List.getElem_map]
 rw [Amc,Ah]
 by_cases hv0:¬ Lq (p0.V.map (narP p1))=0
 ·rw [if_neg hv0,Xi,Ah]
 have hv:=Decidable.not_not.1 hv0
 rw [if_pos hv]
 have hv2:=Ags nw (by rw [ln,lw]) hpP hv
 obtain ⟨T,b1,f1⟩:=Ab1 hv
 obtain ⟨T2,b2,f2⟩:=Ab1 hv2
 have epl:=Anc hpP
 obtain rfl:T2=T:=((f2.mesh.same (by rw [ln,lw]) epl).unique f1.mesh)
 rw [b1,Ah,b2,Ah,jn_d]
 dsimp only
 rw [if_pos rfl,if_neg (by simp),jn_d]
 have B1:=Ab3 b1 (by omega) f1 nn
 have B2:=Ab3 b2 (by omega) f2 nw
 have okn:∀ k:Nat,(hk:k < p0.V.length)→-1000≤(plV (p0.V.map (narP p1)) (k:Int)).X∧(plV (p0.V.map (narP p1)) (k:Int)).X≤1000∧-1000≤(plV (p0.V.map (narP p1)) (k:Int)).Y∧(plV (p0.V.map (narP p1)) (k:Int)).Y≤1000:=fun k hk=>by
  rw [pn k hk];exact (Afe p1 p0.V[k]).1
 -- the bounds at the vertices
 have L:lfix (Cv (p0.V.map (narP p1),p0.V.map (widP p1)) (⟨p0.V.map (narP p1),T2,[]⟩,0)) 0=some (.inl ()):=by
  rw [Abk (p0.V.map (narP p1)) (fun _=>true) (Cv (p0.V.map (narP p1),p0.V.map (widP p1)) (⟨p0.V.map (narP p1),T2,[]⟩,0)) () false (fun j hj=>?_) ?_]
  ·simp
  ·unfold Cv
   dsimp only
   rw [if_neg (by omega)]
  ·have hj':j < p0.V.length:=by omega
   unfold Cv Hj
   dsimp only
   rw [if_pos (by omega),Cm hj,Ah,Ah,if_pos rfl,Cz (by omega)]
   have e:(⟨(p0.V.map (narP p1))[j].X,(p0.V.map (narP p1))[j].Y⟩:Ac)=plV (p0.V.map (narP p1)) (j:Int):=by rw [Ty hj];rfl
   rw [e]
   rcases Uh B1 (okn j hj') with ⟨q1,q2⟩ | ⟨t,q1,q2,q3,_⟩
   ·have hT:T2=[]:=by
     refine Classical.byContradiction fun g=>?_
     obtain ⟨t,ht,hcv⟩:=f1.cov g (j:Int) ⟨by omega,by omega⟩
     unfold locT at q1
     rw [List.findIdx?_eq_none_iff] at q1
     have:=q1 t ht
     rw [hcv] at this
     cases this
    rw [q2,Ah,jn_d,if_neg (by simp [hT])]
    rfl
   ·have hT:0 < T2.length:=List.length_pos_iff.2 (fun g=>by rw [g] at q1;cases q1)
    have hpos:=(B1.t t q1).2.2.2
    have hk:=f1.emp t q1 (j:Int) ⟨by omega,by omega⟩ q2
    rw [q3,Ah,jn_d,if_pos (by omega),if_pos rfl,Aff hpos hk,Acr hj]
    simp
 rw [L,Ah]
 dsimp only
 -- the bounds at the place
 have tx:=tm p2.X
 have ty:=tm p2.Y
 rw [Aou p1 tx ty]
 have okp:-1000≤(⟨Int.tmod p2.X 1000,Int.tmod p2.Y 1000⟩:Ac).X∧(⟨Int.tmod p2.X 1000,Int.tmod p2.Y 1000⟩:Ac).X≤1000∧-1000≤(⟨Int.tmod p2.X 1000,Int.tmod p2.Y 1000⟩:Ac).Y∧(⟨Int.tmod p2.X 1000,Int.tmod p2.Y 1000⟩:Ac).Y≤1000:=by dsimp only;omega
 rcases Uh B1 okp with ⟨q1,q2⟩ | ⟨t,q1,q2,q3,i,q4,q5⟩
 ·rcases Uh B2 okp with ⟨r1,r2⟩ | ⟨t',r1,r2,r3,i',r4,r5⟩
  ·rw [q2,Ah,r2,Ah,if_pos rfl,if_neg (by decide),jn_d,if_pos rfl,Xi,Ah]
  ·rw [Xp epl,q1] at r4;cases r4
 ·rcases Uh B2 okp with ⟨r1,r2⟩ | ⟨t',r1,r2,r3,i',r4,r5⟩
  ·rw [Xp epl,q4] at r1;cases r1
  ·rw [Xp epl,q4] at r4
   obtain rfl:=Option.some.inj r4
   have ett:t'=t:=by
    dsimp only at q5 r5
    rw [q5] at r5
    exact (Option.some.inj r5).symm
   subst ett
   obtain ⟨n0,n1,n2,hpos⟩:=B1.t _ q1
   have rng:∀ k,k=t'.a0∨k=t'.a1∨k=t'.a2→∃ j:Nat,k=(j:Int)∧j < p0.V.length:=fun k hk=>by
    dsimp only at n0 n1 n2
    rw [ln] at n0 n1 n2
    rcases hk with rfl | rfl | rfl
    ·exact Ug n0
    ·exact Ug n1
    ·exact Ug n2
   have h1:=Akw (a:=Int.tmod p1.a0 1000) (b:=Int.tmod p1.a1 1000) (c:=Int.tmod p1.a2 1000) q2 hpos (fun k hk=>by
    obtain ⟨j,rfl,hj⟩:=rng k hk
    have c:=u40 p0.V[j].Z.Lo
    have d:=u40 p0.V[j].Z.Hi
    dsimp only
    rw [zn j hj,pn j hj]
    unfold narP hgtP Vi Vj pP
    dsimp only
    omega)
   have h2:=Aov (w:=p0.V.map (widP p1)) epl q2 hpos (fun k hk=>by
    obtain ⟨j,rfl,hj⟩:=rng k hk
    have c:=u40 p0.V[j].Z.Lo
    have d:=u40 p0.V[j].Z.Hi
    have e:=Aav c.1 c.2
    rw [zn j hj,zw j hj]
    unfold narP widP Vi Vj
    dsimp only
    omega)
   dsimp only at h1 h2
   rw [q3,Ah,r3,Ah,if_pos rfl,if_pos rfl,jn_d]
   refine (if_pos h1.1).trans ((if_pos h1.2).trans ((if_pos h2.1).trans ((if_pos h2.2).trans ?_)))
   rw [Xi,Ah]
end Go.Proofs.YtbkobeeileemjaaGreat
/- What the arguments of a law are, read off the way a law's claim is told of them: lists, structs. -/
namespace Go.Proofs.YtbkobeeileemjaaGreat
open Go.ChangeShapes Go.WideShapes Go.ChangeAt Go.RowKit

theorem own2:ownKnob Tryz.prog.godebug=none:=by kernel_rfl
theorem Aaw:laidOutB Tryz.prog=true:=by kernel_rfl
def rI64 (z:Int):Prop:=-9223372036854775808≤z∧z≤9223372036854775807
theorem Xq {cs:List Value} {o:Nat} (h:cs.length=o):cs.drop o=[]:=by rw [← h,List.drop_length]
theorem Kq {cs X R:List Value} {o k o':Nat} (h1:(cs.drop o).take k=X) (h2:cs.drop o'=R) (ho:o'=o+k):cs.drop o=X++R:=by
 subst ho;rw [← h1,← h2,← List.drop_drop,List.take_append_drop]
section
variable {H:Type} {enc:TypeId × Value→H} {w:World} {base:Nat} {spare:Nat→Bool} {held:Bool} {P:Program}
theorem Apg {t:TypeId} (ht:P.underlying t=some (.int .i64)) {fuel:Nat} {cs:List Value} {x:DataW H × List MemPlace} (h:DataW.trod enc P w base spare held fuel t cs=some x):∃ z:Int,cs=[.int .i64 z]∧rI64 z:=by
 obtain ⟨n,hc,_,hw⟩:=DataW.trod_int ht h
 refine ⟨n,hc,?_⟩
 have h1:IntKind.i64.min = -9223372036854775808:=rfl
 have h2:IntKind.i64.max=9223372036854775807:=rfl
 simp only [Lit.wf,Bool.and_eq_true,decide_eq_true_eq] at hw
 unfold rI64;omega
theorem Afg {α:Type} {en:α→List Value} {okα:α→Prop} {t e:TypeId} {sz:Nat} (ht:P.underlying t=some (.slice e)) (hsz:P.cellsOf e=sz) (hp:0 < sz)
  (hel:∀ {fuel:Nat} {cs:List Value} {x:DataW H × List MemPlace},DataW.trod enc P w base spare held fuel e cs=some x→∃ v,cs=en v∧okα v)
  {fuel:Nat} {cs:List Value} {x:DataW H × List MemPlace} (h:DataW.trod enc P w base spare held fuel t cs=some x) :
  ∃ (v:List α) (A:Option Addr) (c:Nat),cs=[.slice A v.length c]∧Has [.old w] A v.length c sz en v∧∀ z∈v,okα z:=by
 rcases Go.Deep.open_slice ht h with ⟨rfl,_⟩ | ⟨a,len,cap,m,n,D,Pl,rfl,hb,hl,hm,hmm,_,hx⟩
 ·exact ⟨[],none,0,rfl,Has.nil,fun z hz=>by simp at hz⟩
 ·have hle:len≤m:=by rw [hmm];split <;> omega
  have key:∀ k,k≤len→∃ v:List α,v.length=k∧(∀ z∈v,okα z)∧∀ i (hi:i < v.length),w.cells? base (a.add (i*sz)) sz=some (en v[i]):=by
   intro k
   induction k with
   | zero=>intro _;exact ⟨[],rfl,fun z hz=>by simp at hz,fun i hi=>by simp at hi⟩
   | succ k ih =>
    intro hk
    obtain ⟨v,h1,h2,h3⟩:=ih (by omega)
    obtain ⟨cs',h4,h5⟩:=hx k (by omega)
    obtain ⟨z,rfl,hz⟩:=hel h5
    rw [hsz] at h4
    refine ⟨v++[z],by simp [h1],fun y hy=>?_,fun i hi=>?_⟩
    ·rcases List.mem_append.1 hy with hy | hy
     ·exact h2 y hy
     ·simp at hy;subst hy;exact hz
    ·simp at hi
     rcases Nat.lt_or_ge i v.length with hlt | hge
     ·rw [List.getElem_append_left hlt];exact h3 i hlt
     ·have:i=k:=by omega
      subst this
      rw [List.getElem_append_right hge]
      simp [h1];exact h4
  obtain ⟨v,h1,h2,h3⟩:=key len (Nat.le_refl _)
  subst h1
  have hesz:∀ z∈v,(en z).length=sz:=by
   intro z hz
   obtain ⟨i,hi,rfl⟩:=List.getElem_of_mem hz
   exact (World.cells?_some (h3 i hi)).2.1
  have hsl:Sl w (some a) v.length cap sz en v:=by
   refine ⟨rfl,hl,hm,hesz,fun hn=>?_⟩
   have hsp:a.spot=none:=by
    have h4:=(World.cells?_some (h3 0 hn)).2.2 0 hp
    have h5:(en v[0])[0]? = some ((en v[0])[0]'(by rw [hesz _ (List.getElem_mem hn)];exact hp)):=List.getElem?_eq_getElem _
    rw [h5] at h4
    simp only [Nat.zero_mul,Addr.add,if_true] at h4
    unfold World.cell? at h4
    split at h4
    ·split at h4
     ·cases h4
     ·rename_i hs;simpa using hs
    ·cases h4
   obtain ⟨b,o,sp⟩:=a
   have hsp:sp=none:=hsp
   subst hsp
   refine ⟨b,o,rfl,fun i hi j u hu=>?_⟩
   have hj:j < sz:=by rw [← hesz _ (List.getElem_mem hi)];exact (List.getElem?_eq_some_iff.1 hu).1
   have h4:=(World.cells?_some (h3 i hi)).2.2 j hj
   rw [hu,Addr.add_lit,Addr.add_lit] at h4
   exact h4
  exact ⟨v,some a,cap,rfl,hsl.has,h2⟩
end
theorem Aqy (w:World):∀ e∈[Ent.old w],Ent.ok w e:=fun e he=>by simp at he;subst he;exact ⟨Below.refl _ _,Nat.le_refl _⟩
end Go.Proofs.YtbkobeeileemjaaGreat
