/- How many triangles a mesh has: twice the places, less two, less the sides of the border. -/
import Derived.Test.YtjfndjmabhbicaaGreatU29
import Derived.Test.YtjfndjmabhbicaaGreatU22
namespace Go.Proofs.YtjfndjmabhbicaaGreat
open Go Go.RowKit
section
variable {v:List Ab} {m:Mp} {L:List Aa} {T:List Ae}
theorem Ac1 {γ:Type}:∀ l:List γ,tot (fun _=>(1:Int)) l=l.length
 | []=>rfl
 | x::r=>by simp only [tot,Ac1 r,List.length_cons];omega
theorem Axt {α β:Int} {s:Int × Int} (h:inN v.length s.1):tot (fun p=>if upS v m α β p s then (1:Int) else 0) (inds v.length)=if upS v m α β s.1 s then (1:Int) else 0:=by
 by_cases c:upS v m α β s.1 s
 ·rw [if_pos c]
  exact Ud (p:=fun p=>upS v m α β p s) Lj (Gm.2 h) fun y _=>⟨fun g=>g.1.symm,fun g=>by rw [g];exact c⟩
 ·rw [if_neg c]
  exact Ow fun y _ g=>c (by have:=g.1;rw [<- this] at g;exact g)
theorem Axu {α β:Int} {s:Int × Int} (h:inN v.length s.2):tot (fun p=>if inS v α β p s then (1:Int) else 0) (inds v.length)=if inS v α β s.2 s then (1:Int) else 0:=by
 by_cases c:inS v α β s.2 s
 ·rw [if_pos c]
  exact Ud (p:=fun p=>inS v α β p s) Lj (Gm.2 h) fun y _=>⟨fun g=>g.1.symm,fun g=>by rw [g];exact c⟩
 ·rw [if_neg c]
  exact Ow fun y _ g=>c (by have:=g.1;rw [<- this] at g;exact g)
theorem Af6 {α β:Int} (hv:Be v) (hM:Mesh v L m) (hT:Ix v m T) (inj:∀ a b,inN v.length a->inN v.length b->ph α β (plV v a)=ph α β (plV v b)->a=b)
  (free:∀ {p q},(p,q)∈bds m T->∀ k,inN v.length k->crs (plV v p) (plV v q) (plV v k)=0->¬ (ph α β (plV v q) < ph α β (plV v k)/\ph α β (plV v k) < ph α β (plV v p)))
  {g:Int} (hg:inN v.length g) (high:∀ k,inN v.length k->k≠g->ph α β (plV v k) < ph α β (plV v g)) :
  tot (fun s:Int × Int=>if upS v m α β s.1 s then (1:Int) else 0) (T.flatMap Cm)+tot (fun s:Int × Int=>if inS v α β s.2 s then (1:Int) else 0) (bds m T)=v.length-1:=by
 have h1:tot (fun s:Int × Int=>if upS v m α β s.1 s then (1:Int) else 0) (T.flatMap Cm)=tot (fun p=>tot (fun s=>if upS v m α β p s then (1:Int) else 0) (T.flatMap Cm)) (inds v.length):=by
  rw [Ado]
  refine Mi fun s hs=>?_
  obtain ⟨e,he⟩:=(memS hM.tri hT).1 hs
  exact (Axt (hM.tri.ccw _ _ _ he).1).symm
 have h2:tot (fun s:Int × Int=>if inS v α β s.2 s then (1:Int) else 0) (bds m T)=tot (fun p=>tot (fun s=>if inS v α β p s then (1:Int) else 0) (bds m T)) (inds v.length):=by
  rw [Ado]
  refine Mi fun s hs=>?_
  obtain ⟨⟨e,he⟩,_⟩:=(Lg hM.tri hT).1 hs
  exact (Axu (hM.tri.ccw _ _ _ he).2.1).symm
 have h3:∀ p∈inds v.length,tot (fun s=>if upS v m α β p s then (1:Int) else 0) (T.flatMap Cm)+tot (fun s=>if inS v α β p s then (1:Int) else 0) (bds m T)=1-if p=g then (1:Int) else 0:=fun p hp=>by
  have hp:=Gm.1 hp
  by_cases c:p=g
  ·rw [if_pos c]
   have:=Aif (α:=α) (β:=β) hM hT (p:=p) (fun d hd=>by
    rw [c]
    by_cases e:d=g
    ·rw [e];omega
    ·have:=high d hd e;omega)
   omega
  ·rw [if_neg c]
   have:=Akc hv hM hT inj free hp hg (high p hp c)
   omega
 have h4:tot (fun p=>if p=g then (1:Int) else 0) (inds v.length)=1:=Ud (p:=fun p=>p=g) Lj (Gm.2 hg) fun y _=>Iff.rfl
 rw [h1,h2,<- Ws,Mi h3,Agf,Ac1,h4,Qm]
theorem Ajj (hv:Be v) (hn:v.length<=1024) (hM:Mesh v L m) (hT:Ix v m T):(T.length:Int)+(bds m T).length=2*v.length-2:=by
 obtain ⟨l,hl,hr⟩:=Vn hv hn
 have hlen:=hr.len
 have hpos:0 < l.length:=by
  obtain ⟨q,hq⟩:=List.exists_mem_of_ne_nil m hM.ne
  have:=hM.map.key q hq
  unfold inN at this
  omega
 have g1:l.length-1 < l.length:=by omega
 have hf:=hr.val.1 (List.getElem_mem hpos)
 have hg:=hr.val.1 (List.getElem_mem g1)
 have bef:∀ {p q},inN v.length p->inN v.length q->(ph lexA 1 (plV v p) < ph lexA 1 (plV v q)↔befP (plV v p) (plV v q)):=fun hp hq=>Uh (hv.ok _ hp) (hv.ok _ hq)
 have neg:∀ p,ph (-lexA) (-1) p = -ph lexA 1 p:=fun p=>by unfold ph;grind
 have low:∀ k,inN v.length k->k≠l[0]->ph lexA 1 (plV v l[0]) < ph lexA 1 (plV v k):=fun k hk hne=>by
  obtain ⟨j,hj,rfl⟩:=List.getElem_of_mem (hr.val.2 hk)
  by_cases e:j=0
  ·subst e;exact absurd rfl hne
  ·exact (bef hf hk).2 (hr.lt hpos hj (by omega))
 have high:∀ k,inN v.length k->k≠l[l.length-1]->ph lexA 1 (plV v k) < ph lexA 1 (plV v l[l.length-1]):=fun k hk hne=>by
  obtain ⟨j,hj,rfl⟩:=List.getElem_of_mem (hr.val.2 hk)
  by_cases e:j=l.length-1
  ·subst e;exact absurd rfl hne
  ·exact (bef hk hg).2 (hr.lt hj g1 (by omega))
 have inj:∀ a b,inN v.length a->inN v.length b->ph lexA 1 (plV v a)=ph lexA 1 (plV v b)->a=b:=fun a b ha hb e=>by
  refine Classical.byContradiction fun n=>?_
  rcases Ft (Cp hv ha hb n) with g | g
  ·have:=(bef ha hb).2 g;omega
  ·have:=(bef hb ha).2 g;omega
 have free:∀ {p q},(p,q)∈bds m T->∀ k,inN v.length k->crs (plV v p) (plV v q) (plV v k)=0->¬ ((ph lexA 1 (plV v p) < ph lexA 1 (plV v k)/\ph lexA 1 (plV v k) < ph lexA 1 (plV v q))\/(ph lexA 1 (plV v q) < ph lexA 1 (plV v k)/\ph lexA 1 (plV v k) < ph lexA 1 (plV v p))):=fun {p q} h k hk h0 g=>by
  obtain ⟨⟨e,he⟩,_⟩:=(Lg hM.tri hT).1 h
  obtain ⟨vp,vq,_,_⟩:=hM.tri.ccw _ _ _ he
  have b1:=bef vp hk
  have b2:=bef hk vq
  have b3:=bef vq hk
  have b4:=bef hk vp
  have n1:k≠p:=fun e=>by subst e;omega
  have n2:k≠q:=fun e=>by subst e;omega
  refine Rf hM.tri he hk n1 n2 ⟨⟨h0,fun w=>?_⟩,Cp hv hk vp n1,Cp hv hk vq n2⟩
  rw [<- b1,<- b3] at w
  omega
 have U:=Af6 hv hM hT inj (fun h k hk h0 g=>free h k hk h0 (.inr g)) hg high
 have D:=Af6 (α:=-lexA) (β:=-1) hv hM hT (fun a b ha hb e=>inj a b ha hb (by rw [neg,neg] at e;omega)) (fun h k hk h0 g=>free h k hk h0 (.inl (by rw [neg,neg,neg] at g;omega))) hf (fun k hk hne=>by rw [neg,neg];have:=low k hk hne;omega)
 have S1:tot (fun s:Int × Int=>if upS v m lexA 1 s.1 s then (1:Int) else 0) (T.flatMap Cm)+tot (fun s:Int × Int=>if upS v m (-lexA) (-1) s.1 s then (1:Int) else 0) (T.flatMap Cm)=T.length:=by
  rw [<- Ws,Qe,<- Ac1]
  refine Mi fun t ht=>?_
  have h:=((hT.mem t).1 ht).2.2
  have r:=hM.tri.rot _ _ _ h
  have q:=hM.tri.rot2 h
  obtain ⟨v0,v1,v2,_⟩:=hM.tri.ccw _ _ _ h
  obtain ⟨n1,n2,n3⟩:=hM.tri.ne h
  have d1:ph lexA 1 (plV v t.a0)≠ph lexA 1 (plV v t.a1):=fun e=>n1 (inj _ _ v0 v1 e)
  have d2:ph lexA 1 (plV v t.a1)≠ph lexA 1 (plV v t.a2):=fun e=>n2 (inj _ _ v1 v2 e)
  have d3:ph lexA 1 (plV v t.a2)≠ph lexA 1 (plV v t.a0):=fun e=>n3 (inj _ _ v2 v0 e)
  have up:∀ {a b c:Int},apM m a b=some c->(upS v m lexA 1 a (a,b)↔ph lexA 1 (plV v a) < ph lexA 1 (plV v b)/\ph lexA 1 (plV v c) < ph lexA 1 (plV v a)):=fun {a b c} e=>by
   constructor
   ·rintro ⟨_,g2,y,g3,g4⟩
    rw [e] at g3;cases g3
    exact ⟨g2,g4⟩
   ·rintro ⟨g1,g2⟩
    exact ⟨rfl,g1,c,e,g2⟩
  have dn:∀ {a b c:Int},apM m a b=some c->(upS v m (-lexA) (-1) a (a,b)↔ph lexA 1 (plV v b) < ph lexA 1 (plV v a)/\ph lexA 1 (plV v a) < ph lexA 1 (plV v c)):=fun {a b c} e=>by
   unfold upS
   simp only [neg]
   constructor
   ·rintro ⟨_,g2,y,g3,g4⟩
    rw [e] at g3;cases g3
    omega
   ·rintro ⟨g1,g2⟩
    exact ⟨trivial,by omega,c,e,by omega⟩
  have ite:∀ (P Q:Prop) [Decidable P] [Decidable Q],(P↔Q)->(if P then (1:Int) else 0)=if Q then (1:Int) else 0:=fun P Q _ _ h=>by
   by_cases c:P
   ·rw [if_pos c,if_pos (h.1 c)]
   ·rw [if_neg c,if_neg (fun g=>c (h.2 g))]
  simp only [Cm,tot]
  rw [ite _ _ (up h),ite _ _ (up r),ite _ _ (up q),ite _ _ (dn h),ite _ _ (dn r),ite _ _ (dn q)]
  split <;> split <;> split <;> split <;> split <;> split <;> omega
 have S2:tot (fun s:Int × Int=>if inS v lexA 1 s.2 s then (1:Int) else 0) (bds m T)+tot (fun s:Int × Int=>if inS v (-lexA) (-1) s.2 s then (1:Int) else 0) (bds m T)=(bds m T).length:=by
  rw [<- Ws,<- Ac1]
  refine Mi fun s hs=>?_
  obtain ⟨p,q⟩:=s
  obtain ⟨⟨e,he⟩,_⟩:=(Lg hM.tri hT).1 hs
  obtain ⟨vp,vq,_,_⟩:=hM.tri.ccw _ _ _ he
  have d:ph lexA 1 (plV v p)≠ph lexA 1 (plV v q):=fun w=>(hM.tri.ne he).1 (inj _ _ vp vq w)
  have i1:inS v lexA 1 q (p,q)↔ph lexA 1 (plV v q) < ph lexA 1 (plV v p):=⟨fun g=>g.2,fun g=>⟨rfl,g⟩⟩
  have i2:inS v (-lexA) (-1) q (p,q)↔ph lexA 1 (plV v p) < ph lexA 1 (plV v q):=by
   unfold inS
   simp only [neg]
   exact ⟨fun g=>by have:=g.2;omega,fun g=>⟨trivial,by omega⟩⟩
  dsimp only
  by_cases c:ph lexA 1 (plV v q) < ph lexA 1 (plV v p)
  ·rw [if_pos (i1.2 c),if_neg (fun g=>by have:=i2.1 g;omega)];rfl
  ·rw [if_neg (fun g=>c (i1.1 g)),if_pos (i2.2 (by omega))];rfl
 omega
end
section
variable {v:List Ab} {L S:List Aa} {T:List Ae} {m:Mp}
theorem Af7:∀ T:List Ae,(T.flatMap Cm).length=3*T.length
 | []=>rfl
 | t::r=>by
  rw [List.flatMap_cons,List.length_append,Af7 r,List.length_cons]
  show 3+_=_
  omega
theorem Abh {s:Aa}:Tl T s↔∃ x y,(x,y)∈T.flatMap Cm/\s=pr2 x y:=by
 constructor
 ·rintro ⟨t,ht,k,hk,rfl⟩
  have:k=0\/k=1\/k=2:=by omega
  rcases this with rfl | rfl | rfl
  ·exact ⟨t.a0,t.a1,List.mem_flatMap.2 ⟨t,ht,by unfold Cm;simp⟩,rfl⟩
  ·exact ⟨t.a1,t.a2,List.mem_flatMap.2 ⟨t,ht,by unfold Cm;simp⟩,rfl⟩
  ·exact ⟨t.a2,t.a0,List.mem_flatMap.2 ⟨t,ht,by unfold Cm;simp⟩,rfl⟩
 ·rintro ⟨x,y,h,rfl⟩
  obtain ⟨t,ht,h⟩:=List.mem_flatMap.1 h
  unfold Cm at h
  simp only [List.mem_cons,List.not_mem_nil,or_false,Prod.mk.injEq] at h
  rcases h with ⟨rfl,rfl⟩ | ⟨rfl,rfl⟩ | ⟨rfl,rfl⟩
  ·exact ⟨t,ht,0,by omega,rfl⟩
  ·exact ⟨t,ht,1,by omega,rfl⟩
  ·exact ⟨t,ht,2,by omega,rfl⟩
theorem Ajk (hM:Tri (plV v) (inN v.length) (apM m)) (hT:Ix v m T) (nd:S.Nodup) (mem:∀ s,s∈S↔Tl T s):2*S.length=3*T.length+(bds m T).length:=by
 have lt:∀ s∈S,s.a0 < s.a1:=fun s hs=>by
  obtain ⟨x,y,h,rfl⟩:=Abh.1 ((mem s).1 hs)
  obtain ⟨e,he⟩:=(memS hM hT).1 h
  have:=(hM.ne he).1
  unfold pr2
  dsimp only
  omega
 have mS:∀ x y,pr2 x y∈S↔((x,y)∈T.flatMap Cm\/(y,x)∈T.flatMap Cm):=fun x y=>by
  rw [mem,Abh]
  constructor
  ·rintro ⟨a,b,h,e⟩
   rcases Abo e with ⟨rfl,rfl⟩ | ⟨rfl,rfl⟩
   ·exact .inl h
   ·exact .inr h
  ·rintro (h | h)
   ·exact ⟨x,y,h,rfl⟩
   ·exact ⟨y,x,h,Jk _ _⟩
 have pid:∀ s∈S,pr2 s.a0 s.a1=s:=fun s hs=>by
  have:=lt s hs
  obtain ⟨p,q⟩:=s
  unfold pr2
  rw [Gf]
  dsimp only at this ⊢
  omega
 have n1:(S.map (fun s=>(s.a0,s.a1))++S.map (fun s=>(s.a1,s.a0))).Nodup:=by
  rw [List.nodup_append]
  refine ⟨?_,?_,fun x hx y hy e=>?_⟩
  ·unfold List.Nodup at nd ⊢
   rw [List.pairwise_map]
   refine nd.imp fun {a b} h e=>h ?_
   obtain ⟨a0,a1⟩:=a
   obtain ⟨b0,b1⟩:=b
   simp only [Prod.mk.injEq] at e
   rw [e.1,e.2]
  ·unfold List.Nodup at nd ⊢
   rw [List.pairwise_map]
   refine nd.imp fun {a b} h e=>h ?_
   obtain ⟨a0,a1⟩:=a
   obtain ⟨b0,b1⟩:=b
   simp only [Prod.mk.injEq] at e
   rw [e.1,e.2]
  ·obtain ⟨s,hs,rfl⟩:=List.mem_map.1 hx
   obtain ⟨u,hu,rfl⟩:=List.mem_map.1 hy
   have h1:=lt s hs
   have h2:=lt u hu
   simp only [Prod.mk.injEq] at e
   omega
 have nb:(bds m T).Nodup:=List.Pairwise.filter _ (Aau hM hT)
 have n2:(T.flatMap Cm++(bds m T).map fun s=>(s.2,s.1)).Nodup:=by
  rw [List.nodup_append]
  refine ⟨Aau hM hT,?_,fun x hx y hy e=>?_⟩
  ·unfold List.Nodup at nb ⊢
   rw [List.pairwise_map]
   refine nb.imp fun {a b} h e=>h ?_
   obtain ⟨a0,a1⟩:=a
   obtain ⟨b0,b1⟩:=b
   simp only [Prod.mk.injEq] at e ⊢
   exact ⟨e.2,e.1⟩
  ·obtain ⟨⟨p,q⟩,hs,rfl⟩:=List.mem_map.1 hy
   subst e
   obtain ⟨e,he⟩:=(memS hM hT).1 hx
   have:=((Lg hM hT).1 hs).2
   rw [this] at he
   cases he
 have same:∀ x:Int × Int,x∈(S.map (fun s=>(s.a0,s.a1))++S.map (fun s=>(s.a1,s.a0)))↔x∈(T.flatMap Cm++(bds m T).map fun s=>(s.2,s.1)):=fun ⟨x,y⟩=>by
  have l:(x,y)∈(S.map (fun s=>(s.a0,s.a1))++S.map (fun s=>(s.a1,s.a0)))↔pr2 x y∈S:=by
   rw [List.mem_append,List.mem_map,List.mem_map]
   constructor
   ·rintro (⟨s,hs,e⟩ | ⟨s,hs,e⟩)
    ·simp only [Prod.mk.injEq] at e
     rw [<- e.1,<- e.2,pid s hs];exact hs
    ·simp only [Prod.mk.injEq] at e
     rw [<- e.1,<- e.2,Jk,pid s hs];exact hs
   ·intro h
    by_cases c:x<=y
    ·exact .inl ⟨_,h,by unfold pr2;simp only [Prod.mk.injEq];omega⟩
    ·exact .inr ⟨_,h,by unfold pr2;simp only [Prod.mk.injEq];omega⟩
  have r:(x,y)∈(T.flatMap Cm++(bds m T).map fun s=>(s.2,s.1))↔((x,y)∈T.flatMap Cm\/(y,x)∈T.flatMap Cm):=by
   rw [List.mem_append,List.mem_map]
   constructor
   ·rintro (h | ⟨⟨p,q⟩,h,e⟩)
    ·exact .inl h
    ·simp only [Prod.mk.injEq] at e
     obtain ⟨rfl,rfl⟩:=e
     exact .inr ((memS hM hT).2 ((Lg hM hT).1 h).1)
   ·rintro (h | h)
    ·exact .inl h
    ·by_cases c:∃ e,apM m x y=some e
     ·exact .inl ((memS hM hT).2 c)
     ·refine .inr ⟨(y,x),(Lg hM hT).2 ⟨(memS hM hT).1 h,?_⟩,rfl⟩
      cases hx:apM m x y with
      | none=>rfl
      | some e=>exact absurd ⟨e,hx⟩ c
  rw [l,r,mS]
 have key:=((List.perm_ext_iff_of_nodup n1 n2).2 same).length_eq
 rw [List.length_append,List.length_append,List.length_map,List.length_map,List.length_map,Af7] at key
 omega
theorem Ajl (hv:Be v) (hn:v.length<=1024) (hM:Mesh v L m) (hT:Ix v m T) (nd:S.Nodup) (mem:∀ s,s∈S↔Tl T s) :
  (T.length:Int)=2*v.length-2-(bds m T).length/\(S.length:Int)=3*v.length-3-(bds m T).length:=by
 have h1:=Ajj hv hn hM hT
 have h2:=Ajk hM.tri hT nd mem
 omega
end
section
variable {v:List Ab} {L S:List Aa} {T:List Ae} {m:Mp}
theorem Ahp {a b c:Ac} (ha:okP a) (hb:okP b) (hc:okP c):Xa a b c=some (crs a b c):=Oa ha hb hc
theorem Aou {α:Type} (f:α->Int) (l:List α) (x:α):tot f (l++[x])=tot f l+f x:=by
 rw [Yc]
 show tot f l+(f x+0)=_
 omega
theorem Aov (hv:Be v) (hT:T.length<=2000000) (hin:∀ t∈T,inN v.length t.a0/\inN v.length t.a1/\inN v.length t.a2):lfix (Ox ⟨v,T,L⟩) (0,0)=some (w64 (tot (fun t:Ae=>crs (plV v t.a0) (plV v t.a1) (plV v t.a2)) T)):=by
 obtain ⟨t,t1,t2⟩:=Bk (B:=Ox ⟨v,T,L⟩) (fun s=>T.length-s.2.toNat)
  (fun s=>∃ k:Nat,k<=T.length/\s=(w64 (tot (fun t:Ae=>crs (plV v t.a0) (plV v t.a1) (plV v t.a2)) (T.take k)),(k:Int)))
  (fun t=>t=w64 (tot (fun t:Ae=>crs (plV v t.a0) (plV v t.a1) (plV v t.a2)) T)) (by
   rintro s ⟨k,hk,rfl⟩
   unfold Ox
   dsimp only
   by_cases hlt:k < T.length
   ·left
    obtain ⟨v0,v1,v2⟩:=hin _ (List.getElem_mem hlt)
    obtain ⟨x0,i0,e0⟩:=Qx v0
    obtain ⟨x1,i1,e1⟩:=Qx v1
    obtain ⟨x2,i2,e2⟩:=Qx v2
    rw [if_pos (by omega),As hlt,Ad]
    unfold Qw Da
    dsimp only
    rw [i0,Ad,i1,Ad,i2,Ad,Ad]
    dsimp only
    rw [Ad,Ad,Ad,e0,e1,e2,Ahp (hv.ok _ v0) (hv.ok _ v1) (hv.ok _ v2),Ad,Aq3,Au (by omega)]
    exact ⟨_,rfl,⟨k+1,by omega,by rw [Bl hlt,Aou]⟩,by dsimp only;omega⟩
   ·right
    obtain rfl:k=T.length:=by omega
    rw [if_neg (by omega)]
    exact ⟨_,rfl,by rw [List.take_length]⟩)
  (0,0) ⟨0,by omega,rfl⟩
 rw [t1,t2]
def other (i:Int) (s:Aa):Option Int:=if i=s.a0 then some s.a1 else if i=s.a1 then some s.a0 else none
theorem Ajm (hS:S.length<=1000000) (i:Int):lfix (Mw S i) ([],0)=some (S.filterMap (other i)):=by
 obtain ⟨t,t1,t2⟩:=Bk (B:=Mw S i) (fun s=>S.length-s.2.toNat)
  (fun s=>∃ k:Nat,k<=S.length/\s=((S.take k).filterMap (other i),(k:Int))) (fun t=>t=S.filterMap (other i)) (by
   rintro s ⟨k,hk,rfl⟩
   unfold Mw
   dsimp only
   have hl:((S.take k).filterMap (other i)).length<=k:=Nat.le_trans (List.length_filterMap_le _ _) (by rw [List.length_take];omega)
   by_cases hlt:k < S.length
   ·left
    have e:(S.take (k+1)).filterMap (other i)=(S.take k).filterMap (other i)++(other i S[k]).toList:=by
     rw [Bl hlt,List.filterMap_append]
     congr 1
    rw [if_pos (by omega),jn_d,As hlt,Ad]
    unfold other at e
    by_cases c0:i=S[k].a0
    ·rw [if_pos c0] at e
     rw [if_pos c0,gd_t (by omega),Au (by omega)]
     exact ⟨_,rfl,⟨k+1,by omega,by unfold other;rw [e];rfl⟩,by dsimp only;omega⟩
    ·rw [if_neg c0] at e
     rw [if_neg c0]
     by_cases c1:i=S[k].a1
     ·rw [if_pos c1] at e
      rw [if_pos c1,gd_t (by omega),Au (by omega)]
      exact ⟨_,rfl,⟨k+1,by omega,by unfold other;rw [e];rfl⟩,by dsimp only;omega⟩
     ·rw [if_neg c1] at e
      rw [if_neg c1,Au (by omega)]
      exact ⟨_,rfl,⟨k+1,by omega,by unfold other;rw [e];simp⟩,by dsimp only;omega⟩
   ·right
    obtain rfl:k=S.length:=by omega
    rw [if_neg (by omega)]
    exact ⟨_,rfl,by rw [List.take_length]⟩)
  ([],0) ⟨0,by omega,rfl⟩
 rw [t1,t2]
theorem Asi {x y:Int} {s:Aa}:(⟨x,y⟩:Aa)=s↔x=s.a0/\y=s.a1:=by
 obtain ⟨p,q⟩:=s
 simp
def Near (S:List Aa) (i k:Int):Prop:=⟨i,k⟩∈S\/⟨k,i⟩∈S
theorem Aow {i k:Int} (hlt:∀ s∈S,s.a0 < s.a1):k∈S.filterMap (other i)↔Near S i k:=by
 rw [List.mem_filterMap]
 unfold Near other
 constructor
 ·rintro ⟨s,hs,e⟩
  obtain ⟨p,q⟩:=s
  dsimp only at e
  by_cases c0:i=p
  ·rw [if_pos c0] at e
   cases e
   rw [c0];exact .inl hs
  ·rw [if_neg c0] at e
   by_cases c1:i=q
   ·rw [if_pos c1] at e
    cases e
    rw [c1];exact .inr hs
   ·rw [if_neg c1] at e;cases e
 ·rintro (h | h)
  ·exact ⟨_,h,by dsimp only;rw [if_pos rfl]⟩
  ·have:=hlt _ h
   dsimp only at this
   exact ⟨_,h,by dsimp only;rw [if_neg (by omega),if_pos rfl]⟩
theorem Ajn {i:Int} (hlt:∀ s∈S,s.a0 < s.a1) (nd:S.Nodup):(S.filterMap (other i)).Nodup:=by
 unfold List.Nodup at nd ⊢
 rw [List.pairwise_filterMap]
 refine List.Pairwise.imp_of_mem (fun {a b} ha hb h x hx y hy e=>?_) nd
 obtain ⟨a0,a1⟩:=a
 obtain ⟨b0,b1⟩:=b
 have la:=hlt _ ha
 have lb:=hlt _ hb
 unfold other at hx hy
 dsimp only at hx hy la lb
 refine h ?_
 rw [Gf]
 by_cases c0:i=a0
 ·rw [if_pos c0] at hx
  by_cases d0:i=b0
  ·rw [if_pos d0] at hy
   simp only [Option.some.injEq] at hx hy
   omega
  ·rw [if_neg d0] at hy
   by_cases d1:i=b1
   ·rw [if_pos d1] at hy
    simp only [Option.some.injEq] at hx hy
    omega
   ·rw [if_neg d1] at hy;cases hy
 ·rw [if_neg c0] at hx
  by_cases c1:i=a1
  ·rw [if_pos c1] at hx
   by_cases d0:i=b0
   ·rw [if_pos d0] at hy
    simp only [Option.some.injEq] at hx hy
    omega
   ·rw [if_neg d0] at hy
    by_cases d1:i=b1
    ·rw [if_pos d1] at hy
     simp only [Option.some.injEq] at hx hy
     omega
    ·rw [if_neg d1] at hy;cases hy
  ·rw [if_neg c1] at hx;cases hx
theorem Alb {n:Nat} (hS:S.length<=1000000) (hin:∀ s∈S,inN n s.a0/\inN n s.a1) (i:Int):∃ M,lfix (Hg S i) (List.replicate n false,0)=some M/\M.length=n/\∀ k:Nat,M[k]? = some true↔k < n/\Near S i k:=by
 obtain ⟨M,m1,m2,m3⟩:=Bk (B:=Hg S i) (fun s=>S.length-s.2.toNat)
  (fun s=>∃ k:Nat,k<=S.length/\s.2=(k:Int)/\s.1.length=n/\∀ j:Nat,s.1[j]? = some true↔j < n/\Near (S.take k) i j)
  (fun M=>M.length=n/\∀ k:Nat,M[k]? = some true↔k < n/\Near S i k) (by
   rintro ⟨M,q⟩ ⟨k,hk,rfl,hM,hj⟩
   dsimp only at hM hj
   unfold Hg
   dsimp only
   by_cases hlt:k < S.length
   ·left
    obtain ⟨g0,g1⟩:=hin _ (List.getElem_mem hlt)
    obtain ⟨a,ha⟩:∃ a:Nat,S[k].a0=(a:Int):=⟨S[k].a0.toNat,by unfold inN at g0;omega⟩
    obtain ⟨b,hb⟩:∃ b:Nat,S[k].a1=(b:Int):=⟨S[k].a1.toNat,by unfold inN at g1;omega⟩
    have la:a < n:=by unfold inN at g0;omega
    have lb:b < n:=by unfold inN at g1;omega
    have near:∀ j:Nat,Near (S.take (k+1)) i j↔Near (S.take k) i j\/((S[k].a0=i/\j=b)\/(S[k].a1=i/\j=a)):=fun j=>by
     unfold Near
     rw [Bl hlt]
     simp only [List.mem_append,List.mem_singleton]
     have e0:(⟨i,(j:Int)⟩:Aa)=S[k]↔S[k].a0=i/\j=b:=by
      rw [Asi];omega
     have e1:(⟨(j:Int),i⟩:Aa)=S[k]↔S[k].a1=i/\j=a:=by
      rw [Asi];omega
     rw [e0,e1]
     constructor
     ·rintro ((h | h) | (h | h))
      ·exact .inl (.inl h)
      ·exact .inr (.inl h)
      ·exact .inl (.inr h)
      ·exact .inr (.inr h)
     ·rintro ((h | h) | (h | h))
      ·exact .inl (.inl h)
      ·exact .inr (.inl h)
      ·exact .inl (.inr h)
      ·exact .inr (.inr h)
    have set1:∀ (M:List Bool) (x:Nat),x < M.length->∀ j:Nat,(M.set x true)[j]? = some true↔M[j]? = some true\/j=x:=fun M x hx j=>by
     rw [List.getElem?_set]
     by_cases c:x=j
     ·rw [if_pos c,if_pos hx];simp [c]
     ·rw [if_neg c]
      exact ⟨.inl,fun h=>h.resolve_right fun e=>c e.symm⟩
    rw [if_pos (by omega),jn_d,As hlt,Ad,jn_d]
    obtain ⟨M1,f1,f2,f3⟩:∃ M1:List Bool,(if S[k].a0=i then bnd (idx M S[k].a1) (fun x94=>(fun s22=>if S[k].a1=i then bnd (idx s22 S[k].a0) (fun x110=>(fun s20=>some (Sum.inl (s20,w64 ((k:Int)+1)))) (setI s22 S[k].a0 true)) else (fun s20=>(some (Sum.inl (s20,w64 ((k:Int)+1))):Option (Sum (List Bool × Int) (List Bool)))) s22) (setI M S[k].a1 true)) else (fun s22=>if S[k].a1=i then bnd (idx s22 S[k].a0) (fun x110=>(fun s20=>some (Sum.inl (s20,w64 ((k:Int)+1)))) (setI s22 S[k].a0 true)) else (fun s20=>some (Sum.inl (s20,w64 ((k:Int)+1)))) s22) M)=(if S[k].a1=i then bnd (idx M1 S[k].a0) (fun x110=>some (Sum.inl (setI M1 S[k].a0 true,w64 ((k:Int)+1)))) else some (Sum.inl (M1,w64 ((k:Int)+1))))/\M1.length=n/\∀ j:Nat,M1[j]? = some true↔M[j]? = some true\/(S[k].a0=i/\j=b):=by
     by_cases c0:S[k].a0=i
     ·refine ⟨M.set b true,?_,by rw [List.length_set];exact hM,fun j=>by rw [set1 M b (by omega) j];simp [c0]⟩
      rw [if_pos c0,hb,As (by omega),Ad,Qj]
     ·exact ⟨M,by rw [if_neg c0],hM,fun j=>by simp [c0]⟩
    rw [f1]
    by_cases c1:S[k].a1=i
    ·rw [if_pos c1,ha,As (by omega),Ad,Qj,Au (by omega)]
     refine ⟨_,rfl,⟨k+1,by omega,rfl,by rw [List.length_set];exact f2,fun j=>?_⟩,by dsimp only;omega⟩
     dsimp only
     rw [set1 M1 a (by omega) j,f3 j,hj j,near j]
     constructor
     ·rintro ((⟨h,g⟩ | h) | h)
      ·exact ⟨h,.inl g⟩
      ·exact ⟨by omega,.inr (.inl h)⟩
      ·exact ⟨by omega,.inr (.inr ⟨c1,h⟩)⟩
     ·rintro ⟨h,g | g | g⟩
      ·exact .inl (.inl ⟨h,g⟩)
      ·exact .inl (.inr g)
      ·exact .inr g.2
    ·rw [if_neg c1,Au (by omega)]
     refine ⟨_,rfl,⟨k+1,by omega,rfl,f2,fun j=>?_⟩,by dsimp only;omega⟩
     dsimp only
     rw [f3 j,hj j,near j]
     constructor
     ·rintro (⟨h,g⟩ | h)
      ·exact ⟨h,.inl g⟩
      ·exact ⟨by omega,.inr (.inl h)⟩
     ·rintro ⟨h,g | g | g⟩
      ·exact .inl ⟨h,g⟩
      ·exact .inr g
      ·exact absurd g.1 c1
   ·right
    obtain rfl:k=S.length:=by omega
    rw [if_neg (by omega)]
    rw [List.take_length] at hj
    exact ⟨_,rfl,hM,hj⟩)
  (List.replicate n false,0) ⟨0,by omega,rfl,by simp,fun j=>by simp [Near,List.getElem?_replicate]⟩
 exact ⟨M,m1,m2,m3⟩
theorem Ajo (M:List Bool) (hM:M.length<=1000000):∃ R,lfix (Gn M) ([],0)=some R/\R.Pairwise (· < ·)/\∀ x:Int,x∈R↔∃ k:Nat,x=(k:Int)/\M[k]? = some true:=by
 obtain ⟨R,m1,m2,m3⟩:=Bk (B:=Gn M) (fun s=>M.length-s.2.toNat)
  (fun s=>∃ k:Nat,k<=M.length/\s.2=(k:Int)/\s.1.length<=k/\s.1.Pairwise (· < ·)/\∀ x:Int,x∈s.1↔∃ j:Nat,j < k/\x=(j:Int)/\M[j]? = some true)
  (fun R=>R.Pairwise (· < ·)/\∀ x:Int,x∈R↔∃ k:Nat,x=(k:Int)/\M[k]? = some true) (by
   rintro ⟨R,q⟩ ⟨k,hk,rfl,h0,h1,h2⟩
   dsimp only at h0 h1 h2
   unfold Gn
   dsimp only
   by_cases hlt:k < M.length
   ·left
    rw [if_pos (by omega),jn_d,As hlt,Ad]
    by_cases c:M[k]=true
    ·rw [if_pos c,gd_t (by omega),Au (by omega)]
     refine ⟨_,rfl,⟨k+1,by omega,rfl,by simp;omega,?_,fun x=>?_⟩,by dsimp only;omega⟩
     ·dsimp only
      rw [List.pairwise_append]
      refine ⟨h1,by simp,fun x hx y hy=>?_⟩
      rw [List.mem_singleton] at hy
      obtain ⟨j,hj,rfl,_⟩:=(h2 x).1 hx
      omega
     ·dsimp only
      rw [List.mem_append,h2 x,List.mem_singleton]
      constructor
      ·rintro (⟨j,hj,g⟩ | rfl)
       ·exact ⟨j,by omega,g⟩
       ·exact ⟨k,by omega,rfl,by rw [List.getElem?_eq_getElem hlt,c]⟩
      ·rintro ⟨j,hj,rfl,g⟩
       by_cases e:j=k
       ·rw [e];exact .inr rfl
       ·exact .inl ⟨j,by omega,rfl,g⟩
    ·rw [if_neg c,Au (by omega)]
     refine ⟨_,rfl,⟨k+1,by omega,rfl,by dsimp only;omega,h1,fun x=>?_⟩,by dsimp only;omega⟩
     dsimp only
     rw [h2 x]
     constructor
     ·rintro ⟨j,hj,g⟩
      exact ⟨j,by omega,g⟩
     ·rintro ⟨j,hj,e,g⟩
      refine ⟨j,?_,e,g⟩
      by_cases e':j=k
      ·subst e'
       rw [List.getElem?_eq_getElem hlt] at g
       exact absurd (Option.some.inj g) c
      ·omega
   ·right
    obtain rfl:k=M.length:=by omega
    rw [if_neg (by omega)]
    refine ⟨_,rfl,h1,fun x=>(h2 x).trans ⟨fun ⟨j,_,g⟩=>⟨j,g⟩,fun ⟨j,e,g⟩=>⟨j,?_,e,g⟩⟩⟩
    exact (List.getElem?_eq_some_iff.1 g).1)
  ([],0) ⟨0,by omega,rfl,by simp,List.Pairwise.nil,fun x=>by simp⟩
 exact ⟨R,m1,m2,m3⟩
theorem Aox {n:Nat} (hlt:∀ s∈S,s.a0 < s.a1) (nd:S.Nodup) (hin:∀ s∈S,inN n s.a0/\inN n s.a1) {i:Int} {M:List Bool} (hM:∀ k:Nat,M[k]? = some true↔k < n/\Near S i k) {R:List Int} (r1:R.Pairwise (· < ·)) (r2:∀ x:Int,x∈R↔∃ k:Nat,x=(k:Int)/\M[k]? = some true):Ku (S.filterMap (other i))=R:=by
 have hp:(Ku (S.filterMap (other i))).Perm (S.filterMap (other i)):=List.mergeSort_perm _ _
 have hs:(Ku (S.filterMap (other i))).Pairwise (fun x y=>(decide (x<=y))=true):=List.pairwise_mergeSort (fun a b c=>by simp only [decide_eq_true_eq];omega) (fun a b=>by simp only [Bool.or_eq_true,decide_eq_true_eq];omega) _
 have nR:R.Nodup:=r1.imp fun {a b} h e=>by omega
 refine List.Perm.eq_of_pairwise (le:=fun x y=>x<=y) (fun a b _ _ h1 h2=>by omega) (hs.imp fun {a b} h=>by simpa using h) (r1.imp fun {a b} h=>by omega) (hp.trans ?_)
 refine (List.perm_ext_iff_of_nodup (Ajn hlt nd) nR).2 fun x=>?_
 rw [Aow hlt,r2]
 constructor
 ·intro h
  have hx:inN n x:=by
   rcases h with h | h
   ·exact (hin _ h).2
   ·exact (hin _ h).1
  unfold inN at hx
  refine ⟨x.toNat,by omega,(hM _).2 ⟨by omega,?_⟩⟩
  rw [Int.toNat_of_nonneg hx.1]
  exact h
 ·rintro ⟨k,rfl,h⟩
  exact ((hM k).1 h).2
end
end Go.Proofs.YtjfndjmabhbicaaGreat
