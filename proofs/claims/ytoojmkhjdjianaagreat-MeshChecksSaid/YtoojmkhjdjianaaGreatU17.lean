/- Which lines are wrong: the reference says the same. -/
import Derived.Test.YtoojmkhjdjianaaGreatEs
import Derived.Test.YtoojmkhjdjianaaGreatE2
import Derived.Test.YtoojmkhjdjianaaGreatU16
namespace Go.Proofs.YtoojmkhjdjianaaGreat
open Go Go.RowKit
theorem Awj {a b p:Ac} (h:crs a b p=0) (e:p.X=a.X):b.X=a.X\/p.Y=a.Y:=by
 unfold crs at h
 rw [e,Int.sub_self,Int.mul_zero,Int.sub_zero] at h
 rcases Int.mul_eq_zero.1 h with g | g
 ·exact .inl (by omega)
 ·exact .inr (by omega)
theorem Awk {a b p:Ac} (h:crs a b p=0) (e:p.X=b.X):b.X=a.X\/p.Y=b.Y:=by
 unfold crs at h
 rw [e] at h
 have:(b.X-a.X)*(p.Y-b.Y)=0:=by grind
 rcases Int.mul_eq_zero.1 this with g | g
 ·exact .inl (by omega)
 ·exact .inr (by omega)
theorem Aks {a b p:Ac} (h0:crs a b p=0) (hab:¬ Bs a b) (hpa:¬ Bs p a) (hpb:¬ Bs p b):Box a b p↔BtwF a b p:=by
 have key:∀ a b p:Ac,crs a b p=0->¬ Bs a b->¬ Bs p a->¬ Bs p b->befP a b->(Box a b p↔BtwF a b p):=by
  intro a b p h0 hab hpa hpb hb
  constructor
  ·intro hbox
   refine ⟨⟨h0,fun g=>?_⟩,hpa,hpb⟩
   rcases Jb hpa with c | c
   ·exfalso
    obtain ⟨h1,h2,h3,h4⟩:=hbox
    unfold befP Bs at *
    by_cases e:p.X=a.X
    ·rcases Awj h0 e with q | q <;> omega
    ·omega
   ·have c2:=g.1 c
    exfalso
    obtain ⟨h1,h2,h3,h4⟩:=hbox
    unfold befP Bs at *
    by_cases e:p.X=b.X
    ·rcases Awk h0 e with q | q <;> omega
    ·omega
  ·intro g
   refine Ako h0 (fun c=>?_) (fun c=>?_)
   ·refine g.1.2 ⟨fun c2=>absurd c2 (Tl c),fun c2=>absurd c2 (Tl (Gu c hb))⟩
   ·refine g.1.2 ⟨fun _=>c,fun _=>Gu hb c⟩
 rcases Jb hab with c | c
 ·exact key a b p h0 hab hpa hpb c
 ·have h0':crs b a p=0:=by rw [Av];omega
  have:=key b a p h0' (fun e=>hab ⟨e.1.symm,e.2.symm⟩) hpb hpa c
  constructor
  ·intro h
   have g:=this.1 h.swap
   exact ⟨⟨h0,fun e=>g.1.2 e.symm⟩,g.2.2,g.2.1⟩
  ·intro g
   exact (this.2 ⟨⟨h0',fun e=>g.1.2 e.symm⟩,g.2.2,g.2.1⟩).swap
section
variable {v:List Ab} {l:List Aa}
theorem Ab2 {x y:Aa}:prL x=prL y↔(x.a0=y.a0/\x.a1=y.a1)\/(x.a0=y.a1/\x.a1=y.a0):=by
 constructor
 ·intro h;exact Ael h
 ·rintro (⟨h1,h2⟩ | ⟨h1,h2⟩)
  ·unfold prL;rw [h1,h2]
  ·unfold prL;rw [h1,h2,Ky]
theorem Ary (hl:l.length<=1000000) {i:Nat} (hi:i < l.length) :
  (lfix (Cu (i:Int) l) 0=some (.inl ())/\prL l[i] ∉ (l.take i).map prL)\/(lfix (Cu (i:Int) l) 0=some (.inr 62)/\prL l[i]∈(l.take i).map prL):=by
 haveI:∀ x y:Aa,Decidable (x=y):=fun _ _=>Classical.propDecidable _
 have L:=Pe (β:=Unit) (γ:=Int) i (by omega) (fun k=>decide (prL l[i]=prL (l.getD k ⟨0,0⟩))) (Cu (i:Int) l) () 62 (fun k hk=>by
  have hk':k < l.length:=by omega
  have e:l.getD k ⟨0,0⟩=l[k]:=by simp [hk']
  unfold Cu
  rw [if_pos (by omega),jn_d,Ay hi,Ad,Ay hk',Ad,e,Bk (by omega)]
  by_cases c1:l[i].a0=l[k].a0/\l[i].a1=l[k].a1
  ·rw [if_pos (by simp [c1])];dsimp only;rw [if_pos rfl,if_pos (decide_eq_true (Ab2.2 (.inl c1)))]
  ·rw [if_neg (by simp;intro a;exact fun b=>c1 ⟨a,b⟩),Ad,Ad]
   dsimp only
   by_cases c2:l[i].a0=l[k].a1
   ·rw [if_pos c2,Ad,Ad]
    by_cases c3:l[i].a1=l[k].a0
    ·rw [if_pos (decide_eq_true c3),if_pos (decide_eq_true (Ab2.2 (.inr ⟨c2,c3⟩)))]
    ·rw [if_neg (by simpa using c3),if_neg (by rw [decide_eq_true_eq,Ab2];exact fun g=>g.elim c1 (fun g=>c3 g.2))]
   ·rw [if_neg c2,if_neg (by simp),if_neg (by rw [decide_eq_true_eq,Ab2];exact fun g=>g.elim c1 (fun g=>c2 g.1))]) (by
  unfold Cu
  rw [if_neg (by omega)])
 have iff:((List.range i).any fun k=>decide (prL l[i]=prL (l.getD k ⟨0,0⟩)))=true↔prL l[i]∈(l.take i).map prL:=by
  rw [List.any_eq_true,List.mem_map]
  constructor
  ·rintro ⟨k,hk,h⟩
   have hk:=List.mem_range.1 hk
   have hk':k < l.length:=by omega
   have e:l.getD k ⟨0,0⟩=l[k]:=by simp [hk']
   rw [decide_eq_true_eq,e] at h
   exact ⟨l[k],List.mem_take_iff_getElem.2 ⟨k,by omega,rfl⟩,h.symm⟩
  ·rintro ⟨x,hx,h⟩
   obtain ⟨k,hk,rfl⟩:=List.mem_take_iff_getElem.1 hx
   have hk':k < l.length:=by omega
   have e:l.getD k ⟨0,0⟩=l[k]:=by simp [hk']
   exact ⟨k,List.mem_range.2 (by omega),by rw [decide_eq_true_eq,e];exact h.symm⟩
 rw [L]
 by_cases c:prL l[i]∈(l.take i).map prL
 ·right;exact ⟨by rw [if_pos (iff.2 c)],c⟩
 ·left;exact ⟨by rw [if_neg (fun g=>c (iff.1 g))],c⟩
theorem Arz (hn:v.length<=1024) (hl:l.length<=1000000):lfix (Ek l v) 0=some (if Lin1 v l then .inl () else .inr 62):=by
 obtain ⟨t,ht,hR⟩:=Cf (B:=Ek l v) (fun s=>l.length-s.toNat)
  (fun s=>∃ k:Nat,s=(k:Int)/\k<=l.length/\Lin1 v (l.take k))
  (fun t=>t=if Lin1 v l then .inl () else .inr 62) (by
   rintro s ⟨k,rfl,hk,h⟩
   unfold Ek
   by_cases hlt:k < l.length
   ·have hm:l[k]∈l:=List.getElem_mem hlt
    rw [if_pos (by omega),jn_d,jn_d,Ay hlt,Ad]
    by_cases ho:okL v l[k]
    ·obtain ⟨h1,h2,h3⟩:=ho
     rw [if_neg (by have:=h1.1;omega),Ad,if_neg (by have:=h1.2;omega),Ad,if_neg (by have:=h2.1;omega),Ad,if_neg (by have:=h2.2;omega),Ad,Ad,decide_eq_false h3]
     dsimp only
     rw [if_neg (show ¬ (false=true) by simp)]
     rcases Ary hl hlt with ⟨e,c⟩ | ⟨e,c⟩
     ·left
      refine ⟨((k+1:Nat):Int),by rw [e,Ad];dsimp only;rw [Bk (by omega)],⟨k+1,rfl,by omega,?_⟩,by simp;omega⟩
      rw [Bw hlt]
      refine ⟨fun s hs=>?_,?_⟩
      ·rcases List.mem_append.1 hs with hs | hs
       ·exact h.1 s hs
       ·rw [List.mem_singleton] at hs
        rw [hs];exact ⟨h1,h2,h3⟩
      ·rw [List.map_append,List.map_singleton,Sd]
       exact ⟨h.2,c⟩
     ·right
      refine ⟨.inr 62,by rw [e,Ad],?_⟩
      have hnl:¬ Lin1 v l:=by
       rintro ⟨_,hnd⟩
       have hs:List.Sublist ((l.take (k+1)).map prL) (l.map prL):=(List.take_sublist _ _).map _
       have:=hnd.sublist hs
       rw [Bw hlt,List.map_append,List.map_singleton,Sd] at this
       exact this.2 c
      rw [if_neg hnl]
    ·right
     have hno:¬ Lin1 v l:=fun g=>ho (g.1 _ hm)
     refine ⟨.inr 62,?_,by rw [if_neg hno]⟩
     unfold okL inN at ho
     by_cases c1:l[k].a0 < 0
     ·rw [if_pos c1];rfl
     ·rw [if_neg c1,Ad]
      by_cases c2:((v.length:Nat):Int)<=l[k].a0
      ·rw [if_pos c2];rfl
      ·rw [if_neg c2,Ad]
       by_cases c3:l[k].a1 < 0
       ·rw [if_pos c3];rfl
       ·rw [if_neg c3,Ad]
        by_cases c4:((v.length:Nat):Int)<=l[k].a1
        ·rw [if_pos c4];rfl
        ·rw [if_neg c4,Ad,Ad,decide_eq_true (show l[k].a0=l[k].a1 by omega)];rfl
   ·right
    obtain rfl:k=l.length:=by omega
    refine ⟨.inl (),by rw [if_neg (by omega)],?_⟩
    rw [List.take_length] at h
    rw [if_pos h])
  0 ⟨0,rfl,by omega,⟨fun s hs=>by simp at hs,by simp⟩⟩
 rw [ht,hR]
def Fw (v:List Ab) (a b x y:Int):Prop:=Int.sign (crs (plV v a) (plV v b) (plV v x))*Int.sign (crs (plV v a) (plV v b) (plV v y)) < 0/\Int.sign (crs (plV v x) (plV v y) (plV v a))*Int.sign (crs (plV v x) (plV v y) (plV v b)) < 0
theorem Fw.symm {a b x y:Int} (h:Fw v a b x y):Fw v x y a b:=⟨h.2,h.1⟩
theorem Amf {a b x y:Int} (hx:inN v.length x) (hy:inN v.length y) (ha:inN v.length a) (hb:inN v.length b) (f1:∀ k,inN v.length k->¬ BtwF (plV v a) (plV v b) (plV v k)) (f2:∀ k,inN v.length k->¬ BtwF (plV v x) (plV v y) (plV v k)):Fv v a b x y↔Fw v a b x y:=by
 constructor
 ·rintro ⟨_,(g | g | g | g) | g⟩
  ·exact absurd g (f1 x hx)
  ·exact absurd g (f1 y hy)
  ·exact absurd g (f2 a ha)
  ·exact absurd g (f2 b hb)
  ·exact g
 ·intro g
  obtain ⟨g1,g2⟩:=g
  refine ⟨⟨fun e=>?_,fun e=>?_,fun e=>?_,fun e=>?_⟩,.inr ⟨g1,g2⟩⟩
  ·rw [e,Bm] at g1;simp at g1
  ·rw [e,Bm] at g1;simp at g1
  ·rw [e,Bg] at g1;simp at g1
  ·rw [e,Bg] at g1;simp at g1
theorem Ae3 {a b c d:Ac} (ha:okP a) (hb:okP b) (hc:okP c) (hd:okP d):Io a b c d=some (decide (Int.sign (crs a b c)*Int.sign (crs a b d) < 0/\Int.sign (crs c d a)*Int.sign (crs c d b) < 0)):=by
 unfold Io
 rw [jn_d,Pb ha hb hc,Ad,Pb ha hb hd,Ad,Sk]
 by_cases h:Int.sign (crs a b c)*Int.sign (crs a b d) < 0
 ·rw [if_pos h,Pb hc hd ha,Ad,Pb hc hd hb,Ad,Sk]
  simp [h]
 ·rw [if_neg h]
  simp [h]
theorem Aoy (hv:Cd v) (hn:v.length<=1024) {i:Nat} (hi:i < l.length) (ho:okL v l[i]) :
  (lfix (Cl v l (i:Int) (plV v l[i].a0) (plV v l[i].a1)) 0=some (.inl ())/\∀ k,inN v.length k->¬ BtwF (plV v l[i].a0) (plV v l[i].a1) (plV v k))\/(lfix (Cl v l (i:Int) (plV v l[i].a0) (plV v l[i].a1)) 0=some (.inr 63)/\∃ k,inN v.length k/\BtwF (plV v l[i].a0) (plV v l[i].a1) (plV v k)):=by
 haveI:∀ p q r,Decidable (BtwF p q r):=fun _ _ _=>Classical.propDecidable _
 obtain ⟨h1,h2,h3⟩:=ho
 have L:=Pe (β:=Unit) (γ:=Int) v.length (by omega) (fun k=>decide (BtwF (plV v l[i].a0) (plV v l[i].a1) (plV v (k:Int)))) (Cl v l (i:Int) (plV v l[i].a0) (plV v l[i].a1)) () 63 (fun k hk=>by
  have hkn:inN v.length (k:Int):=⟨by omega,by omega⟩
  unfold Cl
  rw [if_pos (by omega),jn_d,Ay hi,Ad,Bk (by omega)]
  by_cases c1:(k:Int)=l[i].a0
  ·have:¬ BtwF (plV v l[i].a0) (plV v l[i].a1) (plV v (k:Int)):=fun g=>g.2.1 (by rw [c1];exact ⟨rfl,rfl⟩)
   rw [if_pos c1];dsimp only;rw [if_neg (show ¬ (false=true) by simp),if_neg (show ¬ (decide (BtwF (plV v l[i].a0) (plV v l[i].a1) (plV v (k:Int)))=true) by simpa using this)]
  ·rw [if_neg c1,Ad]
   by_cases c2:(k:Int)=l[i].a1
   ·have:¬ BtwF (plV v l[i].a0) (plV v l[i].a1) (plV v (k:Int)):=fun g=>g.2.2 (by rw [c2];exact ⟨rfl,rfl⟩)
    rw [if_pos c2];dsimp only;rw [if_neg (show ¬ (false=true) by simp),if_neg (show ¬ (decide (BtwF (plV v l[i].a0) (plV v l[i].a1) (plV v (k:Int)))=true) by simpa using this)]
   ·have hp:(⟨v[k].X,v[k].Y⟩:Ac)=plV v (k:Int):=(Adh hk).symm
    rw [if_neg c2,Ay hk,Ad]
    unfold Ak
    dsimp only
    rw [Ad,hp,Abb (hv.ok _ h1) (hv.ok _ h2) (hv.ok _ hkn),Ad]
    by_cases c:BtwF (plV v l[i].a0) (plV v l[i].a1) (plV v (k:Int))
    ·have hb:=(Aks c.1.1 (Mw hv h1 h2 h3) (Mw hv hkn h1 c1) (Mw hv hkn h2 c2)).2 c
     rw [if_pos (by rw [decide_eq_true_eq];exact ⟨c.1.1,hb⟩),if_pos (decide_eq_true c)]
    ·rw [if_neg (by
      rw [decide_eq_true_eq]
      rintro ⟨g0,g⟩
      exact c ((Aks g0 (Mw hv h1 h2 h3) (Mw hv hkn h1 c1) (Mw hv hkn h2 c2)).1 g)),if_neg (by simpa using c)]) (by
  unfold Cl
  rw [if_neg (by omega)])
 rw [L]
 by_cases c:∃ k,inN v.length k/\BtwF (plV v l[i].a0) (plV v l[i].a1) (plV v k)
 ·right
  refine ⟨?_,c⟩
  obtain ⟨k,⟨k0,k1⟩,hk⟩:=c
  rw [if_pos]
  rw [List.any_eq_true]
  exact ⟨k.toNat,List.mem_range.2 (by omega),by rw [decide_eq_true_eq,Int.toNat_of_nonneg k0];exact hk⟩
 ·left
  refine ⟨?_,fun k hk g=>c ⟨k,hk,g⟩⟩
  rw [if_neg]
  rw [List.any_eq_true]
  rintro ⟨k,hk,g⟩
  rw [decide_eq_true_eq] at g
  exact c ⟨(k:Int),⟨by omega,by have:=List.mem_range.1 hk;omega⟩,g⟩
theorem Aoz (hv:Cd v) (hl:l.length<=1000000) (hok:∀ s∈l,okL v s) {i:Nat} (hi:i < l.length) :
  (lfix (Cm (i:Int) l v (plV v l[i].a0) (plV v l[i].a1)) 0=some (.inl ())/\∀ x∈l.take i,¬ Fw v x.a0 x.a1 l[i].a0 l[i].a1)\/(lfix (Cm (i:Int) l v (plV v l[i].a0) (plV v l[i].a1)) 0=some (.inr 63)/\∃ x∈l.take i,Fw v x.a0 x.a1 l[i].a0 l[i].a1):=by
 haveI:∀ a b c d,Decidable (Fw v a b c d):=fun _ _ _ _=>Classical.propDecidable _
 obtain ⟨h1,h2,_⟩:=hok _ (List.getElem_mem hi)
 have L:=Pe (β:=Unit) (γ:=Int) i (by omega) (fun k=>decide (Fw v (l.getD k ⟨0,0⟩).a0 (l.getD k ⟨0,0⟩).a1 l[i].a0 l[i].a1)) (Cm (i:Int) l v (plV v l[i].a0) (plV v l[i].a1)) () 63 (fun k hk=>by
  have hk':k < l.length:=by omega
  have e:l.getD k ⟨0,0⟩=l[k]:=by simp [hk']
  obtain ⟨q1,q2,_⟩:=hok _ (List.getElem_mem hk')
  obtain ⟨x0,i0,e0⟩:=Ho q1
  obtain ⟨x1,i1,e1⟩:=Ho q2
  unfold Cm Ak
  rw [if_pos (by omega),Ay hk',Ad,i0,Ad,Ad,i1,Ad]
  dsimp only
  rw [Ad,Ad,e0,e1,Ae3 (hv.ok _ h1) (hv.ok _ h2) (hv.ok _ q1) (hv.ok _ q2),Ad,e,Bk (by omega)]
  by_cases c:Fw v l[k].a0 l[k].a1 l[i].a0 l[i].a1
  ·rw [if_pos (by rw [decide_eq_true_eq];exact c.symm),if_pos (decide_eq_true c)]
  ·rw [if_neg (by rw [decide_eq_true_eq];exact fun g=>c (Fw.symm (v:=v) g)),if_neg (by simpa using c)]) (by
  unfold Cm
  rw [if_neg (by omega)])
 have iff:((List.range i).any fun k=>decide (Fw v (l.getD k ⟨0,0⟩).a0 (l.getD k ⟨0,0⟩).a1 l[i].a0 l[i].a1))=true↔∃ x∈l.take i,Fw v x.a0 x.a1 l[i].a0 l[i].a1:=by
  rw [List.any_eq_true]
  constructor
  ·rintro ⟨k,hk,h⟩
   have hk:=List.mem_range.1 hk
   have hk':k < l.length:=by omega
   have e:l.getD k ⟨0,0⟩=l[k]:=by simp [hk']
   rw [decide_eq_true_eq,e] at h
   exact ⟨l[k],List.mem_take_iff_getElem.2 ⟨k,by omega,rfl⟩,h⟩
  ·rintro ⟨x,hx,h⟩
   obtain ⟨k,hk,rfl⟩:=List.mem_take_iff_getElem.1 hx
   have hk':k < l.length:=by omega
   have e:l.getD k ⟨0,0⟩=l[k]:=by simp [hk']
   exact ⟨k,List.mem_range.2 (by omega),by rw [decide_eq_true_eq,e];exact h⟩
 rw [L]
 by_cases c:∃ x∈l.take i,Fw v x.a0 x.a1 l[i].a0 l[i].a1
 ·right;exact ⟨by rw [if_pos (iff.2 c)],c⟩
 ·left;exact ⟨by rw [if_neg (fun g=>c (iff.1 g))],fun x hx g=>c ⟨x,hx,g⟩⟩
theorem Ao0 (hv:Cd v) (hn:v.length<=1024) (hl:l.length<=1000000) (hok:∀ s∈l,okL v s):lfix (Eb l v) 0=some (if Lin2 v l then .inl () else .inr 63):=by
 obtain ⟨t,ht,hR⟩:=Cf (B:=Eb l v) (fun s=>l.length-s.toNat)
  (fun s=>∃ k:Nat,s=(k:Int)/\k<=l.length/\Lin2 v (l.take k))
  (fun t=>t=if Lin2 v l then .inl () else .inr 63) (by
   rintro s ⟨k,rfl,hk,h⟩
   unfold Eb Ak
   by_cases hlt:k < l.length
   ·have ho:=hok _ (List.getElem_mem hlt)
    obtain ⟨h1,h2,_⟩:=hok _ (List.getElem_mem hlt)
    obtain ⟨x0,i0,e0⟩:=Ho h1
    obtain ⟨x1,i1,e1⟩:=Ho h2
    rw [if_pos (by omega),jn_d,Ay hlt,Ad,i0,Ad,Ad,i1,Ad]
    dsimp only
    rw [Ad,Ad,e0,e1,jn_d]
    rcases Aoy hv hn hlt ho with ⟨e,g⟩ | ⟨e,g⟩
    ·rw [e,Ad]
     dsimp only
     have cr:∀ x∈l.take k,(Fv v x.a0 x.a1 l[k].a0 l[k].a1↔Fw v x.a0 x.a1 l[k].a0 l[k].a1):=fun x hx=>by
      obtain ⟨q1,q2,_⟩:=hok _ (List.mem_of_mem_take hx)
      exact Amf h1 h2 q1 q2 (h.1 x hx) g
     rcases Aoz hv hl hok hlt with ⟨e2,g2⟩ | ⟨e2,g2⟩
     ·left
      rw [e2,Ad]
      refine ⟨((k+1:Nat):Int),by dsimp only;rw [Bk (by omega)],⟨k+1,rfl,by omega,?_⟩,by simp;omega⟩
      rw [Bw hlt]
      refine ⟨fun s hs=>?_,?_⟩
      ·rcases List.mem_append.1 hs with hs | hs
       ·exact h.1 s hs
       ·rw [List.mem_singleton] at hs
        rw [hs];exact g
      ·rw [List.pairwise_append]
       exact ⟨h.2,by simp,fun x hx y hy=>by rw [List.mem_singleton] at hy;rw [hy];exact fun c=>g2 x hx ((cr x hx).1 c)⟩
     ·right
      rw [e2,Ad]
      refine ⟨.inr 63,rfl,?_⟩
      rw [if_neg]
      rintro ⟨_,hp⟩
      obtain ⟨x,hx,hc⟩:=g2
      have:=hp.sublist (List.take_sublist (k+1) l)
      rw [Bw hlt,List.pairwise_append] at this
      exact this.2.2 x hx l[k] (by simp) ((cr x hx).2 hc)
    ·right
     rw [e,Ad]
     refine ⟨.inr 63,rfl,?_⟩
     rw [if_neg]
     rintro ⟨hp,_⟩
     obtain ⟨z,hz,hb⟩:=g
     exact hp _ (List.getElem_mem hlt) z hz hb
   ·right
    obtain rfl:k=l.length:=by omega
    refine ⟨.inl (),by rw [if_neg (by omega)],?_⟩
    rw [List.take_length] at h
    rw [if_pos h])
  0 ⟨0,rfl,by omega,⟨fun s hs=>by simp at hs,by simp⟩⟩
 rw [ht,hR]
theorem Zk (hv:Cd v) (hn:v.length<=1024) (hl:l.length<=1000000):Ge v l=some (Kx v l):=by
 unfold Ge Kx
 rw [jn_d,Arz hn hl,Ad]
 by_cases c1:Lin1 v l
 ·rw [if_pos c1,if_pos c1]
  dsimp only
  rw [jn_d,Ao0 hv hn hl c1.1,Ad]
  by_cases c2:Lin2 v l
  ·rw [if_pos c2,if_pos c2]
  ·rw [if_neg c2,if_neg c2]
 ·rw [if_neg c1,if_neg c1]
theorem Zl (hl:l.length<=1000000):Ip v l=some (if Ke v=0 then Kx v l else Ke v):=by
 unfold Ip
 rw [Ve,Ad]
 by_cases h:Ke v=0
 ·obtain ⟨hn,_,hv⟩:=Ov h
  rw [if_pos h,if_pos h,Zk hv hn hl,Ad]
 ·rw [if_neg h,if_neg h]
end
end Go.Proofs.YtoojmkhjdjianaaGreat
