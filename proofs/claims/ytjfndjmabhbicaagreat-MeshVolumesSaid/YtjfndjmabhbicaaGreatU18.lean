/- Which lines are wrong: the reference says the same. -/
import Derived.Test.YtjfndjmabhbicaaGreatU1
import Derived.Test.YtjfndjmabhbicaaGreatE2
import Derived.Test.YtjfndjmabhbicaaGreatU16
namespace Go.Proofs.YtjfndjmabhbicaaGreat
open Go Go.RowKit
theorem Bak {a b p:Ac} (h:crs a b p=0) (e:p.X=a.X):b.X=a.X\/p.Y=a.Y:=by
 unfold crs at h
 rw[e,Int.sub_self,Int.mul_zero,Int.sub_zero] at h
 rcases Int.mul_eq_zero.1 h with g | g
 ·exact .inl (by omega)
 ·exact .inr (by omega)
theorem Bal {a b p:Ac} (h:crs a b p=0) (e:p.X=b.X):b.X=a.X\/p.Y=b.Y:=by
 unfold crs at h
 rw[e] at h
 have:(b.X-a.X)*(p.Y-b.Y)=0:=by grind
 rcases Int.mul_eq_zero.1 this with g | g
 ·exact .inl (by omega)
 ·exact .inr (by omega)
theorem Am7 {a b p:Ac} (h0:crs a b p=0) (hab:¬ Bt a b) (hpa:¬ Bt p a) (hpb:¬ Bt p b):Box a b p↔BtwF a b p:=by
 have key:∀ a b p:Ac,crs a b p=0->¬ Bt a b->¬ Bt p a->¬ Bt p b->befP a b->(Box a b p↔BtwF a b p):=by
  intro a b p h0 hab hpa hpb hb
  constructor
  ·intro hbox
   refine ⟨⟨h0,fun g=>?_⟩,hpa,hpb⟩
   rcases Ii hpa with c | c
   ·exfalso
    obtain ⟨h1,h2,h3,h4⟩:=hbox
    unfold befP Bt at *
    by_cases e:p.X=a.X
    ·rcases Bak h0 e with q | q <;> omega
    ·omega
   ·have c2:=g.1 c
    exfalso
    obtain ⟨h1,h2,h3,h4⟩:=hbox
    unfold befP Bt at *
    by_cases e:p.X=b.X
    ·rcases Bal h0 e with q | q <;> omega
    ·omega
  ·intro g
   refine Ank h0 (fun c=>?_) (fun c=>?_)
   ·refine g.1.2 ⟨fun c2=>absurd c2 (Uy c),fun c2=>absurd c2 (Uy (Hm c hb))⟩
   ·refine g.1.2 ⟨fun _=>c,fun _=>Hm hb c⟩
 rcases Ii hab with c | c
 ·exact key a b p h0 hab hpa hpb c
 ·have h0':crs b a p=0:=by rw[Ax];omega
  have:=key b a p h0' (fun e=>hab ⟨e.1.symm,e.2.symm⟩) hpb hpa c
  constructor
  ·intro h
   have g:=this.1 h.swap
   exact ⟨⟨h0,fun e=>g.1.2 e.symm⟩,g.2.2,g.2.1⟩
  ·intro g
   exact (this.2 ⟨⟨h0',fun e=>g.1.2 e.symm⟩,g.2.2,g.2.1⟩).swap
section
variable {v:List Ab} {l:List Aa}
theorem Adl {x y:Aa}:prL x=prL y↔(x.a0=y.a0/\x.a1=y.a1)\/(x.a0=y.a1/\x.a1=y.a0):=by
 constructor
 ·intro h;exact Af1 h
 ·rintro (⟨h1,h2⟩ | ⟨h1,h2⟩)
  ·unfold prL;rw[h1,h2]
  ·unfold prL;rw[h1,h2,Ml]
theorem Auu (hl:l.length<=1000000) {i:Nat} (hi:i < l.length) :
  (lfix (Cp (i:Int) l) 0=some (.inl ())/\prL l[i] ∉ (l.take i).map prL)\/(lfix (Cp (i:Int) l) 0=some (.inr 62)/\prL l[i]∈(l.take i).map prL):=by
 haveI:∀ x y:Aa,Decidable (x=y):=fun _ _=>Classical.propDecidable _
 have L:=Qr (β:=Unit) (γ:=Int) i (by omega) (fun k=>decide (prL l[i]=prL (l.getD k ⟨0,0⟩))) (Cp (i:Int) l) () 62 (fun k hk=>by
  have hk':k < l.length:=by omega
  have e:l.getD k ⟨0,0⟩=l[k]:=by simp[hk']
  unfold Cp
  rw[if_pos (by omega),jn_d,Bb hi,Ad,Bb hk',Ad,e,Be (by omega)]
  by_cases c1:l[i].a0=l[k].a0/\l[i].a1=l[k].a1
  ·rw[if_pos (by simp[c1])];dsimp only;rw[if_pos rfl,if_pos (decide_eq_true (Adl.2 (.inl c1)))]
  ·rw[if_neg (by simp;intro a;exact fun b=>c1 ⟨a,b⟩),Ad,Ad]
   dsimp only
   by_cases c2:l[i].a0=l[k].a1
   ·rw[if_pos c2,Ad,Ad]
    by_cases c3:l[i].a1=l[k].a0
    ·rw[if_pos (decide_eq_true c3),if_pos (decide_eq_true (Adl.2 (.inr ⟨c2,c3⟩)))]
    ·rw[if_neg (by simpa using c3),if_neg (by rw[decide_eq_true_eq,Adl];exact fun g=>g.elim c1 (fun g=>c3 g.2))]
   ·rw[if_neg c2,if_neg (by simp),if_neg (by rw[decide_eq_true_eq,Adl];exact fun g=>g.elim c1 (fun g=>c2 g.1))]) (by
  unfold Cp
  rw[if_neg (by omega)])
 have iff:((List.range i).any fun k=>decide (prL l[i]=prL (l.getD k ⟨0,0⟩)))=true↔prL l[i]∈(l.take i).map prL:=by
  rw[List.any_eq_true,List.mem_map]
  constructor
  ·rintro ⟨k,hk,h⟩
   have hk:=List.mem_range.1 hk
   have hk':k < l.length:=by omega
   have e:l.getD k ⟨0,0⟩=l[k]:=by simp[hk']
   rw[decide_eq_true_eq,e] at h
   exact ⟨l[k],List.mem_take_iff_getElem.2 ⟨k,by omega,rfl⟩,h.symm⟩
  ·rintro ⟨x,hx,h⟩
   obtain ⟨k,hk,rfl⟩:=List.mem_take_iff_getElem.1 hx
   have hk':k < l.length:=by omega
   have e:l.getD k ⟨0,0⟩=l[k]:=by simp[hk']
   exact ⟨k,List.mem_range.2 (by omega),by rw[decide_eq_true_eq,e];exact h.symm⟩
 rw[L]
 by_cases c:prL l[i]∈(l.take i).map prL
 ·right;exact ⟨by rw[if_pos (iff.2 c)],c⟩
 ·left;exact ⟨by rw[if_neg (fun g=>c (iff.1 g))],c⟩
theorem Auv (hn:v.length<=1024) (hl:l.length<=1000000):lfix (Fb l v) 0=some (if Lin1 v l then .inl () else .inr 62):=by
 obtain ⟨t,ht,hR⟩:=Bl (B:=Fb l v) (fun s=>l.length-s.toNat)
  (fun s=>∃ k:Nat,s=(k:Int)/\k<=l.length/\Lin1 v (l.take k))
  (fun t=>t=if Lin1 v l then .inl () else .inr 62) (by
   rintro s ⟨k,rfl,hk,h⟩
   unfold Fb
   by_cases hlt:k < l.length
   ·have hm:l[k]∈l:=List.getElem_mem hlt
    rw[if_pos (by omega),jn_d,jn_d,Bb hlt,Ad]
    by_cases ho:okL v l[k]
    ·obtain ⟨h1,h2,h3⟩:=ho
     rw[if_neg (by have:=h1.1;omega),Ad,if_neg (by have:=h1.2;omega),Ad,if_neg (by have:=h2.1;omega),Ad,if_neg (by have:=h2.2;omega),Ad,Ad,decide_eq_false h3]
     dsimp only
     rw[if_neg (show ¬ (false=true) by simp)]
     rcases Auu hl hlt with ⟨e,c⟩ | ⟨e,c⟩
     ·left
      refine ⟨((k+1:Nat):Int),by rw[e,Ad];dsimp only;rw[Be (by omega)],⟨k+1,rfl,by omega,?_⟩,by simp;omega⟩
      rw[Br hlt]
      refine ⟨fun s hs=>?_,?_⟩
      ·rcases List.mem_append.1 hs with hs | hs
       ·exact h.1 s hs
       ·rw[List.mem_singleton] at hs
        rw[hs];exact ⟨h1,h2,h3⟩
      ·rw[List.map_append,List.map_singleton,Tn]
       exact ⟨h.2,c⟩
     ·right
      refine ⟨.inr 62,by rw[e,Ad],?_⟩
      have hnl:¬ Lin1 v l:=by
       rintro ⟨_,hnd⟩
       have hs:List.Sublist ((l.take (k+1)).map prL) (l.map prL):=(List.take_sublist _ _).map _
       have:=hnd.sublist hs
       rw[Br hlt,List.map_append,List.map_singleton,Tn] at this
       exact this.2 c
      rw[if_neg hnl]
    ·right
     have hno:¬ Lin1 v l:=fun g=>ho (g.1 _ hm)
     refine ⟨.inr 62,?_,by rw[if_neg hno]⟩
     unfold okL inN at ho
     by_cases c1:l[k].a0 < 0
     ·rw[if_pos c1];rfl
     ·rw[if_neg c1,Ad]
      by_cases c2:((v.length:Nat):Int)<=l[k].a0
      ·rw[if_pos c2];rfl
      ·rw[if_neg c2,Ad]
       by_cases c3:l[k].a1 < 0
       ·rw[if_pos c3];rfl
       ·rw[if_neg c3,Ad]
        by_cases c4:((v.length:Nat):Int)<=l[k].a1
        ·rw[if_pos c4];rfl
        ·rw[if_neg c4,Ad,Ad,decide_eq_true (show l[k].a0=l[k].a1 by omega)];rfl
   ·right
    obtain rfl:k=l.length:=by omega
    refine ⟨.inl (),by rw[if_neg (by omega)],?_⟩
    rw[List.take_length] at h
    rw[if_pos h])
  0 ⟨0,rfl,by omega,⟨fun s hs=>by simp at hs,by simp⟩⟩
 rw[ht,hR]
def Gq (v:List Ab) (a b x y:Int):Prop:=Int.sign (crs (plV v a) (plV v b) (plV v x))*Int.sign (crs (plV v a) (plV v b) (plV v y)) < 0/\Int.sign (crs (plV v x) (plV v y) (plV v a))*Int.sign (crs (plV v x) (plV v y) (plV v b)) < 0
theorem Gq.symm {a b x y:Int} (h:Gq v a b x y):Gq v x y a b:=⟨h.2,h.1⟩
theorem Ao8 {a b x y:Int} (hx:inN v.length x) (hy:inN v.length y) (ha:inN v.length a) (hb:inN v.length b) (f1:∀ k,inN v.length k->¬ BtwF (plV v a) (plV v b) (plV v k)) (f2:∀ k,inN v.length k->¬ BtwF (plV v x) (plV v y) (plV v k)):Gr v a b x y↔Gq v a b x y:=by
 constructor
 ·rintro ⟨_,(g | g | g | g) | g⟩
  ·exact absurd g (f1 x hx)
  ·exact absurd g (f1 y hy)
  ·exact absurd g (f2 a ha)
  ·exact absurd g (f2 b hb)
  ·exact g
 ·intro g
  obtain ⟨g1,g2⟩:=g
  refine ⟨⟨fun e=>?_,fun e=>?_,fun e=>?_,fun e=>?_⟩,.inr ⟨g1,g2⟩⟩
  ·rw[e,Bp] at g1;simp at g1
  ·rw[e,Bp] at g1;simp at g1
  ·rw[e,Bi] at g1;simp at g1
  ·rw[e,Bi] at g1;simp at g1
theorem Agl {a b c d:Ac} (ha:okP a) (hb:okP b) (hc:okP c) (hd:okP d):Jm a b c d=some (decide (Int.sign (crs a b c)*Int.sign (crs a b d) < 0/\Int.sign (crs c d a)*Int.sign (crs c d b) < 0)):=by
 unfold Jm
 rw[jn_d,Qs ha hb hc,Ad,Qs ha hb hd,Ad,Tw]
 by_cases h:Int.sign (crs a b c)*Int.sign (crs a b d) < 0
 ·rw[if_pos h,Qs hc hd ha,Ad,Qs hc hd hb,Ad,Tw]
  simp[h]
 ·rw[if_neg h]
  simp[h]
theorem Ark (hv:Bu v) (hn:v.length<=1024) {i:Nat} (hi:i < l.length) (ho:okL v l[i]) :
  (lfix (Cf v l (i:Int) (plV v l[i].a0) (plV v l[i].a1)) 0=some (.inl ())/\∀ k,inN v.length k->¬ BtwF (plV v l[i].a0) (plV v l[i].a1) (plV v k))\/(lfix (Cf v l (i:Int) (plV v l[i].a0) (plV v l[i].a1)) 0=some (.inr 63)/\∃ k,inN v.length k/\BtwF (plV v l[i].a0) (plV v l[i].a1) (plV v k)):=by
 haveI:∀ p q r,Decidable (BtwF p q r):=fun _ _ _=>Classical.propDecidable _
 obtain ⟨h1,h2,h3⟩:=ho
 have L:=Qr (β:=Unit) (γ:=Int) v.length (by omega) (fun k=>decide (BtwF (plV v l[i].a0) (plV v l[i].a1) (plV v (k:Int)))) (Cf v l (i:Int) (plV v l[i].a0) (plV v l[i].a1)) () 63 (fun k hk=>by
  have hkn:inN v.length (k:Int):=⟨by omega,by omega⟩
  unfold Cf
  rw[if_pos (by omega),jn_d,Bb hi,Ad,Be (by omega)]
  by_cases c1:(k:Int)=l[i].a0
  ·have:¬ BtwF (plV v l[i].a0) (plV v l[i].a1) (plV v (k:Int)):=fun g=>g.2.1 (by rw[c1];exact ⟨rfl,rfl⟩)
   rw[if_pos c1];dsimp only;rw[if_neg (show ¬ (false=true) by simp),if_neg (show ¬ (decide (BtwF (plV v l[i].a0) (plV v l[i].a1) (plV v (k:Int)))=true) by simpa using this)]
  ·rw[if_neg c1,Ad]
   by_cases c2:(k:Int)=l[i].a1
   ·have:¬ BtwF (plV v l[i].a0) (plV v l[i].a1) (plV v (k:Int)):=fun g=>g.2.2 (by rw[c2];exact ⟨rfl,rfl⟩)
    rw[if_pos c2];dsimp only;rw[if_neg (show ¬ (false=true) by simp),if_neg (show ¬ (decide (BtwF (plV v l[i].a0) (plV v l[i].a1) (plV v (k:Int)))=true) by simpa using this)]
   ·have hp:(⟨v[k].X,v[k].Y⟩:Ac)=plV v (k:Int):=(Zz hk).symm
    rw[if_neg c2,Bb hk,Ad]
    unfold Aj
    dsimp only
    rw[Ad,hp,Acu (hv.ok _ h1) (hv.ok _ h2) (hv.ok _ hkn),Ad]
    by_cases c:BtwF (plV v l[i].a0) (plV v l[i].a1) (plV v (k:Int))
    ·have hb:=(Am7 c.1.1 (Lb hv h1 h2 h3) (Lb hv hkn h1 c1) (Lb hv hkn h2 c2)).2 c
     rw[if_pos (by rw[decide_eq_true_eq];exact ⟨c.1.1,hb⟩),if_pos (decide_eq_true c)]
    ·rw[if_neg (by
      rw[decide_eq_true_eq]
      rintro ⟨g0,g⟩
      exact c ((Am7 g0 (Lb hv h1 h2 h3) (Lb hv hkn h1 c1) (Lb hv hkn h2 c2)).1 g)),if_neg (by simpa using c)]) (by
  unfold Cf
  rw[if_neg (by omega)])
 rw[L]
 by_cases c:∃ k,inN v.length k/\BtwF (plV v l[i].a0) (plV v l[i].a1) (plV v k)
 ·right
  refine ⟨?_,c⟩
  obtain ⟨k,⟨k0,k1⟩,hk⟩:=c
  rw[if_pos]
  rw[List.any_eq_true]
  exact ⟨k.toNat,List.mem_range.2 (by omega),by rw[decide_eq_true_eq,Int.toNat_of_nonneg k0];exact hk⟩
 ·left
  refine ⟨?_,fun k hk g=>c ⟨k,hk,g⟩⟩
  rw[if_neg]
  rw[List.any_eq_true]
  rintro ⟨k,hk,g⟩
  rw[decide_eq_true_eq] at g
  exact c ⟨(k:Int),⟨by omega,by have:=List.mem_range.1 hk;omega⟩,g⟩
theorem Arl (hv:Bu v) (hl:l.length<=1000000) (hok:∀ s∈l,okL v s) {i:Nat} (hi:i < l.length) :
  (lfix (Cg (i:Int) l v (plV v l[i].a0) (plV v l[i].a1)) 0=some (.inl ())/\∀ x∈l.take i,¬ Gq v x.a0 x.a1 l[i].a0 l[i].a1)\/(lfix (Cg (i:Int) l v (plV v l[i].a0) (plV v l[i].a1)) 0=some (.inr 63)/\∃ x∈l.take i,Gq v x.a0 x.a1 l[i].a0 l[i].a1):=by
 haveI:∀ a b c d,Decidable (Gq v a b c d):=fun _ _ _ _=>Classical.propDecidable _
 obtain ⟨h1,h2,_⟩:=hok _ (List.getElem_mem hi)
 have L:=Qr (β:=Unit) (γ:=Int) i (by omega) (fun k=>decide (Gq v (l.getD k ⟨0,0⟩).a0 (l.getD k ⟨0,0⟩).a1 l[i].a0 l[i].a1)) (Cg (i:Int) l v (plV v l[i].a0) (plV v l[i].a1)) () 63 (fun k hk=>by
  have hk':k < l.length:=by omega
  have e:l.getD k ⟨0,0⟩=l[k]:=by simp[hk']
  obtain ⟨q1,q2,_⟩:=hok _ (List.getElem_mem hk')
  obtain ⟨x0,i0,e0⟩:=If q1
  obtain ⟨x1,i1,e1⟩:=If q2
  unfold Cg Aj
  rw[if_pos (by omega),Bb hk',Ad,i0,Ad,Ad,i1,Ad]
  dsimp only
  rw[Ad,Ad,e0,e1,Agl (hv.ok _ h1) (hv.ok _ h2) (hv.ok _ q1) (hv.ok _ q2),Ad,e,Be (by omega)]
  by_cases c:Gq v l[k].a0 l[k].a1 l[i].a0 l[i].a1
  ·rw[if_pos (by rw[decide_eq_true_eq];exact c.symm),if_pos (decide_eq_true c)]
  ·rw[if_neg (by rw[decide_eq_true_eq];exact fun g=>c (Gq.symm (v:=v) g)),if_neg (by simpa using c)]) (by
  unfold Cg
  rw[if_neg (by omega)])
 have iff:((List.range i).any fun k=>decide (Gq v (l.getD k ⟨0,0⟩).a0 (l.getD k ⟨0,0⟩).a1 l[i].a0 l[i].a1))=true↔∃ x∈l.take i,Gq v x.a0 x.a1 l[i].a0 l[i].a1:=by
  rw[List.any_eq_true]
  constructor
  ·rintro ⟨k,hk,h⟩
   have hk:=List.mem_range.1 hk
   have hk':k < l.length:=by omega
   have e:l.getD k ⟨0,0⟩=l[k]:=by simp[hk']
   rw[decide_eq_true_eq,e] at h
   exact ⟨l[k],List.mem_take_iff_getElem.2 ⟨k,by omega,rfl⟩,h⟩
  ·rintro ⟨x,hx,h⟩
   obtain ⟨k,hk,rfl⟩:=List.mem_take_iff_getElem.1 hx
   have hk':k < l.length:=by omega
   have e:l.getD k ⟨0,0⟩=l[k]:=by simp[hk']
   exact ⟨k,List.mem_range.2 (by omega),by rw[decide_eq_true_eq,e];exact h⟩
 rw[L]
 by_cases c:∃ x∈l.take i,Gq v x.a0 x.a1 l[i].a0 l[i].a1
 ·right;exact ⟨by rw[if_pos (iff.2 c)],c⟩
 ·left;exact ⟨by rw[if_neg (fun g=>c (iff.1 g))],fun x hx g=>c ⟨x,hx,g⟩⟩
theorem Arm (hv:Bu v) (hn:v.length<=1024) (hl:l.length<=1000000) (hok:∀ s∈l,okL v s):lfix (Ej l v) 0=some (if Lin2 v l then .inl () else .inr 63):=by
 obtain ⟨t,ht,hR⟩:=Bl (B:=Ej l v) (fun s=>l.length-s.toNat)
  (fun s=>∃ k:Nat,s=(k:Int)/\k<=l.length/\Lin2 v (l.take k))
  (fun t=>t=if Lin2 v l then .inl () else .inr 63) (by
   rintro s ⟨k,rfl,hk,h⟩
   unfold Ej Aj
   by_cases hlt:k < l.length
   ·have ho:=hok _ (List.getElem_mem hlt)
    obtain ⟨h1,h2,_⟩:=hok _ (List.getElem_mem hlt)
    obtain ⟨x0,i0,e0⟩:=If h1
    obtain ⟨x1,i1,e1⟩:=If h2
    rw[if_pos (by omega),jn_d,Bb hlt,Ad,i0,Ad,Ad,i1,Ad]
    dsimp only
    rw[Ad,Ad,e0,e1,jn_d]
    rcases Ark hv hn hlt ho with ⟨e,g⟩ | ⟨e,g⟩
    ·rw[e,Ad]
     dsimp only
     have cr:∀ x∈l.take k,(Gr v x.a0 x.a1 l[k].a0 l[k].a1↔Gq v x.a0 x.a1 l[k].a0 l[k].a1):=fun x hx=>by
      obtain ⟨q1,q2,_⟩:=hok _ (List.mem_of_mem_take hx)
      exact Ao8 h1 h2 q1 q2 (h.1 x hx) g
     rcases Arl hv hl hok hlt with ⟨e2,g2⟩ | ⟨e2,g2⟩
     ·left
      rw[e2,Ad]
      refine ⟨((k+1:Nat):Int),by dsimp only;rw[Be (by omega)],⟨k+1,rfl,by omega,?_⟩,by simp;omega⟩
      rw[Br hlt]
      refine ⟨fun s hs=>?_,?_⟩
      ·rcases List.mem_append.1 hs with hs | hs
       ·exact h.1 s hs
       ·rw[List.mem_singleton] at hs
        rw[hs];exact g
      ·rw[List.pairwise_append]
       exact ⟨h.2,by simp,fun x hx y hy=>by rw[List.mem_singleton] at hy;rw[hy];exact fun c=>g2 x hx ((cr x hx).1 c)⟩
     ·right
      rw[e2,Ad]
      refine ⟨.inr 63,rfl,?_⟩
      rw[if_neg]
      rintro ⟨_,hp⟩
      obtain ⟨x,hx,hc⟩:=g2
      have:=hp.sublist (List.take_sublist (k+1) l)
      rw[Br hlt,List.pairwise_append] at this
      exact this.2.2 x hx l[k] (by simp) ((cr x hx).2 hc)
    ·right
     rw[e,Ad]
     refine ⟨.inr 63,rfl,?_⟩
     rw[if_neg]
     rintro ⟨hp,_⟩
     obtain ⟨z,hz,hb⟩:=g
     exact hp _ (List.getElem_mem hlt) z hz hb
   ·right
    obtain rfl:k=l.length:=by omega
    refine ⟨.inl (),by rw[if_neg (by omega)],?_⟩
    rw[List.take_length] at h
    rw[if_pos h])
  0 ⟨0,rfl,by omega,⟨fun s hs=>by simp at hs,by simp⟩⟩
 rw[ht,hR]
theorem Aa0 (hv:Bu v) (hn:v.length<=1024) (hl:l.length<=1000000):Gx v l=some (Nz v l):=by
 unfold Gx Nz
 rw[jn_d,Auv hn hl,Ad]
 by_cases c1:Lin1 v l
 ·rw[if_pos c1,if_pos c1]
  dsimp only
  rw[jn_d,Arm hv hn hl c1.1,Ad]
  by_cases c2:Lin2 v l
  ·rw[if_pos c2,if_pos c2]
  ·rw[if_neg c2,if_neg c2]
 ·rw[if_neg c1,if_neg c1]
theorem Aa1 (hl:l.length<=1000000):Jn v l=some (if Nw v=0 then Nz v l else Nw v):=by
 unfold Jn
 rw[Wu,Ad]
 by_cases h:Nw v=0
 ·obtain ⟨hn,_,hv⟩:=Qh h
  rw[if_pos h,if_pos h,Aa0 hv hn hl,Ad]
 ·rw[if_neg h,if_neg h]
end
section
variable {v:List Ab} {L:List Aa} {m:Mp} {ap:Ap}
theorem Ajf {w u l r c:Int} (t1:0 < crs (plV v w) (plV v u) (plV v l)) (t2:0 < crs (plV v u) (plV v w) (plV v r)) (hD:DH (plV v) (hV v) w u l r < 0) (hx:crs (plV v w) (plV v u) (plV v c) < 0) (hn:DH (plV v) (hV v) u w r c<=0):DH (plV v) (hV v) w u l c < 0:=by
 have key:=Qc (hV v w) (hV v u) (hV v l) (hV v r) (plV v w) (plV v u) (plV v l) (plV v r) (plV v c)
 unfold DH at hD hn ⊢
 rw[Acc] at hn ⊢
 have e1:=Int.mul_pos_of_neg_of_neg hD hx
 generalize plt (hV v u) (hV v w) (hV v r) (plV v u) (plV v w) (plV v r) (plV v c)=N at *
 generalize plt (hV v w) (hV v u) (hV v l) (plV v w) (plV v u) (plV v l) (plV v c)=M at *
 generalize crs (plV v w) (plV v u) (plV v l)=A at *
 generalize crs (plV v u) (plV v w) (plV v r)=B at *
 have e2:(N-hV v c*B)*A<=0:=Int.mul_nonpos_of_nonpos_of_nonneg hn (Int.le_of_lt t1)
 have e3:(M-hV v c*A)*B=M*B-N*A+(N-hV v c*B)*A:=by grind
 rcases Int.lt_or_le (M-hV v c*A) 0 with g | g
 ·exact g
 ·have:=Int.mul_nonneg g (Int.le_of_lt t2);omega
theorem Auw (ht:Tri (plV v) (inN v.length) ap) {a b:Int} {M:Nat} {U W:Nat->Int} (hr:Run v ap a b M U W)
  (hl:∀ i,i < M->∀ k l,ap (W i) (U i)=some k->ap (U i) (W i)=some l->DH (plV v) (hV v) (W i) (U i) k l < 0) :
  ∀ n i,i+n+1=M->∀ l,ap (W i) (U i)=some l->DH (plV v) (hV v) (W i) (U i) l b < 0:=by
 intro n
 induction n with
 | zero=>
  intro i hi l hk
  have hR:=hr.last i (by omega)
  have cr:=hr.cr i (by omega)
  exact hl i (by omega) l b hk hR
 | succ n ih=>
  intro i hi l hk
  have cr:=hr.cr i (by omega)
  have hx:crs (plV v (W i)) (plV v (U i)) (plV v b) < 0:=by rw[Ax];have:=cr.rb;omega
  have t1:=(ht.ccw _ _ _ hk).2.2.2
  rcases hr.next i (by omega) with ⟨e1,e2⟩ | ⟨e1,e2⟩
  ·have g:=ih (i+1) (by omega) (W i) (by rw[e1];exact ht.rot2 e2)
   rw[e1] at g
   refine Ajf t1 (ht.ccw _ _ _ e2).2.2.2 (hl i (by omega) _ _ hk e2) hx (Int.le_of_lt ?_)
   rw[<- Pj,<- Pj];exact g
  ·have g:=ih (i+1) (by omega) (U i) (by rw[e1];exact ht.rot _ _ _ e2)
   rw[e1] at g
   refine Ajf t1 (ht.ccw _ _ _ e2).2.2.2 (hl i (by omega) _ _ hk e2) hx (Int.le_of_lt ?_)
   rw[<- Pj];exact g
def Seen (v:List Ab) (L:List Aa) (i k:Int):Prop:=∀ s∈L,¬ Gq v i k s.a0 s.a1
theorem Gq.rev {a b x y:Int} (h:Gq v a b x y):Gq v a b y x:=by
 obtain ⟨h1,h2⟩:=h
 refine ⟨by rw[Int.mul_comm];exact h1,?_⟩
 rw[Ax (plV v x) (plV v y) (plV v a),Ax (plV v x) (plV v y) (plV v b),Int.sign_neg,Int.sign_neg,Int.neg_mul_neg]
 exact h2
theorem Cr.crossR {a b x y:Int} (h:Cr v a b x y):Gq v a b x y:=by
 obtain ⟨h1,h2,h3,h4⟩:=h
 exact ⟨Gc.2 (by omega),Gc.2 (by omega)⟩
theorem Gq.cr {a b x y:Int} (h:Gq v a b x y):Cr v a b x y\/Cr v a b y x:=by
 obtain ⟨g1,g2⟩:=h
 have e:crs (plV v x) (plV v y) (plV v b)-crs (plV v x) (plV v y) (plV v a)=crs (plV v a) (plV v b) (plV v x)-crs (plV v a) (plV v b) (plV v y):=by unfold crs;grind
 have e1:crs (plV v y) (plV v x) (plV v a) = -crs (plV v x) (plV v y) (plV v a):=Ax _ _ _
 have e2:crs (plV v y) (plV v x) (plV v b) = -crs (plV v x) (plV v y) (plV v b):=Ax _ _ _
 rw[Gc] at g1 g2
 rcases g1 with ⟨g1,g1'⟩ | ⟨g1,g1'⟩
 ·exact .inl ⟨g1,g1',by omega,by omega⟩
 ·exact .inr ⟨g1',g1,by omega,by omega⟩
theorem Seen.pr {a b x y:Int} (h:Seen v L a b) (hc:Cr v a b x y):pr2 x y ∉ L:=fun hm=>by
 refine h _ hm ?_
 by_cases e:x<=y
 ·have e0:(pr2 x y).a0=x:=by unfold pr2;simp only;omega
  have e1:(pr2 x y).a1=y:=by unfold pr2;simp only;omega
  rw[e0,e1];exact hc.crossR
 ·have e0:(pr2 x y).a0=y:=by unfold pr2;simp only;omega
  have e1:(pr2 x y).a1=x:=by unfold pr2;simp only;omega
  rw[e0,e1];exact hc.crossR.rev
theorem Mesh.sees (h:Mesh v L m) {a b k c:Int} (hk:apM m a b=some k) (hc:inN v.length c) (hf:Free v a c) (hs:Seen v L a c) (h1:0 < crs (plV v a) (plV v b) (plV v c)) (h2:0 < crs (plV v a) (plV v c) (plV v k)):DH (plV v) (hV v) a b k c < 0:=by
 obtain ⟨va,vb,vk,T⟩:=h.tri.ccw _ _ _ hk
 have na:c≠a:=fun e=>by rw[e,Bp] at h1;omega
 have nb:c≠b:=fun e=>by rw[e,Bi] at h1;omega
 have nk:c≠k:=fun e=>by rw[e,Bi] at h2;omega
 have em:=h.tri.emp _ _ _ hk c hc na nb nk
 have e1:crs (plV v k) (plV v a) (plV v c)=crs (plV v a) (plV v c) (plV v k):=by unfold crs;grind
 have e2:crs (plV v a) (plV v c) (plV v b) = -crs (plV v a) (plV v b) (plV v c):=by unfold crs;grind
 have e3:crs (plV v k) (plV v b) (plV v a) = -crs (plV v a) (plV v b) (plV v k):=by unfold crs;grind
 have e4:crs (plV v k) (plV v b) (plV v c) = -crs (plV v b) (plV v k) (plV v c):=Ax _ _ _
 have cr:Cr v a c k b:=⟨h2,by omega,by omega,by omega⟩
 have hbk:=h.tri.rot _ _ _ hk
 obtain ⟨⟨r,hr⟩,_⟩:=cr.both h.tri h.cov va hc (.inr (by rw[hbk];simp))
 obtain ⟨M,U,W,hM,u0,w0,run⟩:=Ahs h.tri h.cov va hc hf cr hr
 have:=Auw h.tri run (fun i hi x y hx hy=>by
  rcases h.leg _ _ _ _ hx hy with g | g
  ·exact absurd g (by rw[Ml];exact hs.pr (run.cr i hi))
  ·exact g) (M-1) 0 (by omega) a (by rw[u0,w0];exact hbk)
 rw[u0,w0,Pj] at this
 exact this
theorem Ao9 (a b z k c:Int):DH (plV v) (hV v) a b k c*crs (plV v a) (plV v b) (plV v z)=DH (plV v) (hV v) a b z c*crs (plV v a) (plV v b) (plV v k)+DH (plV v) (hV v) a b k z*crs (plV v a) (plV v b) (plV v c):=by unfold DH Dt crs;grind
theorem Mesh.sees2 (hv:Bu v) (h:Mesh v L m) {a b k:Int} (hk:apM m a b=some k):∀ (n:Nat) (c:Int),(crs (plV v a) (plV v b) (plV v c)).toNat=n->inN v.length c->Seen v L a c->0 < crs (plV v a) (plV v b) (plV v c)->0 < crs (plV v a) (plV v c) (plV v k)->DH (plV v) (hV v) a b k c < 0:=by
 intro n
 induction n using Nat.strongRecOn with
 | ind n ih=>
  intro c hn hc hs h1 h2
  obtain ⟨va,vb,vk,T⟩:=h.tri.ccw _ _ _ hk
  by_cases hf:Free v a c
  ·exact h.sees hk hc hf hs h1 h2
  ·unfold Free at hf
   have ⟨z,hf⟩:=Classical.not_forall.1 hf
   have ⟨hz,hf⟩:=Classical.not_imp.1 hf
   have ⟨za,hf⟩:=Classical.not_imp.1 hf
   have ⟨zc,hf⟩:=Classical.not_imp.1 hf
   have hb:=Classical.not_not.1 hf
   obtain ⟨d,D,d1,d2,hd⟩:=Anb ⟨hb,fun e=>za (hv.dist _ _ hz va e),fun e=>zc (hv.dist _ _ hz hc e)⟩
   have i1:=hd (plV v a) (plV v b)
   rw[Bp,Int.mul_zero,Int.zero_add] at i1
   have m1:=Int.mul_pos d1 h1
   have z1:=Ce (x:=D) (y:=crs (plV v a) (plV v b) (plV v z)) (by omega) (by omega)
   have m2:=Int.mul_lt_mul_of_pos_right d2 h1
   have z2:crs (plV v a) (plV v b) (plV v z) < crs (plV v a) (plV v b) (plV v c):=by
    refine Classical.byContradiction fun n=>?_
    have:=Int.mul_le_mul_of_nonneg_left (show crs (plV v a) (plV v b) (plV v c)<=crs (plV v a) (plV v b) (plV v z) by omega) (show 0<=D by omega)
    omega
   have i2:=hd (plV v k) (plV v a)
   rw[Bi,Int.mul_zero,Int.zero_add] at i2
   have r1:crs (plV v k) (plV v a) (plV v c)=crs (plV v a) (plV v c) (plV v k):=by unfold crs;grind
   have r2:crs (plV v k) (plV v a) (plV v z)=crs (plV v a) (plV v z) (plV v k):=by unfold crs;grind
   rw[r1,r2] at i2
   have m3:=Int.mul_pos d1 h2
   have z3:=Ce (x:=D) (y:=crs (plV v a) (plV v z) (plV v k)) (by omega) (by omega)
   have sz:Seen v L a z:=fun s hm g=>by
    refine hs s hm ?_
    have j1:=hd (plV v s.a0) (plV v s.a1)
    have j2:=hd (plV v s.a0) (plV v a)
    have j3:=hd (plV v s.a1) (plV v a)
    rw[Bi,Int.mul_zero,Int.zero_add] at j2 j3
    have q2:∀ x y,crs (plV v x) (plV v a) (plV v y)=crs (plV v a) (plV v y) (plV v x):=fun x y=>by unfold crs;grind
    rw[q2,q2] at j2 j3
    obtain ⟨g1,g2⟩:=g
    have pos:∀ x:Int,D*crs (plV v a) (plV v z) (plV v x)=d*crs (plV v a) (plV v c) (plV v x)->(0 < crs (plV v a) (plV v z) (plV v x)->0 < crs (plV v a) (plV v c) (plV v x))/\(crs (plV v a) (plV v z) (plV v x) < 0->crs (plV v a) (plV v c) (plV v x) < 0):=fun x e=>by
     have:=Ajg (D:=d) (d:=D) (X:=crs (plV v a) (plV v z) (plV v x)) (x:=crs (plV v a) (plV v c) (plV v x)) d1 (by omega) e.symm
     exact ⟨this.1,this.2.1⟩
    have p0:=pos _ j2
    have p1:=pos _ j3
    rw[Gc] at g1 g2
    refine ⟨Gc.2 ?_,Gc.2 ?_⟩
    ·rcases g1 with ⟨x1,x2⟩ | ⟨x1,x2⟩
     ·exact .inl ⟨p0.1 x1,p1.2 x2⟩
     ·exact .inr ⟨p0.2 x1,p1.1 x2⟩
    ·rcases g2 with ⟨x1,x2⟩ | ⟨x1,x2⟩
     ·refine .inl ⟨x1,?_⟩
      refine Classical.byContradiction fun n=>?_
      have w1:=Int.mul_pos (show 0 < D-d by omega) x1
      have w2:=Int.mul_nonneg (Int.le_of_lt d1) (show 0<=crs (plV v s.a0) (plV v s.a1) (plV v c) by omega)
      have w3:=Int.mul_neg_of_pos_of_neg (show 0 < D by omega) x2
      omega
     ·refine .inr ⟨x1,?_⟩
      refine Classical.byContradiction fun n=>?_
      have w1:=Int.mul_neg_of_pos_of_neg (show 0 < D-d by omega) x1
      have w2:=Int.mul_nonpos_of_nonneg_of_nonpos (Int.le_of_lt d1) (show crs (plV v s.a0) (plV v s.a1) (plV v c)<=0 by omega)
      have w3:=Int.mul_pos (show 0 < D by omega) x2
      omega
   have g1:=ih _ (by omega) z rfl hz sz z1 z3
   have g2:DH (plV v) (hV v) b z a c < 0:=by
    refine Qk hv b z a c vb hz va hc (by rw[An];exact z1) ?_ (.inl ?_)
    ·have j:=hd (plV v b) (plV v c)
     rw[Bi,Int.mul_zero,Int.add_zero] at j
     have q:crs (plV v b) (plV v c) (plV v a)=crs (plV v a) (plV v b) (plV v c):=by unfold crs;grind
     rw[q] at j
     have w:=Int.mul_pos (show 0 < D-d by omega) h1
     have:=Ce (x:=D) (y:=crs (plV v b) (plV v c) (plV v z)) (by omega) (by omega)
     rw[Bd] at this;omega
    ·have j:=hd (plV v c) (plV v a)
     rw[Bi,Bp,Int.mul_zero,Int.mul_zero] at j
     rcases Int.mul_eq_zero.1 (show D*crs (plV v c) (plV v a) (plV v z)=0 by omega) with e | e
     ·omega
     ·have:crs (plV v z) (plV v a) (plV v c) = -crs (plV v c) (plV v a) (plV v z):=by unfold crs;grind
      omega
   rw[Pj] at g2
   have key:=Ao9 (v:=v) a b z k c
   have w1:=Int.mul_neg_of_neg_of_pos g2 T
   have w2:=Int.mul_neg_of_neg_of_pos g1 h1
   refine Classical.byContradiction fun n=>?_
   have:=Int.mul_nonneg (show 0<=DH (plV v) (hV v) a b k c by omega) (Int.le_of_lt z1)
   omega
theorem Mesh.best (hv:Bu v) (h:Mesh v L m) {a b k c:Int} (hk:apM m a b=some k) (hc:inN v.length c) (h1:0 < crs (plV v a) (plV v b) (plV v c)) (hne:c≠k) (sa:Seen v L a c) (sb:Seen v L b c):DH (plV v) (hV v) a b k c < 0:=by
 obtain ⟨va,vb,vk,T⟩:=h.tri.ccw _ _ _ hk
 have na:c≠a:=fun e=>by rw[e,Bp] at h1;omega
 have nb:c≠b:=fun e=>by rw[e,Bi] at h1;omega
 have e1:crs (plV v k) (plV v a) (plV v c)=crs (plV v a) (plV v c) (plV v k):=by unfold crs;grind
 have e2:crs (plV v b) (plV v c) (plV v a)=crs (plV v a) (plV v b) (plV v c):=by unfold crs;grind
 rcases h.tri.emp _ _ _ hk c hc na nb hne with g | g | g
 ·omega
 ·by_cases p:0 < crs (plV v a) (plV v c) (plV v k)
  ·exact h.sees2 hv hk _ c rfl hc sa h1 p
  ·rw[<- Pj]
   exact Qk hv b k a c vb vk va hc (by rw[An];exact T) g (.inl (by omega))
 ·by_cases p:0 < crs (plV v b) (plV v k) (plV v c)
  ·rw[<- Pj]
   exact h.sees2 hv (h.tri.rot _ _ _ hk) _ c rfl hc sb p (by omega)
  ·rw[<- Pj,<- Pj]
   exact Qk hv k a b c vk va vb hc (by rw[<- An];exact T) g (.inr (by omega))
end
end Go.Proofs.YtjfndjmabhbicaaGreat
