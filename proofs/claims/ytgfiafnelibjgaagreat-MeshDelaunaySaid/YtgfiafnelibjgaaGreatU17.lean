/- Which lines are wrong: the reference says the same. -/
import Derived.Test.YtgfiafnelibjgaaGreatM0
import Derived.Test.YtgfiafnelibjgaaGreatE2
import Derived.Test.YtgfiafnelibjgaaGreatU16
namespace Go.Proofs.YtgfiafnelibjgaaGreat
open Go Go.RowKit
theorem Au1 {a b p:Ac} (h:crs a b p=0) (e:p.X=a.X):b.X=a.X∨p.Y=a.Y:=by
 unfold crs at h
 rw [e,Int.sub_self,Int.mul_zero,Int.sub_zero] at h
 rcases Int.mul_eq_zero.1 h with g | g
 ·exact .inl (by omega)
 ·exact .inr (by omega)
theorem Au2 {a b p:Ac} (h:crs a b p=0) (e:p.X=b.X):b.X=a.X∨p.Y=b.Y:=by
 unfold crs at h
 rw [e] at h
 have:(b.X-a.X)*(p.Y-b.Y)=0:=by grind
 rcases Int.mul_eq_zero.1 this with g | g
 ·exact .inl (by omega)
 ·exact .inr (by omega)
theorem Akv {a b p:Ac} (h0:crs a b p=0) (hab:¬ Bj a b) (hpa:¬ Bj p a) (hpb:¬ Bj p b):Box a b p↔BtwF a b p:=by
 have key:∀ a b p:Ac,crs a b p=0→¬ Bj a b→¬ Bj p a→¬ Bj p b→befP a b→(Box a b p↔BtwF a b p):=by
  intro a b p h0 hab hpa hpb hb
  constructor
  ·intro hbox
   refine ⟨⟨h0,fun g=>?_⟩,hpa,hpb⟩
   rcases Iq hpa with c | c
   ·exfalso
    obtain ⟨h1,h2,h3,h4⟩:=hbox
    unfold befP Bj at *
    by_cases e:p.X=a.X
    ·rcases Au1 h0 e with q | q <;> omega
    ·omega
   ·have c2:=g.1 c
    exfalso
    obtain ⟨h1,h2,h3,h4⟩:=hbox
    unfold befP Bj at *
    by_cases e:p.X=b.X
    ·rcases Au2 h0 e with q | q <;> omega
    ·omega
  ·intro g
   refine Abn h0 (fun c=>?_) (fun c=>?_)
   ·refine g.1.2 ⟨fun c2=>absurd c2 (Ry c),fun c2=>absurd c2 (Ry (Hl c hb))⟩
   ·refine g.1.2 ⟨fun _=>c,fun _=>Hl hb c⟩
 rcases Iq hab with c | c
 ·exact key a b p h0 hab hpa hpb c
 ·have h0':crs b a p=0:=by rw [Aw];omega
  have:=key b a p h0' (fun e=>hab ⟨e.1.symm,e.2.symm⟩) hpb hpa c
  constructor
  ·intro h
   have g:=this.1 h.swap
   exact ⟨⟨h0,fun e=>g.1.2 e.symm⟩,g.2.2,g.2.1⟩
  ·intro g
   exact (this.2 ⟨⟨h0',fun e=>g.1.2 e.symm⟩,g.2.2,g.2.1⟩).swap
section
variable {v:List Ab} {l:List Aa}
theorem Yx {x y:Aa}:prL x=prL y↔(x.a0=y.a0∧x.a1=y.a1)∨(x.a0=y.a1∧x.a1=y.a0):=by
 constructor
 ·intro h;exact Acu h
 ·rintro (⟨h1,h2⟩ | ⟨h1,h2⟩)
  ·unfold prL;rw [h1,h2]
  ·unfold prL;rw [h1,h2,Jx]
theorem Ar0 (hl:l.length≤1000000) {i:Nat} (hi:i < l.length) :
  (lfix (Cs (i:Int) l) 0=some (.inl ())∧prL l[i] ∉ (l.take i).map prL)∨(lfix (Cs (i:Int) l) 0=some (.inr 62)∧prL l[i]∈(l.take i).map prL):=by
 haveI:∀ x y:Aa,Decidable (x=y):=fun _ _=>Classical.propDecidable _
 have L:=Jw (β:=Unit) (γ:=Int) i (by omega) (fun k=>decide (prL l[i]=prL (l.getD k ⟨0,0⟩))) (Cs (i:Int) l) () 62 (fun k hk=>by
  have hk':k < l.length:=by omega
  have e:l.getD k ⟨0,0⟩=l[k]:=by simp [hk']
  unfold Cs
  rw [if_pos (by omega),jn_d,Bm hi,Ae,Bm hk',Ae,e,Bh (by omega)]
  by_cases c1:l[i].a0=l[k].a0∧l[i].a1=l[k].a1
  ·rw [if_pos (by simp [c1])];dsimp only;rw [if_pos rfl,if_pos (decide_eq_true (Yx.2 (.inl c1)))]
  ·rw [if_neg (by simp;intro a;exact fun b=>c1 ⟨a,b⟩),Ae,Ae]
   dsimp only
   by_cases c2:l[i].a0=l[k].a1
   ·rw [if_pos c2,Ae,Ae]
    by_cases c3:l[i].a1=l[k].a0
    ·rw [if_pos (decide_eq_true c3),if_pos (decide_eq_true (Yx.2 (.inr ⟨c2,c3⟩)))]
    ·rw [if_neg (by simpa using c3),if_neg (by rw [decide_eq_true_eq,Yx];exact fun g=>g.elim c1 (fun g=>c3 g.2))]
   ·rw [if_neg c2,if_neg (by simp),if_neg (by rw [decide_eq_true_eq,Yx];exact fun g=>g.elim c1 (fun g=>c2 g.1))]) (by
  unfold Cs
  rw [if_neg (by omega)])
 have iff:((List.range i).any fun k=>decide (prL l[i]=prL (l.getD k ⟨0,0⟩)))=true↔prL l[i]∈(l.take i).map prL:=by
  rw [List.any_eq_true,List.mem_map]
  constructor
  ·rintro ⟨k,hk,h⟩
   have hk:=List.mem_range.1 hk
   have hk':k < l.length:=by omega
   have e:l.getD k ⟨0,0⟩=l[k]:=by simp [hk']
   rw [decide_eq_true_eq,e] at h
   exact ⟨l[k],List.mem_take_iff_getElem.2 ⟨k,by omega,rfl⟩,h.symm⟩
  ·rintro ⟨x,hx,h⟩
   obtain ⟨k,hk,rfl⟩:=List.mem_take_iff_getElem.1 hx
   have hk':k < l.length:=by omega
   have e:l.getD k ⟨0,0⟩=l[k]:=by simp [hk']
   exact ⟨k,List.mem_range.2 (by omega),by rw [decide_eq_true_eq,e];exact h.symm⟩
 rw [L]
 by_cases c:prL l[i]∈(l.take i).map prL
 ·right;exact ⟨by rw [if_pos (iff.2 c)],c⟩
 ·left;exact ⟨by rw [if_neg (fun g=>c (iff.1 g))],c⟩
theorem Ar1 (hn:v.length≤1024) (hl:l.length≤1000000):lfix (Es l v) 0=some (if Lin1 v l then .inl () else .inr 62):=by
 obtain ⟨t,ht,hR⟩:=Cx (B:=Es l v) (fun s=>l.length-s.toNat)
  (fun s=>∃ k:Nat,s=(k:Int)∧k≤l.length∧Lin1 v (l.take k))
  (fun t=>t=if Lin1 v l then .inl () else .inr 62) (by
   rintro s ⟨k,rfl,hk,h⟩
   unfold Es
   by_cases hlt:k < l.length
   ·have hm:l[k]∈l:=List.getElem_mem hlt
    rw [if_pos (by omega),jn_d,jn_d,Bm hlt,Ae]
    by_cases ho:okL v l[k]
    ·obtain ⟨h1,h2,h3⟩:=ho
     rw [if_neg (by have:=h1.1;omega),Ae,if_neg (by have:=h1.2;omega),Ae,if_neg (by have:=h2.1;omega),Ae,if_neg (by have:=h2.2;omega),Ae,Ae,decide_eq_false h3]
     dsimp only
     rw [if_neg (show ¬ (false=true) by simp)]
     rcases Ar0 hl hlt with ⟨e,c⟩ | ⟨e,c⟩
     ·left
      refine ⟨((k+1:Nat):Int),by rw [e,Ae];dsimp only;rw [Bh (by omega)],⟨k+1,rfl,by omega,?_⟩,by simp;omega⟩
      rw [Bv hlt]
      refine ⟨fun s hs=>?_,?_⟩
      ·rcases List.mem_append.1 hs with hs | hs
       ·exact h.1 s hs
       ·rw [List.mem_singleton] at hs
        rw [hs];exact ⟨h1,h2,h3⟩
      ·rw [List.map_append,List.map_singleton,Ov]
       exact ⟨h.2,c⟩
     ·right
      refine ⟨.inr 62,by rw [e,Ae],?_⟩
      have hnl:¬ Lin1 v l:=by
       rintro ⟨_,hnd⟩
       have hs:List.Sublist ((l.take (k+1)).map prL) (l.map prL):=(List.take_sublist _ _).map _
       have:=hnd.sublist hs
       rw [Bv hlt,List.map_append,List.map_singleton,Ov] at this
       exact this.2 c
      rw [if_neg hnl]
    ·right
     have hno:¬ Lin1 v l:=fun g=>ho (g.1 _ hm)
     refine ⟨.inr 62,?_,by rw [if_neg hno]⟩
     unfold okL inN at ho
     by_cases c1:l[k].a0 < 0
     ·rw [if_pos c1];rfl
     ·rw [if_neg c1,Ae]
      by_cases c2:((v.length:Nat):Int)≤l[k].a0
      ·rw [if_pos c2];rfl
      ·rw [if_neg c2,Ae]
       by_cases c3:l[k].a1 < 0
       ·rw [if_pos c3];rfl
       ·rw [if_neg c3,Ae]
        by_cases c4:((v.length:Nat):Int)≤l[k].a1
        ·rw [if_pos c4];rfl
        ·rw [if_neg c4,Ae,Ae,decide_eq_true (show l[k].a0=l[k].a1 by omega)];rfl
   ·right
    obtain rfl:k=l.length:=by omega
    refine ⟨.inl (),by rw [if_neg (by omega)],?_⟩
    rw [List.take_length] at h
    rw [if_pos h])
  0 ⟨0,rfl,by omega,⟨fun s hs=>by simp at hs,by simp⟩⟩
 rw [ht,hR]
/-- A proper crossing. -/
def Jo (v:List Ab) (a b x y:Int):Prop:=Int.sign (crs (plV v a) (plV v b) (plV v x))*Int.sign (crs (plV v a) (plV v b) (plV v y)) < 0∧Int.sign (crs (plV v x) (plV v y) (plV v a))*Int.sign (crs (plV v x) (plV v y) (plV v b)) < 0
theorem Jo.symm {a b x y:Int} (h:Jo v a b x y):Jo v x y a b:=⟨h.2,h.1⟩
theorem Ami {a b x y:Int} (hx:inN v.length x) (hy:inN v.length y) (ha:inN v.length a) (hb:inN v.length b) (f1:∀ k,inN v.length k→¬ BtwF (plV v a) (plV v b) (plV v k)) (f2:∀ k,inN v.length k→¬ BtwF (plV v x) (plV v y) (plV v k)):Ge v a b x y↔Jo v a b x y:=by
 constructor
 ·rintro ⟨_,(g | g | g | g) | g⟩
  ·exact absurd g (f1 x hx)
  ·exact absurd g (f1 y hy)
  ·exact absurd g (f2 a ha)
  ·exact absurd g (f2 b hb)
  ·exact g
 ·intro g
  obtain ⟨g1,g2⟩:=g
  refine ⟨⟨fun e=>?_,fun e=>?_,fun e=>?_,fun e=>?_⟩,.inr ⟨g1,g2⟩⟩
  ·rw [e,Cc] at g1;simp at g1
  ·rw [e,Cc] at g1;simp at g1
  ·rw [e,Bk] at g1;simp at g1
  ·rw [e,Bk] at g1;simp at g1
theorem Amj {a b c d:Ac} (ha:okP a) (hb:okP b) (hc:okP c) (hd:okP d):Ig a b c d=some (decide (Int.sign (crs a b c)*Int.sign (crs a b d) < 0∧Int.sign (crs c d a)*Int.sign (crs c d b) < 0)):=by
 unfold Ig
 rw [jn_d,Jg ha hb hc,Ae,Jg ha hb hd,Ae,Oz]
 by_cases h:Int.sign (crs a b c)*Int.sign (crs a b d) < 0
 ·rw [if_pos h,Jg hc hd ha,Ae,Jg hc hd hb,Ae,Oz]
  simp [h]
 ·rw [if_neg h]
  simp [h]
theorem Apu (hv:Ci v) (hn:v.length≤1024) {i:Nat} (hi:i < l.length) (ho:okL v l[i]) :
  (lfix (Cl v l (i:Int) ((plV v l[i].a0).X,(plV v l[i].a0).Y,(plV v l[i].a1).X,(plV v l[i].a1).Y)) 0=some (.inl ())∧∀ k,inN v.length k→¬ BtwF (plV v l[i].a0) (plV v l[i].a1) (plV v k))∨(lfix (Cl v l (i:Int) ((plV v l[i].a0).X,(plV v l[i].a0).Y,(plV v l[i].a1).X,(plV v l[i].a1).Y)) 0=some (.inr 63)∧∃ k,inN v.length k∧BtwF (plV v l[i].a0) (plV v l[i].a1) (plV v k)):=by
 haveI:∀ p q r,Decidable (BtwF p q r):=fun _ _ _=>Classical.propDecidable _
 obtain ⟨h1,h2,h3⟩:=ho
 have L:=Jw (β:=Unit) (γ:=Int) v.length (by omega) (fun k=>decide (BtwF (plV v l[i].a0) (plV v l[i].a1) (plV v (k:Int)))) (Cl v l (i:Int) ((plV v l[i].a0).X,(plV v l[i].a0).Y,(plV v l[i].a1).X,(plV v l[i].a1).Y)) () 63 (fun k hk=>by
  have hkn:inN v.length (k:Int):=⟨by omega,by omega⟩
  unfold Cl
  rw [if_pos (by omega),jn_d,Bm hi,Ae,Bh (by omega)]
  by_cases c1:(k:Int)=l[i].a0
  ·have:¬ BtwF (plV v l[i].a0) (plV v l[i].a1) (plV v (k:Int)):=fun g=>g.2.1 (by rw [c1];exact ⟨rfl,rfl⟩)
   rw [if_pos c1];dsimp only;rw [if_neg (show ¬ (false=true) by simp),if_neg (show ¬ (decide (BtwF (plV v l[i].a0) (plV v l[i].a1) (plV v (k:Int)))=true) by simpa using this)]
  ·rw [if_neg c1,Ae]
   by_cases c2:(k:Int)=l[i].a1
   ·have:¬ BtwF (plV v l[i].a0) (plV v l[i].a1) (plV v (k:Int)):=fun g=>g.2.2 (by rw [c2];exact ⟨rfl,rfl⟩)
    rw [if_pos c2];dsimp only;rw [if_neg (show ¬ (false=true) by simp),if_neg (show ¬ (decide (BtwF (plV v l[i].a0) (plV v l[i].a1) (plV v (k:Int)))=true) by simpa using this)]
   ·have hp:(⟨v[k].X,v[k].Y⟩:Ac)=plV v (k:Int):=(Ur hk).symm
    rw [if_neg c2,Bm hk,Ae]
    unfold Aj
    dsimp only
    rw [Ae,hp,Uo (hv.ok _ h1) (hv.ok _ h2) (hv.ok _ hkn),Ae]
    by_cases c:BtwF (plV v l[i].a0) (plV v l[i].a1) (plV v (k:Int))
    ·have hb:=(Akv c.1.1 (Gl hv h1 h2 h3) (Gl hv hkn h1 c1) (Gl hv hkn h2 c2)).2 c
     rw [if_pos (by rw [decide_eq_true_eq];exact ⟨c.1.1,hb⟩),if_pos (decide_eq_true c)]
    ·rw [if_neg (by
      rw [decide_eq_true_eq]
      rintro ⟨g0,g⟩
      exact c ((Akv g0 (Gl hv h1 h2 h3) (Gl hv hkn h1 c1) (Gl hv hkn h2 c2)).1 g)),if_neg (by simpa using c)]) (by
  unfold Cl
  rw [if_neg (by omega)])
 rw [L]
 by_cases c:∃ k,inN v.length k∧BtwF (plV v l[i].a0) (plV v l[i].a1) (plV v k)
 ·right
  refine ⟨?_,c⟩
  obtain ⟨k,⟨k0,k1⟩,hk⟩:=c
  rw [if_pos]
  rw [List.any_eq_true]
  exact ⟨k.toNat,List.mem_range.2 (by omega),by rw [decide_eq_true_eq,Int.toNat_of_nonneg k0];exact hk⟩
 ·left
  refine ⟨?_,fun k hk g=>c ⟨k,hk,g⟩⟩
  rw [if_neg]
  rw [List.any_eq_true]
  rintro ⟨k,hk,g⟩
  rw [decide_eq_true_eq] at g
  exact c ⟨(k:Int),⟨by omega,by have:=List.mem_range.1 hk;omega⟩,g⟩
theorem Apv (hv:Ci v) (hl:l.length≤1000000) (hok:∀ s∈l,okL v s) {i:Nat} (hi:i < l.length) :
  (lfix (Cm (i:Int) l v ((plV v l[i].a0).X,(plV v l[i].a0).Y,(plV v l[i].a1).X,(plV v l[i].a1).Y)) 0=some (.inl ())∧∀ x∈l.take i,¬ Jo v x.a0 x.a1 l[i].a0 l[i].a1)∨(lfix (Cm (i:Int) l v ((plV v l[i].a0).X,(plV v l[i].a0).Y,(plV v l[i].a1).X,(plV v l[i].a1).Y)) 0=some (.inr 63)∧∃ x∈l.take i,Jo v x.a0 x.a1 l[i].a0 l[i].a1):=by
 haveI:∀ a b c d,Decidable (Jo v a b c d):=fun _ _ _ _=>Classical.propDecidable _
 obtain ⟨h1,h2,_⟩:=hok _ (List.getElem_mem hi)
 have L:=Jw (β:=Unit) (γ:=Int) i (by omega) (fun k=>decide (Jo v (l.getD k ⟨0,0⟩).a0 (l.getD k ⟨0,0⟩).a1 l[i].a0 l[i].a1)) (Cm (i:Int) l v ((plV v l[i].a0).X,(plV v l[i].a0).Y,(plV v l[i].a1).X,(plV v l[i].a1).Y)) () 63 (fun k hk=>by
  have hk':k < l.length:=by omega
  have e:l.getD k ⟨0,0⟩=l[k]:=by simp [hk']
  obtain ⟨q1,q2,_⟩:=hok _ (List.getElem_mem hk')
  obtain ⟨x0,i0,e0⟩:=Hc q1
  obtain ⟨x1,i1,e1⟩:=Hc q2
  unfold Cm Aj
  rw [if_pos (by omega),Bm hk',Ae,i0,Ae,Ae,i1,Ae]
  dsimp only
  rw [Ae,Ae,e0,e1,Amj (hv.ok _ h1) (hv.ok _ h2) (hv.ok _ q1) (hv.ok _ q2),Ae,e,Bh (by omega)]
  by_cases c:Jo v l[k].a0 l[k].a1 l[i].a0 l[i].a1
  ·rw [if_pos (by rw [decide_eq_true_eq];exact c.symm),if_pos (decide_eq_true c)]
  ·rw [if_neg (by rw [decide_eq_true_eq];exact fun g=>c (Jo.symm (v:=v) g)),if_neg (by simpa using c)]) (by
  unfold Cm
  rw [if_neg (by omega)])
 have iff:((List.range i).any fun k=>decide (Jo v (l.getD k ⟨0,0⟩).a0 (l.getD k ⟨0,0⟩).a1 l[i].a0 l[i].a1))=true↔∃ x∈l.take i,Jo v x.a0 x.a1 l[i].a0 l[i].a1:=by
  rw [List.any_eq_true]
  constructor
  ·rintro ⟨k,hk,h⟩
   have hk:=List.mem_range.1 hk
   have hk':k < l.length:=by omega
   have e:l.getD k ⟨0,0⟩=l[k]:=by simp [hk']
   rw [decide_eq_true_eq,e] at h
   exact ⟨l[k],List.mem_take_iff_getElem.2 ⟨k,by omega,rfl⟩,h⟩
  ·rintro ⟨x,hx,h⟩
   obtain ⟨k,hk,rfl⟩:=List.mem_take_iff_getElem.1 hx
   have hk':k < l.length:=by omega
   have e:l.getD k ⟨0,0⟩=l[k]:=by simp [hk']
   exact ⟨k,List.mem_range.2 (by omega),by rw [decide_eq_true_eq,e];exact h⟩
 rw [L]
 by_cases c:∃ x∈l.take i,Jo v x.a0 x.a1 l[i].a0 l[i].a1
 ·right;exact ⟨by rw [if_pos (iff.2 c)],c⟩
 ·left;exact ⟨by rw [if_neg (fun g=>c (iff.1 g))],fun x hx g=>c ⟨x,hx,g⟩⟩
theorem Apw (hv:Ci v) (hn:v.length≤1024) (hl:l.length≤1000000) (hok:∀ s∈l,okL v s):lfix (Dz l v) 0=some (if Lin2 v l then .inl () else .inr 63):=by
 obtain ⟨t,ht,hR⟩:=Cx (B:=Dz l v) (fun s=>l.length-s.toNat)
  (fun s=>∃ k:Nat,s=(k:Int)∧k≤l.length∧Lin2 v (l.take k))
  (fun t=>t=if Lin2 v l then .inl () else .inr 63) (by
   rintro s ⟨k,rfl,hk,h⟩
   unfold Dz Aj
   by_cases hlt:k < l.length
   ·have ho:=hok _ (List.getElem_mem hlt)
    obtain ⟨h1,h2,_⟩:=hok _ (List.getElem_mem hlt)
    obtain ⟨x0,i0,e0⟩:=Hc h1
    obtain ⟨x1,i1,e1⟩:=Hc h2
    rw [if_pos (by omega),jn_d,jn_d,Bm hlt,Ae,i0,Ae,Ae,i1,Ae]
    dsimp only
    rw [Ae,Ae,e0,e1,jn_d]
    rcases Apu hv hn hlt ho with ⟨e,g⟩ | ⟨e,g⟩
    ·rw [e,Ae]
     dsimp only
     have cr:∀ x∈l.take k,(Ge v x.a0 x.a1 l[k].a0 l[k].a1↔Jo v x.a0 x.a1 l[k].a0 l[k].a1):=fun x hx=>by
      obtain ⟨q1,q2,_⟩:=hok _ (List.mem_of_mem_take hx)
      exact Ami h1 h2 q1 q2 (h.1 x hx) g
     rcases Apv hv hl hok hlt with ⟨e2,g2⟩ | ⟨e2,g2⟩
     ·left
      rw [e2,Ae]
      refine ⟨((k+1:Nat):Int),by dsimp only;rw [Bh (by omega)],⟨k+1,rfl,by omega,?_⟩,by simp;omega⟩
      rw [Bv hlt]
      refine ⟨fun s hs=>?_,?_⟩
      ·rcases List.mem_append.1 hs with hs | hs
       ·exact h.1 s hs
       ·rw [List.mem_singleton] at hs
        rw [hs];exact g
      ·rw [List.pairwise_append]
       exact ⟨h.2,by simp,fun x hx y hy=>by rw [List.mem_singleton] at hy;rw [hy];exact fun c=>g2 x hx ((cr x hx).1 c)⟩
     ·right
      rw [e2,Ae]
      refine ⟨.inr 63,rfl,?_⟩
      rw [if_neg]
      rintro ⟨_,hp⟩
      obtain ⟨x,hx,hc⟩:=g2
      have:=hp.sublist (List.take_sublist (k+1) l)
      rw [Bv hlt,List.pairwise_append] at this
      exact this.2.2 x hx l[k] (by simp) ((cr x hx).2 hc)
    ·right
     rw [e,Ae]
     refine ⟨.inr 63,rfl,?_⟩
     rw [if_neg]
     rintro ⟨hp,_⟩
     obtain ⟨z,hz,hb⟩:=g
     exact hp _ (List.getElem_mem hlt) z hz hb
   ·right
    obtain rfl:k=l.length:=by omega
    refine ⟨.inl (),by rw [if_neg (by omega)],?_⟩
    rw [List.take_length] at h
    rw [if_pos h])
  0 ⟨0,rfl,by omega,⟨fun s hs=>by simp at hs,by simp⟩⟩
 rw [ht,hR]
theorem Yy (hv:Ci v) (hn:v.length≤1024) (hl:l.length≤1000000):En v l=some (Qs v l):=by
 unfold En Qs
 rw [jn_d,Ar1 hn hl,Ae]
 by_cases c1:Lin1 v l
 ·rw [if_pos c1,if_pos c1]
  dsimp only
  rw [jn_d,Apw hv hn hl c1.1,Ae]
  by_cases c2:Lin2 v l
  ·rw [if_pos c2,if_pos c2]
  ·rw [if_neg c2,if_neg c2]
 ·rw [if_neg c1,if_neg c1]
theorem Af0 (hl:l.length≤1000000):Ju v l=some (if Mg v=0 then Qs v l else Mg v):=by
 unfold Ju
 rw [Pj,Ae]
 by_cases h:Mg v=0
 ·obtain ⟨hn,_,hv⟩:=Lt h
  rw [if_pos h,if_pos h,Yy hv hn hl,Ae]
 ·rw [if_neg h,if_neg h]
end
end Go.Proofs.YtgfiafnelibjgaaGreat
