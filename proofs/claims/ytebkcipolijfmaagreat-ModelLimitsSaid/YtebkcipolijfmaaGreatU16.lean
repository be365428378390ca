/- Which lines are wrong: what mesh.lineErrors returns. -/
import Derived.Test.YtebkcipolijfmaaGreatU14
namespace Go.Proofs.YtebkcipolijfmaaGreat
open Go Go.RowKit
def prL (s:Aa):Aa:=pr2 s.a0 s.a1
def okL (v:List Ab) (s:Aa):Prop:=inN v.length s.a0∧inN v.length s.a1∧s.a0≠s.a1
def Lin1 (v:List Ab) (l:List Aa):Prop:=(∀ s∈l,okL v s)∧(l.map prL).Nodup
def Lin2 (v:List Ab) (l:List Aa):Prop:=(∀ s∈l,∀ k,inN v.length k→¬ BtwF (plV v s.a0) (plV v s.a1) (plV v k))∧l.Pairwise fun x y=>¬ Hc v x.a0 x.a1 y.a0 y.a1
noncomputable instance (v:List Ab) (l:List Aa):Decidable (Lin1 v l):=Classical.propDecidable _
noncomputable instance (v:List Ab) (l:List Aa):Decidable (Lin2 v l):=Classical.propDecidable _
noncomputable def Vl (v:List Ab) (l:List Aa):Int:=if Lin1 v l then if Lin2 v l then 0 else 63 else 62
section
variable {v:List Ab} {l:List Aa}
theorem Ex {α:Type} {l:List α} {k:Nat} (h:k < l.length):l.take (k+1)=l.take k++[l[k]]:=by
 rw [List.take_add_one,List.getElem?_eq_getElem h];rfl
theorem Zs {α:Type} {l:List α} {x:α}:(l++[x]).Nodup↔l.Nodup∧x ∉ l:=by
 rw [List.nodup_append]
 constructor
 ·rintro ⟨h1,_,h3⟩
  exact ⟨h1,fun h=>h3 x h x (by simp) rfl⟩
 ·rintro ⟨h1,h2⟩
  exact ⟨h1,by simp,fun a ha b hb e=>h2 (by rw [List.mem_singleton] at hb;rw [← hb,← e];exact ha)⟩
structure L3 (v:List Ab) (l:List Aa) (mp:List (Aa × Bool)) (k:Nat):Prop where
 le:k≤l.length
 ok:Fc mp
 len:mp.length≤k
 get:∀ p,(mget mp p).getD false=true↔p∈(l.take k).map prL
 lin:Lin1 v (l.take k)
theorem Aom (hn:v.length≤1024) (hl:l.length≤1000000):lfix (Jb l v) ([],0)=some (if Lin1 v l then .inl () else .inr 62):=by
 obtain ⟨t,ht,hR⟩:=He (B:=Jb l v) (fun s=>l.length-s.2.toNat)
  (fun s=>∃ (mp:List (Aa × Bool)) (k:Nat),s=(mp,(k:Int))∧L3 v l mp k)
  (fun t=>t=if Lin1 v l then .inl () else .inr 62) (by
   rintro s ⟨mp,k,rfl,h⟩
   unfold Jb
   dsimp only
   have hle:=h.le
   by_cases hlt:k < l.length
   ·have hm:l[k]∈l:=List.getElem_mem hlt
    rw [if_pos (by omega),Cf hlt,Ah,jn_d]
    by_cases ho:okL v l[k]
    ·obtain ⟨h1,h2,h3⟩:=ho
     have hr:=Vs h1 h2
     have e:Fd l[k].a0 l[k].a1=some (prL l[k]):=rfl
     have hr':inN v.length (prL l[k]).a0∧inN v.length (prL l[k]).a1:=hr
     rw [if_neg (by have:=h1.1;omega),if_neg (by have:=h2.1;omega),if_neg (by have:=h1.2;omega),if_neg (by have:=h2.2;omega),if_neg h3,e,Ah,gd_t (Mh hn hr'.1 hr'.2),Ah]
     dsimp only
     by_cases c:prL l[k]∈(l.take k).map prL
     ·right
      refine ⟨.inr 62,by rw [if_pos ((h.get _).2 c)],?_⟩
      rw [if_neg]
      rintro ⟨_,hnd⟩
      have hs:List.Sublist ((l.take (k+1)).map prL) (l.map prL):=(List.take_sublist _ _).map _
      have:=hnd.sublist hs
      rw [Ex hlt,List.map_append,List.map_singleton,Zs] at this
      exact this.2 c
     ·left
      have hf:(mget mp (prL l[k])).getD false=false:=by
       cases g:(mget mp (prL l[k])).getD false with
       | false=>rfl
       | true=>exact absurd ((h.get _).1 g) c
      have hlen:=h.len
      refine ⟨(mput mp (prL l[k]) true,((k+1:Nat):Int)),?_,⟨mput mp (prL l[k]) true,k+1,rfl,⟨by omega,h.ok.put _ _,?_,fun p=>?_,?_⟩⟩,by simp;omega⟩
      ·rw [hf,if_neg (by simp),Ah,gd_t (Mh hn hr'.1 hr'.2),gd_t (by omega),Cq (by omega)]
      ·unfold mput
       have:(mdel mp (prL l[k])).length≤mp.length:=List.length_filter_le _ _
       rw [List.length_cons];omega
      ·rw [Pn h.ok,Ex hlt,List.map_append,List.map_singleton,List.mem_append,List.mem_singleton]
       by_cases e:p=prL l[k]
       ·simp [e]
       ·rw [if_neg e,h.get p]
        simp [e]
      ·rw [Ex hlt]
       refine ⟨fun s hs=>?_,?_⟩
       ·rcases List.mem_append.1 hs with hs | hs
        ·exact h.lin.1 s hs
        ·rw [List.mem_singleton] at hs
         rw [hs];exact ⟨h1,h2,h3⟩
       ·rw [List.map_append,List.map_singleton,Zs]
        exact ⟨h.lin.2,c⟩
    ·right
     have hno:¬ Lin1 v l:=fun g=>ho (g.1 _ hm)
     refine ⟨.inr 62,?_,by rw [if_neg hno]⟩
     unfold okL inN at ho
     by_cases c1:l[k].a0 < 0
     ·rw [if_pos c1];rfl
     ·rw [if_neg c1]
      by_cases c2:l[k].a1 < 0
      ·rw [if_pos c2];rfl
      ·rw [if_neg c2]
       by_cases c3:((v.length:Nat):Int)≤l[k].a0
       ·rw [if_pos c3];rfl
       ·rw [if_neg c3]
        by_cases c4:((v.length:Nat):Int)≤l[k].a1
        ·rw [if_pos c4];rfl
        ·rw [if_neg c4,if_pos (by omega)];rfl
   ·right
    obtain rfl:k=l.length:=by omega
    refine ⟨.inl (),by rw [if_neg (by omega)],?_⟩
    have:=h.lin
    rw [List.take_length] at this
    rw [if_pos this])
  ([],0) ⟨[],0,rfl,⟨by omega,List.Pairwise.nil,by simp,fun p=>by simp [mget],⟨fun s hs=>by simp at hs,by simp⟩⟩⟩
 rw [ht,hR]
theorem Akv (hv:Hj v) (hn:v.length≤1024) {x:Aa} (h1:inN v.length x.a0) (h2:inN v.length x.a1) :
  (lfix (Ej v x) 0=some (.inl ())∧∀ k,inN v.length k→¬ BtwF (plV v x.a0) (plV v x.a1) (plV v k))∨(lfix (Ej v x) 0=some (.inr 63)∧∃ k,inN v.length k∧BtwF (plV v x.a0) (plV v x.a1) (plV v k)):=by
 haveI:∀ p q r,Decidable (BtwF p q r):=fun _ _ _=>Classical.propDecidable _
 obtain ⟨x0,i0,e0⟩:=Xz h1
 obtain ⟨x1,i1,e1⟩:=Xz h2
 have L:=Xn (β:=Unit) (γ:=Int) v.length (by omega) (fun k=>decide (BtwF (plV v x.a0) (plV v x.a1) (plV v (k:Int)))) (Ej v x) () 63 (fun k hk=>by
  unfold Ej Fb
  have hp:(⟨v[k].X,v[k].Y⟩:Ac)=plV v (k:Int):=(Xo hk).symm
  rw [if_pos (by omega),Cf hk,Ah,i0,Ah,i1,Ah,Ah,Ah,Ah,e0,e1,hp,Sn (hv.ok _ h1) (hv.ok _ h2) (hv.ok _ ⟨by omega,by omega⟩),Ah,Cq (by omega)]) (by
  unfold Ej
  rw [if_neg (by omega)])
 rw [L]
 by_cases c:∃ k,inN v.length k∧BtwF (plV v x.a0) (plV v x.a1) (plV v k)
 ·right
  refine ⟨?_,c⟩
  obtain ⟨k,⟨k0,k1⟩,hk⟩:=c
  rw [if_pos]
  rw [List.any_eq_true]
  exact ⟨k.toNat,List.mem_range.2 (by omega),by rw [decide_eq_true_eq,Int.toNat_of_nonneg k0];exact hk⟩
 ·left
  refine ⟨?_,fun k hk g=>c ⟨k,hk,g⟩⟩
  rw [if_neg]
  rw [List.any_eq_true]
  rintro ⟨k,hk,g⟩
  rw [decide_eq_true_eq] at g
  exact c ⟨(k:Int),⟨by omega,by have:=List.mem_range.1 hk;omega⟩,g⟩
theorem Akw (hv:Hj v) (hl:l.length≤1000000) (hok:∀ s∈l,okL v s) {i:Nat} (hi:i < l.length) :
  (lfix (Fz (i:Int) v l[i]) (l.take i,0)=some (.inl ())∧∀ x∈l.take i,¬ Hc v x.a0 x.a1 l[i].a0 l[i].a1)∨(lfix (Fz (i:Int) v l[i]) (l.take i,0)=some (.inr 63)∧∃ x∈l.take i,Hc v x.a0 x.a1 l[i].a0 l[i].a1):=by
 obtain ⟨h1,h2,_⟩:=hok _ (List.getElem_mem hi)
 obtain ⟨t,ht,hR⟩:=He (B:=Fz (i:Int) v l[i]) (fun s=>i-s.2.toNat)
  (fun s=>∃ k:Nat,s=(l.take i,(k:Int))∧k≤i∧∀ x∈(l.take i).take k,¬ Hc v x.a0 x.a1 l[i].a0 l[i].a1)
  (fun t=>(t = .inl ()∧∀ x∈l.take i,¬ Hc v x.a0 x.a1 l[i].a0 l[i].a1)∨(t = .inr 63∧∃ x∈l.take i,Hc v x.a0 x.a1 l[i].a0 l[i].a1)) (by
   rintro s ⟨k,rfl,hk,hno⟩
   unfold Fz
   dsimp only
   have hlen:(l.take i).length=i:=by simp;omega
   by_cases hlt:k < i
   ·have hlt':k < (l.take i).length:=by omega
    obtain ⟨q1,q2,_⟩:=hok _ (List.mem_of_mem_take (List.getElem_mem hlt'))
    rw [if_pos (by omega),Cf hlt',Ah,Ww hv q1 q2 h1 h2,Ah]
    by_cases c:Hc v (l.take i)[k].a0 (l.take i)[k].a1 l[i].a0 l[i].a1
    ·right
     exact ⟨.inr 63,by rw [if_pos (decide_eq_true c)],.inr ⟨rfl,_,List.getElem_mem hlt',c⟩⟩
    ·left
     refine ⟨(l.take i,((k+1:Nat):Int)),by rw [if_neg (by rw [decide_eq_true_eq];exact c),Cq (by omega)],⟨k+1,rfl,by omega,fun x hx=>?_⟩,by simp;omega⟩
     rw [Ex hlt',List.mem_append,List.mem_singleton] at hx
     rcases hx with hx | rfl
     ·exact hno x hx
     ·exact c
   ·right
    obtain rfl:k=i:=by omega
    refine ⟨.inl (),by rw [if_neg (by omega)],.inl ⟨rfl,fun x hx=>hno x ?_⟩⟩
    rwa [List.take_of_length_le (by omega)])
  (l.take i,0) ⟨0,rfl,by omega,by simp⟩
 rcases hR with ⟨rfl,h⟩ | ⟨rfl,h⟩
 ·exact .inl ⟨ht,h⟩
 ·exact .inr ⟨ht,h⟩
theorem Akx (hv:Hj v) (hn:v.length≤1024) (hl:l.length≤1000000) (hok:∀ s∈l,okL v s):lfix (Hy l v) 0=some (if Lin2 v l then .inl () else .inr 63):=by
 obtain ⟨t,ht,hR⟩:=He (B:=Hy l v) (fun s=>l.length-s.toNat)
  (fun s=>∃ k:Nat,s=(k:Int)∧k≤l.length∧Lin2 v (l.take k))
  (fun t=>t=if Lin2 v l then .inl () else .inr 63) (by
   rintro s ⟨k,rfl,hk,h⟩
   unfold Hy
   by_cases hlt:k < l.length
   ·obtain ⟨h1,h2,_⟩:=hok _ (List.getElem_mem hlt)
    rw [if_pos (by omega),jn_d,Cf hlt,Ah,jn_d]
    rcases Akv hv hn h1 h2 with ⟨e,g⟩ | ⟨e,g⟩
    ·rw [e,Ah]
     dsimp only
     rw [gd_t ⟨by omega,by omega⟩,show subl l 0 (k:Int)=l.take k from by rw [Aw5];simp]
     rcases Akw hv hl hok hlt with ⟨e2,g2⟩ | ⟨e2,g2⟩
     ·left
      rw [e2,Ah]
      refine ⟨((k+1:Nat):Int),by dsimp only;rw [Cq (by omega)],⟨k+1,rfl,by omega,?_⟩,by simp;omega⟩
      rw [Ex hlt]
      refine ⟨fun s hs=>?_,?_⟩
      ·rcases List.mem_append.1 hs with hs | hs
       ·exact h.1 s hs
       ·rw [List.mem_singleton] at hs
        rw [hs];exact g
      ·rw [List.pairwise_append]
       exact ⟨h.2,by simp,fun x hx y hy=>by rw [List.mem_singleton] at hy;rw [hy];exact g2 x hx⟩
     ·right
      rw [e2,Ah]
      refine ⟨.inr 63,rfl,?_⟩
      rw [if_neg]
      rintro ⟨_,hp⟩
      obtain ⟨x,hx,hc⟩:=g2
      have:=hp.sublist (List.take_sublist (k+1) l)
      rw [Ex hlt,List.pairwise_append] at this
      exact this.2.2 x hx l[k] (by simp) hc
    ·right
     rw [e,Ah]
     refine ⟨.inr 63,rfl,?_⟩
     rw [if_neg]
     rintro ⟨hp,_⟩
     obtain ⟨z,hz,hb⟩:=g
     exact hp _ (List.getElem_mem hlt) z hz hb
   ·right
    obtain rfl:k=l.length:=by omega
    refine ⟨.inl (),by rw [if_neg (by omega)],?_⟩
    rw [List.take_length] at h
    rw [if_pos h])
  0 ⟨0,rfl,by omega,⟨fun s hs=>by simp at hs,by simp⟩⟩
 rw [ht,hR]
theorem Yt (hv:Hj v) (hn:v.length≤1024) (hl:l.length≤1000000):Jq v l=some (Vl v l):=by
 unfold Jq Vl
 rw [jn_d,Aom hn hl,Ah]
 by_cases c1:Lin1 v l
 ·rw [if_pos c1,if_pos c1]
  dsimp only
  rw [jn_d,Akx hv hn hl c1.1,Ah]
  by_cases c2:Lin2 v l
  ·rw [if_pos c2,if_pos c2]
  ·rw [if_neg c2,if_neg c2]
 ·rw [if_neg c1,if_neg c1]
end
end Go.Proofs.YtebkcipolijfmaaGreat
/- Build with lines. -/
namespace Go.Proofs.YtebkcipolijfmaaGreat
open Go Go.RowKit
section
variable {v:List Ab} {l:List Aa}
theorem Ajl (hl:l.length≤1000000) (hs:∀ s∈l.map prL,Mj s):Ov l=some (Bg cmp2 (l.map prL)):=by
 obtain ⟨t,ht,hR⟩:=He (B:=Ps l) (fun s=>l.length-s.2.toNat)
  (fun s=>∃ k:Nat,s=((l.take k).map prL,(k:Int))∧k≤l.length)
  (fun t=>t=l.map prL) (by
   rintro s ⟨k,rfl,hk⟩
   unfold Ps
   dsimp only
   by_cases hlt:k < l.length
   ·left
    refine ⟨((l.take (k+1)).map prL,((k+1:Nat):Int)),?_,⟨k+1,rfl,by omega⟩,by simp;omega⟩
    rw [if_pos (by omega),Cf hlt,Ah,show Fd l[k].a0 l[k].a1=some (prL l[k]) from rfl,Ah,gd_t (by simp;omega),Cq (by omega),Ex hlt,List.map_append]
    rfl
   ·right
    obtain rfl:k=l.length:=by omega
    exact ⟨_,by rw [if_neg (by omega)],by simp⟩)
  ([],0) ⟨0,by simp,by omega⟩
 unfold Ov
 rw [jn_d,ht,Ah,hR]
 dsimp only
 rw [gd_t ⟨by simp;omega,hs⟩]
theorem Hc.symm {a b c d:Int} (h:Hc v a b c d):Hc v c d a b:=by
 obtain ⟨⟨n1,n2,n3,n4⟩,h⟩:=h
 refine ⟨⟨n1.symm,n3.symm,n2.symm,n4.symm⟩,?_⟩
 unfold Meet at *
 rcases h with (h | h | h | h) | ⟨h1,h2⟩
 ·exact .inl (.inr (.inr (.inl h)))
 ·exact .inl (.inr (.inr (.inr h)))
 ·exact .inl (.inl h)
 ·exact .inl (.inr (.inl h))
 ·exact .inr ⟨h2,h1⟩
theorem Hc.swap {a b c d:Int} (h:Hc v a b c d):Hc v a b d c:=by
 obtain ⟨⟨n1,n2,n3,n4⟩,h⟩:=h
 refine ⟨⟨n2,n1,n4,n3⟩,?_⟩
 unfold Meet at *
 have bs:∀ p q r,BtwF p q r→BtwF q p r:=fun p q r h=>⟨⟨by have:=h.1.1;rw [Bv];omega,fun e=>h.1.2 e.symm⟩,h.2.2,h.2.1⟩
 rcases h with (h | h | h | h) | ⟨h1,h2⟩
 ·exact .inl (.inr (.inl h))
 ·exact .inl (.inl h)
 ·exact .inl (.inr (.inr (.inl (bs _ _ _ h))))
 ·exact .inl (.inr (.inr (.inr (bs _ _ _ h))))
 ·refine .inr ⟨by rw [Int.mul_comm];exact h1,?_⟩
  rw [Bv (plV v c) (plV v d) (plV v a),Bv (plV v c) (plV v d) (plV v b)]
  rw [Int.sign_neg,Int.sign_neg,Int.neg_mul_neg]
  exact h2
theorem Aon {a b c d:Int} (h:Hc v (pr2 a b).a0 (pr2 a b).a1 (pr2 c d).a0 (pr2 c d).a1):Hc v a b c d:=by
 have one:∀ {a b c d:Int},Hc v a b (pr2 c d).a0 (pr2 c d).a1→Hc v a b c d:=fun {a b c d} h=>by
  by_cases e:c≤d
  ·have e0:(pr2 c d).a0=c:=by unfold pr2;simp only;omega
   have e1:(pr2 c d).a1=d:=by unfold pr2;simp only;omega
   rwa [e0,e1] at h
  ·have e0:(pr2 c d).a0=d:=by unfold pr2;simp only;omega
   have e1:(pr2 c d).a1=c:=by unfold pr2;simp only;omega
   rw [e0,e1] at h
   exact h.swap
 exact (one (one h).symm).symm
/-- The lines as the program keeps them: in order, from the lesser end. -/
structure Lines (v:List Ab) (L:List Aa):Prop where
 ok:∀ s∈L,okL v s∧s.a0≤s.a1
 nd:L.Nodup
 free:∀ s∈L,Free v s.a0 s.a1
 apart:∀ s∈L,∀ t∈L,s≠t→¬ Hc v s.a0 s.a1 t.a0 t.a1
theorem Avy {s:Aa} (h:okL v s):okL v (prL s)∧(prL s).a0≤(prL s).a1:=by
 obtain ⟨h1,h2,h3⟩:=h
 have:=Vs h1 h2
 refine ⟨⟨this.1,this.2,?_⟩,?_⟩
 ·unfold prL pr2;simp only;omega
 ·unfold prL pr2;simp only;omega
theorem Aq9 (hv:Hj v) (h1:Lin1 v l) (h2:Lin2 v l):Lines v (Bg cmp2 (l.map prL)):=by
 have mem:∀ s,s∈Bg cmp2 (l.map prL)↔∃ t∈l,prL t=s:=fun s=>by rw [Ki,List.mem_map]
 refine ⟨fun s hs=>?_,(Ff _ _).nodup_iff.2 h1.2,fun s hs=>?_,fun s hs t ht hne=>?_⟩
 ·obtain ⟨x,hx,rfl⟩:=(mem s).1 hs
  exact Avy (h1.1 x hx)
 ·obtain ⟨x,hx,rfl⟩:=(mem s).1 hs
  have f:=h2.1 x hx
  have fr:Free v x.a0 x.a1:=fun z hz n1 n2 g=>by
   obtain ⟨k1,k2,_⟩:=h1.1 x hx
   exact f z hz ⟨g,fun e=>n1 (hv.dist _ _ hz k1 e),fun e=>n2 (hv.dist _ _ hz k2 e)⟩
  unfold prL
  by_cases c:x.a0≤x.a1
  ·have e0:(pr2 x.a0 x.a1).a0=x.a0:=by unfold pr2;simp only;omega
   have e1:(pr2 x.a0 x.a1).a1=x.a1:=by unfold pr2;simp only;omega
   rw [e0,e1];exact fr
  ·have e0:(pr2 x.a0 x.a1).a0=x.a1:=by unfold pr2;simp only;omega
   have e1:(pr2 x.a0 x.a1).a1=x.a0:=by unfold pr2;simp only;omega
   rw [e0,e1]
   exact fun z hz n1 n2 g=>fr z hz n2 n1 ⟨by have:=g.1;rw [Bv];omega,fun e=>g.2 e.symm⟩
 ·obtain ⟨x,hx,rfl⟩:=(mem s).1 hs
  obtain ⟨y,hy,rfl⟩:=(mem t).1 ht
  intro g
  have g':=Aon g
  obtain ⟨i,hi,rfl⟩:=List.getElem_of_mem hx
  obtain ⟨j,hj,rfl⟩:=List.getElem_of_mem hy
  rcases Nat.lt_trichotomy i j with c | c | c
  ·exact (List.pairwise_iff_getElem.1 h2.2) i j hi hj c g'
  ·subst c;exact hne rfl
  ·exact (List.pairwise_iff_getElem.1 h2.2) j i hj hi c g'.symm
/-! ### all lines are forced -/
structure Ara (v:List Ab) (L:List Aa) (k:Nat) (m:Mp) (F:List (Aa × Bool)):Prop where
 le:k≤L.length
 map:MapN v.length m
 tri:Tri (plV v) (inN v.length) (apM m)
 cov:Cov (plV v) (inN v.length) (apM m)
 ne:m≠[]
 side:∀ s∈L.take k,Nv (apM m) s.a0 s.a1
 fok:Fc F
 fix:∀ p,(mget F p).getD false=true↔p∈L.take k
 flen:F.length≤k
theorem Aoo (hv:Hj v) (hn:v.length≤1024) {L:List Aa} (hL:Lines v L) (hlen:L.length≤1000000) {m:Mp} (hm:MapN v.length m) (ht:Tri (plV v) (inN v.length) (apM m)) (hc:Cov (plV v) (inN v.length) (apM m)) (hne:m≠[]) :
  ∃ m' F,lfix (Nd L) (v,m,[],0)=some (v,m',F)∧Ara v L L.length m' F:=by
 obtain ⟨t,h1,h2⟩:=He (B:=Nd L) (fun s=>L.length-s.2.2.2.toNat)
  (fun s=>∃ (m:Mp) (F:List (Aa × Bool)) (k:Nat),s=(v,m,F,(k:Int))∧Ara v L k m F)
  (fun t=>∃ m' F,t=(v,m',F)∧Ara v L L.length m' F) (by
   rintro s ⟨m,F,k,rfl,h⟩
   unfold Nd
   dsimp only
   have hle:=h.le
   by_cases hlt:k < L.length
   ·left
    have hmem:L[k]∈L:=List.getElem_mem hlt
    obtain ⟨⟨k1,k2,k3⟩,k4⟩:=hL.ok _ hmem
    have hfl:=h.flen
    obtain ⟨m',e,g⟩:=Ar2 (F:=F) hv hn h.map h.tri h.cov h.ne k1 k2 k3 (hL.free _ hmem) (by omega)
    refine ⟨(v,m',mput F L[k] true,((k+1:Nat):Int)),?_,⟨m',mput F L[k] true,k+1,rfl,⟨by omega,g.map,g.tri,g.cov,g.ne,fun s hs=>?_,h.fok.put _ _,fun p=>?_,?_⟩⟩,by simp;omega⟩
    ·rw [if_pos (by omega),Cf hlt,Ah,show (L[k]:Aa)=⟨L[k].a0,L[k].a1⟩ from rfl,e,Ah,Cq (by omega)]
    ·rw [Ex hlt,List.mem_append,List.mem_singleton] at hs
     rcases hs with hs | rfl
     ·have hsL:=List.mem_of_mem_take hs
      have hne2:L[k]≠s:=fun e=>by
       have:=hL.nd.sublist (List.take_sublist (k+1) L)
       rw [Ex hlt,Zs] at this
       exact this.2 (e ▸ hs)
      have hap:=hL.apart _ hmem _ hsL hne2
      exact g.keep _ _ (fun c=>hap c.cross.1) (fun c=>hap c.cross.2) (h.side s hs)
     ·exact g.side
    ·rw [Pn h.fok,Ex hlt,List.mem_append,List.mem_singleton]
     by_cases c:p=L[k]
     ·simp [c]
     ·rw [if_neg c,h.fix p]
      simp [c]
    ·unfold mput
     have:(mdel F L[k]).length≤F.length:=List.length_filter_le _ _
     rw [List.length_cons];omega
   ·right
    obtain rfl:k=L.length:=by omega
    exact ⟨_,by rw [if_neg (by omega)],m,F,rfl,h⟩)
  (v,m,[],0) ⟨m,[],0,rfl,⟨by omega,hm,ht,hc,hne,fun s hs=>by simp at hs,List.Pairwise.nil,fun p=>by simp [mget],by simp⟩⟩
 obtain ⟨m',F,rfl,h3⟩:=h2
 exact ⟨m',F,h1,h3⟩
/-- What a mesh with lines is: the triangles of a triangulation in which the lines are sides and the other sides are legal. -/
structure Mesh (v:List Ab) (L:List Aa) (m:Mp):Prop where
 map:MapN v.length m
 tri:Tri (plV v) (inN v.length) (apM m)
 cov:Cov (plV v) (inN v.length) (apM m)
 ne:m≠[]
 side:∀ s∈L,Nv (apM m) s.a0 s.a1
 leg:∀ i j k l,apM m i j=some k→apM m j i=some l→pr2 i j∈L∨DH (plV v) (hV v) i j k l < 0
theorem Ajm (h:Vu v=0) (hl:l.length≤1000000) (h1:Lin1 v l) (h2:Lin2 v l) :
  ∃ T,Kj v l=some (⟨v,T,Bg cmp2 (l.map prL)⟩,0)∧((Anm v∧T=[])∨(¬ Anm v∧∃ m,Mesh v (Bg cmp2 (l.map prL)) m∧T=Bg cmp3 (m.flatMap triF))):=by
 obtain ⟨hn,_,hv⟩:=Xp h
 have hL:=Aq9 hv h1 h2
 have sm:∀ s∈l.map prL,Mj s:=fun s hs=>by
  obtain ⟨⟨k1,k2,_⟩,_⟩:=hL.ok s (Ki.2 hs)
  exact Agh hn k1 k2
 have hlen:(Bg cmp2 (l.map prL)).length≤1000000:=by rw [(Ff _ _).length_eq];simp;omega
 obtain ⟨r,hr1,hr⟩:=Apo hv hn
 obtain ⟨m,s1,s2⟩:=Asv hv hn hr []
 have e0:Vl v l=0:=by unfold Vl;rw [if_pos h1,if_pos h2]
 unfold Kj
 rw [Xq,h,Ah,if_pos rfl,Yt hv hn hl,e0,Ah,if_pos rfl,Ajl hl sm,Ah,hr1,Ah,s1,Ah,jn_d]
 dsimp only
 have hcl:Nm v=some v:=by
  unfold Nm
  rw [gd_t (by omega)]
 rcases s2 with ⟨h3,rfl⟩ | ⟨h3,h4,h5,h6,h7⟩
 ·rw [if_neg (by simp)]
  have ht:=Aaz (n:=v.length) hn (b:=⟨v,[],[]⟩) ⟨List.Pairwise.nil,by simp⟩
  rw [hcl,Ah,ht,Ah]
  exact ⟨_,rfl,.inl ⟨h3,by simp [Bg]⟩⟩
 ·have hpos:0 < m.length:=List.length_pos_iff.2 h7
  rw [if_pos (by omega),jn_d]
  obtain ⟨m1,F,f1,f2⟩:=Aoo hv hn hL hlen h4 h5 h6 h7
  rw [f1,Ah]
  dsimp only
  obtain ⟨m',g1,g2,g3⟩:=Aod (b:=⟨v,m1,F⟩) hv hn f2.map f2.tri
  rw [g1,Ah]
  dsimp only at g1 g2 g3 ⊢
  have ht:=Aaz (n:=v.length) hn (b:=⟨v,m',F⟩) g2.map
  rw [hcl,Ah,ht,Ah]
  have fx:∀ p q:Int,Fx F p q=true↔pr2 p q∈Bg cmp2 (l.map prL):=fun p q=>by
   have:=f2.fix (pr2 p q)
   rw [List.take_length] at this
   exact this
  refine ⟨_,rfl,.inr ⟨h3,m',⟨g2.map,g2.tri,g3.cov _ f2.cov,g3.ne f2.ne,fun s hs=>?_,fun i j k l hk hl=>?_⟩,rfl⟩⟩
  ·obtain ⟨⟨_,_,k3⟩,k4⟩:=hL.ok s hs
   have hp:pr2 s.a0 s.a1=s:=by
    obtain ⟨x,y⟩:=s
    unfold pr2
    rw [Hl]
    dsimp only at k4 ⊢
    omega
   refine g3.fix _ _ ((fx _ _).2 (by rw [hp];exact hs)) (f2.side s (by rw [List.take_length];exact hs))
  ·rcases g2.pend i j k l hk hl with q | q | q
   ·cases q
   ·exact .inl ((fx _ _).1 q)
   ·exact .inr q
theorem Aky (h:Vu v=0) (hl:l.length≤1000000) (h1:Vl v l≠0):Kj v l=some (⟨[],[],[]⟩,Vl v l):=by
 obtain ⟨hn,_,hv⟩:=Xp h
 unfold Kj
 rw [Xq,h,Ah,if_pos rfl,Yt hv hn hl,Ah,if_neg h1]
end
end Go.Proofs.YtebkcipolijfmaaGreat
