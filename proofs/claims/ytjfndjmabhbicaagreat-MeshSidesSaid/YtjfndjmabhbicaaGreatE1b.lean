/- The mesh of vertices without lines. -/
import Derived.Test.YtjfndjmabhbicaaGreatL7
import Derived.Test.YtjfndjmabhbicaaGreatK1
namespace Go.Proofs.YtjfndjmabhbicaaGreat
open Go Go.RowKit
variable {v:List Ab} {l:List Int}
theorem Aq1 (hv:Be v) (hn:v.length<=1024) (hr:Lh v l) (F:List (Aa × Bool)) :
  ∃ m,Ji ⟨v,[],F⟩ l=some ⟨v,m,F⟩/\((Nv v/\m=[])\/(¬ Nv v/\MapN v.length m/\Tri (plV v) (inN v.length) (apM m)/\Cov (plV v) (inN v.length) (apM m)/\m≠[])):=by
 have hlen:=hr.len
 obtain ⟨n0,h1,h2,h3,h4,h5⟩:=Ax8 hv hn hr ⟨v,[],F⟩ rfl
 unfold Ji
 rw [jn_d,h1,Ad]
 dsimp only
 by_cases c:l.length<=n0
 ·rw [if_pos (by omega)]
  refine ⟨[],rfl,.inl ⟨?_,rfl⟩⟩
  by_cases c2:2<=l.length
  ·-- all on the line of the first two
   have g0:0 < l.length:=by omega
   have g1:1 < l.length:=by omega
   have on:∀ i,inN v.length i->crs (plV v l[0]) (plV v l[1]) (plV v i)=0:=fun i hi=>by
    obtain ⟨k,hk,rfl⟩:=List.getElem_of_mem (hr.val.2 hi)
    by_cases e0:k=0
    ·subst e0;exact Bi _ _
    ·by_cases e1:k=1
     ·subst e1;exact Bb _ _
     ·obtain ⟨_,_,_,g⟩:=h3 k (by omega) (by omega)
      exact g
   have hne:¬ Bm (plV v l[0]) (plV v l[1]):=fun e=>by
    have:=hr.lt g0 g1 (by omega)
    unfold befP Bm at *
    omega
   exact fun i j k hi hj hk=>Th hne (on i hi) (on j hj) (on k hk)
  ·intro i j k hi hj hk
   unfold inN at hi hj hk
   have:i=j:=by omega
   subst this
   exact Px _ _
 ·rw [if_neg (by omega),jn_d]
  have g0:0 < l.length:=by omega
  have g1:1 < l.length:=by omega
  have gn:n0 < l.length:=by omega
  have off:=h4 g0 g1 gn
  have hne:¬ Bm (plV v l[0]) (plV v l[1]):=fun e=>by
   have:=hr.lt g0 g1 (by omega)
   unfold befP Bm at *
   omega
  have hf:Fan v l n0:=by
   refine ⟨h2,gn,fun i j k hi hj hk=>?_,off⟩
   have on:∀ i,Kv l n0 i->crs (plV v l[0]) (plV v l[1]) (plV v i)=0:=fun i hi=>by
    obtain ⟨k,hk,hk2,rfl⟩:=hi
    by_cases e0:k=0
    ·subst e0;exact Bi _ _
    ·by_cases e1:k=1
     ·subst e1;exact Bb _ _
     ·obtain ⟨_,_,_,g⟩:=h3 k (by omega) hk2
      exact g
   exact Th hne (on i hi) (on j hj) (on k hk)
  obtain ⟨s1,s2⟩:=hf.swept hv hn hr
  rw [Ax9 hv hn hr hf,Ad]
  dsimp only
  rw [Au (by omega),gd_t ⟨by omega,by omega⟩]
  have ht:subl l (((n0+1:Nat):Int)) ((l.length:Nat):Int)=l.drop (n0+1):=by unfold subl;simp
  rw [ht]
  have:=Bk (B:=Ic l (n0:Int)) (fun s=>l.length-s.2.2.2.2.toNat) (fun s=>∃ (k:Nat) (m:Mp),n0+1<=k/\k<=l.length/\s=(v,m,F,l.drop (n0+1),((k-(n0+1):Nat):Int))/\Afk v l k m/\m≠[])
   (fun t=>∃ m:Mp,t=⟨v,m,F⟩/\Afk v l l.length m/\m≠[]) (fun s hs=>by
    obtain ⟨k,m,k1,k2,rfl,k3,k4⟩:=hs
    unfold Ic
    dsimp only
    rw [Au (by omega)]
    by_cases c2:k < l.length
    ·left
     obtain ⟨m',e1,e2,e3⟩:=k3.step hv hn hr (F:=F) c2
     have hi:idx (l.drop (n0+1)) (((k-(n0+1):Nat):Int))=some l[k]:=by
      rw [As (by rw [List.length_drop];omega),List.getElem_drop]
      congr 2
      omega
     rw [if_pos (by simp;omega),jn_d,hi,Ad]
     refine ⟨(v,m',F,l.drop (n0+1),((k+1-(n0+1):Nat):Int)),?_,⟨k+1,m',by omega,by omega,rfl,e2,e3 k4⟩,by dsimp only;omega⟩
     obtain ⟨r,hr1,hr2⟩:=Am e1
     obtain ⟨t,ht1,ht2⟩:=Am hr2
     cases ht2
     rw [hr1,Ad,ht1,Ad,Au (by omega),show k-(n0+1)+1=k+1-(n0+1) by omega]
    ·right
     rw [if_neg (by simp;omega)]
     have:k=l.length:=by omega
     subst this
     exact ⟨_,rfl,m,rfl,k3,k4⟩) (v,putAll [] (l.getD n0 0) (fanL v l n0 (n0-1)),F,l.drop (n0+1),0) ⟨n0+1,_,by omega,by omega,by simp,s1,s2⟩
  obtain ⟨t,e1,m,rfl,e2,e3⟩:=this
  rw [e1,Ad]
  refine ⟨m,rfl,.inr ⟨fun hfl=>?_,e2.map,e2.tri,fun i j k hk hnn d hd=>?_,e3⟩⟩
  ·exact off (hfl _ _ _ (hr.val.1 (List.getElem_mem g0)) (hr.val.1 (List.getElem_mem g1)) (hr.val.1 (List.getElem_mem gn)))
  ·obtain ⟨j',hj',rfl⟩:=List.getElem_of_mem (hr.val.2 hd)
   exact e2.cov _ _ _ hk hnn _ ⟨j',hj',hj',rfl⟩
def Del (v:List Ab) (a b c:Int):Prop:=inN v.length a/\inN v.length b/\inN v.length c/\0 < crs (plV v a) (plV v b) (plV v c)/\∀ d,inN v.length d->d≠a->d≠b->d≠c->DH (plV v) (hV v) a b c d < 0
theorem Del.rot {a b c:Int} (h:Del v a b c):Del v b c a:=by
 obtain ⟨h1,h2,h3,h4,h5⟩:=h
 exact ⟨h2,h3,h1,by rw [Al];exact h4,fun d hd n1 n2 n3=>by rw [Nr];exact h5 d hd n3 n1 n2⟩
structure Aio (v:List Ab) (T:List Ae):Prop where
 ord:T.Pairwise fun x y=>¬ cmp3 y x < 0
 nd:T.Nodup
 mem:∀ t,t∈T↔t.a0 < t.a1/\t.a0 < t.a2/\Del v t.a0 t.a1 t.a2
theorem Aio.unique {T T':List Ae} (h:Aio v T) (h':Aio v T'):T=T' :=
 Tk tot3 (fun _ _=>trivial) h.ord h'.ord ((List.perm_ext_iff_of_nodup h.nd h'.nd).2 fun t=>(h.mem t).trans (h'.mem t).symm)
theorem Aip (hv:Be v) {m:Mp} (hm:MapN v.length m) (ht:Tri (plV v) (inN v.length) (apM m)) (hc:Cov (plV v) (inN v.length) (apM m)) (hl:∀ i j k l,apM m i j=some k->apM m j i=some l->DH (plV v) (hV v) i j k l < 0) (hne:m≠[]) (a b c:Int) :
  apM m a b=some c↔Del v a b c:=by
 have mem:∀ a b c:Int,(a,b,c)∈(m.map fun q=>(q.1.a0,q.1.a1,q.2))↔apM m a b=some c:=fun a b c=>by
  rw [List.mem_map]
  constructor
  ·rintro ⟨⟨⟨x,y⟩,z⟩,hq,e⟩
   cases e
   exact Ky hm.ok hq
  ·intro h
   exact ⟨(⟨a,b⟩,c),Dr h,rfl⟩
 have hX:Yv (plV v) (m.map fun q=>(q.1.a0,q.1.a1,q.2)):=⟨fun a b c h=>(mem _ _ _).2 (ht.rot _ _ _ ((mem _ _ _).1 h)),fun a b c h=>(ht.ccw _ _ _ ((mem _ _ _).1 h)).2.2.2⟩
 have twin:∀ a b c,apM m a b=some c->∀ d,inN v.length d->crs (plV v a) (plV v b) (plV v d) < 0->∃ e,apM m b a=some e:=fun a b c h d hd hlt=>by
  rcases e:apM m b a with _ | x
  ·have:=hc a b c h e d hd;omega
  ·exact ⟨x,rfl⟩
 have G:=global (H:=hV v) (V:=inN v.length) hX (fun a b c h d hd n1 n2 n3=>ht.emp _ _ _ ((mem _ _ _).1 h) d hd n1 n2 n3) (fun a b c h d hd hlt=>by
  obtain ⟨e,he⟩:=twin a b c ((mem _ _ _).1 h) d hd hlt
  exact ⟨e,(mem _ _ _).2 he,hl _ _ _ _ ((mem _ _ _).1 h) he⟩)
 constructor
 ·intro h
  obtain ⟨k1,k2,k3,k4⟩:=ht.ccw _ _ _ h
  exact ⟨k1,k2,k3,k4,G a b c ((mem _ _ _).2 h)⟩
 ·rintro ⟨k1,k2,k3,k4,k5⟩
  refine (mem _ _ _).1 (Aed (H:=hV v) (V:=inN v.length) hX (fun a b c h=>?_) G (fun a b c h d hd hlt=>?_) ?_ k1 k2 k3 k4 k5)
  ·obtain ⟨q1,q2,q3,_⟩:=ht.ccw _ _ _ ((mem _ _ _).1 h)
   exact ⟨q1,q2,q3⟩
  ·obtain ⟨e,he⟩:=twin a b c ((mem _ _ _).1 h) d hd hlt
   exact ⟨e,(mem _ _ _).2 he⟩
  ·intro e
   rw [List.map_eq_nil_iff] at e
   exact hne e
theorem Atw {m:Mp} (hm:MapN v.length m) (h:∀ a b c,apM m a b=some c↔Del v a b c):Aio v (An cmp3 (m.flatMap triF)):=by
 have memt:∀ t:Ae,t∈m.flatMap triF↔t.a0 < t.a1/\t.a0 < t.a2/\Del v t.a0 t.a1 t.a2:=fun t=>by
  rw [List.mem_flatMap]
  constructor
  ·rintro ⟨⟨⟨a,b⟩,c⟩,hq,ht⟩
   unfold triF at ht
   split at ht
   ·rename_i hlt
    rw [List.mem_singleton] at ht
    subst ht
    exact ⟨hlt.1,hlt.2,(h _ _ _).1 (Ky hm.ok hq)⟩
   ·cases ht
  ·rintro ⟨h1,h2,h3⟩
   refine ⟨(⟨t.a0,t.a1⟩,t.a2),Dr ((h _ _ _).2 h3),?_⟩
   unfold triF
   rw [if_pos ⟨h1,h2⟩]
   exact List.mem_singleton.2 rfl
 refine ⟨Gz tot3 (fun _ _=>trivial),(Cg _ _).nodup_iff.2 ?_,fun t=>by rw [Et,memt]⟩
 have:∀ l:Mp,Dj l->(l.flatMap triF).Nodup:=by
  intro l
  induction l with
  | nil=>intro _;exact List.Pairwise.nil
  | cons q r ih =>
   intro hl
   obtain ⟨h1,h2⟩:=List.pairwise_cons.1 hl
   rw [List.flatMap_cons,List.nodup_append]
   refine ⟨?_,ih h2,fun x hx y hy e=>?_⟩
   ·unfold triF
    split
    ·simp
    ·exact List.Pairwise.nil
   ·subst e
    obtain ⟨q',hq',hy⟩:=List.mem_flatMap.1 hy
    have key:∀ q:Aa × Int,x∈triF q->q.1=⟨x.a0,x.a1⟩:=fun q hq=>by
     unfold triF at hq
     split at hq
     ·rw [List.mem_singleton] at hq
      subst hq
      rfl
     ·cases hq
    exact h1 q' hq' (by rw [key _ hx,key _ hy])
 exact this m hm.ok
theorem Pb {β γ:Type} (N:Nat) (hN:N<=1000000000) (p:Nat->Bool) (B:Int->Option (Sum Int (Sum β γ))) (u:β) (w:γ) (h1:∀ k:Nat,k < N->B (k:Int)=if p k=true then some (.inr (.inr w)) else some (.inl ((k+1:Nat):Int)))
  (h2:B (N:Int)=some (.inr (.inl u))):lfix B 0=some (if (List.range N).any p then .inr w else .inl u):=by
 have key:∀ j k,j+k=N->lfix B (k:Int)=some (if ((List.range N).drop k).any p then .inr w else .inl u):=by
  intro j
  induction j with
  | zero =>
   intro k hk
   rw [Bf,show k=N by omega,h2,List.drop_eq_nil_of_le (by simp)]
   rfl
  | succ j ih =>
   intro k hk
   rw [Bf,h1 k (by omega),List.drop_eq_getElem_cons (by simp;omega),List.any_cons,List.getElem_range]
   by_cases c:p k=true
   ·rw [if_pos c,c];rfl
   ·rw [if_neg c]
    rw [Bool.not_eq_true] at c
    rw [c,Bool.false_or]
    exact ih (k+1) (by omega)
 have:=key N 0 (by omega)
 rwa [List.drop_zero] at this
def pP (x:Ab):Ac:=⟨x.X,x.Y⟩
def Le (x:Ab):Prop:=okP (pP x)/\-268435456<=x.Z.Lo/\x.Z.Lo<=x.Z.Hi/\x.Z.Hi<=268435456
instance (x:Ab):Decidable (Le x):=by unfold Le;infer_instance
theorem Aa9 {v:List Ab} {k:Nat} (hk:k < v.length):plV v (k:Int)=pP v[k]:=by unfold plV;rw [As hk];rfl
theorem Ag3 (x:Ab):Ta x=some (decide (Le x)):=by
 unfold Ta Da
 rw [Ad,Ad,Ad,Amj,Ad,jn_d]
 unfold Sf
 by_cases h:okP (⟨x.X,x.Y⟩:Ac)
 ·simp only [h,and_self,if_true]
  rw [jn_d]
  by_cases h1:-1152921504606846976<=x.Z.Lo
  ·rw [if_pos h1]
   by_cases h2:x.Z.Lo<=x.Z.Hi
   ·rw [if_pos h2]
    by_cases h3:x.Z.Hi<=1152921504606846976
    ·rw [decide_eq_true h3,Ad,if_pos rfl]
     by_cases h4:-268435456<=x.Z.Lo
     ·rw [if_pos h4]
      congr 1
      rw [Bool.eq_iff_iff,decide_eq_true_eq,decide_eq_true_eq]
      unfold Le pP
      exact ⟨fun g=>⟨h,h4,h2,g⟩,fun g=>g.2.2.2⟩
     ·rw [if_neg h4,decide_eq_false (fun g:Le x=>h4 g.2.1)]
    ·rw [decide_eq_false h3,Ad,if_neg (by simp),decide_eq_false (fun g:Le x=>h3 (by have:=g.2.2.2;omega))]
   ·rw [if_neg h2,Ad,if_neg (by simp),decide_eq_false (fun g:Le x=>h2 g.2.2.1)]
  ·rw [if_neg h1,Ad,if_neg (by simp),decide_eq_false (fun g:Le x=>h1 (by have:=g.2.1;omega))]
 ·simp only [h,false_and,if_false]
  rw [if_neg (by decide),decide_eq_false (fun g:Le x=>h g.1)]
def Ja (v:List Ab):Int:=if 1024 < v.length then 2 else if ¬ (∀ x∈v,Le x) then 60 else if ¬ Ey v then 61 else 0
theorem Ii {v:List Ab} (h:Ja v=0):v.length<=1024/\(∀ x∈v,Le x)/\Be v:=by
 unfold Ja at h
 split at h
 ·omega
 ·split at h
  ·omega
  ·split at h
   ·omega
   ·rename_i h1 h2 h3
    have h2:=Classical.not_not.1 h2
    have h3:=Classical.not_not.1 h3
    refine ⟨by omega,h2,fun i hi=>?_,fun i j hi hj hs=>?_⟩
    ·obtain ⟨k,hk,rfl,_⟩:=Fn (v:=v) (i:=i) hi
     rw [Aa9 hk]
     exact (h2 _ (List.getElem_mem hk)).1
    ·obtain ⟨a,ha,rfl,_⟩:=Fn (v:=v) (i:=i) hi
     obtain ⟨b,hb,rfl,_⟩:=Fn (v:=v) (i:=j) hj
     rw [Aa9 ha,Aa9 hb] at hs
     unfold Ey at h3
     rw [List.pairwise_iff_getElem] at h3
     rcases Nat.lt_trichotomy a b with c | c | c
     ·exact absurd hs (h3 a b ha hb c)
     ·rw [c]
     ·exact absurd ⟨hs.1.symm,hs.2.symm⟩ (h3 b a hb ha c)
theorem Acy {v:List Ab}:((List.range v.length).any fun k=>!decide (Le (v.getD k ⟨0,0,⟨0,0⟩⟩)))=true↔¬ ∀ x∈v,Le x:=by
 rw [List.any_eq_true]
 constructor
 ·rintro ⟨k,hk,h⟩ hall
  rw [List.mem_range] at hk
  simp [hk] at h
  exact h (hall _ (List.getElem_mem hk))
 ·intro h
  apply Classical.byContradiction
  intro hno
  apply h
  intro x hx
  obtain ⟨k,hk,rfl⟩:=List.getElem_of_mem hx
  apply Classical.byContradiction
  intro hb
  exact hno ⟨k,List.mem_range.2 hk,by simp [hk,hb]⟩
theorem Ag4 {v:List Ab}:(∃ i j,∃ (hi:i < v.length) (hj:j < v.length),j < i/\Qh v[i] v[j])↔¬ Ey v:=by
 unfold Ey
 rw [List.pairwise_iff_getElem]
 constructor
 ·rintro ⟨i,j,hi,hj,hji,hs⟩ h
  exact h j i hj hi hji ⟨hs.1.symm,hs.2.symm⟩
 ·intro h
  apply Classical.byContradiction
  intro hno
  apply h
  intro i j hi hj hij hs
  exact hno ⟨j,i,hj,hi,hij,hs.1.symm,hs.2.symm⟩
theorem Awm {v:List Ab} (c:v.length<=1024):lfix (Ir v) 0=some (if ((List.range v.length).any fun k=>!decide (Le (v.getD k ⟨0,0,⟨0,0⟩⟩)))=true then .inr 60 else .inl ()):=by
 refine Pb v.length (by omega) (fun k=>!decide (Le (v.getD k ⟨0,0,⟨0,0⟩⟩))) (Ir v) () 60 (fun k hk=>?_) ?_
 ·unfold Ir
  rw [if_pos (by omega),As hk,Ad,Ag3,Ad,Au (by omega)]
  have e:v.getD k ⟨0,0,⟨0,0⟩⟩=v[k]:=by simp [hk]
  rw [e]
  by_cases g:Le v[k]
  ·simp [g]
  ·simp [g]
 ·unfold Ir
  rw [if_neg (by omega)]
theorem Aiq (v:List Ab):Nz v=some (Ja v):=by
 unfold Nz Ja
 by_cases c:1024 < v.length
 ·rw [if_pos (by omega),if_pos c]
 ·rw [if_neg (by omega),if_neg c,jn_d]
  rw [Awm (by omega),Ad]
  ·by_cases h:∀ x∈v,Le x
   ·rw [if_neg (fun g=>Acy.1 g h),if_neg (not_not_intro h)]
    dsimp only
    rw [jn_d]
    have hL:=Bk (B:=Ms v) (fun s=>v.length-s.2.toNat) (fun s=>∃ k:Nat,k<=v.length/\s.2=(k:Int)/\Dj s.1/\s.1.length<=k/\(∀ x,(mget s.1 x).getD false=true↔∃ (j:Nat) (hj:j < v.length),j < k/\pP v[j]=x)/\∀ i j (hi:i < v.length) (hj:j < v.length),i < k->j < i->¬ Qh v[i] v[j])
     (fun t=>t=if ¬ Ey v then .inr 61 else .inl ()) (fun s hs=>by
      obtain ⟨m,k⟩:=s
      obtain ⟨k,h1,rfl,h2,h3,h4,h5⟩:=hs
      simp only at h1 h2 h3 h4
      unfold Ms
      dsimp only
      by_cases hk:k < v.length
      ·have hg:=(h _ (List.getElem_mem hk)).1
       have hr:(-9223372036854775808<=v[k].X/\v[k].X<=9223372036854775807)/\-9223372036854775808<=v[k].Y/\v[k].Y<=9223372036854775807:=by
        unfold okP pP at hg
        simp only at hg
        omega
       unfold Da
       rw [if_pos (by omega),As hk,Ad,Ad,gd_t hr,Ad]
       have e4:=h4 (⟨v[k].X,v[k].Y⟩:Ac)
       by_cases hd:(mget m (⟨v[k].X,v[k].Y⟩:Ac)).getD false=true
       ·right
        rw [if_pos hd]
        obtain ⟨j,hj,hjk,he⟩:=e4.1 hd
        refine ⟨_,rfl,?_⟩
        rw [if_pos]
        refine Ag4.1 ⟨k,j,hk,hj,hjk,?_⟩
        unfold pP at he
        simp at he
        exact ⟨he.1.symm,he.2.symm⟩
       ·left
        rw [if_neg hd,Ad,gd_t hr,gd_t (by omega),Au (by omega)]
        refine ⟨_,rfl,⟨k+1,hk,rfl,h2.put _ _,?_,fun x=>?_,fun i j hi hj hik hji=>?_⟩,by dsimp only;omega⟩
        ·dsimp only
         unfold mput mdel
         rw [List.length_cons]
         refine Nat.succ_le_succ (Nat.le_trans (List.length_filter_le _ m) h3)
        ·dsimp only
         rw [Mz h2]
         by_cases hx:x=⟨v[k].X,v[k].Y⟩
         ·rw [if_pos hx]
          simp only [Option.getD_some,true_iff]
          exact ⟨k,hk,by omega,hx.symm⟩
         ·rw [if_neg hx,h4]
          constructor
          ·rintro ⟨j,hj,h6,h7⟩;exact ⟨j,hj,by omega,h7⟩
          ·rintro ⟨j,hj,h6,h7⟩
           refine ⟨j,hj,?_,h7⟩
           by_cases e:j=k
           ·subst e;exact absurd h7.symm hx
           ·omega
        ·by_cases e:i=k
         ·subst e
          intro hs
          exact hd (e4.2 ⟨j,hj,hji,by unfold pP;rw [hs.1,hs.2]⟩)
         ·exact h5 i j hi hj (by omega) hji
      ·right
       rw [if_neg (by omega)]
       refine ⟨_,rfl,?_⟩
       rw [if_neg]
       intro hno
       obtain ⟨i,j,hi,hj,hji,hs⟩:=Ag4.2 hno
       exact h5 i j hi hj (by omega) hji hs) ([],0) ⟨0,by omega,rfl,List.Pairwise.nil,by simp,fun x=>by simp [mget],fun i j hi hj h1=>by omega⟩
    obtain ⟨t,h1,rfl⟩:=hL
    rw [h1,Ad]
    by_cases hd:Ey v
    ·rw [if_neg (not_not_intro hd),if_neg (not_not_intro hd)]
    ·rw [if_pos hd,if_pos hd]
   ·rw [if_pos (Acy.2 h),if_pos h]

noncomputable def Gr (p0:Ac) (p1:Ac) (p2:Ac):Option Bool :=
 jn (fun (s2:Bool) =>
 some s2)
 (fun j2=>bnd (By p0 p1 p2) fun r4 =>
 if r4=0 then (if (min p0.X p1.X)<=p2.X then (if p2.X<=(max p0.X p1.X) then (if (min p0.Y p1.Y)<=p2.Y then (j2 (decide (p2.Y<=(max p0.Y p1.Y))))
 else (j2 false))
 else (j2 false))
 else (j2 false))
 else (j2 false))
noncomputable def Ds (p0:List Ab):Int->Option (Sum Int (Sum Unit Int)):=fun s0 =>
 if s0 < ((((p0).length:Nat):Int)) then (bnd (idx p0 s0) fun x0 =>
 bnd (Fp (⟨x0.X,x0.Y,(⟨x0.Z.Lo,x0.Z.Hi⟩:Ak)⟩:Ab)) fun r0 =>
 if r0=true then (some (.inl (w64 (s0+1))))
 else (some (.inr (.inr (60)))))
 else (some (.inr (.inl ())))
noncomputable def Ez (s0:Int) (p0:List Ab):Int->Option (Sum Int (Sum Unit Int)):=fun s1 =>
 if s1 < s0 then (jn (fun (s2:Bool) =>
 if s2=true then (some (.inr (.inr (61))))
 else (some (.inl (w64 (s1+1)))))
 (fun j0=>bnd (idx p0 s0) fun x0 =>
 bnd (idx p0 s1) fun x1 =>
 if x0.X=x1.X then (bnd (idx p0 s0) fun x2 =>
 bnd (idx p0 s1) fun x3 =>
 j0 (decide (x2.Y=x3.Y)))
 else (j0 false)))
 else (some (.inr (.inl ())))
noncomputable def Dg (p0:List Ab):Int->Option (Sum Int (Sum Unit Int)):=fun s0 =>
 if s0 < ((((p0).length:Nat):Int)) then (jn (fun (s1:Unit) =>
 some (.inl (w64 (s0+1))))
 (fun j0=>bnd (lfix (Ez s0 p0) 0) fun t0 =>
 (match t0 with
 | (.inl z0)=>j0 z0
 | (.inr (z0))=>some (.inr (.inr (z0)))
 )))
 else (some (.inr (.inl ())))
noncomputable def Ga (p0:List Ab):Option Int :=
 if 1024 < ((((p0).length:Nat):Int)) then (some 2)
 else (jn (fun (s5:Unit) =>
 jn (fun (s0:Unit) =>
 some 0)
 (fun j0=>bnd (lfix (Dg p0) 0) fun t0 =>
 (match t0 with
 | (.inl z0)=>j0 z0
 | (.inr (z0))=>some z0
 )))
 (fun j5=>bnd (lfix (Ds p0) 0) fun t1 =>
 (match t1 with
 | (.inl z1)=>j5 z1
 | (.inr (z1))=>some z1
 )))
noncomputable def Kr (p0:List Ab):(Int × Int)->Option (Sum (Int × Int) Int):=fun s0 =>
 if s0.2 < ((((p0).length:Nat):Int)) then (jn (fun (s1:Int) =>
 some (.inl (s1,w64 (s0.2+1))))
 (fun j0=>bnd (idx p0 s0.2) fun x0 =>
 bnd (idx p0 s0.1) fun x1 =>
 bnd (Aj (⟨x0.X,x0.Y,(⟨x0.Z.Lo,x0.Z.Hi⟩:Ak)⟩:Ab)) fun r0 =>
 bnd (Aj (⟨x1.X,x1.Y,(⟨x1.Z.Lo,x1.Z.Hi⟩:Ak)⟩:Ab)) fun r1 =>
 bnd (Eg r0 r1) fun r2 =>
 if r2=true then (j0 s0.2)
 else (j0 s0.1)))
 else (some (.inr s0.1))
noncomputable def Is (p0:List Ab):Option Int :=
 jn (fun (s3:Int) =>
 some s3)
 (fun j3=>bnd (lfix (Kr p0) (0,0)) fun t0 =>
 j3 t0)
noncomputable def Gs (p0:List Ab) (p1:Int) (p2:Bool):(Int × Int)->Option (Sum (Int × Int) Int):=fun s0 =>
 if s0.2 < ((((p0).length:Nat):Int)) then (jn (fun (s1:Int) =>
 some (.inl (s1,w64 (s0.2+1))))
 (fun j0=>if s0.2=p1 then (j0 s0.1)
 else (if s0.1 < 0 then (j0 s0.2)
 else (bnd (idx p0 p1) fun x0 =>
 bnd (idx p0 s0.1) fun x1 =>
 bnd (idx p0 s0.2) fun x2 =>
 bnd (Aj (⟨x0.X,x0.Y,(⟨x0.Z.Lo,x0.Z.Hi⟩:Ak)⟩:Ab)) fun r0 =>
 bnd (Aj (⟨x1.X,x1.Y,(⟨x1.Z.Lo,x1.Z.Hi⟩:Ak)⟩:Ab)) fun r1 =>
 bnd (Aj (⟨x2.X,x2.Y,(⟨x2.Z.Lo,x2.Z.Hi⟩:Ak)⟩:Ab)) fun r2 =>
 bnd (By r0 r1 r2) fun r3 =>
 jn (fun (s2:Bool) =>
 if s2=true then (j0 s0.2)
 else (j0 s0.1))
 (fun j1=>if r3 < 0 then (j1 true)
 else (if r3=0 then (bnd (Gr r0 r1 r2) fun r4 =>
 j1 (!((r4) == (p2))))
 else (j1 false)))))))
 else (some (.inr s0.1))
noncomputable def Es (p0:List Ab) (p1:Int) (p2:Bool):Option Int :=
 jn (fun (s3:Int) =>
 some s3)
 (fun j3=>bnd (lfix (Gs p0 p1 p2) (-1,0)) fun t0 =>
 j3 t0)
noncomputable def Lq (p0:List Ab):Int->Option (Sum Int (Sum Unit Bool)):=fun s0 =>
 if s0 < ((((p0).length:Nat):Int)) then (bnd (idx p0 0) fun x0 =>
 bnd (idx p0 1) fun x1 =>
 bnd (idx p0 s0) fun x2 =>
 bnd (Aj (⟨x0.X,x0.Y,(⟨x0.Z.Lo,x0.Z.Hi⟩:Ak)⟩:Ab)) fun r0 =>
 bnd (Aj (⟨x1.X,x1.Y,(⟨x1.Z.Lo,x1.Z.Hi⟩:Ak)⟩:Ab)) fun r1 =>
 bnd (Aj (⟨x2.X,x2.Y,(⟨x2.Z.Lo,x2.Z.Hi⟩:Ak)⟩:Ab)) fun r2 =>
 bnd (By r0 r1 r2) fun r3 =>
 if r3=0 then (some (.inl (w64 (s0+1))))
 else (some (.inr (.inr (false)))))
 else (some (.inr (.inl ())))
noncomputable def Jx (p0:List Ab):Option Bool :=
 jn (fun (s2:Unit) =>
 some true)
 (fun j2=>bnd (lfix (Lq p0) 2) fun t0 =>
 (match t0 with
 | (.inl z0)=>j2 z0
 | (.inr (z0))=>some z0
 ))
set_option maxHeartbeats 1000000 in
set_option maxRecDepth 100000 in
instance lidarref06_between_c (p0:Ac) (p1:Ac) (p2:Ac):Con (Gr p0 p1 p2) Tryz.prog 180 (fun _ vs=>vs=[.agg #[.int .i64 (p0.X),.int .i64 (p0.Y)],.agg #[.int .i64 (p1.X),.int .i64 (p1.Y)],.agg #[.int .i64 (p2.X),.int .i64 (p2.Y)]]) (fun _ r=>fun v Ln=>v = .bool (r)/\Ln=[]/\True):=⟨by
 rintro _ _ r rfl hx w hK;unfold Gr at hx;refine CtS Tryz.ntmps180 Tryz.results180 ?_;try (refine pre ?_;intros;rename_i hx)
 refine Bw ?_;try (refine pre ?_;intros;rename_i hx)
 apply Jr (γ:=Unit) hx [] (fun s2 y2 f=>(6,.bool (s2))::f) [999] (fun s2 y2 l=>l);exact kk
 ·intro s2 y2 hx;exact au
 ·intro _ hx;try (refine pre ?_;intros;rename_i hx)
  refine Cq1 (s:=12) hx rfl (fun _ hx=>?_) (fun _ hx=>?_)
  ·exact au
  ·exact au⟩
set_option maxHeartbeats 1000000 in
set_option maxRecDepth 100000 in
instance lidarref06_vertices_c (p0:List Ab):Con (Ga p0) Tryz.prog 109 (fun K vs=>∃ (A0_0:Option Addr) (c0_0:Nat),vs=[.slice (A0_0) ((p0).length) (c0_0)]/\Has K A0_0 (p0).length c0_0 4 Ah (p0)/\True) (fun _ r=>fun v Ln=>v = .int .i64 (r)/\Ln=[]/\True):=⟨by
 rintro K _ r ⟨A0_0,c0_0,rfl,ha0,-⟩ hx w hK;replace ha0:=Has.lo ha0 hK;unfold Ga at hx;have:=dl 15 [0,0,0,0,1,0,0,0,0,1,0,0,0,0,0,0,1,0,0,0,0,1,0,0] [0,1,2,3,4,5,6,7,8,9,10,11,12,13,14,15,16,17,18,19,20,21,22,23];refine CtS Tryz.ntmps109 Tryz.results109 ?_;try (refine pre ?_;intros;rename_i hx)
 refine Cq1 (s:=8) hx rfl (fun _ hx=>?_) (fun _ hx=>?_)
 ·exact au
 ·try (refine pre ?_;intros;rename_i hx)
  apply Jr (γ:=Unit) hx [0] (fun s5 y5 f=>f) [999] (fun s5 y5 l=>l);exact kk
  ·intro s5 y5 hx;apply Jr (γ:=Unit) hx [] (fun s19 y19 f=>f) [999] (fun s19 y19 l=>l);exact kk
   ·intro s19 y19 hx;exact au
   ·intro _ hx;try (refine pre ?_;intros;rename_i hx)
    apply Lr (γ:=Unit) hx [0,22] (fun s166 y166 f=>(23,.int .i64 (s166))::f) [999] (fun s166 y166 l=>l) ();exact kk;exact sk;intro s166 y166 x166 hx _;unfold Dg at hx
    try (refine pre ?_;intros;rename_i hx)
    refine Cq1 (s:=24) hx rfl (fun _ hx=>?_) (fun _ hx=>?_)
    ·try (refine pre ?_;intros;rename_i hx)
     apply Jr (γ:=Unit) hx [0,22,23] (fun s38 y38 f=>f) [999] (fun s38 y38 l=>l);exact kk
     ·intro s38 y38 hx;exact au
     ·intro _ hx;try (refine pre ?_;intros;rename_i hx)
      apply Lr (γ:=Unit) hx [0,4,22,23] (fun s226 y226 f=>(5,.int .i64 (s226))::f) [999] (fun s226 y226 l=>l) ();exact kk;exact sk;intro s226 y226 x226 hx _;unfold Ez at hx
      exact au
    ·exact au
  ·intro _ hx;try (refine pre ?_;intros;rename_i hx)
   apply Lr (γ:=Unit) hx [0,10] (fun s25 y25 f=>(11,.int .i64 (s25))::f) [999] (fun s25 y25 l=>l) ();exact kk;exact sk;intro s25 y25 x25 hx _;unfold Ds at hx
   exact au⟩
set_option maxHeartbeats 1000000 in
set_option maxRecDepth 100000 in
instance lidarref06_first_c (p0:List Ab):Con (Is p0) Tryz.prog 112 (fun K vs=>∃ (A0_0:Option Addr) (c0_0:Nat),vs=[.slice (A0_0) ((p0).length) (c0_0)]/\Has K A0_0 (p0).length c0_0 4 Ah (p0)/\True) (fun _ r=>fun v Ln=>v = .int .i64 (r)/\Ln=[]/\True):=⟨by
 rintro K _ r ⟨A0_0,c0_0,rfl,ha0,-⟩ hx w hK;replace ha0:=Has.lo ha0 hK;unfold Is at hx;have:=dl 5 [0,0,0,1,2,0,0,0,1,2,2] [0,1,2,3,5,6,7,8,4,9,10];refine CtS Tryz.ntmps112 Tryz.results112 ?_;try (refine pre ?_;intros;rename_i hx)
 refine Bw ?_;try (refine pre ?_;intros;rename_i hx)
 refine Bw ?_;try (refine pre ?_;intros;rename_i hx)
 apply Jr (γ:=Unit) hx [] (fun s3 y3 f=>(3,.int .i64 (s3))::f) [999] (fun s3 y3 l=>l);exact kk
 ·intro s3 y3 hx;exact au
 ·intro _ hx;try (refine pre ?_;intros;rename_i hx)
  apply Lr (γ:=Unit) hx [0,6] (fun s0 y0 f=>(3,.int .i64 (s0.1))::(7,.int .i64 (s0.2))::f) [999] (fun s0 y0 l=>l) ();exact kk;exact sk;intro s0 y0 x0 hx _;unfold Kr at hx
  exact au⟩
set_option maxHeartbeats 1000000 in
set_option maxRecDepth 100000 in
instance lidarref06_hull_c (p0:List Ab) (p1:Int) (p2:Bool):Con (Es p0 p1 p2) Tryz.prog 113 (fun K vs=>∃ (A0_0:Option Addr) (c0_0:Nat),vs=[.slice (A0_0) ((p0).length) (c0_0),.int .i64 (p1),.bool (p2)]/\Has K A0_0 (p0).length c0_0 4 Ah (p0)/\True) (fun _ r=>fun v Ln=>v = .int .i64 (r)/\Ln=[]/\True):=⟨by
 rintro K _ r ⟨A0_0,c0_0,rfl,ha0,-⟩ hx w hK;replace ha0:=Has.lo ha0 hK;unfold Es at hx;have:=dl 8 [0,0,0,1,2,0,0,0,1,2,0,0,0,1,2,4,4,4,3,3,3] [0,1,2,3,5,6,7,8,10,11,12,13,4,9,14,15,16,17,18,19,20] [15,16,17];refine CtS Tryz.ntmps113 Tryz.results113 ?_;try (refine pre ?_;intros;rename_i hx)
 refine Bw ?_;try (refine pre ?_;intros;rename_i hx)
 refine Bw ?_;try (refine pre ?_;intros;rename_i hx)
 apply Jr (γ:=Unit) hx [] (fun s3 y3 f=>(7,.int .i64 (s3))::f) [999] (fun s3 y3 l=>l);exact kk
 ·intro s3 y3 hx;exact au
 ·intro _ hx;try (refine pre ?_;intros;rename_i hx)
  apply Lr (γ:=Unit) hx [0,1,2,14] (fun s0 y0 f=>(7,.int .i64 (s0.1))::(15,.int .i64 (s0.2))::f) [999] (fun s0 y0 l=>l) ();exact kk;exact sk;intro s0 y0 x0 hx _;unfold Gs at hx
  try (refine pre ?_;intros;rename_i hx)
  refine Cq1 (s:=16) hx rfl (fun _ hx=>?_) (fun _ hx=>?_)
  ·try (refine pre ?_;intros;rename_i hx)
   apply Jr (γ:=Unit) hx [0,1,2,14,15] (fun s1 y1 f=>(7,.int .i64 (s1))::f) [999] (fun s1 y1 l=>l);exact kk
   ·intro s1 y1 hx;exact au
   ·intro _ hx;try (refine pre ?_;intros;rename_i hx)
    refine Cq1 (s:=20) hx rfl (fun _ hx=>?_) (fun _ hx=>?_)
    ·exact au
    ·try (refine pre ?_;intros;rename_i hx)
     refine Cq1 (s:=22) hx rfl (fun _ hx=>?_) (fun _ hx=>?_)
     ·exact au
     ·try (refine pre ?_;intros;rename_i hx)
      apply Jr (γ:=Unit) hx [0,1,2,7,8,14,15] (fun s2 y2 f=>(56,.bool (s2))::f) [999] (fun s2 y2 l=>l);exact kk
      ·intro s2 y2 hx;exact au
      ·intro _ hx;exact au
  ·exact au⟩
set_option maxHeartbeats 1000000 in
set_option maxRecDepth 100000 in
instance lidarref06_flat_c (p0:List Ab):Con (Jx p0) Tryz.prog 111 (fun K vs=>∃ (A0_0:Option Addr) (c0_0:Nat),vs=[.slice (A0_0) ((p0).length) (c0_0)]/\Has K A0_0 (p0).length c0_0 4 Ah (p0)/\True) (fun _ r=>fun v Ln=>v = .bool (r)/\Ln=[]/\True):=⟨by
 rintro K _ r ⟨A0_0,c0_0,rfl,ha0,-⟩ hx w hK;replace ha0:=Has.lo ha0 hK;unfold Jx at hx;have:=dl 4 [0,0,1,2,0,0,1,2,0,0,0,1,2,2,0] [0,1,2,4,5,6,8,9,10,11,3,7,12,13,14];refine CtS Tryz.ntmps111 Tryz.results111 ?_;try (refine pre ?_;intros;rename_i hx)
 refine Bw ?_;try (refine pre ?_;intros;rename_i hx)
 apply Jr (γ:=Unit) hx [] (fun s2 y2 f=>f) [999] (fun s2 y2 l=>l);exact kk
 ·intro s2 y2 hx;exact au
 ·intro _ hx;try (refine pre ?_;intros;rename_i hx)
  apply Lr (γ:=Unit) hx [0] (fun s0 y0 f=>(3,.int .i64 (s0))::f) [999] (fun s0 y0 l=>l) ();exact kk;exact sk;intro s0 y0 x0 hx _;unfold Lq at hx
  exact au⟩
end Go.Proofs.YtjfndjmabhbicaaGreat
