/- The mesh of vertices without lines. -/
import Derived.Test.YtjfndjmabhbicaaGreatL7
import Derived.Test.YtjfndjmabhbicaaGreatEs
import Derived.Test.YtjfndjmabhbicaaGreatK4
namespace Go.Proofs.YtjfndjmabhbicaaGreat
open Go Go.RowKit
variable {v:List Ab} {l:List Int}
theorem Asg (hv:Bu v) (hn:v.length<=1024) (hr:Nv v l) (F:List (Aa × Bool)) :
  ∃ m,Kf ⟨v,[],F⟩ l=some ⟨v,m,F⟩/\((Xf v/\m=[])\/(¬ Xf v/\MapN v.length m/\Tri (plV v) (inN v.length) (apM m)/\Cov (plV v) (inN v.length) (apM m)/\m≠[])):=by
 have hlen:=hr.len
 obtain ⟨n0,h1,h2,h3,h4,h5⟩:=Bai hv hn hr ⟨v,[],F⟩ rfl
 unfold Kf
 rw[jn_d,h1,Ad]
 dsimp only
 by_cases c:l.length<=n0
 ·rw[if_pos (by omega)]
  refine ⟨[],rfl,.inl ⟨?_,rfl⟩⟩
  by_cases c2:2<=l.length
  ·-- all on the line of the first two
   have g0:0 < l.length:=by omega
   have g1:1 < l.length:=by omega
   have on:∀ i,inN v.length i->crs (plV v l[0]) (plV v l[1]) (plV v i)=0:=fun i hi=>by
    obtain ⟨k,hk,rfl⟩:=List.getElem_of_mem (hr.val.2 hi)
    by_cases e0:k=0
    ·subst e0;exact Bp _ _
    ·by_cases e1:k=1
     ·subst e1;exact Bi _ _
     ·obtain ⟨_,_,_,g⟩:=h3 k (by omega) (by omega)
      exact g
   have hne:¬ Bt (plV v l[0]) (plV v l[1]):=fun e=>by
    have:=hr.lt g0 g1 (by omega)
    unfold befP Bt at *
    omega
   exact fun i j k hi hj hk=>Aea hne (on i hi) (on j hj) (on k hk)
  ·intro i j k hi hj hk
   unfold inN at hi hj hk
   have:i=j:=by omega
   subst this
   exact Va _ _
 ·rw[if_neg (by omega),jn_d]
  have g0:0 < l.length:=by omega
  have g1:1 < l.length:=by omega
  have gn:n0 < l.length:=by omega
  have off:=h4 g0 g1 gn
  have hne:¬ Bt (plV v l[0]) (plV v l[1]):=fun e=>by
   have:=hr.lt g0 g1 (by omega)
   unfold befP Bt at *
   omega
  have hf:Fan v l n0:=by
   refine ⟨h2,gn,fun i j k hi hj hk=>?_,off⟩
   have on:∀ i,Lx l n0 i->crs (plV v l[0]) (plV v l[1]) (plV v i)=0:=fun i hi=>by
    obtain ⟨k,hk,hk2,rfl⟩:=hi
    by_cases e0:k=0
    ·subst e0;exact Bp _ _
    ·by_cases e1:k=1
     ·subst e1;exact Bi _ _
     ·obtain ⟨_,_,_,g⟩:=h3 k (by omega) hk2
      exact g
   exact Aea hne (on i hi) (on j hj) (on k hk)
  obtain ⟨s1,s2⟩:=hf.swept hv hn hr
  rw[Baj hv hn hr hf,Ad]
  dsimp only
  rw[Be (by omega),gd_t ⟨by omega,by omega⟩]
  have ht:subl l (((n0+1:Nat):Int)) ((l.length:Nat):Int)=l.drop (n0+1):=by unfold subl;simp
  rw[ht]
  have:=Bl (B:=Ja l (n0:Int)) (fun s=>l.length-s.2.2.2.2.toNat) (fun s=>∃ (k:Nat) (m:Mp),n0+1<=k/\k<=l.length/\s=(v,m,F,l.drop (n0+1),((k-(n0+1):Nat):Int))/\Agk v l k m/\m≠[])
   (fun t=>∃ m:Mp,t=⟨v,m,F⟩/\Agk v l l.length m/\m≠[]) (fun s hs=>by
    obtain ⟨k,m,k1,k2,rfl,k3,k4⟩:=hs
    unfold Ja
    dsimp only
    rw[Be (by omega)]
    by_cases c2:k < l.length
    ·left
     obtain ⟨m',e1,e2,e3⟩:=k3.step hv hn hr (F:=F) c2
     have hi:idx (l.drop (n0+1)) (((k-(n0+1):Nat):Int))=some l[k]:=by
      rw[Bb (by rw[List.length_drop];omega),List.getElem_drop]
      congr 2
      omega
     rw[if_pos (by simp;omega),jn_d,hi,Ad]
     refine ⟨(v,m',F,l.drop (n0+1),((k+1-(n0+1):Nat):Int)),?_,⟨k+1,m',by omega,by omega,rfl,e2,e3 k4⟩,by dsimp only;omega⟩
     obtain ⟨r,hr1,hr2⟩:=Ar e1
     obtain ⟨t,ht1,ht2⟩:=Ar hr2
     cases ht2
     rw[hr1,Ad,ht1,Ad,Be (by omega),show k-(n0+1)+1=k+1-(n0+1) by omega]
    ·right
     rw[if_neg (by simp;omega)]
     have:k=l.length:=by omega
     subst this
     exact ⟨_,rfl,m,rfl,k3,k4⟩) (v,putAll [] (l.getD n0 0) (fanL v l n0 (n0-1)),F,l.drop (n0+1),0) ⟨n0+1,_,by omega,by omega,by simp,s1,s2⟩
  obtain ⟨t,e1,m,rfl,e2,e3⟩:=this
  rw[e1,Ad]
  refine ⟨m,rfl,.inr ⟨fun hfl=>?_,e2.map,e2.tri,fun i j k hk hnn d hd=>?_,e3⟩⟩
  ·exact off (hfl _ _ _ (hr.val.1 (List.getElem_mem g0)) (hr.val.1 (List.getElem_mem g1)) (hr.val.1 (List.getElem_mem gn)))
  ·obtain ⟨j',hj',rfl⟩:=List.getElem_of_mem (hr.val.2 hd)
   exact e2.cov _ _ _ hk hnn _ ⟨j',hj',hj',rfl⟩
def Del (v:List Ab) (a b c:Int):Prop:=inN v.length a/\inN v.length b/\inN v.length c/\0 < crs (plV v a) (plV v b) (plV v c)/\∀ d,inN v.length d->d≠a->d≠b->d≠c->DH (plV v) (hV v) a b c d < 0
theorem Del.rot {a b c:Int} (h:Del v a b c):Del v b c a:=by
 obtain ⟨h1,h2,h3,h4,h5⟩:=h
 exact ⟨h2,h3,h1,by rw[An];exact h4,fun d hd n1 n2 n3=>by rw[Pj];exact h5 d hd n3 n1 n2⟩
structure Aj0 (v:List Ab) (T:List Ae):Prop where
 ord:T.Pairwise fun x y=>¬ cmp3 y x < 0
 nd:T.Nodup
 mem:∀ t,t∈T↔t.a0 < t.a1/\t.a0 < t.a2/\Del v t.a0 t.a1 t.a2
theorem Aj0.unique {T T':List Ae} (h:Aj0 v T) (h':Aj0 v T'):T=T' :=
 Ut tot3 (fun _ _=>trivial) h.ord h'.ord ((List.perm_ext_iff_of_nodup h.nd h'.nd).2 fun t=>(h.mem t).trans (h'.mem t).symm)
theorem Aj1 (hv:Bu v) {m:Mp} (hm:MapN v.length m) (ht:Tri (plV v) (inN v.length) (apM m)) (hc:Cov (plV v) (inN v.length) (apM m)) (hl:∀ i j k l,apM m i j=some k->apM m j i=some l->DH (plV v) (hV v) i j k l < 0) (hne:m≠[]) (a b c:Int) :
  apM m a b=some c↔Del v a b c:=by
 have mem:∀ a b c:Int,(a,b,c)∈(m.map fun q=>(q.1.a0,q.1.a1,q.2))↔apM m a b=some c:=fun a b c=>by
  rw[List.mem_map]
  constructor
  ·rintro ⟨⟨⟨x,y⟩,z⟩,hq,e⟩
   cases e
   exact Mf hm.ok hq
  ·intro h
   exact ⟨(⟨a,b⟩,c),Ed h,rfl⟩
 have hX:Aao (plV v) (m.map fun q=>(q.1.a0,q.1.a1,q.2)):=⟨fun a b c h=>(mem _ _ _).2 (ht.rot _ _ _ ((mem _ _ _).1 h)),fun a b c h=>(ht.ccw _ _ _ ((mem _ _ _).1 h)).2.2.2⟩
 have twin:∀ a b c,apM m a b=some c->∀ d,inN v.length d->crs (plV v a) (plV v b) (plV v d) < 0->∃ e,apM m b a=some e:=fun a b c h d hd hlt=>by
  rcases e:apM m b a with _ | x
  ·have:=hc a b c h e d hd;omega
  ·exact ⟨x,rfl⟩
 have G:=global (H:=hV v) (V:=inN v.length) hX (fun a b c h d hd n1 n2 n3=>ht.emp _ _ _ ((mem _ _ _).1 h) d hd n1 n2 n3) (fun a b c h d hd hlt=>by
  obtain ⟨e,he⟩:=twin a b c ((mem _ _ _).1 h) d hd hlt
  exact ⟨e,(mem _ _ _).2 he,hl _ _ _ _ ((mem _ _ _).1 h) he⟩)
 constructor
 ·intro h
  obtain ⟨k1,k2,k3,k4⟩:=ht.ccw _ _ _ h
  exact ⟨k1,k2,k3,k4,G a b c ((mem _ _ _).2 h)⟩
 ·rintro ⟨k1,k2,k3,k4,k5⟩
  refine (mem _ _ _).1 (Afj (H:=hV v) (V:=inN v.length) hX (fun a b c h=>?_) G (fun a b c h d hd hlt=>?_) ?_ k1 k2 k3 k4 k5)
  ·obtain ⟨q1,q2,q3,_⟩:=ht.ccw _ _ _ ((mem _ _ _).1 h)
   exact ⟨q1,q2,q3⟩
  ·obtain ⟨e,he⟩:=twin a b c ((mem _ _ _).1 h) d hd hlt
   exact ⟨e,(mem _ _ _).2 he⟩
  ·intro e
   rw[List.map_eq_nil_iff] at e
   exact hne e
theorem Avf {m:Mp} (hm:MapN v.length m) (h:∀ a b c,apM m a b=some c↔Del v a b c):Aj0 v (Au cmp3 (m.flatMap triF)):=by
 have memt:∀ t:Ae,t∈m.flatMap triF↔t.a0 < t.a1/\t.a0 < t.a2/\Del v t.a0 t.a1 t.a2:=fun t=>by
  rw[List.mem_flatMap]
  constructor
  ·rintro ⟨⟨⟨a,b⟩,c⟩,hq,ht⟩
   unfold triF at ht
   split at ht
   ·rename_i hlt
    rw[List.mem_singleton] at ht
    subst ht
    exact ⟨hlt.1,hlt.2,(h _ _ _).1 (Mf hm.ok hq)⟩
   ·cases ht
  ·rintro ⟨h1,h2,h3⟩
   refine ⟨(⟨t.a0,t.a1⟩,t.a2),Ed ((h _ _ _).2 h3),?_⟩
   unfold triF
   rw[if_pos ⟨h1,h2⟩]
   exact List.mem_singleton.2 rfl
 refine ⟨Jb tot3 (fun _ _=>trivial),(Cz _ _).nodup_iff.2 ?_,fun t=>by rw[Ga,memt]⟩
 have:∀ l:Mp,Dx l->(l.flatMap triF).Nodup:=by
  intro l
  induction l with
  | nil=>intro _;exact List.Pairwise.nil
  | cons q r ih=>
   intro hl
   obtain ⟨h1,h2⟩:=List.pairwise_cons.1 hl
   rw[List.flatMap_cons,List.nodup_append]
   refine ⟨?_,ih h2,fun x hx y hy e=>?_⟩
   ·unfold triF
    split
    ·simp
    ·exact List.Pairwise.nil
   ·subst e
    obtain ⟨q',hq',hy⟩:=List.mem_flatMap.1 hy
    have key:∀ q:Aa × Int,x∈triF q->q.1=⟨x.a0,x.a1⟩:=fun q hq=>by
     unfold triF at hq
     split at hq
     ·rw[List.mem_singleton] at hq
      subst hq
      rfl
     ·cases hq
    exact h1 q' hq' (by rw[key _ hx,key _ hy])
 exact this m hm.ok
theorem Qr {β γ:Type} (N:Nat) (hN:N<=1000000000) (p:Nat->Bool) (B:Int->Option (Sum Int (Sum β γ))) (u:β) (w:γ) (h1:∀ k:Nat,k < N->B (k:Int)=if p k=true then some (.inr (.inr w)) else some (.inl ((k+1:Nat):Int)))
  (h2:B (N:Int)=some (.inr (.inl u))):lfix B 0=some (if (List.range N).any p then .inr w else .inl u):=by
 have key:∀ j k,j+k=N->lfix B (k:Int)=some (if ((List.range N).drop k).any p then .inr w else .inl u):=by
  intro j
  induction j with
  | zero=>
   intro k hk
   rw[Bk,show k=N by omega,h2,List.drop_eq_nil_of_le (by simp)]
   rfl
  | succ j ih=>
   intro k hk
   rw[Bk,h1 k (by omega),List.drop_eq_getElem_cons (by simp;omega),List.any_cons,List.getElem_range]
   by_cases c:p k=true
   ·rw[if_pos c,c];rfl
   ·rw[if_neg c]
    rw[Bool.not_eq_true] at c
    rw[c,Bool.false_or]
    exact ih (k+1) (by omega)
 have:=key N 0 (by omega)
 rwa [List.drop_zero] at this
def pP (x:Ab):Ac:=⟨x.X,x.Y⟩
def La (x:Ab):Prop:=okP (pP x)/\-268435456<=x.Z.Lo/\x.Z.Lo<=x.Z.Hi/\x.Z.Hi<=268435456
instance (x:Ab):Decidable (La x):=by unfold La;infer_instance
theorem Zz {v:List Ab} {k:Nat} (hk:k < v.length):plV v (k:Int)=pP v[k]:=by unfold plV;rw[Bb hk];rfl
theorem Ah9 (x:Ab):Uo x=some (decide (La x)):=by
 unfold Uo Cu
 rw[Ad,Ad,Ad,An6,Ad,jn_d]
 unfold Tq
 by_cases h:okP (⟨x.X,x.Y⟩:Ac)
 ·simp only[h,and_self,if_true]
  rw[jn_d]
  by_cases h1:-1152921504606846976<=x.Z.Lo
  ·rw[if_pos h1]
   by_cases h2:x.Z.Lo<=x.Z.Hi
   ·rw[if_pos h2]
    by_cases h3:x.Z.Hi<=1152921504606846976
    ·rw[decide_eq_true h3,Ad,if_pos rfl]
     by_cases h4:-268435456<=x.Z.Lo
     ·rw[if_pos h4]
      congr 1
      rw[Bool.eq_iff_iff,decide_eq_true_eq,decide_eq_true_eq]
      unfold La pP
      exact ⟨fun g=>⟨h,h4,h2,g⟩,fun g=>g.2.2.2⟩
     ·rw[if_neg h4,decide_eq_false (fun g:La x=>h4 g.2.1)]
    ·rw[decide_eq_false h3,Ad,if_neg (by simp),decide_eq_false (fun g:La x=>h3 (by have:=g.2.2.2;omega))]
   ·rw[if_neg h2,Ad,if_neg (by simp),decide_eq_false (fun g:La x=>h2 g.2.2.1)]
  ·rw[if_neg h1,Ad,if_neg (by simp),decide_eq_false (fun g:La x=>h1 (by have:=g.2.1;omega))]
 ·simp only[h,false_and,if_false]
  rw[if_neg (by decide),decide_eq_false (fun g:La x=>h g.1)]
def Nw (v:List Ab):Int:=if 1024 < v.length then 2 else if ¬ (∀ x∈v,La x) then 60 else if ¬ Fj v then 61 else 0
theorem Qh {v:List Ab} (h:Nw v=0):v.length<=1024/\(∀ x∈v,La x)/\Bu v:=by
 unfold Nw at h
 split at h
 ·omega
 ·split at h
  ·omega
  ·split at h
   ·omega
   ·rename_i h1 h2 h3
    have h2:=Classical.not_not.1 h2
    have h3:=Classical.not_not.1 h3
    refine ⟨by omega,h2,fun i hi=>?_,fun i j hi hj hs=>?_⟩
    ·obtain ⟨k,hk,rfl,_⟩:=Ik (v:=v) (i:=i) hi
     rw[Zz hk]
     exact (h2 _ (List.getElem_mem hk)).1
    ·obtain ⟨a,ha,rfl,_⟩:=Ik (v:=v) (i:=i) hi
     obtain ⟨b,hb,rfl,_⟩:=Ik (v:=v) (i:=j) hj
     rw[Zz ha,Zz hb] at hs
     unfold Fj at h3
     rw[List.pairwise_iff_getElem] at h3
     rcases Nat.lt_trichotomy a b with c | c | c
     ·exact absurd hs (h3 a b ha hb c)
     ·rw[c]
     ·exact absurd ⟨hs.1.symm,hs.2.symm⟩ (h3 b a hb ha c)
theorem Adq {v:List Ab}:((List.range v.length).any fun k=>!decide (La (v.getD k ⟨0,0,⟨0,0⟩⟩)))=true↔¬ ∀ x∈v,La x:=by
 rw[List.any_eq_true]
 constructor
 ·rintro ⟨k,hk,h⟩ hall
  rw[List.mem_range] at hk
  simp[hk] at h
  exact h (hall _ (List.getElem_mem hk))
 ·intro h
  apply Classical.byContradiction
  intro hno
  apply h
  intro x hx
  obtain ⟨k,hk,rfl⟩:=List.getElem_of_mem hx
  apply Classical.byContradiction
  intro hb
  exact hno ⟨k,List.mem_range.2 hk,by simp[hk,hb]⟩
theorem Aia {v:List Ab}:(∃ i j,∃ (hi:i < v.length) (hj:j < v.length),j < i/\Tt v[i] v[j])↔¬ Fj v:=by
 unfold Fj
 rw[List.pairwise_iff_getElem]
 constructor
 ·rintro ⟨i,j,hi,hj,hji,hs⟩ h
  exact h j i hj hi hji ⟨hs.1.symm,hs.2.symm⟩
 ·intro h
  apply Classical.byContradiction
  intro hno
  apply h
  intro i j hi hj hij hs
  exact hno ⟨j,i,hj,hi,hij,hs.1.symm,hs.2.symm⟩
theorem Ayc {v:List Ab} (c:v.length<=1024):lfix (Jl v) 0=some (if ((List.range v.length).any fun k=>!decide (La (v.getD k ⟨0,0,⟨0,0⟩⟩)))=true then .inr 60 else .inl ()):=by
 refine Qr v.length (by omega) (fun k=>!decide (La (v.getD k ⟨0,0,⟨0,0⟩⟩))) (Jl v) () 60 (fun k hk=>?_) ?_
 ·unfold Jl
  rw[if_pos (by omega),Bb hk,Ad,Ah9,Ad,Be (by omega)]
  have e:v.getD k ⟨0,0,⟨0,0⟩⟩=v[k]:=by simp[hk]
  rw[e]
  by_cases g:La v[k]
  ·simp[g]
  ·simp[g]
 ·unfold Jl
  rw[if_neg (by omega)]
theorem Aj2 (v:List Ab):Pn v=some (Nw v):=by
 unfold Pn Nw
 by_cases c:1024 < v.length
 ·rw[if_pos (by omega),if_pos c]
 ·rw[if_neg (by omega),if_neg c,jn_d]
  rw[Ayc (by omega),Ad]
  ·by_cases h:∀ x∈v,La x
   ·rw[if_neg (fun g=>Adq.1 g h),if_neg (not_not_intro h)]
    dsimp only
    rw[jn_d]
    have hL:=Bl (B:=Od v) (fun s=>v.length-s.2.toNat) (fun s=>∃ k:Nat,k<=v.length/\s.2=(k:Int)/\Dx s.1/\s.1.length<=k/\(∀ x,(mget s.1 x).getD false=true↔∃ (j:Nat) (hj:j < v.length),j < k/\pP v[j]=x)/\∀ i j (hi:i < v.length) (hj:j < v.length),i < k->j < i->¬ Tt v[i] v[j])
     (fun t=>t=if ¬ Fj v then .inr 61 else .inl ()) (fun s hs=>by
      obtain ⟨m,k⟩:=s
      obtain ⟨k,h1,rfl,h2,h3,h4,h5⟩:=hs
      simp only at h1 h2 h3 h4
      unfold Od
      dsimp only
      by_cases hk:k < v.length
      ·have hg:=(h _ (List.getElem_mem hk)).1
       have hr:(-9223372036854775808<=v[k].X/\v[k].X<=9223372036854775807)/\-9223372036854775808<=v[k].Y/\v[k].Y<=9223372036854775807:=by
        unfold okP pP at hg
        simp only at hg
        omega
       unfold Cu
       rw[if_pos (by omega),Bb hk,Ad,Ad,gd_t hr,Ad]
       have e4:=h4 (⟨v[k].X,v[k].Y⟩:Ac)
       by_cases hd:(mget m (⟨v[k].X,v[k].Y⟩:Ac)).getD false=true
       ·right
        rw[if_pos hd]
        obtain ⟨j,hj,hjk,he⟩:=e4.1 hd
        refine ⟨_,rfl,?_⟩
        rw[if_pos]
        refine Aia.1 ⟨k,j,hk,hj,hjk,?_⟩
        unfold pP at he
        simp at he
        exact ⟨he.1.symm,he.2.symm⟩
       ·left
        rw[if_neg hd,Ad,gd_t hr,gd_t (by omega),Be (by omega)]
        refine ⟨_,rfl,⟨k+1,hk,rfl,h2.put _ _,?_,fun x=>?_,fun i j hi hj hik hji=>?_⟩,by dsimp only;omega⟩
        ·dsimp only
         unfold mput mdel
         rw[List.length_cons]
         refine Nat.succ_le_succ (Nat.le_trans (List.length_filter_le _ m) h3)
        ·dsimp only
         rw[Po h2]
         by_cases hx:x=⟨v[k].X,v[k].Y⟩
         ·rw[if_pos hx]
          simp only[Option.getD_some,true_iff]
          exact ⟨k,hk,by omega,hx.symm⟩
         ·rw[if_neg hx,h4]
          constructor
          ·rintro ⟨j,hj,h6,h7⟩;exact ⟨j,hj,by omega,h7⟩
          ·rintro ⟨j,hj,h6,h7⟩
           refine ⟨j,hj,?_,h7⟩
           by_cases e:j=k
           ·subst e;exact absurd h7.symm hx
           ·omega
        ·by_cases e:i=k
         ·subst e
          intro hs
          exact hd (e4.2 ⟨j,hj,hji,by unfold pP;rw[hs.1,hs.2]⟩)
         ·exact h5 i j hi hj (by omega) hji
      ·right
       rw[if_neg (by omega)]
       refine ⟨_,rfl,?_⟩
       rw[if_neg]
       intro hno
       obtain ⟨i,j,hi,hj,hji,hs⟩:=Aia.2 hno
       exact h5 i j hi hj (by omega) hji hs) ([],0) ⟨0,by omega,rfl,List.Pairwise.nil,by simp,fun x=>by simp[mget],fun i j hi hj h1=>by omega⟩
    obtain ⟨t,h1,rfl⟩:=hL
    rw[h1,Ad]
    by_cases hd:Fj v
    ·rw[if_neg (not_not_intro hd),if_neg (not_not_intro hd)]
    ·rw[if_pos hd,if_pos hd]
   ·rw[if_pos (Adq.2 h),if_pos h]
theorem Adj (x:Ab):Fy x=some (decide (La x)):=by
 unfold Fy Aj
 rw[jn_d,Ad,Avo,Ad]
 by_cases h:okP (⟨x.X,x.Y⟩:Ac)
 ·rw[decide_eq_true h,if_pos rfl]
  by_cases h1:-268435456<=x.Z.Lo
  ·rw[if_pos h1]
   by_cases h2:x.Z.Lo<=x.Z.Hi
   ·rw[if_pos h2]
    congr 1
    rw[Bool.eq_iff_iff,decide_eq_true_eq,decide_eq_true_eq]
    exact ⟨fun g=>⟨h,h1,h2,g⟩,fun g=>g.2.2.2⟩
   ·rw[if_neg h2,decide_eq_false (fun g:La x=>h2 g.2.2.1)]
  ·rw[if_neg h1,decide_eq_false (fun g:La x=>h1 g.2.1)]
 ·rw[decide_eq_false h,if_neg (by simp),decide_eq_false (fun g:La x=>h g.1)]
theorem Avg {v:List Ab} (c:v.length<=1024):lfix (Eb v) 0=some (if ((List.range v.length).any fun k=>!decide (La (v.getD k ⟨0,0,⟨0,0⟩⟩)))=true then .inr 60 else .inl ()):=by
 refine Qr v.length (by omega) (fun k=>!decide (La (v.getD k ⟨0,0,⟨0,0⟩⟩))) (Eb v) () 60 (fun k hk=>?_) ?_
 ·unfold Eb
  rw[if_pos (by omega),Bb hk,Ad,Adj,Ad,Be (by omega)]
  have e:v.getD k ⟨0,0,⟨0,0⟩⟩=v[k]:=by simp[hk]
  rw[e]
  by_cases g:La v[k]
  ·simp[g]
  ·simp[g]
 ·unfold Eb
  rw[if_neg (by omega)]
theorem Wu (v:List Ab):Il v=some (Nw v):=by
 unfold Il Nw
 by_cases c:1024 < v.length
 ·rw[if_pos (by omega),if_pos c]
 ·rw[if_neg (by omega),if_neg c,jn_d]
  rw[Avg (by omega),Ad]
  ·by_cases h:∀ x∈v,La x
   ·rw[if_neg (fun g=>Adq.1 g h),if_neg (not_not_intro h)]
    dsimp only
    rw[jn_d]
    have hin:∀ i (hi:i < v.length),lfix (Fk (i:Int) v) 0=some (if (List.range i).any (fun j=>decide (Tt v[i] (v.getD j ⟨0,0,⟨0,0⟩⟩))) then .inr 61 else .inl ()):=fun i hi=>by
     refine Qr i (by omega) _ _ () 61 (fun k hk=>?_) ?_
     ·unfold Fk
      have e:v.getD k ⟨0,0,⟨0,0⟩⟩=v[k]'(by omega):=by simp[show k < v.length by omega]
      rw[if_pos (by omega),jn_d,Bb hi,Ad,Bb (show k < v.length by omega),Ad,Be (by omega),e]
      unfold Tt
      by_cases g1:v[i].X=v[k].X
      ·rw[if_pos g1,Ad,Ad]
       by_cases g2:v[i].Y=v[k].Y
       ·simp[g1,g2]
       ·simp[g2]
      ·rw[if_neg g1]
       simp[g1]
     ·unfold Fk
      rw[if_neg (by omega)]
    have hout:lfix (Dm v) 0=some (if ((List.range v.length).any fun i=>(List.range i).any fun j=>decide (Tt (v.getD i ⟨0,0,⟨0,0⟩⟩) (v.getD j ⟨0,0,⟨0,0⟩⟩)))=true then .inr 61 else .inl ()):=by
     refine Qr v.length (by omega) (fun i=>(List.range i).any fun j=>decide (Tt (v.getD i ⟨0,0,⟨0,0⟩⟩) (v.getD j ⟨0,0,⟨0,0⟩⟩))) (Dm v) () 61 (fun i hi=>?_) ?_
     ·unfold Dm
      have e:v.getD i ⟨0,0,⟨0,0⟩⟩=v[i]:=by simp[hi]
      rw[if_pos (by omega),jn_d,hin i hi,Ad,Be (by omega),e]
      by_cases g:((List.range i).any fun j=>decide (Tt v[i] (v.getD j ⟨0,0,⟨0,0⟩⟩)))=true
      ·rw[if_pos g,if_pos g]
      ·rw[if_neg g,if_neg g]
     ·unfold Dm
      rw[if_neg (by omega)]
    rw[hout,Ad]
    ·have hd:((List.range v.length).any fun i=>(List.range i).any fun j=>decide (Tt (v.getD i ⟨0,0,⟨0,0⟩⟩) (v.getD j ⟨0,0,⟨0,0⟩⟩)))=true↔¬ Fj v:=by
      rw[<- Aia,List.any_eq_true]
      constructor
      ·rintro ⟨i,hi,hj⟩
       rw[List.any_eq_true] at hj
       obtain ⟨j,hj,hs⟩:=hj
       rw[List.mem_range] at hi hj
       rw[decide_eq_true_eq] at hs
       refine ⟨i,j,hi,by omega,hj,?_⟩
       simpa[hi,show j < v.length by omega] using hs
      ·rintro ⟨i,j,hi,hj,hji,hs⟩
       refine ⟨i,List.mem_range.2 hi,?_⟩
       rw[List.any_eq_true]
       exact ⟨j,List.mem_range.2 hji,by simpa[hi,hj] using hs⟩
     by_cases g:Fj v
     ·rw[if_neg (fun q=>hd.1 q g),if_neg (not_not_intro g)]
     ·rw[if_pos (hd.2 g),if_pos g]
   ·rw[if_pos (Adq.2 h),if_pos h]
def Box (p q k:Ac):Prop:=min p.X q.X<=k.X/\k.X<=max p.X q.X/\min p.Y q.Y<=k.Y/\k.Y<=max p.Y q.Y
instance (p q k:Ac):Decidable (Box p q k):=by unfold Box;infer_instance
def lexA:Int:=2147483648
theorem Ash {p q:Ac} (hp:okP p) (hq:okP q):ph lexA 1 p < ph lexA 1 q↔befP p q:=by unfold ph lexA okP befP at *;omega
theorem mid {a b c d:Int} (h0:0 < a) (h1:0<=b) (h2:b<=a) (h:a*c=d*b):(0<=d->0<=c/\c<=d)/\(d<=0->d<=c/\c<=0):=by
 constructor
 ·intro hd
  have e1:=Int.mul_nonneg hd h1
  have e2:=Int.mul_nonneg hd (show 0<=a-b by omega)
  refine ⟨Rr h0 (by omega),?_⟩
  have:0<=d-c:=Rr h0 (by rw[Int.mul_sub] at *;rw[Int.mul_comm a d];omega)
  omega
 ·intro hd
  have e1:=Int.mul_nonneg (show 0<=-d by omega) h1
  have e2:=Int.mul_nonneg (show 0<=-d by omega) (show 0<=a-b by omega)
  rw[Int.neg_mul] at e1 e2
  rw[Int.mul_sub] at e2
  constructor
  ·have:0<=c-d:=Rr h0 (by rw[Int.mul_sub,Int.mul_comm a d];omega)
   omega
  ·have:0<=-c:=Rr h0 (by rw[Int.mul_neg];omega)
   omega
theorem Ank {p q k:Ac} (h:crs p q k=0) (h1:¬ befP k p) (h2:¬ befP q k):Box p q k:=by
 unfold befP at h1 h2
 unfold crs at h
 unfold Box
 by_cases e:p.X=q.X
 ·omega
 ·have:=mid (a:=q.X-p.X) (b:=k.X-p.X) (c:=k.Y-p.Y) (d:=q.Y-p.Y) (by omega) (by omega) (by omega) (by omega)
  rcases Int.le_total 0 (q.Y-p.Y) with g | g
  ·have:=this.1 g;omega
  ·have:=this.2 g;omega
theorem Box.swap {p q k:Ac} (h:Box p q k):Box q p k:=by unfold Box at *;omega
theorem Ayd {p q k:Ac} (h:crs p q k=0) (h1:¬ befP q p) (h2:befP q k) (h3:¬ Bt p q):¬ Box p q k:=by
 intro hb
 unfold befP Bt at *
 unfold Box at hb
 unfold crs at h
 by_cases e:p.X=q.X
 ·omega
 ·have hk:k.X=q.X:=by omega
  rw[hk] at h
  have:(q.X-p.X)*(k.Y-q.Y)=0:=by grind
  rcases Int.mul_eq_zero.1 this with g | g <;> omega
variable {v:List Ab}
theorem Lb (hv:Bu v) {i j:Int} (hi:inN v.length i) (hj:inN v.length j) (h:i≠j):¬ Bt (plV v i) (plV v j):=fun g=>h (hv.dist i j hi hj g)
theorem Aex (a b c:Ac):crs a c b = -crs a b c:=by unfold crs;grind
theorem Acu {p q r:Ac} (hp:okP p) (hq:okP q) (hr:okP r):Hb p q r=some (decide (crs p q r=0/\Box p q r)):=by
 unfold Hb
 rw[jn_d,Qs hp hq hr,Ad]
 have e:Int.sign (crs p q r)=0↔crs p q r=0:=Int.sign_eq_zero_iff_zero
 by_cases h:crs p q r=0
 ·rw[if_pos (e.2 h)]
  unfold Box
  by_cases h1:min p.X q.X<=r.X
  ·rw[if_pos h1]
   by_cases h2:r.X<=max p.X q.X
   ·rw[if_pos h2]
    by_cases h3:min p.Y q.Y<=r.Y
    ·rw[if_pos h3];simp[h,h1,h2,h3]
    ·rw[if_neg h3];simp[h3]
   ·rw[if_neg h2];simp[h2]
  ·rw[if_neg h1];simp[h1]
 ·rw[if_neg (fun g=>h (e.1 g))];simp[h]
theorem Aey (p q:Ac):Fz p q=some (decide (befP p q)):=by
 unfold Fz befP
 rw[jn_d]
 by_cases h1:p.X < q.X
 ·rw[if_pos h1];simp[h1]
 ·rw[if_neg h1]
  by_cases h2:p.X=q.X
  ·rw[if_pos h2];simp[h2]
  ·rw[if_neg h2];simp[h1,h2]
theorem Anl (p:Ac):¬ befP p p:=by unfold befP;omega
theorem Uy {p q:Ac} (h:befP p q):¬ befP q p:=by unfold befP at *;omega
theorem If {i:Int} (hi:inN v.length i):∃ x,idx v i=some x/\(⟨x.X,x.Y⟩:Ac)=plV v i:=by
 obtain ⟨k,hk,rfl,f⟩:=Ik (v:=v) (i:=i) hi
 exact ⟨v[k],f,by unfold plV;rw[f]⟩
theorem Asi (hn:v.length<=1024) {f:Int} (hf:inN v.length f) (low:∀ k,inN v.length k->k=f\/befP (plV v f) (plV v k)):Ly v=some f:=by
 unfold inN at hf
 unfold Ly
 rw[jn_d]
 have:=Bl (B:=Ls v) (fun s=>v.length-s.2.toNat) (fun s=>0<=s.2/\s.2<=(v.length:Int)/\inN v.length s.1/\(f < s.2->s.1=f)) (fun t=>t=f) (fun s hs=>by
  obtain ⟨b,k⟩:=s
  obtain ⟨h1,h2,h3,h4⟩:=hs
  simp only at h1 h2 h3 h4
  unfold Ls
  dsimp only
  by_cases hk:k < (v.length:Int)
  ·left
   obtain ⟨x,hx,px⟩:=If (v:=v) (i:=k) ⟨h1,hk⟩
   obtain ⟨y,hy,py⟩:=If (v:=v) (i:=b) h3
   rw[if_pos hk,jn_d,hx,Ad,hy,Ad]
   unfold Aj
   rw[Ad,Ad,px,py,Aey,Ad,Ay (by omega) (by omega)]
   by_cases c:befP (plV v k) (plV v b)
   ·rw[if_pos (decide_eq_true c)]
    refine ⟨_,rfl,⟨by dsimp only;omega,by dsimp only;omega,⟨h1,hk⟩,fun g=>?_⟩,by dsimp only;omega⟩
    dsimp only at g ⊢
    by_cases e:f < k
    ·rw[h4 e] at c
     rcases low k ⟨h1,hk⟩ with e2 | e2
     ·exact e2
     ·exact absurd c (Uy e2)
    ·omega
   ·rw[if_neg (by simpa using c)]
    refine ⟨_,rfl,⟨by dsimp only;omega,by dsimp only;omega,h3,fun g=>?_⟩,by dsimp only;omega⟩
    dsimp only at g ⊢
    by_cases e:f < k
    ·exact h4 e
    ·have:k=f:=by omega
     rcases low b h3 with e2 | e2
     ·exact e2
     ·rw[this] at c;exact absurd e2 c
  ·right
   rw[if_neg hk]
   exact ⟨_,rfl,h4 (by omega)⟩) (0,0) ⟨by simp,by simp,⟨by simp,by simp only;omega⟩,fun g=>by simp only at g;omega⟩
 obtain ⟨t,ht,rfl⟩:=this
 rw[ht,Ad]
theorem Anm (hv:Bu v) (hn:v.length<=1024):∃ b,Nh v=some b/\(b=true↔∀ k,2<=k->inN v.length k->crs (plV v 0) (plV v 1) (plV v k)=0):=by
 unfold Nh
 rw[jn_d]
 have:=Bl (B:=Mu v) (fun s=>v.length-s.toNat) (fun s=>2<=s/\∀ k,2<=k->k < s->inN v.length k->crs (plV v 0) (plV v 1) (plV v k)=0)
  (fun t=>(t = .inl ()/\∀ k,2<=k->inN v.length k->crs (plV v 0) (plV v 1) (plV v k)=0)\/(t = .inr false/\¬ ∀ k,2<=k->inN v.length k->crs (plV v 0) (plV v 1) (plV v k)=0)) (fun s hs=>by
  obtain ⟨h1,h2⟩:=hs
  unfold Mu
  by_cases hk:s < (v.length:Int)
  ·have hs':inN v.length s:=⟨by omega,hk⟩
   have h0':inN v.length 0:=⟨by omega,by omega⟩
   have h1':inN v.length 1:=⟨by omega,by omega⟩
   obtain ⟨x,hx,px⟩:=If (v:=v) h0'
   obtain ⟨y,hy,py⟩:=If (v:=v) h1'
   obtain ⟨z,hz,pz⟩:=If (v:=v) hs'
   rw[if_pos hk,hx,Ad,hy,Ad,hz,Ad]
   unfold Aj
   rw[Ad,Ad,Ad,px,py,pz,Qs (hv.ok _ h0') (hv.ok _ h1') (hv.ok _ hs'),Ad,Ay (by omega) (by omega)]
   have s0:Int.sign (crs (plV v 0) (plV v 1) (plV v s))=0↔crs (plV v 0) (plV v 1) (plV v s)=0:=Int.sign_eq_zero_iff_zero
   by_cases c:crs (plV v 0) (plV v 1) (plV v s)=0
   ·left
    rw[if_pos (s0.2 c)]
    refine ⟨_,rfl,⟨by omega,fun k k1 k2 k3=>?_⟩,by omega⟩
    by_cases e:k=s
    ·rw[e];exact c
    ·exact h2 k k1 (by omega) k3
   ·right
    rw[if_neg (fun g=>c (s0.1 g))]
    exact ⟨_,rfl,.inr ⟨rfl,fun g=>c (g s h1 hs')⟩⟩
  ·right
   rw[if_neg hk]
   exact ⟨_,rfl,.inl ⟨rfl,fun k k1 k2=>h2 k k1 (by have:=k2.2;omega) k2⟩⟩) 2 ⟨by omega,fun k k1 k2=>by omega⟩
 obtain ⟨t,ht,g | g⟩:=this
 ·obtain ⟨rfl,g⟩:=g
  rw[ht,Ad]
  exact ⟨true,rfl,fun _=>g,fun _=>rfl⟩
 ·obtain ⟨rfl,g⟩:=g
  rw[ht,Ad]
  exact ⟨false,rfl,fun h=>(by cases h),fun h=>absurd h g⟩
end Go.Proofs.YtjfndjmabhbicaaGreat
namespace Go.Proofs.YtjfndjmabhbicaaGreat
theorem Aj3 {m:Nat} {r:Nat->Nat} (hr:∀ t,r t < m):∃ B T,(∀ t,T<=t->B<=r t)/\∀ T',∃ t,T'<=t/\r t=B:=by
 have key:∀ n,(∃ T,∀ t,T<=t->n<=r t)\/∃ B T,(∀ t,T<=t->B<=r t)/\∀ T',∃ t,T'<=t/\r t=B:=by
  intro n
  induction n with
  | zero=>exact .inl ⟨0,fun t _=>Nat.zero_le _⟩
  | succ n ih=>
   rcases ih with ⟨T,hT⟩ | h
   ·by_cases c:∀ T',∃ t,T'<=t/\r t=n
    ·exact .inr ⟨n,T,hT,c⟩
    ·left
     obtain ⟨T',h'⟩:=Classical.not_forall.1 c
     refine ⟨max T T',fun t ht=>?_⟩
     have h1:=hT t (by omega)
     have h2:r t≠n:=fun e=>h' ⟨t,by omega,e⟩
     omega
   ·exact .inr h
 rcases key m with ⟨T,hT⟩ | h
 ·have:=hT T (Nat.le_refl _)
  have:=hr T
  omega
 ·exact h
theorem Axa {m : Nat} {s r : Nat -> Nat} (hw : ∀ t i, i < m -> ∃ t', t <= t' /\ t' < t + m /\ s t' = i) (hu : ∀ t t', t < t' -> t' < t + m -> s t ≠ s t') (hr : ∀ t, r t < m)
    (hc : ∀ t, r (t + 1) = r t \/ (s t = r t /\ r (t + 1) + 1 = r t) \/ (s t = r t + 1 /\ r (t + 1) = r t + 1)) :
    ∃ T B, (∀ t, T <= t -> B <= r t) /\ ∃ t, T <= t /\ r t = B /\ s t = B /\ r (t + 1) = B := by
  obtain ⟨B, T, h1, h2⟩ := Aj3 hr
  refine ⟨T, B, h1, ?_⟩
  have fin : ∀ t, T <= t -> r t = B -> s t = B -> r (t + 1) = B := fun t ht e1 e2 => by
    have := h1 (t + 1) (by omega)
    rcases hc t with g | g | g <;> omega
  by_cases c : ∃ T1, T <= T1 /\ ∀ t, T1 <= t -> r t = B
  · obtain ⟨T1, h3, h4⟩ := c
    have hB : B < m := by have := hr T1; have := h4 T1 (Nat.le_refl _); omega
    obtain ⟨t, g1, g2, g3⟩ := hw T1 B hB
    exact ⟨t, by omega, h4 t g1, g3, fin t (by omega) (h4 t g1) g3⟩
  · -- it leaves and comes back
    obtain ⟨t0, h3, h4⟩ := h2 T
    have hB : B < m := by have := hr t0; omega
    have leaves : ∃ t, T <= t /\ r t ≠ B := by
      refine Classical.byContradiction fun h => c ⟨T, Nat.le_refl _, fun t ht => ?_⟩
      exact Classical.byContradiction fun e => h ⟨t, ht, e⟩
    obtain ⟨ta, ha1, ha2⟩ := leaves
    obtain ⟨tb, hb1, hb2⟩ := h2 ta
    have first : ∀ n, (∀ k, k <= n -> r (ta + k) ≠ B) \/ ∃ t, ta <= t /\ r t ≠ B /\ r (t + 1) = B := by
      intro n
      induction n with
      | zero => exact .inl fun k hk => by have : k = 0 := by omega
                                          subst this; exact ha2
      | succ n ih=>
        rcases ih with h | h
        · by_cases e : r (ta + (n + 1)) = B
          · exact .inr ⟨ta + n, by omega, h n (Nat.le_refl _), e⟩
          · exact .inl fun k hk => by
              by_cases g : k = n + 1
              · rw[g]; exact e
              · exact h k (by omega)
        · exact .inr h
    rcases first (tb - ta) with h | ⟨t1, g1, g2, g3⟩
    · exact absurd (by rw[show ta + (tb - ta) = tb by omega]; exact hb2) (h (tb - ta) (Nat.le_refl _))
    · have hge := h1 t1 (by omega)
      have hs : s t1 = B + 1 := by rcases hc t1 with g | g | g <;> omega
      obtain ⟨t2, k1, k2, k3⟩ := hw (t1 + 1) B hB
      have low : ∀ n, (∀ k, k < n -> s (t1 + 1 + k) ≠ B) \/ ∃ k, k < n /\ s (t1 + 1 + k) = B /\ ∀ k', k' < k -> s (t1 + 1 + k') ≠ B := by
        intro n
        induction n with
        | zero => exact .inl fun k hk => by omega
        | succ n ih=>
          rcases ih with h | ⟨k, h5, h6, h7⟩
          · by_cases e : s (t1 + 1 + n) = B
            · exact .inr ⟨n, by omega, e, h⟩
            · exact .inl fun k hk => by
                by_cases g : k = n
                · rw[g]; exact e
                · exact h k (by omega)
          · exact .inr ⟨k, by omega, h6, h7⟩
      rcases low m with h | ⟨k, q1, q2, q3⟩
      · exact absurd (by rw[show t1 + 1 + (t2 - (t1 + 1)) = t2 by omega]; exact k3) (h (t2 - (t1 + 1)) (by omega))
      · -- up to then nothing changes
        have hk : k + 1 < m := by
          obtain ⟨t3, x1, x2, x3⟩ := hw t1 B hB
          have x4 : t3 ≠ t1 := fun e => by rw[e] at x3; omega
          have x5 : ¬ (t3 - (t1 + 1) < k) := fun g => q3 _ g (by rw[show t1 + 1 + (t3 - (t1 + 1)) = t3 by omega]; exact x3)
          omega
        have stay : ∀ n, n <= k -> r (t1 + 1 + n) = B := by
          intro n
          induction n with
          | zero => intro _; exact g3
          | succ n ih=>
            intro hn
            have e := ih (by omega)
            have n1 := q3 n (by omega)
            have n2 : s (t1 + 1 + n) ≠ B + 1 := fun g => hu t1 (t1 + 1 + n) (by omega) (by omega) (by rw[hs, g])
            have := hc (t1 + 1 + n)
            rw[show t1 + 1 + (n + 1) = t1 + 1 + n + 1 by omega]
            rcases this with g | g | g <;> omega
        exact ⟨t1 + 1 + k, by omega, stay k (Nat.le_refl _), q2, fin _ (by omega) (stay k (Nat.le_refl _)) q2⟩

structure Path (m:Nat) (j:Nat->Nat):Prop where
 start:j 0=0
 step:∀ i,i+1 < m->j (i+1)=j i\/j (i+1)=j i+1
theorem Path.mono {m : Nat} {j : Nat -> Nat} (h : Path m j) : ∀ a b, a <= b -> b < m -> j a <= j b := by
  intro a b
  induction b with
  | zero => intro h1 _; have : a = 0 := by omega
            subst this; exact Nat.le_refl _
  | succ b ih=>
    intro h1 h2
    by_cases e : a = b + 1
    · subst e; exact Nat.le_refl _
    · have := ih (by omega) (by omega)
      have := h.step b h2
      omega
theorem Path.le {m:Nat} {j:Nat->Nat} (h:Path m j):∀ i,i < m->j i<=i:=by
 intro i
 induction i with
 | zero=>intro _;rw[h.start];exact Nat.le_refl _
 | succ i ih=>
  intro hi
  have:=ih (by omega)
  have:=h.step i hi
  omega
def cop (j:Nat->Nat) (i:Nat):Nat:=i-j i
theorem Path.other {m:Nat} {j:Nat->Nat} (h:Path m j):Path m (cop j):=by
 refine ⟨by unfold cop;omega,fun i hi=>?_⟩
 have h1:=h.step i hi
 have h2:=h.le i (by omega)
 have h3:=h.le (i+1) hi
 unfold cop
 omega
def Move (m:Nat) (j j':Nat->Nat) (i:Nat):Prop :=
 (∀ k,k≠i->j' k=j k)/\(j' i=j i\/(0 < i/\i+1 < m/\j (i-1)=j i/\j (i+1)=j i+1/\j' i=j i+1)\/(0 < i/\i+1 < m/\j (i-1)+1=j i/\j (i+1)=j i/\j' i+1=j i))
theorem Move.other {m:Nat} {j j':Nat->Nat} {i:Nat} (hj:Path m j) (hi:i < m) (h:Move m j j' i):Move m (cop j) (cop j') i:=by
 obtain ⟨h1,h2⟩:=h
 have l1:=hj.le i hi
 refine ⟨fun k hk=>by unfold cop;rw[h1 k hk],?_⟩
 rcases h2 with g | ⟨g1,g2,g3,g4,g5⟩ | ⟨g1,g2,g3,g4,g5⟩
 ·exact .inl (by unfold cop;rw[g])
 ·have l2:=hj.le (i-1) (by omega)
  have l3:=hj.le (i+1) g2
  refine .inr (.inr ⟨g1,g2,?_,?_,?_⟩) <;> (unfold cop;omega)
 ·have l2:=hj.le (i-1) (by omega)
  have l3:=hj.le (i+1) g2
  refine .inr (.inl ⟨g1,g2,?_,?_,?_⟩) <;> (unfold cop;omega)
def Last (m:Nat) (j:Nat->Nat) (x i:Nat):Prop:=i < m/\j i=x/\∀ k,i < k->k < m->j k≠x
theorem Last.unique {m:Nat} {j:Nat->Nat} {x i i':Nat} (h:Last m j x i) (h':Last m j x i'):i=i':=by
 rcases Nat.lt_trichotomy i i' with g | g | g
 ·exact absurd h'.2.1 (h.2.2 i' g h'.1)
 ·exact g
 ·exact absurd h.2.1 (h'.2.2 i g h.1)
theorem Ann {m:Nat} {j:Nat->Nat} {x i:Nat} (hi:i < m) (hx:j i=x):∃ k,Last m j x k:=by
 have key:∀ n i,m-i=n->i < m->j i=x->∃ k,Last m j x k:=by
  intro n
  induction n using Nat.strongRecOn with
  | ind n ih=>
   intro i hn hi hx
   by_cases c:∃ k,i < k/\k < m/\j k=x
   ·obtain ⟨k,h1,h2,h3⟩:=c
    exact ih (m-k) (by omega) k rfl h2 h3
   ·exact ⟨i,hi,hx,fun k h1 h2 h3=>c ⟨k,h1,h2,h3⟩⟩
 exact key _ i rfl hi hx
theorem Agx {m:Nat} {j j':Nat->Nat} {i x r r':Nat} (hj:Path m j) (hm:Move m j j' i) (hr:Last m j x r) (hr':Last m j' x r') :
  r'=r\/(i=r/\r' + 1=r)\/(i=r+1/\r'=r+1):=by
 obtain ⟨h1,h2⟩:=hm
 rcases h2 with g | ⟨g1,g2,g3,g4,g5⟩ | ⟨g1,g2,g3,g4,g5⟩
 ·left
  have e:j'=j:=by
   funext k
   by_cases hk:k=i
   ·rw[hk];exact g
   ·exact h1 k hk
  subst e
  exact hr'.unique hr
 ·by_cases c:i=r
  ·-- it goes away from x
   right;left
   refine ⟨c,?_⟩
   have e:Last m j' x (r-1):=by
    refine ⟨by have:=hr.1;omega,?_,fun k hk hk2 e=>?_⟩
    ·rw[h1 (r-1) (by omega),<- hr.2.1,<- c];exact g3
    ·by_cases hk3:k=i
     ·rw[hk3,g5,c,hr.2.1] at e;omega
     ·rw[h1 k hk3] at e
      exact hr.2.2 k (by omega) hk2 e
   have:=hr'.unique e
   omega
  ·left
   refine hr'.unique ⟨hr.1,by rw[h1 r (fun e=>c e.symm)];exact hr.2.1,fun k hk hk2 e=>?_⟩
   by_cases hk3:k=i
   ·rw[hk3] at hk e
    rw[g5] at e
    have:j (i+1)=x:=by omega
    exact hr.2.2 (i+1) (by omega) g2 this
   ·rw[h1 k hk3] at e
    exact hr.2.2 k hk hk2 e
 ·by_cases c:i=r+1
  ·right;right
   refine ⟨c,hr'.unique ?_⟩
   have e1:j (i-1)=x:=by rw[c];exact hr.2.1
   refine ⟨by omega,by rw[<- c];omega,fun k hk hk2 e=>?_⟩
   rw[h1 k (by omega)] at e
   exact hr.2.2 k (by omega) hk2 e
  ·left
   refine hr'.unique ⟨hr.1,?_,fun k hk hk2 e=>?_⟩
   ·by_cases hk3:r=i
    ·exfalso
     have:j (i+1)=x:=by rw[g4,<- hk3];exact hr.2.1
     exact hr.2.2 (i+1) (by omega) g2 this
    ·rw[h1 r hk3];exact hr.2.1
   ·by_cases hk3:k=i
    ·rw[hk3] at hk e
     have e1:j (i-1)=x:=by omega
     by_cases hk4:r=i-1
     ·omega
     ·exact hr.2.2 (i-1) (by omega) (by omega) e1
    ·rw[h1 k hk3] at e
     exact hr.2.2 k hk hk2 e
theorem Aye {m:Nat} {s:Nat->Nat} {j:Nat->Nat->Nat} {CU CL:Nat->Prop} (hw:∀ t i,i < m->∃ t',t<=t'/\t' < t+m/\s t'=i) (hu:∀ t t',t < t'->t' < t+m->s t≠s t')
  (hs:∀ t,s t < m) (hp:∀ t,Path m (j t)) (hmv:∀ t,Move m (j t) (j (t+1)) (s t))
  (hU:∀ x,CU x->∀ t,∃ i,i < m/\j t i=x) (hL:∀ y,CL y->∀ t,∃ i,i < m/\cop (j t) i=y)
  (gU:∀ x t i,CU x->Last m (j t) x i->s t=i->j (t+1) i=j t i->∃ y,CL y/\y < cop (j t) i)
  (gL:∀ y t i,CL y->Last m (cop (j t)) y i->s t=i->j (t+1) i=j t i->∃ x,CU x/\x < j t i)
  (hex:∃ x,CU x):False:=by
 have least:∀ {C:Nat->Prop},(∃ x,C x)->∃ x,C x/\∀ y,C y->x<=y:=fun {C} h=>by
  obtain ⟨x,hx⟩:=h
  have key:∀ n,∀ x,x=n->C x->∃ x,C x/\∀ y,C y->x<=y:=by
   intro n
   induction n using Nat.strongRecOn with
   | ind n ih=>
    intro x hn hx
    by_cases c:∃ y,C y/\y < x
    ·obtain ⟨y,h1,h2⟩:=c
     exact ih y (by omega) y rfl h1
    ·exact ⟨x,hx,fun y hy=>by
      by_cases g:x<=y
      ·exact g
      ·exact absurd ⟨y,hy,by omega⟩ c⟩
  exact key x x rfl hx
 obtain ⟨x,hx,hx2⟩:=least hex
 have ex:∀ t,∃ i,Last m (j t) x i:=fun t=>by
  obtain ⟨i,h1,h2⟩:=hU x hx t
  exact Ann h1 h2
 have hrs:∀ t,Last m (j t) x (Classical.choose (ex t)):=fun t=>Classical.choose_spec (ex t)
 generalize hr:(fun t=>Classical.choose (ex t))=r at *
 have hrs:∀ t,Last m (j t) x (r t):=fun t=>by rw[<- hr];exact hrs t
 obtain ⟨T,B,b1,t,b2,b3,b4,b5⟩:=Axa hw hu (fun t=>(hrs t).1) (fun t=>Agx (hp t) (hmv t) (hrs t) (hrs (t+1)))
 have still:j (t+1) B=j t B:=by
  have l1:=hrs t
  have l2:=hrs (t+1)
  rw[b3] at l1
  rw[b5] at l2
  rw[l1.2.1,l2.2.1]
 obtain ⟨y0,y1,y2⟩:=gU x t B hx (by have:=hrs t;rwa [b3] at this) b4 still
 have hxB:j t B=x:=by have:=(hrs t).2.1;rwa [b3] at this
 obtain ⟨y,hy,hy2⟩:=least ⟨y0,y1⟩
 have hyB:y < B-x:=by
  have:=hy2 y0 y1
  unfold cop at y2
  rw[hxB] at y2
  omega
 have ey:∀ t,∃ i,Last m (cop (j (T+t))) y i:=fun t=>by
  obtain ⟨i,h1,h2⟩:=hL y hy (T+t)
  exact Ann h1 h2
 have hqs:∀ t,Last m (cop (j (T+t))) y (Classical.choose (ey t)):=fun t=>Classical.choose_spec (ey t)
 generalize hq:(fun t=>Classical.choose (ey t))=q at *
 have hqs:∀ t,Last m (cop (j (T+t))) y (q t):=fun t=>by rw[<- hq];exact hqs t
 have ahead:∀ t,j (T+t) (q t)<=x:=fun t=>by
  have h1:=b1 (T+t) (by omega)
  have h2:=hrs (T+t)
  have h3:=hqs t
  have h4:cop (j (T+t)) (r (T+t))=r (T+t)-x:=by unfold cop;rw[h2.2.1]
  have h5:q t<=r (T+t):=by
   refine Classical.byContradiction fun g=>?_
   have:=(hp (T+t)).other.mono (r (T+t)) (q t) (by omega) h3.1
   rw[h4,h3.2.1] at this
   omega
  have:=(hp (T+t)).mono (q t) (r (T+t)) h5 h2.1
  rw[h2.2.1] at this
  exact this
 obtain ⟨T',B',c1,t',c2,c3,c4,c5⟩:=Axa (s:=fun t=>s (T+t)) (r:=q) (m:=m)
  (fun t i hi=>by
   obtain ⟨t',h1,h2,h3⟩:=hw (T+t) i hi
   exact ⟨t'-T,by omega,by omega,by rw[show T+(t'-T)=t' by omega];exact h3⟩)
  (fun t t' h1 h2=>hu (T+t) (T+t') (by omega) (by omega)) (fun t=>(hqs t).1)
  (fun t=>Agx (hp (T+t)).other (Move.other (hp (T+t)) (hs _) (hmv (T+t))) (hqs t) (hqs (t+1)))
 have l1:=hqs t'
 have l2:=hqs (t' + 1)
 rw[c3] at l1
 rw[c5] at l2
 have still':j (T+t' + 1) B'=j (T+t') B':=by
  have e1:=l1.2.1
  have e2:cop (j (T+t' + 1)) B'=y:=l2.2.1
  have e3:=(hp (T+t')).le B' l1.1
  have e4:=(hp (T+t' + 1)).le B' l1.1
  unfold cop at e1 e2
  omega
 obtain ⟨x',x1,x2⟩:=gL y (T+t') B' hy l1 c4 still'
 have:=hx2 x' x1
 have:=ahead t'
 rw[c3] at this
 omega
end Go.Proofs.YtjfndjmabhbicaaGreat
