/- The mesh of vertices without lines. -/
import Derived.Test.YtgfiafnelibjgaaGreatL7
namespace Go.Proofs.YtgfiafnelibjgaaGreat
open Go Go.RowKit
variable {v:List Ab} {l:List Int}
theorem Aok (hv:Ci v) (hn:v.length≤1024) (hr:Ko v l) (F:List (Aa × Bool)) :
  ∃ m,Io ⟨v,[],F⟩ l=some ⟨v,m,F⟩∧((Zb v∧m=[])∨(¬ Zb v∧MapN v.length m∧Tri (plV v) (inN v.length) (apM m)∧Cov (plV v) (inN v.length) (apM m)∧m≠[])):=by
 have hlen:=hr.len
 obtain ⟨n0,h1,h2,h3,h4,h5⟩:=Au5 hv hn hr ⟨v,[],F⟩ rfl
 unfold Io
 rw [jn_d,h1,Ae]
 dsimp only
 by_cases c:l.length≤n0
 ·rw [if_pos (by omega)]
  refine ⟨[],rfl,.inl ⟨?_,rfl⟩⟩
  by_cases c2:2≤l.length
  ·-- all on the line of the first two
   have g0:0 < l.length:=by omega
   have g1:1 < l.length:=by omega
   have on:∀ i,inN v.length i→crs (plV v l[0]) (plV v l[1]) (plV v i)=0:=fun i hi=>by
    obtain ⟨k,hk,rfl⟩:=List.getElem_of_mem (hr.val.2 hi)
    by_cases e0:k=0
    ·subst e0;exact Cc _ _
    ·by_cases e1:k=1
     ·subst e1;exact Bk _ _
     ·obtain ⟨_,_,_,g⟩:=h3 k (by omega) (by omega)
      exact g
   have hne:¬ Bj (plV v l[0]) (plV v l[1]):=fun e=>by
    have:=hr.lt g0 g1 (by omega)
    unfold befP Bj at *
    omega
   exact fun i j k hi hj hk=>Us hne (on i hi) (on j hj) (on k hk)
  ·intro i j k hi hj hk
   unfold inN at hi hj hk
   have:i=j:=by omega
   subst this
   exact Zh _ _
 ·rw [if_neg (by omega),jn_d]
  have g0:0 < l.length:=by omega
  have g1:1 < l.length:=by omega
  have gn:n0 < l.length:=by omega
  have off:=h4 g0 g1 gn
  have hne:¬ Bj (plV v l[0]) (plV v l[1]):=fun e=>by
   have:=hr.lt g0 g1 (by omega)
   unfold befP Bj at *
   omega
  have hf:Fan v l n0:=by
   refine ⟨h2,gn,fun i j k hi hj hk=>?_,off⟩
   have on:∀ i,Kb l n0 i→crs (plV v l[0]) (plV v l[1]) (plV v i)=0:=fun i hi=>by
    obtain ⟨k,hk,hk2,rfl⟩:=hi
    by_cases e0:k=0
    ·subst e0;exact Cc _ _
    ·by_cases e1:k=1
     ·subst e1;exact Bk _ _
     ·obtain ⟨_,_,_,g⟩:=h3 k (by omega) hk2
      exact g
   exact Us hne (on i hi) (on j hj) (on k hk)
  obtain ⟨s1,s2⟩:=hf.swept hv hn hr
  rw [Au6 hv hn hr hf,Ae]
  dsimp only
  rw [Bh (by omega),gd_t ⟨by omega,by omega⟩]
  have ht:subl l (((n0+1:Nat):Int)) ((l.length:Nat):Int)=l.drop (n0+1):=by unfold subl;simp
  rw [ht]
  have:=Cx (B:=Hr l (n0:Int)) (fun s=>l.length-s.2.2.2.2.toNat) (fun s=>∃ (k:Nat) (m:Mp),n0+1≤k∧k≤l.length∧s=(v,m,F,l.drop (n0+1),((k-(n0+1):Nat):Int))∧Aen v l k m∧m≠[])
   (fun t=>∃ m:Mp,t=⟨v,m,F⟩∧Aen v l l.length m∧m≠[]) (fun s hs=>by
    obtain ⟨k,m,k1,k2,rfl,k3,k4⟩:=hs
    unfold Hr
    dsimp only
    rw [Bh (by omega)]
    by_cases c2:k < l.length
    ·left
     obtain ⟨m',e1,e2,e3⟩:=k3.step hv hn hr (F:=F) c2
     have hi:idx (l.drop (n0+1)) (((k-(n0+1):Nat):Int))=some l[k]:=by
      rw [Bm (by rw [List.length_drop];omega),List.getElem_drop]
      congr 2
      omega
     rw [if_pos (by simp;omega),jn_d,hi,Ae]
     refine ⟨(v,m',F,l.drop (n0+1),((k+1-(n0+1):Nat):Int)),?_,⟨k+1,m',by omega,by omega,rfl,e2,e3 k4⟩,by dsimp only;omega⟩
     obtain ⟨r,hr1,hr2⟩:=Ag e1
     obtain ⟨t,ht1,ht2⟩:=Ag hr2
     cases ht2
     rw [hr1,Ae,ht1,Ae,Bh (by omega),show k-(n0+1)+1=k+1-(n0+1) by omega]
    ·right
     rw [if_neg (by simp;omega)]
     have:k=l.length:=by omega
     subst this
     exact ⟨_,rfl,m,rfl,k3,k4⟩) (v,putAll [] (l.getD n0 0) (fanL v l n0 (n0-1)),F,l.drop (n0+1),0) ⟨n0+1,_,by omega,by omega,by simp,s1,s2⟩
  obtain ⟨t,e1,m,rfl,e2,e3⟩:=this
  rw [e1,Ae]
  refine ⟨m,rfl,.inr ⟨fun hfl=>?_,e2.map,e2.tri,fun i j k hk hnn d hd=>?_,e3⟩⟩
  ·exact off (hfl _ _ _ (hr.val.1 (List.getElem_mem g0)) (hr.val.1 (List.getElem_mem g1)) (hr.val.1 (List.getElem_mem gn)))
  ·obtain ⟨j',hj',rfl⟩:=List.getElem_of_mem (hr.val.2 hd)
   exact e2.cov _ _ _ hk hnn _ ⟨j',hj',hj',rfl⟩
/-- A triangle whose circle is empty. -/
def Del (v:List Ab) (a b c:Int):Prop:=inN v.length a∧inN v.length b∧inN v.length c∧0 < crs (plV v a) (plV v b) (plV v c)∧∀ d,inN v.length d→d≠a→d≠b→d≠c→DH (plV v) (hV v) a b c d < 0
theorem Del.rot {a b c:Int} (h:Del v a b c):Del v b c a:=by
 obtain ⟨h1,h2,h3,h4,h5⟩:=h
 exact ⟨h2,h3,h1,by rw [Am];exact h4,fun d hd n1 n2 n3=>by rw [My];exact h5 d hd n3 n1 n2⟩
/-- The triangles of a mesh without lines. -/
structure Agn (v:List Ab) (T:List Ai):Prop where
 ord:T.Pairwise fun x y=>¬ cmp3 y x < 0
 nd:T.Nodup
 mem:∀ t,t∈T↔t.a0 < t.a1∧t.a0 < t.a2∧Del v t.a0 t.a1 t.a2
theorem Agn.unique {T T':List Ai} (h:Agn v T) (h':Agn v T'):T=T' :=
 Zn tot3 (fun _ _=>trivial) h.ord h'.ord ((List.perm_ext_iff_of_nodup h.nd h'.nd).2 fun t=>(h.mem t).trans (h'.mem t).symm)
/-- A settled triangulation has the triangles with empty circles. -/
theorem Aam (hv:Ci v) {m:Mp} (hm:MapN v.length m) (ht:Tri (plV v) (inN v.length) (apM m)) (hc:Cov (plV v) (inN v.length) (apM m)) (hl:∀ i j k l,apM m i j=some k→apM m j i=some l→DH (plV v) (hV v) i j k l < 0) (hne:m≠[]) (a b c:Int) :
  apM m a b=some c↔Del v a b c:=by
 have mem:∀ a b c:Int,(a,b,c)∈(m.map fun q=>(q.1.a0,q.1.a1,q.2))↔apM m a b=some c:=fun a b c=>by
  rw [List.mem_map]
  constructor
  ·rintro ⟨⟨⟨x,y⟩,z⟩,hq,e⟩
   cases e
   exact Kt hm.ok hq
  ·intro h
   exact ⟨(⟨a,b⟩,c),Fz h,rfl⟩
 have hX:Aah (plV v) (m.map fun q=>(q.1.a0,q.1.a1,q.2)):=⟨fun a b c h=>(mem _ _ _).2 (ht.rot _ _ _ ((mem _ _ _).1 h)),fun a b c h=>(ht.ccw _ _ _ ((mem _ _ _).1 h)).2.2.2⟩
 have twin:∀ a b c,apM m a b=some c→∀ d,inN v.length d→crs (plV v a) (plV v b) (plV v d) < 0→∃ e,apM m b a=some e:=fun a b c h d hd hlt=>by
  rcases e:apM m b a with _ | x
  ·have:=hc a b c h e d hd;omega
  ·exact ⟨x,rfl⟩
 have G:=global (H:=hV v) (V:=inN v.length) hX (fun a b c h d hd n1 n2 n3=>ht.emp _ _ _ ((mem _ _ _).1 h) d hd n1 n2 n3) (fun a b c h d hd hlt=>by
  obtain ⟨e,he⟩:=twin a b c ((mem _ _ _).1 h) d hd hlt
  exact ⟨e,(mem _ _ _).2 he,hl _ _ _ _ ((mem _ _ _).1 h) he⟩)
 constructor
 ·intro h
  obtain ⟨k1,k2,k3,k4⟩:=ht.ccw _ _ _ h
  exact ⟨k1,k2,k3,k4,G a b c ((mem _ _ _).2 h)⟩
 ·rintro ⟨k1,k2,k3,k4,k5⟩
  refine (mem _ _ _).1 (Ai6 (H:=hV v) (V:=inN v.length) hX (fun a b c h=>?_) G (fun a b c h d hd hlt=>?_) ?_ k1 k2 k3 k4 k5)
  ·obtain ⟨q1,q2,q3,_⟩:=ht.ccw _ _ _ ((mem _ _ _).1 h)
   exact ⟨q1,q2,q3⟩
  ·obtain ⟨e,he⟩:=twin a b c ((mem _ _ _).1 h) d hd hlt
   exact ⟨e,(mem _ _ _).2 he⟩
  ·intro e
   rw [List.map_eq_nil_iff] at e
   exact hne e
theorem Aq1 {m:Mp} (hm:MapN v.length m) (h:∀ a b c,apM m a b=some c↔Del v a b c):Agn v (Av cmp3 (m.flatMap triF)):=by
 have memt:∀ t:Ai,t∈m.flatMap triF↔t.a0 < t.a1∧t.a0 < t.a2∧Del v t.a0 t.a1 t.a2:=fun t=>by
  rw [List.mem_flatMap]
  constructor
  ·rintro ⟨⟨⟨a,b⟩,c⟩,hq,ht⟩
   unfold triF at ht
   split at ht
   ·rename_i hlt
    rw [List.mem_singleton] at ht
    subst ht
    exact ⟨hlt.1,hlt.2,(h _ _ _).1 (Kt hm.ok hq)⟩
   ·cases ht
  ·rintro ⟨h1,h2,h3⟩
   refine ⟨(⟨t.a0,t.a1⟩,t.a2),Fz ((h _ _ _).2 h3),?_⟩
   unfold triF
   rw [if_pos ⟨h1,h2⟩]
   exact List.mem_singleton.2 rfl
 refine ⟨Mo tot3 (fun _ _=>trivial),(Gc _ _).nodup_iff.2 ?_,fun t=>by rw [Gu,memt]⟩
 -- no triangle twice
 have:∀ l:Mp,El l→(l.flatMap triF).Nodup:=by
  intro l
  induction l with
  | nil=>intro _;exact List.Pairwise.nil
  | cons q r ih =>
   intro hl
   obtain ⟨h1,h2⟩:=List.pairwise_cons.1 hl
   rw [List.flatMap_cons,List.nodup_append]
   refine ⟨?_,ih h2,fun x hx y hy e=>?_⟩
   ·unfold triF
    split
    ·simp
    ·exact List.Pairwise.nil
   ·subst e
    obtain ⟨q',hq',hy⟩:=List.mem_flatMap.1 hy
    have key:∀ q:Aa × Int,x∈triF q→q.1=⟨x.a0,x.a1⟩:=fun q hq=>by
     unfold triF at hq
     split at hq
     ·rw [List.mem_singleton] at hq
      subst hq
      rfl
     ·cases hq
    exact h1 q' hq' (by rw [key _ hx,key _ hy])
 exact this m hm.ok
end Go.Proofs.YtgfiafnelibjgaaGreat
/- Which vertices are valid: the program and the reference. -/
namespace Go.Proofs.YtgfiafnelibjgaaGreat
open Go Go.RowKit
/-- A loop that looks for a number below N with p. -/
theorem Jw {β γ:Type} (N:Nat) (hN:N≤1000000000) (p:Nat→Bool) (B:Int→Option (Sum Int (Sum β γ))) (u:β) (w:γ) (h1:∀ k:Nat,k < N→B (k:Int)=if p k=true then some (.inr (.inr w)) else some (.inl ((k+1:Nat):Int)))
  (h2:B (N:Int)=some (.inr (.inl u))):lfix B 0=some (if (List.range N).any p then .inr w else .inl u):=by
 have key:∀ j k,j+k=N→lfix B (k:Int)=some (if ((List.range N).drop k).any p then .inr w else .inl u):=by
  intro j
  induction j with
  | zero =>
   intro k hk
   rw [By,show k=N by omega,h2,List.drop_eq_nil_of_le (by simp)]
   rfl
  | succ j ih =>
   intro k hk
   rw [By,h1 k (by omega),List.drop_eq_getElem_cons (by simp;omega),List.any_cons,List.getElem_range]
   by_cases c:p k=true
   ·rw [if_pos c,c];rfl
   ·rw [if_neg c]
    rw [Bool.not_eq_true] at c
    rw [c,Bool.false_or]
    exact ih (k+1) (by omega)
 have:=key N 0 (by omega)
 rwa [List.drop_zero] at this
def pP (x:Ab):Ac:=⟨x.X,x.Y⟩
def Kd (x:Ab):Prop:=okP (pP x)∧-268435456≤x.Z.Lo∧x.Z.Lo≤x.Z.Hi∧x.Z.Hi≤268435456
instance (x:Ab):Decidable (Kd x):=by unfold Kd;infer_instance
theorem Ur {v:List Ab} {k:Nat} (hk:k < v.length):plV v (k:Int)=pP v[k]:=by unfold plV;rw [Bm hk];rfl
theorem Ae6 (x:Ab):Rt x=some (decide (Kd x)):=by
 unfold Rt Ez
 rw [Ae,Ae,Ae,Ajs,Ae,jn_d]
 unfold Qx
 by_cases h:okP (⟨x.X,x.Y⟩:Ac)
 ·simp only [h,and_self,if_true]
  rw [jn_d]
  by_cases h1:-1152921504606846976≤x.Z.Lo
  ·rw [if_pos h1]
   by_cases h2:x.Z.Lo≤x.Z.Hi
   ·rw [if_pos h2]
    by_cases h3:x.Z.Hi≤1152921504606846976
    ·rw [decide_eq_true h3,Ae,if_pos rfl]
     by_cases h4:-268435456≤x.Z.Lo
     ·rw [if_pos h4]
      congr 1
      rw [Bool.eq_iff_iff,decide_eq_true_eq,decide_eq_true_eq]
      unfold Kd pP
      exact ⟨fun g=>⟨h,h4,h2,g⟩,fun g=>g.2.2.2⟩
     ·rw [if_neg h4,decide_eq_false (fun g:Kd x=>h4 g.2.1)]
    ·rw [decide_eq_false h3,Ae,if_neg (by simp),decide_eq_false (fun g:Kd x=>h3 (by have:=g.2.2.2;omega))]
   ·rw [if_neg h2,Ae,if_neg (by simp),decide_eq_false (fun g:Kd x=>h2 g.2.2.1)]
  ·rw [if_neg h1,Ae,if_neg (by simp),decide_eq_false (fun g:Kd x=>h1 (by have:=g.2.1;omega))]
 ·simp only [h,false_and,if_false]
  rw [if_neg (by decide),decide_eq_false (fun g:Kd x=>h g.1)]
/-- The first error of vertices. -/
def Mg (v:List Ab):Int:=if 1024 < v.length then 2 else if ¬ (∀ x∈v,Kd x) then 60 else if ¬ Fh v then 61 else 0
theorem Lt {v:List Ab} (h:Mg v=0):v.length≤1024∧(∀ x∈v,Kd x)∧Ci v:=by
 unfold Mg at h
 split at h
 ·omega
 ·split at h
  ·omega
  ·split at h
   ·omega
   ·rename_i h1 h2 h3
    have h2:=Classical.not_not.1 h2
    have h3:=Classical.not_not.1 h3
    refine ⟨by omega,h2,fun i hi=>?_,fun i j hi hj hs=>?_⟩
    ·obtain ⟨k,hk,rfl,_⟩:=Fv (v:=v) (i:=i) hi
     rw [Ur hk]
     exact (h2 _ (List.getElem_mem hk)).1
    ·obtain ⟨a,ha,rfl,_⟩:=Fv (v:=v) (i:=i) hi
     obtain ⟨b,hb,rfl,_⟩:=Fv (v:=v) (i:=j) hj
     rw [Ur ha,Ur hb] at hs
     unfold Fh at h3
     rw [List.pairwise_iff_getElem] at h3
     rcases Nat.lt_trichotomy a b with c | c | c
     ·exact absurd hs (h3 a b ha hb c)
     ·rw [c]
     ·exact absurd ⟨hs.1.symm,hs.2.symm⟩ (h3 b a hb ha c)
theorem Abo {v:List Ab}:((List.range v.length).any fun k=>!decide (Kd (v.getD k ⟨0,0,⟨0,0⟩⟩)))=true↔¬ ∀ x∈v,Kd x:=by
 rw [List.any_eq_true]
 constructor
 ·rintro ⟨k,hk,h⟩ hall
  rw [List.mem_range] at hk
  simp [hk] at h
  exact h (hall _ (List.getElem_mem hk))
 ·intro h
  apply Classical.byContradiction
  intro hno
  apply h
  intro x hx
  obtain ⟨k,hk,rfl⟩:=List.getElem_of_mem hx
  apply Classical.byContradiction
  intro hb
  exact hno ⟨k,List.mem_range.2 hk,by simp [hk,hb]⟩
theorem Ae7 {v:List Ab}:(∃ i j,∃ (hi:i < v.length) (hj:j < v.length),j < i∧Pi v[i] v[j])↔¬ Fh v:=by
 unfold Fh
 rw [List.pairwise_iff_getElem]
 constructor
 ·rintro ⟨i,j,hi,hj,hji,hs⟩ h
  exact h j i hj hi hji ⟨hs.1.symm,hs.2.symm⟩
 ·intro h
  apply Classical.byContradiction
  intro hno
  apply h
  intro i j hi hj hij hs
  exact hno ⟨j,i,hj,hi,hij,hs.1.symm,hs.2.symm⟩
theorem Atf {v:List Ab} (c:v.length≤1024):lfix (Il v) 0=some (if ((List.range v.length).any fun k=>!decide (Kd (v.getD k ⟨0,0,⟨0,0⟩⟩)))=true then .inr 60 else .inl ()):=by
 refine Jw v.length (by omega) (fun k=>!decide (Kd (v.getD k ⟨0,0,⟨0,0⟩⟩))) (Il v) () 60 (fun k hk=>?_) ?_
 ·unfold Il
  rw [if_pos (by omega),Bm hk,Ae,Ae6,Ae,Bh (by omega)]
  have e:v.getD k ⟨0,0,⟨0,0⟩⟩=v[k]:=by simp [hk]
  rw [e]
  by_cases g:Kd v[k]
  ·simp [g]
  ·simp [g]
 ·unfold Il
  rw [if_neg (by omega)]
theorem Ago (v:List Ab):Kw v=some (Mg v):=by
 unfold Kw Mg
 by_cases c:1024 < v.length
 ·rw [if_pos (by omega),if_pos c]
 ·rw [if_neg (by omega),if_neg c,jn_d]
  rw [Atf (by omega),Ae]
  ·by_cases h:∀ x∈v,Kd x
   ·rw [if_neg (fun g=>Abo.1 g h),if_neg (not_not_intro h)]
    dsimp only
    rw [jn_d]
    have hL:=Cx (B:=Lg v) (fun s=>v.length-s.2.toNat) (fun s=>∃ k:Nat,k≤v.length∧s.2=(k:Int)∧El s.1∧s.1.length≤k∧(∀ x,(mget s.1 x).getD false=true↔∃ (j:Nat) (hj:j < v.length),j < k∧pP v[j]=x)∧∀ i j (hi:i < v.length) (hj:j < v.length),i < k→j < i→¬ Pi v[i] v[j])
     (fun t=>t=if ¬ Fh v then .inr 61 else .inl ()) (fun s hs=>by
      obtain ⟨m,k⟩:=s
      obtain ⟨k,h1,rfl,h2,h3,h4,h5⟩:=hs
      simp only at h1 h2 h3 h4
      unfold Lg
      dsimp only
      by_cases hk:k < v.length
      ·have hg:=(h _ (List.getElem_mem hk)).1
       have hr:(-9223372036854775808≤v[k].X∧v[k].X≤9223372036854775807)∧-9223372036854775808≤v[k].Y∧v[k].Y≤9223372036854775807:=by
        unfold okP pP at hg
        simp only at hg
        omega
       unfold Ez
       rw [if_pos (by omega),Bm hk,Ae,Ae,gd_t hr,Ae]
       have e4:=h4 (⟨v[k].X,v[k].Y⟩:Ac)
       by_cases hd:(mget m (⟨v[k].X,v[k].Y⟩:Ac)).getD false=true
       ·right
        rw [if_pos hd]
        obtain ⟨j,hj,hjk,he⟩:=e4.1 hd
        refine ⟨_,rfl,?_⟩
        rw [if_pos]
        refine Ae7.1 ⟨k,j,hk,hj,hjk,?_⟩
        unfold pP at he
        simp at he
        exact ⟨he.1.symm,he.2.symm⟩
       ·left
        rw [if_neg hd,Ae,gd_t hr,gd_t (by omega),Bh (by omega)]
        refine ⟨_,rfl,⟨k+1,hk,rfl,h2.put _ _,?_,fun x=>?_,fun i j hi hj hik hji=>?_⟩,by dsimp only;omega⟩
        ·dsimp only
         unfold mput mdel
         rw [List.length_cons]
         refine Nat.succ_le_succ (Nat.le_trans (List.length_filter_le _ m) h3)
        ·dsimp only
         rw [Nz h2]
         by_cases hx:x=⟨v[k].X,v[k].Y⟩
         ·rw [if_pos hx]
          simp only [Option.getD_some,true_iff]
          exact ⟨k,hk,by omega,hx.symm⟩
         ·rw [if_neg hx,h4]
          constructor
          ·rintro ⟨j,hj,h6,h7⟩;exact ⟨j,hj,by omega,h7⟩
          ·rintro ⟨j,hj,h6,h7⟩
           refine ⟨j,hj,?_,h7⟩
           by_cases e:j=k
           ·subst e;exact absurd h7.symm hx
           ·omega
        ·by_cases e:i=k
         ·subst e
          intro hs
          exact hd (e4.2 ⟨j,hj,hji,by unfold pP;rw [hs.1,hs.2]⟩)
         ·exact h5 i j hi hj (by omega) hji
      ·right
       rw [if_neg (by omega)]
       refine ⟨_,rfl,?_⟩
       rw [if_neg]
       intro hno
       obtain ⟨i,j,hi,hj,hji,hs⟩:=Ae7.2 hno
       exact h5 i j hi hj (by omega) hji hs) ([],0) ⟨0,by omega,rfl,List.Pairwise.nil,by simp,fun x=>by simp [mget],fun i j hi hj h1=>by omega⟩
    obtain ⟨t,h1,rfl⟩:=hL
    rw [h1,Ae]
    by_cases hd:Fh v
    ·rw [if_neg (not_not_intro hd),if_neg (not_not_intro hd)]
    ·rw [if_pos hd,if_pos hd]
   ·rw [if_pos (Abo.2 h),if_pos h]
end Go.Proofs.YtgfiafnelibjgaaGreat
