/- The mesh of vertices without lines. -/
import Derived.Test.YtbkobeeileemjaaGreatL7
import Derived.Test.YtbkobeeileemjaaGreatL2
import Derived.Test.YtbkobeeileemjaaGreatQ2
namespace Go.Proofs.YtbkobeeileemjaaGreat
open Go Go.RowKit
variable {v:List Ae} {l:List Int}
theorem Auy (hv:Rh v) (hn:v.length≤1024) (hr:Mr v l) (F:List (Ac × Bool)) :
  ∃ m,Iy ⟨v,[],F⟩ l=some ⟨v,m,F⟩∧((At1 v∧m=[])∨(¬ At1 v∧MapN v.length m∧Tri (plV v) (inN v.length) (apM m)∧Cov (plV v) (inN v.length) (apM m)∧m≠[])):=by
 have hlen:=hr.len
 obtain ⟨n0,h1,h2,h3,h4,h5⟩:=Az8 hv hn hr ⟨v,[],F⟩ rfl
 unfold Iy
 rw [jn_d,h1,Ah]
 dsimp only
 by_cases c:l.length≤n0
 ·rw [if_pos (by omega)]
  refine ⟨[],rfl,.inl ⟨?_,rfl⟩⟩
  by_cases c2:2≤l.length
  ·-- all on the line of the first two
   have g0:0 < l.length:=by omega
   have g1:1 < l.length:=by omega
   have on:∀ i,inN v.length i→crs (plV v l[0]) (plV v l[1]) (plV v i)=0:=fun i hi=>by
    obtain ⟨k,hk,rfl⟩:=List.getElem_of_mem (hr.val.2 hi)
    by_cases e0:k=0
    ·subst e0;exact Sa _ _
    ·by_cases e1:k=1
     ·subst e1;exact Ga _ _
     ·obtain ⟨_,_,_,g⟩:=h3 k (by omega) (by omega)
      exact g
   have hne:¬ Ef (plV v l[0]) (plV v l[1]):=fun e=>by
    have:=hr.lt g0 g1 (by omega)
    unfold befP Ef at *
    omega
   exact fun i j k hi hj hk=>Alv hne (on i hi) (on j hj) (on k hk)
  ·intro i j k hi hj hk
   unfold inN at hi hj hk
   have:i=j:=by omega
   subst this
   exact Ajc _ _
 ·rw [if_neg (by omega),jn_d]
  have g0:0 < l.length:=by omega
  have g1:1 < l.length:=by omega
  have gn:n0 < l.length:=by omega
  have off:=h4 g0 g1 gn
  have hne:¬ Ef (plV v l[0]) (plV v l[1]):=fun e=>by
   have:=hr.lt g0 g1 (by omega)
   unfold befP Ef at *
   omega
  have hf:Fan v l n0:=by
   refine ⟨h2,gn,fun i j k hi hj hk=>?_,off⟩
   have on:∀ i,Lc l n0 i→crs (plV v l[0]) (plV v l[1]) (plV v i)=0:=fun i hi=>by
    obtain ⟨k,hk,hk2,rfl⟩:=hi
    by_cases e0:k=0
    ·subst e0;exact Sa _ _
    ·by_cases e1:k=1
     ·subst e1;exact Ga _ _
     ·obtain ⟨_,_,_,g⟩:=h3 k (by omega) hk2
      exact g
   exact Alv hne (on i hi) (on j hj) (on k hk)
  obtain ⟨s1,s2⟩:=hf.swept hv hn hr
  rw [Az9 hv hn hr hf,Ah]
  dsimp only
  rw [Bs (by omega),gd_t ⟨by omega,by omega⟩]
  have ht:subl l (((n0+1:Nat):Int)) ((l.length:Nat):Int)=l.drop (n0+1):=by unfold subl;simp
  rw [ht]
  have:=Du (B:=Hn l (n0:Int)) (fun s=>l.length-s.2.2.2.2.toNat) (fun s=>∃ (k:Nat) (m:Mp),n0+1≤k∧k≤l.length∧s=(v,m,F,l.drop (n0+1),((k-(n0+1):Nat):Int))∧Aiw v l k m∧m≠[])
   (fun t=>∃ m:Mp,t=⟨v,m,F⟩∧Aiw v l l.length m∧m≠[]) (fun s hs=>by
    obtain ⟨k,m,k1,k2,rfl,k3,k4⟩:=hs
    unfold Hn
    dsimp only
    rw [Bs (by omega)]
    by_cases c2:k < l.length
    ·left
     obtain ⟨m',e1,e2,e3⟩:=k3.step hv hn hr (F:=F) c2
     have hi:idx (l.drop (n0+1)) (((k-(n0+1):Nat):Int))=some l[k]:=by
      rw [Bf (by rw [List.length_drop];omega),List.getElem_drop]
      congr 2
      omega
     rw [if_pos (by simp;omega),jn_d,hi,Ah]
     refine ⟨(v,m',F,l.drop (n0+1),((k+1-(n0+1):Nat):Int)),?_,⟨k+1,m',by omega,by omega,rfl,e2,e3 k4⟩,by dsimp only;omega⟩
     obtain ⟨r,hr1,hr2⟩:=Ad e1
     obtain ⟨t,ht1,ht2⟩:=Ad hr2
     cases ht2
     rw [hr1,Ah,ht1,Ah,Bs (by omega),show k-(n0+1)+1=k+1-(n0+1) by omega]
    ·right
     rw [if_neg (by simp;omega)]
     have:k=l.length:=by omega
     subst this
     exact ⟨_,rfl,m,rfl,k3,k4⟩) (v,putAll [] (l.getD n0 0) (fanL v l n0 (n0-1)),F,l.drop (n0+1),0) ⟨n0+1,_,by omega,by omega,by simp,s1,s2⟩
  obtain ⟨t,e1,m,rfl,e2,e3⟩:=this
  rw [e1,Ah]
  refine ⟨m,rfl,.inr ⟨fun hfl=>?_,e2.map,e2.tri,fun i j k hk hnn d hd=>?_,e3⟩⟩
  ·exact off (hfl _ _ _ (hr.val.1 (List.getElem_mem g0)) (hr.val.1 (List.getElem_mem g1)) (hr.val.1 (List.getElem_mem gn)))
  ·obtain ⟨j',hj',rfl⟩:=List.getElem_of_mem (hr.val.2 hd)
   exact e2.cov _ _ _ hk hnn _ ⟨j',hj',hj',rfl⟩
/-- A triangle whose circle is empty. -/
def Del (v:List Ae) (a b c:Int):Prop:=inN v.length a∧inN v.length b∧inN v.length c∧0 < crs (plV v a) (plV v b) (plV v c)∧∀ d,inN v.length d→d≠a→d≠b→d≠c→DH (plV v) (hV v) a b c d < 0
theorem Del.rot {a b c:Int} (h:Del v a b c):Del v b c a:=by
 obtain ⟨h1,h2,h3,h4,h5⟩:=h
 exact ⟨h2,h3,h1,by rw [Cv];exact h4,fun d hd n1 n2 n3=>by rw [Ah4];exact h5 d hd n3 n1 n2⟩
/-- The triangles of a mesh without lines. -/
structure Aa9 (v:List Ae) (T:List Aw):Prop where
 ord:T.Pairwise fun x y=>¬ cmp3 y x < 0
 nd:T.Nodup
 mem:∀ t,t∈T↔t.a0 < t.a1∧t.a0 < t.a2∧Del v t.a0 t.a1 t.a2
theorem Aa9.unique {T T':List Aw} (h:Aa9 v T) (h':Aa9 v T'):T=T' :=
 Ais tot3 (fun _ _=>trivial) h.ord h'.ord ((List.perm_ext_iff_of_nodup h.nd h'.nd).2 fun t=>(h.mem t).trans (h'.mem t).symm)
/-- A settled triangulation has the triangles with empty circles. -/
theorem Amn (_:Rh v) {m:Mp} (hm:MapN v.length m) (ht:Tri (plV v) (inN v.length) (apM m)) (hc:Cov (plV v) (inN v.length) (apM m)) (hl:∀ i j k l,apM m i j=some k→apM m j i=some l→DH (plV v) (hV v) i j k l < 0) (hne:m≠[]) (a b c:Int) :
  apM m a b=some c↔Del v a b c:=by
 have mem:∀ a b c:Int,(a,b,c)∈(m.map fun q=>(q.1.a0,q.1.a1,q.2))↔apM m a b=some c:=fun a b c=>by
  rw [List.mem_map]
  constructor
  ·rintro ⟨⟨⟨x,y⟩,z⟩,hq,e⟩
   cases e
   exact Sj hm.ok hq
  ·intro h
   exact ⟨(⟨a,b⟩,c),Jf h,rfl⟩
 have hX:Ak3 (plV v) (m.map fun q=>(q.1.a0,q.1.a1,q.2)):=⟨fun a b c h=>(mem _ _ _).2 (ht.rot _ _ _ ((mem _ _ _).1 h)),fun a b c h=>(ht.ccw _ _ _ ((mem _ _ _).1 h)).2.2.2⟩
 have twin:∀ a b c,apM m a b=some c→∀ d,inN v.length d→crs (plV v a) (plV v b) (plV v d) < 0→∃ e,apM m b a=some e:=fun a b c h d hd hlt=>by
  rcases e:apM m b a with _ | x
  ·have:=hc a b c h e d hd;omega
  ·exact ⟨x,rfl⟩
 have G:=global (H:=hV v) (V:=inN v.length) hX (fun a b c h d hd n1 n2 n3=>ht.emp _ _ _ ((mem _ _ _).1 h) d hd n1 n2 n3) (fun a b c h d hd hlt=>by
  obtain ⟨e,he⟩:=twin a b c ((mem _ _ _).1 h) d hd hlt
  exact ⟨e,(mem _ _ _).2 he,hl _ _ _ _ ((mem _ _ _).1 h) he⟩)
 constructor
 ·intro h
  obtain ⟨k1,k2,k3,k4⟩:=ht.ccw _ _ _ h
  exact ⟨k1,k2,k3,k4,G a b c ((mem _ _ _).2 h)⟩
 ·rintro ⟨k1,k2,k3,k4,k5⟩
  refine (mem _ _ _).1 (An5 (H:=hV v) (V:=inN v.length) hX (fun a b c h=>?_) G (fun a b c h d hd hlt=>?_) ?_ k1 k2 k3 k4 k5)
  ·obtain ⟨q1,q2,q3,_⟩:=ht.ccw _ _ _ ((mem _ _ _).1 h)
   exact ⟨q1,q2,q3⟩
  ·obtain ⟨e,he⟩:=twin a b c ((mem _ _ _).1 h) d hd hlt
   exact ⟨e,(mem _ _ _).2 he⟩
  ·intro e
   rw [List.map_eq_nil_iff] at e
   exact hne e
theorem Aw0 {m:Mp} (hm:MapN v.length m) (h:∀ a b c,apM m a b=some c↔Del v a b c):Aa9 v (Ar cmp3 (m.flatMap triF)):=by
 have memt:∀ t:Aw,t∈m.flatMap triF↔t.a0 < t.a1∧t.a0 < t.a2∧Del v t.a0 t.a1 t.a2:=fun t=>by
  rw [List.mem_flatMap]
  constructor
  ·rintro ⟨⟨⟨a,b⟩,c⟩,hq,ht⟩
   unfold triF at ht
   split at ht
   ·rename_i hlt
    rw [List.mem_singleton] at ht
    subst ht
    exact ⟨hlt.1,hlt.2,(h _ _ _).1 (Sj hm.ok hq)⟩
   ·cases ht
  ·rintro ⟨h1,h2,h3⟩
   refine ⟨(⟨t.a0,t.a1⟩,t.a2),Jf ((h _ _ _).2 h3),?_⟩
   unfold triF
   rw [if_pos ⟨h1,h2⟩]
   exact List.mem_singleton.2 rfl
 refine ⟨Pb tot3 (fun _ _=>trivial),(Ei _ _).nodup_iff.2 ?_,fun t=>by rw [Iq,memt]⟩
 -- no triangle twice
 have:∀ l:Mp,Ee l→(l.flatMap triF).Nodup:=by
  intro l
  induction l with
  | nil=>intro _;exact List.Pairwise.nil
  | cons q r ih =>
   intro hl
   obtain ⟨h1,h2⟩:=List.pairwise_cons.1 hl
   rw [List.flatMap_cons,List.nodup_append]
   refine ⟨?_,ih h2,fun x hx y hy e=>?_⟩
   ·unfold triF
    split
    ·simp
    ·exact List.Pairwise.nil
   ·subst e
    obtain ⟨q',hq',hy⟩:=List.mem_flatMap.1 hy
    have key:∀ q:Ac × Int,x∈triF q→q.1=⟨x.a0,x.a1⟩:=fun q hq=>by
     unfold triF at hq
     split at hq
     ·rw [List.mem_singleton] at hq
      subst hq
      rfl
     ·cases hq
    exact h1 q' hq' (by rw [key _ hx,key _ hy])
 exact this m hm.ok
end Go.Proofs.YtbkobeeileemjaaGreat
/- Which vertices are valid: the program and the reference. -/
namespace Go.Proofs.YtbkobeeileemjaaGreat
open Go Go.RowKit
/-- A loop that looks for a number below N with p. -/
theorem Auz {β γ:Type} (N:Nat) (_:N≤1000000000) (p:Nat→Bool) (B:Int→Option (Sum Int (Sum β γ))) (u:β) (w:γ) (h1:∀ k:Nat,k < N→B (k:Int)=if p k=true then some (.inr (.inr w)) else some (.inl ((k+1:Nat):Int)))
  (h2:B (N:Int)=some (.inr (.inl u))):lfix B 0=some (if (List.range N).any p then .inr w else .inl u):=by
 have key:∀ j k,j+k=N→lfix B (k:Int)=some (if ((List.range N).drop k).any p then .inr w else .inl u):=by
  intro j
  induction j with
  | zero =>
   intro k hk
   rw [Dq,show k=N by omega,h2,List.drop_eq_nil_of_le (by simp)]
   rfl
  | succ j ih =>
   intro k hk
   rw [Dq,h1 k (by omega),List.drop_eq_getElem_cons (by simp;omega),List.any_cons,List.getElem_range]
   by_cases c:p k=true
   ·rw [if_pos c,c];rfl
   ·rw [if_neg c]
    rw [Bool.not_eq_true] at c
    rw [c,Bool.false_or]
    exact ih (k+1) (by omega)
 have:=key N 0 (by omega)
 rwa [List.drop_zero] at this
def pP (x:Ae):Ab:=⟨x.X,x.Y⟩
def Nx (x:Ae):Prop:=okP (pP x)∧-268435456≤x.Z.Lo∧x.Z.Lo≤x.Z.Hi∧x.Z.Hi≤268435456
instance (x:Ae):Decidable (Nx x):=by unfold Nx;infer_instance
theorem Zx {v:List Ae} {k:Nat} (hk:k < v.length):plV v (k:Int)=pP v[k]:=by unfold plV;rw [Bf hk];rfl
theorem Aks (x:Ae):Ww x=some (decide (Nx x)):=by
 unfold Ww Kn
 rw [Ah,Ah,Ah,Aqd,Ah,jn_d]
 unfold Vo
 by_cases h:okP (⟨x.X,x.Y⟩:Ab)
 ·simp only [h,and_self,if_true]
  rw [jn_d]
  by_cases h1:-1152921504606846976≤x.Z.Lo
  ·rw [if_pos h1]
   by_cases h2:x.Z.Lo≤x.Z.Hi
   ·rw [if_pos h2]
    by_cases h3:x.Z.Hi≤1152921504606846976
    ·rw [decide_eq_true h3,Ah,if_pos rfl]
     by_cases h4:-268435456≤x.Z.Lo
     ·rw [if_pos h4]
      congr 1
      rw [Bool.eq_iff_iff,decide_eq_true_eq,decide_eq_true_eq]
      unfold Nx pP
      exact ⟨fun g=>⟨h,h4,h2,g⟩,fun g=>g.2.2.2⟩
     ·rw [if_neg h4,decide_eq_false (fun g:Nx x=>h4 g.2.1)]
    ·rw [decide_eq_false h3,Ah,if_neg (by simp),decide_eq_false (fun g:Nx x=>h3 (by have:=g.2.2.2;omega))]
   ·rw [if_neg h2,Ah,if_neg (by simp),decide_eq_false (fun g:Nx x=>h2 g.2.2.1)]
  ·rw [if_neg h1,Ah,if_neg (by simp),decide_eq_false (fun g:Nx x=>h1 (by have:=g.2.1;omega))]
 ·simp only [h,false_and,if_false]
  rw [if_neg (by decide),decide_eq_false (fun g:Nx x=>h g.1)]
/-- The first error of vertices. -/
def Wl (v:List Ae):Int:=if 1024 < v.length then 2 else if ¬ (∀ x∈v,Nx x) then 60 else if ¬ Gb v then 61 else 0
theorem Amo {v:List Ae} (h:Wl v=0):v.length≤1024∧(∀ x∈v,Nx x)∧Rh v:=by
 unfold Wl at h
 split at h
 ·omega
 ·split at h
  ·omega
  ·split at h
   ·omega
   ·rename_i h1 h2 h3
    have h2:=Classical.not_not.1 h2
    have h3:=Classical.not_not.1 h3
    refine ⟨by omega,h2,fun i hi=>?_,fun i j hi hj hs=>?_⟩
    ·obtain ⟨k,hk,rfl,_⟩:=Jz (v:=v) (i:=i) hi
     rw [Zx hk]
     exact (h2 _ (List.getElem_mem hk)).1
    ·obtain ⟨a,ha,rfl,_⟩:=Jz (v:=v) (i:=i) hi
     obtain ⟨b,hb,rfl,_⟩:=Jz (v:=v) (i:=j) hj
     rw [Zx ha,Zx hb] at hs
     unfold Gb at h3
     rw [List.pairwise_iff_getElem] at h3
     rcases Nat.lt_trichotomy a b with c | c | c
     ·exact absurd hs (h3 a b ha hb c)
     ·rw [c]
     ·exact absurd ⟨hs.1.symm,hs.2.symm⟩ (h3 b a hb ha c)
theorem Ap3 {v:List Ae}:((List.range v.length).any fun k=>!decide (Nx (v.getD k ⟨0,0,⟨0,0⟩⟩)))=true↔¬ ∀ x∈v,Nx x:=by
 rw [List.any_eq_true]
 constructor
 ·rintro ⟨k,hk,h⟩ hall
  rw [List.mem_range] at hk
  simp [hk] at h
  exact h (hall _ (List.getElem_mem hk))
 ·intro h
  apply Classical.byContradiction
  intro hno
  apply h
  intro x hx
  obtain ⟨k,hk,rfl⟩:=List.getElem_of_mem hx
  apply Classical.byContradiction
  intro hb
  exact hno ⟨k,List.mem_range.2 hk,by simp [hk,hb]⟩
theorem Ap4 {v:List Ae}:(∃ i j,∃ (hi:i < v.length) (hj:j < v.length),j < i∧Ah2 v[i] v[j])↔¬ Gb v:=by
 unfold Gb
 rw [List.pairwise_iff_getElem]
 constructor
 ·rintro ⟨i,j,hi,hj,hji,hs⟩ h
  exact h j i hj hi hji ⟨hs.1.symm,hs.2.symm⟩
 ·intro h
  apply Classical.byContradiction
  intro hno
  apply h
  intro i j hi hj hij hs
  exact hno ⟨j,i,hj,hi,hij,hs.1.symm,hs.2.symm⟩
theorem Azh {v:List Ae} (c:v.length≤1024):lfix (Hy v) 0=some (if ((List.range v.length).any fun k=>!decide (Nx (v.getD k ⟨0,0,⟨0,0⟩⟩)))=true then .inr 60 else .inl ()):=by
 refine Auz v.length (by omega) (fun k=>!decide (Nx (v.getD k ⟨0,0,⟨0,0⟩⟩))) (Hy v) () 60 (fun k hk=>?_) ?_
 ·unfold Hy
  rw [if_pos (by omega),Bf hk,Ah,Aks,Ah,Bs (by omega)]
  have e:v.getD k ⟨0,0,⟨0,0⟩⟩=v[k]:=by simp [hk]
  rw [e]
  by_cases g:Nx v[k]
  ·simp [g]
  ·simp [g]
 ·unfold Hy
  rw [if_neg (by omega)]
theorem Ae5 (v:List Ae):Me v=some (Wl v):=by
 unfold Me Wl
 by_cases c:1024 < v.length
 ·rw [if_pos (by omega),if_pos c]
 ·rw [if_neg (by omega),if_neg c,jn_d]
  rw [Azh (by omega),Ah]
  ·by_cases h:∀ x∈v,Nx x
   ·rw [if_neg (fun g=>Ap3.1 g h),if_neg (not_not_intro h)]
    dsimp only
    rw [jn_d]
    have hL:=Du (B:=Mv v) (fun s=>v.length-s.2.toNat) (fun s=>∃ k:Nat,k≤v.length∧s.2=(k:Int)∧Ee s.1∧s.1.length≤k∧(∀ x,(mget s.1 x).getD false=true↔∃ (j:Nat) (hj:j < v.length),j < k∧pP v[j]=x)∧∀ i j (hi:i < v.length) (hj:j < v.length),i < k→j < i→¬ Ah2 v[i] v[j])
     (fun t=>t=if ¬ Gb v then .inr 61 else .inl ()) (fun s hs=>by
      obtain ⟨m,k⟩:=s
      obtain ⟨k,h1,rfl,h2,h3,h4,h5⟩:=hs
      simp only at h1 h2 h3 h4
      unfold Mv
      dsimp only
      by_cases hk:k < v.length
      ·have hg:=(h _ (List.getElem_mem hk)).1
       have hr:(-9223372036854775808≤v[k].X∧v[k].X≤9223372036854775807)∧-9223372036854775808≤v[k].Y∧v[k].Y≤9223372036854775807:=by
        unfold okP pP at hg
        simp only at hg
        omega
       unfold Kn
       rw [if_pos (by omega),Bf hk,Ah,Ah,gd_t hr,Ah]
       have e4:=h4 (⟨v[k].X,v[k].Y⟩:Ab)
       by_cases hd:(mget m (⟨v[k].X,v[k].Y⟩:Ab)).getD false=true
       ·right
        rw [if_pos hd]
        obtain ⟨j,hj,hjk,he⟩:=e4.1 hd
        refine ⟨_,rfl,?_⟩
        rw [if_pos]
        refine Ap4.1 ⟨k,j,hk,hj,hjk,?_⟩
        unfold pP at he
        simp at he
        exact ⟨he.1.symm,he.2.symm⟩
       ·left
        rw [if_neg hd,Ah,gd_t hr,gd_t (by omega),Bs (by omega)]
        refine ⟨_,rfl,⟨k+1,hk,rfl,h2.put _ _,?_,fun x=>?_,fun i j hi hj hik hji=>?_⟩,by dsimp only;omega⟩
        ·dsimp only
         unfold mput mdel
         rw [List.length_cons]
         refine Nat.succ_le_succ (Nat.le_trans (List.length_filter_le _ m) h3)
        ·dsimp only
         rw [Nm h2]
         by_cases hx:x=⟨v[k].X,v[k].Y⟩
         ·rw [if_pos hx]
          simp only [Option.getD_some,true_iff]
          exact ⟨k,hk,by omega,hx.symm⟩
         ·rw [if_neg hx,h4]
          constructor
          ·rintro ⟨j,hj,h6,h7⟩;exact ⟨j,hj,by omega,h7⟩
          ·rintro ⟨j,hj,h6,h7⟩
           refine ⟨j,hj,?_,h7⟩
           by_cases e:j=k
           ·subst e;exact absurd h7.symm hx
           ·omega
        ·by_cases e:i=k
         ·subst e
          intro hs
          exact hd (e4.2 ⟨j,hj,hji,by unfold pP;rw [hs.1,hs.2]⟩)
         ·exact h5 i j hi hj (by omega) hji
      ·right
       rw [if_neg (by omega)]
       refine ⟨_,rfl,?_⟩
       rw [if_neg]
       intro hno
       obtain ⟨i,j,hi,hj,hji,hs⟩:=Ap4.2 hno
       exact h5 i j hi hj (by omega) hji hs) ([],0) ⟨0,by omega,rfl,List.Pairwise.nil,by simp,fun x=>by simp [mget],fun i j hi hj h1=>by omega⟩
    obtain ⟨t,h1,rfl⟩:=hL
    rw [h1,Ah]
    by_cases hd:Gb v
    ·rw [if_neg (not_not_intro hd),if_neg (not_not_intro hd)]
    ·rw [if_pos hd,if_pos hd]
   ·rw [if_pos (Ap3.2 h),if_pos h]
end Go.Proofs.YtbkobeeileemjaaGreat
/- Build without lines, and with wrong vertices. -/
namespace Go.Proofs.YtbkobeeileemjaaGreat
open Go Go.RowKit
theorem Ahh (v:List Ae):Je v []=some 0:=by
 unfold Je
 rw [jn_d,Dq]
 unfold Pj
 try dsimp only
 rw [if_neg (by simp)]
 try dsimp only
 rw [Ah]
 try dsimp only
 rw [jn_d,Dq]
 unfold Oq
 try dsimp only
 rw [if_neg (by simp)]
 rfl
theorem Aoe:Pw []=some []:=by
 unfold Pw
 rw [jn_d,Dq]
 unfold Ug
 try dsimp only
 rw [if_neg (by simp)]
 try dsimp only
 rw [Ah]
 try dsimp only
 rw [gd_t (by simp)]
 rw [show Ar cmp2 []=[] from by simp [Ar]]
theorem Aii:lfix (Qs []) ()=some ():=by
 rw [Dq]
 unfold Qs
 rw [if_neg (by simp)]
theorem Aof {v:List Ae} (h:At1 v):Aa9 v [] :=
 ⟨List.Pairwise.nil,List.nodup_nil,fun t=>⟨fun h=>(by cases h),fun g=>(by have:=h _ _ _ g.2.2.1 g.2.2.2.1 g.2.2.2.2.1;have:=g.2.2.2.2.2.1;omega)⟩⟩
theorem Au0 {v:List Ae} (h:Wl v=0):∃ T,Nv v []=some (⟨v,T,[]⟩,0)∧Aa9 v T:=by
 obtain ⟨hn,_,hv⟩:=Amo h
 obtain ⟨l,hl,hr⟩:=At0 hv hn
 obtain ⟨m,h1,h2⟩:=Auy hv hn hr []
 unfold Nv
 rw [Ae5,h,Ah,if_pos rfl,Ahh,Ah,if_pos rfl,Aoe,Ah,hl,Ah,h1,Ah,jn_d]
 dsimp only
 have hcl:Oj v=some v:=by
  unfold Oj
  rw [gd_t (by omega)]
 rcases h2 with ⟨h3,rfl⟩ | ⟨h3,h4,h5,h6,h7⟩
 ·rw [if_neg (by simp)]
  have ht:=Ach (n:=v.length) hn (b:=⟨v,[],[]⟩) ⟨List.Pairwise.nil,by simp⟩
  rw [hcl,Ah,ht,Ah]
  exact ⟨_,rfl,by simpa [Ar] using Aof h3⟩
 ·have hpos:0 < m.length:=List.length_pos_iff.2 h7
  rw [if_pos (by omega),jn_d,Aii,Ah]
  obtain ⟨m',g1,g2,g3⟩:=Aq5 (b:=⟨v,m,[]⟩) hv hn h4 h5
  rw [g1,Ah]
  dsimp only at g1 g2 g3 ⊢
  have ht:=Ach (n:=v.length) hn (b:=⟨v,m',[]⟩) g2.map
  rw [hcl,Ah,ht,Ah]
  refine ⟨_,rfl,Aw0 g2.map (Amn hv g2.map g2.tri (g3.cov _ h6) (fun i j k l hk hl=>?_) ?_)⟩
  ·rcases g2.pend i j k l hk hl with q | q | q
   ·cases q
   ·unfold Fx mget at q;simp at q
   ·exact q
  ·exact g3.ne h7
theorem Ary {v:List Ae} (lines:List Ac) (h:Wl v≠0):Nv v lines=some (⟨[],[],[]⟩,Wl v):=by
 unfold Nv
 rw [Ae5,Ah,if_neg h]
end Go.Proofs.YtbkobeeileemjaaGreat
/- The points with the Ids of a list, and their mesh. -/
namespace Go.Proofs.YtbkobeeileemjaaGreat
open Go Go.RowKit Go.Sort
theorem w1 {k n:Nat} (h:k < n) (hn:n≤1000000000):w64 ((k:Int)+1)=((k+1:Nat):Int):=by rw [Bp (by omega) (by omega)];omega
theorem has_eq {l:List Int} (hl:l.length≤1000000) (n:Int):Qx l n=some (decide (n∈l)):=by
 unfold Qx
 rw [jn_d]
 have:=Du (B:=Nf l n) (fun s=>l.length-s.toNat) (fun s=>∃ k:Nat,k≤l.length∧s=(k:Int)∧n ∉ l.take k) (fun t=>(t = .inl ()∧n ∉ l)∨(t = .inr true∧n∈l)) (fun s hs=>by
  obtain ⟨k,hk,rfl,h⟩:=hs
  unfold Nf
  by_cases hk2:k < l.length
  ·rw [if_pos (by omega),Bf hk2,Ah]
   by_cases c:l[k]=n
   ·right
    rw [if_pos c]
    exact ⟨_,rfl,.inr ⟨rfl,c ▸ List.getElem_mem hk2⟩⟩
   ·left
    rw [if_neg c,w1 hk2 (by omega)]
    refine ⟨_,rfl,⟨k+1,hk2,rfl,fun g=>?_⟩,by omega⟩
    rw [List.take_succ_eq_append_getElem hk2,List.mem_append,List.mem_singleton] at g
    rcases g with g | g
    ·exact h g
    ·exact c g.symm
  ·right
   rw [if_neg (by omega)]
   have:k=l.length:=by omega
   subst this
   rw [List.take_length] at h
   exact ⟨_,rfl,.inl ⟨rfl,h⟩⟩) 0 ⟨0,by omega,rfl,by simp⟩
 obtain ⟨t,ht,g | g⟩:=this
 ·obtain ⟨rfl,g⟩:=g
  rw [ht,Ah]
  simp [g]
 ·obtain ⟨rfl,g⟩:=g
  rw [ht,Ah]
  simp [g]
/-- What is asked of the list of Ids. -/
def Ahi (l:List Aa) (ids:List Int):Prop:=ids.Nodup∧∀ i∈ids,∃ p∈l,p.Id=i
noncomputable instance (l:List Aa) (ids:List Int):Decidable (Ahi l ids):=Classical.propDecidable _
noncomputable def selL (l:List Aa) (ids:List Int):List Aa:=l.filter fun p=>decide (p.Id∈ids)
/-- The points with these Ids, in the order of their Ids. -/
noncomputable def Ac8 (l:List Aa) (ids:List Int):List Aa:=Ar Bn (selL l ids)
variable {l:List Aa} {ids:List Int}
theorem Zy (hl:X.Fit l):Aja l:=⟨hl.id,fun x hx=>by have:=X.okPt_rng (hl.ok x hx);omega⟩
theorem Arz {m:List Aa} (h:Aja l) (hm:∀ x∈m,x∈l) (hn:(m.map (·.Id)).Nodup):Aja m:=⟨hn,fun x hx=>h.2 x (hm x hx)⟩
theorem Azi {out:List Aa} (hl:X.Fit l) (h1:out.map (·.Id)=ids) (h2:∀ p∈out,p∈l) (hn:ids.Nodup):out.Perm (selL l ids):=by
 have hon:out.Nodup:=X.nodup_of_ids (by rw [h1];exact hn)
 refine (List.perm_ext_iff_of_nodup hon ((X.nodup_of_ids hl.id).filter _)).2 fun p=>?_
 rw [List.mem_filter,decide_eq_true_eq]
 constructor
 ·intro hp
  exact ⟨h2 p hp,by rw [← h1];exact List.mem_map_of_mem hp⟩
 ·rintro ⟨hp,hi⟩
  rw [← h1,List.mem_map] at hi
  obtain ⟨q,hq,e⟩:=hi
  rw [← Aok hl.id (h2 q hq) hp e]
  exact hq
theorem Au1 {out:List Aa} (h:Aja out) (hp:out.Perm (selL l ids)):Ar Bn out=Ac8 l ids :=
 Ql (totP out) (fun _ hx=>⟨hx,h⟩) hp
/-! ### the program's list -/
theorem Au2 (hl:X.Fit l):∃ m,lfix (Mc l) (([]:List (Int × Aa)),0)=some m∧Ee m∧∀ x p,mget m x=some p↔p∈l∧p.Id=x:=by
 have hn:=hl.n
 refine Du (B:=Mc l) (fun s=>l.length-s.2.toNat) (fun s=>∃ k:Nat,k≤l.length∧s.2=(k:Int)∧Ee s.1∧s.1.length≤k∧∀ x p,mget s.1 x=some p↔p∈l.take k∧p.Id=x) _ (fun s hs=>?_) _ ⟨0,by omega,rfl,List.Pairwise.nil,by simp,fun x p=>by simp [As8]⟩
 obtain ⟨m,j⟩:=s
 obtain ⟨k,hk,rfl,h1,h2,h3⟩:=hs
 dsimp only at h1 h2 h3
 unfold Mc
 dsimp only
 by_cases hk2:k < l.length
 ·left
  have hr:=X.okPt_rng (hl.ok _ (List.getElem_mem hk2))
  rw [if_pos (by omega),Bf hk2,Ah,gd_t (by omega),gd_t (by omega),w1 hk2 (by omega)]
  refine ⟨_,rfl,⟨k+1,hk2,rfl,h1.put _ _,?_,fun x p=>?_⟩,by dsimp only;omega⟩
  ·dsimp only
   unfold mput
   have:(mdel m l[k].Id).length≤m.length:=List.length_filter_le _ _
   rw [List.length_cons]
   omega
  ·dsimp only
   rw [Nm h1,List.take_succ_eq_append_getElem hk2,List.mem_append,List.mem_singleton]
   by_cases e:x=l[k].Id
   ·rw [if_pos e]
    constructor
    ·intro g
     cases g
     exact ⟨.inr rfl,e.symm⟩
    ·rintro ⟨g | g,g2⟩
     ·rw [Aok hl.id (List.mem_of_mem_take g) (List.getElem_mem hk2) (by omega)]
     ·rw [g]
   ·rw [if_neg e,h3]
    constructor
    ·rintro ⟨g,g2⟩
     exact ⟨.inl g,g2⟩
    ·rintro ⟨g | g,g2⟩
     ·exact ⟨g,g2⟩
     ·rw [g] at g2
      exact absurd g2.symm e
 ·right
  rw [if_neg (by omega)]
  have:k=l.length:=by omega
  subst this
  rw [List.take_length] at h3
  exact ⟨_,rfl,h1,h3⟩
theorem Au3 (_:X.Fit l) (hi:ids.length≤300) {m:List (Int × Aa)} (hm:Ee m) (hg:∀ x p,mget m x=some p↔p∈l∧p.Id=x) (hr:∀ i∈ids,-9223372036854775808≤i∧i≤9223372036854775807) :
  (∃ out:List Aa,lfix (Jo ids) (m,([]:List Aa),0)=some (.inl out)∧out.map (·.Id)=ids∧(∀ p∈out,p∈l)∧Ahi l ids)∨(lfix (Jo ids) (m,([]:List Aa),0)=some (.inr ([],false))∧¬ Ahi l ids):=by
 have:=Du (B:=Jo ids) (fun s=>ids.length-s.2.2.toNat)
  (fun s=>∃ k:Nat,k≤ids.length∧s.2.2=(k:Int)∧Ee s.1∧s.2.1.map (·.Id)=ids.take k∧(∀ p∈s.2.1,p∈l)∧(ids.take k).Nodup∧∀ x p,mget s.1 x=some p↔p∈l∧p.Id=x∧x ∉ ids.take k)
  (fun t=>(∃ out:List Aa,t = .inl out∧out.map (·.Id)=ids∧(∀ p∈out,p∈l)∧Ahi l ids)∨(t = .inr ([],false)∧¬ Ahi l ids)) (fun s hs=>by
  obtain ⟨m,out,j⟩:=s
  obtain ⟨k,hk,rfl,h1,h2,h3,h4,h5⟩:=hs
  dsimp only at h1 h2 h3 h5
  unfold Jo
  dsimp only
  by_cases hk2:k < ids.length
  ·have ts:ids.take (k+1)=ids.take k++[ids[k]]:=List.take_succ_eq_append_getElem hk2
   have hl2:out.length=k:=by have:=congrArg List.length h2;rw [List.length_map,List.length_take] at this;omega
   have hrk:=hr _ (List.getElem_mem hk2)
   rw [if_pos (by omega),Bf hk2,Ah,gd_t hrk,Ah]
   rcases e:mget m ids[k] with _ | p
   ·right
    rw [if_neg (by simp)]
    refine ⟨_,rfl,.inr ⟨rfl,fun g=>?_⟩⟩
    obtain ⟨q,q1,q2⟩:=g.2 _ (List.getElem_mem hk2)
    have hno:ids[k] ∉ ids.take k:=fun hin=>by
     obtain ⟨i,hi',e'⟩:=List.getElem_of_mem hin
     rw [List.length_take] at hi'
     rw [List.getElem_take] at e'
     have:=List.pairwise_iff_getElem.1 g.1 i k (by omega) hk2 (by omega)
     exact this e'
    have:=(h5 ids[k] q).2 ⟨q1,q2,hno⟩
    rw [e] at this
    cases this
   ·left
    obtain ⟨p1,p2,p3⟩:=(h5 _ _).1 e
    rw [if_pos (by simp),gd_t hrk,gd_t (by omega),w1 hk2 (by omega)]
    refine ⟨_,rfl,⟨k+1,hk2,rfl,h1.del _,?_,fun q hq=>?_,?_,fun x q=>?_⟩,by dsimp only;omega⟩
    ·dsimp only
     rw [List.map_append,h2,ts]
     simp [p2]
    ·dsimp only at hq
     rcases List.mem_append.1 hq with hq | hq
     ·exact h3 q hq
     ·rw [List.mem_singleton] at hq
      subst hq
      exact p1
    ·rw [ts,List.nodup_append]
     refine ⟨h4,by simp,fun a ha b hb e=>?_⟩
     rw [List.mem_singleton] at hb
     subst hb;subst e
     exact p3 ha
    ·dsimp only
     rw [Sk h1,ts,List.mem_append,List.mem_singleton]
     by_cases c:x=ids[k]
     ·rw [if_pos c]
      exact ⟨fun g=>(by cases g),fun g=>absurd (.inr c) g.2.2⟩
     ·rw [if_neg c,h5]
      exact ⟨fun g=>⟨g.1,g.2.1,fun h=>h.elim g.2.2 c⟩,fun g=>⟨g.1,g.2.1,fun h=>g.2.2 (.inl h)⟩⟩
  ·right
   rw [if_neg (by omega)]
   have:k=ids.length:=by omega
   subst this
   rw [List.take_length] at h2 h4
   refine ⟨_,rfl,.inl ⟨out,rfl,h2,h3,h4,fun i hi=>?_⟩⟩
   rw [← h2,List.mem_map] at hi
   obtain ⟨p,hp,e⟩:=hi
   exact ⟨p,h3 p hp,e⟩) (m,[],0) ⟨0,by omega,rfl,hm,by simp,fun p hp=>(by cases hp),by simp,fun x p=>by rw [hg];simp⟩
 obtain ⟨t,ht,⟨out,rfl,g⟩ | ⟨rfl,g⟩⟩:=this
 ·exact .inl ⟨out,ht,g⟩
 ·exact .inr ⟨ht,g⟩
theorem Ar0 (hl:X.Fit l) (hi:ids.length≤300) (hr:∀ i∈ids,-9223372036854775808≤i∧i≤9223372036854775807):Ol l ids=some (if Ahi l ids then (Ac8 l ids,true) else ([],false)):=by
 obtain ⟨m,h1,h2,h3⟩:=Au2 hl
 unfold Ol
 rw [jn_d,h1,Ah]
 dsimp only
 rw [gd_t (by omega),jn_d]
 rcases Au3 hl hi h2 h3 hr with ⟨out,g1,g2,g3,g4⟩ | ⟨g1,g2⟩
 ·rw [g1,Ah]
  dsimp only
  have ho:Aja out:=Arz (Zy hl) g3 (by rw [g2];exact g4.1)
  have hlen:out.length=ids.length:=by rw [← g2,List.length_map]
  rw [gd_t ⟨by omega,fun x hx=>⟨hx,ho⟩⟩,Au1 ho (Azi hl g2 g3 g4.1),if_pos g4]
 ·rw [g1,Ah]
  dsimp only
  rw [if_neg g2]
/-! ### the document's list -/
theorem Fit.sel (hl:X.Fit l):X.Fit (selL l ids):=hl.filter _
/-! ### the mesh of points -/
def vxL (L:List Aa):List Ae:=L.map fun p=>⟨p.X,p.Y,p.Z⟩
theorem Aog {L:List Aa} (hn:L.length≤1024):lfix (Oa L) (([]:List Ae),0)=some (vxL L):=by
 have:=Du (B:=Oa L) (fun s=>L.length-s.2.toNat) (fun s=>∃ k:Nat,k≤L.length∧s=(vxL (L.take k),(k:Int))) (fun t=>t=vxL L) (fun s hs=>by
  obtain ⟨k,hk,rfl⟩:=hs
  unfold Oa
  dsimp only
  by_cases hk2:k < L.length
  ·left
   rw [if_pos (by omega),Bf hk2,Ah,gd_t (by unfold vxL;rw [List.length_map,List.length_take];omega),w1 hk2 (by omega)]
   exact ⟨_,rfl,⟨k+1,hk2,by unfold vxL;rw [List.take_succ_eq_append_getElem hk2,List.map_append];rfl⟩,by dsimp only;omega⟩
  ·right
   rw [if_neg (by omega)]
   have:k=L.length:=by omega
   subst this
   exact ⟨_,rfl,by rw [List.take_length]⟩) (([]:List Ae),0) ⟨0,by omega,rfl⟩
 obtain ⟨t,ht,rfl⟩:=this
 exact ht
/-- No two of the points at one place. -/
def Tb (L:List Aa):Prop:=L.Pairwise fun p q=>¬ (p.X=q.X∧p.Y=q.Y)
theorem Ar1 {L:List Aa} (hL:X.Fit L):Wl (vxL L)=0∧Tb L∨Wl (vxL L)=61∧¬ Tb L:=by
 have hn:=hL.n
 have h1:¬ 1024 < (vxL L).length:=by unfold vxL;rw [List.length_map];omega
 have h2:∀ x∈vxL L,Nx x:=fun x hx=>by
  unfold vxL at hx
  obtain ⟨p,hp,rfl⟩:=List.mem_map.1 hx
  have:=X.okPt_rng (hL.ok p hp)
  unfold Nx okP pP
  dsimp only
  omega
 have h3:Gb (vxL L)↔Tb L:=by
  unfold Gb Tb vxL
  rw [List.pairwise_map]
  exact Iff.rfl
 unfold Wl
 rw [if_neg h1,if_neg (fun h=>h h2)]
 by_cases c:Tb L
 ·rw [if_neg (fun h=>h (h3.2 c))]
  exact .inl ⟨rfl,c⟩
 ·rw [if_pos (fun h=>c (h3.1 h))]
  exact .inr ⟨rfl,c⟩
end Go.Proofs.YtbkobeeileemjaaGreat
