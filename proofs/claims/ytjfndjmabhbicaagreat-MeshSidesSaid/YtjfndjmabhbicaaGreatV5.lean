/- The reference's apex: the program's loops. -/
import Derived.Test.YtjfndjmabhbicaaGreatV4
import Derived.Test.YtjfndjmabhbicaaGreatE2
namespace Go.Proofs.YtjfndjmabhbicaaGreat
open Go Go.RowKit
variable {v:List Ab} {a b:Int}
theorem Atz {l:List Int} (hl:l.length<=5000) (c:Int):lfix (Je l c) (false,0)=some (decide (c∈l)):=by
 have:=Bk (B:=Je l c) (fun s=>l.length-s.2.toNat) (fun s=>∃ k:Nat,k<=l.length/\s=(decide (c∈l.take k),(k:Int))) (fun t=>t=decide (c∈l)) (fun s hs=>by
  obtain ⟨k,hk,rfl⟩:=hs
  unfold Je
  dsimp only
  by_cases hk2:k < l.length
  ·left
   rw [if_pos (by omega),jn_d,As hk2,Ad,show w64 ((k:Int)+1)=((k+1:Nat):Int) from by rw [Ay (by omega) (by omega)];omega]
   refine ⟨_,?_,⟨k+1,hk2,rfl⟩,by dsimp only;omega⟩
   have e:(c∈l.take (k+1))↔(c∈l.take k\/l[k]=c):=by
    rw [List.take_succ_eq_append_getElem hk2,List.mem_append,List.mem_singleton]
    exact or_congr_right ⟨fun h=>h.symm,fun h=>h.symm⟩
   by_cases h1:c∈l.take k
   ·simp [h1,e]
   ·simp [h1,e]
  ·right
   rw [if_neg (by omega)]
   have:k=l.length:=by omega
   subst this
   exact ⟨_,rfl,by rw [List.take_length]⟩) (false,0) ⟨0,by omega,by simp⟩
 obtain ⟨t,ht,rfl⟩:=this
 exact ht
theorem At0 (hv:Be v) (hn:v.length<=1024) (ha:inN v.length a) {l out:List Int} (hl:Circ v a b l) (hll:l.length<=1024) (ho:out.length<=5000) (hex:∃ y∈l,y ∉ out) :
  ∃ x,lfix (Jf l v a out) (-1,0)=some x/\x∈l/\x ∉ out/\∀ y∈l,y ∉ out->y≠x->0 < crs (plV v a) (plV v x) (plV v y):=by
 refine Bk (B:=Jf l v a out) (fun s=>l.length-s.2.toNat)
  (fun s=>∃ k:Nat,k<=l.length/\s.2=(k:Int)/\((s.1 = -1/\∀ y∈l.take k,y∈out)\/(s.1∈l/\s.1 ∉ out/\∀ y∈l.take k,y ∉ out->y≠s.1->0 < crs (plV v a) (plV v s.1) (plV v y)))) _ (fun s hs=>?_) _ ⟨0,by omega,rfl,.inl ⟨rfl,fun y hy=>by simp at hy⟩⟩
 obtain ⟨x,i⟩:=s
 obtain ⟨k,hk,rfl,h3⟩:=hs
 dsimp only at h3
 unfold Jf
 dsimp only
 by_cases hk2:k < l.length
 ·left
  have w1:w64 ((k:Int)+1)=((k+1:Nat):Int):=by rw [Ay (by omega) (by omega)];omega
  have hmem:l[k]∈l:=List.getElem_mem hk2
  have ts:l.take (k+1)=l.take k++[l[k]]:=List.take_succ_eq_append_getElem hk2
  have sub:∀ y,y∈l.take k->y∈l:=fun y=>List.mem_of_mem_take
  rw [if_pos (by omega),jn_d,As hk2,Ad,jn_d,Atz ho,Ad]
  dsimp only
  rw [jn_d,w1]
  by_cases c1:l[k]∈out
  ·rw [if_pos (by simpa using c1)]
   dsimp only
   rw [if_neg (by simp)]
   refine ⟨_,rfl,⟨k+1,hk2,rfl,?_⟩,by dsimp only;omega⟩
   dsimp only
   rcases h3 with ⟨g1,g2⟩ | ⟨g1,g2,g3⟩
   ·refine .inl ⟨g1,fun y hy=>?_⟩
    rw [ts,List.mem_append,List.mem_singleton] at hy
    rcases hy with hy | rfl
    ·exact g2 y hy
    ·exact c1
   ·refine .inr ⟨g1,g2,fun y hy hno=>?_⟩
    rw [ts,List.mem_append,List.mem_singleton] at hy
    rcases hy with hy | rfl
    ·exact g3 y hy hno
    ·exact absurd c1 hno
  ·rw [if_neg (by simpa using c1)]
   by_cases c2:x < 0
   ·rw [if_pos c2]
    dsimp only
    rw [if_pos rfl]
    refine ⟨_,rfl,⟨k+1,hk2,rfl,.inr ⟨hmem,c1,fun y hy hno hne=>?_⟩⟩,by dsimp only;omega⟩
    dsimp only at hne ⊢
    rw [ts,List.mem_append,List.mem_singleton] at hy
    rcases hy with hy | rfl
    ·rcases h3 with ⟨_,g⟩ | ⟨g,_⟩
     ·exact absurd (g y hy) hno
     ·have:=(hl.mem x g).1.1;omega
    ·exact absurd rfl hne
   ·obtain ⟨g1,g2,g3⟩:x∈l/\x ∉ out/\∀ y∈l.take k,y ∉ out->y≠x->0 < crs (plV v a) (plV v x) (plV v y):=by
     rcases h3 with g | g
     ·omega
     ·exact g
    obtain ⟨xa,fa,pa⟩:=Ek (v:=v) ha
    obtain ⟨xk,fk,pk⟩:=Ek (v:=v) (hl.mem _ hmem).1
    obtain ⟨xx,fx,px⟩:=Ek (v:=v) (hl.mem _ g1).1
    rw [if_neg c2,fa,Ad,fk,Ad,fx,Ad]
    unfold Aj
    rw [Ad,Ad,Ad,pa,pk,px,Nb (hv.ok _ ha) (hv.ok _ (hl.mem _ hmem).1) (hv.ok _ (hl.mem _ g1).1),Ad]
    have sg:0 < Int.sign (crs (plV v a) (plV v l[k]) (plV v x))↔0 < crs (plV v a) (plV v l[k]) (plV v x):=Int.sign_pos_iff
    by_cases c3:0 < crs (plV v a) (plV v l[k]) (plV v x)
    ·dsimp only
     rw [if_pos (by simpa using sg.2 c3)]
     refine ⟨_,rfl,⟨k+1,hk2,rfl,.inr ⟨hmem,c1,fun y hy hno hne=>?_⟩⟩,by dsimp only;omega⟩
     dsimp only at hne ⊢
     rw [ts,List.mem_append,List.mem_singleton] at hy
     rcases hy with hy | rfl
     ·by_cases e:y=x
      ·rw [e];exact c3
      ·exact hl.trans hmem g1 (sub y hy) c3 (g3 y hy hno e)
     ·exact absurd rfl hne
    ·dsimp only
     rw [if_neg (by simpa using fun g=>c3 (sg.1 g))]
     refine ⟨_,rfl,⟨k+1,hk2,rfl,.inr ⟨g1,g2,fun y hy hno hne=>?_⟩⟩,by dsimp only;omega⟩
     dsimp only at hne ⊢
     rw [ts,List.mem_append,List.mem_singleton] at hy
     rcases hy with hy | rfl
     ·exact g3 y hy hno hne
     ·have:=hl.ne0 hv hmem g1 hne
      rw [Rq]
      omega
 ·right
  rw [if_neg (by omega)]
  have:k=l.length:=by omega
  subst this
  rw [List.take_length] at h3
  rcases h3 with ⟨_,g⟩ | g
  ·obtain ⟨y,hy,hno⟩:=hex
   exact absurd (g y hy) hno
  ·exact ⟨_,rfl,g⟩
theorem At1 (hv:Be v) (hn:v.length<=1024) (ha:inN v.length a) {l:List Int} (hl:Circ v a b l) (hll:l.length<=1024) :
  ∃ m,Me v a b l=some (a::b::m)/\Ring v a b m/\(∀ x,x∈m↔x∈l):=by
 have hal:a ∉ l:=fun h=>by have:=(hl.mem a h).2;rw [Bi] at this;omega
 have hbl:b ∉ l:=fun h=>by have:=(hl.mem b h).2;rw [Bb] at this;omega
 unfold Me
 rw [jn_d]
 have:=Bk (B:=Lw l v a) (fun s=>l.length+2-s.length)
  (fun s=>∃ m:List Int,s=a::b::m/\m.Nodup/\(∀ x∈m,x∈l)/\(m.Pairwise fun x y=>0 < crs (plV v a) (plV v x) (plV v y))/\∀ x∈m,∀ y∈l,y ∉ m->0 < crs (plV v a) (plV v x) (plV v y))
  (fun t=>∃ m:List Int,t=a::b::m/\m.Nodup/\(∀ x,x∈m↔x∈l)/\(m.Pairwise fun x y=>0 < crs (plV v a) (plV v x) (plV v y))) (fun s hs=>by
  obtain ⟨m,rfl,h1,h2,h3,h4⟩:=hs
  have hle:=Cy h1 h2
  unfold Lw
  rw [Ay (x:=(l.length:Int)+2) (by omega) (by omega)]
  by_cases c:m.length < l.length
  ·left
   rw [if_pos (by simp only [List.length_cons];omega),jn_d]
   have hex:∃ y∈l,y ∉ a::b::m:=by
    refine Classical.byContradiction fun hno=>?_
    have:∀ y∈l,y∈m:=fun y hy=>by
     refine Classical.byContradiction fun g=>hno ⟨y,hy,fun e=>?_⟩
     rcases List.mem_cons.1 e with rfl | e
     ·exact hal hy
     ·rcases List.mem_cons.1 e with rfl | e
      ·exact hbl hy
      ·exact g e
    have:=Cy hl.nd this
    omega
   obtain ⟨x,e1,e2,e3,e4⟩:=At0 hv hn ha hl hll (out:=a::b::m) (by simp only [List.length_cons];omega) hex
   rw [e1,Ad]
   dsimp only
   rw [gd_t (by simp only [List.length_cons];omega)]
   have hxm:x ∉ m:=fun g=>e3 (by simp [g])
   refine ⟨_,rfl,⟨m++[x],rfl,?_,fun y hy=>?_,?_,fun y hy z hz hzn=>?_⟩,by simp only [List.cons_append,List.length_cons,List.length_append,List.length_nil];omega⟩
   ·rw [List.nodup_append]
    refine ⟨h1,by simp,fun y hy z hz e=>?_⟩
    rw [List.mem_singleton] at hz
    subst hz;subst e
    exact hxm hy
   ·rcases List.mem_append.1 hy with hy | hy
    ·exact h2 y hy
    ·rw [List.mem_singleton] at hy;subst hy;exact e2
   ·rw [List.pairwise_append]
    refine ⟨h3,by simp,fun y hy z hz=>?_⟩
    rw [List.mem_singleton] at hz
    subst hz
    exact h4 y hy z e2 hxm
   ·have hzm:z ∉ m:=fun g=>hzn (by simp [g])
    have hzx:z≠x:=fun g=>hzn (by simp [g])
    rcases List.mem_append.1 hy with hy | hy
    ·exact h4 y hy z hz hzm
    ·rw [List.mem_singleton] at hy
     subst hy
     refine e4 z hz (fun g=>?_) hzx
     rcases List.mem_cons.1 g with rfl | g
     ·exact hal hz
     ·rcases List.mem_cons.1 g with rfl | g
      ·exact hbl hz
      ·exact hzm g
  ·right
   rw [if_neg (by simp only [List.length_cons];omega)]
   refine ⟨_,rfl,m,rfl,h1,fun x=>⟨h2 x,fun hx=>?_⟩,h3⟩
   refine Classical.byContradiction fun g=>?_
   have:(x::m).Nodup:=List.nodup_cons.2 ⟨g,h1⟩
   have:=Cy this (fun y hy=>by rcases List.mem_cons.1 hy with rfl | hy;exact hx;exact h2 y hy)
   rw [List.length_cons] at this
   omega) [a,b] ⟨[],rfl,List.nodup_nil,fun x hx=>(by cases hx),List.Pairwise.nil,fun x hx=>(by cases hx)⟩
 obtain ⟨t,ht,m,rfl,h1,h2,h3⟩:=this
 rw [ht,Ad]
 exact ⟨m,rfl,⟨hl.sub (fun x hx=>(h2 x).1 hx) h1,h3⟩,h2⟩
theorem Awp (hv:Be v) {r:List Int} (hr:r.length<=5000) (hne:r≠[]) (hin:∀ x∈r,inN v.length x) :
  ∃ (m:Nat) (hm:m < r.length),lfix (Hw r v) (0,0)=some (m:Int)/\∀ y∈r,¬ befP (plV v y) (plV v r[m]):=by
 have:=Bk (B:=Hw r v) (fun s=>r.length-s.2.toNat)
  (fun s=>∃ (m k:Nat) (hm:m < r.length),k<=r.length/\s=((m:Int),(k:Int))/\∀ y∈r.take k,¬ befP (plV v y) (plV v r[m])) (fun t=>∃ (m:Nat) (hm:m < r.length),t=(m:Int)/\∀ y∈r,¬ befP (plV v y) (plV v r[m])) (fun s hs=>by
  obtain ⟨m,k,hm,hk,rfl,h⟩:=hs
  unfold Hw
  dsimp only
  by_cases hk2:k < r.length
  ·left
   have ts:r.take (k+1)=r.take k++[r[k]]:=List.take_succ_eq_append_getElem hk2
   obtain ⟨xk,fk,pk⟩:=Ek (v:=v) (hin _ (List.getElem_mem hk2))
   obtain ⟨xm,fm,pm⟩:=Ek (v:=v) (hin _ (List.getElem_mem hm))
   rw [if_pos (by omega),jn_d,As hk2,Ad,fk,Ad,As hm,Ad,fm,Ad]
   unfold Aj
   rw [Ad,Ad,pk,pm,Yj,Ad,show w64 ((k:Int)+1)=((k+1:Nat):Int) from by rw [Ay (by omega) (by omega)];omega]
   by_cases c:befP (plV v r[k]) (plV v r[m])
   ·rw [if_pos (by simpa using c)]
    refine ⟨_,rfl,⟨k,k+1,hk2,hk2,rfl,fun y hy=>?_⟩,by dsimp only;omega⟩
    rw [ts,List.mem_append,List.mem_singleton] at hy
    rcases hy with hy | rfl
    ·exact fun g=>h y hy (Gv g c)
    ·exact Alz _
   ·rw [if_neg (by simpa using c)]
    refine ⟨_,rfl,⟨m,k+1,hm,hk2,rfl,fun y hy=>?_⟩,by dsimp only;omega⟩
    rw [ts,List.mem_append,List.mem_singleton] at hy
    rcases hy with hy | rfl
    ·exact h y hy
    ·exact c
  ·right
   rw [if_neg (by omega)]
   have:k=r.length:=by omega
   subst this
   rw [List.take_length] at h
   exact ⟨_,rfl,m,hm,rfl,h⟩) (0,0) ⟨0,0,List.length_pos_iff.2 hne,by omega,rfl,fun y hy=>by simp at hy⟩
 obtain ⟨t,ht,m,hm,rfl,h⟩:=this
 exact ⟨m,hm,ht,h⟩
theorem Aq6 {α:Type} {l:List α} (h:l.Nodup) {i j:Nat} (hi:i < l.length) (hj:j < l.length) (hne:i≠j):l[i]≠l[j]:=by
 have:=List.pairwise_iff_getElem.1 h
 rcases Nat.lt_trichotomy i j with g | g | g
 ·exact this i j hi hj g
 ·exact absurd g hne
 ·exact fun e=>this j i hj hi g e.symm
theorem At2 {r:List Int} (hr:r.length<=5000) (hn:r.Nodup) {m:Nat} (hm:m < r.length):lfix (Hf r m) (([]:List Int),0)=some (r.filter fun y=>decide (y≠r[m])):=by
 have:=Bk (B:=Hf r m) (fun s=>r.length-s.2.toNat) (fun s=>∃ k:Nat,k<=r.length/\s=((r.take k).filter (fun y=>decide (y≠r[m])),(k:Int))) (fun t=>t=r.filter fun y=>decide (y≠r[m])) (fun s hs=>by
  obtain ⟨k,hk,rfl⟩:=hs
  unfold Hf
  dsimp only
  by_cases hk2:k < r.length
  ·left
   have ts:r.take (k+1)=r.take k++[r[k]]:=List.take_succ_eq_append_getElem hk2
   have w1:w64 ((k:Int)+1)=((k+1:Nat):Int):=by rw [Ay (by omega) (by omega)];omega
   rw [if_pos (by omega),jn_d,w1]
   by_cases c:k=m
   ·subst c
    rw [if_pos rfl]
    refine ⟨_,rfl,⟨k+1,hk2,?_⟩,by dsimp only;omega⟩
    rw [ts,List.filter_append]
    simp
   ·have hne:r[k]≠r[m]:=Aq6 hn hk2 hm c
    have hle:((r.take k).filter fun y=>decide (y≠r[m])).length<=r.length:=by
     have h1:=List.length_filter_le (fun y=>decide (y≠r[m])) (r.take k)
     rw [List.length_take] at h1
     omega
    rw [if_neg (by omega),As hk2,Ad,gd_t (by omega)]
    refine ⟨_,rfl,⟨k+1,hk2,?_⟩,by dsimp only;omega⟩
    rw [ts,List.filter_append]
    simp [hne]
  ·right
   rw [if_neg (by omega)]
   have:k=r.length:=by omega
   subst this
   exact ⟨_,rfl,by rw [List.take_length]⟩) (([]:List Int),0) ⟨0,by omega,by simp⟩
 obtain ⟨t,ht,rfl⟩:=this
 exact ht
theorem tm (x n:Int) (hx:0<=x):Int.tmod x n=x % n:=Int.tmod_eq_emod_of_nonneg hx
theorem Aku (hv:Be v) (hn:v.length<=1024) (ha:inN v.length a) (hb:inN v.length b):∀ (n:Nat) (l:List Int),l.length=n->n<=1024->l≠[]->Ring v a b l ->
  ∃ c,Ans v a b l c/\(lfix (Ed b a v) (a::b::l)=some (.inr c)\/lfix (Ed b a v) (a::b::l)=some (.inl [a,b,c])):=by
 intro n
 induction n with
 | zero=>intro l hl _ hne _;exact absurd (List.eq_nil_of_length_eq_zero hl) hne
 | succ n ih =>
  intro l hl hn1 hne hr
  have hal:a ∉ l:=fun h=>by have:=(hr.circ.mem a h).2;rw [Bi] at this;omega
  have hbl:b ∉ l:=fun h=>by have:=(hr.circ.mem b h).2;rw [Bb] at this;omega
  have hab:a≠b:=fun e=>by
   obtain ⟨x,hx⟩:=List.exists_mem_of_ne_nil l hne
   have:=(hr.circ.mem x hx).2
   rw [e,Px] at this
   omega
  by_cases hn0:n=0
  ·subst hn0
   obtain ⟨c,rfl⟩:=List.length_eq_one_iff.1 hl
   refine ⟨c,⟨by simp,fun d hd hne=>absurd (by simpa using hd) hne⟩,.inr ?_⟩
   rw [Bf]
   unfold Ed
   rw [if_neg (by simp)]
  ·have hlen:(a::b::l).length=n+3:=by simp [hl]
   have hnd:(a::b::l).Nodup:=by
    rw [List.nodup_cons,List.nodup_cons]
    refine ⟨fun h=>?_,hbl,hr.circ.nd⟩
    rcases List.mem_cons.1 h with h | h
    ·exact hab h
    ·exact hal h
   have hin:∀ x∈a::b::l,inN v.length x:=fun x hx=>by
    rcases List.mem_cons.1 hx with rfl | hx
    ·exact ha
    ·rcases List.mem_cons.1 hx with rfl | hx
     ·exact hb
     ·exact (hr.circ.mem x hx).1
   obtain ⟨m,hm,h1,h2⟩:=Awp (r:=a::b::l) hv (by omega) (by simp) hin
   have far:∀ y∈a::b::l,y≠(a::b::l)[m]->befP (plV v (a::b::l)[m]) (plV v y):=fun y hy hne=>by
    rcases Ft (Cp hv (hin _ (List.getElem_mem hm)) (hin y hy) (fun e=>hne e.symm)) with g | g
    ·exact g
    ·exact absurd g (h2 y hy)
   have step:∀ x y z,idx (a::b::l) (Int.tmod (w64 ((w64 ((m:Int)+(((a::b::l).length:Nat):Int)))-1)) (((a::b::l).length:Nat):Int))=some x->idx (a::b::l) (Int.tmod (w64 ((m:Int)+1)) (((a::b::l).length:Nat):Int))=some y->(a::b::l)[m]=z ->
     Ed b a v (a::b::l)=if z=a/\y=b then some (.inr (.inr x)) else if z=b/\x=a then some (.inr (.inr y)) else some (.inl ((a::b::l).filter fun y=>decide (y≠z))):=fun x y z hx hy hz=>by
    unfold Ed
    rw [if_pos (by omega),jn_d,h1,Ad]
    dsimp only
    rw [gd_t (by omega),hx,Ad,gd_t (by omega),hy,Ad,jn_d,As hm,Ad,hz]
    have c:=At2 (r:=a::b::l) (by omega) hnd hm
    rw [hz] at c
    rw [jn_d,Ad,jn_d,c,Ad]
    dsimp only
    have hba:b≠a:=fun e=>hab e.symm
    by_cases e1:z=a
    ·have e3:z≠b:=fun e=>hab (by rw [<- e1,e])
     by_cases e2:y=b
     ·simp [e1,e2]
     ·simp [e1,e2,hab]
    ·by_cases e3:z=b
     ·by_cases e4:x=a
      ·simp [e3,e4,hba]
      ·simp [e3,e4,hba]
     ·simp [e1,e3]
   have m1:Int.tmod (w64 ((w64 ((m:Int)+(((a::b::l).length:Nat):Int)))-1)) (((a::b::l).length:Nat):Int)=((m:Int)+(n+2)) % (n+3):=by
    rw [hlen,Ay (x:=(m:Int)+((n+3:Nat):Int)) (by omega) (by omega),Ay (by omega) (by omega),tm _ _ (by omega)]
    congr 1
    omega
   have m2:Int.tmod (w64 ((m:Int)+1)) (((a::b::l).length:Nat):Int)=((m:Int)+1) % (n+3):=by
    rw [hlen,Ay (by omega) (by omega),tm _ _ (by omega)]
    rfl
   rw [m1,m2] at step
   rw [hlen] at hm
   by_cases cm0:m=0
   ·-- a is the first
    subst cm0
    obtain ⟨l',c,rfl⟩:∃ l' c,l=l' ++ [c]:=⟨l.dropLast,l.getLast hne,(List.dropLast_concat_getLast hne).symm⟩
    have i1:idx (a::b::(l' ++ [c])) (((0:Nat):Int)+(n+2))=some c:=by
     have:(((0:Nat):Int)+(n+2))=((n+2:Nat):Int):=by omega
     rw [this,As (by rw [hlen];omega)]
     have hn':l'.length=n:=by simpa using hl
     congr 1
     simp only [List.getElem_cons_succ]
     rw [List.getElem_append_right (by omega)]
     simp [hn']
    have i2:idx (a::b::(l' ++ [c])) (((0:Nat):Int)+1)=some b:=As (l:=a::b::(l' ++ [c])) (j:=1) (by simp)
    rw [Int.emod_eq_of_lt (by omega) (by omega),Int.emod_eq_of_lt (by omega) (by omega)] at step
    have st:=step c b a i1 i2 rfl
    rw [if_pos ⟨rfl,rfl⟩] at st
    refine ⟨c,hr.ans_a hv ha hb (far b (by simp) (fun e=>hab e.symm)) (fun x hx=>far x (by simp only [List.mem_cons];exact .inr (.inr hx)) (fun e=>?_)),.inl ?_⟩
    ·have e:x=a:=e
     rw [e] at hx
     exact hal hx
    ·rw [Bf,st]
   ·by_cases cm1:m=1
    ·subst cm1
     obtain ⟨c,l',rfl⟩:=List.exists_cons_of_ne_nil hne
     have i1:idx (a::b::c::l') ((((1:Nat):Int)+(n+2)) % (n+3))=some a:=by
      have:(((1:Nat):Int)+(n+2)) % (n+3)=((0:Nat):Int):=by
       rw [show (((1:Nat):Int)+((n:Int)+2))=(n:Int)+3 by omega,Int.emod_self];rfl
      rw [this]
      exact As (l:=a::b::c::l') (j:=0) (by simp)
     have i2:idx (a::b::c::l') ((((1:Nat):Int)+1) % (n+3))=some c:=by
      rw [Int.emod_eq_of_lt (by omega) (by omega)]
      exact As (l:=a::b::c::l') (j:=2) (by simp)
     have st:=step a c b i1 i2 rfl
     rw [if_neg (fun g=>hab g.1.symm),if_pos ⟨rfl,rfl⟩] at st
     refine ⟨c,hr.ans_b hv ha hb (far a (by simp) hab) (fun x hx=>far x (by simp only [List.mem_cons] at hx ⊢;exact .inr (.inr hx)) (fun e=>?_)),.inl ?_⟩
     ·have e:x=b:=e
      rw [e] at hx
      exact hbl hx
     ·rw [Bf,st]
    ·-- one of the others
     obtain ⟨k,rfl⟩:∃ k,m=k+2:=⟨m-2,by omega⟩
     have hk:k < l.length:=by omega
     have hx:(a::b::l)[k+2]'(by rw [hlen];omega)=l[k]:=rfl
     have hxl:l[k]∈l:=List.getElem_mem hk
     have e1:∃ x,idx (a::b::l) ((((k+2:Nat):Int)+(n+2)) % (n+3))=some x:=by
      obtain ⟨j,hj⟩:=Int.eq_ofNat_of_zero_le (Int.emod_nonneg (((k+2:Nat):Int)+(n+2)) (show ((n:Int)+3)≠0 by omega))
      have:=Int.emod_lt_of_pos (((k+2:Nat):Int)+(n+2)) (show (0:Int) < (n:Int)+3 by omega)
      rw [hj] at this ⊢
      exact ⟨_,As (by rw [hlen];omega)⟩
     have e2:∃ x,idx (a::b::l) ((((k+2:Nat):Int)+1) % (n+3))=some x:=by
      obtain ⟨j,hj⟩:=Int.eq_ofNat_of_zero_le (Int.emod_nonneg (((k+2:Nat):Int)+1) (show ((n:Int)+3)≠0 by omega))
      have:=Int.emod_lt_of_pos (((k+2:Nat):Int)+1) (show (0:Int) < (n:Int)+3 by omega)
      rw [hj] at this ⊢
      exact ⟨_,As (by rw [hlen];omega)⟩
     obtain ⟨x,e1⟩:=e1
     obtain ⟨y,e2⟩:=e2
     have st:=step x y l[k] e1 e2 hx
     have na:l[k]≠a:=fun e=>hal (e ▸ hxl)
     have nb:l[k]≠b:=fun e=>hbl (e ▸ hxl)
     rw [if_neg (fun g=>na g.1),if_neg (fun g=>nb g.1),List.filter_cons_of_pos (by simpa using fun e=>na e.symm),List.filter_cons_of_pos (by simpa using fun e=>nb e.symm)] at st
     have hsub:∀ z,z∈(l.filter fun y=>decide (y≠l[k]))↔z∈l/\z≠l[k]:=fun z=>by rw [List.mem_filter];simp
     have hlen2:(l.filter fun y=>decide (y≠l[k])).length=n:=by
      have h3:=hr.circ.nd.erase_eq_filter l[k]
      have h4:(l.filter fun y=>decide (y≠l[k]))=l.filter (fun y=>y != l[k]):=List.filter_congr fun y _=>by by_cases g:y=l[k] <;> simp [g]
      rw [h4,<- h3,List.length_erase_of_mem hxl,hl]
      rfl
     obtain ⟨c,g1,g2⟩:=ih _ hlen2 (by omega) (fun e=>by rw [e] at hlen2;simp at hlen2;omega) ⟨hr.circ.sub (fun z hz=>((hsub z).1 hz).1) (hr.circ.nd.filter _),hr.ord.filter _⟩
     rw [hx] at far
     refine ⟨c,hr.ans_cut hv ha hb hxl (far a (by simp) (fun e=>na e.symm)) (far b (by simp) (fun e=>nb e.symm)) (fun z hz hzn=>far z (by simp [hz]) hzn) hsub g1,?_⟩
     rw [Bf,st]
     exact g2
theorem Aq7 (hv:Be v) (hn:v.length<=1024) (ha:inN v.length a) (hb:inN v.length b) {l:List Int} (hll:l.length<=1024) (hne:l≠[]) (hr:Ring v a b l):∃ c,Iv v a b (a::b::l)=some c/\Ans v a b l c:=by
 obtain ⟨c,h1,h2⟩:=Aku hv hn ha hb l.length l rfl hll hne hr
 refine ⟨c,?_,h1⟩
 unfold Iv
 rw [jn_d]
 rcases h2 with h2 | h2
 ·rw [h2,Ad]
 ·rw [h2,Ad]
  dsimp only
  have hc:=hr.circ.mem c h1.1
  have nca:c≠a:=fun e=>by have:=hc.2;rw [e,Bi] at this;omega
  have ncb:c≠b:=fun e=>by have:=hc.2;rw [e,Bb] at this;omega
  have nab:b≠a:=fun e=>by have:=hc.2;rw [e,Px] at this;omega
  have s0:Ct [a,b,c] a b 0=some (.inl 1):=by
   unfold Ct
   rw [if_pos (by simp),show idx [a,b,c] 0=some a from rfl,Ad,jn_d,if_pos rfl]
   dsimp only
   rw [if_neg (by simp),Ay (by omega) (by omega)]
   rfl
  have s1:Ct [a,b,c] a b 1=some (.inl 2):=by
   unfold Ct
   rw [if_pos (by simp),show idx [a,b,c] 1=some b from rfl,Ad,jn_d,if_neg nab]
   dsimp only
   rw [if_neg (by simp),Ay (by omega) (by omega)]
   rfl
  have s2:Ct [a,b,c] a b 2=some (.inr (.inr c)):=by
   unfold Ct
   rw [if_pos (by simp),show idx [a,b,c] 2=some c from rfl,Ad,jn_d,if_neg nca]
   dsimp only
   rw [if_pos (by simpa using ncb)]
  rw [jn_d,Bf,s0]
  dsimp only
  rw [Bf,s1]
  dsimp only
  rw [Bf,s2,Ad]
end Go.Proofs.YtjfndjmabhbicaaGreat
