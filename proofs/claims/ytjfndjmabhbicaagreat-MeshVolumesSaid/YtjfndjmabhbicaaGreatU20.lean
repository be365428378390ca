/- The reference's apex: the program's loops. -/
import Derived.Test.YtjfndjmabhbicaaGreatV4
import Derived.Test.YtjfndjmabhbicaaGreatE2
import Derived.Test.YtjfndjmabhbicaaGreatU18
namespace Go.Proofs.YtjfndjmabhbicaaGreat
open Go Go.RowKit
variable {v:List Ab} {a b:Int}
theorem Auk {l:List Int} (hl:l.length<=5000) (c:Int):lfix (Jz l c) (false,0)=some (decide (c∈l)):=by
 have:=Bl (B:=Jz l c) (fun s=>l.length-s.2.toNat) (fun s=>∃ k:Nat,k<=l.length/\s=(decide (c∈l.take k),(k:Int))) (fun t=>t=decide (c∈l)) (fun s hs=>by
  obtain ⟨k,hk,rfl⟩:=hs
  unfold Jz
  dsimp only
  by_cases hk2:k < l.length
  ·left
   rw[if_pos (by omega),jn_d,Bb hk2,Ad,show w64 ((k:Int)+1)=((k+1:Nat):Int) from by rw[Ay (by omega) (by omega)];omega]
   refine ⟨_,?_,⟨k+1,hk2,rfl⟩,by dsimp only;omega⟩
   have e:(c∈l.take (k+1))↔(c∈l.take k\/l[k]=c):=by
    rw[List.take_succ_eq_append_getElem hk2,List.mem_append,List.mem_singleton]
    exact or_congr_right ⟨fun h=>h.symm,fun h=>h.symm⟩
   by_cases h1:c∈l.take k
   ·simp[h1,e]
   ·simp[h1,e]
  ·right
   rw[if_neg (by omega)]
   have:k=l.length:=by omega
   subst this
   exact ⟨_,rfl,by rw[List.take_length]⟩) (false,0) ⟨0,by omega,by simp⟩
 obtain ⟨t,ht,rfl⟩:=this
 exact ht
theorem Aul (hv:Bu v) (hn:v.length<=1024) (ha:inN v.length a) {l out:List Int} (hl:Circ v a b l) (hll:l.length<=1024) (ho:out.length<=5000) (hex:∃ y∈l,y ∉ out) :
  ∃ x,lfix (Ka l v a out) (-1,0)=some x/\x∈l/\x ∉ out/\∀ y∈l,y ∉ out->y≠x->0 < crs (plV v a) (plV v x) (plV v y):=by
 refine Bl (B:=Ka l v a out) (fun s=>l.length-s.2.toNat)
  (fun s=>∃ k:Nat,k<=l.length/\s.2=(k:Int)/\((s.1 = -1/\∀ y∈l.take k,y∈out)\/(s.1∈l/\s.1 ∉ out/\∀ y∈l.take k,y ∉ out->y≠s.1->0 < crs (plV v a) (plV v s.1) (plV v y)))) _ (fun s hs=>?_) _ ⟨0,by omega,rfl,.inl ⟨rfl,fun y hy=>by simp at hy⟩⟩
 obtain ⟨x,i⟩:=s
 obtain ⟨k,hk,rfl,h3⟩:=hs
 dsimp only at h3
 unfold Ka
 dsimp only
 by_cases hk2:k < l.length
 ·left
  have w1:w64 ((k:Int)+1)=((k+1:Nat):Int):=by rw[Ay (by omega) (by omega)];omega
  have hmem:l[k]∈l:=List.getElem_mem hk2
  have ts:l.take (k+1)=l.take k++[l[k]]:=List.take_succ_eq_append_getElem hk2
  have sub:∀ y,y∈l.take k->y∈l:=fun y=>List.mem_of_mem_take
  rw[if_pos (by omega),jn_d,Bb hk2,Ad,jn_d,Auk ho,Ad]
  dsimp only
  rw[jn_d,w1]
  by_cases c1:l[k]∈out
  ·rw[if_pos (by simpa using c1)]
   dsimp only
   rw[if_neg (by simp)]
   refine ⟨_,rfl,⟨k+1,hk2,rfl,?_⟩,by dsimp only;omega⟩
   dsimp only
   rcases h3 with ⟨g1,g2⟩ | ⟨g1,g2,g3⟩
   ·refine .inl ⟨g1,fun y hy=>?_⟩
    rw[ts,List.mem_append,List.mem_singleton] at hy
    rcases hy with hy | rfl
    ·exact g2 y hy
    ·exact c1
   ·refine .inr ⟨g1,g2,fun y hy hno=>?_⟩
    rw[ts,List.mem_append,List.mem_singleton] at hy
    rcases hy with hy | rfl
    ·exact g3 y hy hno
    ·exact absurd c1 hno
  ·rw[if_neg (by simpa using c1)]
   by_cases c2:x < 0
   ·rw[if_pos c2]
    dsimp only
    rw[if_pos rfl]
    refine ⟨_,rfl,⟨k+1,hk2,rfl,.inr ⟨hmem,c1,fun y hy hno hne=>?_⟩⟩,by dsimp only;omega⟩
    dsimp only at hne ⊢
    rw[ts,List.mem_append,List.mem_singleton] at hy
    rcases hy with hy | rfl
    ·rcases h3 with ⟨_,g⟩ | ⟨g,_⟩
     ·exact absurd (g y hy) hno
     ·have:=(hl.mem x g).1.1;omega
    ·exact absurd rfl hne
   ·obtain ⟨g1,g2,g3⟩:x∈l/\x ∉ out/\∀ y∈l.take k,y ∉ out->y≠x->0 < crs (plV v a) (plV v x) (plV v y):=by
     rcases h3 with g | g
     ·omega
     ·exact g
    obtain ⟨xa,fa,pa⟩:=If (v:=v) ha
    obtain ⟨xk,fk,pk⟩:=If (v:=v) (hl.mem _ hmem).1
    obtain ⟨xx,fx,px⟩:=If (v:=v) (hl.mem _ g1).1
    rw[if_neg c2,fa,Ad,fk,Ad,fx,Ad]
    unfold Aj
    rw[Ad,Ad,Ad,pa,pk,px,Qs (hv.ok _ ha) (hv.ok _ (hl.mem _ hmem).1) (hv.ok _ (hl.mem _ g1).1),Ad]
    have sg:0 < Int.sign (crs (plV v a) (plV v l[k]) (plV v x))↔0 < crs (plV v a) (plV v l[k]) (plV v x):=Int.sign_pos_iff
    by_cases c3:0 < crs (plV v a) (plV v l[k]) (plV v x)
    ·dsimp only
     rw[if_pos (by simpa using sg.2 c3)]
     refine ⟨_,rfl,⟨k+1,hk2,rfl,.inr ⟨hmem,c1,fun y hy hno hne=>?_⟩⟩,by dsimp only;omega⟩
     dsimp only at hne ⊢
     rw[ts,List.mem_append,List.mem_singleton] at hy
     rcases hy with hy | rfl
     ·by_cases e:y=x
      ·rw[e];exact c3
      ·exact hl.trans hmem g1 (sub y hy) c3 (g3 y hy hno e)
     ·exact absurd rfl hne
    ·dsimp only
     rw[if_neg (by simpa using fun g=>c3 (sg.1 g))]
     refine ⟨_,rfl,⟨k+1,hk2,rfl,.inr ⟨g1,g2,fun y hy hno hne=>?_⟩⟩,by dsimp only;omega⟩
     dsimp only at hne ⊢
     rw[ts,List.mem_append,List.mem_singleton] at hy
     rcases hy with hy | rfl
     ·exact g3 y hy hno hne
     ·have:=hl.ne0 hv hmem g1 hne
      rw[Aex]
      omega
 ·right
  rw[if_neg (by omega)]
  have:k=l.length:=by omega
  subst this
  rw[List.take_length] at h3
  rcases h3 with ⟨_,g⟩ | g
  ·obtain ⟨y,hy,hno⟩:=hex
   exact absurd (g y hy) hno
  ·exact ⟨_,rfl,g⟩
theorem Aum (hv:Bu v) (hn:v.length<=1024) (ha:inN v.length a) {l:List Int} (hl:Circ v a b l) (hll:l.length<=1024) :
  ∃ m,Nk v a b l=some (a::b::m)/\Ring v a b m/\(∀ x,x∈m↔x∈l):=by
 have hal:a ∉ l:=fun h=>by have:=(hl.mem a h).2;rw[Bp] at this;omega
 have hbl:b ∉ l:=fun h=>by have:=(hl.mem b h).2;rw[Bi] at this;omega
 unfold Nk
 rw[jn_d]
 have:=Bl (B:=Mx l v a) (fun s=>l.length+2-s.length)
  (fun s=>∃ m:List Int,s=a::b::m/\m.Nodup/\(∀ x∈m,x∈l)/\(m.Pairwise fun x y=>0 < crs (plV v a) (plV v x) (plV v y))/\∀ x∈m,∀ y∈l,y ∉ m->0 < crs (plV v a) (plV v x) (plV v y))
  (fun t=>∃ m:List Int,t=a::b::m/\m.Nodup/\(∀ x,x∈m↔x∈l)/\(m.Pairwise fun x y=>0 < crs (plV v a) (plV v x) (plV v y))) (fun s hs=>by
  obtain ⟨m,rfl,h1,h2,h3,h4⟩:=hs
  have hle:=Dh h1 h2
  unfold Mx
  rw[Ay (x:=(l.length:Int)+2) (by omega) (by omega)]
  by_cases c:m.length < l.length
  ·left
   rw[if_pos (by simp only[List.length_cons];omega),jn_d]
   have hex:∃ y∈l,y ∉ a::b::m:=by
    refine Classical.byContradiction fun hno=>?_
    have:∀ y∈l,y∈m:=fun y hy=>by
     refine Classical.byContradiction fun g=>hno ⟨y,hy,fun e=>?_⟩
     rcases List.mem_cons.1 e with rfl | e
     ·exact hal hy
     ·rcases List.mem_cons.1 e with rfl | e
      ·exact hbl hy
      ·exact g e
    have:=Dh hl.nd this
    omega
   obtain ⟨x,e1,e2,e3,e4⟩:=Aul hv hn ha hl hll (out:=a::b::m) (by simp only[List.length_cons];omega) hex
   rw[e1,Ad]
   dsimp only
   rw[gd_t (by simp only[List.length_cons];omega)]
   have hxm:x ∉ m:=fun g=>e3 (by simp[g])
   refine ⟨_,rfl,⟨m++[x],rfl,?_,fun y hy=>?_,?_,fun y hy z hz hzn=>?_⟩,by simp only[List.cons_append,List.length_cons,List.length_append,List.length_nil];omega⟩
   ·rw[List.nodup_append]
    refine ⟨h1,by simp,fun y hy z hz e=>?_⟩
    rw[List.mem_singleton] at hz
    subst hz;subst e
    exact hxm hy
   ·rcases List.mem_append.1 hy with hy | hy
    ·exact h2 y hy
    ·rw[List.mem_singleton] at hy;subst hy;exact e2
   ·rw[List.pairwise_append]
    refine ⟨h3,by simp,fun y hy z hz=>?_⟩
    rw[List.mem_singleton] at hz
    subst hz
    exact h4 y hy z e2 hxm
   ·have hzm:z ∉ m:=fun g=>hzn (by simp[g])
    have hzx:z≠x:=fun g=>hzn (by simp[g])
    rcases List.mem_append.1 hy with hy | hy
    ·exact h4 y hy z hz hzm
    ·rw[List.mem_singleton] at hy
     subst hy
     refine e4 z hz (fun g=>?_) hzx
     rcases List.mem_cons.1 g with rfl | g
     ·exact hal hz
     ·rcases List.mem_cons.1 g with rfl | g
      ·exact hbl hz
      ·exact hzm g
  ·right
   rw[if_neg (by simp only[List.length_cons];omega)]
   refine ⟨_,rfl,m,rfl,h1,fun x=>⟨h2 x,fun hx=>?_⟩,h3⟩
   refine Classical.byContradiction fun g=>?_
   have:(x::m).Nodup:=List.nodup_cons.2 ⟨g,h1⟩
   have:=Dh this (fun y hy=>by rcases List.mem_cons.1 hy with rfl | hy;exact hx;exact h2 y hy)
   rw[List.length_cons] at this
   omega) [a,b] ⟨[],rfl,List.nodup_nil,fun x hx=>(by cases hx),List.Pairwise.nil,fun x hx=>(by cases hx)⟩
 obtain ⟨t,ht,m,rfl,h1,h2,h3⟩:=this
 rw[ht,Ad]
 exact ⟨m,rfl,⟨hl.sub (fun x hx=>(h2 x).1 hx) h1,h3⟩,h2⟩
theorem Axp (hv:Bu v) {r:List Int} (hr:r.length<=5000) (hne:r≠[]) (hin:∀ x∈r,inN v.length x) :
  ∃ (m:Nat) (hm:m < r.length),lfix (Iq r v) (0,0)=some (m:Int)/\∀ y∈r,¬ befP (plV v y) (plV v r[m]):=by
 have:=Bl (B:=Iq r v) (fun s=>r.length-s.2.toNat)
  (fun s=>∃ (m k:Nat) (hm:m < r.length),k<=r.length/\s=((m:Int),(k:Int))/\∀ y∈r.take k,¬ befP (plV v y) (plV v r[m])) (fun t=>∃ (m:Nat) (hm:m < r.length),t=(m:Int)/\∀ y∈r,¬ befP (plV v y) (plV v r[m])) (fun s hs=>by
  obtain ⟨m,k,hm,hk,rfl,h⟩:=hs
  unfold Iq
  dsimp only
  by_cases hk2:k < r.length
  ·left
   have ts:r.take (k+1)=r.take k++[r[k]]:=List.take_succ_eq_append_getElem hk2
   obtain ⟨xk,fk,pk⟩:=If (v:=v) (hin _ (List.getElem_mem hk2))
   obtain ⟨xm,fm,pm⟩:=If (v:=v) (hin _ (List.getElem_mem hm))
   rw[if_pos (by omega),jn_d,Bb hk2,Ad,fk,Ad,Bb hm,Ad,fm,Ad]
   unfold Aj
   rw[Ad,Ad,pk,pm,Aey,Ad,show w64 ((k:Int)+1)=((k+1:Nat):Int) from by rw[Ay (by omega) (by omega)];omega]
   by_cases c:befP (plV v r[k]) (plV v r[m])
   ·rw[if_pos (by simpa using c)]
    refine ⟨_,rfl,⟨k,k+1,hk2,hk2,rfl,fun y hy=>?_⟩,by dsimp only;omega⟩
    rw[ts,List.mem_append,List.mem_singleton] at hy
    rcases hy with hy | rfl
    ·exact fun g=>h y hy (Hm g c)
    ·exact Anl _
   ·rw[if_neg (by simpa using c)]
    refine ⟨_,rfl,⟨m,k+1,hm,hk2,rfl,fun y hy=>?_⟩,by dsimp only;omega⟩
    rw[ts,List.mem_append,List.mem_singleton] at hy
    rcases hy with hy | rfl
    ·exact h y hy
    ·exact c
  ·right
   rw[if_neg (by omega)]
   have:k=r.length:=by omega
   subst this
   rw[List.take_length] at h
   exact ⟨_,rfl,m,hm,rfl,h⟩) (0,0) ⟨0,0,List.length_pos_iff.2 hne,by omega,rfl,fun y hy=>by simp at hy⟩
 obtain ⟨t,ht,m,hm,rfl,h⟩:=this
 exact ⟨m,hm,ht,h⟩
theorem Aqm {α:Type} {l:List α} (h:l.Nodup) {i j:Nat} (hi:i < l.length) (hj:j < l.length) (hne:i≠j):l[i]≠l[j]:=by
 have:=List.pairwise_iff_getElem.1 h
 rcases Nat.lt_trichotomy i j with g | g | g
 ·exact this i j hi hj g
 ·exact absurd g hne
 ·exact fun e=>this j i hj hi g e.symm
theorem Aun {r:List Int} (hr:r.length<=5000) (hn:r.Nodup) {m:Nat} (hm:m < r.length):lfix (Hw r m) (([]:List Int),0)=some (r.filter fun y=>decide (y≠r[m])):=by
 have:=Bl (B:=Hw r m) (fun s=>r.length-s.2.toNat) (fun s=>∃ k:Nat,k<=r.length/\s=((r.take k).filter (fun y=>decide (y≠r[m])),(k:Int))) (fun t=>t=r.filter fun y=>decide (y≠r[m])) (fun s hs=>by
  obtain ⟨k,hk,rfl⟩:=hs
  unfold Hw
  dsimp only
  by_cases hk2:k < r.length
  ·left
   have ts:r.take (k+1)=r.take k++[r[k]]:=List.take_succ_eq_append_getElem hk2
   have w1:w64 ((k:Int)+1)=((k+1:Nat):Int):=by rw[Ay (by omega) (by omega)];omega
   rw[if_pos (by omega),jn_d,w1]
   by_cases c:k=m
   ·subst c
    rw[if_pos rfl]
    refine ⟨_,rfl,⟨k+1,hk2,?_⟩,by dsimp only;omega⟩
    rw[ts,List.filter_append]
    simp
   ·have hne:r[k]≠r[m]:=Aqm hn hk2 hm c
    have hle:((r.take k).filter fun y=>decide (y≠r[m])).length<=r.length:=by
     have h1:=List.length_filter_le (fun y=>decide (y≠r[m])) (r.take k)
     rw[List.length_take] at h1
     omega
    rw[if_neg (by omega),Bb hk2,Ad,gd_t (by omega)]
    refine ⟨_,rfl,⟨k+1,hk2,?_⟩,by dsimp only;omega⟩
    rw[ts,List.filter_append]
    simp[hne]
  ·right
   rw[if_neg (by omega)]
   have:k=r.length:=by omega
   subst this
   exact ⟨_,rfl,by rw[List.take_length]⟩) (([]:List Int),0) ⟨0,by omega,by simp⟩
 obtain ⟨t,ht,rfl⟩:=this
 exact ht
theorem tm (x n:Int) (hx:0<=x):Int.tmod x n=x % n:=Int.tmod_eq_emod_of_nonneg hx
theorem Ak6 (hv:Bu v) (hn:v.length<=1024) (ha:inN v.length a) (hb:inN v.length b):∀ (n:Nat) (l:List Int),l.length=n->n<=1024->l≠[]->Ring v a b l ->
  ∃ c,Ans v a b l c/\(lfix (En b a v) (a::b::l)=some (.inr c)\/lfix (En b a v) (a::b::l)=some (.inl [a,b,c])):=by
 intro n
 induction n with
 | zero=>intro l hl _ hne _;exact absurd (List.eq_nil_of_length_eq_zero hl) hne
 | succ n ih=>
  intro l hl hn1 hne hr
  have hal:a ∉ l:=fun h=>by have:=(hr.circ.mem a h).2;rw[Bp] at this;omega
  have hbl:b ∉ l:=fun h=>by have:=(hr.circ.mem b h).2;rw[Bi] at this;omega
  have hab:a≠b:=fun e=>by
   obtain ⟨x,hx⟩:=List.exists_mem_of_ne_nil l hne
   have:=(hr.circ.mem x hx).2
   rw[e,Va] at this
   omega
  by_cases hn0:n=0
  ·subst hn0
   obtain ⟨c,rfl⟩:=List.length_eq_one_iff.1 hl
   refine ⟨c,⟨by simp,fun d hd hne=>absurd (by simpa using hd) hne⟩,.inr ?_⟩
   rw[Bk]
   unfold En
   rw[if_neg (by simp)]
  ·have hlen:(a::b::l).length=n+3:=by simp[hl]
   have hnd:(a::b::l).Nodup:=by
    rw[List.nodup_cons,List.nodup_cons]
    refine ⟨fun h=>?_,hbl,hr.circ.nd⟩
    rcases List.mem_cons.1 h with h | h
    ·exact hab h
    ·exact hal h
   have hin:∀ x∈a::b::l,inN v.length x:=fun x hx=>by
    rcases List.mem_cons.1 hx with rfl | hx
    ·exact ha
    ·rcases List.mem_cons.1 hx with rfl | hx
     ·exact hb
     ·exact (hr.circ.mem x hx).1
   obtain ⟨m,hm,h1,h2⟩:=Axp (r:=a::b::l) hv (by omega) (by simp) hin
   have far:∀ y∈a::b::l,y≠(a::b::l)[m]->befP (plV v (a::b::l)[m]) (plV v y):=fun y hy hne=>by
    rcases Ii (Lb hv (hin _ (List.getElem_mem hm)) (hin y hy) (fun e=>hne e.symm)) with g | g
    ·exact g
    ·exact absurd g (h2 y hy)
   have step:∀ x y z,idx (a::b::l) (Int.tmod (w64 ((w64 ((m:Int)+(((a::b::l).length:Nat):Int)))-1)) (((a::b::l).length:Nat):Int))=some x->idx (a::b::l) (Int.tmod (w64 ((m:Int)+1)) (((a::b::l).length:Nat):Int))=some y->(a::b::l)[m]=z ->
     En b a v (a::b::l)=if z=a/\y=b then some (.inr (.inr x)) else if z=b/\x=a then some (.inr (.inr y)) else some (.inl ((a::b::l).filter fun y=>decide (y≠z))):=fun x y z hx hy hz=>by
    unfold En
    rw[if_pos (by omega),jn_d,h1,Ad]
    dsimp only
    rw[gd_t (by omega),hx,Ad,gd_t (by omega),hy,Ad,jn_d,Bb hm,Ad,hz]
    have c:=Aun (r:=a::b::l) (by omega) hnd hm
    rw[hz] at c
    rw[jn_d,Ad,jn_d,c,Ad]
    dsimp only
    have hba:b≠a:=fun e=>hab e.symm
    by_cases e1:z=a
    ·have e3:z≠b:=fun e=>hab (by rw[<- e1,e])
     by_cases e2:y=b
     ·simp[e1,e2]
     ·simp[e1,e2,hab]
    ·by_cases e3:z=b
     ·by_cases e4:x=a
      ·simp[e3,e4,hba]
      ·simp[e3,e4,hba]
     ·simp[e1,e3]
   have m1:Int.tmod (w64 ((w64 ((m:Int)+(((a::b::l).length:Nat):Int)))-1)) (((a::b::l).length:Nat):Int)=((m:Int)+(n+2)) % (n+3):=by
    rw[hlen,Ay (x:=(m:Int)+((n+3:Nat):Int)) (by omega) (by omega),Ay (by omega) (by omega),tm _ _ (by omega)]
    congr 1
    omega
   have m2:Int.tmod (w64 ((m:Int)+1)) (((a::b::l).length:Nat):Int)=((m:Int)+1) % (n+3):=by
    rw[hlen,Ay (by omega) (by omega),tm _ _ (by omega)]
    rfl
   rw[m1,m2] at step
   rw[hlen] at hm
   by_cases cm0:m=0
   ·-- a is the first
    subst cm0
    obtain ⟨l',c,rfl⟩:∃ l' c,l=l' ++ [c]:=⟨l.dropLast,l.getLast hne,(List.dropLast_concat_getLast hne).symm⟩
    have i1:idx (a::b::(l' ++ [c])) (((0:Nat):Int)+(n+2))=some c:=by
     have:(((0:Nat):Int)+(n+2))=((n+2:Nat):Int):=by omega
     rw[this,Bb (by rw[hlen];omega)]
     have hn':l'.length=n:=by simpa using hl
     congr 1
     simp only[List.getElem_cons_succ]
     rw[List.getElem_append_right (by omega)]
     simp[hn']
    have i2:idx (a::b::(l' ++ [c])) (((0:Nat):Int)+1)=some b:=Bb (l:=a::b::(l' ++ [c])) (j:=1) (by simp)
    rw[Int.emod_eq_of_lt (by omega) (by omega),Int.emod_eq_of_lt (by omega) (by omega)] at step
    have st:=step c b a i1 i2 rfl
    rw[if_pos ⟨rfl,rfl⟩] at st
    refine ⟨c,hr.ans_a hv ha hb (far b (by simp) (fun e=>hab e.symm)) (fun x hx=>far x (by simp only[List.mem_cons];exact .inr (.inr hx)) (fun e=>?_)),.inl ?_⟩
    ·have e:x=a:=e
     rw[e] at hx
     exact hal hx
    ·rw[Bk,st]
   ·by_cases cm1:m=1
    ·subst cm1
     obtain ⟨c,l',rfl⟩:=List.exists_cons_of_ne_nil hne
     have i1:idx (a::b::c::l') ((((1:Nat):Int)+(n+2)) % (n+3))=some a:=by
      have:(((1:Nat):Int)+(n+2)) % (n+3)=((0:Nat):Int):=by
       rw[show (((1:Nat):Int)+((n:Int)+2))=(n:Int)+3 by omega,Int.emod_self];rfl
      rw[this]
      exact Bb (l:=a::b::c::l') (j:=0) (by simp)
     have i2:idx (a::b::c::l') ((((1:Nat):Int)+1) % (n+3))=some c:=by
      rw[Int.emod_eq_of_lt (by omega) (by omega)]
      exact Bb (l:=a::b::c::l') (j:=2) (by simp)
     have st:=step a c b i1 i2 rfl
     rw[if_neg (fun g=>hab g.1.symm),if_pos ⟨rfl,rfl⟩] at st
     refine ⟨c,hr.ans_b hv ha hb (far a (by simp) hab) (fun x hx=>far x (by simp only[List.mem_cons] at hx ⊢;exact .inr (.inr hx)) (fun e=>?_)),.inl ?_⟩
     ·have e:x=b:=e
      rw[e] at hx
      exact hbl hx
     ·rw[Bk,st]
    ·-- one of the others
     obtain ⟨k,rfl⟩:∃ k,m=k+2:=⟨m-2,by omega⟩
     have hk:k < l.length:=by omega
     have hx:(a::b::l)[k+2]'(by rw[hlen];omega)=l[k]:=rfl
     have hxl:l[k]∈l:=List.getElem_mem hk
     have e1:∃ x,idx (a::b::l) ((((k+2:Nat):Int)+(n+2)) % (n+3))=some x:=by
      obtain ⟨j,hj⟩:=Int.eq_ofNat_of_zero_le (Int.emod_nonneg (((k+2:Nat):Int)+(n+2)) (show ((n:Int)+3)≠0 by omega))
      have:=Int.emod_lt_of_pos (((k+2:Nat):Int)+(n+2)) (show (0:Int) < (n:Int)+3 by omega)
      rw[hj] at this ⊢
      exact ⟨_,Bb (by rw[hlen];omega)⟩
     have e2:∃ x,idx (a::b::l) ((((k+2:Nat):Int)+1) % (n+3))=some x:=by
      obtain ⟨j,hj⟩:=Int.eq_ofNat_of_zero_le (Int.emod_nonneg (((k+2:Nat):Int)+1) (show ((n:Int)+3)≠0 by omega))
      have:=Int.emod_lt_of_pos (((k+2:Nat):Int)+1) (show (0:Int) < (n:Int)+3 by omega)
      rw[hj] at this ⊢
      exact ⟨_,Bb (by rw[hlen];omega)⟩
     obtain ⟨x,e1⟩:=e1
     obtain ⟨y,e2⟩:=e2
     have st:=step x y l[k] e1 e2 hx
     have na:l[k]≠a:=fun e=>hal (e ▸ hxl)
     have nb:l[k]≠b:=fun e=>hbl (e ▸ hxl)
     rw[if_neg (fun g=>na g.1),if_neg (fun g=>nb g.1),List.filter_cons_of_pos (by simpa using fun e=>na e.symm),List.filter_cons_of_pos (by simpa using fun e=>nb e.symm)] at st
     have hsub:∀ z,z∈(l.filter fun y=>decide (y≠l[k]))↔z∈l/\z≠l[k]:=fun z=>by rw[List.mem_filter];simp
     have hlen2:(l.filter fun y=>decide (y≠l[k])).length=n:=by
      have h3:=hr.circ.nd.erase_eq_filter l[k]
      have h4:(l.filter fun y=>decide (y≠l[k]))=l.filter (fun y=>y != l[k]):=List.filter_congr fun y _=>by by_cases g:y=l[k] <;> simp[g]
      rw[h4,<- h3,List.length_erase_of_mem hxl,hl]
      rfl
     obtain ⟨c,g1,g2⟩:=ih _ hlen2 (by omega) (fun e=>by rw[e] at hlen2;simp at hlen2;omega) ⟨hr.circ.sub (fun z hz=>((hsub z).1 hz).1) (hr.circ.nd.filter _),hr.ord.filter _⟩
     rw[hx] at far
     refine ⟨c,hr.ans_cut hv ha hb hxl (far a (by simp) (fun e=>na e.symm)) (far b (by simp) (fun e=>nb e.symm)) (fun z hz hzn=>far z (by simp[hz]) hzn) hsub g1,?_⟩
     rw[Bk,st]
     exact g2
theorem Aqn (hv:Bu v) (hn:v.length<=1024) (ha:inN v.length a) (hb:inN v.length b) {l:List Int} (hll:l.length<=1024) (hne:l≠[]) (hr:Ring v a b l):∃ c,Jo v a b (a::b::l)=some c/\Ans v a b l c:=by
 obtain ⟨c,h1,h2⟩:=Ak6 hv hn ha hb l.length l rfl hll hne hr
 refine ⟨c,?_,h1⟩
 unfold Jo
 rw[jn_d]
 rcases h2 with h2 | h2
 ·rw[h2,Ad]
 ·rw[h2,Ad]
  dsimp only
  have hc:=hr.circ.mem c h1.1
  have nca:c≠a:=fun e=>by have:=hc.2;rw[e,Bp] at this;omega
  have ncb:c≠b:=fun e=>by have:=hc.2;rw[e,Bi] at this;omega
  have nab:b≠a:=fun e=>by have:=hc.2;rw[e,Va] at this;omega
  have s0:Da [a,b,c] a b 0=some (.inl 1):=by
   unfold Da
   rw[if_pos (by simp),show idx [a,b,c] 0=some a from rfl,Ad,jn_d,if_pos rfl]
   dsimp only
   rw[if_neg (by simp),Ay (by omega) (by omega)]
   rfl
  have s1:Da [a,b,c] a b 1=some (.inl 2):=by
   unfold Da
   rw[if_pos (by simp),show idx [a,b,c] 1=some b from rfl,Ad,jn_d,if_neg nab]
   dsimp only
   rw[if_neg (by simp),Ay (by omega) (by omega)]
   rfl
  have s2:Da [a,b,c] a b 2=some (.inr (.inr c)):=by
   unfold Da
   rw[if_pos (by simp),show idx [a,b,c] 2=some c from rfl,Ad,jn_d,if_neg nca]
   dsimp only
   rw[if_pos (by simpa using ncb)]
  rw[jn_d,Bk,s0]
  dsimp only
  rw[Bk,s1]
  dsimp only
  rw[Bk,s2,Ad]
section
variable {v:List Ab} {S:Int->Prop} {a b:Int} {L:List Aa}
structure Ij (v:List Ab) (S:Int->Prop) (a b k:Int) (s:List Int):Prop where
 mem:∀ c∈s,inN v.length c/\c < k/\0 < crs (plV v a) (plV v b) (plV v c)/\S c
 none:s=[]->∀ d,inN v.length d->d < k->S d->crs (plV v a) (plV v b) (plV v d)<=0
 top:∀ c∈s,∀ d,inN v.length d->d < k->0 < crs (plV v a) (plV v b) (plV v d)->S d->(inC (plV v a) (plV v b) (plV v c) (plV v d) < 0/\d ∉ s)\/(inC (plV v a) (plV v b) (plV v c) (plV v d)=0/\d∈s)
 nd:s.Nodup
theorem Ij.nil:Ij v S a b 0 []:=⟨fun c h=>(by cases h),fun _ d hd h=>by unfold inN at hd;omega,fun c h=>(by cases h),List.nodup_nil⟩
theorem Ij.skip {k:Int} {s:List Int} (h:Ij v S a b k s) (hk:¬ (0 < crs (plV v a) (plV v b) (plV v k)/\S k)):Ij v S a b (k+1) s:=by
 refine ⟨fun c hc=>?_,fun e d hd hl hs=>?_,fun c hc d hd hl hp hs=>?_,h.nd⟩
 ·obtain ⟨h1,h2,h3⟩:=h.mem c hc
  exact ⟨h1,by omega,h3⟩
 ·by_cases g:d=k
  ·subst g
   refine Classical.byContradiction fun n=>hk ⟨by omega,hs⟩
  ·exact h.none e d hd (by omega) hs
 ·by_cases g:d=k
  ·subst g;exact absurd ⟨hp,hs⟩ hk
  ·exact h.top c hc d hd (by omega) hp hs
theorem Ij.one {k:Int} (hk:inN v.length k) (hp:0 < crs (plV v a) (plV v b) (plV v k)) (hsk:S k) (ho:∀ d,inN v.length d->d < k->0 < crs (plV v a) (plV v b) (plV v d)->S d->inC (plV v a) (plV v b) (plV v k) (plV v d) < 0):Ij v S a b (k+1) [k]:=by
 refine ⟨fun c hc=>?_,fun e=>(by cases e),fun c hc d hd hl hq hs=>?_,by simp⟩
 ·rw[List.mem_singleton] at hc
  subst hc
  exact ⟨hk,by omega,hp,hsk⟩
 ·rw[List.mem_singleton] at hc
  subst hc
  by_cases g:d=c
  ·subst g;exact .inr ⟨Aaw _ _ _,List.mem_singleton.2 rfl⟩
  ·exact .inl ⟨ho d hd (by omega) hq hs,by simpa using g⟩
theorem Ij.first {k:Int} (h:Ij v S a b k []) (hk:inN v.length k) (hp:0 < crs (plV v a) (plV v b) (plV v k)) (hsk:S k):Ij v S a b (k+1) [k] :=
 Ij.one hk hp hsk fun d hd hl hq hs=>by have:=h.none rfl d hd hl hs;omega
theorem Ij.better {k c:Int} {s:List Int} (h:Ij v S a b k s) (hk:inN v.length k) (hp:0 < crs (plV v a) (plV v b) (plV v k)) (hsk:S k) (hc:c∈s) (hi:0 < inC (plV v a) (plV v b) (plV v c) (plV v k)):Ij v S a b (k+1) [k] :=
 Ij.one hk hp hsk fun d hd hl hq hs=>Aav (h.mem c hc).2.2.1 hp hq hi (by rcases h.top c hc d hd hl hq hs with g | g <;> omega)
theorem Ij.same0 {k c x:Int} {s:List Int} (h:Ij v S a b k s) (hc:c∈s) (hx:x∈s):inC (plV v a) (plV v b) (plV v c) (plV v x)=0:=by
 obtain ⟨h1,h2,h3,h4⟩:=h.mem x hx
 rcases h.top c hc x h1 h2 h3 h4 with g | g
 ·exact absurd hx g.2
 ·exact g.1
theorem Ij.worse {k c:Int} {s:List Int} (h:Ij v S a b k s) (hc:c∈s) (hi:inC (plV v a) (plV v b) (plV v c) (plV v k) < 0):Ij v S a b (k+1) s:=by
 refine ⟨fun x hx=>?_,fun e=>(by rw[e] at hc;cases hc),fun x hx d hd hl hp hs=>?_,h.nd⟩
 ·obtain ⟨h1,h2,h3⟩:=h.mem x hx
  exact ⟨h1,by omega,h3⟩
 ·by_cases g:d=k
  ·subst g
   refine .inl ⟨(Qf (h.mem c hc).2.2.1 (h.mem x hx).2.2.1 (h.same0 hc hx)).1 hi,fun e=>?_⟩
   have:=(h.mem d e).2.1;omega
  ·exact h.top x hx d hd (by omega) hp hs
theorem Ij.tie {k c:Int} {s:List Int} (h:Ij v S a b k s) (hk:inN v.length k) (hp:0 < crs (plV v a) (plV v b) (plV v k)) (hsk:S k) (hc:c∈s) (hi:inC (plV v a) (plV v b) (plV v c) (plV v k)=0):Ij v S a b (k+1) (s++[k]):=by
 have same:∀ x∈s,inC (plV v a) (plV v b) (plV v x) (plV v k)=0:=fun x hx=>(Qf (h.mem c hc).2.2.1 (h.mem x hx).2.2.1 (h.same0 hc hx)).2 hi
 refine ⟨fun x hx=>?_,fun e=>(by simp at e),fun x hx d hd hl hq hs=>?_,?_⟩
 ·rcases List.mem_append.1 hx with hx | hx
  ·obtain ⟨h1,h2,h3⟩:=h.mem x hx
   exact ⟨h1,by omega,h3⟩
  ·rw[List.mem_singleton] at hx
   subst hx
   exact ⟨hk,by omega,hp,hsk⟩
 ·by_cases g:d=k
  ·subst g
   refine .inr ⟨?_,by simp⟩
   rcases List.mem_append.1 hx with hx | hx
   ·exact same x hx
   ·rw[List.mem_singleton] at hx
    subst hx
    exact Aaw _ _ _
  ·have hnk:d ∉ [k]:=by simpa using g
   rcases List.mem_append.1 hx with hx | hx
   ·rcases h.top x hx d hd (by omega) hq hs with ⟨g1,g2⟩ | ⟨g1,g2⟩
    ·exact .inl ⟨g1,fun e=>(List.mem_append.1 e).elim g2 hnk⟩
    ·exact .inr ⟨g1,List.mem_append.2 (.inl g2)⟩
   ·rw[List.mem_singleton] at hx
    subst hx
    have q3:=(h.mem c hc).2.2.1
    rcases h.top c hc d hd (by omega) hq hs with ⟨g1,g2⟩ | ⟨g1,g2⟩
    ·exact .inl ⟨(Qf q3 hp hi).1 g1,fun e=>(List.mem_append.1 e).elim g2 hnk⟩
    ·exact .inr ⟨(Qf q3 hp hi).2 g1,List.mem_append.2 (.inl g2)⟩
 ·rw[List.nodup_append]
  refine ⟨h.nd,by simp,fun x hx y hy e=>?_⟩
  rw[List.mem_singleton] at hy
  subst hy
  subst e
  have:=(h.mem x hx).2.1
  omega
theorem Ij.circ {k:Int} {s:List Int} (h:Ij v S a b k s):Circ v a b s :=
 ⟨fun c hc=>⟨(h.mem c hc).1,(h.mem c hc).2.2.1⟩,fun c hc d hd=>h.same0 hc hd,h.nd⟩
def TopS (v:List Ab) (S:Int->Prop) (a b c:Int):Prop:=inN v.length c/\0 < crs (plV v a) (plV v b) (plV v c)/\S c/\∀ d,inN v.length d->0 < crs (plV v a) (plV v b) (plV v d)->S d->d≠c->DH (plV v) (hV v) a b c d < 0
theorem TopS.unique {c d:Int} (h:TopS v S a b c) (k:TopS v S a b d):c=d:=by
 by_cases e:c=d
 ·exact e
 ·have h1:=h.2.2.2 d k.1 k.2.1 k.2.2.1 (fun g=>e g.symm)
  have h2:=k.2.2.2 c h.1 h.2.1 h.2.2.1 e
  rw[Am1] at h2
  omega
theorem Ij.ans (hv:Bu v) (ha:inN v.length a) (hb:inN v.length b) {s l:List Int} {c:Int} (h:Ij v S a b v.length s) (hp:∀ x,x∈l↔x∈s) (hc:Ans v a b l c):TopS v S a b c:=by
 obtain ⟨h1,h2⟩:=hc
 have hcs:=(hp c).1 h1
 obtain ⟨c1,_,c2,c3⟩:=h.mem c hcs
 refine ⟨c1,c2,c3,fun d hd hq hs hne=>?_⟩
 rcases h.top c hcs d hd hd.2 hq hs with g | g
 ·exact Afo hv ha hb c1 hd g.1
 ·exact h2 d ((hp d).2 g.2) hne
theorem Amt (hv:Bu v) (hL:L.length<=1000000) (hok:∀ s∈L,okL v s) {i k:Int} (hi:inN v.length i) (hk:inN v.length k) [Decidable (Seen v L i k)]:Kt v L i k=some (decide (Seen v L i k)):=by
 haveI:∀ a b c d,Decidable (Gq v a b c d):=fun _ _ _ _=>Classical.propDecidable _
 have lp:=Qr (β:=Unit) (γ:=Bool) L.length (by omega) (fun n=>decide (Gq v i k (L.getD n ⟨0,0⟩).a0 (L.getD n ⟨0,0⟩).a1)) (Jy L v i k) () false (fun n hn=>by
  have e:L.getD n ⟨0,0⟩=L[n]:=by simp[hn]
  obtain ⟨q1,q2,_⟩:=hok _ (List.getElem_mem hn)
  obtain ⟨x0,i0,e0⟩:=If q1
  obtain ⟨x1,i1,e1⟩:=If q2
  obtain ⟨x2,i2,e2⟩:=If hi
  obtain ⟨x3,i3,e3⟩:=If hk
  unfold Jy Aj
  rw[if_pos (by omega),Bb hn,Ad,i2,Ad,i3,Ad,i0,Ad,i1,Ad]
  dsimp only
  rw[Ad,Ad,Ad,Ad,e0,e1,e2,e3,Agl (hv.ok _ hi) (hv.ok _ hk) (hv.ok _ q1) (hv.ok _ q2),Ad,e,Be (by omega)]
  by_cases c:Gq v i k L[n].a0 L[n].a1
  ·rw[if_pos (by rw[decide_eq_true_eq];exact c),if_pos (decide_eq_true c)]
  ·rw[if_neg (by rw[decide_eq_true_eq];exact c),if_neg (by simpa using c)]) (by
  unfold Jy
  rw[if_neg (by omega)])
 have iff:((List.range L.length).any fun n=>decide (Gq v i k (L.getD n ⟨0,0⟩).a0 (L.getD n ⟨0,0⟩).a1))=true↔¬ Seen v L i k:=by
  rw[List.any_eq_true]
  constructor
  ·rintro ⟨n,hn,h⟩ g
   have hn:=List.mem_range.1 hn
   have e:L.getD n ⟨0,0⟩=L[n]:=by simp[hn]
   rw[decide_eq_true_eq,e] at h
   exact g _ (List.getElem_mem hn) h
  ·intro g
   unfold Seen at g
   have ⟨s,g⟩:=Classical.not_forall.1 g
   have ⟨hs,g⟩:=Classical.not_imp.1 g
   obtain ⟨n,hn,rfl⟩:=List.getElem_of_mem hs
   have e:L.getD n ⟨0,0⟩=L[n]:=by simp[hn]
   exact ⟨n,List.mem_range.2 hn,by rw[decide_eq_true_eq,e];exact Classical.not_not.1 g⟩
 unfold Kt
 rw[jn_d,lp,Ad]
 by_cases c:Seen v L i k
 ·rw[if_neg (fun g=>(iff.1 g) c),decide_eq_true c]
 ·rw[if_pos (iff.2 c),decide_eq_false c]
def See2 (v:List Ab) (L:List Aa) (a b c:Int):Prop:=Seen v L a c/\Seen v L b c
theorem Ak7 (hv:Bu v) (hn:v.length<=1024) (hL:L.length<=1000000) (hok:∀ s∈L,okL v s) (ha:inN v.length a) (hb:inN v.length b):∃ s,lfix (Kb v a b L) (([]:List Int),0)=some s/\Ij v (See2 v L a b) a b v.length s:=by
 haveI:∀ i k,Decidable (Seen v L i k):=fun _ _=>Classical.propDecidable _
 refine Bl (B:=Kb v a b L) (fun s=>v.length-s.2.toNat) (fun s=>0<=s.2/\s.2<=(v.length:Int)/\Ij v (See2 v L a b) a b s.2 s.1/\(s.1.length:Int)<=s.2) (fun t=>Ij v (See2 v L a b) a b v.length t) (fun s hs=>?_) _ ⟨by simp,by simp,Ij.nil,by simp⟩
 obtain ⟨l,k⟩:=s
 obtain ⟨h1,h2,h3,h4⟩:=hs
 dsimp only at h1 h2 h3 h4
 unfold Kb
 dsimp only
 by_cases hk:k < (v.length:Int)
 ·left
  have hkn:inN v.length k:=⟨h1,hk⟩
  obtain ⟨xa,fa,pa⟩:=If (v:=v) ha
  obtain ⟨xb,fb,pb⟩:=If (v:=v) hb
  obtain ⟨xk,fk,pk⟩:=If (v:=v) hkn
  have w1:w64 (k+1)=k+1:=Ay (by omega) (by omega)
  have sg:Int.sign (crs (plV v a) (plV v b) (plV v k))<=0↔crs (plV v a) (plV v b) (plV v k)<=0:=by
   have:=@Int.sign_eq_one_iff_pos (crs (plV v a) (plV v b) (plV v k))
   have:=Int.sign_trichotomy (crs (plV v a) (plV v b) (plV v k))
   omega
  have go:∀ l',Ij v (See2 v L a b) a b (k+1) l'->(l'.length:Int)<=k+1->∃ s',(some (.inl (l',w64 (k+1))):Option (Sum (List Int × Int) (List Int)))=some (.inl s')/\(0<=s'.2/\s'.2<=(v.length:Int)/\Ij v (See2 v L a b) a b s'.2 s'.1/\(s'.1.length:Int)<=s'.2)/\v.length-s'.2.toNat < v.length-k.toNat:=fun l' g g'=>
   ⟨_,rfl,⟨by dsimp only;omega,by dsimp only;omega,by dsimp only;rw[w1];exact g,by dsimp only;omega⟩,by dsimp only;omega⟩
  rw[if_pos hk,jn_d,jn_d,fa,Ad,fb,Ad,fk,Ad]
  unfold Aj
  rw[Ad,Ad,Ad,pa,pb,pk,Qs (hv.ok _ ha) (hv.ok _ hb) (hv.ok _ hkn),Ad]
  by_cases c1:crs (plV v a) (plV v b) (plV v k)<=0
  ·rw[if_pos (sg.2 c1)]
   dsimp only
   rw[if_pos rfl]
   exact go l (h3.skip (fun g=>by have:=g.1;omega)) (by omega)
  ·have hp:0 < crs (plV v a) (plV v b) (plV v k):=by omega
   rw[if_neg (fun g=>c1 (sg.1 g)),Amt hv hL hok ha hkn,Ad]
   by_cases c3:Seen v L a k
   ·rw[if_pos (decide_eq_true c3),Amt hv hL hok hb hkn,Ad]
    by_cases c4:Seen v L b k
    ·rw[decide_eq_true c4]
     dsimp only
     rw[if_neg (by simp)]
     by_cases c2:l=[]
     ·subst c2
      rw[if_pos (by simp)]
      exact go [k] (h3.first hkn hp ⟨c3,c4⟩) (by simp;omega)
     ·obtain ⟨c,r,rfl⟩:=List.exists_cons_of_ne_nil c2
      have hc:c∈c::r:=by simp
      have hcn:=(h3.mem c hc).1
      obtain ⟨xc,fc,pc⟩:=If (v:=v) hcn
      have i0:idx (c::r) 0=some c:=Bb (l:=c::r) (j:=0) (by simp)
      rw[if_neg (by simp;omega)]
      simp only[i0,fc,Ad,pc,pa,pb,pk]
      rw[Al6 (hv.ok _ ha) (hv.ok _ hb) (hv.ok _ hcn) (hv.ok _ hkn),Ad]
      rcases Int.lt_trichotomy (inC (plV v a) (plV v b) (plV v c) (plV v k)) 0 with g | g | g
      ·rw[Int.sign_eq_neg_one_of_neg g,if_neg (by omega),if_neg (by omega)]
       exact go _ (h3.worse hc g) (by omega)
      ·rw[g,Int.sign_zero,if_neg (by omega),if_pos rfl,gd_t (by omega)]
       exact go _ (h3.tie hkn hp ⟨c3,c4⟩ hc g) (by rw[List.length_append,List.length_singleton];omega)
      ·rw[Int.sign_eq_one_of_pos g,if_pos rfl]
       exact go [k] (h3.better hkn hp ⟨c3,c4⟩ hc g) (by simp;omega)
    ·rw[decide_eq_false c4]
     dsimp only
     rw[if_pos (by simp)]
     exact go l (h3.skip (fun g=>c4 g.2.2)) (by omega)
   ·rw[if_neg (by simpa using c3)]
    dsimp only
    rw[if_pos rfl]
    exact go l (h3.skip (fun g=>c3 g.2.1)) (by omega)
 ·right
  rw[if_neg hk]
  have:k=v.length:=by omega
  subst this
  exact ⟨_,rfl,h3⟩
theorem Aqo (hv:Bu v) (hn:v.length<=1024) (hL:L.length<=1000000) (hok:∀ s∈L,okL v s) (ha:inN v.length a) (hb:inN v.length b):∃ c,Nl v L a b=some c/\((c = -1/\∀ d,inN v.length d->See2 v L a b d->crs (plV v a) (plV v b) (plV v d)<=0)\/TopS v (See2 v L a b) a b c):=by
 obtain ⟨s,h1,h2⟩:=Ak7 hv hn hL hok ha hb
 unfold Nl
 rw[jn_d,h1,Ad]
 dsimp only
 by_cases hs:s=[]
 ·rw[if_pos (by simp[hs])]
  exact ⟨-1,rfl,.inl ⟨rfl,fun d hd=>h2.none hs d hd hd.2⟩⟩
 ·have hpos:=List.length_pos_iff.2 hs
  have hle:s.length<=1024:=by
   have:=Dh (m:=inds v.length) h2.nd (fun x hx=>Le.2 (h2.mem x hx).1)
   rw[Tk] at this
   omega
  rw[if_neg (by omega)]
  obtain ⟨m,g1,g2,g3⟩:=Aum hv hn ha h2.circ hle
  have hm:m≠[]:=fun e=>by
   obtain ⟨x,hx⟩:=List.exists_mem_of_ne_nil s hs
   have:=(g3 x).2 hx
   rw[e] at this
   cases this
  have hml:m.length<=1024:=by
   have:=Dh g2.circ.nd (fun x hx=>(g3 x).1 hx)
   omega
  obtain ⟨c,e1,e2⟩:=Aqn hv hn ha hb hml hm g2
  rw[g1,Ad,e1,Ad]
  exact ⟨c,rfl,.inr (h2.ans hv ha hb g3 e2)⟩
end
section
variable {v:List Ab} {p0 q0:Int} {m:Mp} {L:List Aa}
theorem Mesh.free (hv:Bu v) (h:Tri (plV v) (inN v.length) (apM m)) {a b c:Int} (hk:apM m a b=some c):Free v a b:=fun z hz n1 n2 g=>by
 obtain ⟨va,vb,_,_⟩:=h.ccw _ _ _ hk
 exact Yo h hk hz n1 n2 ⟨g,fun e=>n1 (hv.dist _ _ hz va e),fun e=>n2 (hv.dist _ _ hz vb e)⟩
theorem Aoz (hv:Bu v) (h:Mesh v L m) {X:Int->Int->Int->Prop} (hsub:∀ a b c,X a b c->apM m a b=some c) (hrot:∀ a b c,X a b c->X b c a) (htw:∀ a b c,X a b c->∀ d,inN v.length d->crs (plV v a) (plV v b) (plV v d) < 0->∃ e,X b a e) (hne:∃ a b c,X a b c) {a b c:Int} (hk:apM m a b=some c):X a b c:=by
 haveI:∀ i j k,Decidable (X i j k):=fun _ _ _=>Classical.propDecidable _
 have hok:MapN v.length (m.filter fun q=>decide (X q.1.a0 q.1.a1 q.2)):=⟨List.Pairwise.filter _ h.map.ok,fun q hq=>h.map.key q (List.mem_filter.1 hq).1⟩
 have hap:∀ i j k,apM (m.filter fun q=>decide (X q.1.a0 q.1.a1 q.2)) i j=some k↔X i j k:=fun i j k=>by
  constructor
  ·intro g
   have:=(List.mem_filter.1 (Ed g)).2
   exact of_decide_eq_true (p:=X i j k) this
  ·intro g
   refine Mf hok.ok (List.mem_filter.2 ⟨Ed (hsub _ _ _ g),?_⟩)
   exact decide_eq_true (p:=X i j k) g
 have sub:∀ i j,apM (m.filter fun q=>decide (X q.1.a0 q.1.a1 q.2)) i j≠none->apM m i j≠none:=fun i j g=>by
  obtain ⟨k,hk⟩:=Option.ne_none_iff_exists'.1 g
  rw[hsub _ _ _ ((hap _ _ _).1 hk)];simp
 have ht:Tri (plV v) (inN v.length) (apM (m.filter fun q=>decide (X q.1.a0 q.1.a1 q.2))):=⟨fun i j k g=>(hap _ _ _).2 (hrot _ _ _ ((hap _ _ _).1 g)),fun i j k g=>h.tri.ccw _ _ _ (hsub _ _ _ ((hap _ _ _).1 g)),fun i j k g=>h.tri.emp _ _ _ (hsub _ _ _ ((hap _ _ _).1 g)),fun s i j k g n=>h.tri.cone s i j k (hsub _ _ _ ((hap _ _ _).1 g)) (n.imp (sub _ _) (sub _ _))⟩
 have hc:Cov (plV v) (inN v.length) (apM (m.filter fun q=>decide (X q.1.a0 q.1.a1 q.2))):=fun i j k g n d hd=>by
  refine Classical.byContradiction fun w=>?_
  obtain ⟨e,he⟩:=htw _ _ _ ((hap _ _ _).1 g) d hd (by omega)
  rw[(hap _ _ _).2 he] at n
  cases n
 have hnil:(m.filter fun q=>decide (X q.1.a0 q.1.a1 q.2))≠[]:=fun e=>by
  obtain ⟨x,y,z,hx⟩:=hne
  have:=Ed ((hap _ _ _).2 hx)
  rw[e] at this
  cases this
 obtain ⟨va,vb,vc,T⟩:=h.tri.ccw _ _ _ hk
 obtain ⟨n1,_,_⟩:=h.tri.ne hk
 have fin:(∃ e,X a b e)->X a b c:=fun ⟨e,he⟩=>by
  have:=hsub _ _ _ he
  rw[hk] at this
  cases this
  exact he
 rcases Ahq hv ht va vb n1 (Mesh.free hv h.tri hk) (Aa2 hv hok ht hc hnil va vb) with (g | g) | ⟨x,y,g,g1,g2⟩
 ·obtain ⟨e,he⟩:=Option.ne_none_iff_exists'.1 g
  exact fin ⟨e,(hap _ _ _).1 he⟩
 ·obtain ⟨e,he⟩:=Option.ne_none_iff_exists'.1 g
  exact fin (htw _ _ _ ((hap _ _ _).1 he) c vc (by rw[Ax];omega))
 ·exfalso
  have gx:=h.tri.rot2 (hsub _ _ _ ((hap _ _ _).1 g))
  refine h.tri.cone a x y b gx (.inl (by rw[hk];simp)) ⟨?_,g2⟩
  rw[Bd];omega
def Wp (m:Mp) (t:Ae):Prop:=t.a0 < t.a1/\t.a0 < t.a2/\apM m t.a0 t.a1=some t.a2
theorem Wp.side (hM:Tri (plV v) (inN v.length) (apM m)) {t:Ae} (h:Wp m t) {p q:Int} (hs:Ft t p q):∃ e,apM m p q=some e:=by
 obtain ⟨_,_,h⟩:=h
 rcases hs with ⟨rfl,rfl⟩ | ⟨rfl,rfl⟩ | ⟨rfl,rfl⟩
 ·exact ⟨_,h⟩
 ·exact ⟨_,hM.rot _ _ _ h⟩
 ·exact ⟨_,hM.rot2 h⟩
def okM (v:List Ab) (m:Mp) (p q:Int):Prop:=inN v.length p/\inN v.length q/\(noT v p q\/∃ e,apM m p q=some e)
structure TrM (v:List Ab) (m:Mp) (p0 q0:Int) (op:List Aa) (dn:Int->Int->Prop) (out:List Ae):Prop where
 mem:∀ t∈out,Wp m t
 nd:out.Nodup
 opn:∀ s∈op,okM v m s.a0 s.a1
 don:∀ p q,dn p q->(∃ t∈out,Ft t p q)\/noT v p q
 all:∀ t∈out,∀ p q,Ft t p q->dn p q
 rev:∀ t∈out,∀ p q,Ft t p q->⟨q,p⟩∈op\/dn q p
 sta:⟨p0,q0⟩∈op\/dn p0 q0
 len:op.length<=3*out.length+1
theorem TrM.init {dn:Int->Int->Prop} (h:okM v m p0 q0) (hd:∀ p q,¬ dn p q):TrM v m p0 q0 [⟨p0,q0⟩] dn [] :=
 ⟨fun t h=>(by cases h),List.nodup_nil,fun s hs=>by rw[List.mem_singleton] at hs;subst hs;exact h,fun p q g=>absurd g (hd p q),fun t h=>(by cases h),fun t h=>(by cases h),.inl (by simp),by simp⟩
theorem TrM.skip {op:List Aa} {dn:Int->Int->Prop} {out:List Ae} {s:Aa} (h:TrM v m p0 q0 (op++[s]) dn out) (hs:dn s.a0 s.a1):TrM v m p0 q0 op dn out :=
 ⟨h.mem,h.nd,fun x hx=>h.opn x (by simp[hx]),h.don,h.all,fun t ht p q hp=>(h.rev t ht p q hp).elim (fun g=>(Ye g).imp id fun e=>by subst e;exact hs) .inr,
  h.sta.elim (fun g=>(Ye g).imp id fun e=>by subst e;exact hs) .inr,by have:=h.len;rw[List.length_append,List.length_singleton] at this;omega⟩
theorem TrM.none {op:List Aa} {dn dn':Int->Int->Prop} {out:List Ae} {s:Aa} (h:TrM v m p0 q0 (op++[s]) dn out) (hd:∀ p q,dn' p q↔dn p q\/(p=s.a0/\q=s.a1)) (hn:noT v s.a0 s.a1):TrM v m p0 q0 op dn' out:=by
 have key:TrM v m p0 q0 (op++[s]) dn' out:=⟨h.mem,h.nd,h.opn,fun p q g=>by
  rcases (hd p q).1 g with g | ⟨rfl,rfl⟩
  ·exact h.don p q g
  ·exact .inr hn,fun t ht p q hp=>(hd p q).2 (.inl (h.all t ht p q hp)),fun t ht p q hp=>(h.rev t ht p q hp).imp id fun g=>(hd _ _).2 (.inl g),h.sta.imp id fun g=>(hd _ _).2 (.inl g),h.len⟩
 exact key.skip ((hd _ _).2 (.inr ⟨rfl,rfl⟩))
theorem TrM.more {op:List Aa} {dn dn':Int->Int->Prop} {out:List Ae} {s:Aa} {t:Ae} (h:TrM v m p0 q0 (op++[s]) dn out) (hs:¬ dn s.a0 s.a1) (ht:Wp m t) (hst:Ft t s.a0 s.a1)
  (hd:∀ p q,dn' p q↔dn p q\/Ft t p q) (hx:∀ p q,Ft t p q->okM v m q p):TrM v m p0 q0 (op++[⟨t.a1,t.a0⟩,⟨t.a2,t.a1⟩,⟨t.a0,t.a2⟩]) dn' (out++[t]):=by
 have hin:∀ {p q:Int},⟨p,q⟩∈op++[s]->(⟨p,q⟩:Aa)∈op++[⟨t.a1,t.a0⟩,⟨t.a2,t.a1⟩,⟨t.a0,t.a2⟩]\/dn' p q:=fun {p q} g=>by
  rcases Ye g with g | g
  ·exact .inl (List.mem_append.2 (.inl g))
  ·right
   rw[<- g] at hst
   exact (hd _ _).2 (.inr hst)
 refine ⟨fun x hx=>?_,?_,fun x hx'=>?_,fun p q g=>?_,fun x hx' p q g=>?_,fun x hx' p q g=>?_,?_,?_⟩
 ·rcases List.mem_append.1 hx with hx | hx
  ·exact h.mem x hx
  ·rw[List.mem_singleton] at hx;subst hx;exact ht
 ·rw[List.nodup_append]
  refine ⟨h.nd,by simp,fun x hm y hy e=>?_⟩
  rw[List.mem_singleton] at hy
  rw[hy] at e
  rw[e] at hm
  exact hs (h.all t hm _ _ hst)
 ·rcases List.mem_append.1 hx' with hx' | hx'
  ·exact h.opn x (by simp[hx'])
  ·simp only[List.mem_cons,List.not_mem_nil,or_false] at hx'
   rcases hx' with rfl | rfl | rfl
   ·exact hx t.a0 t.a1 (.inl ⟨rfl,rfl⟩)
   ·exact hx t.a1 t.a2 (.inr (.inl ⟨rfl,rfl⟩))
   ·exact hx t.a2 t.a0 (.inr (.inr ⟨rfl,rfl⟩))
 ·rcases (hd p q).1 g with g | g
  ·rcases h.don p q g with ⟨x,hx,g⟩ | g
   ·exact .inl ⟨x,by simp[hx],g⟩
   ·exact .inr g
  ·exact .inl ⟨t,by simp,g⟩
 ·rcases List.mem_append.1 hx' with hx' | hx'
  ·exact (hd p q).2 (.inl (h.all x hx' p q g))
  ·rw[List.mem_singleton] at hx';subst hx';exact (hd p q).2 (.inr g)
 ·rcases List.mem_append.1 hx' with hx' | hx'
  ·rcases h.rev x hx' p q g with g | g
   ·exact hin g
   ·exact .inr ((hd _ _).2 (.inl g))
  ·rw[List.mem_singleton] at hx'
   subst hx'
   left
   refine List.mem_append.2 (.inr ?_)
   rcases g with ⟨rfl,rfl⟩ | ⟨rfl,rfl⟩ | ⟨rfl,rfl⟩ <;> simp
 ·rcases h.sta with g | g
  ·exact hin g
  ·exact .inr ((hd _ _).2 (.inl g))
 ·have:=h.len
  simp only[List.length_append,List.length_cons,List.length_nil] at this ⊢
  omega
theorem Acj (hM:Tri (plV v) (inN v.length) (apM m)) {out:List Ae} (hmem:∀ t∈out,Wp m t) (hnd:out.Nodup):out.length<=v.length*v.length:=by
 have h1:(out.map fun t=>(t.a0.toNat*v.length+t.a1.toNat)).Nodup:=by
  unfold List.Nodup
  rw[List.pairwise_map]
  refine List.Pairwise.imp_of_mem ?_ hnd
  intro x y hx hy hne e
  obtain ⟨x1,x2,x3⟩:=hmem x hx
  obtain ⟨y1,y2,y3⟩:=hmem y hy
  obtain ⟨x4,x5,_⟩:=hM.ccw _ _ _ x3
  obtain ⟨y4,y5,_⟩:=hM.ccw _ _ _ y3
  unfold inN at x4 x5 y4 y5
  have e1:x.a1.toNat=y.a1.toNat:=by
   have:=congrArg (· % v.length) e
   simp only[Nat.mul_add_mod_self_right] at this
   rwa [Nat.mod_eq_of_lt (by omega),Nat.mod_eq_of_lt (by omega)] at this
  have e2:x.a0.toNat=y.a0.toNat:=by
   rw[e1] at e
   have e':x.a0.toNat*v.length=y.a0.toNat*v.length:=by omega
   exact Nat.eq_of_mul_eq_mul_right (by omega) e'
  have e3:x.a0=y.a0:=by omega
  have e4:x.a1=y.a1:=by omega
  apply hne
  obtain ⟨xa,xb,xc⟩:=x
  obtain ⟨ya,yb,yc⟩:=y
  simp only at e3 e4 x3 y3
  subst e3;subst e4
  rw[Option.some.inj (x3.symm.trans y3)]
 have:=Dh (m:=List.range (v.length*v.length)) h1 fun x hx=>by
  obtain ⟨t,ht,rfl⟩:=List.mem_map.1 hx
  obtain ⟨_,_,t3⟩:=hmem t ht
  obtain ⟨t4,t5,_⟩:=hM.ccw _ _ _ t3
  unfold inN at t4 t5
  rw[List.mem_range]
  have h3:t.a0.toNat+1<=v.length:=by omega
  have:=Nat.mul_le_mul_right v.length h3
  rw[Nat.add_mul] at this
  omega
 rwa [List.length_map,List.length_range] at this
theorem TrM.bound (hM:Tri (plV v) (inN v.length) (apM m)) {op:List Aa} {dn:Int->Int->Prop} {out:List Ae} (h:TrM v m p0 q0 op dn out):out.length<=v.length*v.length:=Acj hM h.mem h.nd
theorem TrM.full (hv:Bu v) (hM:Mesh v L m) {dn:Int->Int->Prop} {out:List Ae} (h:TrM v m p0 q0 [] dn out) (hs:∃ e,apM m p0 q0=some e) (t:Ae):t∈out↔Wp m t:=by
 refine ⟨fun ht=>h.mem t ht,fun ⟨t1,t2,t3⟩=>?_⟩
 have inX:∀ t∈out,∀ a b c,Ft t a b->apM m a b=some c->(a,b,c)∈out.flatMap rots:=fun t ht a b c g hd=>by
  have:=(h.mem t ht).2.2
  refine List.mem_flatMap.2 ⟨t,ht,?_⟩
  unfold rots
  rcases g with ⟨rfl,rfl⟩ | ⟨rfl,rfl⟩ | ⟨rfl,rfl⟩
  ·rw[Option.some.inj (hd.symm.trans this)];simp
  ·rw[Option.some.inj (hd.symm.trans (hM.tri.rot _ _ _ this))];simp
  ·rw[Option.some.inj (hd.symm.trans (hM.tri.rot2 this))];simp
 have memX:∀ a b c:Int,(a,b,c)∈out.flatMap rots->∃ t∈out,Ft t a b/\Ft t b c/\apM m a b=some c:=fun a b c g=>by
  obtain ⟨t,ht,g⟩:=List.mem_flatMap.1 g
  have:=(h.mem t ht).2.2
  unfold rots at g
  simp only[List.mem_cons,List.not_mem_nil,or_false] at g
  rcases g with g | g | g <;> cases g
  ·exact ⟨t,ht,.inl ⟨rfl,rfl⟩,.inr (.inl ⟨rfl,rfl⟩),this⟩
  ·exact ⟨t,ht,.inr (.inl ⟨rfl,rfl⟩),.inr (.inr ⟨rfl,rfl⟩),hM.tri.rot _ _ _ this⟩
  ·exact ⟨t,ht,.inr (.inr ⟨rfl,rfl⟩),.inl ⟨rfl,rfl⟩,hM.tri.rot2 this⟩
 have dnX:∀ p q e,dn p q->apM m p q=some e->(p,q,e)∈out.flatMap rots:=fun p q e g hd=>by
  rcases h.don p q g with ⟨t,ht,g⟩ | g
  ·exact inX t ht p q e g hd
  ·obtain ⟨_,_,k3,k4⟩:=hM.tri.ccw _ _ _ hd
   have:=g e k3
   omega
 have key:=Aoz hv hM (X:=fun a b c=>(a,b,c)∈out.flatMap rots) (fun a b c g=>(memX a b c g).elim fun t g=>g.2.2.2) (fun a b c g=>by
  obtain ⟨t,ht,g1,g2,g3⟩:=memX a b c g
  exact inX t ht b c a g2 (hM.tri.rot _ _ _ g3)) (fun a b c g d hd hlt=>by
  obtain ⟨t,ht,g1,g2,g3⟩:=memX a b c g
  rcases h.rev t ht a b g1 with k | k
  ·cases k
  ·rcases h.don b a k with ⟨t',ht',k'⟩ | k'
   ·obtain ⟨e,he⟩:=(h.mem t' ht').side hM.tri k'
    exact ⟨e,inX t' ht' b a e k' he⟩
   ·have:=k' d hd
    rw[Ax] at this
    omega) (by
  obtain ⟨x,hx⟩:=hs
  rcases h.sta with k | k
  ·cases k
  ·exact ⟨_,_,_,dnX p0 q0 x k hx⟩) t3
 obtain ⟨t',ht',g⟩:=List.mem_flatMap.1 key
 obtain ⟨s1,s2,s3⟩:=h.mem t' ht'
 obtain ⟨ta,tb,tc⟩:=t
 obtain ⟨sa,sb,sc⟩:=t'
 unfold rots at g
 simp only[List.mem_cons,List.not_mem_nil,or_false,Prod.mk.injEq] at g t1 t2 s1 s2
 rcases g with ⟨rfl,rfl,rfl⟩ | ⟨rfl,rfl,rfl⟩ | ⟨rfl,rfl,rfl⟩
 ·exact ht'
 ·omega
 ·omega
end
end Go.Proofs.YtjfndjmabhbicaaGreat
