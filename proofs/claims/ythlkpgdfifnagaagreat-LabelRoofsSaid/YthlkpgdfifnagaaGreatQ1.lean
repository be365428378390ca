import Derived.Test.YthlkpgdfifnagaaGreatE2
set_option maxRecDepth 100000
set_option maxHeartbeats 1000000
namespace Go.Proofs.YthlkpgdfifnagaaGreat
open Go Go.RowKit Tryz
variable {v:List Ad} {a b:Int}
theorem Apn(v:List Ad)(i k:Int):Mg v [] i k=some true:=by
 unfold Mg;rw[jn_d,Ba];unfold Tv;rw[if_neg s_];rfl
theorem Au2(hv:Ig v)(hn:v.length<=1024)(ha:inN v.length a)(hb:inN v.length b):∃ s,lfix (Ll v a b []) (([]:List Int),0)=some s/\Best v a b v.length s:=by
 refine Be (B:=Ll v a b []) (fun s=>v.length-s.2.toNat) (fun s=>0<=s.2/\s.2<=(v.length:Int)/\Best v a b s.2 s.1/\(s.1.length:Int)<=s.2) (fun t=>Best v a b v.length t) (fun s hs=>?_) _ ⟨s_,s_,Best.nil,s_⟩;obtain⟨l,k⟩:=s;obtain⟨h1,h2,h3,h4⟩:=hs;dsimp only at h1 h2 h3 h4;unfold Ll;dsimp only
 by_cases hk:k<(v.length:Int)
 ·left;have hkn:inN v.length k:=⟨h1,hk⟩;obtain⟨xa,fa,pa⟩:=Ru (v:=v) ha;obtain⟨xb,fb,pb⟩:=Ru (v:=v) hb;obtain⟨xk,fk,pk⟩:=Ru (v:=v) hkn;have w1:w64 (k+1)=k+1:=Av oo oo;have sg:Int.sign (crs (plV v a) (plV v b) (plV v k))<=0↔crs (plV v a) (plV v b) (plV v k)<=0:=by
   have:=@Int.sign_eq_one_iff_pos (crs (plV v a) (plV v b) (plV v k));have:=Int.sign_trichotomy (crs (plV v a) (plV v b) (plV v k));omega
  have go:∀ l',Best v a b (k+1) l'->(l'.length:Int)<=k+1->∃ s',(some (.inl (l',w64 (k+1))):Option (Sum (List Int × Int) (List Int)))=some (.inl s')/\(0<=s'.2/\s'.2<=(v.length:Int)/\Best v a b s'.2 s'.1/\(s'.1.length:Int)<=s'.2)/\v.length-s'.2.toNat<v.length-k.toNat:=fun l' g g'=>
   ⟨_,rfl,⟨by dsimp only;omega,by dsimp only;omega,by dsimp only;rw[w1];exact g,by dsimp only;omega⟩,by dsimp only;omega⟩
  rw[if_pos hk,jn_d,jn_d,fa,Ae,fb,Ae,fk,Ae];unfold Au;rw[Ae,Ae,Ae,pa,pb,pk,Aab (hv.ok _ ha) (hv.ok _ hb) (hv.ok _ hkn),Ae]
  by_cases c1:crs (plV v a) (plV v b) (plV v k)<=0
  ·rw[if_pos (sg.2 c1)];dsimp only;rw[if_pos rfl];exact go l (h3.skip c1) oo
  ·have hp:0<crs (plV v a) (plV v b) (plV v k):=oo;rw[if_neg (fun g=>c1 (sg.1 g)),Apn,Ae,if_pos rfl,Apn,Ae];dsimp only;rw[if_neg s_]
   by_cases c2:l=[]
   ·subst c2;rw[if_pos s_];exact go [k] (h3.first hkn hp) (by simp;omega)
   ·obtain⟨c,r,rfl⟩:=List.exists_cons_of_ne_nil c2;have hc:c∈c::r:=s_;have hcn:=(h3.mem c hc).1;obtain⟨xc,fc,pc⟩:=Ru (v:=v) hcn;have i0:idx (c::r) 0=some c:=As (l:=c::r) (j:=0) s_;rw[if_neg (by simp;omega)];simp only[i0,fc,Ae,pc,pa,pb,pk];rw[Aq9 (hv.ok _ ha) (hv.ok _ hb) (hv.ok _ hcn) (hv.ok _ hkn),Ae];rcases Int.lt_trichotomy (inC (plV v a) (plV v b) (plV v c) (plV v k)) 0 with g | g | g
    ·rw[Int.sign_eq_neg_one_of_neg g,if_neg oo,if_neg oo];exact go _ (h3.worse hc g) oo
    ·rw[g,Int.sign_zero,if_neg oo,if_pos rfl,gd_t oo];exact go _ (h3.tie hkn hp hc g) (by rw[List.length_append,List.length_singleton];omega)
    ·rw[Int.sign_eq_one_of_pos g,if_pos rfl];exact go [k] (h3.better hkn hp hc g) (by simp;omega)
 ·right;rw[if_neg hk];have:k=v.length:=oo;subst this;exact⟨_,rfl,h3⟩
theorem Bba{l:List Int}(hl:l.length<=5000)(c:Int):lfix (Lj l c) (false,0)=some (decide (c∈l)):=by
 have:=Be (B:=Lj l c) (fun s=>l.length-s.2.toNat) (fun s=>∃ k:Nat,k<=l.length/\s=(decide (c∈l.take k),(k:Int))) (fun t=>t=decide (c∈l)) (fun s hs=>by
  obtain⟨k,hk,rfl⟩:=hs;unfold Lj;dsimp only
  by_cases hk2:k<l.length
  ·left;rw[if_pos oo,jn_d,As hk2,Ae,show w64 ((k:Int)+1)=((k+1:Nat):Int) from by rw[Av oo oo];omega];refine⟨_,?_,⟨k+1,hk2,rfl⟩,by dsimp only;omega⟩;have e:(c∈l.take (k+1))↔(c∈l.take k\/l[k]=c):=by
    rw[List.take_succ_eq_append_getElem hk2,List.mem_append,List.mem_singleton];exact or_congr_right ⟨fun h=>h.symm,fun h=>h.symm⟩
   by_cases h1:c∈l.take k
   ·simp[h1,e]
   ·simp[h1,e]
  ·right;rw[if_neg oo];have:k=l.length:=oo;subst this;exact⟨_,rfl,by rw[List.take_length]⟩) (false,0) ⟨0,oo,s_⟩
 obtain⟨t,ht,rfl⟩:=this;exact ht
theorem Bbb(hv:Ig v)(hn:v.length<=1024)(ha:inN v.length a){l out:List Int}(hl:Circ v a b l)(hll:l.length<=1024)(ho:out.length<=5000)(hex:∃ y∈l,y ∉ out):
  ∃ x,lfix (Lk l v a out) (-1,0)=some x/\x∈l/\x ∉ out/\∀ y∈l,y ∉ out->y≠x->0<crs (plV v a) (plV v x) (plV v y):=by
 refine Be (B:=Lk l v a out) (fun s=>l.length-s.2.toNat)
  (fun s=>∃ k:Nat,k<=l.length/\s.2=(k:Int)/\((s.1 = -1/\∀ y∈l.take k,y∈out)\/(s.1∈l/\s.1 ∉ out/\∀ y∈l.take k,y ∉ out->y≠s.1->0<crs (plV v a) (plV v s.1) (plV v y)))) _ (fun s hs=>?_) _ ⟨0,oo,rfl,.inl ⟨rfl,fun y hy=>by simp at hy⟩⟩
 obtain⟨x,i⟩:=s;obtain⟨k,hk,rfl,h3⟩:=hs;dsimp only at h3;unfold Lk;dsimp only
 by_cases hk2:k<l.length
 ·left;have w1:w64 ((k:Int)+1)=((k+1:Nat):Int):=by rw[Av oo oo];omega
  have hmem:l[k]∈l:=List.getElem_mem hk2;have ts:l.take (k+1)=l.take k++[l[k]]:=List.take_succ_eq_append_getElem hk2;have sub:∀ y,y∈l.take k->y∈l:=fun y=>List.mem_of_mem_take
  rw[if_pos oo,jn_d,As hk2,Ae,jn_d,Bba ho,Ae];dsimp only;rw[jn_d,w1]
  by_cases c1:l[k]∈out
  ·rw[if_pos (by simpa using c1)];dsimp only;rw[if_neg s_];refine⟨_,rfl,⟨k+1,hk2,rfl,?_⟩,by dsimp only;omega⟩;dsimp only;rcases h3 with⟨g1,g2⟩|⟨g1,g2,g3⟩
   ·refine .inl ⟨g1,fun y hy=>?_⟩;rw[ts,List.mem_append,List.mem_singleton] at hy;rcases hy with hy | rfl
    ·exact g2 y hy
    ·exact c1
   ·refine .inr ⟨g1,g2,fun y hy hno=>?_⟩;rw[ts,List.mem_append,List.mem_singleton] at hy;rcases hy with hy | rfl
    ·exact g3 y hy hno
    ·exact absurd c1 hno
  ·rw[if_neg (by simpa using c1)]
   by_cases c2:x<0
   ·rw[if_pos c2];dsimp only;rw[if_pos rfl];refine⟨_,rfl,⟨k+1,hk2,rfl,.inr ⟨hmem,c1,fun y hy hno hne=>?_⟩⟩,by dsimp only;omega⟩;dsimp only at hne ⊢;rw[ts,List.mem_append,List.mem_singleton] at hy;rcases hy with hy | rfl
    ·rcases h3 with⟨_,g⟩|⟨g,_⟩
     ·exact absurd (g y hy) hno
     ·have:=(hl.mem x g).1.1;omega
    ·exact absurd rfl hne
   ·obtain⟨g1,g2,g3⟩:x∈l/\x ∉ out/\∀ y∈l.take k,y ∉ out->y≠x->0<crs (plV v a) (plV v x) (plV v y):=by
     rcases h3 with g | g
     ·omega
     ·exact g
    obtain⟨xa,fa,pa⟩:=Ru (v:=v) ha;obtain⟨xk,fk,pk⟩:=Ru (v:=v) (hl.mem _ hmem).1;obtain⟨xx,fx,px⟩:=Ru (v:=v) (hl.mem _ g1).1;rw[if_neg c2,fa,Ae,fk,Ae,fx,Ae];unfold Au;rw[Ae,Ae,Ae,pa,pk,px,Aab (hv.ok _ ha) (hv.ok _ (hl.mem _ hmem).1) (hv.ok _ (hl.mem _ g1).1),Ae];have sg:0<Int.sign (crs (plV v a) (plV v l[k]) (plV v x))↔0<crs (plV v a) (plV v l[k]) (plV v x):=Int.sign_pos_iff
    by_cases c3:0<crs (plV v a) (plV v l[k]) (plV v x)
    ·dsimp only;rw[if_pos (by simpa using sg.2 c3)];refine⟨_,rfl,⟨k+1,hk2,rfl,.inr ⟨hmem,c1,fun y hy hno hne=>?_⟩⟩,by dsimp only;omega⟩;dsimp only at hne ⊢;rw[ts,List.mem_append,List.mem_singleton] at hy;rcases hy with hy | rfl
     ·by_cases e:y=x
      ·rw[e];exact c3
      ·exact hl.trans hmem g1 (sub y hy) c3 (g3 y hy hno e)
     ·exact absurd rfl hne
    ·dsimp only;rw[if_neg (by simpa using fun g=>c3 (sg.1 g))];refine⟨_,rfl,⟨k+1,hk2,rfl,.inr ⟨g1,g2,fun y hy hno hne=>?_⟩⟩,by dsimp only;omega⟩;dsimp only at hne ⊢;rw[ts,List.mem_append,List.mem_singleton] at hy;rcases hy with hy | rfl
     ·exact g3 y hy hno hne
     ·have:=hl.ne0 hv hmem g1 hne;rw[Afu];omega
 ·right;rw[if_neg oo];have:k=l.length:=oo;subst this;rw[List.take_length] at h3;rcases h3 with⟨_,g⟩ | g
  ·obtain⟨y,hy,hno⟩:=hex;exact absurd (g y hy) hno
  ·exact⟨_,rfl,g⟩
theorem ring_eq(hv:Ig v)(hn:v.length<=1024)(ha:inN v.length a){l:List Int}(hl:Circ v a b l)(hll:l.length<=1024):
  ∃ m,Qf v a b l=some (a::b::m)/\Ring v a b m/\(∀ x,x∈m↔x∈l):=by
 have hal:a ∉ l:=fun h=>by have:=(hl.mem a h).2;rw[Gs] at this;omega
 have hbl:b ∉ l:=fun h=>by have:=(hl.mem b h).2;rw[Cm] at this;omega
 unfold Qf;rw[jn_d];have:=Be (B:=Pk l v a) (fun s=>l.length+2-s.length)
  (fun s=>∃ m:List Int,s=a::b::m/\m.Nodup/\(∀ x∈m,x∈l)/\(m.Pairwise fun x y=>0<crs (plV v a) (plV v x) (plV v y))/\∀ x∈m,∀ y∈l,y ∉ m->0<crs (plV v a) (plV v x) (plV v y))
  (fun t=>∃ m:List Int,t=a::b::m/\m.Nodup/\(∀ x,x∈m↔x∈l)/\(m.Pairwise fun x y=>0<crs (plV v a) (plV v x) (plV v y))) (fun s hs=>by
  obtain⟨m,rfl,h1,h2,h3,h4⟩:=hs;have hle:=Cf h1 h2;unfold Pk;rw[Av (x:=(l.length:Int)+2) oo oo]
  by_cases c:m.length<l.length
  ·left;rw[if_pos (by simp only[List.length_cons];omega),jn_d];have hex:∃ y∈l,y ∉ a::b::m:=by
    refine Classical.byContradiction fun hno=>?_
    have:∀ y∈l,y∈m:=fun y hy=>by
     refine Classical.byContradiction fun g=>hno ⟨y,hy,fun e=>?_⟩
     rcases List.mem_cons.1 e with rfl | e
     ·exact hal hy
     ·rcases List.mem_cons.1 e with rfl | e
      ·exact hbl hy
      ·exact g e
    have:=Cf hl.nd this;omega
   obtain⟨x,e1,e2,e3,e4⟩:=Bbb hv hn ha hl hll (out:=a::b::m) (by simp only[List.length_cons];omega) hex;rw[e1,Ae];dsimp only;rw[gd_t (by simp only[List.length_cons];omega)];have hxm:x ∉ m:=fun g=>e3 (by simp[g])
   refine⟨_,rfl,⟨m++[x],rfl,?_,fun y hy=>?_,?_,fun y hy z hz hzn=>?_⟩,by simp only[List.cons_append,List.length_cons,List.length_append,List.length_nil];omega⟩
   ·rw[List.nodup_append];refine⟨h1,s_,fun y hy z hz e=>?_⟩;rw[List.mem_singleton] at hz;subst hz;subst e;exact hxm hy
   ·rcases List.mem_append.1 hy with hy | hy
    ·exact h2 y hy
    ·rw[List.mem_singleton] at hy;subst hy;exact e2
   ·rw[List.pairwise_append];refine⟨h3,s_,fun y hy z hz=>?_⟩;rw[List.mem_singleton] at hz;subst hz;exact h4 y hy z e2 hxm
   ·have hzm:z ∉ m:=fun g=>hzn (by simp[g])
    have hzx:z≠x:=fun g=>hzn (by simp[g])
    rcases List.mem_append.1 hy with hy | hy
    ·exact h4 y hy z hz hzm
    ·rw[List.mem_singleton] at hy;subst hy;refine e4 z hz (fun g=>?_) hzx;rcases List.mem_cons.1 g with rfl | g
     ·exact hal hz
     ·rcases List.mem_cons.1 g with rfl | g
      ·exact hbl hz
      ·exact hzm g
  ·right;rw[if_neg (by simp only[List.length_cons];omega)];refine⟨_,rfl,m,rfl,h1,fun x=>⟨h2 x,fun hx=>?_⟩,h3⟩;refine Classical.byContradiction fun g=>?_
   have:(x::m).Nodup:=List.nodup_cons.2 ⟨g,h1⟩;have:=Cf this (fun y hy=>by rcases List.mem_cons.1 hy with rfl | hy;exact hx;exact h2 y hy);rw[List.length_cons] at this;omega) [a,b] ⟨[],rfl,List.nodup_nil,fun x hx=>(by cases hx),List.Pairwise.nil,fun x hx=>(by cases hx)⟩
 obtain⟨t,ht,m,rfl,h1,h2,h3⟩:=this;rw[ht,Ae];exact⟨m,rfl,⟨hl.sub (fun x hx=>(h2 x).1 hx) h1,h3⟩,h2⟩
theorem Bd9(hv:Ig v){r:List Int}(hr:r.length<=5000)(hne:r≠[])(hin:∀ x∈r,inN v.length x):
  ∃ (m:Nat) (hm:m<r.length),lfix (Jn r v) (0,0)=some (m:Int)/\∀ y∈r,¬ befP (plV v y) (plV v r[m]):=by
 have:=Be (B:=Jn r v) (fun s=>r.length-s.2.toNat)
  (fun s=>∃ (m k:Nat) (hm:m<r.length),k<=r.length/\s=((m:Int),(k:Int))/\∀ y∈r.take k,¬ befP (plV v y) (plV v r[m])) (fun t=>∃ (m:Nat) (hm:m<r.length),t=(m:Int)/\∀ y∈r,¬ befP (plV v y) (plV v r[m])) (fun s hs=>by
  obtain⟨m,k,hm,hk,rfl,h⟩:=hs;unfold Jn;dsimp only
  by_cases hk2:k<r.length
  ·left;have ts:r.take (k+1)=r.take k++[r[k]]:=List.take_succ_eq_append_getElem hk2;obtain⟨xk,fk,pk⟩:=Ru (v:=v) (hin _ (List.getElem_mem hk2));obtain⟨xm,fm,pm⟩:=Ru (v:=v) (hin _ (List.getElem_mem hm));rw[if_pos oo,jn_d,As hk2,Ae,fk,Ae,As hm,Ae,fm,Ae];unfold Au;rw[Ae,Ae,pk,pm,Aj4,Ae,show w64 ((k:Int)+1)=((k+1:Nat):Int) from by rw[Av oo oo];omega]
   by_cases c:befP (plV v r[k]) (plV v r[m])
   ·rw[if_pos (by simpa using c)];refine⟨_,rfl,⟨k,k+1,hk2,hk2,rfl,fun y hy=>?_⟩,by dsimp only;omega⟩;rw[ts,List.mem_append,List.mem_singleton] at hy;rcases hy with hy | rfl
    ·exact fun g=>h y hy (Kv g c)
    ·exact Atb _
   ·rw[if_neg (by simpa using c)];refine⟨_,rfl,⟨m,k+1,hm,hk2,rfl,fun y hy=>?_⟩,by dsimp only;omega⟩;rw[ts,List.mem_append,List.mem_singleton] at hy;rcases hy with hy | rfl
    ·exact h y hy
    ·exact c
  ·right;rw[if_neg oo];have:k=r.length:=oo;subst this;rw[List.take_length] at h;exact⟨_,rfl,m,hm,rfl,h⟩) (0,0) ⟨0,0,List.length_pos_iff.2 hne,oo,rfl,fun y hy=>by simp at hy⟩
 obtain⟨t,ht,m,hm,rfl,h⟩:=this;exact⟨m,hm,ht,h⟩
theorem Ayq{α:Type}{l:List α}(h:l.Nodup){i j:Nat}(hi:i<l.length)(hj:j<l.length)(hne:i≠j):l[i]≠l[j]:=by
 have:=List.pairwise_iff_getElem.1 h;rcases Nat.lt_trichotomy i j with g | g | g
 ·exact this i j hi hj g
 ·exact absurd g hne
 ·exact fun e=>this j i hj hi g e.symm
theorem Bbc{r:List Int}(hr:r.length<=5000)(hn:r.Nodup){m:Nat}(hm:m<r.length):lfix (Is r m) (([]:List Int),0)=some (r.filter fun y=>decide (y≠r[m])):=by
 have:=Be (B:=Is r m) (fun s=>r.length-s.2.toNat) (fun s=>∃ k:Nat,k<=r.length/\s=((r.take k).filter (fun y=>decide (y≠r[m])),(k:Int))) (fun t=>t=r.filter fun y=>decide (y≠r[m])) (fun s hs=>by
  obtain⟨k,hk,rfl⟩:=hs;unfold Is;dsimp only
  by_cases hk2:k<r.length
  ·left;have ts:r.take (k+1)=r.take k++[r[k]]:=List.take_succ_eq_append_getElem hk2;have w1:w64 ((k:Int)+1)=((k+1:Nat):Int):=by rw[Av oo oo];omega
   rw[if_pos oo,jn_d,w1]
   by_cases c:k=m
   ·subst c;rw[if_pos rfl];refine⟨_,rfl,⟨k+1,hk2,?_⟩,by dsimp only;omega⟩;rw[ts,List.filter_append];simp
   ·have hne:r[k]≠r[m]:=Ayq hn hk2 hm c;have hle:((r.take k).filter fun y=>decide (y≠r[m])).length<=r.length:=by
     have h1:=List.length_filter_le (fun y=>decide (y≠r[m])) (r.take k);rw[List.length_take] at h1;omega
    rw[if_neg oo,As hk2,Ae,gd_t oo];refine⟨_,rfl,⟨k+1,hk2,?_⟩,by dsimp only;omega⟩;rw[ts,List.filter_append];simp[hne]
  ·right;rw[if_neg oo];have:k=r.length:=oo;subst this;exact⟨_,rfl,by rw[List.take_length]⟩) (([]:List Int),0) ⟨0,oo,s_⟩
 obtain⟨t,ht,rfl⟩:=this;exact ht
theorem tm(x n:Int)(hx:0<=x):Int.tmod x n=x % n:=Int.tmod_eq_emod_of_nonneg hx
theorem Arc(hv:Ig v)(hn:v.length<=1024)(ha:inN v.length a)(hb:inN v.length b):∀ (n:Nat) (l:List Int),l.length=n->n<=1024->l≠[]->Ring v a b l ->
  ∃ c,Ans v a b l c/\(lfix (Eu b a v) (a::b::l)=some (.inr c)\/lfix (Eu b a v) (a::b::l)=some (.inl [a,b,c])):=by
 intro n
 induction n with
 | zero=>intro l hl _ hne _;exact absurd (List.eq_nil_of_length_eq_zero hl) hne
 | succ n ih=>
  intro l hl hn1 hne hr;have hal:a ∉ l:=fun h=>by have:=(hr.circ.mem a h).2;rw[Gs] at this;omega
  have hbl:b ∉ l:=fun h=>by have:=(hr.circ.mem b h).2;rw[Cm] at this;omega
  have hab:a≠b:=fun e=>by
   obtain⟨x,hx⟩:=List.exists_mem_of_ne_nil l hne;have:=(hr.circ.mem x hx).2;rw[e,Aac] at this;omega
  by_cases hn0:n=0
  ·subst hn0;obtain⟨c,rfl⟩:=List.length_eq_one_iff.1 hl;refine⟨c,⟨s_,fun d hd hne=>absurd (by simpa using hd) hne⟩,.inr ?_⟩;rw[Ba];unfold Eu;rw[if_neg s_]
  ·have hlen:(a::b::l).length=n+3:=by simp[hl]
   have hnd:(a::b::l).Nodup:=by
    rw[List.nodup_cons,List.nodup_cons];refine⟨fun h=>?_,hbl,hr.circ.nd⟩;rcases List.mem_cons.1 h with h | h
    ·exact hab h
    ·exact hal h
   have hin:∀ x∈a::b::l,inN v.length x:=fun x hx=>by
    rcases List.mem_cons.1 hx with rfl | hx
    ·exact ha
    ·rcases List.mem_cons.1 hx with rfl | hx
     ·exact hb
     ·exact (hr.circ.mem x hx).1
   obtain⟨m,hm,h1,h2⟩:=Bd9 (r:=a::b::l) hv oo s_ hin;have far:∀ y∈a::b::l,y≠(a::b::l)[m]->befP (plV v (a::b::l)[m]) (plV v y):=fun y hy hne=>by
    rcases Pg (Aaa hv (hin _ (List.getElem_mem hm)) (hin y hy) (fun e=>hne e.symm)) with g | g
    ·exact g
    ·exact absurd g (h2 y hy)
   have step:∀ x y z,idx (a::b::l) (Int.tmod (w64 ((w64 ((m:Int)+(((a::b::l).length:Nat):Int)))-1)) (((a::b::l).length:Nat):Int))=some x->idx (a::b::l) (Int.tmod (w64 ((m:Int)+1)) (((a::b::l).length:Nat):Int))=some y->(a::b::l)[m]=z ->
     Eu b a v (a::b::l)=if z=a/\y=b then some (.inr (.inr x)) else if z=b/\x=a then some (.inr (.inr y)) else some (.inl ((a::b::l).filter fun y=>decide (y≠z))):=fun x y z hx hy hz=>by
    unfold Eu;rw[if_pos oo,jn_d,h1,Ae];dsimp only;rw[gd_t oo,hx,Ae,gd_t oo,hy,Ae,jn_d,As hm,Ae,hz];have c:=Bbc (r:=a::b::l) oo hnd hm;rw[hz] at c;rw[jn_d,Ae,jn_d,c,Ae];dsimp only;have hba:b≠a:=fun e=>hab e.symm
    by_cases e1:z=a
    ·have e3:z≠b:=fun e=>hab (by rw[<- e1,e])
     by_cases e2:y=b
     ·simp[e1,e2]
     ·simp[e1,e2,hab]
    ·by_cases e3:z=b
     ·by_cases e4:x=a
      ·simp[e3,e4,hba]
      ·simp[e3,e4,hba]
     ·simp[e1,e3]
   have m1:Int.tmod (w64 ((w64 ((m:Int)+(((a::b::l).length:Nat):Int)))-1)) (((a::b::l).length:Nat):Int)=((m:Int)+(n+2)) % (n+3):=by
    rw[hlen,Av (x:=(m:Int)+((n+3:Nat):Int)) oo oo,Av oo oo,tm _ _ oo];congr 1;omega
   have m2:Int.tmod (w64 ((m:Int)+1)) (((a::b::l).length:Nat):Int)=((m:Int)+1) % (n+3):=by
    rw[hlen,Av oo oo,tm _ _ oo];rfl
   rw[m1,m2] at step;rw[hlen] at hm
   by_cases cm0:m=0
   ·-- a is the first
    subst cm0;obtain⟨l',c,rfl⟩:∃ l' c,l=l' ++ [c]:=⟨l.dropLast,l.getLast hne,(List.dropLast_concat_getLast hne).symm⟩;have i1:idx (a::b::(l' ++ [c])) (((0:Nat):Int)+(n+2))=some c:=by
     have:(((0:Nat):Int)+(n+2))=((n+2:Nat):Int):=oo;rw[this,As (by rw[hlen];omega)];have hn':l'.length=n:=by simpa using hl
     congr 1;simp only[List.getElem_cons_succ];rw[List.getElem_append_right oo];simp[hn']
    have i2:idx (a::b::(l' ++ [c])) (((0:Nat):Int)+1)=some b:=As (l:=a::b::(l' ++ [c])) (j:=1) s_;rw[Int.emod_eq_of_lt oo oo,Int.emod_eq_of_lt oo oo] at step;have st:=step c b a i1 i2 rfl;rw[if_pos ⟨rfl,rfl⟩] at st;refine⟨c,hr.ans_a hv ha hb (far b s_ (fun e=>hab e.symm)) (fun x hx=>far x (by simp only[List.mem_cons];exact .inr (.inr hx)) (fun e=>?_)),.inl ?_⟩
    ·have e:x=a:=e;rw[e] at hx;exact hal hx
    ·rw[Ba,st]
   ·by_cases cm1:m=1
    ·subst cm1;obtain⟨c,l',rfl⟩:=List.exists_cons_of_ne_nil hne;have i1:idx (a::b::c::l') ((((1:Nat):Int)+(n+2)) % (n+3))=some a:=by
      have:(((1:Nat):Int)+(n+2)) % (n+3)=((0:Nat):Int):=by
       rw[show (((1:Nat):Int)+((n:Int)+2))=(n:Int)+3 by omega,Int.emod_self];rfl
      rw[this];exact As (l:=a::b::c::l') (j:=0) s_
     have i2:idx (a::b::c::l') ((((1:Nat):Int)+1) % (n+3))=some c:=by
      rw[Int.emod_eq_of_lt oo oo];exact As (l:=a::b::c::l') (j:=2) s_
     have st:=step a c b i1 i2 rfl;rw[if_neg (fun g=>hab g.1.symm),if_pos ⟨rfl,rfl⟩] at st;refine⟨c,hr.ans_b hv ha hb (far a s_ hab) (fun x hx=>far x (by simp only[List.mem_cons] at hx ⊢;exact .inr (.inr hx)) (fun e=>?_)),.inl ?_⟩
     ·have e:x=b:=e;rw[e] at hx;exact hbl hx
     ·rw[Ba,st]
    ·-- one of the others
     obtain⟨k,rfl⟩:∃ k,m=k+2:=⟨m-2,oo⟩;have hk:k<l.length:=oo;have hx:(a::b::l)[k+2]'(by rw[hlen];omega)=l[k]:=rfl;have hxl:l[k]∈l:=List.getElem_mem hk;have e1:∃ x,idx (a::b::l) ((((k+2:Nat):Int)+(n+2)) % (n+3))=some x:=by
      obtain⟨j,hj⟩:=Int.eq_ofNat_of_zero_le (Int.emod_nonneg (((k+2:Nat):Int)+(n+2)) (show ((n:Int)+3)≠0 by omega));have:=Int.emod_lt_of_pos (((k+2:Nat):Int)+(n+2)) (show (0:Int)<(n:Int)+3 by omega);rw[hj] at this ⊢;exact⟨_,As (by rw[hlen];omega)⟩
     have e2:∃ x,idx (a::b::l) ((((k+2:Nat):Int)+1) % (n+3))=some x:=by
      obtain⟨j,hj⟩:=Int.eq_ofNat_of_zero_le (Int.emod_nonneg (((k+2:Nat):Int)+1) (show ((n:Int)+3)≠0 by omega));have:=Int.emod_lt_of_pos (((k+2:Nat):Int)+1) (show (0:Int)<(n:Int)+3 by omega);rw[hj] at this ⊢;exact⟨_,As (by rw[hlen];omega)⟩
     obtain⟨x,e1⟩:=e1;obtain⟨y,e2⟩:=e2;have st:=step x y l[k] e1 e2 hx;have na:l[k]≠a:=fun e=>hal (e ▸ hxl)
     have nb:l[k]≠b:=fun e=>hbl (e ▸ hxl)
     rw[if_neg (fun g=>na g.1),if_neg (fun g=>nb g.1),List.filter_cons_of_pos (by simpa using fun e=>na e.symm),List.filter_cons_of_pos (by simpa using fun e=>nb e.symm)] at st;have hsub:∀ z,z∈(l.filter fun y=>decide (y≠l[k]))↔z∈l/\z≠l[k]:=fun z=>by rw[List.mem_filter];simp
     have hlen2:(l.filter fun y=>decide (y≠l[k])).length=n:=by
      have h3:=hr.circ.nd.erase_eq_filter l[k];have h4:(l.filter fun y=>decide (y≠l[k]))=l.filter (fun y=>y != l[k]):=List.filter_congr fun y _=>by by_cases g:y=l[k] <;> simp[g]
      rw[h4,<- h3,List.length_erase_of_mem hxl,hl];rfl
     obtain⟨c,g1,g2⟩:=ih _ hlen2 oo (fun e=>by rw[e] at hlen2;simp at hlen2;omega) ⟨hr.circ.sub (fun z hz=>((hsub z).1 hz).1) (hr.circ.nd.filter _),hr.ord.filter _⟩;rw[hx] at far;refine⟨c,hr.ans_cut hv ha hb hxl (far a s_ (fun e=>na e.symm)) (far b s_ (fun e=>nb e.symm)) (fun z hz hzn=>far z (by simp[hz]) hzn) hsub g1,?_⟩;rw[Ba,st];exact g2
theorem Ayr(hv:Ig v)(hn:v.length<=1024)(ha:inN v.length a)(hb:inN v.length b){l:List Int}(hll:l.length<=1024)(hne:l≠[])(hr:Ring v a b l):∃ c,Km v a b (a::b::l)=some c/\Ans v a b l c:=by
 obtain⟨c,h1,h2⟩:=Arc hv hn ha hb l.length l rfl hll hne hr;refine⟨c,?_,h1⟩;unfold Km;rw[jn_d];rcases h2 with h2 | h2
 ·rw[h2,Ae]
 ·rw[h2,Ae];dsimp only;have hc:=hr.circ.mem c h1.1;have nca:c≠a:=fun e=>by have:=hc.2;rw[e,Gs] at this;omega
  have ncb:c≠b:=fun e=>by have:=hc.2;rw[e,Cm] at this;omega
  have nab:b≠a:=fun e=>by have:=hc.2;rw[e,Aac] at this;omega
  have s0:Cz [a,b,c] a b 0=some (.inl 1):=by
   unfold Cz;rw[if_pos s_,show idx [a,b,c] 0=some a from rfl,Ae,jn_d,if_pos rfl];dsimp only;rw[if_neg s_,Av oo oo];rfl
  have s1:Cz [a,b,c] a b 1=some (.inl 2):=by
   unfold Cz;rw[if_pos s_,show idx [a,b,c] 1=some b from rfl,Ae,jn_d,if_neg nab];dsimp only;rw[if_neg s_,Av oo oo];rfl
  have s2:Cz [a,b,c] a b 2=some (.inr (.inr c)):=by
   unfold Cz;rw[if_pos s_,show idx [a,b,c] 2=some c from rfl,Ae,jn_d,if_neg nca];dsimp only;rw[if_pos (by simpa using ncb)]
  rw[jn_d,Ba,s0];dsimp only;rw[Ba,s1];dsimp only;rw[Ba,s2,Ae]
theorem Anl(hv:Ig v)(hn:v.length<=1024)(ha:inN v.length a)(hb:inN v.length b):∃ c,Qg v [] a b=some c/\((c = -1/\∀ d,inN v.length d->crs (plV v a) (plV v b) (plV v d)<=0)\/Top v a b c):=by
 obtain⟨s,h1,h2⟩:=Au2 hv hn ha hb;unfold Qg;rw[jn_d,h1,Ae];dsimp only
 by_cases hs:s=[]
 ·rw[if_pos (by simp[hs])];exact⟨-1,rfl,.inl ⟨rfl,fun d hd=>h2.none hs d hd hd.2⟩⟩
 ·have hpos:=List.length_pos_iff.2 hs;have hle:s.length<=1024:=by
   have:=Cf (m:=inds v.length) h2.nd (fun x hx=>Wb.2 (h2.mem x hx).1);rw[Zp] at this;omega
  rw[if_neg oo];obtain⟨m,g1,g2,g3⟩:=ring_eq hv hn ha h2.circ hle;have hm:m≠[]:=fun e=>by
   obtain⟨x,hx⟩:=List.exists_mem_of_ne_nil s hs;have:=(g3 x).2 hx;rw[e] at this;cases this
  have hml:m.length<=1024:=by
   have:=Cf g2.circ.nd (fun x hx=>(g3 x).1 hx);omega
  obtain⟨c,e1,e2⟩:=Ayr hv hn ha hb hml hm g2;rw[g1,Ae,e1,Ae];exact⟨c,rfl,.inr (h2.ans hv ha hb g3 e2)⟩
end Go.Proofs.YthlkpgdfifnagaaGreat
namespace Go.Proofs.YthlkpgdfifnagaaGreat
open Go Go.RowKit Tryz
theorem Aer:Qw prog 101 [iq 0,iq 0,iq 0]:=⟨_,zeroValue101,rfl⟩
instance:Ud prog 101 [iq 0,iq 0,iq 0]:=⟨Aer⟩
instance(x0:Int)(x1:Int)(x2:Int)(x3:Int):Rc prog 22 1 [(0,.agg #[iq x0,iq x1,iq x2,iq x3])] 108 [iq x0,iq x1,iq x2,iq x3]:=⟨fun w=>kr⟩
noncomputable def Hz(p0:Ah)(p1:Ah):Int->Option (Sum Int (Sum Unit Bool)):=fun s0=>
 if s0<3 then (bnd (idx [p0.a0,p0.a1,p0.a2] s0) fun x0=>
 bnd (idx [p1.a0,p1.a1,p1.a2] s0) fun x1=>
 if x0=x1 then (some (.inl (w64 (s0+1))))
 else (bnd (idx [p0.a0,p0.a1,p0.a2] s0) fun x2=>
 bnd (idx [p1.a0,p1.a1,p1.a2] s0) fun x3=>
 some (.inr (.inr (decide (x2<x3))))))
 else (some (.inr (.inl ())))
noncomputable def Ql(p0:Ah)(p1:Ah):Option Bool :=
 jn (fun (s2:Unit)=>
 some false)
 (fun j2=>bnd (lfix (Hz p0 p1) 0) fun t0=>
 (match t0 with
 | (.inl z0)=>j2 z0
 | (.inr z0)=>some z0
 ))
noncomputable def Iu  : (List Ah × Int)->Option (Sum (List Ah × Int) (List Ah)):=fun s0=>
 jn (fun (s1:Bool)=>
 if s1=true then (bnd (idx s0.1 (w64 (s0.2-1))) fun x0=>
 bnd (idx s0.1 s0.2) fun x1=>
 bnd (idx s0.1 s0.2) fun x2=>
 bnd (idx (setI s0.1 s0.2 x0) (w64 (s0.2-1))) fun x3=>
 some (.inl (setI (setI s0.1 s0.2 x0) (w64 (s0.2-1)) x1,w64 (s0.2-1))))
 else (some (.inr s0.1)))
 (fun j0=>if 0<s0.2 then (bnd (idx s0.1 s0.2) fun x4=>
 bnd (idx s0.1 (w64 (s0.2-1))) fun x5=>
 bnd (Ql x4 x5) fun r0=>
 j0 r0)
 else (j0 false))
noncomputable def Iv(p0:List Ah):(List Ah × Int)->Option (Sum (List Ah × Int) (List Ah)):=fun s0=>
 if s0.2<(p0.length:Int) then (jn (fun (s1:List Ah)=>
 some (.inl (s1,w64 (s0.2+1))))
 (fun j0=>bnd (lfix Iu (s0.1,s0.2)) fun t0=>
 j0 t0))
 else (some (.inr s0.1))
noncomputable def Nf(p0:List Ah):Option (List Ah):=
 jn (fun (s2:List Ah)=>
 some s2)
 (fun j2=>bnd (lfix (Iv p0) (p0,0)) fun t0=>
 j2 t0)
noncomputable def Fz  : (Int × Int × Int)->Option (Sum (Int × Int × Int) (Int × Int × Int)):=fun s0=>
 jn (fun (s6:Bool)=>
 if s6=true then (some (.inl (s0.2.1,s0.2.2,s0.1)))
 else (some (.inr (s0.1,s0.2.1,s0.2.2))))
 (fun j6=>if s0.2.1<s0.1 then (j6 true)
 else (j6 (decide (s0.2.2<s0.1))))
noncomputable def Ng(p0:Ah):Option Ah :=
 jn (fun (s2:Int × Int × Int)=>
 some (⟨s2.1,s2.2.1,s2.2.2⟩:Ah))
 (fun j2=>bnd (lfix Fz (p0.a0,p0.a1,p0.a2)) fun t0=>
 j2 t0)
noncomputable def Qm(p0:Ab)(p1:Ab):Option Bool :=
 jn (fun (s2:Bool)=>
 some s2)
 (fun j2=>if p0.a0<p1.a0 then (j2 true)
 else (if p0.a0=p1.a0 then (j2 (decide (p0.a1<p1.a1)))
 else (j2 false)))
noncomputable def Hk(p0:List Ab):(List Ab × Int)->Option (Sum (List Ab × Int) (List Ab)):=fun s0=>
 if s0.2<(p0.length:Int) then (bnd (idx p0 s0.2) fun x0=>
 bnd (idx p0 s0.2) fun x1=>
 bnd (idx p0 s0.2) fun x2=>
 bnd (idx p0 s0.2) fun x3=>
 gd ((s0.1.length+1)*16<=140737488355328)<|
 some (.inl (s0.1++[(⟨min x0.a0 x1.a1,max x2.a0 x3.a1⟩:Ab)],w64 (s0.2+1))))
 else (some (.inr s0.1))
noncomputable def Gk  : (List Ab × Int)->Option (Sum (List Ab × Int) (List Ab)):=fun s0=>
 jn (fun (s1:Bool)=>
 if s1=true then (bnd (idx s0.1 (w64 (s0.2-1))) fun x0=>
 bnd (idx s0.1 s0.2) fun x1=>
 bnd (idx s0.1 s0.2) fun x2=>
 bnd (idx (setI s0.1 s0.2 x0) (w64 (s0.2-1))) fun x3=>
 some (.inl (setI (setI s0.1 s0.2 x0) (w64 (s0.2-1)) x1,w64 (s0.2-1))))
 else (some (.inr s0.1)))
 (fun j0=>if 0<s0.2 then (bnd (idx s0.1 s0.2) fun x4=>
 bnd (idx s0.1 (w64 (s0.2-1))) fun x5=>
 bnd (Qm x4 x5) fun r0=>
 j0 r0)
 else (j0 false))
noncomputable def Fd(s3:List Ab):(List Ab × Int)->Option (Sum (List Ab × Int) (List Ab)):=fun s0=>
 if s0.2<(s3.length:Int) then (jn (fun (s1:List Ab)=>
 some (.inl (s1,w64 (s0.2+1))))
 (fun j0=>bnd (lfix Gk (s0.1,s0.2)) fun t0=>
 j0 t0))
 else (some (.inr s0.1))
noncomputable def Di(p0:List Ab):Option (List Ab):=
 jn (fun (s3:List Ab)=>
 jn (fun (s0:List Ab)=>
 some s0)
 (fun j0=>bnd (lfix (Fd s3) (s3,0)) fun t0=>
 j0 t0))
 (fun j3=>bnd (lfix (Hk p0) (([]:List Ab),0)) fun t1=>
 j3 t1)
noncomputable def Ct(r0:Ah)(s0:List Ab × (List (Ab × Bool)) × List Ah):(List Ab × (List (Ab × Bool)) × Int)->Option (Sum (List Ab × (List (Ab × Bool)) × Int) (List Ab × (List (Ab × Bool)) × List Ah)):=fun s1=>
 if s1.2.2<3 then (bnd (idx [r0.a0,r0.a1,r0.a2] s1.2.2) fun x0=>
 bnd (idx [r0.a0,r0.a1,r0.a2] (Int.tmod (w64 (s1.2.2+1)) 3)) fun x1=>
 gd ((-9223372036854775808<=x0/\x0<=9223372036854775807)/\(-9223372036854775808<=x1/\x1<=9223372036854775807))<|
 gd (s1.2.1.length<9223372036854775807)<|
 gd ((s1.1.length+1)*16<=140737488355328)<|
 some (.inl (s1.1++[(⟨x1,x0⟩:Ab)],mput s1.2.1 ((⟨x0,x1⟩:Ab)) true,w64 (s1.2.2+1))))
 else (some (.inr (s1.1,s1.2.1,s0.2.2++[r0])))
noncomputable def Ga(p0:List Ad)(p1:List Ab):(List Ab × (List (Ab × Bool)) × List Ah)->Option (Sum (List Ab × (List (Ab × Bool)) × List Ah) (List Ah)):=fun s0=>
 if 0<(s0.1.length:Int) then (bnd (idx s0.1 (w64 ((s0.1.length:Int)-1))) fun x0=>
 gd (0<=(w64 ((s0.1.length:Int)-1))/\(w64 ((s0.1.length:Int)-1))<=(s0.1.length:Int))<|
 gd ((-9223372036854775808<=x0.a0/\x0.a0<=9223372036854775807)/\(-9223372036854775808<=x0.a1/\x0.a1<=9223372036854775807))<|
 bnd (some ((mget s0.2.1 x0).getD false)) fun x1=>
 if x1=true then (some (.inl (List.take (Int.toNat (w64 ((s0.1.length:Int)-1))) s0.1,s0.2.1,s0.2.2)))
 else (bnd (Qg p0 p1 x0.a0 x0.a1) fun r0=>
 if r0<0 then (gd ((-9223372036854775808<=x0.a0/\x0.a0<=9223372036854775807)/\(-9223372036854775808<=x0.a1/\x0.a1<=9223372036854775807))<|
 gd (s0.2.1.length<9223372036854775807)<|
 some (.inl (List.take (Int.toNat (w64 ((s0.1.length:Int)-1))) s0.1,mput s0.2.1 x0 true,s0.2.2)))
 else (bnd (Ng (⟨x0.a0,x0.a1,r0⟩:Ah)) fun r1=>
 gd ((s0.2.2.length+1)*24<=140737488355328)<|
 bnd (lfix (Ct r1 s0) (List.take (Int.toNat (w64 ((s0.1.length:Int)-1))) s0.1,s0.2.1,0)) fun t0=>
 some (.inl t0))))
 else (some (.inr s0.2.2))
noncomputable def Iw(p0:List Ad)(p1:List Ab):Option (List Ah):=
 jn (fun (s3:Bool)=>
 if s3=true then (some ([]:List Ah))
 else (bnd (Ou p0) fun r0=>
 bnd (Qh p0 r0 false) fun r1=>
 jn (fun (s9:List Ah)=>
 bnd (Nf s9) fun r2=>
 some r2)
 (fun j9=>bnd (lfix (Ga p0 p1) ([(⟨r0,r1⟩:Ab)],([]:List (Ab × Bool)),([]:List Ah))) fun t0=>
 j9 t0)))
 (fun j3=>if (p0.length:Int)<3 then (j3 true)
 else (bnd (Qi p0) fun r4=>
 j3 r4))
noncomputable def Js(p0:List Ad):(List Ad × Int)->Option (Sum (List Ad × Int) (List Ad)):=fun s0=>
 if s0.2<(p0.length:Int) then (bnd (idx p0 s0.2) fun x0=>
 gd ((s0.1.length+1)*32<=140737488355328)<|
 some (.inl (s0.1++[x0],w64 (s0.2+1))))
 else (some (.inr s0.1))
noncomputable def Kn(p0:List Ad)(p1:List Ab):Option (Aq × Int):=
 bnd (Sk p0 p1) fun r2=>
 if r2=0 then (jn (fun (s7:List Ad)=>
 bnd (Di p1) fun r0=>
 bnd (Iw p0 r0) fun r1=>
 some ((⟨s7,r1,r0⟩:Aq),0))
 (fun j7=>bnd (lfix (Js p0) (([]:List Ad),0)) fun t0=>
 j7 t0))
 else (some ((⟨([]:List Ad),([]:List Ah),([]:List Ab)⟩:Aq),r2))
instance(p0:Ah)(p1:Ah):Con (Ql p0 p1) prog 249 (fun _ vs=>vs=[.agg #[iq p0.a0,iq p0.a1,iq p0.a2],.agg #[iq p1.a0,iq p1.a1,iq p1.a2]]) (fun _ r=>fun v Ln=>v = .bool r/\Ln=[]/\True):=⟨by
 rintro _ _ r rfl hx w hK;unfold Ql at hx;have:=dl 4 [0,0,1,0,0,1,0] [0,1,2,3,4,5,6];have:=dl 5 [0,0,1,0,0,1,0,2] [0,1,2,3,4,5,6,7];refine CtS ntmps249 results249 ?_;try (refine pre ?_;intros;rename_i hx)
 refine Bh ?_;try (refine pre ?_;intros;rename_i hx)
 apply Jr (γ:=Unit) hx [] (fun s2 y2 f=>f) [999] (fun s2 y2 l=>l);exact kk
 ·intro s2 y2 hx;exact au
 ·intro _ hx;try (refine pre ?_;intros;rename_i hx)
  apply Lr (γ:=Unit) hx [2,3] (fun s0 y0 f=>(6,iq s0)::f) [0,1,999] (fun s0 y0 l=>l) ();exact kk;exact sk;intro s0 y0 x0 hx _;unfold Hz at hx;exact au⟩
instance(p0:List Ah):ConK (Nf p0) prog 201 (fun ug0 ug1 ug2 B0_0 d0_0 ua0 uc0 vs Lp=>vs=[.slice B0_0 p0.length d0_0]/\Lp=[.r B0_0 p0.length d0_0 101 3 (p0.flatMap Ax)]/\ug0=0/\ug1=0/\ug2=0/\ua0=none/\uc0=0/\True) (fun B0_0 d0_0 ua0 uc0 K K2=>True) (fun ug0 ug1 ug2 B0_0 d0_0 ua0 uc0 K r=>fun v Ln=>∃ A0 c0,v = .slice A0 r.length c0/\Ln=[.r A0 r.length c0 101 3 (r.flatMap Ax)]/\True):=⟨by
 rintro _ _ _ B0_0 d0_0 _ _ K K2 _ _ r ⟨rfl,rfl,rfl,rfl,rfl,rfl,rfl,-⟩ ⟨-⟩ hx;unfold Nf at hx;have:=dl 5 [0,0,0,0,0,0,1,0,0,0,0,1,2,0] [0,1,2,3,4,5,6,7,8,9,10,11,12,13];have:=dl 7 [0,0,0,0,0,0,0,0,0,1,0,0,0,1,0,3,0,3] [0,1,2,3,4,5,6,7,8,9,10,11,12,13,14,15,16,17];refine CtSK ntmps201 results201 ?_;intro Lf hKf;have hKg:=hKf.r;replace hKf:=hKf.l;refine Lz ?_;try (refine pre ?_;intros;rename_i hx)
 refine Bh ?_;try (refine pre ?_;intros;rename_i hx)
 apply Jr (γ:=Option Addr × Nat) hx [] (fun s2 y2 f=>(0,.slice y2.1 s2.length y2.2)::f) [1001] (fun s2 y2 l=>.r y2.1 s2.length y2.2 101 3 (s2.flatMap Ax)::l);exact kk
 ·intro s2 y2 hx;exact au
 ·intro _ hx;try (refine pre ?_;intros;rename_i hx)
  apply Lr (γ:=Option Addr × Nat) hx [6] (fun s0 y0 f=>(0,.slice y0.1 s0.1.length y0.2)::(7,iq s0.2)::f) [1001] (fun s0 y0 l=>.r y0.1 s0.1.length y0.2 101 3 (s0.1.flatMap Ax)::l) (_,_);exact kk;exact sk;intro s0 y0 x0 hx _;unfold Iv at hx;try (refine pre ?_;intros;rename_i hx)
  refine Cq1 (s:=8) hx rfl (fun _ hx=>?_) (fun _ hx=>?_)
  ·try (refine pre ?_;intros;rename_i hx)
   apply Jr (γ:=Option Addr × Nat) hx [6,7] (fun s1 y1 f=>(0,.slice y1.1 s1.length y1.2)::f) [1001] (fun s1 y1 l=>.r y1.1 s1.length y1.2 101 3 (s1.flatMap Ax)::l);exact kk
   ·intro s1 y1 hx;exact au
   ·intro _ hx;try (refine pre ?_;intros;rename_i hx)
    apply Lr (γ:=Option Addr × Nat) hx [6,7] (fun s3 y3 f=>(0,.slice y3.1 s3.1.length y3.2)::(4,iq s3.2)::f) [1001] (fun s3 y3 l=>.r y3.1 s3.1.length y3.2 101 3 (s3.1.flatMap Ax)::l) (_,_);exact kk;exact sk;intro s3 y3 x1 hx _;unfold Iu at hx;try (refine pre ?_;intros;rename_i hx)
    refine Bh ?_;try (refine pre ?_;intros;rename_i hx)
    apply Jr (γ:=Unit) hx [0,4,6,7] (fun s4 y4 f=>(24,.bool s4)::f) [0,1001] (fun s4 y4 l=>l);exact kk
    ·intro s4 y4 hx;exact au
    ·intro _ hx;exact au
  ·exact au⟩
instance(p0:Ah):Con (Ng p0) prog 200 (fun _ vs=>vs=[.agg #[iq p0.a0,iq p0.a1,iq p0.a2]]) (fun _ r=>fun v Ln=>v = .agg #[iq r.a0,iq r.a1,iq r.a2]/\Ln=[]/\True):=⟨by
 rintro _ _ r rfl hx w hK;unfold Ng at hx;refine CtS ntmps200 results200 ?_;try (refine pre ?_;intros;rename_i hx)
 refine Bh ?_;try (refine pre ?_;intros;rename_i hx)
 apply Jr (γ:=Nat) hx [2] (fun s2 y2 f=>(1,.pointer (some ⟨y2,0,none⟩))::f) [0,999] (fun s2 y2 l=>.m y2 101 [iq s2.1,iq s2.2.1,iq s2.2.2]::l);exact kk
 ·intro s2 y2 hx;exact au
 ·intro _ hx;try (refine pre ?_;intros;rename_i hx)
  apply Lr (γ:=Nat) hx [2] (fun s0 y0 f=>(1,.pointer (some ⟨y0,0,none⟩))::f) [0,999] (fun s0 y0 l=>.m y0 101 [iq s0.1,iq s0.2.1,iq s0.2.2]::l) _;exact kk;exact sk;intro s0 y0 x0 hx _;unfold Fz at hx;exact au⟩
instance(p0:Ab)(p1:Ab):Con (Qm p0 p1) prog 195 (fun _ vs=>vs=[.agg #[iq p0.a0,iq p0.a1],.agg #[iq p1.a0,iq p1.a1]]) (fun _ r=>fun v Ln=>v = .bool r/\Ln=[]/\True):=⟨by
 rintro _ _ r rfl hx w hK;unfold Qm at hx;refine CtS ntmps195 results195 ?_;exact au⟩
instance Acp(p0:List Ab):Con (Di p0) prog 137 (fun K vs=>∃ E0 G0,vs=[.slice E0 p0.length G0]/\Has K E0 p0.length G0 2 Ar p0/\True) (fun _ r=>fun v Ln=>∃ A0 c0,v = .slice A0 r.length c0/\Ln=[.r A0 r.length c0 103 2 (r.flatMap Ar)]/\True):=⟨by
 rintro K _ r ⟨E0,G0,rfl,ha0,-⟩ hx w hK;replace ha0:=Has.lo ha0 hK;unfold Di at hx;have:=dl 5 [0,0,0,0,0,1,0,0,0,0,1,0,0,0,0,0,1,0,0,0,0,1,0,0,2,3,2] [0,1,2,3,4,5,6,7,8,9,10,11,12,13,14,15,16,17,18,19,20,21,22,23,24,25,26];have:=dl 11 [0,0,0,0,0,0,1,0,0,0,0,1,2,0] [0,1,2,3,4,5,6,7,8,9,10,11,12,13];have:=dl 13 [0,0,0,0,0,0,0,0,0,1,0,0,0,1,0,3,0,3] [0,1,2,3,4,5,6,7,8,9,10,11,12,13,14,15,16,17];refine CtS ntmps137 results137 ?_;try (refine pre ?_;intros;rename_i hx)
 refine Bh ?_;try (refine pre ?_;intros;rename_i hx)
 refine Bh ?_;try (refine pre ?_;intros;rename_i hx)
 apply Jr (γ:=Option Addr × Nat) hx [] (fun s3 y3 f=>(3,.slice y3.1 s3.length y3.2)::f) [999] (fun s3 y3 l=>.r y3.1 s3.length y3.2 103 2 (s3.flatMap Ar)::l);exact kk
 ·intro s3 y3 hx;apply Jr (γ:=Option Addr × Nat) hx [] (fun s0 y0 f=>(3,.slice y0.1 s0.length y0.2)::f) [999] (fun s0 y0 l=>.r y0.1 s0.length y0.2 103 2 (s0.flatMap Ar)::l);exact kk
  ·intro s0 y0 hx;exact au
  ·intro _ hx;try (refine pre ?_;intros;rename_i hx)
   apply Lr (γ:=Option Addr × Nat) hx [40] (fun s1 y1 f=>(3,.slice y1.1 s1.1.length y1.2)::(41,iq s1.2)::f) [999] (fun s1 y1 l=>.r y1.1 s1.1.length y1.2 103 2 (s1.1.flatMap Ar)::l) (_,_);exact kk;exact sk;intro s1 y1 x0 hx _;unfold Fd at hx;try (refine pre ?_;intros;rename_i hx)
   refine Cq1 (s:=42) hx rfl (fun _ hx=>?_) (fun _ hx=>?_)
   ·try (refine pre ?_;intros;rename_i hx)
    apply Jr (γ:=Option Addr × Nat) hx [40,41] (fun s2 y2 f=>(3,.slice y2.1 s2.length y2.2)::f) [999] (fun s2 y2 l=>.r y2.1 s2.length y2.2 103 2 (s2.flatMap Ar)::l);exact kk
    ·intro s2 y2 hx;exact au
    ·intro _ hx;try (refine pre ?_;intros;rename_i hx)
     apply Lr (γ:=Option Addr × Nat) hx [40,41] (fun s4 y4 f=>(3,.slice y4.1 s4.1.length y4.2)::(6,iq s4.2)::f) [999] (fun s4 y4 l=>.r y4.1 s4.1.length y4.2 103 2 (s4.1.flatMap Ar)::l) (_,_);exact kk;exact sk;intro s4 y4 x1 hx _;unfold Gk at hx;try (refine pre ?_;intros;rename_i hx)
     refine Bh ?_;try (refine pre ?_;intros;rename_i hx)
     apply Jr (γ:=Unit) hx [3,6,40,41] (fun s5 y5 f=>(58,.bool s5)::f) [0,999] (fun s5 y5 l=>l);exact kk
     ·intro s5 y5 hx;exact au
     ·intro _ hx;exact au
   ·exact au
 ·intro _ hx;try (refine pre ?_;intros;rename_i hx)
  refine Bi 103 2 ?_;apply Lr (γ:=Option Addr × Nat) hx [0,8] (fun s6 y6 f=>(3,.slice y6.1 s6.1.length y6.2)::(9,iq s6.2)::f) [999] (fun s6 y6 l=>.r y6.1 s6.1.length y6.2 103 2 (s6.1.flatMap Ar)::l) (_,_);exact kk;exact sk;intro s6 y6 x2 hx _;unfold Hk at hx;exact au⟩
theorem Abn(p0:List Ab){K:List Ent}{E0:Option Addr}{G0:Nat}(ha0:Has K E0 p0.length G0 2 Ar p0){r:List Ab}(hx:Di p0=some r)(w:World)(hK:∀ e∈K,Ent.ok w e):CtL prog 137 [.slice E0 p0.length G0] w fun v Ln=>∃ (A0:Option Addr) (c0:Nat),v = .slice A0 r.length c0/\Ln=[.r A0 r.length c0 103 2 (r.flatMap Ar)]/\True:=(Acp p0).h K _ _ ⟨_,_,rfl,ha0,trivial⟩ hx w hK
instance(p0:List Ad)(p1:List Ab):Con (Iw p0 p1) prog 138 (fun K vs=>∃ E0 G0 E1 G1,vs=[.slice E0 p0.length G0,.slice E1 p1.length G1]/\Has K E0 p0.length G0 4 Ak p0/\Has K E1 p1.length G1 2 Ar p1/\True) (fun _ r=>fun v Ln=>∃ A0 c0,v = .slice A0 r.length c0/\Ln=[.r A0 r.length c0 101 3 (r.flatMap Ax)]/\True):=⟨by
 rintro K _ r ⟨E0,G0,E1,G1,rfl,ha0,ha1,-⟩ hx w hK;replace ha0:=Has.lo ha0 hK;replace ha1:=Has.lo ha1 hK;unfold Iw at hx;have:=dl 19 [0,0,1,0,0,0,0,1,2,2] [0,1,2,3,4,5,6,7,8,9];refine CtS ntmps138 results138 ?_;try (refine pre ?_;intros;rename_i hx)
 refine Bh ?_;try (refine pre ?_;intros;rename_i hx)
 refine Bh ?_;try (refine pre ?_;intros;rename_i hx)
 apply Jr (γ:=Unit) hx [0,1] (fun s3 y3 f=>(21,.bool s3)::f) [999] (fun s3 y3 l=>l);exact kk
 ·intro s3 y3 hx;refine Cq3 (s:=21) hx rfl (fun _ hx=>?_) (fun _ hx=>?_)
  ·exact au
  ·try (refine pre ?_;intros;rename_i hx)
   refine Bh ?_;try (refine pre ?_;intros;rename_i hx)
   refine Bh ?_;try (refine pre ?_;intros;rename_i hx)
   apply Jr (γ:=Option Addr × Nat) hx [] (fun s9 y9 f=>(8,.slice y9.1 s9.length y9.2)::f) [999] (fun s9 y9 l=>.r y9.1 s9.length y9.2 101 3 (s9.flatMap Ax)::l);exact kk
   ·intro s9 y9 hx;exact au
   ·intro _ hx;try (refine pre ?_;intros;rename_i hx)
    (with_reducible apply Aoj 29 (sz:=2));exact rfl;exact aT;exact inferInstance;exact dL;exact (fun _=>rfl);exact rfl;exact rfl;exact sA
    try (refine pre ?_;intros;rename_i hx)
    refine Bi 101 3 ?_;apply Lr (γ:=Option Addr × Nat × Option Addr × Nat × Nat) hx [0,1] (fun s0 y0 f=>(6,.slice y0.1 s0.1.length y0.2.1)::(7,.map (some y0.2.2.2.2))::(8,.slice y0.2.2.1 s0.2.2.length y0.2.2.2.1)::f) [999] (fun s0 y0 l=>.r y0.2.2.1 s0.2.2.length y0.2.2.2.1 101 3 (s0.2.2.flatMap Ax)::Bb prog 103 An Bu y0.2.2.2.2 s0.2.1 :: .r y0.1 s0.1.length y0.2.1 103 2 (s0.1.flatMap Ar)::l) (_,_,_,_,_);exact kk;exact sk;intro s0 y0 x0 hx _;unfold Ga at hx;try (refine pre ?_;intros;rename_i hx)
    refine Cq1e (s:=33) hx rfl cQ (fun _ hx=>?_) (fun _ hx=>?_)
    ·try (refine pre ?_;intros;rename_i hx)
     refine Cq3 (s:=47) hx rfl (fun _ hx=>?_) (fun _ hx=>?_)
     ·try (refine pre ?_;intros;rename_i hx)
      (with_reducible apply Xv 6);exact rfl;exact aT;(with_reducible assumption);exact rfl;exact (fun _=>rfl);exact sA
      exact au
     ·try (refine pre ?_;intros;rename_i hx)
      refine Cq1e (s:=56) hx rfl cQ (fun _ hx=>?_) (fun _ hx=>?_)
      ·try (refine pre ?_;intros;rename_i hx)
       (with_reducible apply Xv 6);exact rfl;exact aT;(with_reducible assumption);exact rfl;exact (fun _=>rfl);exact sA
       exact au
      ·try (refine pre ?_;intros;rename_i hx)
       (with_reducible apply Xv 6);exact rfl;exact aT;(with_reducible assumption);exact rfl;exact (fun _=>rfl);exact sA
       try (refine pre ?_;intros;rename_i hx)
       apply Lr (γ:=Option Addr × Nat × Nat) hx [0,1,8,11] (fun s1 y1 f=>(6,.slice y1.1 s1.1.length y1.2.1)::(7,.map (some y1.2.2))::(70,iq s1.2.2)::f) [0,2,999] (fun s1 y1 l=>.r y1.1 s1.1.length y1.2.1 103 2 (s1.1.flatMap Ar)::Bb prog 103 An Bu y1.2.2 s1.2.1::l) (_,_,_);exact kk;exact sk;intro s1 y1 x1 hx _;unfold Ct at hx;exact au
    ·exact au
 ·intro _ hx;exact au⟩
instance(p0:List Ad)(p1:List Ab):Con (Kn p0 p1) prog 82 (fun K vs=>∃ E0 G0 E1 G1,vs=[.slice E0 p0.length G0,.slice E1 p1.length G1]/\Has K E0 p0.length G0 4 Ak p0/\Has K E1 p1.length G1 2 Ar p1/\True) (fun _ r=>fun v Ln=>∃ A0 c0 A2 c2 A4 c4,v = .tuple #[.agg #[.slice A0 r.1.V.length c0,.slice A2 r.1.T.length c2,.slice A4 r.1.Lines.length c4],iq r.2]/\Ln=[.r A0 r.1.V.length c0 108 4 (r.1.V.flatMap Ak),.r A2 r.1.T.length c2 101 3 (r.1.T.flatMap Ax),.r A4 r.1.Lines.length c4 103 2 (r.1.Lines.flatMap Ar)]/\True):=⟨by
 rintro K _ r ⟨E0,G0,E1,G1,rfl,ha0,ha1,-⟩ hx w hK;replace ha0:=Has.lo ha0 hK;replace ha1:=Has.lo ha1 hK;unfold Kn at hx;refine CtS ntmps82 results82 ?_;try (refine pre ?_;intros;rename_i hx)
 refine Cq2 (s:=14) hx rfl (fun _ hx=>?_) (fun _ hx=>?_)
 ·exact au
 ·try (refine pre ?_;intros;rename_i hx)
  refine Bh ?_;try (refine pre ?_;intros;rename_i hx)
  apply Jr (γ:=Option Addr × Nat) hx [0,1,4] (fun s7 y7 f=>(7,.slice y7.1 s7.length y7.2)::f) [0,999] (fun s7 y7 l=>.r y7.1 s7.length y7.2 108 4 (s7.flatMap Ak)::l);exact kk
  ·intro s7 y7 hx;exact au
  ·intro _ hx;try (refine pre ?_;intros;rename_i hx)
   refine Bi 108 4 ?_;apply Lr (γ:=Option Addr × Nat) hx [0,1,4,18] (fun s0 y0 f=>(7,.slice y0.1 s0.1.length y0.2)::(19,iq s0.2)::f) [1,999] (fun s0 y0 l=>.r y0.1 s0.1.length y0.2 108 4 (s0.1.flatMap Ak)::l) (_,_);exact kk;exact sk;intro s0 y0 x0 hx _;unfold Js at hx;exact au⟩
theorem Akc(v:List Ad):Qo v []=some 0:=by
 unfold Qo;rw[jn_d,Ba];unfold Ty;try dsimp only
 rw[if_neg s_];try dsimp only
 rw[Ae];try dsimp only
 rw[jn_d,Ba];unfold Su;try dsimp only
 rw[if_neg s_];rfl
theorem Ard:Wl []=some []:=by
 unfold Wl;rw[jn_d,Ba];unfold Yg;try dsimp only
 rw[if_neg s_];try dsimp only
 rw[Ae];try dsimp only
 rw[gd_t s_];rw[show Bc cmp2 []=[] from by simp[Bc]]
theorem Ak0:lfix (Uw []) ()=some ():=by
 rw[Ba];unfold Uw;rw[if_neg s_]
theorem Akd{v:List Ad}(h:Aj3 v):Yx v [] :=
 ⟨List.Pairwise.nil,List.nodup_nil,fun t=>⟨fun h=>(by cases h),fun g=>(by have:=h _ _ _ g.2.2.1 g.2.2.2.1 g.2.2.2.2.1;have:=g.2.2.2.2.2.1;omega)⟩⟩
theorem Ays{v:List Ad}(h:Vq v=0):∃ T,Rv v []=some (⟨v,T,[]⟩,0)/\Yx v T:=by
 obtain⟨hn,_,hv⟩:=Ahj h;obtain⟨l,hl,hr⟩:=Aph hv hn;obtain⟨m,h1,h2⟩:=Ayk hv hn hr [];unfold Rv;rw[Ahk,h,Ae,if_pos rfl,Akc,Ae,if_pos rfl,Ard,Ae,hl,Ae,h1,Ae,jn_d];dsimp only;have hcl:Ov v=some v:=by
  unfold Ov;rw[gd_t oo]
 rcases h2 with⟨h3,rfl⟩|⟨h3,h4,h5,h6,h7⟩
 ·rw[if_neg s_];have ht:=Ae8 (n:=v.length) hn (b:=⟨v,[],[]⟩) ⟨List.Pairwise.nil,s_⟩;rw[hcl,Ae,ht,Ae];exact⟨_,rfl,by simpa[Bc] using Akd h3⟩
 ·have hpos:0<m.length:=List.length_pos_iff.2 h7;rw[if_pos oo,jn_d,Ak0,Ae];obtain⟨m',g1,g2,g3⟩:=Aux (b:=⟨v,m,[]⟩) hv hn h4 h5;rw[g1,Ae];dsimp only at g1 g2 g3 ⊢;have ht:=Ae8 (n:=v.length) hn (b:=⟨v,m',[]⟩) g2.map;rw[hcl,Ae,ht,Ae];refine⟨_,rfl,Ba6 g2.map (Api hv g2.map g2.tri (g3.cov _ h6) (fun i j k l hk hl=>?_) ?_)⟩
  ·rcases g2.pend i j k l hk hl with q | q | q
   ·cases q
   ·unfold Fx mget at q;simp at q
   ·exact q
  ·exact g3.ne h7
theorem Au3{v:List Ad}(lines:List Ab)(h:Vq v≠0):Rv v lines=some (⟨[],[],[]⟩,Vq v):=by
 unfold Rv;rw[Ahk,Ae,if_neg h]
section
variable {α:Type} {lt:α->α->Bool}
theorem Ayt(htr:∀ x y z,lt y x=false->lt z y=false->lt z x=false)(has:∀ x y,lt x y=true->lt y x=false){B:List α × Int->Option (Sum (List α × Int) (List α))}(hB:∀ (A:List α) (y x:α) (R:List α),A.length<=100000000->B (A++y::x::R,((A.length+1:Nat):Int))=if lt x y=true then some (.inl (A++x::y::R,(A.length:Int))) else some (.inr (A++y::x::R)))(hB0:∀ (x:α) (R:List α),B (x::R,0)=some (.inr (x::R))):
  ∀ (n:Nat) (A C D:List α) (x:α),A.length=n->n<=100000000->((A++C).Pairwise fun x y=>lt y x=false)->(∀ c∈C,lt x c=true)->∃ A' C',A' ++ C'=A++C/\lfix B (A++x::(C++D),(A.length:Int))=some (A' ++ x::(C' ++ D))/\(A' ++ x::C').Pairwise fun x y=>lt y x=false:=by
 intro n
 induction n with
 | zero=>
  intro A C D x hA _ hs hc;have:A=[]:=List.eq_nil_of_length_eq_zero hA;subst this;refine⟨[],C,rfl,?_,?_⟩
  ·rw[List.nil_append,Ba,show ((([]:List α).length:Nat):Int)=0 from rfl,hB0]
  ·exact List.pairwise_cons.2 ⟨fun c hc'=>has _ _ (hc c hc'),hs⟩
 | succ n ih=>
  intro A C D x hA hn hs hc;obtain⟨A',y,rfl⟩:∃ A' y,A=A' ++ [y]:=⟨A.dropLast,A.getLast (fun e=>by rw[e] at hA;simp at hA),(List.dropLast_concat_getLast _).symm⟩;have hA':A'.length=n:=by simpa using hA
  have e1:(A' ++ [y])++x::(C++D)=A' ++ y::x::(C++D):=s_;have e2:(((A' ++ [y]).length:Nat):Int)=((A'.length+1:Nat):Int):=s_;rw[e1,e2,Ba,hB _ _ _ _ oo]
  by_cases c:lt x y=true
  ·rw[if_pos c];dsimp only;obtain⟨A2,C2,g1,g2,g3⟩:=ih A' (y::C) D x hA' oo (by simpa using hs) (fun z hz=>by rcases List.mem_cons.1 hz with rfl | hz;exact c;exact hc z hz);exact⟨A2,C2,by rw[g1];simp,g2,g3⟩
  ·rw[if_neg c];have c':lt x y=false:=by simpa using c
   refine⟨A' ++ [y],C,rfl,s_,?_⟩;rw[List.pairwise_append] at hs ⊢;obtain⟨h1,h2,h3⟩:=hs;refine⟨h1,List.pairwise_cons.2 ⟨fun z hz=>has _ _ (hc z hz),h2⟩,fun z hz w hw=>?_⟩;rcases List.mem_cons.1 hw with rfl | hw
   ·rw[List.pairwise_append] at h1;rcases List.mem_append.1 hz with hz | hz
    ·exact htr _ _ _ (h1.2.2 z hz y s_) c'
    ·rw[List.mem_singleton] at hz;subst hz;exact c'
   ·exact h3 z hz w hw
theorem Apo(htr:∀ x y z,lt y x=false->lt z y=false->lt z x=false)(has:∀ x y,lt x y=true->lt y x=false){B:List α × Int->Option (Sum (List α × Int) (List α))}{B2:List α × Int->Option (Sum (List α × Int) (List α))}{p:List α}(hB:∀ (A:List α) (y x:α) (R:List α),A.length<=100000000->B (A++y::x::R,((A.length+1:Nat):Int))=if lt x y=true then some (.inl (A++x::y::R,(A.length:Int))) else some (.inr (A++y::x::R)))(hB0:∀ (x:α) (R:List α),B (x::R,0)=some (.inr (x::R)))(hp:p.length<=100000000)(h2:∀ (l:List α) (k:Nat),k<p.length->B2 (l,(k:Int))=bnd (lfix B (l,(k:Int))) fun t=>some (.inl (t,((k+1:Nat):Int))))(h3:∀ l:List α,B2 (l,(p.length:Int))=some (.inr l)):
  ∃ r,lfix B2 (p,0)=some r/\r.Perm p/\r.Pairwise fun x y=>lt y x=false:=by
 refine Be (B:=B2) (fun s=>p.length-s.2.toNat) (fun s=>∃ S D:List α,s=(S++D,(S.length:Int))/\(S++D).Perm p/\S.Pairwise fun x y=>lt y x=false) _ (fun s hs=>?_) _ ⟨[],p,rfl,List.Perm.refl _,List.Pairwise.nil⟩;obtain⟨S,D,rfl,h4,h5⟩:=hs;have hlen:=h4.length_eq;rw[List.length_append] at hlen;rcases D with _ | ⟨x,D⟩
 ·right;have:S.length=p.length:=by simpa using hlen
  rw[this,h3];exact⟨_,rfl,h4,by simpa using h5⟩
 ·left;rw[List.length_cons] at hlen;rw[h2 _ _ oo];obtain⟨A',C',g1,g2,g3⟩:=Ayt htr has hB hB0 S.length S [] D x rfl oo (by simpa using h5) (fun c hc=>(by cases hc));rw[List.append_nil] at g1;rw[List.nil_append] at g2;rw[g2,Ae];have hl:A'.length+C'.length=S.length:=by rw[<- List.length_append,g1]
  have e:(A' ++ x::(C' ++ D))=(A' ++ x::C')++D:=s_;refine⟨_,rfl,⟨A' ++ x::C',D,by rw[e,List.length_append,List.length_cons,<- hl];congr 2,?_,g3⟩,by dsimp only;omega⟩;rw[<- e];refine List.Perm.trans ?_ h4;rw[<- g1];have:(A' ++ x::(C' ++ D)).Perm (x::(A' ++ (C' ++ D))):=List.perm_middle;refine this.trans ?_;have:((A' ++ C')++x::D).Perm (x::((A' ++ C')++D)):=List.perm_middle;rw[<- List.append_assoc];exact this.symm
end
theorem Anm{α:Type}(A:List α)(y x:α)(R:List α):idx (A++y::x::R) (A.length:Int)=some y/\idx (A++y::x::R) ((A.length+1:Nat):Int)=some x:=by
 constructor
 ·rw[As s_];simp
 ·rw[As s_];simp
theorem Bbd(x y:Ah):Ql x y=some (decide (cmp3 x y<0)):=by
 obtain⟨x0,x1,x2⟩:=x;obtain⟨y0,y1,y2⟩:=y;have step:∀ (a b c a' b' c':Int) (i:Int) (h:Int),w64 (i+1)=h->∀ p q,i<3->idx [a,b,c] i=some p->idx [a',b',c'] i=some q->Hz ⟨a,b,c⟩ ⟨a',b',c'⟩ i=if p=q then some (.inl h) else some (.inr (.inr (decide (p<q)))):=by
  intro a b c a' b' c' i h hh p q hi hp hq;unfold Hz;dsimp only;rw[if_pos hi,hp,Ae,hq,Ae,Ae,Ae,hh]
 have w1:w64 (0+1)=1:=Av oo oo;have w2:w64 (1+1)=2:=Av oo oo;have w3:w64 (2+1)=3:=Av oo oo;have s0:=step x0 x1 x2 y0 y1 y2 0 1 w1 x0 y0 oo rfl rfl;have s1:=step x0 x1 x2 y0 y1 y2 1 2 w2 x1 y1 oo rfl rfl;have s2:=step x0 x1 x2 y0 y1 y2 2 3 w3 x2 y2 oo rfl rfl;have s3:Hz ⟨x0,x1,x2⟩ ⟨y0,y1,y2⟩ 3=some (.inr (.inl ())):=by unfold Hz;rw[if_neg oo]
 unfold Ql;rw[jn_d,Ba,s0];have key:∀ P:Prop,∀ Q:Prop,[Decidable P]->[Decidable Q]->(P↔Q)->some (decide P)=some (decide Q):=fun P Q _ _ h=>by rw[decide_eq_decide.2 h]
 have hc:=Adc ⟨x0,x1,x2⟩ ⟨y0,y1,y2⟩;dsimp only at hc
 by_cases h0:x0=y0
 ·rw[if_pos h0];dsimp only;rw[Ba,s1]
  by_cases h1:x1=y1
  ·rw[if_pos h1];dsimp only;rw[Ba,s2]
   by_cases h2:x2=y2
   ·rw[if_pos h2];dsimp only;rw[Ba,s3,Ae];dsimp only;rw[decide_eq_false (fun g=>by have:=hc.1 g;omega)]
   ·rw[if_neg h2,Ae];dsimp only;exact key _ _ (by rw[hc];omega)
  ·rw[if_neg h1,Ae];dsimp only;exact key _ _ (by rw[hc];omega)
 ·rw[if_neg h0,Ae];dsimp only;exact key _ _ (by rw[hc];omega)
theorem Are(p:List Ah)(hp:p.length<=100000000):∃ r,Nf p=some r/\r.Perm p/\r.Pairwise fun x y=>¬ cmp3 y x<0:=by
 have:=Apo (lt:=fun x y:Ah=>decide (cmp3 x y<0)) (B:=Iu) (B2:=Iv p) (p:=p)
  (fun x y z h1 h2=>by
   simp only[decide_eq_false_iff_not,Adc] at *;omega)
  (fun x y h=>by
   simp only[decide_eq_false_iff_not,decide_eq_true_eq,Adc] at *;omega)
  (fun A y x R hA=>by
   obtain⟨i0,i1⟩:=Anm A y x R;have w1:w64 (((A.length+1:Nat):Int)-1)=(A.length:Int):=by rw[Av oo oo];omega
   unfold Iu;dsimp only;rw[jn_d,if_pos oo,w1,i1,Ae,i0,Ae,Bbd,Ae]
   by_cases c:decide (cmp3 x y<0)=true
   ·have e1:(A++y::x::R).set (A.length+1) y=A++y::y::R:=by simp[List.set_append]
    have e2:(A++y::y::R).set A.length x=A++x::y::R:=by simp[List.set_append]
    have j0:∃ z,idx (A++y::y::R) (A.length:Int)=some z:=⟨_,(Anm A y y R).1⟩;obtain⟨z,j0⟩:=j0;dsimp only;rw[if_pos c,if_pos c,Ae,Ae,Ae,Mv,e1,j0,Ae,Mv,e2]
   ·dsimp only;rw[if_neg c,if_neg c])
  (fun x R=>by
   unfold Iu;dsimp only;rw[jn_d,if_neg oo];dsimp only;rw[if_neg s_])
  hp
  (fun l k hk=>by
   unfold Iv;dsimp only;rw[if_pos oo,jn_d,show w64 ((k:Int)+1)=((k+1:Nat):Int) from by rw[Av oo oo];omega])
  (fun l=>by
   unfold Iv;dsimp only;rw[if_neg oo])
 obtain⟨r,h1,h2,h3⟩:=this;refine⟨r,?_,h2,h3.imp fun h=>by simpa using h⟩;unfold Nf;rw[jn_d,h1,Ae]
variable {v:List Ad}
theorem Au4{a b c:Int}(h:Del v a b c):∃ t,Ng ⟨a,b,c⟩=some t/\Alz v t/\Tu t a b/\(∀ p q,Tu t p q↔Tu ⟨a,b,c⟩ p q):=by
 have hn:=Aav (P:=plV v) (a:=a) (b:=b) (c:=c) (by have:=h.2.2.2.1;omega);have stop:∀ x y z:Int,¬ y<x->¬ z<x->Fz (x,y,z)=some (.inr (x,y,z)):=fun x y z h1 h2=>by
  unfold Fz;dsimp only;rw[jn_d,if_neg h1,decide_eq_false h2];dsimp only;rw[if_neg s_]
 have more:∀ x y z:Int,y<x\/z<x->Fz (x,y,z)=some (.inl (y,z,x)):=fun x y z h1=>by
  unfold Fz;dsimp only;rw[jn_d]
  by_cases c:y<x
  ·rw[if_pos c];dsimp only;rw[if_pos rfl]
  ·rw[if_neg c,decide_eq_true (h1.resolve_left c)];dsimp only;rw[if_pos rfl]
 unfold Ng;rw[jn_d];dsimp only
 by_cases h1:b<a\/c<a
 ·rw[Ba,more _ _ _ h1];dsimp only
  by_cases h2:c<b\/a<b
  ·rw[Ba,more _ _ _ h2];dsimp only;rw[Ba,stop _ _ _ oo oo,Ae];refine⟨_,rfl,⟨by dsimp only;omega,by dsimp only;omega,h.rot.rot⟩,.inr (.inl ⟨rfl,rfl⟩),fun p q=>?_⟩;unfold Tu;dsimp only;omega
  ·rw[Ba,stop _ _ _ oo oo,Ae];refine⟨_,rfl,⟨by dsimp only;omega,by dsimp only;omega,h.rot⟩,.inr (.inr ⟨rfl,rfl⟩),fun p q=>?_⟩;unfold Tu;dsimp only;omega
 ·rw[Ba,stop _ _ _ oo oo,Ae];exact⟨_,rfl,⟨by dsimp only;omega,by dsimp only;omega,h⟩,.inl ⟨rfl,rfl⟩,fun p q=>Iff.rfl⟩
theorem Bea{n:Nat}(hn:n<=1024){t:Ah}(h0:inN n t.a0)(h1:inN n t.a1)(h2:inN n t.a2){s:List Ab × (List (Ab × Bool)) × List Ah}{op:List Ab}{dn:List (Ab × Bool)}(hop:op.length<=10000000)(hdn:dn.length<=10000000)(hpl:∀ (m:List (Ab × Bool)) (x:Ab),(mput m x true).length<=m.length+1):
  lfix (Ct t s) (op,dn,0)=some (op++[⟨t.a1,t.a0⟩,⟨t.a2,t.a1⟩,⟨t.a0,t.a2⟩],mput (mput (mput dn ⟨t.a0,t.a1⟩ true) ⟨t.a1,t.a2⟩ true) ⟨t.a2,t.a0⟩ true,s.2.2++[t]):=by
 unfold inN at h0 h1 h2;have step:∀ (op:List Ab) (dn:List (Ab × Bool)) (i j:Int) (p q:Int),op.length<=20000000->dn.length<=20000000->0<=i->i<3->Int.tmod (w64 (i+1)) 3=j->idx [t.a0,t.a1,t.a2] i=some p->idx [t.a0,t.a1,t.a2] j=some q->(0<=p/\p<1024)->(0<=q/\q<1024) ->
   Ct t s (op,dn,i)=some (.inl (op++[⟨q,p⟩],mput dn ⟨p,q⟩ true,i+1)):=fun op dn i j p q ho hd hi hi3 hj hp hq hpr hqr=>by
  unfold Ct;dsimp only;rw[if_pos hi3,hp,Ae,hj,hq,Ae,gd_t ⟨⟨oo,oo⟩,oo,oo⟩,gd_t oo,gd_t oo,Av oo oo]
 have last:∀ (op:List Ab) (dn:List (Ab × Bool)),Ct t s (op,dn,3)=some (.inr (op,dn,s.2.2++[t])):=fun op dn=>by
  unfold Ct;dsimp only;rw[if_neg oo]
 have l1:=hpl dn ⟨t.a0,t.a1⟩;have l2:=hpl (mput dn ⟨t.a0,t.a1⟩ true) ⟨t.a1,t.a2⟩;have m0:Int.tmod (w64 (0+1)) 3=1:=by rw[Av oo oo];rfl
 have m1:Int.tmod (w64 (1+1)) 3=2:=by rw[Av oo oo];rfl
 have m2:Int.tmod (w64 (2+1)) 3=0:=by rw[Av oo oo];rfl
 rw[Ba,step op dn 0 1 t.a0 t.a1 oo oo oo oo m0 rfl rfl oo oo];dsimp only;rw[Ba,show (0:Int)+1=1 from rfl,step _ _ 1 2 t.a1 t.a2 (by simp;omega) oo oo oo m1 rfl rfl oo oo];dsimp only;rw[Ba,show (1:Int)+1=2 from rfl,step _ _ 2 0 t.a2 t.a0 (by simp;omega) oo oo oo m2 rfl rfl oo oo];dsimp only;rw[Ba,show (2:Int)+1=3 from rfl,last];simp
def dnM(m:List (Ab × Bool))(p q:Int):Prop:=(mget m ⟨p,q⟩).getD false=true
theorem Aig{m:List (Ab × Bool)}(hm:Dq m)(x y p q:Int):dnM (mput m ⟨x,y⟩ true) p q↔dnM m p q\/(p=x/\q=y):=by
 unfold dnM;rw[Pu hm]
 by_cases h:(⟨p,q⟩:Ab)=⟨x,y⟩
 ·rw[if_pos h];simp only[Ab.mk.injEq] at h;simp[h]
 ·rw[if_neg h];simp only[Ab.mk.injEq] at h;exact⟨.inl,fun g=>g.elim id fun g=>absurd g h⟩
theorem Aae(m:List (Ab × Bool))(x:Ab):(mput m x true).length<=m.length+1:=by
 unfold mput;have:(mdel m x).length<=m.length:=List.length_filter_le _ _;simp only[List.length_cons,List.length_append,List.length_nil];omega
theorem Ake(hv:Ig v)(hn:v.length<=1024){p0 q0:Int}(h0:okS v p0 q0)(hs:∃ e,Del v p0 q0 e):
  ∃ out,lfix (Ga v []) ([⟨p0,q0⟩],([]:List (Ab × Bool)),([]:List Ah))=some out/\out.Nodup/\out.length<=1048576/\∀ t,t∈out↔t.a0<t.a1/\t.a0<t.a2/\Del v t.a0 t.a1 t.a2:=by
 have hsq:=Ag1 hn;refine Be (B:=Ga v []) (fun s=>4*(v.length*v.length-s.2.2.length)+s.1.length)
  (fun s=>Tr v p0 q0 s.1 (dnM s.2.1) s.2.2/\Dq s.2.1/\s.2.1.length+s.1.length<=1+6*s.2.2.length) _ (fun s hst=>?_) _ ⟨Tr.init h0 (fun p q h=>by simp[dnM,Aow] at h),List.Pairwise.nil,s_⟩
 obtain⟨op,dn,out⟩:=s;obtain⟨h1,h2,h3⟩:=hst;dsimp only at h1 h2 h3;have hb:=h1.bound;have hl:=h1.len;unfold Ga;dsimp only
 by_cases hop:op=[]
 ·right;subst hop;rw[if_neg s_];exact⟨_,rfl,h1.nd,oo,h1.full hs⟩
 ·left;obtain⟨r,s,rfl⟩:∃ r s,op=r++[s]:=⟨op.dropLast,op.getLast hop,(List.dropLast_concat_getLast hop).symm⟩;obtain⟨s1,s2,s3⟩:=h1.opn s s_;have hln:(r++[s]).length=r.length+1:=s_;have w1:w64 ((((r++[s]).length:Nat):Int)-1)=(r.length:Int):=by rw[hln,Av oo oo];omega
  have i1:idx (r++[s]) (r.length:Int)=some s:=by rw[As s_];simp
  have tk:List.take (Int.toNat (r.length:Int)) (r++[s])=r:=s_;have hr1:=Uo hn s1 s2;rw[if_pos oo,w1,i1,Ae,gd_t ⟨oo,oo⟩,gd_t hr1,Ae,tk]
  by_cases c1:(mget dn s).getD false=true
  ·rw[if_pos c1];exact⟨_,rfl,⟨h1.skip c1,h2,by dsimp only;omega⟩,by dsimp only;omega⟩
  ·rw[if_neg c1];obtain⟨c,e1,e2⟩:=Anl hv hn s1 s2;rw[e1,Ae];have hput:=Aae dn s
   by_cases c2:c<0
   ·have hno:noT v s.a0 s.a1:=by
     rcases e2 with⟨_,g⟩ | g
     ·exact g
     ·have:=g.1.1;omega
    rw[if_pos c2,gd_t hr1,gd_t oo];exact⟨_,rfl,⟨h1.none (fun p q=>Aig h2 s.a0 s.a1 p q) hno,h2.put _ _,by dsimp only;omega⟩,by dsimp only;omega⟩
   ·have ht:Top v s.a0 s.a1 c:=by
     rcases e2 with⟨g,_⟩ | g
     ·omega
     ·exact g
    have hd:Del v s.a0 s.a1 c:=by
     rcases s3 with g | ⟨e,he⟩
     ·have:=g c ht.1;have:=ht.2.1;omega
     ·rw[<- he.top.unique ht];exact he
    obtain⟨t,t1,t2,t3,t4⟩:=Au4 hd;have tin:inN v.length t.a0/\inN v.length t.a1/\inN v.length t.a2:=⟨t2.2.2.1,t2.2.2.2.1,t2.2.2.2.2.1⟩;have hnew:=h1.more (dn':=dnM (mput (mput (mput dn ⟨t.a0,t.a1⟩ true) ⟨t.a1,t.a2⟩ true) ⟨t.a2,t.a0⟩ true)) c1 t2 t3 (fun p q=>by
      rw[Aig ((h2.put _ _).put _ _),Aig (h2.put _ _),Aig h2];unfold Tu;constructor
      ·rintro (((g | g) | g) | g)
       ·exact .inl g
       ·exact .inr (.inl g)
       ·exact .inr (.inr (.inl g))
       ·exact .inr (.inr (.inr g))
      ·rintro (g | g | g | g)
       ·exact .inl (.inl (.inl g))
       ·exact .inl (.inl (.inr g))
       ·exact .inl (.inr g)
       ·exact .inr g) (fun p q hpq=>by
      obtain⟨e,he⟩:=t2.side hpq;refine⟨he.2.1,he.1,?_⟩;obtain⟨x,_,hx⟩:=Anl hv hn he.2.1 he.1;rcases hx with⟨_,hx⟩ | hx
      ·exact .inl hx
      ·exact .inr ⟨x,Top.across he hx⟩)
    have hb2:=hnew.bound;rw[List.length_append,List.length_singleton] at hb2;have q1:=Aae dn ⟨t.a0,t.a1⟩;have q2:=Aae (mput dn ⟨t.a0,t.a1⟩ true) ⟨t.a1,t.a2⟩;have q3:=Aae (mput (mput dn ⟨t.a0,t.a1⟩ true) ⟨t.a1,t.a2⟩ true) ⟨t.a2,t.a0⟩;rw[if_neg c2,t1,Ae,gd_t oo,Bea hn tin.1 tin.2.1 tin.2.2 oo oo Aae,Ae];refine⟨_,rfl,⟨hnew,((h2.put _ _).put _ _).put _ _,?_⟩,?_⟩
    ·dsimp only;simp only[List.length_append,List.length_cons,List.length_nil];rw[hln] at h3;omega
    ·dsimp only;simp only[List.length_append,List.length_cons,List.length_nil];omega
theorem Ayu(hv:Ig v)(hn:v.length<=1024){f b:Int}(hf:inN v.length f)(low:∀ k,inN v.length k->k=f\/befP (plV v f) (plV v k))(hb:inN v.length b)(hbf:b≠f)(hh:∀ k,inN v.length k->k≠f->behind v f b k)(hfl:¬ Aj3 v):∃ e,Del v f b e:=by
 obtain⟨c,_,hc⟩:=Anl hv hn hf hb;have left:∀ d,inN v.length d->0<=crs (plV v f) (plV v b) (plV v d):=fun d hd=>by
  by_cases e:d=f
  ·rw[e,Gs];exact Int.le_refl _
  ·rcases hh d hd e with g | g <;> omega
 rcases hc with⟨_,hc⟩ | hc
 ·exfalso;have on:∀ d,inN v.length d->crs (plV v f) (plV v b) (plV v d)=0:=fun d hd=>by have:=left d hd;have:=hc d hd;omega
  exact hfl fun i j k hi hj hk=>Ae7 (Aaa hv hf hb (fun e=>hbf e.symm)) (on i hi) (on j hj) (on k hk)
 ·refine⟨c,hc.hull hv hf hb left fun d hd n1 n2 h0 x hx=>?_⟩;have h1:befP (plV v f) (plV v b):=(low b hb).resolve_left hbf;have h2:befP (plV v b) (plV v d):=by
   rcases hh d hd n1 with g | g
   ·omega
   ·exact (Pg (Aaa hv hb hd (fun e=>n2 e.symm))).resolve_right g.2
  exact Aq3 (hv.ok _ hf) (hv.ok _ hb) (hv.ok _ hd) h1 h2 h0 hx
theorem Ayv(hv:Ig v)(hn:v.length<=1024)(h0:0<v.length):∃ f,inN v.length f/\∀ k,inN v.length k->k=f\/befP (plV v f) (plV v k):=by
 obtain⟨l,hl,hr⟩:=Aph hv hn;have hlen:=hr.len;have g0:0<l.length:=oo;refine⟨l[0],hr.val.1 (List.getElem_mem g0),fun k hk=>?_⟩;obtain⟨j,hj,rfl⟩:=List.getElem_of_mem (hr.val.2 hk)
 by_cases e:j=0
 ·subst e;exact .inl rfl
 ·exact .inr (hr.lt g0 hj oo)
theorem App(hv:Ig v)(h3:3<=v.length):(∀ k,2<=k->inN v.length k->crs (plV v 0) (plV v 1) (plV v k)=0)↔Aj3 v:=by
 have i0:inN v.length 0:=⟨oo,oo⟩;have i1:inN v.length 1:=⟨oo,oo⟩;constructor
 ·intro h i j k hi hj hk;have on:∀ d,inN v.length d->crs (plV v 0) (plV v 1) (plV v d)=0:=fun d hd=>by
   by_cases e0:d=0
   ·subst e0;exact Gs _ _
   ·by_cases e1:d=1
    ·subst e1;exact Cm _ _
    ·exact h d (by have:=hd.1;omega) hd
  exact Ae7 (Aaa hv i0 i1 oo) (on i hi) (on j hj) (on k hk)
 ·intro h k _ hk;exact h 0 1 k i0 i1 hk
theorem Ak1(hv:Ig v)(hn:v.length<=1024):∃ T,Iw v []=some T/\Yx v T:=by
 unfold Iw;rw[jn_d];have flatT:Aj3 v->∃ T,(some ([]:List Ah))=some T/\Yx v T:=fun h=>⟨[],rfl,Akd h⟩
 by_cases c:v.length<3
 ·rw[if_pos oo];dsimp only;rw[if_pos rfl];refine flatT fun i j k hi hj hk=>?_
  unfold inN at hi hj hk;have:i=j\/j=k\/i=k:=oo;rcases this with rfl | rfl | rfl
  ·exact Aac _ _
  ·exact Cm _ _
  ·exact Gs _ _
 ·rw[if_neg oo];obtain⟨x,f1,f2⟩:=Ba9 hv hn;rw[f1,Ae];dsimp only
  by_cases hx:x=true
  ·rw[if_pos hx];exact flatT ((App hv oo).1 (f2.1 hx))
  ·rw[if_neg hx];have hfl:¬ Aj3 v:=fun g=>hx (f2.2 ((App hv oo).2 g))
   obtain⟨f,hf,low⟩:=Ayv hv hn oo;obtain⟨b,b1,b2,b3,b4⟩:=Auo hv hn hf low oo;obtain⟨e,he⟩:=Ayu hv hn hf low b2 b3 b4 hfl;obtain⟨out,o1,o2,o3,o4⟩:=Ake hv hn ⟨hf,b2,.inr ⟨e,he⟩⟩ ⟨e,he⟩;obtain⟨r,r1,r2,r3⟩:=Are out oo;rw[first_eq hn hf low,Ae,b1,Ae,jn_d,o1,Ae];dsimp only;rw[r1,Ae];exact⟨r,rfl,r3,r2.nodup_iff.2 o2,fun t=>by rw[r2.mem_iff];exact o4 t⟩
theorem Aes(v:List Ad):Hh v []=some 0:=by
 unfold Hh;rw[jn_d,Ba];unfold Nq;try dsimp only
 rw[if_neg s_];try dsimp only
 rw[Ae];try dsimp only
 rw[jn_d,Ba];unfold Mb;try dsimp only
 rw[if_neg s_];rfl
theorem Ayw(v:List Ad)(hn:v.length<=1024):lfix (Js v) (([]:List Ad),0)=some v:=by
 have:=Be (B:=Js v) (fun s=>v.length-s.2.toNat) (fun s=>∃ k:Nat,k<=v.length/\s=(v.take k,(k:Int))) (fun t=>t=v) (fun s hs=>by
  obtain⟨k,hk,rfl⟩:=hs;unfold Js;dsimp only
  by_cases hk2:k<v.length
  ·left;rw[if_pos oo,As hk2,Ae,gd_t (by rw[List.length_take];omega),show w64 ((k:Int)+1)=((k+1:Nat):Int) from by rw[Av oo oo];omega];exact⟨_,rfl,⟨k+1,hk2,by rw[List.take_succ_eq_append_getElem hk2]⟩,by dsimp only;omega⟩
  ·right;rw[if_neg oo];have:k=v.length:=oo;subst this;exact⟨_,rfl,by rw[List.take_length]⟩) (([]:List Ad),0) ⟨0,oo,s_⟩
 obtain⟨t,ht,rfl⟩:=this;exact ht
theorem Ah0:Di []=some []:=by
 unfold Di;rw[jn_d,Ba];unfold Hk;try dsimp only
 rw[if_neg s_];try dsimp only
 rw[Ae];try dsimp only
 rw[jn_d,Ba];unfold Fd;try dsimp only
 rw[if_neg s_];rfl
theorem Afz{v:List Ad}(h:Vq v=0):∃ T,Kn v []=some (⟨v,T,[]⟩,0)/\Rv v []=some (⟨v,T,[]⟩,0)/\Yx v T:=by
 obtain⟨hn,_,hv⟩:=Ahj h;obtain⟨T,t1,t2⟩:=Ays h;obtain⟨T',e1,e2⟩:=Ak1 hv hn;have:T'=T:=e2.unique t2;subst this;refine⟨T',?_,t1,t2⟩;unfold Kn Sk;rw[Ahw,h,Ae,if_pos rfl,Aes,Ae,Ae,if_pos rfl,jn_d,Ayw v hn,Ae,Ah0];dsimp only;rw[Ae,e1,Ae]
end Go.Proofs.YthlkpgdfifnagaaGreat
namespace Go.Proofs.YthlkpgdfifnagaaGreat
open Go Go.RowKit Tryz
noncomputable def Rx(p0:Aa)(p1:Aa):Option Int :=
 some (w64 (p0.Id-p1.Id))
instance Agt(p0:Aa)(p1:Aa):Con (Rx p0 p1) prog 153 (fun _ vs=>vs=[.agg #[iq p0.Id,iq p0.X,iq p0.Y,iq p0.Z.Lo,iq p0.Z.Hi,iq p0.Wide,iq p0.Num,iq p0.Of,iq p0.Class],.agg #[iq p1.Id,iq p1.X,iq p1.Y,iq p1.Z.Lo,iq p1.Z.Hi,iq p1.Wide,iq p1.Num,iq p1.Of,iq p1.Class]]) (fun _ r=>fun v Ln=>v = iq r/\Ln=[]/\True):=⟨by
 rintro _ _ r rfl hx w hK;unfold Rx at hx;refine CtS ntmps153 results153 ?_;exact au⟩
theorem Af0(p0:Aa)(p1:Aa){r:Int}(hx:Rx p0 p1=some r)(w:World):CtL prog 153 [.agg #[iq p0.Id,iq p0.X,iq p0.Y,iq p0.Z.Lo,iq p0.Z.Hi,iq p0.Wide,iq p0.Num,iq p0.Of,iq p0.Class],.agg #[iq p1.Id,iq p1.X,iq p1.Y,iq p1.Z.Lo,iq p1.Z.Hi,iq p1.Wide,iq p1.Num,iq p1.Of,iq p1.Class]] w fun v Ln=>v = iq r/\Ln=[]/\True:=(Agt p0 p1).h [] _ _ rfl hx w (fun _ h=>absurd h List.not_mem_nil)
end Go.Proofs.YthlkpgdfifnagaaGreat
namespace Go.Proofs.YthlkpgdfifnagaaGreat
open Go Go.RowKit Go.Shelf Go.Lib Go.Sort Tryz
def Al6(l:List Aa):Prop:=(l.map (·.Id)).Nodup/\∀ x∈l,0<=x.Id/\x.Id<=1152921504606846976
def ptIn(l:List Aa)(x:Aa):Prop:=x∈l/\Al6 l
noncomputable instance(l:List Aa)(x:Aa):Decidable (ptIn l x):=Classical.propDecidable _
def Pe(x y:Aa):Int:=x.Id-y.Id
theorem Arf{l:List Aa}(h:(l.map (·.Id)).Nodup){x y:Aa}(hx:x∈l)(hy:y∈l)(e:x.Id=y.Id):x=y:=by
 obtain⟨i,hi,rfl⟩:=List.getElem_of_mem hx;obtain⟨j,hj,rfl⟩:=List.getElem_of_mem hy;have:=List.pairwise_iff_getElem.1 (List.pairwise_map.1 h);rcases Nat.lt_trichotomy i j with g | g | g
 ·exact absurd e (this i j hi hj g)
 ·subst g;rfl
 ·exact absurd e.symm (this j i hj hi g)
theorem totP(l:List Aa):Aal (ptIn l) Pe where
 irr x _:=by unfold Pe;omega
 trans x y z _ _ _ h1 h2:=by unfold Pe at *;omega
 tot x y hx hy h1 h2:=Arf hx.2.1 hx.1 hy.1 (by unfold Pe at h1 h2;omega)
theorem Arg{l:List Aa}{x y:Aa}(hx:ptIn l x)(hy:ptIn l y):Rx x y=some (Pe x y):=by
 have h1:=hx.2.2 x hx.1;have h2:=hy.2.2 y hy.1;unfold Rx Pe;rw[Av oo oo]
theorem Akf(l:List Aa)(hb:l.length<=1000000000)(hp:∀ x∈l,ptIn l x){A:Option Addr}{m c:Nat}{t:TypeId}{gf:Nat}{cb:Array Value}(w:World)(hok:Ent.ok w (.r A m c t 9 (l.flatMap Ai)))(hcmp:Adu prog (ptIn l) Pe (fun x=>.agg #[iq x.Id,iq x.X,iq x.Y,iq x.Z.Lo,iq x.Z.Hi,iq x.Wide,iq x.Num,iq x.Of,iq x.Class]) A m c t 9 gf cb w (l.flatMap Ai))(eg:Wo prog gf):Adt prog 60 A m c t 9 gf cb w (l.flatMap Ai) ((Bc Pe l).flatMap Ai):=
 Ae1 (ρ:=Tryz.laysSortP_ren) Tryz.laysSortP (k:=9) isAgg30 sizeOf30 (enc:=Ai) (fun _=>rfl) dD (fun x v hv=>by simp[Ai] at hv;rcases hv with rfl | rfl | rfl | rfl | rfl | rfl | rfl | rfl | rfl <;> rfl) (totP l) (Ada eg) l hb hp w hok hcmp
end Go.Proofs.YthlkpgdfifnagaaGreat
namespace Go.Proofs.YthlkpgdfifnagaaGreat
open Go Go.RowKit Tryz
instance(x0:Int)(x1:Int)(x2:Int)(x3:Int):Je prog 108 [(0,iq x0),(1,iq x1),(2,.agg #[iq x2,iq x3])] [iq x0,iq x1,iq x2,iq x3]:=⟨fun w=>kr⟩
instance:UndI prog 186 (.map 3 30):=⟨underlying186⟩
instance:MkI prog 41 30 9 72 Ai ((⟨0,0,0,(⟨0,0⟩:Aw),0,0,0,0⟩:Aa)):=⟨t30,.agg #[iq 0,iq 0,iq 0,iq 0,iq 0,iq 0,iq 0,iq 0,iq 0],underlying41,kr,kr,rfl,kr,kr⟩
instance:SrtI prog 60 153 Ai 9 (fun l=>(ptIn l)) Pe (fun x=>.agg #[iq x.Id,iq x.X,iq x.Y,iq x.Z.Lo,iq x.Z.Hi,iq x.Wide,iq x.Num,iq x.Of,iq x.Class]):=⟨⟨_,func60,rfl,rfl⟩,fun l hb hp A m c t w hok hcm=>Akf l hb hp w hok hcm ⟨_,func153,rfl,rfl⟩,fun _ W x y px py=>⟨[.agg #[iq x.Id,iq x.X,iq x.Y,iq x.Z.Lo,iq x.Z.Hi,iq x.Wide,iq x.Num,iq x.Of,iq x.Class],.agg #[iq y.Id,iq y.X,iq y.Y,iq y.Z.Lo,iq y.Z.Hi,iq y.Wide,iq y.Num,iq y.Of,iq y.Class]],rfl,Af0 x y (Arg px py) W⟩⟩
noncomputable def Qn(p0:List Aa):((List (Int × Aa)) × Int)->Option (Sum ((List (Int × Aa)) × Int) (List (Int × Aa))):=fun s0=>
 if s0.2<(p0.length:Int) then (bnd (idx p0 s0.2) fun x0=>
 gd ((-9223372036854775808<=x0.Id/\x0.Id<=9223372036854775807))<|
 gd (s0.1.length<9223372036854775807)<|
 some (.inl (mput s0.1 x0.Id x0,w64 (s0.2+1))))
 else (some (.inr s0.1))
noncomputable def Mj(p1:List Int):((List (Int × Aa)) × List Aa × Int)->Option (Sum ((List (Int × Aa)) × List Aa × Int) (Sum (List Aa) (List Aa × Bool))):=fun s0=>
 if s0.2.2<(p1.length:Int) then (bnd (idx p1 s0.2.2) fun x0=>
 gd ((-9223372036854775808<=x0/\x0<=9223372036854775807))<|
 bnd (some ((mget s0.1 x0).getD ((⟨0,0,0,(⟨0,0⟩:Aw),0,0,0,0⟩:Aa)))) fun x1=>
 if ((mget s0.1 x0).isSome)=true then (gd ((-9223372036854775808<=x0/\x0<=9223372036854775807))<|
 gd ((s0.2.1.length+1)*72<=140737488355328)<|
 some (.inl (mdel s0.1 x0,s0.2.1++[x1],w64 (s0.2.2+1))))
 else (some (.inr (.inr (([]:List Aa),false)))))
 else (some (.inr (.inl s0.2.1)))
noncomputable def Va(p0:List Aa)(p1:List Int):Option (List Aa × Bool):=
 jn (fun (s3:List (Int × Aa))=>
 gd ((0:Int)<=(p1.length:Int)/\72*Int.toNat (p1.length:Int)<=140737488355328)<|
 jn (fun (s0:List Aa)=>
 gd (s0.length<=1000000000/\(∀ x∈s0,(ptIn s0) x))<|
 some (Bc Pe s0,true))
 (fun j0=>bnd (lfix (Mj p1) (s3,([]:List Aa),0)) fun t0=>
 (match t0 with
 | (.inl z0)=>j0 z0
 | (.inr z0)=>some z0
 )))
 (fun j3=>bnd (lfix (Qn p0) (([]:List (Int × Aa)),0)) fun t1=>
 j3 t1)
instance:MkI prog 22 108 4 32 Ak ((⟨0,0,(⟨0,0⟩:Aw)⟩:Ad)):=⟨t108,.agg #[iq 0,iq 0,iq 0,iq 0],underlying22,kr,kr,rfl,kr,kr⟩
noncomputable def Ry(p0:List Aa):(List Ad × Int)->Option (Sum (List Ad × Int) (List Ad)):=fun s0=>
 if s0.2<(p0.length:Int) then (bnd (idx p0 s0.2) fun x0=>
 gd ((s0.1.length+1)*32<=140737488355328)<|
 some (.inl (s0.1++[(⟨x0.X,x0.Y,x0.Z⟩:Ad)],w64 (s0.2+1))))
 else (some (.inr s0.1))
noncomputable def Rz(p0:List Aa):Option (Aq × Int):=
 gd ((0:Int)<=(p0.length:Int)/\32*Int.toNat (p0.length:Int)<=140737488355328)<|
 jn (fun (s3:List Ad)=>
 bnd (Rv s3 ([]:List Ab)) fun r0=>
 if r0.2=0 then (some (r0.1,0))
 else (some ((⟨([]:List Ad),([]:List Ah),([]:List Ab)⟩:Aq),11)))
 (fun j3=>bnd (lfix (Ry p0) (([]:List Ad),0)) fun t0=>
 j3 t0)
noncomputable def Mk(p0:List Aa)(p1:List Int):Option (Aq × Int):=
 bnd (Va p0 p1) fun r2=>
 if r2.2=true then (bnd (Rz r2.1) fun r0=>
 some (r0.1,r0.2))
 else (some ((⟨([]:List Ad),([]:List Ah),([]:List Ab)⟩:Aq),2))
instance(p0:List Aa)(p1:List Int):Con (Va p0 p1) prog 102 (fun K vs=>∃ E0 G0 E1 G1,vs=[.slice E0 p0.length G0,.slice E1 p1.length G1]/\Has K E0 p0.length G0 9 Ai p0/\Has K E1 p1.length G1 1 Af p1/\True) (fun _ r=>fun v Ln=>∃ A0 c0,v = .tuple #[.slice A0 r.1.length c0,.bool r.2]/\Ln=[.r A0 r.1.length c0 30 9 (r.1.flatMap Ai)]/\True):=⟨by
 rintro K _ r ⟨E0,G0,E1,G1,rfl,ha0,ha1,-⟩ hx w hK;replace ha0:=Has.lo ha0 hK;replace ha1:=Has.lo ha1 hK;unfold Va at hx;refine CtS ntmps102 results102 ?_;try (refine pre ?_;intros;rename_i hx)
 refine Bh ?_;try (refine pre ?_;intros;rename_i hx)
 refine Bh ?_;try (refine pre ?_;intros;rename_i hx)
 apply Jr (γ:=Nat) hx [1] (fun s3 y3 f=>(6,.map (some y3))::f) [999] (fun s3 y3 l=>Bb prog 3 Cs Ce y3 s3::l);exact kk
 ·intro s3 y3 hx;try (refine pre ?_;intros;rename_i hx)
  apply Jr (γ:=Option Addr × Nat) hx [] (fun s0 y0 f=>(9,.slice y0.1 s0.length y0.2)::f) [999] (fun s0 y0 l=>.r y0.1 s0.length y0.2 30 9 (s0.flatMap Ai)::l);exact kk
  ·intro s0 y0 hx;exact au
  ·intro _ hx;try (refine pre ?_;intros;rename_i hx)
   apply Lr (γ:=Option Addr × Nat × Nat) hx [31,32] (fun s1 y1 f=>(6,.map (some y1.2.2))::(9,.slice y1.1 s1.2.1.length y1.2.1)::(33,iq s1.2.2)::f) [999] (fun s1 y1 l=>.r y1.1 s1.2.1.length y1.2.1 30 9 (s1.2.1.flatMap Ai)::Bb prog 3 Cs Ce y1.2.2 s1.1::l) (_,_,_);exact kk;exact sk;intro s1 y1 x0 hx _;unfold Mj at hx;exact au
 ·intro _ hx;try (refine pre ?_;intros;rename_i hx)
  apply Lr (γ:=Nat) hx [1,17,18] (fun s2 y2 f=>(6,.map (some y2))::(19,iq s2.2)::f) [999] (fun s2 y2 l=>Bb prog 3 Cs Ce y2 s2.1::l) _;exact kk;exact sk;intro s2 y2 x1 hx _;unfold Qn at hx;exact au⟩
instance(p0:List Aa):Con (Rz p0) prog 103 (fun K vs=>∃ E0 G0,vs=[.slice E0 p0.length G0]/\Has K E0 p0.length G0 9 Ai p0/\True) (fun _ r=>fun v Ln=>∃ A0 c0 A2 c2 A4 c4,v = .tuple #[.agg #[.slice A0 r.1.V.length c0,.slice A2 r.1.T.length c2,.slice A4 r.1.Lines.length c4],iq r.2]/\Ln=[.r A0 r.1.V.length c0 108 4 (r.1.V.flatMap Ak),.r A2 r.1.T.length c2 101 3 (r.1.T.flatMap Ax),.r A4 r.1.Lines.length c4 103 2 (r.1.Lines.flatMap Ar)]/\True):=⟨by
 rintro K _ r ⟨E0,G0,rfl,ha0,-⟩ hx w hK;replace ha0:=Has.lo ha0 hK;unfold Rz at hx;refine CtS ntmps103 results103 ?_;try (refine pre ?_;intros;rename_i hx)
 apply Jr (γ:=Option Addr × Nat) hx [2] (fun s3 y3 f=>(4,.slice y3.1 s3.length y3.2)::f) [1,999] (fun s3 y3 l=>.r y3.1 s3.length y3.2 108 4 (s3.flatMap Ak)::l);exact kk
 ·intro s3 y3 hx;exact au
 ·intro _ hx;try (refine pre ?_;intros;rename_i hx)
  apply Lr (γ:=Option Addr × Nat) hx [2,12,13] (fun s29 y29 f=>(4,.slice y29.1 s29.1.length y29.2)::(14,iq s29.2)::f) [1,999] (fun s29 y29 l=>.r y29.1 s29.1.length y29.2 108 4 (s29.1.flatMap Ak)::l) (_,_);exact kk;exact sk;intro s29 y29 x29 hx _;unfold Ry at hx;exact au⟩
instance(p0:List Aa)(p1:List Int):Con (Mk p0 p1) prog 51 (fun K vs=>∃ E0 G0 E1 G1,vs=[.slice E0 p0.length G0,.slice E1 p1.length G1]/\Has K E0 p0.length G0 9 Ai p0/\Has K E1 p1.length G1 1 Af p1/\True) (fun _ r=>fun v Ln=>∃ A0 c0 A2 c2 A4 c4,v = .tuple #[.agg #[.slice A0 r.1.V.length c0,.slice A2 r.1.T.length c2,.slice A4 r.1.Lines.length c4],iq r.2]/\Ln=[.r A0 r.1.V.length c0 108 4 (r.1.V.flatMap Ak),.r A2 r.1.T.length c2 101 3 (r.1.T.flatMap Ax),.r A4 r.1.Lines.length c4 103 2 (r.1.Lines.flatMap Ar)]/\True):=⟨by
 rintro K _ r ⟨E0,G0,E1,G1,rfl,ha0,ha1,-⟩ hx w hK;replace ha0:=Has.lo ha0 hK;replace ha1:=Has.lo ha1 hK;unfold Mk at hx;refine CtS ntmps51 results51 ?_;exact au⟩
end Go.Proofs.YthlkpgdfifnagaaGreat
