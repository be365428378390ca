/- Forcing a line: the whole loop. -/
import Derived.Test.YtjfndjmabhbicaaGreatU12
namespace Go.Proofs.YtjfndjmabhbicaaGreat
open Go Go.RowKit
structure Amo (v:List Ab) (a b:Int) (m0 m:Mp):Prop where
 map:MapN v.length m
 tri:Tri (plV v) (inN v.length) (apM m)
 cov:Cov (plV v) (inN v.length) (apM m)
 ne:m≠[]
 side:Sd (apM m) a b
 keep:∀ x y,¬ Cr v a b x y->¬ Cr v a b y x->Sd (apM m0) x y->Sd (apM m) x y
section
variable {v:List Ab} {a b:Int} {F:List (Aa × Bool)} {m0:Mp}
abbrev FS:=(List Ab) × Mp × (List (Aa × Bool)) × (List Aa)
abbrev FG:=Nat × (Nat->Int) × (Nat->Int) × List Nat
theorem Amp (hv:Bu v) (hn:v.length<=1024) (ha:inN v.length a) (hb:inN v.length b) (hf:Free v a b) {m:Mp} {q:List Aa} {M:Nat} {u w:Nat->Int} {π:List Nat} (h:Rn v a b m0 m q M u w π) :
  ∃ m',lfix (Bx ⟨a,b⟩) (v,m,F,q)=some (v,m',F)/\Amo v a b m0 m':=by
 have key:=Alj (B:=Bx ⟨a,b⟩) (γ:=FG)
  (fun (s:FS) g=>s.1=v/\s.2.2.1=F/\Rn v a b m0 s.2.1 s.2.2.2 g.1 g.2.1 g.2.2.1 g.2.2.2)
  (fun s g s' g'=>g'.1 < g.1\/(g'.1=g.1/\∃ i l,g.2.2.2=i::l/\g'.2.2.2=l++[i]/\((Vr (plV v) (apM s.2.1) g.2.1 g.2.2.1 i/\apM s'.2.1=apM s.2.1/\g'.2.1=g.2.1/\g'.2.2.1=g.2.2.1)\/Aax (plV v) (inN v.length) g.1 (apM s.2.1) g.2.1 g.2.2.1 i (apM s'.2.1) g'.2.1 g'.2.2.1)))
  (fun t=>∃ m',t=(v,m',F)/\Amo v a b m0 m')
  (by
   rintro ⟨v',m,F',q⟩ ⟨M,u,w,π⟩ ⟨e1,e2,h⟩
   dsimp only at e1 e2 h
   subst e1 e2
   cases π with
   | nil=>
    left
    have h0:M=0:=by
     rcases Nat.eq_zero_or_pos M with g | g
     ·exact g
     ·have:=(h.all 0).2 g
      cases this
    refine ⟨(v',m,F'),?_,m,rfl,⟨h.map,h.tri,h.cov,h.ne,h.fin h0,h.keep⟩⟩
    have hq:=h.que
    rw[List.map_nil] at hq
    unfold Bx
    rw[hq,if_neg (by simp)]
   | cons i π=>
    right
    obtain ⟨m',q',M',u',w',π',g1,g2,g3⟩:=h.round hv hn ha hb hf (F:=F')
    refine ⟨(v',m',F',q'),(M',u',w',π'),g1,⟨rfl,rfl,g2⟩,?_⟩
    dsimp only
    rcases g3 with g3 | ⟨k1,k2,k3⟩
    ·exact .inl g3
    ·exact .inr ⟨k1,i,π,rfl,k2,k3⟩)
  (by
   intro f hI hR
   obtain ⟨T,hT⟩:=Aei (m:=fun n=>(f n).2.1) (fun n=>by
    rcases hR n with g | ⟨g,_⟩
    ·exact Nat.le_of_lt g
    ·exact Nat.le_of_eq g)
   have hM:∀ t,(f (T+t)).2.1=(f T).2.1:=fun t=>hT (T+t) (by omega)
   have hst:∀ t,∃ i l,(f (T+t)).2.2.2.2=i::l/\(f (T+(t+1))).2.2.2.2=l++[i]/\((Vr (plV v) (apM (f (T+t)).1.2.1) (f (T+t)).2.2.1 (f (T+t)).2.2.2.1 i/\apM (f (T+(t+1))).1.2.1=apM (f (T+t)).1.2.1/\(f (T+(t+1))).2.2.1=(f (T+t)).2.2.1/\(f (T+(t+1))).2.2.2.1=(f (T+t)).2.2.2.1)\/Aax (plV v) (inN v.length) (f (T+t)).2.1 (apM (f (T+t)).1.2.1) (f (T+t)).2.2.1 (f (T+t)).2.2.2.1 i (apM (f (T+(t+1))).1.2.1) (f (T+(t+1))).2.2.1 (f (T+(t+1))).2.2.2.1):=fun t=>by
    have h1:=hM t
    have h2:=hM (t+1)
    have:=hR (T+t)
    rw[show T+t+1=T+(t+1) by omega] at this
    rcases this with g | ⟨_,g⟩
    ·omega
    ·exact g
   have hm:∀ t i,i∈(f (T+t)).2.2.2.2↔i < (f T).2.1:=fun t i=>by rw[<- hM t];exact (hI (T+t)).2.2.all i
   obtain ⟨w1,w2,w3⟩:=Apf (π:=fun t=>(f (T+t)).2.2.2.2) (m:=(f T).2.1) (fun t=>by
    obtain ⟨i,l,g1,g2,_⟩:=hst t
    exact ⟨i,l,g1,g2⟩) (fun t=>(hI (T+t)).2.2.nd) hm
   have h0:0 < (f T).2.1:=by
    have:=w3 0
    omega
   refine Arb (V:=inN v.length) (P:=plV v) (a:=a) (b:=b) (m:=(f T).2.1) (apt:=fun t=>apM (f (T+t)).1.2.1) (ut:=fun t=>(f (T+t)).2.2.1) (wt:=fun t=>(f (T+t)).2.2.2.1) (s:=fun t=>((f (T+t)).2.2.2.2).headD 0) h0 (hI (T+0)).2.2.tri (hI (T+0)).2.2.strip w1 w2 w3 (fun t=>?_)
   obtain ⟨i,l,g1,g2,g3⟩:=hst t
   rw[g1,List.headD_cons]
   rw[hM t] at g3
   exact g3)
  (v,m,F,q) (M,u,w,π) ⟨rfl,rfl,h⟩
 obtain ⟨t,h1,m',rfl,h2⟩:=key
 exact ⟨m',h1,h2⟩
end
section
variable {v:List Ab} {m:Mp}
theorem Ahd (hm:MapN v.length m) (ht:Tri (plV v) (inN v.length) (apM m)) {s:Aa}:s∈m.flatMap (Hp m)↔∃ x y,Sd (apM m) x y/\s=pr2 x y:=by
 rw[List.mem_flatMap]
 constructor
 ·rintro ⟨⟨⟨x,y⟩,z⟩,hq,hs⟩
  unfold Hp at hs
  split at hs
  ·rw[List.mem_singleton] at hs
   refine ⟨x,y,.inl ?_,hs⟩
   have:apM m x y=some z:=Mf hm.ok hq
   rw[this];simp
  ·cases hs
 ·have one:∀ x y z,apM m x y=some z->∃ a∈m,pr2 x y∈Hp m a:=fun x y z h=>by
   by_cases c:x < y\/(mget m ⟨y,x⟩).isSome=false
   ·refine ⟨(⟨x,y⟩,z),Ed h,?_⟩
    unfold Hp rev2
    rw[if_pos c]
    exact List.mem_singleton.2 rfl
   ·have c2:(mget m ⟨y,x⟩).isSome=true:=by
     cases e:(mget m ⟨y,x⟩).isSome with
     | true=>rfl
     | false=>exact absurd (.inr e) c
    obtain ⟨z',hz'⟩:=Option.isSome_iff_exists.1 c2
    refine ⟨(⟨y,x⟩,z'),Ed hz',?_⟩
    unfold Hp rev2
    have hne:=(ht.ne h).1
    have hxy:¬ x < y:=fun g=>c (.inl g)
    rw[if_pos (.inl (show y < x by omega)),Ml]
    exact List.mem_singleton.2 rfl
  rintro ⟨x,y,h | h,rfl⟩
  ·obtain ⟨z,hz⟩:=Option.ne_none_iff_exists'.1 h
   exact one x y z hz
  ·obtain ⟨z,hz⟩:=Option.ne_none_iff_exists'.1 h
   rw[Ml]
   exact one y x z hz
theorem Aky (ht:Tri (plV v) (inN v.length) (apM m)):∀ l:Mp,Dx l->(∀ q∈l,q∈m)->(∀ q∈l,apM m q.1.a0 q.1.a1=some q.2)->(l.flatMap (Hp m)).Nodup:=by
 intro l
 induction l with
 | nil=>intro _ _ _;exact List.Pairwise.nil
 | cons q r ih=>
  intro hl hsub hval
  obtain ⟨h1,h2⟩:=List.pairwise_cons.1 hl
  rw[List.flatMap_cons,List.nodup_append]
  refine ⟨?_,ih h2 (fun q hq=>hsub q (List.mem_cons_of_mem _ hq)) (fun q hq=>hval q (List.mem_cons_of_mem _ hq)),fun x hx y hy e=>?_⟩
  ·unfold Hp
   split
   ·simp
   ·exact List.Pairwise.nil
  ·subst e
   obtain ⟨q',hq',hy⟩:=List.mem_flatMap.1 hy
   have n1:=h1 q' hq'
   have v1:=hval q List.mem_cons_self
   have v2:=hval q' (List.mem_cons_of_mem _ hq')
   obtain ⟨⟨x0,x1⟩,z⟩:=q
   obtain ⟨⟨y0,y1⟩,z'⟩:=q'
   have e1:=(ht.ne v1).1
   have e2:=(ht.ne v2).1
   unfold Hp rev2 at hx hy
   dsimp only at *
   split at hx
   ·rename_i c1
    split at hy
    ·rename_i c2
     rw[List.mem_singleton] at hx hy
     rw[hx] at hy
     rcases Af1 (i:=x0) (j:=x1) (a:=y0) (b:=y1) hy with ⟨k1,k2⟩ | ⟨k1,k2⟩
     ·subst k1 k2;exact n1 rfl
     ·subst k1 k2
      rcases c1 with c1 | c1
      ·rcases c2 with c2 | c2
       ·omega
       ·have:mget m ⟨x0,x1⟩=some z:=v1
        rw[this] at c2
        cases c2
      ·have:mget m ⟨x1,x0⟩=some z':=v2
       rw[this] at c1
       cases c1
    ·cases hy
   ·cases hx
end
section
variable {v:List Ab} {a b:Int} {F:List (Aa × Bool)} {m:Mp}
noncomputable def crB (v:List Ab) (a b:Int) (s:Aa):Bool:=decide (Gr v a b s.a0 s.a1)
theorem Akz (hv:Bu v) (ha:inN v.length a) (hb:inN v.length b) (l:List Aa) (hl:l.length<=1048576) (hin:∀ s∈l,inN v.length s.a0/\inN v.length s.a1) :
  lfix (Gz (⟨v,m,F⟩,l) ⟨a,b⟩) ([],0)=some (v,m,F,l.filter (crB v a b)):=by
 obtain ⟨t,ht,hR⟩:=Bl (B:=Gz (⟨v,m,F⟩,l) ⟨a,b⟩) (fun s=>l.length-s.2.toNat)
  (fun s=>∃ k:Nat,s=((l.take k).filter (crB v a b),(k:Int))/\k<=l.length)
  (fun t=>t=(v,m,F,l.filter (crB v a b))) (by
   rintro s ⟨k,rfl,hk⟩
   unfold Gz
   dsimp only
   by_cases hlt:k < l.length
   ·left
    obtain ⟨h1,h2⟩:=hin _ (List.getElem_mem hlt)
    have hle:((l.take k).filter (crB v a b)).length<=1048576:=Nat.le_trans (List.length_filter_le _ _) (by simp;omega)
    refine ⟨((l.take (k+1)).filter (crB v a b),((k+1:Nat):Int)),?_,⟨k+1,rfl,by omega⟩,by simp;omega⟩
    rw[if_pos (by omega),jn_d,Bb hlt,Ad,Xj hv (k:=⟨a,b⟩) (l:=l[k]) ha hb h1 h2,Ad,Be (by omega),List.take_add_one,List.getElem?_eq_getElem hlt,Option.toList_some,List.filter_append]
    by_cases c:Gr v a b l[k].a0 l[k].a1
    ·rw[if_pos (decide_eq_true c),gd_t (by omega)]
     have:crB v a b l[k]=true:=decide_eq_true c
     rw[List.filter_cons_of_pos this,List.filter_nil]
    ·rw[if_neg (by rw[decide_eq_true_eq];exact c)]
     have:¬ crB v a b l[k]=true:=by unfold crB;rw[decide_eq_true_eq];exact c
     rw[List.filter_cons_of_neg this,List.filter_nil,List.append_nil]
   ·right
    obtain rfl:k=l.length:=by omega
    exact ⟨_,by rw[if_neg (by omega)],by simp⟩)
  ([],0) ⟨0,by simp,by omega⟩
 rw[ht,hR]
theorem Ak0 (hv:Bu v) (hn:v.length<=1024) (hm:MapN v.length m) (ht:Tri (plV v) (inN v.length) (apM m)) (hc:Cov (plV v) (inN v.length) (apM m)) (hne:m≠[]) (ha:inN v.length a) (hb:inN v.length b) (hab:a≠b) (hf:Free v a b) :
  ∃ M u w π,Rn v a b m m ((Au cmp2 (m.flatMap (Hp m))).filter (crB v a b)) M u w π:=by
 obtain ⟨M,u,w,hs,hfin,hall⟩:=Ar1 hv ht hc ha hb hab hf (Aa2 hv hm ht hc hne ha hb)
 have pm:=Cz cmp2 (m.flatMap (Hp m))
 have nds:(m.flatMap (Hp m)).Nodup:=Aky ht m hm.ok (fun q h=>h) (fun q hq=>Mf hm.ok hq)
 have hf1:∀ q,(Hp m q).length<=1:=fun q=>by unfold Hp;split <;> simp
 have hl1:=Hu hf1 m
 have hl2:=hm.len
 have hl3:=Zi hn
 have hq:∀ s,s∈(Au cmp2 (m.flatMap (Hp m))).filter (crB v a b)↔∃ i,i < M/\pr2 (u i) (w i)=s:=fun s=>by
  rw[List.mem_filter,Ga,Ahd hm ht]
  constructor
  ·rintro ⟨⟨x,y,h1,rfl⟩,h2⟩
   unfold crB at h2
   rw[decide_eq_true_eq,Aej ht ha hb hf h1] at h2
   rcases h2 with h2 | h2
   ·obtain ⟨i,hi,rfl,rfl⟩:=hall x y h2 h1
    exact ⟨i,hi,rfl⟩
   ·obtain ⟨i,hi,rfl,rfl⟩:=hall y x h2 h1.symm
    exact ⟨i,hi,Ml _ _⟩
  ·rintro ⟨i,hi,rfl⟩
   obtain ⟨k,hk⟩:=hs.someR hi
   have h1:Sd (apM m) (u i) (w i):=.inl (by rw[hk];simp)
   refine ⟨⟨u i,w i,h1,rfl⟩,?_⟩
   unfold crB
   rw[decide_eq_true_eq,Aej ht ha hb hf h1]
   exact .inl (hs.cr ht i hi)
 haveI:∀ s,Decidable (∃ i,i < M/\pr2 (u i) (w i)=s):=fun _=>Classical.propDecidable _
 let ix:Aa->Nat:=fun s=>if h:∃ i,i < M/\pr2 (u i) (w i)=s then Classical.choose h else 0
 have hix:∀ s∈(Au cmp2 (m.flatMap (Hp m))).filter (crB v a b),ix s < M/\pr2 (u (ix s)) (w (ix s))=s:=fun s h=>by
  have h':=(hq s).1 h
  have e:ix s=Classical.choose h':=dif_pos h'
  rw[e]
  exact Classical.choose_spec h'
 have ndq:((Au cmp2 (m.flatMap (Hp m))).filter (crB v a b)).Nodup:=(pm.nodup_iff.2 nds).filter _
 refine ⟨M,u,w,((Au cmp2 (m.flatMap (Hp m))).filter (crB v a b)).map ix,hm,ht,hc,hne,hs,?_,fun i=>?_,?_,hfin,fun _ _ _ _ h=>h,?_⟩
 ·exact Qn (fun x hx y hy e=>by rw[<- (hix x hx).2,<- (hix y hy).2,e]) ndq
 ·rw[List.mem_map]
  constructor
  ·rintro ⟨s,h,rfl⟩;exact (hix s h).1
  ·intro hi
   have hmem:=(hq _).2 ⟨i,hi,rfl⟩
   exact ⟨_,hmem,hs.pr_inj (hix _ hmem).1 hi (hix _ hmem).2⟩
 ·rw[List.map_map]
  have:((Au cmp2 (m.flatMap (Hp m))).filter (crB v a b)).map ((fun i=>pr2 (u i) (w i)) ∘ ix)=((Au cmp2 (m.flatMap (Hp m))).filter (crB v a b)).map id:=List.map_congr_left fun s h=>(hix s h).2
  rw[this,List.map_id]
 ·rw[List.length_map]
  refine Nat.le_trans (List.length_filter_le _ _) ?_
  rw[pm.length_eq]
  omega
theorem At9 (hv:Bu v) (hn:v.length<=1024) (hm:MapN v.length m) (ht:Tri (plV v) (inN v.length) (apM m)) (hc:Cov (plV v) (inN v.length) (apM m)) (hne:m≠[]) (ha:inN v.length a) (hb:inN v.length b) (hab:a≠b) (hf:Free v a b) (hF:F.length<=1000000000) :
  ∃ m',Hl ⟨v,m,F⟩ ⟨a,b⟩=some ⟨v,m',mput F ⟨a,b⟩ true⟩/\Amo v a b m m':=by
 obtain ⟨M,u,w,π,h⟩:=Ak0 hv hn hm ht hc hne ha hb hab hf
 obtain ⟨m',h1,h2⟩:=Amp (F:=F) hv hn ha hb hf h
 have hf1:∀ q,(Hp m q).length<=1:=fun q=>by unfold Hp;split <;> simp
 have hl1:=Hu hf1 m
 have hl2:=hm.len
 have hl3:=Zi hn
 refine ⟨m',?_,h2⟩
 unfold Hl
 rw[jn_d,Aji (b:=⟨v,m,F⟩) hn hm,Ad,Akz hv ha hb _ (by rw[(Cz _ _).length_eq];dsimp only;omega) (fun s hs=>?_),Ad]
 ·dsimp only
  rw[jn_d,h1,Ad]
  dsimp only
  rw[gd_t (Mv hn ha hb),gd_t (by omega)]
 ·rw[Ga,Ahd hm ht] at hs
  obtain ⟨x,y,hs,rfl⟩:=hs
  rcases hs with hs | hs <;> obtain ⟨z,hz⟩:=Option.ne_none_iff_exists'.1 hs <;> obtain ⟨p,q,_⟩:=ht.ccw _ _ _ hz
  ·exact Vw p q
  ·exact Vw q p
end
def prL (s:Aa):Aa:=pr2 s.a0 s.a1
def okL (v:List Ab) (s:Aa):Prop:=inN v.length s.a0/\inN v.length s.a1/\s.a0≠s.a1
def Lin1 (v:List Ab) (l:List Aa):Prop:=(∀ s∈l,okL v s)/\(l.map prL).Nodup
def Lin2 (v:List Ab) (l:List Aa):Prop:=(∀ s∈l,∀ k,inN v.length k->¬ BtwF (plV v s.a0) (plV v s.a1) (plV v k))/\l.Pairwise fun x y=>¬ Gr v x.a0 x.a1 y.a0 y.a1
noncomputable instance (v:List Ab) (l:List Aa):Decidable (Lin1 v l):=Classical.propDecidable _
noncomputable instance (v:List Ab) (l:List Aa):Decidable (Lin2 v l):=Classical.propDecidable _
noncomputable def Nz (v:List Ab) (l:List Aa):Int:=if Lin1 v l then if Lin2 v l then 0 else 63 else 62
section
variable {v:List Ab} {l:List Aa}
theorem Br {α:Type} {l:List α} {k:Nat} (h:k < l.length):l.take (k+1)=l.take k++[l[k]]:=by
 rw[List.take_add_one,List.getElem?_eq_getElem h];rfl
theorem Tn {α:Type} {l:List α} {x:α}:(l++[x]).Nodup↔l.Nodup/\x ∉ l:=by
 rw[List.nodup_append]
 constructor
 ·rintro ⟨h1,_,h3⟩
  exact ⟨h1,fun h=>h3 x h x (by simp) rfl⟩
 ·rintro ⟨h1,h2⟩
  exact ⟨h1,by simp,fun a ha b hb e=>h2 (by rw[List.mem_singleton] at hb;rw[<- hb,<- e];exact ha)⟩
structure L3 (v:List Ab) (l:List Aa) (mp:List (Aa × Bool)) (k:Nat):Prop where
 le:k<=l.length
 ok:Dx mp
 len:mp.length<=k
 get:∀ p,(mget mp p).getD false=true↔p∈(l.take k).map prL
 lin:Lin1 v (l.take k)
theorem Aqg (hn:v.length<=1024) (hl:l.length<=1000000):lfix (Jv l v) ([],0)=some (if Lin1 v l then .inl () else .inr 62):=by
 obtain ⟨t,ht,hR⟩:=Bl (B:=Jv l v) (fun s=>l.length-s.2.toNat)
  (fun s=>∃ (mp:List (Aa × Bool)) (k:Nat),s=(mp,(k:Int))/\L3 v l mp k)
  (fun t=>t=if Lin1 v l then .inl () else .inr 62) (by
   rintro s ⟨mp,k,rfl,h⟩
   unfold Jv
   dsimp only
   have hle:=h.le
   by_cases hlt:k < l.length
   ·have hm:l[k]∈l:=List.getElem_mem hlt
    rw[if_pos (by omega),Bb hlt,Ad,jn_d]
    by_cases ho:okL v l[k]
    ·obtain ⟨h1,h2,h3⟩:=ho
     have hr:=Vw h1 h2
     have e:Fh l[k].a0 l[k].a1=some (prL l[k]):=rfl
     have hr':inN v.length (prL l[k]).a0/\inN v.length (prL l[k]).a1:=hr
     rw[if_neg (by have:=h1.1;omega),if_neg (by have:=h2.1;omega),if_neg (by have:=h1.2;omega),if_neg (by have:=h2.2;omega),if_neg h3,e,Ad,gd_t (Mv hn hr'.1 hr'.2),Ad]
     dsimp only
     by_cases c:prL l[k]∈(l.take k).map prL
     ·right
      refine ⟨.inr 62,by rw[if_pos ((h.get _).2 c)],?_⟩
      rw[if_neg]
      rintro ⟨_,hnd⟩
      have hs:List.Sublist ((l.take (k+1)).map prL) (l.map prL):=(List.take_sublist _ _).map _
      have:=hnd.sublist hs
      rw[Br hlt,List.map_append,List.map_singleton,Tn] at this
      exact this.2 c
     ·left
      have hf:(mget mp (prL l[k])).getD false=false:=by
       cases g:(mget mp (prL l[k])).getD false with
       | false=>rfl
       | true=>exact absurd ((h.get _).1 g) c
      have hlen:=h.len
      refine ⟨(mput mp (prL l[k]) true,((k+1:Nat):Int)),?_,⟨mput mp (prL l[k]) true,k+1,rfl,⟨by omega,h.ok.put _ _,?_,fun p=>?_,?_⟩⟩,by simp;omega⟩
      ·rw[hf,if_neg (by simp),Ad,gd_t (Mv hn hr'.1 hr'.2),gd_t (by omega),Be (by omega)]
      ·unfold mput
       have:(mdel mp (prL l[k])).length<=mp.length:=List.length_filter_le _ _
       rw[List.length_cons];omega
      ·rw[Po h.ok,Br hlt,List.map_append,List.map_singleton,List.mem_append,List.mem_singleton]
       by_cases e:p=prL l[k]
       ·simp[e]
       ·rw[if_neg e,h.get p]
        simp[e]
      ·rw[Br hlt]
       refine ⟨fun s hs=>?_,?_⟩
       ·rcases List.mem_append.1 hs with hs | hs
        ·exact h.lin.1 s hs
        ·rw[List.mem_singleton] at hs
         rw[hs];exact ⟨h1,h2,h3⟩
       ·rw[List.map_append,List.map_singleton,Tn]
        exact ⟨h.lin.2,c⟩
    ·right
     have hno:¬ Lin1 v l:=fun g=>ho (g.1 _ hm)
     refine ⟨.inr 62,?_,by rw[if_neg hno]⟩
     unfold okL inN at ho
     by_cases c1:l[k].a0 < 0
     ·rw[if_pos c1];rfl
     ·rw[if_neg c1]
      by_cases c2:l[k].a1 < 0
      ·rw[if_pos c2];rfl
      ·rw[if_neg c2]
       by_cases c3:((v.length:Nat):Int)<=l[k].a0
       ·rw[if_pos c3];rfl
       ·rw[if_neg c3]
        by_cases c4:((v.length:Nat):Int)<=l[k].a1
        ·rw[if_pos c4];rfl
        ·rw[if_neg c4,if_pos (by omega)];rfl
   ·right
    obtain rfl:k=l.length:=by omega
    refine ⟨.inl (),by rw[if_neg (by omega)],?_⟩
    have:=h.lin
    rw[List.take_length] at this
    rw[if_pos this])
  ([],0) ⟨[],0,rfl,⟨by omega,List.Pairwise.nil,by simp,fun p=>by simp[mget],⟨fun s hs=>by simp at hs,by simp⟩⟩⟩
 rw[ht,hR]
theorem Amq (hv:Bu v) (hn:v.length<=1024) {x:Aa} (h1:inN v.length x.a0) (h2:inN v.length x.a1) :
  (lfix (Em v x) 0=some (.inl ())/\∀ k,inN v.length k->¬ BtwF (plV v x.a0) (plV v x.a1) (plV v k))\/(lfix (Em v x) 0=some (.inr 63)/\∃ k,inN v.length k/\BtwF (plV v x.a0) (plV v x.a1) (plV v k)):=by
 haveI:∀ p q r,Decidable (BtwF p q r):=fun _ _ _=>Classical.propDecidable _
 obtain ⟨x0,i0,e0⟩:=Yn h1
 obtain ⟨x1,i1,e1⟩:=Yn h2
 have L:=Qr (β:=Unit) (γ:=Int) v.length (by omega) (fun k=>decide (BtwF (plV v x.a0) (plV v x.a1) (plV v (k:Int)))) (Em v x) () 63 (fun k hk=>by
  unfold Em Cu
  have hp:(⟨v[k].X,v[k].Y⟩:Ac)=plV v (k:Int):=(Zz hk).symm
  rw[if_pos (by omega),Bb hk,Ad,i0,Ad,i1,Ad,Ad,Ad,Ad,e0,e1,hp,Sy (hv.ok _ h1) (hv.ok _ h2) (hv.ok _ ⟨by omega,by omega⟩),Ad,Be (by omega)]) (by
  unfold Em
  rw[if_neg (by omega)])
 rw[L]
 by_cases c:∃ k,inN v.length k/\BtwF (plV v x.a0) (plV v x.a1) (plV v k)
 ·right
  refine ⟨?_,c⟩
  obtain ⟨k,⟨k0,k1⟩,hk⟩:=c
  rw[if_pos]
  rw[List.any_eq_true]
  exact ⟨k.toNat,List.mem_range.2 (by omega),by rw[decide_eq_true_eq,Int.toNat_of_nonneg k0];exact hk⟩
 ·left
  refine ⟨?_,fun k hk g=>c ⟨k,hk,g⟩⟩
  rw[if_neg]
  rw[List.any_eq_true]
  rintro ⟨k,hk,g⟩
  rw[decide_eq_true_eq] at g
  exact c ⟨(k:Int),⟨by omega,by have:=List.mem_range.1 hk;omega⟩,g⟩
theorem Amr (hv:Bu v) (hl:l.length<=1000000) (hok:∀ s∈l,okL v s) {i:Nat} (hi:i < l.length) :
  (lfix (Gj (i:Int) v l[i]) (l.take i,0)=some (.inl ())/\∀ x∈l.take i,¬ Gr v x.a0 x.a1 l[i].a0 l[i].a1)\/(lfix (Gj (i:Int) v l[i]) (l.take i,0)=some (.inr 63)/\∃ x∈l.take i,Gr v x.a0 x.a1 l[i].a0 l[i].a1):=by
 obtain ⟨h1,h2,_⟩:=hok _ (List.getElem_mem hi)
 obtain ⟨t,ht,hR⟩:=Bl (B:=Gj (i:Int) v l[i]) (fun s=>i-s.2.toNat)
  (fun s=>∃ k:Nat,s=(l.take i,(k:Int))/\k<=i/\∀ x∈(l.take i).take k,¬ Gr v x.a0 x.a1 l[i].a0 l[i].a1)
  (fun t=>(t = .inl ()/\∀ x∈l.take i,¬ Gr v x.a0 x.a1 l[i].a0 l[i].a1)\/(t = .inr 63/\∃ x∈l.take i,Gr v x.a0 x.a1 l[i].a0 l[i].a1)) (by
   rintro s ⟨k,rfl,hk,hno⟩
   unfold Gj
   dsimp only
   have hlen:(l.take i).length=i:=by simp;omega
   by_cases hlt:k < i
   ·have hlt':k < (l.take i).length:=by omega
    obtain ⟨q1,q2,_⟩:=hok _ (List.mem_of_mem_take (List.getElem_mem hlt'))
    rw[if_pos (by omega),Bb hlt',Ad,Xj hv q1 q2 h1 h2,Ad]
    by_cases c:Gr v (l.take i)[k].a0 (l.take i)[k].a1 l[i].a0 l[i].a1
    ·right
     exact ⟨.inr 63,by rw[if_pos (decide_eq_true c)],.inr ⟨rfl,_,List.getElem_mem hlt',c⟩⟩
    ·left
     refine ⟨(l.take i,((k+1:Nat):Int)),by rw[if_neg (by rw[decide_eq_true_eq];exact c),Be (by omega)],⟨k+1,rfl,by omega,fun x hx=>?_⟩,by simp;omega⟩
     rw[Br hlt',List.mem_append,List.mem_singleton] at hx
     rcases hx with hx | rfl
     ·exact hno x hx
     ·exact c
   ·right
    obtain rfl:k=i:=by omega
    refine ⟨.inl (),by rw[if_neg (by omega)],.inl ⟨rfl,fun x hx=>hno x ?_⟩⟩
    rwa [List.take_of_length_le (by omega)])
  (l.take i,0) ⟨0,rfl,by omega,by simp⟩
 rcases hR with ⟨rfl,h⟩ | ⟨rfl,h⟩
 ·exact .inl ⟨ht,h⟩
 ·exact .inr ⟨ht,h⟩
theorem Ams (hv:Bu v) (hn:v.length<=1024) (hl:l.length<=1000000) (hok:∀ s∈l,okL v s):lfix (Io l v) 0=some (if Lin2 v l then .inl () else .inr 63):=by
 obtain ⟨t,ht,hR⟩:=Bl (B:=Io l v) (fun s=>l.length-s.toNat)
  (fun s=>∃ k:Nat,s=(k:Int)/\k<=l.length/\Lin2 v (l.take k))
  (fun t=>t=if Lin2 v l then .inl () else .inr 63) (by
   rintro s ⟨k,rfl,hk,h⟩
   unfold Io
   by_cases hlt:k < l.length
   ·obtain ⟨h1,h2,_⟩:=hok _ (List.getElem_mem hlt)
    rw[if_pos (by omega),jn_d,Bb hlt,Ad,jn_d]
    rcases Amq hv hn h1 h2 with ⟨e,g⟩ | ⟨e,g⟩
    ·rw[e,Ad]
     dsimp only
     rw[gd_t ⟨by omega,by omega⟩,show subl l 0 (k:Int)=l.take k from by rw[Aob];simp]
     rcases Amr hv hl hok hlt with ⟨e2,g2⟩ | ⟨e2,g2⟩
     ·left
      rw[e2,Ad]
      refine ⟨((k+1:Nat):Int),by dsimp only;rw[Be (by omega)],⟨k+1,rfl,by omega,?_⟩,by simp;omega⟩
      rw[Br hlt]
      refine ⟨fun s hs=>?_,?_⟩
      ·rcases List.mem_append.1 hs with hs | hs
       ·exact h.1 s hs
       ·rw[List.mem_singleton] at hs
        rw[hs];exact g
      ·rw[List.pairwise_append]
       exact ⟨h.2,by simp,fun x hx y hy=>by rw[List.mem_singleton] at hy;rw[hy];exact g2 x hx⟩
     ·right
      rw[e2,Ad]
      refine ⟨.inr 63,rfl,?_⟩
      rw[if_neg]
      rintro ⟨_,hp⟩
      obtain ⟨x,hx,hc⟩:=g2
      have:=hp.sublist (List.take_sublist (k+1) l)
      rw[Br hlt,List.pairwise_append] at this
      exact this.2.2 x hx l[k] (by simp) hc
    ·right
     rw[e,Ad]
     refine ⟨.inr 63,rfl,?_⟩
     rw[if_neg]
     rintro ⟨hp,_⟩
     obtain ⟨z,hz,hb⟩:=g
     exact hp _ (List.getElem_mem hlt) z hz hb
   ·right
    obtain rfl:k=l.length:=by omega
    refine ⟨.inl (),by rw[if_neg (by omega)],?_⟩
    rw[List.take_length] at h
    rw[if_pos h])
  0 ⟨0,rfl,by omega,⟨fun s hs=>by simp at hs,by simp⟩⟩
 rw[ht,hR]
theorem Age (hv:Bu v) (hn:v.length<=1024) (hl:l.length<=1000000):Ni v l=some (Nz v l):=by
 unfold Ni Nz
 rw[jn_d,Aqg hn hl,Ad]
 by_cases c1:Lin1 v l
 ·rw[if_pos c1,if_pos c1]
  dsimp only
  rw[jn_d,Ams hv hn hl c1.1,Ad]
  by_cases c2:Lin2 v l
  ·rw[if_pos c2,if_pos c2]
  ·rw[if_neg c2,if_neg c2]
 ·rw[if_neg c1,if_neg c1]
end
section
variable {v:List Ab} {l:List Aa}
theorem Ak1 (hl:l.length<=1000000) (hs:∀ s∈l.map prL,Km s):Ry l=some (Au cmp2 (l.map prL)):=by
 obtain ⟨t,ht,hR⟩:=Bl (B:=Qu l) (fun s=>l.length-s.2.toNat)
  (fun s=>∃ k:Nat,s=((l.take k).map prL,(k:Int))/\k<=l.length)
  (fun t=>t=l.map prL) (by
   rintro s ⟨k,rfl,hk⟩
   unfold Qu
   dsimp only
   by_cases hlt:k < l.length
   ·left
    refine ⟨((l.take (k+1)).map prL,((k+1:Nat):Int)),?_,⟨k+1,rfl,by omega⟩,by simp;omega⟩
    rw[if_pos (by omega),Bb hlt,Ad,show Fh l[k].a0 l[k].a1=some (prL l[k]) from rfl,Ad,gd_t (by simp;omega),Be (by omega),Br hlt,List.map_append]
    rfl
   ·right
    obtain rfl:k=l.length:=by omega
    exact ⟨_,by rw[if_neg (by omega)],by simp⟩)
  ([],0) ⟨0,by simp,by omega⟩
 unfold Ry
 rw[jn_d,ht,Ad,hR]
 dsimp only
 rw[gd_t ⟨by simp;omega,hs⟩]
theorem Gr.symm {a b c d:Int} (h:Gr v a b c d):Gr v c d a b:=by
 obtain ⟨⟨n1,n2,n3,n4⟩,h⟩:=h
 refine ⟨⟨n1.symm,n3.symm,n2.symm,n4.symm⟩,?_⟩
 unfold Meet at *
 rcases h with (h | h | h | h) | ⟨h1,h2⟩
 ·exact .inl (.inr (.inr (.inl h)))
 ·exact .inl (.inr (.inr (.inr h)))
 ·exact .inl (.inl h)
 ·exact .inl (.inr (.inl h))
 ·exact .inr ⟨h2,h1⟩
theorem Gr.swap {a b c d:Int} (h:Gr v a b c d):Gr v a b d c:=by
 obtain ⟨⟨n1,n2,n3,n4⟩,h⟩:=h
 refine ⟨⟨n2,n1,n4,n3⟩,?_⟩
 unfold Meet at *
 have bs:∀ p q r,BtwF p q r->BtwF q p r:=fun p q r h=>⟨⟨by have:=h.1.1;rw[Ax];omega,fun e=>h.1.2 e.symm⟩,h.2.2,h.2.1⟩
 rcases h with (h | h | h | h) | ⟨h1,h2⟩
 ·exact .inl (.inr (.inl h))
 ·exact .inl (.inl h)
 ·exact .inl (.inr (.inr (.inl (bs _ _ _ h))))
 ·exact .inl (.inr (.inr (.inr (bs _ _ _ h))))
 ·refine .inr ⟨by rw[Int.mul_comm];exact h1,?_⟩
  rw[Ax (plV v c) (plV v d) (plV v a),Ax (plV v c) (plV v d) (plV v b)]
  rw[Int.sign_neg,Int.sign_neg,Int.neg_mul_neg]
  exact h2
theorem Aqh {a b c d:Int} (h:Gr v (pr2 a b).a0 (pr2 a b).a1 (pr2 c d).a0 (pr2 c d).a1):Gr v a b c d:=by
 have one:∀ {a b c d:Int},Gr v a b (pr2 c d).a0 (pr2 c d).a1->Gr v a b c d:=fun {a b c d} h=>by
  by_cases e:c<=d
  ·have e0:(pr2 c d).a0=c:=by unfold pr2;simp only;omega
   have e1:(pr2 c d).a1=d:=by unfold pr2;simp only;omega
   rwa [e0,e1] at h
  ·have e0:(pr2 c d).a0=d:=by unfold pr2;simp only;omega
   have e1:(pr2 c d).a1=c:=by unfold pr2;simp only;omega
   rw[e0,e1] at h
   exact h.swap
 exact (one (one h).symm).symm
structure Lines (v:List Ab) (L:List Aa):Prop where
 ok:∀ s∈L,okL v s/\s.a0<=s.a1
 nd:L.Nodup
 free:∀ s∈L,Free v s.a0 s.a1
 apart:∀ s∈L,∀ t∈L,s≠t->¬ Gr v s.a0 s.a1 t.a0 t.a1
theorem Az8 {s:Aa} (h:okL v s):okL v (prL s)/\(prL s).a0<=(prL s).a1:=by
 obtain ⟨h1,h2,h3⟩:=h
 have:=Vw h1 h2
 refine ⟨⟨this.1,this.2,?_⟩,?_⟩
 ·unfold prL pr2;simp only;omega
 ·unfold prL pr2;simp only;omega
theorem Afz (hv:Bu v) (h1:Lin1 v l) (h2:Lin2 v l):Lines v (Au cmp2 (l.map prL)):=by
 have mem:∀ s,s∈Au cmp2 (l.map prL)↔∃ t∈l,prL t=s:=fun s=>by rw[Ga,List.mem_map]
 refine ⟨fun s hs=>?_,(Cz _ _).nodup_iff.2 h1.2,fun s hs=>?_,fun s hs t ht hne=>?_⟩
 ·obtain ⟨x,hx,rfl⟩:=(mem s).1 hs
  exact Az8 (h1.1 x hx)
 ·obtain ⟨x,hx,rfl⟩:=(mem s).1 hs
  have f:=h2.1 x hx
  have fr:Free v x.a0 x.a1:=fun z hz n1 n2 g=>by
   obtain ⟨k1,k2,_⟩:=h1.1 x hx
   exact f z hz ⟨g,fun e=>n1 (hv.dist _ _ hz k1 e),fun e=>n2 (hv.dist _ _ hz k2 e)⟩
  unfold prL
  by_cases c:x.a0<=x.a1
  ·have e0:(pr2 x.a0 x.a1).a0=x.a0:=by unfold pr2;simp only;omega
   have e1:(pr2 x.a0 x.a1).a1=x.a1:=by unfold pr2;simp only;omega
   rw[e0,e1];exact fr
  ·have e0:(pr2 x.a0 x.a1).a0=x.a1:=by unfold pr2;simp only;omega
   have e1:(pr2 x.a0 x.a1).a1=x.a0:=by unfold pr2;simp only;omega
   rw[e0,e1]
   exact fun z hz n1 n2 g=>fr z hz n2 n1 ⟨by have:=g.1;rw[Ax];omega,fun e=>g.2 e.symm⟩
 ·obtain ⟨x,hx,rfl⟩:=(mem s).1 hs
  obtain ⟨y,hy,rfl⟩:=(mem t).1 ht
  intro g
  have g':=Aqh g
  obtain ⟨i,hi,rfl⟩:=List.getElem_of_mem hx
  obtain ⟨j,hj,rfl⟩:=List.getElem_of_mem hy
  rcases Nat.lt_trichotomy i j with c | c | c
  ·exact (List.pairwise_iff_getElem.1 h2.2) i j hi hj c g'
  ·subst c;exact hne rfl
  ·exact (List.pairwise_iff_getElem.1 h2.2) j i hj hi c g'.symm
structure Aua (v:List Ab) (L:List Aa) (k:Nat) (m:Mp) (F:List (Aa × Bool)):Prop where
 le:k<=L.length
 map:MapN v.length m
 tri:Tri (plV v) (inN v.length) (apM m)
 cov:Cov (plV v) (inN v.length) (apM m)
 ne:m≠[]
 side:∀ s∈L.take k,Sd (apM m) s.a0 s.a1
 fok:Dx F
 fix:∀ p,(mget F p).getD false=true↔p∈L.take k
 flen:F.length<=k
theorem Aqi (hv:Bu v) (hn:v.length<=1024) {L:List Aa} (hL:Lines v L) (hlen:L.length<=1000000) {m:Mp} (hm:MapN v.length m) (ht:Tri (plV v) (inN v.length) (apM m)) (hc:Cov (plV v) (inN v.length) (apM m)) (hne:m≠[]) :
  ∃ m' F,lfix (Oy L) (v,m,[],0)=some (v,m',F)/\Aua v L L.length m' F:=by
 obtain ⟨t,h1,h2⟩:=Bl (B:=Oy L) (fun s=>L.length-s.2.2.2.toNat)
  (fun s=>∃ (m:Mp) (F:List (Aa × Bool)) (k:Nat),s=(v,m,F,(k:Int))/\Aua v L k m F)
  (fun t=>∃ m' F,t=(v,m',F)/\Aua v L L.length m' F) (by
   rintro s ⟨m,F,k,rfl,h⟩
   unfold Oy
   dsimp only
   have hle:=h.le
   by_cases hlt:k < L.length
   ·left
    have hmem:L[k]∈L:=List.getElem_mem hlt
    obtain ⟨⟨k1,k2,k3⟩,k4⟩:=hL.ok _ hmem
    have hfl:=h.flen
    obtain ⟨m',e,g⟩:=At9 (F:=F) hv hn h.map h.tri h.cov h.ne k1 k2 k3 (hL.free _ hmem) (by omega)
    refine ⟨(v,m',mput F L[k] true,((k+1:Nat):Int)),?_,⟨m',mput F L[k] true,k+1,rfl,⟨by omega,g.map,g.tri,g.cov,g.ne,fun s hs=>?_,h.fok.put _ _,fun p=>?_,?_⟩⟩,by simp;omega⟩
    ·rw[if_pos (by omega),Bb hlt,Ad,show (L[k]:Aa)=⟨L[k].a0,L[k].a1⟩ from rfl,e,Ad,Be (by omega)]
    ·rw[Br hlt,List.mem_append,List.mem_singleton] at hs
     rcases hs with hs | rfl
     ·have hsL:=List.mem_of_mem_take hs
      have hne2:L[k]≠s:=fun e=>by
       have:=hL.nd.sublist (List.take_sublist (k+1) L)
       rw[Br hlt,Tn] at this
       exact this.2 (e ▸ hs)
      have hap:=hL.apart _ hmem _ hsL hne2
      exact g.keep _ _ (fun c=>hap c.cross.1) (fun c=>hap c.cross.2) (h.side s hs)
     ·exact g.side
    ·rw[Po h.fok,Br hlt,List.mem_append,List.mem_singleton]
     by_cases c:p=L[k]
     ·simp[c]
     ·rw[if_neg c,h.fix p]
      simp[c]
    ·unfold mput
     have:(mdel F L[k]).length<=F.length:=List.length_filter_le _ _
     rw[List.length_cons];omega
   ·right
    obtain rfl:k=L.length:=by omega
    exact ⟨_,by rw[if_neg (by omega)],m,F,rfl,h⟩)
  (v,m,[],0) ⟨m,[],0,rfl,⟨by omega,hm,ht,hc,hne,fun s hs=>by simp at hs,List.Pairwise.nil,fun p=>by simp[mget],by simp⟩⟩
 obtain ⟨m',F,rfl,h3⟩:=h2
 exact ⟨m',F,h1,h3⟩
structure Mesh (v:List Ab) (L:List Aa) (m:Mp):Prop where
 map:MapN v.length m
 tri:Tri (plV v) (inN v.length) (apM m)
 cov:Cov (plV v) (inN v.length) (apM m)
 ne:m≠[]
 side:∀ s∈L,Sd (apM m) s.a0 s.a1
 leg:∀ i j k l,apM m i j=some k->apM m j i=some l->pr2 i j∈L\/DH (plV v) (hV v) i j k l < 0
theorem Adb (h:Nw v=0) (hl:l.length<=1000000) (h1:Lin1 v l) (h2:Lin2 v l) :
  ∃ T,Lm v l=some (⟨v,T,Au cmp2 (l.map prL)⟩,0)/\((Xf v/\T=[])\/(¬ Xf v/\∃ m,Mesh v (Au cmp2 (l.map prL)) m/\T=Au cmp3 (m.flatMap triF))):=by
 obtain ⟨hn,_,hv⟩:=Qh h
 have hL:=Afz hv h1 h2
 have sm:∀ s∈l.map prL,Km s:=fun s hs=>by
  obtain ⟨⟨k1,k2,_⟩,_⟩:=hL.ok s (Ga.2 hs)
  exact Ym hn k1 k2
 have hlen:(Au cmp2 (l.map prL)).length<=1000000:=by rw[(Cz _ _).length_eq];simp;omega
 obtain ⟨r,hr1,hr⟩:=Ad8 hv hn
 obtain ⟨m,s1,s2⟩:=Asg hv hn hr []
 have e0:Nz v l=0:=by unfold Nz;rw[if_pos h1,if_pos h2]
 unfold Lm
 rw[Aj2,h,Ad,if_pos rfl,Age hv hn hl,e0,Ad,if_pos rfl,Ak1 hl sm,Ad,hr1,Ad,s1,Ad,jn_d]
 dsimp only
 have hcl:Mk v=some v:=by
  unfold Mk
  rw[gd_t (by omega)]
 rcases s2 with ⟨h3,rfl⟩ | ⟨h3,h4,h5,h6,h7⟩
 ·rw[if_neg (by simp)]
  have ht:=Aa3 (n:=v.length) hn (b:=⟨v,[],[]⟩) ⟨List.Pairwise.nil,by simp⟩
  rw[hcl,Ad,ht,Ad]
  exact ⟨_,rfl,.inl ⟨h3,by simp[Au]⟩⟩
 ·have hpos:0 < m.length:=List.length_pos_iff.2 h7
  rw[if_pos (by omega),jn_d]
  obtain ⟨m1,F,f1,f2⟩:=Aqi hv hn hL hlen h4 h5 h6 h7
  rw[f1,Ad]
  dsimp only
  obtain ⟨m',g1,g2,g3⟩:=Aqk (b:=⟨v,m1,F⟩) hv hn f2.map f2.tri
  rw[g1,Ad]
  dsimp only at g1 g2 g3 ⊢
  have ht:=Aa3 (n:=v.length) hn (b:=⟨v,m',F⟩) g2.map
  rw[hcl,Ad,ht,Ad]
  have fx:∀ p q:Int,Fx F p q=true↔pr2 p q∈Au cmp2 (l.map prL):=fun p q=>by
   have:=f2.fix (pr2 p q)
   rw[List.take_length] at this
   exact this
  refine ⟨_,rfl,.inr ⟨h3,m',⟨g2.map,g2.tri,g3.cov _ f2.cov,g3.ne f2.ne,fun s hs=>?_,fun i j k l hk hl=>?_⟩,rfl⟩⟩
  ·obtain ⟨⟨_,_,k3⟩,k4⟩:=hL.ok s hs
   have hp:pr2 s.a0 s.a1=s:=by
    obtain ⟨x,y⟩:=s
    unfold pr2
    rw[Id]
    dsimp only at k4 ⊢
    omega
   refine g3.fix _ _ ((fx _ _).2 (by rw[hp];exact hs)) (f2.side s (by rw[List.take_length];exact hs))
  ·rcases g2.pend i j k l hk hl with q | q | q
   ·cases q
   ·exact .inl ((fx _ _).1 q)
   ·exact .inr q
end
end Go.Proofs.YtjfndjmabhbicaaGreat
