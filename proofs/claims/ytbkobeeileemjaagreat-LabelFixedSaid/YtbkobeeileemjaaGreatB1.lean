/- The points with the Ids of a list, and their mesh. -/
import Derived.Test.YtbkobeeileemjaaGreatL2
import Derived.Test.YtbkobeeileemjaaGreatL10
import Derived.Test.YtbkobeeileemjaaGreatQ2
namespace Go.Proofs.YtbkobeeileemjaaGreat
open Go Go.RowKit Go.Sort
theorem w1 {k n:Nat} (h:k < n) (hn:n≤1000000000):w64 ((k:Int)+1)=((k+1:Nat):Int):=by rw [w64_id (by omega) (by omega)];omega
theorem has_eq {l:List Int} (hl:l.length≤1000000) (n:Int):lidarref07_Has l n=some (decide (n∈l)):=by
 unfold lidarref07_Has
 rw [jn_d]
 have:=lfix_ind (B:=lidarref07_Has_l2 l n) (fun s=>l.length-s.toNat) (fun s=>∃ k:Nat,k≤l.length∧s=(k:Int)∧n ∉ l.take k) (fun t=>(t = .inl ()∧n ∉ l)∨(t = .inr true∧n∈l)) (fun s hs=>by
  obtain ⟨k,hk,rfl,h⟩:=hs
  unfold lidarref07_Has_l2
  by_cases hk2:k < l.length
  ·rw [if_pos (by omega),idx_nat hk2,bnd_s]
   by_cases c:l[k]=n
   ·right
    rw [if_pos c]
    exact ⟨_,rfl,.inr ⟨rfl,c ▸ List.getElem_mem hk2⟩⟩
   ·left
    rw [if_neg c,w1 hk2 (by omega)]
    refine ⟨_,rfl,⟨k+1,hk2,rfl,fun g=>?_⟩,by omega⟩
    rw [List.take_succ_eq_append_getElem hk2,List.mem_append,List.mem_singleton] at g
    rcases g with g | g
    ·exact h g
    ·exact c g.symm
  ·right
   rw [if_neg (by omega)]
   have:k=l.length:=by omega
   subst this
   rw [List.take_length] at h
   exact ⟨_,rfl,.inl ⟨rfl,h⟩⟩) 0 ⟨0,by omega,rfl,by simp⟩
 obtain ⟨t,ht,g | g⟩:=this
 ·obtain ⟨rfl,g⟩:=g
  rw [ht,bnd_s]
  simp [g]
 ·obtain ⟨rfl,g⟩:=g
  rw [ht,bnd_s]
  simp [g]
/-- What is asked of the list of Ids. -/
def okSel (l:List S_api_Point) (ids:List Int):Prop:=ids.Nodup∧∀ i∈ids,∃ p∈l,p.Id=i
noncomputable instance (l:List S_api_Point) (ids:List Int):Decidable (okSel l ids):=Classical.propDecidable _
noncomputable def selL (l:List S_api_Point) (ids:List Int):List S_api_Point:=l.filter fun p=>decide (p.Id∈ids)
/-- The points with these Ids, in the order of their Ids. -/
noncomputable def pickL (l:List S_api_Point) (ids:List Int):List S_api_Point:=sortBy cmpId (selL l ids)
variable {l:List S_api_Point} {ids:List Int}
theorem idsOk_of (hl:X.Fit l):idsOk l:=⟨hl.id,fun x hx=>by have:=X.okPt_rng (hl.ok x hx);omega⟩
theorem idsOk_sub {m:List S_api_Point} (h:idsOk l) (hm:∀ x∈m,x∈l) (hn:(m.map (·.Id)).Nodup):idsOk m:=⟨hn,fun x hx=>h.2 x (hm x hx)⟩
theorem sel_of {out:List S_api_Point} (hl:X.Fit l) (h1:out.map (·.Id)=ids) (h2:∀ p∈out,p∈l) (hn:ids.Nodup):out.Perm (selL l ids):=by
 have hon:out.Nodup:=X.nodup_of_ids (by rw [h1];exact hn)
 refine (List.perm_ext_iff_of_nodup hon ((X.nodup_of_ids hl.id).filter _)).2 fun p=>?_
 rw [List.mem_filter,decide_eq_true_eq]
 constructor
 ·intro hp
  exact ⟨h2 p hp,by rw [← h1];exact List.mem_map_of_mem hp⟩
 ·rintro ⟨hp,hi⟩
  rw [← h1,List.mem_map] at hi
  obtain ⟨q,hq,e⟩:=hi
  rw [← id_one hl.id (h2 q hq) hp e]
  exact hq
theorem sort_sel {out:List S_api_Point} (h:idsOk out) (hp:out.Perm (selL l ids)):sortBy cmpId out=pickL l ids :=
 sortBy_congr (totP out) (fun x hx=>⟨hx,h⟩) hp
/-! ### the program's list -/
theorem map_loop (hl:X.Fit l):∃ m,lfix (label_chosen_l3 l) (([]:List (Int × S_api_Point)),0)=some m∧MapOk m∧∀ x p,mget m x=some p↔p∈l∧p.Id=x:=by
 have hn:=hl.n
 refine lfix_ind (B:=label_chosen_l3 l) (fun s=>l.length-s.2.toNat) (fun s=>∃ k:Nat,k≤l.length∧s.2=(k:Int)∧MapOk s.1∧s.1.length≤k∧∀ x p,mget s.1 x=some p↔p∈l.take k∧p.Id=x) _ (fun s hs=>?_) _ ⟨0,by omega,rfl,List.Pairwise.nil,by simp,fun x p=>by simp [mget_nil]⟩
 obtain ⟨m,j⟩:=s
 obtain ⟨k,hk,rfl,h1,h2,h3⟩:=hs
 dsimp only at h1 h2 h3
 unfold label_chosen_l3
 dsimp only
 by_cases hk2:k < l.length
 ·left
  have hr:=X.okPt_rng (hl.ok _ (List.getElem_mem hk2))
  rw [if_pos (by omega),idx_nat hk2,bnd_s,gd_t (by omega),gd_t (by omega),w1 hk2 (by omega)]
  refine ⟨_,rfl,⟨k+1,hk2,rfl,h1.put _ _,?_,fun x p=>?_⟩,by dsimp only;omega⟩
  ·dsimp only
   unfold mput
   have:(mdel m l[k].Id).length≤m.length:=List.length_filter_le _ _
   rw [List.length_cons]
   omega
  ·dsimp only
   rw [mget_put h1,List.take_succ_eq_append_getElem hk2,List.mem_append,List.mem_singleton]
   by_cases e:x=l[k].Id
   ·rw [if_pos e]
    constructor
    ·intro g
     cases g
     exact ⟨.inr rfl,e.symm⟩
    ·rintro ⟨g | g,g2⟩
     ·rw [id_one hl.id (List.mem_of_mem_take g) (List.getElem_mem hk2) (by omega)]
     ·rw [g]
   ·rw [if_neg e,h3]
    constructor
    ·rintro ⟨g,g2⟩
     exact ⟨.inl g,g2⟩
    ·rintro ⟨g | g,g2⟩
     ·exact ⟨g,g2⟩
     ·rw [g] at g2
      exact absurd g2.symm e
 ·right
  rw [if_neg (by omega)]
  have:k=l.length:=by omega
  subst this
  rw [List.take_length] at h3
  exact ⟨_,rfl,h1,h3⟩
theorem ids_loop (hl:X.Fit l) (hi:ids.length≤300) {m:List (Int × S_api_Point)} (hm:MapOk m) (hg:∀ x p,mget m x=some p↔p∈l∧p.Id=x) (hr:∀ i∈ids,-9223372036854775808≤i∧i≤9223372036854775807) :
  (∃ out:List S_api_Point,lfix (label_chosen_l9 ids) (m,([]:List S_api_Point),0)=some (.inl out)∧out.map (·.Id)=ids∧(∀ p∈out,p∈l)∧okSel l ids)∨(lfix (label_chosen_l9 ids) (m,([]:List S_api_Point),0)=some (.inr ([],false))∧¬ okSel l ids):=by
 have:=lfix_ind (B:=label_chosen_l9 ids) (fun s=>ids.length-s.2.2.toNat)
  (fun s=>∃ k:Nat,k≤ids.length∧s.2.2=(k:Int)∧MapOk s.1∧s.2.1.map (·.Id)=ids.take k∧(∀ p∈s.2.1,p∈l)∧(ids.take k).Nodup∧∀ x p,mget s.1 x=some p↔p∈l∧p.Id=x∧x ∉ ids.take k)
  (fun t=>(∃ out:List S_api_Point,t = .inl out∧out.map (·.Id)=ids∧(∀ p∈out,p∈l)∧okSel l ids)∨(t = .inr ([],false)∧¬ okSel l ids)) (fun s hs=>by
  obtain ⟨m,out,j⟩:=s
  obtain ⟨k,hk,rfl,h1,h2,h3,h4,h5⟩:=hs
  dsimp only at h1 h2 h3 h5
  unfold label_chosen_l9
  dsimp only
  by_cases hk2:k < ids.length
  ·have ts:ids.take (k+1)=ids.take k++[ids[k]]:=List.take_succ_eq_append_getElem hk2
   have hl2:out.length=k:=by have:=congrArg List.length h2;rw [List.length_map,List.length_take] at this;omega
   have hrk:=hr _ (List.getElem_mem hk2)
   rw [if_pos (by omega),idx_nat hk2,bnd_s,gd_t hrk,bnd_s]
   rcases e:mget m ids[k] with _ | p
   ·right
    rw [if_neg (by simp)]
    refine ⟨_,rfl,.inr ⟨rfl,fun g=>?_⟩⟩
    obtain ⟨q,q1,q2⟩:=g.2 _ (List.getElem_mem hk2)
    have hno:ids[k] ∉ ids.take k:=fun hin=>by
     obtain ⟨i,hi',e'⟩:=List.getElem_of_mem hin
     rw [List.length_take] at hi'
     rw [List.getElem_take] at e'
     have:=List.pairwise_iff_getElem.1 g.1 i k (by omega) hk2 (by omega)
     exact this e'
    have:=(h5 ids[k] q).2 ⟨q1,q2,hno⟩
    rw [e] at this
    cases this
   ·left
    obtain ⟨p1,p2,p3⟩:=(h5 _ _).1 e
    rw [if_pos (by simp),gd_t hrk,gd_t (by omega),w1 hk2 (by omega)]
    refine ⟨_,rfl,⟨k+1,hk2,rfl,h1.del _,?_,fun q hq=>?_,?_,fun x q=>?_⟩,by dsimp only;omega⟩
    ·dsimp only
     rw [List.map_append,h2,ts]
     simp [p2]
    ·dsimp only at hq
     rcases List.mem_append.1 hq with hq | hq
     ·exact h3 q hq
     ·rw [List.mem_singleton] at hq
      subst hq
      exact p1
    ·rw [ts,List.nodup_append]
     refine ⟨h4,by simp,fun a ha b hb e=>?_⟩
     rw [List.mem_singleton] at hb
     subst hb;subst e
     exact p3 ha
    ·dsimp only
     rw [mget_del h1,ts,List.mem_append,List.mem_singleton]
     by_cases c:x=ids[k]
     ·rw [if_pos c]
      exact ⟨fun g=>(by cases g),fun g=>absurd (.inr c) g.2.2⟩
     ·rw [if_neg c,h5]
      exact ⟨fun g=>⟨g.1,g.2.1,fun h=>h.elim g.2.2 c⟩,fun g=>⟨g.1,g.2.1,fun h=>g.2.2 (.inl h)⟩⟩
  ·right
   rw [if_neg (by omega)]
   have:k=ids.length:=by omega
   subst this
   rw [List.take_length] at h2 h4
   refine ⟨_,rfl,.inl ⟨out,rfl,h2,h3,h4,fun i hi=>?_⟩⟩
   rw [← h2,List.mem_map] at hi
   obtain ⟨p,hp,e⟩:=hi
   exact ⟨p,h3 p hp,e⟩) (m,[],0) ⟨0,by omega,rfl,hm,by simp,fun p hp=>(by cases hp),by simp,fun x p=>by rw [hg];simp⟩
 obtain ⟨t,ht,⟨out,rfl,g⟩ | ⟨rfl,g⟩⟩:=this
 ·exact .inl ⟨out,ht,g⟩
 ·exact .inr ⟨ht,g⟩
theorem chosen_eq (hl:X.Fit l) (hi:ids.length≤300) (hr:∀ i∈ids,-9223372036854775808≤i∧i≤9223372036854775807):label_chosen l ids=some (if okSel l ids then (pickL l ids,true) else ([],false)):=by
 obtain ⟨m,h1,h2,h3⟩:=map_loop hl
 unfold label_chosen
 rw [jn_d,h1,bnd_s]
 dsimp only
 rw [gd_t (by omega),jn_d]
 rcases ids_loop hl hi h2 h3 hr with ⟨out,g1,g2,g3,g4⟩ | ⟨g1,g2⟩
 ·rw [g1,bnd_s]
  dsimp only
  have ho:idsOk out:=idsOk_sub (idsOk_of hl) g3 (by rw [g2];exact g4.1)
  have hlen:out.length=ids.length:=by rw [← g2,List.length_map]
  rw [gd_t ⟨by omega,fun x hx=>⟨hx,ho⟩⟩,sort_sel ho (sel_of hl g2 g3 g4.1),if_pos g4]
 ·rw [g1,bnd_s]
  dsimp only
  rw [if_neg g2]
/-! ### the document's list -/
theorem pick_dup (hi:ids.length≤300):(lfix (lidarref07_Pick_l2 ids) 0=some (.inl ())∧ids.Nodup)∨(lfix (lidarref07_Pick_l2 ids) 0=some (.inr ([],false))∧¬ ids.Nodup):=by
 have:=lfix_ind (B:=lidarref07_Pick_l2 ids) (fun s=>ids.length-s.toNat) (fun s=>∃ k:Nat,k≤ids.length∧s=(k:Int)∧(ids.take k).Nodup) (fun t=>(t = .inl ()∧ids.Nodup)∨(t = .inr ([],false)∧¬ ids.Nodup)) (fun s hs=>by
  obtain ⟨k,hk,rfl,h⟩:=hs
  unfold lidarref07_Pick_l2
  by_cases hk2:k < ids.length
  ·have ts:ids.take (k+1)=ids.take k++[ids[k]]:=List.take_succ_eq_append_getElem hk2
   have hsub:subl ids 0 (k:Int)=ids.take k:=by unfold subl;simp
   rw [if_pos (by omega),gd_t ⟨by omega,by omega⟩,idx_nat hk2,bnd_s,hsub,has_eq (by rw [List.length_take];omega),bnd_s]
   by_cases c:ids[k]∈ids.take k
   ·right
    rw [if_pos (by simpa using c)]
    refine ⟨_,rfl,.inr ⟨rfl,fun g=>?_⟩⟩
    have h2:(ids.take (k+1)).Nodup:=g.sublist (List.take_sublist _ _)
    rw [ts,List.nodup_append] at h2
    exact h2.2.2 _ c _ (List.mem_singleton.2 rfl) rfl
   ·left
    rw [if_neg (by simpa using c),w1 hk2 (by omega)]
    refine ⟨_,rfl,⟨k+1,hk2,rfl,?_⟩,by omega⟩
    rw [ts,List.nodup_append]
    refine ⟨h,by simp,fun a ha b hb e=>?_⟩
    rw [List.mem_singleton] at hb
    subst hb;subst e
    exact c ha
  ·right
   rw [if_neg (by omega)]
   have:k=ids.length:=by omega
   subst this
   rw [List.take_length] at h
   exact ⟨_,rfl,.inl ⟨rfl,h⟩⟩) 0 ⟨0,by omega,rfl,by simp⟩
 obtain ⟨t,ht,⟨rfl,g⟩ | ⟨rfl,g⟩⟩:=this
 ·exact .inl ⟨ht,g⟩
 ·exact .inr ⟨ht,g⟩
theorem pick_sel (hl:X.Fit l) (hi:ids.length≤300):lfix (lidarref07_Pick_l8 l ids) (([]:List S_api_Point),0)=some (selL l ids):=by
 have hn:=hl.n
 refine X.lfix_filter l (fun p=>decide (p.Id∈ids)) _ (fun j hj s hs=>?_) (fun s=>?_)
 ·unfold lidarref07_Pick_l8
  dsimp only
  rw [if_pos (by omega),jn_d,idx_nat hj,bnd_s,has_eq (by omega),bnd_s,bnd_s,w1 hj (by omega)]
  by_cases c:l[j].Id∈ids
  ·rw [if_pos (by simpa using c),if_pos (by simpa using c),gd_t (by omega)]
  ·rw [if_neg (by simpa using c),if_neg (by simpa using c)]
 ·unfold lidarref07_Pick_l8
  dsimp only
  rw [if_neg (by omega)]
theorem rsorted_eq {L:List S_api_Point} (hL:X.Fit L):lidarref07_sorted L=some (sortBy cmpId L):=by
 have hn:=hL.n
 have ho:=idsOk_of hL
 unfold lidarref07_sorted
 rw [X.rids_eq hn,bnd_s,jn_d]
 generalize hr:sortI (L.map (·.Id))=r
 have hrp:r.Perm (L.map (·.Id)):=by rw [← hr];exact X.perm_sortI _
 have hrl:r.length=L.length:=by rw [hrp.length_eq,List.length_map]
 have hrn:r.Nodup:=hrp.nodup_iff.2 hL.id
 have hrs:r.Pairwise (· < ·):=by
  have h1:r.Pairwise (·≤·):=by rw [← hr];exact X.sorted_sortI _
  exact (List.pairwise_and_iff.2 ⟨h1,hrn⟩).imp fun h=>by omega
 -- one round
 have inner:∀ (i:Nat) (hi:i < r.length) (acc:List S_api_Point),acc.length≤1024*i→lfix (lidarref07_sorted_l7 L r (acc,(i:Int))) (acc,0)=some (acc++L.filter fun p=>decide (p.Id=r[i])):=fun i hi acc ha=>by
  have:=lfix_ind (B:=lidarref07_sorted_l7 L r (acc,(i:Int))) (fun s=>L.length-s.2.toNat) (fun s=>∃ k:Nat,k≤L.length∧s=(acc++(L.take k).filter (fun p=>decide (p.Id=r[i])),(k:Int))) (fun t=>t=acc++L.filter fun p=>decide (p.Id=r[i])) (fun s hs=>by
   obtain ⟨k,hk,rfl⟩:=hs
   unfold lidarref07_sorted_l7
   dsimp only
   by_cases hk2:k < L.length
   ·left
    have ts:L.take (k+1)=L.take k++[L[k]]:=List.take_succ_eq_append_getElem hk2
    have hf:=List.length_filter_le (fun p:S_api_Point=>decide (p.Id=r[i])) (L.take k)
    rw [List.length_take] at hf
    have hi4:i < 1024:=by omega
    rw [if_pos (by omega),jn_d,idx_nat hk2,bnd_s,idx_nat hi,bnd_s,bnd_s,w1 hk2 (by omega)]
    by_cases c:L[k].Id=r[i]
    ·rw [if_pos c,gd_t (by rw [List.length_append];omega)]
     exact ⟨_,rfl,⟨k+1,hk2,by rw [ts,List.filter_append];simp [c]⟩,by dsimp only;omega⟩
    ·rw [if_neg c]
     exact ⟨_,rfl,⟨k+1,hk2,by rw [ts,List.filter_append];simp [c]⟩,by dsimp only;omega⟩
   ·right
    rw [if_neg (by omega)]
    have:k=L.length:=by omega
    subst this
    exact ⟨_,rfl,by rw [List.take_length]⟩) (acc,0) ⟨0,by omega,by simp⟩
  obtain ⟨t,ht,rfl⟩:=this
  exact ht
 have outer:=lfix_ind (B:=lidarref07_sorted_l4 r L) (fun s=>r.length-s.2.toNat) (fun s=>∃ k:Nat,k≤r.length∧s=((r.take k).flatMap (fun i=>L.filter fun p=>decide (p.Id=i)),(k:Int))∧s.1.length≤1024*k) (fun t=>t=r.flatMap fun i=>L.filter fun p=>decide (p.Id=i)) (fun s hs=>by
  obtain ⟨k,hk,rfl,hb⟩:=hs
  dsimp only at hb
  unfold lidarref07_sorted_l4
  dsimp only
  by_cases hk2:k < r.length
  ·left
   have ts:r.take (k+1)=r.take k++[r[k]]:=List.take_succ_eq_append_getElem hk2
   rw [if_pos (by omega),jn_d,inner k hk2 _ hb,bnd_s,w1 hk2 (by omega)]
   refine ⟨_,rfl,⟨k+1,hk2,by rw [ts,List.flatMap_append];simp,?_⟩,by dsimp only;omega⟩
   dsimp only
   have hf:=List.length_filter_le (fun p:S_api_Point=>decide (p.Id=r[k])) L
   rw [List.length_append]
   omega
  ·right
   rw [if_neg (by omega)]
   have:k=r.length:=by omega
   subst this
   exact ⟨_,rfl,by rw [List.take_length]⟩) (([]:List S_api_Point),0) ⟨0,by omega,by simp,by simp⟩
 obtain ⟨t,ht,rfl⟩:=outer
 rw [ht,bnd_s]
 congr 1
 have hpw:(r.flatMap fun i=>L.filter fun p=>decide (p.Id=i)).Pairwise fun x y=>x.Id < y.Id:=by
  rw [List.pairwise_flatMap]
  refine ⟨fun i _=>?_,hrs.imp fun {a b} hab x hx y hy=>?_⟩
  ·refine List.Pairwise.imp_of_mem ?_ ((List.pairwise_map.1 hL.id).filter _)
   intro a b ha hb hne
   rw [List.mem_filter,decide_eq_true_eq] at ha hb
   exact absurd (ha.2.trans hb.2.symm) hne
  ·rw [List.mem_filter,decide_eq_true_eq] at hx hy
   omega
 have hmem:∀ p,p∈(r.flatMap fun i=>L.filter fun p=>decide (p.Id=i))↔p∈L:=fun p=>by
  rw [List.mem_flatMap]
  constructor
  ·rintro ⟨i,_,hp⟩
   exact (List.mem_filter.1 hp).1
  ·intro hp
   exact ⟨p.Id,hrp.mem_iff.2 (List.mem_map_of_mem hp),List.mem_filter.2 ⟨hp,by simp⟩⟩
 have hnd:(r.flatMap fun i=>L.filter fun p=>decide (p.Id=i)).Nodup:=hpw.imp fun h e=>by rw [e] at h;omega
 refine sorted_eq (totP L) (fun x hx=>⟨(hmem x).1 hx,ho⟩) (hpw.imp fun h=>by unfold cmpId;omega) (sortBy_sorted (totP L) fun x hx=>⟨hx,ho⟩) ?_
 exact ((List.perm_ext_iff_of_nodup hnd (X.nodup_of_ids hL.id)).2 hmem).trans (sortBy_perm _ _).symm
theorem Fit.sel (hl:X.Fit l):X.Fit (selL l ids):=hl.filter _
theorem pick_eq (hl:X.Fit l) (hi:ids.length≤300):lidarref07_Pick l ids=some (if okSel l ids then (pickL l ids,true) else ([],false)):=by
 unfold lidarref07_Pick
 rw [jn_d]
 have hsn:=(Fit.sel (ids:=ids) hl).id
 have hsub:∀ i∈(selL l ids).map (·.Id),i∈ids:=fun i hi=>by
  obtain ⟨p,hp,rfl⟩:=List.mem_map.1 hi
  exact of_decide_eq_true (List.mem_filter.1 hp).2
 rcases pick_dup hi with ⟨g1,g2⟩ | ⟨g1,g2⟩
 ·rw [g1,bnd_s]
  dsimp only
  rw [jn_d,pick_sel hl hi,bnd_s]
  dsimp only
  have key:((((selL l ids).length:Nat):Int))=(((ids.length:Nat):Int))↔okSel l ids:=by
   have h1:=nodup_sub_len hsn hsub
   rw [List.length_map] at h1
   constructor
   ·intro e
    refine ⟨g2,fun i hi'=>?_⟩
    refine Classical.byContradiction fun hno=>?_
    have hni:i ∉ (selL l ids).map (·.Id):=fun h=>by
     obtain ⟨p,hp,e2⟩:=List.mem_map.1 h
     exact hno ⟨p,(List.mem_filter.1 hp).1,e2⟩
    have:=nodup_sub_len (l:=i::(selL l ids).map (·.Id)) (m:=ids) (List.nodup_cons.2 ⟨hni,hsn⟩) (fun x hx=>by rcases List.mem_cons.1 hx with rfl | hx;exact hi';exact hsub x hx)
    rw [List.length_cons,List.length_map] at this
    omega
   ·intro ho
    have:=nodup_sub_len (l:=ids) (m:=(selL l ids).map (·.Id)) g2 (fun i hi'=>by
     obtain ⟨p,hp,rfl⟩:=ho.2 i hi'
     exact List.mem_map_of_mem (List.mem_filter.2 ⟨hp,by simpa using hi'⟩))
    rw [List.length_map] at this
    omega
  by_cases c:okSel l ids
  ·rw [if_pos (key.2 c),rsorted_eq (Fit.sel hl),bnd_s,if_pos c]
   rfl
  ·rw [if_neg (fun h=>c (key.1 h)),if_neg c]
 ·rw [g1,bnd_s]
  dsimp only
  rw [if_neg (fun h=>g2 h.1)]
/-! ### the mesh of points -/
def vxL (L:List S_api_Point):List S_api_Vertex:=L.map fun p=>⟨p.X,p.Y,p.Z⟩
theorem build_loop {L:List S_api_Point} (hn:L.length≤1024):lfix (label_build_l3 L) (([]:List S_api_Vertex),0)=some (vxL L):=by
 have:=lfix_ind (B:=label_build_l3 L) (fun s=>L.length-s.2.toNat) (fun s=>∃ k:Nat,k≤L.length∧s=(vxL (L.take k),(k:Int))) (fun t=>t=vxL L) (fun s hs=>by
  obtain ⟨k,hk,rfl⟩:=hs
  unfold label_build_l3
  dsimp only
  by_cases hk2:k < L.length
  ·left
   rw [if_pos (by omega),idx_nat hk2,bnd_s,gd_t (by unfold vxL;rw [List.length_map,List.length_take];omega),w1 hk2 (by omega)]
   exact ⟨_,rfl,⟨k+1,hk2,by unfold vxL;rw [List.take_succ_eq_append_getElem hk2,List.map_append];rfl⟩,by dsimp only;omega⟩
  ·right
   rw [if_neg (by omega)]
   have:k=L.length:=by omega
   subst this
   exact ⟨_,rfl,by rw [List.take_length]⟩) (([]:List S_api_Vertex),0) ⟨0,by omega,rfl⟩
 obtain ⟨t,ht,rfl⟩:=this
 exact ht
/-- No two of the points at one place. -/
def apartL (L:List S_api_Point):Prop:=L.Pairwise fun p q=>¬ (p.X=q.X∧p.Y=q.Y)
theorem verts_pts {L:List S_api_Point} (hL:X.Fit L):vertsE (vxL L)=0∧apartL L∨vertsE (vxL L)=61∧¬ apartL L:=by
 have hn:=hL.n
 have h1:¬ 1024 < (vxL L).length:=by unfold vxL;rw [List.length_map];omega
 have h2:∀ x∈vxL L,goodP x:=fun x hx=>by
  unfold vxL at hx
  obtain ⟨p,hp,rfl⟩:=List.mem_map.1 hx
  have:=X.okPt_rng (hL.ok p hp)
  unfold goodP okP pP
  dsimp only
  omega
 have h3:distinctV (vxL L)↔apartL L:=by
  unfold distinctV apartL vxL
  rw [List.pairwise_map]
  exact Iff.rfl
 unfold vertsE
 rw [if_neg h1,if_neg (fun h=>h h2)]
 by_cases c:apartL L
 ·rw [if_neg (fun h=>h (h3.2 c))]
  exact .inl ⟨rfl,c⟩
 ·rw [if_pos (fun h=>c (h3.1 h))]
  exact .inr ⟨rfl,c⟩
end Go.Proofs.YtbkobeeileemjaaGreat
