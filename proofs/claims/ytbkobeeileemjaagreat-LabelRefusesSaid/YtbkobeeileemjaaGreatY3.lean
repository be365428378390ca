/- Growing: what the program's functions return. -/
import Derived.Test.YtbkobeeileemjaaGreatH3
import Derived.Test.YtbkobeeileemjaaGreatY2
namespace Go.Proofs.YtbkobeeileemjaaGreat
open Go Go.RowKit
theorem lplace_eq (p:S_api_Point):label_place p=some (X.plF p):=rfl
theorem okPt_place {p:S_api_Point} (hp:X.okPt p=true):okP (X.plF p):=by
 have:=X.okPt_rng hp
 unfold okP X.plF
 dsimp only
 omega
theorem gap_eq {a b:S_api_Span} (ha:-268435456≤a.Lo∧a.Lo≤a.Hi∧a.Hi≤268435456) (hb:-268435456≤b.Lo∧b.Lo≤b.Hi∧b.Hi≤268435456):label_gap a b=some (gapI a b)∧0≤gapI a b∧gapI a b≤536870912:=by
 unfold label_gap gapI
 rw [w64_id (x:=a.Lo-b.Hi) (by omega) (by omega),w64_id (x:=b.Lo-a.Hi) (by omega) (by omega)]
 exact ⟨rfl,by omega,by omega⟩
theorem gentle_Z {g q s:Int} (h1:0≤g) (h2:g < 4294967296) (h3:0≤s) (h4:s < 4294967296) (h5:0≤q) (h6:q < 18446744073709551616):label_gentle g q s=some (decide (g*g*1000000≤s*s*q)):=by
 obtain ⟨a,rfl⟩:=Int.eq_ofNat_of_zero_le h1
 obtain ⟨b,rfl⟩:=Int.eq_ofNat_of_zero_le h3
 obtain ⟨c,rfl⟩:=Int.eq_ofNat_of_zero_le h5
 rw [gentle_N (by omega) (by omega) (by omega)]
 congr 1
 rw [Bool.eq_iff_iff,decide_eq_true_eq,decide_eq_true_eq,
  show (a:Int)*(a:Int)*1000000=((a*a*1000000:Nat):Int) by rw [Int.natCast_mul,Int.natCast_mul];rfl,
  show (b:Int)*(b:Int)*(c:Int)=((b*b*c:Nat):Int) by rw [Int.natCast_mul,Int.natCast_mul]]
 exact Int.ofNat_le.symm
section
variable {m:S_api_Mesh} (h:Msh m) {p:S_api_Point} (hp:X.okPt p=true) {r:S_api_Terrain} (hr:X.okRules r=true)
include h hp hr
theorem fits_step {t:S_arr3_int} (ht:t∈m.T) (i:Int) {j:Nat} (hj:j < [t.a0,t.a1,t.a2].length) :
  label_fits_l8 t m p r i (j:Int)=if gentleV m.V r p [t.a0,t.a1,t.a2][j]=true then some (.inl ((j+1:Nat):Int)) else some (.inr (.inr (i,false,0))):=by
 obtain ⟨h0,h1,h2,_⟩:=h.t _ ht
 have hk:inN m.V.length [t.a0,t.a1,t.a2][j]:=by
  have:[t.a0,t.a1,t.a2][j]∈[t.a0,t.a1,t.a2]:=List.getElem_mem hj
  simp only [List.mem_cons,List.not_mem_nil,or_false] at this
  rcases this with e | e | e <;> rw [e] <;> assumption
 have hj3:j < 3:=hj
 have hrr:=X.okRules_rng hr
 have hpp:=X.okPt_rng hp
 unfold label_fits_l8
 rw [if_pos (by omega),idx_nat hj,bnd_s,w64_succ (by omega)]
 unfold gentleV
 generalize [t.a0,t.a1,t.a2][j]=k at *
 have hz:=okP_at h.ok hk
 obtain ⟨n,rfl,hn⟩:=inN_nat hk
 rw [zV_at hn,plV_at hn] at hz ⊢
 obtain ⟨g1,g2,g3⟩:=gap_eq (a:=p.Z) (b:=m.V[n].Z) (by omega) hz.2
 obtain ⟨q1,q2,q3⟩:=square_eq (okPt_place hp) hz.1
 have sp:surface_Place m.V[n]=some (pP m.V[n]):=rfl
 rw [idx_nat hn,bnd_s,g1,bnd_s,lplace_eq,bnd_s,sp,bnd_s,q1,bnd_s,gentle_Z g2 (by omega) (by omega) (by omega) q2 (by omega),bnd_s]
 rfl
theorem fits_eq:label_fits m p r=some (fitV m.V m.T r p):=by
 have hpp:=X.okPt_rng hp
 have hq:=okPt_place hp
 unfold label_fits
 rw [lplace_eq,bnd_s,locate_eq h hq,bnd_s]
 unfold fitV
 cases e:locT m.V m.T (X.plF p) with
 | none=>rfl
 | some i =>
  dsimp only
  have e':=e
  unfold locT at e'
  rw [List.findIdx?_eq_some_iff_getElem] at e'
  obtain ⟨hi,hc,_⟩:=e'
  have hb:=bndT_rng h (List.getElem_mem hi) hc
  rw [if_neg (by omega),bnd_s,bounds_eq h hq hi hc,bnd_s,(gap_eq (a:=p.Z) (by omega) hb).1,bnd_s,idx_nat hi]
  dsimp only
  by_cases c:r.Reach < gapI p.Z (bndT m.V (X.plF p) m.T[i])
  ·rw [if_pos c,if_pos c]
  ·rw [if_neg c,if_neg c,jn_d,bnd_s,lfix_all [m.T[i].a0,m.T[i].a1,m.T[i].a2] (gentleV m.V r p) (label_fits_l8 m.T[i] m p r (i:Int)) () ((i:Int),false,0) (fun j hj=>fits_step h hp hr (List.getElem_mem hi) _ hj) ?_,bnd_s]
   ·by_cases c2:gentleV m.V r p m.T[i].a0=true∧gentleV m.V r p m.T[i].a1=true∧gentleV m.V r p m.T[i].a2=true
    ·rw [if_pos c2,if_pos (by simp [c2])]
    ·rw [if_neg c2,if_neg (by simpa using c2)]
   ·unfold label_fits_l8
    rw [if_neg (by simp)]
omit hp hr in
theorem fitV_rng:-1≤(fitV m.V m.T r p).1∧(fitV m.V m.T r p).1 < 2305843009213693952:=by
 have hl:=h.len
 unfold fitV
 cases e:locT m.V m.T (X.plF p) with
 | none=>dsimp only;omega
 | some i =>
  have e':=e
  unfold locT at e'
  rw [List.findIdx?_eq_some_iff_getElem] at e'
  obtain ⟨hi,hc,_⟩:=e'
  dsimp only
  rw [idx_nat hi]
  dsimp only
  split
  ·dsimp only;omega
  ·split <;> (dsimp only;omega)
end
/-! ### the mesh of the ground -/
theorem tri_bound {n:Nat} {T:List S_arr3_int} (hnd:T.Nodup) (h:∀ t∈T,inN n t.a0∧inN n t.a1∧inN n t.a2):T.length≤n*n*n:=by
 have h1:(T.map fun t=>((t.a0.toNat*n+t.a1.toNat)*n+t.a2.toNat)).Nodup:=by
  unfold List.Nodup
  rw [List.pairwise_map]
  refine List.Pairwise.imp_of_mem ?_ hnd
  intro x y hx hy hne e
  obtain ⟨x0,x1,x2⟩:=h x hx
  obtain ⟨y0,y1,y2⟩:=h y hy
  unfold inN at x0 x1 x2 y0 y1 y2
  have e2:x.a2.toNat=y.a2.toNat:=by
   have:=congrArg (· % n) e
   simp only [Nat.mul_add_mod_self_right] at this
   rwa [Nat.mod_eq_of_lt (by omega),Nat.mod_eq_of_lt (by omega)] at this
  have e':x.a0.toNat*n+x.a1.toNat=y.a0.toNat*n+y.a1.toNat:=by
   rw [e2] at e
   exact Nat.eq_of_mul_eq_mul_right (show 0 < n by omega) (by omega)
  have e1:x.a1.toNat=y.a1.toNat:=by
   have:=congrArg (· % n) e'
   simp only [Nat.mul_add_mod_self_right] at this
   rwa [Nat.mod_eq_of_lt (by omega),Nat.mod_eq_of_lt (by omega)] at this
  have e0:x.a0.toNat=y.a0.toNat:=by
   rw [e1] at e'
   exact Nat.eq_of_mul_eq_mul_right (show 0 < n by omega) (by omega)
  apply hne
  obtain ⟨xa,xb,xc⟩:=x
  obtain ⟨ya,yb,yc⟩:=y
  simp only at *
  rw [show xa=ya by omega,show xb=yb by omega,show xc=yc by omega]
 have:=nodup_sub_len (m:=List.range (n*n*n)) h1 fun x hx=>by
  obtain ⟨t,ht,rfl⟩:=List.mem_map.1 hx
  obtain ⟨t0,t1,t2⟩:=h t ht
  unfold inN at t0 t1 t2
  rw [List.mem_range]
  have a1:=Nat.mul_le_mul_right n (show t.a0.toNat+1≤n by omega)
  have a2:=Nat.mul_le_mul_right n (show t.a0.toNat*n+t.a1.toNat+1≤n*n by rw [Nat.add_mul] at a1;omega)
  rw [Nat.add_mul,Nat.one_mul] at a2
  omega
 rwa [List.length_map,List.length_range] at this
theorem pts_good {L:List S_api_Point} (hL:X.Fit L):∀ x∈vxL L,goodP x:=fun x hx=>by
 unfold vxL at hx
 obtain ⟨p,hp,rfl⟩:=List.mem_map.1 hx
 have:=X.okPt_rng (hL.ok p hp)
 unfold goodP okP pP
 dsimp only
 omega
theorem pts_build {L:List S_api_Point} (hL:X.Fit L):∃ r:S_api_Mesh × Int,label_build L=some r∧((r.2=0∧apartL L∧r.1.V=vxL L∧r.1.Lines=[]∧MeshT (vxL L) r.1.T)∨(r=(⟨[],[],[]⟩,11)∧¬ apartL L)):=by
 have hn:=hL.n
 unfold label_build
 rw [gd_t (by omega),jn_d,build_loop hn,bnd_s]
 dsimp only
 rcases verts_pts hL with ⟨e,ha⟩ | ⟨e,ha⟩
 ·obtain ⟨T,t1,t3⟩:=Build_eq e
  rw [t1,bnd_s]
  dsimp only
  rw [if_pos rfl]
  exact ⟨_,rfl,.inl ⟨rfl,ha,rfl,rfl,t3⟩⟩
 ·rw [Build_bad [] (by omega),bnd_s]
  dsimp only
  rw [if_neg (by omega)]
  exact ⟨_,rfl,.inr ⟨rfl,ha⟩⟩
theorem msh_of {L:List S_api_Point} (hL:X.Fit L) {m:S_api_Mesh} (hv:m.V=vxL L) (ht:MeshT (vxL L) m.T):Msh m:=by
 have hn:=hL.n
 have hlen:m.V.length≤1024:=by rw [hv];unfold vxL;rw [List.length_map];exact hn
 have hin:∀ t∈m.T,inN m.V.length t.a0∧inN m.V.length t.a1∧inN m.V.length t.a2∧0 < areaT m.V t:=fun t h=>by
  rw [hv]
  obtain ⟨_,_,d0,d1,d2,d3,_⟩:=(ht.mem t).1 h
  exact ⟨d0,d1,d2,d3⟩
 refine ⟨hlen,by rw [hv];exact pts_good hL,?_,hin⟩
 have:=tri_bound ht.nd (fun t h=>⟨(hin t h).1,(hin t h).2.1,(hin t h).2.2.1⟩)
 have h1:=Nat.mul_le_mul hlen hlen
 have h2:=Nat.mul_le_mul h1 hlen
 omega
end Go.Proofs.YtbkobeeileemjaaGreat
/- Growing: one round, and all rounds. -/
namespace Go.Proofs.YtbkobeeileemjaaGreat
open Go Go.RowKit Go.Sort
/-- Candidates, as the program finds them. -/
structure Ctx (l:List S_api_Point) (r:S_api_Terrain) (C:List S_api_Point):Prop where
 val:X.validL l=true
 rul:X.okRules r=true
 few:l.length≤300
 perm:C.Perm (X.candL l r)
/-- Ids of candidates, each once. -/
structure GOk (C:List S_api_Point) (g:List Int):Prop where
 nd:g.Nodup
 src:∀ i∈g,∃ p∈C,p.Id=i
theorem Fit.pick {l:List S_api_Point} {ids:List Int} (hl:X.Fit l):X.Fit (pickL l ids):=(Fit.sel hl).perm (sortBy_perm _ _).symm
section
variable {l:List S_api_Point} {r:S_api_Terrain} {C:List S_api_Point} (hc:Ctx l r C)
include hc
theorem Ctx.fit:X.Fit C:=(X.Fit.cand hc.val).perm hc.perm.symm
theorem Ctx.bot {p:S_api_Point} (hp:p∈C):p∈X.candL l r:=hc.perm.mem_iff.1 hp
theorem Ctx.dry {p:S_api_Point} (hp:p∈C):p∈l∧X.sunkB l r p=false∧p.Num=p.Of:=by
 have h1:=(X.mem_bot.1 (hc.bot hp)).1
 unfold X.lastL X.dryL at h1
 rw [List.mem_filter,List.mem_filter] at h1
 exact ⟨h1.1.1,by simpa using h1.1.2,by simpa using h1.2⟩
theorem Ctx.apart {p q:S_api_Point} (hp:p∈C) (hq:q∈C) (hx:p.X=q.X) (hy:p.Y=q.Y):p=q:=by
 obtain ⟨p1,p2⟩:=X.mem_bot.1 (hc.bot hp)
 obtain ⟨q1,q2⟩:=X.mem_bot.1 (hc.bot hq)
 have e:X.plF p=X.plF q:=by unfold X.plF;rw [hx,hy]
 exact X.id_inj hc.fit.id hp hq (X.lowB_total (q2 p p1 e) (p2 q q1 e.symm))
theorem Ctx.len:C.length≤300:=by
 classical
 have h1:=nodup_sub_len (l:=C) (m:=l) (X.nodup_of_ids hc.fit.id) (fun x hx=>(hc.dry hx).1)
 have:=hc.few
 omega
variable {g:List Int} (hg:GOk C g)
include hg
omit hc in
theorem GOk.len:g.length≤C.length:=by
 have:=nodup_sub_len (l:=g) (m:=C.map (·.Id)) hg.nd (fun i hi=>by
  obtain ⟨p,hp,rfl⟩:=hg.src i hi
  exact List.mem_map_of_mem hp)
 rwa [List.length_map] at this
theorem GOk.sel:okSel l g:=⟨hg.nd,fun i hi=>by
 obtain ⟨p,hp,e⟩:=hg.src i hi
 exact ⟨p,(hc.dry hp).1,e⟩⟩
theorem GOk.rng {i:Int} (hi:i∈g):-9223372036854775808≤i∧i≤9223372036854775807:=by
 obtain ⟨p,hp,rfl⟩:=hg.src i hi
 have:=X.okPt_rng (hc.fit.ok p hp)
 omega
theorem GOk.pick {p:S_api_Point} (hp:p∈pickL l g):p∈C∧p.Id∈g:=by
 have h1:p∈selL l g:=mem_sortBy.1 hp
 unfold selL at h1
 rw [List.mem_filter,decide_eq_true_eq] at h1
 obtain ⟨c,hc1,e⟩:=hg.src _ h1.2
 rw [X.id_inj (X.Fit.of hc.val).id h1.1 (hc.dry hc1).1 e.symm]
 exact ⟨hc1,by rw [e];exact h1.2⟩
theorem GOk.apart:apartL (pickL l g):=by
 have hf:=(Fit.pick (ids:=g) (X.Fit.of hc.val)).id
 rw [List.Nodup,List.pairwise_map] at hf
 unfold apartL
 refine List.Pairwise.imp_of_mem ?_ hf
 intro a b ha hb hne e
 exact hne (congrArg (·.Id) (hc.apart (GOk.pick hc hg ha).1 (GOk.pick hc hg hb).1 e.1 e.2))
theorem surf_eq:∃ m:S_api_Mesh,label_surfaceOf l g=some (m,0)∧m.V=vxL (pickL l g)∧m.Lines=[]∧MeshT (vxL (pickL l g)) m.T∧Msh m:=by
 have h1:=GOk.len hg
 have h2:=hc.len
 have hf:=Fit.pick (ids:=g) (X.Fit.of hc.val)
 obtain ⟨x,e,⟨e0,_,e1,e2,e3⟩ | ⟨_,e0⟩⟩:=pts_build hf
 ·refine ⟨x.1,?_,e1,e2,e3,msh_of hf e1 e3⟩
  unfold label_surfaceOf
  rw [chosen_eq (X.Fit.of hc.val) (by omega) (fun i hi=>GOk.rng hc hg hi),bnd_s,if_pos (GOk.sel hc hg)]
  dsimp only
  rw [if_pos rfl,e,bnd_s,e0]
 ·exact absurd (GOk.apart hc hg) e0
end
/-- The mesh of the points with these Ids. -/
noncomputable def gMesh (l:List S_api_Point) (g:List Int):S_api_Mesh:=match label_surfaceOf l g with
 | some r=>r.1
 | none=>⟨[],[],[]⟩
noncomputable def gFit (l:List S_api_Point) (r:S_api_Terrain) (g:List Int):FitF:=fitV (gMesh l g).V (gMesh l g).T r
section
variable {l:List S_api_Point} {r:S_api_Terrain} {C:List S_api_Point} (hc:Ctx l r C) {g:List Int} (hg:GOk C g)
include hc hg
theorem gMesh_eq:label_surfaceOf l g=some (gMesh l g,0)∧(gMesh l g).V=vxL (pickL l g)∧(gMesh l g).Lines=[]∧MeshT (vxL (pickL l g)) (gMesh l g).T∧Msh (gMesh l g):=by
 obtain ⟨m,e,h⟩:=surf_eq hc hg
 have:gMesh l g=m:=by unfold gMesh;rw [e]
 rw [this]
 exact ⟨e,h⟩
omit hc hg in
theorem best_len {C':List S_api_Point} {b:List (Int × S_label_offer)} (h:BestOk g (gFit l r g) C' b):b.length≤C'.length:=by
 classical
 have h1:(b.map (·.2.p)).Nodup:=by
  unfold List.Nodup
  rw [List.pairwise_map]
  refine List.Pairwise.imp_of_mem ?_ h.map
  intro q q' hq hq' hne e
  have a1:=(h.src q hq).2.2
  have a2:=(h.src q' hq').2.2
  rw [e,a2] at a1
  exact hne (Prod.mk.inj a1).1.symm
 have:=nodup_sub_len (m:=C') h1 fun x hx=>by
  obtain ⟨q,hq,rfl⟩:=List.mem_map.1 hx
  exact (h.src q hq).1
 rwa [List.length_map] at this
theorem best_loop:lfix (label_grow_l6 C g (gMesh l g,0) r) (([]:List (Int × S_label_offer)),0)=some (bestG g (gFit l r g) C):=by
 obtain ⟨_,_,_,_,hm⟩:=gMesh_eq hc hg
 have hlen:=hc.len
 have hgl:=GOk.len hg
 have:=lfix_ind (B:=label_grow_l6 C g (gMesh l g,0) r) (fun s=>C.length-s.2.toNat) (fun s=>∃ k:Nat,k≤C.length∧s=((C.take k).foldl (stepG g (gFit l r g)) [],(k:Int))) (fun t=>t=bestG g (gFit l r g) C) (fun s hs=>by
  obtain ⟨k,hk,rfl⟩:=hs
  have hb:=bestG_take (g:=g) (F:=gFit l r g) (C:=C) k
  have hbl:=best_len hb
  rw [List.length_take] at hbl
  unfold label_grow_l6
  dsimp only
  by_cases hk2:k < C.length
  ·left
   refine ⟨((C.take (k+1)).foldl (stepG g (gFit l r g)) [],((k+1:Nat):Int)),?_,⟨k+1,hk2,rfl⟩,by dsimp only;omega⟩
   rw [List.take_succ_eq_append_getElem hk2,List.foldl_append]
   generalize (C.take k).foldl (stepG g (gFit l r g)) []=b at *
   rw [if_pos (by omega),jn_d,idx_nat hk2,bnd_s,contains_eq (by omega),bnd_s,w64_succ (by omega)]
   have hp:=hc.fit.ok _ (List.getElem_mem hk2)
   have hf:=fits_eq hm hp hc.rul
   have hfr:=fitV_rng (p:=C[k]) (r:=r) hm
   show _=some (Sum.inl (stepG g (gFit l r g) b C[k],((k+1:Nat):Int)))
   unfold stepG
   by_cases c1:C[k].Id∈g
   ·rw [if_pos (by simpa using c1),if_pos (.inl c1)]
   ·rw [if_neg (by simpa using c1),hf,bnd_s]
    unfold gFit
    generalize fitV (gMesh l g).V (gMesh l g).T r C[k]=f at *
    by_cases c2:f.2.1=true
    ·rw [if_pos c2,gd_t (by omega),bnd_s,jn_d,if_neg (show ¬ (C[k].Id∈g∨f.2.1=false) by rw [c2];simpa using c1),gd_t (by omega),gd_t (by omega)]
     cases e:mget b f.1 with
     | none=>simp
     | some o =>
      simp only [Option.isSome_some,if_true,Option.getD_some]
      by_cases c3:f.2.2 < o.far
      ·rw [if_pos c3,if_pos (.inl c3)]
       try simp
      ·rw [if_neg c3]
       by_cases c4:f.2.2=o.far
       ·rw [if_pos c4,X.lower_eq,bnd_s]
        by_cases c5:X.lowB C[k] o.p=true
        ·rw [if_pos c5,if_pos (.inr ⟨c4,c5⟩)]
        ·rw [if_neg c5,if_neg (fun h=>h.elim c3 (fun h=>c5 h.2))]
       ·rw [if_neg c4,if_neg (by simp),if_neg (fun h=>h.elim c3 (fun h=>c4 h.1))]
    ·rw [if_neg c2,if_pos (.inr (by simpa using c2))]
  ·right
   rw [if_neg (by omega)]
   have:k=C.length:=by omega
   subst this
   exact ⟨_,rfl,by rw [List.take_length];rfl⟩) (([]:List (Int × S_label_offer)),0) ⟨0,by omega,rfl⟩
 obtain ⟨t,ht,rfl⟩:=this
 exact ht
/-- One round of growing. -/
theorem grow_eq:label_grow l g C r=some (growG g (gFit l r g) C,0):=by
 obtain ⟨hs,_⟩:=gMesh_eq hc hg
 have hlen:=hc.len
 have hgl:=GOk.len hg
 have hbl:=best_len (bestG_ok g (gFit l r g) C)
 unfold label_grow
 rw [hs,bnd_s]
 dsimp only
 rw [if_pos rfl,jn_d,best_loop hc hg,bnd_s]
 dsimp only
 unfold clone_Int
 rw [gd_t (by omega),bnd_s,jn_d]
 refine mfixK_from (bestG_ok g (gFit l r g) C).map g (fun q=>[q.2.p.Id]) (fun q=>by simp) (fun s=>rfl) (fun s q hq hlt=>?_) (fun w hw=>?_)
 ·unfold label_grow_l17s
  rw [gd_t (by omega)]
 ·rw [← List.map_eq_flatMap] at hw
  have:=hw.length_eq
  rw [List.length_map] at this
  dsimp only
  rw [gd_t (by rw [List.length_append];omega)]
  unfold growG adds
  rw [X.sortI_perm (hw.append_left g)]
theorem grow_ok:GOk C (growG g (gFit l r g) C):=⟨growG_nodup hg.nd hc.fit.id,fun _ hi=>growG_mem hg.src hi⟩
end
/-- What is known of the ground: it is grown from the seeds, and no candidate fits it. -/
structure Grnd (l:List S_api_Point) (r:S_api_Terrain) (C:List S_api_Point) (g:List Int):Prop where
 ok:GOk C g
 srt:g.Pairwise (·≤·)
 seed:∀ i∈X.seedL l r,i∈g
 again:growG g (gFit l r g) C=g
 stop:bestG g (gFit l r g) C=[]
theorem ctx_of {l:List S_api_Point} {r:S_api_Terrain} (hl:X.validL l=true) (hr:X.okRules r=true) (hn:l.length≤300):∃ C,label_candidates l r=some C∧Ctx l r C:=by
 obtain ⟨C,h1,h2⟩:=X.cand_eq hl hr
 exact ⟨C,h2,hl,hr,hn,h1⟩
section
variable {l:List S_api_Point} {r:S_api_Terrain} {C:List S_api_Point} (hc:Ctx l r C)
include hc
theorem seeds_C:label_seeds C r=some (X.seedL l r):=by
 rw [X.seeds_eq hc.fit hc.rul]
 unfold X.seedL
 rw [X.sortI_perm ((X.bot_perm (X.nodup_of_ids hc.fit.id) hc.perm).map _)]
theorem seed_ok:GOk C (X.seedL l r):=by
 have hf:=X.Fit.cand (l:=l) (r:=r) hc.val
 have hb:X.Fit (X.bot (X.ceF r.Cell) (X.candL l r)):=hf.filter _
 refine ⟨(X.perm_sortI _).nodup_iff.2 hb.id,fun i hi=>?_⟩
 obtain ⟨p,hp,rfl⟩:=List.mem_map.1 ((X.perm_sortI _).mem_iff.1 hi)
 exact ⟨p,hc.perm.mem_iff.2 (X.mem_bot.1 hp).1,rfl⟩
theorem groundOf_eq (hC:label_candidates l r=some C):∃ g,label_groundOf l r=some g∧Grnd l r C g:=by
 have:=lfix_ind (B:=label_groundOf_l3 l C r) (fun g=>C.length-g.length) (fun g=>GOk C g∧g.Pairwise (·≤·)∧∀ i∈X.seedL l r,i∈g) (fun g=>Grnd l r C g) (fun g hs=>by
  obtain ⟨h1,h2,h3⟩:=hs
  have h4:=grow_ok hc h1
  unfold label_groundOf_l3
  rw [grow_eq hc h1,bnd_s,jn_d]
  dsimp only
  rw [if_pos rfl]
  by_cases e:(growG g (gFit l r g) C).length=g.length
  ·right
   obtain ⟨e1,e2⟩:=growG_stop h2 e
   rw [if_pos (decide_eq_true (by omega))]
   exact ⟨g,rfl,h1,h2,h3,e1,e2⟩
  ·left
   rw [if_neg (by rw [decide_eq_true_eq];omega)]
   have l1:=GOk.len h4
   have l2:=growG_len (g:=g) (F:=gFit l r g) (C:=C)
   exact ⟨_,rfl,⟨h4,growG_sorted,fun i hi=>growG_sub (h3 i hi)⟩,by omega⟩) (X.seedL l r) ⟨seed_ok hc,X.sorted_sortI _,fun i hi=>hi⟩
 obtain ⟨g,e,h⟩:=this
 refine ⟨g,?_,h⟩
 unfold label_groundOf
 rw [hC,bnd_s,seeds_C hc,bnd_s,e,bnd_s]
/-- There is ground where there are seeds. -/
theorem Grnd.pos {g:List Int} (h:Grnd l r C g):0 < g.length↔0 < (X.seedL l r).length:=by
 constructor
 ·intro h0
  obtain ⟨i,hi⟩:=List.exists_mem_of_length_pos h0
  obtain ⟨p,hp,_⟩:=h.ok.src i hi
  have:X.bot (X.ceF r.Cell) (X.candL l r)≠[]:=bot_ne (List.ne_nil_of_mem (hc.bot hp))
  unfold X.seedL
  rw [(X.perm_sortI _).length_eq,List.length_map]
  exact List.length_pos_iff.2 this
 ·intro h0
  obtain ⟨i,hi⟩:=List.exists_mem_of_length_pos h0
  exact List.length_pos_of_mem (h.seed i hi)
end
end Go.Proofs.YtbkobeeileemjaaGreat
/- Walks of the program, with their plain functions: LabelFixed. -/
namespace Go.Proofs.YtbkobeeileemjaaGreat
open Go Go.RowKit

end Go.Proofs.YtbkobeeileemjaaGreat
