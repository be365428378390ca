/- Growing: what the program's functions return. -/
import Derived.Test.YtbkobeeileemjaaGreatH3
import Derived.Test.YtbkobeeileemjaaGreatY2
import Derived.Test.YtbkobeeileemjaaGreatL2
namespace Go.Proofs.YtbkobeeileemjaaGreat
open Go Go.RowKit
theorem Ac6 (p:Aa):Cg p=some (X.plF p):=rfl
theorem Aa0 {p:Aa} (hp:X.okPt p=true):okP (X.plF p):=by
 have:=X.okPt_rng hp
 unfold okP X.plF
 dsimp only
 omega
theorem Am8 {a b:Bl} (ha:-268435456≤a.Lo∧a.Lo≤a.Hi∧a.Hi≤268435456) (hb:-268435456≤b.Lo∧b.Lo≤b.Hi∧b.Hi≤268435456):Pd a b=some (gapI a b)∧0≤gapI a b∧gapI a b≤536870912:=by
 unfold Pd gapI
 rw [Bo (x:=a.Lo-b.Hi) (by omega) (by omega),Bo (x:=b.Lo-a.Hi) (by omega) (by omega)]
 exact ⟨rfl,by omega,by omega⟩
theorem Atb {g q s:Int} (h1:0≤g) (h2:g < 4294967296) (h3:0≤s) (h4:s < 4294967296) (h5:0≤q) (h6:q < 18446744073709551616):Np g q s=some (decide (g*g*1000000≤s*s*q)):=by
 obtain ⟨a,rfl⟩:=Int.eq_ofNat_of_zero_le h1
 obtain ⟨b,rfl⟩:=Int.eq_ofNat_of_zero_le h3
 obtain ⟨c,rfl⟩:=Int.eq_ofNat_of_zero_le h5
 rw [Aso (by omega) (by omega) (by omega)]
 congr 1
 rw [Bool.eq_iff_iff,decide_eq_true_eq,decide_eq_true_eq,
  show (a:Int)*(a:Int)*1000000=((a*a*1000000:Nat):Int) by rw [Int.natCast_mul,Int.natCast_mul];rfl,
  show (b:Int)*(b:Int)*(c:Int)=((b*b*c:Nat):Int) by rw [Int.natCast_mul,Int.natCast_mul]]
 exact Int.ofNat_le.symm
section
variable {m:Bb} (h:Msh m) {p:Aa} (hp:X.okPt p=true) {r:Af} (hr:X.okRules r=true)
include h hp hr
theorem Aqe {t:Aq} (ht:t∈m.T) (i:Int) {j:Nat} (hj:j < [t.a0,t.a1,t.a2].length) :
  Lw t m p r i (j:Int)=if Ss m.V r p [t.a0,t.a1,t.a2][j]=true then some (.inl ((j+1:Nat):Int)) else some (.inr (.inr (i,false,0))):=by
 obtain ⟨h0,h1,h2,_⟩:=h.t _ ht
 have hk:inN m.V.length [t.a0,t.a1,t.a2][j]:=by
  have:[t.a0,t.a1,t.a2][j]∈[t.a0,t.a1,t.a2]:=List.getElem_mem hj
  simp only [List.mem_cons,List.not_mem_nil,or_false] at this
  rcases this with e | e | e <;> rw [e] <;> assumption
 have hj3:j < 3:=hj
 have hrr:=X.okRules_rng hr
 have hpp:=X.okPt_rng hp
 unfold Lw
 rw [if_pos (by omega),Bf hj,Ah,Bt (by omega)]
 unfold Ss
 generalize [t.a0,t.a1,t.a2][j]=k at *
 have hz:=Vr h.ok hk
 obtain ⟨n,rfl,hn⟩:=Qe hk
 rw [Al0 hn,Ya hn] at hz ⊢
 obtain ⟨g1,g2,g3⟩:=Am8 (a:=p.Z) (b:=m.V[n].Z) (by omega) hz.2
 obtain ⟨q1,q2,q3⟩:=Aq0 (Aa0 hp) hz.1
 have sp:Hg m.V[n]=some (pP m.V[n]):=rfl
 rw [Bf hn,Ah,g1,Ah,Ac6,Ah,sp,Ah,q1,Ah,Atb g2 (by omega) (by omega) (by omega) q2 (by omega),Ah]
 rfl
theorem Ave:Qs m p r=some (fitV m.V m.T r p):=by
 have hpp:=X.okPt_rng hp
 have hq:=Aa0 hp
 unfold Qs
 rw [Ac6,Ah,Ah9 h hq,Ah]
 unfold fitV
 cases e:locT m.V m.T (X.plF p) with
 | none=>rfl
 | some i =>
  dsimp only
  have e':=e
  unfold locT at e'
  rw [List.findIdx?_eq_some_iff_getElem] at e'
  obtain ⟨hi,hc,_⟩:=e'
  have hb:=Agv h (List.getElem_mem hi) hc
  rw [if_neg (by omega),Ah,Aia h hq hi hc,Ah,(Am8 (a:=p.Z) (by omega) hb).1,Ah,Bf hi]
  dsimp only
  by_cases c:r.Reach < gapI p.Z (bndT m.V (X.plF p) m.T[i])
  ·rw [if_pos c,if_pos c]
  ·rw [if_neg c,if_neg c,jn_d,Ah,Abb [m.T[i].a0,m.T[i].a1,m.T[i].a2] (Ss m.V r p) (Lw m.T[i] m p r (i:Int)) () ((i:Int),false,0) (fun j hj=>Aqe h hp hr (List.getElem_mem hi) _ hj) ?_,Ah]
   ·by_cases c2:Ss m.V r p m.T[i].a0=true∧Ss m.V r p m.T[i].a1=true∧Ss m.V r p m.T[i].a2=true
    ·rw [if_pos c2,if_pos (by simp [c2])]
    ·rw [if_neg c2,if_neg (by simpa using c2)]
   ·unfold Lw
    rw [if_neg (by simp)]
omit hp hr in
theorem Atc:-1≤(fitV m.V m.T r p).1∧(fitV m.V m.T r p).1 < 2305843009213693952:=by
 have hl:=h.len
 unfold fitV
 cases e:locT m.V m.T (X.plF p) with
 | none=>dsimp only;omega
 | some i =>
  have e':=e
  unfold locT at e'
  rw [List.findIdx?_eq_some_iff_getElem] at e'
  obtain ⟨hi,hc,_⟩:=e'
  dsimp only
  rw [Bf hi]
  dsimp only
  split
  ·dsimp only;omega
  ·split <;> (dsimp only;omega)
end
/-! ### the mesh of the ground -/
theorem Aqf {n:Nat} {T:List Aq} (hnd:T.Nodup) (h:∀ t∈T,inN n t.a0∧inN n t.a1∧inN n t.a2):T.length≤n*n*n:=by
 have h1:(T.map fun t=>((t.a0.toNat*n+t.a1.toNat)*n+t.a2.toNat)).Nodup:=by
  unfold List.Nodup
  rw [List.pairwise_map]
  refine List.Pairwise.imp_of_mem ?_ hnd
  intro x y hx hy hne e
  obtain ⟨x0,x1,x2⟩:=h x hx
  obtain ⟨y0,y1,y2⟩:=h y hy
  unfold inN at x0 x1 x2 y0 y1 y2
  have e2:x.a2.toNat=y.a2.toNat:=by
   have:=congrArg (· % n) e
   simp only [Nat.mul_add_mod_self_right] at this
   rwa [Nat.mod_eq_of_lt (by omega),Nat.mod_eq_of_lt (by omega)] at this
  have e':x.a0.toNat*n+x.a1.toNat=y.a0.toNat*n+y.a1.toNat:=by
   rw [e2] at e
   exact Nat.eq_of_mul_eq_mul_right (show 0 < n by omega) (by omega)
  have e1:x.a1.toNat=y.a1.toNat:=by
   have:=congrArg (· % n) e'
   simp only [Nat.mul_add_mod_self_right] at this
   rwa [Nat.mod_eq_of_lt (by omega),Nat.mod_eq_of_lt (by omega)] at this
  have e0:x.a0.toNat=y.a0.toNat:=by
   rw [e1] at e'
   exact Nat.eq_of_mul_eq_mul_right (show 0 < n by omega) (by omega)
  apply hne
  obtain ⟨xa,xb,xc⟩:=x
  obtain ⟨ya,yb,yc⟩:=y
  simp only at *
  rw [show xa=ya by omega,show xb=yb by omega,show xc=yc by omega]
 have:=Fd (m:=List.range (n*n*n)) h1 fun x hx=>by
  obtain ⟨t,ht,rfl⟩:=List.mem_map.1 hx
  obtain ⟨t0,t1,t2⟩:=h t ht
  unfold inN at t0 t1 t2
  rw [List.mem_range]
  have a1:=Nat.mul_le_mul_right n (show t.a0.toNat+1≤n by omega)
  have a2:=Nat.mul_le_mul_right n (show t.a0.toNat*n+t.a1.toNat+1≤n*n by rw [Nat.add_mul] at a1;omega)
  rw [Nat.add_mul,Nat.one_mul] at a2
  omega
 rwa [List.length_map,List.length_range] at this
theorem Atd {L:List Aa} (hL:X.Fit L):∀ x∈vxL L,Mq x:=fun x hx=>by
 unfold vxL at hx
 obtain ⟨p,hp,rfl⟩:=List.mem_map.1 hx
 have:=X.okPt_rng (hL.ok p hp)
 unfold Mq okP pP
 dsimp only
 omega
theorem Ahz {L:List Aa} (hL:X.Fit L):∃ r:Bb × Int,Nd L=some r∧((r.2=0∧Qz L∧r.1.V=vxL L∧r.1.Lines=[]∧Xz (vxL L) r.1.T)∨(r=(⟨[],[],[]⟩,11)∧¬ Qz L)):=by
 have hn:=hL.n
 unfold Nd
 rw [gd_t (by omega),jn_d,Ank hn,Ah]
 dsimp only
 rcases Ah7 hL with ⟨e,ha⟩ | ⟨e,ha⟩
 ·obtain ⟨T,t1,t3⟩:=Akf e
  rw [t1,Ah]
  dsimp only
  rw [if_pos rfl]
  exact ⟨_,rfl,.inl ⟨rfl,ha,rfl,rfl,t3⟩⟩
 ·rw [App [] (by omega),Ah]
  dsimp only
  rw [if_neg (by omega)]
  exact ⟨_,rfl,.inr ⟨rfl,ha⟩⟩
theorem Am9 {L:List Aa} (hL:X.Fit L) {m:Bb} (hv:m.V=vxL L) (ht:Xz (vxL L) m.T):Msh m:=by
 have hn:=hL.n
 have hlen:m.V.length≤1024:=by rw [hv];unfold vxL;rw [List.length_map];exact hn
 have hin:∀ t∈m.T,inN m.V.length t.a0∧inN m.V.length t.a1∧inN m.V.length t.a2∧0 < Aec m.V t:=fun t h=>by
  rw [hv]
  obtain ⟨_,_,d0,d1,d2,d3,_⟩:=(ht.mem t).1 h
  exact ⟨d0,d1,d2,d3⟩
 refine ⟨hlen,by rw [hv];exact Atd hL,?_,hin⟩
 have:=Aqf ht.nd (fun t h=>⟨(hin t h).1,(hin t h).2.1,(hin t h).2.2.1⟩)
 have h1:=Nat.mul_le_mul hlen hlen
 have h2:=Nat.mul_le_mul h1 hlen
 omega
end Go.Proofs.YtbkobeeileemjaaGreat
/- Growing: one round, and all rounds. -/
namespace Go.Proofs.YtbkobeeileemjaaGreat
open Go Go.RowKit Go.Sort
/-- Candidates, as the program finds them. -/
structure Ctx (l:List Aa) (r:Af) (C:List Aa):Prop where
 val:X.validL l=true
 rul:X.okRules r=true
 few:l.length≤300
 perm:C.Perm (X.candL l r)
/-- Ids of candidates, each once. -/
structure GOk (C:List Aa) (g:List Int):Prop where
 nd:g.Nodup
 src:∀ i∈g,∃ p∈C,p.Id=i
theorem Fit.pick {l:List Aa} {ids:List Int} (hl:X.Fit l):X.Fit (Acg l ids):=(Fit.sel hl).perm (Jh _ _).symm
section
variable {l:List Aa} {r:Af} {C:List Aa} (hc:Ctx l r C)
include hc
theorem Ctx.fit:X.Fit C:=(X.Fit.cand hc.val).perm hc.perm.symm
theorem Ctx.bot {p:Aa} (hp:p∈C):p∈X.candL l r:=hc.perm.mem_iff.1 hp
theorem Ctx.dry {p:Aa} (hp:p∈C):p∈l∧X.sunkB l r p=false∧p.Num=p.Of:=by
 have h1:=(X.mem_bot.1 (hc.bot hp)).1
 unfold X.lastL X.dryL at h1
 rw [List.mem_filter,List.mem_filter] at h1
 exact ⟨h1.1.1,by simpa using h1.1.2,by simpa using h1.2⟩
theorem Ctx.apart {p q:Aa} (hp:p∈C) (hq:q∈C) (hx:p.X=q.X) (hy:p.Y=q.Y):p=q:=by
 obtain ⟨p1,p2⟩:=X.mem_bot.1 (hc.bot hp)
 obtain ⟨q1,q2⟩:=X.mem_bot.1 (hc.bot hq)
 have e:X.plF p=X.plF q:=by unfold X.plF;rw [hx,hy]
 exact X.id_inj hc.fit.id hp hq (X.lowB_total (q2 p p1 e) (p2 q q1 e.symm))
theorem Ctx.len:C.length≤300:=by
 classical
 have h1:=Fd (l:=C) (m:=l) (X.nodup_of_ids hc.fit.id) (fun x hx=>(hc.dry hx).1)
 have:=hc.few
 omega
variable {g:List Int} (hg:GOk C g)
include hg
omit hc in
theorem GOk.len:g.length≤C.length:=by
 have:=Fd (l:=g) (m:=C.map (·.Id)) hg.nd (fun i hi=>by
  obtain ⟨p,hp,rfl⟩:=hg.src i hi
  exact List.mem_map_of_mem hp)
 rwa [List.length_map] at this
theorem GOk.sel:Ags l g:=⟨hg.nd,fun i hi=>by
 obtain ⟨p,hp,e⟩:=hg.src i hi
 exact ⟨p,(hc.dry hp).1,e⟩⟩
theorem GOk.rng {i:Int} (hi:i∈g):-9223372036854775808≤i∧i≤9223372036854775807:=by
 obtain ⟨p,hp,rfl⟩:=hg.src i hi
 have:=X.okPt_rng (hc.fit.ok p hp)
 omega
theorem GOk.pick {p:Aa} (hp:p∈Acg l g):p∈C∧p.Id∈g:=by
 have h1:p∈selL l g:=Jp.1 hp
 unfold selL at h1
 rw [List.mem_filter,decide_eq_true_eq] at h1
 obtain ⟨c,hc1,e⟩:=hg.src _ h1.2
 rw [X.id_inj (X.Fit.of hc.val).id h1.1 (hc.dry hc1).1 e.symm]
 exact ⟨hc1,by rw [e];exact h1.2⟩
theorem GOk.apart:Qz (Acg l g):=by
 have hf:=(Fit.pick (ids:=g) (X.Fit.of hc.val)).id
 rw [List.Nodup,List.pairwise_map] at hf
 unfold Qz
 refine List.Pairwise.imp_of_mem ?_ hf
 intro a b ha hb hne e
 exact hne (congrArg (·.Id) (hc.apart (GOk.pick hc hg ha).1 (GOk.pick hc hg hb).1 e.1 e.2))
theorem Avf:∃ m:Bb,Dj l g=some (m,0)∧m.V=vxL (Acg l g)∧m.Lines=[]∧Xz (vxL (Acg l g)) m.T∧Msh m:=by
 have h1:=GOk.len hg
 have h2:=hc.len
 have hf:=Fit.pick (ids:=g) (X.Fit.of hc.val)
 obtain ⟨x,e,⟨e0,_,e1,e2,e3⟩ | ⟨_,e0⟩⟩:=Ahz hf
 ·refine ⟨x.1,?_,e1,e2,e3,Am9 hf e1 e3⟩
  unfold Dj
  rw [Aqz (X.Fit.of hc.val) (by omega) (fun i hi=>GOk.rng hc hg hi),Ah,if_pos (GOk.sel hc hg)]
  dsimp only
  rw [if_pos rfl,e,Ah,e0]
 ·exact absurd (GOk.apart hc hg) e0
end
/-- The mesh of the points with these Ids. -/
noncomputable def Do (l:List Aa) (g:List Int):Bb:=match Dj l g with
 | some r=>r.1
 | none=>⟨[],[],[]⟩
noncomputable def gFit (l:List Aa) (r:Af) (g:List Int):FitF:=fitV (Do l g).V (Do l g).T r
section
variable {l:List Aa} {r:Af} {C:List Aa} (hc:Ctx l r C) {g:List Int} (hg:GOk C g)
include hc hg
theorem Rt:Dj l g=some (Do l g,0)∧(Do l g).V=vxL (Acg l g)∧(Do l g).Lines=[]∧Xz (vxL (Acg l g)) (Do l g).T∧Msh (Do l g):=by
 obtain ⟨m,e,h⟩:=Avf hc hg
 have:Do l g=m:=by unfold Do;rw [e]
 rw [this]
 exact ⟨e,h⟩
omit hc hg in
theorem Alg {C':List Aa} {b:List (Int × Bk)} (h:Vn g (gFit l r g) C' b):b.length≤C'.length:=by
 classical
 have h1:(b.map (·.2.p)).Nodup:=by
  unfold List.Nodup
  rw [List.pairwise_map]
  refine List.Pairwise.imp_of_mem ?_ h.map
  intro q q' hq hq' hne e
  have a1:=(h.src q hq).2.2
  have a2:=(h.src q' hq').2.2
  rw [e,a2] at a1
  exact hne (Prod.mk.inj a1).1.symm
 have:=Fd (m:=C') h1 fun x hx=>by
  obtain ⟨q,hq,rfl⟩:=List.mem_map.1 hx
  exact (h.src q hq).1
 rwa [List.length_map] at this
theorem Aqg:lfix (Ny C g (Do l g,0) r) (([]:List (Int × Bk)),0)=some (Ad1 g (gFit l r g) C):=by
 obtain ⟨_,_,_,_,hm⟩:=Rt hc hg
 have hlen:=hc.len
 have hgl:=GOk.len hg
 have:=Du (B:=Ny C g (Do l g,0) r) (fun s=>C.length-s.2.toNat) (fun s=>∃ k:Nat,k≤C.length∧s=((C.take k).foldl (Ab2 g (gFit l r g)) [],(k:Int))) (fun t=>t=Ad1 g (gFit l r g) C) (fun s hs=>by
  obtain ⟨k,hk,rfl⟩:=hs
  have hb:=Af0 (g:=g) (F:=gFit l r g) (C:=C) k
  have hbl:=Alg hb
  rw [List.length_take] at hbl
  unfold Ny
  dsimp only
  by_cases hk2:k < C.length
  ·left
   refine ⟨((C.take (k+1)).foldl (Ab2 g (gFit l r g)) [],((k+1:Nat):Int)),?_,⟨k+1,hk2,rfl⟩,by dsimp only;omega⟩
   rw [List.take_succ_eq_append_getElem hk2,List.foldl_append]
   generalize (C.take k).foldl (Ab2 g (gFit l r g)) []=b at *
   rw [if_pos (by omega),jn_d,Bf hk2,Ah,Aed (by omega),Ah,Bt (by omega)]
   have hp:=hc.fit.ok _ (List.getElem_mem hk2)
   have hf:=Ave hm hp hc.rul
   have hfr:=Atc (p:=C[k]) (r:=r) hm
   show _=some (Sum.inl (Ab2 g (gFit l r g) b C[k],((k+1:Nat):Int)))
   unfold Ab2
   by_cases c1:C[k].Id∈g
   ·rw [if_pos (by simpa using c1),if_pos (.inl c1)]
   ·rw [if_neg (by simpa using c1),hf,Ah]
    unfold gFit
    generalize fitV (Do l g).V (Do l g).T r C[k]=f at *
    by_cases c2:f.2.1=true
    ·rw [if_pos c2,gd_t (by omega),Ah,jn_d,if_neg (show ¬ (C[k].Id∈g∨f.2.1=false) by rw [c2];simpa using c1),gd_t (by omega),gd_t (by omega)]
     cases e:mget b f.1 with
     | none=>simp
     | some o =>
      simp only [Option.isSome_some,if_true,Option.getD_some]
      by_cases c3:f.2.2 < o.far
      ·rw [if_pos c3,if_pos (.inl c3)]
       try simp
      ·rw [if_neg c3]
       by_cases c4:f.2.2=o.far
       ·rw [if_pos c4,X.lower_eq,Ah]
        by_cases c5:X.lowB C[k] o.p=true
        ·rw [if_pos c5,if_pos (.inr ⟨c4,c5⟩)]
        ·rw [if_neg c5,if_neg (fun h=>h.elim c3 (fun h=>c5 h.2))]
       ·rw [if_neg c4,if_neg (by simp),if_neg (fun h=>h.elim c3 (fun h=>c4 h.1))]
    ·rw [if_neg c2,if_pos (.inr (by simpa using c2))]
  ·right
   rw [if_neg (by omega)]
   have:k=C.length:=by omega
   subst this
   exact ⟨_,rfl,by rw [List.take_length];rfl⟩) (([]:List (Int × Bk)),0) ⟨0,by omega,rfl⟩
 obtain ⟨t,ht,rfl⟩:=this
 exact ht
/-- One round of growing. -/
theorem Avg:Qm l g C r=some (Ut g (gFit l r g) C,0):=by
 obtain ⟨hs,_⟩:=Rt hc hg
 have hlen:=hc.len
 have hgl:=GOk.len hg
 have hbl:=Alg (Ab3 g (gFit l r g) C)
 unfold Qm
 rw [hs,Ah]
 dsimp only
 rw [if_pos rfl,jn_d,Aqg hc hg,Ah]
 dsimp only
 unfold Ack
 rw [gd_t (by omega),Ah,jn_d]
 refine Amw (Ab3 g (gFit l r g) C).map g (fun q=>[q.2.p.Id]) (fun q=>by simp) (fun s=>rfl) (fun s q hq hlt=>?_) (fun w hw=>?_)
 ·unfold Ry
  rw [gd_t (by omega)]
 ·rw [← List.map_eq_flatMap] at hw
  have:=hw.length_eq
  rw [List.length_map] at this
  dsimp only
  rw [gd_t (by rw [List.length_append];omega)]
  unfold Ut adds
  rw [X.sortI_perm (hw.append_left g)]
theorem Avh:GOk C (Ut g (gFit l r g) C):=⟨Ak6 hg.nd hc.fit.id,fun _ hi=>Ap5 hg.src hi⟩
end
/-- What is known of the ground: it is grown from the seeds, and no candidate fits it. -/
structure Grnd (l:List Aa) (r:Af) (C:List Aa) (g:List Int):Prop where
 ok:GOk C g
 srt:g.Pairwise (·≤·)
 seed:∀ i∈X.seedL l r,i∈g
 again:Ut g (gFit l r g) C=g
 stop:Ad1 g (gFit l r g) C=[]
theorem Axt {l:List Aa} {r:Af} (hl:X.validL l=true) (hr:X.okRules r=true) (hn:l.length≤300):∃ C,Ef l r=some C∧Ctx l r C:=by
 obtain ⟨C,h1,h2⟩:=X.cand_eq hl hr
 exact ⟨C,h2,hl,hr,hn,h1⟩
section
variable {l:List Aa} {r:Af} {C:List Aa} (hc:Ctx l r C)
include hc
theorem Avi:Ow C r=some (X.seedL l r):=by
 rw [X.seeds_eq hc.fit hc.rul]
 unfold X.seedL
 rw [X.sortI_perm ((X.bot_perm (X.nodup_of_ids hc.fit.id) hc.perm).map _)]
theorem Avj:GOk C (X.seedL l r):=by
 have hf:=X.Fit.cand (l:=l) (r:=r) hc.val
 have hb:X.Fit (X.bot (X.ceF r.Cell) (X.candL l r)):=hf.filter _
 refine ⟨(X.perm_sortI _).nodup_iff.2 hb.id,fun i hi=>?_⟩
 obtain ⟨p,hp,rfl⟩:=List.mem_map.1 ((X.perm_sortI _).mem_iff.1 hi)
 exact ⟨p,hc.perm.mem_iff.2 (X.mem_bot.1 hp).1,rfl⟩
theorem Alh (hC:Ef l r=some C):∃ g,Fg l r=some g∧Grnd l r C g:=by
 have:=Du (B:=Mh l C r) (fun g=>C.length-g.length) (fun g=>GOk C g∧g.Pairwise (·≤·)∧∀ i∈X.seedL l r,i∈g) (fun g=>Grnd l r C g) (fun g hs=>by
  obtain ⟨h1,h2,h3⟩:=hs
  have h4:=Avh hc h1
  unfold Mh
  rw [Avg hc h1,Ah,jn_d]
  dsimp only
  rw [if_pos rfl]
  by_cases e:(Ut g (gFit l r g) C).length=g.length
  ·right
   obtain ⟨e1,e2⟩:=Amy h2 e
   rw [if_pos (decide_eq_true (by omega))]
   exact ⟨g,rfl,h1,h2,h3,e1,e2⟩
  ·left
   rw [if_neg (by rw [decide_eq_true_eq];omega)]
   have l1:=GOk.len h4
   have l2:=Aht (g:=g) (F:=gFit l r g) (C:=C)
   exact ⟨_,rfl,⟨h4,Aje,fun i hi=>Ap6 (h3 i hi)⟩,by omega⟩) (X.seedL l r) ⟨Avj hc,X.sorted_sortI _,fun i hi=>hi⟩
 obtain ⟨g,e,h⟩:=this
 refine ⟨g,?_,h⟩
 unfold Fg
 rw [hC,Ah,Avi hc,Ah,e,Ah]
/-- There is ground where there are seeds. -/
theorem Grnd.pos {g:List Int} (h:Grnd l r C g):0 < g.length↔0 < (X.seedL l r).length:=by
 constructor
 ·intro h0
  obtain ⟨i,hi⟩:=List.exists_mem_of_length_pos h0
  obtain ⟨p,hp,_⟩:=h.ok.src i hi
  have:X.bot (X.ceF r.Cell) (X.candL l r)≠[]:=Axg (List.ne_nil_of_mem (hc.bot hp))
  unfold X.seedL
  rw [(X.perm_sortI _).length_eq,List.length_map]
  exact List.length_pos_iff.2 this
 ·intro h0
  obtain ⟨i,hi⟩:=List.exists_mem_of_length_pos h0
  exact List.length_pos_of_mem (h.seed i hi)
end
end Go.Proofs.YtbkobeeileemjaaGreat
/- Walks of the program, with their plain functions: LabelFixed. -/
namespace Go.Proofs.YtbkobeeileemjaaGreat
open Go Go.RowKit

end Go.Proofs.YtbkobeeileemjaaGreat
/- Walks of the program, with their plain functions: LabelRefuses. -/
namespace Go.Proofs.YtbkobeeileemjaaGreat
open Go Go.RowKit
theorem Ayq (a0:Int) (a1:Int) (a2:Int) (b0:Int) (b1:Int) (b2:Int):∀ w,(Op.equalIn 10000 26 (.agg #[.int .i64 (a0),.int .i64 (a1),.int .i64 (a2)]) (.agg #[.int .i64 (b0),.int .i64 (b1),.int .i64 (b2)])).run Tryz.prog w = .ok ((((a0) == (b0)) && (((a1) == (b1)) && (((a2) == (b2)) && true)))) w :=
 EqI.array (c:=1) Tryz.underlying26 (show Tryz.prog.info? 3=some Tryz.t3 from by kernel_rfl) (by kernel_rfl) (.cons (fun w=>by kernel_rfl) (fun w=>by kernel_rfl) (fun w=>run_equalIn_int w 9998 3 .i64 .i64 _ _ Tryz.underlying3) (.cons (fun w=>by kernel_rfl) (fun w=>by kernel_rfl) (fun w=>run_equalIn_int w 9998 3 .i64 .i64 _ _ Tryz.underlying3) (.cons (fun w=>by kernel_rfl) (fun w=>by kernel_rfl) (fun w=>run_equalIn_int w 9998 3 .i64 .i64 _ _ Tryz.underlying3) (EqI.nil))))
instance (a0:Int) (a1:Int) (a2:Int) (b0:Int) (b1:Int) (b2:Int):EqSI Tryz.prog 26 [.int .i64 (a0),.int .i64 (a1),.int .i64 (a2)] [.int .i64 (b0),.int .i64 (b1),.int .i64 (b2)] ((((a0) == (b0)) && (((a1) == (b1)) && (((a2) == (b2)) && true)))):=⟨Ayq _ _ _ _ _ _,by kernel_rfl⟩
theorem Ayr (a0:Int) (a1:Int) (b0:Int) (b1:Int):∀ w,(Op.equalIn 10000 97 (.agg #[.int .i64 (a0),.int .i64 (a1)]) (.agg #[.int .i64 (b0),.int .i64 (b1)])).run Tryz.prog w = .ok ((((a0) == (b0)) && (((a1) == (b1)) && true))) w :=
 EqI.array (c:=1) Tryz.underlying97 (show Tryz.prog.info? 3=some Tryz.t3 from by kernel_rfl) (by kernel_rfl) (.cons (fun w=>by kernel_rfl) (fun w=>by kernel_rfl) (fun w=>run_equalIn_int w 9998 3 .i64 .i64 _ _ Tryz.underlying3) (.cons (fun w=>by kernel_rfl) (fun w=>by kernel_rfl) (fun w=>run_equalIn_int w 9998 3 .i64 .i64 _ _ Tryz.underlying3) (EqI.nil)))
instance (a0:Int) (a1:Int) (b0:Int) (b1:Int):EqSI Tryz.prog 97 [.int .i64 (a0),.int .i64 (a1)] [.int .i64 (b0),.int .i64 (b1)] ((((a0) == (b0)) && (((a1) == (b1)) && true))):=⟨Ayr _ _ _ _,by kernel_rfl⟩
theorem Avk:Cc Tryz.prog 40 2 2:=.mk Tryz.underlying40 rfl rfl (show Tryz.prog.info? 23=some Tryz.t23 from by kernel_rfl) (show Tryz.t23.size=1 from by kernel_rfl) rfl
instance:Cx Tryz.prog 40 2 2:=⟨Avk⟩
theorem Ays:Mn Tryz.prog 23:=.mk Tryz.underlying23 rfl (show Tryz.prog.info? 23=some Tryz.t23 from by kernel_rfl) (by kernel_rfl)
instance:OneI Tryz.prog 23:=⟨Ays⟩
noncomputable def Ds (p0:List Aq) (p1:List Aq):Int→Option (Sum Int (Sum Unit Bool)):=fun s0 =>
 if s0 < ((((p0).length:Nat):Int)) then (bnd (idx p0 s0) fun x0 =>
 bnd (idx p1 s0) fun x1 =>
 if ((((x0.a0) == (x1.a0)) && (((x0.a1) == (x1.a1)) && (((x0.a2) == (x1.a2)) && true))))=true then (some (.inl (w64 (s0+1))))
 else (some (.inr (.inr (false)))))
 else (some (.inr (.inl ())))
noncomputable def Dd (p0:List Aq) (p1:List Aq):Option Bool :=
 if ((((p0).length:Nat):Int))=((((p1).length:Nat):Int)) then (jn (fun (s5:Unit) =>
 some true)
 (fun j5=>bnd (lfix (Ds p0 p1) 0) fun t0 =>
 (match t0 with
 | (.inl z0)=>j5 z0
 | (.inr (z0))=>some z0
 )))
 else (some false)
noncomputable def Fm (p0:List Ac) (p1:List Ac):Int→Option (Sum Int (Sum Unit Bool)):=fun s0 =>
 if s0 < ((((p0).length:Nat):Int)) then (bnd (idx p0 s0) fun x0 =>
 bnd (idx p1 s0) fun x1 =>
 if ((((x0.a0) == (x1.a0)) && (((x0.a1) == (x1.a1)) && true)))=true then (some (.inl (w64 (s0+1))))
 else (some (.inr (.inr (false)))))
 else (some (.inr (.inl ())))
noncomputable def De (p0:List Ac) (p1:List Ac):Option Bool :=
 if ((((p0).length:Nat):Int))=((((p1).length:Nat):Int)) then (jn (fun (s5:Unit) =>
 some true)
 (fun j5=>bnd (lfix (Fm p0 p1) 0) fun t0 =>
 (match t0 with
 | (.inl z0)=>j5 z0
 | (.inr (z0))=>some z0
 )))
 else (some false)
noncomputable def Qw (p0:Bb):Option Int :=
 bnd (Ld p0.V p0.Lines) fun r2 =>
 jn (fun (s4:Bool) =>
 if s4=true then (some 64)
 else (some 0))
 (fun j4=>if r2.2=0 then (bnd (Dd r2.1.T p0.T) fun r0 =>
 if r0=true then (bnd (De r2.1.Lines p0.Lines) fun r1 =>
 j4 (!(r1)))
 else (j4 true))
 else (j4 true))
set_option maxHeartbeats 1000000 in
set_option maxRecDepth 100000 in
instance slices_Equal____3_int__3_int__c (p0:List Aq) (p1:List Aq):Con (Dd p0 p1) Tryz.prog 158 (fun K vs=>∃ (A0_0:Option Addr) (c0_0:Nat) (A0_1:Option Addr) (c0_1:Nat),vs=[.slice (A0_0) ((p0).length) (c0_0),.slice (A0_1) ((p1).length) (c0_1)]∧Has K A0_0 (p0).length c0_0 3 Ax (p0)∧Has K A0_1 (p1).length c0_1 3 Ax (p1)∧True) (fun _ r=>fun v Ln=>v = .bool (r)∧Ln=[]∧True):=⟨by
 rintro K _ r ⟨A0_0,c0_0,A0_1,c0_1,rfl,ha0,ha1,-⟩ hx w hK;replace ha0:=Has.lo ha0 hK;replace ha1:=Has.lo ha1 hK;unfold Dd at hx;have:=dl 6 [0,0,0,1,0,0,0,1,0] [0,1,2,3,4,5,6,7,8];refine CtS Tryz.ntmps158 Tryz.results158 ?_;refine pre ?_;intros;rename_i hx
 refine Cq2 (s:=10) hx rfl (fun _ hx=>?_) (fun _ hx=>?_)
 ·exact au
 ·refine pre ?_;intros;rename_i hx
  apply Jr (γ:=Unit) hx [] (fun s5 y5 f=>f) [999] (fun s5 y5 l=>l);exact kk
  ·intro s5 y5 hx;exact au
  ·intro _ hx;refine pre ?_;intros;rename_i hx
   apply Lr (γ:=Unit) hx [0,1,12] (fun s33 y33 f=>(13,.int .i64 (s33))::f) [999] (fun s33 y33 l=>l) ();exact kk;exact sk;intro s33 y33 x33 hx _;unfold Ds at hx
   exact au⟩
set_option maxHeartbeats 1000000 in
set_option maxRecDepth 100000 in
instance slices_Equal____2_int__2_int__c (p0:List Ac) (p1:List Ac):Con (De p0 p1) Tryz.prog 159 (fun K vs=>∃ (A0_0:Option Addr) (c0_0:Nat) (A0_1:Option Addr) (c0_1:Nat),vs=[.slice (A0_0) ((p0).length) (c0_0),.slice (A0_1) ((p1).length) (c0_1)]∧Has K A0_0 (p0).length c0_0 2 Ao (p0)∧Has K A0_1 (p1).length c0_1 2 Ao (p1)∧True) (fun _ r=>fun v Ln=>v = .bool (r)∧Ln=[]∧True):=⟨by
 rintro K _ r ⟨A0_0,c0_0,A0_1,c0_1,rfl,ha0,ha1,-⟩ hx w hK;replace ha0:=Has.lo ha0 hK;replace ha1:=Has.lo ha1 hK;unfold De at hx;have:=dl 6 [0,0,0,1,0,0,0,1,0] [0,1,2,3,4,5,6,7,8];refine CtS Tryz.ntmps159 Tryz.results159 ?_;refine pre ?_;intros;rename_i hx
 refine Cq2 (s:=10) hx rfl (fun _ hx=>?_) (fun _ hx=>?_)
 ·exact au
 ·refine pre ?_;intros;rename_i hx
  apply Jr (γ:=Unit) hx [] (fun s5 y5 f=>f) [999] (fun s5 y5 l=>l);exact kk
  ·intro s5 y5 hx;exact au
  ·intro _ hx;refine pre ?_;intros;rename_i hx
   apply Lr (γ:=Unit) hx [0,1,12] (fun s33 y33 f=>(13,.int .i64 (s33))::f) [999] (fun s33 y33 l=>l) ();exact kk;exact sk;intro s33 y33 x33 hx _;unfold Fm at hx
   exact au⟩
set_option maxHeartbeats 1000000 in
set_option maxRecDepth 100000 in
instance mesh_Check_c (p0:Bb):Con (Qw p0) Tryz.prog 84 (fun K vs=>∃ (A0_0:Option Addr) (c0_0:Nat) (A0_1:Option Addr) (c0_1:Nat) (A0_2:Option Addr) (c0_2:Nat),vs=[.agg #[.slice (A0_0) ((p0.V).length) (c0_0),.slice (A0_1) ((p0.T).length) (c0_1),.slice (A0_2) ((p0.Lines).length) (c0_2)]]∧Has K A0_0 (p0.V).length c0_0 4 Al (p0.V)∧Has K A0_1 (p0.T).length c0_1 3 Ax (p0.T)∧Has K A0_2 (p0.Lines).length c0_2 2 Ao (p0.Lines)∧True) (fun _ r=>fun v Ln=>v = .int .i64 (r)∧Ln=[]∧True):=⟨by
 rintro K _ r ⟨A0_0,c0_0,A0_1,c0_1,A0_2,c0_2,rfl,ha0,ha1,ha2,-⟩ hx w hK;replace ha0:=Has.lo ha0 hK;replace ha1:=Has.lo ha1 hK;replace ha2:=Has.lo ha2 hK;unfold Qw at hx;refine CtS Tryz.ntmps84 Tryz.results84 ?_;refine pre ?_;intros;rename_i hx
 refine Ku ?_;refine pre ?_;intros;rename_i hx
 apply Jr (γ:=Unit) hx [] (fun s4 y4 f=>(30,.bool (s4))::f) [999] (fun s4 y4 l=>l);exact kk
 ·intro s4 y4 hx;exact au
 ·intro _ hx;exact au⟩
end Go.Proofs.YtbkobeeileemjaaGreat
/- LabelWithin, LabelPoints in plain Lean. -/
namespace Go.Proofs.YtbkobeeileemjaaGreat.X
open Go Go.RowKit
theorem Sunk_eq (l:List Aa) (r:Af):Td l r=some (if okRules r=true then (if validL l=true then (Cp ((sunkL l r).map (·.Id)),0) else ([],70)) else ([],71)):=by
 simp only [Td,checked_eq,Ah]
 by_cases hr:okRules r=true
 ·by_cases hl:validL l=true
  ·have hf:Fit (sunkL l r):=(Fit.of hl).filter _
   simp only [hr,hl,if_true,parted_eq hl hr,Ah,ids_eq hf.n]
  ·simp [hr,hl]
 ·simp [hr]
end Go.Proofs.YtbkobeeileemjaaGreat.X
/- LabelFixed. -/
namespace Go.Proofs.YtbkobeeileemjaaGreat
open Go Go.RowKit Go.Sort
def Ac7 (l:List Aa) (r:Af) (n:Nat):Prop:=l.length≤n∧X.validL l=true∧X.okRules r=true
instance (l:List Aa) (r:Af) (n:Nat):Decidable (Ac7 l r n):=by unfold Ac7;infer_instance
theorem Avl (l:List Aa) (r:Af) (n:Nat):Ls l r (n:Int)=some (decide (Ac7 l r n)):=by
 unfold Ls
 rw [jn_d]
 by_cases c:l.length≤n
 ·rw [if_pos (by omega),X.rvalid_eq,Ah]
  by_cases c2:X.validL l=true
  ·rw [if_pos c2,X.rrules_eq,Ah]
   congr 1
   rw [Bool.eq_iff_iff,decide_eq_true_eq]
   exact ⟨fun h=>⟨c,c2,h⟩,fun h=>h.2.2⟩
  ·rw [if_neg c2,decide_eq_false (fun h:Ac7 l r n=>c2 h.2.1)]
 ·rw [if_neg (by omega),decide_eq_false (fun h:Ac7 l r n=>c h.1)]
theorem Aqh {l:List Aa} {r:Af} (hl:X.validL l=true) (hr:X.okRules r=true) {g:List Int} (h:Fg l r=some g):Pm l r=some (g,0):=by
 unfold Pm
 rw [X.checked_eq,if_pos hr,if_pos hl,Ah,if_pos rfl,h,Ah]
/-- A loop that goes through. -/
theorem Ac8 {β γ:Type} {n:Nat} {B:Int→Option (Sum Int (Sum β γ))} {u:β} (h1:∀ j:Nat,j < n→B j=some (.inl ((j+1:Nat):Int))) (h2:B n=some (.inr (.inl u))):lfix B 0=some (.inl u):=by
 have key:∀ (m k:Nat),k≤n→n-k=m→lfix B k=some (.inl u):=by
  intro m
  induction m with
  | zero =>
   intro k hk hm
   obtain rfl:k=n:=by omega
   rw [Cu,h2]
  | succ m ih =>
   intro k hk hm
   rw [Cu,h1 k (by omega)]
   exact ih (k+1) (by omega) (by omega)
 exact key n 0 (Nat.zero_le _) rfl
section
variable {l:List Aa} {r:Af} {C:List Aa} (hc:Ctx l r C) {g:List Int} (hg:Grnd l r C g)
include hc
theorem Ate {p:Aa} (hp:p∈C):p.Id ∉ Cp ((X.sunkL l r).map (·.Id)):=fun h=>by
 obtain ⟨q,hq,e⟩:=List.mem_map.1 ((X.perm_sortI _).mem_iff.1 h)
 unfold X.sunkL at hq
 rw [List.mem_filter] at hq
 obtain ⟨h1,h2,_⟩:=hc.dry hp
 rw [X.id_inj (X.Fit.of hc.val).id hq.1 h1 e,h2] at hq
 cases hq.2
theorem Atf:(Cp ((X.sunkL l r).map (·.Id))).length≤1000000:=by
 have h1:(X.sunkL l r).length≤l.length:=List.length_filter_le _ _
 have:=hc.few
 rw [(X.perm_sortI _).length_eq,List.length_map]
 omega
end
end Go.Proofs.YtbkobeeileemjaaGreat
/- LabelRefuses. -/
namespace Go.Proofs.YtbkobeeileemjaaGreat
open Go Go.RowKit Go.Sort
theorem Ali {l:List Aq} (h:l.length≤1152921504606846976):Dd l l=some true:=by
 unfold Dd
 rw [if_pos rfl,jn_d,Ac8 (n:=l.length) (u:=()) (fun j hj=>?_) ?_,Ah]
 ·unfold Ds
  rw [if_neg (by omega)]
 ·unfold Ds
  rw [if_pos (by omega),Bf hj,Ah,Ah,if_pos (by simp),Bt (by omega)]
theorem Ana:De [] []=some true:=by
 unfold De
 rw [if_pos rfl,jn_d,Ac8 (n:=0) (u:=()) (fun j hj=>absurd hj (by omega)) ?_,Ah]
 unfold Fm
 rw [if_neg (by simp)]
/-- A mesh of points is canonical. -/
theorem Atg {L:List Aa} (hL:X.Fit L) (ha:Qz L) {m:Bb} (hv:m.V=vxL L) (hl:m.Lines=[]) (ht:Xz (vxL L) m.T):Qw m=some 0:=by
 have hm:=Am9 hL hv ht
 rcases Ah7 hL with ⟨e,_⟩ | ⟨_,g⟩
 ·obtain ⟨T,t1,t3⟩:=Akf e
  unfold Qw
  rw [hv,hl,t1,Ah,jn_d]
  dsimp only
  rw [if_pos rfl,t3.unique ht,Ali hm.len,Ah,if_pos rfl,Ana,Ah]
  rfl
 ·exact absurd ha g
section
variable {l:List Aa} {r:Af} {C:List Aa} (hc:Ctx l r C)
include hc
theorem Ath {p:Aa} (hp:p∈l):p.Id∈Cp ((X.sunkL l r).map (·.Id))↔X.sunkB l r p=true:=by
 rw [(X.perm_sortI _).mem_iff]
 constructor
 ·intro h
  obtain ⟨q,hq,e⟩:=List.mem_map.1 h
  unfold X.sunkL at hq
  rw [List.mem_filter] at hq
  rw [← X.id_inj (X.Fit.of hc.val).id hq.1 hp e]
  exact hq.2
 ·intro h
  refine List.mem_map.2 ⟨p,?_,rfl⟩
  unfold X.sunkL
  rw [List.mem_filter]
  exact ⟨hp,h⟩
theorem Aqi {g:List Int} (h:GOk C g):Oa l g=some (Do l g,0):=by
 unfold Oa
 rw [X.valid_eq,Ah,if_pos hc.val,(Rt hc h).1,Ah]
theorem Avm {g:List Int} (h:GOk C g):Qw (Do l g)=some 0:=by
 obtain ⟨_,h1,h2,h3,_⟩:=Rt hc h
 exact Atg (Fit.pick (X.Fit.of hc.val)) (GOk.apart hc h) h1 h2 h3
end
end Go.Proofs.YtbkobeeileemjaaGreat
