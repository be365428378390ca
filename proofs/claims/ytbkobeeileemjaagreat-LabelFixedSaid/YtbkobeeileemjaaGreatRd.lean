/- LabelWithin, LabelPoints in plain Lean. -/
import Derived.Test.YtbkobeeileemjaaGreatL2
import Derived.Test.YtbkobeeileemjaaGreatY2
import Derived.Test.YtbkobeeileemjaaGreatH5
import Derived.Test.YtbkobeeileemjaaGreatFlow8
import Derived.Test.YtbkobeeileemjaaGreatRows
import Derived.ProofKit
import Derived.OpenShut
import Derived.ShutString
import Derived.ChangeOld
import Derived.Below
import Derived.Carry
import Derived.ChangeArms
import Derived.Deep.Slices
namespace Go.Proofs.YtbkobeeileemjaaGreat.X
open Go Go.RowKit
theorem Sunk_eq (l:List S_api_Point) (r:S_api_Terrain):label_Sunk l r=some (if okRules r=true then (if validL l=true then (sortI ((sunkL l r).map (·.Id)),0) else ([],70)) else ([],71)):=by
 simp only [label_Sunk,checked_eq,bnd_s]
 by_cases hr:okRules r=true
 ·by_cases hl:validL l=true
  ·have hf:Fit (sunkL l r):=(Fit.of hl).filter _
   simp only [hr,hl,if_true,parted_eq hl hr,bnd_s,ids_eq hf.n]
  ·simp [hr,hl]
 ·simp [hr]
end Go.Proofs.YtbkobeeileemjaaGreat.X
/- Walks of the program, with their plain functions: LabelFixed. -/
namespace Go.Proofs.YtbkobeeileemjaaGreat
open Go Go.RowKit

noncomputable def lidarlaw07_LabelFixed_l9 (r0:(List Int) × Int) (r1:(List Int) × Int):Int→Option (Sum Int (Sum Unit Bool)):=fun s0 =>
 if s0 < ((((r0.1).length:Nat):Int)) then (bnd (idx r0.1 s0) fun x0 =>
 bnd (lidarref07_Has r1.1 x0) fun r2 =>
 if r2=true then (some (.inl (w64 (s0+1))))
 else (some (.inr (.inr (false)))))
 else (some (.inr (.inl ())))
noncomputable def lidarlaw07_LabelFixed_l22 (s0:Int) (r0:(List S_api_Point) × Bool):Int→Option (Sum Int (Sum Unit Bool)):=fun s1 =>
 if s1 < s0 then (jn (fun (s2:Bool) =>
 if s2=true then (some (.inr (.inr (false))))
 else (some (.inl (w64 (s1+1)))))
 (fun j0=>bnd (idx r0.1 s1) fun x0 =>
 bnd (idx r0.1 s0) fun x1 =>
 if x0.X=x1.X then (bnd (idx r0.1 s1) fun x2 =>
 bnd (idx r0.1 s0) fun x3 =>
 j0 (decide (x2.Y=x3.Y)))
 else (j0 false)))
 else (some (.inr (.inl ())))
noncomputable def lidarlaw07_LabelFixed_l17 (r0:(List S_api_Point) × Bool) (r1:(List Int) × Int):Int→Option (Sum Int (Sum Unit Bool)):=fun s0 =>
 if s0 < ((((r0.1).length:Nat):Int)) then (jn (fun (s1:Unit) =>
 some (.inl (w64 (s0+1))))
 (fun j0=>jn (fun (s2:Bool) =>
 if s2=true then (some (.inr (.inr (false))))
 else (bnd (lfix (lidarlaw07_LabelFixed_l22 s0 r0) 0) fun t0 =>
 (match t0 with
 | (.inl z0)=>j0 z0
 | (.inr (z0))=>some (.inr (.inr (z0)))
 )))
 (fun j1=>bnd (idx r0.1 s0) fun x0 =>
 bnd (lidarref07_Has r1.1 x0.Id) fun r2 =>
 if r2=true then (j1 true)
 else (bnd (idx r0.1 s0) fun x1 =>
 bnd (idx r0.1 s0) fun x2 =>
 j1 (!(decide (x1.Num=x2.Of)))))))
 else (some (.inr (.inl ())))
noncomputable def lidarlaw07_LabelFixed (p0:List S_api_Point) (p1:S_api_Terrain):Option Bool :=
 bnd (lidarlaw07_good p0 p1 14) fun r2 =>
 if r2=true then (bnd (label_Seeds p0 p1) fun r0 =>
 bnd (label_Ground p0 p1) fun r1 =>
 bnd (label_Sunk p0 p1) fun r3 =>
 jn (fun (s9:Bool) =>
 if s9=true then (some false)
 else (jn (fun (s0:Unit) =>
 bnd (lidarref07_Pick p0 r1.1) fun r4 =>
 if r4.2=true then (jn (fun (s1:Unit) =>
 bnd (label_Grow p0 r1.1 p1) fun r5 =>
 jn (fun (s2:Bool) =>
 some s2)
 (fun j0=>if r5.2=0 then (bnd (lidarlaw07_sameInts r5.1 r1.1) fun r6 =>
 if r6=true then (if ((decide (0 < ((((r1.1).length:Nat):Int)))) == (decide (0 < ((((r0.1).length:Nat):Int)))))=true then (bnd (lidarlaw07_first) fun r8 =>
 j0 r8)
 else (j0 false))
 else (j0 false))
 else (j0 false)))
 (fun j1=>bnd (lfix (lidarlaw07_LabelFixed_l17 r4 r3) 0) fun t0 =>
 (match t0 with
 | (.inl z0)=>j1 z0
 | (.inr (z0))=>some z0
 )))
 else (some false))
 (fun j2=>bnd (lfix (lidarlaw07_LabelFixed_l9 r0 r1) 0) fun t1 =>
 (match t1 with
 | (.inl z1)=>j2 z1
 | (.inr (z1))=>some z1
 ))))
 (fun j9=>if r0.2=0 then (if r1.2=0 then (j9 (!(decide (r3.2=0))))
 else (j9 true))
 else (j9 true)))
 else (bnd (lidarlaw07_first) fun r7 =>
 some r7)
set_option maxHeartbeats 1000000 in
set_option maxRecDepth 100000 in
instance lidarlaw07_LabelFixed_c (p0:List S_api_Point) (p1:S_api_Terrain):Con (lidarlaw07_LabelFixed p0 p1) Tryz.prog 8 (fun K vs=>∃ (A0_0:Option Addr) (c0_0:Nat),vs=[.slice (A0_0) ((p0).length) (c0_0),.agg #[.int .i64 (p1.Cell),.int .i64 (p1.Reach),.int .i64 (p1.Slope),.int .i64 (p1.Link),.int .i64 (p1.Flat),.int .i64 (p1.Tall),.int .i64 (p1.High),.int .i64 (p1.Low),.int .i64 (p1.Brush),.int .i64 (p1.Few)]]∧Has K A0_0 (p0).length c0_0 9 e_api_Point (p0)∧True) (fun _ r=>fun v Ln=>v = .bool (r)∧Ln=[]∧True):=⟨by
 rintro K _ r ⟨A0_0,c0_0,rfl,ha0,-⟩ hx w hK;replace ha0:=Has.lo ha0 hK;unfold lidarlaw07_LabelFixed at hx;have:=dl 19 [0,0,0,0,0,1,2,0,0,0,0,0,1,0,0,0,0,1,0,0] [0,1,2,3,4,5,6,7,8,9,10,11,12,13,14,15,16,17,18,19];have:=dl 24 [0,0,0,0,1,0,0,0,0,1,0,0,0,0,0,0,1,0,0,0,0,1,0,0] [0,1,2,3,4,5,6,7,8,9,10,11,12,13,14,15,16,17,18,19,20,21,22,23];refine CtS Tryz.ntmps8 Tryz.results8 ?_;refine pre ?_;intros;rename_i hx
 refine Cq4 (s:=20) hx rfl (fun _ hx=>?_) (fun _ hx=>?_)
 ·exact au
 ·refine pre ?_;intros;rename_i hx
  refine T_seq ?_;refine pre ?_;intros;rename_i hx
  apply Jr (γ:=Unit) hx [0,3,5,7,9] (fun s9 y9 f=>(49,.bool (s9))::f) [0,1,2,3,999] (fun s9 y9 l=>l);exact kk
  ·intro s9 y9 hx;refine Cq3 (s:=49) hx rfl (fun _ hx=>?_) (fun _ hx=>?_)
   ·exact au
   ·refine pre ?_;intros;rename_i hx
    apply Jr (γ:=Unit) hx [0,3,5,7,9] (fun s0 y0 f=>f) [0,1,2,3,999] (fun s0 y0 l=>l);exact kk
    ·intro s0 y0 hx;refine pre ?_;intros;rename_i hx
     refine Cq4 (s:=70) hx rfl (fun _ hx=>?_) (fun _ hx=>?_)
     ·exact au
     ·refine pre ?_;intros;rename_i hx
      apply Jr (γ:=Unit) hx [0,3,5,7] (fun s1 y1 f=>f) [2,3,4,999] (fun s1 y1 l=>l);exact kk
      ·intro s1 y1 hx;exact au
      ·intro _ hx;refine pre ?_;intros;rename_i hx
       apply Lr (γ:=Unit) hx [0,3,5,7,9,12] (fun s2 y2 f=>(14,.int .i64 (s2))::f) [0,1,2,3,4,999] (fun s2 y2 l=>l) ();exact kk;exact sk;intro s2 y2 x0 hx _;unfold lidarlaw07_LabelFixed_l17 at hx
       refine pre ?_;intros;rename_i hx
       refine Cq1 (s:=74) hx rfl (fun _ hx=>?_) (fun _ hx=>?_)
       ·refine pre ?_;intros;rename_i hx
        apply Jr (γ:=Unit) hx [0,3,5,7,9,12,14] (fun s3 y3 f=>f) [0,1,2,3,4,999] (fun s3 y3 l=>l);exact kk
        ·intro s3 y3 hx;exact au
        ·intro _ hx;refine pre ?_;intros;rename_i hx
         refine T_seq ?_;refine pre ?_;intros;rename_i hx
         apply Jr (γ:=Unit) hx [0,3,5,7,9,12,14] (fun s4 y4 f=>(96,.bool (s4))::f) [0,1,2,3,4,999] (fun s4 y4 l=>l);exact kk
         ·intro s4 y4 hx;refine Cq3 (s:=96) hx rfl (fun _ hx=>?_) (fun _ hx=>?_)
          ·exact au
          ·refine pre ?_;intros;rename_i hx
           apply Lr (γ:=Unit) hx [0,3,5,7,9,12,14] (fun s5 y5 f=>(15,.int .i64 (s5))::f) [0,1,2,3,4,999] (fun s5 y5 l=>l) ();exact kk;exact sk;intro s5 y5 x1 hx _;unfold lidarlaw07_LabelFixed_l22 at hx
           exact au
         ·intro _ hx;exact au
       ·exact au
    ·intro _ hx;refine pre ?_;intros;rename_i hx
     apply Lr (γ:=Unit) hx [0,3,5,7,9] (fun s6 y6 f=>(11,.int .i64 (s6))::f) [0,1,2,3,999] (fun s6 y6 l=>l) ();exact kk;exact sk;intro s6 y6 x2 hx _;unfold lidarlaw07_LabelFixed_l9 at hx
     exact au
  ·intro _ hx;exact au⟩
theorem lidarlaw07_LabelFixed_ok (p0:List S_api_Point) (p1:S_api_Terrain) {K:List Ent} {A0_0:Option Addr} {c0_0:Nat} (ha0:Has K A0_0 (p0).length c0_0 9 e_api_Point (p0)) {r:Bool} (hx:lidarlaw07_LabelFixed p0 p1=some r) (w:World) (hK:∀ e∈K,Ent.ok w e):CtL Tryz.prog 8 [.slice (A0_0) ((p0).length) (c0_0),.agg #[.int .i64 (p1.Cell),.int .i64 (p1.Reach),.int .i64 (p1.Slope),.int .i64 (p1.Link),.int .i64 (p1.Flat),.int .i64 (p1.Tall),.int .i64 (p1.High),.int .i64 (p1.Low),.int .i64 (p1.Brush),.int .i64 (p1.Few)]] w fun v Ln=>v = .bool (r)∧Ln=[]∧True:=(lidarlaw07_LabelFixed_c p0 p1).h K _ _ ⟨_,_,rfl,ha0,trivial⟩ hx w hK
end Go.Proofs.YtbkobeeileemjaaGreat
/- LabelFixed. -/
namespace Go.Proofs.YtbkobeeileemjaaGreat
open Go Go.RowKit Go.Sort
def okAllL (l:List S_api_Point) (r:S_api_Terrain) (n:Nat):Prop:=l.length≤n∧X.validL l=true∧X.okRules r=true
instance (l:List S_api_Point) (r:S_api_Terrain) (n:Nat):Decidable (okAllL l r n):=by unfold okAllL;infer_instance
theorem good_eq (l:List S_api_Point) (r:S_api_Terrain) (n:Nat):lidarlaw07_good l r (n:Int)=some (decide (okAllL l r n)):=by
 unfold lidarlaw07_good
 rw [jn_d]
 by_cases c:l.length≤n
 ·rw [if_pos (by omega),X.rvalid_eq,bnd_s]
  by_cases c2:X.validL l=true
  ·rw [if_pos c2,X.rrules_eq,bnd_s]
   congr 1
   rw [Bool.eq_iff_iff,decide_eq_true_eq]
   exact ⟨fun h=>⟨c,c2,h⟩,fun h=>h.2.2⟩
  ·rw [if_neg c2,decide_eq_false (fun h:okAllL l r n=>c2 h.2.1)]
 ·rw [if_neg (by omega),decide_eq_false (fun h:okAllL l r n=>c h.1)]
theorem Ground_eq {l:List S_api_Point} {r:S_api_Terrain} (hl:X.validL l=true) (hr:X.okRules r=true) {g:List Int} (h:label_groundOf l r=some g):label_Ground l r=some (g,0):=by
 unfold label_Ground
 rw [X.checked_eq,if_pos hr,if_pos hl,bnd_s,if_pos rfl,h,bnd_s]
/-- A loop that goes through. -/
theorem lfix_thru {β γ:Type} {n:Nat} {B:Int→Option (Sum Int (Sum β γ))} {u:β} (h1:∀ j:Nat,j < n→B j=some (.inl ((j+1:Nat):Int))) (h2:B n=some (.inr (.inl u))):lfix B 0=some (.inl u):=by
 have key:∀ (m k:Nat),k≤n→n-k=m→lfix B k=some (.inl u):=by
  intro m
  induction m with
  | zero =>
   intro k hk hm
   obtain rfl:k=n:=by omega
   rw [lfix_eq,h2]
  | succ m ih =>
   intro k hk hm
   rw [lfix_eq,h1 k (by omega)]
   exact ih (k+1) (by omega) (by omega)
 exact key n 0 (Nat.zero_le _) rfl
section
variable {l:List S_api_Point} {r:S_api_Terrain} {C:List S_api_Point} (hc:Ctx l r C) {g:List Int} (hg:Grnd l r C g)
include hc
theorem not_sunk {p:S_api_Point} (hp:p∈C):p.Id ∉ sortI ((X.sunkL l r).map (·.Id)):=fun h=>by
 obtain ⟨q,hq,e⟩:=List.mem_map.1 ((X.perm_sortI _).mem_iff.1 h)
 unfold X.sunkL at hq
 rw [List.mem_filter] at hq
 obtain ⟨h1,h2,_⟩:=hc.dry hp
 rw [X.id_inj (X.Fit.of hc.val).id hq.1 h1 e,h2] at hq
 cases hq.2
theorem sunk_len:(sortI ((X.sunkL l r).map (·.Id))).length≤1000000:=by
 have h1:(X.sunkL l r).length≤l.length:=List.length_filter_le _ _
 have:=hc.few
 rw [(X.perm_sortI _).length_eq,List.length_map]
 omega
theorem Grow_eq (hC:label_candidates l r=some C) (h:GOk C g):label_Grow l g r=some (growG g (gFit l r g) C,0):=by
 unfold label_Grow
 rw [X.checked_eq,if_pos hc.rul,if_pos hc.val,bnd_s,if_pos rfl,hC,bnd_s,grow_eq hc h,bnd_s]
include hg
theorem fixed_seeds (e:Int):lfix (lidarlaw07_LabelFixed_l9 (X.seedL l r,0) (g,e)) 0=some (.inl ()):=by
 have h1:=GOk.len hg.ok
 have h2:=hc.len
 have h3:=GOk.len (seed_ok hc)
 refine (lfix_all (X.seedL l r) (fun x=>decide (x∈g)) (lidarlaw07_LabelFixed_l9 (X.seedL l r,0) (g,e)) () false (fun j hj=>?_) ?_).trans (congrArg some (if_pos ?_))
 ·unfold lidarlaw07_LabelFixed_l9
  dsimp only
  rw [if_pos (by omega),idx_nat hj,bnd_s,has_eq (by omega),bnd_s,w1 hj (by omega)]
 ·unfold lidarlaw07_LabelFixed_l9
  dsimp only
  rw [if_neg (by omega)]
 ·rw [List.all_eq_true]
  exact fun x hx=>by simpa using hg.seed x hx
theorem fixed_inner (b:Bool) {j:Nat} (hj:j < (pickL l g).length):lfix (lidarlaw07_LabelFixed_l22 (j:Int) (pickL l g,b)) 0=some (.inl ()):=by
 have hf:=Fit.pick (ids:=g) (X.Fit.of hc.val)
 have hn:=hf.n
 have hap:=GOk.apart hc hg.ok
 refine lfix_thru (n:=j) (fun k hk=>?_) ?_
 ·have hk2:k < (pickL l g).length:=by omega
  have hne:=List.pairwise_iff_getElem.1 hap k j hk2 hj (by omega)
  unfold lidarlaw07_LabelFixed_l22
  dsimp only
  rw [if_pos (by omega),jn_d,idx_nat hk2,bnd_s,idx_nat hj,bnd_s,w1 hk2 (by omega)]
  by_cases c:(pickL l g)[k].X=(pickL l g)[j].X
  ·have c2:¬ (pickL l g)[k].Y=(pickL l g)[j].Y:=fun h=>hne ⟨c,h⟩
   rw [if_pos c,bnd_s,bnd_s,decide_eq_false c2]
   rfl
  ·rw [if_neg c]
   rfl
 ·unfold lidarlaw07_LabelFixed_l22
  rw [if_neg (by omega)]
theorem fixed_step (b:Bool) (e:Int) {j:Nat} (hj:j < (pickL l g).length):lidarlaw07_LabelFixed_l17 (pickL l g,b) (sortI ((X.sunkL l r).map (·.Id)),e) (j:Int)=some (.inl ((j+1:Nat):Int)):=by
 have hs:=sunk_len hc
 have hf:=Fit.pick (ids:=g) (X.Fit.of hc.val)
 have hn:=hf.n
 have hm:=GOk.pick hc hg.ok (List.getElem_mem hj)
 have h1:=not_sunk hc hm.1
 unfold lidarlaw07_LabelFixed_l17
 dsimp only
 rw [if_pos (by omega),jn_d,jn_d,idx_nat hj,bnd_s,has_eq hs,bnd_s,decide_eq_false h1,if_neg (by simp),bnd_s,bnd_s,decide_eq_true (hc.dry hm.1).2.2,w1 hj (by omega)]
 dsimp only [Bool.not_true]
 rw [if_neg (by simp),fixed_inner hc hg b hj,bnd_s]
theorem fixed_pick (b:Bool) (e:Int):lfix (lidarlaw07_LabelFixed_l17 (pickL l g,b) (sortI ((X.sunkL l r).map (·.Id)),e)) 0=some (.inl ()):=by
 have h2:lidarlaw07_LabelFixed_l17 (pickL l g,b) (sortI ((X.sunkL l r).map (·.Id)),e) (((pickL l g).length:Nat):Int)=some (.inr (.inl ())):=by
  unfold lidarlaw07_LabelFixed_l17
  dsimp only
  rw [if_neg (by omega)]
 exact lfix_thru (fun j hj=>fixed_step hc hg b e hj) h2
end
theorem labelFixed_eq (l:List S_api_Point) (r:S_api_Terrain):lidarlaw07_LabelFixed l r=some true:=by
 unfold lidarlaw07_LabelFixed
 rw [show (14:Int)=((14:Nat):Int) from rfl,good_eq,bnd_s]
 by_cases c:okAllL l r 14
 ·rw [decide_eq_true c,if_pos rfl]
  obtain ⟨c1,c2,c3⟩:=c
  obtain ⟨C,hC,hc⟩:=ctx_of c2 c3 (by omega)
  obtain ⟨g,e,hg⟩:=groundOf_eq hc hC
  have h1:=GOk.len hg.ok
  have h2:=hc.len
  rw [X.Seeds_eq,if_pos c3,if_pos c2,bnd_s,Ground_eq c2 c3 e,bnd_s,X.Sunk_eq,if_pos c3,if_pos c2,bnd_s,jn_d]
  dsimp only
  rw [if_pos rfl,if_pos rfl]
  simp only [decide_true,Bool.not_true,Bool.false_eq_true,if_false]
  rw [jn_d,fixed_seeds hc hg,bnd_s,pick_eq (X.Fit.of c2) (by omega),bnd_s,if_pos (GOk.sel hc hg.ok)]
  dsimp only
  rw [if_pos rfl,jn_d,fixed_pick hc hg,bnd_s]
  dsimp only
  rw [Grow_eq hc hC hg.ok,bnd_s,jn_d,hg.again]
  dsimp only
  rw [if_pos rfl,X.sameInts_self (by omega),bnd_s,if_pos rfl,if_pos ?_,X.first_eq,bnd_s]
  have hp:=hg.pos hc
  by_cases k:0 < g.length
  ·have:=hp.1 k
   simp [k,this]
  ·have:¬ 0 < (X.seedL l r).length:=fun h=>k (hp.2 h)
   simp only [Int.natCast_pos,k,this]
   rfl
 ·rw [decide_eq_false c,if_neg (by simp),X.first_eq,bnd_s]
end Go.Proofs.YtbkobeeileemjaaGreat
/- What the arguments of a law are, read off the way a law's claim is told of them: lists, structs. -/
namespace Go.Proofs.YtbkobeeileemjaaGreat
open Go.ChangeShapes Go.WideShapes Go.ChangeAt Go.RowKit

theorem own2:ownKnob Tryz.prog.godebug=none:=by kernel_rfl
theorem laidOut2:laidOutB Tryz.prog=true:=by kernel_rfl
def rI64 (z:Int):Prop:=-9223372036854775808≤z∧z≤9223372036854775807
theorem sp_nil {cs:List Value} {o:Nat} (h:cs.length=o):cs.drop o=[]:=by rw [← h,List.drop_length]
theorem sp_cons {cs X R:List Value} {o k o':Nat} (h1:(cs.drop o).take k=X) (h2:cs.drop o'=R) (ho:o'=o+k):cs.drop o=X++R:=by
 subst ho;rw [← h1,← h2,← List.drop_drop,List.take_append_drop]
section
variable {H:Type} {enc:TypeId × Value→H} {w:World} {base:Nat} {spare:Nat→Bool} {held:Bool} {P:Program}
theorem rd_i64 {t:TypeId} (ht:P.underlying t=some (.int .i64)) {fuel:Nat} {cs:List Value} {x:DataW H × List MemPlace} (h:DataW.trod enc P w base spare held fuel t cs=some x):∃ z:Int,cs=[.int .i64 z]∧rI64 z:=by
 obtain ⟨n,hc,_,hw⟩:=DataW.trod_int ht h
 refine ⟨n,hc,?_⟩
 have h1:IntKind.i64.min = -9223372036854775808:=rfl
 have h2:IntKind.i64.max=9223372036854775807:=rfl
 simp only [Lit.wf,Bool.and_eq_true,decide_eq_true_eq] at hw
 unfold rI64;omega
theorem rd_slice {α:Type} {en:α→List Value} {okα:α→Prop} {t e:TypeId} {sz:Nat} (ht:P.underlying t=some (.slice e)) (hsz:P.cellsOf e=sz) (hp:0 < sz)
  (hel:∀ {fuel:Nat} {cs:List Value} {x:DataW H × List MemPlace},DataW.trod enc P w base spare held fuel e cs=some x→∃ v,cs=en v∧okα v)
  {fuel:Nat} {cs:List Value} {x:DataW H × List MemPlace} (h:DataW.trod enc P w base spare held fuel t cs=some x) :
  ∃ (v:List α) (A:Option Addr) (c:Nat),cs=[.slice A v.length c]∧Has [.old w] A v.length c sz en v∧∀ z∈v,okα z:=by
 rcases Go.Deep.open_slice ht h with ⟨rfl,_⟩ | ⟨a,len,cap,m,n,D,Pl,rfl,hb,hl,hm,hmm,_,hx⟩
 ·exact ⟨[],none,0,rfl,Has.nil,fun z hz=>by simp at hz⟩
 ·have hle:len≤m:=by rw [hmm];split <;> omega
  have key:∀ k,k≤len→∃ v:List α,v.length=k∧(∀ z∈v,okα z)∧∀ i (hi:i < v.length),w.cells? base (a.add (i*sz)) sz=some (en v[i]):=by
   intro k
   induction k with
   | zero=>intro _;exact ⟨[],rfl,fun z hz=>by simp at hz,fun i hi=>by simp at hi⟩
   | succ k ih =>
    intro hk
    obtain ⟨v,h1,h2,h3⟩:=ih (by omega)
    obtain ⟨cs',h4,h5⟩:=hx k (by omega)
    obtain ⟨z,rfl,hz⟩:=hel h5
    rw [hsz] at h4
    refine ⟨v++[z],by simp [h1],fun y hy=>?_,fun i hi=>?_⟩
    ·rcases List.mem_append.1 hy with hy | hy
     ·exact h2 y hy
     ·simp at hy;subst hy;exact hz
    ·simp at hi
     rcases Nat.lt_or_ge i v.length with hlt | hge
     ·rw [List.getElem_append_left hlt];exact h3 i hlt
     ·have:i=k:=by omega
      subst this
      rw [List.getElem_append_right hge]
      simp [h1];exact h4
  obtain ⟨v,h1,h2,h3⟩:=key len (Nat.le_refl _)
  subst h1
  have hesz:∀ z∈v,(en z).length=sz:=by
   intro z hz
   obtain ⟨i,hi,rfl⟩:=List.getElem_of_mem hz
   exact (World.cells?_some (h3 i hi)).2.1
  have hsl:Sl w (some a) v.length cap sz en v:=by
   refine ⟨rfl,hl,hm,hesz,fun hn=>?_⟩
   have hsp:a.spot=none:=by
    have h4:=(World.cells?_some (h3 0 hn)).2.2 0 hp
    have h5:(en v[0])[0]? = some ((en v[0])[0]'(by rw [hesz _ (List.getElem_mem hn)];exact hp)):=List.getElem?_eq_getElem _
    rw [h5] at h4
    simp only [Nat.zero_mul,Addr.add,if_true] at h4
    unfold World.cell? at h4
    split at h4
    ·split at h4
     ·cases h4
     ·rename_i hs;simpa using hs
    ·cases h4
   obtain ⟨b,o,sp⟩:=a
   have hsp:sp=none:=hsp
   subst hsp
   refine ⟨b,o,rfl,fun i hi j u hu=>?_⟩
   have hj:j < sz:=by rw [← hesz _ (List.getElem_mem hi)];exact (List.getElem?_eq_some_iff.1 hu).1
   have h4:=(World.cells?_some (h3 i hi)).2.2 j hj
   rw [hu,Addr.add_lit,Addr.add_lit] at h4
   exact h4
  exact ⟨v,some a,cap,rfl,hsl.has,h2⟩
end
theorem okOld (w:World):∀ e∈[Ent.old w],Ent.ok w e:=fun e he=>by simp at he;subst he;exact ⟨Below.refl _ _,Nat.le_refl _⟩
end Go.Proofs.YtbkobeeileemjaaGreat
