/- Walks of the program, with their plain functions: the references on hulls. -/
import Derived.Test.YtgfiafnelibjgaaGreatE1
import Derived.Test.YtgfiafnelibjgaaGreatL9
import Derived.Test.YtgfiafnelibjgaaGreatK4
namespace Go.Proofs.YtgfiafnelibjgaaGreat
open Go Go.RowKit

noncomputable def Gr (p0:Ac) (p1:Ac) (p2:Ac):Option Bool :=
 jn (fun (s2:Bool) =>
 some s2)
 (fun j2=>bnd (Fa p0 p1 p2) fun r4 =>
 if r4=0 then (if (min p0.X p1.X)≤p2.X then (if p2.X≤(max p0.X p1.X) then (if (min p0.Y p1.Y)≤p2.Y then (j2 (decide (p2.Y≤(max p0.Y p1.Y))))
 else (j2 false))
 else (j2 false))
 else (j2 false))
 else (j2 false))
noncomputable def Ed (p0:List Ab):Int→Option (Sum Int (Sum Unit Int)):=fun s0 =>
 if s0 < ((((p0).length:Nat):Int)) then (bnd (idx p0 s0) fun x0 =>
 bnd (Fv (⟨x0.X,x0.Y,(⟨x0.Z.Lo,x0.Z.Hi⟩:Aq)⟩:Ab)) fun r0 =>
 if r0=true then (some (.inl (w64 (s0+1))))
 else (some (.inr (.inr (60)))))
 else (some (.inr (.inl ())))
noncomputable def Fm (s0:Int) (p0:List Ab):Int→Option (Sum Int (Sum Unit Int)):=fun s1 =>
 if s1 < s0 then (jn (fun (s2:Bool) =>
 if s2=true then (some (.inr (.inr (61))))
 else (some (.inl (w64 (s1+1)))))
 (fun j0=>bnd (idx p0 s0) fun x0 =>
 bnd (idx p0 s1) fun x1 =>
 if x0.X=x1.X then (bnd (idx p0 s0) fun x2 =>
 bnd (idx p0 s1) fun x3 =>
 j0 (decide (x2.Y=x3.Y)))
 else (j0 false)))
 else (some (.inr (.inl ())))
noncomputable def Dq (p0:List Ab):Int→Option (Sum Int (Sum Unit Int)):=fun s0 =>
 if s0 < ((((p0).length:Nat):Int)) then (jn (fun (s1:Unit) =>
 some (.inl (w64 (s0+1))))
 (fun j0=>bnd (lfix (Fm s0 p0) 0) fun t0 =>
 (match t0 with
 | (.inl z0)=>j0 z0
 | (.inr (z0))=>some (.inr (.inr (z0)))
 )))
 else (some (.inr (.inl ())))
noncomputable def Hj (p0:List Ab):Option Int :=
 if 1024 < ((((p0).length:Nat):Int)) then (some 2)
 else (jn (fun (s5:Unit) =>
 jn (fun (s0:Unit) =>
 some 0)
 (fun j0=>bnd (lfix (Dq p0) 0) fun t0 =>
 (match t0 with
 | (.inl z0)=>j0 z0
 | (.inr (z0))=>some z0
 )))
 (fun j5=>bnd (lfix (Ed p0) 0) fun t1 =>
 (match t1 with
 | (.inl z1)=>j5 z1
 | (.inr (z1))=>some z1
 )))
set_option maxHeartbeats 1000000 in
set_option maxRecDepth 100000 in
instance Ug (p0:Ac) (p1:Ac) (p2:Ac):Con (Gr p0 p1 p2) Tryz.prog 108 (fun _ vs=>vs=[.agg #[.int .i64 (p0.X),.int .i64 (p0.Y)],.agg #[.int .i64 (p1.X),.int .i64 (p1.Y)],.agg #[.int .i64 (p2.X),.int .i64 (p2.Y)]]) (fun _ r=>fun v Ln=>v = .bool (r)∧Ln=[]∧True):=⟨by
 rintro _ _ r rfl hx w hK;unfold Gr at hx;refine CtS Tryz.ntmps108 Tryz.results108 ?_;refine pre ?_;intros;rename_i hx
 refine Ob ?_;refine pre ?_;intros;rename_i hx
 apply Jr (γ:=Unit) hx [] (fun s2 y2 f=>(6,.bool (s2))::f) [999] (fun s2 y2 l=>l);exact kk
 ·intro s2 y2 hx;exact au
 ·intro _ hx;refine pre ?_;intros;rename_i hx
  refine Cq1 (s:=12) hx rfl (fun _ hx=>?_) (fun _ hx=>?_)
  ·exact au
  ·exact au⟩
theorem Tw (p0:Ac) (p1:Ac) (p2:Ac)  {r:Bool} (hx:Gr p0 p1 p2=some r) (w:World):CtL Tryz.prog 108 [.agg #[.int .i64 (p0.X),.int .i64 (p0.Y)],.agg #[.int .i64 (p1.X),.int .i64 (p1.Y)],.agg #[.int .i64 (p2.X),.int .i64 (p2.Y)]] w fun v Ln=>v = .bool (r)∧Ln=[]∧True:=(Ug p0 p1 p2).h [] _ _ rfl hx w (fun _ h=>absurd h List.not_mem_nil)
set_option maxHeartbeats 1000000 in
set_option maxRecDepth 100000 in
instance lidarref06_vertices_c (p0:List Ab):Con (Hj p0) Tryz.prog 51 (fun K vs=>∃ (A0_0:Option Addr) (c0_0:Nat),vs=[.slice (A0_0) ((p0).length) (c0_0)]∧Has K A0_0 (p0).length c0_0 4 Ad (p0)∧True) (fun _ r=>fun v Ln=>v = .int .i64 (r)∧Ln=[]∧True):=⟨by
 rintro K _ r ⟨A0_0,c0_0,rfl,ha0,-⟩ hx w hK;replace ha0:=Has.lo ha0 hK;unfold Hj at hx;have:=dl 15 [0,0,0,0,1,0,0,0,0,1,0,0,0,0,0,0,1,0,0,0,0,1,0,0] [0,1,2,3,4,5,6,7,8,9,10,11,12,13,14,15,16,17,18,19,20,21,22,23];refine CtS Tryz.ntmps51 Tryz.results51 ?_;refine pre ?_;intros;rename_i hx
 refine Cq1 (s:=8) hx rfl (fun _ hx=>?_) (fun _ hx=>?_)
 ·exact au
 ·refine pre ?_;intros;rename_i hx
  apply Jr (γ:=Unit) hx [0] (fun s5 y5 f=>f) [999] (fun s5 y5 l=>l);exact kk
  ·intro s5 y5 hx;apply Jr (γ:=Unit) hx [] (fun s19 y19 f=>f) [999] (fun s19 y19 l=>l);exact kk
   ·intro s19 y19 hx;exact au
   ·intro _ hx;refine pre ?_;intros;rename_i hx
    apply Lr (γ:=Unit) hx [0,22] (fun s166 y166 f=>(23,.int .i64 (s166))::f) [999] (fun s166 y166 l=>l) ();exact kk;exact sk;intro s166 y166 x166 hx _;unfold Dq at hx
    refine pre ?_;intros;rename_i hx
    refine Cq1 (s:=24) hx rfl (fun _ hx=>?_) (fun _ hx=>?_)
    ·refine pre ?_;intros;rename_i hx
     apply Jr (γ:=Unit) hx [0,22,23] (fun s38 y38 f=>f) [999] (fun s38 y38 l=>l);exact kk
     ·intro s38 y38 hx;exact au
     ·intro _ hx;refine pre ?_;intros;rename_i hx
      apply Lr (γ:=Unit) hx [0,4,22,23] (fun s226 y226 f=>(5,.int .i64 (s226))::f) [999] (fun s226 y226 l=>l) ();exact kk;exact sk;intro s226 y226 x226 hx _;unfold Fm at hx
      exact au
    ·exact au
  ·intro _ hx;refine pre ?_;intros;rename_i hx
   apply Lr (γ:=Unit) hx [0,10] (fun s25 y25 f=>(11,.int .i64 (s25))::f) [999] (fun s25 y25 l=>l) ();exact kk;exact sk;intro s25 y25 x25 hx _;unfold Ed at hx
   exact au⟩
end Go.Proofs.YtgfiafnelibjgaaGreat
/- Which vertices are valid: the reference. -/
namespace Go.Proofs.YtgfiafnelibjgaaGreat
open Go Go.RowKit
theorem Aay (x:Ab):Fv x=some (decide (Jp x)):=by
 unfold Fv Cl
 rw [jn_d,Ai,Ao5,Ai]
 by_cases h:okP (⟨x.X,x.Y⟩:Ac)
 ·rw [decide_eq_true h,if_pos rfl]
  by_cases h1:-268435456≤x.Z.Lo
  ·rw [if_pos h1]
   by_cases h2:x.Z.Lo≤x.Z.Hi
   ·rw [if_pos h2]
    congr 1
    rw [Bool.eq_iff_iff,decide_eq_true_eq,decide_eq_true_eq]
    exact ⟨fun g=>⟨h,h1,h2,g⟩,fun g=>g.2.2.2⟩
   ·rw [if_neg h2,decide_eq_false (fun g:Jp x=>h2 g.2.2.1)]
  ·rw [if_neg h1,decide_eq_false (fun g:Jp x=>h1 g.2.1)]
 ·rw [decide_eq_false h,if_neg (by simp),decide_eq_false (fun g:Jp x=>h g.1)]
theorem Aps {v:List Ab} (c:v.length≤1024):lfix (Ed v) 0=some (if ((List.range v.length).any fun k=>!decide (Jp (v.getD k ⟨0,0,⟨0,0⟩⟩)))=true then .inr 60 else .inl ()):=by
 refine Oy v.length (by omega) (fun k=>!decide (Jp (v.getD k ⟨0,0,⟨0,0⟩⟩))) (Ed v) () 60 (fun k hk=>?_) ?_
 ·unfold Ed
  rw [if_pos (by omega),Bg hk,Ai,Aay,Ai,Bj (by omega)]
  have e:v.getD k ⟨0,0,⟨0,0⟩⟩=v[k]:=by simp [hk]
  rw [e]
  by_cases g:Jp v[k]
  ·simp [g]
  ·simp [g]
 ·unfold Ed
  rw [if_neg (by omega)]
theorem Aaz (v:List Ab):Hj v=some (Dx v):=by
 unfold Hj Dx
 by_cases c:1024 < v.length
 ·rw [if_pos (by omega),if_pos c]
 ·rw [if_neg (by omega),if_neg c,jn_d]
  rw [Aps (by omega),Ai]
  ·by_cases h:∀ x∈v,Jp x
   ·rw [if_neg (fun g=>Aa9.1 g h),if_neg (not_not_intro h)]
    dsimp only
    rw [jn_d]
    have hin:∀ i (hi:i < v.length),lfix (Fm (i:Int) v) 0=some (if (List.range i).any (fun j=>decide (Rc v[i] (v.getD j ⟨0,0,⟨0,0⟩⟩))) then .inr 61 else .inl ()):=fun i hi=>by
     refine Oy i (by omega) _ _ () 61 (fun k hk=>?_) ?_
     ·unfold Fm
      have e:v.getD k ⟨0,0,⟨0,0⟩⟩=v[k]'(by omega):=by simp [show k < v.length by omega]
      rw [if_pos (by omega),jn_d,Bg hi,Ai,Bg (show k < v.length by omega),Ai,Bj (by omega),e]
      unfold Rc
      by_cases g1:v[i].X=v[k].X
      ·rw [if_pos g1,Ai,Ai]
       by_cases g2:v[i].Y=v[k].Y
       ·simp [g1,g2]
       ·simp [g2]
      ·rw [if_neg g1]
       simp [g1]
     ·unfold Fm
      rw [if_neg (by omega)]
    have hout:lfix (Dq v) 0=some (if ((List.range v.length).any fun i=>(List.range i).any fun j=>decide (Rc (v.getD i ⟨0,0,⟨0,0⟩⟩) (v.getD j ⟨0,0,⟨0,0⟩⟩)))=true then .inr 61 else .inl ()):=by
     refine Oy v.length (by omega) (fun i=>(List.range i).any fun j=>decide (Rc (v.getD i ⟨0,0,⟨0,0⟩⟩) (v.getD j ⟨0,0,⟨0,0⟩⟩))) (Dq v) () 61 (fun i hi=>?_) ?_
     ·unfold Dq
      have e:v.getD i ⟨0,0,⟨0,0⟩⟩=v[i]:=by simp [hi]
      rw [if_pos (by omega),jn_d,hin i hi,Ai,Bj (by omega),e]
      by_cases g:((List.range i).any fun j=>decide (Rc v[i] (v.getD j ⟨0,0,⟨0,0⟩⟩)))=true
      ·rw [if_pos g,if_pos g]
      ·rw [if_neg g,if_neg g]
     ·unfold Dq
      rw [if_neg (by omega)]
    rw [hout,Ai]
    ·have hd:((List.range v.length).any fun i=>(List.range i).any fun j=>decide (Rc (v.getD i ⟨0,0,⟨0,0⟩⟩) (v.getD j ⟨0,0,⟨0,0⟩⟩)))=true↔¬ Dj v:=by
      rw [← Aes,List.any_eq_true]
      constructor
      ·rintro ⟨i,hi,hj⟩
       rw [List.any_eq_true] at hj
       obtain ⟨j,hj,hs⟩:=hj
       rw [List.mem_range] at hi hj
       rw [decide_eq_true_eq] at hs
       refine ⟨i,j,hi,by omega,hj,?_⟩
       simpa [hi,show j < v.length by omega] using hs
      ·rintro ⟨i,j,hi,hj,hji,hs⟩
       refine ⟨i,List.mem_range.2 hi,?_⟩
       rw [List.any_eq_true]
       exact ⟨j,List.mem_range.2 hji,by simpa [hi,hj] using hs⟩
     by_cases g:Dj v
     ·rw [if_neg (fun q=>hd.1 q g),if_neg (not_not_intro g)]
     ·rw [if_pos (hd.2 g),if_pos g]
   ·rw [if_pos (Aa9.2 h),if_pos h]
end Go.Proofs.YtgfiafnelibjgaaGreat
/- Boxes, the order of places, the reference's scans: what the texts on the reference's mesh share with those on hulls (of M3, M4, M6). -/
namespace Go.Proofs.YtgfiafnelibjgaaGreat
open Go Go.RowKit
/-- In the box of two places. -/
def Box (p q k:Ac):Prop:=min p.X q.X≤k.X∧k.X≤max p.X q.X∧min p.Y q.Y≤k.Y∧k.Y≤max p.Y q.Y
instance (p q k:Ac):Decidable (Box p q k):=by unfold Box;infer_instance
def lexA:Int:=2147483648
theorem Ar2 {p q:Ac} (hp:okP p) (hq:okP q):ph lexA 1 p < ph lexA 1 q↔befP p q:=by unfold ph lexA okP befP at *;omega
theorem mid {a b c d:Int} (h0:0 < a) (h1:0≤b) (h2:b≤a) (h:a*c=d*b):(0≤d→0≤c∧c≤d)∧(d≤0→d≤c∧c≤0):=by
 constructor
 ·intro hd
  have e1:=Int.mul_nonneg hd h1
  have e2:=Int.mul_nonneg hd (show 0≤a-b by omega)
  refine ⟨Oo h0 (by omega),?_⟩
  have:0≤d-c:=Oo h0 (by rw [Int.mul_sub] at *;rw [Int.mul_comm a d];omega)
  omega
 ·intro hd
  have e1:=Int.mul_nonneg (show 0≤-d by omega) h1
  have e2:=Int.mul_nonneg (show 0≤-d by omega) (show 0≤a-b by omega)
  rw [Int.neg_mul] at e1 e2
  rw [Int.mul_sub] at e2
  constructor
  ·have:0≤c-d:=Oo h0 (by rw [Int.mul_sub,Int.mul_comm a d];omega)
   omega
  ·have:0≤-c:=Oo h0 (by rw [Int.mul_neg];omega)
   omega
theorem Apt {p q k:Ac} (h:crs p q k=0) (h1:¬ befP k p) (h2:¬ befP q k):Box p q k:=by
 unfold befP at h1 h2
 unfold crs at h
 unfold Box
 by_cases e:p.X=q.X
 ·omega
 ·have:=mid (a:=q.X-p.X) (b:=k.X-p.X) (c:=k.Y-p.Y) (d:=q.Y-p.Y) (by omega) (by omega) (by omega) (by omega)
  rcases Int.le_total 0 (q.Y-p.Y) with g | g
  ·have:=this.1 g;omega
  ·have:=this.2 g;omega
theorem Box.swap {p q k:Ac} (h:Box p q k):Box q p k:=by unfold Box at *;omega
variable {v:List Ab}
theorem Qe (hv:Cg v) {i j:Int} (hi:inN v.length i) (hj:inN v.length j) (h:i≠j):¬ Cf (plV v i) (plV v j):=fun g=>h (hv.dist i j hi hj g)
theorem Amp (a b c:Ac):crs a c b = -crs a b c:=by unfold crs;grind
theorem Af0 {p q r:Ac} (hp:okP p) (hq:okP q) (hr:okP r):Gr p q r=some (decide (crs p q r=0∧Box p q r)):=by
 unfold Gr
 rw [jn_d,Ty hp hq hr,Ai]
 have e:Int.sign (crs p q r)=0↔crs p q r=0:=Int.sign_eq_zero_iff_zero
 by_cases h:crs p q r=0
 ·rw [if_pos (e.2 h)]
  unfold Box
  by_cases h1:min p.X q.X≤r.X
  ·rw [if_pos h1]
   by_cases h2:r.X≤max p.X q.X
   ·rw [if_pos h2]
    by_cases h3:min p.Y q.Y≤r.Y
    ·rw [if_pos h3];simp [h,h1,h2,h3]
    ·rw [if_neg h3];simp [h3]
   ·rw [if_neg h2];simp [h2]
  ·rw [if_neg h1];simp [h1]
 ·rw [if_neg (fun g=>h (e.1 g))];simp [h]
theorem Apu (p:Ac):¬ befP p p:=by unfold befP;omega
theorem Af1 {p q:Ac} (h:befP p q):¬ befP q p:=by unfold befP at *;omega
theorem Aeh {i:Int} (hi:inN v.length i):∃ x,idx v i=some x∧(⟨x.X,x.Y⟩:Ac)=plV v i:=by
 obtain ⟨k,hk,rfl,f⟩:=Hn (v:=v) (i:=i) hi
 exact ⟨v[k],f,by unfold plV;rw [f]⟩
end Go.Proofs.YtgfiafnelibjgaaGreat
/- Walks of the program, with their plain functions: the same mesh. -/
namespace Go.Proofs.YtgfiafnelibjgaaGreat
open Go Go.RowKit
theorem Atm (a0:Int) (a1:Int) (a2:Int) (a3:Int) (b0:Int) (b1:Int) (b2:Int) (b3:Int):∀ w,(Op.equalIn 10000 43 (.agg #[.int .i64 (a0),.int .i64 (a1),.int .i64 (a2),.int .i64 (a3)]) (.agg #[.int .i64 (b0),.int .i64 (b1),.int .i64 (b2),.int .i64 (b3)])).run Tryz.prog w = .ok ((((a0) == (b0)) && (((a1) == (b1)) && ((((a2) == (b2)) && (((a3) == (b3)) && true)) && true)))) w :=
 EqF.struct Tryz.underlying43 (by kernel_rfl) (.cons rfl (fun w=>by kernel_rfl) (fun w=>by kernel_rfl) (fun w=>run_equalIn_int w 9998 3 .i64 .i64 _ _ Tryz.underlying3) (.cons rfl (fun w=>by kernel_rfl) (fun w=>by kernel_rfl) (fun w=>run_equalIn_int w 9998 3 .i64 .i64 _ _ Tryz.underlying3) (.cons (a:=.agg #[.int .i64 (a2),.int .i64 (a3)]) (b:=.agg #[.int .i64 (b2),.int .i64 (b3)]) rfl (fun w=>by kernel_rfl) (fun w=>by kernel_rfl) (EqF.struct Tryz.underlying41 (by kernel_rfl) (.cons rfl (fun w=>by kernel_rfl) (fun w=>by kernel_rfl) (fun w=>run_equalIn_int w 9997 3 .i64 .i64 _ _ Tryz.underlying3) (.cons rfl (fun w=>by kernel_rfl) (fun w=>by kernel_rfl) (fun w=>run_equalIn_int w 9997 3 .i64 .i64 _ _ Tryz.underlying3) (EqF.nil)))) (EqF.nil))))
instance (a0:Int) (a1:Int) (a2:Int) (a3:Int) (b0:Int) (b1:Int) (b2:Int) (b3:Int):EqSI Tryz.prog 43 [.int .i64 (a0),.int .i64 (a1),.int .i64 (a2),.int .i64 (a3)] [.int .i64 (b0),.int .i64 (b1),.int .i64 (b2),.int .i64 (b3)] ((((a0) == (b0)) && (((a1) == (b1)) && ((((a2) == (b2)) && (((a3) == (b3)) && true)) && true)))):=⟨Atm _ _ _ _ _ _ _ _,by kernel_rfl⟩
noncomputable def Ee (p0:Ax) (p1:Ax):Int→Option (Sum Int (Sum Unit Bool)):=fun s0 =>
 if s0 < ((((p0.V).length:Nat):Int)) then (bnd (idx p0.V s0) fun x0 =>
 bnd (idx p1.V s0) fun x1 =>
 if ((((x0.X) == (x1.X)) && (((x0.Y) == (x1.Y)) && ((((x0.Z.Lo) == (x1.Z.Lo)) && (((x0.Z.Hi) == (x1.Z.Hi)) && true)) && true))))=true then (some (.inl (w64 (s0+1))))
 else (some (.inr (.inr (false)))))
 else (some (.inr (.inl ())))
noncomputable def Dr (p0:Ax) (p1:Ax):Int→Option (Sum Int (Sum Unit Bool)):=fun s0 =>
 if s0 < ((((p0.T).length:Nat):Int)) then (bnd (idx p0.T s0) fun x0 =>
 bnd (idx p1.T s0) fun x1 =>
 if ((((x0.a0) == (x1.a0)) && (((x0.a1) == (x1.a1)) && (((x0.a2) == (x1.a2)) && true))))=true then (some (.inl (w64 (s0+1))))
 else (some (.inr (.inr (false)))))
 else (some (.inr (.inl ())))
noncomputable def Ds (p0:Ax) (p1:Ax):Int→Option (Sum Int (Sum Unit Bool)):=fun s0 =>
 if s0 < ((((p0.Lines).length:Nat):Int)) then (bnd (idx p0.Lines s0) fun x0 =>
 bnd (idx p1.Lines s0) fun x1 =>
 if ((((x0.a0) == (x1.a0)) && (((x0.a1) == (x1.a1)) && true)))=true then (some (.inl (w64 (s0+1))))
 else (some (.inr (.inr (false)))))
 else (some (.inr (.inl ())))
noncomputable def Dk (p0:Ax) (p1:Ax):Option Bool :=
 jn (fun (s3:Bool) =>
 if s3=true then (some false)
 else (jn (fun (s5:Unit) =>
 jn (fun (s0:Unit) =>
 jn (fun (s1:Unit) =>
 some true)
 (fun j0=>bnd (lfix (Ds p0 p1) 0) fun t0 =>
 (match t0 with
 | (.inl z0)=>j0 z0
 | (.inr (z0))=>some z0
 )))
 (fun j1=>bnd (lfix (Dr p0 p1) 0) fun t1 =>
 (match t1 with
 | (.inl z1)=>j1 z1
 | (.inr (z1))=>some z1
 )))
 (fun j5=>bnd (lfix (Ee p0 p1) 0) fun t2 =>
 (match t2 with
 | (.inl z2)=>j5 z2
 | (.inr (z2))=>some z2
 ))))
 (fun j3=>if ((((p0.V).length:Nat):Int))=((((p1.V).length:Nat):Int)) then (if ((((p0.T).length:Nat):Int))=((((p1.T).length:Nat):Int)) then (j3 (!(decide (((((p0.Lines).length:Nat):Int))=((((p1.Lines).length:Nat):Int))))))
 else (j3 true))
 else (j3 true))
set_option maxHeartbeats 1000000 in
set_option maxRecDepth 100000 in
instance Tx (p0:Ax) (p1:Ax):Con (Dk p0 p1) Tryz.prog 25 (fun K vs=>∃ (A0_0:Option Addr) (c0_0:Nat) (A0_1:Option Addr) (c0_1:Nat) (A0_2:Option Addr) (c0_2:Nat) (A0_3:Option Addr) (c0_3:Nat) (A0_4:Option Addr) (c0_4:Nat) (A0_5:Option Addr) (c0_5:Nat),vs=[.agg #[.slice (A0_0) ((p0.V).length) (c0_0),.slice (A0_1) ((p0.T).length) (c0_1),.slice (A0_2) ((p0.Lines).length) (c0_2)],.agg #[.slice (A0_3) ((p1.V).length) (c0_3),.slice (A0_4) ((p1.T).length) (c0_4),.slice (A0_5) ((p1.Lines).length) (c0_5)]]∧Has K A0_0 (p0.V).length c0_0 4 Ad (p0.V)∧Has K A0_1 (p0.T).length c0_1 3 Ak (p0.T)∧Has K A0_2 (p0.Lines).length c0_2 2 Af (p0.Lines)∧Has K A0_3 (p1.V).length c0_3 4 Ad (p1.V)∧Has K A0_4 (p1.T).length c0_4 3 Ak (p1.T)∧Has K A0_5 (p1.Lines).length c0_5 2 Af (p1.Lines)∧True) (fun _ r=>fun v Ln=>v = .bool (r)∧Ln=[]∧True):=⟨by
 rintro K _ r ⟨A0_0,c0_0,A0_1,c0_1,A0_2,c0_2,A0_3,c0_3,A0_4,c0_4,A0_5,c0_5,rfl,ha0,ha1,ha2,ha3,ha4,ha5,-⟩ hx w hK;replace ha0:=Has.lo ha0 hK;replace ha1:=Has.lo ha1 hK;replace ha2:=Has.lo ha2 hK;replace ha3:=Has.lo ha3 hK;replace ha4:=Has.lo ha4 hK;replace ha5:=Has.lo ha5 hK;unfold Dk at hx;have:=dl 6 [0,1,0,0,1,0,1,0,0,1,0] [0,1,2,3,4,5,6,7,8,9,10];have:=dl 12 [0,1,0,0,1,0,1,0,0,1,0] [0,1,2,3,4,5,6,7,8,9,10];have:=dl 18 [0,1,0,0,1,0,1,0,0,1,0] [0,1,2,3,4,5,6,7,8,9,10];refine CtS Tryz.ntmps25 Tryz.results25 ?_;refine pre ?_;intros;rename_i hx
 refine Ob ?_;refine pre ?_;intros;rename_i hx
 refine Ob ?_;refine pre ?_;intros;rename_i hx
 apply Jr (γ:=Unit) hx [2,3] (fun s3 y3 f=>(32,.bool (s3))::f) [0,1,999] (fun s3 y3 l=>l);exact kk
 ·intro s3 y3 hx;refine Cq3 (s:=32) hx rfl (fun _ hx=>?_) (fun _ hx=>?_)
  ·exact au
  ·refine pre ?_;intros;rename_i hx
   apply Jr (γ:=Unit) hx [2,3] (fun s5 y5 f=>f) [0,1,999] (fun s5 y5 l=>l);exact kk
   ·intro s5 y5 hx;apply Jr (γ:=Unit) hx [2,3] (fun s0 y0 f=>f) [0,1,999] (fun s0 y0 l=>l);exact kk
    ·intro s0 y0 hx;apply Jr (γ:=Unit) hx [] (fun s1 y1 f=>f) [999] (fun s1 y1 l=>l);exact kk
     ·intro s1 y1 hx;exact au
     ·intro _ hx;refine pre ?_;intros;rename_i hx
      apply Lr (γ:=Unit) hx [2,3,71] (fun s2 y2 f=>(72,.int .i64 (s2))::f) [0,1,999] (fun s2 y2 l=>l) ();exact kk;exact sk;intro s2 y2 x0 hx _;unfold Ds at hx
      exact au
    ·intro _ hx;refine pre ?_;intros;rename_i hx
     apply Lr (γ:=Unit) hx [2,3,53] (fun s4 y4 f=>(54,.int .i64 (s4))::f) [0,1,999] (fun s4 y4 l=>l) ();exact kk;exact sk;intro s4 y4 x1 hx _;unfold Dr at hx
     exact au
   ·intro _ hx;refine pre ?_;intros;rename_i hx
    apply Lr (γ:=Unit) hx [2,3,35] (fun s6 y6 f=>(36,.int .i64 (s6))::f) [0,1,999] (fun s6 y6 l=>l) ();exact kk;exact sk;intro s6 y6 x2 hx _;unfold Ee at hx
    exact au
 ·intro _ hx;exact au⟩
theorem Nh (p0:Ax) (p1:Ax) {K:List Ent} {A0_0:Option Addr} {c0_0:Nat} {A0_1:Option Addr} {c0_1:Nat} {A0_2:Option Addr} {c0_2:Nat} {A0_3:Option Addr} {c0_3:Nat} {A0_4:Option Addr} {c0_4:Nat} {A0_5:Option Addr} {c0_5:Nat} (ha0:Has K A0_0 (p0.V).length c0_0 4 Ad (p0.V)) (ha1:Has K A0_1 (p0.T).length c0_1 3 Ak (p0.T)) (ha2:Has K A0_2 (p0.Lines).length c0_2 2 Af (p0.Lines)) (ha3:Has K A0_3 (p1.V).length c0_3 4 Ad (p1.V)) (ha4:Has K A0_4 (p1.T).length c0_4 3 Ak (p1.T)) (ha5:Has K A0_5 (p1.Lines).length c0_5 2 Af (p1.Lines)) {r:Bool} (hx:Dk p0 p1=some r) (w:World) (hK:∀ e∈K,Ent.ok w e):CtL Tryz.prog 25 [.agg #[.slice (A0_0) ((p0.V).length) (c0_0),.slice (A0_1) ((p0.T).length) (c0_1),.slice (A0_2) ((p0.Lines).length) (c0_2)],.agg #[.slice (A0_3) ((p1.V).length) (c0_3),.slice (A0_4) ((p1.T).length) (c0_4),.slice (A0_5) ((p1.Lines).length) (c0_5)]] w fun v Ln=>v = .bool (r)∧Ln=[]∧True:=(Tx p0 p1).h K _ _ ⟨_,_,_,_,_,_,_,_,_,_,_,_,rfl,ha0,ha1,ha2,ha3,ha4,ha5,trivial⟩ hx w hK
end Go.Proofs.YtgfiafnelibjgaaGreat
