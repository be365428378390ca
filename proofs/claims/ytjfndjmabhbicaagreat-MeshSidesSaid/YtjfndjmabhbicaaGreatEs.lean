/- Which vertices are valid: the reference. -/
import Derived.Test.YtjfndjmabhbicaaGreatE1b
import Derived.Test.YtjfndjmabhbicaaGreatK5
import Derived.Test.YtjfndjmabhbicaaGreatK1
namespace Go.Proofs.YtjfndjmabhbicaaGreat
open Go Go.RowKit
theorem Acj (x:Ab):Fp x=some (decide (Le x)):=by
 unfold Fp Aj
 rw [jn_d,Ad,Atu,Ad]
 by_cases h:okP (⟨x.X,x.Y⟩:Ac)
 ·rw [decide_eq_true h,if_pos rfl]
  by_cases h1:-268435456<=x.Z.Lo
  ·rw [if_pos h1]
   by_cases h2:x.Z.Lo<=x.Z.Hi
   ·rw [if_pos h2]
    congr 1
    rw [Bool.eq_iff_iff,decide_eq_true_eq,decide_eq_true_eq]
    exact ⟨fun g=>⟨h,h1,h2,g⟩,fun g=>g.2.2.2⟩
   ·rw [if_neg h2,decide_eq_false (fun g:Le x=>h2 g.2.2.1)]
  ·rw [if_neg h1,decide_eq_false (fun g:Le x=>h1 g.2.1)]
 ·rw [decide_eq_false h,if_neg (by simp),decide_eq_false (fun g:Le x=>h g.1)]
theorem Atg {v:List Ab} (c:v.length<=1024):lfix (Ds v) 0=some (if ((List.range v.length).any fun k=>!decide (Le (v.getD k ⟨0,0,⟨0,0⟩⟩)))=true then .inr 60 else .inl ()):=by
 refine Pb v.length (by omega) (fun k=>!decide (Le (v.getD k ⟨0,0,⟨0,0⟩⟩))) (Ds v) () 60 (fun k hk=>?_) ?_
 ·unfold Ds
  rw [if_pos (by omega),As hk,Ad,Acj,Ad,Au (by omega)]
  have e:v.getD k ⟨0,0,⟨0,0⟩⟩=v[k]:=by simp [hk]
  rw [e]
  by_cases g:Le v[k]
  ·simp [g]
  ·simp [g]
 ·unfold Ds
  rw [if_neg (by omega)]
theorem Oe (v:List Ab):Ga v=some (Ja v):=by
 unfold Ga Ja
 by_cases c:1024 < v.length
 ·rw [if_pos (by omega),if_pos c]
 ·rw [if_neg (by omega),if_neg c,jn_d]
  rw [Atg (by omega),Ad]
  ·by_cases h:∀ x∈v,Le x
   ·rw [if_neg (fun g=>Acy.1 g h),if_neg (not_not_intro h)]
    dsimp only
    rw [jn_d]
    have hin:∀ i (hi:i < v.length),lfix (Ez (i:Int) v) 0=some (if (List.range i).any (fun j=>decide (Qh v[i] (v.getD j ⟨0,0,⟨0,0⟩⟩))) then .inr 61 else .inl ()):=fun i hi=>by
     refine Pb i (by omega) _ _ () 61 (fun k hk=>?_) ?_
     ·unfold Ez
      have e:v.getD k ⟨0,0,⟨0,0⟩⟩=v[k]'(by omega):=by simp [show k < v.length by omega]
      rw [if_pos (by omega),jn_d,As hi,Ad,As (show k < v.length by omega),Ad,Au (by omega),e]
      unfold Qh
      by_cases g1:v[i].X=v[k].X
      ·rw [if_pos g1,Ad,Ad]
       by_cases g2:v[i].Y=v[k].Y
       ·simp [g1,g2]
       ·simp [g2]
      ·rw [if_neg g1]
       simp [g1]
     ·unfold Ez
      rw [if_neg (by omega)]
    have hout:lfix (Dg v) 0=some (if ((List.range v.length).any fun i=>(List.range i).any fun j=>decide (Qh (v.getD i ⟨0,0,⟨0,0⟩⟩) (v.getD j ⟨0,0,⟨0,0⟩⟩)))=true then .inr 61 else .inl ()):=by
     refine Pb v.length (by omega) (fun i=>(List.range i).any fun j=>decide (Qh (v.getD i ⟨0,0,⟨0,0⟩⟩) (v.getD j ⟨0,0,⟨0,0⟩⟩))) (Dg v) () 61 (fun i hi=>?_) ?_
     ·unfold Dg
      have e:v.getD i ⟨0,0,⟨0,0⟩⟩=v[i]:=by simp [hi]
      rw [if_pos (by omega),jn_d,hin i hi,Ad,Au (by omega),e]
      by_cases g:((List.range i).any fun j=>decide (Qh v[i] (v.getD j ⟨0,0,⟨0,0⟩⟩)))=true
      ·rw [if_pos g,if_pos g]
      ·rw [if_neg g,if_neg g]
     ·unfold Dg
      rw [if_neg (by omega)]
    rw [hout,Ad]
    ·have hd:((List.range v.length).any fun i=>(List.range i).any fun j=>decide (Qh (v.getD i ⟨0,0,⟨0,0⟩⟩) (v.getD j ⟨0,0,⟨0,0⟩⟩)))=true↔¬ Ey v:=by
      rw [<- Ag4,List.any_eq_true]
      constructor
      ·rintro ⟨i,hi,hj⟩
       rw [List.any_eq_true] at hj
       obtain ⟨j,hj,hs⟩:=hj
       rw [List.mem_range] at hi hj
       rw [decide_eq_true_eq] at hs
       refine ⟨i,j,hi,by omega,hj,?_⟩
       simpa [hi,show j < v.length by omega] using hs
      ·rintro ⟨i,j,hi,hj,hji,hs⟩
       refine ⟨i,List.mem_range.2 hi,?_⟩
       rw [List.any_eq_true]
       exact ⟨j,List.mem_range.2 hji,by simpa [hi,hj] using hs⟩
     by_cases g:Ey v
     ·rw [if_neg (fun q=>hd.1 q g),if_neg (not_not_intro g)]
     ·rw [if_pos (hd.2 g),if_pos g]
   ·rw [if_pos (Acy.2 h),if_pos h]
def Box (p q k:Ac):Prop:=min p.X q.X<=k.X/\k.X<=max p.X q.X/\min p.Y q.Y<=k.Y/\k.Y<=max p.Y q.Y
instance (p q k:Ac):Decidable (Box p q k):=by unfold Box;infer_instance
def lexA:Int:=2147483648
theorem Uh {p q:Ac} (hp:okP p) (hq:okP q):ph lexA 1 p < ph lexA 1 q↔befP p q:=by unfold ph lexA okP befP at *;omega
theorem Adk {p q:Ac} (hp:okP p) (hq:okP q):ph (-lexA) (-1) p < ph (-lexA) (-1) q↔befP q p:=by unfold ph lexA okP befP at *;omega
theorem mid {a b c d:Int} (h0:0 < a) (h1:0<=b) (h2:b<=a) (h:a*c=d*b):(0<=d->0<=c/\c<=d)/\(d<=0->d<=c/\c<=0):=by
 constructor
 ·intro hd
  have e1:=Int.mul_nonneg hd h1
  have e2:=Int.mul_nonneg hd (show 0<=a-b by omega)
  refine ⟨Ml h0 (by omega),?_⟩
  have:0<=d-c:=Ml h0 (by rw [Int.mul_sub] at *;rw [Int.mul_comm a d];omega)
  omega
 ·intro hd
  have e1:=Int.mul_nonneg (show 0<=-d by omega) h1
  have e2:=Int.mul_nonneg (show 0<=-d by omega) (show 0<=a-b by omega)
  rw [Int.neg_mul] at e1 e2
  rw [Int.mul_sub] at e2
  constructor
  ·have:0<=c-d:=Ml h0 (by rw [Int.mul_sub,Int.mul_comm a d];omega)
   omega
  ·have:0<=-c:=Ml h0 (by rw [Int.mul_neg];omega)
   omega
theorem Xb {p q k:Ac} (h:crs p q k=0) (h1:¬ befP k p) (h2:¬ befP q k):Box p q k:=by
 unfold befP at h1 h2
 unfold crs at h
 unfold Box
 by_cases e:p.X=q.X
 ·omega
 ·have:=mid (a:=q.X-p.X) (b:=k.X-p.X) (c:=k.Y-p.Y) (d:=q.Y-p.Y) (by omega) (by omega) (by omega) (by omega)
  rcases Int.le_total 0 (q.Y-p.Y) with g | g
  ·have:=this.1 g;omega
  ·have:=this.2 g;omega
theorem Box.swap {p q k:Ac} (h:Box p q k):Box q p k:=by unfold Box at *;omega
theorem Ap9 {p q k:Ac} (h:crs p q k=0) (h1:¬ befP q p) (h2:befP q k) (h3:¬ Bm p q):¬ Box p q k:=by
 intro hb
 unfold befP Bm at *
 unfold Box at hb
 unfold crs at h
 by_cases e:p.X=q.X
 ·omega
 ·have hk:k.X=q.X:=by omega
  rw [hk] at h
  have:(q.X-p.X)*(k.Y-q.Y)=0:=by grind
  rcases Int.mul_eq_zero.1 this with g | g <;> omega
theorem Ath {p q k:Ac} (h:crs p q k=0) (h1:¬ befP p q) (h2:befP k q) (h3:¬ Bm p q):¬ Box p q k:=by
 intro hb
 unfold befP Bm at *
 unfold Box at hb
 unfold crs at h
 by_cases e:p.X=q.X
 ·omega
 ·have hk:k.X=q.X:=by omega
  rw [hk] at h
  have:(q.X-p.X)*(k.Y-q.Y)=0:=by grind
  rcases Int.mul_eq_zero.1 this with g | g <;> omega
variable {v:List Ab}
theorem Cp (hv:Be v) {i j:Int} (hi:inN v.length i) (hj:inN v.length j) (h:i≠j):¬ Bm (plV v i) (plV v j):=fun g=>h (hv.dist i j hi hj g)
theorem Rq (a b c:Ac):crs a c b = -crs a b c:=by unfold crs;grind
theorem Vp {p q r:Ac} (hp:okP p) (hq:okP q) (hr:okP r):Gr p q r=some (decide (crs p q r=0/\Box p q r)):=by
 unfold Gr
 rw [jn_d,Nb hp hq hr,Ad]
 have e:Int.sign (crs p q r)=0↔crs p q r=0:=Int.sign_eq_zero_iff_zero
 by_cases h:crs p q r=0
 ·rw [if_pos (e.2 h)]
  unfold Box
  by_cases h1:min p.X q.X<=r.X
  ·rw [if_pos h1]
   by_cases h2:r.X<=max p.X q.X
   ·rw [if_pos h2]
    by_cases h3:min p.Y q.Y<=r.Y
    ·rw [if_pos h3];simp [h,h1,h2,h3]
    ·rw [if_neg h3];simp [h3]
   ·rw [if_neg h2];simp [h2]
  ·rw [if_neg h1];simp [h1]
 ·rw [if_neg (fun g=>h (e.1 g))];simp [h]
theorem Yj (p q:Ac):Eg p q=some (decide (befP p q)):=by
 unfold Eg befP
 rw [jn_d]
 by_cases h1:p.X < q.X
 ·rw [if_pos h1];simp [h1]
 ·rw [if_neg h1]
  by_cases h2:p.X=q.X
  ·rw [if_pos h2];simp [h2]
  ·rw [if_neg h2];simp [h1,h2]
theorem Alz (p:Ac):¬ befP p p:=by unfold befP;omega
theorem Tg {p q:Ac} (h:befP p q):¬ befP q p:=by unfold befP at *;omega
theorem Ek {i:Int} (hi:inN v.length i):∃ x,idx v i=some x/\(⟨x.X,x.Y⟩:Ac)=plV v i:=by
 obtain ⟨k,hk,rfl,f⟩:=Fn (v:=v) (i:=i) hi
 exact ⟨v[k],f,by unfold plV;rw [f]⟩
theorem Adl (hn:v.length<=1024) {f:Int} (hf:inN v.length f) (low:∀ k,inN v.length k->k=f\/befP (plV v f) (plV v k)):Is v=some f:=by
 unfold inN at hf
 unfold Is
 rw [jn_d]
 have:=Bk (B:=Kr v) (fun s=>v.length-s.2.toNat) (fun s=>0<=s.2/\s.2<=(v.length:Int)/\inN v.length s.1/\(f < s.2->s.1=f)) (fun t=>t=f) (fun s hs=>by
  obtain ⟨b,k⟩:=s
  obtain ⟨h1,h2,h3,h4⟩:=hs
  simp only at h1 h2 h3 h4
  unfold Kr
  dsimp only
  by_cases hk:k < (v.length:Int)
  ·left
   obtain ⟨x,hx,px⟩:=Ek (v:=v) (i:=k) ⟨h1,hk⟩
   obtain ⟨y,hy,py⟩:=Ek (v:=v) (i:=b) h3
   rw [if_pos hk,jn_d,hx,Ad,hy,Ad]
   unfold Aj
   rw [Ad,Ad,px,py,Yj,Ad,Ay (by omega) (by omega)]
   by_cases c:befP (plV v k) (plV v b)
   ·rw [if_pos (decide_eq_true c)]
    refine ⟨_,rfl,⟨by dsimp only;omega,by dsimp only;omega,⟨h1,hk⟩,fun g=>?_⟩,by dsimp only;omega⟩
    dsimp only at g ⊢
    by_cases e:f < k
    ·rw [h4 e] at c
     rcases low k ⟨h1,hk⟩ with e2 | e2
     ·exact e2
     ·exact absurd c (Tg e2)
    ·omega
   ·rw [if_neg (by simpa using c)]
    refine ⟨_,rfl,⟨by dsimp only;omega,by dsimp only;omega,h3,fun g=>?_⟩,by dsimp only;omega⟩
    dsimp only at g ⊢
    by_cases e:f < k
    ·exact h4 e
    ·have:k=f:=by omega
     rcases low b h3 with e2 | e2
     ·exact e2
     ·rw [this] at c;exact absurd e2 c
  ·right
   rw [if_neg hk]
   exact ⟨_,rfl,h4 (by omega)⟩) (0,0) ⟨by simp,by simp,⟨by simp,by simp only;omega⟩,fun g=>by simp only at g;omega⟩
 obtain ⟨t,ht,rfl⟩:=this
 rw [ht,Ad]
theorem Acv (hv:Be v) (hn:v.length<=1024):∃ b,Jx v=some b/\(b=true↔∀ k,2<=k->inN v.length k->crs (plV v 0) (plV v 1) (plV v k)=0):=by
 unfold Jx
 rw [jn_d]
 have:=Bk (B:=Lq v) (fun s=>v.length-s.toNat) (fun s=>2<=s/\∀ k,2<=k->k < s->inN v.length k->crs (plV v 0) (plV v 1) (plV v k)=0)
  (fun t=>(t = .inl ()/\∀ k,2<=k->inN v.length k->crs (plV v 0) (plV v 1) (plV v k)=0)\/(t = .inr false/\¬ ∀ k,2<=k->inN v.length k->crs (plV v 0) (plV v 1) (plV v k)=0)) (fun s hs=>by
  obtain ⟨h1,h2⟩:=hs
  unfold Lq
  by_cases hk:s < (v.length:Int)
  ·have hs':inN v.length s:=⟨by omega,hk⟩
   have h0':inN v.length 0:=⟨by omega,by omega⟩
   have h1':inN v.length 1:=⟨by omega,by omega⟩
   obtain ⟨x,hx,px⟩:=Ek (v:=v) h0'
   obtain ⟨y,hy,py⟩:=Ek (v:=v) h1'
   obtain ⟨z,hz,pz⟩:=Ek (v:=v) hs'
   rw [if_pos hk,hx,Ad,hy,Ad,hz,Ad]
   unfold Aj
   rw [Ad,Ad,Ad,px,py,pz,Nb (hv.ok _ h0') (hv.ok _ h1') (hv.ok _ hs'),Ad,Ay (by omega) (by omega)]
   have s0:Int.sign (crs (plV v 0) (plV v 1) (plV v s))=0↔crs (plV v 0) (plV v 1) (plV v s)=0:=Int.sign_eq_zero_iff_zero
   by_cases c:crs (plV v 0) (plV v 1) (plV v s)=0
   ·left
    rw [if_pos (s0.2 c)]
    refine ⟨_,rfl,⟨by omega,fun k k1 k2 k3=>?_⟩,by omega⟩
    by_cases e:k=s
    ·rw [e];exact c
    ·exact h2 k k1 (by omega) k3
   ·right
    rw [if_neg (fun g=>c (s0.1 g))]
    exact ⟨_,rfl,.inr ⟨rfl,fun g=>c (g s h1 hs')⟩⟩
  ·right
   rw [if_neg hk]
   exact ⟨_,rfl,.inl ⟨rfl,fun k k1 k2=>h2 k k1 (by have:=k2.2;omega) k2⟩⟩) 2 ⟨by omega,fun k k1 k2=>by omega⟩
 obtain ⟨t,ht,g | g⟩:=this
 ·obtain ⟨rfl,g⟩:=g
  rw [ht,Ad]
  exact ⟨true,rfl,fun _=>g,fun _=>rfl⟩
 ·obtain ⟨rfl,g⟩:=g
  rw [ht,Ad]
  exact ⟨false,rfl,fun h=>(by cases h),fun h=>absurd h g⟩
theorem Ayf (a0:Int) (a1:Int) (a2:Int) (a3:Int) (b0:Int) (b1:Int) (b2:Int) (b3:Int):∀ w,(Op.equalIn 10000 70 (.agg #[.int .i64 (a0),.int .i64 (a1),.int .i64 (a2),.int .i64 (a3)]) (.agg #[.int .i64 (b0),.int .i64 (b1),.int .i64 (b2),.int .i64 (b3)])).run Tryz.prog w = .ok ((((a0) == (b0)) && (((a1) == (b1)) && ((((a2) == (b2)) && (((a3) == (b3)) && true)) && true)))) w :=
 EqF.struct Tryz.underlying70 (by kernel_rfl) (.cons rfl (fun w=>by kernel_rfl) (fun w=>by kernel_rfl) (fun w=>run_equalIn_int w 9998 3 .i64 .i64 _ _ Tryz.underlying3) (.cons rfl (fun w=>by kernel_rfl) (fun w=>by kernel_rfl) (fun w=>run_equalIn_int w 9998 3 .i64 .i64 _ _ Tryz.underlying3) (.cons (a:=.agg #[.int .i64 (a2),.int .i64 (a3)]) (b:=.agg #[.int .i64 (b2),.int .i64 (b3)]) rfl (fun w=>by kernel_rfl) (fun w=>by kernel_rfl) (EqF.struct Tryz.underlying68 (by kernel_rfl) (.cons rfl (fun w=>by kernel_rfl) (fun w=>by kernel_rfl) (fun w=>run_equalIn_int w 9997 3 .i64 .i64 _ _ Tryz.underlying3) (.cons rfl (fun w=>by kernel_rfl) (fun w=>by kernel_rfl) (fun w=>run_equalIn_int w 9997 3 .i64 .i64 _ _ Tryz.underlying3) (EqF.nil)))) (EqF.nil))))
instance (a0:Int) (a1:Int) (a2:Int) (a3:Int) (b0:Int) (b1:Int) (b2:Int) (b3:Int):EqSI Tryz.prog 70 [.int .i64 (a0),.int .i64 (a1),.int .i64 (a2),.int .i64 (a3)] [.int .i64 (b0),.int .i64 (b1),.int .i64 (b2),.int .i64 (b3)] ((((a0) == (b0)) && (((a1) == (b1)) && ((((a2) == (b2)) && (((a3) == (b3)) && true)) && true)))):=⟨Ayf _ _ _ _ _ _ _ _,by kernel_rfl⟩
noncomputable def Dq (p0:Aw) (p1:Aw):Int->Option (Sum Int (Sum Unit Bool)):=fun s0 =>
 if s0 < ((((p0.V).length:Nat):Int)) then (bnd (idx p0.V s0) fun x0 =>
 bnd (idx p1.V s0) fun x1 =>
 if ((((x0.X) == (x1.X)) && (((x0.Y) == (x1.Y)) && ((((x0.Z.Lo) == (x1.Z.Lo)) && (((x0.Z.Hi) == (x1.Z.Hi)) && true)) && true))))=true then (some (.inl (w64 (s0+1))))
 else (some (.inr (.inr (false)))))
 else (some (.inr (.inl ())))
noncomputable def De (p0:Aw) (p1:Aw):Int->Option (Sum Int (Sum Unit Bool)):=fun s0 =>
 if s0 < ((((p0.T).length:Nat):Int)) then (bnd (idx p0.T s0) fun x0 =>
 bnd (idx p1.T s0) fun x1 =>
 if ((((x0.a0) == (x1.a0)) && (((x0.a1) == (x1.a1)) && (((x0.a2) == (x1.a2)) && true))))=true then (some (.inl (w64 (s0+1))))
 else (some (.inr (.inr (false)))))
 else (some (.inr (.inl ())))
noncomputable def Df (p0:Aw) (p1:Aw):Int->Option (Sum Int (Sum Unit Bool)):=fun s0 =>
 if s0 < ((((p0.Lines).length:Nat):Int)) then (bnd (idx p0.Lines s0) fun x0 =>
 bnd (idx p1.Lines s0) fun x1 =>
 if ((((x0.a0) == (x1.a0)) && (((x0.a1) == (x1.a1)) && true)))=true then (some (.inl (w64 (s0+1))))
 else (some (.inr (.inr (false)))))
 else (some (.inr (.inl ())))
noncomputable def Hr (p0:Aw) (p1:Aw):Option Bool :=
 jn (fun (s3:Bool) =>
 if s3=true then (some false)
 else (jn (fun (s5:Unit) =>
 jn (fun (s0:Unit) =>
 jn (fun (s1:Unit) =>
 some true)
 (fun j0=>bnd (lfix (Df p0 p1) 0) fun t0 =>
 (match t0 with
 | (.inl z0)=>j0 z0
 | (.inr (z0))=>some z0
 )))
 (fun j1=>bnd (lfix (De p0 p1) 0) fun t1 =>
 (match t1 with
 | (.inl z1)=>j1 z1
 | (.inr (z1))=>some z1
 )))
 (fun j5=>bnd (lfix (Dq p0 p1) 0) fun t2 =>
 (match t2 with
 | (.inl z2)=>j5 z2
 | (.inr (z2))=>some z2
 ))))
 (fun j3=>if ((((p0.V).length:Nat):Int))=((((p1.V).length:Nat):Int)) then (if ((((p0.T).length:Nat):Int))=((((p1.T).length:Nat):Int)) then (j3 (!(decide (((((p0.Lines).length:Nat):Int))=((((p1.Lines).length:Nat):Int))))))
 else (j3 true))
 else (j3 true))
set_option maxHeartbeats 1000000 in
set_option maxRecDepth 100000 in
instance lidarref06_SameMesh_c (p0:Aw) (p1:Aw):Con (Hr p0 p1) Tryz.prog 41 (fun K vs=>∃ (A0_0:Option Addr) (c0_0:Nat) (A0_1:Option Addr) (c0_1:Nat) (A0_2:Option Addr) (c0_2:Nat) (A0_3:Option Addr) (c0_3:Nat) (A0_4:Option Addr) (c0_4:Nat) (A0_5:Option Addr) (c0_5:Nat),vs=[.agg #[.slice (A0_0) ((p0.V).length) (c0_0),.slice (A0_1) ((p0.T).length) (c0_1),.slice (A0_2) ((p0.Lines).length) (c0_2)],.agg #[.slice (A0_3) ((p1.V).length) (c0_3),.slice (A0_4) ((p1.T).length) (c0_4),.slice (A0_5) ((p1.Lines).length) (c0_5)]]/\Has K A0_0 (p0.V).length c0_0 4 Ah (p0.V)/\Has K A0_1 (p0.T).length c0_1 3 Aq (p0.T)/\Has K A0_2 (p0.Lines).length c0_2 2 Ai (p0.Lines)/\Has K A0_3 (p1.V).length c0_3 4 Ah (p1.V)/\Has K A0_4 (p1.T).length c0_4 3 Aq (p1.T)/\Has K A0_5 (p1.Lines).length c0_5 2 Ai (p1.Lines)/\True) (fun _ r=>fun v Ln=>v = .bool (r)/\Ln=[]/\True):=⟨by
 rintro K _ r ⟨A0_0,c0_0,A0_1,c0_1,A0_2,c0_2,A0_3,c0_3,A0_4,c0_4,A0_5,c0_5,rfl,ha0,ha1,ha2,ha3,ha4,ha5,-⟩ hx w hK;replace ha0:=Has.lo ha0 hK;replace ha1:=Has.lo ha1 hK;replace ha2:=Has.lo ha2 hK;replace ha3:=Has.lo ha3 hK;replace ha4:=Has.lo ha4 hK;replace ha5:=Has.lo ha5 hK;unfold Hr at hx;have:=dl 6 [0,1,0,0,1,0,1,0,0,1,0] [0,1,2,3,4,5,6,7,8,9,10];have:=dl 12 [0,1,0,0,1,0,1,0,0,1,0] [0,1,2,3,4,5,6,7,8,9,10];have:=dl 18 [0,1,0,0,1,0,1,0,0,1,0] [0,1,2,3,4,5,6,7,8,9,10];refine CtS Tryz.ntmps41 Tryz.results41 ?_;try (refine pre ?_;intros;rename_i hx)
 refine Bw ?_;try (refine pre ?_;intros;rename_i hx)
 refine Bw ?_;try (refine pre ?_;intros;rename_i hx)
 apply Jr (γ:=Unit) hx [2,3] (fun s3 y3 f=>(32,.bool (s3))::f) [0,1,999] (fun s3 y3 l=>l);exact kk
 ·intro s3 y3 hx;refine Cq3 (s:=32) hx rfl (fun _ hx=>?_) (fun _ hx=>?_)
  ·exact au
  ·try (refine pre ?_;intros;rename_i hx)
   apply Jr (γ:=Unit) hx [2,3] (fun s5 y5 f=>f) [0,1,999] (fun s5 y5 l=>l);exact kk
   ·intro s5 y5 hx;apply Jr (γ:=Unit) hx [2,3] (fun s0 y0 f=>f) [0,1,999] (fun s0 y0 l=>l);exact kk
    ·intro s0 y0 hx;apply Jr (γ:=Unit) hx [] (fun s1 y1 f=>f) [999] (fun s1 y1 l=>l);exact kk
     ·intro s1 y1 hx;exact au
     ·intro _ hx;try (refine pre ?_;intros;rename_i hx)
      apply Lr (γ:=Unit) hx [2,3,71] (fun s2 y2 f=>(72,.int .i64 (s2))::f) [0,1,999] (fun s2 y2 l=>l) ();exact kk;exact sk;intro s2 y2 x0 hx _;unfold Df at hx
      exact au
    ·intro _ hx;try (refine pre ?_;intros;rename_i hx)
     apply Lr (γ:=Unit) hx [2,3,53] (fun s4 y4 f=>(54,.int .i64 (s4))::f) [0,1,999] (fun s4 y4 l=>l) ();exact kk;exact sk;intro s4 y4 x1 hx _;unfold De at hx
     exact au
   ·intro _ hx;try (refine pre ?_;intros;rename_i hx)
    apply Lr (γ:=Unit) hx [2,3,35] (fun s6 y6 f=>(36,.int .i64 (s6))::f) [0,1,999] (fun s6 y6 l=>l) ();exact kk;exact sk;intro s6 y6 x2 hx _;unfold Dq at hx
    exact au
 ·intro _ hx;exact au⟩
end Go.Proofs.YtjfndjmabhbicaaGreat
