/- Walks of the program, with their plain functions: the reference's limbs. -/
import Derived.Test.YtjfndjmabhbicaaGreatX2
namespace Go.Proofs.YtjfndjmabhbicaaGreat
open Go Go.RowKit
theorem Bbg:Md Tryz.prog 50 [.bool (false),.slice (none) (0) (0)]:=⟨_,Tryz.zeroValue50,rfl⟩
instance:Tg Tryz.prog 50 [.bool (false),.slice (none) (0) (0)]:=⟨Bbg⟩
theorem Aaj (x0:Bool) (x1:Option Addr) (x2:Nat) (x3:Nat):Gs Tryz.prog 50 [(0,.bool x0),(1,.slice x1 x2 x3)] [.bool x0,.slice x1 x2 x3]:=fun w=>by kernel_rfl
instance (x0:Bool) (x1:Option Addr) (x2:Nat) (x3:Nat):Lk Tryz.prog 50 [(0,.bool x0),(1,.slice x1 x2 x3)] [.bool x0,.slice x1 x2 x3]:=⟨Aaj _ _ _ _⟩
theorem Bbh:Nf Tryz.prog 50 2:=.mk Tryz.underlying50 rfl (show Tryz.prog.info? 50=some Tryz.t50 from by kernel_rfl) (by kernel_rfl)
instance:AggI Tryz.prog 50 2:=⟨Bbh⟩
theorem Ac5 (x0:Bool) (x1:Option Addr) (x2:Nat) (x3:Nat):Ah6 Tryz.prog 50 [.bool x0,.slice x1 x2 x3] 1 (.slice x1 x2 x3):=fun w=>by kernel_rfl
instance (x0:Bool) (x1:Option Addr) (x2:Nat) (x3:Nat):Aiu Tryz.prog 50 [.bool x0,.slice x1 x2 x3] 1 (.slice x1 x2 x3):=⟨Ac5 _ _ _ _⟩
noncomputable def Ir  : (Int × (List Int))->Option (Sum (Int × (List Int)) (List Int)):=fun s0=>
 if 0 < s0.1 then (gd (((s0.2).length+1)*8<=140737488355328) <|
 some (.inl (wu64 (Int.tdiv s0.1 65536),s0.2++[w64 (Int.tmod s0.1 65536)])))
 else (some (.inr s0.2))
noncomputable def Hd (p0:Int):Option Ai :=
 jn (fun (s3:Int)=>
 jn (fun (s6:List Int)=>
 some (⟨decide (p0 < 0),s6⟩:Ai))
 (fun j6=>bnd (lfix (Ir) (s3,([]:List Int))) fun t0=>
 j6 t0))
 (fun j3=>if p0 < 0 then (j3 (wu64 (-(wu64 (p0)))))
 else (j3 (wu64 (p0))))
noncomputable def My (p0:List Int):Int->Option (Sum Int Int):=fun s0=>
 jn (fun (s7:Bool)=>
 if s7=true then (some (.inl (w64 (s0-1))))
 else (some (.inr s0)))
 (fun j7=>if 0 < s0 then (bnd (idx p0 (w64 (s0-1))) fun x0=>
 j7 (decide (x0=0)))
 else (j7 false))
noncomputable def Ci (p0:List Int):Option (List Int) :=
 jn (fun (s3:Int)=>
 gd (0<=s3/\s3<=(((p0).length:Nat):Int)) <|
 some (subl p0 0 s3))
 (fun j3=>bnd (lfix (My p0) (((p0).length:Nat):Int)) fun t0=>
 j3 t0)
theorem Afg {l r:List Int} (h:Ci l=some r):∃ k,r=l.take k:=by
 unfold Ci at h
 simp only[jn] at h
 obtain ⟨n,_,h⟩:=Ar h
 obtain ⟨_,h⟩:=Dr h
 obtain rfl:=Option.some.inj h
 exact ⟨_,Aob _ _⟩
noncomputable def Ki (p0:List Int) (p1:List Int):Int->Option (Sum Int (Sum Unit Int)):=fun s0=>
 if 0<=s0 then (bnd (idx p0 s0) fun x0=>
 bnd (idx p1 s0) fun x1=>
 if x0=x1 then (some (.inl (w64 (s0-1))))
 else (bnd (idx p0 s0) fun x2=>
 bnd (idx p1 s0) fun x3=>
 if x2 < x3 then (some (.inr (.inr (-1))))
 else (some (.inr (.inr (1))))))
 else (some (.inr (.inl ())))
noncomputable def Fe (p0:List Int) (p1:List Int):Option Int :=
 if ((((p0).length:Nat):Int))=((((p1).length:Nat):Int)) then (jn (fun (s8:Unit)=>
 some 0)
 (fun j8=>bnd (lfix (Ki p0 p1) (w64 (((((p0).length:Nat):Int))-1))) fun t0=>
 (match t0 with
 | (.inl z0)=>j8 z0
 | (.inr (z0))=>some z0
 )))
 else (if ((((p0).length:Nat):Int)) < ((((p1).length:Nat):Int)) then (some (-1))
 else (some 1))
noncomputable def He (p1:List Int) (p0:List Int):((List Int) × Int × Int)->Option (Sum ((List Int) × Int × Int) (List Int)):=fun s0=>
 jn (fun (s1:Bool)=>
 if s1=true then (jn (fun (s2:Int)=>
 jn (fun (s3:Int)=>
 gd (((s0.1).length+1)*8<=140737488355328) <|
 some (.inl (s0.1++[Int.tmod s3 65536],w64 (Int.tdiv s3 65536),w64 (s0.2.2+1))))
 (fun j0=>if s0.2.2 < ((((p1).length:Nat):Int)) then (bnd (idx p1 s0.2.2) fun x0=>
 j0 (w64 (s2+x0)))
 else (j0 s2)))
 (fun j1=>if s0.2.2 < ((((p0).length:Nat):Int)) then (bnd (idx p0 s0.2.2) fun x1=>
 j1 (w64 (s0.2.1+x1)))
 else (j1 s0.2.1)))
 else (some (.inr s0.1)))
 (fun j2=>if s0.2.2 < ((((p0).length:Nat):Int)) then (j2 true)
 else (if s0.2.2 < ((((p1).length:Nat):Int)) then (j2 true)
 else (j2 (decide (0 < s0.2.1)))))
noncomputable def Ku (p0:List Int) (p1:List Int):Option (List Int) :=
 jn (fun (s4:List Int)=>
 bnd (Ci s4) fun r0=>
 some r0)
 (fun j4=>bnd (lfix (He p1 p0) (([]:List Int),0,0)) fun t0=>
 j4 t0)
noncomputable def Ff (p0:List Int) (p1:List Int):((List Int) × Int × Int)->Option (Sum ((List Int) × Int × Int) (List Int)):=fun s0=>
 if s0.2.2 < ((((p0).length:Nat):Int)) then (bnd (idx p0 s0.2.2) fun x0=>
 jn (fun (s1:Int)=>
 jn (fun (s2:Int × Int)=>
 gd (((s0.1).length+1)*8<=140737488355328) <|
 some (.inl (s0.1++[s2.2],s2.1,w64 (s0.2.2+1))))
 (fun j0=>if s1 < 0 then (j0 (1,w64 (s1+65536)))
 else (j0 (0,s1))))
 (fun j1=>if s0.2.2 < ((((p1).length:Nat):Int)) then (bnd (idx p1 s0.2.2) fun x1=>
 j1 (w64 ((w64 (x0-s0.2.1))-x1)))
 else (j1 (w64 (x0-s0.2.1)))))
 else (some (.inr s0.1))
noncomputable def Ih (p0:List Int) (p1:List Int):Option (List Int) :=
 jn (fun (s4:List Int)=>
 bnd (Ci s4) fun r0=>
 some r0)
 (fun j4=>bnd (lfix (Ff p0 p1) (([]:List Int),0,0)) fun t0=>
 j4 t0)
instance:MkI Tryz.prog 48 3 1 8 Aq 0:=⟨Tryz.t3,.int .i64 (0),Tryz.underlying48,by kernel_rfl,by kernel_rfl,rfl,by kernel_rfl,by kernel_rfl⟩
noncomputable def Gk (p1:List Int) (p0:List Int) (s0:(List Int) × Int):((List Int) × Int × Int)->Option (Sum ((List Int) × Int × Int) ((List Int) × Int)):=fun s1=>
 if s1.2.2 < ((((p1).length:Nat):Int)) then (bnd (idx p0 s0.2) fun x0=>
 bnd (idx p1 s1.2.2) fun x1=>
 bnd (idx s1.1 (w64 (s0.2+s1.2.2))) fun x2=>
 bnd (idx s1.1 (w64 (s0.2+s1.2.2))) fun x3=>
 some (.inl (setI s1.1 (w64 (s0.2+s1.2.2)) (Int.tmod (w64 ((w64 ((w64 (x0*x1))+x2))+s1.2.1)) 65536),w64 (Int.tdiv (w64 ((w64 ((w64 (x0*x1))+x2))+s1.2.1)) 65536),w64 (s1.2.2+1))))
 else (some (.inr (s1.1,s1.2.1)))
noncomputable def Gl (p0:List Int) (p1:List Int):((List Int) × Int)->Option (Sum ((List Int) × Int) (List Int)):=fun s0=>
 if s0.2 < ((((p0).length:Nat):Int)) then (jn (fun (s1:(List Int) × Int)=>
 bnd (idx s1.1 (w64 (s0.2+((((p1).length:Nat):Int))))) fun x0=>
 some (.inl (setI s1.1 (w64 (s0.2+((((p1).length:Nat):Int)))) s1.2,w64 (s0.2+1))))
 (fun j0=>bnd (lfix (Gk p1 p0 s0) (s0.1,0,0)) fun t0=>
 j0 t0))
 else (some (.inr s0.1))
noncomputable def Ef (p0:List Int) (p1:List Int):Option (List Int) :=
 gd ((0:Int)<=(w64 (((((p0).length:Nat):Int))+((((p1).length:Nat):Int))))/\8*Int.toNat (w64 (((((p0).length:Nat):Int))+((((p1).length:Nat):Int))))<=140737488355328) <|
 jn (fun (s3:List Int)=>
 bnd (Ci s3) fun r0=>
 some r0)
 (fun j3=>bnd (lfix (Gl p0 p1) (List.replicate (Int.toNat (w64 (((((p0).length:Nat):Int))+((((p1).length:Nat):Int))))) (0:Int),0)) fun t0=>
 j3 t0)
noncomputable def Lu (p0:List Int) (p1:Int):((List Int) × Int × Int)->Option (Sum ((List Int) × Int × Int) ((List Int) × Int)):=fun s0=>
 if 0<=s0.2.2 then (bnd (idx p0 s0.2.2) fun x0=>
 gd (p1≠0) <|
 bnd (idx s0.1 s0.2.2) fun x1=>
 gd (p1≠0) <|
 some (.inl (setI s0.1 s0.2.2 (w64 (Int.tdiv (w64 ((w64 (s0.2.1*65536))+x0)) p1)),Int.tmod (w64 ((w64 (s0.2.1*65536))+x0)) p1,w64 (s0.2.2-1))))
 else (some (.inr (s0.1,s0.2.1)))
noncomputable def Hf (p0:List Int) (p1:Int):Option ((List Int) × Int) :=
 gd ((0:Int)<=((((p0).length:Nat):Int))/\8*Int.toNat ((((p0).length:Nat):Int))<=140737488355328) <|
 jn (fun (s4:(List Int) × Int)=>
 bnd (Ci s4.1) fun r0=>
 some (r0,s4.2))
 (fun j4=>bnd (lfix (Lu p0 p1) (List.replicate (Int.toNat ((((p0).length:Nat):Int))) (0:Int),0,w64 (((((p0).length:Nat):Int))-1))) fun t0=>
 j4 t0)
noncomputable def Er (p0:List Int) (p1:List Int):Option ((List Int) × (List Int)) :=
 bnd (Fe p0 p1) fun r1=>
 if r1 < 0 then (some (([]:List Int),p0))
 else (if ((((p1).length:Nat):Int))=1 then (bnd (idx p1 0) fun x9=>
 bnd (Hf p0 x9) fun r0=>
 bnd (Hd r0.2) fun r2=>
 some (r0.1,r2.L))
 else (none))
noncomputable def Ic  : ((List Int) × (List Int))->Option (Sum ((List Int) × (List Int)) (List Int)):=fun s0=>
 if 0 < ((((s0.2).length:Nat):Int)) then (bnd (Er s0.1 s0.2) fun r0=>
 some (.inl (s0.2,r0.2)))
 else (some (.inr s0.1))
noncomputable def Mh (p0:List Int) (p1:List Int):Option (List Int) :=
 jn (fun (s2:List Int)=>
 some s2)
 (fun j2=>bnd (lfix (Ic) (p0,p1)) fun t0=>
 j2 t0)
set_option maxHeartbeats 1000000 in
set_option maxRecDepth 100000 in
instance Aak (p0:Int):Con (Hd p0) Tryz.prog 71 (fun _ vs=>vs=[.int .i64 (p0)]) (fun _ r=>fun v Ln=>∃ (A0:Option Addr) (c0:Nat),v = .agg #[.bool (r.Neg),.slice (A0) ((r.L).length) (c0)]/\Ln=[.r A0 (r.L).length c0 3 1 ((r.L).flatMap Aq)]/\True):=⟨by
 rintro _ _ r rfl hx w hK;unfold Hd at hx;refine CtS Tryz.ntmps71 Tryz.results71 ?_;try (refine pre ?_;intros;rename_i hx)
 refine Bn ?_;try (refine pre ?_;intros;rename_i hx)
 refine Bn ?_;try (refine pre ?_;intros;rename_i hx)
 apply Jr (γ:=Unit) hx [0,2] (fun s3 y3 f=>(3,.int .u64 (s3))::f) [0,999] (fun s3 y3 l=>l);exact kk
 ·intro s3 y3 hx;try (refine pre ?_;intros;rename_i hx)
  refine Bn ?_;try (refine pre ?_;intros;rename_i hx)
  apply Jr (γ:=(Option Addr) × Nat) hx [0,2] (fun s6 y6 f=>(4,.slice (y6.1) ((s6).length) (y6.2))::f) [0,999] (fun s6 y6 l=>.r (y6.1) ((s6).length) (y6.2) 3 1 ((s6).flatMap Aq)::l);exact kk
  ·intro s6 y6 hx;exact au
  ·intro _ hx;try (refine pre ?_;intros;rename_i hx)
   refine Az 3 1 ?_
   apply Lr (γ:=(Option Addr) × Nat) hx [0,2] (fun s0 y0 f=>(3,.int .u64 (s0.1))::(4,.slice (y0.1) ((s0.2).length) (y0.2))::f) [1,999] (fun s0 y0 l=>.r (y0.1) ((s0.2).length) (y0.2) 3 1 ((s0.2).flatMap Aq)::l) (_,_);exact kk;exact sk;intro s0 y0 x0 hx _;unfold Ir at hx
   exact au
 ·intro _ hx;exact au⟩
theorem Zd (p0:Int)  {r:Ai} (hx:Hd p0=some r) (w:World):CtL Tryz.prog 71 [.int .i64 (p0)] w fun v Ln=>∃ (A0:Option Addr) (c0:Nat),v = .agg #[.bool (r.Neg),.slice (A0) ((r.L).length) (c0)]/\Ln=[.r A0 (r.L).length c0 3 1 ((r.L).flatMap Aq)]/\True:=(Aak p0).h [] _ _ rfl hx w (fun _ h=>absurd h List.not_mem_nil)
set_option maxRecDepth 100000 in
theorem Qb (p0:List Int) {K:List Ent} {A0_0:Option Addr} {c0_0:Nat} (ha0:Has K A0_0 p0.length c0_0 1 Aq (p0)) {r:List Int} (hx:Ci p0=some r) (w:World) (hK:∀ e∈K,Ent.ok w e):CtL Tryz.prog 131 [.slice (A0_0) (p0.length) (c0_0)] w fun v Ln=>v = .slice (A0_0) (r.length) (c0_0)/\Ln=[]/\Has K A0_0 r.length c0_0 1 Aq (r)/\True:=by
 have ha0':=Has.up0 ha0;refine CtL.mk 21 Tryz.func131 rfl Tryz.ntmps131 (by kernel_rfl) rfl ?_;show T 21 _ [(0,.slice (A0_0) (p0.length) (c0_0))] _;unfold Ci at hx;refine Y8 ?_;refine Ba (Jq rfl 3 Tryz.underlying48) rfl ?_;refine Y3 ?_;refine Tj (γ:=Unit) hx (fun s3 y3=>[(0,.slice (A0_0) (p0.length) (c0_0)),(3,.int .i64 (s3))]) (fun s3 y3=>[]++[.old w]) (fun s3 y3=>True) (fun s3 y3 hx0 hG0=>?_) (fun j3 hx=>?_)
 ·refine Y4 ?_;obtain ⟨h0,hx1⟩:=Dr hx0;have hs0:=Has.subH ha0' h0.1 h0.2;refine Ba (Aie rfl rfl Ws h0.1 (by have:=Has.nc ha0';omega)) rfl ?_;refine Y4 ?_;refine Aca (s:=2) (v':=.slice (A0_0) ((subl p0 0 s3).length) (c0_0)) rfl (by have hn0:(Int.toNat s3)=(subl p0 0 s3).length:=(Has.len hs0).symm;first | (rw[<- hn0];done) | rfl) ?_;obtain rfl:=Option.some.inj hx1;exact Hc (rs:=[.tmp 2]) Tryz.results131 (.tmp rfl (.nil)) (Ln:=[]) ⟨rfl,rfl,Has.len' (Has.dn0 hs0),trivial⟩ (Gn) (by exact .refl)
 ·refine Y ?_;obtain ⟨t0,hl0,ho0⟩:=Ar hx;refine Lp (σ:=Int) (γ:=Unit) hl0 (fun s0 y0=>[(0,.slice (A0_0) (p0.length) (c0_0)),(3,.int .i64 (s0))]) (fun s0 y0=>[]++[.old w]) (fun s0 y0=>True) () trivial (by exact .refl) ?_;intro s0 y0 hG1 x0 hx2 ht0;unfold My at hx2;refine Y ?_;refine Tj (γ:=Unit) hx2 (fun s7 y7=>[(0,.slice (A0_0) (p0.length) (c0_0)),(3,.int .i64 (s0)),(15,.bool (s7))]) (fun s7 y7=>[]++[.old w]) (fun s7 y7=>True) (fun s7 y7 hx3 hG2=>?_) (fun j7 hx2=>?_)
  ·refine Hr (s:=15) rfl (fun h1=>?_) (fun h1=>?_)
   ·have hx4:=Jx h1 hx3;refine Y10 ?_;exact Rp (w64 (s0-1)) () hx4 trivial (by exact .refl)
   ·have hx5:=Mg h1 hx3;refine Y3 ?_;obtain rfl:=Lc ht0 hx5;refine Y2 ?_;exact Mt s0 () ho0 trivial (by exact .refl)
  ·refine Y4 ?_;refine Ti hx2 (s:=8) rfl (fun h2 hx6=>?_) (fun h2 hx7=>?_)
   ·refine Y3 ?_;obtain ⟨x1,h3,hx8⟩:=Ar hx6;have hw0:=Has.low (E:=[]) ha0' hK;obtain ⟨b0,o0,j0,hA0,hj0,hl1,hp0⟩:=Has.at_idx hw0 h3;refine Oi rfl rfl rfl (Fw rfl rfl hA0 (j:=j0) hj0 hl1 Ws) rfl ?_;refine Oi rfl rfl rfl (Dy rfl hp0 (sb 0) rfl one3) rfl ?_;refine Y3 ?_;exact Mt (decide (x1=0)) () hx8 trivial (by exact .refl)
   ·refine Y8 ?_;exact Mt false () hx7 trivial (by exact .refl)
set_option maxHeartbeats 1000000 in
set_option maxRecDepth 100000 in
instance lidarref01_trim_c (p0:List Int):ConB (Ci p0) Tryz.prog 131 (fun K vs=>∃ (A0_0:Option Addr) (c0_0:Nat),vs=[.slice (A0_0) ((p0).length) (c0_0)]/\Has K A0_0 (p0).length c0_0 1 Aq (p0)/\True) (fun K r=>fun v Ln=>∃ (A0:Option Addr) (c0:Nat) (e:Ent),v = .slice (A0) ((r).length) (c0)/\Ln=[e]/\Has (K++[e]) A0 (r).length c0 1 Aq (r)/\True):=⟨by
 rintro K _ r ⟨A0_0,c0_0,rfl,ha0,-⟩ hx w hK;exact CtL.bunB (Qb p0 ha0 hx w hK) (by
  rintro _ _ w1 hw ⟨rfl,rfl,_,-⟩
  exact ⟨_,_,_,rfl,rfl,hZ hw,trivial⟩)⟩
instance lidarref01_trimT (p0:List Int):TrI (Ci p0) Tryz.prog 131 Aq 1 p0:=⟨fun _ h=>⟨Afg h,fun _ _ _ hs w hK=>Qb p0 hs h w hK⟩⟩
set_option maxHeartbeats 1000000 in
set_option maxRecDepth 100000 in
instance Xz (p0:List Int) (p1:List Int):Con (Fe p0 p1) Tryz.prog 208 (fun K vs=>∃ (A0_0:Option Addr) (c0_0:Nat) (A0_1:Option Addr) (c0_1:Nat),vs=[.slice (A0_0) ((p0).length) (c0_0),.slice (A0_1) ((p1).length) (c0_1)]/\Has K A0_0 (p0).length c0_0 1 Aq (p0)/\Has K A0_1 (p1).length c0_1 1 Aq (p1)/\True) (fun _ r=>fun v Ln=>v = .int .i64 (r)/\Ln=[]/\True):=⟨by
 rintro K _ r ⟨A0_0,c0_0,A0_1,c0_1,rfl,ha0,ha1,-⟩ hx w hK;replace ha0:=Has.lo ha0 hK;replace ha1:=Has.lo ha1 hK;unfold Fe at hx;have:=dl 8 [0,0,0,1,0,0,0,1,0] [0,1,2,3,4,5,6,7,8];have:=dl 9 [0,0,0,1,0,0,0,1,0] [0,1,2,3,4,5,6,7,8];refine CtS Tryz.ntmps208 Tryz.results208 ?_;try (refine pre ?_;intros;rename_i hx)
 refine Cq2 (s:=10) hx rfl (fun _ hx=>?_) (fun _ hx=>?_)
 ·exact au
 ·try (refine pre ?_;intros;rename_i hx)
  apply Jr (γ:=Unit) hx [] (fun s8 y8 f=>f) [999] (fun s8 y8 l=>l);exact kk
  ·intro s8 y8 hx;exact au
  ·intro _ hx;try (refine pre ?_;intros;rename_i hx)
   apply Lr (γ:=Unit) hx [0,1] (fun s61 y61 f=>(5,.int .i64 (s61))::f) [999] (fun s61 y61 l=>l) ();exact kk;exact sk;intro s61 y61 x61 hx _;unfold Ki at hx
   exact au⟩
theorem Wz (p0:List Int) (p1:List Int) {K:List Ent} {A0_0:Option Addr} {c0_0:Nat} {A0_1:Option Addr} {c0_1:Nat} (ha0:Has K A0_0 (p0).length c0_0 1 Aq (p0)) (ha1:Has K A0_1 (p1).length c0_1 1 Aq (p1)) {r:Int} (hx:Fe p0 p1=some r) (w:World) (hK:∀ e∈K,Ent.ok w e):CtL Tryz.prog 208 [.slice (A0_0) ((p0).length) (c0_0),.slice (A0_1) ((p1).length) (c0_1)] w fun v Ln=>v = .int .i64 (r)/\Ln=[]/\True:=(Xz p0 p1).h K _ _ ⟨_,_,_,_,rfl,ha0,ha1,trivial⟩ hx w hK
set_option maxHeartbeats 1000000 in
set_option maxRecDepth 100000 in
instance lidarref01_plus_c (p0:List Int) (p1:List Int):Con (Ku p0 p1) Tryz.prog 207 (fun K vs=>∃ (A0_0:Option Addr) (c0_0:Nat) (A0_1:Option Addr) (c0_1:Nat),vs=[.slice (A0_0) ((p0).length) (c0_0),.slice (A0_1) ((p1).length) (c0_1)]/\Has K A0_0 (p0).length c0_0 1 Aq (p0)/\Has K A0_1 (p1).length c0_1 1 Aq (p1)/\True) (fun _ r=>fun v Ln=>∃ (A0:Option Addr) (c0:Nat),v = .slice (A0) ((r).length) (c0)/\Ln=[.r A0 (r).length c0 3 1 ((r).flatMap Aq)]/\True):=⟨by
 rintro K _ r ⟨A0_0,c0_0,A0_1,c0_1,rfl,ha0,ha1,-⟩ hx w hK;replace ha0:=Has.lo ha0 hK;replace ha1:=Has.lo ha1 hK;unfold Ku at hx;refine CtS Tryz.ntmps207 Tryz.results207 ?_;try (refine pre ?_;intros;rename_i hx)
 refine Bn ?_;try (refine pre ?_;intros;rename_i hx)
 refine Bn ?_;try (refine pre ?_;intros;rename_i hx)
 refine Bn ?_;try (refine pre ?_;intros;rename_i hx)
 apply Jr (γ:=(Option Addr) × Nat) hx [] (fun s4 y4 f=>(5,.slice (y4.1) ((s4).length) (y4.2))::f) [999] (fun s4 y4 l=>.r (y4.1) ((s4).length) (y4.2) 3 1 ((s4).flatMap Aq)::l);exact kk
 ·intro s4 y4 hx;exact au
 ·intro _ hx;try (refine pre ?_;intros;rename_i hx)
  refine Az 3 1 ?_
  apply Lr (γ:=(Option Addr) × Nat) hx [0,1] (fun s0 y0 f=>(5,.slice (y0.1) ((s0.1).length) (y0.2))::(6,.int .i64 (s0.2.1))::(7,.int .i64 (s0.2.2))::f) [999] (fun s0 y0 l=>.r (y0.1) ((s0.1).length) (y0.2) 3 1 ((s0.1).flatMap Aq)::l) (_,_);exact kk;exact sk;intro s0 y0 x0 hx _;unfold He at hx
  try (refine pre ?_;intros;rename_i hx)
  refine Bn ?_;try (refine pre ?_;intros;rename_i hx)
  apply Jr (γ:=Unit) hx [0,1,5,6,7] (fun s1 y1 f=>(22,.bool (s1))::f) [0,999] (fun s1 y1 l=>l);exact kk
  ·intro s1 y1 hx;refine Cq3 (s:=22) hx rfl (fun _ hx=>?_) (fun _ hx=>?_)
   ·try (refine pre ?_;intros;rename_i hx)
    refine Bn ?_;try (refine pre ?_;intros;rename_i hx)
    refine Bn ?_;try (refine pre ?_;intros;rename_i hx)
    apply Jr (γ:=Unit) hx [0,1,5,7] (fun s2 y2 f=>(8,.int .i64 (s2))::f) [0,999] (fun s2 y2 l=>l);exact kk
    ·intro s2 y2 hx;exact au
    ·intro _ hx;exact au
   ·exact au
  ·intro _ hx;exact au⟩
set_option maxHeartbeats 1000000 in
set_option maxRecDepth 100000 in
instance lidarref01_less_c (p0:List Int) (p1:List Int):Con (Ih p0 p1) Tryz.prog 209 (fun K vs=>∃ (A0_0:Option Addr) (c0_0:Nat) (A0_1:Option Addr) (c0_1:Nat),vs=[.slice (A0_0) ((p0).length) (c0_0),.slice (A0_1) ((p1).length) (c0_1)]/\Has K A0_0 (p0).length c0_0 1 Aq (p0)/\Has K A0_1 (p1).length c0_1 1 Aq (p1)/\True) (fun _ r=>fun v Ln=>∃ (A0:Option Addr) (c0:Nat),v = .slice (A0) ((r).length) (c0)/\Ln=[.r A0 (r).length c0 3 1 ((r).flatMap Aq)]/\True):=⟨by
 rintro K _ r ⟨A0_0,c0_0,A0_1,c0_1,rfl,ha0,ha1,-⟩ hx w hK;replace ha0:=Has.lo ha0 hK;replace ha1:=Has.lo ha1 hK;unfold Ih at hx;refine CtS Tryz.ntmps209 Tryz.results209 ?_;try (refine pre ?_;intros;rename_i hx)
 refine Bn ?_;try (refine pre ?_;intros;rename_i hx)
 refine Bn ?_;try (refine pre ?_;intros;rename_i hx)
 refine Bn ?_;try (refine pre ?_;intros;rename_i hx)
 apply Jr (γ:=(Option Addr) × Nat) hx [] (fun s4 y4 f=>(5,.slice (y4.1) ((s4).length) (y4.2))::f) [999] (fun s4 y4 l=>.r (y4.1) ((s4).length) (y4.2) 3 1 ((s4).flatMap Aq)::l);exact kk
 ·intro s4 y4 hx;exact au
 ·intro _ hx;try (refine pre ?_;intros;rename_i hx)
  refine Az 3 1 ?_
  apply Lr (γ:=(Option Addr) × Nat) hx [0,1] (fun s0 y0 f=>(5,.slice (y0.1) ((s0.1).length) (y0.2))::(6,.int .i64 (s0.2.1))::(7,.int .i64 (s0.2.2))::f) [999] (fun s0 y0 l=>.r (y0.1) ((s0.1).length) (y0.2) 3 1 ((s0.1).flatMap Aq)::l) (_,_);exact kk;exact sk;intro s0 y0 x0 hx _;unfold Ff at hx
  try (refine pre ?_;intros;rename_i hx)
  refine Cq1 (s:=12) hx rfl (fun _ hx=>?_) (fun _ hx=>?_)
  ·try (refine pre ?_;intros;rename_i hx)
   apply Jr (γ:=Unit) hx [0,1,5,7] (fun s1 y1 f=>(8,.int .i64 (s1))::f) [0,999] (fun s1 y1 l=>l);exact kk
   ·intro s1 y1 hx;exact au
   ·intro _ hx;exact au
  ·exact au⟩
set_option maxHeartbeats 1000000 in
set_option maxRecDepth 100000 in
instance lidarref01_times_c (p0:List Int) (p1:List Int):Con (Ef p0 p1) Tryz.prog 74 (fun K vs=>∃ (A0_0:Option Addr) (c0_0:Nat) (A0_1:Option Addr) (c0_1:Nat),vs=[.slice (A0_0) ((p0).length) (c0_0),.slice (A0_1) ((p1).length) (c0_1)]/\Has K A0_0 (p0).length c0_0 1 Aq (p0)/\Has K A0_1 (p1).length c0_1 1 Aq (p1)/\True) (fun _ r=>fun v Ln=>∃ (A0:Option Addr) (c0:Nat),v = .slice (A0) ((r).length) (c0)/\Ln=[.r A0 (r).length c0 3 1 ((r).flatMap Aq)]/\True):=⟨by
 rintro K _ r ⟨A0_0,c0_0,A0_1,c0_1,rfl,ha0,ha1,-⟩ hx w hK;replace ha0:=Has.lo ha0 hK;replace ha1:=Has.lo ha1 hK;unfold Ef at hx;have:=dl 9 [0,0,0,1,0,0,0,1,0,0,0,0,0,0,1,0,0,0,2] [0,1,2,3,4,5,6,7,8,9,10,11,12,13,14,15,16,17,18];refine CtS Tryz.ntmps74 Tryz.results74 ?_;try (refine pre ?_;intros;rename_i hx)
 apply Jr (γ:=(Option Addr) × Nat) hx [] (fun s3 y3 f=>(5,.slice (y3.1) ((s3).length) (y3.2))::f) [999] (fun s3 y3 l=>.r (y3.1) ((s3).length) (y3.2) 3 1 ((s3).flatMap Aq)::l);exact kk
 ·intro s3 y3 hx;exact au
 ·intro _ hx;try (refine pre ?_;intros;rename_i hx)
  apply Lr (γ:=(Option Addr) × Nat) hx [0,1] (fun s0 y0 f=>(5,.slice (y0.1) ((s0.1).length) (y0.2))::(6,.int .i64 (s0.2))::f) [999] (fun s0 y0 l=>.r (y0.1) ((s0.1).length) (y0.2) 3 1 ((s0.1).flatMap Aq)::l) (_,_);exact kk;exact sk;intro s0 y0 x0 hx _;unfold Gl at hx
  try (refine pre ?_;intros;rename_i hx)
  refine Cq1 (s:=19) hx rfl (fun _ hx=>?_) (fun _ hx=>?_)
  ·try (refine pre ?_;intros;rename_i hx)
   refine Bn ?_;try (refine pre ?_;intros;rename_i hx)
   refine Bn ?_;try (refine pre ?_;intros;rename_i hx)
   apply Jr (γ:=(Option Addr) × Nat) hx [0,1,6] (fun s1 y1 f=>(5,.slice (y1.1) ((s1.1).length) (y1.2))::(7,.int .i64 (s1.2))::f) [999] (fun s1 y1 l=>.r (y1.1) ((s1.1).length) (y1.2) 3 1 ((s1.1).flatMap Aq)::l);exact kk
   ·intro s1 y1 hx;exact au
   ·intro _ hx;try (refine pre ?_;intros;rename_i hx)
    apply Lr (γ:=(Option Addr) × Nat) hx [0,1,6] (fun s2 y2 f=>(5,.slice (y2.1) ((s2.1).length) (y2.2))::(7,.int .i64 (s2.2.1))::(8,.int .i64 (s2.2.2))::f) [999] (fun s2 y2 l=>.r (y2.1) ((s2.1).length) (y2.2) 3 1 ((s2.1).flatMap Aq)::l) (_,_);exact kk;exact sk;intro s2 y2 x1 hx _;unfold Gk at hx
    exact au
  ·exact au⟩
set_option maxHeartbeats 1000000 in
set_option maxRecDepth 100000 in
instance Aal (p0:List Int) (p1:Int):Con (Hf p0 p1) Tryz.prog 210 (fun K vs=>∃ (A0_0:Option Addr) (c0_0:Nat),vs=[.slice (A0_0) ((p0).length) (c0_0),.int .i64 (p1)]/\Has K A0_0 (p0).length c0_0 1 Aq (p0)/\True) (fun _ r=>fun v Ln=>∃ (A0:Option Addr) (c0:Nat),v = .tuple #[.slice (A0) ((r.1).length) (c0),.int .i64 (r.2)]/\Ln=[.r A0 (r.1).length c0 3 1 ((r.1).flatMap Aq)]/\True):=⟨by
 rintro K _ r ⟨A0_0,c0_0,rfl,ha0,-⟩ hx w hK;replace ha0:=Has.lo ha0 hK;unfold Hf at hx;refine CtS Tryz.ntmps210 Tryz.results210 ?_;try (refine pre ?_;intros;rename_i hx)
 refine Bn ?_;try (refine pre ?_;intros;rename_i hx)
 apply Jr (γ:=(Option Addr) × Nat) hx [] (fun s4 y4 f=>(6,.slice (y4.1) ((s4.1).length) (y4.2))::(7,.int .i64 (s4.2))::f) [999] (fun s4 y4 l=>.r (y4.1) ((s4.1).length) (y4.2) 3 1 ((s4.1).flatMap Aq)::l);exact kk
 ·intro s4 y4 hx;exact au
 ·intro _ hx;try (refine pre ?_;intros;rename_i hx)
  apply Lr (γ:=(Option Addr) × Nat) hx [0,1] (fun s0 y0 f=>(6,.slice (y0.1) ((s0.1).length) (y0.2))::(7,.int .i64 (s0.2.1))::(8,.int .i64 (s0.2.2))::f) [999] (fun s0 y0 l=>.r (y0.1) ((s0.1).length) (y0.2) 3 1 ((s0.1).flatMap Aq)::l) (_,_);exact kk;exact sk;intro s0 y0 x0 hx _;unfold Lu at hx
  exact au⟩
theorem Ze (p0:List Int) (p1:Int) {K:List Ent} {A0_0:Option Addr} {c0_0:Nat} (ha0:Has K A0_0 (p0).length c0_0 1 Aq (p0)) {r:(List Int) × Int} (hx:Hf p0 p1=some r) (w:World) (hK:∀ e∈K,Ent.ok w e):CtL Tryz.prog 210 [.slice (A0_0) ((p0).length) (c0_0),.int .i64 (p1)] w fun v Ln=>∃ (A0:Option Addr) (c0:Nat),v = .tuple #[.slice (A0) ((r.1).length) (c0),.int .i64 (r.2)]/\Ln=[.r A0 (r.1).length c0 3 1 ((r.1).flatMap Aq)]/\True:=(Aal p0 p1).h K _ _ ⟨_,_,rfl,ha0,trivial⟩ hx w hK
set_option maxRecDepth 100000 in
theorem Ld (p0:List Int) (p1:List Int) {K:List Ent} {A0_0:Option Addr} {c0_0:Nat} {A0_1:Option Addr} {c0_1:Nat} (ha0:Has K A0_0 p0.length c0_0 1 Aq (p0)) (ha1:Has K A0_1 p1.length c0_1 1 Aq (p1)) {r:(List Int) × (List Int)} (hx:Er p0 p1=some r) (w:World) (hK:∀ e∈K,Ent.ok w e):CtL Tryz.prog 130 [.slice (A0_0) (p0.length) (c0_0),.slice (A0_1) (p1.length) (c0_1)] w fun v Ln=>∃ (A0:Option Addr) (c0:Nat) (A2:Option Addr) (c2:Nat) (e0:Ent),v = .tuple #[.slice (A0) (r.1.length) (c0),.slice (A2) (r.2.length) (c2)]/\Ln=[.r A0 r.1.length c0 3 1 (r.1.flatMap Aq),e0]/\Has (K++[e0]) A2 r.2.length c2 1 Aq (r.2)/\True:=by
 have ha0':=Has.up0 ha0;have ha1':=Has.up0 ha1;refine CtL.mk 156 Tryz.func130 rfl Tryz.ntmps130 (by kernel_rfl) rfl ?_;show T 156 _ [(0,.slice (A0_0) (p0.length) (c0_0)),(1,.slice (A0_1) (p1.length) (c0_1))] _;unfold Er at hx;refine Y11 ?_;obtain ⟨r1,h2,hx3⟩:=Ar hx;refine Tc (fun w1 hw1=>Wz p0 p1 (Has.len' ha0') (Has.len' ha1') h2 w1 (Qj (K:=K) (K2:=[]) hK (by exact (sb 0)) (by exact (SubE.nil)) hw1)) ?_;refine Y3 ?_;refine Ti hx3 (s:=22) rfl (fun h4 hx5=>?_) (fun h4 hx6=>?_)
 ·refine Y10 ?_;refine Az 3 1 ?_;refine Az 0 1 ?_;obtain rfl:=Option.some.inj hx5;exact Hc (rs:=[.tmp 4,.tmp 5]) Tryz.results130 (.tmp rfl (.tmp rfl (.nil))) (Ln:=[.r (none) (0) (0) 3 1 ((([]:List Int)).flatMap Aq),.r none 0 0 0 1 []]) ⟨none,0,A0_0,c0_0,(.r none 0 0 0 1 []),rfl,rfl,Has.len' (Has.up (L:=(K++[.r none 0 0 0 1 []])) ha0' (SubE.app2 SubE.nil)),trivial⟩ (By rfl (By rfl (Gn))) (by exact .pick 1 rfl (.pick 0 rfl (.refl)))
 ·refine Y7 ?_;refine Ba (Jq rfl 3 Tryz.underlying48) rfl ?_;refine Y3 ?_;refine Ti hx6 (s:=26) rfl (fun h7 hx8=>?_) (fun h7 hx0=>?_)
  ·refine Y5 ?_;obtain ⟨x9,h0,hx1⟩:=Ar hx8;have hw0:=Has.low (E:=[]) ha1' hK;obtain ⟨b0,o0,j0,hA0,hj0,hl0,hp0⟩:=Has.at_idx hw0 h0;refine Ba (Fw rfl rfl hA0 (j:=j0) hj0 hl0 Ws) rfl ?_;refine Ba (Dy rfl hp0 (sb 0) rfl one3) rfl ?_;obtain ⟨r0,h1,hx2⟩:=Ar hx1;refine T_x (Ei rfl (fun w1 hw1=>Ze p0 x9 (Has.len' ha0') h1 w1 (Qj (K:=K) (K2:=[]) hK (by exact (sb 0)) (by exact (SubE.nil)) hw1)) rfl ?_);rintro _ _ hlo ⟨A1,c1,rfl,rfl,-⟩;refine Xt ?_;refine Y11 ?_;obtain ⟨r2,h3,hx4⟩:=Ar hx2;refine T_x (Ei rfl (fun w1 hw1=>Zd r0.2  h3 w1) rfl ?_);rintro _ _ hlo ⟨A3,c3,rfl,rfl,-⟩;refine Xt ?_;refine Ba (Agt rfl (Ac5 _ _ _ _)) rfl ?_;refine Y6 ?_;refine Aic (k:=0) rfl (by decide) (fun _=>rfl) (fun hn0 hs0=>?_);obtain rfl:=Option.some.inj hx4;exact Hc (rs:=[.tmp 4,.tmp 5]) Tryz.results130 (.tmp rfl (.tmp rfl (.nil))) (Ln:=[.r (A1) (r0.1.length) (c1) 3 1 (r0.1.flatMap Aq),.r (A3) (r2.L.length) (c3) 3 1 (r2.L.flatMap Aq)]) ⟨A1,c1,A3,c3,(.r (A3) (r2.L.length) (c3) 3 1 (r2.L.flatMap Aq)),rfl,rfl,Has.len' (Has.up (L:=(K++[.r (A3) (r2.L.length) (c3) 3 1 (r2.L.flatMap Aq)])) hs0 (SubE.appR2 (sb 0))),trivial⟩ (By rfl (By rfl (Gn))) (by exact .pick 1 rfl (.pick 0 rfl (.refl)))
  ·refine Y5 ?_;exact Anv hx0
set_option maxHeartbeats 1000000 in
set_option maxRecDepth 100000 in
instance lidarref01_divide_c (p0:List Int) (p1:List Int):ConB (Er p0 p1) Tryz.prog 130 (fun K vs=>∃ (A0_0:Option Addr) (c0_0:Nat) (A0_1:Option Addr) (c0_1:Nat),vs=[.slice (A0_0) ((p0).length) (c0_0),.slice (A0_1) ((p1).length) (c0_1)]/\Has K A0_0 (p0).length c0_0 1 Aq (p0)/\Has K A0_1 (p1).length c0_1 1 Aq (p1)/\True) (fun K r=>fun v Ln=>∃ (A0:Option Addr) (c0:Nat) (A2:Option Addr) (c2:Nat) (e:Ent),v = .tuple #[.slice (A0) ((r.1).length) (c0),.slice (A2) ((r.2).length) (c2)]/\Ln=[e]/\Has (K++[e]) A0 (r.1).length c0 1 Aq (r.1)/\Has (K++[e]) A2 (r.2).length c2 1 Aq (r.2)/\True):=⟨by
 rintro K _ r ⟨A0_0,c0_0,A0_1,c0_1,rfl,ha0,ha1,-⟩ hx w hK;exact CtL.bunB (Ld p0 p1 ha0 ha1 hx w hK) (by
  rintro _ _ w1 hw ⟨_,_,_,_,_,rfl,rfl,_,-⟩
  exact ⟨_,_,_,_,_,rfl,rfl,hZ hw,hZ hw,trivial⟩)⟩
set_option maxRecDepth 100000 in
theorem Tz (p0:List Int) (p1:List Int) {K:List Ent} {A0_0:Option Addr} {c0_0:Nat} {A0_1:Option Addr} {c0_1:Nat} (ha0:Has K A0_0 p0.length c0_0 1 Aq (p0)) (ha1:Has K A0_1 p1.length c0_1 1 Aq (p1)) {r:List Int} (hx:Mh p0 p1=some r) (w:World) (hK:∀ e∈K,Ent.ok w e):CtL Tryz.prog 129 [.slice (A0_0) (p0.length) (c0_0),.slice (A0_1) (p1.length) (c0_1)] w fun v Ln=>∃ (A0:Option Addr) (c0:Nat) (e0:Ent),v = .slice (A0) (r.length) (c0)/\Ln=[e0]/\Has (K++[e0]) A0 r.length c0 1 Aq (r)/\True:=by
 have ha0':=Has.up0 ha0;have ha1':=Has.up0 ha1;refine CtL.mk 19 Tryz.func129 rfl Tryz.ntmps129 (by kernel_rfl) rfl ?_;show T 19 _ [(0,.slice (A0_0) (p0.length) (c0_0)),(1,.slice (A0_1) (p1.length) (c0_1))] _;unfold Mh at hx;refine Y5 ?_;obtain ⟨j2,hj2,hx⟩:=Abi hx;refine Xs (τ:=List Int) (γ:=(Option Addr) × Nat × Ent) (J:=j2) (out:=r) (fun s2 y2=>[(0,.slice (y2.1) (s2.length) (y2.2.1))]) (fun s2 y2=>[y2.2.2]++[.old w]) (fun s2 y2=>y2.2.2.low=0/\Has (K++[y2.2.2]) (y2.1) (s2.length) (y2.2.1) 1 Aq (s2)/\True) ?_ ?_
 ·intro s2 y2 hx0 hG0;obtain ⟨lo57,hs0,-⟩:=hG0;subst hj2;refine Y7 ?_;obtain rfl:=Option.some.inj hx0;exact Hc (rs:=[.tmp 4]) Tryz.results129 (.tmp rfl (.nil)) (Ln:=[y2.2.2]) ⟨y2.1,y2.2.1,y2.2.2,rfl,rfl,Has.len' hs0,trivial⟩ (By lo57 (Gn)) (by exact .pick 0 rfl (.refl))
 ·skip;refine Y ?_;obtain ⟨t0,hl0,ho0⟩:=Ar hx;refine Az 0 1 ?_;refine Lp (σ:=(List Int) × (List Int)) (γ:=(Option Addr) × Nat × Ent × (Option Addr) × Nat) hl0 (fun s0 y0=>[(0,.slice (y0.1) (s0.1.length) (y0.2.1)),(1,.slice (y0.2.2.2.1) (s0.2.length) (y0.2.2.2.2))]) (fun s0 y0=>[y0.2.2.1]++[.old w]) (fun s0 y0=>y0.2.2.1.low=0/\Has (K++[y0.2.2.1]) (y0.1) (s0.1.length) (y0.2.1) 1 Aq (s0.1)/\Has (K++[y0.2.2.1]) (y0.2.2.2.1) (s0.2.length) (y0.2.2.2.2) 1 Aq (s0.2)/\True) (A0_0,c0_0,.r none 0 0 0 1 [],A0_1,c0_1) ((by exact ⟨rfl,Has.len' ((Has.up (L:=(K++[.r none 0 0 0 1 []])) ha0' (SubE.app2 SubE.nil))),Has.len' ((Has.up (L:=(K++[.r none 0 0 0 1 []])) ha1' (SubE.app2 SubE.nil))),trivial⟩)) (by exact .pick 0 rfl (.refl)) ?_;intro s0 y0 hG1 x0 hx1 ht0;unfold Ic at hx1;obtain ⟨lo38,hs1,hs2,-⟩:=hG1;refine Y4 ?_;refine Ba (Jq rfl 3 Tryz.underlying48) rfl ?_;refine Y3 ?_;refine Ti hx1 (s:=9) rfl (fun h0 hx2=>?_) (fun h0 hx3=>?_)
  ·refine Y8 ?_;obtain ⟨r0,h1,hx4⟩:=Ar hx2;refine T_x (Ei rfl (fun w1 hw1=>Ld s0.1 s0.2 (Has.len' hs1) (Has.len' hs2) h1 w1 (Qj (K:=K) (K2:=[y0.2.2.1]) hK (by exact (sb 1)) (by exact (sb 0)) hw1)) rfl ?_);rintro _ _ hlo ⟨A1,c1,A2,c2,e1,rfl,rfl,hs3,-⟩;have lo53:=hlo e1 (by simp);refine Td ?_;have hs4:Has (K++[y0.2.2.1,e1]) _ _ _ _ _ _:=Has.assoc hs3;(iterate 14 refine Y ?_);refine Ajz (es:=[y0.2.2.1,e1]) (by exact .pick 2 rfl (.pick 1 rfl (.refl))) (By lo38 (By lo53 (Gn))) ?_;exact Rp (s0.2,r0.2) (y0.2.2.2.1,y0.2.2.2.2,bun [y0.2.2.1,e1],A2,c2) hx4 ((by exact ⟨rfl,Has.len' ((Has.up (L:=(K++[(bun [y0.2.2.1,e1])])) hs2 (SubE.app2 (SubE.consB (i:=0) (j:=0) rfl rfl (SubE.nil))))),Has.len' ((Has.up (L:=(K++[(bun [y0.2.2.1,e1])])) hs4 (SubE.app2 (SubE.consB (i:=0) (j:=0) rfl rfl (SubE.consB (i:=0) (j:=1) rfl rfl (SubE.nil)))))),trivial⟩)) (by exact .pick 0 rfl (.drop 0 rfl (.refl)))
  ·refine Y3 ?_;obtain rfl:=Lc ht0 hx3;refine Y2 ?_;exact Mt s0.1 (y0.1,y0.2.1,y0.2.2.1) ho0 ((by exact ⟨lo38,Has.len' hs1,trivial⟩)) (by exact .pick 0 rfl (.refl))
set_option maxRecDepth 100000 in
instance lidarref01_gcd_c (p0:List Int) (p1:List Int):ConB (Mh p0 p1) Tryz.prog 129 (fun K vs=>∃ (A0_0:Option Addr) (c0_0:Nat) (A0_1:Option Addr) (c0_1:Nat),vs=[.slice (A0_0) ((p0).length) (c0_0),.slice (A0_1) ((p1).length) (c0_1)]/\Has K A0_0 (p0).length c0_0 1 Aq (p0)/\Has K A0_1 (p1).length c0_1 1 Aq (p1)/\True) (fun K r=>fun v Ln=>∃ (A0:Option Addr) (c0:Nat) (e:Ent),v = .slice (A0) ((r).length) (c0)/\Ln=[e]/\Has (K++[e]) A0 (r).length c0 1 Aq (r)/\True):=⟨by
 rintro K _ r ⟨A0_0,c0_0,A0_1,c0_1,rfl,ha0,ha1,-⟩ hx w hK;exact CtL.bunB (Tz p0 p1 ha0 ha1 hx w hK) (by
  rintro _ _ w1 hw ⟨_,_,_,rfl,rfl,_,-⟩
  exact ⟨_,_,_,rfl,rfl,hZ hw,trivial⟩)⟩
end Go.Proofs.YtjfndjmabhbicaaGreat
