/- Walks of the program, with their plain functions: points by their Ids. -/
import Derived.Test.YtbkobeeileemjaaGreatD5
import Derived.Test.YtbkobeeileemjaaGreatSort2
namespace Go.Proofs.YtbkobeeileemjaaGreat
open Go Go.RowKit
set_option maxRecDepth 100000

noncomputable def Nz (p0:Aa) (p1:Aa):Option Int :=
 some (w64 (p0.Id-p1.Id))
instance Aea (p0:Aa) (p1:Aa):Con (Nz p0 p1) Tryz.prog 206 (fun _ vs=>vs=[.agg #[.int .i64 (p0.Id),.int .i64 (p0.X),.int .i64 (p0.Y),.int .i64 (p0.Z.Lo),.int .i64 (p0.Z.Hi),.int .i64 (p0.Wide),.int .i64 (p0.Num),.int .i64 (p0.Of),.int .i64 (p0.Class)],.agg #[.int .i64 (p1.Id),.int .i64 (p1.X),.int .i64 (p1.Y),.int .i64 (p1.Z.Lo),.int .i64 (p1.Z.Hi),.int .i64 (p1.Wide),.int .i64 (p1.Num),.int .i64 (p1.Of),.int .i64 (p1.Class)]]) (fun _ r=>fun v Ln=>v = .int .i64 (r)∧Ln=[]∧True):=⟨by
 rintro _ _ r rfl hx w hK;unfold Nz at hx;refine CtS Tryz.ntmps206 Tryz.results206 ?_;exact au⟩
theorem Adc (p0:Aa) (p1:Aa)  {r:Int} (hx:Nz p0 p1=some r) (w:World):CtL Tryz.prog 206 [.agg #[.int .i64 (p0.Id),.int .i64 (p0.X),.int .i64 (p0.Y),.int .i64 (p0.Z.Lo),.int .i64 (p0.Z.Hi),.int .i64 (p0.Wide),.int .i64 (p0.Num),.int .i64 (p0.Of),.int .i64 (p0.Class)],.agg #[.int .i64 (p1.Id),.int .i64 (p1.X),.int .i64 (p1.Y),.int .i64 (p1.Z.Lo),.int .i64 (p1.Z.Hi),.int .i64 (p1.Wide),.int .i64 (p1.Num),.int .i64 (p1.Of),.int .i64 (p1.Class)]] w fun v Ln=>v = .int .i64 (r)∧Ln=[]∧True:=(Aea p0 p1).h [] _ _ rfl hx w (fun _ h=>absurd h List.not_mem_nil)
end Go.Proofs.YtbkobeeileemjaaGreat
/- Points, sorted by their Ids. -/
namespace Go.Proofs.YtbkobeeileemjaaGreat
open Go Go.RowKit Go.Shelf Go.Lib Go.Sort
def Aja (l:List Aa):Prop:=(l.map (·.Id)).Nodup∧∀ x∈l,0≤x.Id∧x.Id≤1152921504606846976
/-- A point of a list whose Ids are distinct. -/
def ptIn (l:List Aa) (x:Aa):Prop:=x∈l∧Aja l
noncomputable instance (l:List Aa) (x:Aa):Decidable (ptIn l x):=Classical.propDecidable _
def Bn (x y:Aa):Int:=x.Id-y.Id
theorem Aok {l:List Aa} (h:(l.map (·.Id)).Nodup) {x y:Aa} (hx:x∈l) (hy:y∈l) (e:x.Id=y.Id):x=y:=by
 obtain ⟨i,hi,rfl⟩:=List.getElem_of_mem hx
 obtain ⟨j,hj,rfl⟩:=List.getElem_of_mem hy
 have:=List.pairwise_iff_getElem.1 (List.pairwise_map.1 h)
 rcases Nat.lt_trichotomy i j with g | g | g
 ·exact absurd e (this i j hi hj g)
 ·subst g;rfl
 ·exact absurd e.symm (this j i hj hi g)
theorem totP (l:List Aa):Xg (ptIn l) Bn where
 irr x _:=by unfold Bn;omega
 trans x y z _ _ _ h1 h2:=by unfold Bn at *;omega
 tot x y hx hy h1 h2:=Aok hx.2.1 hx.1 hy.1 (by unfold Bn at h1 h2;omega)
theorem Aol {l:List Aa} {x y:Aa} (hx:ptIn l x) (hy:ptIn l y):Nz x y=some (Bn x y):=by
 have h1:=hx.2.2 x hx.1
 have h2:=hy.2.2 y hy.1
 unfold Nz Bn
 rw [Bp (by omega) (by omega)]
theorem Aby (l:List Aa) (hb:l.length≤1000000000) (hp:∀ x∈l,ptIn l x) {A:Option Addr} {m c:Nat} {t:TypeId} {gf:Nat} {cb:Array Value} (w:World) (hok:Ent.ok w (.r A m c t 9 (l.flatMap Af)))
  (hcmp:Ada Tryz.prog (ptIn l) Bn (fun x=>.agg #[.int .i64 x.Id,.int .i64 x.X,.int .i64 x.Y,.int .i64 x.Z.Lo,.int .i64 x.Z.Hi,.int .i64 x.Wide,.int .i64 x.Num,.int .i64 x.Of,.int .i64 x.Class]) A m c t 9 gf cb w (l.flatMap Af)) (eg:Uh Tryz.prog gf):Ac9 Tryz.prog 92 A m c t 9 gf cb w (l.flatMap Af) ((Ar Bn l).flatMap Af) :=
 Abw (ρ:=Tryz.laysSortP_ren) Tryz.laysSortP (k:=9) Tryz.isAgg66 Tryz.sizeOf66 (enc:=Af) (fun _=>rfl) (by decide) (fun x v hv=>by simp [Af] at hv;rcases hv with rfl | rfl | rfl | rfl | rfl | rfl | rfl | rfl | rfl <;> rfl) (totP l) (Aay eg) l hb hp w hok hcmp
end Go.Proofs.YtbkobeeileemjaaGreat
/- Walks of the program, with their plain functions: the mesh of points. -/
namespace Go.Proofs.YtbkobeeileemjaaGreat
open Go Go.RowKit
set_option maxRecDepth 100000
set_option maxHeartbeats 1000000
theorem Yb (x0:Int) (x1:Int) (x2:Int) (x3:Int):Gd Tryz.prog 34 [(0,.int .i64 x0),(1,.int .i64 x1),(2,.agg #[.int .i64 x2,.int .i64 x3])] [.int .i64 x0,.int .i64 x1,.int .i64 x2,.int .i64 x3]:=fun w=>by kernel_rfl
instance (x0:Int) (x1:Int) (x2:Int) (x3:Int):Kb Tryz.prog 34 [(0,.int .i64 x0),(1,.int .i64 x1),(2,.agg #[.int .i64 x2,.int .i64 x3])] [.int .i64 x0,.int .i64 x1,.int .i64 x2,.int .i64 x3]:=⟨Yb _ _ _ _⟩
theorem Yc (x0:Int) (x1:Int) (x2:Int) (x3:Int):Cx Tryz.prog 22 1 [(0,.agg #[.int .i64 x0,.int .i64 x1,.int .i64 x2,.int .i64 x3])] 34 [.int .i64 x0,.int .i64 x1,.int .i64 x2,.int .i64 x3]:=fun w=>by kernel_rfl
instance (x0:Int) (x1:Int) (x2:Int) (x3:Int):Hl Tryz.prog 22 1 [(0,.agg #[.int .i64 x0,.int .i64 x1,.int .i64 x2,.int .i64 x3])] 34 [.int .i64 x0,.int .i64 x1,.int .i64 x2,.int .i64 x3]:=⟨Yc _ _ _ _⟩
instance:UndI Tryz.prog 228 (.map 3 66):=⟨Tryz.underlying228⟩
instance:MkI Tryz.prog 47 66 9 72 Af ((⟨0,0,0,(⟨0,0⟩:Br),0,0,0,0⟩:Aa)):=⟨Tryz.t66,.agg #[.int .i64 (0),.int .i64 (0),.int .i64 (0),.int .i64 (0),.int .i64 (0),.int .i64 (0),.int .i64 (0),.int .i64 (0),.int .i64 (0)],Tryz.underlying47,by kernel_rfl,by kernel_rfl,rfl,by kernel_rfl,by kernel_rfl⟩
noncomputable def Mc (p0:List Aa):((List (Int × Aa)) × Int)→Option (Sum ((List (Int × Aa)) × Int) (List (Int × Aa))):=fun s0 =>
 if s0.2 < ((((p0).length:Nat):Int)) then (bnd (idx p0 s0.2) fun x0 =>
 gd ((-9223372036854775808≤x0.Id∧x0.Id≤9223372036854775807)) <|
 gd ((s0.1).length < 9223372036854775807) <|
 some (.inl (mput s0.1 x0.Id x0,w64 (s0.2+1))))
 else (some (.inr s0.1))
noncomputable def Jo (p1:List Int):((List (Int × Aa)) × (List Aa) × Int)→Option (Sum ((List (Int × Aa)) × (List Aa) × Int) (Sum (List Aa) ((List Aa) × Bool))):=fun s0 =>
 if s0.2.2 < ((((p1).length:Nat):Int)) then (bnd (idx p1 s0.2.2) fun x0 =>
 gd ((-9223372036854775808≤x0∧x0≤9223372036854775807)) <|
 bnd (some ((mget s0.1 x0).getD ((⟨0,0,0,(⟨0,0⟩:Br),0,0,0,0⟩:Aa)))) fun x1 =>
 if ((mget s0.1 x0).isSome)=true then (gd ((-9223372036854775808≤x0∧x0≤9223372036854775807)) <|
 gd (((s0.2.1).length+1)*72≤140737488355328) <|
 some (.inl (mdel s0.1 x0,s0.2.1++[x1],w64 (s0.2.2+1))))
 else (some (.inr (.inr (([]:List Aa),false)))))
 else (some (.inr (.inl s0.2.1)))
noncomputable def Ol (p0:List Aa) (p1:List Int):Option ((List Aa) × Bool) :=
 jn (fun (s3:List (Int × Aa)) =>
 gd ((0:Int)≤((((p1).length:Nat):Int))∧72*Int.toNat ((((p1).length:Nat):Int))≤140737488355328) <|
 jn (fun (s0:List Aa) =>
 gd ((s0).length≤1000000000∧(∀ x∈s0,(ptIn s0) x)) <|
 some (Ar Bn s0,true))
 (fun j0=>bnd (lfix (Jo p1) (s3,([]:List Aa),0)) fun t0 =>
 (match t0 with
 | (.inl z0)=>j0 z0
 | (.inr (z0))=>some z0
 )))
 (fun j3=>bnd (lfix (Mc p0) (([]:List (Int × Aa)),0)) fun t1 =>
 j3 t1)
instance:MkI Tryz.prog 22 34 4 32 Al ((⟨0,0,(⟨0,0⟩:Br)⟩:Ae)):=⟨Tryz.t34,.agg #[.int .i64 (0),.int .i64 (0),.int .i64 (0),.int .i64 (0)],Tryz.underlying22,by kernel_rfl,by kernel_rfl,rfl,by kernel_rfl,by kernel_rfl⟩
noncomputable def Oa (p0:List Aa):((List Ae) × Int)→Option (Sum ((List Ae) × Int) (List Ae)):=fun s0 =>
 if s0.2 < ((((p0).length:Nat):Int)) then (bnd (idx p0 s0.2) fun x0 =>
 gd (((s0.1).length+1)*32≤140737488355328) <|
 some (.inl (s0.1++[(⟨x0.X,x0.Y,x0.Z⟩:Ae)],w64 (s0.2+1))))
 else (some (.inr s0.1))
noncomputable def Ob (p0:List Aa):Option (Bg × Int) :=
 gd ((0:Int)≤((((p0).length:Nat):Int))∧32*Int.toNat ((((p0).length:Nat):Int))≤140737488355328) <|
 jn (fun (s3:List Ae) =>
 bnd (Nv s3 ([]:List Ac)) fun r0 =>
 if r0.2=0 then (some (r0.1,0))
 else (some ((⟨([]:List Ae),([]:List Aw),([]:List Ac)⟩:Bg),11)))
 (fun j3=>bnd (lfix (Oa p0) (([]:List Ae),0)) fun t0 =>
 j3 t0)
noncomputable def Fh (p0:List Aa) (p1:List Int):Option (Bg × Int) :=
 bnd (Ol p0 p1) fun r2 =>
 if r2.2=true then (bnd (Ob r2.1) fun r0 =>
 some (r0.1,r0.2))
 else (some ((⟨([]:List Ae),([]:List Aw),([]:List Ac)⟩:Bg),2))
theorem Aft (p0:List Aa) (p1:List Int) {K:List Ent} {A0_0:Option Addr} {c0_0:Nat} {A0_1:Option Addr} {c0_1:Nat} (ha0:Has K A0_0 p0.length c0_0 9 Af (p0)) (ha1:Has K A0_1 p1.length c0_1 1 Bd (p1)) {r:(List Aa) × Bool} (hx:Ol p0 p1=some r) (w:World) (hK:∀ e∈K,Ent.ok w e):CtL Tryz.prog 133 [.slice (A0_0) (p0.length) (c0_0),.slice (A0_1) (p1.length) (c0_1)] w fun v Ln=>∃ (A0:Option Addr) (c0:Nat),v = .tuple #[.slice (A0) (r.1.length) (c0),.bool (r.2)]∧Ln=[.r A0 r.1.length c0 66 9 (r.1.flatMap Af)]∧True:=by
 have ha0':=Has.up0 ha0;have ha1':=Has.up0 ha1;refine CtL.mk 55 Tryz.func133 rfl Tryz.ntmps133 (by kernel_rfl) rfl ?_;show T 55 _ [(0,.slice (A0_0) (p0.length) (c0_0)),(1,.slice (A0_1) (p1.length) (c0_1))] _;unfold Ol at hx;refine Y9 ?_;refine Aj (Cb rfl 66 Tryz.underlying47) rfl ?_;refine T_x (Xq Tryz.prog 3 Bx Cu Tryz.underlying228 rfl rfl (fun g1=>?_));refine Y3 ?_;refine Tj (γ:=Unit) hx (fun s3 y3=>[(1,.slice (A0_1) (p1.length) (c0_1)),(6,.map (some g1))]) (fun s3 y3=>[Bc Tryz.prog 3 Bx Cu g1 (s3)]++[.old w]) (fun s3 y3=>True) (fun s3 y3 hx0 hG0=>?_) (fun j3 hx=>?_)
 ·refine Y3 ?_;refine Aj (Cb rfl 3 Tryz.underlying48) rfl ?_;obtain ⟨h0,hx1⟩:=Bh hx0;refine T_x (Aiz (sz:=9) (z:=.agg #[.int .i64 (0),.int .i64 (0),.int .i64 (0),.int .i64 (0),.int .i64 (0),.int .i64 (0),.int .i64 (0),.int .i64 (0),.int .i64 (0)]) Af (⟨0,0,0,(⟨0,0⟩:Br),0,0,0,0⟩:Aa) rfl rfl rfl h0.1 Tryz.underlying47 (show Tryz.prog.info? 66=some Tryz.t66 from by kernel_rfl) (by kernel_rfl) (by rfl) (by kernel_rfl) (by decide) (fun _=>rfl) (show 72*_≤_ from h0.2) (by decide) rfl (fun A1 c1=>?_));refine Y3 ?_;refine Tj (γ:=(Option Addr) × Nat) hx1 (fun s0 y0=>[(9,.slice (y0.1) (s0.length) (y0.2))]) (fun s0 y0=>[.r (y0.1) (s0.length) (y0.2) 66 9 (s0.flatMap Af)]++[.old w]) (fun s0 y0=>True) (fun s0 y0 hx2 hG1=>?_) (fun j0 hx1=>?_)
  ·refine Y3 ?_;obtain ⟨h1,hx3⟩:=Bh hx2;refine T_h (St (p:=(ptIn s0)) (arg:=fun x=>.agg #[.int .i64 (x.Id),.int .i64 (x.X),.int .i64 (x.Y),.int .i64 (x.Z.Lo),.int .i64 (x.Z.Hi),.int .i64 (x.Wide),.int .i64 (x.Num),.int .i64 (x.Of),.int .i64 (x.Class)]) (cf:=Bn) s0 (by exact ⟨_,Tryz.func92,rfl,rfl⟩) (fun w hok hcm=>Aby s0 h1.1 h1.2 w hok hcm ⟨_,Tryz.func206,rfl,rfl⟩) (fun ys=>[.r (y0.1) (s0.length) (y0.2) 66 9 ys]++[.old w]) (fun ys=>by exact .here) (fun ys W hW x y px py=>⟨[.agg #[.int .i64 (x.Id),.int .i64 (x.X),.int .i64 (x.Y),.int .i64 (x.Z.Lo),.int .i64 (x.Z.Hi),.int .i64 (x.Wide),.int .i64 (x.Num),.int .i64 (x.Of),.int .i64 (x.Class)],.agg #[.int .i64 (y.Id),.int .i64 (y.X),.int .i64 (y.Y),.int .i64 (y.Z.Lo),.int .i64 (y.Z.Hi),.int .i64 (y.Wide),.int .i64 (y.Num),.int .i64 (y.Of),.int .i64 (y.Class)]],rfl,Adc x y  (Aol px py) W⟩) rfl rfl rfl ?_);refine Y10 ?_;have hn0:s0.length=(Ar Bn s0).length:=(by rw [Dg]);refine En (.here) (e':=.r (y0.1) ((Ar Bn s0).length) (y0.2) 66 9 ((Ar Bn s0).flatMap Af)) (by first | (rw [← hn0];done) | rfl) ?_;refine Ec (s:=4) (v':=.slice (y0.1) ((Ar Bn s0).length) (y0.2)) rfl (by have hn1:(s0.length)=(Ar Bn s0).length:=(by rw [Dg]);first | (rw [← hn1];done) | rfl) ?_;obtain rfl:=Option.some.inj hx3;exact Bq (rs:=[.tmp 4,.tmp 5]) Tryz.results133 (.tmp rfl (.tmp rfl (.nil))) (Ln:=[.r (y0.1) ((Ar Bn s0).length) (y0.2) 66 9 ((Ar Bn s0).flatMap Af)]) ⟨y0.1,y0.2,rfl,rfl,trivial⟩ (Ba rfl (Bw)) (by exact .pick 0 rfl (.refl))
  ·refine Y3 ?_;refine Aj (Cb rfl 3 Tryz.underlying48) rfl ?_;refine Y4 ?_;obtain ⟨t0,hl0,ho0⟩:=Ad hx1
   have hn2:0=(([]:List Aa)).length:=by simp [Bo,Ch,List.length_append] <;> omega
   refine En (.here) (e':=.r (A1) ((([]:List Aa)).length) (c1) 66 9 ((([]:List Aa)).flatMap Af)) (by first | (rw [← hn2];done) | rfl) ?_;refine Ec (s:=9) (v':=.slice (A1) ((([]:List Aa)).length) (c1)) rfl (by have hn3:(0)=(([]:List Aa)).length:=(by simp [Bo,Ch,List.length_append] <;> omega);first | (rw [← hn3];done) | rfl) ?_;refine Lp (σ:=(List (Int × Aa)) × (List Aa) × Int) (γ:=(Option Addr) × Nat) hl0 (fun s1 y1=>[(6,.map (some g1)),(9,.slice (y1.1) (s1.2.1.length) (y1.2)),(31,.slice (A0_1) (p1.length) (c0_1)),(32,.int .i64 (((p1.length:Nat):Int))),(33,.int .i64 (s1.2.2))]) (fun s1 y1=>[.r (y1.1) (s1.2.1.length) (y1.2) 66 9 (s1.2.1.flatMap Af),Bc Tryz.prog 3 Bx Cu g1 (s1.1)]++[.old w]) (fun s1 y1=>True) (A1,c1) trivial (by exact .pick 0 rfl (.pick 0 rfl (.refl))) ?_;intro s1 y1 hG2 x0 hx4 ht0;unfold Jo at hx4;refine Y6 ?_;refine Ti hx4 (s:=34) rfl (fun h2 hx5=>?_) (fun h2 hx6=>?_)
   ·refine Y7 ?_;obtain ⟨x1,h3,hx7⟩:=Ad hx5;have hw0:=Has.low (E:=[]) ha1' hK;obtain ⟨b0,o0,j1,hA0,hj0,hl1,hp0⟩:=Has.at_idx hw0 h3;refine Aj (Be rfl rfl hA0 (j:=j1) hj0 hl1 Jq) rfl ?_;refine Aj (Ce rfl hp0 (sb 2) rfl one3) rfl ?_;refine Y7 ?_;obtain ⟨h4,hx8⟩:=Bh hx7;obtain ⟨x2,h5,hx9⟩:=Ad hx8;refine Aj (Ka (x:=x1) (i:=1) (vv:=.agg #[.int .i64 (x2.Id),.int .i64 (x2.X),.int .i64 (x2.Y),.int .i64 (x2.Z.Lo),.int .i64 (x2.Z.Hi),.int .i64 (x2.Wide),.int .i64 (x2.Num),.int .i64 (x2.Of),.int .i64 (x2.Class)]) key3 Tryz.underlying228 (fun w=>by kernel_rfl) Fw rfl rfl rfl rfl Ez (isk3 x1 h4) h5 rfl) rfl ?_;refine Y3 ?_;refine T_x (Bj Mz rfl (fun g0=>?_));refine T_h (Ay rfl rfl rfl (.here) (.put (.put (.put (.put (.put (.put (.put (.put (.put (.done)))))))))) rfl (List.cons_ne_nil _ _) Cy.2 ?_);refine Y10 ?_;refine Fm (s:=44) rfl (fun h6=>?_) (fun h6=>?_)
    ·have hx10:=Db h6 hx9;refine Y11 ?_;obtain rfl:=Cq ht0 hx10;refine Y3 ?_;refine Bt 66 9 ?_;obtain rfl:=Option.some.inj ho0;exact Bq (rs:=[.tmp 4,.tmp 5]) Tryz.results133 (.tmp rfl (.tmp rfl (.nil))) (Ln:=[.r (none) (0) (0) 66 9 ((([]:List Aa)).flatMap Af)]) ⟨none,0,rfl,rfl,trivial⟩ (Ba rfl (Bw)) (by exact .pick 0 rfl (.drop 0 rfl (.drop 0 rfl (.drop 0 rfl (.refl)))))
    ·have hx11:=Cp h6 hx9;refine Y7 ?_;obtain ⟨h7,hx12⟩:=Bh hx11;refine T_h (Uj (x:=x1) key3 Fw Tryz.underlying228 rfl rfl rfl (.there (.there (.here))) (isk3 x1 h7) ?_);refine Y4 ?_;refine Aj (Az rfl (i:=0) rfl rfl Cy) rfl ?_;refine T_x (Bv rfl (Ci _ _ _ _ _ _ _ _ _) rfl (fun g2=>?_));obtain ⟨h8,hx13⟩:=Bh hx12;refine T_h (Dv Af (s1.2.1) [x2] rfl rfl rfl Ag0 (fun _=>rfl) (i':=0) rfl rfl rfl rfl h8 rfl (fun _ _=>.there (.there (.here))) (fun _ _=>.drop .refl) (by decide) (fun A2 c2=>?_));refine Y8 ?_;exact Ru (mdel s1.1 x1,s1.2.1++[x2],w64 (s1.2.2+1)) (A2,c2) hx13 trivial
   ·refine Y3 ?_;obtain rfl:=Cq ht0 hx6;refine Y2 ?_;exact Mu s1.2.1 (y1.1,y1.2) ho0 trivial
 ·refine Y3 ?_;refine Aj (Cb rfl 66 Tryz.underlying47) rfl ?_;refine Y4 ?_;obtain ⟨t1,hl2,ho1⟩:=Ad hx;refine Lp (σ:=(List (Int × Aa)) × Int) (γ:=Unit) hl2 (fun s2 y2=>[(1,.slice (A0_1) (p1.length) (c0_1)),(6,.map (some g1)),(17,.slice (A0_0) (p0.length) (c0_0)),(18,.int .i64 (((p0.length:Nat):Int))),(19,.int .i64 (s2.2))]) (fun s2 y2=>[Bc Tryz.prog 3 Bx Cu g1 (s2.1)]++[.old w]) (fun s2 y2=>True) () trivial (by exact .pick 0 rfl (.refl)) ?_;intro s2 y2 hG3 x3 hx22 ht1;unfold Mc at hx22;refine Y6 ?_;refine Ti hx22 (s:=20) rfl (fun h9 hx24=>?_) (fun h9 hx25=>?_)
  ·refine Y7 ?_;obtain ⟨x4,h27,hx28⟩:=Ad hx24;have hw1:=Has.low (E:=[]) ha0' hK;obtain ⟨b1,o1,j2,hA1,hj1,hl3,hp1⟩:=Has.at_idx hw1 h27;refine Aj (Be rfl rfl hA1 (j:=j2) hj1 hl3 Qm) rfl ?_;refine Aj (Co rfl hp1 (sb 1) rfl Cy) rfl ?_;refine T_x (Bj Mz rfl (fun g3=>?_));refine T_h (Ay rfl rfl rfl (.here) (.put (.put (.put (.put (.put (.put (.put (.put (.put (.done)))))))))) rfl (List.cons_ne_nil _ _) Cy.2 ?_);refine Y4 ?_;refine Aj (Ao rfl My rfl) rfl ?_;refine Aj (Aq rfl (i:=0) rfl rfl one3) rfl ?_;refine Aj (Az rfl (i:=0) rfl rfl Cy) rfl ?_;obtain ⟨h38,hx39⟩:=Bh hx28;obtain ⟨h40,hx41⟩:=Bh hx39;refine T_h (Nn (x:=x4.Id) (y:=x4) key3 Fw Tryz.underlying228 rfl rfl rfl rfl rfl (.there (.here)) (isk3 x4.Id h38) h40 ?_);refine Y7 ?_;exact Ru (mput s2.1 x4.Id x4,w64 (s2.2+1)) () hx41 trivial
  ·refine Y3 ?_;obtain rfl:=Cq ht1 hx25;refine Y2 ?_;exact Mu s2.1 () ho1 trivial
instance label_chosen_c (p0:List Aa) (p1:List Int):Con (Ol p0 p1) Tryz.prog 133 (fun K vs=>∃ (A0_0:Option Addr) (c0_0:Nat) (A0_1:Option Addr) (c0_1:Nat),vs=[.slice (A0_0) ((p0).length) (c0_0),.slice (A0_1) ((p1).length) (c0_1)]∧Has K A0_0 (p0).length c0_0 9 Af (p0)∧Has K A0_1 (p1).length c0_1 1 Bd (p1)∧True) (fun _ r=>fun v Ln=>∃ (A0:Option Addr) (c0:Nat),v = .tuple #[.slice (A0) ((r.1).length) (c0),.bool (r.2)]∧Ln=[.r A0 (r.1).length c0 66 9 ((r.1).flatMap Af)]∧True):=⟨by
 rintro K _ r ⟨A0_0,c0_0,A0_1,c0_1,rfl,ha0,ha1,-⟩ hx w hK;exact Aft p0 p1 ha0 ha1 hx w hK⟩
instance Aij (p0:List Aa):Con (Ob p0) Tryz.prog 134 (fun K vs=>∃ (A0_0:Option Addr) (c0_0:Nat),vs=[.slice (A0_0) ((p0).length) (c0_0)]∧Has K A0_0 (p0).length c0_0 9 Af (p0)∧True) (fun _ r=>fun v Ln=>∃ (A0:Option Addr) (c0:Nat) (A2:Option Addr) (c2:Nat) (A4:Option Addr) (c4:Nat),v = .tuple #[.agg #[.slice (A0) ((r.1.V).length) (c0),.slice (A2) ((r.1.T).length) (c2),.slice (A4) ((r.1.Lines).length) (c4)],.int .i64 (r.2)]∧Ln=[.r A0 (r.1.V).length c0 34 4 ((r.1.V).flatMap Al),.r A2 (r.1.T).length c2 26 3 ((r.1.T).flatMap Bi),.r A4 (r.1.Lines).length c4 97 2 ((r.1.Lines).flatMap Av)]∧True):=⟨by
 rintro K _ r ⟨A0_0,c0_0,rfl,ha0,-⟩ hx w hK;replace ha0:=Has.lo ha0 hK;unfold Ob at hx;refine CtS Tryz.ntmps134 Tryz.results134 ?_;refine pre ?_;intros;rename_i hx
 apply Jr (γ:=(Option Addr) × Nat) hx [2] (fun s3 y3 f=>(4,.slice (y3.1) ((s3).length) (y3.2))::f) [1,999] (fun s3 y3 l=>.r (y3.1) ((s3).length) (y3.2) 34 4 ((s3).flatMap Al)::l);exact kk
 ·intro s3 y3 hx;exact au
 ·intro _ hx;refine pre ?_;intros;rename_i hx
  apply Lr (γ:=(Option Addr) × Nat) hx [2,12,13] (fun s29 y29 f=>(4,.slice (y29.1) ((s29.1).length) (y29.2))::(14,.int .i64 (s29.2))::f) [1,999] (fun s29 y29 l=>.r (y29.1) ((s29.1).length) (y29.2) 34 4 ((s29.1).flatMap Al)::l) (_,_);exact kk;exact sk;intro s29 y29 x29 hx _;unfold Oa at hx
  exact au⟩
theorem Ahq (p0:List Aa) {K:List Ent} {A0_0:Option Addr} {c0_0:Nat} (ha0:Has K A0_0 (p0).length c0_0 9 Af (p0)) {r:Bg × Int} (hx:Ob p0=some r) (w:World) (hK:∀ e∈K,Ent.ok w e):CtL Tryz.prog 134 [.slice (A0_0) ((p0).length) (c0_0)] w fun v Ln=>∃ (A0:Option Addr) (c0:Nat) (A2:Option Addr) (c2:Nat) (A4:Option Addr) (c4:Nat),v = .tuple #[.agg #[.slice (A0) ((r.1.V).length) (c0),.slice (A2) ((r.1.T).length) (c2),.slice (A4) ((r.1.Lines).length) (c4)],.int .i64 (r.2)]∧Ln=[.r A0 (r.1.V).length c0 34 4 ((r.1.V).flatMap Al),.r A2 (r.1.T).length c2 26 3 ((r.1.T).flatMap Bi),.r A4 (r.1.Lines).length c4 97 2 ((r.1.Lines).flatMap Av)]∧True:=(Aij p0).h K _ _ ⟨_,_,rfl,ha0,trivial⟩ hx w hK
instance Add (p0:List Aa) (p1:List Int):Con (Fh p0 p1) Tryz.prog 64 (fun K vs=>∃ (A0_0:Option Addr) (c0_0:Nat) (A0_1:Option Addr) (c0_1:Nat),vs=[.slice (A0_0) ((p0).length) (c0_0),.slice (A0_1) ((p1).length) (c0_1)]∧Has K A0_0 (p0).length c0_0 9 Af (p0)∧Has K A0_1 (p1).length c0_1 1 Bd (p1)∧True) (fun _ r=>fun v Ln=>∃ (A0:Option Addr) (c0:Nat) (A2:Option Addr) (c2:Nat) (A4:Option Addr) (c4:Nat),v = .tuple #[.agg #[.slice (A0) ((r.1.V).length) (c0),.slice (A2) ((r.1.T).length) (c2),.slice (A4) ((r.1.Lines).length) (c4)],.int .i64 (r.2)]∧Ln=[.r A0 (r.1.V).length c0 34 4 ((r.1.V).flatMap Al),.r A2 (r.1.T).length c2 26 3 ((r.1.T).flatMap Bi),.r A4 (r.1.Lines).length c4 97 2 ((r.1.Lines).flatMap Av)]∧True):=⟨by
 rintro K _ r ⟨A0_0,c0_0,A0_1,c0_1,rfl,ha0,ha1,-⟩ hx w hK;replace ha0:=Has.lo ha0 hK;replace ha1:=Has.lo ha1 hK;unfold Fh at hx;refine CtS Tryz.ntmps64 Tryz.results64 ?_;exact au⟩
theorem Uz (p0:List Aa) (p1:List Int) {K:List Ent} {A0_0:Option Addr} {c0_0:Nat} {A0_1:Option Addr} {c0_1:Nat} (ha0:Has K A0_0 (p0).length c0_0 9 Af (p0)) (ha1:Has K A0_1 (p1).length c0_1 1 Bd (p1)) {r:Bg × Int} (hx:Fh p0 p1=some r) (w:World) (hK:∀ e∈K,Ent.ok w e):CtL Tryz.prog 64 [.slice (A0_0) ((p0).length) (c0_0),.slice (A0_1) ((p1).length) (c0_1)] w fun v Ln=>∃ (A0:Option Addr) (c0:Nat) (A2:Option Addr) (c2:Nat) (A4:Option Addr) (c4:Nat),v = .tuple #[.agg #[.slice (A0) ((r.1.V).length) (c0),.slice (A2) ((r.1.T).length) (c2),.slice (A4) ((r.1.Lines).length) (c4)],.int .i64 (r.2)]∧Ln=[.r A0 (r.1.V).length c0 34 4 ((r.1.V).flatMap Al),.r A2 (r.1.T).length c2 26 3 ((r.1.T).flatMap Bi),.r A4 (r.1.Lines).length c4 97 2 ((r.1.Lines).flatMap Av)]∧True:=(Add p0 p1).h K _ _ ⟨_,_,_,_,rfl,ha0,ha1,trivial⟩ hx w hK
end Go.Proofs.YtbkobeeileemjaaGreat
/- Walks of the program, with their plain functions: the reference's points by their Ids. -/
namespace Go.Proofs.YtbkobeeileemjaaGreat
open Go Go.RowKit
set_option maxRecDepth 100000
set_option maxHeartbeats 1000000
theorem Aad (x0:Int) (x1:Int):Gd Tryz.prog 32 [(0,.int .i64 x0),(1,.int .i64 x1)] [.int .i64 x0,.int .i64 x1]:=fun w=>by kernel_rfl
instance (x0:Int) (x1:Int):Kb Tryz.prog 32 [(0,.int .i64 x0),(1,.int .i64 x1)] [.int .i64 x0,.int .i64 x1]:=⟨Aad _ _⟩
theorem Va (x0:Int) (x1:Int) (x2:Int) (x3:Int) (x4:Int):Gd Tryz.prog 66 [(0,.int .i64 x0),(3,.agg #[.int .i64 x1,.int .i64 x2]),(5,.int .i64 x3),(6,.int .i64 x4)] [.int .i64 x0,.int .i64 (0),.int .i64 (0),.int .i64 x1,.int .i64 x2,.int .i64 (0),.int .i64 x3,.int .i64 x4,.int .i64 (0)]:=fun w=>by kernel_rfl
instance (x0:Int) (x1:Int) (x2:Int) (x3:Int) (x4:Int):Kb Tryz.prog 66 [(0,.int .i64 x0),(3,.agg #[.int .i64 x1,.int .i64 x2]),(5,.int .i64 x3),(6,.int .i64 x4)] [.int .i64 x0,.int .i64 (0),.int .i64 (0),.int .i64 x1,.int .i64 x2,.int .i64 (0),.int .i64 x3,.int .i64 x4,.int .i64 (0)]:=⟨Va _ _ _ _ _⟩
theorem Pr (x0:Int) (x1:Int) (x2:Int) (x3:Int) (x4:Int) (x5:Int) (x6:Int):Gd Tryz.prog 66 [(0,.int .i64 x0),(1,.int .i64 x1),(2,.int .i64 x2),(3,.agg #[.int .i64 x3,.int .i64 x4]),(5,.int .i64 x5),(6,.int .i64 x6)] [.int .i64 x0,.int .i64 x1,.int .i64 x2,.int .i64 x3,.int .i64 x4,.int .i64 (0),.int .i64 x5,.int .i64 x6,.int .i64 (0)]:=fun w=>by kernel_rfl
instance (x0:Int) (x1:Int) (x2:Int) (x3:Int) (x4:Int) (x5:Int) (x6:Int):Kb Tryz.prog 66 [(0,.int .i64 x0),(1,.int .i64 x1),(2,.int .i64 x2),(3,.agg #[.int .i64 x3,.int .i64 x4]),(5,.int .i64 x5),(6,.int .i64 x6)] [.int .i64 x0,.int .i64 x1,.int .i64 x2,.int .i64 x3,.int .i64 x4,.int .i64 (0),.int .i64 x5,.int .i64 x6,.int .i64 (0)]:=⟨Pr _ _ _ _ _ _ _⟩
theorem Rz (x0:Int) (x1:Int) (x2:Int) (x3:Int) (x4:Int) (x5:Int):Gd Tryz.prog 66 [(0,.int .i64 x0),(1,.int .i64 x1),(3,.agg #[.int .i64 x2,.int .i64 x3]),(5,.int .i64 x4),(6,.int .i64 x5)] [.int .i64 x0,.int .i64 x1,.int .i64 (0),.int .i64 x2,.int .i64 x3,.int .i64 (0),.int .i64 x4,.int .i64 x5,.int .i64 (0)]:=fun w=>by kernel_rfl
instance (x0:Int) (x1:Int) (x2:Int) (x3:Int) (x4:Int) (x5:Int):Kb Tryz.prog 66 [(0,.int .i64 x0),(1,.int .i64 x1),(3,.agg #[.int .i64 x2,.int .i64 x3]),(5,.int .i64 x4),(6,.int .i64 x5)] [.int .i64 x0,.int .i64 x1,.int .i64 (0),.int .i64 x2,.int .i64 x3,.int .i64 (0),.int .i64 x4,.int .i64 x5,.int .i64 (0)]:=⟨Rz _ _ _ _ _ _⟩
theorem Di (x0:Int) (x1:Int) (x2:Int) (x3:Int) (x4:Int) (x5:Int) (x6:Int) (x7:Int) (x8:Int) (x9:Int) (x10:Int) (x11:Int) (x12:Int) (x13:Int) (x14:Int) (x15:Int) (x16:Int) (x17:Int) (x18:Int) (x19:Int) (x20:Int) (x21:Int) (x22:Int) (x23:Int) (x24:Int) (x25:Int) (x26:Int):Cx Tryz.prog 47 3 [(0,.agg #[.int .i64 x0,.int .i64 x1,.int .i64 x2,.int .i64 x3,.int .i64 x4,.int .i64 x5,.int .i64 x6,.int .i64 x7,.int .i64 x8]),(1,.agg #[.int .i64 x9,.int .i64 x10,.int .i64 x11,.int .i64 x12,.int .i64 x13,.int .i64 x14,.int .i64 x15,.int .i64 x16,.int .i64 x17]),(2,.agg #[.int .i64 x18,.int .i64 x19,.int .i64 x20,.int .i64 x21,.int .i64 x22,.int .i64 x23,.int .i64 x24,.int .i64 x25,.int .i64 x26])] 66 [.int .i64 x0,.int .i64 x1,.int .i64 x2,.int .i64 x3,.int .i64 x4,.int .i64 x5,.int .i64 x6,.int .i64 x7,.int .i64 x8,.int .i64 x9,.int .i64 x10,.int .i64 x11,.int .i64 x12,.int .i64 x13,.int .i64 x14,.int .i64 x15,.int .i64 x16,.int .i64 x17,.int .i64 x18,.int .i64 x19,.int .i64 x20,.int .i64 x21,.int .i64 x22,.int .i64 x23,.int .i64 x24,.int .i64 x25,.int .i64 x26]:=fun w=>by kernel_rfl
instance (x0:Int) (x1:Int) (x2:Int) (x3:Int) (x4:Int) (x5:Int) (x6:Int) (x7:Int) (x8:Int) (x9:Int) (x10:Int) (x11:Int) (x12:Int) (x13:Int) (x14:Int) (x15:Int) (x16:Int) (x17:Int) (x18:Int) (x19:Int) (x20:Int) (x21:Int) (x22:Int) (x23:Int) (x24:Int) (x25:Int) (x26:Int):Hl Tryz.prog 47 3 [(0,.agg #[.int .i64 x0,.int .i64 x1,.int .i64 x2,.int .i64 x3,.int .i64 x4,.int .i64 x5,.int .i64 x6,.int .i64 x7,.int .i64 x8]),(1,.agg #[.int .i64 x9,.int .i64 x10,.int .i64 x11,.int .i64 x12,.int .i64 x13,.int .i64 x14,.int .i64 x15,.int .i64 x16,.int .i64 x17]),(2,.agg #[.int .i64 x18,.int .i64 x19,.int .i64 x20,.int .i64 x21,.int .i64 x22,.int .i64 x23,.int .i64 x24,.int .i64 x25,.int .i64 x26])] 66 [.int .i64 x0,.int .i64 x1,.int .i64 x2,.int .i64 x3,.int .i64 x4,.int .i64 x5,.int .i64 x6,.int .i64 x7,.int .i64 x8,.int .i64 x9,.int .i64 x10,.int .i64 x11,.int .i64 x12,.int .i64 x13,.int .i64 x14,.int .i64 x15,.int .i64 x16,.int .i64 x17,.int .i64 x18,.int .i64 x19,.int .i64 x20,.int .i64 x21,.int .i64 x22,.int .i64 x23,.int .i64 x24,.int .i64 x25,.int .i64 x26]:=⟨Di _ _ _ _ _ _ _ _ _ _ _ _ _ _ _ _ _ _ _ _ _ _ _ _ _ _ _⟩
theorem Abz (x0:Int) (x1:Int) (x2:Int):Gd Tryz.prog 54 [(0,.int .i64 x0),(3,.int .i64 x1),(9,.int .i64 x2)] [.int .i64 x0,.int .i64 (0),.int .i64 (0),.int .i64 x1,.int .i64 (0),.int .i64 (0),.int .i64 (0),.int .i64 (0),.int .i64 (0),.int .i64 x2]:=fun w=>by kernel_rfl
instance (x0:Int) (x1:Int) (x2:Int):Kb Tryz.prog 54 [(0,.int .i64 x0),(3,.int .i64 x1),(9,.int .i64 x2)] [.int .i64 x0,.int .i64 (0),.int .i64 (0),.int .i64 x1,.int .i64 (0),.int .i64 (0),.int .i64 (0),.int .i64 (0),.int .i64 (0),.int .i64 x2]:=⟨Abz _ _ _⟩
noncomputable def Cd (p0:Int) (p1:Int) (p2:Int):Option Bool :=
 jn (fun (s2:Bool) =>
 some s2)
 (fun j2=>if p1≤p0 then (j2 (decide (p0≤p2)))
 else (j2 false))
noncomputable def Ld (p0:Ab):Option Bool :=
 jn (fun (s2:Bool) =>
 some s2)
 (fun j2=>if (-268435456)≤p0.X then (if p0.X≤268435456 then (if (-268435456)≤p0.Y then (j2 (decide (p0.Y≤268435456)))
 else (j2 false))
 else (j2 false))
 else (j2 false))
noncomputable def Oc (p0:Aa):Option Bool :=
 jn (fun (s2:Bool) =>
 some s2)
 (fun j2=>bnd (Cd p0.Id 0 1152921504606846976) fun r2 =>
 if r2=true then (bnd (Ld (⟨p0.X,p0.Y⟩:Ab)) fun r7 =>
 if r7=true then (if p0.Z.Lo≤p0.Z.Hi then (if (-268435456)≤p0.Z.Lo then (if p0.Z.Hi≤268435456 then (bnd (Cd p0.Wide 0 268435456) fun r0 =>
 if r0=true then (bnd (Cd p0.Num 1 p0.Of) fun r1 =>
 if r1=true then (j2 (decide (p0.Of≤15)))
 else (j2 false))
 else (j2 false))
 else (j2 false))
 else (j2 false))
 else (j2 false))
 else (j2 false))
 else (j2 false))
noncomputable def Fz (s0:Int) (p0:List Aa):Int→Option (Sum Int (Sum Unit Bool)):=fun s1 =>
 if s1 < s0 then (bnd (idx p0 s1) fun x0 =>
 bnd (idx p0 s0) fun x1 =>
 if x0.Id=x1.Id then (some (.inr (.inr (false))))
 else (some (.inl (w64 (s1+1)))))
 else (some (.inr (.inl ())))
noncomputable def Ex (p0:List Aa):Int→Option (Sum Int (Sum Unit Bool)):=fun s0 =>
 if s0 < ((((p0).length:Nat):Int)) then (jn (fun (_:Unit) =>
 some (.inl (w64 (s0+1))))
 (fun j0=>bnd (idx p0 s0) fun x0 =>
 bnd (Oc x0) fun r0 =>
 if r0=true then (bnd (lfix (Fz s0 p0) 0) fun t0 =>
 (match t0 with
 | (.inl z0)=>j0 z0
 | (.inr (z0))=>some (.inr (.inr (z0)))
 ))
 else (some (.inr (.inr (false))))))
 else (some (.inr (.inl ())))
noncomputable def Le (p0:List Aa):Option Bool :=
 if 1024 < ((((p0).length:Nat):Int)) then (some false)
 else (jn (fun (_:Unit) =>
 some true)
 (fun j5=>bnd (lfix (Ex p0) 0) fun t0 =>
 (match t0 with
 | (.inl z0)=>j5 z0
 | (.inr (z0))=>some z0
 )))
noncomputable def Nf (p0:List Int) (p1:Int):Int→Option (Sum Int (Sum Unit Bool)):=fun s0 =>
 if s0 < ((((p0).length:Nat):Int)) then (bnd (idx p0 s0) fun x0 =>
 if x0=p1 then (some (.inr (.inr (true))))
 else (some (.inl (w64 (s0+1)))))
 else (some (.inr (.inl ())))
noncomputable def Qx (p0:List Int) (p1:Int):Option Bool :=
 jn (fun (_:Unit) =>
 some false)
 (fun j2=>bnd (lfix (Nf p0 p1) 0) fun t0 =>
 (match t0 with
 | (.inl z0)=>j2 z0
 | (.inr (z0))=>some z0
 ))
noncomputable def Gj (p0:Ag):Option Bool :=
 jn (fun (s2:Bool) =>
 some s2)
 (fun j2=>bnd (Cd p0.Cell 1 10000000) fun r2 =>
 if r2=true then (bnd (Cd p0.Reach 0 1000000) fun r7 =>
 if r7=true then (bnd (Cd p0.Slope 0 100000) fun r0 =>
 if r0=true then (bnd (Cd p0.Link 1 1000000) fun r1 =>
 if r1=true then (bnd (Cd p0.Flat 0 1000000) fun r3 =>
 if r3=true then (bnd (Cd p0.Tall 0 1000000) fun r4 =>
 if r4=true then (bnd (Cd p0.High 0 1000000) fun r5 =>
 if r5=true then (bnd (Cd p0.Low 0 1000000) fun r6 =>
 if r6=true then (bnd (Cd p0.Brush 0 1000000) fun r8 =>
 if r8=true then (bnd (Cd p0.Few 1 1024) fun r9 =>
 j2 r9)
 else (j2 false))
 else (j2 false))
 else (j2 false))
 else (j2 false))
 else (j2 false))
 else (j2 false))
 else (j2 false))
 else (j2 false))
 else (j2 false))
noncomputable def Er  : Option Bool :=
 bnd (Gn ([(⟨0,0⟩:Ab),(⟨4,0⟩:Ab),(⟨4,4⟩:Ab),(⟨0,4⟩:Ab)]) (⟨4,2⟩:Ab)) fun r3 =>
 bnd (Gn ([(⟨0,0⟩:Ab),(⟨4,0⟩:Ab),(⟨4,4⟩:Ab),(⟨0,4⟩:Ab)]) (⟨5,2⟩:Ab)) fun r7 =>
 bnd (Lh ([(⟨1,0,0,(⟨3,3⟩:Br),0,1,1,0⟩:Aa),(⟨2,5,5,(⟨1,1⟩:Br),0,1,1,0⟩:Aa),(⟨3,12,0,(⟨2,2⟩:Br),0,1,1,0⟩:Aa)]) (⟨10,0,0,1,0,0,0,0,0,1⟩:Ag)) fun r0 =>
 jn (fun (s6:Bool) =>
 some s6)
 (fun j6=>if r3.2=0 then (if r7.2=0 then (if r3.1=true then (if r7.1=true then (j6 false)
 else (if r0.2=0 then (if ((((r0.1).length:Nat):Int))=2 then (bnd (idx r0.1 0) fun x0 =>
 if x0=2 then (bnd (idx r0.1 1) fun x1 =>
 j6 (decide (x1=3)))
 else (j6 false))
 else (j6 false))
 else (j6 false)))
 else (j6 false))
 else (j6 false))
 else (j6 false))
noncomputable def Jp (p0:List Aa) (p1:Ag) (p2:Int):Option Bool :=
 jn (fun (s2:Bool) =>
 some s2)
 (fun j2=>if ((((p0).length:Nat):Int))≤p2 then (bnd (Le p0) fun r4 =>
 if r4=true then (bnd (Gj p1) fun r9 =>
 j2 r9)
 else (j2 false))
 else (j2 false))
instance lidarref07_within_c (p0:Int) (p1:Int) (p2:Int):Con (Cd p0 p1 p2) Tryz.prog 150 (fun _ vs=>vs=[.int .i64 (p0),.int .i64 (p1),.int .i64 (p2)]) (fun _ r=>fun v Ln=>v = .bool (r)∧Ln=[]∧True):=⟨by
 rintro _ _ r rfl hx w hK;unfold Cd at hx;refine CtS Tryz.ntmps150 Tryz.results150 ?_;exact au⟩
instance lidarref01_Place_c (p0:Ab):Con (Ld p0) Tryz.prog 169 (fun _ vs=>vs=[.agg #[.int .i64 (p0.X),.int .i64 (p0.Y)]]) (fun _ r=>fun v Ln=>v = .bool (r)∧Ln=[]∧True):=⟨by
 rintro _ _ r rfl hx w hK;unfold Ld at hx;refine CtS Tryz.ntmps169 Tryz.results169 ?_;exact au⟩
instance lidarref07_One_c (p0:Aa):Con (Oc p0) Tryz.prog 89 (fun _ vs=>vs=[.agg #[.int .i64 (p0.Id),.int .i64 (p0.X),.int .i64 (p0.Y),.int .i64 (p0.Z.Lo),.int .i64 (p0.Z.Hi),.int .i64 (p0.Wide),.int .i64 (p0.Num),.int .i64 (p0.Of),.int .i64 (p0.Class)]]) (fun _ r=>fun v Ln=>v = .bool (r)∧Ln=[]∧True):=⟨by
 rintro _ _ r rfl hx w hK;unfold Oc at hx;refine CtS Tryz.ntmps89 Tryz.results89 ?_;refine pre ?_;intros;rename_i hx
 refine Lw ?_;refine pre ?_;intros;rename_i hx
 apply Jr (γ:=Unit) hx [] (fun s2 y2 f=>(2,.bool (s2))::f) [999] (fun s2 y2 l=>l);exact kk
 ·intro s2 y2 hx;exact au
 ·intro _ hx;refine pre ?_;intros;rename_i hx
  refine Cq3 (s:=6) hx rfl (fun _ hx=>?_) (fun _ hx=>?_)
  ·refine pre ?_;intros;rename_i hx
   refine Cq3 (s:=14) hx rfl (fun _ hx=>?_) (fun _ hx=>?_)
   ·exact au
   ·exact au
  ·exact au⟩
instance lidarref07_Valid_c (p0:List Aa):Con (Le p0) Tryz.prog 42 (fun K vs=>∃ (A0_0:Option Addr) (c0_0:Nat),vs=[.slice (A0_0) ((p0).length) (c0_0)]∧Has K A0_0 (p0).length c0_0 9 Af (p0)∧True) (fun _ r=>fun v Ln=>v = .bool (r)∧Ln=[]∧True):=⟨by
 rintro K _ r ⟨A0_0,c0_0,rfl,ha0,-⟩ hx w hK;replace ha0:=Has.lo ha0 hK;unfold Le at hx;have:=dl 11 [0,0,0,0,1,0,0,0,0,1,0] [0,1,2,3,4,5,6,7,8,9,10];refine CtS Tryz.ntmps42 Tryz.results42 ?_;refine pre ?_;intros;rename_i hx
 refine Cq1 (s:=7) hx rfl (fun _ hx=>?_) (fun _ hx=>?_)
 ·exact au
 ·refine pre ?_;intros;rename_i hx
  apply Jr (γ:=Unit) hx [] (fun s5 y5 f=>f) [999] (fun s5 y5 l=>l);exact kk
  ·intro s5 y5 hx;exact au
  ·intro _ hx;refine pre ?_;intros;rename_i hx
   apply Lr (γ:=Unit) hx [0] (fun s85 y85 f=>(3,.int .i64 (s85))::f) [999] (fun s85 y85 l=>l) ();exact kk;exact sk;intro s85 y85 x85 hx _;unfold Ex at hx
   refine pre ?_;intros;rename_i hx
   refine Cq1 (s:=11) hx rfl (fun _ hx=>?_) (fun _ hx=>?_)
   ·refine pre ?_;intros;rename_i hx
    apply Jr (γ:=Unit) hx [0,3] (fun s26 y26 f=>f) [999] (fun s26 y26 l=>l);exact kk
    ·intro s26 y26 hx;exact au
    ·intro _ hx;refine pre ?_;intros;rename_i hx
     refine Cq4 (s:=19) hx rfl (fun _ hx=>?_) (fun _ hx=>?_)
     ·exact au
     ·refine pre ?_;intros;rename_i hx
      apply Lr (γ:=Unit) hx [0,3] (fun s135 y135 f=>(4,.int .i64 (s135))::f) [999] (fun s135 y135 l=>l) ();exact kk;exact sk;intro s135 y135 x135 hx _;unfold Fz at hx
      exact au
   ·exact au⟩
instance lidarref07_Has_c (p0:List Int) (p1:Int):Con (Qx p0 p1) Tryz.prog 36 (fun K vs=>∃ (A0_0:Option Addr) (c0_0:Nat),vs=[.slice (A0_0) ((p0).length) (c0_0),.int .i64 (p1)]∧Has K A0_0 (p0).length c0_0 1 Bd (p0)∧True) (fun _ r=>fun v Ln=>v = .bool (r)∧Ln=[]∧True):=⟨by
 rintro K _ r ⟨A0_0,c0_0,rfl,ha0,-⟩ hx w hK;replace ha0:=Has.lo ha0 hK;unfold Qx at hx;refine CtS Tryz.ntmps36 Tryz.results36 ?_;refine pre ?_;intros;rename_i hx
 refine Lw ?_;refine pre ?_;intros;rename_i hx
 apply Jr (γ:=Unit) hx [] (fun s2 y2 f=>f) [999] (fun s2 y2 l=>l);exact kk
 ·intro s2 y2 hx;exact au
 ·intro _ hx;refine pre ?_;intros;rename_i hx
  apply Lr (γ:=Unit) hx [0,1] (fun s0 y0 f=>(5,.int .i64 (s0))::f) [999] (fun s0 y0 l=>l) ();exact kk;exact sk;intro s0 y0 x0 hx _;unfold Nf at hx
  exact au⟩
instance lidarref07_ValidRules_c (p0:Ag):Con (Gj p0) Tryz.prog 76 (fun _ vs=>vs=[.agg #[.int .i64 (p0.Cell),.int .i64 (p0.Reach),.int .i64 (p0.Slope),.int .i64 (p0.Link),.int .i64 (p0.Flat),.int .i64 (p0.Tall),.int .i64 (p0.High),.int .i64 (p0.Low),.int .i64 (p0.Brush),.int .i64 (p0.Few)]]) (fun _ r=>fun v Ln=>v = .bool (r)∧Ln=[]∧True):=⟨by
 rintro _ _ r rfl hx w hK;unfold Gj at hx;refine CtS Tryz.ntmps76 Tryz.results76 ?_;refine pre ?_;intros;rename_i hx
 refine Lw ?_;refine pre ?_;intros;rename_i hx
 apply Jr (γ:=Unit) hx [] (fun s2 y2 f=>(2,.bool (s2))::f) [999] (fun s2 y2 l=>l);exact kk
 ·intro s2 y2 hx;exact au
 ·intro _ hx;refine pre ?_;intros;rename_i hx
  refine Cq3 (s:=6) hx rfl (fun _ hx=>?_) (fun _ hx=>?_)
  ·refine pre ?_;intros;rename_i hx
   refine Cq3 (s:=11) hx rfl (fun _ hx=>?_) (fun _ hx=>?_)
   ·refine pre ?_;intros;rename_i hx
    refine Cq3 (s:=16) hx rfl (fun _ hx=>?_) (fun _ hx=>?_)
    ·refine pre ?_;intros;rename_i hx
     refine Cq3 (s:=21) hx rfl (fun _ hx=>?_) (fun _ hx=>?_)
     ·exact au
     ·exact au
    ·exact au
   ·exact au
  ·exact au⟩
instance Ab0  : Con (Er) Tryz.prog 22 (fun _ vs=>vs=[]) (fun _ r=>fun v Ln=>v = .bool (r)∧Ln=[]∧True):=⟨by
 rintro _ _ r rfl hx w hK;unfold Er at hx;refine CtS Tryz.ntmps22 Tryz.results22 ?_;refine pre ?_;intros;rename_i hx
 apply Jr (γ:=Unit) hx [] (fun s6 y6 f=>(0,.bool (s6))::f) [999] (fun s6 y6 l=>l);exact kk
 ·intro s6 y6 hx;exact au
 ·intro _ hx;refine pre ?_;intros;rename_i hx
  refine Cq1 (s:=39) hx rfl (fun _ hx=>?_) (fun _ hx=>?_)
  ·refine pre ?_;intros;rename_i hx
   refine Cq1 (s:=43) hx rfl (fun _ hx=>?_) (fun _ hx=>?_)
   ·exact au
   ·exact au
  ·exact au⟩
theorem Ov   {r:Bool} (hx:Er=some r) (w:World):CtL Tryz.prog 22 [] w fun v Ln=>v = .bool (r)∧Ln=[]∧True:=(Ab0).h [] _ _ rfl hx w (fun _ h=>absurd h List.not_mem_nil)
instance Ade (p0:List Aa) (p1:Ag) (p2:Int):Con (Jp p0 p1 p2) Tryz.prog 33 (fun K vs=>∃ (A0_0:Option Addr) (c0_0:Nat),vs=[.slice (A0_0) ((p0).length) (c0_0),.agg #[.int .i64 (p1.Cell),.int .i64 (p1.Reach),.int .i64 (p1.Slope),.int .i64 (p1.Link),.int .i64 (p1.Flat),.int .i64 (p1.Tall),.int .i64 (p1.High),.int .i64 (p1.Low),.int .i64 (p1.Brush),.int .i64 (p1.Few)],.int .i64 (p2)]∧Has K A0_0 (p0).length c0_0 9 Af (p0)∧True) (fun _ r=>fun v Ln=>v = .bool (r)∧Ln=[]∧True):=⟨by
 rintro K _ r ⟨A0_0,c0_0,rfl,ha0,-⟩ hx w hK;replace ha0:=Has.lo ha0 hK;unfold Jp at hx;refine CtS Tryz.ntmps33 Tryz.results33 ?_;exact au⟩
theorem Ab1 (p0:List Aa) (p1:Ag) (p2:Int) {K:List Ent} {A0_0:Option Addr} {c0_0:Nat} (ha0:Has K A0_0 (p0).length c0_0 9 Af (p0)) {r:Bool} (hx:Jp p0 p1 p2=some r) (w:World) (hK:∀ e∈K,Ent.ok w e):CtL Tryz.prog 33 [.slice (A0_0) ((p0).length) (c0_0),.agg #[.int .i64 (p1.Cell),.int .i64 (p1.Reach),.int .i64 (p1.Slope),.int .i64 (p1.Link),.int .i64 (p1.Flat),.int .i64 (p1.Tall),.int .i64 (p1.High),.int .i64 (p1.Low),.int .i64 (p1.Brush),.int .i64 (p1.Few)],.int .i64 (p2)] w fun v Ln=>v = .bool (r)∧Ln=[]∧True:=(Ade p0 p1 p2).h K _ _ ⟨_,_,rfl,ha0,trivial⟩ hx w hK
end Go.Proofs.YtbkobeeileemjaaGreat
