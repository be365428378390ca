/- Walks of the program, with their plain functions: points by their Ids. -/
import Derived.Test.YtbkobeeileemjaaGreatD5
import Derived.Test.YtbkobeeileemjaaGreatSort2
namespace Go.Proofs.YtbkobeeileemjaaGreat
open Go Go.RowKit

noncomputable def Mz (p0:Aa) (p1:Aa):Option Int :=
 some (w64 (p0.Id-p1.Id))
set_option maxRecDepth 100000 in
instance Acu (p0:Aa) (p1:Aa):Con (Mz p0 p1) Tryz.prog 206 (fun _ vs=>vs=[.agg #[.int .i64 (p0.Id),.int .i64 (p0.X),.int .i64 (p0.Y),.int .i64 (p0.Z.Lo),.int .i64 (p0.Z.Hi),.int .i64 (p0.Wide),.int .i64 (p0.Num),.int .i64 (p0.Of),.int .i64 (p0.Class)],.agg #[.int .i64 (p1.Id),.int .i64 (p1.X),.int .i64 (p1.Y),.int .i64 (p1.Z.Lo),.int .i64 (p1.Z.Hi),.int .i64 (p1.Wide),.int .i64 (p1.Num),.int .i64 (p1.Of),.int .i64 (p1.Class)]]) (fun _ r=>fun v Ln=>v = .int .i64 (r)∧Ln=[]∧True):=⟨by
 rintro _ _ r rfl hx w hK;unfold Mz at hx;refine CtS Tryz.ntmps206 Tryz.results206 ?_;exact au⟩
theorem Abu (p0:Aa) (p1:Aa)  {r:Int} (hx:Mz p0 p1=some r) (w:World):CtL Tryz.prog 206 [.agg #[.int .i64 (p0.Id),.int .i64 (p0.X),.int .i64 (p0.Y),.int .i64 (p0.Z.Lo),.int .i64 (p0.Z.Hi),.int .i64 (p0.Wide),.int .i64 (p0.Num),.int .i64 (p0.Of),.int .i64 (p0.Class)],.agg #[.int .i64 (p1.Id),.int .i64 (p1.X),.int .i64 (p1.Y),.int .i64 (p1.Z.Lo),.int .i64 (p1.Z.Hi),.int .i64 (p1.Wide),.int .i64 (p1.Num),.int .i64 (p1.Of),.int .i64 (p1.Class)]] w fun v Ln=>v = .int .i64 (r)∧Ln=[]∧True:=(Acu p0 p1).h [] _ _ rfl hx w (fun _ h=>absurd h List.not_mem_nil)
end Go.Proofs.YtbkobeeileemjaaGreat
/- Points, sorted by their Ids. -/
namespace Go.Proofs.YtbkobeeileemjaaGreat
open Go Go.RowKit Go.Shelf Go.Lib Go.Sort
def Ahz (l:List Aa):Prop:=(l.map (·.Id)).Nodup∧∀ x∈l,0≤x.Id∧x.Id≤1152921504606846976
/-- A point of a list whose Ids are distinct. -/
def ptIn (l:List Aa) (x:Aa):Prop:=x∈l∧Ahz l
noncomputable instance (l:List Aa) (x:Aa):Decidable (ptIn l x):=Classical.propDecidable _
def Ik (x y:Aa):Int:=x.Id-y.Id
theorem Am7 {l:List Aa} (h:(l.map (·.Id)).Nodup) {x y:Aa} (hx:x∈l) (hy:y∈l) (e:x.Id=y.Id):x=y:=by
 obtain ⟨i,hi,rfl⟩:=List.getElem_of_mem hx
 obtain ⟨j,hj,rfl⟩:=List.getElem_of_mem hy
 have:=List.pairwise_iff_getElem.1 (List.pairwise_map.1 h)
 rcases Nat.lt_trichotomy i j with g | g | g
 ·exact absurd e (this i j hi hj g)
 ·subst g;rfl
 ·exact absurd e.symm (this j i hj hi g)
theorem totP (l:List Aa):We (ptIn l) Ik where
 irr x _:=by unfold Ik;omega
 trans x y z _ _ _ h1 h2:=by unfold Ik at *;omega
 tot x y hx hy h1 h2:=Am7 hx.2.1 hx.1 hy.1 (by unfold Ik at h1 h2;omega)
theorem Am8 {l:List Aa} {x y:Aa} (hx:ptIn l x) (hy:ptIn l y):Mz x y=some (Ik x y):=by
 have h1:=hx.2.2 x hx.1
 have h2:=hy.2.2 y hy.1
 unfold Mz Ik
 rw [Bo (by omega) (by omega)]
theorem Afz (l:List Aa) (hb:l.length≤1000000000) (hp:∀ x∈l,ptIn l x) {A:Option Addr} {m c:Nat} {t:TypeId} {gf:Nat} {cb:Array Value} (w:World) (hok:Ent.ok w (.r A m c t 9 (l.flatMap Ag)))
  (hcmp:Acg Tryz.prog (ptIn l) Ik (fun x=>.agg #[.int .i64 x.Id,.int .i64 x.X,.int .i64 x.Y,.int .i64 x.Z.Lo,.int .i64 x.Z.Hi,.int .i64 x.Wide,.int .i64 x.Num,.int .i64 x.Of,.int .i64 x.Class]) A m c t 9 gf cb w (l.flatMap Ag)) (eg:Sy Tryz.prog gf):Acf Tryz.prog 92 A m c t 9 gf cb w (l.flatMap Ag) ((Be Ik l).flatMap Ag) :=
 Aa6 (ρ:=Tryz.laysSortP_ren) Tryz.laysSortP (k:=9) Tryz.isAgg66 Tryz.sizeOf66 (enc:=Ag) (fun _=>rfl) (by decide) (fun x v hv=>by simp [Ag] at hv;rcases hv with rfl | rfl | rfl | rfl | rfl | rfl | rfl | rfl | rfl <;> rfl) (totP l) (Zu eg) l hb hp w hok hcmp
end Go.Proofs.YtbkobeeileemjaaGreat
/- Walks of the program, with their plain functions: the mesh of points. -/
namespace Go.Proofs.YtbkobeeileemjaaGreat
open Go Go.RowKit
theorem Wu (x0:Int) (x1:Int) (x2:Int) (x3:Int):Gk Tryz.prog 34 [(0,.int .i64 x0),(1,.int .i64 x1),(2,.agg #[.int .i64 x2,.int .i64 x3])] [.int .i64 x0,.int .i64 x1,.int .i64 x2,.int .i64 x3]:=fun w=>by kernel_rfl
instance (x0:Int) (x1:Int) (x2:Int) (x3:Int):Ki Tryz.prog 34 [(0,.int .i64 x0),(1,.int .i64 x1),(2,.agg #[.int .i64 x2,.int .i64 x3])] [.int .i64 x0,.int .i64 x1,.int .i64 x2,.int .i64 x3]:=⟨Wu _ _ _ _⟩
theorem Wv (x0:Int) (x1:Int) (x2:Int) (x3:Int):Da Tryz.prog 22 1 [(0,.agg #[.int .i64 x0,.int .i64 x1,.int .i64 x2,.int .i64 x3])] 34 [.int .i64 x0,.int .i64 x1,.int .i64 x2,.int .i64 x3]:=fun w=>by kernel_rfl
instance (x0:Int) (x1:Int) (x2:Int) (x3:Int):Ky Tryz.prog 22 1 [(0,.agg #[.int .i64 x0,.int .i64 x1,.int .i64 x2,.int .i64 x3])] 34 [.int .i64 x0,.int .i64 x1,.int .i64 x2,.int .i64 x3]:=⟨Wv _ _ _ _⟩
instance:UndI Tryz.prog 228 (.map 3 66):=⟨Tryz.underlying228⟩
instance:MkI Tryz.prog 47 66 9 72 Ag ((⟨0,0,0,(⟨0,0⟩:Bl),0,0,0,0⟩:Aa)):=⟨Tryz.t66,.agg #[.int .i64 (0),.int .i64 (0),.int .i64 (0),.int .i64 (0),.int .i64 (0),.int .i64 (0),.int .i64 (0),.int .i64 (0),.int .i64 (0)],Tryz.underlying47,by kernel_rfl,by kernel_rfl,rfl,by kernel_rfl,by kernel_rfl⟩
noncomputable def Lj (p0:List Aa):((List (Int × Aa)) × Int)→Option (Sum ((List (Int × Aa)) × Int) (List (Int × Aa))):=fun s0 =>
 if s0.2 < ((((p0).length:Nat):Int)) then (bnd (idx p0 s0.2) fun x0 =>
 gd ((-9223372036854775808≤x0.Id∧x0.Id≤9223372036854775807)) <|
 gd ((s0.1).length < 9223372036854775807) <|
 some (.inl (mput s0.1 x0.Id x0,w64 (s0.2+1))))
 else (some (.inr s0.1))
noncomputable def Iz (p1:List Int):((List (Int × Aa)) × (List Aa) × Int)→Option (Sum ((List (Int × Aa)) × (List Aa) × Int) (Sum (List Aa) ((List Aa) × Bool))):=fun s0 =>
 if s0.2.2 < ((((p1).length:Nat):Int)) then (bnd (idx p1 s0.2.2) fun x0 =>
 gd ((-9223372036854775808≤x0∧x0≤9223372036854775807)) <|
 bnd (some ((mget s0.1 x0).getD ((⟨0,0,0,(⟨0,0⟩:Bl),0,0,0,0⟩:Aa)))) fun x1 =>
 if ((mget s0.1 x0).isSome)=true then (gd ((-9223372036854775808≤x0∧x0≤9223372036854775807)) <|
 gd (((s0.2.1).length+1)*72≤140737488355328) <|
 some (.inl (mdel s0.1 x0,s0.2.1++[x1],w64 (s0.2.2+1))))
 else (some (.inr (.inr (([]:List Aa),false)))))
 else (some (.inr (.inl s0.2.1)))
noncomputable def Nm (p0:List Aa) (p1:List Int):Option ((List Aa) × Bool) :=
 jn (fun (s3:List (Int × Aa)) =>
 gd ((0:Int)≤((((p1).length:Nat):Int))∧72*Int.toNat ((((p1).length:Nat):Int))≤140737488355328) <|
 jn (fun (s0:List Aa) =>
 gd ((s0).length≤1000000000∧(∀ x∈s0,(ptIn s0) x)) <|
 some (Be Ik s0,true))
 (fun j0=>bnd (lfix (Iz p1) (s3,([]:List Aa),0)) fun t0 =>
 (match t0 with
 | (.inl z0)=>j0 z0
 | (.inr (z0))=>some z0
 )))
 (fun j3=>bnd (lfix (Lj p0) (([]:List (Int × Aa)),0)) fun t1 =>
 j3 t1)
instance:MkI Tryz.prog 22 34 4 32 Al ((⟨0,0,(⟨0,0⟩:Bl)⟩:Ae)):=⟨Tryz.t34,.agg #[.int .i64 (0),.int .i64 (0),.int .i64 (0),.int .i64 (0)],Tryz.underlying22,by kernel_rfl,by kernel_rfl,rfl,by kernel_rfl,by kernel_rfl⟩
noncomputable def Na (p0:List Aa):((List Ae) × Int)→Option (Sum ((List Ae) × Int) (List Ae)):=fun s0 =>
 if s0.2 < ((((p0).length:Nat):Int)) then (bnd (idx p0 s0.2) fun x0 =>
 gd (((s0.1).length+1)*32≤140737488355328) <|
 some (.inl (s0.1++[(⟨x0.X,x0.Y,x0.Z⟩:Ae)],w64 (s0.2+1))))
 else (some (.inr s0.1))
noncomputable def Nb (p0:List Aa):Option (Bd × Int) :=
 gd ((0:Int)≤((((p0).length:Nat):Int))∧32*Int.toNat ((((p0).length:Nat):Int))≤140737488355328) <|
 jn (fun (s3:List Ae) =>
 bnd (Ng s3 ([]:List Ac)) fun r0 =>
 if r0.2=0 then (some (r0.1,0))
 else (some ((⟨([]:List Ae),([]:List Aq),([]:List Ac)⟩:Bd),11)))
 (fun j3=>bnd (lfix (Na p0) (([]:List Ae),0)) fun t0 =>
 j3 t0)
noncomputable def Et (p0:List Aa) (p1:List Int):Option (Bd × Int) :=
 bnd (Nm p0 p1) fun r2 =>
 if r2.2=true then (bnd (Nb r2.1) fun r0 =>
 some (r0.1,r0.2))
 else (some ((⟨([]:List Ae),([]:List Aq),([]:List Ac)⟩:Bd),2))
set_option maxRecDepth 100000 in
theorem Aek (p0:List Aa) (p1:List Int) {K:List Ent} {A0_0:Option Addr} {c0_0:Nat} {A0_1:Option Addr} {c0_1:Nat} (ha0:Has K A0_0 p0.length c0_0 9 Ag (p0)) (ha1:Has K A0_1 p1.length c0_1 1 Ba (p1)) {r:(List Aa) × Bool} (hx:Nm p0 p1=some r) (w:World) (hK:∀ e∈K,Ent.ok w e):CtL Tryz.prog 133 [.slice (A0_0) (p0.length) (c0_0),.slice (A0_1) (p1.length) (c0_1)] w fun v Ln=>∃ (A0:Option Addr) (c0:Nat),v = .tuple #[.slice (A0) (r.1.length) (c0),.bool (r.2)]∧Ln=[.r A0 r.1.length c0 66 9 (r.1.flatMap Ag)]∧True:=by
 have ha0':=Has.up0 ha0;have ha1':=Has.up0 ha1;refine CtL.mk 55 Tryz.func133 rfl Tryz.ntmps133 (by kernel_rfl) rfl ?_;show T 55 _ [(0,.slice (A0_0) (p0.length) (c0_0)),(1,.slice (A0_1) (p1.length) (c0_1))] _;unfold Nm at hx;refine Y9 ?_;refine Ak (Cl rfl 66 Tryz.underlying47) rfl ?_;refine T_x (Ws Tryz.prog 3 Bn Ci Tryz.underlying228 rfl rfl (fun g1=>?_));refine Y3 ?_;refine Tj (γ:=Unit) hx (fun s3 y3=>[(1,.slice (A0_1) (p1.length) (c0_1)),(6,.map (some g1))]) (fun s3 y3=>[Ax Tryz.prog 3 Bn Ci g1 (s3)]++[.old w]) (fun s3 y3=>True) (fun s3 y3 hx0 hG0=>?_) (fun j3 hx=>?_)
 ·refine Y3 ?_;refine Ak (Cl rfl 3 Tryz.underlying48) rfl ?_;obtain ⟨h0,hx1⟩:=Bf hx0;refine T_x (Ah5 (sz:=9) (z:=.agg #[.int .i64 (0),.int .i64 (0),.int .i64 (0),.int .i64 (0),.int .i64 (0),.int .i64 (0),.int .i64 (0),.int .i64 (0),.int .i64 (0)]) Ag (⟨0,0,0,(⟨0,0⟩:Bl),0,0,0,0⟩:Aa) rfl rfl rfl h0.1 Tryz.underlying47 (show Tryz.prog.info? 66=some Tryz.t66 from by kernel_rfl) (by kernel_rfl) (by rfl) (by kernel_rfl) (by decide) (fun _=>rfl) (show 72*_≤_ from h0.2) (by decide) rfl (fun A1 c1=>?_));refine Y3 ?_;refine Tj (γ:=(Option Addr) × Nat) hx1 (fun s0 y0=>[(9,.slice (y0.1) (s0.length) (y0.2))]) (fun s0 y0=>[.r (y0.1) (s0.length) (y0.2) 66 9 (s0.flatMap Ag)]++[.old w]) (fun s0 y0=>True) (fun s0 y0 hx2 hG1=>?_) (fun j0 hx1=>?_)
  ·refine Y3 ?_;obtain ⟨h1,hx3⟩:=Bf hx2;refine T_h (Tu (p:=(ptIn s0)) (arg:=fun x=>.agg #[.int .i64 (x.Id),.int .i64 (x.X),.int .i64 (x.Y),.int .i64 (x.Z.Lo),.int .i64 (x.Z.Hi),.int .i64 (x.Wide),.int .i64 (x.Num),.int .i64 (x.Of),.int .i64 (x.Class)]) (cf:=Ik) s0 (by exact ⟨_,Tryz.func92,rfl,rfl⟩) (fun w hok hcm=>Afz s0 h1.1 h1.2 w hok hcm ⟨_,Tryz.func206,rfl,rfl⟩) (fun ys=>[.r (y0.1) (s0.length) (y0.2) 66 9 ys]++[.old w]) (fun ys=>by exact .here) (fun ys W hW x y px py=>⟨[.agg #[.int .i64 (x.Id),.int .i64 (x.X),.int .i64 (x.Y),.int .i64 (x.Z.Lo),.int .i64 (x.Z.Hi),.int .i64 (x.Wide),.int .i64 (x.Num),.int .i64 (x.Of),.int .i64 (x.Class)],.agg #[.int .i64 (y.Id),.int .i64 (y.X),.int .i64 (y.Y),.int .i64 (y.Z.Lo),.int .i64 (y.Z.Hi),.int .i64 (y.Wide),.int .i64 (y.Num),.int .i64 (y.Of),.int .i64 (y.Class)]],rfl,Abu x y  (Am8 px py) W⟩) rfl rfl rfl ?_);refine Y10 ?_;have hn0:s0.length=(Be Ik s0).length:=(by rw [Dy]);refine Ew (.here) (e':=.r (y0.1) ((Be Ik s0).length) (y0.2) 66 9 ((Be Ik s0).flatMap Ag)) (by first | (rw [← hn0];done) | rfl) ?_;refine Fc (s:=4) (v':=.slice (y0.1) ((Be Ik s0).length) (y0.2)) rfl (by have hn1:(s0.length)=(Be Ik s0).length:=(by rw [Dy]);first | (rw [← hn1];done) | rfl) ?_;obtain rfl:=Option.some.inj hx3;exact Cc (rs:=[.tmp 4,.tmp 5]) Tryz.results133 (.tmp rfl (.tmp rfl (.nil))) (Ln:=[.r (y0.1) ((Be Ik s0).length) (y0.2) 66 9 ((Be Ik s0).flatMap Ag)]) ⟨y0.1,y0.2,rfl,rfl,trivial⟩ (Ay rfl (Cb)) (by exact .pick 0 rfl (.refl))
  ·refine Y3 ?_;refine Ak (Cl rfl 3 Tryz.underlying48) rfl ?_;refine Y4 ?_;obtain ⟨t0,hl0,ho0⟩:=Ad hx1
   have hn2:0=(([]:List Aa)).length:=by simp [] <;> omega
   refine Ew (.here) (e':=.r (A1) ((([]:List Aa)).length) (c1) 66 9 ((([]:List Aa)).flatMap Ag)) (by first | (rw [← hn2];done) | rfl) ?_;refine Fc (s:=9) (v':=.slice (A1) ((([]:List Aa)).length) (c1)) rfl (by have hn3:(0)=(([]:List Aa)).length:=(by simp [] <;> omega);first | (rw [← hn3];done) | rfl) ?_;refine Lp (σ:=(List (Int × Aa)) × (List Aa) × Int) (γ:=(Option Addr) × Nat) hl0 (fun s1 y1=>[(6,.map (some g1)),(9,.slice (y1.1) (s1.2.1.length) (y1.2)),(31,.slice (A0_1) (p1.length) (c0_1)),(32,.int .i64 (((p1.length:Nat):Int))),(33,.int .i64 (s1.2.2))]) (fun s1 y1=>[.r (y1.1) (s1.2.1.length) (y1.2) 66 9 (s1.2.1.flatMap Ag),Ax Tryz.prog 3 Bn Ci g1 (s1.1)]++[.old w]) (fun s1 y1=>True) (A1,c1) trivial (by exact .pick 0 rfl (.pick 0 rfl (.refl))) ?_;intro s1 y1 hG2 x0 hx4 ht0;unfold Iz at hx4;refine Y6 ?_;refine Ti hx4 (s:=34) rfl (fun h2 hx5=>?_) (fun h2 hx6=>?_)
   ·refine Y7 ?_;obtain ⟨x1,h3,hx7⟩:=Ad hx5;have hw0:=Has.low (E:=[]) ha1' hK;obtain ⟨b0,o0,j1,hA0,hj0,hl1,hp0⟩:=Has.at_idx hw0 h3;refine Ak (Bh rfl rfl hA0 (j:=j1) hj0 hl1 Lh) rfl ?_;refine Ak (Bz rfl hp0 (sb 2) rfl one3) rfl ?_;refine Y7 ?_;obtain ⟨h4,hx8⟩:=Bf hx7;obtain ⟨x2,h5,hx9⟩:=Ad hx8;refine Ak (Jo (x:=x1) (i:=1) (vv:=.agg #[.int .i64 (x2.Id),.int .i64 (x2.X),.int .i64 (x2.Y),.int .i64 (x2.Z.Lo),.int .i64 (x2.Z.Hi),.int .i64 (x2.Wide),.int .i64 (x2.Num),.int .i64 (x2.Of),.int .i64 (x2.Class)]) key3 Tryz.underlying228 (fun w=>by kernel_rfl) Fp rfl rfl rfl rfl Ek (isk3 x1 h4) h5 rfl) rfl ?_;refine Y3 ?_;refine T_x (Bm Vs rfl (fun g0=>?_));refine T_h (Bc rfl rfl rfl (.here) (.put (.put (.put (.put (.put (.put (.put (.put (.put (.done)))))))))) rfl (List.cons_ne_nil _ _) Fd.2 ?_);refine Y10 ?_;refine Iv (s:=44) rfl (fun h6=>?_) (fun h6=>?_)
    ·have hx10:=Dk h6 hx9;refine Y11 ?_;obtain rfl:=Cv ht0 hx10;refine Y3 ?_;refine Bq 66 9 ?_;obtain rfl:=Option.some.inj ho0;exact Cc (rs:=[.tmp 4,.tmp 5]) Tryz.results133 (.tmp rfl (.tmp rfl (.nil))) (Ln:=[.r (none) (0) (0) 66 9 ((([]:List Aa)).flatMap Ag)]) ⟨none,0,rfl,rfl,trivial⟩ (Ay rfl (Cb)) (by exact .pick 0 rfl (.drop 0 rfl (.drop 0 rfl (.drop 0 rfl (.refl)))))
    ·have hx11:=De h6 hx9;refine Y7 ?_;obtain ⟨h7,hx12⟩:=Bf hx11;refine T_h (Ta (x:=x1) key3 Fp Tryz.underlying228 rfl rfl rfl (.there (.there (.here))) (isk3 x1 h7) ?_);refine Y4 ?_;refine Ak (Bb rfl (i:=0) rfl rfl Fd) rfl ?_;refine T_x (Bx rfl (By _ _ _ _ _ _ _ _ _) rfl (fun g2=>?_));obtain ⟨h8,hx13⟩:=Bf hx12;refine T_h (Di Ag (s1.2.1) [x2] rfl rfl rfl Ah0 (fun _=>rfl) (i':=0) rfl rfl rfl rfl h8 rfl (fun _ _=>.there (.there (.here))) (fun _ _=>.drop .refl) (by decide) (fun A2 c2=>?_));refine Y8 ?_;exact Rp (mdel s1.1 x1,s1.2.1++[x2],w64 (s1.2.2+1)) (A2,c2) hx13 trivial (by exact .pick 1 rfl (.pick 1 rfl (.drop 0 rfl (.refl))))
   ·refine Y3 ?_;obtain rfl:=Cv ht0 hx6;refine Y2 ?_;exact Mt s1.2.1 (y1.1,y1.2) ho0 trivial (by exact .pick 0 rfl (.drop 0 rfl (.refl)))
 ·refine Y3 ?_;refine Ak (Cl rfl 66 Tryz.underlying47) rfl ?_;refine Y4 ?_;obtain ⟨t1,hl2,ho1⟩:=Ad hx;refine Lp (σ:=(List (Int × Aa)) × Int) (γ:=Unit) hl2 (fun s2 y2=>[(1,.slice (A0_1) (p1.length) (c0_1)),(6,.map (some g1)),(17,.slice (A0_0) (p0.length) (c0_0)),(18,.int .i64 (((p0.length:Nat):Int))),(19,.int .i64 (s2.2))]) (fun s2 y2=>[Ax Tryz.prog 3 Bn Ci g1 (s2.1)]++[.old w]) (fun s2 y2=>True) () trivial (by exact .pick 0 rfl (.refl)) ?_;intro s2 y2 hG3 x3 hx22 ht1;unfold Lj at hx22;refine Y6 ?_;refine Ti hx22 (s:=20) rfl (fun h9 hx24=>?_) (fun h9 hx25=>?_)
  ·refine Y7 ?_;obtain ⟨x4,h27,hx28⟩:=Ad hx24;have hw1:=Has.low (E:=[]) ha0' hK;obtain ⟨b1,o1,j2,hA1,hj1,hl3,hp1⟩:=Has.at_idx hw1 h27;refine Ak (Bh rfl rfl hA1 (j:=j2) hj1 hl3 Vr) rfl ?_;refine Ak (Dz rfl hp1 (sb 1) rfl Fd) rfl ?_;refine T_x (Bm Vs rfl (fun g3=>?_));refine T_h (Bc rfl rfl rfl (.here) (.put (.put (.put (.put (.put (.put (.put (.put (.put (.done)))))))))) rfl (List.cons_ne_nil _ _) Fd.2 ?_);refine Y4 ?_;refine Ak (Au rfl Rd rfl) rfl ?_;refine Ak (Ar rfl (i:=0) rfl rfl one3) rfl ?_;refine Ak (Bb rfl (i:=0) rfl rfl Fd) rfl ?_;obtain ⟨h38,hx39⟩:=Bf hx28;obtain ⟨h40,hx41⟩:=Bf hx39;refine T_h (Mu (x:=x4.Id) (y:=x4) key3 Fp Tryz.underlying228 rfl rfl rfl rfl rfl (.there (.here)) (isk3 x4.Id h38) h40 ?_);refine Y7 ?_;exact Rp (mput s2.1 x4.Id x4,w64 (s2.2+1)) () hx41 trivial (by exact .pick 1 rfl (.drop 0 rfl (.refl)))
  ·refine Y3 ?_;obtain rfl:=Cv ht1 hx25;refine Y2 ?_;exact Mt s2.1 () ho1 trivial (by exact .pick 0 rfl (.refl))
set_option maxHeartbeats 1000000 in
set_option maxRecDepth 100000 in
instance label_chosen_c (p0:List Aa) (p1:List Int):Con (Nm p0 p1) Tryz.prog 133 (fun K vs=>∃ (A0_0:Option Addr) (c0_0:Nat) (A0_1:Option Addr) (c0_1:Nat),vs=[.slice (A0_0) ((p0).length) (c0_0),.slice (A0_1) ((p1).length) (c0_1)]∧Has K A0_0 (p0).length c0_0 9 Ag (p0)∧Has K A0_1 (p1).length c0_1 1 Ba (p1)∧True) (fun _ r=>fun v Ln=>∃ (A0:Option Addr) (c0:Nat),v = .tuple #[.slice (A0) ((r.1).length) (c0),.bool (r.2)]∧Ln=[.r A0 (r.1).length c0 66 9 ((r.1).flatMap Ag)]∧True):=⟨by
 rintro K _ r ⟨A0_0,c0_0,A0_1,c0_1,rfl,ha0,ha1,-⟩ hx w hK;exact Aek p0 p1 ha0 ha1 hx w hK⟩
set_option maxHeartbeats 1000000 in
set_option maxRecDepth 100000 in
instance Ag7 (p0:List Aa):Con (Nb p0) Tryz.prog 134 (fun K vs=>∃ (A0_0:Option Addr) (c0_0:Nat),vs=[.slice (A0_0) ((p0).length) (c0_0)]∧Has K A0_0 (p0).length c0_0 9 Ag (p0)∧True) (fun _ r=>fun v Ln=>∃ (A0:Option Addr) (c0:Nat) (A2:Option Addr) (c2:Nat) (A4:Option Addr) (c4:Nat),v = .tuple #[.agg #[.slice (A0) ((r.1.V).length) (c0),.slice (A2) ((r.1.T).length) (c2),.slice (A4) ((r.1.Lines).length) (c4)],.int .i64 (r.2)]∧Ln=[.r A0 (r.1.V).length c0 34 4 ((r.1.V).flatMap Al),.r A2 (r.1.T).length c2 26 3 ((r.1.T).flatMap Az),.r A4 (r.1.Lines).length c4 97 2 ((r.1.Lines).flatMap Ao)]∧True):=⟨by
 rintro K _ r ⟨A0_0,c0_0,rfl,ha0,-⟩ hx w hK;replace ha0:=Has.lo ha0 hK;unfold Nb at hx;refine CtS Tryz.ntmps134 Tryz.results134 ?_;refine pre ?_;intros;rename_i hx
 apply Jr (γ:=(Option Addr) × Nat) hx [2] (fun s3 y3 f=>(4,.slice (y3.1) ((s3).length) (y3.2))::f) [1,999] (fun s3 y3 l=>.r (y3.1) ((s3).length) (y3.2) 34 4 ((s3).flatMap Al)::l);exact kk
 ·intro s3 y3 hx;exact au
 ·intro _ hx;refine pre ?_;intros;rename_i hx
  apply Lr (γ:=(Option Addr) × Nat) hx [2,12,13] (fun s29 y29 f=>(4,.slice (y29.1) ((s29.1).length) (y29.2))::(14,.int .i64 (s29.2))::f) [1,999] (fun s29 y29 l=>.r (y29.1) ((s29.1).length) (y29.2) 34 4 ((s29.1).flatMap Al)::l) (_,_);exact kk;exact sk;intro s29 y29 x29 hx _;unfold Na at hx
  exact au⟩
theorem Af0 (p0:List Aa) {K:List Ent} {A0_0:Option Addr} {c0_0:Nat} (ha0:Has K A0_0 (p0).length c0_0 9 Ag (p0)) {r:Bd × Int} (hx:Nb p0=some r) (w:World) (hK:∀ e∈K,Ent.ok w e):CtL Tryz.prog 134 [.slice (A0_0) ((p0).length) (c0_0)] w fun v Ln=>∃ (A0:Option Addr) (c0:Nat) (A2:Option Addr) (c2:Nat) (A4:Option Addr) (c4:Nat),v = .tuple #[.agg #[.slice (A0) ((r.1.V).length) (c0),.slice (A2) ((r.1.T).length) (c2),.slice (A4) ((r.1.Lines).length) (c4)],.int .i64 (r.2)]∧Ln=[.r A0 (r.1.V).length c0 34 4 ((r.1.V).flatMap Al),.r A2 (r.1.T).length c2 26 3 ((r.1.T).flatMap Az),.r A4 (r.1.Lines).length c4 97 2 ((r.1.Lines).flatMap Ao)]∧True:=(Ag7 p0).h K _ _ ⟨_,_,rfl,ha0,trivial⟩ hx w hK
set_option maxRecDepth 100000 in
instance Abv (p0:List Aa) (p1:List Int):Con (Et p0 p1) Tryz.prog 64 (fun K vs=>∃ (A0_0:Option Addr) (c0_0:Nat) (A0_1:Option Addr) (c0_1:Nat),vs=[.slice (A0_0) ((p0).length) (c0_0),.slice (A0_1) ((p1).length) (c0_1)]∧Has K A0_0 (p0).length c0_0 9 Ag (p0)∧Has K A0_1 (p1).length c0_1 1 Ba (p1)∧True) (fun _ r=>fun v Ln=>∃ (A0:Option Addr) (c0:Nat) (A2:Option Addr) (c2:Nat) (A4:Option Addr) (c4:Nat),v = .tuple #[.agg #[.slice (A0) ((r.1.V).length) (c0),.slice (A2) ((r.1.T).length) (c2),.slice (A4) ((r.1.Lines).length) (c4)],.int .i64 (r.2)]∧Ln=[.r A0 (r.1.V).length c0 34 4 ((r.1.V).flatMap Al),.r A2 (r.1.T).length c2 26 3 ((r.1.T).flatMap Az),.r A4 (r.1.Lines).length c4 97 2 ((r.1.Lines).flatMap Ao)]∧True):=⟨by
 rintro K _ r ⟨A0_0,c0_0,A0_1,c0_1,rfl,ha0,ha1,-⟩ hx w hK;replace ha0:=Has.lo ha0 hK;replace ha1:=Has.lo ha1 hK;unfold Et at hx;refine CtS Tryz.ntmps64 Tryz.results64 ?_;exact au⟩
theorem Te (p0:List Aa) (p1:List Int) {K:List Ent} {A0_0:Option Addr} {c0_0:Nat} {A0_1:Option Addr} {c0_1:Nat} (ha0:Has K A0_0 (p0).length c0_0 9 Ag (p0)) (ha1:Has K A0_1 (p1).length c0_1 1 Ba (p1)) {r:Bd × Int} (hx:Et p0 p1=some r) (w:World) (hK:∀ e∈K,Ent.ok w e):CtL Tryz.prog 64 [.slice (A0_0) ((p0).length) (c0_0),.slice (A0_1) ((p1).length) (c0_1)] w fun v Ln=>∃ (A0:Option Addr) (c0:Nat) (A2:Option Addr) (c2:Nat) (A4:Option Addr) (c4:Nat),v = .tuple #[.agg #[.slice (A0) ((r.1.V).length) (c0),.slice (A2) ((r.1.T).length) (c2),.slice (A4) ((r.1.Lines).length) (c4)],.int .i64 (r.2)]∧Ln=[.r A0 (r.1.V).length c0 34 4 ((r.1.V).flatMap Al),.r A2 (r.1.T).length c2 26 3 ((r.1.T).flatMap Az),.r A4 (r.1.Lines).length c4 97 2 ((r.1.Lines).flatMap Ao)]∧True:=(Abv p0 p1).h K _ _ ⟨_,_,_,_,rfl,ha0,ha1,trivial⟩ hx w hK
end Go.Proofs.YtbkobeeileemjaaGreat
