/- Walks of the program, with their plain functions: points by their Ids. -/
import Derived.Test.YtbkobeeileemjaaGreatD5
import Derived.Test.YtbkobeeileemjaaGreatSort2
namespace Go.Proofs.YtbkobeeileemjaaGreat
open Go Go.RowKit

noncomputable def Ql (p0:Aa) (p1:Aa):Option Int :=
 some (w64 (p0.Id-p1.Id))
set_option maxRecDepth 100000 in
theorem Abn (p0:Aa) (p1:Aa)  {r:Int} (hx:Ql p0 p1=some r) (w:World):CtL Tryz.prog 206 [.agg #[.int .i64 (p0.Id),.int .i64 (p0.X),.int .i64 (p0.Y),.int .i64 (p0.Z.Lo),.int .i64 (p0.Z.Hi),.int .i64 (p0.Wide),.int .i64 (p0.Num),.int .i64 (p0.Of),.int .i64 (p0.Class)],.agg #[.int .i64 (p1.Id),.int .i64 (p1.X),.int .i64 (p1.Y),.int .i64 (p1.Z.Lo),.int .i64 (p1.Z.Hi),.int .i64 (p1.Wide),.int .i64 (p1.Num),.int .i64 (p1.Of),.int .i64 (p1.Class)]] w fun v Ln=>v = .int .i64 (r)∧Ln=[]∧True:=by
 refine CtL.mk 10 Tryz.func206 rfl Tryz.ntmps206 (by kernel_rfl) rfl ?_;show T 10 _ [(0,.agg #[.int .i64 (p0.Id),.int .i64 (p0.X),.int .i64 (p0.Y),.int .i64 (p0.Z.Lo),.int .i64 (p0.Z.Hi),.int .i64 (p0.Wide),.int .i64 (p0.Num),.int .i64 (p0.Of),.int .i64 (p0.Class)]),(1,.agg #[.int .i64 (p1.Id),.int .i64 (p1.X),.int .i64 (p1.Y),.int .i64 (p1.Z.Lo),.int .i64 (p1.Z.Hi),.int .i64 (p1.Wide),.int .i64 (p1.Num),.int .i64 (p1.Of),.int .i64 (p1.Class)])] _;unfold Ql at hx;refine Y2 ?_;refine T_x (Bl rfl rfl rfl (fun g1=>?_));refine T_x (Bl rfl rfl rfl (fun g2=>?_));refine Y5 ?_;refine Af (Ah rfl Jz rfl) rfl ?_;refine Af (Ag rfl (i:=1) rfl rfl one3) rfl ?_;refine Af (Ah rfl Jz rfl) rfl ?_;refine Af (Ag rfl (i:=0) rfl rfl one3) rfl ?_;refine Y5 ?_;obtain rfl:=Option.some.inj hx;exact Av (rs:=[.tmp 4]) Tryz.results206 (.tmp rfl (.nil)) (Ln:=[]) ⟨rfl,rfl,trivial⟩ (Ax) (by exact .drop 0 rfl (.drop 0 rfl (.refl)))
end Go.Proofs.YtbkobeeileemjaaGreat
/- Points, sorted by their Ids. -/
namespace Go.Proofs.YtbkobeeileemjaaGreat
open Go Go.RowKit Go.Shelf Go.Lib Go.Sort
def Agh (l:List Aa):Prop:=(l.map (·.Id)).Nodup∧∀ x∈l,0≤x.Id∧x.Id≤1152921504606846976
/-- A point of a list whose Ids are distinct. -/
def ptIn (l:List Aa) (x:Aa):Prop:=x∈l∧Agh l
noncomputable instance (l:List Aa) (x:Aa):Decidable (ptIn l x):=Classical.propDecidable _
def Om (x y:Aa):Int:=x.Id-y.Id
theorem Ajw {l:List Aa} (h:(l.map (·.Id)).Nodup) {x y:Aa} (hx:x∈l) (hy:y∈l) (e:x.Id=y.Id):x=y:=by
 obtain ⟨i,hi,rfl⟩:=List.getElem_of_mem hx
 obtain ⟨j,hj,rfl⟩:=List.getElem_of_mem hy
 have:=List.pairwise_iff_getElem.1 (List.pairwise_map.1 h)
 rcases Nat.lt_trichotomy i j with g | g | g
 ·exact absurd e (this i j hi hj g)
 ·subst g;rfl
 ·exact absurd e.symm (this j i hj hi g)
theorem totP (l:List Aa):Vd (ptIn l) Om where
 irr x _:=by unfold Om;omega
 trans x y z _ _ _ h1 h2:=by unfold Om at *;omega
 tot x y hx hy h1 h2:=Ajw hx.2.1 hx.1 hy.1 (by unfold Om at h1 h2;omega)
theorem Ajx {l:List Aa} {x y:Aa} (hx:ptIn l x) (hy:ptIn l y):Ql x y=some (Om x y):=by
 have h1:=hx.2.2 x hx.1
 have h2:=hy.2.2 y hy.1
 unfold Ql Om
 rw [Bw (by omega) (by omega)]
theorem Ajy (l:List Aa) (hb:l.length≤1000000000) (hp:∀ x∈l,ptIn l x) {A:Option Addr} {m c:Nat} {t:TypeId} {gf:Nat} {cb:Array Value} (w:World) (hok:Ent.ok w (.r A m c t 9 (l.flatMap Ao)))
  (hcmp:Abp Tryz.prog (ptIn l) Om (fun x=>.agg #[.int .i64 x.Id,.int .i64 x.X,.int .i64 x.Y,.int .i64 x.Z.Lo,.int .i64 x.Z.Hi,.int .i64 x.Wide,.int .i64 x.Num,.int .i64 x.Of,.int .i64 x.Class]) A m c t 9 gf cb w (l.flatMap Ao)) (eg:Sy Tryz.prog gf):Abo Tryz.prog 92 A m c t 9 gf cb w (l.flatMap Ao) ((Br Om l).flatMap Ao) :=
 Aak (ρ:=Tryz.laysSortP_ren) Tryz.laysSortP (k:=9) Tryz.isAgg66 Tryz.sizeOf66 (enc:=Ao) (fun _=>rfl) (by decide) (fun x v hv=>by simp [Ao] at hv;rcases hv with rfl | rfl | rfl | rfl | rfl | rfl | rfl | rfl | rfl <;> rfl) (totP l) (Ys eg) l hb hp w hok hcmp
end Go.Proofs.YtbkobeeileemjaaGreat
