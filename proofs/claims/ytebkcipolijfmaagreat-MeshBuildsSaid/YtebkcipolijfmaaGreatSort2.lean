/-
 DERIVED: THE SHELF's CONTRACTS AT THIS DUMP,IN PLAIN WORDS (tools/lay-plain.mjs out of 'YtebkcipolijfmaaGreatSl0.lean',which tools/lay-shelf.mjs wrote): THE SAME DECLARATIONS UNDER THE SAME NAMES: 'import','namespace','open','def','theorem' AND NOTHING ELSE: no command of the shelf's: FOR A HAND-IN. Each laying: the table of numbers ('.._ren') and one theorem,a field a fact of the dump's own or the kernel's comparison;each contract: ONE APPLICATION.
-/
import Derived.Shelf.SlSortCmp.NoneTotal
import Derived.Ground.SlsfProg
import Derived.Ground.NamesProg
import Derived.Test.YtebkcipolijfmaaGreatProg
import Derived.Test.YtebkcipolijfmaaGreatD3
namespace Go.Proofs
open Go.Shelf
def Tryz.laysSort2_ren:Go.Shelf.Ren:=⟨fun | 6=>123 | 15=>184 | 14=>196 | 28=>234 | 29=>235 | 20=>243 | 21=>244 | 22=>245 | 23=>246 | 24=>247 | 25=>248 | 26=>249 | 27=>250 | 46=>293 | 47=>285 | 48=>286 | 49=>294 | 50=>295 | 57=>313 | n=>n,fun | 22=>23 | 24=>48 | 25=>180 | 3=>3 | 39=>193 | 0=>0 | 53=>102 | 55=>227 | 4=>4 | 46=>265 | 45=>264 | 50=>188 | 5=>5 | 9=>9 | 66=>306 | 70=>310 | 76=>330 | 77=>49 | n=>n,fun | n=>n⟩
theorem Tryz.laysSort2:Go.Proofs.SlLaysF0.n6 Tryz.prog Tryz.laysSort2_ren:={
 mixed:=by kernel_rfl
 f6:=⟨Tryz.f123.name,by decide,Tryz.func123.trans (congrArg some (by kernel_rfl))⟩
 f14:=⟨Tryz.f196.name,by decide,Tryz.func196.trans (congrArg some (by kernel_rfl))⟩
 f15:=Tryz.func184.trans (congrArg some (by kernel_rfl))
 f20:=⟨Tryz.f243.name,by decide,Tryz.func243.trans (congrArg some (by kernel_rfl))⟩
 f21:=⟨Tryz.f244.name,by decide,Tryz.func244.trans (congrArg some (by kernel_rfl))⟩
 f22:=⟨Tryz.f245.name,by decide,Tryz.func245.trans (congrArg some (by kernel_rfl))⟩
 f23:=⟨Tryz.f246.name,by decide,Tryz.func246.trans (congrArg some (by kernel_rfl))⟩
 f24:=⟨Tryz.f247.name,by decide,Tryz.func247.trans (congrArg some (by kernel_rfl))⟩
 f25:=⟨Tryz.f248.name,by decide,Tryz.func248.trans (congrArg some (by kernel_rfl))⟩
 f26:=⟨Tryz.f249.name,by decide,Tryz.func249.trans (congrArg some (by kernel_rfl))⟩
 f27:=⟨Tryz.f250.name,by decide,Tryz.func250.trans (congrArg some (by kernel_rfl))⟩
 f28:=Tryz.func234.trans (congrArg some (by kernel_rfl))
 f29:=Tryz.func235.trans (congrArg some (by kernel_rfl))
 f46:=⟨Tryz.f293.name,by decide,Tryz.func293.trans (congrArg some (by kernel_rfl))⟩
 f47:=Tryz.func285.trans (congrArg some (by kernel_rfl))
 f48:=Tryz.func286.trans (congrArg some (by kernel_rfl))
 f49:=⟨Tryz.f294.name,by decide,Tryz.func294.trans (congrArg some (by kernel_rfl))⟩
 f50:=⟨Tryz.f295.name,by decide,Tryz.func295.trans (congrArg some (by kernel_rfl))⟩
 f57:=⟨Tryz.f313.name,by decide,Tryz.func313.trans (congrArg some (by kernel_rfl))⟩
 t0:=Tryz.underlying0
 a0:=Tryz.isAgg0
 z0:=Tryz.sizeOf0
 v0:=Tryz.zeroValue0
 t3:=Tryz.underlying3
 a3:=Tryz.isAgg3
 z3:=Tryz.sizeOf3
 v3:=Tryz.zeroValue3
 t4:=Tryz.underlying4
 a4:=Tryz.isAgg4
 z4:=Tryz.sizeOf4
 v4:=Tryz.zeroValue4
 t5:=Tryz.underlying5
 a5:=Tryz.isAgg5
 z5:=Tryz.sizeOf5
 v5:=Tryz.zeroValue5
 t9:=Tryz.underlying9
 a9:=Tryz.isAgg9
 z9:=Tryz.sizeOf9
 v9:=Tryz.zeroValue9
 t22:=Tryz.underlying23
 a22:=Tryz.isAgg23
 z22:=Tryz.sizeOf23
 v22:=Tryz.zeroValue23
 t25:=Tryz.underlying180
 a25:=Tryz.isAgg180
 z25:=Tryz.sizeOf180
 v25:=Tryz.zeroValue180
 t39:=Tryz.underlying193
 a39:=Tryz.isAgg193
 z39:=Tryz.sizeOf193
 v39:=Tryz.zeroValue193
 t45:=Tryz.underlying264
 a45:=Tryz.isAgg264
 z45:=Tryz.sizeOf264
 v45:=Tryz.zeroValue264
 t46:=Tryz.underlying265
 a46:=Tryz.isAgg265
 z46:=Tryz.sizeOf265
 v46:=Tryz.zeroValue265
 t50:=Tryz.underlying188
 a50:=Tryz.isAgg188
 z50:=Tryz.sizeOf188
 v50:=Tryz.zeroValue188
 t53:=Tryz.underlying102
 a53:=Tryz.isAgg102
 z53:=Tryz.sizeOf102
 v53:=Tryz.zeroValue102
 t55:=Tryz.underlying227
 a55:=Tryz.isAgg227
 z55:=Tryz.sizeOf227
 v55:=Tryz.zeroValue227
 t66:=Tryz.underlying306
 a66:=Tryz.isAgg306
 z66:=Tryz.sizeOf306
 v66:=Tryz.zeroValue306
 t70:=Tryz.underlying310
 a70:=Tryz.isAgg310
 z70:=Tryz.sizeOf310
 v70:=Tryz.zeroValue310
 t76:=Tryz.underlying330
 a76:=Tryz.isAgg330
 z76:=Tryz.sizeOf330
 v76:=Tryz.zeroValue330
 t77:=Tryz.underlying49
 a77:=Tryz.isAgg49
 z77:=Tryz.sizeOf49
 v77:=Tryz.zeroValue49 }
def Tryz.laysSort3_ren:Go.Shelf.Ren:=⟨fun | 6=>135 | 15=>184 | 14=>200 | 28=>234 | 29=>235 | 20=>260 | 21=>261 | 22=>262 | 23=>263 | 24=>264 | 25=>265 | 26=>266 | 27=>267 | 46=>299 | 47=>285 | 48=>286 | 49=>300 | 50=>301 | 57=>315 | n=>n,fun | 22=>30 | 24=>35 | 25=>191 | 3=>3 | 39=>193 | 0=>0 | 53=>102 | 55=>227 | 4=>4 | 46=>265 | 45=>264 | 50=>188 | 5=>5 | 9=>9 | 66=>306 | 70=>310 | 76=>330 | 77=>49 | n=>n,fun | n=>n⟩
theorem Tryz.laysSort3:Go.Proofs.SlLaysF0.n6 Tryz.prog Tryz.laysSort3_ren:={
 mixed:=by kernel_rfl
 f6:=⟨Tryz.f135.name,by decide,Tryz.func135.trans (congrArg some (by kernel_rfl))⟩
 f14:=⟨Tryz.f200.name,by decide,Tryz.func200.trans (congrArg some (by kernel_rfl))⟩
 f15:=Tryz.func184.trans (congrArg some (by kernel_rfl))
 f20:=⟨Tryz.f260.name,by decide,Tryz.func260.trans (congrArg some (by kernel_rfl))⟩
 f21:=⟨Tryz.f261.name,by decide,Tryz.func261.trans (congrArg some (by kernel_rfl))⟩
 f22:=⟨Tryz.f262.name,by decide,Tryz.func262.trans (congrArg some (by kernel_rfl))⟩
 f23:=⟨Tryz.f263.name,by decide,Tryz.func263.trans (congrArg some (by kernel_rfl))⟩
 f24:=⟨Tryz.f264.name,by decide,Tryz.func264.trans (congrArg some (by kernel_rfl))⟩
 f25:=⟨Tryz.f265.name,by decide,Tryz.func265.trans (congrArg some (by kernel_rfl))⟩
 f26:=⟨Tryz.f266.name,by decide,Tryz.func266.trans (congrArg some (by kernel_rfl))⟩
 f27:=⟨Tryz.f267.name,by decide,Tryz.func267.trans (congrArg some (by kernel_rfl))⟩
 f28:=Tryz.func234.trans (congrArg some (by kernel_rfl))
 f29:=Tryz.func235.trans (congrArg some (by kernel_rfl))
 f46:=⟨Tryz.f299.name,by decide,Tryz.func299.trans (congrArg some (by kernel_rfl))⟩
 f47:=Tryz.func285.trans (congrArg some (by kernel_rfl))
 f48:=Tryz.func286.trans (congrArg some (by kernel_rfl))
 f49:=⟨Tryz.f300.name,by decide,Tryz.func300.trans (congrArg some (by kernel_rfl))⟩
 f50:=⟨Tryz.f301.name,by decide,Tryz.func301.trans (congrArg some (by kernel_rfl))⟩
 f57:=⟨Tryz.f315.name,by decide,Tryz.func315.trans (congrArg some (by kernel_rfl))⟩
 t0:=Tryz.underlying0
 a0:=Tryz.isAgg0
 z0:=Tryz.sizeOf0
 v0:=Tryz.zeroValue0
 t3:=Tryz.underlying3
 a3:=Tryz.isAgg3
 z3:=Tryz.sizeOf3
 v3:=Tryz.zeroValue3
 t4:=Tryz.underlying4
 a4:=Tryz.isAgg4
 z4:=Tryz.sizeOf4
 v4:=Tryz.zeroValue4
 t5:=Tryz.underlying5
 a5:=Tryz.isAgg5
 z5:=Tryz.sizeOf5
 v5:=Tryz.zeroValue5
 t9:=Tryz.underlying9
 a9:=Tryz.isAgg9
 z9:=Tryz.sizeOf9
 v9:=Tryz.zeroValue9
 t22:=Tryz.underlying30
 a22:=Tryz.isAgg30
 z22:=Tryz.sizeOf30
 v22:=Tryz.zeroValue30
 t25:=Tryz.underlying191
 a25:=Tryz.isAgg191
 z25:=Tryz.sizeOf191
 v25:=Tryz.zeroValue191
 t39:=Tryz.underlying193
 a39:=Tryz.isAgg193
 z39:=Tryz.sizeOf193
 v39:=Tryz.zeroValue193
 t45:=Tryz.underlying264
 a45:=Tryz.isAgg264
 z45:=Tryz.sizeOf264
 v45:=Tryz.zeroValue264
 t46:=Tryz.underlying265
 a46:=Tryz.isAgg265
 z46:=Tryz.sizeOf265
 v46:=Tryz.zeroValue265
 t50:=Tryz.underlying188
 a50:=Tryz.isAgg188
 z50:=Tryz.sizeOf188
 v50:=Tryz.zeroValue188
 t53:=Tryz.underlying102
 a53:=Tryz.isAgg102
 z53:=Tryz.sizeOf102
 v53:=Tryz.zeroValue102
 t55:=Tryz.underlying227
 a55:=Tryz.isAgg227
 z55:=Tryz.sizeOf227
 v55:=Tryz.zeroValue227
 t66:=Tryz.underlying306
 a66:=Tryz.isAgg306
 z66:=Tryz.sizeOf306
 v66:=Tryz.zeroValue306
 t70:=Tryz.underlying310
 a70:=Tryz.isAgg310
 z70:=Tryz.sizeOf310
 v70:=Tryz.zeroValue310
 t76:=Tryz.underlying330
 a76:=Tryz.isAgg330
 z76:=Tryz.sizeOf330
 v76:=Tryz.zeroValue330
 t77:=Tryz.underlying49
 a77:=Tryz.isAgg49
 z77:=Tryz.sizeOf49
 v77:=Tryz.zeroValue49 }
def Tryz.laysSort1_ren:Go.Shelf.Ren:=⟨fun | 6=>129 | 15=>184 | 14=>197 | 28=>234 | 29=>235 | 20=>251 | 21=>252 | 22=>253 | 23=>254 | 24=>255 | 25=>256 | 26=>257 | 27=>258 | 46=>296 | 47=>285 | 48=>286 | 49=>297 | 50=>298 | 57=>314 | n=>n,fun | 22=>64 | 24=>3 | 25=>186 | 3=>3 | 39=>193 | 0=>0 | 53=>102 | 55=>227 | 4=>4 | 46=>265 | 45=>264 | 50=>188 | 5=>5 | 9=>9 | 66=>306 | 70=>310 | 76=>330 | 77=>49 | n=>n,fun | n=>n⟩
theorem Tryz.laysSort1:Go.Proofs.SlLaysF.n6 Tryz.prog Tryz.laysSort1_ren:={
 mixed:=by kernel_rfl
 f6:=⟨Tryz.f129.name,by decide,Tryz.func129.trans (congrArg some (by kernel_rfl))⟩
 f14:=⟨Tryz.f197.name,by decide,Tryz.func197.trans (congrArg some (by kernel_rfl))⟩
 f15:=Tryz.func184.trans (congrArg some (by kernel_rfl))
 f20:=⟨Tryz.f251.name,by decide,Tryz.func251.trans (congrArg some (by kernel_rfl))⟩
 f21:=⟨Tryz.f252.name,by decide,Tryz.func252.trans (congrArg some (by kernel_rfl))⟩
 f22:=⟨Tryz.f253.name,by decide,Tryz.func253.trans (congrArg some (by kernel_rfl))⟩
 f23:=⟨Tryz.f254.name,by decide,Tryz.func254.trans (congrArg some (by kernel_rfl))⟩
 f24:=⟨Tryz.f255.name,by decide,Tryz.func255.trans (congrArg some (by kernel_rfl))⟩
 f25:=⟨Tryz.f256.name,by decide,Tryz.func256.trans (congrArg some (by kernel_rfl))⟩
 f26:=⟨Tryz.f257.name,by decide,Tryz.func257.trans (congrArg some (by kernel_rfl))⟩
 f27:=⟨Tryz.f258.name,by decide,Tryz.func258.trans (congrArg some (by kernel_rfl))⟩
 f28:=Tryz.func234.trans (congrArg some (by kernel_rfl))
 f29:=Tryz.func235.trans (congrArg some (by kernel_rfl))
 f46:=⟨Tryz.f296.name,by decide,Tryz.func296.trans (congrArg some (by kernel_rfl))⟩
 f47:=Tryz.func285.trans (congrArg some (by kernel_rfl))
 f48:=Tryz.func286.trans (congrArg some (by kernel_rfl))
 f49:=⟨Tryz.f297.name,by decide,Tryz.func297.trans (congrArg some (by kernel_rfl))⟩
 f50:=⟨Tryz.f298.name,by decide,Tryz.func298.trans (congrArg some (by kernel_rfl))⟩
 f57:=⟨Tryz.f314.name,by decide,Tryz.func314.trans (congrArg some (by kernel_rfl))⟩
 t0:=Tryz.underlying0
 a0:=Tryz.isAgg0
 z0:=Tryz.sizeOf0
 v0:=Tryz.zeroValue0
 t3:=Tryz.underlying3
 a3:=Tryz.isAgg3
 z3:=Tryz.sizeOf3
 v3:=Tryz.zeroValue3
 t4:=Tryz.underlying4
 a4:=Tryz.isAgg4
 z4:=Tryz.sizeOf4
 v4:=Tryz.zeroValue4
 t5:=Tryz.underlying5
 a5:=Tryz.isAgg5
 z5:=Tryz.sizeOf5
 v5:=Tryz.zeroValue5
 t9:=Tryz.underlying9
 a9:=Tryz.isAgg9
 z9:=Tryz.sizeOf9
 v9:=Tryz.zeroValue9
 t22:=Tryz.underlying64
 a22:=Tryz.isAgg64
 z22:=Tryz.sizeOf64
 v22:=Tryz.zeroValue64
 a24:=Tryz.isAgg3
 z24:=Tryz.sizeOf3
 t25:=Tryz.underlying186
 a25:=Tryz.isAgg186
 z25:=Tryz.sizeOf186
 v25:=Tryz.zeroValue186
 t39:=Tryz.underlying193
 a39:=Tryz.isAgg193
 z39:=Tryz.sizeOf193
 v39:=Tryz.zeroValue193
 t45:=Tryz.underlying264
 a45:=Tryz.isAgg264
 z45:=Tryz.sizeOf264
 v45:=Tryz.zeroValue264
 t46:=Tryz.underlying265
 a46:=Tryz.isAgg265
 z46:=Tryz.sizeOf265
 v46:=Tryz.zeroValue265
 t50:=Tryz.underlying188
 a50:=Tryz.isAgg188
 z50:=Tryz.sizeOf188
 v50:=Tryz.zeroValue188
 t53:=Tryz.underlying102
 a53:=Tryz.isAgg102
 z53:=Tryz.sizeOf102
 v53:=Tryz.zeroValue102
 t55:=Tryz.underlying227
 a55:=Tryz.isAgg227
 z55:=Tryz.sizeOf227
 v55:=Tryz.zeroValue227
 t66:=Tryz.underlying306
 a66:=Tryz.isAgg306
 z66:=Tryz.sizeOf306
 v66:=Tryz.zeroValue306
 t70:=Tryz.underlying310
 a70:=Tryz.isAgg310
 z70:=Tryz.sizeOf310
 v70:=Tryz.zeroValue310
 t76:=Tryz.underlying330
 a76:=Tryz.isAgg330
 z76:=Tryz.sizeOf330
 v76:=Tryz.zeroValue330
 t77:=Tryz.underlying49
 a77:=Tryz.isAgg49
 z77:=Tryz.sizeOf49
 v77:=Tryz.zeroValue49 }
end Go.Proofs
/- The comparators of the mesh, and the sorts by them. -/
namespace Go.Proofs.YtebkcipolijfmaaGreat
open Go Go.RowKit Go.Shelf Go.Lib Go.Sort
theorem Aa2 {P:Program} {f:FuncId} (h:Ub P f):∀ (args:Array Value) (w:World),(callFunc f args).run P w = .ok (.enter f args) w:=by
 obtain ⟨fn,h1,h2,h3⟩:=h
 obtain ⟨c,hc⟩:∃ c,fn.body=some c:=by cases hb:fn.body with
  | none=>rw [hb] at h3;cases h3
  | some c=>exact ⟨c,rfl⟩
 exact enters_of h1 h2 hc
def Agi (z:Int):Prop:=-1000000000000≤z∧z≤1000000000000
instance (z:Int):Decidable (Agi z):=by unfold Agi;infer_instance
def Jp (x:Aa):Prop:=Agi x.a0∧Agi x.a1
instance (x:Aa):Decidable (Jp x):=by unfold Jp;infer_instance
def cmp2 (x y:Aa):Int:=if x.a0=y.a0 then x.a1-y.a1 else x.a0-y.a0
theorem Wy (x y:Aa):cmp2 x y < 0↔x.a0 < y.a0∨x.a0=y.a0∧x.a1 < y.a1:=by unfold cmp2;split <;> omega
theorem tot2:Uu Jp cmp2 where
 irr x _:=by rw [Wy];omega
 trans x y z _ _ _ h1 h2:=by rw [Wy] at *;omega
 tot x y _ _ h1 h2:=by
  rw [Wy] at h1 h2
  obtain ⟨x0,x1⟩:=x
  obtain ⟨y0,y1⟩:=y
  simp only at h1 h2
  rw [show x0=y0 by omega,show x1=y1 by omega]
theorem Aa3 {x y:Aa} (hx:Jp x) (hy:Jp y):Qu x y=some (cmp2 x y):=by
 obtain ⟨⟨_,_⟩,_,_⟩:=hx
 obtain ⟨⟨_,_⟩,_,_⟩:=hy
 unfold Qu cmp2
 split <;> (rw [Bk (by omega) (by omega)])
theorem Ys (l:List Aa) (hb:l.length≤1000000000) (hp:∀ x∈l,Jp x) {A:Option Addr} {m c:Nat} {t:TypeId} {gf:Nat} {cb:Array Value} (w:World) (hok:Ent.ok w (.r A m c t 2 (l.flatMap Ai)))
  (hcmp:Abp Tryz.prog Jp cmp2 (fun x=>.agg #[.int .i64 x.a0,.int .i64 x.a1]) A m c t 2 gf cb w (l.flatMap Ai)) (eg:Ub Tryz.prog gf):Abo Tryz.prog 123 A m c t 2 gf cb w (l.flatMap Ai) ((Au cmp2 l).flatMap Ai) :=
 Ad6 (ρ:=Tryz.laysSort2_ren) Tryz.laysSort2 (k:=2) Tryz.isAgg48 Tryz.sizeOf48 (enc:=Ai) (fun _=>rfl) (by decide) (fun x v hv=>by simp [Ai] at hv;rcases hv with rfl | rfl <;> rfl) tot2 (Aa2 eg) l hb hp w hok hcmp
def Ur (x:Ah):Prop:=True
instance (x:Ah):Decidable (Ur x):=by unfold Ur;infer_instance
def cmpI (x y:Int):Int:=if x < y then -1 else if y < x then 1 else 0
theorem Ak0 (x y:Int):cmpI x y < 0↔x < y:=by
 unfold cmpI
 split
 ·omega
 ·split <;> omega
theorem Art (x y:Int):cmpI x y=0↔x=y:=by
 unfold cmpI
 split
 ·omega
 ·split <;> omega
def cmp3 (x y:Ah):Int:=if cmpI x.a0 y.a0=0 then if cmpI x.a1 y.a1=0 then cmpI x.a2 y.a2 else cmpI x.a1 y.a1 else cmpI x.a0 y.a0
theorem Wz (x y:Ah):cmp3 x y < 0↔x.a0 < y.a0∨x.a0=y.a0∧(x.a1 < y.a1∨x.a1=y.a1∧x.a2 < y.a2):=by
 unfold cmp3
 simp only [Art]
 split
 ·split <;> rw [Ak0] <;> omega
 ·rw [Ak0];omega
theorem tot3:Uu Ur cmp3 where
 irr x _:=by rw [Wz];omega
 trans x y z _ _ _ h1 h2:=by rw [Wz] at *;omega
 tot x y _ _ h1 h2:=by
  rw [Wz] at h1 h2
  obtain ⟨x0,x1,x2⟩:=x
  obtain ⟨y0,y1,y2⟩:=y
  simp only at h1 h2
  rw [show x0=y0 by omega,show x1=y1 by omega,show x2=y2 by omega]
theorem Aru (x y:Int):Ky x y=some (cmpI x y):=by
 unfold Ky Mr cmpI
 simp only [bnd,decide_true,Bool.not_true,Bool.false_eq_true,if_false]
 split
 ·rfl
 ·split <;> rfl
theorem Agj {x y:Ah} (hx:Ur x) (hy:Ur y):Fg x y=some (cmp3 x y):=by
 obtain ⟨x0,x1,x2⟩:=x
 obtain ⟨y0,y1,y2⟩:=y
 unfold Fg Gk jn cmp3
 simp only
 have step:∀ i:Int,Bx [x0,x1,x2] [y0,y1,y2] i=if i < 3 then bnd (idx [x0,x1,x2] i) fun a=>bnd (idx [y0,y1,y2] i) fun b=>if cmpI a b=0 then some (.inl (w64 (i+1))) else some (.inr (.inr (cmpI a b))) else some (.inr (.inl ())):=by
  intro i
  unfold Bx
  simp only [Aru,List.length_cons,List.length_nil]
  by_cases h:i < 3
  ·rw [if_pos (by omega),if_pos h]
   congr 1
   funext a
   rw [if_neg (by omega)]
   rfl
  ·rw [if_neg (by omega),if_neg h]
 have w1:w64 (0+1)=1:=Bk (by omega) (by omega)
 have w2:w64 (1+1)=2:=Bk (by omega) (by omega)
 have w3:w64 (2+1)=3:=Bk (by omega) (by omega)
 have i0:∀ a b c:Int,idx [a,b,c] 0=some a:=fun _ _ _=>rfl
 have i1:∀ a b c:Int,idx [a,b,c] 1=some b:=fun _ _ _=>rfl
 have i2:∀ a b c:Int,idx [a,b,c] 2=some c:=fun _ _ _=>rfl
 have s0:Bx [x0,x1,x2] [y0,y1,y2] 0=if cmpI x0 y0=0 then some (.inl 1) else some (.inr (.inr (cmpI x0 y0))):=by rw [step,if_pos (by omega),w1];simp only [i0,bnd]
 have s1:Bx [x0,x1,x2] [y0,y1,y2] 1=if cmpI x1 y1=0 then some (.inl 2) else some (.inr (.inr (cmpI x1 y1))):=by rw [step,if_pos (by omega),w2];simp only [i1,bnd]
 have s2:Bx [x0,x1,x2] [y0,y1,y2] 2=if cmpI x2 y2=0 then some (.inl 3) else some (.inr (.inr (cmpI x2 y2))):=by rw [step,if_pos (by omega),w3];simp only [i2,bnd]
 have s3:Bx [x0,x1,x2] [y0,y1,y2] 3=some (.inr (.inl ())):=by rw [step,if_neg (by omega)]
 rw [Ce,s0]
 by_cases h0:cmpI x0 y0=0
 ·rw [if_pos h0,if_pos h0]
  simp only
  rw [Ce,s1]
  by_cases h1:cmpI x1 y1=0
  ·rw [if_pos h1,if_pos h1]
   simp only
   rw [Ce,s2]
   by_cases h2:cmpI x2 y2=0
   ·rw [if_pos h2,h2]
    simp only
    rw [Ce,s3]
    simp [bnd]
   ·rw [if_neg h2]
    simp [bnd]
  ·rw [if_neg h1,if_neg h1]
   simp [bnd]
 ·rw [if_neg h0,if_neg h0]
  simp [bnd]
theorem Aji (l:List Ah) (hb:l.length≤1000000000) (hp:∀ x∈l,Ur x) {A:Option Addr} {m c:Nat} {t:TypeId} {gf:Nat} {cb:Array Value} (w:World) (hok:Ent.ok w (.r A m c t 3 (l.flatMap Ay)))
  (hcmp:Abp Tryz.prog Ur cmp3 (fun x=>.agg #[.int .i64 x.a0,.int .i64 x.a1,.int .i64 x.a2]) A m c t 3 gf cb w (l.flatMap Ay)) (eg:Ub Tryz.prog gf):Abo Tryz.prog 135 A m c t 3 gf cb w (l.flatMap Ay) ((Au cmp3 l).flatMap Ay) :=
 Ad6 (ρ:=Tryz.laysSort3_ren) Tryz.laysSort3 (k:=3) Tryz.isAgg35 Tryz.sizeOf35 (enc:=Ay) (fun _=>rfl) (by decide) (fun x v hv=>by simp [Ay] at hv;rcases hv with rfl | rfl | rfl <;> rfl) tot3 (Aa2 eg) l hb hp w hok hcmp
/-- The order of places. -/
def befV (a b:Ab):Prop:=a.X < b.X∨a.X=b.X∧a.Y < b.Y
instance (a b:Ab):Decidable (befV a b):=by unfold befV;infer_instance
def Sb (a b:Ab):Prop:=a.X=b.X∧a.Y=b.Y
instance (a b:Ab):Decidable (Sb a b):=by unfold Sb;infer_instance
def Ft (v:List Ab):Prop:=v.Pairwise fun a b=>¬ Sb a b
instance (v:List Ab):Decidable (Ft v):=by unfold Ft;infer_instance
def okIx (v:List Ab) (i:Int):Prop:=0≤i∧i < (v.length:Int)
instance (v:List Ab) (i:Int):Decidable (okIx v i):=by unfold okIx;infer_instance
def cmpR (v:List Ab) (i j:Int):Int:=match idx v i,idx v j with
 | some a,some b=>if befV a b then -1 else if befV b a then 1 else 0
 | _,_=>0
theorem Ih {v:List Ab} {i:Int} (h:okIx v i):∃ (k:Nat) (hk:k < v.length),i=(k:Int)∧idx v i=some v[k]:=by
 obtain ⟨h0,h1⟩:=h
 obtain ⟨k,rfl⟩:=Int.eq_ofNat_of_zero_le h0
 have hk:k < v.length:=by omega
 exact ⟨k,hk,rfl,Bc hk⟩
theorem Ql {v:List Ab} {i j:Nat} (hi:i < v.length) (hj:j < v.length):cmpR v (i:Int) (j:Int) < 0↔befV v[i] v[j]:=by
 unfold cmpR
 rw [Bc hi,Bc hj]
 simp only
 split
 ·simp_all
 ·split <;> simp_all
theorem totR {v:List Ab} (hd:Ft v):Uu (okIx v) (cmpR v) where
 irr x hx:=by
  obtain ⟨i,hi,rfl,_⟩:=Ih hx
  rw [Ql hi hi]
  unfold befV
  omega
 trans x y z hx hy hz h1 h2:=by
  obtain ⟨i,hi,rfl,_⟩:=Ih hx
  obtain ⟨j,hj,rfl,_⟩:=Ih hy
  obtain ⟨k,hk,rfl,_⟩:=Ih hz
  rw [Ql hi hj] at h1
  rw [Ql hj hk] at h2
  rw [Ql hi hk]
  unfold befV at *
  omega
 tot x y hx hy h1 h2:=by
  obtain ⟨i,hi,rfl,_⟩:=Ih hx
  obtain ⟨j,hj,rfl,_⟩:=Ih hy
  rw [Ql hi hj] at h1
  rw [Ql hj hi] at h2
  have hs:Sb v[i] v[j]:=by unfold befV at h1 h2;unfold Sb;omega
  unfold Ft at hd
  rw [List.pairwise_iff_getElem] at hd
  rcases Nat.lt_trichotomy i j with h | h | h
  ·exact absurd hs (hd i j hi hj h)
  ·rw [h]
  ·exact absurd ⟨hs.1.symm,hs.2.symm⟩ (hd j i hj hi h)
theorem Amg (a b:Ab):Ey ⟨a.X,a.Y⟩ ⟨b.X,b.Y⟩=some (decide (befV a b)):=by
 unfold Ey jn befV
 simp only
 by_cases h1:a.X < b.X
 ·simp [h1]
 ·by_cases h2:a.X=b.X
  ·simp [h2]
  ·simp [h1,h2]
theorem Amh (v:List Ab) {x y:Int} (hx:okIx v x) (hy:okIx v y):Qj x y v=some (cmpR v x y):=by
 obtain ⟨i,hi,rfl,ei⟩:=Ih hx
 obtain ⟨j,hj,rfl,ej⟩:=Ih hy
 unfold Qj cmpR
 simp only [ei,ej,bnd,Fi,Amg,decide_eq_true_eq]
 split
 ·rfl
 ·split <;> rfl
theorem Ahz (v:List Ab) (hd:Ft v) (l:List Int) (hb:l.length≤1000000000) (hp:∀ x∈l,okIx v x) {A:Option Addr} {m c:Nat} {t:TypeId} {gf:Nat} {cb:Array Value} (w:World) (hok:Ent.ok w (.r A m c t 1 (l.flatMap Bq)))
  (hcmp:Abp Tryz.prog (okIx v) (cmpR v) (fun x=>.int .i64 x) A m c t 1 gf cb w (l.flatMap Bq)) (eg:Ub Tryz.prog gf):Abo Tryz.prog 129 A m c t 1 gf cb w (l.flatMap Bq) ((Au (cmpR v) l).flatMap Bq) :=
 Ajf (ρ:=Tryz.laysSort1_ren) Tryz.laysSort1 (enc:=Value.int .i64) (fun _=>rfl) (totR hd) (Aa2 eg) l hb hp w hok hcmp
end Go.Proofs.YtebkcipolijfmaaGreat
