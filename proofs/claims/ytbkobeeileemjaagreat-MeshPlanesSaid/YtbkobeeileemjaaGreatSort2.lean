/-
 DERIVED: THE SHELF's CONTRACTS AT THIS DUMP,IN PLAIN WORDS (tools/lay-plain.mjs out of 'YtbkobeeileemjaaGreatSl0.lean',which tools/lay-shelf.mjs wrote): THE SAME DECLARATIONS UNDER THE SAME NAMES: 'import','namespace','open','def','theorem' AND NOTHING ELSE: no command of the shelf's: FOR A HAND-IN. Each laying: the table of numbers ('.._ren') and one theorem,a field a fact of the dump's own or the kernel's comparison;each contract: ONE APPLICATION.
-/
import Derived.Shelf.Lays
import Derived.Shelf.SlSortCmp.NoneTotal
import Derived.Ground.SlsfProg
import Derived.Ground.NamesProg
import Derived.Test.YtbkobeeileemjaaGreatProg
import Derived.Test.YtbkobeeileemjaaGreatD3
namespace Go.Proofs
open Go.Shelf
def Tryz.laysSort2_ren:Go.Shelf.Ren:=⟨fun | 6=>105 | 15=>172 | 14=>182 | 28=>238 | 29=>239 | 20=>246 | 21=>247 | 22=>248 | 23=>249 | 24=>250 | 25=>251 | 26=>252 | 27=>253 | 46=>320 | 47=>316 | 48=>317 | 49=>321 | 50=>322 | 57=>364 | n=>n,fun | 22=>23 | 24=>97 | 25=>141 | 3=>3 | 39=>35 | 0=>0 | 53=>224 | 55=>246 | 4=>4 | 46=>257 | 45=>256 | 50=>150 | 5=>5 | 9=>9 | 66=>313 | 70=>317 | 76=>345 | 77=>244 | n=>n,fun | n=>n⟩
theorem Tryz.laysSort2:Go.Proofs.SlLaysF0.n6 Tryz.prog Tryz.laysSort2_ren:={
 mixed:=by kernel_rfl
 f6:=⟨Tryz.f105.name,by decide,Tryz.func105.trans (congrArg some (by kernel_rfl))⟩
 f14:=⟨Tryz.f182.name,by decide,Tryz.func182.trans (congrArg some (by kernel_rfl))⟩
 f15:=Tryz.func172.trans (congrArg some (by kernel_rfl))
 f20:=⟨Tryz.f246.name,by decide,Tryz.func246.trans (congrArg some (by kernel_rfl))⟩
 f21:=⟨Tryz.f247.name,by decide,Tryz.func247.trans (congrArg some (by kernel_rfl))⟩
 f22:=⟨Tryz.f248.name,by decide,Tryz.func248.trans (congrArg some (by kernel_rfl))⟩
 f23:=⟨Tryz.f249.name,by decide,Tryz.func249.trans (congrArg some (by kernel_rfl))⟩
 f24:=⟨Tryz.f250.name,by decide,Tryz.func250.trans (congrArg some (by kernel_rfl))⟩
 f25:=⟨Tryz.f251.name,by decide,Tryz.func251.trans (congrArg some (by kernel_rfl))⟩
 f26:=⟨Tryz.f252.name,by decide,Tryz.func252.trans (congrArg some (by kernel_rfl))⟩
 f27:=⟨Tryz.f253.name,by decide,Tryz.func253.trans (congrArg some (by kernel_rfl))⟩
 f28:=Tryz.func238.trans (congrArg some (by kernel_rfl))
 f29:=Tryz.func239.trans (congrArg some (by kernel_rfl))
 f46:=⟨Tryz.f320.name,by decide,Tryz.func320.trans (congrArg some (by kernel_rfl))⟩
 f47:=Tryz.func316.trans (congrArg some (by kernel_rfl))
 f48:=Tryz.func317.trans (congrArg some (by kernel_rfl))
 f49:=⟨Tryz.f321.name,by decide,Tryz.func321.trans (congrArg some (by kernel_rfl))⟩
 f50:=⟨Tryz.f322.name,by decide,Tryz.func322.trans (congrArg some (by kernel_rfl))⟩
 f57:=⟨Tryz.f364.name,by decide,Tryz.func364.trans (congrArg some (by kernel_rfl))⟩
 t0:=Tryz.underlying0
 a0:=Tryz.isAgg0
 z0:=Tryz.sizeOf0
 v0:=Tryz.zeroValue0
 t3:=Tryz.underlying3
 a3:=Tryz.isAgg3
 z3:=Tryz.sizeOf3
 v3:=Tryz.zeroValue3
 t4:=Tryz.underlying4
 a4:=Tryz.isAgg4
 z4:=Tryz.sizeOf4
 v4:=Tryz.zeroValue4
 t5:=Tryz.underlying5
 a5:=Tryz.isAgg5
 z5:=Tryz.sizeOf5
 v5:=Tryz.zeroValue5
 t9:=Tryz.underlying9
 a9:=Tryz.isAgg9
 z9:=Tryz.sizeOf9
 v9:=Tryz.zeroValue9
 t22:=Tryz.underlying23
 a22:=Tryz.isAgg23
 z22:=Tryz.sizeOf23
 v22:=Tryz.zeroValue23
 t25:=Tryz.underlying141
 a25:=Tryz.isAgg141
 z25:=Tryz.sizeOf141
 v25:=Tryz.zeroValue141
 t39:=Tryz.underlying35
 a39:=Tryz.isAgg35
 z39:=Tryz.sizeOf35
 v39:=Tryz.zeroValue35
 t45:=Tryz.underlying256
 a45:=Tryz.isAgg256
 z45:=Tryz.sizeOf256
 v45:=Tryz.zeroValue256
 t46:=Tryz.underlying257
 a46:=Tryz.isAgg257
 z46:=Tryz.sizeOf257
 v46:=Tryz.zeroValue257
 t50:=Tryz.underlying150
 a50:=Tryz.isAgg150
 z50:=Tryz.sizeOf150
 v50:=Tryz.zeroValue150
 t53:=Tryz.underlying224
 a53:=Tryz.isAgg224
 z53:=Tryz.sizeOf224
 v53:=Tryz.zeroValue224
 t55:=Tryz.underlying246
 a55:=Tryz.isAgg246
 z55:=Tryz.sizeOf246
 v55:=Tryz.zeroValue246
 t66:=Tryz.underlying313
 a66:=Tryz.isAgg313
 z66:=Tryz.sizeOf313
 v66:=Tryz.zeroValue313
 t70:=Tryz.underlying317
 a70:=Tryz.isAgg317
 z70:=Tryz.sizeOf317
 v70:=Tryz.zeroValue317
 t76:=Tryz.underlying345
 a76:=Tryz.isAgg345
 z76:=Tryz.sizeOf345
 v76:=Tryz.zeroValue345
 t77:=Tryz.underlying244
 a77:=Tryz.isAgg244
 z77:=Tryz.sizeOf244
 v77:=Tryz.zeroValue244 }
def Tryz.laysSort3_ren:Go.Shelf.Ren:=⟨fun | 6=>117 | 15=>172 | 14=>186 | 28=>238 | 29=>239 | 20=>265 | 21=>266 | 22=>267 | 23=>268 | 24=>269 | 25=>270 | 26=>271 | 27=>272 | 46=>328 | 47=>316 | 48=>317 | 49=>329 | 50=>330 | 57=>367 | n=>n,fun | 22=>38 | 24=>26 | 25=>153 | 3=>3 | 39=>35 | 0=>0 | 53=>224 | 55=>246 | 4=>4 | 46=>257 | 45=>256 | 50=>150 | 5=>5 | 9=>9 | 66=>313 | 70=>317 | 76=>345 | 77=>244 | n=>n,fun | n=>n⟩
theorem Tryz.laysSort3:Go.Proofs.SlLaysF0.n6 Tryz.prog Tryz.laysSort3_ren:={
 mixed:=by kernel_rfl
 f6:=⟨Tryz.f117.name,by decide,Tryz.func117.trans (congrArg some (by kernel_rfl))⟩
 f14:=⟨Tryz.f186.name,by decide,Tryz.func186.trans (congrArg some (by kernel_rfl))⟩
 f15:=Tryz.func172.trans (congrArg some (by kernel_rfl))
 f20:=⟨Tryz.f265.name,by decide,Tryz.func265.trans (congrArg some (by kernel_rfl))⟩
 f21:=⟨Tryz.f266.name,by decide,Tryz.func266.trans (congrArg some (by kernel_rfl))⟩
 f22:=⟨Tryz.f267.name,by decide,Tryz.func267.trans (congrArg some (by kernel_rfl))⟩
 f23:=⟨Tryz.f268.name,by decide,Tryz.func268.trans (congrArg some (by kernel_rfl))⟩
 f24:=⟨Tryz.f269.name,by decide,Tryz.func269.trans (congrArg some (by kernel_rfl))⟩
 f25:=⟨Tryz.f270.name,by decide,Tryz.func270.trans (congrArg some (by kernel_rfl))⟩
 f26:=⟨Tryz.f271.name,by decide,Tryz.func271.trans (congrArg some (by kernel_rfl))⟩
 f27:=⟨Tryz.f272.name,by decide,Tryz.func272.trans (congrArg some (by kernel_rfl))⟩
 f28:=Tryz.func238.trans (congrArg some (by kernel_rfl))
 f29:=Tryz.func239.trans (congrArg some (by kernel_rfl))
 f46:=⟨Tryz.f328.name,by decide,Tryz.func328.trans (congrArg some (by kernel_rfl))⟩
 f47:=Tryz.func316.trans (congrArg some (by kernel_rfl))
 f48:=Tryz.func317.trans (congrArg some (by kernel_rfl))
 f49:=⟨Tryz.f329.name,by decide,Tryz.func329.trans (congrArg some (by kernel_rfl))⟩
 f50:=⟨Tryz.f330.name,by decide,Tryz.func330.trans (congrArg some (by kernel_rfl))⟩
 f57:=⟨Tryz.f367.name,by decide,Tryz.func367.trans (congrArg some (by kernel_rfl))⟩
 t0:=Tryz.underlying0
 a0:=Tryz.isAgg0
 z0:=Tryz.sizeOf0
 v0:=Tryz.zeroValue0
 t3:=Tryz.underlying3
 a3:=Tryz.isAgg3
 z3:=Tryz.sizeOf3
 v3:=Tryz.zeroValue3
 t4:=Tryz.underlying4
 a4:=Tryz.isAgg4
 z4:=Tryz.sizeOf4
 v4:=Tryz.zeroValue4
 t5:=Tryz.underlying5
 a5:=Tryz.isAgg5
 z5:=Tryz.sizeOf5
 v5:=Tryz.zeroValue5
 t9:=Tryz.underlying9
 a9:=Tryz.isAgg9
 z9:=Tryz.sizeOf9
 v9:=Tryz.zeroValue9
 t22:=Tryz.underlying38
 a22:=Tryz.isAgg38
 z22:=Tryz.sizeOf38
 v22:=Tryz.zeroValue38
 t25:=Tryz.underlying153
 a25:=Tryz.isAgg153
 z25:=Tryz.sizeOf153
 v25:=Tryz.zeroValue153
 t39:=Tryz.underlying35
 a39:=Tryz.isAgg35
 z39:=Tryz.sizeOf35
 v39:=Tryz.zeroValue35
 t45:=Tryz.underlying256
 a45:=Tryz.isAgg256
 z45:=Tryz.sizeOf256
 v45:=Tryz.zeroValue256
 t46:=Tryz.underlying257
 a46:=Tryz.isAgg257
 z46:=Tryz.sizeOf257
 v46:=Tryz.zeroValue257
 t50:=Tryz.underlying150
 a50:=Tryz.isAgg150
 z50:=Tryz.sizeOf150
 v50:=Tryz.zeroValue150
 t53:=Tryz.underlying224
 a53:=Tryz.isAgg224
 z53:=Tryz.sizeOf224
 v53:=Tryz.zeroValue224
 t55:=Tryz.underlying246
 a55:=Tryz.isAgg246
 z55:=Tryz.sizeOf246
 v55:=Tryz.zeroValue246
 t66:=Tryz.underlying313
 a66:=Tryz.isAgg313
 z66:=Tryz.sizeOf313
 v66:=Tryz.zeroValue313
 t70:=Tryz.underlying317
 a70:=Tryz.isAgg317
 z70:=Tryz.sizeOf317
 v70:=Tryz.zeroValue317
 t76:=Tryz.underlying345
 a76:=Tryz.isAgg345
 z76:=Tryz.sizeOf345
 v76:=Tryz.zeroValue345
 t77:=Tryz.underlying244
 a77:=Tryz.isAgg244
 z77:=Tryz.sizeOf244
 v77:=Tryz.zeroValue244 }
def Tryz.laysSort1_ren:Go.Shelf.Ren:=⟨fun | 6=>111 | 15=>172 | 14=>183 | 28=>238 | 29=>239 | 20=>254 | 21=>255 | 22=>256 | 23=>257 | 24=>258 | 25=>259 | 26=>260 | 27=>261 | 46=>323 | 47=>316 | 48=>317 | 49=>324 | 50=>325 | 57=>365 | n=>n,fun | 22=>48 | 24=>3 | 25=>148 | 3=>3 | 39=>35 | 0=>0 | 53=>224 | 55=>246 | 4=>4 | 46=>257 | 45=>256 | 50=>150 | 5=>5 | 9=>9 | 66=>313 | 70=>317 | 76=>345 | 77=>244 | n=>n,fun | n=>n⟩
theorem Tryz.laysSort1:Go.Proofs.SlLaysF.n6 Tryz.prog Tryz.laysSort1_ren:={
 mixed:=by kernel_rfl
 f6:=⟨Tryz.f111.name,by decide,Tryz.func111.trans (congrArg some (by kernel_rfl))⟩
 f14:=⟨Tryz.f183.name,by decide,Tryz.func183.trans (congrArg some (by kernel_rfl))⟩
 f15:=Tryz.func172.trans (congrArg some (by kernel_rfl))
 f20:=⟨Tryz.f254.name,by decide,Tryz.func254.trans (congrArg some (by kernel_rfl))⟩
 f21:=⟨Tryz.f255.name,by decide,Tryz.func255.trans (congrArg some (by kernel_rfl))⟩
 f22:=⟨Tryz.f256.name,by decide,Tryz.func256.trans (congrArg some (by kernel_rfl))⟩
 f23:=⟨Tryz.f257.name,by decide,Tryz.func257.trans (congrArg some (by kernel_rfl))⟩
 f24:=⟨Tryz.f258.name,by decide,Tryz.func258.trans (congrArg some (by kernel_rfl))⟩
 f25:=⟨Tryz.f259.name,by decide,Tryz.func259.trans (congrArg some (by kernel_rfl))⟩
 f26:=⟨Tryz.f260.name,by decide,Tryz.func260.trans (congrArg some (by kernel_rfl))⟩
 f27:=⟨Tryz.f261.name,by decide,Tryz.func261.trans (congrArg some (by kernel_rfl))⟩
 f28:=Tryz.func238.trans (congrArg some (by kernel_rfl))
 f29:=Tryz.func239.trans (congrArg some (by kernel_rfl))
 f46:=⟨Tryz.f323.name,by decide,Tryz.func323.trans (congrArg some (by kernel_rfl))⟩
 f47:=Tryz.func316.trans (congrArg some (by kernel_rfl))
 f48:=Tryz.func317.trans (congrArg some (by kernel_rfl))
 f49:=⟨Tryz.f324.name,by decide,Tryz.func324.trans (congrArg some (by kernel_rfl))⟩
 f50:=⟨Tryz.f325.name,by decide,Tryz.func325.trans (congrArg some (by kernel_rfl))⟩
 f57:=⟨Tryz.f365.name,by decide,Tryz.func365.trans (congrArg some (by kernel_rfl))⟩
 t0:=Tryz.underlying0
 a0:=Tryz.isAgg0
 z0:=Tryz.sizeOf0
 v0:=Tryz.zeroValue0
 t3:=Tryz.underlying3
 a3:=Tryz.isAgg3
 z3:=Tryz.sizeOf3
 v3:=Tryz.zeroValue3
 t4:=Tryz.underlying4
 a4:=Tryz.isAgg4
 z4:=Tryz.sizeOf4
 v4:=Tryz.zeroValue4
 t5:=Tryz.underlying5
 a5:=Tryz.isAgg5
 z5:=Tryz.sizeOf5
 v5:=Tryz.zeroValue5
 t9:=Tryz.underlying9
 a9:=Tryz.isAgg9
 z9:=Tryz.sizeOf9
 v9:=Tryz.zeroValue9
 t22:=Tryz.underlying48
 a22:=Tryz.isAgg48
 z22:=Tryz.sizeOf48
 v22:=Tryz.zeroValue48
 a24:=Tryz.isAgg3
 z24:=Tryz.sizeOf3
 t25:=Tryz.underlying148
 a25:=Tryz.isAgg148
 z25:=Tryz.sizeOf148
 v25:=Tryz.zeroValue148
 t39:=Tryz.underlying35
 a39:=Tryz.isAgg35
 z39:=Tryz.sizeOf35
 v39:=Tryz.zeroValue35
 t45:=Tryz.underlying256
 a45:=Tryz.isAgg256
 z45:=Tryz.sizeOf256
 v45:=Tryz.zeroValue256
 t46:=Tryz.underlying257
 a46:=Tryz.isAgg257
 z46:=Tryz.sizeOf257
 v46:=Tryz.zeroValue257
 t50:=Tryz.underlying150
 a50:=Tryz.isAgg150
 z50:=Tryz.sizeOf150
 v50:=Tryz.zeroValue150
 t53:=Tryz.underlying224
 a53:=Tryz.isAgg224
 z53:=Tryz.sizeOf224
 v53:=Tryz.zeroValue224
 t55:=Tryz.underlying246
 a55:=Tryz.isAgg246
 z55:=Tryz.sizeOf246
 v55:=Tryz.zeroValue246
 t66:=Tryz.underlying313
 a66:=Tryz.isAgg313
 z66:=Tryz.sizeOf313
 v66:=Tryz.zeroValue313
 t70:=Tryz.underlying317
 a70:=Tryz.isAgg317
 z70:=Tryz.sizeOf317
 v70:=Tryz.zeroValue317
 t76:=Tryz.underlying345
 a76:=Tryz.isAgg345
 z76:=Tryz.sizeOf345
 v76:=Tryz.zeroValue345
 t77:=Tryz.underlying244
 a77:=Tryz.isAgg244
 z77:=Tryz.sizeOf244
 v77:=Tryz.zeroValue244 }
end Go.Proofs
/- The comparators of the mesh, and the sorts by them. -/
namespace Go.Proofs.YtbkobeeileemjaaGreat
open Go Go.RowKit Go.Shelf Go.Lib Go.Sort
theorem Ym {P:Program} {f:FuncId} (h:Sa P f):∀ (args:Array Value) (w:World),(callFunc f args).run P w = .ok (.enter f args) w:=by
 obtain ⟨fn,h1,h2,h3⟩:=h
 obtain ⟨c,hc⟩:∃ c,fn.body=some c:=by cases hb:fn.body with
  | none=>rw [hb] at h3;cases h3
  | some c=>exact ⟨c,rfl⟩
 exact enters_of h1 h2 hc
def Ae0 (z:Int):Prop:=-1000000000000≤z∧z≤1000000000000
instance (z:Int):Decidable (Ae0 z):=by unfold Ae0;infer_instance
def Ls (x:Aa):Prop:=Ae0 x.a0∧Ae0 x.a1
instance (x:Aa):Decidable (Ls x):=by unfold Ls;infer_instance
def cmp2 (x y:Aa):Int:=if x.a0=y.a0 then x.a1-y.a1 else x.a0-y.a0
theorem Ae1 (x y:Aa):cmp2 x y < 0↔x.a0 < y.a0∨x.a0=y.a0∧x.a1 < y.a1:=by unfold cmp2;split <;> omega
theorem tot2:Su Ls cmp2 where
 irr x _:=by rw [Ae1];omega
 trans x y z _ _ _ h1 h2:=by rw [Ae1] at *;omega
 tot x y _ _ h1 h2:=by
  rw [Ae1] at h1 h2
  obtain ⟨x0,x1⟩:=x
  obtain ⟨y0,y1⟩:=y
  simp only at h1 h2
  rw [show x0=y0 by omega,show x1=y1 by omega]
theorem Yn {x y:Aa} (hx:Ls x) (hy:Ls y):Pp x y=some (cmp2 x y):=by
 obtain ⟨⟨_,_⟩,_,_⟩:=hx
 obtain ⟨⟨_,_⟩,_,_⟩:=hy
 unfold Pp cmp2
 split <;> (rw [Bu (by omega) (by omega)])
theorem Wc (l:List Aa) (hb:l.length≤1000000000) (hp:∀ x∈l,Ls x) {A:Option Addr} {m c:Nat} {t:TypeId} {gf:Nat} {cb:Array Value} (w:World) (hok:Ent.ok w (.r A m c t 2 (l.flatMap Aw)))
  (hcmp:Zc Tryz.prog Ls cmp2 (fun x=>.agg #[.int .i64 x.a0,.int .i64 x.a1]) A m c t 2 gf cb w (l.flatMap Aw)) (eg:Sa Tryz.prog gf):Zb Tryz.prog 105 A m c t 2 gf cb w (l.flatMap Aw) ((Bd cmp2 l).flatMap Aw) :=
 Abt (ρ:=Tryz.laysSort2_ren) Tryz.laysSort2 (k:=2) Tryz.isAgg97 Tryz.sizeOf97 (enc:=Aw) (fun _=>rfl) (by decide) (fun x v hv=>by simp [Aw] at hv;rcases hv with rfl | rfl <;> rfl) tot2 (Ym eg) l hb hp w hok hcmp
def Sr (x:Aq):Prop:=True
instance (x:Aq):Decidable (Sr x):=by unfold Sr;infer_instance
def cmpI (x y:Int):Int:=if x < y then -1 else if y < x then 1 else 0
theorem Ai4 (x y:Int):cmpI x y < 0↔x < y:=by
 unfold cmpI
 split
 ·omega
 ·split <;> omega
theorem Aok (x y:Int):cmpI x y=0↔x=y:=by
 unfold cmpI
 split
 ·omega
 ·split <;> omega
def cmp3 (x y:Aq):Int:=if cmpI x.a0 y.a0=0 then if cmpI x.a1 y.a1=0 then cmpI x.a2 y.a2 else cmpI x.a1 y.a1 else cmpI x.a0 y.a0
theorem Ae2 (x y:Aq):cmp3 x y < 0↔x.a0 < y.a0∨x.a0=y.a0∧(x.a1 < y.a1∨x.a1=y.a1∧x.a2 < y.a2):=by
 unfold cmp3
 simp only [Aok]
 split
 ·split <;> rw [Ai4] <;> omega
 ·rw [Ai4];omega
theorem tot3:Su Sr cmp3 where
 irr x _:=by rw [Ae2];omega
 trans x y z _ _ _ h1 h2:=by rw [Ae2] at *;omega
 tot x y _ _ h1 h2:=by
  rw [Ae2] at h1 h2
  obtain ⟨x0,x1,x2⟩:=x
  obtain ⟨y0,y1,y2⟩:=y
  simp only at h1 h2
  rw [show x0=y0 by omega,show x1=y1 by omega,show x2=y2 by omega]
theorem Aol (x y:Int):Je x y=some (cmpI x y):=by
 unfold Je Ks cmpI
 simp only [bnd,decide_true,Bool.not_true,Bool.false_eq_true,if_false]
 split
 ·rfl
 ·split <;> rfl
theorem Ae3 {x y:Aq} (hx:Sr x) (hy:Sr y):Eb x y=some (cmp3 x y):=by
 obtain ⟨x0,x1,x2⟩:=x
 obtain ⟨y0,y1,y2⟩:=y
 unfold Eb Fj jn cmp3
 simp only
 have step:∀ i:Int,Bv [x0,x1,x2] [y0,y1,y2] i=if i < 3 then bnd (idx [x0,x1,x2] i) fun a=>bnd (idx [y0,y1,y2] i) fun b=>if cmpI a b=0 then some (.inl (w64 (i+1))) else some (.inr (.inr (cmpI a b))) else some (.inr (.inl ())):=by
  intro i
  unfold Bv
  simp only [Aol,List.length_cons,List.length_nil]
  by_cases h:i < 3
  ·rw [if_pos (by omega),if_pos h]
   congr 1
   funext a
   rw [if_neg (by omega)]
   rfl
  ·rw [if_neg (by omega),if_neg h]
 have w1:w64 (0+1)=1:=Bu (by omega) (by omega)
 have w2:w64 (1+1)=2:=Bu (by omega) (by omega)
 have w3:w64 (2+1)=3:=Bu (by omega) (by omega)
 have i0:∀ a b c:Int,idx [a,b,c] 0=some a:=fun _ _ _=>rfl
 have i1:∀ a b c:Int,idx [a,b,c] 1=some b:=fun _ _ _=>rfl
 have i2:∀ a b c:Int,idx [a,b,c] 2=some c:=fun _ _ _=>rfl
 have s0:Bv [x0,x1,x2] [y0,y1,y2] 0=if cmpI x0 y0=0 then some (.inl 1) else some (.inr (.inr (cmpI x0 y0))):=by rw [step,if_pos (by omega),w1];simp only [i0,bnd]
 have s1:Bv [x0,x1,x2] [y0,y1,y2] 1=if cmpI x1 y1=0 then some (.inl 2) else some (.inr (.inr (cmpI x1 y1))):=by rw [step,if_pos (by omega),w2];simp only [i1,bnd]
 have s2:Bv [x0,x1,x2] [y0,y1,y2] 2=if cmpI x2 y2=0 then some (.inl 3) else some (.inr (.inr (cmpI x2 y2))):=by rw [step,if_pos (by omega),w3];simp only [i2,bnd]
 have s3:Bv [x0,x1,x2] [y0,y1,y2] 3=some (.inr (.inl ())):=by rw [step,if_neg (by omega)]
 rw [Ck,s0]
 by_cases h0:cmpI x0 y0=0
 ·rw [if_pos h0,if_pos h0]
  simp only
  rw [Ck,s1]
  by_cases h1:cmpI x1 y1=0
  ·rw [if_pos h1,if_pos h1]
   simp only
   rw [Ck,s2]
   by_cases h2:cmpI x2 y2=0
   ·rw [if_pos h2,h2]
    simp only
    rw [Ck,s3]
    simp [bnd]
   ·rw [if_neg h2]
    simp [bnd]
  ·rw [if_neg h1,if_neg h1]
   simp [bnd]
 ·rw [if_neg h0,if_neg h0]
  simp [bnd]
theorem Ahm (l:List Aq) (hb:l.length≤1000000000) (hp:∀ x∈l,Sr x) {A:Option Addr} {m c:Nat} {t:TypeId} {gf:Nat} {cb:Array Value} (w:World) (hok:Ent.ok w (.r A m c t 3 (l.flatMap Bl)))
  (hcmp:Zc Tryz.prog Sr cmp3 (fun x=>.agg #[.int .i64 x.a0,.int .i64 x.a1,.int .i64 x.a2]) A m c t 3 gf cb w (l.flatMap Bl)) (eg:Sa Tryz.prog gf):Zb Tryz.prog 117 A m c t 3 gf cb w (l.flatMap Bl) ((Bd cmp3 l).flatMap Bl) :=
 Abt (ρ:=Tryz.laysSort3_ren) Tryz.laysSort3 (k:=3) Tryz.isAgg26 Tryz.sizeOf26 (enc:=Bl) (fun _=>rfl) (by decide) (fun x v hv=>by simp [Bl] at hv;rcases hv with rfl | rfl | rfl <;> rfl) tot3 (Ym eg) l hb hp w hok hcmp
/-- The order of places. -/
def befV (a b:Ab):Prop:=a.X < b.X∨a.X=b.X∧a.Y < b.Y
instance (a b:Ab):Decidable (befV a b):=by unfold befV;infer_instance
def Qj (a b:Ab):Prop:=a.X=b.X∧a.Y=b.Y
instance (a b:Ab):Decidable (Qj a b):=by unfold Qj;infer_instance
def Dr (v:List Ab):Prop:=v.Pairwise fun a b=>¬ Qj a b
instance (v:List Ab):Decidable (Dr v):=by unfold Dr;infer_instance
def okIx (v:List Ab) (i:Int):Prop:=0≤i∧i < (v.length:Int)
instance (v:List Ab) (i:Int):Decidable (okIx v i):=by unfold okIx;infer_instance
def cmpR (v:List Ab) (i j:Int):Int:=match idx v i,idx v j with
 | some a,some b=>if befV a b then -1 else if befV b a then 1 else 0
 | _,_=>0
theorem It {v:List Ab} {i:Int} (h:okIx v i):∃ (k:Nat) (hk:k < v.length),i=(k:Int)∧idx v i=some v[k]:=by
 obtain ⟨h0,h1⟩:=h
 obtain ⟨k,rfl⟩:=Int.eq_ofNat_of_zero_le h0
 have hk:k < v.length:=by omega
 exact ⟨k,hk,rfl,Cm hk⟩
theorem Ox {v:List Ab} {i j:Nat} (hi:i < v.length) (hj:j < v.length):cmpR v (i:Int) (j:Int) < 0↔befV v[i] v[j]:=by
 unfold cmpR
 rw [Cm hi,Cm hj]
 simp only
 split
 ·simp_all
 ·split <;> simp_all
theorem totR {v:List Ab} (hd:Dr v):Su (okIx v) (cmpR v) where
 irr x hx:=by
  obtain ⟨i,hi,rfl,_⟩:=It hx
  rw [Ox hi hi]
  unfold befV
  omega
 trans x y z hx hy hz h1 h2:=by
  obtain ⟨i,hi,rfl,_⟩:=It hx
  obtain ⟨j,hj,rfl,_⟩:=It hy
  obtain ⟨k,hk,rfl,_⟩:=It hz
  rw [Ox hi hj] at h1
  rw [Ox hj hk] at h2
  rw [Ox hi hk]
  unfold befV at *
  omega
 tot x y hx hy h1 h2:=by
  obtain ⟨i,hi,rfl,_⟩:=It hx
  obtain ⟨j,hj,rfl,_⟩:=It hy
  rw [Ox hi hj] at h1
  rw [Ox hj hi] at h2
  have hs:Qj v[i] v[j]:=by unfold befV at h1 h2;unfold Qj;omega
  unfold Dr at hd
  rw [List.pairwise_iff_getElem] at hd
  rcases Nat.lt_trichotomy i j with h | h | h
  ·exact absurd hs (hd i j hi hj h)
  ·rw [h]
  ·exact absurd ⟨hs.1.symm,hs.2.symm⟩ (hd j i hj hi h)
theorem Aj7 (a b:Ab):Gz ⟨a.X,a.Y⟩ ⟨b.X,b.Y⟩=some (decide (befV a b)):=by
 unfold Gz jn befV
 simp only
 by_cases h1:a.X < b.X
 ·simp [h1]
 ·by_cases h2:a.X=b.X
  ·simp [h2]
  ·simp [h1,h2]
theorem Aj8 (v:List Ab) {x y:Int} (hx:okIx v x) (hy:okIx v y):Oq x y v=some (cmpR v x y):=by
 obtain ⟨i,hi,rfl,ei⟩:=It hx
 obtain ⟨j,hj,rfl,ej⟩:=It hy
 unfold Oq cmpR
 simp only [ei,ej,bnd,Ej,Aj7,decide_eq_true_eq]
 split
 ·rfl
 ·split <;> rfl
theorem Age (v:List Ab) (hd:Dr v) (l:List Int) (hb:l.length≤1000000000) (hp:∀ x∈l,okIx v x) {A:Option Addr} {m c:Nat} {t:TypeId} {gf:Nat} {cb:Array Value} (w:World) (hok:Ent.ok w (.r A m c t 1 (l.flatMap Ij)))
  (hcmp:Zc Tryz.prog (okIx v) (cmpR v) (fun x=>.int .i64 x) A m c t 1 gf cb w (l.flatMap Ij)) (eg:Sa Tryz.prog gf):Zb Tryz.prog 111 A m c t 1 gf cb w (l.flatMap Ij) ((Bd (cmpR v) l).flatMap Ij) :=
 Ahf (ρ:=Tryz.laysSort1_ren) Tryz.laysSort1 (enc:=Value.int .i64) (fun _=>rfl) (totR hd) (Ym eg) l hb hp w hok hcmp
end Go.Proofs.YtbkobeeileemjaaGreat
