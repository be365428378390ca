/-
  DERIVED: THE SHELF's CONTRACTS AT THIS DUMP, IN PLAIN WORDS (tools/lay-plain.mjs out of 'YtjhknbpiaikblaaSl0.lean', which tools/lay-shelf.mjs wrote): THE SAME DECLARATIONS UNDER THE SAME NAMES: 'import', 'namespace', 'open', 'def', 'theorem' AND NOTHING ELSE: no command of the shelf's: FOR A HAND-IN. Each laying: the table of numbers ('.._ren') and one theorem, a field a fact of the dump's own or the kernel's comparison; each contract: ONE APPLICATION.
-/
import Derived.Shelf.Lays
import Derived.Ground.NamesProg
import Derived.Test.YtjhknbpiaikblaaProg
namespace Go.Proofs
open Go.Shelf
def Try.laysSort_ren : Go.Shelf.Ren := ⟨fun | 189 => 124 | 125 => 143 | 257 => 142 | 128 => 160 | 129 => 161 | 294 => 151 | 295 => 152 | 296 => 153 | 297 => 154 | 298 => 155 | 299 => 156 | 216 => 157 | 300 => 158 | 301 => 159 | 328 => 162 | 329 => 163 | 330 => 164 | 331 => 165 | 332 => 166 | 215 => 167 | 343 => 168 | n => n, fun | 28 => 27 | 3 => 3 | 46 => 159 | 0 => 0 | 51 => 105 | 53 => 169 | 4 => 4 | 183 => 195 | 182 => 194 | 131 => 200 | 5 => 5 | 9 => 9 | 218 => 203 | 222 => 207 | 228 => 209 | 229 => 210 | n => n, fun | n => n⟩
theorem Try.laysSort : Go.Proofs.Lays.n189 Try.prog Try.laysSort_ren := {
  mixed := by kernel_rfl
  f125 := Try.func143.trans (congrArg some (by kernel_rfl))
  f128 := Try.func160.trans (congrArg some (by kernel_rfl))
  f129 := Try.func161.trans (congrArg some (by kernel_rfl))
  f189 := Try.func124.trans (congrArg some (by kernel_rfl))
  f215 := Try.func167.trans (congrArg some (by kernel_rfl))
  f216 := Try.func157.trans (congrArg some (by kernel_rfl))
  f257 := Try.func142.trans (congrArg some (by kernel_rfl))
  f294 := Try.func151.trans (congrArg some (by kernel_rfl))
  f295 := Try.func152.trans (congrArg some (by kernel_rfl))
  f296 := Try.func153.trans (congrArg some (by kernel_rfl))
  f297 := Try.func154.trans (congrArg some (by kernel_rfl))
  f298 := Try.func155.trans (congrArg some (by kernel_rfl))
  f299 := Try.func156.trans (congrArg some (by kernel_rfl))
  f300 := Try.func158.trans (congrArg some (by kernel_rfl))
  f301 := Try.func159.trans (congrArg some (by kernel_rfl))
  f328 := Try.func162.trans (congrArg some (by kernel_rfl))
  f329 := Try.func163.trans (congrArg some (by kernel_rfl))
  f330 := Try.func164.trans (congrArg some (by kernel_rfl))
  f331 := Try.func165.trans (congrArg some (by kernel_rfl))
  f332 := Try.func166.trans (congrArg some (by kernel_rfl))
  f343 := Try.func168.trans (congrArg some (by kernel_rfl))
  t0 := Try.underlying0
  a0 := Try.isAgg0
  z0 := Try.sizeOf0
  v0 := Try.zeroValue0
  t3 := Try.underlying3
  a3 := Try.isAgg3
  z3 := Try.sizeOf3
  v3 := Try.zeroValue3
  t4 := Try.underlying4
  a4 := Try.isAgg4
  z4 := Try.sizeOf4
  v4 := Try.zeroValue4
  t5 := Try.underlying5
  a5 := Try.isAgg5
  z5 := Try.sizeOf5
  v5 := Try.zeroValue5
  t9 := Try.underlying9
  a9 := Try.isAgg9
  z9 := Try.sizeOf9
  v9 := Try.zeroValue9
  t28 := Try.underlying27
  a28 := Try.isAgg27
  z28 := Try.sizeOf27
  v28 := Try.zeroValue27
  t46 := Try.underlying159
  a46 := Try.isAgg159
  z46 := Try.sizeOf159
  v46 := Try.zeroValue159
  t51 := Try.underlying105
  a51 := Try.isAgg105
  z51 := Try.sizeOf105
  v51 := Try.zeroValue105
  t53 := Try.underlying169
  a53 := Try.isAgg169
  z53 := Try.sizeOf169
  v53 := Try.zeroValue169
  t131 := Try.underlying200
  a131 := Try.isAgg200
  z131 := Try.sizeOf200
  v131 := Try.zeroValue200
  t182 := Try.underlying194
  a182 := Try.isAgg194
  z182 := Try.sizeOf194
  v182 := Try.zeroValue194
  t183 := Try.underlying195
  a183 := Try.isAgg195
  z183 := Try.sizeOf195
  v183 := Try.zeroValue195
  t218 := Try.underlying203
  a218 := Try.isAgg203
  z218 := Try.sizeOf203
  v218 := Try.zeroValue203
  t222 := Try.underlying207
  a222 := Try.isAgg207
  z222 := Try.sizeOf207
  v222 := Try.zeroValue207
  t228 := Try.underlying209
  a228 := Try.isAgg209
  z228 := Try.sizeOf209
  v228 := Try.zeroValue209
  t229 := Try.underlying210
  a229 := Try.isAgg210
  z229 := Try.sizeOf210
  v229 := Try.zeroValue210 }
end Go.Proofs
