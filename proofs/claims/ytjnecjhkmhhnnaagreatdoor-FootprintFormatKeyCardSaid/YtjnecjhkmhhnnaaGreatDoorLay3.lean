/-
  DERIVED: THE SHELF's CONTRACTS AT THIS DUMP, IN PLAIN WORDS (tools/lay-plain.mjs out of 'DevLay3S.lean', which tools/lay-shelf.mjs wrote): THE SAME DECLARATIONS UNDER THE SAME NAMES: 'import', 'namespace', 'open', 'def', 'theorem' AND NOTHING ELSE: no command of the shelf's: FOR A HAND-IN. Each laying: the table of numbers ('.._ren') and one theorem, a field a fact of the dump's own or the kernel's comparison; each contract: ONE APPLICATION.
-/
import Derived.Shelf.GgClosureLib.Lays
import Derived.Shelf.Strings.FuncGrows
import Derived.Shelf.Strings.OnBuilder
import Derived.Shelf.Strings.Repeat
import Derived.Shelf.Strings.SlTrimAscii
import Derived.Shelf.Strconv.Itoa4
import Derived.Ground.GgwProg
import Derived.Ground.NamesProg
import Derived.Test.YtjnecjhkmhhnnaaGreatDoorProg
namespace Go.Proofs
open Go.Shelf
def Tryz.litoa_ren : Go.Shelf.Ren := ⟨fun | 171 => 29 | 243 => 78 | 246 => 124 | 283 => 175 | 284 => 176 | 285 => 177 | 286 => 178 | 129 => 145 | 317 => 249 | 318 => 250 | 319 => 251 | 320 => 252 | 337 => 312 | 338 => 313 | n => n, fun | 3 => 3 | 9 => 9 | 2 => 2 | 4 => 4 | 171 => 231 | 0 => 0 | 53 => 205 | 37 => 118 | 5 => 5 | 173 => 233 | 212 => 287 | 51 => 203 | 20 => 20 | 213 => 288 | 46 => 141 | 232 => 359 | 233 => 360 | n => n, fun | 17 => 3 | 18 => 5 | 19 => 6 | n => n⟩
theorem Tryz.litoa : Go.Proofs.LaysM.n171 Tryz.prog Tryz.litoa_ren := {
  mixed := by kernel_rfl
  f129 := Tryz.func145.trans (congrArg some (by kernel_rfl))
  f171 := Tryz.func29.trans (congrArg some (by kernel_rfl))
  f243 := Tryz.func78.trans (congrArg some (by kernel_rfl))
  f246 := Tryz.func124.trans (congrArg some (by kernel_rfl))
  f283 := Tryz.func175.trans (congrArg some (by kernel_rfl))
  f284 := Tryz.func176.trans (congrArg some (by kernel_rfl))
  f285 := Tryz.func177.trans (congrArg some (by kernel_rfl))
  f286 := Tryz.func178.trans (congrArg some (by kernel_rfl))
  f317 := Tryz.func249.trans (congrArg some (by kernel_rfl))
  f318 := Tryz.func250.trans (congrArg some (by kernel_rfl))
  f319 := Tryz.func251.trans (congrArg some (by kernel_rfl))
  f320 := Tryz.func252.trans (congrArg some (by kernel_rfl))
  f337 := Tryz.func312.trans (congrArg some (by kernel_rfl))
  f338 := Tryz.func313.trans (congrArg some (by kernel_rfl))
  t0 := Tryz.underlying0
  a0 := Tryz.isAgg0
  z0 := Tryz.sizeOf0
  v0 := Tryz.zeroValue0
  t2 := Tryz.underlying2
  a2 := Tryz.isAgg2
  z2 := Tryz.sizeOf2
  v2 := Tryz.zeroValue2
  t3 := Tryz.underlying3
  a3 := Tryz.isAgg3
  z3 := Tryz.sizeOf3
  v3 := Tryz.zeroValue3
  t4 := Tryz.underlying4
  a4 := Tryz.isAgg4
  z4 := Tryz.sizeOf4
  v4 := Tryz.zeroValue4
  t5 := Tryz.underlying5
  a5 := Tryz.isAgg5
  z5 := Tryz.sizeOf5
  v5 := Tryz.zeroValue5
  t9 := Tryz.underlying9
  a9 := Tryz.isAgg9
  z9 := Tryz.sizeOf9
  v9 := Tryz.zeroValue9
  t20 := Tryz.underlying20
  a20 := Tryz.isAgg20
  z20 := Tryz.sizeOf20
  v20 := Tryz.zeroValue20
  t37 := Tryz.underlying118
  a37 := Tryz.isAgg118
  z37 := Tryz.sizeOf118
  v37 := Tryz.zeroValue118
  t46 := Tryz.underlying141
  a46 := Tryz.isAgg141
  z46 := Tryz.sizeOf141
  v46 := Tryz.zeroValue141
  t51 := Tryz.underlying203
  a51 := Tryz.isAgg203
  z51 := Tryz.sizeOf203
  v51 := Tryz.zeroValue203
  t53 := Tryz.underlying205
  a53 := Tryz.isAgg205
  z53 := Tryz.sizeOf205
  v53 := Tryz.zeroValue205
  t171 := Tryz.underlying231
  a171 := Tryz.isAgg231
  z171 := Tryz.sizeOf231
  v171 := Tryz.zeroValue231
  t173 := Tryz.underlying233
  a173 := Tryz.isAgg233
  z173 := Tryz.sizeOf233
  v173 := Tryz.zeroValue233
  t212 := Tryz.underlying287
  a212 := Tryz.isAgg287
  z212 := Tryz.sizeOf287
  v212 := Tryz.zeroValue287
  t213 := Tryz.underlying288
  a213 := Tryz.isAgg288
  z213 := Tryz.sizeOf288
  t232 := Tryz.underlying359
  a232 := Tryz.isAgg359
  z232 := Tryz.sizeOf359
  v232 := Tryz.zeroValue359
  t233 := Tryz.underlying360
  a233 := Tryz.isAgg360
  z233 := Tryz.sizeOf360
  v233 := Tryz.zeroValue360
  g17 := by kernel_rfl
  g18 := by kernel_rfl
  g19 := by kernel_rfl
  i0 := by kernel_rfl
  i2 := by kernel_rfl
  i3 := by kernel_rfl
  i4 := by kernel_rfl
  i5 := by kernel_rfl
  i9 := by kernel_rfl
  i20 := by kernel_rfl
  i37 := by kernel_rfl
  i46 := by kernel_rfl
  i51 := by kernel_rfl
  i53 := by kernel_rfl
  i171 := by kernel_rfl
  i173 := by kernel_rfl
  i212 := by kernel_rfl
  i232 := by kernel_rfl
  i233 := by kernel_rfl
  m17 := by kernel_rfl
  m18 := by kernel_rfl
  m19 := by kernel_rfl }
end Go.Proofs
