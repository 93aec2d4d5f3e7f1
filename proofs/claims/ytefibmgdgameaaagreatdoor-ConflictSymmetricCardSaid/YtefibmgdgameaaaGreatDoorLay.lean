/-
  DERIVED: THE SHELF's CONTRACTS AT THIS DUMP, IN PLAIN WORDS (tools/lay-plain.mjs out of 'YtefibmgdgameaaaGreatDoorLayS.lean', which tools/lay-shelf.mjs wrote): THE SAME DECLARATIONS UNDER THE SAME NAMES: 'import', 'namespace', 'open', 'def', 'theorem' AND NOTHING ELSE: no command of the shelf's: FOR A HAND-IN. Each laying: the table of numbers ('.._ren') and one theorem, a field a fact of the dump's own or the kernel's comparison; each contract: ONE APPLICATION.
-/
import Derived.Shelf.SlGeneric
import Derived.Shelf.SortM.Plain
import Derived.Shelf.SortM.SortNone
import Derived.Shelf.SlSortCmp.NoneTotal
import Derived.Shelf.SlicesG.CompactI
import Derived.Ground.SlgmProg
import Derived.Ground.SlsfProg
import Derived.Ground.SlgnProg
import Derived.Test.YtefibmgdgameaaaGreatDoorProg
namespace Go.Proofs
open Go.Shelf
def Tryz.lspan_ren : Go.Shelf.Ren := ⟨fun | 6 => 121 | 15 => 208 | 14 => 221 | 28 => 274 | 29 => 275 | 20 => 292 | 21 => 293 | 22 => 294 | 23 => 295 | 24 => 296 | 25 => 297 | 26 => 298 | 27 => 299 | 46 => 340 | 47 => 323 | 48 => 324 | 49 => 341 | 50 => 342 | 57 => 377 | n => n, fun | 22 => 90 | 24 => 184 | 25 => 187 | 3 => 3 | 39 => 242 | 0 => 0 | 53 => 300 | 55 => 302 | 4 => 4 | 46 => 294 | 45 => 293 | 50 => 181 | 5 => 5 | 9 => 9 | 66 => 346 | 70 => 350 | 76 => 375 | 77 => 376 | n => n, fun | n => n⟩
def Tryz.lkey_ren : Go.Shelf.Ren := ⟨fun | 6 => 98 | 15 => 208 | 14 => 207 | 28 => 274 | 29 => 275 | 20 => 266 | 21 => 267 | 22 => 268 | 23 => 269 | 24 => 270 | 25 => 271 | 26 => 272 | 27 => 273 | 46 => 322 | 47 => 323 | 48 => 324 | 49 => 325 | 50 => 326 | 57 => 367 | n => n, fun | 22 => 109 | 24 => 114 | 25 => 156 | 3 => 3 | 39 => 242 | 0 => 0 | 53 => 300 | 55 => 302 | 4 => 4 | 46 => 294 | 45 => 293 | 50 => 181 | 5 => 5 | 9 => 9 | 66 => 346 | 70 => 350 | 76 => 375 | 77 => 376 | n => n, fun | n => n⟩
theorem Tryz.lkey : Go.Proofs.SlLaysF0.n6 Tryz.prog Tryz.lkey_ren := {
  mixed := by kernel_rfl
  f6 := ⟨Tryz.f98.name, by decide, Tryz.func98.trans (congrArg some (by kernel_rfl))⟩
  f14 := ⟨Tryz.f207.name, by decide, Tryz.func207.trans (congrArg some (by kernel_rfl))⟩
  f15 := Tryz.func208.trans (congrArg some (by kernel_rfl))
  f20 := ⟨Tryz.f266.name, by decide, Tryz.func266.trans (congrArg some (by kernel_rfl))⟩
  f21 := ⟨Tryz.f267.name, by decide, Tryz.func267.trans (congrArg some (by kernel_rfl))⟩
  f22 := ⟨Tryz.f268.name, by decide, Tryz.func268.trans (congrArg some (by kernel_rfl))⟩
  f23 := ⟨Tryz.f269.name, by decide, Tryz.func269.trans (congrArg some (by kernel_rfl))⟩
  f24 := ⟨Tryz.f270.name, by decide, Tryz.func270.trans (congrArg some (by kernel_rfl))⟩
  f25 := ⟨Tryz.f271.name, by decide, Tryz.func271.trans (congrArg some (by kernel_rfl))⟩
  f26 := ⟨Tryz.f272.name, by decide, Tryz.func272.trans (congrArg some (by kernel_rfl))⟩
  f27 := ⟨Tryz.f273.name, by decide, Tryz.func273.trans (congrArg some (by kernel_rfl))⟩
  f28 := Tryz.func274.trans (congrArg some (by kernel_rfl))
  f29 := Tryz.func275.trans (congrArg some (by kernel_rfl))
  f46 := ⟨Tryz.f322.name, by decide, Tryz.func322.trans (congrArg some (by kernel_rfl))⟩
  f47 := Tryz.func323.trans (congrArg some (by kernel_rfl))
  f48 := Tryz.func324.trans (congrArg some (by kernel_rfl))
  f49 := ⟨Tryz.f325.name, by decide, Tryz.func325.trans (congrArg some (by kernel_rfl))⟩
  f50 := ⟨Tryz.f326.name, by decide, Tryz.func326.trans (congrArg some (by kernel_rfl))⟩
  f57 := ⟨Tryz.f367.name, by decide, Tryz.func367.trans (congrArg some (by kernel_rfl))⟩
  t0 := Tryz.underlying0
  a0 := Tryz.isAgg0
  z0 := Tryz.sizeOf0
  v0 := Tryz.zeroValue0
  t3 := Tryz.underlying3
  a3 := Tryz.isAgg3
  z3 := Tryz.sizeOf3
  v3 := Tryz.zeroValue3
  t4 := Tryz.underlying4
  a4 := Tryz.isAgg4
  z4 := Tryz.sizeOf4
  v4 := Tryz.zeroValue4
  t5 := Tryz.underlying5
  a5 := Tryz.isAgg5
  z5 := Tryz.sizeOf5
  v5 := Tryz.zeroValue5
  t9 := Tryz.underlying9
  a9 := Tryz.isAgg9
  z9 := Tryz.sizeOf9
  v9 := Tryz.zeroValue9
  t22 := Tryz.underlying109
  a22 := Tryz.isAgg109
  z22 := Tryz.sizeOf109
  v22 := Tryz.zeroValue109
  t25 := Tryz.underlying156
  a25 := Tryz.isAgg156
  z25 := Tryz.sizeOf156
  v25 := Tryz.zeroValue156
  t39 := Tryz.underlying242
  a39 := Tryz.isAgg242
  z39 := Tryz.sizeOf242
  v39 := Tryz.zeroValue242
  t45 := Tryz.underlying293
  a45 := Tryz.isAgg293
  z45 := Tryz.sizeOf293
  v45 := Tryz.zeroValue293
  t46 := Tryz.underlying294
  a46 := Tryz.isAgg294
  z46 := Tryz.sizeOf294
  v46 := Tryz.zeroValue294
  t50 := Tryz.underlying181
  a50 := Tryz.isAgg181
  z50 := Tryz.sizeOf181
  v50 := Tryz.zeroValue181
  t53 := Tryz.underlying300
  a53 := Tryz.isAgg300
  z53 := Tryz.sizeOf300
  v53 := Tryz.zeroValue300
  t55 := Tryz.underlying302
  a55 := Tryz.isAgg302
  z55 := Tryz.sizeOf302
  v55 := Tryz.zeroValue302
  t66 := Tryz.underlying346
  a66 := Tryz.isAgg346
  z66 := Tryz.sizeOf346
  v66 := Tryz.zeroValue346
  t70 := Tryz.underlying350
  a70 := Tryz.isAgg350
  z70 := Tryz.sizeOf350
  v70 := Tryz.zeroValue350
  t76 := Tryz.underlying375
  a76 := Tryz.isAgg375
  z76 := Tryz.sizeOf375
  v76 := Tryz.zeroValue375
  t77 := Tryz.underlying376
  a77 := Tryz.isAgg376
  z77 := Tryz.sizeOf376
  v77 := Tryz.zeroValue376 }
end Go.Proofs
