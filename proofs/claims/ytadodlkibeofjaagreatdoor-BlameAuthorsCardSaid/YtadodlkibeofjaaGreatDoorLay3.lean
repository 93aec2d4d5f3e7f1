/-
  DERIVED: THE SHELF's CONTRACTS AT THIS DUMP, IN PLAIN WORDS (tools/lay-plain.mjs out of 'DevLay3S.lean', which tools/lay-shelf.mjs wrote): THE SAME DECLARATIONS UNDER THE SAME NAMES: 'import', 'namespace', 'open', 'def', 'theorem' AND NOTHING ELSE: no command of the shelf's: FOR A HAND-IN. Each laying: the table of numbers ('.._ren') and one theorem, a field a fact of the dump's own or the kernel's comparison; each contract: ONE APPLICATION.
-/
import Derived.Shelf.GgClosureLib.Lays
import Derived.Shelf.Strings.FuncGrows
import Derived.Shelf.Strings.OnBuilder
import Derived.Shelf.Strings.Repeat
import Derived.Shelf.Strings.SlTrimAscii
import Derived.Shelf.Strconv.Itoa4
import Derived.Ground.GgwProg
import Derived.Ground.NamesProg
import Derived.Test.YtadodlkibeofjaaGreatDoorProg
namespace Go.Proofs
open Go.Shelf
def Tryz.litoa_ren:Go.Shelf.Ren:=⟨fun|171=>60|243=>93|246=>130|283=>200|284=>201|285=>202|286=>203|129=>145|317=>260|318=>261|319=>262|320=>263|337=>291|338=>292|n=>n,fun|3=>3|9=>9|2=>2|4=>4|171=>260|0=>0|53=>231|37=>262|5=>5|173=>263|212=>315|51=>229|20=>20|213=>316|46=>181|232=>363|233=>364|n=>n,fun|17=>1|18=>3|19=>4|n=>n⟩
theorem Tryz.litoa:Go.Proofs.LaysM.n171 Tryz.prog Tryz.litoa_ren:={
  mixed:=by kernel_rfl
  f129:=Tryz.func145.trans (congrArg some (by kernel_rfl))
  f171:=Tryz.func60.trans (congrArg some (by kernel_rfl))
  f243:=Tryz.func93.trans (congrArg some (by kernel_rfl))
  f246:=Tryz.func130.trans (congrArg some (by kernel_rfl))
  f283:=Tryz.func200.trans (congrArg some (by kernel_rfl))
  f284:=Tryz.func201.trans (congrArg some (by kernel_rfl))
  f285:=Tryz.func202.trans (congrArg some (by kernel_rfl))
  f286:=Tryz.func203.trans (congrArg some (by kernel_rfl))
  f317:=Tryz.func260.trans (congrArg some (by kernel_rfl))
  f318:=Tryz.func261.trans (congrArg some (by kernel_rfl))
  f319:=Tryz.func262.trans (congrArg some (by kernel_rfl))
  f320:=Tryz.func263.trans (congrArg some (by kernel_rfl))
  f337:=Tryz.func291.trans (congrArg some (by kernel_rfl))
  f338:=Tryz.func292.trans (congrArg some (by kernel_rfl))
  t0:=Tryz.underlying0
  a0:=Tryz.isAgg0
  z0:=Tryz.sizeOf0
  v0:=Tryz.zeroValue0
  t2:=Tryz.underlying2
  a2:=Tryz.isAgg2
  z2:=Tryz.sizeOf2
  v2:=Tryz.zeroValue2
  t3:=Tryz.underlying3
  a3:=Tryz.isAgg3
  z3:=Tryz.sizeOf3
  v3:=Tryz.zeroValue3
  t4:=Tryz.underlying4
  a4:=Tryz.isAgg4
  z4:=Tryz.sizeOf4
  v4:=Tryz.zeroValue4
  t5:=Tryz.underlying5
  a5:=Tryz.isAgg5
  z5:=Tryz.sizeOf5
  v5:=Tryz.zeroValue5
  t9:=Tryz.underlying9
  a9:=Tryz.isAgg9
  z9:=Tryz.sizeOf9
  v9:=Tryz.zeroValue9
  t20:=Tryz.underlying20
  a20:=Tryz.isAgg20
  z20:=Tryz.sizeOf20
  v20:=Tryz.zeroValue20
  t37:=Tryz.underlying262
  a37:=Tryz.isAgg262
  z37:=Tryz.sizeOf262
  v37:=Tryz.zeroValue262
  t46:=Tryz.underlying181
  a46:=Tryz.isAgg181
  z46:=Tryz.sizeOf181
  v46:=Tryz.zeroValue181
  t51:=Tryz.underlying229
  a51:=Tryz.isAgg229
  z51:=Tryz.sizeOf229
  v51:=Tryz.zeroValue229
  t53:=Tryz.underlying231
  a53:=Tryz.isAgg231
  z53:=Tryz.sizeOf231
  v53:=Tryz.zeroValue231
  t171:=Tryz.underlying260
  a171:=Tryz.isAgg260
  z171:=Tryz.sizeOf260
  v171:=Tryz.zeroValue260
  t173:=Tryz.underlying263
  a173:=Tryz.isAgg263
  z173:=Tryz.sizeOf263
  v173:=Tryz.zeroValue263
  t212:=Tryz.underlying315
  a212:=Tryz.isAgg315
  z212:=Tryz.sizeOf315
  v212:=Tryz.zeroValue315
  t213:=Tryz.underlying316
  a213:=Tryz.isAgg316
  z213:=Tryz.sizeOf316
  t232:=Tryz.underlying363
  a232:=Tryz.isAgg363
  z232:=Tryz.sizeOf363
  v232:=Tryz.zeroValue363
  t233:=Tryz.underlying364
  a233:=Tryz.isAgg364
  z233:=Tryz.sizeOf364
  v233:=Tryz.zeroValue364
  g17:=by kernel_rfl
  g18:=by kernel_rfl
  g19:=by kernel_rfl
  i0:=by kernel_rfl
  i2:=by kernel_rfl
  i3:=by kernel_rfl
  i4:=by kernel_rfl
  i5:=by kernel_rfl
  i9:=by kernel_rfl
  i20:=by kernel_rfl
  i37:=by kernel_rfl
  i46:=by kernel_rfl
  i51:=by kernel_rfl
  i53:=by kernel_rfl
  i171:=by kernel_rfl
  i173:=by kernel_rfl
  i212:=by kernel_rfl
  i232:=by kernel_rfl
  i233:=by kernel_rfl
  m17:=by kernel_rfl
  m18:=by kernel_rfl
  m19:=by kernel_rfl}
end Go.Proofs
