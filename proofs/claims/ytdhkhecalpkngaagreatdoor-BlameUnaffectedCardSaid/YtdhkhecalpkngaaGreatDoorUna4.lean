/- A law of chapter 34: the tied card's closed facts, one by one. -/
import Derived.Test.YtdhkhecalpkngaaGreatDoorRows
import Derived.Test.YtdhkhecalpkngaaGreatDoorTie
import Derived.Test.YtdhkhecalpkngaaGreatDoorCards
import Derived.SevenTiedAt
import Derived.Stop.Joined
namespace Go.Proofs.YtdhkhecalpkngaaGreatDoor
open Go
theorem Yd:Rows.blameUnaffectedRow.wfByText (OpenSpec.ofChange Rows.blameUnaffectedSpec)=true:=by kernel_rfl
theorem Yc:Tryz.pinned.checked.prog.mainIs=some (true, "d80d7e2d464d1f228a3f8f126a665a4671f58445c966b9dcb104b61a21a87380".toList):=by kernel_rfl
theorem Yb:false=Tryz.pinned.checked.prog.looks []:=by kernel_rfl
theorem Ya:false=Rows.blameUnaffectedRow.goesBy Tryz.pinned.checked.prog:=by kernel_rfl
end Go.Proofs.YtdhkhecalpkngaaGreatDoor
