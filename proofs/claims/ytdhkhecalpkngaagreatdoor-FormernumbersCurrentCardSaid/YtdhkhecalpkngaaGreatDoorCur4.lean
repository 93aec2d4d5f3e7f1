/- A law of chapter 44: the tied card's closed facts, one by one. -/
import Derived.Test.YtdhkhecalpkngaaGreatDoorRows
import Derived.Test.YtdhkhecalpkngaaGreatDoorTie
import Derived.Test.YtdhkhecalpkngaaGreatDoorCards
import Derived.SevenTiedAt
import Derived.Stop.Joined
namespace Go.Proofs.YtdhkhecalpkngaaGreatDoor
open Go
theorem aad:Rows.formernumbersCurrentRow.wfByText (OpenSpec.ofChange Rows.formernumbersCurrentSpec)=true:=by kernel_rfl
theorem aac:Tryz.pinned.checked.prog.mainIs=some (true, "d80d7e2d464d1f228a3f8f126a665a4671f58445c966b9dcb104b61a21a87380".toList):=by kernel_rfl
theorem aab:false=Tryz.pinned.checked.prog.looks []:=by kernel_rfl
theorem aaa:false=Rows.formernumbersCurrentRow.goesBy Tryz.pinned.checked.prog:=by kernel_rfl
end Go.Proofs.YtdhkhecalpkngaaGreatDoor
