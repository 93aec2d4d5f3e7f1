/- A law of chapter 31: the tied card's closed facts, one by one. -/
import Derived.Test.YtaepacpodblomaaGreatDoorRows
import Derived.Test.YtaepacpodblomaaGreatDoorTie
import Derived.Test.YtaepacpodblomaaGreatDoorCards
import Derived.SevenTiedAt
import Derived.Stop.Joined
namespace Go.Proofs.YtaepacpodblomaaGreatDoor
open Go
theorem YH:Rows.changesAscendingRow.wfByText (OpenSpec.ofChange Rows.changesAscendingSpec)=true:=by kernel_rfl
theorem YG:Tryz.pinned.checked.prog.mainIs=some (true, "f6cb52252051df8a4870d322d7c1acd55bdcaaa3881bdaba8c8f561960d38139".toList):=by kernel_rfl
theorem YF:false=Tryz.pinned.checked.prog.looks []:=by kernel_rfl
theorem YE:false=Rows.changesAscendingRow.goesBy Tryz.pinned.checked.prog:=by kernel_rfl
end Go.Proofs.YtaepacpodblomaaGreatDoor
