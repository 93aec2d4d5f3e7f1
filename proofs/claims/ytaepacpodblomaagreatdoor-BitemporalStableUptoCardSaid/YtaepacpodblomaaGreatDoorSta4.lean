/- A law of chapter 36: the tied card's closed facts, one by one. -/
import Derived.Test.YtaepacpodblomaaGreatDoorRows
import Derived.Test.YtaepacpodblomaaGreatDoorTie
import Derived.Test.YtaepacpodblomaaGreatDoorCards
import Derived.SevenTiedAt
import Derived.Stop.Joined
namespace Go.Proofs.YtaepacpodblomaaGreatDoor
open Go
theorem X1:Rows.bitemporalStableUptoRow.wfByText (Rows.OpenSpec.upto Rows.bitemporalStableSpec)=true:=by kernel_rfl
theorem X0:Tryz.pinned.checked.prog.mainIs=some (true, "f6cb52252051df8a4870d322d7c1acd55bdcaaa3881bdaba8c8f561960d38139".toList):=by kernel_rfl
theorem XT:false=Tryz.pinned.checked.prog.looks []:=by kernel_rfl
theorem XS:false=Rows.bitemporalStableUptoRow.goesBy Tryz.pinned.checked.prog:=by kernel_rfl
end Go.Proofs.YtaepacpodblomaaGreatDoor
