/- A law of chapter 36: the tied card's closed facts, one by one. -/
import Derived.Test.YtaepacpodblomaaGreatDoorRows
import Derived.Test.YtaepacpodblomaaGreatDoorTie
import Derived.Test.YtaepacpodblomaaGreatDoorCards
import Derived.SevenTiedAt
import Derived.Stop.Joined
namespace Go.Proofs.YtaepacpodblomaaGreatDoor
open Go
theorem Zo:Rows.bitemporalCausesRow.wfByText (OpenSpec.ofChange Rows.bitemporalCausesSpec)=true:=by kernel_rfl
theorem Zn:Tryz.pinned.checked.prog.mainIs=some (true, "f6cb52252051df8a4870d322d7c1acd55bdcaaa3881bdaba8c8f561960d38139".toList):=by kernel_rfl
theorem Zm:false=Tryz.pinned.checked.prog.looks []:=by kernel_rfl
theorem Zl:false=Rows.bitemporalCausesRow.goesBy Tryz.pinned.checked.prog:=by kernel_rfl
end Go.Proofs.YtaepacpodblomaaGreatDoor
