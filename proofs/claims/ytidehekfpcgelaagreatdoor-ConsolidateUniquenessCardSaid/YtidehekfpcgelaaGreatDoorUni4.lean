/- A law of chapter 30: the tied card's closed facts, one by one. -/
import Derived.Test.YtidehekfpcgelaaGreatDoorRows
import Derived.Test.YtidehekfpcgelaaGreatDoorTie
import Derived.Test.YtidehekfpcgelaaGreatDoorCards
import Derived.SevenTiedAt
import Derived.Stop.Joined
namespace Go.Proofs.YtidehekfpcgelaaGreatDoor
open Go
theorem Zv:Rows.consolidateUniquenessRow.wfByText (OpenSpec.ofChange Rows.consolidateUniquenessSpec)=true:=by kernel_rfl
theorem Zw:Tryz.pinned.checked.prog.mainIs=some (true, "edca3178b285fbfb636567e68b2fd5812dbf102527ae20ec6031b0528a7deabf".toList):=by kernel_rfl
theorem Zk:false=Tryz.pinned.checked.prog.looks []:=by kernel_rfl
theorem Zj:false=Rows.consolidateUniquenessRow.goesBy Tryz.pinned.checked.prog:=by kernel_rfl
end Go.Proofs.YtidehekfpcgelaaGreatDoor
