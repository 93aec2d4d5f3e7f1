/- A law of chapter 30: the tied card's closed facts, one by one. -/
import Derived.Test.YtempcdhknnjebaaGreatDoorRows
import Derived.Test.YtempcdhknnjebaaGreatDoorTie
import Derived.Test.YtempcdhknnjebaaGreatDoorCards
import Derived.SevenTiedAt
import Derived.Stop.Joined
namespace Go.Proofs.YtempcdhknnjebaaGreatDoor
open Go
theorem W6:Rows.consolidateOrderRow.wfByText (OpenSpec.ofChange Rows.consolidateOrderSpec)=true:=by kernel_rfl
theorem W5 : Tryz.pinned.checked.prog.mainIs = some (true, "edca3178b285fbfb636567e68b2fd5812dbf102527ae20ec6031b0528a7deabf".toList) := by kernel_rfl
theorem W0:false=Tryz.pinned.checked.prog.looks []:=by kernel_rfl
theorem WT:false=Rows.consolidateOrderRow.goesBy Tryz.pinned.checked.prog:=by kernel_rfl
end Go.Proofs.YtempcdhknnjebaaGreatDoor
