/- A law of chapter 30: the tied card's closed facts, one by one. -/
import Derived.Test.YtempcdhknnjebaaGreatDoorRows
import Derived.Test.YtempcdhknnjebaaGreatDoorTie
import Derived.Test.YtempcdhknnjebaaGreatDoorCards
import Derived.SevenTiedAt
import Derived.Stop.Joined
namespace Go.Proofs.YtempcdhknnjebaaGreatDoor
open Go
theorem WG:Rows.consolidateStepsRow.wfByText (OpenSpec.ofChange Rows.consolidateStepsSpec)=true:=by kernel_rfl
theorem WF : Tryz.pinned.checked.prog.mainIs = some (true, "edca3178b285fbfb636567e68b2fd5812dbf102527ae20ec6031b0528a7deabf".toList) := by kernel_rfl
theorem WE:false=Tryz.pinned.checked.prog.looks []:=by kernel_rfl
theorem WD:false=Rows.consolidateStepsRow.goesBy Tryz.pinned.checked.prog:=by kernel_rfl
end Go.Proofs.YtempcdhknnjebaaGreatDoor
