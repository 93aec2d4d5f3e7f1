/- A law of chapter 35: the tied card's closed facts, one by one. -/
import Derived.Test.YtiflidpifinbjaaGreatDoorRows
import Derived.Test.YtiflidpifinbjaaGreatDoorTie
import Derived.Test.YtiflidpifinbjaaGreatDoorCards
import Derived.SevenTiedAt
import Derived.Stop.Joined
namespace Go.Proofs.YtiflidpifinbjaaGreatDoor
open Go
theorem aau:Rows.effectProvenanceRow.wfByText (OpenSpec.ofChange Rows.effectProvenanceSpec)=true:=by kernel_rfl
theorem aat:Tryz.pinned.checked.prog.mainIs=some (true, "071fc32559e3c794b9d4882bf3b02255c9003a291544319c8e469d43d36bab4f".toList):=by kernel_rfl
theorem aas:false=Tryz.pinned.checked.prog.looks []:=by kernel_rfl
theorem aar:false=Rows.effectProvenanceRow.goesBy Tryz.pinned.checked.prog:=by kernel_rfl
end Go.Proofs.YtiflidpifinbjaaGreatDoor
