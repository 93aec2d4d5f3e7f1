/- A law of chapter 35: the tied card's closed facts, one by one. -/
import Derived.Test.YtiodnhiainjfgaaGreatDoorRows
import Derived.Test.YtiodnhiainjfgaaGreatDoorTie
import Derived.Test.YtiodnhiainjfgaaGreatDoorCards
import Derived.SevenTiedAt
import Derived.Stop.Joined
namespace Go.Proofs.YtiodnhiainjfgaaGreatDoor
open Go
theorem XU:Rows.effectPartitionRow.wfByText (OpenSpec.ofChange Rows.effectPartitionSpec)=true:=by kernel_rfl
theorem XY:Tryz.pinned.checked.prog.mainIs=some (true, "898c9cc203b9760a89a16c3e6a7d02bbed440c381df45cb6b5015f126002c64d".toList):=by kernel_rfl
theorem XV:false=Tryz.pinned.checked.prog.looks []:=by kernel_rfl
theorem XK:false=Rows.effectPartitionRow.goesBy Tryz.pinned.checked.prog:=by kernel_rfl
end Go.Proofs.YtiodnhiainjfgaaGreatDoor
