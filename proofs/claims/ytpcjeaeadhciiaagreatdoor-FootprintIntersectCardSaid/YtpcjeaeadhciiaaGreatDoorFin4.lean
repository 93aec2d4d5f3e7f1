/- The law of keys that meet: the tied card's closed facts, one by one. -/
import Derived.Test.YtpcjeaeadhciiaaGreatDoorRows
import Derived.Test.YtpcjeaeadhciiaaGreatDoorTie
import Derived.Test.YtpcjeaeadhciiaaGreatDoorCards
import Derived.SevenTiedAt
import Derived.Stop.Joined
namespace Go.Proofs.YtpcjeaeadhciiaaGreatDoor
open Go
theorem finG1 : Rows.footprintIntersectRow.wfByText (OpenSpec.ofChange Rows.footprintIntersectSpec) = true := by kernel_rfl
theorem finG2 : Tryz.pinned.checked.prog.mainIs = some (true, "8b19f20712472fb4027e051f076d89cd6cbe8e0e462ca439f19c91ba71667b71".toList) := by kernel_rfl
theorem finG3 : false = Tryz.pinned.checked.prog.looks [] := by kernel_rfl
theorem finG5 : false = Rows.footprintIntersectRow.goesBy Tryz.pinned.checked.prog := by kernel_rfl
end Go.Proofs.YtpcjeaeadhciiaaGreatDoor
