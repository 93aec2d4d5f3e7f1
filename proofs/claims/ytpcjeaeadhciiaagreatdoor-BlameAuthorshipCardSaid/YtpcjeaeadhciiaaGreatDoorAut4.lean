/- The law of the authors and the counts: the tied card's closed facts, one by one. -/
import Derived.Test.YtpcjeaeadhciiaaGreatDoorRows
import Derived.Test.YtpcjeaeadhciiaaGreatDoorTie
import Derived.Test.YtpcjeaeadhciiaaGreatDoorCards
import Derived.SevenTiedAt
import Derived.Stop.Joined
namespace Go.Proofs.YtpcjeaeadhciiaaGreatDoor
open Go
theorem autG1 : Rows.blameAuthorshipRow.wfByText (OpenSpec.ofChange Rows.blameAuthorshipSpec) = true := by kernel_rfl
theorem autG2 : Tryz.pinned.checked.prog.mainIs = some (true, "8b19f20712472fb4027e051f076d89cd6cbe8e0e462ca439f19c91ba71667b71".toList) := by kernel_rfl
theorem autG3 : false = Tryz.pinned.checked.prog.looks [] := by kernel_rfl
theorem autG5 : false = Rows.blameAuthorshipRow.goesBy Tryz.pinned.checked.prog := by kernel_rfl
end Go.Proofs.YtpcjeaeadhciiaaGreatDoor
