/- The law of the totals of a count: the tied card's closed facts, one by one. -/
import Derived.Test.YtpcjeaeadhciiaaGreatDoorRows
import Derived.Test.YtpcjeaeadhciiaaGreatDoorTie
import Derived.Test.YtpcjeaeadhciiaaGreatDoorCards
import Derived.SevenTiedAt
import Derived.Stop.Joined
namespace Go.Proofs.YtpcjeaeadhciiaaGreatDoor
open Go
theorem totG1 : Rows.blameTotalsRow.wfByText (OpenSpec.ofChange Rows.blameTotalsSpec) = true := by kernel_rfl
theorem totG2 : Tryz.pinned.checked.prog.mainIs = some (true, "8b19f20712472fb4027e051f076d89cd6cbe8e0e462ca439f19c91ba71667b71".toList) := by kernel_rfl
theorem totG3 : false = Tryz.pinned.checked.prog.looks [] := by kernel_rfl
theorem totG5 : false = Rows.blameTotalsRow.goesBy Tryz.pinned.checked.prog := by kernel_rfl
end Go.Proofs.YtpcjeaeadhciiaaGreatDoor
