/- The law of the parts of a count: the tied card's closed facts, one by one. -/
import Derived.Test.YtanaaiebgbpieaaGreatDoorRows
import Derived.Test.YtanaaiebgbpieaaGreatDoorTie
import Derived.Test.YtanaaiebgbpieaaGreatDoorCards
import Derived.SevenTiedAt
import Derived.Stop.Joined
namespace Go.Proofs.YtanaaiebgbpieaaGreatDoor
open Go
theorem subG1 : Rows.blameSubtreesRow.wfByText (OpenSpec.ofChange Rows.blameSubtreesSpec) = true := by kernel_rfl
theorem subG2 : Tryz.pinned.checked.prog.mainIs = some (true, "abf04dbef85116588982d2229f8cfbce9460af52fe6f066df4217c660f14cc54".toList) := by kernel_rfl
theorem subG3 : false = Tryz.pinned.checked.prog.looks [] := by kernel_rfl
theorem subG5 : false = Rows.blameSubtreesRow.goesBy Tryz.pinned.checked.prog := by kernel_rfl
end Go.Proofs.YtanaaiebgbpieaaGreatDoor
