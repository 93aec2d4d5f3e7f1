/- The law of a day out of range: the tied card's closed facts, one by one. -/
import Derived.Test.YtakinidhkjpibaaGreatDoorRows
import Derived.Test.YtakinidhkjpibaaGreatDoorTie
import Derived.Test.YtakinidhkjpibaaGreatDoorCards
import Derived.SevenTiedAt
import Derived.Stop.Joined
namespace Go.Proofs.YtakinidhkjpibaaGreatDoor
open Go
theorem ranG1 : Rows.consolidateRangeRow.wfByText (OpenSpec.ofChange Rows.consolidateRangeSpec) = true := by kernel_rfl
theorem ranG2 : Tryz.pinned.checked.prog.mainIs = some (true, "04ac4e56b18e89c4dee9db7076a417259569ec91c912c5af1bc6dec290c3137d".toList) := by kernel_rfl
theorem ranG3 : false = Tryz.pinned.checked.prog.looks [] := by kernel_rfl
theorem ranG5 : false = Rows.consolidateRangeRow.goesBy Tryz.pinned.checked.prog := by kernel_rfl
end Go.Proofs.YtakinidhkjpibaaGreatDoor
