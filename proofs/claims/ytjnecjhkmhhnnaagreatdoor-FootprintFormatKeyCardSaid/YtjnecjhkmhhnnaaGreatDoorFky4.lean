/- The law of key texts: the tied card's closed facts, one by one. -/
import Derived.Test.YtjnecjhkmhhnnaaGreatDoorRows
import Derived.Test.YtjnecjhkmhhnnaaGreatDoorTie
import Derived.Test.YtjnecjhkmhhnnaaGreatDoorCards
import Derived.SevenTiedAt
import Derived.Stop.Joined
namespace Go.Proofs.YtjnecjhkmhhnnaaGreatDoor
open Go
theorem fkyG1 : Rows.footprintFormatKeyRow.wfByText (OpenSpec.ofChange Rows.footprintFormatKeySpec) = true := by kernel_rfl
theorem fkyG2 : Tryz.pinned.checked.prog.mainIs = some (true, "8b19f20712472fb4027e051f076d89cd6cbe8e0e462ca439f19c91ba71667b71".toList) := by kernel_rfl
theorem fkyG3 : false = Tryz.pinned.checked.prog.looks [] := by kernel_rfl
theorem fkyG5 : false = Rows.footprintFormatKeyRow.goesBy Tryz.pinned.checked.prog := by kernel_rfl
end Go.Proofs.YtjnecjhkmhhnnaaGreatDoor
