/- The law of the breakpoints: the tied card's closed facts, one by one. -/
import Derived.Test.YtbkijjplgkojcaaGreatDoorRows
import Derived.Test.YtbkijjplgkojcaaGreatDoorTie
import Derived.Test.YtbkijjplgkojcaaGreatDoorCards
import Derived.SevenTiedAt
import Derived.Stop.Joined
namespace Go.Proofs.YtbkijjplgkojcaaGreatDoor
open Go
theorem brkG_1 : Rows.changesBreakpointsRow.wfByText (OpenSpec.ofChange Rows.changesBreakpointsSpec) = true := by kernel_rfl
theorem brkG_2 : Tryz.pinned.checked.prog.mainIs = some (true, "f3f7a6338a10c1fd279694c93dbdf6fa3740ae118e33ab04ed3c428324da6cd7".toList) := by kernel_rfl
theorem brkG_3 : false = Tryz.pinned.checked.prog.looks [] := by kernel_rfl
theorem brkG_5 : false = Rows.changesBreakpointsRow.goesBy Tryz.pinned.checked.prog := by kernel_rfl
end Go.Proofs.YtbkijjplgkojcaaGreatDoor
