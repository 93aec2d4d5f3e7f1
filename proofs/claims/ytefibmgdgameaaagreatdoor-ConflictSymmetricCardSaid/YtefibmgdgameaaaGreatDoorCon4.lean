/- The law of acts that conflict: the tied card's closed facts, one by one. -/
import Derived.Test.YtefibmgdgameaaaGreatDoorRows
import Derived.Test.YtefibmgdgameaaaGreatDoorTie
import Derived.Test.YtefibmgdgameaaaGreatDoorCards
import Derived.SevenTiedAt
import Derived.Stop.Joined
namespace Go.Proofs.YtefibmgdgameaaaGreatDoor
open Go
theorem Xp : Rows.conflictSymmetricRow.wfByText (OpenSpec.ofChange Rows.conflictSymmetricSpec) = true := by kernel_rfl
theorem Xo : Tryz.pinned.checked.prog.mainIs = some (true, "a003bc6e37c9ae95f5fe78a1ba49fea088b4f722c383f381eb7e99d67a21aa74".toList) := by kernel_rfl
theorem Xn : false = Tryz.pinned.checked.prog.looks [] := by kernel_rfl
theorem Xm : false = Rows.conflictSymmetricRow.goesBy Tryz.pinned.checked.prog := by kernel_rfl
end Go.Proofs.YtefibmgdgameaaaGreatDoor
