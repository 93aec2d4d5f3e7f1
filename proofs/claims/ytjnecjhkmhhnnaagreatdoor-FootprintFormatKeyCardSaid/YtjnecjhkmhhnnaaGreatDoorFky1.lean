/- The law of key texts: the row's closed facts, one by one. -/
import Derived.Test.YtjnecjhkmhhnnaaGreatDoorRows
import Derived.JoinedOf
namespace Go.Proofs.YtjnecjhkmhhnnaaGreatDoor
open Go
theorem fkyF1 : Rows.footprintFormatKeyRow.wf (OpenSpec.ofChange Rows.footprintFormatKeySpec) = true := by kernel_rfl
theorem fkyF2 : laidOutB Tryz.pinned.checked.prog = true := by kernel_rfl
theorem fkyF3 : mapsRowed Tryz.pinned.checked.prog = true := by kernel_rfl
theorem fkyF4 : (Rows.footprintFormatKeyRow.inPlace == Tryz.pinned.checked.prog.inPlace 4) = true := by kernel_rfl
theorem fkyF5 : (Rows.footprintFormatKeyRow.unfollowed == Tryz.pinned.checked.prog.unfollowed 4) = true := by kernel_rfl
theorem fkyF6 : (Rows.footprintFormatKeyRow.recurses == Tryz.pinned.checked.prog.recurses 4) = true := by kernel_rfl
theorem fkyF7 : (Rows.footprintFormatKeyRow.named == Tryz.pinned.checked.prog.varsNamed 4) = true := by kernel_rfl
theorem fkyClosed : joinedFacts Tryz.pinned.checked.prog 4 Tryz.f4 Rows.footprintFormatKeySpec Rows.footprintFormatKeyRow = true := by
  unfold joinedFacts
  rw [fkyF1, fkyF2, fkyF3, fkyF4, fkyF5, fkyF6, fkyF7]
  kernel_rfl
end Go.Proofs.YtjnecjhkmhhnnaaGreatDoor
