/- The law of the authors and the counts: the row's closed facts, one by one. -/
import Derived.Test.YtpcjeaeadhciiaaGreatDoorRows
import Derived.JoinedOf
namespace Go.Proofs.YtpcjeaeadhciiaaGreatDoor
open Go
theorem autF1 : Rows.blameAuthorshipRow.wf (OpenSpec.ofChange Rows.blameAuthorshipSpec) = true := by kernel_rfl
theorem autF2 : laidOutB Tryz.pinned.checked.prog = true := by kernel_rfl
theorem autF3 : mapsRowed Tryz.pinned.checked.prog = true := by kernel_rfl
theorem autF4 : (Rows.blameAuthorshipRow.inPlace == Tryz.pinned.checked.prog.inPlace 5) = true := by kernel_rfl
theorem autF5 : (Rows.blameAuthorshipRow.unfollowed == Tryz.pinned.checked.prog.unfollowed 5) = true := by kernel_rfl
theorem autF6 : (Rows.blameAuthorshipRow.recurses == Tryz.pinned.checked.prog.recurses 5) = true := by kernel_rfl
theorem autF7 : (Rows.blameAuthorshipRow.named == Tryz.pinned.checked.prog.varsNamed 5) = true := by kernel_rfl
theorem autClosed : joinedFacts Tryz.pinned.checked.prog 5 Tryz.f5 Rows.blameAuthorshipSpec Rows.blameAuthorshipRow = true := by
  unfold joinedFacts
  rw [autF1, autF2, autF3, autF4, autF5, autF6, autF7]
  kernel_rfl
end Go.Proofs.YtpcjeaeadhciiaaGreatDoor
