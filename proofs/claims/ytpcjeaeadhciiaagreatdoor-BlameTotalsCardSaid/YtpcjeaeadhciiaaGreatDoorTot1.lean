/- The law of the totals of a count: the row's closed facts, one by one. -/
import Derived.Test.YtpcjeaeadhciiaaGreatDoorRows
import Derived.JoinedOf
namespace Go.Proofs.YtpcjeaeadhciiaaGreatDoor
open Go
theorem totF1 : Rows.blameTotalsRow.wf (OpenSpec.ofChange Rows.blameTotalsSpec) = true := by kernel_rfl
theorem totF2 : laidOutB Tryz.pinned.checked.prog = true := by kernel_rfl
theorem totF3 : mapsRowed Tryz.pinned.checked.prog = true := by kernel_rfl
theorem totF4 : (Rows.blameTotalsRow.inPlace == Tryz.pinned.checked.prog.inPlace 6) = true := by kernel_rfl
theorem totF5 : (Rows.blameTotalsRow.unfollowed == Tryz.pinned.checked.prog.unfollowed 6) = true := by kernel_rfl
theorem totF6 : (Rows.blameTotalsRow.recurses == Tryz.pinned.checked.prog.recurses 6) = true := by kernel_rfl
theorem totF7 : (Rows.blameTotalsRow.named == Tryz.pinned.checked.prog.varsNamed 6) = true := by kernel_rfl
theorem totClosed : joinedFacts Tryz.pinned.checked.prog 6 Tryz.f6 Rows.blameTotalsSpec Rows.blameTotalsRow = true := by
  unfold joinedFacts
  rw [totF1, totF2, totF3, totF4, totF5, totF6, totF7]
  kernel_rfl
end Go.Proofs.YtpcjeaeadhciiaaGreatDoor
