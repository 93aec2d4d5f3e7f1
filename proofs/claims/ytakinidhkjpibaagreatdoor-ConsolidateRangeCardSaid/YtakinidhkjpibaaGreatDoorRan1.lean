/- The law of a day out of range: the row's closed facts, one by one. -/
import Derived.Test.YtakinidhkjpibaaGreatDoorRows
import Derived.JoinedOf
namespace Go.Proofs.YtakinidhkjpibaaGreatDoor
open Go
theorem ranF1 : Rows.consolidateRangeRow.wf (OpenSpec.ofChange Rows.consolidateRangeSpec) = true := by kernel_rfl
theorem ranF2 : laidOutB Tryz.pinned.checked.prog = true := by kernel_rfl
theorem ranF3 : mapsRowed Tryz.pinned.checked.prog = true := by kernel_rfl
theorem ranF4 : (Rows.consolidateRangeRow.inPlace == Tryz.pinned.checked.prog.inPlace 5) = true := by kernel_rfl
theorem ranF5 : (Rows.consolidateRangeRow.unfollowed == Tryz.pinned.checked.prog.unfollowed 5) = true := by kernel_rfl
theorem ranF6 : (Rows.consolidateRangeRow.recurses == Tryz.pinned.checked.prog.recurses 5) = true := by kernel_rfl
theorem ranF7 : (Rows.consolidateRangeRow.named == Tryz.pinned.checked.prog.varsNamed 5) = true := by kernel_rfl
theorem ranClosed : joinedFacts Tryz.pinned.checked.prog 5 Tryz.f5 Rows.consolidateRangeSpec Rows.consolidateRangeRow = true := by
  unfold joinedFacts
  rw [ranF1, ranF2, ranF3, ranF4, ranF5, ranF6, ranF7]
  kernel_rfl
end Go.Proofs.YtakinidhkjpibaaGreatDoor
