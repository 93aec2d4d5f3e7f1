/- The law of the parts of a count: the row's closed facts, one by one. -/
import Derived.Test.YtanaaiebgbpieaaGreatDoorRows
import Derived.JoinedOf
namespace Go.Proofs.YtanaaiebgbpieaaGreatDoor
open Go
theorem subF1 : Rows.blameSubtreesRow.wf (OpenSpec.ofChange Rows.blameSubtreesSpec) = true := by kernel_rfl
theorem subF2 : laidOutB Tryz.pinned.checked.prog = true := by kernel_rfl
theorem subF3 : mapsRowed Tryz.pinned.checked.prog = true := by kernel_rfl
theorem subF4 : (Rows.blameSubtreesRow.inPlace == Tryz.pinned.checked.prog.inPlace 3) = true := by kernel_rfl
theorem subF5 : (Rows.blameSubtreesRow.unfollowed == Tryz.pinned.checked.prog.unfollowed 3) = true := by kernel_rfl
theorem subF6 : (Rows.blameSubtreesRow.recurses == Tryz.pinned.checked.prog.recurses 3) = true := by kernel_rfl
theorem subF7 : (Rows.blameSubtreesRow.named == Tryz.pinned.checked.prog.varsNamed 3) = true := by kernel_rfl
theorem subClosed : joinedFacts Tryz.pinned.checked.prog 3 Tryz.f3 Rows.blameSubtreesSpec Rows.blameSubtreesRow = true := by
  unfold joinedFacts
  rw [subF1, subF2, subF3, subF4, subF5, subF6, subF7]
  kernel_rfl
end Go.Proofs.YtanaaiebgbpieaaGreatDoor
