/- The law of an engine's capacity: the row's closed facts, one by one. -/
import Derived.Test.YtncndbiboobpdaaGreatDoorRows
import Derived.JoinedOf
namespace Go.Proofs.YtncndbiboobpdaaGreatDoor
open Go
theorem capF1 : Rows.engineCapacityRow.wf (OpenSpec.ofChange Rows.engineCapacitySpec) = true := by kernel_rfl
theorem capF2 : laidOutB Tryz.pinned.checked.prog = true := by kernel_rfl
theorem capF3 : mapsRowed Tryz.pinned.checked.prog = true := by kernel_rfl
theorem capF4 : (Rows.engineCapacityRow.inPlace == Tryz.pinned.checked.prog.inPlace 3) = true := by kernel_rfl
theorem capF5 : (Rows.engineCapacityRow.unfollowed == Tryz.pinned.checked.prog.unfollowed 3) = true := by kernel_rfl
theorem capF6 : (Rows.engineCapacityRow.recurses == Tryz.pinned.checked.prog.recurses 3) = true := by kernel_rfl
theorem capF7 : (Rows.engineCapacityRow.named == Tryz.pinned.checked.prog.varsNamed 3) = true := by kernel_rfl
theorem capClosed : joinedFacts Tryz.pinned.checked.prog 3 Tryz.f3 Rows.engineCapacitySpec Rows.engineCapacityRow = true := by
  unfold joinedFacts
  rw [capF1, capF2, capF3, capF4, capF5, capF6, capF7]
  kernel_rfl
end Go.Proofs.YtncndbiboobpdaaGreatDoor
