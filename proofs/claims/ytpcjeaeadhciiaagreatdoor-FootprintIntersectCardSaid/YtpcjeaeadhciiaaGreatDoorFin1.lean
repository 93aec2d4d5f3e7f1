/- The law of keys that meet: the row's closed facts, one by one. -/
import Derived.Test.YtpcjeaeadhciiaaGreatDoorRows
import Derived.JoinedOf
namespace Go.Proofs.YtpcjeaeadhciiaaGreatDoor
open Go
theorem finF1 : Rows.footprintIntersectRow.wf (OpenSpec.ofChange Rows.footprintIntersectSpec) = true := by kernel_rfl
theorem finF2 : laidOutB Tryz.pinned.checked.prog = true := by kernel_rfl
theorem finF3 : mapsRowed Tryz.pinned.checked.prog = true := by kernel_rfl
theorem finF4 : (Rows.footprintIntersectRow.inPlace == Tryz.pinned.checked.prog.inPlace 3) = true := by kernel_rfl
theorem finF5 : (Rows.footprintIntersectRow.unfollowed == Tryz.pinned.checked.prog.unfollowed 3) = true := by kernel_rfl
theorem finF6 : (Rows.footprintIntersectRow.recurses == Tryz.pinned.checked.prog.recurses 3) = true := by kernel_rfl
theorem finF7 : (Rows.footprintIntersectRow.named == Tryz.pinned.checked.prog.varsNamed 3) = true := by kernel_rfl
theorem finClosed : joinedFacts Tryz.pinned.checked.prog 3 Tryz.f3 Rows.footprintIntersectSpec Rows.footprintIntersectRow = true := by
  unfold joinedFacts
  rw [finF1, finF2, finF3, finF4, finF5, finF6, finF7]
  kernel_rfl
end Go.Proofs.YtpcjeaeadhciiaaGreatDoor
