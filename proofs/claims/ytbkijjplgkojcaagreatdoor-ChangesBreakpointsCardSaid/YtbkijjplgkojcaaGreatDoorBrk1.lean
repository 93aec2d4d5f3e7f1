/- The law of the breakpoints: the row's closed facts, one by one. -/
import Derived.Test.YtbkijjplgkojcaaGreatDoorRows
import Derived.JoinedOf
namespace Go.Proofs.YtbkijjplgkojcaaGreatDoor
open Go
theorem brkF_1 : Rows.changesBreakpointsRow.wf (OpenSpec.ofChange Rows.changesBreakpointsSpec) = true := by kernel_rfl
theorem brkF_2 : laidOutB Tryz.pinned.checked.prog = true := by kernel_rfl
theorem brkF_3 : mapsRowed Tryz.pinned.checked.prog = true := by kernel_rfl
theorem brkF_4 : (Rows.changesBreakpointsRow.inPlace == Tryz.pinned.checked.prog.inPlace 3) = true := by kernel_rfl
theorem brkF_5 : (Rows.changesBreakpointsRow.unfollowed == Tryz.pinned.checked.prog.unfollowed 3) = true := by kernel_rfl
theorem brkF_6 : (Rows.changesBreakpointsRow.recurses == Tryz.pinned.checked.prog.recurses 3) = true := by kernel_rfl
theorem brkF_7 : (Rows.changesBreakpointsRow.named == Tryz.pinned.checked.prog.varsNamed 3) = true := by kernel_rfl
theorem brkClosed : joinedFacts Tryz.pinned.checked.prog 3 Tryz.f3 Rows.changesBreakpointsSpec Rows.changesBreakpointsRow = true := by
  unfold joinedFacts
  rw [brkF_1, brkF_2, brkF_3, brkF_4, brkF_5, brkF_6, brkF_7]
  kernel_rfl
end Go.Proofs.YtbkijjplgkojcaaGreatDoor
