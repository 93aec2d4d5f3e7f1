/- A law of chapter 30: the row's closed facts, one by one. -/
import Derived.Test.YtempcdhknnjebaaGreatDoorRows
import Derived.JoinedOf
namespace Go.Proofs.YtempcdhknnjebaaGreatDoor
open Go
theorem WR:Rows.consolidateStepsRow.wf (OpenSpec.ofChange Rows.consolidateStepsSpec)=true:=by kernel_rfl
theorem WO:laidOutB Tryz.pinned.checked.prog=true:=by kernel_rfl
theorem WN:mapsRowed Tryz.pinned.checked.prog=true:=by kernel_rfl
theorem WM:(Rows.consolidateStepsRow.inPlace == Tryz.pinned.checked.prog.inPlace 8)=true:=by kernel_rfl
theorem WL:(Rows.consolidateStepsRow.unfollowed == Tryz.pinned.checked.prog.unfollowed 8)=true:=by kernel_rfl
theorem WI:(Rows.consolidateStepsRow.recurses == Tryz.pinned.checked.prog.recurses 8)=true:=by kernel_rfl
theorem WH:(Rows.consolidateStepsRow.named == Tryz.pinned.checked.prog.varsNamed 8)=true:=by kernel_rfl
theorem Lz:joinedFacts Tryz.pinned.checked.prog 8 Tryz.f8 Rows.consolidateStepsSpec Rows.consolidateStepsRow=true:=by
  unfold joinedFacts
  rw [WR,WO,WN,WM,WL,WI,WH]
  kernel_rfl
end Go.Proofs.YtempcdhknnjebaaGreatDoor
