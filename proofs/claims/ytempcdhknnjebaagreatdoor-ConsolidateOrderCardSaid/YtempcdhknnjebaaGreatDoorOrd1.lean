/- A law of chapter 30: the row's closed facts, one by one. -/
import Derived.Test.YtempcdhknnjebaaGreatDoorRows
import Derived.JoinedOf
namespace Go.Proofs.YtempcdhknnjebaaGreatDoor
open Go
theorem XW:Rows.consolidateOrderRow.wf (OpenSpec.ofChange Rows.consolidateOrderSpec)=true:=by kernel_rfl
theorem XX:laidOutB Tryz.pinned.checked.prog=true:=by kernel_rfl
theorem XZ:mapsRowed Tryz.pinned.checked.prog=true:=by kernel_rfl
theorem XQ:(Rows.consolidateOrderRow.inPlace == Tryz.pinned.checked.prog.inPlace 6)=true:=by kernel_rfl
theorem W9:(Rows.consolidateOrderRow.unfollowed == Tryz.pinned.checked.prog.unfollowed 6)=true:=by kernel_rfl
theorem W8:(Rows.consolidateOrderRow.recurses == Tryz.pinned.checked.prog.recurses 6)=true:=by kernel_rfl
theorem W7:(Rows.consolidateOrderRow.named == Tryz.pinned.checked.prog.varsNamed 6)=true:=by kernel_rfl
theorem LB:joinedFacts Tryz.pinned.checked.prog 6 Tryz.f6 Rows.consolidateOrderSpec Rows.consolidateOrderRow=true:=by
  unfold joinedFacts
  rw [XW,XX,XZ,XQ,W9,W8,W7]
  kernel_rfl
end Go.Proofs.YtempcdhknnjebaaGreatDoor
