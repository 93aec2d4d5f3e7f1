/- A law of chapter 30: the row's closed facts, one by one. -/
import Derived.Test.YtempcdhknnjebaaGreatDoorRows
import Derived.JoinedOf
namespace Go.Proofs.YtempcdhknnjebaaGreatDoor
open Go
theorem WZ:Rows.consolidatePrefixesRow.wf (OpenSpec.ofChange Rows.consolidatePrefixesSpec)=true:=by kernel_rfl
theorem WQ:laidOutB Tryz.pinned.checked.prog=true:=by kernel_rfl
theorem V9:mapsRowed Tryz.pinned.checked.prog=true:=by kernel_rfl
theorem V8:(Rows.consolidatePrefixesRow.inPlace == Tryz.pinned.checked.prog.inPlace 5)=true:=by kernel_rfl
theorem V7:(Rows.consolidatePrefixesRow.unfollowed == Tryz.pinned.checked.prog.unfollowed 5)=true:=by kernel_rfl
theorem V6:(Rows.consolidatePrefixesRow.recurses == Tryz.pinned.checked.prog.recurses 5)=true:=by kernel_rfl
theorem V5:(Rows.consolidatePrefixesRow.named == Tryz.pinned.checked.prog.varsNamed 5)=true:=by kernel_rfl
theorem K4:joinedFacts Tryz.pinned.checked.prog 5 Tryz.f5 Rows.consolidatePrefixesSpec Rows.consolidatePrefixesRow=true:=by
  unfold joinedFacts
  rw [WZ,WQ,V9,V8,V7,V6,V5]
  kernel_rfl
end Go.Proofs.YtempcdhknnjebaaGreatDoor
