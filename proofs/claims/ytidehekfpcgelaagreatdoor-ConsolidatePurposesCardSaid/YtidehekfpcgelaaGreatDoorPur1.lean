/- A law of chapter 30: the row's closed facts, one by one. -/
import Derived.Test.YtidehekfpcgelaaGreatDoorRows
import Derived.JoinedOf
namespace Go.Proofs.YtidehekfpcgelaaGreatDoor
open Go
theorem WI:Rows.consolidatePurposesRow.wf (OpenSpec.ofChange Rows.consolidatePurposesSpec)=true:=by kernel_rfl
theorem WH:laidOutB Tryz.pinned.checked.prog=true:=by kernel_rfl
theorem WG:mapsRowed Tryz.pinned.checked.prog=true:=by kernel_rfl
theorem WF:(Rows.consolidatePurposesRow.inPlace == Tryz.pinned.checked.prog.inPlace 7)=true:=by kernel_rfl
theorem WE:(Rows.consolidatePurposesRow.unfollowed == Tryz.pinned.checked.prog.unfollowed 7)=true:=by kernel_rfl
theorem WD:(Rows.consolidatePurposesRow.recurses == Tryz.pinned.checked.prog.recurses 7)=true:=by kernel_rfl
theorem WB:(Rows.consolidatePurposesRow.named == Tryz.pinned.checked.prog.varsNamed 7)=true:=by kernel_rfl
theorem Lf:joinedFacts Tryz.pinned.checked.prog 7 Tryz.f7 Rows.consolidatePurposesSpec Rows.consolidatePurposesRow=true:=by
  unfold joinedFacts
  rw [WI,WH,WG,WF,WE,WD,WB]
  kernel_rfl
end Go.Proofs.YtidehekfpcgelaaGreatDoor
