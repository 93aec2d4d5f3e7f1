/- A law of chapter 31: the row's closed facts, one by one. -/
import Derived.Test.YtaepacpodblomaaGreatDoorRows
import Derived.JoinedOf
namespace Go.Proofs.YtaepacpodblomaaGreatDoor
open Go
theorem YR:Rows.changesAscendingRow.wf (OpenSpec.ofChange Rows.changesAscendingSpec)=true:=by kernel_rfl
theorem YP:laidOutB Tryz.pinned.checked.prog=true:=by kernel_rfl
theorem YO:mapsRowed Tryz.pinned.checked.prog=true:=by kernel_rfl
theorem YN:(Rows.changesAscendingRow.inPlace==Tryz.pinned.checked.prog.inPlace 3)=true:=by kernel_rfl
theorem YM:(Rows.changesAscendingRow.unfollowed==Tryz.pinned.checked.prog.unfollowed 3)=true:=by kernel_rfl
theorem YL:(Rows.changesAscendingRow.recurses==Tryz.pinned.checked.prog.recurses 3)=true:=by kernel_rfl
theorem YI:(Rows.changesAscendingRow.named==Tryz.pinned.checked.prog.varsNamed 3)=true:=by kernel_rfl
theorem N6:joinedFacts Tryz.pinned.checked.prog 3 Tryz.f3 Rows.changesAscendingSpec Rows.changesAscendingRow=true:=by
  unfold joinedFacts
  rw[YR,YP,YO,YN,YM,YL,YI]
  kernel_rfl
end Go.Proofs.YtaepacpodblomaaGreatDoor
