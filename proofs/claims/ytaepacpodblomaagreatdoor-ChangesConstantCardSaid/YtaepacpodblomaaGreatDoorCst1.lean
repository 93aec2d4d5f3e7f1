/- A law of chapter 31: the row's closed facts, one by one. -/
import Derived.Test.YtaepacpodblomaaGreatDoorRows
import Derived.JoinedOf
namespace Go.Proofs.YtaepacpodblomaaGreatDoor
open Go
theorem YS:Rows.changesConstantRow.wf (OpenSpec.ofChange Rows.changesConstantSpec)=true:=by kernel_rfl
theorem YR:laidOutB Tryz.pinned.checked.prog=true:=by kernel_rfl
theorem YP:mapsRowed Tryz.pinned.checked.prog=true:=by kernel_rfl
theorem YO:(Rows.changesConstantRow.inPlace==Tryz.pinned.checked.prog.inPlace 4)=true:=by kernel_rfl
theorem YN:(Rows.changesConstantRow.unfollowed==Tryz.pinned.checked.prog.unfollowed 4)=true:=by kernel_rfl
theorem YM:(Rows.changesConstantRow.recurses==Tryz.pinned.checked.prog.recurses 4)=true:=by kernel_rfl
theorem YL:(Rows.changesConstantRow.named==Tryz.pinned.checked.prog.varsNamed 4)=true:=by kernel_rfl
theorem N3:joinedFacts Tryz.pinned.checked.prog 4 Tryz.f4 Rows.changesConstantSpec Rows.changesConstantRow=true:=by
  unfold joinedFacts
  rw[YS,YR,YP,YO,YN,YM,YL]
  kernel_rfl
end Go.Proofs.YtaepacpodblomaaGreatDoor
