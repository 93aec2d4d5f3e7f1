/- A law of chapter 36: the row's closed facts, one by one. -/
import Derived.Test.YtaepacpodblomaaGreatDoorRows
import Derived.JoinedOf
namespace Go.Proofs.YtaepacpodblomaaGreatDoor
open Go
theorem X9:Rows.bitemporalStableUptoRow.wf (OpenSpec.ofChange Rows.bitemporalStableSpec)=true:=by kernel_rfl
theorem X8:laidOutB Tryz.pinned.checked.prog=true:=by kernel_rfl
theorem X7:mapsRowed Tryz.pinned.checked.prog=true:=by kernel_rfl
theorem X6:(Rows.bitemporalStableUptoRow.inPlace==Tryz.pinned.checked.prog.inPlace 5)=true:=by kernel_rfl
theorem X5:(Rows.bitemporalStableUptoRow.unfollowed==Tryz.pinned.checked.prog.unfollowed 5)=true:=by kernel_rfl
theorem X4:(Rows.bitemporalStableUptoRow.recurses==Tryz.pinned.checked.prog.recurses 5)=true:=by kernel_rfl
theorem X3:(Rows.bitemporalStableUptoRow.named==Tryz.pinned.checked.prog.varsNamed 5)=true:=by kernel_rfl
theorem L5:joinedFacts Tryz.pinned.checked.prog 5 Tryz.f5 Rows.bitemporalStableSpec Rows.bitemporalStableUptoRow=true:=by
  unfold joinedFacts
  rw[X9,X8,X7,X6,X5,X4,X3]
  kernel_rfl
end Go.Proofs.YtaepacpodblomaaGreatDoor
