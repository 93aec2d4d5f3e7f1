/- A law of chapter 33: the row's closed facts, one by one. -/
import Derived.Test.YtjokefckffbpeaaGreatDoorRows
import Derived.JoinedOf
namespace Go.Proofs.YtjokefckffbpeaaGreatDoor
open Go
theorem X7:Rows.historyRootRow.wf (OpenSpec.ofChange Rows.historyRootSpec)=true:=by kernel_rfl
theorem X6:laidOutB Tryz.pinned.checked.prog=true:=by kernel_rfl
theorem X5:mapsRowed Tryz.pinned.checked.prog=true:=by kernel_rfl
theorem X4:(Rows.historyRootRow.inPlace==Tryz.pinned.checked.prog.inPlace 4)=true:=by kernel_rfl
theorem X3:(Rows.historyRootRow.unfollowed==Tryz.pinned.checked.prog.unfollowed 4)=true:=by kernel_rfl
theorem X1:(Rows.historyRootRow.recurses==Tryz.pinned.checked.prog.recurses 4)=true:=by kernel_rfl
theorem X0:(Rows.historyRootRow.named==Tryz.pinned.checked.prog.varsNamed 4)=true:=by kernel_rfl
theorem MJ:joinedFacts Tryz.pinned.checked.prog 4 Tryz.f4 Rows.historyRootSpec Rows.historyRootRow=true:=by
  unfold joinedFacts
  rw[X7,X6,X5,X4,X3,X1,X0]
  kernel_rfl
end Go.Proofs.YtjokefckffbpeaaGreatDoor
