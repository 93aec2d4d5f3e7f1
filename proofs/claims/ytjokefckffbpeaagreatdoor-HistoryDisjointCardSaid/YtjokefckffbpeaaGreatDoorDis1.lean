/- A law of chapter 33: the row's closed facts, one by one. -/
import Derived.Test.YtjokefckffbpeaaGreatDoorRows
import Derived.JoinedOf
namespace Go.Proofs.YtjokefckffbpeaaGreatDoor
open Go
theorem YC:Rows.historyDisjointRow.wf (OpenSpec.ofChange Rows.historyDisjointSpec)=true:=by kernel_rfl
theorem YB:laidOutB Tryz.pinned.checked.prog=true:=by kernel_rfl
theorem YA:mapsRowed Tryz.pinned.checked.prog=true:=by kernel_rfl
theorem Yu:(Rows.historyDisjointRow.inPlace==Tryz.pinned.checked.prog.inPlace 3)=true:=by kernel_rfl
theorem Yt:(Rows.historyDisjointRow.unfollowed==Tryz.pinned.checked.prog.unfollowed 3)=true:=by kernel_rfl
theorem Ys:(Rows.historyDisjointRow.recurses==Tryz.pinned.checked.prog.recurses 3)=true:=by kernel_rfl
theorem Yr:(Rows.historyDisjointRow.named==Tryz.pinned.checked.prog.varsNamed 3)=true:=by kernel_rfl
theorem NH:joinedFacts Tryz.pinned.checked.prog 3 Tryz.f3 Rows.historyDisjointSpec Rows.historyDisjointRow=true:=by
  unfold joinedFacts
  rw[YC,YB,YA,Yu,Yt,Ys,Yr]
  kernel_rfl
end Go.Proofs.YtjokefckffbpeaaGreatDoor
