/- A law of chapter 34: the row's closed facts, one by one. -/
import Derived.Test.YtdhkhecalpkngaaGreatDoorRows
import Derived.JoinedOf
namespace Go.Proofs.YtdhkhecalpkngaaGreatDoor
open Go
theorem Ym:Rows.blameUnaffectedRow.wf (OpenSpec.ofChange Rows.blameUnaffectedSpec)=true:=by kernel_rfl
theorem Yl:laidOutB Tryz.pinned.checked.prog=true:=by kernel_rfl
theorem Yi:mapsRowed Tryz.pinned.checked.prog=true:=by kernel_rfl
theorem Yh:(Rows.blameUnaffectedRow.inPlace==Tryz.pinned.checked.prog.inPlace 5)=true:=by kernel_rfl
theorem Yg:(Rows.blameUnaffectedRow.unfollowed==Tryz.pinned.checked.prog.unfollowed 5)=true:=by kernel_rfl
theorem Yf:(Rows.blameUnaffectedRow.recurses==Tryz.pinned.checked.prog.recurses 5)=true:=by kernel_rfl
theorem Ye:(Rows.blameUnaffectedRow.named==Tryz.pinned.checked.prog.varsNamed 5)=true:=by kernel_rfl
theorem MH:joinedFacts Tryz.pinned.checked.prog 5 Tryz.f5 Rows.blameUnaffectedSpec Rows.blameUnaffectedRow=true:=by
  unfold joinedFacts
  rw[Ym,Yl,Yi,Yh,Yg,Yf,Ye]
  kernel_rfl
end Go.Proofs.YtdhkhecalpkngaaGreatDoor
