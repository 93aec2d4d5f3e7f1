/- A law of chapter 36: the row's closed facts, one by one. -/
import Derived.Test.YtaepacpodblomaaGreatDoorRows
import Derived.JoinedOf
namespace Go.Proofs.YtaepacpodblomaaGreatDoor
open Go
theorem ZB:Rows.bitemporalCausesRow.wf (OpenSpec.ofChange Rows.bitemporalCausesSpec)=true:=by kernel_rfl
theorem ZA:laidOutB Tryz.pinned.checked.prog=true:=by kernel_rfl
theorem Zu:mapsRowed Tryz.pinned.checked.prog=true:=by kernel_rfl
theorem Zt:(Rows.bitemporalCausesRow.inPlace==Tryz.pinned.checked.prog.inPlace 7)=true:=by kernel_rfl
theorem Zs:(Rows.bitemporalCausesRow.unfollowed==Tryz.pinned.checked.prog.unfollowed 7)=true:=by kernel_rfl
theorem Zr:(Rows.bitemporalCausesRow.recurses==Tryz.pinned.checked.prog.recurses 7)=true:=by kernel_rfl
theorem Zp:(Rows.bitemporalCausesRow.named==Tryz.pinned.checked.prog.varsNamed 7)=true:=by kernel_rfl
theorem OI:joinedFacts Tryz.pinned.checked.prog 7 Tryz.f7 Rows.bitemporalCausesSpec Rows.bitemporalCausesRow=true:=by
  unfold joinedFacts
  rw[ZB,ZA,Zu,Zt,Zs,Zr,Zp]
  kernel_rfl
end Go.Proofs.YtaepacpodblomaaGreatDoor
