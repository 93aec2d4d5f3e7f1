/- A law of chapter 36: the row's closed facts, one by one. -/
import Derived.Test.YtaepacpodblomaaGreatDoorRows
import Derived.JoinedOf
namespace Go.Proofs.YtaepacpodblomaaGreatDoor
open Go
theorem Ya:Rows.bitemporalRevisionsRow.wf (OpenSpec.ofChange Rows.bitemporalRevisionsSpec)=true:=by kernel_rfl
theorem Yy:laidOutB Tryz.pinned.checked.prog=true:=by kernel_rfl
theorem Yv:mapsRowed Tryz.pinned.checked.prog=true:=by kernel_rfl
theorem Yw:(Rows.bitemporalRevisionsRow.inPlace==Tryz.pinned.checked.prog.inPlace 6)=true:=by kernel_rfl
theorem Yk:(Rows.bitemporalRevisionsRow.unfollowed==Tryz.pinned.checked.prog.unfollowed 6)=true:=by kernel_rfl
theorem Yj:(Rows.bitemporalRevisionsRow.recurses==Tryz.pinned.checked.prog.recurses 6)=true:=by kernel_rfl
theorem Yx:(Rows.bitemporalRevisionsRow.named==Tryz.pinned.checked.prog.varsNamed 6)=true:=by kernel_rfl
theorem NQ:joinedFacts Tryz.pinned.checked.prog 6 Tryz.f6 Rows.bitemporalRevisionsSpec Rows.bitemporalRevisionsRow=true:=by
  unfold joinedFacts
  rw[Ya,Yy,Yv,Yw,Yk,Yj,Yx]
  kernel_rfl
end Go.Proofs.YtaepacpodblomaaGreatDoor
