/- A law of chapter 44: the row's closed facts, one by one. -/
import Derived.Test.YtdhkhecalpkngaaGreatDoorRows
import Derived.JoinedOf
namespace Go.Proofs.YtdhkhecalpkngaaGreatDoor
open Go
theorem aak:Rows.formernumbersCurrentRow.wf (OpenSpec.ofChange Rows.formernumbersCurrentSpec)=true:=by kernel_rfl
theorem aaj:laidOutB Tryz.pinned.checked.prog=true:=by kernel_rfl
theorem aai:mapsRowed Tryz.pinned.checked.prog=true:=by kernel_rfl
theorem aah:(Rows.formernumbersCurrentRow.inPlace==Tryz.pinned.checked.prog.inPlace 3)=true:=by kernel_rfl
theorem aag:(Rows.formernumbersCurrentRow.unfollowed==Tryz.pinned.checked.prog.unfollowed 3)=true:=by kernel_rfl
theorem aaf:(Rows.formernumbersCurrentRow.recurses==Tryz.pinned.checked.prog.recurses 3)=true:=by kernel_rfl
theorem aae:(Rows.formernumbersCurrentRow.named==Tryz.pinned.checked.prog.varsNamed 3)=true:=by kernel_rfl
theorem O2:joinedFacts Tryz.pinned.checked.prog 3 Tryz.f3 Rows.formernumbersCurrentSpec Rows.formernumbersCurrentRow=true:=by
  unfold joinedFacts
  rw[aak,aaj,aai,aah,aag,aaf,aae]
  kernel_rfl
end Go.Proofs.YtdhkhecalpkngaaGreatDoor
