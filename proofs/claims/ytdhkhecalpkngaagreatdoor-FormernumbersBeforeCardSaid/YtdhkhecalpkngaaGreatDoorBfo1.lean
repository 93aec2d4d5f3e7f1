/- A law of chapter 44: the row's closed facts, one by one. -/
import Derived.Test.YtdhkhecalpkngaaGreatDoorRows
import Derived.JoinedOf
namespace Go.Proofs.YtdhkhecalpkngaaGreatDoor
open Go
theorem Za:Rows.formernumbersBeforeRow.wf (OpenSpec.ofChange Rows.formernumbersBeforeSpec)=true:=by kernel_rfl
theorem Zy:laidOutB Tryz.pinned.checked.prog=true:=by kernel_rfl
theorem Zv:mapsRowed Tryz.pinned.checked.prog=true:=by kernel_rfl
theorem Zw:(Rows.formernumbersBeforeRow.inPlace==Tryz.pinned.checked.prog.inPlace 4)=true:=by kernel_rfl
theorem Zk:(Rows.formernumbersBeforeRow.unfollowed==Tryz.pinned.checked.prog.unfollowed 4)=true:=by kernel_rfl
theorem Zj:(Rows.formernumbersBeforeRow.recurses==Tryz.pinned.checked.prog.recurses 4)=true:=by kernel_rfl
theorem Zx:(Rows.formernumbersBeforeRow.named==Tryz.pinned.checked.prog.varsNamed 4)=true:=by kernel_rfl
theorem N9:joinedFacts Tryz.pinned.checked.prog 4 Tryz.f4 Rows.formernumbersBeforeSpec Rows.formernumbersBeforeRow=true:=by
  unfold joinedFacts
  rw[Za,Zy,Zv,Zw,Zk,Zj,Zx]
  kernel_rfl
end Go.Proofs.YtdhkhecalpkngaaGreatDoor
