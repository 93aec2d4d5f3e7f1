/- A law of chapter 35: the row's closed facts, one by one. -/
import Derived.Test.YtiodnhiainjfgaaGreatDoorRows
import Derived.JoinedOf
namespace Go.Proofs.YtiodnhiainjfgaaGreatDoor
open Go
theorem Xv:Rows.effectPartitionRow.wf (OpenSpec.ofChange Rows.effectPartitionSpec)=true:=by kernel_rfl
theorem Xw:laidOutB Tryz.pinned.checked.prog=true:=by kernel_rfl
theorem Xk:mapsRowed Tryz.pinned.checked.prog=true:=by kernel_rfl
theorem Xj:(Rows.effectPartitionRow.inPlace==Tryz.pinned.checked.prog.inPlace 5)=true:=by kernel_rfl
theorem Xx:(Rows.effectPartitionRow.unfollowed==Tryz.pinned.checked.prog.unfollowed 5)=true:=by kernel_rfl
theorem Xz:(Rows.effectPartitionRow.recurses==Tryz.pinned.checked.prog.recurses 5)=true:=by kernel_rfl
theorem Xq:(Rows.effectPartitionRow.named==Tryz.pinned.checked.prog.varsNamed 5)=true:=by kernel_rfl
theorem Lr:joinedFacts Tryz.pinned.checked.prog 5 Tryz.f5 Rows.effectPartitionSpec Rows.effectPartitionRow=true:=by
  unfold joinedFacts
  rw[Xv,Xw,Xk,Xj,Xx,Xz,Xq]
  kernel_rfl
end Go.Proofs.YtiodnhiainjfgaaGreatDoor
