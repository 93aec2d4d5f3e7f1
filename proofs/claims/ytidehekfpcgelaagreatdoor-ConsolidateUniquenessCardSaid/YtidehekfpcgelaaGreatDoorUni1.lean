/- A law of chapter 30: the row's closed facts, one by one. -/
import Derived.Test.YtidehekfpcgelaaGreatDoorRows
import Derived.JoinedOf
namespace Go.Proofs.YtidehekfpcgelaaGreatDoor
open Go
theorem Zf:Rows.consolidateUniquenessRow.wf (OpenSpec.ofChange Rows.consolidateUniquenessSpec)=true:=by kernel_rfl
theorem Ze:laidOutB Tryz.pinned.checked.prog=true:=by kernel_rfl
theorem Zd:mapsRowed Tryz.pinned.checked.prog=true:=by kernel_rfl
theorem Zc:(Rows.consolidateUniquenessRow.inPlace==Tryz.pinned.checked.prog.inPlace 4)=true:=by kernel_rfl
theorem Zb:(Rows.consolidateUniquenessRow.unfollowed==Tryz.pinned.checked.prog.unfollowed 4)=true:=by kernel_rfl
theorem Za:(Rows.consolidateUniquenessRow.recurses==Tryz.pinned.checked.prog.recurses 4)=true:=by kernel_rfl
theorem Zy:(Rows.consolidateUniquenessRow.named==Tryz.pinned.checked.prog.varsNamed 4)=true:=by kernel_rfl
theorem NU:joinedFacts Tryz.pinned.checked.prog 4 Tryz.f4 Rows.consolidateUniquenessSpec Rows.consolidateUniquenessRow=true:=by
  unfold joinedFacts
  rw[Zf,Ze,Zd,Zc,Zb,Za,Zy]
  kernel_rfl
end Go.Proofs.YtidehekfpcgelaaGreatDoor
