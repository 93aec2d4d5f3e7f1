/- A law of chapter 34: the row's closed facts, one by one. -/
import Derived.Test.YtadodlkibeofjaaGreatDoorRows
import Derived.JoinedOf
namespace Go.Proofs.YtadodlkibeofjaaGreatDoor
open Go
theorem aau:Rows.blameAuthorsRow.wf (OpenSpec.ofChange Rows.blameAuthorsSpec)=true:=by kernel_rfl
theorem aat:laidOutB Tryz.pinned.checked.prog=true:=by kernel_rfl
theorem aas:mapsRowed Tryz.pinned.checked.prog=true:=by kernel_rfl
theorem aar:(Rows.blameAuthorsRow.inPlace==Tryz.pinned.checked.prog.inPlace 5)=true:=by kernel_rfl
theorem aaq:(Rows.blameAuthorsRow.unfollowed==Tryz.pinned.checked.prog.unfollowed 5)=true:=by kernel_rfl
theorem aap:(Rows.blameAuthorsRow.recurses==Tryz.pinned.checked.prog.recurses 5)=true:=by kernel_rfl
theorem aao:(Rows.blameAuthorsRow.named==Tryz.pinned.checked.prog.varsNamed 5)=true:=by kernel_rfl
theorem PK:joinedFacts Tryz.pinned.checked.prog 5 Tryz.f5 Rows.blameAuthorsSpec Rows.blameAuthorsRow=true:=by
  unfold joinedFacts
  rw[aau,aat,aas,aar,aaq,aap,aao]
  kernel_rfl
end Go.Proofs.YtadodlkibeofjaaGreatDoor
