/- A law of chapter 35: the row's closed facts, one by one. -/
import Derived.Test.YtiflidpifinbjaaGreatDoorRows
import Derived.JoinedOf
namespace Go.Proofs.YtiflidpifinbjaaGreatDoor
open Go
theorem aaB:Rows.effectProvenanceRow.wf (OpenSpec.ofChange Rows.effectProvenanceSpec)=true:=by kernel_rfl
theorem aaA:laidOutB Tryz.pinned.checked.prog=true:=by kernel_rfl
theorem aaz:mapsRowed Tryz.pinned.checked.prog=true:=by kernel_rfl
theorem aay:(Rows.effectProvenanceRow.inPlace==Tryz.pinned.checked.prog.inPlace 3)=true:=by kernel_rfl
theorem aax:(Rows.effectProvenanceRow.unfollowed==Tryz.pinned.checked.prog.unfollowed 3)=true:=by kernel_rfl
theorem aaw:(Rows.effectProvenanceRow.recurses==Tryz.pinned.checked.prog.recurses 3)=true:=by kernel_rfl
theorem aav:(Rows.effectProvenanceRow.named==Tryz.pinned.checked.prog.varsNamed 3)=true:=by kernel_rfl
theorem OH:joinedFacts Tryz.pinned.checked.prog 3 Tryz.f3 Rows.effectProvenanceSpec Rows.effectProvenanceRow=true:=by
  unfold joinedFacts
  rw[aaB,aaA,aaz,aay,aax,aaw,aav]
  kernel_rfl
end Go.Proofs.YtiflidpifinbjaaGreatDoor
