/- The law of acts that conflict: the row's closed facts, one by one. -/
import Derived.Test.YtefibmgdgameaaaGreatDoorRows
import Derived.JoinedOf
namespace Go.Proofs.YtefibmgdgameaaaGreatDoor
open Go
theorem XD : Rows.conflictSymmetricRow.wf (OpenSpec.ofChange Rows.conflictSymmetricSpec) = true := by kernel_rfl
theorem XC : laidOutB Tryz.pinned.checked.prog = true := by kernel_rfl
theorem XA : mapsRowed Tryz.pinned.checked.prog = true := by kernel_rfl
theorem Xu : (Rows.conflictSymmetricRow.inPlace == Tryz.pinned.checked.prog.inPlace 3) = true := by kernel_rfl
theorem Xt : (Rows.conflictSymmetricRow.unfollowed == Tryz.pinned.checked.prog.unfollowed 3) = true := by kernel_rfl
theorem Xs : (Rows.conflictSymmetricRow.recurses == Tryz.pinned.checked.prog.recurses 3) = true := by kernel_rfl
theorem Xr : (Rows.conflictSymmetricRow.named == Tryz.pinned.checked.prog.varsNamed 3) = true := by kernel_rfl
theorem MI : joinedFacts Tryz.pinned.checked.prog 3 Tryz.f3 Rows.conflictSymmetricSpec Rows.conflictSymmetricRow = true := by
  unfold joinedFacts
  rw [XD, XC, XA, Xu, Xt, Xs, Xr]
  kernel_rfl
end Go.Proofs.YtefibmgdgameaaaGreatDoor
