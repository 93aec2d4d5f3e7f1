/- The law of acts that conflict: the row and the tied card. For every input the law returns true. Conditions: the row's own. -/
import Derived.Test.YtefibmgdgameaaaGreatDoorCon1
import Derived.Test.YtefibmgdgameaaaGreatDoorCon4
import Derived.Test.YtefibmgdgameaaaGreatDoorCon2
import Derived.SevenTiedAt
import Derived.Stop.Joined
namespace Go.Proofs.YtefibmgdgameaaaGreatDoor
open Go Go.Ev Go.ChangeShapes Go.RowKit

theorem MH : Rows.ConflictSymmetricSaid :=
  OpenClaim.holds_of_wide 3 Tryz.f3 rfl rfl rfl rfl rfl rfl rfl ⟨rfl, rfl, rfl, rfl, rfl⟩ rfl rfl rfl rfl rfl (by kernel_rfl) Tryz.func3 MI
    (of_decide_eq_true (by kernel_rfl)) (by unfold Func.isWrapper; first | (rw [if_pos (by decide +kernel)]; kernel_rfl) | (rw [if_neg (by decide +kernel)]; exact ⟨rfl, rfl⟩))
    (fun os started H enc _ => IA os started H enc)

theorem con_card : Rows.ConflictSymmetricCardSaid :=
  Claim7.holds_tied_plain_at .later [] [.data, .data, .data, .data, .data, .widerDeep, .funcs, .pinned] true _ _ MH (fun _ h => by cases h) Xp (fun _ h => by cases h) conflictSymmetric_row_tie rfl ⟨rfl, rfl⟩ Xo rfl
    (fun f fn hf hfn => by
      obtain rfl : f = 3 := Option.some.inj ((show Tryz.prog.funcNamed "pandect/pandectlaw37.ConflictSymmetric" = some 3 by kernel_rfl).symm.trans hf) |>.symm
      obtain rfl : fn = Tryz.f3 := (JY (Tryz.func3.symm.trans hfn)).symm
      exact ⟨Xn, fun j t ht => by
        rw [Tryz.params3] at ht
        have hm : t ∈ [27, 28, 3, 3] := by simpa using Array.mem_of_getElem? ht
        have hall : ([27, 28, 3, 3].all fun u => !Tryz.prog.wantsStandIn u) = true := by kernel_rfl
        exact (show Tryz.prog.wantsStandIn t = false by simpa using jp.1 hall t hm)⟩)
    Xm
#print axioms con_card
end Go.Proofs.YtefibmgdgameaaaGreatDoor
