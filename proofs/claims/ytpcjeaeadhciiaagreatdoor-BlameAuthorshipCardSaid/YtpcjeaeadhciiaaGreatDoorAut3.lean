/- The law of the authors and the counts: the row and the tied card. For every input the law returns true. Conditions: the row's own. -/
import Derived.Test.YtpcjeaeadhciiaaGreatDoorAut1
import Derived.Test.YtpcjeaeadhciiaaGreatDoorAut4
import Derived.Test.YtpcjeaeadhciiaaGreatDoorAut2
import Derived.SevenTiedAt
import Derived.Stop.Joined
namespace Go.Proofs.YtpcjeaeadhciiaaGreatDoor
open Go Go.Ev Go.ChangeShapes Go.RowKit

theorem aut_holds : Rows.BlameAuthorshipSaid :=
  OpenClaim.holds_of_wide 5 Tryz.f5 rfl rfl rfl rfl rfl rfl rfl ⟨rfl, rfl, rfl, rfl, rfl⟩ rfl rfl rfl rfl rfl (by kernel_rfl) Tryz.func5 autClosed
    (of_decide_eq_true (by kernel_rfl)) (by unfold Func.isWrapper; first | (rw [if_pos (by decide +kernel)]; kernel_rfl) | (rw [if_neg (by decide +kernel)]; exact ⟨rfl, rfl⟩))
    (fun os started H enc _ => aut_lifted os started H enc)

theorem aut_card : Rows.BlameAuthorshipCardSaid :=
  Claim7.holds_tied_plain_at .later [] [.data, .data, .data, .data, .data, .widerDeep, .funcs, .pinned] true _ _ aut_holds (fun _ h => by cases h) autG1 (fun _ h => by cases h) blameAuthorship_row_tie rfl ⟨rfl, rfl⟩ autG2 rfl
    (fun f fn hf hfn => by
      obtain rfl : f = 5 := Option.some.inj ((show Tryz.prog.funcNamed "pandect/pandectlaw34.BlameAuthorship" = some 5 by kernel_rfl).symm.trans hf) |>.symm
      obtain rfl : fn = Tryz.f5 := (Option.some.inj (Tryz.func5.symm.trans hfn)).symm
      exact ⟨autG3, fun j t ht => by
        rw [Tryz.params5] at ht
        have hm : t ∈ [36, 26, 3] := by simpa using Array.mem_of_getElem? ht
        have hall : ([36, 26, 3].all fun u => !Tryz.prog.wantsStandIn u) = true := by kernel_rfl
        exact (show Tryz.prog.wantsStandIn t = false by simpa using List.all_eq_true.1 hall t hm)⟩)
    autG5
#print axioms aut_card
end Go.Proofs.YtpcjeaeadhciiaaGreatDoor
