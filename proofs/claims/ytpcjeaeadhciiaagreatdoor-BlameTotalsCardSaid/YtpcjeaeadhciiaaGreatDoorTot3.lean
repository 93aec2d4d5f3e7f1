/- The law of the totals of a count: the row and the tied card. For every input the law returns true. Conditions: the row's own. -/
import Derived.Test.YtpcjeaeadhciiaaGreatDoorTot1
import Derived.Test.YtpcjeaeadhciiaaGreatDoorTot4
import Derived.Test.YtpcjeaeadhciiaaGreatDoorTot2
import Derived.SevenTiedAt
import Derived.Stop.Joined
namespace Go.Proofs.YtpcjeaeadhciiaaGreatDoor
open Go Go.Ev Go.ChangeShapes Go.RowKit

theorem tot_holds : Rows.BlameTotalsSaid :=
  OpenClaim.holds_of_wide 6 Tryz.f6 rfl rfl rfl rfl rfl rfl rfl ⟨rfl, rfl, rfl, rfl, rfl⟩ rfl rfl rfl rfl rfl (by kernel_rfl) Tryz.func6 totClosed
    (of_decide_eq_true (by kernel_rfl)) (by unfold Func.isWrapper; first | (rw [if_pos (by decide +kernel)]; kernel_rfl) | (rw [if_neg (by decide +kernel)]; exact ⟨rfl, rfl⟩))
    (fun os started H enc _ => tot_lifted os started H enc)

theorem tot_card : Rows.BlameTotalsCardSaid :=
  Claim7.holds_tied_plain_at .later [] [.data, .data, .data, .data, .data, .widerDeep, .funcs, .pinned] true _ _ tot_holds (fun _ h => by cases h) totG1 (fun _ h => by cases h) blameTotals_row_tie rfl ⟨rfl, rfl⟩ totG2 rfl
    (fun f fn hf hfn => by
      obtain rfl : f = 6 := Option.some.inj ((show Tryz.prog.funcNamed "pandect/pandectlaw34.BlameTotals" = some 6 by kernel_rfl).symm.trans hf) |>.symm
      obtain rfl : fn = Tryz.f6 := (Option.some.inj (Tryz.func6.symm.trans hfn)).symm
      exact ⟨totG3, fun j t ht => by
        rw [Tryz.params6] at ht
        have hm : t ∈ [36, 3] := by simpa using Array.mem_of_getElem? ht
        have hall : ([36, 3].all fun u => !Tryz.prog.wantsStandIn u) = true := by kernel_rfl
        exact (show Tryz.prog.wantsStandIn t = false by simpa using List.all_eq_true.1 hall t hm)⟩)
    totG5
#print axioms tot_card
end Go.Proofs.YtpcjeaeadhciiaaGreatDoor
