/- The law of a day out of range: the row and the tied card. For every input the law returns true. Conditions: the row's own. -/
import Derived.Test.YtakinidhkjpibaaGreatDoorRan1
import Derived.Test.YtakinidhkjpibaaGreatDoorRan4
import Derived.Test.YtakinidhkjpibaaGreatDoorRan2
import Derived.SevenTiedAt
import Derived.Stop.Joined
namespace Go.Proofs.YtakinidhkjpibaaGreatDoor
open Go Go.Ev Go.ChangeShapes Go.RowKit

theorem ran_holds : Rows.ConsolidateRangeSaid :=
  OpenClaim.holds_of_wide 5 Tryz.f5 rfl rfl rfl rfl rfl rfl rfl ⟨rfl, rfl, rfl, rfl, rfl⟩ rfl rfl rfl rfl rfl (by kernel_rfl) Tryz.func5 ranClosed
    (of_decide_eq_true (by kernel_rfl)) (by unfold Func.isWrapper; first | (rw [if_pos (by decide +kernel)]; kernel_rfl) | (rw [if_neg (by decide +kernel)]; exact ⟨rfl, rfl⟩))
    (fun os started H enc _ => ran_lifted os started H enc)

theorem ran_card : Rows.ConsolidateRangeCardSaid :=
  Claim7.holds_tied_plain_at .later [] [.data, .data, .widerDeep, .funcs, .pinned] true _ _ ran_holds (fun _ h => by cases h) ranG1 (fun _ h => by cases h) consolidateRange_row_tie rfl ⟨rfl, rfl⟩ ranG2 rfl
    (fun f fn hf hfn => by
      obtain rfl : f = 5 := Option.some.inj ((show Tryz.prog.funcNamed "pandect/pandectlaw30.ConsolidateRange" = some 5 by kernel_rfl).symm.trans hf) |>.symm
      obtain rfl : fn = Tryz.f5 := (Option.some.inj (Tryz.func5.symm.trans hfn)).symm
      exact ⟨ranG3, fun j t ht => by
        rw [Tryz.params5] at ht
        have hm : t ∈ [3, 9, 33] := by simpa using Array.mem_of_getElem? ht
        have hall : ([3, 9, 33].all fun u => !Tryz.prog.wantsStandIn u) = true := by kernel_rfl
        exact (show Tryz.prog.wantsStandIn t = false by simpa using List.all_eq_true.1 hall t hm)⟩)
    ranG5
#print axioms ran_card
end Go.Proofs.YtakinidhkjpibaaGreatDoor
