/- The law of the breakpoints: the row and the tied card. For every input the law returns true. Conditions: the row's own. -/
import Derived.Test.YtbkijjplgkojcaaGreatDoorBrk1
import Derived.Test.YtbkijjplgkojcaaGreatDoorBrk4
import Derived.Test.YtbkijjplgkojcaaGreatDoorBrk2
import Derived.SevenTiedAt
import Derived.Stop.Joined
namespace Go.Proofs.YtbkijjplgkojcaaGreatDoor
open Go Go.Ev Go.ChangeShapes Go.RowKit

theorem brk_holds : Rows.ChangesBreakpointsSaid :=
  OpenClaim.holds_of_wide 3 Tryz.f3 rfl rfl rfl rfl rfl rfl rfl ⟨rfl, rfl, rfl, rfl, rfl⟩ rfl rfl rfl rfl rfl (by kernel_rfl) Tryz.func3 brkClosed
    (of_decide_eq_true (by kernel_rfl)) (by unfold Func.isWrapper; first | (rw [if_pos (by decide +kernel)]; kernel_rfl) | (rw [if_neg (by decide +kernel)]; exact ⟨rfl, rfl⟩))
    (fun os started H enc _ => brk_lifted os started H enc)

theorem brk_card : Rows.ChangesBreakpointsCardSaid :=
  Claim7.holds_tied_plain_at .later [] [.data, .data, .widerDeep, .funcs, .pinned] true _ _ brk_holds (fun _ h => by cases h) brkG_1 (fun _ h => by cases h) changesBreakpoints_row_tie rfl ⟨rfl, rfl⟩ brkG_2 rfl
    (fun f fn hf hfn => by
      obtain rfl : f = 3 := Option.some.inj ((show Tryz.prog.funcNamed "pandect/pandectlaw31.ChangesBreakpoints" = some 3 by kernel_rfl).symm.trans hf) |>.symm
      obtain rfl : fn = Tryz.f3 := (Option.some.inj (Tryz.func3.symm.trans hfn)).symm
      exact ⟨brkG_3, fun j t ht => by
        rw [Tryz.params3] at ht
        have hm : t ∈ [22] := by simpa using Array.mem_of_getElem? ht
        have hall : ([22].all fun u => !Tryz.prog.wantsStandIn u) = true := by kernel_rfl
        exact (show Tryz.prog.wantsStandIn t = false by simpa using List.all_eq_true.1 hall t hm)⟩)
    brkG_5
#print axioms brk_card
end Go.Proofs.YtbkijjplgkojcaaGreatDoor
