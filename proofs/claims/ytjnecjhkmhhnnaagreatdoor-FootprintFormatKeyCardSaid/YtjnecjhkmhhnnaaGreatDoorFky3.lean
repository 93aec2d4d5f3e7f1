/- The law of key texts: the row and the tied card. For every input the law returns true. Conditions: the row's own. -/
import Derived.Test.YtjnecjhkmhhnnaaGreatDoorFky1
import Derived.Test.YtjnecjhkmhhnnaaGreatDoorFky4
import Derived.Test.YtjnecjhkmhhnnaaGreatDoorFky2
import Derived.SevenTiedAt
import Derived.Stop.Joined
namespace Go.Proofs.YtjnecjhkmhhnnaaGreatDoor
open Go Go.Ev Go.ChangeShapes Go.RowKit

theorem fky_holds : Rows.FootprintFormatKeySaid :=
  OpenClaim.holds_of_wide 4 Tryz.f4 rfl rfl rfl rfl rfl rfl rfl ⟨rfl, rfl, rfl, rfl, rfl⟩ rfl rfl rfl rfl rfl (by kernel_rfl) Tryz.func4 fkyClosed
    (of_decide_eq_true (by kernel_rfl)) (by unfold Func.isWrapper; first | (rw [if_pos (by decide +kernel)]; kernel_rfl) | (rw [if_neg (by decide +kernel)]; exact ⟨rfl, rfl⟩))
    (fun os started H enc _ => fky_lifted os started H enc)

theorem fky_card : Rows.FootprintFormatKeyCardSaid :=
  Claim7.holds_tied_plain_at .later [] [.data, .data, .data, .data, .data, .widerDeep, .funcs, .pinned] true _ _ fky_holds (fun _ h => by cases h) fkyG1 (fun _ h => by cases h) footprintFormatKey_row_tie rfl ⟨rfl, rfl⟩ fkyG2 rfl
    (fun f fn hf hfn => by
      obtain rfl : f = 4 := Option.some.inj ((show Tryz.prog.funcNamed "pandect/pandectlaw25.FootprintFormatKey" = some 4 by kernel_rfl).symm.trans hf) |>.symm
      obtain rfl : fn = Tryz.f4 := (Option.some.inj (Tryz.func4.symm.trans hfn)).symm
      exact ⟨fkyG3, fun j t ht => by
        rw [Tryz.params4] at ht
        have hm : t ∈ [30] := by simpa using Array.mem_of_getElem? ht
        have hall : ([30].all fun u => !Tryz.prog.wantsStandIn u) = true := by kernel_rfl
        exact (show Tryz.prog.wantsStandIn t = false by simpa using List.all_eq_true.1 hall t hm)⟩)
    fkyG5
#print axioms fky_card
end Go.Proofs.YtjnecjhkmhhnnaaGreatDoor
