/- The law of an engine's capacity: for every input the law returns true: the tied card. Conditions: the row's own. -/
import Derived.Test.YtncndbiboobpdaaGreatDoorEcap3
import Derived.Test.YtncndbiboobpdaaGreatDoorEcap4
import Derived.Test.YtncndbiboobpdaaGreatDoorTie
import Derived.Test.YtncndbiboobpdaaGreatDoorCards
import Derived.SevenTiedAt
import Derived.Stop.Joined
namespace Go.Proofs.YtncndbiboobpdaaGreatDoor
open Go Go.Ev Go.ChangeShapes Go.RowKit

theorem cap_holds : Rows.EngineCapacitySaid :=
  OpenClaim.holds_of_wide 3 Tryz.f3 rfl rfl rfl rfl rfl rfl rfl ⟨rfl, rfl, rfl, rfl, rfl⟩ rfl rfl rfl rfl rfl (by kernel_rfl) Tryz.func3 capClosed
    (of_decide_eq_true (by kernel_rfl)) (by unfold Func.isWrapper; first | (rw [if_pos (by decide +kernel)]; kernel_rfl) | (rw [if_neg (by decide +kernel)]; exact ⟨rfl, rfl⟩))
    (fun os started H enc _ => cap_lifted os started H enc)

theorem cap_card : Rows.EngineCapacityCardSaid :=
  Claim7.holds_tied_plain_at .later [] [.data, .data, .widerDeep, .funcs, .pinned] true _ _ cap_holds (fun _ h => by cases h) (by kernel_rfl) (fun _ h => by cases h) engineCapacity_row_tie rfl ⟨rfl, rfl⟩ (by kernel_rfl) rfl
    (fun f fn hf hfn => by
      obtain rfl : f = 3 := Option.some.inj ((show Tryz.prog.funcNamed "pandect/pandectlaw32.EngineCapacity" = some 3 by kernel_rfl).symm.trans hf) |>.symm
      obtain rfl : fn = Tryz.f3 := (Option.some.inj (Tryz.func3.symm.trans hfn)).symm
      exact ⟨by kernel_rfl, fun j t ht => by
        rw [Tryz.params3] at ht
        have hm : t ∈ [22] := by simpa using Array.mem_of_getElem? ht
        have hall : ([22].all fun u => !Tryz.prog.wantsStandIn u) = true := by kernel_rfl
        exact (show Tryz.prog.wantsStandIn t = false by simpa using List.all_eq_true.1 hall t hm)⟩)
    (by kernel_rfl)
#print axioms cap_card
end Go.Proofs.YtncndbiboobpdaaGreatDoor
