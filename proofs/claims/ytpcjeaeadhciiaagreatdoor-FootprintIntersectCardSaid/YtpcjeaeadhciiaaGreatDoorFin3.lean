/- The law of keys that meet: the row and the tied card. For every input the law returns true. Conditions: the row's own. -/
import Derived.Test.YtpcjeaeadhciiaaGreatDoorFin1
import Derived.Test.YtpcjeaeadhciiaaGreatDoorFin4
import Derived.Test.YtpcjeaeadhciiaaGreatDoorFin2
import Derived.SevenTiedAt
import Derived.Stop.Joined
namespace Go.Proofs.YtpcjeaeadhciiaaGreatDoor
open Go Go.Ev Go.ChangeShapes Go.RowKit

theorem fin_holds : Rows.FootprintIntersectSaid :=
  OpenClaim.holds_of_wide 3 Tryz.f3 rfl rfl rfl rfl rfl rfl rfl ⟨rfl, rfl, rfl, rfl, rfl⟩ rfl rfl rfl rfl rfl (by kernel_rfl) Tryz.func3 finClosed
    (of_decide_eq_true (by kernel_rfl)) (by unfold Func.isWrapper; first | (rw [if_pos (by decide +kernel)]; kernel_rfl) | (rw [if_neg (by decide +kernel)]; exact ⟨rfl, rfl⟩))
    (fun os started H enc _ => fin_lifted os started H enc)

theorem fin_card : Rows.FootprintIntersectCardSaid :=
  Claim7.holds_tied_plain_at .later [] [.data, .data, .widerDeep, .funcs, .pinned] true _ _ fin_holds (fun _ h => by cases h) finG1 (fun _ h => by cases h) footprintIntersect_row_tie rfl ⟨rfl, rfl⟩ finG2 rfl
    (fun f fn hf hfn => by
      obtain rfl : f = 3 := Option.some.inj ((show Tryz.prog.funcNamed "pandect/pandectlaw25.FootprintIntersect" = some 3 by kernel_rfl).symm.trans hf) |>.symm
      obtain rfl : fn = Tryz.f3 := (Option.some.inj (Tryz.func3.symm.trans hfn)).symm
      exact ⟨finG3, fun j t ht => by
        rw [Tryz.params3] at ht
        have hm : t ∈ [22, 22] := by simpa using Array.mem_of_getElem? ht
        have hall : ([22, 22].all fun u => !Tryz.prog.wantsStandIn u) = true := by kernel_rfl
        exact (show Tryz.prog.wantsStandIn t = false by simpa using List.all_eq_true.1 hall t hm)⟩)
    finG5
#print axioms fin_card
end Go.Proofs.YtpcjeaeadhciiaaGreatDoor
