/- The law of the parts of a count: the row and the tied card. For every input the law returns true. Conditions: the row's own. -/
import Derived.Test.YtanaaiebgbpieaaGreatDoorSub1
import Derived.Test.YtanaaiebgbpieaaGreatDoorSub4
import Derived.Test.YtanaaiebgbpieaaGreatDoorSub2
import Derived.SevenTiedAt
import Derived.Stop.Joined
namespace Go.Proofs.YtanaaiebgbpieaaGreatDoor
open Go Go.Ev Go.ChangeShapes Go.RowKit

theorem sub_holds : Rows.BlameSubtreesSaid :=
  OpenClaim.holds_of_wide 3 Tryz.f3 rfl rfl rfl rfl rfl rfl rfl ⟨rfl, rfl, rfl, rfl, rfl⟩ rfl rfl rfl rfl rfl (by kernel_rfl) Tryz.func3 subClosed
    (of_decide_eq_true (by kernel_rfl)) (by unfold Func.isWrapper; first | (rw [if_pos (by decide +kernel)]; kernel_rfl) | (rw [if_neg (by decide +kernel)]; exact ⟨rfl, rfl⟩))
    (fun os started H enc _ => sub_lifted os started H enc)

theorem sub_card : Rows.BlameSubtreesCardSaid :=
  Claim7.holds_tied_plain_at .later [] [.data, .data, .data, .data, .data, .widerDeep, .funcs, .pinned] true _ _ sub_holds (fun _ h => by cases h) subG1 (fun _ h => by cases h) blameSubtrees_row_tie rfl ⟨rfl, rfl⟩ subG2 rfl
    (fun f fn hf hfn => by
      obtain rfl : f = 3 := Option.some.inj ((show Tryz.prog.funcNamed "pandect/pandectlaw34.BlameSubtrees" = some 3 by kernel_rfl).symm.trans hf) |>.symm
      obtain rfl : fn = Tryz.f3 := (Option.some.inj (Tryz.func3.symm.trans hfn)).symm
      exact ⟨subG3, fun j t ht => by
        rw [Tryz.params3] at ht
        have hm : t ∈ [27, 3] := by simpa using Array.mem_of_getElem? ht
        have hall : ([27, 3].all fun u => !Tryz.prog.wantsStandIn u) = true := by kernel_rfl
        exact (show Tryz.prog.wantsStandIn t = false by simpa using List.all_eq_true.1 hall t hm)⟩)
    subG5
#print axioms sub_card
end Go.Proofs.YtanaaiebgbpieaaGreatDoor
