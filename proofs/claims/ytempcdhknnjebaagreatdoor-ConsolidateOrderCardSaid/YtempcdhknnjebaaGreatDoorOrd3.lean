/- A law of chapter 30: the row and the tied card. For every input the law returns true. Conditions: the row's own. -/
import Derived.Test.YtempcdhknnjebaaGreatDoorOrd1
import Derived.Test.YtempcdhknnjebaaGreatDoorOrd4
import Derived.Test.YtempcdhknnjebaaGreatDoorOrd2
import Derived.SevenTiedAt
import Derived.Stop.Joined
namespace Go.Proofs.YtempcdhknnjebaaGreatDoor
open Go Go.Ev Go.ChangeShapes Go.RowKit

theorem LA:Rows.ConsolidateOrderSaid:=
  OpenClaim.holds_of_wide 6 Tryz.f6 rfl rfl rfl rfl rfl rfl rfl ⟨rfl,rfl,rfl,rfl,rfl⟩ rfl rfl rfl rfl rfl (by kernel_rfl) Tryz.func6 LB
    (of_decide_eq_true (by kernel_rfl)) (by unfold Func.isWrapper;first | (rw [if_pos (by decide +kernel)];kernel_rfl) | (rw [if_neg (by decide +kernel)];exact ⟨rfl,rfl⟩))
    (fun os started H enc _=>HL os started H enc)

theorem ord_card:Rows.ConsolidateOrderCardSaid:=
  Claim7.holds_tied_plain_at .later [] [.data, .data, .widerDeep, .funcs, .pinned] true _ _ LA (fun _ h=>by cases h) W6 (fun _ h=>by cases h) consolidateOrder_row_tie rfl ⟨rfl,rfl⟩ W5 rfl
    (fun f fn hf hfn=>by
      obtain rfl : f = 6 := Option.some.inj ((show Tryz.prog.funcNamed "pandect/pandectlaw30.ConsolidateOrder" = some 6 by kernel_rfl).symm.trans hf) |>.symm
      obtain rfl:fn=Tryz.f6:=(I3 (Tryz.func6.symm.trans hfn)).symm
      exact ⟨W0,fun j t ht=>by
        rw [Tryz.params6] at ht
        have hm:t∈ [3,9,22,3]:=by simpa using Array.mem_of_getElem? ht
        have hall:([3,9,22,3].all fun u=>!Tryz.prog.wantsStandIn u)=true:=by kernel_rfl
        exact (show Tryz.prog.wantsStandIn t=false by simpa using nr.1 hall t hm)⟩)
    WT
#print axioms ord_card
end Go.Proofs.YtempcdhknnjebaaGreatDoor
