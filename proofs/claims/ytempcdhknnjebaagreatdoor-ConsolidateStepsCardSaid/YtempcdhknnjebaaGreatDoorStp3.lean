/- A law of chapter 30: the row and the tied card. For every input the law returns true. Conditions: the row's own. -/
import Derived.Test.YtempcdhknnjebaaGreatDoorStp1
import Derived.Test.YtempcdhknnjebaaGreatDoorStp4
import Derived.Test.YtempcdhknnjebaaGreatDoorStp2
import Derived.SevenTiedAt
import Derived.Stop.Joined
namespace Go.Proofs.YtempcdhknnjebaaGreatDoor
open Go Go.Ev Go.ChangeShapes Go.RowKit

theorem Lq:Rows.ConsolidateStepsSaid:=
  OpenClaim.holds_of_wide 8 Tryz.f8 rfl rfl rfl rfl rfl rfl rfl ⟨rfl,rfl,rfl,rfl,rfl⟩ rfl rfl rfl rfl rfl (by kernel_rfl) Tryz.func8 Lz
    (of_decide_eq_true (by kernel_rfl)) (by unfold Func.isWrapper;first | (rw [if_pos (by decide +kernel)];kernel_rfl) | (rw [if_neg (by decide +kernel)];exact ⟨rfl,rfl⟩))
    (fun os started H enc _=>Hg os started H enc)

theorem stp_card:Rows.ConsolidateStepsCardSaid:=
  Claim7.holds_tied_plain_at .later [] [.data, .data, .widerDeep, .funcs, .pinned] true _ _ Lq (fun _ h=>by cases h) WG (fun _ h=>by cases h) consolidateSteps_row_tie rfl ⟨rfl,rfl⟩ WF rfl
    (fun f fn hf hfn=>by
      obtain rfl : f = 8 := Option.some.inj ((show Tryz.prog.funcNamed "pandect/pandectlaw30.ConsolidateSteps" = some 8 by kernel_rfl).symm.trans hf) |>.symm
      obtain rfl:fn=Tryz.f8:=(I4 (Tryz.func8.symm.trans hfn)).symm
      exact ⟨WE,fun j t ht=>by
        rw [Tryz.params8] at ht
        have hm:t∈ [3,9,22]:=by simpa using Array.mem_of_getElem? ht
        have hall:([3,9,22].all fun u=>!Tryz.prog.wantsStandIn u)=true:=by kernel_rfl
        exact (show Tryz.prog.wantsStandIn t=false by simpa using nH.1 hall t hm)⟩)
    WD
#print axioms stp_card
end Go.Proofs.YtempcdhknnjebaaGreatDoor
