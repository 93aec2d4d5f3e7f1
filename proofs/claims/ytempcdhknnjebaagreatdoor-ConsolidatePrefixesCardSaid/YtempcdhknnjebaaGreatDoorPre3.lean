/- A law of chapter 30: the row and the tied card. For every input the law returns true. Conditions: the row's own. -/
import Derived.Test.YtempcdhknnjebaaGreatDoorPre1
import Derived.Test.YtempcdhknnjebaaGreatDoorPre4
import Derived.Test.YtempcdhknnjebaaGreatDoorPre2
import Derived.SevenTiedAt
import Derived.Stop.Joined
namespace Go.Proofs.YtempcdhknnjebaaGreatDoor
open Go Go.Ev Go.ChangeShapes Go.RowKit

theorem KT:Rows.ConsolidatePrefixesSaid:=
  OpenClaim.holds_of_wide 5 Tryz.f5 rfl rfl rfl rfl rfl rfl rfl ⟨rfl,rfl,rfl,rfl,rfl⟩ rfl rfl rfl rfl rfl (by kernel_rfl) Tryz.func5 K4
    (of_decide_eq_true (by kernel_rfl)) (by unfold Func.isWrapper;first | (rw [if_pos (by decide +kernel)];kernel_rfl) | (rw [if_neg (by decide +kernel)];exact ⟨rfl,rfl⟩))
    (fun os started H enc _=>Ha os started H enc)

theorem pre_card:Rows.ConsolidatePrefixesCardSaid:=
  Claim7.holds_tied_plain_at .later [] [.data, .data, .widerDeep, .funcs, .pinned] true _ _ KT (fun _ h=>by cases h) V4 (fun _ h=>by cases h) consolidatePrefixes_row_tie rfl ⟨rfl,rfl⟩ V3 rfl
    (fun f fn hf hfn=>by
      obtain rfl : f = 5 := Option.some.inj ((show Tryz.prog.funcNamed "pandect/pandectlaw30.ConsolidatePrefixes" = some 5 by kernel_rfl).symm.trans hf) |>.symm
      obtain rfl:fn=Tryz.f5:=(Ii (Tryz.func5.symm.trans hfn)).symm
      exact ⟨V2,fun j t ht=>by
        rw [Tryz.params5] at ht
        have hm:t∈ [3,9,22,3]:=by simpa using Array.mem_of_getElem? ht
        have hall:([3,9,22,3].all fun u=>!Tryz.prog.wantsStandIn u)=true:=by kernel_rfl
        exact (show Tryz.prog.wantsStandIn t=false by simpa using na.1 hall t hm)⟩)
    V1
#print axioms pre_card
end Go.Proofs.YtempcdhknnjebaaGreatDoor
