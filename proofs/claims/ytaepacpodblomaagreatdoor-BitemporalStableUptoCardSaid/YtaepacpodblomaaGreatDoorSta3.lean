/- A law of chapter 36: the row and the tied card. For every input the law returns true. Conditions: the row's own. -/
import Derived.Test.YtaepacpodblomaaGreatDoorSta1
import Derived.Test.YtaepacpodblomaaGreatDoorSta4
import Derived.Test.YtaepacpodblomaaGreatDoorSta2
import Derived.SevenTiedAt
import Derived.Stop.Joined
namespace Go.Proofs.YtaepacpodblomaaGreatDoor
open Go Go.Ev Go.ChangeShapes Go.RowKit

theorem L4:Rows.BitemporalStableUptoSaid:=
  OpenClaim.holds_of_cond 5 Tryz.f5 rfl rfl rfl rfl rfl rfl rfl ⟨rfl,rfl,rfl,rfl,rfl⟩ rfl rfl rfl rfl rfl (by kernel_rfl) Tryz.func5 L5
    (of_decide_eq_true (by kernel_rfl)) (by unfold Func.isWrapper;first|(rw[if_pos (by decide+kernel)];kernel_rfl)|(rw[if_neg (by decide+kernel)];exact⟨rfl,rfl⟩))
    (fun os started H enc _ F=>by rw[OpenClaim.pre_eq_preRow];exact IX os started H enc F)

theorem sta_card:Rows.BitemporalStableUptoCardSaid:=
  Claim7.holds_tied_plain_at .later [] [.data,.data,.widerDeep,.funcs,.pinned] true _ _ L4 (fun _ h=>by cases h) X1 (fun _ h=>by cases h) bitemporalStableUpto_row_tie rfl ⟨rfl,rfl⟩ X0 rfl
    (fun f fn hf hfn=>by
      obtain rfl:f=5:=Option.some.inj ((show Tryz.prog.funcNamed "pandect/pandectlaw36.BitemporalStable" =some 5 by kernel_rfl).symm.trans hf) |>.symm
      obtain rfl:fn=Tryz.f5:=(Jr (Tryz.func5.symm.trans hfn)).symm
      exact⟨XT,fun j t ht=>by
        rw[Tryz.params5]at ht
        have hm:t∈[22,22,3,3,9]:=by simpa using Array.mem_of_getElem? ht
        have hall:([22,22,3,3,9].all fun u=>!Tryz.prog.wantsStandIn u)=true:=by kernel_rfl
        exact(show Tryz.prog.wantsStandIn t=false by simpa using md.1 hall t hm)⟩)
    XS
#print axioms sta_card
end Go.Proofs.YtaepacpodblomaaGreatDoor
