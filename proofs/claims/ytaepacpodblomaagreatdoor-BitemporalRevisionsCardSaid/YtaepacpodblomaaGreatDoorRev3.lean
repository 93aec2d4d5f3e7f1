/- A law of chapter 36: the row and the tied card. For every input the law returns true. Conditions: the row's own. -/
import Derived.Test.YtaepacpodblomaaGreatDoorRev1
import Derived.Test.YtaepacpodblomaaGreatDoorRev4
import Derived.Test.YtaepacpodblomaaGreatDoorRev2
import Derived.SevenTiedAt
import Derived.Stop.Joined
namespace Go.Proofs.YtaepacpodblomaaGreatDoor
open Go Go.Ev Go.ChangeShapes Go.RowKit

theorem M9:Rows.BitemporalRevisionsSaid:=
  OpenClaim.holds_of_wide 6 Tryz.f6 rfl rfl rfl rfl rfl rfl rfl ⟨rfl,rfl,rfl,rfl,rfl⟩ rfl rfl rfl rfl rfl (by kernel_rfl) Tryz.func6 NQ
    (of_decide_eq_true (by kernel_rfl)) (by unfold Func.isWrapper;first|(rw[if_pos (by decide+kernel)];kernel_rfl)|(rw[if_neg (by decide+kernel)];exact⟨rfl,rfl⟩))
    (fun os started H enc _=>Is os started H enc)

theorem rev_card:Rows.BitemporalRevisionsCardSaid:=
  Claim7.holds_tied_plain_at .later [] [.data,.data,.widerDeep,.funcs,.pinned] true _ _ M9 (fun _ h=>by cases h) Yz (fun _ h=>by cases h) bitemporalRevisions_row_tie rfl ⟨rfl,rfl⟩ Yq rfl
    (fun f fn hf hfn=>by
      obtain rfl:f=6:=Option.some.inj ((show Tryz.prog.funcNamed "pandect/pandectlaw36.BitemporalRevisions" =some 6 by kernel_rfl).symm.trans hf) |>.symm
      obtain rfl:fn=Tryz.f6:=(JS (Tryz.func6.symm.trans hfn)).symm
      exact⟨YU,fun j t ht=>by
        rw[Tryz.params6]at ht
        have hm:t∈[22,3,3,9]:=by simpa using Array.mem_of_getElem? ht
        have hall:([22,3,3,9].all fun u=>!Tryz.prog.wantsStandIn u)=true:=by kernel_rfl
        exact(show Tryz.prog.wantsStandIn t=false by simpa using nK.1 hall t hm)⟩)
    YY
#print axioms rev_card
end Go.Proofs.YtaepacpodblomaaGreatDoor
