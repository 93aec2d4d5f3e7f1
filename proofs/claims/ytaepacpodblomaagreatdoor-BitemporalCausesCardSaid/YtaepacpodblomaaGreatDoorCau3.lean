/- A law of chapter 36: the row and the tied card. For every input the law returns true. Conditions: the row's own. -/
import Derived.Test.YtaepacpodblomaaGreatDoorCau1
import Derived.Test.YtaepacpodblomaaGreatDoorCau4
import Derived.Test.YtaepacpodblomaaGreatDoorCau2
import Derived.SevenTiedAt
import Derived.Stop.Joined
namespace Go.Proofs.YtaepacpodblomaaGreatDoor
open Go Go.Ev Go.ChangeShapes Go.RowKit

theorem OH:Rows.BitemporalCausesSaid:=
  OpenClaim.holds_of_wide 7 Tryz.f7 rfl rfl rfl rfl rfl rfl rfl ⟨rfl,rfl,rfl,rfl,rfl⟩ rfl rfl rfl rfl rfl (by kernel_rfl) Tryz.func7 OI
    (of_decide_eq_true (by kernel_rfl)) (by unfold Func.isWrapper;first|(rw[if_pos (by decide+kernel)];kernel_rfl)|(rw[if_neg (by decide+kernel)];exact⟨rfl,rfl⟩))
    (fun os started H enc _=>KZ os started H enc)

theorem cau_card:Rows.BitemporalCausesCardSaid:=
  Claim7.holds_tied_plain_at .later [] [.data,.data,.widerDeep,.funcs,.pinned] true _ _ OH (fun _ h=>by cases h) Zo (fun _ h=>by cases h) bitemporalCauses_row_tie rfl ⟨rfl,rfl⟩ Zn rfl
    (fun f fn hf hfn=>by
      obtain rfl:f=7:=Option.some.inj ((show Tryz.prog.funcNamed "pandect/pandectlaw36.BitemporalCauses" =some 7 by kernel_rfl).symm.trans hf) |>.symm
      obtain rfl:fn=Tryz.f7:=(Fc (Tryz.func7.symm.trans hfn)).symm
      exact⟨Zm,fun j t ht=>by
        rw[Tryz.params7]at ht
        have hm:t∈[22,3,3,9]:=by simpa using Array.mem_of_getElem? ht
        have hall:([22,3,3,9].all fun u=>!Tryz.prog.wantsStandIn u)=true:=by kernel_rfl
        exact(show Tryz.prog.wantsStandIn t=false by simpa using na.1 hall t hm)⟩)
    Zl
#print axioms cau_card
end Go.Proofs.YtaepacpodblomaaGreatDoor
