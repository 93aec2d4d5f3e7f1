/- A law of chapter 31: the row and the tied card. For every input the law returns true. Conditions: the row's own. -/
import Derived.Test.YtaepacpodblomaaGreatDoorAsc1
import Derived.Test.YtaepacpodblomaaGreatDoorAsc4
import Derived.Test.YtaepacpodblomaaGreatDoorAsc2
import Derived.SevenTiedAt
import Derived.Stop.Joined
namespace Go.Proofs.YtaepacpodblomaaGreatDoor
open Go Go.Ev Go.ChangeShapes Go.RowKit

theorem N5:Rows.ChangesAscendingSaid:=
  OpenClaim.holds_of_wide 3 Tryz.f3 rfl rfl rfl rfl rfl rfl rfl ⟨rfl,rfl,rfl,rfl,rfl⟩ rfl rfl rfl rfl rfl (by kernel_rfl) Tryz.func3 N6
    (of_decide_eq_true (by kernel_rfl)) (by unfold Func.isWrapper;first|(rw[if_pos (by decide+kernel)];kernel_rfl)|(rw[if_neg (by decide+kernel)];exact⟨rfl,rfl⟩))
    (fun os started H enc _=>Jt os started H enc)

theorem asc_card:Rows.ChangesAscendingCardSaid:=
  Claim7.holds_tied_plain_at .later [] [.data,.data,.widerDeep,.funcs,.pinned] true _ _ N5 (fun _ h=>by cases h) YH (fun _ h=>by cases h) changesAscending_row_tie rfl ⟨rfl,rfl⟩ YG rfl
    (fun f fn hf hfn=>by
      obtain rfl:f=3:=Option.some.inj ((show Tryz.prog.funcNamed "pandect/pandectlaw31.ChangesAscending" =some 3 by kernel_rfl).symm.trans hf) |>.symm
      obtain rfl:fn=Tryz.f3:=(E0 (Tryz.func3.symm.trans hfn)).symm
      exact⟨YF,fun j t ht=>by
        rw[Tryz.params3]at ht
        have hm:t∈[9,22]:=by simpa using Array.mem_of_getElem? ht
        have hall:([9,22].all fun u=>!Tryz.prog.wantsStandIn u)=true:=by kernel_rfl
        exact(show Tryz.prog.wantsStandIn t=false by simpa using lL.1 hall t hm)⟩)
    YE
#print axioms asc_card
end Go.Proofs.YtaepacpodblomaaGreatDoor
