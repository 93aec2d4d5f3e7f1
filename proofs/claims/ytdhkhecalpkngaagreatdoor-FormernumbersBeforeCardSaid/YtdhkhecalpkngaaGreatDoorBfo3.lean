/- A law of chapter 44: the row and the tied card. For every input the law returns true. Conditions: the row's own. -/
import Derived.Test.YtdhkhecalpkngaaGreatDoorBfo1
import Derived.Test.YtdhkhecalpkngaaGreatDoorBfo4
import Derived.Test.YtdhkhecalpkngaaGreatDoorBfo2
import Derived.SevenTiedAt
import Derived.Stop.Joined
namespace Go.Proofs.YtdhkhecalpkngaaGreatDoor
open Go Go.Ev Go.ChangeShapes Go.RowKit
theorem N8:Rows.FormernumbersBeforeSaid:=
  OpenClaim.holds_of_wide 4 Tryz.f4 rfl rfl rfl rfl rfl rfl rfl ⟨rfl,rfl,rfl,rfl,rfl⟩ rfl rfl rfl rfl rfl (by kernel_rfl) Tryz.func4 N9
    (of_decide_eq_true (by kernel_rfl)) (by unfold Func.isWrapper;first|(rw[if_pos (by decide+kernel)];kernel_rfl)|(rw[if_neg (by decide+kernel)];exact⟨rfl,rfl⟩))
    (fun os started H enc _=>JA os started H enc)
theorem bfo_card:Rows.FormernumbersBeforeCardSaid:=
  Claim7.holds_tied_plain_at .later [] [.data,.data,.widerDeep,.funcs,.pinned] true _ _ N8 (fun _ h=>by cases h) Zz (fun _ h=>by cases h) formernumbersBefore_row_tie rfl ⟨rfl,rfl⟩ Zq rfl
    (fun f fn hf hfn=>by
      obtain rfl:f=4:=Option.some.inj ((show Tryz.prog.funcNamed "pandect/pandectlaw44.FormernumbersBefore" =some 4 by kernel_rfl).symm.trans hf) |>.symm
      obtain rfl:fn=Tryz.f4:=(JS (Tryz.func4.symm.trans hfn)).symm
      exact⟨ZU,fun j t ht=>by
        rw[Tryz.params4]at ht
        have hm:t∈[22,3,9,34,43]:=by simpa using Array.mem_of_getElem? ht
        have hall:([22,3,9,34,43].all fun u=>!Tryz.prog.wantsStandIn u)=true:=by kernel_rfl
        exact(show Tryz.prog.wantsStandIn t=false by simpa using kI.1 hall t hm)⟩)
    ZY
#print axioms bfo_card
end Go.Proofs.YtdhkhecalpkngaaGreatDoor
