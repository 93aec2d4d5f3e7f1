/- A law of chapter 44: the row and the tied card. For every input the law returns true. Conditions: the row's own. -/
import Derived.Test.YtdhkhecalpkngaaGreatDoorCur1
import Derived.Test.YtdhkhecalpkngaaGreatDoorCur4
import Derived.Test.YtdhkhecalpkngaaGreatDoorCur2
import Derived.SevenTiedAt
import Derived.Stop.Joined
namespace Go.Proofs.YtdhkhecalpkngaaGreatDoor
open Go Go.Ev Go.ChangeShapes Go.RowKit
theorem O1:Rows.FormernumbersCurrentSaid:=
  OpenClaim.holds_of_wide 3 Tryz.f3 rfl rfl rfl rfl rfl rfl rfl ⟨rfl,rfl,rfl,rfl,rfl⟩ rfl rfl rfl rfl rfl (by kernel_rfl) Tryz.func3 O2
    (of_decide_eq_true (by kernel_rfl)) (by unfold Func.isWrapper;first|(rw[if_pos (by decide+kernel)];kernel_rfl)|(rw[if_neg (by decide+kernel)];exact⟨rfl,rfl⟩))
    (fun os started H enc _=>KI os started H enc)
theorem cur_card:Rows.FormernumbersCurrentCardSaid:=
  Claim7.holds_tied_plain_at .later [] [.data,.data,.widerDeep,.funcs,.pinned] true _ _ O1 (fun _ h=>by cases h) aad (fun _ h=>by cases h) formernumbersCurrent_row_tie rfl ⟨rfl,rfl⟩ aac rfl
    (fun f fn hf hfn=>by
      obtain rfl:f=3:=Option.some.inj ((show Tryz.prog.funcNamed "pandect/pandectlaw44.FormernumbersCurrent" =some 3 by kernel_rfl).symm.trans hf) |>.symm
      obtain rfl:fn=Tryz.f3:=(Lq (Tryz.func3.symm.trans hfn)).symm
      exact⟨aab,fun j t ht=>by
        rw[Tryz.params3]at ht
        have hm:t∈[22,3,9]:=by simpa using Array.mem_of_getElem? ht
        have hall:([22,3,9].all fun u=>!Tryz.prog.wantsStandIn u)=true:=by kernel_rfl
        exact(show Tryz.prog.wantsStandIn t=false by simpa using kX.1 hall t hm)⟩)
    aaa
#print axioms cur_card
end Go.Proofs.YtdhkhecalpkngaaGreatDoor
