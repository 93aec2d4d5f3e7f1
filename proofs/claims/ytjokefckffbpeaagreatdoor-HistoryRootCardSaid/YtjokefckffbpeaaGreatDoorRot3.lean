/- A law of chapter 33: the row and the tied card. For every input the law returns true. Conditions: the row's own. -/
import Derived.Test.YtjokefckffbpeaaGreatDoorRot1
import Derived.Test.YtjokefckffbpeaaGreatDoorRot4
import Derived.Test.YtjokefckffbpeaaGreatDoorRot2
import Derived.SevenTiedAt
import Derived.Stop.Joined
namespace Go.Proofs.YtjokefckffbpeaaGreatDoor
open Go Go.Ev Go.ChangeShapes Go.RowKit

theorem MW:Rows.HistoryRootSaid:=
  OpenClaim.holds_of_wide 4 Tryz.f4 rfl rfl rfl rfl rfl rfl rfl ⟨rfl,rfl,rfl,rfl,rfl⟩ rfl rfl rfl rfl rfl (by kernel_rfl) Tryz.func4 MJ
    (of_decide_eq_true (by kernel_rfl)) (by unfold Func.isWrapper;first|(rw[if_pos (by decide+kernel)];kernel_rfl)|(rw[if_neg (by decide+kernel)];exact⟨rfl,rfl⟩))
    (fun os started H enc _=>IW os started H enc)

theorem rot_card:Rows.HistoryRootCardSaid:=
  Claim7.holds_tied_plain_at .later [] [.data,.data,.widerDeep,.funcs,.pinned] true _ _ MW (fun _ h=>by cases h) XT (fun _ h=>by cases h) historyRoot_row_tie rfl ⟨rfl,rfl⟩ XS rfl
    (fun f fn hf hfn=>by
      obtain rfl:f=4:=Option.some.inj ((show Tryz.prog.funcNamed "pandect/pandectlaw33.HistoryRoot" =some 4 by kernel_rfl).symm.trans hf) |>.symm
      obtain rfl:fn=Tryz.f4:=(Jn (Tryz.func4.symm.trans hfn)).symm
      exact⟨XR,fun j t ht=>by
        rw[Tryz.params4]at ht
        have hm:t∈[22,9]:=by simpa using Array.mem_of_getElem? ht
        have hall:([22,9].all fun u=>!Tryz.prog.wantsStandIn u)=true:=by kernel_rfl
        exact(show Tryz.prog.wantsStandIn t=false by simpa using nq.1 hall t hm)⟩)
    XP
#print axioms rot_card
end Go.Proofs.YtjokefckffbpeaaGreatDoor
