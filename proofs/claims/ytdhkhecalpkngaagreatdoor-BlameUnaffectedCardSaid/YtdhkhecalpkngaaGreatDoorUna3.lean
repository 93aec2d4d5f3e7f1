/- A law of chapter 34: the row and the tied card. For every input the law returns true. Conditions: the row's own. -/
import Derived.Test.YtdhkhecalpkngaaGreatDoorUna1
import Derived.Test.YtdhkhecalpkngaaGreatDoorUna4
import Derived.Test.YtdhkhecalpkngaaGreatDoorUna2
import Derived.SevenTiedAt
import Derived.Stop.Joined
namespace Go.Proofs.YtdhkhecalpkngaaGreatDoor
open Go Go.Ev Go.ChangeShapes Go.RowKit
theorem MG:Rows.BlameUnaffectedSaid:=
  OpenClaim.holds_of_wide 5 Tryz.f5 rfl rfl rfl rfl rfl rfl rfl ⟨rfl,rfl,rfl,rfl,rfl⟩ rfl rfl rfl rfl rfl (by kernel_rfl) Tryz.func5 MH
    (of_decide_eq_true (by kernel_rfl)) (by unfold Func.isWrapper;first|(rw[if_pos (by decide+kernel)];kernel_rfl)|(rw[if_neg (by decide+kernel)];exact⟨rfl,rfl⟩))
    (fun os started H enc _=>Ii os started H enc)
theorem una_card:Rows.BlameUnaffectedCardSaid:=
  Claim7.holds_tied_plain_at .later [] _ _ _ _ MG (fun _ h=>by cases h) Yd (fun _ h=>by cases h) blameUnaffected_row_tie rfl ⟨rfl,rfl⟩ Yc rfl
    (fun f fn hf hfn=>by
      obtain rfl:f=5:=Option.some.inj ((show Tryz.prog.funcNamed "pandect/pandectlaw34.BlameUnaffected" =some 5 by kernel_rfl).symm.trans hf) |>.symm
      obtain rfl:fn=Tryz.f5:=(KZ (Tryz.func5.symm.trans hfn)).symm
      exact⟨Yb,fun j t ht=>by
        rw[Tryz.params5]at ht
        have hm:t∈[26,3,9,22]:=by simpa using Array.mem_of_getElem? ht
        have hall:([26,3,9,22].all fun u=>!Tryz.prog.wantsStandIn u)=true:=by kernel_rfl
        exact(show Tryz.prog.wantsStandIn t=false by simpa using mq.1 hall t hm)⟩)
    Ya
#print axioms una_card
end Go.Proofs.YtdhkhecalpkngaaGreatDoor
