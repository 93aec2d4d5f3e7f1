/- A law of chapter 34: the row and the tied card. For every input the law returns true. Conditions: the row's own. -/
import Derived.Test.YtadodlkibeofjaaGreatDoorAus1
import Derived.Test.YtadodlkibeofjaaGreatDoorAus4
import Derived.Test.YtadodlkibeofjaaGreatDoorAus2
import Derived.SevenTiedAt
import Derived.Stop.Joined
namespace Go.Proofs.YtadodlkibeofjaaGreatDoor
open Go Go.Ev Go.ChangeShapes Go.RowKit
theorem PJ:Rows.BlameAuthorsSaid:=
  OpenClaim.holds_of_wide 5 Tryz.f5 rfl rfl rfl rfl rfl rfl rfl ⟨rfl,rfl,rfl,rfl,rfl⟩ rfl rfl rfl rfl rfl (by kernel_rfl) Tryz.func5 PK
    (of_decide_eq_true (by kernel_rfl)) (by unfold Func.isWrapper;first|(rw[if_pos (by decide+kernel)];kernel_rfl)|(rw[if_neg (by decide+kernel)];exact⟨rfl,rfl⟩))
    (fun os started H enc _=>KI os started H enc)
theorem aus_card:Rows.BlameAuthorsCardSaid:=
  Claim7.holds_tied_plain_at .later [] _ _ _ _ PJ (fun _ h=>by cases h) aan (fun _ h=>by cases h) blameAuthors_row_tie rfl ⟨rfl,rfl⟩ aam rfl
    (fun f fn hf hfn=>by
      obtain rfl:f=5:=Option.some.inj ((show Tryz.prog.funcNamed "pandect/pandectlaw34.BlameAuthors" =some 5 by kernel_rfl).symm.trans hf) |>.symm
      obtain rfl:fn=Tryz.f5:=(Fu (Tryz.func5.symm.trans hfn)).symm
      exact⟨aal,fun j t ht=>by
        rw[Tryz.params5]at ht
        have hm:t∈[35,3,9,47]:=by simpa using Array.mem_of_getElem? ht
        have hall:([35,3,9,47].all fun u=>!Tryz.prog.wantsStandIn u)=true:=by kernel_rfl
        exact(show Tryz.prog.wantsStandIn t=false by simpa using mw.1 hall t hm)⟩)
    aak
#print axioms aus_card
end Go.Proofs.YtadodlkibeofjaaGreatDoor
