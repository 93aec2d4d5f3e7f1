/- A law of chapter 30: the row and the tied card. For every input the law returns true. Conditions: the row's own. -/
import Derived.Test.YtidehekfpcgelaaGreatDoorUni1
import Derived.Test.YtidehekfpcgelaaGreatDoorUni4
import Derived.Test.YtidehekfpcgelaaGreatDoorUni2
import Derived.SevenTiedAt
import Derived.Stop.Joined
namespace Go.Proofs.YtidehekfpcgelaaGreatDoor
open Go Go.Ev Go.ChangeShapes Go.RowKit

theorem NY:Rows.ConsolidateUniquenessSaid:=
  OpenClaim.holds_of_wide 4 Tryz.f4 rfl rfl rfl rfl rfl rfl rfl ⟨rfl,rfl,rfl,rfl,rfl⟩ rfl rfl rfl rfl rfl (by kernel_rfl) Tryz.func4 NU
    (of_decide_eq_true (by kernel_rfl)) (by unfold Func.isWrapper;first|(rw[if_pos (by decide+kernel)];kernel_rfl)|(rw[if_neg (by decide+kernel)];exact⟨rfl,rfl⟩))
    (fun os started H enc _=>IL os started H enc)

theorem uni_card:Rows.ConsolidateUniquenessCardSaid:=
  Claim7.holds_tied_plain_at .later [] [.data,.data,.widerDeep,.funcs,.pinned] true _ _ NY (fun _ h=>by cases h) Zv (fun _ h=>by cases h) consolidateUniqueness_row_tie rfl ⟨rfl,rfl⟩ Zw rfl
    (fun f fn hf hfn=>by
      obtain rfl:f=4:=Option.some.inj ((show Tryz.prog.funcNamed "pandect/pandectlaw30.ConsolidateUniqueness" =some 4 by kernel_rfl).symm.trans hf) |>.symm
      obtain rfl:fn=Tryz.f4:=(KE (Tryz.func4.symm.trans hfn)).symm
      exact⟨Zk,fun j t ht=>by
        rw[Tryz.params4]at ht
        have hm:t∈[3,9,22]:=by simpa using Array.mem_of_getElem? ht
        have hall:([3,9,22].all fun u=>!Tryz.prog.wantsStandIn u)=true:=by kernel_rfl
        exact(show Tryz.prog.wantsStandIn t=false by simpa using kO.1 hall t hm)⟩)
    Zj
#print axioms uni_card
end Go.Proofs.YtidehekfpcgelaaGreatDoor
