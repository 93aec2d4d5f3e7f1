/- A law of chapter 31: the row and the tied card. For every input the law returns true. Conditions: the row's own. -/
import Derived.Test.YtaepacpodblomaaGreatDoorCst1
import Derived.Test.YtaepacpodblomaaGreatDoorCst4
import Derived.Test.YtaepacpodblomaaGreatDoorCst2
import Derived.SevenTiedAt
import Derived.Stop.Joined
namespace Go.Proofs.YtaepacpodblomaaGreatDoor
open Go Go.Ev Go.ChangeShapes Go.RowKit

theorem N2:Rows.ChangesConstantSaid:=
  OpenClaim.holds_of_wide 4 Tryz.f4 rfl rfl rfl rfl rfl rfl rfl ⟨rfl,rfl,rfl,rfl,rfl⟩ rfl rfl rfl rfl rfl (by kernel_rfl) Tryz.func4 N3
    (of_decide_eq_true (by kernel_rfl)) (by unfold Func.isWrapper;first|(rw[if_pos (by decide+kernel)];kernel_rfl)|(rw[if_neg (by decide+kernel)];exact⟨rfl,rfl⟩))
    (fun os started H enc _=>Jo os started H enc)

theorem cst_card:Rows.ChangesConstantCardSaid:=
  Claim7.holds_tied_plain_at .later [] [.data,.data,.widerDeep,.funcs,.pinned] true _ _ N2 (fun _ h=>by cases h) YI (fun _ h=>by cases h) changesConstant_row_tie rfl ⟨rfl,rfl⟩ YH rfl
    (fun f fn hf hfn=>by
      obtain rfl:f=4:=Option.some.inj ((show Tryz.prog.funcNamed "pandect/pandectlaw31.ChangesConstant" =some 4 by kernel_rfl).symm.trans hf) |>.symm
      obtain rfl:fn=Tryz.f4:=(E7 (Tryz.func4.symm.trans hfn)).symm
      exact⟨YG,fun j t ht=>by
        rw[Tryz.params4]at ht
        have hm:t∈[3,9,22]:=by simpa using Array.mem_of_getElem? ht
        have hall:([3,9,22].all fun u=>!Tryz.prog.wantsStandIn u)=true:=by kernel_rfl
        exact(show Tryz.prog.wantsStandIn t=false by simpa using l9.1 hall t hm)⟩)
    YF
#print axioms cst_card
end Go.Proofs.YtaepacpodblomaaGreatDoor
