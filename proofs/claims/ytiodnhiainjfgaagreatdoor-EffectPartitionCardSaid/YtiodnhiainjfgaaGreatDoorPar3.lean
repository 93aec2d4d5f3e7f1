/- A law of chapter 35: the row and the tied card. For every input the law returns true. Conditions: the row's own. -/
import Derived.Test.YtiodnhiainjfgaaGreatDoorPar1
import Derived.Test.YtiodnhiainjfgaaGreatDoorPar4
import Derived.Test.YtiodnhiainjfgaaGreatDoorPar2
import Derived.SevenTiedAt
import Derived.Stop.Joined
namespace Go.Proofs.YtiodnhiainjfgaaGreatDoor
open Go Go.Ev Go.ChangeShapes Go.RowKit

theorem Lp:Rows.EffectPartitionSaid:=
  OpenClaim.holds_of_wide 5 Tryz.f5 rfl rfl rfl rfl rfl rfl rfl ⟨rfl,rfl,rfl,rfl,rfl⟩ rfl rfl rfl rfl rfl (by kernel_rfl) Tryz.func5 Lr
    (of_decide_eq_true (by kernel_rfl)) (by unfold Func.isWrapper;first|(rw[if_pos (by decide+kernel)];kernel_rfl)|(rw[if_neg (by decide+kernel)];exact⟨rfl,rfl⟩))
    (fun os started H enc _=>HF os started H enc)

theorem par_card:Rows.EffectPartitionCardSaid:=
  Claim7.holds_tied_plain_at .later [] _ _ _ _ Lp (fun _ h=>by cases h) XU (fun _ h=>by cases h) effectPartition_row_tie rfl ⟨rfl,rfl⟩ XY rfl
    (fun f fn hf hfn=>by
      obtain rfl:f=5:=Option.some.inj ((show Tryz.prog.funcNamed "pandect/pandectlaw35.EffectPartition" =some 5 by kernel_rfl).symm.trans hf) |>.symm
      obtain rfl:fn=Tryz.f5:=(I2 (Tryz.func5.symm.trans hfn)).symm
      exact⟨XV,fun j t ht=>by
        rw[Tryz.params5]at ht
        have hm:t∈[3,3,9,22]:=by simpa using Array.mem_of_getElem? ht
        have hall:([3,3,9,22].all fun u=>!Tryz.prog.wantsStandIn u)=true:=by kernel_rfl
        exact(show Tryz.prog.wantsStandIn t=false by simpa using lp.1 hall t hm)⟩)
    XK
#print axioms par_card
end Go.Proofs.YtiodnhiainjfgaaGreatDoor
