/- A law of chapter 30: the row and the tied card. For every input the law returns true. Conditions: the row's own. -/
import Derived.Test.YtidehekfpcgelaaGreatDoorPur1
import Derived.Test.YtidehekfpcgelaaGreatDoorPur4
import Derived.Test.YtidehekfpcgelaaGreatDoorPur2
import Derived.SevenTiedAt
import Derived.Stop.Joined
namespace Go.Proofs.YtidehekfpcgelaaGreatDoor
open Go Go.Ev Go.ChangeShapes Go.RowKit

theorem Ld:Rows.ConsolidatePurposesSaid:=
  OpenClaim.holds_of_wide 7 Tryz.f7 rfl rfl rfl rfl rfl rfl rfl ⟨rfl,rfl,rfl,rfl,rfl⟩ rfl rfl rfl rfl rfl (by kernel_rfl) Tryz.func7 Lf
    (of_decide_eq_true (by kernel_rfl)) (by unfold Func.isWrapper;first | (rw [if_pos (by decide +kernel)];kernel_rfl) | (rw [if_neg (by decide +kernel)];exact ⟨rfl,rfl⟩))
    (fun os started H enc _=>HF os started H enc)

theorem pur_card:Rows.ConsolidatePurposesCardSaid:=
  Claim7.holds_tied_plain_at .later [] [.data, .data, .widerDeep, .funcs, .pinned] true _ _ Ld (fun _ h=>by cases h) WA (fun _ h=>by cases h) consolidatePurposes_row_tie rfl ⟨rfl,rfl⟩ Wu rfl
    (fun f fn hf hfn=>by
      obtain rfl : f = 7 := Option.some.inj ((show Tryz.prog.funcNamed "pandect/pandectlaw30.ConsolidatePurposes" = some 7 by kernel_rfl).symm.trans hf) |>.symm
      obtain rfl:fn=Tryz.f7:=(I7 (Tryz.func7.symm.trans hfn)).symm
      exact ⟨Ws,fun j t ht=>by
        rw [Tryz.params7] at ht
        have hm:t∈ [3,9,22]:=by simpa using Array.mem_of_getElem? ht
        have hall:([3,9,22].all fun u=>!Tryz.prog.wantsStandIn u)=true:=by kernel_rfl
        exact (show Tryz.prog.wantsStandIn t=false by simpa using nW.1 hall t hm)⟩)
    Wr
#print axioms pur_card
end Go.Proofs.YtidehekfpcgelaaGreatDoor
