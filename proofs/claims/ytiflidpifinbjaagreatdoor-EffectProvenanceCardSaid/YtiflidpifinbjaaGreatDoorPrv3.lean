/- A law of chapter 35: the row and the tied card. For every input the law returns true. Conditions: the row's own. -/
import Derived.Test.YtiflidpifinbjaaGreatDoorPrv1
import Derived.Test.YtiflidpifinbjaaGreatDoorPrv4
import Derived.Test.YtiflidpifinbjaaGreatDoorPrv2
import Derived.SevenTiedAt
import Derived.Stop.Joined
namespace Go.Proofs.YtiflidpifinbjaaGreatDoor
open Go Go.Ev Go.ChangeShapes Go.RowKit
theorem OG:Rows.EffectProvenanceSaid:=
  OpenClaim.holds_of_wide 3 Tryz.f3 rfl rfl rfl rfl rfl rfl rfl ⟨rfl,rfl,rfl,rfl,rfl⟩ rfl rfl rfl rfl rfl (by kernel_rfl) Tryz.func3 OH
    (of_decide_eq_true (by kernel_rfl)) (by unfold Func.isWrapper;first|(rw[if_pos (by decide+kernel)];kernel_rfl)|(rw[if_neg (by decide+kernel)];exact⟨rfl,rfl⟩))
    (λos started H enc _=>J3 os started H enc)
theorem prv_card:Rows.EffectProvenanceCardSaid:=
  Claim7.holds_tied_plain_at .later [] _ _ _ _ OG (λ_ h=>by cases h) aau (λ_ h=>by cases h) effectProvenance_row_tie rfl ⟨rfl,rfl⟩ aat rfl
    (λf fn hf hfn=>by
      obtain rfl:f=3:=Option.some.inj ((show Tryz.prog.funcNamed "pandect/pandectlaw35.EffectProvenance" =some 3 by kernel_rfl).symm.trans hf) |>.symm
      obtain rfl:fn=Tryz.f3:=(LI (Tryz.func3.symm.trans hfn)).symm
      exact⟨aas,λj t ht=>by
        rw[Tryz.params3]at ht
        have hm:t∈[3,9,22]:=by simpa using Array.mem_of_getElem? ht
        have hall:([3,9,22].all λu=>!Tryz.prog.wantsStandIn u)=true:=by kernel_rfl
        exact(show Tryz.prog.wantsStandIn t=false by simpa using mf.1 hall t hm)⟩)
    aar
#print axioms prv_card
end Go.Proofs.YtiflidpifinbjaaGreatDoor
