/- A law of chapter 33: the row and the tied card. For every input the law returns true. Conditions: the row's own. -/
import Derived.Test.YtjokefckffbpeaaGreatDoorDis1
import Derived.Test.YtjokefckffbpeaaGreatDoorDis4
import Derived.Test.YtjokefckffbpeaaGreatDoorDis2
import Derived.SevenTiedAt
import Derived.Stop.Joined
namespace Go.Proofs.YtjokefckffbpeaaGreatDoor
open Go Go.Ev Go.ChangeShapes Go.RowKit

theorem NG:Rows.HistoryDisjointSaid:=
  OpenClaim.holds_of_wide 3 Tryz.f3 rfl rfl rfl rfl rfl rfl rfl ⟨rfl,rfl,rfl,rfl,rfl⟩ rfl rfl rfl rfl rfl (by kernel_rfl) Tryz.func3 NH
    (of_decide_eq_true (by kernel_rfl)) (by unfold Func.isWrapper;first|(rw[if_pos (by decide+kernel)];kernel_rfl)|(rw[if_neg (by decide+kernel)];exact⟨rfl,rfl⟩))
    (fun os started H enc _=>Jw os started H enc)

theorem dis_card:Rows.HistoryDisjointCardSaid:=
  Claim7.holds_tied_plain_at .later [] [.data,.data,.widerDeep,.funcs,.pinned] true _ _ NG (fun _ h=>by cases h) Yp (fun _ h=>by cases h) historyDisjoint_row_tie rfl ⟨rfl,rfl⟩ Yo rfl
    (fun f fn hf hfn=>by
      obtain rfl:f=3:=Option.some.inj ((show Tryz.prog.funcNamed "pandect/pandectlaw33.HistoryDisjoint" =some 3 by kernel_rfl).symm.trans hf) |>.symm
      obtain rfl:fn=Tryz.f3:=(JA (Tryz.func3.symm.trans hfn)).symm
      exact⟨Yn,fun j t ht=>by
        rw[Tryz.params3]at ht
        have hm:t∈[22,24,9,3]:=by simpa using Array.mem_of_getElem? ht
        have hall:([22,24,9,3].all fun u=>!Tryz.prog.wantsStandIn u)=true:=by kernel_rfl
        exact(show Tryz.prog.wantsStandIn t=false by simpa using mK.1 hall t hm)⟩)
    Ym
#print axioms dis_card
end Go.Proofs.YtjokefckffbpeaaGreatDoor
