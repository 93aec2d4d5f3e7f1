/- A closed run, in parts: the example that the laws of chapter 44 check. -/
import Derived.Test.YtdhkhecalpkngaaGreatDoorEva
import Derived.Test.YtdhkhecalpkngaaGreatDoorH9
import Derived.Test.YtdhkhecalpkngaaGreatDoorMach7
namespace Go.Proofs.YtdhkhecalpkngaaGreatDoor
open Go Go.Ev
noncomputable def Ye(f:FuncId):Nat:=match iN f [37,29]with|true=>2|false=>pol f
noncomputable abbrev a44(x:UInt8):List AV:=[.ps [.agg [.int .i64 0,.str []],.agg [.int .i64 2,.str [x]]] false]
noncomputable abbrev s44(x:UInt8):AV:=.str [98,111,111,107,32,115,101,99,116,105,111,110,32,x]
noncomputable abbrev i0:AV:=.int .i64 0
noncomputable abbrev Of(l:AV):AV:=.agg [i0,i0,i0,i0,.str [],.nils,.nils,l]
noncomputable abbrev Ob(a:Int)(x:UInt8):AV:=.agg [.int .i64 a,i0,.int .i64 1,.int .i64 2,.str [x],.nils,.nils,.ps [] true]
noncomputable abbrev ZR(a:Int):AV:=.agg [.int .i64 a,i0,.int .i64 (a-1),.int .i64 0,.nils,.nils,.int .i64 1,i0,i0,i0,i0,.int .i64 2,.str [53],.nils,.nils,.nils,.nils,.nils,.str [],.str [],i0,i0,.str [],i0,i0,i0,.str [],.nils]
noncomputable abbrev e44:AV:=.agg [.int .i64 2,i0,.int .i64 1,.int .i64 5,.ps [.agg [.int .i64 2,.str [53]]] true,.nils,.int .i64 0,i0,i0,i0,i0,i0,.str [],.nils,.nils,.nils,.nils,.nils,.str [54],.str [],i0,i0,.str [],i0,i0,i0,.str [],.nils]
abbrev X3(u d v:AV):Prop:=bX Tryz.prog G 54 [u,d] (.tuple [v,i0])
theorem p44:X3 (Of .nils) (ZR 1) (Of (.ps [Ob 1 53] false)):=bX.closed (C:=C) (k:=60) iO (ev 60) rfl (by kernel_rfl)
theorem q44:X3 (Of (.ps [Ob 1 53] false)) e44 (Of (.ps [Ob 1 54] false)):=bX.closed (C:=C) (k:=60) iO (ev 60) rfl (by kernel_rfl)
theorem r44:X3 (Of (.ps [Ob 1 54] false)) (ZR 3) (Of (.ps [Ob 1 54,Ob 3 53] false)):=bX.closed (C:=C) (k:=60) iO (ev 60) rfl (by kernel_rfl)
noncomputable def C44:Cfg:={P:=Tryz.prog,G:=G,pol:=Ye,rounds:=100000,hook:=xY [(12,a44 53,s44 53),(12,a44 54,s44 54),(54,[Of .nils,ZR 1],.tuple [Of (.ps [Ob 1 53] false),i0]),(54,[Of (.ps [Ob 1 53] false),e44],.tuple [Of (.ps [Ob 1 54] false),i0]),(54,[Of (.ps [Ob 1 54] false),ZR 3],.tuple [Of (.ps [Ob 1 54,Ob 3 53] false),i0])]}
theorem aao(k:Nat):cj Tryz.prog G (iP C44 k):=VM (C:=C44) Yp pE (QE rfl (yC.2 ⟨HZ 53 (by decide),yC.2 ⟨HZ 54 (by decide),yC.2 ⟨p44,yC.2 ⟨q44,yC.2 ⟨r44,fun x h=>by cases h⟩⟩⟩⟩⟩)) k
theorem VX:bX Tryz.prog G 7 [] (.bool true):=bX.closed (C:=C44) (k:=60) iO (aao 60) rfl (by kernel_rfl)
end Go.Proofs.YtdhkhecalpkngaaGreatDoor
