/- A closed run, in parts: the example that the laws of chapter 44 check. -/
import Derived.Test.YtdhkhecalpkngaaGreatDoorEva
import Derived.Test.YtdhkhecalpkngaaGreatDoorH9
import Derived.Test.YtdhkhecalpkngaaGreatDoorMach8
namespace Go.Proofs.YtdhkhecalpkngaaGreatDoor
open Go Go.Ev
noncomputable def Zp(f:FuncId):Nat:=match jq f [37,29]with|true=>2|false=>pol f
noncomputable abbrev a44(x:UInt8):List AV:=[.ps [.agg [.int .i64 0,.str []],.agg [.int .i64 2,.str [x]]] false]
noncomputable abbrev s44(x:UInt8):AV:=.str [98,111,111,107,32,115,101,99,116,105,111,110,32,x]
noncomputable abbrev i0:AV:=.int .i64 0
noncomputable abbrev Ph(l:AV):AV:=.agg [i0,i0,i0,i0,.str [],.nils,.nils,l]
noncomputable abbrev Pc(a:Int)(x:UInt8):AV:=.agg [.int .i64 a,i0,.int .i64 1,.int .i64 2,.str [x],.nils,.nils,.ps [] true]
noncomputable abbrev d44(a:Int):AV:=.agg [.int .i64 a,i0,.int .i64 (a-1),.int .i64 0,.nils,.nils,.int .i64 1,i0,i0,i0,i0,.int .i64 2,.str [53],.nils,.nils,.nils,.nils,.nils,.str [],.str [],i0,i0,.str [],i0,i0,i0,.str [],.nils]
noncomputable abbrev e44:AV:=.agg [.int .i64 2,i0,.int .i64 1,.int .i64 5,.ps [.agg [.int .i64 2,.str [53]]] true,.nils,.int .i64 0,i0,i0,i0,i0,i0,.str [],.nils,.nils,.nils,.nils,.nils,.str [54],.str [],i0,i0,.str [],i0,i0,i0,.str [],.nils]
abbrev Y6(u d v:AV):Prop:=bY Tryz.prog G 54 [u,d] (.tuple [v,i0])
theorem p44:Y6 (Ph .nils) (d44 1) (Ph (.ps [Pc 1 53] false)):=bY.closed (C:=C) (k:=60) jX (ev 60) rfl (by kernel_rfl)
theorem q44:Y6 (Ph (.ps [Pc 1 53] false)) e44 (Ph (.ps [Pc 1 54] false)):=bY.closed (C:=C) (k:=60) jX (ev 60) rfl (by kernel_rfl)
theorem r44:Y6 (Ph (.ps [Pc 1 54] false)) (d44 3) (Ph (.ps [Pc 1 54,Pc 3 53] false)):=bY.closed (C:=C) (k:=60) jX (ev 60) rfl (by kernel_rfl)
noncomputable def C44:Cfg:={P:=Tryz.prog,G:=G,pol:=Zp,rounds:=100000,hook:=xD [(12,a44 53,s44 53),(12,a44 54,s44 54),(54,[Ph .nils,d44 1],.tuple [Ph (.ps [Pc 1 53] false),i0]),(54,[Ph (.ps [Pc 1 53] false),e44],.tuple [Ph (.ps [Pc 1 54] false),i0]),(54,[Ph (.ps [Pc 1 54] false),d44 3],.tuple [Ph (.ps [Pc 1 54,Pc 3 53] false),i0])]}
theorem abt(k:Nat):cL Tryz.prog G (jz C44 k):=WL (C:=C44) ZE qf (RN rfl (zj.2 ⟨HR 53 (by decide),zj.2 ⟨HR 54 (by decide),zj.2 ⟨p44,zj.2 ⟨q44,zj.2 ⟨r44,fun x h=>by cases h⟩⟩⟩⟩⟩)) k
theorem WJ:bY Tryz.prog G 7 [] (.bool true):=bY.closed (C:=C44) (k:=60) jX (abt 60) rfl (by kernel_rfl)
end Go.Proofs.YtdhkhecalpkngaaGreatDoor
