/- A closed run, in parts: the example that the laws of chapter 35 check. -/
import Derived.Test.YtiodnhiainjfgaaGreatDoorEva
import Derived.Test.YtiodnhiainjfgaaGreatDoorMach7
namespace Go.Proofs.YtiodnhiainjfgaaGreatDoor
open Go Go.Ev
noncomputable abbrev i0:AV:=.int .i64 0
noncomputable abbrev VT:AV:=.ps [.agg [.int .i64 1,i0,.str [],.ps [.agg [.int .i64 1,.str [65],i0,.int .i64 1,i0,.str [],.ps [.agg [.int .i64 0,.nils,.nils,.int .i64 1,i0,i0,i0,i0,.int .i64 2,.str [49],.nils,.nils,.nils,.nils,.nils,.str [],.str [],i0,i0,.str [],i0,i0,i0,.str [],.nils],.agg [.int .i64 1,.ps [.agg [.int .i64 2,.str [57]]] true,.nils,.int .i64 0,i0,i0,i0,i0,i0,.str [],.nils,.nils,.nils,.nils,.nils,.str [],.str [],i0,i0,.str [],i0,i0,i0,.str [],.nils]] true]] true]] true
noncomputable abbrev Hk:Type:=FuncId×List AV×AV
noncomputable abbrev VY:Hk:=(20,[.int .i64 3,.str [],VT],.ps [.agg [.int .i64 1,i0,i0,.int .i64 0,.nils,.nils,.int .i64 1,i0,i0,i0,i0,.int .i64 2,.str [49],.nils,.nils,.nils,.nils,.nils,.str [],.str [],i0,i0,.str [],i0,i0,i0,.str [],.nils],.agg [.int .i64 1,.int .i64 1,i0,.int .i64 1,.ps [.agg [.int .i64 2,.str [57]]] true,.nils,.int .i64 0,i0,i0,i0,i0,i0,.str [],.nils,.nils,.nils,.nils,.nils,.str [],.str [],i0,i0,.str [],i0,i0,i0,.str [],.nils]] false)
noncomputable abbrev XM:AV:=.ps [.agg [.int .i64 1,.int .i64 1,.int .i64 7]] false
noncomputable abbrev X7:Hk:=(19,[.int .i64 3,.str [],VT],XM)
noncomputable abbrev YY:Hk:=(39,[.int .i64 1,.int .i64 3,.str [],VT],.ps [.agg [.int .i64 1,i0,.int .i64 1]] false)
noncomputable abbrev XH:Hk:=(21,[.int .i64 3,.str [],.agg [.int .i64 1,i0],VT],.bool true)
noncomputable abbrev XG:Hk:=(21,[.int .i64 3,.str [],.agg [.int .i64 1,.int .i64 1],VT],.bool false)
noncomputable abbrev XT:Hk:=(18,[.int .i64 1,.int .i64 3,.str [],VT],XM)
noncomputable abbrev XQ:Hk:=(41,[.int .i64 1,.int .i64 3,VT],.ps [.str [48,32,105,110,115,101,114,116,32,100,111,110,101],.str [49,32,114,101,112,101,97,108,32,110,111,110,101]] false)
noncomputable abbrev IL(x:Hk):Prop:=aI Tryz.prog G x.1 x.2.1 x.2.2
theorem Js:IL VY:=aI.closed (C:=C) (k:=60) gF (ev 60) rfl (by kernel_rfl)
noncomputable abbrev YP:List Hk:=[VY]
noncomputable def Uk:Cfg:={P:=Tryz.prog,G:=G,pol:=pol,rounds:=100000,hook:=qq YP}
theorem Up(k:Nat):bO Tryz.prog G (gk Uk k):=Ga (C:=Uk) O5 mh (tu rfl (pB.2 ⟨Js,(fun x h=>by cases h)⟩)) k
theorem TS:IL X7:=aI.closed (C:=Uk) (k:=60) gF (Up 60) rfl (by kernel_rfl)
theorem UZ:IL YY:=aI.closed (C:=Uk) (k:=60) gF (Up 60) rfl (by kernel_rfl)
noncomputable abbrev YO:List Hk:=[VY,X7]
noncomputable def Rh:Cfg:={P:=Tryz.prog,G:=G,pol:=pol,rounds:=100000,hook:=qq YO}
theorem Qx(k:Nat):bO Tryz.prog G (gk Rh k):=Ga (C:=Rh) O5 mh (tu rfl (pB.2 ⟨Js,pB.2 ⟨TS,(fun x h=>by cases h)⟩⟩)) k
theorem Tx:IL XH:=aI.closed (C:=Rh) (k:=60) gF (Qx 60) rfl (by kernel_rfl)
theorem TK:IL XG:=aI.closed (C:=Rh) (k:=60) gF (Qx 60) rfl (by kernel_rfl)
theorem Ts:IL XT:=aI.closed (C:=Rh) (k:=60) gF (Qx 60) rfl (by kernel_rfl)
noncomputable abbrev YN:List Hk:=[XH,XG,XT]
noncomputable def WA:Cfg:={P:=Tryz.prog,G:=G,pol:=pol,rounds:=100000,hook:=qq YN}
theorem XR(k:Nat):bO Tryz.prog G (gk WA k):=Ga (C:=WA) O5 mh (tu rfl (pB.2 ⟨Tx,pB.2 ⟨TK,pB.2 ⟨Ts,(fun x h=>by cases h)⟩⟩⟩)) k
theorem SX:IL XQ:=aI.closed (C:=WA) (k:=60) gF (XR 60) rfl (by kernel_rfl)
noncomputable abbrev YM:List Hk:=[YY,XQ]
noncomputable def Wu:Cfg:={P:=Tryz.prog,G:=G,pol:=pol,rounds:=100000,hook:=qq YM}
theorem XP(k:Nat):bO Tryz.prog G (gk Wu k):=Ga (C:=Wu) O5 mh (tu rfl (pB.2 ⟨UZ,pB.2 ⟨SX,(fun x h=>by cases h)⟩⟩)) k
theorem T2:aI Tryz.prog G 16 [] (.bool true):=aI.closed (C:=Wu) (k:=60) gF (XP 60) rfl (by kernel_rfl)
end Go.Proofs.YtiodnhiainjfgaaGreatDoor
