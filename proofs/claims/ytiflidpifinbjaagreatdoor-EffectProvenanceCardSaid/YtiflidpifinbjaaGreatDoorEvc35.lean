/- A closed run, in parts: the example that the laws of chapter 35 check. -/
import Derived.Test.YtiflidpifinbjaaGreatDoorEva
import Derived.Test.YtiflidpifinbjaaGreatDoorMach7
namespace Go.Proofs.YtiflidpifinbjaaGreatDoor
open Go Go.Ev
noncomputable abbrev i0:AV:=.int .i64 0
noncomputable abbrev Y8:AV:=.ps [.agg [.int .i64 1,i0,.str [],.ps [.agg [.int .i64 1,.str [65],i0,.int .i64 1,i0,.str [],.ps [.agg [.int .i64 0,.nils,.nils,.int .i64 1,i0,i0,i0,i0,.int .i64 2,.str [49],.nils,.nils,.nils,.nils,.nils,.str [],.str [],i0,i0,.str [],i0,i0,i0,.str [],.nils],.agg [.int .i64 1,.ps [.agg [.int .i64 2,.str [57]]] true,.nils,.int .i64 0,i0,i0,i0,i0,i0,.str [],.nils,.nils,.nils,.nils,.nils,.str [],.str [],i0,i0,.str [],i0,i0,i0,.str [],.nils]] true]] true]] true
noncomputable abbrev Hk:Type:=FuncId×laa×AV
noncomputable abbrev Ye:Hk:=(9,[.int .i64 3,.str [],Y8],.ps [.agg [.int .i64 1,i0,i0,.int .i64 0,.nils,.nils,.int .i64 1,i0,i0,i0,i0,.int .i64 2,.str [49],.nils,.nils,.nils,.nils,.nils,.str [],.str [],i0,i0,.str [],i0,i0,i0,.str [],.nils],.agg [.int .i64 1,.int .i64 1,i0,.int .i64 1,.ps [.agg [.int .i64 2,.str [57]]] true,.nils,.int .i64 0,i0,i0,i0,i0,i0,.str [],.nils,.nils,.nils,.nils,.nils,.str [],.str [],i0,i0,.str [],i0,i0,i0,.str [],.nils]] false)
noncomputable abbrev aa5:AV:=.ps [.agg [.int .i64 1,.int .i64 1,.int .i64 7]] false
noncomputable abbrev abp:Hk:=(34,[.int .i64 3,.str [],Y8],aa5)
noncomputable abbrev abK:Hk:=(8,[.int .i64 1,.int .i64 3,.str [],Y8],.ps [.agg [.int .i64 1,i0,.int .i64 1]] false)
noncomputable abbrev aa1:Hk:=(13,[.int .i64 3,.str [],.agg [.int .i64 1,i0],Y8],.bool true)
noncomputable abbrev aa0:Hk:=(13,[.int .i64 3,.str [],.agg [.int .i64 1,.int .i64 1],Y8],.bool false)
noncomputable abbrev abe:Hk:=(59,[.int .i64 1,.int .i64 3,.str [],Y8],aa5)
noncomputable abbrev aam:Hk:=(15,[.int .i64 1,.int .i64 3,Y8],.ps [.str [48,32,105,110,115,101,114,116,32,100,111,110,101],.str [49,32,114,101,112,101,97,108,32,110,111,110,101]] false)
noncomputable abbrev LA(x:Hk):Prop:=aP Tryz.prog G x.1 x.2.1 x.2.2
theorem M5:LA Ye:=aP.closed (C:=C) (k:=60) gM (ev 60) rfl (by kernel_rfl)
noncomputable abbrev acs:List Hk:=[Ye]
noncomputable def Xc:Cfg:={P:=Tryz.prog,G:=G,pol:=pol,rounds:=100000,hook:=rk acs}
theorem XM(k:Nat):cW Tryz.prog G (fF Xc k):=Ij (C:=Xc) Rs na (vv rfl (qF.2 ⟨M5,(λx h=>by cases h)⟩)) k
theorem WH:LA abp:=aP.closed (C:=Xc) (k:=60) gM (XM 60) rfl (by kernel_rfl)
theorem XU:LA abK:=aP.closed (C:=Xc) (k:=60) gM (XM 60) rfl (by kernel_rfl)
noncomputable abbrev acr:List Hk:=[Ye,abp]
noncomputable def Uj:Cfg:={P:=Tryz.prog,G:=G,pol:=pol,rounds:=100000,hook:=rk acr}
theorem S2(k:Nat):cW Tryz.prog G (fF Uj k):=Ij (C:=Uj) Rs na (vv rfl (qF.2 ⟨M5,qF.2 ⟨WH,(λx h=>by cases h)⟩⟩)) k
theorem WQ:LA aa1:=aP.closed (C:=Uj) (k:=60) gM (S2 60) rfl (by kernel_rfl)
theorem V4:LA aa0:=aP.closed (C:=Uj) (k:=60) gM (S2 60) rfl (by kernel_rfl)
theorem Wf:LA abe:=aP.closed (C:=Uj) (k:=60) gM (S2 60) rfl (by kernel_rfl)
noncomputable abbrev acq:List Hk:=[aa1,aa0,abe]
noncomputable def ZS:Cfg:={P:=Tryz.prog,G:=G,pol:=pol,rounds:=100000,hook:=rk acq}
theorem aa9(k:Nat):cW Tryz.prog G (fF ZS k):=Ij (C:=ZS) Rs na (vv rfl (qF.2 ⟨WQ,qF.2 ⟨V4,qF.2 ⟨Wf,(λx h=>by cases h)⟩⟩⟩)) k
theorem U2:LA aam:=aP.closed (C:=ZS) (k:=60) gM (aa9 60) rfl (by kernel_rfl)
noncomputable abbrev acp:List Hk:=[abK,aam]
noncomputable def ZR:Cfg:={P:=Tryz.prog,G:=G,pol:=pol,rounds:=100000,hook:=rk acp}
theorem aa8(k:Nat):cW Tryz.prog G (fF ZR k):=Ij (C:=ZR) Rs na (vv rfl (qF.2 ⟨XU,qF.2 ⟨U2,(λx h=>by cases h)⟩⟩)) k
theorem W5:aP Tryz.prog G 4 [] (.bool true):=aP.closed (C:=ZR) (k:=60) gM (aa8 60) rfl (by kernel_rfl)
end Go.Proofs.YtiflidpifinbjaaGreatDoor
