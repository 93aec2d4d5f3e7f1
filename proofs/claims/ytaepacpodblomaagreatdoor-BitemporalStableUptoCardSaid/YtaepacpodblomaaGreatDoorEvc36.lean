/- A closed run, in parts: the example that the laws of chapter 36 check. -/
import Derived.Test.YtaepacpodblomaaGreatDoorEva
import Derived.Test.YtaepacpodblomaaGreatDoorMach7
namespace Go.Proofs.YtaepacpodblomaaGreatDoor
open Go Go.Ev
noncomputable abbrev i0:AV:=.int .i64 0
noncomputable abbrev YC:AV:=.agg [.int .i64 1,.int .i64 5,.str [],.ps [.agg [.int .i64 1,.str [65,99,116],i0,.int .i64 1,.int .i64 10,.str [],.ps [.agg [i0,.nils,.nils,.int .i64 1,i0,i0,i0,i0,.int .i64 2,.str [49],.nils,.nils,.nils,.nils,.nils,.str [],.str [],i0,i0,.str [],i0,i0,i0,.str [],.nils]] true]] true]
noncomputable abbrev ZP:AV:=.agg [.int .i64 2,.int .i64 30,.str [],.ps [.agg [.int .i64 2,.str [79,114,100,101,114],i0,.int .i64 2,i0,.str [],.ps [.agg [.int .i64 8,.nils,.nils,i0,i0,i0,i0,i0,i0,.str [],.nils,.nils,.nils,.nils,.nils,.str [],.str [],i0,i0,.str [],.int .i64 1,.int .i64 (-1),.int .i64 20,.str [],.nils]] true]] true]
noncomputable abbrev Zg:AV:=.ps [] false
noncomputable abbrev Sv:AV:=.ps [YC] false
noncomputable abbrev OU:AV:=.ps [YC,ZP] false
/-- The book without and with its section. -/
noncomputable abbrev OJ:AV:=.agg [i0,i0,i0,i0,.str [],.nils,.nils,.nils]
noncomputable abbrev OA:AV:=.agg [i0,i0,i0,i0,.str [],.nils,.nils,.ps [.agg [.int .i64 1,i0,.int .i64 1,.int .i64 2,.str [49],.nils,.nils,.ps [] true]] false]
noncomputable abbrev AR(d:Int)(l u:AV):FuncId×List AV×AV:=(14,[.int .i64 d,.str [],l],u)
theorem aae:ar Tryz.prog G 14 [.int .i64 12,.str [],Zg] OJ:=ar.closed (C:=C) (k:=60) fz (ev 60) rfl (by kernel_rfl)
theorem aad:ar Tryz.prog G 14 [.int .i64 12,.str [],Sv] OA:=ar.closed (C:=C) (k:=60) fz (ev 60) rfl (by kernel_rfl)
theorem aac:ar Tryz.prog G 14 [.int .i64 0,.str [],Sv] OJ:=ar.closed (C:=C) (k:=60) fz (ev 60) rfl (by kernel_rfl)
theorem aab:ar Tryz.prog G 14 [.int .i64 0,.str [],OU] OJ:=ar.closed (C:=C) (k:=60) fz (ev 60) rfl (by kernel_rfl)
theorem aaa:ar Tryz.prog G 14 [.int .i64 10,.str [],Sv] OA:=ar.closed (C:=C) (k:=60) fz (ev 60) rfl (by kernel_rfl)
theorem Z9:ar Tryz.prog G 14 [.int .i64 10,.str [],OU] OA:=ar.closed (C:=C) (k:=60) fz (ev 60) rfl (by kernel_rfl)
theorem Z8:ar Tryz.prog G 14 [.int .i64 20,.str [],Sv] OA:=ar.closed (C:=C) (k:=60) fz (ev 60) rfl (by kernel_rfl)
theorem Z7:ar Tryz.prog G 14 [.int .i64 20,.str [],OU] OJ:=ar.closed (C:=C) (k:=60) fz (ev 60) rfl (by kernel_rfl)
theorem Z6:ar Tryz.prog G 14 [.int .i64 25,.str [],Zg] OJ:=ar.closed (C:=C) (k:=60) fz (ev 60) rfl (by kernel_rfl)
theorem Z5:ar Tryz.prog G 14 [.int .i64 25,.str [],Sv] OA:=ar.closed (C:=C) (k:=60) fz (ev 60) rfl (by kernel_rfl)
theorem Z4:ar Tryz.prog G 14 [.int .i64 25,.str [],OU] OJ:=ar.closed (C:=C) (k:=60) fz (ev 60) rfl (by kernel_rfl)
noncomputable abbrev l36:List (FuncId×List AV×AV):=[AR 12 Zg OJ,AR 12 Sv OA,AR 0 Sv OJ,AR 0 OU OJ,AR 10 Sv OA,AR 10 OU OA,AR 20 Sv OA,AR 20 OU OJ,AR 25 Zg OJ,AR 25 Sv OA,AR 25 OU OJ]
theorem Wg:∀x,x∈l36→ar Tryz.prog G x.1 x.2.1 x.2.2:=mc.2 ⟨aae,mc.2 ⟨aad,mc.2 ⟨aac,mc.2 ⟨aab,mc.2 ⟨aaa,mc.2 ⟨Z9,mc.2 ⟨Z8,mc.2 ⟨Z7,mc.2 ⟨Z6,mc.2 ⟨Z5,mc.2 ⟨Z4,(fun x h=>by cases h)⟩⟩⟩⟩⟩⟩⟩⟩⟩⟩⟩
/-- Rows that stay rows. -/
noncomputable def Yj(f:FuncId):Nat:=match iB f [78,63,44]with|true=>2|false=>pol f
noncomputable def XB:Cfg:={P:=Tryz.prog,G:=G,pol:=Yj,rounds:=100000,hook:=ub l36}
theorem Uj(k:Nat):cw Tryz.prog G (fO XB k):=Q6 (C:=XB) WY oK (Gb rfl Wg) k
noncomputable abbrev Zm(a b:Int):AV:=.ps [.agg [.int .i64 a,.int .i64 b]] false
noncomputable abbrev TB:FuncId×List AV×AV:=(40,[.agg [.int .i64 1,i0,.int .i64 1],.int .i64 12,OU],.tuple [.int .i64 1,.bool true])
noncomputable abbrev UD:FuncId×List AV×AV:=(22,[.int .i64 2,.str [],OU],Zm 20 1048577)
noncomputable abbrev UH:FuncId×List AV×AV:=(19,[.int .i64 1,.int .i64 25,.str [],OU],OA)
noncomputable abbrev S4:FuncId×List AV×AV:=(23,[.int .i64 25,.str [],OU],.ps [.int .i64 1,.int .i64 2] false)
theorem TA:ar Tryz.prog G TB.1 TB.2.1 TB.2.2:=ar.closed (C:=XB) (k:=60) fz (Uj 60) rfl (by kernel_rfl)
theorem UC:ar Tryz.prog G UD.1 UD.2.1 UD.2.2:=ar.closed (C:=XB) (k:=60) fz (Uj 60) rfl (by kernel_rfl)
theorem UG:ar Tryz.prog G UH.1 UH.2.1 UH.2.2:=ar.closed (C:=XB) (k:=60) fz (Uj 60) rfl (by kernel_rfl)
theorem S3:ar Tryz.prog G S4.1 S4.2.1 S4.2.2:=ar.closed (C:=XB) (k:=60) fz (Uj 60) rfl (by kernel_rfl)
noncomputable abbrev m36:List (FuncId×List AV×AV):=[TB,UD,UH,S4]
noncomputable def C37:Cfg:={P:=Tryz.prog,G:=G,pol:=pol,rounds:=100000,hook:=ub m36}
theorem ZR(k:Nat):cw Tryz.prog G (fO C37 k):=Q6 (C:=C37) WY oK (Gb rfl (mc.2 ⟨TA,mc.2 ⟨UC,mc.2 ⟨UG,mc.2 ⟨S3,(fun x h=>by cases h)⟩⟩⟩⟩)) k
theorem UI:ar Tryz.prog G 18 [] (.bool true):=ar.closed (C:=C37) (k:=60) fz (ZR 60) rfl (by kernel_rfl)
end Go.Proofs.YtaepacpodblomaaGreatDoor
