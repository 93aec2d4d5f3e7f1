/- A closed run, in parts: the example that the laws of chapter 36 check. -/
import Derived.Test.YtaepacpodblomaaGreatDoorEva
import Derived.Test.YtaepacpodblomaaGreatDoorMach7
namespace Go.Proofs.YtaepacpodblomaaGreatDoor
open Go Go.Ev
noncomputable abbrev i0:AV:=.int .i64 0
noncomputable abbrev Y0:AV:=.agg [.int .i64 1,.int .i64 5,.str [],.ps [.agg [.int .i64 1,.str [65,99,116],i0,.int .i64 1,.int .i64 10,.str [],.ps [.agg [i0,.nils,.nils,.int .i64 1,i0,i0,i0,i0,.int .i64 2,.str [49],.nils,.nils,.nils,.nils,.nils,.str [],.str [],i0,i0,.str [],i0,i0,i0,.str [],.nils]] true]] true]
noncomputable abbrev aah:AV:=.agg [.int .i64 2,.int .i64 30,.str [],.ps [.agg [.int .i64 2,.str [79,114,100,101,114],i0,.int .i64 2,i0,.str [],.ps [.agg [.int .i64 8,.nils,.nils,i0,i0,i0,i0,i0,i0,.str [],.nils,.nils,.nils,.nils,.nils,.str [],.str [],i0,i0,.str [],.int .i64 1,.int .i64 (-1),.int .i64 20,.str [],.nils]] true]] true]
noncomputable abbrev ZC:AV:=.ps [] false
noncomputable abbrev SF:AV:=.ps [Y0] false
noncomputable abbrev OD:AV:=.ps [Y0,aah] false
/-- The book without and with its section. -/
noncomputable abbrev OA:AV:=.agg [i0,i0,i0,i0,.str [],.nils,.nils,.nils]
noncomputable abbrev PQ:AV:=.agg [i0,i0,i0,i0,.str [],.nils,.nils,.ps [.agg [.int .i64 1,i0,.int .i64 1,.int .i64 2,.str [49],.nils,.nils,.ps [] true]] false]
noncomputable abbrev Bq(d:Int)(l u:AV):FuncId×List AV×AV:=(14,[.int .i64 d,.str [],l],u)
theorem aaz:aA Tryz.prog G 14 [.int .i64 12,.str [],ZC] OA:=aA.closed (C:=C) (k:=60) fV (ev 60) rfl (by kernel_rfl)
theorem aay:aA Tryz.prog G 14 [.int .i64 12,.str [],SF] PQ:=aA.closed (C:=C) (k:=60) fV (ev 60) rfl (by kernel_rfl)
theorem aax:aA Tryz.prog G 14 [.int .i64 0,.str [],SF] OA:=aA.closed (C:=C) (k:=60) fV (ev 60) rfl (by kernel_rfl)
theorem aaw:aA Tryz.prog G 14 [.int .i64 0,.str [],OD] OA:=aA.closed (C:=C) (k:=60) fV (ev 60) rfl (by kernel_rfl)
theorem aav:aA Tryz.prog G 14 [.int .i64 10,.str [],SF] PQ:=aA.closed (C:=C) (k:=60) fV (ev 60) rfl (by kernel_rfl)
theorem aau:aA Tryz.prog G 14 [.int .i64 10,.str [],OD] PQ:=aA.closed (C:=C) (k:=60) fV (ev 60) rfl (by kernel_rfl)
theorem aat:aA Tryz.prog G 14 [.int .i64 20,.str [],SF] PQ:=aA.closed (C:=C) (k:=60) fV (ev 60) rfl (by kernel_rfl)
theorem aas:aA Tryz.prog G 14 [.int .i64 20,.str [],OD] OA:=aA.closed (C:=C) (k:=60) fV (ev 60) rfl (by kernel_rfl)
theorem aar:aA Tryz.prog G 14 [.int .i64 25,.str [],ZC] OA:=aA.closed (C:=C) (k:=60) fV (ev 60) rfl (by kernel_rfl)
theorem aaq:aA Tryz.prog G 14 [.int .i64 25,.str [],SF] PQ:=aA.closed (C:=C) (k:=60) fV (ev 60) rfl (by kernel_rfl)
theorem aap:aA Tryz.prog G 14 [.int .i64 25,.str [],OD] OA:=aA.closed (C:=C) (k:=60) fV (ev 60) rfl (by kernel_rfl)
noncomputable abbrev l36:List (FuncId×List AV×AV):=[Bq 12 ZC OA,Bq 12 SF PQ,Bq 0 SF OA,Bq 0 OD OA,Bq 10 SF PQ,Bq 10 OD PQ,Bq 20 SF PQ,Bq 20 OD OA,Bq 25 ZC OA,Bq 25 SF PQ,Bq 25 OD OA]
theorem WI:∀x,x∈l36→aA Tryz.prog G x.1 x.2.1 x.2.2:=jc.2 ⟨aaz,jc.2 ⟨aay,jc.2 ⟨aax,jc.2 ⟨aaw,jc.2 ⟨aav,jc.2 ⟨aau,jc.2 ⟨aat,jc.2 ⟨aas,jc.2 ⟨aar,jc.2 ⟨aaq,jc.2 ⟨aap,(fun x h=>by cases h)⟩⟩⟩⟩⟩⟩⟩⟩⟩⟩⟩
/-- Rows that stay rows. -/
noncomputable def Yi(f:FuncId):Nat:=match io f [78,63,44]with|true=>2|false=>pol f
noncomputable def X1:Cfg:={P:=Tryz.prog,G:=G,pol:=Yi,rounds:=100000,hook:=ue l36}
theorem UC(k:Nat):cq Tryz.prog G (fL X1 k):=Ra (C:=X1) Wi oQ (GG rfl WI) k
noncomputable abbrev ZH(a b:Int):AV:=.ps [.agg [.int .i64 a,.int .i64 b]] false
noncomputable abbrev UQ:FuncId×List AV×AV:=(40,[.agg [.int .i64 1,i0,.int .i64 1],.int .i64 12,OD],.tuple [.int .i64 1,.bool true])
noncomputable abbrev VQ:FuncId×List AV×AV:=(22,[.int .i64 2,.str [],OD],ZH 20 1048577)
noncomputable abbrev VJ:FuncId×List AV×AV:=(19,[.int .i64 1,.int .i64 25,.str [],OD],PQ)
noncomputable abbrev Tc:FuncId×List AV×AV:=(23,[.int .i64 25,.str [],OD],.ps [.int .i64 1,.int .i64 2] false)
theorem T9:aA Tryz.prog G UQ.1 UQ.2.1 UQ.2.2:=aA.closed (C:=X1) (k:=60) fV (UC 60) rfl (by kernel_rfl)
theorem U9:aA Tryz.prog G VQ.1 VQ.2.1 VQ.2.2:=aA.closed (C:=X1) (k:=60) fV (UC 60) rfl (by kernel_rfl)
theorem VW:aA Tryz.prog G VJ.1 VJ.2.1 VJ.2.2:=aA.closed (C:=X1) (k:=60) fV (UC 60) rfl (by kernel_rfl)
theorem Tb:aA Tryz.prog G Tc.1 Tc.2.1 Tc.2.2:=aA.closed (C:=X1) (k:=60) fV (UC 60) rfl (by kernel_rfl)
noncomputable abbrev m36:List (FuncId×List AV×AV):=[UQ,VQ,VJ,Tc]
noncomputable def C37:Cfg:={P:=Tryz.prog,G:=G,pol:=pol,rounds:=100000,hook:=ue m36}
theorem aai(k:Nat):cq Tryz.prog G (fL C37 k):=Ra (C:=C37) Wi oQ (GG rfl (jc.2 ⟨T9,jc.2 ⟨U9,jc.2 ⟨VW,jc.2 ⟨Tb,(fun x h=>by cases h)⟩⟩⟩⟩)) k
theorem VK:aA Tryz.prog G 18 [] (.bool true):=aA.closed (C:=C37) (k:=60) fV (aai 60) rfl (by kernel_rfl)
end Go.Proofs.YtaepacpodblomaaGreatDoor
