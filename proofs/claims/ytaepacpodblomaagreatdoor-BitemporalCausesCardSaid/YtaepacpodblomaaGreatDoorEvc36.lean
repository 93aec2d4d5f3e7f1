/- A closed run, in parts: the example that the laws of chapter 36 check. -/
import Derived.Test.YtaepacpodblomaaGreatDoorEva
import Derived.Test.YtaepacpodblomaaGreatDoorMach7
namespace Go.Proofs.YtaepacpodblomaaGreatDoor
open Go Go.Ev
noncomputable abbrev i0:AV:=.int .i64 0
noncomputable abbrev Zk:AV:=.agg [.int .i64 1,.int .i64 5,.str [],.ps [.agg [.int .i64 1,.str [65,99,116],i0,.int .i64 1,.int .i64 10,.str [],.ps [.agg [i0,.nils,.nils,.int .i64 1,i0,i0,i0,i0,.int .i64 2,.str [49],.nils,.nils,.nils,.nils,.nils,.str [],.str [],i0,i0,.str [],i0,i0,i0,.str [],.nils]] true]] true]
noncomputable abbrev aaK:AV:=.agg [.int .i64 2,.int .i64 30,.str [],.ps [.agg [.int .i64 2,.str [79,114,100,101,114],i0,.int .i64 2,i0,.str [],.ps [.agg [.int .i64 8,.nils,.nils,i0,i0,i0,i0,i0,i0,.str [],.nils,.nils,.nils,.nils,.nils,.str [],.str [],i0,i0,.str [],.int .i64 1,.int .i64 (-1),.int .i64 20,.str [],.nils]] true]] true]
noncomputable abbrev e36:AV:=.ps [] false
noncomputable abbrev Tb:AV:=.ps [Zk] false
noncomputable abbrev Pq:AV:=.ps [Zk,aaK] false
/-- The book without and with its section. -/
noncomputable abbrev PV:AV:=.agg [i0,i0,i0,i0,.str [],.nils,.nils,.nils]
noncomputable abbrev Pu:AV:=.agg [i0,i0,i0,i0,.str [],.nils,.nils,.ps [.agg [.int .i64 1,i0,.int .i64 1,.int .i64 2,.str [49],.nils,.nils,.ps [] true]] false]
noncomputable abbrev Bi(d:Int)(l u:AV):FuncId×List AV×AV:=(14,[.int .i64 d,.str [],l],u)
theorem aa6:aC Tryz.prog G 14 [.int .i64 12,.str [],e36] PV:=aC.closed (C:=C) (k:=60) fz (ev 60) rfl (by kernel_rfl)
theorem aa5:aC Tryz.prog G 14 [.int .i64 12,.str [],Tb] Pu:=aC.closed (C:=C) (k:=60) fz (ev 60) rfl (by kernel_rfl)
theorem aa4:aC Tryz.prog G 14 [.int .i64 0,.str [],Tb] PV:=aC.closed (C:=C) (k:=60) fz (ev 60) rfl (by kernel_rfl)
theorem aa3:aC Tryz.prog G 14 [.int .i64 0,.str [],Pq] PV:=aC.closed (C:=C) (k:=60) fz (ev 60) rfl (by kernel_rfl)
theorem aa2:aC Tryz.prog G 14 [.int .i64 10,.str [],Tb] Pu:=aC.closed (C:=C) (k:=60) fz (ev 60) rfl (by kernel_rfl)
theorem aa1:aC Tryz.prog G 14 [.int .i64 10,.str [],Pq] Pu:=aC.closed (C:=C) (k:=60) fz (ev 60) rfl (by kernel_rfl)
theorem aa0:aC Tryz.prog G 14 [.int .i64 20,.str [],Tb] Pu:=aC.closed (C:=C) (k:=60) fz (ev 60) rfl (by kernel_rfl)
theorem aaZ:aC Tryz.prog G 14 [.int .i64 20,.str [],Pq] PV:=aC.closed (C:=C) (k:=60) fz (ev 60) rfl (by kernel_rfl)
theorem aaY:aC Tryz.prog G 14 [.int .i64 25,.str [],e36] PV:=aC.closed (C:=C) (k:=60) fz (ev 60) rfl (by kernel_rfl)
theorem aaX:aC Tryz.prog G 14 [.int .i64 25,.str [],Tb] Pu:=aC.closed (C:=C) (k:=60) fz (ev 60) rfl (by kernel_rfl)
theorem aaW:aC Tryz.prog G 14 [.int .i64 25,.str [],Pq] PV:=aC.closed (C:=C) (k:=60) fz (ev 60) rfl (by kernel_rfl)
noncomputable abbrev l36:List (FuncId×List AV×AV):=[Bi 12 e36 PV,Bi 12 Tb Pu,Bi 0 Tb PV,Bi 0 Pq PV,Bi 10 Tb Pu,Bi 10 Pq Pu,Bi 20 Tb Pu,Bi 20 Pq PV,Bi 25 e36 PV,Bi 25 Tb Pu,Bi 25 Pq PV]
theorem Xi:∀x,x∈l36→aC Tryz.prog G x.1 x.2.1 x.2.2:=jB.2 ⟨aa6,jB.2 ⟨aa5,jB.2 ⟨aa4,jB.2 ⟨aa3,jB.2 ⟨aa2,jB.2 ⟨aa1,jB.2 ⟨aa0,jB.2 ⟨aaZ,jB.2 ⟨aaY,jB.2 ⟨aaX,jB.2 ⟨aaW,(fun x h=>by cases h)⟩⟩⟩⟩⟩⟩⟩⟩⟩⟩⟩
/-- Rows that stay rows. -/
noncomputable def Y0(f:FuncId):Nat:=match iR f [78,63,44]with|true=>2|false=>pol f
noncomputable def Yr:Cfg:={P:=Tryz.prog,G:=G,pol:=Y0,rounds:=100000,hook:=uF l36}
theorem Vk(k:Nat):cq Tryz.prog G (fT Yr k):=R5 (C:=Yr) Xq oq (HZ rfl Xi) k
noncomputable abbrev aap(a b:Int):AV:=.ps [.agg [.int .i64 a,.int .i64 b]] false
noncomputable abbrev UD:FuncId×List AV×AV:=(40,[.agg [.int .i64 1,i0,.int .i64 1],.int .i64 12,Pq],.tuple [.int .i64 1,.bool true])
noncomputable abbrev VG:FuncId×List AV×AV:=(22,[.int .i64 2,.str [],Pq],aap 20 1048577)
noncomputable abbrev VO:FuncId×List AV×AV:=(19,[.int .i64 1,.int .i64 25,.str [],Pq],Pu)
noncomputable abbrev T6:FuncId×List AV×AV:=(23,[.int .i64 25,.str [],Pq],.ps [.int .i64 1,.int .i64 2] false)
theorem UC:aC Tryz.prog G UD.1 UD.2.1 UD.2.2:=aC.closed (C:=Yr) (k:=60) fz (Vk 60) rfl (by kernel_rfl)
theorem VE:aC Tryz.prog G VG.1 VG.2.1 VG.2.2:=aC.closed (C:=Yr) (k:=60) fz (Vk 60) rfl (by kernel_rfl)
theorem VN:aC Tryz.prog G VO.1 VO.2.1 VO.2.2:=aC.closed (C:=Yr) (k:=60) fz (Vk 60) rfl (by kernel_rfl)
theorem T5:aC Tryz.prog G T6.1 T6.2.1 T6.2.2:=aC.closed (C:=Yr) (k:=60) fz (Vk 60) rfl (by kernel_rfl)
noncomputable abbrev m36:List (FuncId×List AV×AV):=[UD,VG,VO,T6]
noncomputable def C37:Cfg:={P:=Tryz.prog,G:=G,pol:=pol,rounds:=100000,hook:=uF m36}
theorem aaL(k:Nat):cq Tryz.prog G (fT C37 k):=R5 (C:=C37) Xq oq (HZ rfl (jB.2 ⟨UC,jB.2 ⟨VE,jB.2 ⟨VN,jB.2 ⟨T5,(fun x h=>by cases h)⟩⟩⟩⟩)) k
theorem VP:aC Tryz.prog G 18 [] (.bool true):=aC.closed (C:=C37) (k:=60) fz (aaL 60) rfl (by kernel_rfl)
end Go.Proofs.YtaepacpodblomaaGreatDoor
