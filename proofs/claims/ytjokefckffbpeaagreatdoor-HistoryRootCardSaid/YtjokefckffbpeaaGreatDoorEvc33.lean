/- A closed run, in parts: the example that the laws of chapter 33 check. -/
import Derived.Test.YtjokefckffbpeaaGreatDoorEva
import Derived.Test.YtjokefckffbpeaaGreatDoorMach7
namespace Go.Proofs.YtjokefckffbpeaaGreatDoor
open Go Go.Ev
noncomputable abbrev i0:AV:=.int .i64 0
noncomputable abbrev Yr:AV:=.ps [.agg [i0,i0,.str [],.ps [.agg [.int .i64 1,.str [],i0,.int .i64 1,.int .i64 10,.str [],.ps [.agg [i0,.nils,.nils,.int .i64 1,i0,i0,i0,i0,.int .i64 2,.str [53],.nils,.nils,.nils,.nils,.nils,.str [],.str [],i0,i0,.str [],i0,i0,i0,.str [],.nils]] true],.agg [.int .i64 2,.str [],i0,.int .i64 1,.int .i64 20,.str [],.ps [.agg [.int .i64 5,.ps [.agg [.int .i64 2,.str [53]]] true,.nils,i0,i0,i0,i0,i0,i0,.str [],.nils,.nils,.nils,.nils,.nils,.str [54],.str [],i0,i0,.str [],i0,i0,i0,.str [],.nils]] true]] true]] true
noncomputable abbrev UL(c:UInt8):AV:=.agg [i0,i0,i0,i0,.str [],.nils,.nils,.ps [.agg [.int .i64 1,i0,.int .i64 1,.int .i64 2,.str [c],.nils,.nils,.ps [] true]] false]
noncomputable abbrev UN(d:Int):List AV:=[.int .i64 d,.str [],Yr]
theorem b10:aM Tryz.prog G 27 (UN 10) (UL 53):=aM.closed (C:=C) (k:=60) iJ (ev 60) rfl (by kernel_rfl)
theorem b20:aM Tryz.prog G 27 (UN 20) (UL 54):=aM.closed (C:=C) (k:=60) iJ (ev 60) rfl (by kernel_rfl)
/-- The row of breakpoints stays a row. -/
noncomputable def YK(f:FuncId):Nat:=match Nat.beq f 26 with|true=>2|false=>pol f
noncomputable def Z3:Cfg:={P:=Tryz.prog,G:=G,pol:=YK,rounds:=100000,hook:=uz [(27,UN 10,UL 53),(27,UN 20,UL 54)]}
theorem ZG(k:Nat):cK Tryz.prog G (fN Z3 k):=RX (C:=Z3) WJ oK (Gz rfl fun x hx=>by
  rcases fC.1 hx with rfl|hx
  · exact b10
  · rw[nj.1 hx];exact b20) k
noncomputable abbrev XC:List AV:=[.agg [.int .i64 1,i0,.int .i64 1],.str [],Yr]
noncomputable abbrev Xu:AV:=.ps [.agg [.int .i64 10,.int .i64 20,i0,i0,i0,i0,.int .i64 1,i0,.int .i64 1,.int .i64 2,.str [53],.nils,.nils,.nils],.agg [.int .i64 20,.int .i64 1048577,i0,i0,i0,i0,.int .i64 1,i0,.int .i64 1,.int .i64 2,.str [54],.nils,.nils,.nils]] false
theorem v33:aM Tryz.prog G 7 XC Xu:=aM.closed (C:=Z3) (k:=60) iJ (ZG 60) rfl (by kernel_rfl)
noncomputable def Z2:Cfg:={P:=Tryz.prog,G:=G,pol:=pol,rounds:=100000,hook:=uz [(7,XC,Xu)]}
theorem ZF(k:Nat):cK Tryz.prog G (fN Z2 k):=RX (C:=Z2) WJ oK (Gz rfl fun x hx=>by
  rw[nj.1 hx];exact v33) k
theorem UO:aM Tryz.prog G 5 [] (.bool true):=aM.closed (C:=Z2) (k:=60) iJ (ZF 60) rfl (by kernel_rfl)
end Go.Proofs.YtjokefckffbpeaaGreatDoor
