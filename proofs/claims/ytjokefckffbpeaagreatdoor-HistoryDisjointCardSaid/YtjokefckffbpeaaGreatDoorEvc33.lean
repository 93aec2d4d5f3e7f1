/- A closed run, in parts: the example that the laws of chapter 33 check. -/
import Derived.Test.YtjokefckffbpeaaGreatDoorEva
import Derived.Test.YtjokefckffbpeaaGreatDoorMach7
namespace Go.Proofs.YtjokefckffbpeaaGreatDoor
open Go Go.Ev
noncomputable abbrev i0:AV:=.int .i64 0
noncomputable abbrev Yd:AV:=.ps [.agg [i0,i0,.str [],.ps [.agg [.int .i64 1,.str [],i0,.int .i64 1,.int .i64 10,.str [],.ps [.agg [i0,.nils,.nils,.int .i64 1,i0,i0,i0,i0,.int .i64 2,.str [53],.nils,.nils,.nils,.nils,.nils,.str [],.str [],i0,i0,.str [],i0,i0,i0,.str [],.nils]] true],.agg [.int .i64 2,.str [],i0,.int .i64 1,.int .i64 20,.str [],.ps [.agg [.int .i64 5,.ps [.agg [.int .i64 2,.str [53]]] true,.nils,i0,i0,i0,i0,i0,i0,.str [],.nils,.nils,.nils,.nils,.nils,.str [54],.str [],i0,i0,.str [],i0,i0,i0,.str [],.nils]] true]] true]] true
noncomputable abbrev UN(c:UInt8):AV:=.agg [i0,i0,i0,i0,.str [],.nils,.nils,.ps [.agg [.int .i64 1,i0,.int .i64 1,.int .i64 2,.str [c],.nils,.nils,.ps [] true]] false]
noncomputable abbrev UP(d:Int):List AV:=[.int .i64 d,.str [],Yd]
theorem b10:aR Tryz.prog G 27 (UP 10) (UN 53):=aR.closed (C:=C) (k:=60) ie (ev 60) rfl (by kernel_rfl)
theorem b20:aR Tryz.prog G 27 (UP 20) (UN 54):=aR.closed (C:=C) (k:=60) ie (ev 60) rfl (by kernel_rfl)
/-- The row of breakpoints stays a row. -/
noncomputable def X5(f:FuncId):Nat:=match Nat.beq f 26 with|true=>2|false=>pol f
noncomputable def Z2:Cfg:={P:=Tryz.prog,G:=G,pol:=X5,rounds:=100000,hook:=uf [(27,UP 10,UN 53),(27,UP 20,UN 54)]}
theorem ZF(k:Nat):ca Tryz.prog G (fO Z2 k):=RW (C:=Z2) WY ow (Gf rfl fun x hx=>by
  rcases fE.1 hx with rfl|hx
  · exact b10
  · rw[mr.1 hx];exact b20) k
noncomputable abbrev XE:List AV:=[.agg [.int .i64 1,i0,.int .i64 1],.str [],Yd]
noncomputable abbrev XC:AV:=.ps [.agg [.int .i64 10,.int .i64 20,i0,i0,i0,i0,.int .i64 1,i0,.int .i64 1,.int .i64 2,.str [53],.nils,.nils,.nils],.agg [.int .i64 20,.int .i64 1048577,i0,i0,i0,i0,.int .i64 1,i0,.int .i64 1,.int .i64 2,.str [54],.nils,.nils,.nils]] false
theorem v33:aR Tryz.prog G 7 XE XC:=aR.closed (C:=Z2) (k:=60) ie (ZF 60) rfl (by kernel_rfl)
noncomputable def Z1:Cfg:={P:=Tryz.prog,G:=G,pol:=pol,rounds:=100000,hook:=uf [(7,XE,XC)]}
theorem ZE(k:Nat):ca Tryz.prog G (fO Z1 k):=RW (C:=Z1) WY ow (Gf rfl fun x hx=>by
  rw[mr.1 hx];exact v33) k
theorem UR:aR Tryz.prog G 5 [] (.bool true):=aR.closed (C:=Z1) (k:=60) ie (ZE 60) rfl (by kernel_rfl)
end Go.Proofs.YtjokefckffbpeaaGreatDoor
