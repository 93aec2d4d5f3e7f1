/- A closed run, in three parts: the examples that the laws of chapter 30 check. -/
import Derived.Test.YtidehekfpcgelaaGreatDoorEva
import Derived.Test.YtidehekfpcgelaaGreatDoorMach8
namespace Go.Proofs.YtidehekfpcgelaaGreatDoor
open Go Go.Ev
noncomputable abbrev Y8:AV:=.ps [.agg [.int .i64 1,.int .i64 7,.str [],.ps [.agg [.int .i64 1,.str [97],.int .i64 5,.int .i64 1,.int .i64 10,.str [],.ps [.agg [.int .i64 0,.nils,.nils,.int .i64 0,.int .i64 0,.int .i64 0,.int .i64 0,.int .i64 0,.int .i64 2,.str [49],.nils,.nils,.nils,.nils,.nils,.str [],.str [],.int .i64 0,.int .i64 0,.str [],.int .i64 0,.int .i64 0,.int .i64 0,.str [],.nils]] true],.agg [.int .i64 2,.str [98],.int .i64 6,.int .i64 1,.int .i64 20,.str [],.ps [.agg [.int .i64 1,.ps [.agg [.int .i64 2,.str [49]]] true,.nils,.int .i64 0,.int .i64 0,.int .i64 0,.int .i64 0,.int .i64 0,.int .i64 0,.str [],.nils,.nils,.nils,.nils,.nils,.str [],.str [],.int .i64 0,.int .i64 0,.str [],.int .i64 0,.int .i64 0,.int .i64 0,.str [],.nils]] true]] true]] true
noncomputable abbrev FK:List AV:=[.int .i64 20,.str [],.agg [.int .i64 2,.int .i64 0],Y8]
noncomputable abbrev TZ:AV:=.agg [.int .i64 0,.int .i64 0,.int .i64 0,.int .i64 0,.str [],.nils,.nils,.ps [.agg [.int .i64 1,.int .i64 0,.int .i64 1,.int .i64 2,.str [49],.nils,.nils,.ps [] true]] false]
theorem Si:bQ Tryz.prog G 28 FK (.bool true):=bQ.closed (C:=C) (k:=60) jY (ev 60) rfl (by kernel_rfl)
theorem TX:bQ Tryz.prog G 25 FK TZ:=bQ.closed (C:=C) (k:=60) jY (ev 60) rfl (by kernel_rfl)
noncomputable def C30:Cfg:={P:=Tryz.prog,G:=G,pol:=pol,rounds:=100000,hook:=xa [(28,FK,.bool true),(25,FK,TZ)]}
theorem aba(k:Nat):ch Tryz.prog G (iR C30 k):=W5 (C:=C30) ZR qU (RI rfl fun x hx=>by
  rcases ed.1 hx with rfl|hx
  · exact Si
  · rw[qo.1 hx];exact TX) k
theorem Ww:bQ Tryz.prog G 9 [] (.bool true):=bQ.closed (C:=C30) (k:=60) jY (aba 60) rfl (by kernel_rfl)
end Go.Proofs.YtidehekfpcgelaaGreatDoor
