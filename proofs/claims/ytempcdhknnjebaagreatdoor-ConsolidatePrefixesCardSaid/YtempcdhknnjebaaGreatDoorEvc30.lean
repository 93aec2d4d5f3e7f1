/- A closed run, in three parts: the examples that the laws of chapter 30 check. -/
import Derived.Test.YtempcdhknnjebaaGreatDoorEva
import Derived.Test.YtempcdhknnjebaaGreatDoorMach7
namespace Go.Proofs.YtempcdhknnjebaaGreatDoor
open Go Go.Ev
noncomputable abbrev Vg:AV:= .ps [.agg [.int .i64 1, .int .i64 7, .str [], .ps [.agg [.int .i64 1, .str [97], .int .i64 5, .int .i64 1, .int .i64 10, .str [], .ps [.agg [.int .i64 0, .nils, .nils, .int .i64 0, .int .i64 0, .int .i64 0, .int .i64 0, .int .i64 0, .int .i64 2, .str [49], .nils, .nils, .nils, .nils, .nils, .str [], .str [], .int .i64 0, .int .i64 0, .str [], .int .i64 0, .int .i64 0, .int .i64 0, .str [], .nils]] true], .agg [.int .i64 2, .str [98], .int .i64 6, .int .i64 1, .int .i64 20, .str [], .ps [.agg [.int .i64 1, .ps [.agg [.int .i64 2, .str [49]]] true, .nils, .int .i64 0, .int .i64 0, .int .i64 0, .int .i64 0, .int .i64 0, .int .i64 0, .str [], .nils, .nils, .nils, .nils, .nils, .str [], .str [], .int .i64 0, .int .i64 0, .str [], .int .i64 0, .int .i64 0, .int .i64 0, .str [], .nils]] true]] true]] true
noncomputable abbrev De:List AV:= [.int .i64 20, .str [], .agg [.int .i64 2, .int .i64 0],Vg]
noncomputable abbrev Qw:AV:= .agg [.int .i64 0, .int .i64 0, .int .i64 0, .int .i64 0, .str [], .nils, .nils, .ps [.agg [.int .i64 1, .int .i64 0, .int .i64 1, .int .i64 2, .str [49], .nils, .nils, .ps [] true]] false]
theorem PF:aM Tryz.prog G 28 De (.bool true):=aM.closed (C:=C) (k:=60) ip (ev 60) rfl (by kernel_rfl)
theorem Qv:aM Tryz.prog G 25 De Qw:=aM.closed (C:=C) (k:=60) ip (ev 60) rfl (by kernel_rfl)
noncomputable def XA:Cfg:= { P:=Tryz.prog,G:=G,pol:=pol,rounds:=100000,hook:=vO [(28,De, .bool true),(25,De,Qw)] }
theorem Xo (k:Nat):cK Tryz.prog G (iU XA k):=TD (C:=XA) Wz o9 (PQ rfl fun x hx=>by
  rcases fz.1 hx with rfl | hx
  · exact PF
  · rw [mQ.1 hx];exact Qv) k
theorem TJ:aM Tryz.prog G 9 [] (.bool true):=aM.closed (C:=XA) (k:=60) ip (Xo 60) rfl (by kernel_rfl)
end Go.Proofs.YtempcdhknnjebaaGreatDoor
