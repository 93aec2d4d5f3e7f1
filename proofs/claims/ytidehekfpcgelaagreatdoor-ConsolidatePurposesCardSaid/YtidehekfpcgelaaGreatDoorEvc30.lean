/- A closed run, in three parts: the examples that the laws of chapter 30 check. -/
import Derived.Test.YtidehekfpcgelaaGreatDoorEva
import Derived.Test.YtidehekfpcgelaaGreatDoorMach7
namespace Go.Proofs.YtidehekfpcgelaaGreatDoor
open Go Go.Ev
noncomputable abbrev WJ:AV:= .ps [.agg [.int .i64 1, .int .i64 7, .str [], .ps [.agg [.int .i64 1, .str [97], .int .i64 5, .int .i64 1, .int .i64 10, .str [], .ps [.agg [.int .i64 0, .nils, .nils, .int .i64 0, .int .i64 0, .int .i64 0, .int .i64 0, .int .i64 0, .int .i64 2, .str [49], .nils, .nils, .nils, .nils, .nils, .str [], .str [], .int .i64 0, .int .i64 0, .str [], .int .i64 0, .int .i64 0, .int .i64 0, .str [], .nils]] true], .agg [.int .i64 2, .str [98], .int .i64 6, .int .i64 1, .int .i64 20, .str [], .ps [.agg [.int .i64 1, .ps [.agg [.int .i64 2, .str [49]]] true, .nils, .int .i64 0, .int .i64 0, .int .i64 0, .int .i64 0, .int .i64 0, .int .i64 0, .str [], .nils, .nils, .nils, .nils, .nils, .str [], .str [], .int .i64 0, .int .i64 0, .str [], .int .i64 0, .int .i64 0, .int .i64 0, .str [], .nils]] true]] true]] true
noncomputable abbrev DM:List AV:= [.int .i64 20, .str [], .agg [.int .i64 2, .int .i64 0],WJ]
noncomputable abbrev Q1:AV:= .agg [.int .i64 0, .int .i64 0, .int .i64 0, .int .i64 0, .str [], .nils, .nils, .ps [.agg [.int .i64 1, .int .i64 0, .int .i64 1, .int .i64 2, .str [49], .nils, .nils, .ps [] true]] false]
theorem Qa:aO Tryz.prog G 28 DM (.bool true):=aO.closed (C:=C) (k:=60) iL (ev 60) rfl (by kernel_rfl)
theorem Q2:aO Tryz.prog G 25 DM Q1:=aO.closed (C:=C) (k:=60) iL (ev 60) rfl (by kernel_rfl)
noncomputable def Yy:Cfg:= { P:=Tryz.prog,G:=G,pol:=pol,rounds:=100000,hook:=wx [(28,DM, .bool true),(25,DM,Q1)] }
theorem Yq (k:Nat):cw Tryz.prog G (ie Yy k):=Uy (C:=Yy) W7 pa (PG rfl fun x hx=>by
  rcases eP.1 hx with rfl | hx
  · exact Qa
  · rw [pE.1 hx];exact Q2) k
theorem TL:aO Tryz.prog G 9 [] (.bool true):=aO.closed (C:=Yy) (k:=60) iL (Yq 60) rfl (by kernel_rfl)
end Go.Proofs.YtidehekfpcgelaaGreatDoor
