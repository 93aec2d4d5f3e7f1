/- A closed run, in three parts: the examples that the laws of chapter 30 check. -/
import Derived.Test.YtempcdhknnjebaaGreatDoorEva
import Derived.Test.YtempcdhknnjebaaGreatDoorMach7
namespace Go.Proofs.YtempcdhknnjebaaGreatDoor
open Go Go.Ev
noncomputable abbrev Wd:AV:= .ps [.agg [.int .i64 1, .int .i64 7, .str [], .ps [.agg [.int .i64 1, .str [97], .int .i64 5, .int .i64 1, .int .i64 10, .str [], .ps [.agg [.int .i64 0, .nils, .nils, .int .i64 0, .int .i64 0, .int .i64 0, .int .i64 0, .int .i64 0, .int .i64 2, .str [49], .nils, .nils, .nils, .nils, .nils, .str [], .str [], .int .i64 0, .int .i64 0, .str [], .int .i64 0, .int .i64 0, .int .i64 0, .str [], .nils]] true], .agg [.int .i64 2, .str [98], .int .i64 6, .int .i64 1, .int .i64 20, .str [], .ps [.agg [.int .i64 1, .ps [.agg [.int .i64 2, .str [49]]] true, .nils, .int .i64 0, .int .i64 0, .int .i64 0, .int .i64 0, .int .i64 0, .int .i64 0, .str [], .nils, .nils, .nils, .nils, .nils, .str [], .str [], .int .i64 0, .int .i64 0, .str [], .int .i64 0, .int .i64 0, .int .i64 0, .str [], .nils]] true]] true]] true
noncomputable abbrev DL:List AV:= [.int .i64 20, .str [], .agg [.int .i64 2, .int .i64 0],Wd]
noncomputable abbrev Q0:AV:= .agg [.int .i64 0, .int .i64 0, .int .i64 0, .int .i64 0, .str [], .nils, .nils, .ps [.agg [.int .i64 1, .int .i64 0, .int .i64 1, .int .i64 2, .str [49], .nils, .nils, .ps [] true]] false]
theorem Qa:aN Tryz.prog G 28 DL (.bool true):=aN.closed (C:=C) (k:=60) iN (ev 60) rfl (by kernel_rfl)
theorem Q1:aN Tryz.prog G 25 DL Q0:=aN.closed (C:=C) (k:=60) iN (ev 60) rfl (by kernel_rfl)
noncomputable def Yt:Cfg:= { P:=Tryz.prog,G:=G,pol:=pol,rounds:=100000,hook:=wU [(28,DL, .bool true),(25,DL,Q0)] }
theorem Ym (k:Nat):cV Tryz.prog G (ii Yt k):=Ug (C:=Yt) Xj py (PC rfl fun x hx=>by
  rcases fz.1 hx with rfl | hx
  · exact Qa
  · rw [nI.1 hx];exact Q1) k
theorem TR:aN Tryz.prog G 9 [] (.bool true):=aN.closed (C:=Yt) (k:=60) iN (Ym 60) rfl (by kernel_rfl)
end Go.Proofs.YtempcdhknnjebaaGreatDoor
