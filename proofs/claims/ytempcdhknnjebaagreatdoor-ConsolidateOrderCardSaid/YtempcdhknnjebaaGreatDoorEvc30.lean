/- A closed run, in three parts: the examples that the laws of chapter 30 check. -/
import Derived.Test.YtempcdhknnjebaaGreatDoorEva
import Derived.Test.YtempcdhknnjebaaGreatDoorMach7
namespace Go.Proofs.YtempcdhknnjebaaGreatDoor
open Go Go.Ev
noncomputable abbrev Wa:AV:= .ps [.agg [.int .i64 1, .int .i64 7, .str [], .ps [.agg [.int .i64 1, .str [97], .int .i64 5, .int .i64 1, .int .i64 10, .str [], .ps [.agg [.int .i64 0, .nils, .nils, .int .i64 0, .int .i64 0, .int .i64 0, .int .i64 0, .int .i64 0, .int .i64 2, .str [49], .nils, .nils, .nils, .nils, .nils, .str [], .str [], .int .i64 0, .int .i64 0, .str [], .int .i64 0, .int .i64 0, .int .i64 0, .str [], .nils]] true], .agg [.int .i64 2, .str [98], .int .i64 6, .int .i64 1, .int .i64 20, .str [], .ps [.agg [.int .i64 1, .ps [.agg [.int .i64 2, .str [49]]] true, .nils, .int .i64 0, .int .i64 0, .int .i64 0, .int .i64 0, .int .i64 0, .int .i64 0, .str [], .nils, .nils, .nils, .nils, .nils, .str [], .str [], .int .i64 0, .int .i64 0, .str [], .int .i64 0, .int .i64 0, .int .i64 0, .str [], .nils]] true]] true]] true
noncomputable abbrev DC:List AV:= [.int .i64 20, .str [], .agg [.int .i64 2, .int .i64 0],Wa]
noncomputable abbrev Q8:AV:= .agg [.int .i64 0, .int .i64 0, .int .i64 0, .int .i64 0, .str [], .nils, .nils, .ps [.agg [.int .i64 1, .int .i64 0, .int .i64 1, .int .i64 2, .str [49], .nils, .nils, .ps [] true]] false]
theorem Qi:aP Tryz.prog G 28 DC (.bool true):=aP.closed (C:=C) (k:=60) iG (ev 60) rfl (by kernel_rfl)
theorem Q9:aP Tryz.prog G 25 DC Q8:=aP.closed (C:=C) (k:=60) iG (ev 60) rfl (by kernel_rfl)
noncomputable def Yo:Cfg:= { P:=Tryz.prog,G:=G,pol:=pol,rounds:=100000,hook:=wy [(28,DC, .bool true),(25,DC,Q8)] }
theorem Yg (k:Nat):cq Tryz.prog G (iy Yo k):=Us (C:=Yo) Xx pY (PL rfl fun x hx=>by
  rcases fj.1 hx with rfl | hx
  · exact Qi
  · rw [pi.1 hx];exact Q9) k
theorem T6:aP Tryz.prog G 9 [] (.bool true):=aP.closed (C:=Yo) (k:=60) iG (Yg 60) rfl (by kernel_rfl)
end Go.Proofs.YtempcdhknnjebaaGreatDoor
