/- A closed run: the examples that the laws of chapter 32 check. -/
import Derived.Test.YtncndbiboobpdaaGreatDoorEva
namespace Go.Proofs.YtncndbiboobpdaaGreatDoor
open Go Go.Ev
theorem awake32 : HPure Tryz.prog G 9 [] (.bool true) := closed 60 (by kernel_rfl)
end Go.Proofs.YtncndbiboobpdaaGreatDoor
