/- A closed run: the example that the laws of chapter 31 check. -/
import Derived.Test.YtaepacpodblomaaGreatDoorEva
namespace Go.Proofs.YtaepacpodblomaaGreatDoor
open Go Go.Ev
theorem U7:bW Tryz.prog G 8 [] (.bool true):=closed 60 (by kernel_rfl)
end Go.Proofs.YtaepacpodblomaaGreatDoor
