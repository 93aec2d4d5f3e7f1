/- A closed run: the example that the laws of chapter 31 check. -/
import Derived.Test.YtbkijjplgkojcaaGreatDoorEva
namespace Go.Proofs.YtbkijjplgkojcaaGreatDoor
open Go Go.Ev
theorem awake31 : HPure Tryz.prog G 4 [] (.bool true) := closed 60 (by kernel_rfl)
end Go.Proofs.YtbkijjplgkojcaaGreatDoor
