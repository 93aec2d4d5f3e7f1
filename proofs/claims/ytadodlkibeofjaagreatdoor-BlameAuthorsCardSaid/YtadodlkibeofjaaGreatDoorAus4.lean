/- A law of chapter 34: the tied card's closed facts, one by one. -/
import Derived.Test.YtadodlkibeofjaaGreatDoorRows
import Derived.Test.YtadodlkibeofjaaGreatDoorTie
import Derived.Test.YtadodlkibeofjaaGreatDoorCards
import Derived.SevenTiedAt
import Derived.Stop.Joined
namespace Go.Proofs.YtadodlkibeofjaaGreatDoor
open Go
theorem aan:Rows.blameAuthorsRow.wfByText (OpenSpec.ofChange Rows.blameAuthorsSpec)=true:=by kernel_rfl
theorem aam:Tryz.pinned.checked.prog.mainIs=some (true, "31a323b6e6a0b232467ddb388c463883ad7e4b58e7b99285c64279b7600d7663".toList):=by kernel_rfl
theorem aal:false=Tryz.pinned.checked.prog.looks []:=by kernel_rfl
theorem aak:false=Rows.blameAuthorsRow.goesBy Tryz.pinned.checked.prog:=by kernel_rfl
end Go.Proofs.YtadodlkibeofjaaGreatDoor
