/- A law of chapter 33: the tied card's closed facts, one by one. -/
import Derived.Test.YtjokefckffbpeaaGreatDoorRows
import Derived.Test.YtjokefckffbpeaaGreatDoorTie
import Derived.Test.YtjokefckffbpeaaGreatDoorCards
import Derived.SevenTiedAt
import Derived.Stop.Joined
namespace Go.Proofs.YtjokefckffbpeaaGreatDoor
open Go
theorem XT:Rows.historyRootRow.wfByText (OpenSpec.ofChange Rows.historyRootSpec)=true:=by kernel_rfl
theorem XS:Tryz.pinned.checked.prog.mainIs=some (true, "03626787eaa3c3b075ad139d22e6921281af3b18973cbd4877ba99346136b369".toList):=by kernel_rfl
theorem XR:false=Tryz.pinned.checked.prog.looks []:=by kernel_rfl
theorem XP:false=Rows.historyRootRow.goesBy Tryz.pinned.checked.prog:=by kernel_rfl
end Go.Proofs.YtjokefckffbpeaaGreatDoor
