/- A law of chapter 33: the tied card's closed facts, one by one. -/
import Derived.Test.YtjokefckffbpeaaGreatDoorRows
import Derived.Test.YtjokefckffbpeaaGreatDoorTie
import Derived.Test.YtjokefckffbpeaaGreatDoorCards
import Derived.SevenTiedAt
import Derived.Stop.Joined
namespace Go.Proofs.YtjokefckffbpeaaGreatDoor
open Go
theorem Yp:Rows.historyDisjointRow.wfByText (OpenSpec.ofChange Rows.historyDisjointSpec)=true:=by kernel_rfl
theorem Yo:Tryz.pinned.checked.prog.mainIs=some (true, "03626787eaa3c3b075ad139d22e6921281af3b18973cbd4877ba99346136b369".toList):=by kernel_rfl
theorem Yn:false=Tryz.pinned.checked.prog.looks []:=by kernel_rfl
theorem Ym:false=Rows.historyDisjointRow.goesBy Tryz.pinned.checked.prog:=by kernel_rfl
end Go.Proofs.YtjokefckffbpeaaGreatDoor
