/-
  DERIVED. GIVEN WITH THE SEED: THE CARDS: each row of YtjokefckffbpeaaGreatDoorRows.lean that lists a variable, with what it lists TIED to the program's text (the seventh form; the later family's looks); each row that meets fmt, with fmt's text TOLD by the authors' own Lean function (tested against real Go, not proved from fmt's source: count such statements apart). THE CARD IS WHAT COUNTS. Prove the row's statement (the work); the ties are given (YtjokefckffbpeaaGreatDoorTie.lean); close each card by the builder's one call (the guide's Derived/Test/ToyasCard.lean, 'card_holds'). Laid BY PROGRAM, IN A SANDBOX (cutbox-door.mjs). By AI agents, Wed Nov 11 2026. No macro, syntax, notation, axiom, sorry.
-/
import Derived.Test.YtjokefckffbpeaaGreatDoorRows
import GoSem.ClaimSeven
namespace Go.Proofs.YtjokefckffbpeaaGreatDoor
namespace Rows

/-- THE TIED CARD OF 'pandectlaw33.HistoryDisjoint'. -/
def historyDisjointCard : Claim7 := { stood := { row := historyDisjointRow, standIns := [], harness := (true, "03626787eaa3c3b075ad139d22e6921281af3b18973cbd4877ba99346136b369"), looks := false }, kinds := [], alts := [], laidByText := true, laidKinds := [.data, .data, .widerDeep, .funcs, .pinned], laidTests := true, laidLooks := .later }
def HistoryDisjointCardSaid : Prop := Claim7.holds Tryz.pinned (.plain (OpenSpec.ofChange historyDisjointSpec)) historyDisjointCard

/-- THE TIED CARD OF 'pandectlaw33.HistoryRoot'. -/
def historyRootCard : Claim7 := { stood := { row := historyRootRow, standIns := [], harness := (true, "03626787eaa3c3b075ad139d22e6921281af3b18973cbd4877ba99346136b369"), looks := false }, kinds := [], alts := [], laidByText := true, laidKinds := [.data, .data, .widerDeep, .funcs, .pinned], laidTests := true, laidLooks := .later }
def HistoryRootCardSaid : Prop := Claim7.holds Tryz.pinned (.plain (OpenSpec.ofChange historyRootSpec)) historyRootCard

/-- THE SECOND FORM's CARD OF 'pandectlaw33.HistoryDisjoint'. -/
def historyDisjointUptoCard : Claim7 := { stood := { row := historyDisjointUptoRow, standIns := [], harness := (true, "03626787eaa3c3b075ad139d22e6921281af3b18973cbd4877ba99346136b369"), looks := false }, kinds := [], alts := [], laidByText := true, laidKinds := [.data, .data, .widerDeep, .funcs, .pinned], laidTests := true, laidLooks := .later }
def HistoryDisjointUptoCardSaid : Prop := Claim7.holds Tryz.pinned (.plain (OpenSpec.upto historyDisjointSpec)) historyDisjointUptoCard

/-- THE SECOND FORM's CARD OF 'pandectlaw33.HistoryRoot'. -/
def historyRootUptoCard : Claim7 := { stood := { row := historyRootUptoRow, standIns := [], harness := (true, "03626787eaa3c3b075ad139d22e6921281af3b18973cbd4877ba99346136b369"), looks := false }, kinds := [], alts := [], laidByText := true, laidKinds := [.data, .data, .widerDeep, .funcs, .pinned], laidTests := true, laidLooks := .later }
def HistoryRootUptoCardSaid : Prop := Claim7.holds Tryz.pinned (.plain (OpenSpec.upto historyRootSpec)) historyRootUptoCard
end Rows
end Go.Proofs.YtjokefckffbpeaaGreatDoor
