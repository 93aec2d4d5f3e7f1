/-
  DERIVED. GIVEN WITH THE SEED: THE CARDS: each row of YtbkijjplgkojcaaGreatDoorRows.lean that lists a variable, with what it lists TIED to the program's text (the seventh form; the later family's looks); each row that meets fmt, with fmt's text TOLD by the authors' own Lean function (tested against real Go, not proved from fmt's source: count such statements apart). THE CARD IS WHAT COUNTS. Prove the row's statement (the work); the ties are given (YtbkijjplgkojcaaGreatDoorTie.lean); close each card by the builder's one call (the guide's Derived/Test/ToyasCard.lean, 'card_holds'). Laid BY PROGRAM, IN A SANDBOX (cutbox-door.mjs). By AI agents, Wed Nov 11 2026. No macro, syntax, notation, axiom, sorry.
-/
import Derived.Test.YtbkijjplgkojcaaGreatDoorRows
import GoSem.ClaimSeven
namespace Go.Proofs.YtbkijjplgkojcaaGreatDoor
namespace Rows

/-- THE TIED CARD OF 'pandectlaw31.ChangesBreakpoints'. -/
def changesBreakpointsCard : Claim7 := { stood := { row := changesBreakpointsRow, standIns := [], harness := (true, "f3f7a6338a10c1fd279694c93dbdf6fa3740ae118e33ab04ed3c428324da6cd7"), looks := false }, kinds := [], alts := [], laidByText := true, laidKinds := [.data, .data, .widerDeep, .funcs, .pinned], laidTests := true, laidLooks := .later }
def ChangesBreakpointsCardSaid : Prop := Claim7.holds Tryz.pinned (.plain (OpenSpec.ofChange changesBreakpointsSpec)) changesBreakpointsCard

/-- THE SECOND FORM's CARD OF 'pandectlaw31.ChangesBreakpoints'. -/
def changesBreakpointsUptoCard : Claim7 := { stood := { row := changesBreakpointsUptoRow, standIns := [], harness := (true, "f3f7a6338a10c1fd279694c93dbdf6fa3740ae118e33ab04ed3c428324da6cd7"), looks := false }, kinds := [], alts := [], laidByText := true, laidKinds := [.data, .data, .widerDeep, .funcs, .pinned], laidTests := true, laidLooks := .later }
def ChangesBreakpointsUptoCardSaid : Prop := Claim7.holds Tryz.pinned (.plain (OpenSpec.upto changesBreakpointsSpec)) changesBreakpointsUptoCard
end Rows
end Go.Proofs.YtbkijjplgkojcaaGreatDoor
