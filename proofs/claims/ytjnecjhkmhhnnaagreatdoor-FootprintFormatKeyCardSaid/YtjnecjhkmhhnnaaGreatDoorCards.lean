/-
  DERIVED. GIVEN WITH THE SEED: THE CARDS: each row of YtjnecjhkmhhnnaaGreatDoorRows.lean that lists a variable, with what it lists TIED to the program's text (the seventh form; the later family's looks); each row that meets fmt, with fmt's text TOLD by the authors' own Lean function (tested against real Go, not proved from fmt's source: count such statements apart). THE CARD IS WHAT COUNTS. Prove the row's statement (the work); the ties are given (YtjnecjhkmhhnnaaGreatDoorTie.lean); close each card by the builder's one call (the guide's Derived/Test/ToyasCard.lean, 'card_holds'). Laid BY PROGRAM, IN A SANDBOX (cutbox-door.mjs). By AI agents, Wed Nov 11 2026. No macro, syntax, notation, axiom, sorry.
-/
import Derived.Test.YtjnecjhkmhhnnaaGreatDoorRows
import GoSem.ClaimSeven
namespace Go.Proofs.YtjnecjhkmhhnnaaGreatDoor
namespace Rows

/-- THE TIED CARD OF 'pandectlaw25.FootprintIntersect'. -/
def footprintIntersectCard : Claim7 := { stood := { row := footprintIntersectRow, standIns := [], harness := (true, "8b19f20712472fb4027e051f076d89cd6cbe8e0e462ca439f19c91ba71667b71"), looks := false }, kinds := [], alts := [], laidByText := true, laidKinds := [.data, .data, .widerDeep, .funcs, .pinned], laidTests := true, laidLooks := .later }
def FootprintIntersectCardSaid : Prop := Claim7.holds Tryz.pinned (.plain (OpenSpec.ofChange footprintIntersectSpec)) footprintIntersectCard

/-- THE TIED CARD OF 'pandectlaw25.FootprintFormatKey'. -/
def footprintFormatKeyCard : Claim7 := { stood := { row := footprintFormatKeyRow, standIns := [], harness := (true, "8b19f20712472fb4027e051f076d89cd6cbe8e0e462ca439f19c91ba71667b71"), looks := false }, kinds := [], alts := [], laidByText := true, laidKinds := [.data, .data, .data, .data, .data, .widerDeep, .funcs, .pinned], laidTests := true, laidLooks := .later }
def FootprintFormatKeyCardSaid : Prop := Claim7.holds Tryz.pinned (.plain (OpenSpec.ofChange footprintFormatKeySpec)) footprintFormatKeyCard

/-- THE TIED CARD OF 'pandectlaw34.BlameAuthorship'. -/
def blameAuthorshipCard : Claim7 := { stood := { row := blameAuthorshipRow, standIns := [], harness := (true, "8b19f20712472fb4027e051f076d89cd6cbe8e0e462ca439f19c91ba71667b71"), looks := false }, kinds := [], alts := [], laidByText := true, laidKinds := [.data, .data, .data, .data, .data, .widerDeep, .funcs, .pinned], laidTests := true, laidLooks := .later }
def BlameAuthorshipCardSaid : Prop := Claim7.holds Tryz.pinned (.plain (OpenSpec.ofChange blameAuthorshipSpec)) blameAuthorshipCard

/-- THE TIED CARD OF 'pandectlaw34.BlameTotals'. -/
def blameTotalsCard : Claim7 := { stood := { row := blameTotalsRow, standIns := [], harness := (true, "8b19f20712472fb4027e051f076d89cd6cbe8e0e462ca439f19c91ba71667b71"), looks := false }, kinds := [], alts := [], laidByText := true, laidKinds := [.data, .data, .data, .data, .data, .widerDeep, .funcs, .pinned], laidTests := true, laidLooks := .later }
def BlameTotalsCardSaid : Prop := Claim7.holds Tryz.pinned (.plain (OpenSpec.ofChange blameTotalsSpec)) blameTotalsCard

/-- THE SECOND FORM's CARD OF 'pandectlaw25.FootprintIntersect'. -/
def footprintIntersectUptoCard : Claim7 := { stood := { row := footprintIntersectUptoRow, standIns := [], harness := (true, "8b19f20712472fb4027e051f076d89cd6cbe8e0e462ca439f19c91ba71667b71"), looks := false }, kinds := [], alts := [], laidByText := true, laidKinds := [.data, .data, .widerDeep, .funcs, .pinned], laidTests := true, laidLooks := .later }
def FootprintIntersectUptoCardSaid : Prop := Claim7.holds Tryz.pinned (.plain (OpenSpec.upto footprintIntersectSpec)) footprintIntersectUptoCard

/-- THE SECOND FORM's CARD OF 'pandectlaw25.FootprintFormatKey'. -/
def footprintFormatKeyUptoCard : Claim7 := { stood := { row := footprintFormatKeyUptoRow, standIns := [], harness := (true, "8b19f20712472fb4027e051f076d89cd6cbe8e0e462ca439f19c91ba71667b71"), looks := false }, kinds := [], alts := [], laidByText := true, laidKinds := [.data, .data, .data, .data, .data, .widerDeep, .funcs, .pinned], laidTests := true, laidLooks := .later }
def FootprintFormatKeyUptoCardSaid : Prop := Claim7.holds Tryz.pinned (.plain (OpenSpec.upto footprintFormatKeySpec)) footprintFormatKeyUptoCard

/-- THE SECOND FORM's CARD OF 'pandectlaw34.BlameAuthorship'. -/
def blameAuthorshipUptoCard : Claim7 := { stood := { row := blameAuthorshipUptoRow, standIns := [], harness := (true, "8b19f20712472fb4027e051f076d89cd6cbe8e0e462ca439f19c91ba71667b71"), looks := false }, kinds := [], alts := [], laidByText := true, laidKinds := [.data, .data, .data, .data, .data, .widerDeep, .funcs, .pinned], laidTests := true, laidLooks := .later }
def BlameAuthorshipUptoCardSaid : Prop := Claim7.holds Tryz.pinned (.plain (OpenSpec.upto blameAuthorshipSpec)) blameAuthorshipUptoCard

/-- THE SECOND FORM's CARD OF 'pandectlaw34.BlameTotals'. -/
def blameTotalsUptoCard : Claim7 := { stood := { row := blameTotalsUptoRow, standIns := [], harness := (true, "8b19f20712472fb4027e051f076d89cd6cbe8e0e462ca439f19c91ba71667b71"), looks := false }, kinds := [], alts := [], laidByText := true, laidKinds := [.data, .data, .data, .data, .data, .widerDeep, .funcs, .pinned], laidTests := true, laidLooks := .later }
def BlameTotalsUptoCardSaid : Prop := Claim7.holds Tryz.pinned (.plain (OpenSpec.upto blameTotalsSpec)) blameTotalsUptoCard
end Rows
end Go.Proofs.YtjnecjhkmhhnnaaGreatDoor
