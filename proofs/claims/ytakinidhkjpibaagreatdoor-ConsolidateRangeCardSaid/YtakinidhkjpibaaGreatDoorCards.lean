/-
  DERIVED. GIVEN WITH THE SEED: THE CARDS: each row of YtakinidhkjpibaaGreatDoorRows.lean that lists a variable, with what it lists TIED to the program's text (the seventh form; the later family's looks); each row that meets fmt, with fmt's text TOLD by the authors' own Lean function (tested against real Go, not proved from fmt's source: count such statements apart). THE CARD IS WHAT COUNTS. Prove the row's statement (the work); the ties are given (YtakinidhkjpibaaGreatDoorTie.lean); close each card by the builder's one call (the guide's Derived/Test/ToyasCard.lean, 'card_holds'). Laid BY PROGRAM, IN A SANDBOX (cutbox-door.mjs). By AI agents, Wed Nov 11 2026. No macro, syntax, notation, axiom, sorry.
-/
import Derived.Test.YtakinidhkjpibaaGreatDoorRows
import GoSem.ClaimSeven
namespace Go.Proofs.YtakinidhkjpibaaGreatDoor
namespace Rows

/-- THE TIED CARD OF 'pandectlaw25.FootprintIntersect'. -/
def footprintIntersectCard : Claim7 := { stood := { row := footprintIntersectRow, standIns := [], harness := (true, "04ac4e56b18e89c4dee9db7076a417259569ec91c912c5af1bc6dec290c3137d"), looks := false }, kinds := [], alts := [], laidByText := true, laidKinds := [.data, .data, .widerDeep, .funcs, .pinned], laidTests := true, laidLooks := .later }
def FootprintIntersectCardSaid : Prop := Claim7.holds Tryz.pinned (.plain (OpenSpec.ofChange footprintIntersectSpec)) footprintIntersectCard

/-- THE TIED CARD OF 'pandectlaw25.FootprintFormatKey'. -/
def footprintFormatKeyCard : Claim7 := { stood := { row := footprintFormatKeyRow, standIns := [], harness := (true, "04ac4e56b18e89c4dee9db7076a417259569ec91c912c5af1bc6dec290c3137d"), looks := false }, kinds := [], alts := [], laidByText := true, laidKinds := [.data, .data, .data, .data, .data, .widerDeep, .funcs, .pinned], laidTests := true, laidLooks := .later }
def FootprintFormatKeyCardSaid : Prop := Claim7.holds Tryz.pinned (.plain (OpenSpec.ofChange footprintFormatKeySpec)) footprintFormatKeyCard

/-- THE TIED CARD OF 'pandectlaw30.ConsolidateRange'. -/
def consolidateRangeCard : Claim7 := { stood := { row := consolidateRangeRow, standIns := [], harness := (true, "04ac4e56b18e89c4dee9db7076a417259569ec91c912c5af1bc6dec290c3137d"), looks := false }, kinds := [], alts := [], laidByText := true, laidKinds := [.data, .data, .widerDeep, .funcs, .pinned], laidTests := true, laidLooks := .later }
def ConsolidateRangeCardSaid : Prop := Claim7.holds Tryz.pinned (.plain (OpenSpec.ofChange consolidateRangeSpec)) consolidateRangeCard

/-- THE SECOND FORM's CARD OF 'pandectlaw25.FootprintIntersect'. -/
def footprintIntersectUptoCard : Claim7 := { stood := { row := footprintIntersectUptoRow, standIns := [], harness := (true, "04ac4e56b18e89c4dee9db7076a417259569ec91c912c5af1bc6dec290c3137d"), looks := false }, kinds := [], alts := [], laidByText := true, laidKinds := [.data, .data, .widerDeep, .funcs, .pinned], laidTests := true, laidLooks := .later }
def FootprintIntersectUptoCardSaid : Prop := Claim7.holds Tryz.pinned (.plain (OpenSpec.upto footprintIntersectSpec)) footprintIntersectUptoCard

/-- THE SECOND FORM's CARD OF 'pandectlaw25.FootprintFormatKey'. -/
def footprintFormatKeyUptoCard : Claim7 := { stood := { row := footprintFormatKeyUptoRow, standIns := [], harness := (true, "04ac4e56b18e89c4dee9db7076a417259569ec91c912c5af1bc6dec290c3137d"), looks := false }, kinds := [], alts := [], laidByText := true, laidKinds := [.data, .data, .data, .data, .data, .widerDeep, .funcs, .pinned], laidTests := true, laidLooks := .later }
def FootprintFormatKeyUptoCardSaid : Prop := Claim7.holds Tryz.pinned (.plain (OpenSpec.upto footprintFormatKeySpec)) footprintFormatKeyUptoCard

/-- THE SECOND FORM's CARD OF 'pandectlaw30.ConsolidateRange'. -/
def consolidateRangeUptoCard : Claim7 := { stood := { row := consolidateRangeUptoRow, standIns := [], harness := (true, "04ac4e56b18e89c4dee9db7076a417259569ec91c912c5af1bc6dec290c3137d"), looks := false }, kinds := [], alts := [], laidByText := true, laidKinds := [.data, .data, .widerDeep, .funcs, .pinned], laidTests := true, laidLooks := .later }
def ConsolidateRangeUptoCardSaid : Prop := Claim7.holds Tryz.pinned (.plain (OpenSpec.upto consolidateRangeSpec)) consolidateRangeUptoCard
end Rows
end Go.Proofs.YtakinidhkjpibaaGreatDoor
