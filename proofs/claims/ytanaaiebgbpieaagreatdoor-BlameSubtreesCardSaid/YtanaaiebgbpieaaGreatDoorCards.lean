/-
  DERIVED. GIVEN WITH THE SEED: THE CARDS: each row of YtanaaiebgbpieaaGreatDoorRows.lean that lists a variable, with what it lists TIED to the program's text (the seventh form; the later family's looks); each row that meets fmt, with fmt's text TOLD by the authors' own Lean function (tested against real Go, not proved from fmt's source: count such statements apart). THE CARD IS WHAT COUNTS. Prove the row's statement (the work); the ties are given (YtanaaiebgbpieaaGreatDoorTie.lean); close each card by the builder's one call (the guide's Derived/Test/ToyasCard.lean, 'card_holds'). Laid BY PROGRAM, IN A SANDBOX (cutbox-door.mjs). By AI agents, Wed Nov 11 2026. No macro, syntax, notation, axiom, sorry.
-/
import Derived.Test.YtanaaiebgbpieaaGreatDoorRows
import GoSem.ClaimSeven
namespace Go.Proofs.YtanaaiebgbpieaaGreatDoor
namespace Rows

/-- THE TIED CARD OF 'pandectlaw34.BlameSubtrees'. -/
def blameSubtreesCard : Claim7 := { stood := { row := blameSubtreesRow, standIns := [], harness := (true, "abf04dbef85116588982d2229f8cfbce9460af52fe6f066df4217c660f14cc54"), looks := false }, kinds := [], alts := [], laidByText := true, laidKinds := [.data, .data, .data, .data, .data, .widerDeep, .funcs, .pinned], laidTests := true, laidLooks := .later }
def BlameSubtreesCardSaid : Prop := Claim7.holds Tryz.pinned (.plain (OpenSpec.ofChange blameSubtreesSpec)) blameSubtreesCard

/-- THE SECOND FORM's CARD OF 'pandectlaw34.BlameSubtrees'. -/
def blameSubtreesUptoCard : Claim7 := { stood := { row := blameSubtreesUptoRow, standIns := [], harness := (true, "abf04dbef85116588982d2229f8cfbce9460af52fe6f066df4217c660f14cc54"), looks := false }, kinds := [], alts := [], laidByText := true, laidKinds := [.data, .data, .data, .data, .data, .widerDeep, .funcs, .pinned], laidTests := true, laidLooks := .later }
def BlameSubtreesUptoCardSaid : Prop := Claim7.holds Tryz.pinned (.plain (OpenSpec.upto blameSubtreesSpec)) blameSubtreesUptoCard
end Rows
end Go.Proofs.YtanaaiebgbpieaaGreatDoor
