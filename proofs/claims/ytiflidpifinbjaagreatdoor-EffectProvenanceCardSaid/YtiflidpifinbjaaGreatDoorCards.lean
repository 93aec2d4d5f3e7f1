/-
  DERIVED. GIVEN WITH THE SEED: THE CARDS: each row of YtiflidpifinbjaaGreatDoorRows.lean that lists a variable, with what it lists TIED to the program's text (the seventh form; the later family's looks); each row that meets fmt, with fmt's text TOLD by the authors' own Lean function (tested against real Go, not proved from fmt's source: count such statements apart). THE CARD IS WHAT COUNTS. Prove the row's statement (the work); the ties are given (YtiflidpifinbjaaGreatDoorTie.lean); close each card by the builder's one call (the guide's Derived/Test/ToyasCard.lean, 'card_holds'). Laid BY PROGRAM, IN A SANDBOX (cutbox-door.mjs). By AI agents, Wed Nov 11 2026. No macro, syntax, notation, axiom, sorry.
-/
import Derived.Test.YtiflidpifinbjaaGreatDoorRows
import GoSem.ClaimSeven
namespace Go.Proofs.YtiflidpifinbjaaGreatDoor
namespace Rows

/-- THE TIED CARD OF 'pandectlaw35.EffectProvenance'. -/
def effectProvenanceCard : Claim7 := { stood := { row := effectProvenanceRow, standIns := [], harness := (true, "071fc32559e3c794b9d4882bf3b02255c9003a291544319c8e469d43d36bab4f"), looks := false }, kinds := [], alts := [], laidByText := true, laidKinds := [.data, .data, .data, .data, .data, .widerDeep, .data, .funcs, .pinned], laidTests := true, laidLooks := .later }
def EffectProvenanceCardSaid : Prop := Claim7.holds Tryz.pinned (.plain (OpenSpec.ofChange effectProvenanceSpec)) effectProvenanceCard

/-- THE SECOND FORM's CARD OF 'pandectlaw35.EffectProvenance'. -/
def effectProvenanceUptoCard : Claim7 := { stood := { row := effectProvenanceUptoRow, standIns := [], harness := (true, "071fc32559e3c794b9d4882bf3b02255c9003a291544319c8e469d43d36bab4f"), looks := false }, kinds := [], alts := [], laidByText := true, laidKinds := [.data, .data, .data, .data, .data, .widerDeep, .data, .funcs, .pinned], laidTests := true, laidLooks := .later }
def EffectProvenanceUptoCardSaid : Prop := Claim7.holds Tryz.pinned (.plain (OpenSpec.upto effectProvenanceSpec)) effectProvenanceUptoCard
end Rows
end Go.Proofs.YtiflidpifinbjaaGreatDoor
