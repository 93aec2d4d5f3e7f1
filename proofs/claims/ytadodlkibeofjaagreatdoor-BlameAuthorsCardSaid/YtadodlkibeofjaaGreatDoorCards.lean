/-
  DERIVED. GIVEN WITH THE SEED: THE CARDS: each row of YtadodlkibeofjaaGreatDoorRows.lean that lists a variable, with what it lists TIED to the program's text (the seventh form; the later family's looks); each row that meets fmt, with fmt's text TOLD by the authors' own Lean function (tested against real Go, not proved from fmt's source: count such statements apart). THE CARD IS WHAT COUNTS. Prove the row's statement (the work); the ties are given (YtadodlkibeofjaaGreatDoorTie.lean); close each card by the builder's one call (the guide's Derived/Test/ToyasCard.lean, 'card_holds'). Laid BY PROGRAM, IN A SANDBOX (cutbox-door.mjs). By AI agents, Wed Nov 11 2026. No macro, syntax, notation, axiom, sorry.
-/
import Derived.Test.YtadodlkibeofjaaGreatDoorRows
import GoSem.ClaimSeven
namespace Go.Proofs.YtadodlkibeofjaaGreatDoor
namespace Rows

/-- THE TIED CARD OF 'pandectlaw32.EngineQueryIndependent'. -/
def engineQueryIndependentCard : Claim7 := { stood := { row := engineQueryIndependentRow, standIns := [], harness := (true, "31a323b6e6a0b232467ddb388c463883ad7e4b58e7b99285c64279b7600d7663"), looks := false }, kinds := [], alts := [], laidByText := true, laidKinds := [.data, .data, .widerDeep, .funcs, .pinned], laidTests := true, laidLooks := .later }
def EngineQueryIndependentCardSaid : Prop := Claim7.holds Tryz.pinned (.plain (OpenSpec.ofChange engineQueryIndependentSpec)) engineQueryIndependentCard

/-- THE TIED CARD OF 'pandectlaw32.EngineMatchesConsolidate'. -/
def engineMatchesConsolidateCard : Claim7 := { stood := { row := engineMatchesConsolidateRow, standIns := [], harness := (true, "31a323b6e6a0b232467ddb388c463883ad7e4b58e7b99285c64279b7600d7663"), looks := false }, kinds := [], alts := [], laidByText := true, laidKinds := [.data, .data, .widerDeep, .funcs, .pinned], laidTests := true, laidLooks := .later }
def EngineMatchesConsolidateCardSaid : Prop := Claim7.holds Tryz.pinned (.plain (OpenSpec.ofChange engineMatchesConsolidateSpec)) engineMatchesConsolidateCard

/-- THE TIED CARD OF 'pandectlaw34.BlameAuthors'. -/
def blameAuthorsCard : Claim7 := { stood := { row := blameAuthorsRow, standIns := [], harness := (true, "31a323b6e6a0b232467ddb388c463883ad7e4b58e7b99285c64279b7600d7663"), looks := false }, kinds := [], alts := [], laidByText := true, laidKinds := [.data, .data, .data, .data, .data, .widerDeep, .funcs, .pinned], laidTests := true, laidLooks := .later }
def BlameAuthorsCardSaid : Prop := Claim7.holds Tryz.pinned (.plain (OpenSpec.ofChange blameAuthorsSpec)) blameAuthorsCard

/-- THE SECOND FORM's CARD OF 'pandectlaw32.EngineQueryIndependent'. -/
def engineQueryIndependentUptoCard : Claim7 := { stood := { row := engineQueryIndependentUptoRow, standIns := [], harness := (true, "31a323b6e6a0b232467ddb388c463883ad7e4b58e7b99285c64279b7600d7663"), looks := false }, kinds := [], alts := [], laidByText := true, laidKinds := [.data, .data, .widerDeep, .funcs, .pinned], laidTests := true, laidLooks := .later }
def EngineQueryIndependentUptoCardSaid : Prop := Claim7.holds Tryz.pinned (.plain (OpenSpec.upto engineQueryIndependentSpec)) engineQueryIndependentUptoCard

/-- THE SECOND FORM's CARD OF 'pandectlaw32.EngineMatchesConsolidate'. -/
def engineMatchesConsolidateUptoCard : Claim7 := { stood := { row := engineMatchesConsolidateUptoRow, standIns := [], harness := (true, "31a323b6e6a0b232467ddb388c463883ad7e4b58e7b99285c64279b7600d7663"), looks := false }, kinds := [], alts := [], laidByText := true, laidKinds := [.data, .data, .widerDeep, .funcs, .pinned], laidTests := true, laidLooks := .later }
def EngineMatchesConsolidateUptoCardSaid : Prop := Claim7.holds Tryz.pinned (.plain (OpenSpec.upto engineMatchesConsolidateSpec)) engineMatchesConsolidateUptoCard

/-- THE SECOND FORM's CARD OF 'pandectlaw34.BlameAuthors'. -/
def blameAuthorsUptoCard : Claim7 := { stood := { row := blameAuthorsUptoRow, standIns := [], harness := (true, "31a323b6e6a0b232467ddb388c463883ad7e4b58e7b99285c64279b7600d7663"), looks := false }, kinds := [], alts := [], laidByText := true, laidKinds := [.data, .data, .data, .data, .data, .widerDeep, .funcs, .pinned], laidTests := true, laidLooks := .later }
def BlameAuthorsUptoCardSaid : Prop := Claim7.holds Tryz.pinned (.plain (OpenSpec.upto blameAuthorsSpec)) blameAuthorsUptoCard
end Rows
end Go.Proofs.YtadodlkibeofjaaGreatDoor
