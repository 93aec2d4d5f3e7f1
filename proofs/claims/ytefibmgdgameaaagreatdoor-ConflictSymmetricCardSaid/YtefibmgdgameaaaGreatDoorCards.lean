/-
  DERIVED. GIVEN WITH THE SEED: THE CARDS: each row of YtefibmgdgameaaaGreatDoorRows.lean that lists a variable, with what it lists TIED to the program's text (the seventh form; the later family's looks); each row that meets fmt, with fmt's text TOLD by the authors' own Lean function (tested against real Go, not proved from fmt's source: count such statements apart). THE CARD IS WHAT COUNTS. Prove the row's statement (the work); the ties are given (YtefibmgdgameaaaGreatDoorTie.lean); close each card by the builder's one call (the guide's Derived/Test/ToyasCard.lean, 'card_holds'). Laid BY PROGRAM, IN A SANDBOX (cutbox-door.mjs). By AI agents, Wed Nov 11 2026. No macro, syntax, notation, axiom, sorry.
-/
import Derived.Test.YtefibmgdgameaaaGreatDoorRows
import GoSem.ClaimSeven
namespace Go.Proofs.YtefibmgdgameaaaGreatDoor
namespace Rows

/-- THE TIED CARD OF 'pandectlaw37.ConflictSymmetric'. -/
def conflictSymmetricCard : Claim7 := { stood := { row := conflictSymmetricRow, standIns := [], harness := (true, "a003bc6e37c9ae95f5fe78a1ba49fea088b4f722c383f381eb7e99d67a21aa74"), looks := false }, kinds := [], alts := [], laidByText := true, laidKinds := [.data, .data, .data, .data, .data, .widerDeep, .funcs, .pinned], laidTests := true, laidLooks := .later }
def ConflictSymmetricCardSaid : Prop := Claim7.holds Tryz.pinned (.plain (OpenSpec.ofChange conflictSymmetricSpec)) conflictSymmetricCard

/-- THE TIED CARD OF 'pandectlaw30.ConsolidatePrefixes'. -/
def consolidatePrefixesCard : Claim7 := { stood := { row := consolidatePrefixesRow, standIns := [], harness := (true, "a003bc6e37c9ae95f5fe78a1ba49fea088b4f722c383f381eb7e99d67a21aa74"), looks := false }, kinds := [], alts := [], laidByText := true, laidKinds := [.data, .data, .widerDeep, .funcs, .pinned], laidTests := true, laidLooks := .later }
def ConsolidatePrefixesCardSaid : Prop := Claim7.holds Tryz.pinned (.plain (OpenSpec.ofChange consolidatePrefixesSpec)) consolidatePrefixesCard

/-- THE TIED CARD OF 'pandectlaw30.ConsolidateOrder'. -/
def consolidateOrderCard : Claim7 := { stood := { row := consolidateOrderRow, standIns := [], harness := (true, "a003bc6e37c9ae95f5fe78a1ba49fea088b4f722c383f381eb7e99d67a21aa74"), looks := false }, kinds := [], alts := [], laidByText := true, laidKinds := [.data, .data, .widerDeep, .funcs, .pinned], laidTests := true, laidLooks := .later }
def ConsolidateOrderCardSaid : Prop := Claim7.holds Tryz.pinned (.plain (OpenSpec.ofChange consolidateOrderSpec)) consolidateOrderCard

/-- THE TIED CARD OF 'pandectlaw30.ConsolidateSteps'. -/
def consolidateStepsCard : Claim7 := { stood := { row := consolidateStepsRow, standIns := [], harness := (true, "a003bc6e37c9ae95f5fe78a1ba49fea088b4f722c383f381eb7e99d67a21aa74"), looks := false }, kinds := [], alts := [], laidByText := true, laidKinds := [.data, .data, .widerDeep, .funcs, .pinned], laidTests := true, laidLooks := .later }
def ConsolidateStepsCardSaid : Prop := Claim7.holds Tryz.pinned (.plain (OpenSpec.ofChange consolidateStepsSpec)) consolidateStepsCard

/-- THE SECOND FORM's CARD OF 'pandectlaw37.ConflictSymmetric'. -/
def conflictSymmetricUptoCard : Claim7 := { stood := { row := conflictSymmetricUptoRow, standIns := [], harness := (true, "a003bc6e37c9ae95f5fe78a1ba49fea088b4f722c383f381eb7e99d67a21aa74"), looks := false }, kinds := [], alts := [], laidByText := true, laidKinds := [.data, .data, .data, .data, .data, .widerDeep, .funcs, .pinned], laidTests := true, laidLooks := .later }
def ConflictSymmetricUptoCardSaid : Prop := Claim7.holds Tryz.pinned (.plain (OpenSpec.upto conflictSymmetricSpec)) conflictSymmetricUptoCard

/-- THE SECOND FORM's CARD OF 'pandectlaw30.ConsolidatePrefixes'. -/
def consolidatePrefixesUptoCard : Claim7 := { stood := { row := consolidatePrefixesUptoRow, standIns := [], harness := (true, "a003bc6e37c9ae95f5fe78a1ba49fea088b4f722c383f381eb7e99d67a21aa74"), looks := false }, kinds := [], alts := [], laidByText := true, laidKinds := [.data, .data, .widerDeep, .funcs, .pinned], laidTests := true, laidLooks := .later }
def ConsolidatePrefixesUptoCardSaid : Prop := Claim7.holds Tryz.pinned (.plain (OpenSpec.upto consolidatePrefixesSpec)) consolidatePrefixesUptoCard

/-- THE SECOND FORM's CARD OF 'pandectlaw30.ConsolidateOrder'. -/
def consolidateOrderUptoCard : Claim7 := { stood := { row := consolidateOrderUptoRow, standIns := [], harness := (true, "a003bc6e37c9ae95f5fe78a1ba49fea088b4f722c383f381eb7e99d67a21aa74"), looks := false }, kinds := [], alts := [], laidByText := true, laidKinds := [.data, .data, .widerDeep, .funcs, .pinned], laidTests := true, laidLooks := .later }
def ConsolidateOrderUptoCardSaid : Prop := Claim7.holds Tryz.pinned (.plain (OpenSpec.upto consolidateOrderSpec)) consolidateOrderUptoCard

/-- THE SECOND FORM's CARD OF 'pandectlaw30.ConsolidateSteps'. -/
def consolidateStepsUptoCard : Claim7 := { stood := { row := consolidateStepsUptoRow, standIns := [], harness := (true, "a003bc6e37c9ae95f5fe78a1ba49fea088b4f722c383f381eb7e99d67a21aa74"), looks := false }, kinds := [], alts := [], laidByText := true, laidKinds := [.data, .data, .widerDeep, .funcs, .pinned], laidTests := true, laidLooks := .later }
def ConsolidateStepsUptoCardSaid : Prop := Claim7.holds Tryz.pinned (.plain (OpenSpec.upto consolidateStepsSpec)) consolidateStepsUptoCard
end Rows
end Go.Proofs.YtefibmgdgameaaaGreatDoor
