/-
  DERIVED. GIVEN WITH THE SEED: THE CARDS: each row of YtaepacpodblomaaGreatDoorRows.lean that lists a variable, with what it lists TIED to the program's text (the seventh form; the later family's looks); each row that meets fmt, with fmt's text TOLD by the authors' own Lean function (tested against real Go, not proved from fmt's source: count such statements apart). THE CARD IS WHAT COUNTS. Prove the row's statement (the work); the ties are given (YtaepacpodblomaaGreatDoorTie.lean); close each card by the builder's one call (the guide's Derived/Test/ToyasCard.lean, 'card_holds'). Laid BY PROGRAM, IN A SANDBOX (cutbox-door.mjs). By AI agents, Wed Nov 11 2026. No macro, syntax, notation, axiom, sorry.
-/
import Derived.Test.YtaepacpodblomaaGreatDoorRows
import GoSem.ClaimSeven
namespace Go.Proofs.YtaepacpodblomaaGreatDoor
namespace Rows

/-- THE TIED CARD OF 'pandectlaw31.ChangesAscending'. -/
def changesAscendingCard : Claim7 := { stood := { row := changesAscendingRow, standIns := [], harness := (true, "f6cb52252051df8a4870d322d7c1acd55bdcaaa3881bdaba8c8f561960d38139"), looks := false }, kinds := [], alts := [], laidByText := true, laidKinds := [.data, .data, .widerDeep, .funcs, .pinned], laidTests := true, laidLooks := .later }
def ChangesAscendingCardSaid : Prop := Claim7.holds Tryz.pinned (.plain (OpenSpec.ofChange changesAscendingSpec)) changesAscendingCard

/-- THE TIED CARD OF 'pandectlaw31.ChangesConstant'. -/
def changesConstantCard : Claim7 := { stood := { row := changesConstantRow, standIns := [], harness := (true, "f6cb52252051df8a4870d322d7c1acd55bdcaaa3881bdaba8c8f561960d38139"), looks := false }, kinds := [], alts := [], laidByText := true, laidKinds := [.data, .data, .widerDeep, .funcs, .pinned], laidTests := true, laidLooks := .later }
def ChangesConstantCardSaid : Prop := Claim7.holds Tryz.pinned (.plain (OpenSpec.ofChange changesConstantSpec)) changesConstantCard

/-- THE TIED CARD OF 'pandectlaw36.BitemporalStable'. -/
def bitemporalStableCard : Claim7 := { stood := { row := bitemporalStableRow, standIns := [], harness := (true, "f6cb52252051df8a4870d322d7c1acd55bdcaaa3881bdaba8c8f561960d38139"), looks := false }, kinds := [], alts := [], laidByText := true, laidKinds := [.data, .data, .widerDeep, .funcs, .pinned], laidTests := true, laidLooks := .later }
def BitemporalStableCardSaid : Prop := Claim7.holds Tryz.pinned (.plain (OpenSpec.ofChange bitemporalStableSpec)) bitemporalStableCard

/-- THE TIED CARD OF 'pandectlaw36.BitemporalRevisions'. -/
def bitemporalRevisionsCard : Claim7 := { stood := { row := bitemporalRevisionsRow, standIns := [], harness := (true, "f6cb52252051df8a4870d322d7c1acd55bdcaaa3881bdaba8c8f561960d38139"), looks := false }, kinds := [], alts := [], laidByText := true, laidKinds := [.data, .data, .widerDeep, .funcs, .pinned], laidTests := true, laidLooks := .later }
def BitemporalRevisionsCardSaid : Prop := Claim7.holds Tryz.pinned (.plain (OpenSpec.ofChange bitemporalRevisionsSpec)) bitemporalRevisionsCard

/-- THE TIED CARD OF 'pandectlaw36.BitemporalCauses'. -/
def bitemporalCausesCard : Claim7 := { stood := { row := bitemporalCausesRow, standIns := [], harness := (true, "f6cb52252051df8a4870d322d7c1acd55bdcaaa3881bdaba8c8f561960d38139"), looks := false }, kinds := [], alts := [], laidByText := true, laidKinds := [.data, .data, .widerDeep, .funcs, .pinned], laidTests := true, laidLooks := .later }
def BitemporalCausesCardSaid : Prop := Claim7.holds Tryz.pinned (.plain (OpenSpec.ofChange bitemporalCausesSpec)) bitemporalCausesCard

/-- THE SECOND FORM's CARD OF 'pandectlaw31.ChangesAscending'. -/
def changesAscendingUptoCard : Claim7 := { stood := { row := changesAscendingUptoRow, standIns := [], harness := (true, "f6cb52252051df8a4870d322d7c1acd55bdcaaa3881bdaba8c8f561960d38139"), looks := false }, kinds := [], alts := [], laidByText := true, laidKinds := [.data, .data, .widerDeep, .funcs, .pinned], laidTests := true, laidLooks := .later }
def ChangesAscendingUptoCardSaid : Prop := Claim7.holds Tryz.pinned (.plain (OpenSpec.upto changesAscendingSpec)) changesAscendingUptoCard

/-- THE SECOND FORM's CARD OF 'pandectlaw31.ChangesConstant'. -/
def changesConstantUptoCard : Claim7 := { stood := { row := changesConstantUptoRow, standIns := [], harness := (true, "f6cb52252051df8a4870d322d7c1acd55bdcaaa3881bdaba8c8f561960d38139"), looks := false }, kinds := [], alts := [], laidByText := true, laidKinds := [.data, .data, .widerDeep, .funcs, .pinned], laidTests := true, laidLooks := .later }
def ChangesConstantUptoCardSaid : Prop := Claim7.holds Tryz.pinned (.plain (OpenSpec.upto changesConstantSpec)) changesConstantUptoCard

/-- THE SECOND FORM's CARD OF 'pandectlaw36.BitemporalStable'. -/
def bitemporalStableUptoCard : Claim7 := { stood := { row := bitemporalStableUptoRow, standIns := [], harness := (true, "f6cb52252051df8a4870d322d7c1acd55bdcaaa3881bdaba8c8f561960d38139"), looks := false }, kinds := [], alts := [], laidByText := true, laidKinds := [.data, .data, .widerDeep, .funcs, .pinned], laidTests := true, laidLooks := .later }
def BitemporalStableUptoCardSaid : Prop := Claim7.holds Tryz.pinned (.plain (OpenSpec.upto bitemporalStableSpec)) bitemporalStableUptoCard

/-- THE SECOND FORM's CARD OF 'pandectlaw36.BitemporalRevisions'. -/
def bitemporalRevisionsUptoCard : Claim7 := { stood := { row := bitemporalRevisionsUptoRow, standIns := [], harness := (true, "f6cb52252051df8a4870d322d7c1acd55bdcaaa3881bdaba8c8f561960d38139"), looks := false }, kinds := [], alts := [], laidByText := true, laidKinds := [.data, .data, .widerDeep, .funcs, .pinned], laidTests := true, laidLooks := .later }
def BitemporalRevisionsUptoCardSaid : Prop := Claim7.holds Tryz.pinned (.plain (OpenSpec.upto bitemporalRevisionsSpec)) bitemporalRevisionsUptoCard

/-- THE SECOND FORM's CARD OF 'pandectlaw36.BitemporalCauses'. -/
def bitemporalCausesUptoCard : Claim7 := { stood := { row := bitemporalCausesUptoRow, standIns := [], harness := (true, "f6cb52252051df8a4870d322d7c1acd55bdcaaa3881bdaba8c8f561960d38139"), looks := false }, kinds := [], alts := [], laidByText := true, laidKinds := [.data, .data, .widerDeep, .funcs, .pinned], laidTests := true, laidLooks := .later }
def BitemporalCausesUptoCardSaid : Prop := Claim7.holds Tryz.pinned (.plain (OpenSpec.upto bitemporalCausesSpec)) bitemporalCausesUptoCard
end Rows
end Go.Proofs.YtaepacpodblomaaGreatDoor
