/-
  DERIVED. GIVEN WITH THE SEED: THE CARDS: each row of YtidehekfpcgelaaGreatDoorRows.lean that lists a variable, with what it lists TIED to the program's text (the seventh form; the later family's looks); each row that meets fmt, with fmt's text TOLD by the authors' own Lean function (tested against real Go, not proved from fmt's source: count such statements apart). THE CARD IS WHAT COUNTS. Prove the row's statement (the work); the ties are given (YtidehekfpcgelaaGreatDoorTie.lean); close each card by the builder's one call (the guide's Derived/Test/ToyasCard.lean, 'card_holds'). Laid BY PROGRAM, IN A SANDBOX (cutbox-door.mjs). By AI agents, Wed Nov 11 2026. No macro, syntax, notation, axiom, sorry.
-/
import Derived.Test.YtidehekfpcgelaaGreatDoorRows
import GoSem.ClaimSeven
namespace Go.Proofs.YtidehekfpcgelaaGreatDoor
namespace Rows

/-- THE TIED CARD OF 'pandectlaw30.ConsolidateBooks'. -/
def consolidateBooksCard : Claim7 := { stood := { row := consolidateBooksRow, standIns := [], harness := (true, "edca3178b285fbfb636567e68b2fd5812dbf102527ae20ec6031b0528a7deabf"), looks := false }, kinds := [], alts := [], laidByText := true, laidKinds := [.data, .data, .widerDeep, .funcs, .pinned], laidTests := true, laidLooks := .later }
def ConsolidateBooksCardSaid : Prop := Claim7.holds Tryz.pinned (.plain (OpenSpec.ofChange consolidateBooksSpec)) consolidateBooksCard

/-- THE TIED CARD OF 'pandectlaw30.ConsolidateUniqueness'. -/
def consolidateUniquenessCard : Claim7 := { stood := { row := consolidateUniquenessRow, standIns := [], harness := (true, "edca3178b285fbfb636567e68b2fd5812dbf102527ae20ec6031b0528a7deabf"), looks := false }, kinds := [], alts := [], laidByText := true, laidKinds := [.data, .data, .widerDeep, .funcs, .pinned], laidTests := true, laidLooks := .later }
def ConsolidateUniquenessCardSaid : Prop := Claim7.holds Tryz.pinned (.plain (OpenSpec.ofChange consolidateUniquenessSpec)) consolidateUniquenessCard

/-- THE TIED CARD OF 'pandectlaw30.ConsolidatePrefixes'. -/
def consolidatePrefixesCard : Claim7 := { stood := { row := consolidatePrefixesRow, standIns := [], harness := (true, "edca3178b285fbfb636567e68b2fd5812dbf102527ae20ec6031b0528a7deabf"), looks := false }, kinds := [], alts := [], laidByText := true, laidKinds := [.data, .data, .widerDeep, .funcs, .pinned], laidTests := true, laidLooks := .later }
def ConsolidatePrefixesCardSaid : Prop := Claim7.holds Tryz.pinned (.plain (OpenSpec.ofChange consolidatePrefixesSpec)) consolidatePrefixesCard

/-- THE TIED CARD OF 'pandectlaw30.ConsolidateOrder'. -/
def consolidateOrderCard : Claim7 := { stood := { row := consolidateOrderRow, standIns := [], harness := (true, "edca3178b285fbfb636567e68b2fd5812dbf102527ae20ec6031b0528a7deabf"), looks := false }, kinds := [], alts := [], laidByText := true, laidKinds := [.data, .data, .widerDeep, .funcs, .pinned], laidTests := true, laidLooks := .later }
def ConsolidateOrderCardSaid : Prop := Claim7.holds Tryz.pinned (.plain (OpenSpec.ofChange consolidateOrderSpec)) consolidateOrderCard

/-- THE TIED CARD OF 'pandectlaw30.ConsolidatePurposes'. -/
def consolidatePurposesCard : Claim7 := { stood := { row := consolidatePurposesRow, standIns := [], harness := (true, "edca3178b285fbfb636567e68b2fd5812dbf102527ae20ec6031b0528a7deabf"), looks := false }, kinds := [], alts := [], laidByText := true, laidKinds := [.data, .data, .widerDeep, .funcs, .pinned], laidTests := true, laidLooks := .later }
def ConsolidatePurposesCardSaid : Prop := Claim7.holds Tryz.pinned (.plain (OpenSpec.ofChange consolidatePurposesSpec)) consolidatePurposesCard

/-- THE TIED CARD OF 'pandectlaw30.ConsolidateSteps'. -/
def consolidateStepsCard : Claim7 := { stood := { row := consolidateStepsRow, standIns := [], harness := (true, "edca3178b285fbfb636567e68b2fd5812dbf102527ae20ec6031b0528a7deabf"), looks := false }, kinds := [], alts := [], laidByText := true, laidKinds := [.data, .data, .widerDeep, .funcs, .pinned], laidTests := true, laidLooks := .later }
def ConsolidateStepsCardSaid : Prop := Claim7.holds Tryz.pinned (.plain (OpenSpec.ofChange consolidateStepsSpec)) consolidateStepsCard

/-- THE SECOND FORM's CARD OF 'pandectlaw30.ConsolidateBooks'. -/
def consolidateBooksUptoCard : Claim7 := { stood := { row := consolidateBooksUptoRow, standIns := [], harness := (true, "edca3178b285fbfb636567e68b2fd5812dbf102527ae20ec6031b0528a7deabf"), looks := false }, kinds := [], alts := [], laidByText := true, laidKinds := [.data, .data, .widerDeep, .funcs, .pinned], laidTests := true, laidLooks := .later }
def ConsolidateBooksUptoCardSaid : Prop := Claim7.holds Tryz.pinned (.plain (OpenSpec.upto consolidateBooksSpec)) consolidateBooksUptoCard

/-- THE SECOND FORM's CARD OF 'pandectlaw30.ConsolidateUniqueness'. -/
def consolidateUniquenessUptoCard : Claim7 := { stood := { row := consolidateUniquenessUptoRow, standIns := [], harness := (true, "edca3178b285fbfb636567e68b2fd5812dbf102527ae20ec6031b0528a7deabf"), looks := false }, kinds := [], alts := [], laidByText := true, laidKinds := [.data, .data, .widerDeep, .funcs, .pinned], laidTests := true, laidLooks := .later }
def ConsolidateUniquenessUptoCardSaid : Prop := Claim7.holds Tryz.pinned (.plain (OpenSpec.upto consolidateUniquenessSpec)) consolidateUniquenessUptoCard

/-- THE SECOND FORM's CARD OF 'pandectlaw30.ConsolidatePrefixes'. -/
def consolidatePrefixesUptoCard : Claim7 := { stood := { row := consolidatePrefixesUptoRow, standIns := [], harness := (true, "edca3178b285fbfb636567e68b2fd5812dbf102527ae20ec6031b0528a7deabf"), looks := false }, kinds := [], alts := [], laidByText := true, laidKinds := [.data, .data, .widerDeep, .funcs, .pinned], laidTests := true, laidLooks := .later }
def ConsolidatePrefixesUptoCardSaid : Prop := Claim7.holds Tryz.pinned (.plain (OpenSpec.upto consolidatePrefixesSpec)) consolidatePrefixesUptoCard

/-- THE SECOND FORM's CARD OF 'pandectlaw30.ConsolidateOrder'. -/
def consolidateOrderUptoCard : Claim7 := { stood := { row := consolidateOrderUptoRow, standIns := [], harness := (true, "edca3178b285fbfb636567e68b2fd5812dbf102527ae20ec6031b0528a7deabf"), looks := false }, kinds := [], alts := [], laidByText := true, laidKinds := [.data, .data, .widerDeep, .funcs, .pinned], laidTests := true, laidLooks := .later }
def ConsolidateOrderUptoCardSaid : Prop := Claim7.holds Tryz.pinned (.plain (OpenSpec.upto consolidateOrderSpec)) consolidateOrderUptoCard

/-- THE SECOND FORM's CARD OF 'pandectlaw30.ConsolidatePurposes'. -/
def consolidatePurposesUptoCard : Claim7 := { stood := { row := consolidatePurposesUptoRow, standIns := [], harness := (true, "edca3178b285fbfb636567e68b2fd5812dbf102527ae20ec6031b0528a7deabf"), looks := false }, kinds := [], alts := [], laidByText := true, laidKinds := [.data, .data, .widerDeep, .funcs, .pinned], laidTests := true, laidLooks := .later }
def ConsolidatePurposesUptoCardSaid : Prop := Claim7.holds Tryz.pinned (.plain (OpenSpec.upto consolidatePurposesSpec)) consolidatePurposesUptoCard

/-- THE SECOND FORM's CARD OF 'pandectlaw30.ConsolidateSteps'. -/
def consolidateStepsUptoCard : Claim7 := { stood := { row := consolidateStepsUptoRow, standIns := [], harness := (true, "edca3178b285fbfb636567e68b2fd5812dbf102527ae20ec6031b0528a7deabf"), looks := false }, kinds := [], alts := [], laidByText := true, laidKinds := [.data, .data, .widerDeep, .funcs, .pinned], laidTests := true, laidLooks := .later }
def ConsolidateStepsUptoCardSaid : Prop := Claim7.holds Tryz.pinned (.plain (OpenSpec.upto consolidateStepsSpec)) consolidateStepsUptoCard
end Rows
end Go.Proofs.YtidehekfpcgelaaGreatDoor
