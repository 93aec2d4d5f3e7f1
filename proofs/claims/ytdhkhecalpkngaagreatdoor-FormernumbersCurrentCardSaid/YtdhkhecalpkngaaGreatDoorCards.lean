/-
  DERIVED. GIVEN WITH THE SEED: THE CARDS: each row of YtdhkhecalpkngaaGreatDoorRows.lean that lists a variable, with what it lists TIED to the program's text (the seventh form; the later family's looks); each row that meets fmt, with fmt's text TOLD by the authors' own Lean function (tested against real Go, not proved from fmt's source: count such statements apart). THE CARD IS WHAT COUNTS. Prove the row's statement (the work); the ties are given (YtdhkhecalpkngaaGreatDoorTie.lean); close each card by the builder's one call (the guide's Derived/Test/ToyasCard.lean, 'card_holds'). Laid BY PROGRAM, IN A SANDBOX (cutbox-door.mjs). By AI agents, Wed Nov 11 2026. No macro, syntax, notation, axiom, sorry.
-/
import Derived.Test.YtdhkhecalpkngaaGreatDoorRows
import GoSem.ClaimSeven
namespace Go.Proofs.YtdhkhecalpkngaaGreatDoor
namespace Rows

/-- THE TIED CARD OF 'pandectlaw44.FormernumbersCurrent'. -/
def formernumbersCurrentCard : Claim7 := { stood := { row := formernumbersCurrentRow, standIns := [], harness := (true, "d80d7e2d464d1f228a3f8f126a665a4671f58445c966b9dcb104b61a21a87380"), looks := false }, kinds := [], alts := [], laidByText := true, laidKinds := [.data, .data, .widerDeep, .funcs, .pinned], laidTests := true, laidLooks := .later }
def FormernumbersCurrentCardSaid : Prop := Claim7.holds Tryz.pinned (.plain (OpenSpec.ofChange formernumbersCurrentSpec)) formernumbersCurrentCard

/-- THE TIED CARD OF 'pandectlaw44.FormernumbersBefore'. -/
def formernumbersBeforeCard : Claim7 := { stood := { row := formernumbersBeforeRow, standIns := [], harness := (true, "d80d7e2d464d1f228a3f8f126a665a4671f58445c966b9dcb104b61a21a87380"), looks := false }, kinds := [], alts := [], laidByText := true, laidKinds := [.data, .data, .widerDeep, .funcs, .pinned], laidTests := true, laidLooks := .later }
def FormernumbersBeforeCardSaid : Prop := Claim7.holds Tryz.pinned (.plain (OpenSpec.ofChange formernumbersBeforeSpec)) formernumbersBeforeCard

/-- THE TIED CARD OF 'pandectlaw34.BlameUnaffected'. -/
def blameUnaffectedCard : Claim7 := { stood := { row := blameUnaffectedRow, standIns := [], harness := (true, "d80d7e2d464d1f228a3f8f126a665a4671f58445c966b9dcb104b61a21a87380"), looks := false }, kinds := [], alts := [], laidByText := true, laidKinds := [.data, .data, .data, .data, .data, .widerDeep, .funcs, .pinned], laidTests := true, laidLooks := .later }
def BlameUnaffectedCardSaid : Prop := Claim7.holds Tryz.pinned (.plain (OpenSpec.ofChange blameUnaffectedSpec)) blameUnaffectedCard

/-- THE SECOND FORM's CARD OF 'pandectlaw44.FormernumbersCurrent'. -/
def formernumbersCurrentUptoCard : Claim7 := { stood := { row := formernumbersCurrentUptoRow, standIns := [], harness := (true, "d80d7e2d464d1f228a3f8f126a665a4671f58445c966b9dcb104b61a21a87380"), looks := false }, kinds := [], alts := [], laidByText := true, laidKinds := [.data, .data, .widerDeep, .funcs, .pinned], laidTests := true, laidLooks := .later }
def FormernumbersCurrentUptoCardSaid : Prop := Claim7.holds Tryz.pinned (.plain (OpenSpec.upto formernumbersCurrentSpec)) formernumbersCurrentUptoCard

/-- THE SECOND FORM's CARD OF 'pandectlaw44.FormernumbersBefore'. -/
def formernumbersBeforeUptoCard : Claim7 := { stood := { row := formernumbersBeforeUptoRow, standIns := [], harness := (true, "d80d7e2d464d1f228a3f8f126a665a4671f58445c966b9dcb104b61a21a87380"), looks := false }, kinds := [], alts := [], laidByText := true, laidKinds := [.data, .data, .widerDeep, .funcs, .pinned], laidTests := true, laidLooks := .later }
def FormernumbersBeforeUptoCardSaid : Prop := Claim7.holds Tryz.pinned (.plain (OpenSpec.upto formernumbersBeforeSpec)) formernumbersBeforeUptoCard

/-- THE SECOND FORM's CARD OF 'pandectlaw34.BlameUnaffected'. -/
def blameUnaffectedUptoCard : Claim7 := { stood := { row := blameUnaffectedUptoRow, standIns := [], harness := (true, "d80d7e2d464d1f228a3f8f126a665a4671f58445c966b9dcb104b61a21a87380"), looks := false }, kinds := [], alts := [], laidByText := true, laidKinds := [.data, .data, .data, .data, .data, .widerDeep, .funcs, .pinned], laidTests := true, laidLooks := .later }
def BlameUnaffectedUptoCardSaid : Prop := Claim7.holds Tryz.pinned (.plain (OpenSpec.upto blameUnaffectedSpec)) blameUnaffectedUptoCard
end Rows
end Go.Proofs.YtdhkhecalpkngaaGreatDoor
