/-
  DERIVED. GIVEN WITH THE SEED: THE CARDS: each row of YtiodnhiainjfgaaGreatDoorRows.lean that lists a variable, with what it lists TIED to the program's text (the seventh form; the later family's looks); each row that meets fmt, with fmt's text TOLD by the authors' own Lean function (tested against real Go, not proved from fmt's source: count such statements apart). THE CARD IS WHAT COUNTS. Prove the row's statement (the work); the ties are given (YtiodnhiainjfgaaGreatDoorTie.lean); close each card by the builder's one call (the guide's Derived/Test/ToyasCard.lean, 'card_holds'). Laid BY PROGRAM, IN A SANDBOX (cutbox-door.mjs). By AI agents, Wed Nov 11 2026. No macro, syntax, notation, axiom, sorry.
-/
import Derived.Test.YtiodnhiainjfgaaGreatDoorRows
import GoSem.ClaimSeven
namespace Go.Proofs.YtiodnhiainjfgaaGreatDoor
namespace Rows

/-- THE TIED CARD OF 'pandectlaw44.FormernumbersDistinct'. -/
def formernumbersDistinctCard : Claim7 := { stood := { row := formernumbersDistinctRow, standIns := [], harness := (true, "898c9cc203b9760a89a16c3e6a7d02bbed440c381df45cb6b5015f126002c64d"), looks := false }, kinds := [], alts := [], laidByText := true, laidKinds := [.data, .data, .widerDeep, .funcs, .pinned], laidTests := true, laidLooks := .later }
def FormernumbersDistinctCardSaid : Prop := Claim7.holds Tryz.pinned (.plain (OpenSpec.ofChange formernumbersDistinctSpec)) formernumbersDistinctCard

/-- THE TIED CARD OF 'pandectlaw44.FormernumbersBefore'. -/
def formernumbersBeforeCard : Claim7 := { stood := { row := formernumbersBeforeRow, standIns := [], harness := (true, "898c9cc203b9760a89a16c3e6a7d02bbed440c381df45cb6b5015f126002c64d"), looks := false }, kinds := [], alts := [], laidByText := true, laidKinds := [.data, .data, .widerDeep, .funcs, .pinned], laidTests := true, laidLooks := .later }
def FormernumbersBeforeCardSaid : Prop := Claim7.holds Tryz.pinned (.plain (OpenSpec.ofChange formernumbersBeforeSpec)) formernumbersBeforeCard

/-- THE TIED CARD OF 'pandectlaw35.EffectPartition'. -/
def effectPartitionCard : Claim7 := { stood := { row := effectPartitionRow, standIns := [], harness := (true, "898c9cc203b9760a89a16c3e6a7d02bbed440c381df45cb6b5015f126002c64d"), looks := false }, kinds := [], alts := [], laidByText := true, laidKinds := [.data, .data, .data, .data, .data, .widerDeep, .data, .funcs, .pinned], laidTests := true, laidLooks := .later }
def EffectPartitionCardSaid : Prop := Claim7.holds Tryz.pinned (.plain (OpenSpec.ofChange effectPartitionSpec)) effectPartitionCard

/-- THE SECOND FORM's CARD OF 'pandectlaw44.FormernumbersDistinct'. -/
def formernumbersDistinctUptoCard : Claim7 := { stood := { row := formernumbersDistinctUptoRow, standIns := [], harness := (true, "898c9cc203b9760a89a16c3e6a7d02bbed440c381df45cb6b5015f126002c64d"), looks := false }, kinds := [], alts := [], laidByText := true, laidKinds := [.data, .data, .widerDeep, .funcs, .pinned], laidTests := true, laidLooks := .later }
def FormernumbersDistinctUptoCardSaid : Prop := Claim7.holds Tryz.pinned (.plain (OpenSpec.upto formernumbersDistinctSpec)) formernumbersDistinctUptoCard

/-- THE SECOND FORM's CARD OF 'pandectlaw44.FormernumbersBefore'. -/
def formernumbersBeforeUptoCard : Claim7 := { stood := { row := formernumbersBeforeUptoRow, standIns := [], harness := (true, "898c9cc203b9760a89a16c3e6a7d02bbed440c381df45cb6b5015f126002c64d"), looks := false }, kinds := [], alts := [], laidByText := true, laidKinds := [.data, .data, .widerDeep, .funcs, .pinned], laidTests := true, laidLooks := .later }
def FormernumbersBeforeUptoCardSaid : Prop := Claim7.holds Tryz.pinned (.plain (OpenSpec.upto formernumbersBeforeSpec)) formernumbersBeforeUptoCard

/-- THE SECOND FORM's CARD OF 'pandectlaw35.EffectPartition'. -/
def effectPartitionUptoCard : Claim7 := { stood := { row := effectPartitionUptoRow, standIns := [], harness := (true, "898c9cc203b9760a89a16c3e6a7d02bbed440c381df45cb6b5015f126002c64d"), looks := false }, kinds := [], alts := [], laidByText := true, laidKinds := [.data, .data, .data, .data, .data, .widerDeep, .data, .funcs, .pinned], laidTests := true, laidLooks := .later }
def EffectPartitionUptoCardSaid : Prop := Claim7.holds Tryz.pinned (.plain (OpenSpec.upto effectPartitionSpec)) effectPartitionUptoCard
end Rows
end Go.Proofs.YtiodnhiainjfgaaGreatDoor
