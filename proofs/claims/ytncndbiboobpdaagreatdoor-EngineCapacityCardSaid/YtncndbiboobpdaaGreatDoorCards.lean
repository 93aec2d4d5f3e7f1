/-
  DERIVED. GIVEN WITH THE SEED: THE CARDS: each row of YtncndbiboobpdaaGreatDoorRows.lean that lists a variable, with what it lists TIED to the program's text (the seventh form; the later family's looks); each row that meets fmt, with fmt's text TOLD by the authors' own Lean function (tested against real Go, not proved from fmt's source: count such statements apart). THE CARD IS WHAT COUNTS. Prove the row's statement (the work); the ties are given (YtncndbiboobpdaaGreatDoorTie.lean); close each card by the builder's one call (the guide's Derived/Test/ToyasCard.lean, 'card_holds'). Laid BY PROGRAM, IN A SANDBOX (cutbox-door.mjs). By AI agents, Wed Nov 11 2026. No macro, syntax, notation, axiom, sorry.
-/
import Derived.Test.YtncndbiboobpdaaGreatDoorRows
import GoSem.ClaimSeven
namespace Go.Proofs.YtncndbiboobpdaaGreatDoor
namespace Rows

/-- THE TIED CARD OF 'pandectlaw32.EngineCapacity'. -/
def engineCapacityCard : Claim7 := { stood := { row := engineCapacityRow, standIns := [], harness := (true, "67cd92be0bee41a9c4718b2c8d78ac0dd0740973caea4a07a5c2c232302a9d5c"), looks := false }, kinds := [], alts := [], laidByText := true, laidKinds := [.data, .data, .widerDeep, .funcs, .pinned], laidTests := true, laidLooks := .later }
def EngineCapacityCardSaid : Prop := Claim7.holds Tryz.pinned (.plain (OpenSpec.ofChange engineCapacitySpec)) engineCapacityCard

/-- THE TIED CARD OF 'pandectlaw30.ConsolidateRange'. -/
def consolidateRangeCard : Claim7 := { stood := { row := consolidateRangeRow, standIns := [], harness := (true, "67cd92be0bee41a9c4718b2c8d78ac0dd0740973caea4a07a5c2c232302a9d5c"), looks := false }, kinds := [], alts := [], laidByText := true, laidKinds := [.data, .data, .widerDeep, .funcs, .pinned], laidTests := true, laidLooks := .later }
def ConsolidateRangeCardSaid : Prop := Claim7.holds Tryz.pinned (.plain (OpenSpec.ofChange consolidateRangeSpec)) consolidateRangeCard

/-- THE SECOND FORM's CARD OF 'pandectlaw32.EngineCapacity'. -/
def engineCapacityUptoCard : Claim7 := { stood := { row := engineCapacityUptoRow, standIns := [], harness := (true, "67cd92be0bee41a9c4718b2c8d78ac0dd0740973caea4a07a5c2c232302a9d5c"), looks := false }, kinds := [], alts := [], laidByText := true, laidKinds := [.data, .data, .widerDeep, .funcs, .pinned], laidTests := true, laidLooks := .later }
def EngineCapacityUptoCardSaid : Prop := Claim7.holds Tryz.pinned (.plain (OpenSpec.upto engineCapacitySpec)) engineCapacityUptoCard

/-- THE SECOND FORM's CARD OF 'pandectlaw30.ConsolidateRange'. -/
def consolidateRangeUptoCard : Claim7 := { stood := { row := consolidateRangeUptoRow, standIns := [], harness := (true, "67cd92be0bee41a9c4718b2c8d78ac0dd0740973caea4a07a5c2c232302a9d5c"), looks := false }, kinds := [], alts := [], laidByText := true, laidKinds := [.data, .data, .widerDeep, .funcs, .pinned], laidTests := true, laidLooks := .later }
def ConsolidateRangeUptoCardSaid : Prop := Claim7.holds Tryz.pinned (.plain (OpenSpec.upto consolidateRangeSpec)) consolidateRangeUptoCard
end Rows
end Go.Proofs.YtncndbiboobpdaaGreatDoor
