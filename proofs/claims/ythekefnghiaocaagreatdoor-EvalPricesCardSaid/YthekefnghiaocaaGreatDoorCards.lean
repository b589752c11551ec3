/-
  DERIVED. GIVEN WITH THE SEED: THE CARDS: each row of YthekefnghiaocaaGreatDoorRows.lean that lists a variable, with what it lists TIED to the program's text (the seventh form; the later family's looks); each row that meets fmt, with fmt's text TOLD by the authors' own Lean function (tested against real Go, not proved from fmt's source: count such statements apart). THE CARD IS WHAT COUNTS. Prove the row's statement (the work); the ties are given (YthekefnghiaocaaGreatDoorTie.lean); close each card by the builder's one call (the guide's Derived/Test/ToyasCard.lean, 'card_holds'). Laid BY PROGRAM, IN A SANDBOX (cutbox-door.mjs). By AI agents, Wed Nov 11 2026. No macro, syntax, notation, axiom, sorry.
-/
import Derived.Test.YthekefnghiaocaaGreatDoorRows
import GoSem.ClaimSeven
namespace Go.Proofs.YthekefnghiaocaaGreatDoor
namespace Rows

/-- THE TIED CARD OF 'octroilaw10.EvalValues'. -/
def evalValuesCard : Claim7 := { stood := { row := evalValuesRow, standIns := [], harness := (true, "1b1546c08a885fc64bd4b6843edf7acbc64daa3522775ff78f4ba7f79fa783f5"), looks := false }, kinds := [], alts := [], laidByText := true, laidKinds := [.data], laidTests := true, laidLooks := .later }
def EvalValuesCardSaid : Prop := Claim7.holds Tryz.pinned (.plain (OpenSpec.ofChange evalValuesSpec)) evalValuesCard

/-- THE TIED CARD OF 'octroilaw10.EvalPrices'. -/
def evalPricesCard : Claim7 := { stood := { row := evalPricesRow, standIns := [], harness := (true, "1b1546c08a885fc64bd4b6843edf7acbc64daa3522775ff78f4ba7f79fa783f5"), looks := false }, kinds := [], alts := [], laidByText := true, laidKinds := [.data], laidTests := true, laidLooks := .later }
def EvalPricesCardSaid : Prop := Claim7.holds Tryz.pinned (.plain (OpenSpec.ofChange evalPricesSpec)) evalPricesCard

/-- THE SECOND FORM's CARD OF 'octroilaw10.EvalValues'. -/
def evalValuesUptoCard : Claim7 := { stood := { row := evalValuesUptoRow, standIns := [], harness := (true, "1b1546c08a885fc64bd4b6843edf7acbc64daa3522775ff78f4ba7f79fa783f5"), looks := false }, kinds := [], alts := [], laidByText := true, laidKinds := [.data], laidTests := true, laidLooks := .later }
def EvalValuesUptoCardSaid : Prop := Claim7.holds Tryz.pinned (.plain (OpenSpec.upto evalValuesSpec)) evalValuesUptoCard

/-- THE SECOND FORM's CARD OF 'octroilaw10.EvalPrices'. -/
def evalPricesUptoCard : Claim7 := { stood := { row := evalPricesUptoRow, standIns := [], harness := (true, "1b1546c08a885fc64bd4b6843edf7acbc64daa3522775ff78f4ba7f79fa783f5"), looks := false }, kinds := [], alts := [], laidByText := true, laidKinds := [.data], laidTests := true, laidLooks := .later }
def EvalPricesUptoCardSaid : Prop := Claim7.holds Tryz.pinned (.plain (OpenSpec.upto evalPricesSpec)) evalPricesUptoCard
end Rows
end Go.Proofs.YthekefnghiaocaaGreatDoor
