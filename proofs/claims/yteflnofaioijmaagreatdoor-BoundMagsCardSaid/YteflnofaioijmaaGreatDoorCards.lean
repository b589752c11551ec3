/-
  DERIVED. GIVEN WITH THE SEED: THE CARDS: each row of YteflnofaioijmaaGreatDoorRows.lean that lists a variable, with what it lists TIED to the program's text (the seventh form; the later family's looks); each row that meets fmt, with fmt's text TOLD by the authors' own Lean function (tested against real Go, not proved from fmt's source: count such statements apart). THE CARD IS WHAT COUNTS. Prove the row's statement (the work); the ties are given (YteflnofaioijmaaGreatDoorTie.lean); close each card by the builder's one call (the guide's Derived/Test/ToyasCard.lean, 'card_holds'). Laid BY PROGRAM, IN A SANDBOX (cutbox-door.mjs). By AI agents, Wed Nov 11 2026. No macro, syntax, notation, axiom, sorry.
-/
import Derived.Test.YteflnofaioijmaaGreatDoorRows
import GoSem.ClaimSeven
namespace Go.Proofs.YteflnofaioijmaaGreatDoor
namespace Rows

/-- THE TIED CARD OF 'octroilaw09.BoundMags'. -/
def boundMagsCard : Claim7 := { stood := { row := boundMagsRow, standIns := [], harness := (true, "6cb5c089692edd1843fd046d0a5868fb8329e2457f50590ccaec9422a5fab869"), looks := false }, kinds := [], alts := [], laidByText := true, laidKinds := [.data], laidTests := true, laidLooks := .later }
def BoundMagsCardSaid : Prop := Claim7.holds Tryz.pinned (.plain (OpenSpec.ofChange boundMagsSpec)) boundMagsCard

/-- THE SECOND FORM's CARD OF 'octroilaw09.BoundMags'. -/
def boundMagsUptoCard : Claim7 := { stood := { row := boundMagsUptoRow, standIns := [], harness := (true, "6cb5c089692edd1843fd046d0a5868fb8329e2457f50590ccaec9422a5fab869"), looks := false }, kinds := [], alts := [], laidByText := true, laidKinds := [.data], laidTests := true, laidLooks := .later }
def BoundMagsUptoCardSaid : Prop := Claim7.holds Tryz.pinned (.plain (OpenSpec.upto boundMagsSpec)) boundMagsUptoCard
end Rows
end Go.Proofs.YteflnofaioijmaaGreatDoor
