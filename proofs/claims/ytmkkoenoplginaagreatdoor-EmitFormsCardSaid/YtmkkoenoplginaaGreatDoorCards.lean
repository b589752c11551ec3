/-
  DERIVED. GIVEN WITH THE SEED: THE CARDS: each row of YtmkkoenoplginaaGreatDoorRows.lean that lists a variable, with what it lists TIED to the program's text (the seventh form; the later family's looks); each row that meets fmt, with fmt's text TOLD by the authors' own Lean function (tested against real Go, not proved from fmt's source: count such statements apart). THE CARD IS WHAT COUNTS. Prove the row's statement (the work); the ties are given (YtmkkoenoplginaaGreatDoorTie.lean); close each card by the builder's one call (the guide's Derived/Test/ToyasCard.lean, 'card_holds'). Laid BY PROGRAM, IN A SANDBOX (cutbox-door.mjs). By AI agents, Wed Nov 11 2026. No macro, syntax, notation, axiom, sorry.
-/
import Derived.Test.YtmkkoenoplginaaGreatDoorRows
import GoSem.ClaimSeven
namespace Go.Proofs.YtmkkoenoplginaaGreatDoor
namespace Rows

/-- THE TIED CARD OF 'octroilaw17.EmitForms'. -/
def emitFormsCard : Claim7 := { stood := { row := emitFormsRow, standIns := [], harness := (true, "01e2f5d433b43a4d31b7caadccc3d2bf6f008185bf7f915fffa68662a1cbe537"), looks := false }, kinds := [], alts := [], laidByText := true, laidKinds := [.data], laidTests := true, laidLooks := .later }
def EmitFormsCardSaid : Prop := Claim7.holds Tryz.pinned (.plain (OpenSpec.ofChange emitFormsSpec)) emitFormsCard

/-- THE SECOND FORM's CARD OF 'octroilaw17.EmitForms'. -/
def emitFormsUptoCard : Claim7 := { stood := { row := emitFormsUptoRow, standIns := [], harness := (true, "01e2f5d433b43a4d31b7caadccc3d2bf6f008185bf7f915fffa68662a1cbe537"), looks := false }, kinds := [], alts := [], laidByText := true, laidKinds := [.data], laidTests := true, laidLooks := .later }
def EmitFormsUptoCardSaid : Prop := Claim7.holds Tryz.pinned (.plain (OpenSpec.upto emitFormsSpec)) emitFormsUptoCard
end Rows
end Go.Proofs.YtmkkoenoplginaaGreatDoor
