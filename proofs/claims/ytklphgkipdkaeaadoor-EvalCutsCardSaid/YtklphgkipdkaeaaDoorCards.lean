/-
  DERIVED. GIVEN WITH THE SEED: THE CARDS: each row of YtklphgkipdkaeaaDoorRows.lean that lists a variable, with what it lists TIED to the program's text (the seventh form; the later family's looks); each row that meets fmt, with fmt's text TOLD by the authors' own Lean function (tested against real Go, not proved from fmt's source: count such statements apart). THE CARD IS WHAT COUNTS. Prove the row's statement (the work); the ties are given (YtklphgkipdkaeaaDoorTie.lean); close each card by the builder's one call (the guide's Derived/Test/ToyasCard.lean, 'card_holds'). Laid BY PROGRAM, IN A SANDBOX (cutbox-door.mjs). By AI agents, Wed Nov 11 2026. No macro, syntax, notation, axiom, sorry.
-/
import Derived.Test.YtklphgkipdkaeaaDoorRows
import GoSem.ClaimSeven
namespace Go.Proofs.YtklphgkipdkaeaaDoor
namespace Rows

/-- THE TIED CARD OF 'octroilaw10.EvalCuts'. -/
def evalCutsCard : Claim7 := { stood := { row := evalCutsRow, standIns := [], harness := (true, "8bfb818868785386472e7504c550b746e149f72d70034d7299900f01856f450e"), looks := false }, kinds := [], alts := [], laidByText := true, laidKinds := [.data], laidTests := true, laidLooks := .later }
def EvalCutsCardSaid : Prop := Claim7.holds Tryd.pinned (.plain (OpenSpec.ofChange evalCutsSpec)) evalCutsCard

/-- THE SECOND FORM's CARD OF 'octroilaw10.EvalCuts'. -/
def evalCutsUptoCard : Claim7 := { stood := { row := evalCutsUptoRow, standIns := [], harness := (true, "8bfb818868785386472e7504c550b746e149f72d70034d7299900f01856f450e"), looks := false }, kinds := [], alts := [], laidByText := true, laidKinds := [.data], laidTests := true, laidLooks := .later }
def EvalCutsUptoCardSaid : Prop := Claim7.holds Tryd.pinned (.plain (OpenSpec.upto evalCutsSpec)) evalCutsUptoCard
end Rows
end Go.Proofs.YtklphgkipdkaeaaDoor
