/-
  DERIVED. GIVEN WITH THE SEED: THE CARDS: each row of YteflnofaioijmaaDoorRows.lean that lists a variable, with what it lists TIED to the program's text (the seventh form; the later family's looks); each row that meets fmt, with fmt's text TOLD by the authors' own Lean function (tested against real Go, not proved from fmt's source: count such statements apart). THE CARD IS WHAT COUNTS. Prove the row's statement (the work); the ties are given (YteflnofaioijmaaDoorTie.lean); close each card by the builder's one call (the guide's Derived/Test/ToyasCard.lean, 'card_holds'). Laid BY PROGRAM, IN A SANDBOX (cutbox-door.mjs). By AI agents, Wed Nov 11 2026. No macro, syntax, notation, axiom, sorry.
-/
import Derived.Test.YteflnofaioijmaaDoorRows
import GoSem.ClaimSeven
namespace Go.Proofs.YteflnofaioijmaaDoor
namespace Rows

/-- THE TIED CARD OF 'octroilaw09.BoundGrows'. -/
def boundGrowsCard : Claim7 := { stood := { row := boundGrowsRow, standIns := [], harness := (true, "f594763e64d5aa79a2f5fb25d7875ecbe5879fa0a46748657940ecf99ef371d7"), looks := false }, kinds := [], alts := [], laidByText := true, laidKinds := [.data], laidTests := true, laidLooks := .later }
def BoundGrowsCardSaid : Prop := Claim7.holds Tryd.pinned (.plain (OpenSpec.ofChange boundGrowsSpec)) boundGrowsCard

/-- THE TIED CARD OF 'octroilaw09.BoundProducts'. -/
def boundProductsCard : Claim7 := { stood := { row := boundProductsRow, standIns := [], harness := (true, "f594763e64d5aa79a2f5fb25d7875ecbe5879fa0a46748657940ecf99ef371d7"), looks := false }, kinds := [], alts := [], laidByText := true, laidKinds := [.data], laidTests := true, laidLooks := .later }
def BoundProductsCardSaid : Prop := Claim7.holds Tryd.pinned (.plain (OpenSpec.ofChange boundProductsSpec)) boundProductsCard

/-- THE TIED CARD OF 'octroilaw09.BoundOffs'. -/
def boundOffsCard : Claim7 := { stood := { row := boundOffsRow, standIns := [], harness := (true, "f594763e64d5aa79a2f5fb25d7875ecbe5879fa0a46748657940ecf99ef371d7"), looks := false }, kinds := [], alts := [], laidByText := true, laidKinds := [.data], laidTests := true, laidLooks := .later }
def BoundOffsCardSaid : Prop := Claim7.holds Tryd.pinned (.plain (OpenSpec.ofChange boundOffsSpec)) boundOffsCard

/-- THE SECOND FORM's CARD OF 'octroilaw09.BoundGrows'. -/
def boundGrowsUptoCard : Claim7 := { stood := { row := boundGrowsUptoRow, standIns := [], harness := (true, "f594763e64d5aa79a2f5fb25d7875ecbe5879fa0a46748657940ecf99ef371d7"), looks := false }, kinds := [], alts := [], laidByText := true, laidKinds := [.data], laidTests := true, laidLooks := .later }
def BoundGrowsUptoCardSaid : Prop := Claim7.holds Tryd.pinned (.plain (OpenSpec.upto boundGrowsSpec)) boundGrowsUptoCard

/-- THE SECOND FORM's CARD OF 'octroilaw09.BoundProducts'. -/
def boundProductsUptoCard : Claim7 := { stood := { row := boundProductsUptoRow, standIns := [], harness := (true, "f594763e64d5aa79a2f5fb25d7875ecbe5879fa0a46748657940ecf99ef371d7"), looks := false }, kinds := [], alts := [], laidByText := true, laidKinds := [.data], laidTests := true, laidLooks := .later }
def BoundProductsUptoCardSaid : Prop := Claim7.holds Tryd.pinned (.plain (OpenSpec.upto boundProductsSpec)) boundProductsUptoCard

/-- THE SECOND FORM's CARD OF 'octroilaw09.BoundOffs'. -/
def boundOffsUptoCard : Claim7 := { stood := { row := boundOffsUptoRow, standIns := [], harness := (true, "f594763e64d5aa79a2f5fb25d7875ecbe5879fa0a46748657940ecf99ef371d7"), looks := false }, kinds := [], alts := [], laidByText := true, laidKinds := [.data], laidTests := true, laidLooks := .later }
def BoundOffsUptoCardSaid : Prop := Claim7.holds Tryd.pinned (.plain (OpenSpec.upto boundOffsSpec)) boundOffsUptoCard
end Rows
end Go.Proofs.YteflnofaioijmaaDoor
