/-
  DERIVED. GIVEN WITH THE SEED: THE CARDS: each row of YtiliboioeieeoaaGreatDoorRows.lean that lists a variable, with what it lists TIED to the program's text (the seventh form; the later family's looks); each row that meets fmt, with fmt's text TOLD by the authors' own Lean function (tested against real Go, not proved from fmt's source: count such statements apart). THE CARD IS WHAT COUNTS. Prove the row's statement (the work); the ties are given (YtiliboioeieeoaaGreatDoorTie.lean); close each card by the builder's one call (the guide's Derived/Test/ToyasCard.lean, 'card_holds'). Laid BY PROGRAM, IN A SANDBOX (cutbox-door.mjs). By AI agents, Wed Nov 11 2026. No macro, syntax, notation, axiom, sorry.
-/
import Derived.Test.YtiliboioeieeoaaGreatDoorRows
import GoSem.ClaimSeven
namespace Go.Proofs.YtiliboioeieeoaaGreatDoor
namespace Rows

/-- THE TIED CARD OF 'octroilaw14.FoldClean'. -/
def foldCleanCard : Claim7 := { stood := { row := foldCleanRow, standIns := [], harness := (true, "24cfc65c9219ab98c5135c64f4151957c941edf0c3f00e40a1ccf109349fb392"), looks := false }, kinds := [], alts := [], laidByText := true, laidKinds := [.data], laidTests := true, laidLooks := .later }
def FoldCleanCardSaid : Prop := Claim7.holds Tryz.pinned (.plain (OpenSpec.ofChange foldCleanSpec)) foldCleanCard

/-- THE TIED CARD OF 'octroilaw14.FoldAgain'. -/
def foldAgainCard : Claim7 := { stood := { row := foldAgainRow, standIns := [], harness := (true, "24cfc65c9219ab98c5135c64f4151957c941edf0c3f00e40a1ccf109349fb392"), looks := false }, kinds := [], alts := [], laidByText := true, laidKinds := [.data], laidTests := true, laidLooks := .later }
def FoldAgainCardSaid : Prop := Claim7.holds Tryz.pinned (.plain (OpenSpec.ofChange foldAgainSpec)) foldAgainCard

/-- THE TIED CARD OF 'octroilaw14.FoldSmaller'. -/
def foldSmallerCard : Claim7 := { stood := { row := foldSmallerRow, standIns := [], harness := (true, "24cfc65c9219ab98c5135c64f4151957c941edf0c3f00e40a1ccf109349fb392"), looks := false }, kinds := [], alts := [], laidByText := true, laidKinds := [.data], laidTests := true, laidLooks := .later }
def FoldSmallerCardSaid : Prop := Claim7.holds Tryz.pinned (.plain (OpenSpec.ofChange foldSmallerSpec)) foldSmallerCard

/-- THE TIED CARD OF 'octroilaw14.FoldMeans'. -/
def foldMeansCard : Claim7 := { stood := { row := foldMeansRow, standIns := [], harness := (true, "24cfc65c9219ab98c5135c64f4151957c941edf0c3f00e40a1ccf109349fb392"), looks := false }, kinds := [], alts := [], laidByText := true, laidKinds := [.data], laidTests := true, laidLooks := .later }
def FoldMeansCardSaid : Prop := Claim7.holds Tryz.pinned (.plain (OpenSpec.ofChange foldMeansSpec)) foldMeansCard

/-- THE SECOND FORM's CARD OF 'octroilaw14.FoldClean'. -/
def foldCleanUptoCard : Claim7 := { stood := { row := foldCleanUptoRow, standIns := [], harness := (true, "24cfc65c9219ab98c5135c64f4151957c941edf0c3f00e40a1ccf109349fb392"), looks := false }, kinds := [], alts := [], laidByText := true, laidKinds := [.data], laidTests := true, laidLooks := .later }
def FoldCleanUptoCardSaid : Prop := Claim7.holds Tryz.pinned (.plain (OpenSpec.upto foldCleanSpec)) foldCleanUptoCard

/-- THE SECOND FORM's CARD OF 'octroilaw14.FoldAgain'. -/
def foldAgainUptoCard : Claim7 := { stood := { row := foldAgainUptoRow, standIns := [], harness := (true, "24cfc65c9219ab98c5135c64f4151957c941edf0c3f00e40a1ccf109349fb392"), looks := false }, kinds := [], alts := [], laidByText := true, laidKinds := [.data], laidTests := true, laidLooks := .later }
def FoldAgainUptoCardSaid : Prop := Claim7.holds Tryz.pinned (.plain (OpenSpec.upto foldAgainSpec)) foldAgainUptoCard

/-- THE SECOND FORM's CARD OF 'octroilaw14.FoldSmaller'. -/
def foldSmallerUptoCard : Claim7 := { stood := { row := foldSmallerUptoRow, standIns := [], harness := (true, "24cfc65c9219ab98c5135c64f4151957c941edf0c3f00e40a1ccf109349fb392"), looks := false }, kinds := [], alts := [], laidByText := true, laidKinds := [.data], laidTests := true, laidLooks := .later }
def FoldSmallerUptoCardSaid : Prop := Claim7.holds Tryz.pinned (.plain (OpenSpec.upto foldSmallerSpec)) foldSmallerUptoCard

/-- THE SECOND FORM's CARD OF 'octroilaw14.FoldMeans'. -/
def foldMeansUptoCard : Claim7 := { stood := { row := foldMeansUptoRow, standIns := [], harness := (true, "24cfc65c9219ab98c5135c64f4151957c941edf0c3f00e40a1ccf109349fb392"), looks := false }, kinds := [], alts := [], laidByText := true, laidKinds := [.data], laidTests := true, laidLooks := .later }
def FoldMeansUptoCardSaid : Prop := Claim7.holds Tryz.pinned (.plain (OpenSpec.upto foldMeansSpec)) foldMeansUptoCard
end Rows
end Go.Proofs.YtiliboioeieeoaaGreatDoor
