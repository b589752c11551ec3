/-
  DERIVED. GIVEN WITH THE SEED: THE CARDS: each row of YthekefnghiaocaaDoorRows.lean that lists a variable, with what it lists TIED to the program's text (the seventh form; the later family's looks); each row that meets fmt, with fmt's text TOLD by the authors' own Lean function (tested against real Go, not proved from fmt's source: count such statements apart). THE CARD IS WHAT COUNTS. Prove the row's statement (the work); the ties are given (YthekefnghiaocaaDoorTie.lean); close each card by the builder's one call (the guide's Derived/Test/ToyasCard.lean, 'card_holds'). Laid BY PROGRAM, IN A SANDBOX (cutbox-door.mjs). By AI agents, Wed Nov 11 2026. No macro, syntax, notation, axiom, sorry.
-/
import Derived.Test.YthekefnghiaocaaDoorRows
import GoSem.ClaimSeven
namespace Go.Proofs.YthekefnghiaocaaDoor
namespace Rows

/-- THE TIED CARD OF 'octroilaw10.EvalSums'. -/
def evalSumsCard : Claim7 := { stood := { row := evalSumsRow, standIns := [], harness := (true, "aa4471311d2fed121b1ae597aed3467684bfc8a4f6af91aa65096ca517ff9645"), looks := false }, kinds := [], alts := [], laidByText := true, laidKinds := [.data], laidTests := true, laidLooks := .later }
def EvalSumsCardSaid : Prop := Claim7.holds Tryd.pinned (.plain (OpenSpec.ofChange evalSumsSpec)) evalSumsCard

/-- THE TIED CARD OF 'octroilaw10.EvalTiers'. -/
def evalTiersCard : Claim7 := { stood := { row := evalTiersRow, standIns := [], harness := (true, "aa4471311d2fed121b1ae597aed3467684bfc8a4f6af91aa65096ca517ff9645"), looks := false }, kinds := [], alts := [], laidByText := true, laidKinds := [.data], laidTests := true, laidLooks := .later }
def EvalTiersCardSaid : Prop := Claim7.holds Tryd.pinned (.plain (OpenSpec.ofChange evalTiersSpec)) evalTiersCard

/-- THE TIED CARD OF 'octroilaw10.EvalRounds'. -/
def evalRoundsCard : Claim7 := { stood := { row := evalRoundsRow, standIns := [], harness := (true, "aa4471311d2fed121b1ae597aed3467684bfc8a4f6af91aa65096ca517ff9645"), looks := false }, kinds := [], alts := [], laidByText := true, laidKinds := [.data], laidTests := true, laidLooks := .later }
def EvalRoundsCardSaid : Prop := Claim7.holds Tryd.pinned (.plain (OpenSpec.ofChange evalRoundsSpec)) evalRoundsCard

/-- THE TIED CARD OF 'octroilaw10.EvalCuts'. -/
def evalCutsCard : Claim7 := { stood := { row := evalCutsRow, standIns := [], harness := (true, "aa4471311d2fed121b1ae597aed3467684bfc8a4f6af91aa65096ca517ff9645"), looks := false }, kinds := [], alts := [], laidByText := true, laidKinds := [.data], laidTests := true, laidLooks := .later }
def EvalCutsCardSaid : Prop := Claim7.holds Tryd.pinned (.plain (OpenSpec.ofChange evalCutsSpec)) evalCutsCard

/-- THE SECOND FORM's CARD OF 'octroilaw10.EvalSums'. -/
def evalSumsUptoCard : Claim7 := { stood := { row := evalSumsUptoRow, standIns := [], harness := (true, "aa4471311d2fed121b1ae597aed3467684bfc8a4f6af91aa65096ca517ff9645"), looks := false }, kinds := [], alts := [], laidByText := true, laidKinds := [.data], laidTests := true, laidLooks := .later }
def EvalSumsUptoCardSaid : Prop := Claim7.holds Tryd.pinned (.plain (OpenSpec.upto evalSumsSpec)) evalSumsUptoCard

/-- THE SECOND FORM's CARD OF 'octroilaw10.EvalTiers'. -/
def evalTiersUptoCard : Claim7 := { stood := { row := evalTiersUptoRow, standIns := [], harness := (true, "aa4471311d2fed121b1ae597aed3467684bfc8a4f6af91aa65096ca517ff9645"), looks := false }, kinds := [], alts := [], laidByText := true, laidKinds := [.data], laidTests := true, laidLooks := .later }
def EvalTiersUptoCardSaid : Prop := Claim7.holds Tryd.pinned (.plain (OpenSpec.upto evalTiersSpec)) evalTiersUptoCard

/-- THE SECOND FORM's CARD OF 'octroilaw10.EvalRounds'. -/
def evalRoundsUptoCard : Claim7 := { stood := { row := evalRoundsUptoRow, standIns := [], harness := (true, "aa4471311d2fed121b1ae597aed3467684bfc8a4f6af91aa65096ca517ff9645"), looks := false }, kinds := [], alts := [], laidByText := true, laidKinds := [.data], laidTests := true, laidLooks := .later }
def EvalRoundsUptoCardSaid : Prop := Claim7.holds Tryd.pinned (.plain (OpenSpec.upto evalRoundsSpec)) evalRoundsUptoCard

/-- THE SECOND FORM's CARD OF 'octroilaw10.EvalCuts'. -/
def evalCutsUptoCard : Claim7 := { stood := { row := evalCutsUptoRow, standIns := [], harness := (true, "aa4471311d2fed121b1ae597aed3467684bfc8a4f6af91aa65096ca517ff9645"), looks := false }, kinds := [], alts := [], laidByText := true, laidKinds := [.data], laidTests := true, laidLooks := .later }
def EvalCutsUptoCardSaid : Prop := Claim7.holds Tryd.pinned (.plain (OpenSpec.upto evalCutsSpec)) evalCutsUptoCard
end Rows
end Go.Proofs.YthekefnghiaocaaDoor
