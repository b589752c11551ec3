/-
  DERIVED. GIVEN WITH THE SEED: THE CARDS: each row of YteppclpeidfhgaaGreatDoorRows.lean that lists a variable, with what it lists TIED to the program's text (the seventh form; the later family's looks); each row that meets fmt, with fmt's text TOLD by the authors' own Lean function (tested against real Go, not proved from fmt's source: count such statements apart). THE CARD IS WHAT COUNTS. Prove the row's statement (the work); the ties are given (YteppclpeidfhgaaGreatDoorTie.lean); close each card by the builder's one call (the guide's Derived/Test/ToyasCard.lean, 'card_holds'). Laid BY PROGRAM, IN A SANDBOX (cutbox-door.mjs). By AI agents, Wed Nov 11 2026. No macro, syntax, notation, axiom, sorry.
-/
import Derived.Test.YteppclpeidfhgaaGreatDoorRows
import GoSem.ClaimSeven
namespace Go.Proofs.YteppclpeidfhgaaGreatDoor
namespace Rows

/-- THE TIED CARD OF 'octroilaw15.AnalyseJudges'. -/
def analyseJudgesCard : Claim7 := { stood := { row := analyseJudgesRow, standIns := [], harness := (true, "6a502b3f758ed8325b4d8c426a0b24779957ababcfbad966d345023cf4bc846d"), looks := false }, kinds := [], alts := [], laidByText := true, laidKinds := [.data], laidTests := true, laidLooks := .later }
def AnalyseJudgesCardSaid : Prop := Claim7.holds Tryz.pinned (.plain (OpenSpec.ofChange analyseJudgesSpec)) analyseJudgesCard

/-- THE SECOND FORM's CARD OF 'octroilaw15.AnalyseJudges'. -/
def analyseJudgesUptoCard : Claim7 := { stood := { row := analyseJudgesUptoRow, standIns := [], harness := (true, "6a502b3f758ed8325b4d8c426a0b24779957ababcfbad966d345023cf4bc846d"), looks := false }, kinds := [], alts := [], laidByText := true, laidKinds := [.data], laidTests := true, laidLooks := .later }
def AnalyseJudgesUptoCardSaid : Prop := Claim7.holds Tryz.pinned (.plain (OpenSpec.upto analyseJudgesSpec)) analyseJudgesUptoCard
end Rows
end Go.Proofs.YteppclpeidfhgaaGreatDoor
